/- Part 7 of the proof: the evaluator, contracts of functions and their plain laws (joined by program). No condition. -/
import Derived.Test.YtdnmhnjblgkjaaaGreatPart6
/- Sums, means, variances of rows of numbers: plain mathematics; what a row of Rats reads as. No program. -/
namespace Go.Proofs.YtdnmhnjblgkjaaaGreat
open Go.Ev
def sumR (l : List Rat) : Rat := l.foldl (fun a b => a + b) 0
def meanR (l : List Rat) : Rat := sumR l / ((l.length : Int) : Rat)
def offR (l : List Rat) : List Rat := l.map fun x => x - meanR l
def sqR (l : List Rat) : Rat := sumR ((offR l).map fun x => x * x)
def varR (l : List Rat) : Rat := sqR l / (((l.length : Int) - 1 : Int) : Rat)
theorem foldl_add (l : List Rat) (a : Rat) : l.foldl (fun a b => a + b) a = a + sumR l := by
  unfold sumR
  induction l generalizing a with
  | nil => simp only [List.foldl_nil]; grind
  | cons x l ih => simp only [List.foldl_cons]; rw [ih (a + x), ih (0 + x)]; grind
theorem sumR_nil : sumR [] = 0 := rfl
theorem sumR_cons (x : Rat) (l : List Rat) : sumR (x :: l) = x + sumR l := by
  show List.foldl _ (0 + x) l = _
  rw [foldl_add]; grind
theorem sumR_append (l m : List Rat) : sumR (l ++ m) = sumR l + sumR m := by
  unfold sumR; rw [List.foldl_append, foldl_add]; rfl
theorem sumR_snoc (l : List Rat) (x : Rat) : sumR (l ++ [x]) = sumR l + x := by
  rw [sumR_append, sumR_cons, sumR_nil]; grind
theorem take_snoc (l : List Rat) {i : Nat} (h : i < l.length) : l.take (i + 1) = l.take i ++ [l.getD i 0] := by
  rw [List.take_add_one, List.getD_eq_getElem?_getD, List.getElem?_eq_getElem h]
  rfl
theorem sumR_take (l : List Rat) {i : Nat} (h : i < l.length) : sumR (l.take (i + 1)) = sumR (l.take i) + l.getD i 0 := by rw [take_snoc l h, sumR_snoc]
theorem map_take_snoc (l : List Rat) (f : Rat → Rat) {i : Nat} (h : i < l.length) : (l.take (i + 1)).map f = (l.take i).map f ++ [f (l.getD i 0)] := by
  rw [take_snoc l h, List.map_append]; rfl
theorem getD_mem {l : List Rat} {i : Nat} (h : i < l.length) : l.getD i 0 ∈ l := by
  rw [List.getD_eq_getElem?_getD, List.getElem?_eq_getElem h]; exact List.getElem_mem h
theorem getD_map (l : List Rat) (f : Rat → Rat) {i : Nat} (h : i < l.length) : (l.map f).getD i 0 = f (l.getD i 0) := by
  rw [List.getD_eq_getElem?_getD, List.getD_eq_getElem?_getD, List.getElem?_map, List.getElem?_eq_getElem h]; rfl
theorem sz_sum {L : Nat} (hL : 1 ≤ L) : ∀ l : List Rat, (∀ x ∈ l, szR x L) → szR (sumR l) ((L + 1) * l.length + 1) := by
  intro l
  induction l with
  | nil => intro _; exact szR_zero (by omega)
  | cons x l ih =>
    intro h
    rw [sumR_cons]
    have h1 := ih fun y hy => h y (List.mem_cons_of_mem _ hy)
    exact szR_mono (szR_add (h x List.mem_cons_self) h1 hL) (by rw [List.length_cons, Nat.mul_succ]; omega)
theorem sz_sum12 {L : Nat} {l : List Rat} (hL : 1 ≤ L) (h : ∀ x ∈ l, szR x L) (hl : l.length ≤ 12) : szR (sumR l) (12 * L + 13) :=
  szR_mono (sz_sum hL l h) (by have := Nat.mul_le_mul_left (L + 1) hl; omega)
theorem sz_take12 {L : Nat} {l : List Rat} (hL : 1 ≤ L) (h : ∀ x ∈ l, szR x L) (hl : l.length ≤ 12) (i : Nat) : szR (sumR (l.take i)) (12 * L + 13) :=
  sz_sum12 hL (fun x hx => h x (List.mem_of_mem_take hx)) (by rw [List.length_take]; omega)
theorem sz_mean {L : Nat} {l : List Rat} (hL : 1 ≤ L) (h : ∀ x ∈ l, szR x L) (hl : l.length ≤ 12) : szR (meanR l) (12 * L + 15) :=
  szR_div (M := 2) (sz_sum12 hL h hl) (int_szR (by omega)) (by omega) (by omega)
theorem sz_off {L : Nat} {l : List Rat} (hL : 1 ≤ L) (h : ∀ x ∈ l, szR x L) (hl : l.length ≤ 12) : ∀ x ∈ offR l, szR x (13 * L + 16) := by
  intro x hx
  obtain ⟨y, hy, rfl⟩ := List.mem_map.1 hx
  exact szR_mono (szR_sub (h y hy) (sz_mean hL h hl) hL) (by omega)
theorem sz_map {L M : Nat} {l : List Rat} {f : Rat → Rat} (h : ∀ x ∈ l, szR x L) (hf : ∀ x, szR x L → szR (f x) M) : ∀ x ∈ l.map f, szR x M := by
  intro x hx
  obtain ⟨y, hy, rfl⟩ := List.mem_map.1 hx
  exact hf y (h y hy)
theorem sz_sq {L : Nat} {l : List Rat} (hL : 1 ≤ L) (h : ∀ x ∈ l, szR x L) (hl : l.length ≤ 12) : szR (sqR l) (312 * L + 397) := by
  have h1 := sz_map (f := fun x => x * x) (sz_off hL h hl) (fun x hx => szR_mul hx hx (by omega))
  exact szR_mono (sz_sum12 (by omega) h1 (by rw [List.length_map]; unfold offR; rw [List.length_map]; exact hl)) (by omega)
theorem sz_var {L : Nat} {l : List Rat} (hL : 1 ≤ L) (h : ∀ x ∈ l, szR x L) (hl : l.length ≤ 12) : szR (varR l) (312 * L + 399) :=
  szR_div (M := 2) (sz_sq hL h hl) (int_szR (by omega)) (by omega) (by omega)
/-- A row of Rats, cell by cell. -/
def RowC : List SV → List Rat → Nat → Prop
  | cs, [], _ => cs = []
  | cs, q :: l, L => ∃ s n d rest, cs = .bool s :: natV n :: natV d :: rest ∧ RatA (ratV s n d) q L ∧ RowC rest l L
theorem row_len {L : Nat} : ∀ {l : List Rat} {cs : List SV}, RowC cs l L → cs.length = l.length * 3
  | [], _, h => by cases h; rfl
  | q :: l, cs, h => by
    obtain ⟨s, n, d, rest, rfl, -, h2⟩ := h
    have := row_len h2
    simp only [List.length_cons]
    omega
theorem row_one {L : Nat} : ∀ {l : List Rat} {cs : List SV}, RowC cs l L → cs.all SV.one = true
  | [], _, h => by cases h; rfl
  | q :: l, cs, h => by
    obtain ⟨s, n, d, rest, rfl, -, h2⟩ := h
    have := row_one h2
    simp only [List.all_cons, this]
    rfl
theorem row_at {L : Nat} : ∀ {l : List Rat} {cs : List SV} {i : Nat}, RowC cs l L → i < l.length → ∃ s n d rest, cs.drop (i * 3) = .bool s :: natV n :: natV d :: rest ∧ RatA (ratV s n d) (l.getD i 0) L
  | [], _, _, _, hi => by simp at hi
  | q :: l, cs, 0, h, _ => by
    obtain ⟨s, n, d, rest, rfl, h1, h2⟩ := h
    exact ⟨s, n, d, rest, rfl, h1⟩
  | q :: l, cs, i + 1, h, hi => by
    obtain ⟨s, n, d, rest, rfl, h1, h2⟩ := h
    obtain ⟨s', n', d', r', h3, h4⟩ := row_at (i := i) h2 (by simpa using hi)
    refine ⟨s', n', d', r', ?_, h4⟩
    have e : ∀ k, (SV.bool s :: natV n :: natV d :: rest).drop (k + 3) = rest.drop k := fun _ => rfl
    rw [show (i + 1) * 3 = i * 3 + 3 by omega, e, h3]
theorem row_append {L : Nat} : ∀ {l : List Rat} {m : List Rat} {cs ds : List SV}, RowC cs l L → RowC ds m L → RowC (cs ++ ds) (l ++ m) L
  | [], _, _, _, h, h2 => by cases h; exact h2
  | q :: l, _, cs, ds, h, h2 => by
    obtain ⟨s, n, d, rest, rfl, h1, h3⟩ := h
    exact ⟨s, n, d, rest ++ ds, rfl, h1, row_append h3 h2⟩
theorem row_snoc {L : Nat} {l : List Rat} {cs : List SV} {s : Bool} {n d : List Nat} {q : Rat} (h : RowC cs l L) (h1 : RatA (ratV s n d) q L) : RowC (cs ++ [.bool s, natV n, natV d]) (l ++ [q]) L :=
  row_append h ⟨s, n, d, [], rfl, h1, rfl⟩
theorem row_mono {L M : Nat} : ∀ {l : List Rat} {cs : List SV}, RowC cs l L → L ≤ M → RowC cs l M
  | [], _, h, _ => h
  | q :: l, cs, h, hL => by
    obtain ⟨s, n, d, rest, rfl, h1, h2⟩ := h
    exact ⟨s, n, d, rest, rfl, RatA_mono h1 hL, row_mono h2 hL⟩
theorem row_sz {L : Nat} (hL : 1 ≤ L) : ∀ {l : List Rat} {cs : List SV}, RowC cs l L → ∀ x ∈ l, szR x L
  | [], _, _, x, hx => by cases hx
  | q :: l, cs, h, x, hx => by
    obtain ⟨s, n, d, rest, rfl, h1, h2⟩ := h
    rcases List.mem_cons.1 hx with rfl | hx
    · exact szR_of h1 hL
    · exact row_sz hL h2 x hx
/-- A normal number's cells. -/
def rvC (q : Rat) : List SV := [.bool (decide (q.num < 0)), natV (lim q.num.natAbs), natV (lim q.den)]
theorem row_rv {L : Nat} {l : List Rat} {cs : List SV} {q : Rat} (h : RowC cs l L) (hq : szR q L) : RowC (cs ++ rvC q) (l ++ [q]) L := row_snoc h (RatA_rv hq)
/-- A row of normal numbers, cell by cell. -/
def rvsC (l : List Rat) : List SV := l.flatMap rvC
theorem rvsC_nil : rvsC [] = [] := rfl
theorem rvsC_snoc (l : List Rat) (q : Rat) : rvsC (l ++ [q]) = rvsC l ++ rvC q := by
  unfold rvsC; rw [List.flatMap_append]; simp
theorem rvsC_len (l : List Rat) : (rvsC l).length = l.length * 3 := by
  induction l with
  | nil => rfl
  | cons x l ih => show (rvC x ++ rvsC l).length = _; rw [List.length_append, ih, List.length_cons]; show 3 + _ = _; omega
theorem rvsC_row {L : Nat} : ∀ l : List Rat, (∀ x ∈ l, szR x L) → RowC (rvsC l) l L
  | [], _ => rfl
  | q :: l, h => ⟨_, _, _, _, rfl, RatA_rv (h q List.mem_cons_self), rvsC_row l fun x hx => h x (List.mem_cons_of_mem _ hx)⟩
theorem rvsC_at {l : List Rat} {i : Nat} (h : i < l.length) : ∃ rest, (rvsC l).drop (i * 3) = .bool (decide ((l.getD i 0).num < 0)) :: natV (lim (l.getD i 0).num.natAbs) :: natV (lim (l.getD i 0).den) :: rest := by
  induction l generalizing i with
  | nil => simp at h
  | cons x l ih =>
    cases i with
    | zero => exact ⟨_, rfl⟩
    | succ i =>
      obtain ⟨r, this⟩ := ih (i := i) (by simpa using h)
      have e : ∀ k, (rvC x ++ rvsC l).drop (k + 3) = (rvsC l).drop k := fun _ => rfl
      refine ⟨r, ?_⟩
      show (rvC x ++ rvsC l).drop _ = _
      rw [show (i + 1) * 3 = i * 3 + 3 by omega, e, this]
      rfl
end Go.Proofs.YtdnmhnjblgkjaaaGreat

/- Rows of Rats, tables and tests as arguments. -/
set_option maxRecDepth 8000
namespace Go.Proofs.YtdnmhnjblgkjaaaGreat
open Go.Ev Go.RowKit Go.WideShapes
theorem u_rats : Tryz.prog.underlying 22 = some (.slice 26) := by kernel_rfl
theorem u_tabs : Tryz.prog.underlying 23 = some (.slice 22) := by kernel_rfl
/-- A Rat as it comes in. -/
abbrev InR := Bool × List Nat × List Nat
def InR.cells (p : InR) : List SV := [.bool p.1, natV p.2.1, natV p.2.2]
def InR.q (p : InR) : Rat := mkRat (sgn p.1 (wth p.2.1)) (wth p.2.2)
def InR.ok (p : InR) : Prop := okL p.2.1 ∧ okL p.2.2
def ratsC (ps : List InR) : List SV := ps.flatMap InR.cells
theorem ratsC_nil : ratsC [] = [] := rfl
theorem ratsC_cons (p : InR) (ps : List InR) : ratsC (p :: ps) = .bool p.1 :: natV p.2.1 :: natV p.2.2 :: ratsC ps := rfl
theorem ratsC_len : ∀ ps : List InR, (ratsC ps).length = ps.length * 3
  | [] => rfl
  | p :: ps => by rw [ratsC_cons]; simp only [List.length_cons, ratsC_len ps]; omega
theorem ratsC_row {L : Nat} : ∀ ps : List InR, (∀ p ∈ ps, p.ok ∧ p.2.1.length ≤ L ∧ p.2.2.length ≤ L) → RowC (ratsC ps) (ps.map InR.q) L
  | [], _ => rfl
  | p :: ps, h => by
    obtain ⟨⟨h1, h2⟩, h3, h4⟩ := h p List.mem_cons_self
    exact ⟨_, _, _, _, rfl, ⟨_, _, _, rfl, h1, h2, h3, h4, rfl⟩, ratsC_row ps fun x hx => h x (List.mem_cons_of_mem _ hx)⟩
theorem shp_rats_all {n : Nat} : ∀ l : List (List SV), (∀ x ∈ l, ShpT Tryz.prog (n + 3) 26 x) → ∃ ps : List InR, l.flatten = ratsC ps ∧ l.length = ps.length ∧ ∀ p ∈ ps, p.ok := by
  intro l
  induction l with
  | nil => intro _; exact ⟨[], rfl, rfl, fun p hp => by cases hp⟩
  | cons x l ih =>
    intro hx
    obtain ⟨ps, h1, h2, h3⟩ := ih fun y hy => hx y (List.mem_cons_of_mem _ hy)
    obtain ⟨s, xs, ys, rfl, h4, h5, -, -⟩ := shp_rat (hx x List.mem_cons_self)
    refine ⟨(s, xs, ys) :: ps, by rw [List.flatten_cons, h1]; rfl, by simp [h2], fun p hp => ?_⟩
    rcases List.mem_cons.1 hp with rfl | hp
    · exact ⟨h4, h5⟩
    · exact h3 p hp
abbrev rowV (ps : List InR) : SV := .sl ps.length (ratsC ps)
theorem shp_rats {n : Nat} {ss : List SV} (h : ShpT Tryz.prog (n + 4) 22 ss) : ∃ ps : List InR, ss = [rowV ps] ∧ ps.length ≤ maxLen ∧ ∀ p ∈ ps, p.ok := by
  unfold ShpT at h
  rw [u_rats] at h
  obtain ⟨elems, rfl, hl, he⟩ := h
  obtain ⟨ps, h1, h2, h3⟩ := shp_rats_all elems he
  exact ⟨ps, by rw [h1, h2], h2 ▸ hl, h3⟩
theorem shp_tabs_all {n : Nat} : ∀ l : List (List SV), (∀ x ∈ l, ShpT Tryz.prog (n + 4) 22 x) → ∃ ts : List (List InR), l.flatten = ts.map rowV ∧ l.length = ts.length ∧ ∀ ps ∈ ts, ps.length ≤ maxLen ∧ ∀ p ∈ ps, p.ok := by
  intro l
  induction l with
  | nil => intro _; exact ⟨[], rfl, rfl, fun p hp => by cases hp⟩
  | cons x l ih =>
    intro hx
    obtain ⟨ts, h1, h2, h3⟩ := ih fun y hy => hx y (List.mem_cons_of_mem _ hy)
    obtain ⟨ps, rfl, h4, h5⟩ := shp_rats (hx x List.mem_cons_self)
    refine ⟨ps :: ts, by rw [List.flatten_cons, h1]; rfl, by simp [h2], fun p hp => ?_⟩
    rcases List.mem_cons.1 hp with rfl | hp
    · exact ⟨h4, h5⟩
    · exact h3 p hp
abbrev tabV (ts : List (List InR)) : SV := .sl ts.length (ts.map rowV)
theorem shp_tabs {n : Nat} {ss : List SV} (h : ShpT Tryz.prog (n + 5) 23 ss) : ∃ ts : List (List InR), ss = [tabV ts] ∧ ts.length ≤ maxLen ∧ ∀ ps ∈ ts, ps.length ≤ maxLen ∧ ∀ p ∈ ps, p.ok := by
  unfold ShpT at h
  rw [u_tabs] at h
  obtain ⟨elems, rfl, hl, he⟩ := h
  obtain ⟨ts, h1, h2, h3⟩ := shp_tabs_all elems he
  exact ⟨ts, by rw [h1, h2], h2 ▸ hl, h3⟩
/-- A slice that is handed in. -/
theorem open_slice {H : Type} {enc : TypeId × Value → H} {P : Program} {w : World} {sp : Nat → Bool} {held : Bool} {r : Reach} {b0 : Nat} {m : Nat} {t e : TypeId} {v : Value} {d : DataW H} {ps : List MemPlace} (hp : plainT P m t = true) (hu : P.underlying t = some (.slice e))
    (hok : Value.okWide P w r b0 t v) (hd : DataW.Trod enc P w 0 sp held t v d ps) : ∃ s, Rep w (fun _ => False) v s ∧ ShpT P m t [s] := by
  obtain ⟨a, len, cap, rfl⟩ := okWide_slice hu hok
  obtain ⟨n, hn⟩ := hd
  obtain ⟨ss, ⟨hl, hr⟩, hs⟩ := trod_reads hp hn
  have hl1 : ss.length = 1 := by rw [hl]; simp [Value.cells]
  match ss, hl1 with
  | [s], _ =>
    refine ⟨s, ?_, hs⟩
    have := hr 0 s rfl
    simpa [Value.cells, Array.getD_eq_getD_getElem?, List.getD_eq_getElem?_getD] using this
/-- A test's reading. -/
abbrev testV (kind : Int) (x y : SV) (t : SV) (sm : Bool) (nm dm : List Nat) (ss : Bool) (ns ds : List Nat) (k n : Int) : SV :=
  .agg [.int .i64 kind, x, y, t, .bool sm, natV nm, natV dm, .bool ss, natV ns, natV ds, .int .i64 k, .int .i64 n]
end Go.Proofs.YtdnmhnjblgkjaaaGreat

/- A statistic's laws: plain mathematics, no program. -/
namespace Go.Proofs.YtdnmhnjblgkjaaaGreat
open Go.Ev
abbrev lenR (l : List Rat) : Rat := ((l.length : Int) : Rat)
theorem lenR_cons (x : Rat) (l : List Rat) : lenR (x :: l) = lenR l + 1 := by
  show (((l.length + 1 : Nat) : Int) : Rat) = _
  rw [Int.natCast_add, Rat.intCast_add]; rfl
theorem lenR_ne {l : List Rat} (h : l ≠ []) : lenR l ≠ 0 := by
  intro h2
  have : (l.length : Int) = 0 := Rat.intCast_inj.1 h2
  exact h (List.length_eq_zero_iff.1 (by omega))
theorem sumR_lin (a b : Rat) (l : List Rat) : sumR (l.map fun x => x * a + b) = sumR l * a + lenR l * b := by
  induction l with
  | nil => rw [List.map_nil, sumR_nil, show lenR [] = 0 from rfl]; grind
  | cons x l ih => rw [List.map_cons, sumR_cons, sumR_cons, lenR_cons, ih]; grind
theorem sumR_scale (c : Rat) (l : List Rat) : sumR (l.map fun x => c * x) = c * sumR l := by
  induction l with
  | nil => rw [List.map_nil, sumR_nil]; grind
  | cons x l ih => rw [List.map_cons, sumR_cons, sumR_cons, ih]; grind
theorem div_cancel' {x n : Rat} (h : n ≠ 0) : x / n * n = x := Rat.div_mul_cancel h
theorem div_uniq {x y n : Rat} (h : n ≠ 0) (e : y * n = x) : x / n = y := by
  rw [← e]; exact Rat.mul_div_cancel h
theorem meanR_lin (a b : Rat) {l : List Rat} (h : l ≠ []) : meanR (l.map fun x => x * a + b) = meanR l * a + b := by
  unfold meanR
  rw [sumR_lin, List.length_map]
  have hn := lenR_ne h
  refine div_uniq hn ?_
  have e := div_cancel' (x := sumR l) hn
  show (sumR l / lenR l * a + b) * lenR l = _
  generalize sumR l / lenR l = m at *
  rw [← e]; grind
theorem offR_lin (a b : Rat) {l : List Rat} (h : l ≠ []) : offR (l.map fun x => x * a + b) = (offR l).map fun x => x * a := by
  unfold offR
  rw [meanR_lin a b h, List.map_map, List.map_map]
  refine List.map_congr_left fun x _ => ?_
  show x * a + b - (meanR l * a + b) = (x - meanR l) * a
  grind
theorem sqR_lin (a b : Rat) {l : List Rat} (h : l ≠ []) : sqR (l.map fun x => x * a + b) = (a * a) * sqR l := by
  unfold sqR
  rw [offR_lin a b h, List.map_map, ← sumR_scale, List.map_map]
  congr 1
  refine List.map_congr_left fun x _ => ?_
  show x * a * (x * a) = a * a * (x * x)
  grind
theorem varR_lin (a b : Rat) {l : List Rat} (h : l ≠ []) : varR (l.map fun x => x * a + b) = (a * a) * varR l := by
  unfold varR
  rw [sqR_lin a b h, List.length_map, Rat.div_def, Rat.div_def, Rat.mul_assoc]
/-- A statistic, its degrees, the error. -/
abbrev Res := Rat × List Int × Int
/-- A row's test. -/
def stuR (l : List Rat) (mu : Rat) : Res :=
  if l.length < 2 then (0, [], 5) else if varR l = 0 then (0, [], 5) else (lenR l * ((meanR l - mu) * (meanR l - mu)) / varR l, [(l.length : Int) - 1], 0)
theorem stuR_moves {a b mu : Rat} {l : List Rat} (ha : a ≠ 0) : stuR (l.map fun x => x * a + b) (mu * a + b) = stuR l mu := by
  unfold stuR lenR
  rw [List.length_map]
  by_cases h : l.length < 2
  · rw [if_pos h, if_pos h]
  · have hl : l ≠ [] := by rintro rfl; simp at h
    rw [if_neg h, if_neg h, varR_lin a b hl, meanR_lin a b hl]
    have haa : a * a ≠ 0 := fun e => by rcases Rat.mul_eq_zero.1 e with h | h <;> exact ha h
    by_cases hv : varR l = 0
    · rw [if_pos hv, if_pos (by rw [hv]; grind)]
    · have hv2 : a * a * varR l ≠ 0 := fun e => (Rat.mul_eq_zero.1 e).elim haa hv
      rw [if_neg hv, if_neg hv2]
      refine Prod.ext ?_ rfl
      refine div_uniq hv2 ?_
      show lenR l * ((meanR l - mu) * (meanR l - mu)) / varR l * (a * a * varR l) = _
      have e := div_cancel' (x := lenR l * ((meanR l - mu) * (meanR l - mu))) hv
      show _ = lenR l * _
      generalize lenR l * ((meanR l - mu) * (meanR l - mu)) / varR l = q at *
      grind
/-- Two rows pooled. -/
def poolR (a b : List Rat) : Res :=
  if a.length = 0 ∨ b.length = 0 ∨ a.length + b.length < 3 then (0, [], 5) else
  if (sqR a + sqR b) / (((a.length : Int) + (b.length : Int) - 2 : Int) : Rat) = 0 then (0, [], 5) else
  ((meanR a - meanR b) * (meanR a - meanR b) / ((sqR a + sqR b) / (((a.length : Int) + (b.length : Int) - 2 : Int) : Rat) * ((((a.length : Int) + (b.length : Int) : Int) : Rat) / (((a.length : Int) * (b.length : Int) : Int) : Rat))), [(a.length : Int) + (b.length : Int) - 2], 0)
theorem poolR_turn (a b : List Rat) : poolR a b = poolR b a := by
  unfold poolR
  rw [show (a.length : Int) + (b.length : Int) = (b.length : Int) + (a.length : Int) by omega, show (a.length : Int) * (b.length : Int) = (b.length : Int) * (a.length : Int) from Int.mul_comm _ _,
    show sqR a + sqR b = sqR b + sqR a by grind, show (meanR a - meanR b) * (meanR a - meanR b) = (meanR b - meanR a) * (meanR b - meanR a) by grind]
  by_cases h : a.length = 0 ∨ b.length = 0 ∨ a.length + b.length < 3
  · rw [if_pos h, if_pos (by omega)]
  · rw [if_neg h, if_neg (show ¬ (b.length = 0 ∨ a.length = 0 ∨ b.length + a.length < 3) by omega)]
/-- Two variances. -/
def fisR (a b : List Rat) : Res :=
  if a.length < 2 ∨ b.length < 2 then (0, [], 5) else if varR a = 0 ∨ varR b = 0 then (0, [], 5) else (varR a / varR b, [(a.length : Int) - 1, (b.length : Int) - 1], 0)
theorem fisR_turn (a b : List Rat) : ((fisR a b).2.2 = 5 ∧ (fisR b a).2.2 = 5) ∨ ((fisR a b).2 = ([(a.length : Int) - 1, (b.length : Int) - 1], 0) ∧ (fisR b a).2 = ([(b.length : Int) - 1, (a.length : Int) - 1], 0) ∧ (fisR a b).1 * (fisR b a).1 = 1) := by
  unfold fisR
  by_cases h : a.length < 2 ∨ b.length < 2
  · rw [if_pos h, if_pos (show b.length < 2 ∨ a.length < 2 by omega)]; exact .inl ⟨rfl, rfl⟩
  · rw [if_neg h, if_neg (show ¬ (b.length < 2 ∨ a.length < 2) by omega)]
    by_cases hv : varR a = 0 ∨ varR b = 0
    · rw [if_pos hv, if_pos (Or.symm hv)]; exact .inl ⟨rfl, rfl⟩
    · rw [if_neg hv, if_neg (fun h => hv (Or.symm h))]
      refine .inr ⟨rfl, rfl, ?_⟩
      show varR a / varR b * (varR b / varR a) = 1
      have ha : varR a ≠ 0 := fun h => hv (.inl h)
      have hb : varR b ≠ 0 := fun h => hv (.inr h)
      have e1 := div_cancel' (x := varR a) hb
      have e2 := div_cancel' (x := varR b) ha
      generalize varR a / varR b = p at *
      generalize varR b / varR a = q at *
      generalize varR a = x at *
      generalize varR b = y at *
      have : (p * q - 1) * x = 0 := by grind
      rcases Rat.mul_eq_zero.1 this with h | h
      · grind
      · exact absurd h ha
end Go.Proofs.YtdnmhnjblgkjaaaGreat

/- Tables: sums of rows and columns, what would be in a table: plain mathematics; what a table reads as. No program. -/
namespace Go.Proofs.YtdnmhnjblgkjaaaGreat
open Go.Ev
/-- A table, row by row. -/
def TabC : List SV → List (List Rat) → Nat → Prop
  | cs, [], _ => cs = []
  | cs, r :: t, L => ∃ rc rest, cs = .sl r.length rc :: rest ∧ RowC rc r L ∧ TabC rest t L
theorem tab_len {L : Nat} : ∀ {t : List (List Rat)} {cs : List SV}, TabC cs t L → cs.length = t.length
  | [], _, h => by cases h; rfl
  | r :: t, cs, h => by
    obtain ⟨rc, rest, rfl, -, h2⟩ := h
    rw [List.length_cons, tab_len h2, List.length_cons]
theorem tabC_at {L : Nat} : ∀ {t : List (List Rat)} {cs : List SV} {i : Nat}, TabC cs t L → i < t.length → ∃ rc, (cs.drop i).head? = some (.sl (t.getD i []).length rc) ∧ RowC rc (t.getD i []) L
  | [], _, _, _, hi => by simp at hi
  | r :: t, cs, 0, h, _ => by
    obtain ⟨rc, rest, rfl, h1, h2⟩ := h
    exact ⟨rc, rfl, h1⟩
  | r :: t, cs, i + 1, h, hi => by
    obtain ⟨rc, rest, rfl, h1, h2⟩ := h
    exact tabC_at (i := i) h2 (by simpa using hi)
/-- A table of normal numbers, cell by cell. -/
def tabsC (t : List (List Rat)) : List SV := t.map fun r => SV.sl r.length (rvsC r)
theorem tabsC_len (t : List (List Rat)) : (tabsC t).length = t.length := List.length_map _
theorem tabsC_snoc (t : List (List Rat)) (r : List Rat) : tabsC (t ++ [r]) = tabsC t ++ [.sl r.length (rvsC r)] := by
  unfold tabsC; rw [List.map_append]; rfl
theorem tabsC_tab {L : Nat} : ∀ t : List (List Rat), (∀ r ∈ t, ∀ x ∈ r, szR x L) → TabC (tabsC t) t L
  | [], _ => rfl
  | r :: t, h => ⟨_, _, rfl, rvsC_row r (h r List.mem_cons_self), tabsC_tab t fun x hx => h x (List.mem_cons_of_mem _ hx)⟩
/-- A number is laid into a row. -/
theorem row_set' {L : Nat} : ∀ {l : List Rat} {cs : List SV} {k : Nat} {s : Bool} {n d : List Nat} {q : Rat}, RowC cs l L → RatA (ratV s n d) q L → k < l.length → RowC (splice cs (k * 3) [.bool s, natV n, natV d]) (l.set k q) L
  | [], _, _, _, _, _, _, _, _, hk => by simp at hk
  | p :: l, cs, 0, s, n, d, q, h, h1, _ => by
    obtain ⟨s', n', d', rest, rfl, h2, h3⟩ := h
    exact ⟨s, n, d, rest, rfl, h1, h3⟩
  | p :: l, cs, k + 1, s, n, d, q, h, h1, hk => by
    obtain ⟨s', n', d', rest, rfl, h2, h3⟩ := h
    refine ⟨s', n', d', splice rest (k * 3) [.bool s, natV n, natV d], ?_, h2, row_set' h3 h1 (by simpa using hk)⟩
    unfold splice
    rw [show (k + 1) * 3 = k * 3 + 3 by omega]
    show _ ++ _ ++ List.drop (k * 3 + 3 + 3) _ = _
    rfl
theorem row_zero {L : Nat} (hL : 1 ≤ L) : ∀ n, RowC ((List.replicate n [SV.bool false, .sl 0 [], .sl 0 []]).flatten) (List.replicate n 0) L
  | 0 => rfl
  | n + 1 => ⟨false, [], [], _, rfl, ⟨false, [], [], rfl, okL_nil, okL_nil, by simp, by simp, rfl⟩, row_zero hL n⟩
/-- A column's sum, so far. -/
def colS (t : List (List Rat)) (i k : Nat) : Rat := sumR ((t.take i).map fun r => r.getD k 0)
theorem colS_zero (t : List (List Rat)) (k : Nat) : colS t 0 k = 0 := rfl
theorem colS_step (t : List (List Rat)) {i : Nat} (k : Nat) (h : i < t.length) : colS t (i + 1) k = colS t i k + (t.getD i []).getD k 0 := by
  unfold colS
  have e : t.take (i + 1) = t.take i ++ [t.getD i []] := by
    rw [List.take_add_one, List.getD_eq_getElem?_getD, List.getElem?_eq_getElem h]
    rfl
  rw [e, List.map_append]
  exact sumR_snoc _ _
/-- The sums of columns so far: the first k of them have row i, too. -/
def colsR (t : List (List Rat)) (w i k : Nat) : List Rat := (List.range w).map fun j => colS t (if j < k then i + 1 else i) j
/-- The sums of the first i rows, and nothing. -/
def rowsS (t : List (List Rat)) (i : Nat) : List Rat := (List.range t.length).map fun j => if j < i then sumR (t.getD j []) else 0
theorem colsR_len (t : List (List Rat)) (w i k : Nat) : (colsR t w i k).length = w := by simp [colsR]
theorem rowsS_len (t : List (List Rat)) (i : Nat) : (rowsS t i).length = t.length := by simp [rowsS]
theorem range_set {α : Type} (f g : Nat → α) (n k : Nat) (v : α) (h : ∀ j, j < n → g j = if j = k then v else f j) : ((List.range n).map f).set k v = (List.range n).map g := by
  refine List.ext_getElem (by simp) fun j h1 h2 => ?_
  have hj : j < n := by simpa using h2
  rw [List.getElem_set, List.getElem_map, List.getElem_map, List.getElem_range, h j hj]
  by_cases e : k = j
  · rw [if_pos e, if_pos e.symm]
  · rw [if_neg e, if_neg (fun x => e x.symm)]
theorem colsR_set (t : List (List Rat)) (w i k : Nat) (h : k < w) : (colsR t w i k).set k (colS t (i + 1) k) = colsR t w i (k + 1) := by
  refine range_set _ _ _ _ _ fun j hj => ?_
  by_cases e : j = k
  · subst e; rw [if_pos (by omega), if_pos rfl]
  · rw [if_neg e]
    by_cases h2 : j < k
    · rw [if_pos h2, if_pos (by omega)]
    · rw [if_neg h2, if_neg (by omega)]
theorem rowsS_set (t : List (List Rat)) (i : Nat) : (rowsS t i).set i (sumR (t.getD i [])) = rowsS t (i + 1) := by
  refine range_set _ _ _ _ _ fun j hj => ?_
  by_cases e : j = i
  · subst e; rw [if_pos (by omega), if_pos rfl]
  · rw [if_neg e]
    by_cases h2 : j < i
    · rw [if_pos h2, if_pos (by omega)]
    · rw [if_neg h2, if_neg (by omega)]
theorem colsR_next (t : List (List Rat)) (w i : Nat) : colsR t w i w = colsR t w (i + 1) 0 := by
  refine List.map_congr_left fun j hj => ?_
  rw [if_pos (List.mem_range.1 hj), if_neg (by omega)]
theorem colsR_zero (t : List (List Rat)) (w : Nat) : colsR t w 0 0 = List.replicate w 0 := by
  unfold colsR
  refine List.ext_getElem (by simp) fun j h1 h2 => ?_
  rw [List.getElem_map, List.getElem_replicate, if_neg (by omega)]
  rfl
theorem rowsS_zero (t : List (List Rat)) : rowsS t 0 = List.replicate t.length 0 := by
  unfold rowsS
  refine List.ext_getElem (by simp) fun j h1 h2 => ?_
  rw [List.getElem_map, List.getElem_replicate, if_neg (by omega)]
theorem colsR_at (t : List (List Rat)) {w i k : Nat} (h : k < w) : (colsR t w i k).getD k 0 = colS t i k := by
  unfold colsR
  rw [List.getD_eq_getElem?_getD, List.getElem?_map, List.getElem?_range h]
  show colS t (if k < k then i + 1 else i) k = _
  rw [if_neg (by omega)]
/-- A table's rows' sums; its columns'. -/
def rowR (t : List (List Rat)) : List Rat := t.map sumR
def colR (t : List (List Rat)) : List Rat := (List.range (t.getD 0 []).length).map fun k => colS t t.length k
theorem rowsS_all (t : List (List Rat)) : rowsS t t.length = rowR t := by
  unfold rowsS rowR
  refine List.ext_getElem (by simp) fun j h1 h2 => ?_
  have hj : j < t.length := by simpa using h2
  rw [List.getElem_map, List.getElem_map, List.getElem_range, if_pos hj, List.getD_eq_getElem?_getD, List.getElem?_eq_getElem hj]
  rfl
theorem colsR_all (t : List (List Rat)) {w : Nat} (hw : w = (t.getD 0 []).length) : colsR t w t.length 0 = colR t := by
  subst hw
  refine List.map_congr_left fun j _ => ?_
  rw [if_neg (by omega)]
/-- May a table be? The error. -/
def tabE (t : List (List Rat)) : Int :=
  if t.length < 2 ∨ (t.getD 0 []).length < 2 then 1 else
  if t.any (fun r => decide (r.length ≠ (t.getD 0 []).length)) = true then 1 else
  if t.any (fun r => r.any fun x => decide (x < 0)) = true then 4 else 0
/-- What would be in a table; the error. -/
def expR (t : List (List Rat)) : List (List Rat) × Int :=
  if tabE t ≠ 0 then ([], tabE t) else
  if (rowR t ++ colR t).any (fun x => decide (x = 0)) = true then ([], 5) else
  ((rowR t).map fun x => (colR t).map fun y => x * y / sumR (rowR t), 0)
end Go.Proofs.YtdnmhnjblgkjaaaGreat

/- stat: by, Sum, Mean, off, products, Variance, Central of 2, in the evaluator. -/
namespace Go.Proofs.YtdnmhnjblgkjaaaGreat
set_option linter.unusedSimpArgs false
set_option linter.unusedVariables false
set_option maxRecDepth 8000
open Go.Ev
theorem stat_by {v : SV} {q : Rat} {n : Int} {L : Nat} (hv : RatA v q L) (hL : 1 ≤ L) (hL2 : L ≤ 10000000) (hn : -9223372036854775808 ≤ n ∧ n < 9223372036854775808) :
    Go.Ev.Fn CX 99 [v, .int .i64 n] (rv (q / (n : Rat))) := by
  have r := rat_Int n hn
  have d := rat_Div hv (RatA_rv (int_szR (n := n) (by omega))) hL (by omega) (by omega)
  generalize decide ((n : Rat) ≠ 0) = b at *
  obtain ⟨s, y, d', rfl, -⟩ := hv
  refine Go.Ev.Fn.intro (fn := Tryz.f99) (body := (Tryz.f99).body.get!) (by kernel_rfl) (by kernel_rfl) (by kernel_rfl) (fun _ => rfl) (Nat.le_of_ble_eq_true (by kernel_rfl)) ?_; unfold Tryz.f99; simp only [Option.get!_some]
  repeat (first | (simp only [go_sem, Nat.reduceEqDiff, Nat.reduceAdd, Nat.reduceSub, Nat.reduceMul, Nat.reduceLeDiff, Nat.reduceLT, reduceIte, reduceCtorEq, Nat.succ_ne_zero, elemsC, Int.reduceToNat, Nat.reducePow]) | (simp (disch := (first | omega | (simp only [AL, List.length_map]; omega))) only [AR, AL, ifT, ifF, take_all, List.length_cons, List.length_nil, Int.reduceToNat, Int.reducePow, Nat.reducePow]) | (refine wk_intro (by kernel_rfl) ?_) | (refine vp_draw (id := 1) (l := []) (by kernel_rfl) ?_) | (refine vf_of (by first | exact r | exact d) ?_))
theorem stat_Sum {cs : List SV} {l : List Rat} {L : Nat} (h : RowC cs l L) (hL : 1 ≤ L) (hL2 : L ≤ 100000) (hl : l.length ≤ 12) :
    Go.Ev.Fn CX 26 [.sl l.length cs] (rv (sumR l)) := by
  have r0 := rat_Int 0 (by omega)
  have hlen := row_len h
  have hz := row_sz hL h
  refine Go.Ev.Fn.intro (fn := Tryz.f26) (body := (Tryz.f26).body.get!) (by kernel_rfl) (by kernel_rfl) (by kernel_rfl) (fun _ => rfl) (Nat.le_of_ble_eq_true (by kernel_rfl)) ?_; unfold Tryz.f26; simp only [Option.get!_some]
  repeat (first | (simp only [go_sem, Nat.reduceEqDiff, Nat.reduceAdd, Nat.reduceSub, Nat.reduceMul, Nat.reduceLeDiff, Nat.reduceLT, reduceIte, reduceCtorEq, Nat.succ_ne_zero, elemsC, Int.reduceToNat, Nat.reducePow]) | (simp (disch := (first | omega | (simp only [AL, List.length_map]; omega))) only [AR, AL, ifT, ifF, take_all, List.length_cons, List.length_nil, Int.reduceToNat, Int.reducePow, Nat.reducePow]) | (refine wk_intro (by kernel_rfl) ?_) | (refine vf_of (by first | exact r0) ?_))
  refine vp_loop_inv (fun s => s.tmp 7 = .sv (.sl l.length cs) ∧ s.tmp 8 = .sv (.int .i64 (l.length : Int)) ∧ s.tmp 2 = .ptr 2 0 0 ∧ s.obj 2 0 = some [.bool false, .sl 0 [], .sl 0 []] ∧ s.tmp 3 = .ptr 3 0 0 ∧
      ∃ i : Nat, s.tmp 9 = .sv (.int .i64 (i : Int)) ∧ i ≤ l.length ∧ s.obj 3 0 = some (rvC (sumR (l.take i))))
    (fun s => match s.tmp 9 with | .sv (.int _ i) => l.length - i.toNat | _ => 0) ⟨rfl, rfl, rfl, rfl, rfl, 0, rfl, by omega, rfl⟩ ?_
  rintro s2 ⟨i7, i8, i2, iO, i3, i, i9, hi, iP⟩
  by_cases hend : i = l.length
  · subst hend
    rw [List.take_length] at iP
    repeat (first | (simp only [go_sem, Nat.reduceEqDiff, Nat.reduceAdd, Nat.reduceSub, Nat.reduceMul, Nat.reduceLeDiff, Nat.reduceLT, reduceIte, reduceCtorEq, Nat.succ_ne_zero, elemsC, Int.reduceToNat, Nat.reducePow, i7, i8, i2, iO, i3, i9, iP, rvC]) | (simp (disch := (first | omega | (simp only [AL, List.length_map]; omega))) only [AR, AL, ifT, ifF, take_all, List.length_cons, List.length_nil, Int.reduceToNat, Int.reducePow, Nat.reducePow, i7, i8, i2, iO, i3, i9, iP, rvC]) | (refine wk_intro (by kernel_rfl) ?_))
  · obtain ⟨s, n, d, rest, hat, hA⟩ := row_at (i := i) h (by omega)
    have hS := sumR_take l (i := i) (by omega)
    have z := sz_take12 hL hz hl i
    have a := rat_Add (RatA_rv z) hA (by omega) hL (by omega)
    rw [← hS] at a
    clear hz z h hS hA
    repeat (first | (simp only [go_sem, Nat.reduceEqDiff, Nat.reduceAdd, Nat.reduceSub, Nat.reduceMul, Nat.reduceLeDiff, Nat.reduceLT, reduceIte, reduceCtorEq, Nat.succ_ne_zero, elemsC, Int.reduceToNat, Nat.reducePow, i7, i8, i2, iO, i3, i9, iP, rvC, hat, hlen]) | (simp (disch := (first | omega | (simp only [AL, List.length_map]; omega))) only [AR, AL, ifT, ifF, take_all, List.length_cons, List.length_nil, Int.reduceToNat, Int.reducePow, Nat.reducePow, i7, i8, i2, iO, i3, i9, iP, rvC, hat, hlen]) | (refine wk_intro (by kernel_rfl) ?_) | (refine vf_of (by first | exact a) ?_))
    exact ⟨⟨i + 1, rfl, by omega, rfl⟩, by omega⟩
/-- A number and an error. -/
abbrev numE (q : Rat) (e : Int) : SV := .tup [rv q, .int .i64 e]
theorem stat_Mean {cs : List SV} {l : List Rat} {L : Nat} (h : RowC cs l L) (hL : 1 ≤ L) (hL2 : L ≤ 100000) (hl : l.length ≤ 12) :
    Go.Ev.Fn CX 75 [.sl l.length cs] (if l.length = 0 then numE 0 5 else numE (meanR l) 0) := by
  have r0 := rat_Int 0 (by omega)
  by_cases h0 : l.length = 0
  · rw [if_pos h0]
    refine Go.Ev.Fn.intro (fn := Tryz.f75) (body := (Tryz.f75).body.get!) (by kernel_rfl) (by kernel_rfl) (by kernel_rfl) (fun _ => rfl) (Nat.le_of_ble_eq_true (by kernel_rfl)) ?_; unfold Tryz.f75; simp only [Option.get!_some]
    repeat (first | (simp only [go_sem, Nat.reduceEqDiff, Nat.reduceAdd, Nat.reduceSub, Nat.reduceMul, Nat.reduceLeDiff, Nat.reduceLT, reduceIte, reduceCtorEq, Nat.succ_ne_zero, elemsC, Int.reduceToNat, Nat.reducePow]) | (simp (disch := (first | omega | (simp only [AL, List.length_map]; omega))) only [AR, AL, ifT, ifF, take_all, List.length_cons, List.length_nil, Int.reduceToNat, Int.reducePow, Nat.reducePow]) | (refine wk_intro (by kernel_rfl) ?_) | (refine vf_of (by first | exact r0) ?_))
    rfl
  · rw [if_neg h0]
    have s1 := stat_Sum h hL hL2 hl
    have b1 := stat_by (n := (l.length : Int)) (RatA_rv (sz_sum12 hL (row_sz hL h) hl)) (by omega) (by omega) (by omega)
    rw [show sumR l / ((l.length : Int) : Rat) = meanR l from rfl] at b1
    clear h
    refine Go.Ev.Fn.intro (fn := Tryz.f75) (body := (Tryz.f75).body.get!) (by kernel_rfl) (by kernel_rfl) (by kernel_rfl) (fun _ => rfl) (Nat.le_of_ble_eq_true (by kernel_rfl)) ?_; unfold Tryz.f75; simp only [Option.get!_some]
    repeat (first | (simp only [go_sem, Nat.reduceEqDiff, Nat.reduceAdd, Nat.reduceSub, Nat.reduceMul, Nat.reduceLeDiff, Nat.reduceLT, reduceIte, reduceCtorEq, Nat.succ_ne_zero, elemsC, Int.reduceToNat, Nat.reducePow]) | (simp (disch := (first | omega | (simp only [AL, List.length_map]; omega))) only [AR, AL, ifT, ifF, take_all, List.length_cons, List.length_nil, Int.reduceToNat, Int.reducePow, Nat.reducePow]) | (refine wk_intro (by kernel_rfl) ?_) | (refine vf_of (by first | exact s1 | exact b1) ?_))
theorem rvs_snoc {l : List Rat} {i : Nat} (h : i < l.length) : rvsC (l.take i) ++ rvC (l.getD i 0) = rvsC (l.take (i + 1)) := by rw [take_snoc l h, rvsC_snoc]
theorem stat_off {cs : List SV} {l : List Rat} {L : Nat} (h : RowC cs l L) (hL : 1 ≤ L) (hL2 : L ≤ 100000) (hl : l.length ≤ 12) (h0 : 1 ≤ l.length) :
    Go.Ev.Fn CX 115 [.sl l.length cs] (.sl l.length (rvsC (offR l))) := by
  have m1 := stat_Mean h hL hL2 hl
  rw [if_neg (by omega)] at m1
  have hz := row_sz hL h
  have zm := sz_mean hL hz hl
  have hlen := row_len h
  have hol : (offR l).length = l.length := by unfold offR; rw [List.length_map]
  refine Go.Ev.Fn.intro (fn := Tryz.f115) (body := (Tryz.f115).body.get!) (by kernel_rfl) (by kernel_rfl) (by kernel_rfl) (fun _ => rfl) (Nat.le_of_ble_eq_true (by kernel_rfl)) ?_; unfold Tryz.f115; simp only [Option.get!_some]
  repeat (first | (simp only [go_sem, Nat.reduceEqDiff, Nat.reduceAdd, Nat.reduceSub, Nat.reduceMul, Nat.reduceLeDiff, Nat.reduceLT, reduceIte, reduceCtorEq, Nat.succ_ne_zero, elemsC, Int.reduceToNat, Nat.reducePow]) | (simp (disch := (first | omega | (simp only [AL, List.length_map]; omega))) only [AR, AL, ifT, ifF, take_all, List.length_cons, List.length_nil, Int.reduceToNat, Int.reducePow, Nat.reducePow]) | (refine wk_intro (by kernel_rfl) ?_) | (refine vf_of (by first | exact m1) ?_))
  refine vp_loop_inv (fun s => s.tmp 13 = .sv (.sl l.length cs) ∧ s.tmp 14 = .sv (.int .i64 (l.length : Int)) ∧ s.tmp 3 = .ptr 3 0 0 ∧ s.obj 3 0 = some (rvC (meanR l)) ∧
      ∃ i : Nat, s.tmp 15 = .sv (.int .i64 (i : Int)) ∧ i ≤ l.length ∧ ((i = 0 ∧ s.tmp 5 = .nil ∧ s.gen 24 = 0) ∨ (0 < i ∧ s.tmp 5 = .ref 24 0 3 0 i ∧ s.obj 24 0 = some (rvsC ((offR l).take i)))))
    (fun s => match s.tmp 15 with | .sv (.int _ i) => l.length - i.toNat | _ => 0) ⟨rfl, rfl, rfl, rfl, 0, rfl, by omega, .inl ⟨rfl, rfl, rfl⟩⟩ ?_
  rintro s2 ⟨i13, i14, i3, iO, i, i15, hi, hc⟩
  by_cases hend : i = l.length
  · subst hend
    rcases hc with ⟨h00, _⟩ | ⟨_, i5, iP⟩
    · omega
    · rw [List.take_of_length_le (by omega)] at iP
      have hrl := rvsC_len (offR l)
      repeat (first | (simp only [go_sem, Nat.reduceEqDiff, Nat.reduceAdd, Nat.reduceSub, Nat.reduceMul, Nat.reduceLeDiff, Nat.reduceLT, reduceIte, reduceCtorEq, Nat.succ_ne_zero, elemsC, Int.reduceToNat, Nat.reducePow, i13, i14, i3, iO, i15, i5, iP, rvC]) | (simp (disch := (first | omega | (simp only [AL, List.length_map]; omega))) only [AR, AL, ifT, ifF, take_all, List.length_cons, List.length_nil, Int.reduceToNat, Int.reducePow, Nat.reducePow, i13, i14, i3, iO, i15, i5, iP, rvC]) | (refine wk_intro (by kernel_rfl) ?_))
      refine ro_ref (cs := rvsC (offR l)) (by decide) ?_ ?_
      · simp only [go_sem, Nat.reduceEqDiff, Nat.reduceAdd, Nat.reduceSub, Nat.reduceMul, Nat.reduceLeDiff, Nat.reduceLT, reduceIte, reduceCtorEq, Nat.succ_ne_zero, elemsC, Int.reduceToNat, Nat.reducePow, i5, iP]
      · rw [List.drop_zero, List.take_of_length_le (by omega)]
  · obtain ⟨s, n, d, rest, hat, hA⟩ := row_at (i := i) h (by omega)
    have a := rat_Sub hA (RatA_rv zm) hL (by omega) (by omega)
    have hd : (offR l).getD i 0 = l.getD i 0 - meanR l := by unfold offR; rw [getD_map l _ (by omega)]
    have hsn := rvs_snoc (l := offR l) (i := i) (by omega)
    rw [hd] at hsn
    have hrl := rvsC_len ((offR l).take i)
    rw [List.length_take, hol, Nat.min_eq_left (by omega)] at hrl
    clear hz zm h hd hA
    rcases hc with ⟨h00, i5, ig⟩ | ⟨h00, i5, iP⟩
    · subst h00
      rw [List.take_zero, rvsC_nil, List.nil_append] at hsn
      rw [Nat.zero_mul, List.drop_zero] at hat
      subst hat
      repeat (first | (simp only [go_sem, Nat.reduceEqDiff, Nat.reduceAdd, Nat.reduceSub, Nat.reduceMul, Nat.reduceLeDiff, Nat.reduceLT, reduceIte, reduceCtorEq, Nat.succ_ne_zero, elemsC, Int.reduceToNat, Nat.reducePow, i13, i14, i3, iO, i15, i5, ig, rvC, N0]) | (simp (disch := (first | omega | (simp only [AL, List.length_map]; omega))) only [AR, AL, ifT, ifF, take_all, List.length_cons, List.length_nil, Int.reduceToNat, Int.reducePow, Nat.reducePow, i13, i14, i3, iO, i15, i5, ig, rvC, N0]) | (refine wk_intro (by kernel_rfl) ?_) | (refine vf_of (by first | exact a) ?_))
      exact ⟨⟨1, rfl, by omega, .inr ⟨by omega, rfl, by first | (rw [← hsn]; rfl) | rw [← hsn]⟩⟩, by omega⟩
    · unfold rvC at hsn
      repeat (first | (simp only [go_sem, Nat.reduceEqDiff, Nat.reduceAdd, Nat.reduceSub, Nat.reduceMul, Nat.reduceLeDiff, Nat.reduceLT, reduceIte, reduceCtorEq, Nat.succ_ne_zero, elemsC, Int.reduceToNat, Nat.reducePow, i13, i14, i3, iO, i15, i5, iP, hat, hlen, rvC, N0, hsn, hrl]) | (simp (disch := (first | omega | (simp only [AL, List.length_map]; omega))) only [AR, AL, ifT, ifF, take_all, List.length_cons, List.length_nil, Int.reduceToNat, Int.reducePow, Nat.reducePow, i13, i14, i3, iO, i15, i5, iP, hat, hlen, rvC, N0, hsn, hrl]) | (refine wk_intro (by kernel_rfl) ?_) | (refine vf_of (by first | exact a) ?_))
      exact ⟨⟨i + 1, rfl, by omega, .inr ⟨by omega, rfl, by first | (rw [← hsn]; rfl) | rw [← hsn]⟩⟩, by omega⟩
theorem stat_products {l : List Rat} {L : Nat} (hz : ∀ x ∈ l, szR x L) (hL : 1 ≤ L) (hL2 : L ≤ 1000000) (hl : l.length ≤ 12) :
    Go.Ev.Fn CX 114 [.sl l.length (rvsC l), .sl l.length (rvsC l)] (rv (sumR (l.map fun x => x * x))) := by
  have r0 := rat_Int 0 (by omega)
  have hlen := rvsC_len l
  have hz2 := sz_map (f := fun x => x * x) hz (fun x hx => szR_mul hx hx hL)
  generalize hcs : rvsC l = cs at *
  refine Go.Ev.Fn.intro (fn := Tryz.f114) (body := (Tryz.f114).body.get!) (by kernel_rfl) (by kernel_rfl) (by kernel_rfl) (fun _ => rfl) (Nat.le_of_ble_eq_true (by kernel_rfl)) ?_; unfold Tryz.f114; simp only [Option.get!_some]
  repeat (first | (simp only [go_sem, Nat.reduceEqDiff, Nat.reduceAdd, Nat.reduceSub, Nat.reduceMul, Nat.reduceLeDiff, Nat.reduceLT, reduceIte, reduceCtorEq, Nat.succ_ne_zero, elemsC, Int.reduceToNat, Nat.reducePow]) | (simp (disch := (first | omega | (simp only [AL, List.length_map]; omega))) only [AR, AL, ifT, ifF, take_all, List.length_cons, List.length_nil, Int.reduceToNat, Int.reducePow, Nat.reducePow]) | (refine wk_intro (by kernel_rfl) ?_) | (refine vp_draw (id := 5) (l := []) (by kernel_rfl) ?_) | (refine vf_of (by first | exact r0) ?_))
  refine vp_loop_inv (fun s => s.tmp 9 = .sv (.sl l.length cs) ∧ s.tmp 1 = .sv (.sl l.length cs) ∧ s.tmp 10 = .sv (.int .i64 (l.length : Int)) ∧ s.tmp 4 = .ptr 4 0 0 ∧ s.obj 4 0 = some [.bool false, .sl 0 [], .sl 0 []] ∧ s.tmp 5 = .ptr 5 0 0 ∧
      ∃ i : Nat, s.tmp 11 = .sv (.int .i64 (i : Int)) ∧ i ≤ l.length ∧ s.obj 5 0 = some (rvC (sumR ((l.map fun x => x * x).take i))))
    (fun s => match s.tmp 11 with | .sv (.int _ i) => l.length - i.toNat | _ => 0) ⟨rfl, rfl, rfl, rfl, rfl, rfl, 0, rfl, by omega, rfl⟩ ?_
  rintro s2 ⟨i9, i1, i10, i4, iO, i5, i, i11, hi, iP⟩
  by_cases hend : i = l.length
  · subst hend
    rw [List.take_of_length_le (by rw [List.length_map]; omega)] at iP
    repeat (first | (simp only [go_sem, Nat.reduceEqDiff, Nat.reduceAdd, Nat.reduceSub, Nat.reduceMul, Nat.reduceLeDiff, Nat.reduceLT, reduceIte, reduceCtorEq, Nat.succ_ne_zero, elemsC, Int.reduceToNat, Nat.reducePow, i9, i1, i10, i4, iO, i5, i11, iP, rvC]) | (simp (disch := (first | omega | (simp only [AL, List.length_map]; omega))) only [AR, AL, ifT, ifF, take_all, List.length_cons, List.length_nil, Int.reduceToNat, Int.reducePow, Nat.reducePow, i9, i1, i10, i4, iO, i5, i11, iP, rvC]) | (refine wk_intro (by kernel_rfl) ?_) | (refine vp_draw (id := 5) (l := []) (by kernel_rfl) ?_))
  · obtain ⟨rest, hat⟩ := rvsC_at (l := l) (i := i) (by omega)
    rw [hcs] at hat
    have hm := hz _ (getD_mem (l := l) (i := i) (by omega))
    have m1 := rat_Mul (RatA_rv hm) (RatA_rv hm) hL hL (by omega)
    have hS := sumR_take (l.map fun x => x * x) (i := i) (by rw [List.length_map]; omega)
    rw [getD_map l _ (by omega)] at hS
    have a := rat_Add (RatA_rv (sz_take12 (by omega) hz2 (by rw [List.length_map]; omega) i)) (RatA_rv (szR_mul hm hm hL)) (by omega) (by omega) (by omega)
    rw [← hS] at a
    generalize l.getD i 0 = x at *
    clear hz hz2 hm hS
    repeat (first | (simp only [go_sem, Nat.reduceEqDiff, Nat.reduceAdd, Nat.reduceSub, Nat.reduceMul, Nat.reduceLeDiff, Nat.reduceLT, reduceIte, reduceCtorEq, Nat.succ_ne_zero, elemsC, Int.reduceToNat, Nat.reducePow, i9, i1, i10, i4, iO, i5, i11, iP, rvC, hat, hlen, List.cons_append, List.nil_append]) | (simp (disch := (first | omega | (simp only [AL, List.length_map]; omega))) only [AR, AL, ifT, ifF, take_all, List.length_cons, List.length_nil, Int.reduceToNat, Int.reducePow, Nat.reducePow, i9, i1, i10, i4, iO, i5, i11, iP, rvC, hat, hlen, List.cons_append, List.nil_append]) | (refine wk_intro (by kernel_rfl) ?_) | (refine vp_draw (id := 5) (l := []) (by kernel_rfl) ?_) | (refine vf_of (by first | exact m1 | exact a) ?_))
    exact ⟨⟨i + 1, rfl, by omega, rfl⟩, by omega⟩
theorem stat_Covariance {cs : List SV} {l : List Rat} {L : Nat} (h : RowC cs l L) (hL : 1 ≤ L) (hL2 : L ≤ 10000) (hl : l.length ≤ 12) :
    Go.Ev.Fn CX 100 [.sl l.length cs, .sl l.length cs] (if l.length < 2 then numE 0 5 else numE (varR l) 0) := by
  have r0 := rat_Int 0 (by omega)
  by_cases h0 : l.length < 2
  · rw [if_pos h0]
    refine Go.Ev.Fn.intro (fn := Tryz.f100) (body := (Tryz.f100).body.get!) (by kernel_rfl) (by kernel_rfl) (by kernel_rfl) (fun _ => rfl) (Nat.le_of_ble_eq_true (by kernel_rfl)) ?_; unfold Tryz.f100; simp only [Option.get!_some]
    repeat (first | (simp only [go_sem, Nat.reduceEqDiff, Nat.reduceAdd, Nat.reduceSub, Nat.reduceMul, Nat.reduceLeDiff, Nat.reduceLT, reduceIte, reduceCtorEq, Nat.succ_ne_zero, elemsC, Int.reduceToNat, Nat.reducePow]) | (simp (disch := (first | omega | (simp only [AL, List.length_map]; omega))) only [AR, AL, ifT, ifF, take_all, List.length_cons, List.length_nil, Int.reduceToNat, Int.reducePow, Nat.reducePow]) | (refine wk_intro (by kernel_rfl) ?_) | (refine vf_of (by first | exact r0) ?_))
    rfl
  · rw [if_neg h0]
    have s1 := stat_off h hL (by omega) hl (by omega)
    have hz := row_sz hL h
    have zo := sz_off hL hz hl
    have p1 := stat_products zo (by omega) (by omega) (by unfold offR; rw [List.length_map]; exact hl)
    rw [show (offR l).length = l.length by unfold offR; rw [List.length_map], show sumR ((offR l).map fun x => x * x) = sqR l from rfl] at p1
    have b1 := stat_by (n := (l.length : Int) - 1) (RatA_rv (sz_sq hL hz hl)) (by omega) (by omega) (by omega)
    rw [show sqR l / (((l.length : Int) - 1 : Int) : Rat) = varR l from rfl, show (l.length : Int) - 1 = ((l.length - 1 : Nat) : Int) by omega] at b1
    clear h zo hz
    refine Go.Ev.Fn.intro (fn := Tryz.f100) (body := (Tryz.f100).body.get!) (by kernel_rfl) (by kernel_rfl) (by kernel_rfl) (fun _ => rfl) (Nat.le_of_ble_eq_true (by kernel_rfl)) ?_; unfold Tryz.f100; simp only [Option.get!_some]
    repeat (first | (simp only [go_sem, Nat.reduceEqDiff, Nat.reduceAdd, Nat.reduceSub, Nat.reduceMul, Nat.reduceLeDiff, Nat.reduceLT, reduceIte, reduceCtorEq, Nat.succ_ne_zero, elemsC, Int.reduceToNat, Nat.reducePow]) | (simp (disch := (first | omega | (simp only [AL, List.length_map]; omega))) only [AR, AL, ifT, ifF, take_all, List.length_cons, List.length_nil, Int.reduceToNat, Int.reducePow, Nat.reducePow]) | (refine wk_intro (by kernel_rfl) ?_) | (refine vf_of (by first | exact s1 | exact p1 | exact b1) ?_))
theorem stat_Variance {cs : List SV} {l : List Rat} {L : Nat} (h : RowC cs l L) (hL : 1 ≤ L) (hL2 : L ≤ 10000) (hl : l.length ≤ 12) :
    Go.Ev.Fn CX 77 [.sl l.length cs] (if l.length < 2 then numE 0 5 else numE (varR l) 0) := by
  have c1 := stat_Covariance h hL hL2 hl
  by_cases h0 : l.length < 2
  · rw [if_pos h0] at c1 ⊢
    refine Go.Ev.Fn.intro (fn := Tryz.f77) (body := (Tryz.f77).body.get!) (by kernel_rfl) (by kernel_rfl) (by kernel_rfl) (fun _ => rfl) (Nat.le_of_ble_eq_true (by kernel_rfl)) ?_; unfold Tryz.f77; simp only [Option.get!_some]
    repeat (first | (simp only [go_sem, Nat.reduceEqDiff, Nat.reduceAdd, Nat.reduceSub, Nat.reduceMul, Nat.reduceLeDiff, Nat.reduceLT, reduceIte, reduceCtorEq, Nat.succ_ne_zero, elemsC, Int.reduceToNat, Nat.reducePow]) | (simp (disch := (first | omega | (simp only [AL, List.length_map]; omega))) only [AR, AL, ifT, ifF, take_all, List.length_cons, List.length_nil, Int.reduceToNat, Int.reducePow, Nat.reducePow]) | (refine wk_intro (by kernel_rfl) ?_) | (refine vf_of (by first | exact c1) ?_))
  · rw [if_neg h0] at c1 ⊢
    refine Go.Ev.Fn.intro (fn := Tryz.f77) (body := (Tryz.f77).body.get!) (by kernel_rfl) (by kernel_rfl) (by kernel_rfl) (fun _ => rfl) (Nat.le_of_ble_eq_true (by kernel_rfl)) ?_; unfold Tryz.f77; simp only [Option.get!_some]
    repeat (first | (simp only [go_sem, Nat.reduceEqDiff, Nat.reduceAdd, Nat.reduceSub, Nat.reduceMul, Nat.reduceLeDiff, Nat.reduceLT, reduceIte, reduceCtorEq, Nat.succ_ne_zero, elemsC, Int.reduceToNat, Nat.reducePow]) | (simp (disch := (first | omega | (simp only [AL, List.length_map]; omega))) only [AR, AL, ifT, ifF, take_all, List.length_cons, List.length_nil, Int.reduceToNat, Int.reducePow, Nat.reducePow]) | (refine wk_intro (by kernel_rfl) ?_) | (refine vf_of (by first | exact c1) ?_))
theorem stat_Central {cs : List SV} {l : List Rat} {L : Nat} (h : RowC cs l L) (hL : 1 ≤ L) (hL2 : L ≤ 10000) (hl : l.length ≤ 12) (h0 : 1 ≤ l.length) :
    Go.Ev.Fn CX 101 [.int .i64 2, .sl l.length cs] (numE (sqR l / ((l.length : Int) : Rat)) 0) := by
  have r0 := rat_Int 0 (by omega)
  have r1 := rat_Int 1 (by omega)
  have s1 := stat_off h hL (by omega) hl (by omega)
  have hz := row_sz hL h
  have zo := sz_off hL hz hl
  have hol : (offR l).length = l.length := by unfold offR; rw [List.length_map]
  have b1 := stat_by (n := (l.length : Int)) (RatA_rv (sz_sq hL hz hl)) (by omega) (by omega) (by omega)
  have zs := fun i => sz_take12 (by omega) (sz_map (f := fun x => x * x) zo (fun x hx => szR_mul hx hx (by omega))) (by rw [List.length_map]; omega) i
  have hst := fun {i : Nat} (hi : i < l.length) => sumR_take ((offR l).map fun x => x * x) (i := i) (by rw [List.length_map]; omega)
  have hgd := fun {i : Nat} (hi : i < l.length) => getD_map (offR l) (fun x => x * x) (i := i) (by omega)
  have hall : sumR (((offR l).map fun x => x * x).take l.length) = sqR l := by rw [List.take_of_length_le (by rw [List.length_map]; omega)]; rfl
  have hat := fun {i : Nat} (hi : i < l.length) => rvsC_at (l := offR l) (i := i) (by omega)
  have hlen := rvsC_len (offR l)
  have hzm := fun {i : Nat} (hi : i < l.length) => zo _ (getD_mem (l := offR l) (i := i) (by omega))
  have hsum0 : sumR (((offR l).map fun x => x * x).take 0) = 0 := rfl
  rw [hol] at hlen
  generalize hS : (fun i => sumR (((offR l).map fun x => x * x).take i)) = S at *
  have hSi : ∀ i, sumR (((offR l).map fun x => x * x).take i) = S i := fun i => by rw [← hS]
  simp only [hSi] at zs hst hall hsum0
  generalize sqR l = q at *
  generalize hcs : rvsC (offR l) = ds at *
  clear h hz zo
  refine Go.Ev.Fn.intro (fn := Tryz.f101) (body := (Tryz.f101).body.get!) (by kernel_rfl) (by kernel_rfl) (by kernel_rfl) (fun _ => rfl) (Nat.le_of_ble_eq_true (by kernel_rfl)) ?_; unfold Tryz.f101; simp only [Option.get!_some]
  repeat (first | (simp only [go_sem, Nat.reduceEqDiff, Nat.reduceAdd, Nat.reduceSub, Nat.reduceMul, Nat.reduceLeDiff, Nat.reduceLT, reduceIte, reduceCtorEq, Nat.succ_ne_zero, elemsC, Int.reduceToNat, Nat.reducePow]) | (simp (disch := (first | omega | (simp only [AL, List.length_map]; omega))) only [AR, AL, ifT, ifF, take_all, List.length_cons, List.length_nil, Int.reduceToNat, Int.reducePow, Nat.reducePow]) | (refine wk_intro (by kernel_rfl) ?_) | (refine vf_of (by first | exact r0 | exact s1) ?_))
  refine vp_loop_inv (fun s => s.tmp 0 = .sv (.int .i64 2) ∧ s.tmp 1 = .sv (.sl l.length cs) ∧ s.tmp 4 = .ptr 4 0 0 ∧ s.obj 4 0 = some [.bool false, .sl 0 [], .sl 0 []] ∧ s.tmp 6 = .ptr 6 0 0 ∧ s.tmp 25 = .sv (.sl l.length ds) ∧ s.tmp 26 = .sv (.int .i64 (l.length : Int)) ∧
      ∃ i : Nat, s.tmp 27 = .sv (.int .i64 (i : Int)) ∧ i ≤ l.length ∧ s.obj 6 0 = some (rvC (S i)))
    (fun s => match s.tmp 27 with | .sv (.int _ i) => l.length - i.toNat | _ => 0) ⟨rfl, rfl, rfl, rfl, rfl, rfl, rfl, 0, rfl, by omega, by rw [hsum0]; rfl⟩ ?_
  rintro s2 ⟨i0, i1, i4, iO, i6, i25, i26, i, i27, hi, iP⟩
  by_cases hend : i = l.length
  · subst hend
    rw [hall] at iP
    repeat (first | (simp only [go_sem, Nat.reduceEqDiff, Nat.reduceAdd, Nat.reduceSub, Nat.reduceMul, Nat.reduceLeDiff, Nat.reduceLT, reduceIte, reduceCtorEq, Nat.succ_ne_zero, elemsC, Int.reduceToNat, Nat.reducePow, i0, i1, i4, iO, i6, i25, i26, i27, iP, rvC]) | (simp (disch := (first | omega | (simp only [AL, List.length_map]; omega))) only [AR, AL, ifT, ifF, take_all, List.length_cons, List.length_nil, Int.reduceToNat, Int.reducePow, Nat.reducePow, i0, i1, i4, iO, i6, i25, i26, i27, iP, rvC]) | (refine wk_intro (by kernel_rfl) ?_) | (refine vf_of (by first | exact b1) ?_))
  · obtain ⟨rest, g1⟩ := hat (i := i) (by omega)
    have z1 := hzm (i := i) (by omega)
    have e1 := hst (i := i) (by omega)
    rw [hgd (by omega)] at e1
    have m1 := rat_Mul (RatA_rv (int_szR (n := 1) (by omega))) (RatA_rv z1) (by omega) (by omega) (by omega)
    generalize (offR l).getD i 0 = x at *
    rw [show ((1 : Int) : Rat) * x = x by show (1 : Rat) * x = x; exact Rat.one_mul x] at m1
    have m2 := rat_Mul (RatA_rv z1) (RatA_rv z1) (by omega) (by omega) (by omega)
    have a1 := rat_Add (RatA_rv (zs i)) (RatA_rv (szR_mul z1 z1 (by omega))) (by omega) (by omega) (by omega)
    rw [← e1] at a1
    clear hat hzm hst hgd hall hsum0 e1 z1
    repeat (first | (simp only [go_sem, Nat.reduceEqDiff, Nat.reduceAdd, Nat.reduceSub, Nat.reduceMul, Nat.reduceLeDiff, Nat.reduceLT, reduceIte, reduceCtorEq, Nat.succ_ne_zero, elemsC, Int.reduceToNat, Nat.reducePow, i0, i1, i4, iO, i6, i25, i26, i27, iP, g1, hlen, List.cons_append, List.nil_append, rvC]) | (simp (disch := (first | omega | (simp only [AL, List.length_map]; omega))) only [AR, AL, ifT, ifF, take_all, List.length_cons, List.length_nil, Int.reduceToNat, Int.reducePow, Nat.reducePow, i0, i1, i4, iO, i6, i25, i26, i27, iP, g1, hlen, List.cons_append, List.nil_append, rvC]) | (refine wk_intro (by kernel_rfl) ?_) | (refine vf_of (by first | exact r1) ?_))
    refine vp_loop_inv (fun s => s.tmp 0 = .sv (.int .i64 2) ∧ s.tmp 1 = .sv (.sl l.length cs) ∧ s.tmp 4 = .ptr 4 0 0 ∧ s.obj 4 0 = some [.bool false, .sl 0 [], .sl 0 []] ∧ s.tmp 6 = .ptr 6 0 0 ∧ s.tmp 25 = .sv (.sl l.length ds) ∧ s.tmp 26 = .sv (.int .i64 (l.length : Int)) ∧
        s.tmp 27 = .sv (.int .i64 (i : Int)) ∧ s.obj 6 0 = some (rvC (S i)) ∧ s.tmp 32 = .sv (.int .i64 2) ∧
        ∃ g8 g9, s.tmp 8 = .ptr 8 g8 0 ∧ s.tmp 9 = .ptr 9 g9 0 ∧ s.obj 8 g8 = some (rvC x) ∧ ((s.tmp 33 = .sv (.int .i64 0) ∧ s.obj 9 g9 = some (rvC ((1 : Int) : Rat))) ∨ (s.tmp 33 = .sv (.int .i64 1) ∧ s.obj 9 g9 = some (rvC x)) ∨ (s.tmp 33 = .sv (.int .i64 2) ∧ s.obj 9 g9 = some (rvC (x * x)))))
      (fun s => match s.tmp 33 with | .sv (.int _ i) => 2 - i.toNat | _ => 0) ⟨i0, i1, i4, iO, i6, i25, i26, i27, iP, rfl, _, _, rfl, rfl, ?_, .inl ⟨rfl, ?_⟩⟩ ?_
    · simp only [go_sem, Nat.reduceEqDiff, Nat.reduceAdd, Nat.reduceSub, Nat.reduceMul, Nat.reduceLeDiff, Nat.reduceLT, reduceIte, reduceCtorEq, Nat.succ_ne_zero, elemsC, Int.reduceToNat, Nat.reducePow, rvC]
    · simp only [go_sem, Nat.reduceEqDiff, Nat.reduceAdd, Nat.reduceSub, Nat.reduceMul, Nat.reduceLeDiff, Nat.reduceLT, reduceIte, reduceCtorEq, Nat.succ_ne_zero, elemsC, Int.reduceToNat, Nat.reducePow, rvC]
    rintro s3 ⟨k0, k1, k4, kO, k6, k25, k26, k27, kP, k32, g8, g9, k8, k9, o8, h33⟩
    rcases h33 with ⟨k33, o9⟩ | ⟨k33, o9⟩ | ⟨k33, o9⟩
    · repeat (first | (simp only [go_sem, Nat.reduceEqDiff, Nat.reduceAdd, Nat.reduceSub, Nat.reduceMul, Nat.reduceLeDiff, Nat.reduceLT, reduceIte, reduceCtorEq, Nat.succ_ne_zero, elemsC, Int.reduceToNat, Nat.reducePow, k0, k1, k4, kO, k6, k25, k26, k27, kP, k32, k8, k9, o8, k33, o9, rvC]) | (simp (disch := (first | omega | (simp only [AL, List.length_map]; omega))) only [AR, AL, ifT, ifF, take_all, List.length_cons, List.length_nil, Int.reduceToNat, Int.reducePow, Nat.reducePow, k0, k1, k4, kO, k6, k25, k26, k27, kP, k32, k8, k9, o8, k33, o9, rvC]) | (refine wk_intro (by kernel_rfl) ?_))
      refine vf_of (m1) ?_; repeat (first | (simp only [go_sem, Nat.reduceEqDiff, Nat.reduceAdd, Nat.reduceSub, Nat.reduceMul, Nat.reduceLeDiff, Nat.reduceLT, reduceIte, reduceCtorEq, Nat.succ_ne_zero, elemsC, Int.reduceToNat, Nat.reducePow, k0, k1, k4, kO, k6, k25, k26, k27, kP, k32, k8, k9, o8, k33, o9, rvC]) | (simp (disch := (first | omega | (simp only [AL, List.length_map]; omega))) only [AR, AL, ifT, ifF, take_all, List.length_cons, List.length_nil, Int.reduceToNat, Int.reducePow, Nat.reducePow, k0, k1, k4, kO, k6, k25, k26, k27, kP, k32, k8, k9, o8, k33, o9, rvC]) | (refine wk_intro (by kernel_rfl) ?_))
      exact ⟨⟨_, _, rfl, rfl, o8, .inr (.inl ⟨rfl, if_pos rfl⟩)⟩, by omega⟩
    · repeat (first | (simp only [go_sem, Nat.reduceEqDiff, Nat.reduceAdd, Nat.reduceSub, Nat.reduceMul, Nat.reduceLeDiff, Nat.reduceLT, reduceIte, reduceCtorEq, Nat.succ_ne_zero, elemsC, Int.reduceToNat, Nat.reducePow, k0, k1, k4, kO, k6, k25, k26, k27, kP, k32, k8, k9, o8, k33, o9, rvC]) | (simp (disch := (first | omega | (simp only [AL, List.length_map]; omega))) only [AR, AL, ifT, ifF, take_all, List.length_cons, List.length_nil, Int.reduceToNat, Int.reducePow, Nat.reducePow, k0, k1, k4, kO, k6, k25, k26, k27, kP, k32, k8, k9, o8, k33, o9, rvC]) | (refine wk_intro (by kernel_rfl) ?_))
      refine vf_of (m2) ?_; repeat (first | (simp only [go_sem, Nat.reduceEqDiff, Nat.reduceAdd, Nat.reduceSub, Nat.reduceMul, Nat.reduceLeDiff, Nat.reduceLT, reduceIte, reduceCtorEq, Nat.succ_ne_zero, elemsC, Int.reduceToNat, Nat.reducePow, k0, k1, k4, kO, k6, k25, k26, k27, kP, k32, k8, k9, o8, k33, o9, rvC]) | (simp (disch := (first | omega | (simp only [AL, List.length_map]; omega))) only [AR, AL, ifT, ifF, take_all, List.length_cons, List.length_nil, Int.reduceToNat, Int.reducePow, Nat.reducePow, k0, k1, k4, kO, k6, k25, k26, k27, kP, k32, k8, k9, o8, k33, o9, rvC]) | (refine wk_intro (by kernel_rfl) ?_))
      exact ⟨⟨_, _, rfl, rfl, o8, .inr (.inr ⟨rfl, if_pos rfl⟩)⟩, by omega⟩
    · repeat (first | (simp only [go_sem, Nat.reduceEqDiff, Nat.reduceAdd, Nat.reduceSub, Nat.reduceMul, Nat.reduceLeDiff, Nat.reduceLT, reduceIte, reduceCtorEq, Nat.succ_ne_zero, elemsC, Int.reduceToNat, Nat.reducePow, k0, k1, k4, kO, k6, k25, k26, k27, kP, k32, k8, k9, o8, k33, o9, rvC]) | (simp (disch := (first | omega | (simp only [AL, List.length_map]; omega))) only [AR, AL, ifT, ifF, take_all, List.length_cons, List.length_nil, Int.reduceToNat, Int.reducePow, Nat.reducePow, k0, k1, k4, kO, k6, k25, k26, k27, kP, k32, k8, k9, o8, k33, o9, rvC]) | (refine wk_intro (by kernel_rfl) ?_))
      refine vf_of (a1) ?_; repeat (first | (simp only [go_sem, Nat.reduceEqDiff, Nat.reduceAdd, Nat.reduceSub, Nat.reduceMul, Nat.reduceLeDiff, Nat.reduceLT, reduceIte, reduceCtorEq, Nat.succ_ne_zero, elemsC, Int.reduceToNat, Nat.reducePow, k0, k1, k4, kO, k6, k25, k26, k27, kP, k32, k8, k9, o8, k33, o9, rvC]) | (simp (disch := (first | omega | (simp only [AL, List.length_map]; omega))) only [AR, AL, ifT, ifF, take_all, List.length_cons, List.length_nil, Int.reduceToNat, Int.reducePow, Nat.reducePow, k0, k1, k4, kO, k6, k25, k26, k27, kP, k32, k8, k9, o8, k33, o9, rvC]) | (refine wk_intro (by kernel_rfl) ?_))
      exact ⟨⟨i + 1, rfl, by omega, rfl⟩, by omega⟩
end Go.Proofs.YtdnmhnjblgkjaaaGreat

/- test: over, square, isBelow, student, paired, spread, pooled, fisher, in the evaluator. -/
namespace Go.Proofs.YtdnmhnjblgkjaaaGreat
set_option linter.unusedSimpArgs false
set_option linter.unusedVariables false
set_option maxRecDepth 8000
open Go.Ev
theorem rat_Zero {v : SV} {q : Rat} {L : Nat} (hv : RatA v q L) (hL : 1 ≤ L) (hL2 : L ≤ 16777216) : Go.Ev.Fn CX 28 [v] (.bool (decide (q = 0))) := by
  have hN := rat_Norm hv (by omega)
  obtain ⟨s, n, d, rfl, -⟩ := hv
  by_cases h : q = 0
  · subst h
    rw [decide_eq_true rfl]
    rw [rv_zero] at hN
    refine Go.Ev.Fn.intro (fn := Tryz.f28) (body := (Tryz.f28).body.get!) (by kernel_rfl) (by kernel_rfl) (by kernel_rfl) (fun _ => rfl) (Nat.le_of_ble_eq_true (by kernel_rfl)) ?_; unfold Tryz.f28; simp only [Option.get!_some]
    repeat (first | (simp only [go_sem, Nat.reduceEqDiff, Nat.reduceAdd, Nat.reduceSub, Nat.reduceMul, Nat.reduceLeDiff, Nat.reduceLT, reduceIte, reduceCtorEq, Nat.succ_ne_zero, elemsC, Int.reduceToNat, Nat.reducePow]) | (simp (disch := (first | omega | (simp only [AL, List.length_map]; omega))) only [AR, AL, ifT, ifF, take_all, List.length_cons, List.length_nil, Int.reduceToNat, Int.reducePow, Nat.reducePow]) | (refine wk_intro (by kernel_rfl) ?_) | (refine vf_of (by first | exact hN) ?_))
  · have hp := lim_pos (N := q.num.natAbs) (fun e => h (num_zero.1 (by omega)))
    rw [decide_eq_false h]
    refine Go.Ev.Fn.intro (fn := Tryz.f28) (body := (Tryz.f28).body.get!) (by kernel_rfl) (by kernel_rfl) (by kernel_rfl) (fun _ => rfl) (Nat.le_of_ble_eq_true (by kernel_rfl)) ?_; unfold Tryz.f28; simp only [Option.get!_some]
    repeat (first | (simp only [go_sem, Nat.reduceEqDiff, Nat.reduceAdd, Nat.reduceSub, Nat.reduceMul, Nat.reduceLeDiff, Nat.reduceLT, reduceIte, reduceCtorEq, Nat.succ_ne_zero, elemsC, Int.reduceToNat, Nat.reducePow]) | (simp (disch := (first | omega | (simp only [AL, List.length_map]; omega))) only [AR, AL, ifT, ifF, take_all, List.length_cons, List.length_nil, Int.reduceToNat, Int.reducePow, Nat.reducePow]) | (refine wk_intro (by kernel_rfl) ?_) | (refine vf_of (by first | exact hN) ?_))
theorem ref2_Zero {v : SV} {q : Rat} {L : Nat} (hv : RatA v q L) (hL : 1 ≤ L) (hL2 : L ≤ 16777216) : Go.Ev.Fn CX 33 [v] (.bool (decide (q = 0))) := by
  have hN := ref2_Norm hv (by omega)
  obtain ⟨s, n, d, rfl, -⟩ := hv
  by_cases h : q = 0
  · subst h
    rw [decide_eq_true rfl]
    rw [rv_zero] at hN
    refine Go.Ev.Fn.intro (fn := Tryz.f33) (body := (Tryz.f33).body.get!) (by kernel_rfl) (by kernel_rfl) (by kernel_rfl) (fun _ => rfl) (Nat.le_of_ble_eq_true (by kernel_rfl)) ?_; unfold Tryz.f33; simp only [Option.get!_some]
    repeat (first | (simp only [go_sem, Nat.reduceEqDiff, Nat.reduceAdd, Nat.reduceSub, Nat.reduceMul, Nat.reduceLeDiff, Nat.reduceLT, reduceIte, reduceCtorEq, Nat.succ_ne_zero, elemsC, Int.reduceToNat, Nat.reducePow]) | (simp (disch := (first | omega | (simp only [AL, List.length_map]; omega))) only [AR, AL, ifT, ifF, take_all, List.length_cons, List.length_nil, Int.reduceToNat, Int.reducePow, Nat.reducePow]) | (refine wk_intro (by kernel_rfl) ?_) | (refine vf_of (by first | exact hN) ?_))
  · have hp := lim_pos (N := q.num.natAbs) (fun e => h (num_zero.1 (by omega)))
    rw [decide_eq_false h]
    refine Go.Ev.Fn.intro (fn := Tryz.f33) (body := (Tryz.f33).body.get!) (by kernel_rfl) (by kernel_rfl) (by kernel_rfl) (fun _ => rfl) (Nat.le_of_ble_eq_true (by kernel_rfl)) ?_; unfold Tryz.f33; simp only [Option.get!_some]
    repeat (first | (simp only [go_sem, Nat.reduceEqDiff, Nat.reduceAdd, Nat.reduceSub, Nat.reduceMul, Nat.reduceLeDiff, Nat.reduceLT, reduceIte, reduceCtorEq, Nat.succ_ne_zero, elemsC, Int.reduceToNat, Nat.reducePow]) | (simp (disch := (first | omega | (simp only [AL, List.length_map]; omega))) only [AR, AL, ifT, ifF, take_all, List.length_cons, List.length_nil, Int.reduceToNat, Int.reducePow, Nat.reducePow]) | (refine wk_intro (by kernel_rfl) ?_) | (refine vf_of (by first | exact hN) ?_))
theorem test_over {v w : SV} {q r : Rat} {L M : Nat} (hv : RatA v q L) (hw : RatA w r M) (hL : 1 ≤ L) (hM : 1 ≤ M) (h : L + M ≤ 1000000) : Go.Ev.Fn CX 29 [v, w] (rv (q / r)) := by
  have d := rat_Div hv hw hL hM (by omega)
  generalize decide (r ≠ 0) = b at *
  obtain ⟨s, n, d', rfl, -⟩ := hv
  obtain ⟨s', n', d'', rfl, -⟩ := hw
  refine Go.Ev.Fn.intro (fn := Tryz.f29) (body := (Tryz.f29).body.get!) (by kernel_rfl) (by kernel_rfl) (by kernel_rfl) (fun _ => rfl) (Nat.le_of_ble_eq_true (by kernel_rfl)) ?_; unfold Tryz.f29; simp only [Option.get!_some]
  repeat (first | (simp only [go_sem, Nat.reduceEqDiff, Nat.reduceAdd, Nat.reduceSub, Nat.reduceMul, Nat.reduceLeDiff, Nat.reduceLT, reduceIte, reduceCtorEq, Nat.succ_ne_zero, elemsC, Int.reduceToNat, Nat.reducePow]) | (simp (disch := (first | omega | (simp only [AL, List.length_map]; omega))) only [AR, AL, ifT, ifF, take_all, List.length_cons, List.length_nil, Int.reduceToNat, Int.reducePow, Nat.reducePow]) | (refine wk_intro (by kernel_rfl) ?_) | (refine vf_of (by first | exact d) ?_))
theorem test_square {v : SV} {q : Rat} {L : Nat} (hv : RatA v q L) (hL : 1 ≤ L) (h : L ≤ 1000000) : Go.Ev.Fn CX 76 [v] (rv (q * q)) := by
  have d := rat_Mul hv hv hL hL (by omega)
  obtain ⟨s, n, d', rfl, -⟩ := hv
  refine Go.Ev.Fn.intro (fn := Tryz.f76) (body := (Tryz.f76).body.get!) (by kernel_rfl) (by kernel_rfl) (by kernel_rfl) (fun _ => rfl) (Nat.le_of_ble_eq_true (by kernel_rfl)) ?_; unfold Tryz.f76; simp only [Option.get!_some]
  repeat (first | (simp only [go_sem, Nat.reduceEqDiff, Nat.reduceAdd, Nat.reduceSub, Nat.reduceMul, Nat.reduceLeDiff, Nat.reduceLT, reduceIte, reduceCtorEq, Nat.succ_ne_zero, elemsC, Int.reduceToNat, Nat.reducePow]) | (simp (disch := (first | omega | (simp only [AL, List.length_map]; omega))) only [AR, AL, ifT, ifF, take_all, List.length_cons, List.length_nil, Int.reduceToNat, Int.reducePow, Nat.reducePow]) | (refine wk_intro (by kernel_rfl) ?_) | (refine vf_of (by first | exact d) ?_))
/-- A statistic's result. -/
abbrev resV (r : Res) : SV := .tup [rv r.1, .sl r.2.1.length (r.2.1.map fun i => .int .i64 i), .int .i64 r.2.2]
theorem test_student {cs : List SV} {l : List Rat} {v : SV} {mu : Rat} {L M : Nat} (h : RowC cs l L) (hm : RatA v mu M) (hL : 1 ≤ L) (hL2 : L ≤ 100) (hM : 1 ≤ M) (hM2 : M ≤ 100) (hl : l.length ≤ 12) :
    Go.Ev.Fn CX 40 [.sl l.length cs, v] (resV (stuR l mu)) := by
  have r0 := rat_Int 0 (by omega)
  have v1 := stat_Variance h hL (by omega) hl
  have hz := row_sz hL h
  have zv := sz_var hL hz hl
  have zm := sz_mean hL hz hl
  unfold stuR
  by_cases h0 : l.length < 2
  · rw [if_pos h0] at v1 ⊢
    clear hz zv zm
    obtain ⟨s, n, d, rfl, -⟩ := hm
    refine Go.Ev.Fn.intro (fn := Tryz.f40) (body := (Tryz.f40).body.get!) (by kernel_rfl) (by kernel_rfl) (by kernel_rfl) (fun _ => rfl) (Nat.le_of_ble_eq_true (by kernel_rfl)) ?_; unfold Tryz.f40; simp only [Option.get!_some]
    repeat (first | (simp only [go_sem, Nat.reduceEqDiff, Nat.reduceAdd, Nat.reduceSub, Nat.reduceMul, Nat.reduceLeDiff, Nat.reduceLT, reduceIte, reduceCtorEq, Nat.succ_ne_zero, elemsC, Int.reduceToNat, Nat.reducePow]) | (simp (disch := (first | omega | (simp only [AL, List.length_map]; omega))) only [AR, AL, ifT, ifF, take_all, List.length_cons, List.length_nil, Int.reduceToNat, Int.reducePow, Nat.reducePow]) | (refine wk_intro (by kernel_rfl) ?_) | (refine vp_draw (id := 7) (l := []) (by kernel_rfl) ?_) | (refine vf_of (by first | exact v1 | exact r0) ?_))
    rfl
  · rw [if_neg h0] at v1 ⊢
    have zz := rat_Zero (RatA_rv zv) (by omega) (by omega)
    by_cases hv : varR l = 0
    · rw [if_pos hv]
      rw [decide_eq_true hv] at zz
      clear hz zv zm
      obtain ⟨s, n, d, rfl, -⟩ := hm
      refine Go.Ev.Fn.intro (fn := Tryz.f40) (body := (Tryz.f40).body.get!) (by kernel_rfl) (by kernel_rfl) (by kernel_rfl) (fun _ => rfl) (Nat.le_of_ble_eq_true (by kernel_rfl)) ?_; unfold Tryz.f40; simp only [Option.get!_some]
      repeat (first | (simp only [go_sem, Nat.reduceEqDiff, Nat.reduceAdd, Nat.reduceSub, Nat.reduceMul, Nat.reduceLeDiff, Nat.reduceLT, reduceIte, reduceCtorEq, Nat.succ_ne_zero, elemsC, Int.reduceToNat, Nat.reducePow]) | (simp (disch := (first | omega | (simp only [AL, List.length_map]; omega))) only [AR, AL, ifT, ifF, take_all, List.length_cons, List.length_nil, Int.reduceToNat, Int.reducePow, Nat.reducePow]) | (refine wk_intro (by kernel_rfl) ?_) | (refine vp_draw (id := 7) (l := []) (by kernel_rfl) ?_) | (refine vf_of (by first | exact v1 | exact zz | exact r0) ?_))
      rfl
    · rw [if_neg hv]
      rw [decide_eq_false hv] at zz
      have m1 := stat_Mean h hL (by omega) hl
      rw [if_neg (by omega)] at m1
      have i1 := rat_Int (l.length : Int) (by omega)
      have zi := int_szR (n := (l.length : Int)) (by omega)
      have d1 := rat_Sub (RatA_rv zm) hm (by omega) (by omega) (by omega)
      have zd := szR_sub zm (szR_of hm hM) (by omega)
      have s1 := test_square (RatA_rv zd) (by omega) (by omega)
      have zs := szR_mul zd zd (by omega)
      have p1 := rat_Mul (RatA_rv zi) (RatA_rv zs) (by omega) (by omega) (by omega)
      have o1 := test_over (RatA_rv (szR_mul zi zs (by omega))) (RatA_rv zv) (by omega) (by omega) (by omega)
      clear hz zv zm zi zd zs h
      obtain ⟨s, n, d, rfl, -⟩ := hm
      generalize meanR l = m at *
      generalize varR l = w at *
      refine Go.Ev.Fn.intro (fn := Tryz.f40) (body := (Tryz.f40).body.get!) (by kernel_rfl) (by kernel_rfl) (by kernel_rfl) (fun _ => rfl) (Nat.le_of_ble_eq_true (by kernel_rfl)) ?_; unfold Tryz.f40; simp only [Option.get!_some]
      repeat (first | (simp only [go_sem, Nat.reduceEqDiff, Nat.reduceAdd, Nat.reduceSub, Nat.reduceMul, Nat.reduceLeDiff, Nat.reduceLT, reduceIte, reduceCtorEq, Nat.succ_ne_zero, elemsC, Int.reduceToNat, Nat.reducePow]) | (simp (disch := (first | omega | (simp only [AL, List.length_map]; omega))) only [AR, AL, ifT, ifF, take_all, List.length_cons, List.length_nil, Int.reduceToNat, Int.reducePow, Nat.reducePow]) | (refine wk_intro (by kernel_rfl) ?_) | (refine vp_draw (id := 7) (l := []) (by kernel_rfl) ?_) | (refine vf_of (by first | exact v1 | exact zz | exact m1 | exact i1 | exact d1 | exact s1 | exact p1 | exact o1) ?_))
theorem test_paired {cs ds : List SV} {l m : List Rat} (h : RowC cs l 1) (h2 : RowC ds m 1) (hl : l.length ≤ 12) (hm : m.length ≤ 12) :
    Go.Ev.Fn CX 41 [.sl l.length cs, .sl m.length ds] (resV (if l.length ≠ m.length then (0, [], 1) else stuR (List.zipWith (fun a b => a - b) l m) 0)) := by
  have r0 := rat_Int 0 (by omega)
  by_cases hlm : l.length = m.length
  · rw [if_neg (not_not_intro hlm)]
    have hzl : (List.zipWith (fun a b => a - b) l m).length = l.length := by rw [List.length_zipWith]; omega
    have hzg : ∀ i, i < l.length → (List.zipWith (fun a b => a - b) l m).getD i 0 = l.getD i 0 - m.getD i 0 := by
      intro i hi
      rw [List.getD_eq_getElem?_getD, List.getD_eq_getElem?_getD, List.getD_eq_getElem?_getD, List.getElem?_eq_getElem (by omega), List.getElem?_eq_getElem hi, List.getElem?_eq_getElem (by omega), List.getElem_zipWith]
      rfl
    have hlen := row_len h
    have hlen2 := row_len h2
    have hzz : ∀ x ∈ List.zipWith (fun a b => a - b) l m, szR x 3 := by
      intro x hx
      obtain ⟨i, hi, rfl⟩ := List.getElem_of_mem hx
      rw [List.getElem_zipWith]
      exact szR_sub (row_sz (by omega) h _ (List.getElem_mem _)) (row_sz (by omega) h2 _ (List.getElem_mem _)) (by omega)
    generalize hZ : List.zipWith (fun a b => a - b) l m = z at *
    have t1 := test_student (rvsC_row z hzz) (RatA_rv (int_szR (n := 0) (by omega))) (by omega) (by omega) (by omega) (by omega) (by omega)
    have e0 : ((0 : Int) : Rat) = 0 := rfl
    rw [e0] at t1 r0
    rw [hzl] at t1
    have hrl := rvsC_len z
    rw [hzl] at hrl
    refine Go.Ev.Fn.intro (fn := Tryz.f41) (body := (Tryz.f41).body.get!) (by kernel_rfl) (by kernel_rfl) (by kernel_rfl) (fun _ => rfl) (Nat.le_of_ble_eq_true (by kernel_rfl)) ?_; unfold Tryz.f41; simp only [Option.get!_some]
    repeat (first | (simp only [go_sem, Nat.reduceEqDiff, Nat.reduceAdd, Nat.reduceSub, Nat.reduceMul, Nat.reduceLeDiff, Nat.reduceLT, reduceIte, reduceCtorEq, Nat.succ_ne_zero, elemsC, Int.reduceToNat, Nat.reducePow]) | (simp (disch := (first | omega | (simp only [AL, List.length_map]; omega))) only [AR, AL, ifT, ifF, take_all, List.length_cons, List.length_nil, Int.reduceToNat, Int.reducePow, Nat.reducePow]) | (refine wk_intro (by kernel_rfl) ?_) | (refine vp_draw (id := 7) (l := []) (by kernel_rfl) ?_))
    refine vp_loop_inv (fun s => s.tmp 4 = .ptr 4 0 0 ∧ s.obj 4 0 = some [.bool false, .sl 0 [], .sl 0 []] ∧ s.tmp 1 = .sv (.sl m.length ds) ∧ s.tmp 16 = .sv (.sl l.length cs) ∧ s.tmp 17 = .sv (.int .i64 (l.length : Int)) ∧
        ∃ i : Nat, s.tmp 18 = .sv (.int .i64 (i : Int)) ∧ i ≤ l.length ∧ ((i = 0 ∧ s.tmp 7 = .nil ∧ s.gen 31 = 0) ∨ (0 < i ∧ s.tmp 7 = .ref 31 0 3 0 i ∧ s.obj 31 0 = some (rvsC (z.take i)))))
      (fun s => match s.tmp 18 with | .sv (.int _ i) => l.length - i.toNat | _ => 0) ⟨rfl, rfl, rfl, rfl, rfl, 0, rfl, by omega, .inl ⟨rfl, rfl, rfl⟩⟩ ?_
    rintro s2 ⟨i4, iO, i1, i16, i17, i, i18, hi, hc⟩
    by_cases hend : i = l.length
    · subst hend
      rcases hc with ⟨h00, i7, _⟩ | ⟨_, i7, iP⟩
      · rw [h00] at t1 hzl
        have hz0 : z = [] := List.length_eq_zero_iff.1 hzl
        subst hz0
        rw [rvsC_nil] at t1
        repeat (first | (simp only [go_sem, Nat.reduceEqDiff, Nat.reduceAdd, Nat.reduceSub, Nat.reduceMul, Nat.reduceLeDiff, Nat.reduceLT, reduceIte, reduceCtorEq, Nat.succ_ne_zero, elemsC, Int.reduceToNat, Nat.reducePow, i4, iO, i1, i16, i17, i18, i7]) | (simp (disch := (first | omega | (simp only [AL, List.length_map]; omega))) only [AR, AL, ifT, ifF, take_all, List.length_cons, List.length_nil, Int.reduceToNat, Int.reducePow, Nat.reducePow, i4, iO, i1, i16, i17, i18, i7]) | (refine wk_intro (by kernel_rfl) ?_) | (refine vp_draw (id := 7) (l := []) (by kernel_rfl) ?_) | (refine vf_of (by first | exact r0 | exact t1) ?_))
      · rw [List.take_of_length_le (by omega)] at iP
        have htk : (rvsC z).take (l.length * 3) = rvsC z := List.take_of_length_le (by omega)
        repeat (first | (simp only [go_sem, Nat.reduceEqDiff, Nat.reduceAdd, Nat.reduceSub, Nat.reduceMul, Nat.reduceLeDiff, Nat.reduceLT, reduceIte, reduceCtorEq, Nat.succ_ne_zero, elemsC, Int.reduceToNat, Nat.reducePow, i4, iO, i1, i16, i17, i18, i7, iP, rvC, htk, List.drop_zero]) | (simp (disch := (first | omega | (simp only [AL, List.length_map]; omega))) only [AR, AL, ifT, ifF, take_all, List.length_cons, List.length_nil, Int.reduceToNat, Int.reducePow, Nat.reducePow, i4, iO, i1, i16, i17, i18, i7, iP, rvC, htk, List.drop_zero]) | (refine wk_intro (by kernel_rfl) ?_) | (refine vp_draw (id := 7) (l := []) (by kernel_rfl) ?_) | (refine vf_of (by first | exact r0 | exact t1) ?_))
    · obtain ⟨s, n, d, rest, hat, hA⟩ := row_at (i := i) h (by omega)
      obtain ⟨s', n', d', rest2, hat2, hA2⟩ := row_at (i := i) h2 (by omega)
      have a := rat_Sub hA hA2 (by omega) (by omega) (by omega)
      have hsn := rvs_snoc (l := z) (i := i) (by omega)
      rw [← hzg i (by omega)] at a
      have hrl2 := rvsC_len (z.take i)
      rw [List.length_take, hzl, Nat.min_eq_left (by omega)] at hrl2
      clear hzz h h2 hA hA2 t1 r0 hzg
      rcases hc with ⟨h00, i7, ig⟩ | ⟨h00, i7, iP⟩
      · subst h00
        rw [List.take_zero, rvsC_nil, List.nil_append] at hsn
        rw [Nat.zero_mul, List.drop_zero] at hat hat2
        subst hat hat2
        repeat (first | (simp only [go_sem, Nat.reduceEqDiff, Nat.reduceAdd, Nat.reduceSub, Nat.reduceMul, Nat.reduceLeDiff, Nat.reduceLT, reduceIte, reduceCtorEq, Nat.succ_ne_zero, elemsC, Int.reduceToNat, Nat.reducePow, i4, iO, i1, i16, i17, i18, i7, ig, N0]) | (simp (disch := (first | omega | (simp only [AL, List.length_map]; omega))) only [AR, AL, ifT, ifF, take_all, List.length_cons, List.length_nil, Int.reduceToNat, Int.reducePow, Nat.reducePow, i4, iO, i1, i16, i17, i18, i7, ig, N0]) | (refine wk_intro (by kernel_rfl) ?_) | (refine vp_draw (id := 7) (l := []) (by kernel_rfl) ?_) | (refine vf_of (by first | exact a) ?_))
        exact ⟨⟨1, rfl, by omega, .inr ⟨by omega, rfl, by first | (rw [← hsn]; rfl) | rw [← hsn]⟩⟩, by omega⟩
      · unfold rvC at hsn
        repeat (first | (simp only [go_sem, Nat.reduceEqDiff, Nat.reduceAdd, Nat.reduceSub, Nat.reduceMul, Nat.reduceLeDiff, Nat.reduceLT, reduceIte, reduceCtorEq, Nat.succ_ne_zero, elemsC, Int.reduceToNat, Nat.reducePow, i4, iO, i1, i16, i17, i18, i7, iP, hat, hat2, hlen, hlen2, rvC, N0, hsn, hrl2]) | (simp (disch := (first | omega | (simp only [AL, List.length_map]; omega))) only [AR, AL, ifT, ifF, take_all, List.length_cons, List.length_nil, Int.reduceToNat, Int.reducePow, Nat.reducePow, i4, iO, i1, i16, i17, i18, i7, iP, hat, hat2, hlen, hlen2, rvC, N0, hsn, hrl2]) | (refine wk_intro (by kernel_rfl) ?_) | (refine vp_draw (id := 7) (l := []) (by kernel_rfl) ?_) | (refine vf_of (by first | exact a) ?_))
        exact ⟨⟨i + 1, rfl, by omega, .inr ⟨by omega, rfl, by first | (rw [← hsn]; rfl) | rw [← hsn]⟩⟩, by omega⟩
  · rw [if_pos hlm]
    clear h h2
    refine Go.Ev.Fn.intro (fn := Tryz.f41) (body := (Tryz.f41).body.get!) (by kernel_rfl) (by kernel_rfl) (by kernel_rfl) (fun _ => rfl) (Nat.le_of_ble_eq_true (by kernel_rfl)) ?_; unfold Tryz.f41; simp only [Option.get!_some]
    repeat (first | (simp only [go_sem, Nat.reduceEqDiff, Nat.reduceAdd, Nat.reduceSub, Nat.reduceMul, Nat.reduceLeDiff, Nat.reduceLT, reduceIte, reduceCtorEq, Nat.succ_ne_zero, elemsC, Int.reduceToNat, Nat.reducePow]) | (simp (disch := (first | omega | (simp only [AL, List.length_map]; omega))) only [AR, AL, ifT, ifF, take_all, List.length_cons, List.length_nil, Int.reduceToNat, Int.reducePow, Nat.reducePow]) | (refine wk_intro (by kernel_rfl) ?_) | (refine vp_draw (id := 7) (l := []) (by kernel_rfl) ?_) | (refine vf_of (by first | exact r0) ?_))
    rfl
theorem test_spread {cs : List SV} {l : List Rat} (h : RowC cs l 1) (hl : l.length ≤ 12) (h0 : 1 ≤ l.length) : Go.Ev.Fn CX 78 [.sl l.length cs] (rv (sqR l)) := by
  have c1 := stat_Central h (by omega) (by omega) hl h0
  have z := sz_sq (by omega) (row_sz (by omega) h) hl
  have i1 := rat_Int (l.length : Int) (by omega)
  have zi := int_szR (n := (l.length : Int)) (by omega)
  have m1 := rat_Mul (RatA_rv (szR_div z zi (by omega) (by omega))) (RatA_rv zi) (by omega) (by omega) (by omega)
  rw [div_cancel' (lenR_ne (l := l) (by rintro rfl; simp at h0))] at m1
  clear h z
  refine Go.Ev.Fn.intro (fn := Tryz.f78) (body := (Tryz.f78).body.get!) (by kernel_rfl) (by kernel_rfl) (by kernel_rfl) (fun _ => rfl) (Nat.le_of_ble_eq_true (by kernel_rfl)) ?_; unfold Tryz.f78; simp only [Option.get!_some]
  repeat (first | (simp only [go_sem, Nat.reduceEqDiff, Nat.reduceAdd, Nat.reduceSub, Nat.reduceMul, Nat.reduceLeDiff, Nat.reduceLT, reduceIte, reduceCtorEq, Nat.succ_ne_zero, elemsC, Int.reduceToNat, Nat.reducePow]) | (simp (disch := (first | omega | (simp only [AL, List.length_map]; omega))) only [AR, AL, ifT, ifF, take_all, List.length_cons, List.length_nil, Int.reduceToNat, Int.reducePow, Nat.reducePow]) | (refine wk_intro (by kernel_rfl) ?_) | (refine vp_draw (id := 2) (l := []) (by kernel_rfl) ?_) | (refine vf_of (by first | exact c1 | exact i1 | exact m1) ?_))
theorem test_pooled {cs ds : List SV} {l m : List Rat} (h : RowC cs l 1) (h2 : RowC ds m 1) (hl : l.length ≤ 12) (hm : m.length ≤ 12) :
    Go.Ev.Fn CX 42 [.sl l.length cs, .sl m.length ds] (resV (poolR l m)) := by
  have r0 := rat_Int 0 (by omega)
  unfold poolR
  by_cases c1 : l.length = 0
  · rw [if_pos (.inl c1)]
    clear h h2
    refine Go.Ev.Fn.intro (fn := Tryz.f42) (body := (Tryz.f42).body.get!) (by kernel_rfl) (by kernel_rfl) (by kernel_rfl) (fun _ => rfl) (Nat.le_of_ble_eq_true (by kernel_rfl)) ?_; unfold Tryz.f42; simp only [Option.get!_some]
    repeat (first | (simp only [go_sem, Nat.reduceEqDiff, Nat.reduceAdd, Nat.reduceSub, Nat.reduceMul, Nat.reduceLeDiff, Nat.reduceLT, reduceIte, reduceCtorEq, Nat.succ_ne_zero, elemsC, Int.reduceToNat, Nat.reducePow]) | (simp (disch := (first | omega | (simp only [AL, List.length_map]; omega))) only [AR, AL, ifT, ifF, take_all, List.length_cons, List.length_nil, Int.reduceToNat, Int.reducePow, Nat.reducePow]) | (refine wk_intro (by kernel_rfl) ?_) | (refine vp_draw (id := 10) (l := []) (by kernel_rfl) ?_) | (refine vf_of (by first | exact r0) ?_))
    rfl
  by_cases c2 : m.length = 0
  · rw [if_pos (.inr (.inl c2))]
    clear h h2
    refine Go.Ev.Fn.intro (fn := Tryz.f42) (body := (Tryz.f42).body.get!) (by kernel_rfl) (by kernel_rfl) (by kernel_rfl) (fun _ => rfl) (Nat.le_of_ble_eq_true (by kernel_rfl)) ?_; unfold Tryz.f42; simp only [Option.get!_some]
    repeat (first | (simp only [go_sem, Nat.reduceEqDiff, Nat.reduceAdd, Nat.reduceSub, Nat.reduceMul, Nat.reduceLeDiff, Nat.reduceLT, reduceIte, reduceCtorEq, Nat.succ_ne_zero, elemsC, Int.reduceToNat, Nat.reducePow]) | (simp (disch := (first | omega | (simp only [AL, List.length_map]; omega))) only [AR, AL, ifT, ifF, take_all, List.length_cons, List.length_nil, Int.reduceToNat, Int.reducePow, Nat.reducePow]) | (refine wk_intro (by kernel_rfl) ?_) | (refine vp_draw (id := 10) (l := []) (by kernel_rfl) ?_) | (refine vf_of (by first | exact r0) ?_))
    rfl
  by_cases c3 : l.length + m.length < 3
  · rw [if_pos (.inr (.inr c3))]
    clear h h2
    refine Go.Ev.Fn.intro (fn := Tryz.f42) (body := (Tryz.f42).body.get!) (by kernel_rfl) (by kernel_rfl) (by kernel_rfl) (fun _ => rfl) (Nat.le_of_ble_eq_true (by kernel_rfl)) ?_; unfold Tryz.f42; simp only [Option.get!_some]
    repeat (first | (simp only [go_sem, Nat.reduceEqDiff, Nat.reduceAdd, Nat.reduceSub, Nat.reduceMul, Nat.reduceLeDiff, Nat.reduceLT, reduceIte, reduceCtorEq, Nat.succ_ne_zero, elemsC, Int.reduceToNat, Nat.reducePow]) | (simp (disch := (first | omega | (simp only [AL, List.length_map]; omega))) only [AR, AL, ifT, ifF, take_all, List.length_cons, List.length_nil, Int.reduceToNat, Int.reducePow, Nat.reducePow]) | (refine wk_intro (by kernel_rfl) ?_) | (refine vp_draw (id := 10) (l := []) (by kernel_rfl) ?_) | (refine vf_of (by first | exact r0) ?_))
    rfl
  rw [if_neg (by omega)]
  have s1 := test_spread h hl (by omega)
  have s2 := test_spread h2 hm (by omega)
  have z1 := sz_sq (by omega) (row_sz (by omega) h) hl
  have z2 := sz_sq (by omega) (row_sz (by omega) h2) hm
  have y1 := sz_mean (by omega) (row_sz (by omega) h) hl
  have y2 := sz_mean (by omega) (row_sz (by omega) h2) hm
  have m1 := stat_Mean h (by omega) (by omega) hl
  have m2 := stat_Mean h2 (by omega) (by omega) hm
  rw [if_neg c1] at m1
  rw [if_neg c2] at m2
  have a1 := rat_Add (RatA_rv z1) (RatA_rv z2) (by omega) (by omega) (by omega)
  have za := szR_add z1 z2 (by omega)
  have i1 := rat_Int ((l.length : Int) + (m.length : Int) - 2) (by omega)
  have zi1 := int_szR (n := (l.length : Int) + (m.length : Int) - 2) (by omega)
  have o1 := test_over (RatA_rv za) (RatA_rv zi1) (by omega) (by omega) (by omega)
  have zo := szR_div za zi1 (by omega) (by omega)
  have zz := rat_Zero (RatA_rv zo) (by omega) (by omega)
  clear z1 z2 za zi1 h h2
  by_cases hv : (sqR l + sqR m) / (((l.length : Int) + (m.length : Int) - 2 : Int) : Rat) = 0
  · rw [if_pos hv]
    rw [decide_eq_true hv] at zz
    clear hv
    refine Go.Ev.Fn.intro (fn := Tryz.f42) (body := (Tryz.f42).body.get!) (by kernel_rfl) (by kernel_rfl) (by kernel_rfl) (fun _ => rfl) (Nat.le_of_ble_eq_true (by kernel_rfl)) ?_; unfold Tryz.f42; simp only [Option.get!_some]
    repeat (first | (simp only [go_sem, Nat.reduceEqDiff, Nat.reduceAdd, Nat.reduceSub, Nat.reduceMul, Nat.reduceLeDiff, Nat.reduceLT, reduceIte, reduceCtorEq, Nat.succ_ne_zero, elemsC, Int.reduceToNat, Nat.reducePow]) | (simp (disch := (first | omega | (simp only [AL, List.length_map]; omega))) only [AR, AL, ifT, ifF, take_all, List.length_cons, List.length_nil, Int.reduceToNat, Int.reducePow, Nat.reducePow]) | (refine wk_intro (by kernel_rfl) ?_) | (refine vp_draw (id := 10) (l := []) (by kernel_rfl) ?_) | (refine vf_of (by first | exact s1 | exact s2 | exact a1 | exact i1 | exact o1 | exact zz | exact r0) ?_))
    rfl
  · rw [if_neg hv]
    rw [decide_eq_false hv] at zz
    have lm : 1 ≤ l.length * m.length ∧ l.length * m.length ≤ 144 := ⟨Nat.mul_pos (by omega) (by omega), Nat.mul_le_mul hl hm⟩
    have elm : (l.length : Int) * (m.length : Int) = ((l.length * m.length : Nat) : Int) := (Int.natCast_mul _ _).symm
    have i2 := rat_Int ((l.length : Int) + (m.length : Int)) (by omega)
    have zi2 := int_szR (n := (l.length : Int) + (m.length : Int)) (by omega)
    have i3 := rat_Int ((l.length : Int) * (m.length : Int)) (by rw [elm]; omega)
    have zi3 := int_szR (n := (l.length : Int) * (m.length : Int)) (by rw [elm]; omega)
    have o2 := test_over (RatA_rv zi2) (RatA_rv zi3) (by omega) (by omega) (by omega)
    have zo2 := szR_div zi2 zi3 (by omega) (by omega)
    have d1 := rat_Sub (RatA_rv y1) (RatA_rv y2) (by omega) (by omega) (by omega)
    have zd := szR_sub y1 y2 (by omega)
    have q1 := test_square (RatA_rv zd) (by omega) (by omega)
    have zq := szR_mul zd zd (by omega)
    have p1 := rat_Mul (RatA_rv zo) (RatA_rv zo2) (by omega) (by omega) (by omega)
    have o3 := test_over (RatA_rv zq) (RatA_rv (szR_mul zo zo2 (by omega))) (by omega) (by omega) (by omega)
    clear zi2 zi3 zo zo2 zd zq y1 y2 hv
    generalize meanR l = x at *
    generalize meanR m = y at *
    generalize (sqR l + sqR m) / (((l.length : Int) + (m.length : Int) - 2 : Int) : Rat) = v at *
    generalize sqR l + sqR m = v2 at *
    generalize (((l.length : Int) + (m.length : Int) : Int) : Rat) / (((l.length : Int) * (m.length : Int) : Int) : Rat) = w at *
    rw [elm] at i3 o2
    generalize hpr : l.length * m.length = pr at *
    have hmul : IntKind.i64.wrap ((l.length : Int) * (m.length : Int)) = (pr : Int) := by rw [elm]; exact wI64 (by omega)
    clear elm
    refine Go.Ev.Fn.intro (fn := Tryz.f42) (body := (Tryz.f42).body.get!) (by kernel_rfl) (by kernel_rfl) (by kernel_rfl) (fun _ => rfl) (Nat.le_of_ble_eq_true (by kernel_rfl)) ?_; unfold Tryz.f42; simp only [Option.get!_some]
    repeat (first | (simp only [go_sem, Nat.reduceEqDiff, Nat.reduceAdd, Nat.reduceSub, Nat.reduceMul, Nat.reduceLeDiff, Nat.reduceLT, reduceIte, reduceCtorEq, Nat.succ_ne_zero, elemsC, Int.reduceToNat, Nat.reducePow, hmul]) | (simp (disch := (first | omega | (simp only [AL, List.length_map]; omega))) only [AR, AL, ifT, ifF, take_all, List.length_cons, List.length_nil, Int.reduceToNat, Int.reducePow, Nat.reducePow, hmul]) | (refine wk_intro (by kernel_rfl) ?_) | (refine vp_draw (id := 10) (l := []) (by kernel_rfl) ?_) | (refine vf_of (by first | exact s1 | exact s2 | exact a1 | exact i1 | exact o1 | exact zz | exact m1 | exact m2 | exact i2 | exact i3 | exact o2 | exact d1 | exact q1 | exact p1 | exact o3) ?_))
theorem test_fisher {cs ds : List SV} {l m : List Rat} (h : RowC cs l 1) (h2 : RowC ds m 1) (hl : l.length ≤ 12) (hm : m.length ≤ 12) :
    Go.Ev.Fn CX 43 [.sl l.length cs, .sl m.length ds] (resV (fisR l m)) := by
  have r0 := rat_Int 0 (by omega)
  have v1 := stat_Variance h (by omega) (by omega) hl
  have v2 := stat_Variance h2 (by omega) (by omega) hm
  have z1 := sz_var (by omega) (row_sz (by omega) h) hl
  have z2 := sz_var (by omega) (row_sz (by omega) h2) hm
  have q1 := rat_Zero (RatA_rv z1) (by omega) (by omega)
  have q2 := rat_Zero (RatA_rv z2) (by omega) (by omega)
  have o1 := test_over (RatA_rv z1) (RatA_rv z2) (by omega) (by omega) (by omega)
  unfold fisR
  clear h h2 z1 z2
  by_cases c1 : l.length < 2
  · rw [if_pos (.inl c1)]
    rw [if_pos c1] at v1
    refine Go.Ev.Fn.intro (fn := Tryz.f43) (body := (Tryz.f43).body.get!) (by kernel_rfl) (by kernel_rfl) (by kernel_rfl) (fun _ => rfl) (Nat.le_of_ble_eq_true (by kernel_rfl)) ?_; unfold Tryz.f43; simp only [Option.get!_some]
    repeat (first | (simp only [go_sem, Nat.reduceEqDiff, Nat.reduceAdd, Nat.reduceSub, Nat.reduceMul, Nat.reduceLeDiff, Nat.reduceLT, reduceIte, reduceCtorEq, Nat.succ_ne_zero, elemsC, Int.reduceToNat, Nat.reducePow]) | (simp (disch := (first | omega | (simp only [AL, List.length_map]; omega))) only [AR, AL, ifT, ifF, take_all, List.length_cons, List.length_nil, Int.reduceToNat, Int.reducePow, Nat.reducePow]) | (refine wk_intro (by kernel_rfl) ?_) | (refine vf_of (by first | exact v1 | exact r0) ?_))
    rfl
  rw [if_neg c1] at v1
  by_cases c2 : m.length < 2
  · rw [if_pos (.inr c2)]
    rw [if_pos c2] at v2
    refine Go.Ev.Fn.intro (fn := Tryz.f43) (body := (Tryz.f43).body.get!) (by kernel_rfl) (by kernel_rfl) (by kernel_rfl) (fun _ => rfl) (Nat.le_of_ble_eq_true (by kernel_rfl)) ?_; unfold Tryz.f43; simp only [Option.get!_some]
    repeat (first | (simp only [go_sem, Nat.reduceEqDiff, Nat.reduceAdd, Nat.reduceSub, Nat.reduceMul, Nat.reduceLeDiff, Nat.reduceLT, reduceIte, reduceCtorEq, Nat.succ_ne_zero, elemsC, Int.reduceToNat, Nat.reducePow]) | (simp (disch := (first | omega | (simp only [AL, List.length_map]; omega))) only [AR, AL, ifT, ifF, take_all, List.length_cons, List.length_nil, Int.reduceToNat, Int.reducePow, Nat.reducePow]) | (refine wk_intro (by kernel_rfl) ?_) | (refine vf_of (by first | exact v1 | exact v2 | exact r0) ?_))
    rfl
  rw [if_neg c2] at v2
  rw [if_neg (by omega)]
  generalize varR l = a at *
  generalize varR m = b at *
  by_cases c3 : a = 0
  · rw [if_pos (.inl c3)]
    rw [decide_eq_true c3] at q1
    refine Go.Ev.Fn.intro (fn := Tryz.f43) (body := (Tryz.f43).body.get!) (by kernel_rfl) (by kernel_rfl) (by kernel_rfl) (fun _ => rfl) (Nat.le_of_ble_eq_true (by kernel_rfl)) ?_; unfold Tryz.f43; simp only [Option.get!_some]
    repeat (first | (simp only [go_sem, Nat.reduceEqDiff, Nat.reduceAdd, Nat.reduceSub, Nat.reduceMul, Nat.reduceLeDiff, Nat.reduceLT, reduceIte, reduceCtorEq, Nat.succ_ne_zero, elemsC, Int.reduceToNat, Nat.reducePow]) | (simp (disch := (first | omega | (simp only [AL, List.length_map]; omega))) only [AR, AL, ifT, ifF, take_all, List.length_cons, List.length_nil, Int.reduceToNat, Int.reducePow, Nat.reducePow]) | (refine wk_intro (by kernel_rfl) ?_) | (refine vf_of (by first | exact v1 | exact v2 | exact q1 | exact r0) ?_))
    rfl
  rw [decide_eq_false c3] at q1
  by_cases c4 : b = 0
  · rw [if_pos (.inr c4)]
    rw [decide_eq_true c4] at q2
    refine Go.Ev.Fn.intro (fn := Tryz.f43) (body := (Tryz.f43).body.get!) (by kernel_rfl) (by kernel_rfl) (by kernel_rfl) (fun _ => rfl) (Nat.le_of_ble_eq_true (by kernel_rfl)) ?_; unfold Tryz.f43; simp only [Option.get!_some]
    repeat (first | (simp only [go_sem, Nat.reduceEqDiff, Nat.reduceAdd, Nat.reduceSub, Nat.reduceMul, Nat.reduceLeDiff, Nat.reduceLT, reduceIte, reduceCtorEq, Nat.succ_ne_zero, elemsC, Int.reduceToNat, Nat.reducePow]) | (simp (disch := (first | omega | (simp only [AL, List.length_map]; omega))) only [AR, AL, ifT, ifF, take_all, List.length_cons, List.length_nil, Int.reduceToNat, Int.reducePow, Nat.reducePow]) | (refine wk_intro (by kernel_rfl) ?_) | (refine vf_of (by first | exact v1 | exact v2 | exact q1 | exact q2 | exact r0) ?_))
    rfl
  rw [decide_eq_false c4] at q2
  rw [if_neg (fun h => h.elim c3 c4)]
  refine Go.Ev.Fn.intro (fn := Tryz.f43) (body := (Tryz.f43).body.get!) (by kernel_rfl) (by kernel_rfl) (by kernel_rfl) (fun _ => rfl) (Nat.le_of_ble_eq_true (by kernel_rfl)) ?_; unfold Tryz.f43; simp only [Option.get!_some]
  repeat (first | (simp only [go_sem, Nat.reduceEqDiff, Nat.reduceAdd, Nat.reduceSub, Nat.reduceMul, Nat.reduceLeDiff, Nat.reduceLT, reduceIte, reduceCtorEq, Nat.succ_ne_zero, elemsC, Int.reduceToNat, Nat.reducePow]) | (simp (disch := (first | omega | (simp only [AL, List.length_map]; omega))) only [AR, AL, ifT, ifF, take_all, List.length_cons, List.length_nil, Int.reduceToNat, Int.reducePow, Nat.reducePow]) | (refine wk_intro (by kernel_rfl) ?_) | (refine vf_of (by first | exact v1 | exact v2 | exact q1 | exact q2 | exact o1) ?_))
  refine ro_ref (cs := [.int .i64 ((l.length - 1 : Nat) : Int), .int .i64 ((m.length - 1 : Nat) : Int)]) (by decide) ?_ rfl
  simp only [go_sem, Nat.reduceEqDiff, Nat.reduceAdd, Nat.reduceSub, Nat.reduceMul, Nat.reduceLeDiff, Nat.reduceLT, reduceIte, reduceCtorEq, Nat.succ_ne_zero, elemsC, Int.reduceToNat, Nat.reducePow]
end Go.Proofs.YtdnmhnjblgkjaaaGreat

/- vernierlaw19: much, numbers, in the evaluator. -/
namespace Go.Proofs.YtdnmhnjblgkjaaaGreat
set_option linter.unusedSimpArgs false
set_option linter.unusedVariables false
set_option maxRecDepth 8000
open Go.Ev
def noR : InR := (false, [], [])
theorem ratsC_at : ∀ {ps : List InR} {k : Nat}, k < ps.length → ∃ rest, (ratsC ps).drop (k * 3) = .bool (ps.getD k noR).1 :: natV (ps.getD k noR).2.1 :: natV (ps.getD k noR).2.2 :: rest
  | [], _, h => by simp at h
  | p :: ps, 0, _ => ⟨_, rfl⟩
  | p :: ps, k + 1, h => by
    obtain ⟨r, this⟩ := ratsC_at (ps := ps) (k := k) (by simpa using h)
    refine ⟨r, ?_⟩
    rw [ratsC_cons]
    have e : ∀ j, (SV.bool p.1 :: natV p.2.1 :: natV p.2.2 :: ratsC ps).drop (j + 3) = (ratsC ps).drop j := fun _ => rfl
    rw [show (k + 1) * 3 = k * 3 + 3 by omega, e, this]
    rfl
/-- Is a number more than is looked at? -/
def bigN (p : InR) : Bool := decide (1 < p.2.1.length) || decide (1 < p.2.2.length)
/-- Is a row? -/
def bigR (ps : List InR) : Bool := decide (12 < ps.length) || ps.any bigN
theorem any_take {α : Type} (f : α → Bool) (l : List α) (d : α) {i : Nat} (h : i < l.length) : (l.take (i + 1)).any f = ((l.take i).any f || f (l.getD i d)) := by
  rw [List.take_add_one, List.any_append, List.getElem?_eq_getElem h, List.getD_eq_getElem?_getD, List.getElem?_eq_getElem h]
  simp
theorem any_of_getD {α : Type} (f : α → Bool) (l : List α) (d : α) {i : Nat} (h : i < l.length) (hf : f (l.getD i d) = true) : l.any f = true := by
  refine List.any_eq_true.2 ⟨l.getD i d, ?_, hf⟩
  rw [List.getD_eq_getElem?_getD, List.getElem?_eq_getElem h]
  exact List.getElem_mem h
theorem tab_at {rows : List (List InR)} {i : Nat} (h : i < rows.length) : ((rows.map rowV).drop i).head? = some (.sl (rows.getD i []).length (ratsC (rows.getD i []))) := by
  rw [List.head?_drop, List.getElem?_map, List.getD_eq_getElem?_getD, List.getElem?_eq_getElem h]
  rfl
theorem bigR_small {ps : List InR} (h : bigR ps = false) : ps.length ≤ 12 ∧ ∀ p ∈ ps, p.2.1.length ≤ 1 ∧ p.2.2.length ≤ 1 := by
  unfold bigR at h
  rw [Bool.or_eq_false_iff] at h
  refine ⟨by have := of_decide_eq_false h.1; omega, fun p hp => ?_⟩
  have h2 := List.any_eq_false.1 h.2 p hp
  unfold bigN at h2
  have h3 : (decide (1 < p.2.1.length) || decide (1 < p.2.2.length)) = false := by simpa using h2
  rw [Bool.or_eq_false_iff] at h3
  have h4 := of_decide_eq_false h3.1
  have h5 := of_decide_eq_false h3.2
  omega
theorem bigR_row {ps : List InR} (h : bigR ps = false) (hok : ∀ p ∈ ps, p.ok) : RowC (ratsC ps) (ps.map InR.q) 1 ∧ ps.length ≤ 12 := by
  obtain ⟨h1, h2⟩ := bigR_small h
  exact ⟨ratsC_row ps fun p hp => ⟨hok p hp, h2 p hp⟩, h1⟩
theorem law19_much {rows : List (List InR)} (hn : rows.length ≤ 1099511627776) (hm : ∀ ps ∈ rows, ps.length ≤ 9223372036854775807) : Go.Ev.Fn CX 15 [.sl rows.length (rows.map rowV)] (.bool (rows.any bigR)) := by
  have hlen : (rows.map rowV).length = rows.length := List.length_map _
  have hat := fun {i : Nat} (h : i < rows.length) => tab_at h
  have hps : ∀ i, i < rows.length → (rows.getD i []).length ≤ 9223372036854775807 := by
    intro i h
    refine hm _ ?_
    rw [List.getD_eq_getElem?_getD, List.getElem?_eq_getElem h]
    exact List.getElem_mem h
  generalize hcs : rows.map rowV = cs at *
  refine Go.Ev.Fn.intro (fn := Tryz.f15) (body := (Tryz.f15).body.get!) (by kernel_rfl) (by kernel_rfl) (by kernel_rfl) (fun _ => rfl) (Nat.le_of_ble_eq_true (by kernel_rfl)) ?_; unfold Tryz.f15; simp only [Option.get!_some]
  repeat (first | (simp only [go_sem, Nat.reduceEqDiff, Nat.reduceAdd, Nat.reduceSub, Nat.reduceMul, Nat.reduceLeDiff, Nat.reduceLT, reduceIte, reduceCtorEq, Nat.succ_ne_zero, elemsC, Int.reduceToNat, Nat.reducePow]) | (simp (disch := (first | omega | (simp only [AL, List.length_map]; omega))) only [AR, AL, ifT, ifF, take_all, List.length_cons, List.length_nil, Int.reduceToNat, Int.reducePow, Nat.reducePow]) | (refine wk_intro (by kernel_rfl) ?_))
  refine vp_loop_inv (fun s => s.tmp 0 = .sv (.sl rows.length cs) ∧ ∃ i : Nat, s.tmp 3 = .sv (.int .i64 (i : Int)) ∧ i ≤ rows.length ∧ (rows.take i).any bigR = false)
    (fun s => match s.tmp 3 with | .sv (.int _ i) => rows.length - i.toNat | _ => 0) ⟨rfl, 0, rfl, by omega, rfl⟩ ?_
  rintro s2 ⟨i0, i, i3, hi, hb⟩
  by_cases hend : i = rows.length
  · subst hend
    rw [List.take_length] at hb
    rw [hb]
    repeat (first | (simp only [go_sem, Nat.reduceEqDiff, Nat.reduceAdd, Nat.reduceSub, Nat.reduceMul, Nat.reduceLeDiff, Nat.reduceLT, reduceIte, reduceCtorEq, Nat.succ_ne_zero, elemsC, Int.reduceToNat, Nat.reducePow, i0, i3]) | (simp (disch := (first | omega | (simp only [AL, List.length_map]; omega))) only [AR, AL, ifT, ifF, take_all, List.length_cons, List.length_nil, Int.reduceToNat, Int.reducePow, Nat.reducePow, i0, i3]) | (refine wk_intro (by kernel_rfl) ?_))
  · have h1 := hat (i := i) (by omega)
    have h2 := hps i (by omega)
    have hor := any_take bigR rows [] (i := i) (by omega)
    have htr := any_of_getD bigR rows [] (i := i) (by omega)
    rw [hb, Bool.false_or] at hor
    generalize rows.getD i [] = ps at *
    by_cases hbig : 12 < ps.length
    · rw [htr (by unfold bigR; rw [decide_eq_true hbig]; rfl)]
      clear hor htr hat hps
      repeat (first | (simp only [go_sem, Nat.reduceEqDiff, Nat.reduceAdd, Nat.reduceSub, Nat.reduceMul, Nat.reduceLeDiff, Nat.reduceLT, reduceIte, reduceCtorEq, Nat.succ_ne_zero, elemsC, Int.reduceToNat, Nat.reducePow, i0, i3, h1, hlen]) | (simp (disch := (first | omega | (simp only [AL, List.length_map]; omega))) only [AR, AL, ifT, ifF, take_all, List.length_cons, List.length_nil, Int.reduceToNat, Int.reducePow, Nat.reducePow, i0, i3, h1, hlen]) | (refine wk_intro (by kernel_rfl) ?_))
    · have hpl := ratsC_len ps
      have hbr : bigR ps = ps.any bigN := by unfold bigR; rw [decide_eq_false hbig]; rfl
      clear hat hps
      repeat (first | (simp only [go_sem, Nat.reduceEqDiff, Nat.reduceAdd, Nat.reduceSub, Nat.reduceMul, Nat.reduceLeDiff, Nat.reduceLT, reduceIte, reduceCtorEq, Nat.succ_ne_zero, elemsC, Int.reduceToNat, Nat.reducePow, i0, i3, h1, hlen]) | (simp (disch := (first | omega | (simp only [AL, List.length_map]; omega))) only [AR, AL, ifT, ifF, take_all, List.length_cons, List.length_nil, Int.reduceToNat, Int.reducePow, Nat.reducePow, i0, i3, h1, hlen]) | (refine wk_intro (by kernel_rfl) ?_))
      refine vp_loop_inv (fun s => s.tmp 0 = .sv (.sl rows.length cs) ∧ s.tmp 3 = .sv (.int .i64 (i : Int)) ∧ ∃ k : Nat, s.tmp 4 = .sv (.int .i64 (k : Int)) ∧ k ≤ ps.length ∧ (ps.take k).any bigN = false)
        (fun s => match s.tmp 4 with | .sv (.int _ i) => ps.length - i.toNat | _ => 0) ⟨i0, i3, 0, rfl, by omega, rfl⟩ ?_
      rintro s3 ⟨j0, j3, k, j4, hk, hkb⟩
      by_cases hkend : k = ps.length
      · subst hkend
        rw [List.take_length] at hkb
        rw [hbr, hkb] at hor
        clear htr
        repeat (first | (simp only [go_sem, Nat.reduceEqDiff, Nat.reduceAdd, Nat.reduceSub, Nat.reduceMul, Nat.reduceLeDiff, Nat.reduceLT, reduceIte, reduceCtorEq, Nat.succ_ne_zero, elemsC, Int.reduceToNat, Nat.reducePow, j0, j3, j4, h1, hlen]) | (simp (disch := (first | omega | (simp only [AL, List.length_map]; omega))) only [AR, AL, ifT, ifF, take_all, List.length_cons, List.length_nil, Int.reduceToNat, Int.reducePow, Nat.reducePow, j0, j3, j4, h1, hlen]) | (refine wk_intro (by kernel_rfl) ?_))
        exact ⟨⟨i + 1, rfl, by omega, hor⟩, by omega⟩
      · obtain ⟨rest, g1⟩ := ratsC_at (ps := ps) (k := k) (by omega)
        have gor := any_take bigN ps noR (i := k) (by omega)
        have gtr := any_of_getD bigN ps noR (i := k) (by omega)
        rw [hkb, Bool.false_or] at gor
        generalize hp : ps.getD k noR = p at *
        obtain ⟨s, n, d⟩ := p
        simp only at g1
        by_cases c1 : 1 < n.length
        · rw [htr (by rw [hbr]; exact gtr (by unfold bigN; rw [decide_eq_true c1]; rfl))]
          clear htr gtr gor hor
          repeat (first | (simp only [go_sem, Nat.reduceEqDiff, Nat.reduceAdd, Nat.reduceSub, Nat.reduceMul, Nat.reduceLeDiff, Nat.reduceLT, reduceIte, reduceCtorEq, Nat.succ_ne_zero, elemsC, Int.reduceToNat, Nat.reducePow, j0, j3, j4, h1, hlen, g1, hpl, List.drop_succ_cons, List.drop_zero, List.head?_cons]) | (simp (disch := (first | omega | (simp only [AL, List.length_map]; omega))) only [AR, AL, ifT, ifF, take_all, List.length_cons, List.length_nil, Int.reduceToNat, Int.reducePow, Nat.reducePow, j0, j3, j4, h1, hlen, g1, hpl, List.drop_succ_cons, List.drop_zero, List.head?_cons]) | (refine wk_intro (by kernel_rfl) ?_))
        · by_cases c2 : 1 < d.length
          · rw [htr (by rw [hbr]; exact gtr (by unfold bigN; rw [decide_eq_true c2, Bool.or_true]))]
            clear htr gtr gor hor
            repeat (first | (simp only [go_sem, Nat.reduceEqDiff, Nat.reduceAdd, Nat.reduceSub, Nat.reduceMul, Nat.reduceLeDiff, Nat.reduceLT, reduceIte, reduceCtorEq, Nat.succ_ne_zero, elemsC, Int.reduceToNat, Nat.reducePow, j0, j3, j4, h1, hlen, g1, hpl, List.drop_succ_cons, List.drop_zero, List.head?_cons]) | (simp (disch := (first | omega | (simp only [AL, List.length_map]; omega))) only [AR, AL, ifT, ifF, take_all, List.length_cons, List.length_nil, Int.reduceToNat, Int.reducePow, Nat.reducePow, j0, j3, j4, h1, hlen, g1, hpl, List.drop_succ_cons, List.drop_zero, List.head?_cons]) | (refine wk_intro (by kernel_rfl) ?_))
          · have hbn : bigN (s, n, d) = false := by unfold bigN; rw [decide_eq_false c1, decide_eq_false c2]; rfl
            rw [hbn] at gor
            clear htr gtr hor hbn
            repeat (first | (simp only [go_sem, Nat.reduceEqDiff, Nat.reduceAdd, Nat.reduceSub, Nat.reduceMul, Nat.reduceLeDiff, Nat.reduceLT, reduceIte, reduceCtorEq, Nat.succ_ne_zero, elemsC, Int.reduceToNat, Nat.reducePow, j0, j3, j4, h1, hlen, g1, hpl, List.drop_succ_cons, List.drop_zero, List.head?_cons]) | (simp (disch := (first | omega | (simp only [AL, List.length_map]; omega))) only [AR, AL, ifT, ifF, take_all, List.length_cons, List.length_nil, Int.reduceToNat, Int.reducePow, Nat.reducePow, j0, j3, j4, h1, hlen, g1, hpl, List.drop_succ_cons, List.drop_zero, List.head?_cons]) | (refine wk_intro (by kernel_rfl) ?_))
            exact ⟨⟨k + 1, rfl, by omega, gor⟩, by omega⟩
/-- A row of whole numbers. -/
abbrev intsV (a : List Int) : SV := .sl a.length (a.map fun i => .int .i64 i)
theorem ints_at (a : List Int) {i : Nat} (h : i < a.length) : ((a.map fun i => SV.int .i64 i).drop i).head? = some (.int .i64 (a.getD i 0)) := by
  rw [List.head?_drop, List.getElem?_map, List.getD_eq_getElem?_getD, List.getElem?_eq_getElem h]
  rfl
theorem law19_numbers (a b : List Int) (ha : a.length ≤ 1000) (hb : b.length ≤ 1000) : Go.Ev.Fn CX 11 [intsV a, intsV b] (.bool (decide (a = b))) := by
  have ga := fun {i : Nat} (h : i < a.length) => ints_at a h
  have gb := fun {i : Nat} (h : i < b.length) => ints_at b h
  have la : (a.map fun i => SV.int .i64 i).length = a.length := List.length_map _
  have lb : (b.map fun i => SV.int .i64 i).length = b.length := List.length_map _
  show Go.Ev.Fn CX 11 [.sl a.length (a.map fun i => SV.int .i64 i), .sl b.length (b.map fun i => SV.int .i64 i)] _
  generalize (a.map fun i => SV.int .i64 i) = ca at *
  generalize (b.map fun i => SV.int .i64 i) = cb at *
  refine Go.Ev.Fn.intro (fn := Tryz.f11) (body := (Tryz.f11).body.get!) (by kernel_rfl) (by kernel_rfl) (by kernel_rfl) (fun _ => rfl) (Nat.le_of_ble_eq_true (by kernel_rfl)) ?_; unfold Tryz.f11; simp only [Option.get!_some]
  by_cases hl : a.length = b.length
  · repeat (first | (simp only [go_sem, Nat.reduceEqDiff, Nat.reduceAdd, Nat.reduceSub, Nat.reduceMul, Nat.reduceLeDiff, Nat.reduceLT, reduceIte, reduceCtorEq, Nat.succ_ne_zero, elemsC, Int.reduceToNat, Nat.reducePow]) | (simp (disch := (first | omega | (simp only [AL, List.length_map]; omega))) only [AR, AL, ifT, ifF, take_all, List.length_cons, List.length_nil, Int.reduceToNat, Int.reducePow, Nat.reducePow]) | (refine wk_intro (by kernel_rfl) ?_) | (refine vp_draw (id := 6) (l := []) (by kernel_rfl) ?_))
    refine vp_loop_inv (fun s => s.tmp 0 = .sv (.sl a.length ca) ∧ s.tmp 1 = .sv (.sl b.length cb) ∧ ∃ i : Nat, s.tmp 5 = .sv (.int .i64 i) ∧ i ≤ a.length ∧ a.take i = b.take i) (fun s => match s.tmp 5 with | .sv (.int _ i) => a.length - i.toNat | _ => 0) ⟨rfl, rfl, 0, rfl, by omega, rfl⟩ ?_
    rintro s ⟨i0, i1, i, i5, hi, ht⟩
    by_cases hend : i = a.length
    · subst hend
      rw [List.take_length, hl, List.take_length] at ht
      rw [decide_eq_true ht]
      repeat (first | (simp only [go_sem, Nat.reduceEqDiff, Nat.reduceAdd, Nat.reduceSub, Nat.reduceMul, Nat.reduceLeDiff, Nat.reduceLT, reduceIte, reduceCtorEq, Nat.succ_ne_zero, elemsC, Int.reduceToNat, Nat.reducePow, i0, i1, i5]) | (simp (disch := (first | omega | (simp only [AL, List.length_map]; omega))) only [AR, AL, ifT, ifF, take_all, List.length_cons, List.length_nil, Int.reduceToNat, Int.reducePow, Nat.reducePow, i0, i1, i5]) | (refine wk_intro (by kernel_rfl) ?_) | (refine vp_draw (id := 6) (l := []) (by kernel_rfl) ?_))
    · have e : ∀ c : List Int, i < c.length → c.take (i + 1) = c.take i ++ [c.getD i 0] := by
        intro c hc
        rw [List.take_add_one, List.getD_eq_getElem?_getD, List.getElem?_eq_getElem hc]
        rfl
      have h1 := ga (i := i) (by omega)
      have h2 := gb (i := i) (by omega)
      clear ga gb
      by_cases hx : a.getD i 0 = b.getD i 0
      · have hne : (a.getD i 0 != b.getD i 0) = false := by rw [hx]; exact bne_self_eq_false _
        have ht2 : a.take (i + 1) = b.take (i + 1) := by rw [e a (by omega), e b (by omega), ht, hx]
        clear e
        repeat (first | (simp only [go_sem, Nat.reduceEqDiff, Nat.reduceAdd, Nat.reduceSub, Nat.reduceMul, Nat.reduceLeDiff, Nat.reduceLT, reduceIte, reduceCtorEq, Nat.succ_ne_zero, elemsC, Int.reduceToNat, Nat.reducePow, i0, i1, i5, h1, h2, la, lb, hne]) | (simp (disch := (first | omega | (simp only [AL, List.length_map]; omega))) only [AR, AL, ifT, ifF, take_all, List.length_cons, List.length_nil, Int.reduceToNat, Int.reducePow, Nat.reducePow, i0, i1, i5, h1, h2, la, lb, hne]) | (refine wk_intro (by kernel_rfl) ?_) | (refine vp_draw (id := 6) (l := []) (by kernel_rfl) ?_))
        exact ⟨⟨i + 1, rfl, by omega, ht2⟩, by omega⟩
      · have hne : (a.getD i 0 != b.getD i 0) = true := bne_iff_ne.2 hx
        rw [decide_eq_false (fun h => hx (by rw [h]))]
        clear e
        repeat (first | (simp only [go_sem, Nat.reduceEqDiff, Nat.reduceAdd, Nat.reduceSub, Nat.reduceMul, Nat.reduceLeDiff, Nat.reduceLT, reduceIte, reduceCtorEq, Nat.succ_ne_zero, elemsC, Int.reduceToNat, Nat.reducePow, i0, i1, i5, h1, h2, la, lb, hne]) | (simp (disch := (first | omega | (simp only [AL, List.length_map]; omega))) only [AR, AL, ifT, ifF, take_all, List.length_cons, List.length_nil, Int.reduceToNat, Int.reducePow, Nat.reducePow, i0, i1, i5, h1, h2, la, lb, hne]) | (refine wk_intro (by kernel_rfl) ?_) | (refine vp_draw (id := 6) (l := []) (by kernel_rfl) ?_))
  · rw [decide_eq_false (fun h => hl (by rw [h]))]
    clear ga gb
    repeat (first | (simp only [go_sem, Nat.reduceEqDiff, Nat.reduceAdd, Nat.reduceSub, Nat.reduceMul, Nat.reduceLeDiff, Nat.reduceLT, reduceIte, reduceCtorEq, Nat.succ_ne_zero, elemsC, Int.reduceToNat, Nat.reducePow]) | (simp (disch := (first | omega | (simp only [AL, List.length_map]; omega))) only [AR, AL, ifT, ifF, take_all, List.length_cons, List.length_nil, Int.reduceToNat, Int.reducePow, Nat.reducePow]) | (refine wk_intro (by kernel_rfl) ?_) | (refine vp_draw (id := 6) (l := []) (by kernel_rfl) ?_))
end Go.Proofs.YtdnmhnjblgkjaaaGreat

/- test.isBelow, isTable; vernierref19.zero, by, rows, in the evaluator. -/
namespace Go.Proofs.YtdnmhnjblgkjaaaGreat
set_option linter.unusedSimpArgs false
set_option linter.unusedVariables false
set_option maxRecDepth 8000
open Go.Ev
theorem ref19_zero : Go.Ev.Fn CX 21 [] (rv 0) := by
  have r0 := ref2_Int 0 (by omega)
  rw [show ((0 : Int) : Rat) = 0 from rfl] at r0
  refine Go.Ev.Fn.intro (fn := Tryz.f21) (body := (Tryz.f21).body.get!) (by kernel_rfl) (by kernel_rfl) (by kernel_rfl) (fun _ => rfl) (Nat.le_of_ble_eq_true (by kernel_rfl)) ?_; unfold Tryz.f21; simp only [Option.get!_some]
  repeat (first | (simp only [go_sem, Nat.reduceEqDiff, Nat.reduceAdd, Nat.reduceSub, Nat.reduceMul, Nat.reduceLeDiff, Nat.reduceLT, reduceIte, reduceCtorEq, Nat.succ_ne_zero, elemsC, Int.reduceToNat, Nat.reducePow]) | (simp (disch := (first | omega | (simp only [AL, List.length_map]; omega))) only [AR, AL, ifT, ifF, take_all, List.length_cons, List.length_nil, Int.reduceToNat, Int.reducePow, Nat.reducePow]) | (refine wk_intro (by kernel_rfl) ?_) | (refine vf_of (by first | exact r0) ?_))
theorem ref19_by {v w : SV} {q r : Rat} {L M : Nat} (hv : RatA v q L) (hw : RatA w r M) (hL : 1 ≤ L) (hM : 1 ≤ M) (h : L + M ≤ 8388608) : Go.Ev.Fn CX 34 [v, w] (rv (q / r)) := by
  have d := ref2_Div hv hw hL hM (by omega)
  generalize decide (r ≠ 0) = b at *
  obtain ⟨s, n, d', rfl, -⟩ := hv
  obtain ⟨s', n', d'', rfl, -⟩ := hw
  refine Go.Ev.Fn.intro (fn := Tryz.f34) (body := (Tryz.f34).body.get!) (by kernel_rfl) (by kernel_rfl) (by kernel_rfl) (fun _ => rfl) (Nat.le_of_ble_eq_true (by kernel_rfl)) ?_; unfold Tryz.f34; simp only [Option.get!_some]
  repeat (first | (simp only [go_sem, Nat.reduceEqDiff, Nat.reduceAdd, Nat.reduceSub, Nat.reduceMul, Nat.reduceLeDiff, Nat.reduceLT, reduceIte, reduceCtorEq, Nat.succ_ne_zero, elemsC, Int.reduceToNat, Nat.reducePow]) | (simp (disch := (first | omega | (simp only [AL, List.length_map]; omega))) only [AR, AL, ifT, ifF, take_all, List.length_cons, List.length_nil, Int.reduceToNat, Int.reducePow, Nat.reducePow]) | (refine wk_intro (by kernel_rfl) ?_) | (refine vf_of (by first | exact d) ?_))
theorem test_isBelow {v : SV} {q : Rat} {L : Nat} (hv : RatA v q L) (hL : 1 ≤ L) (h : L ≤ 1000000) : Go.Ev.Fn CX 60 [v] (.bool (decide (q < 0))) := by
  have r0 := rat_Int 0 (by omega)
  have c := rat_Cmp hv (RatA_rv (int_szR (n := 0) (by omega))) hL (by omega) (by omega)
  have e : decide (cmpR q ((0 : Int) : Rat) < 0) = decide (q < 0) := cmpR_lt
  obtain ⟨s, n, d, rfl, -⟩ := hv
  refine Go.Ev.Fn.intro (fn := Tryz.f60) (body := (Tryz.f60).body.get!) (by kernel_rfl) (by kernel_rfl) (by kernel_rfl) (fun _ => rfl) (Nat.le_of_ble_eq_true (by kernel_rfl)) ?_; unfold Tryz.f60; simp only [Option.get!_some]
  repeat (first | (simp only [go_sem, Nat.reduceEqDiff, Nat.reduceAdd, Nat.reduceSub, Nat.reduceMul, Nat.reduceLeDiff, Nat.reduceLT, reduceIte, reduceCtorEq, Nat.succ_ne_zero, elemsC, Int.reduceToNat, Nat.reducePow, e]) | (simp (disch := (first | omega | (simp only [AL, List.length_map]; omega))) only [AR, AL, ifT, ifF, take_all, List.length_cons, List.length_nil, Int.reduceToNat, Int.reducePow, Nat.reducePow, e]) | (refine wk_intro (by kernel_rfl) ?_) | (refine vp_draw (id := 1) (l := []) (by kernel_rfl) ?_) | (refine vf_of (by first | exact r0 | exact c) ?_))
theorem quo_256 {w : Nat} (h1 : 2 ≤ w) (h2 : w ≤ 4) : ∃ m : Nat, Int.tdiv 256 (w : Int) = (m : Int) ∧ 64 ≤ m ∧ m ≤ 256 := by
  rcases (by omega : w = 2 ∨ w = 3 ∨ w = 4) with rfl | rfl | rfl
  · exact ⟨128, rfl, by omega, by omega⟩
  · exact ⟨85, rfl, by omega, by omega⟩
  · exact ⟨64, rfl, by omega, by omega⟩
section
variable {cs : List SV} {T : List (List Rat)}
theorem tab_ok (hl : ∀ r ∈ T, r.length ≤ 4) : ∀ i, (T.getD i []).length ≤ 4 := by
  intro i
  rw [List.getD_eq_getElem?_getD]
  by_cases h : i < T.length
  · rw [List.getElem?_eq_getElem h]; exact hl _ (List.getElem_mem h)
  · rw [List.getElem?_eq_none (by omega)]; simp
theorem test_isTable (h : TabC cs T 1) (hn : T.length ≤ 4) (hl : ∀ r ∈ T, r.length ≤ 4) : Go.Ev.Fn CX 25 [.sl T.length cs] (.int .i64 (tabE T)) := by
  have hlen := tab_len h
  have hat := fun {i : Nat} (hi : i < T.length) => tabC_at (i := i) h hi
  have h4 := tab_ok hl
  unfold tabE
  by_cases c1 : T.length < 2
  · rw [if_pos (.inl c1)]
    clear hat h4
    refine Go.Ev.Fn.intro (fn := Tryz.f25) (body := (Tryz.f25).body.get!) (by kernel_rfl) (by kernel_rfl) (by kernel_rfl) (fun _ => rfl) (Nat.le_of_ble_eq_true (by kernel_rfl)) ?_; unfold Tryz.f25; simp only [Option.get!_some]
    repeat (first | (simp only [go_sem, Nat.reduceEqDiff, Nat.reduceAdd, Nat.reduceSub, Nat.reduceMul, Nat.reduceLeDiff, Nat.reduceLT, reduceIte, reduceCtorEq, Nat.succ_ne_zero, elemsC, Int.reduceToNat, Nat.reducePow]) | (simp (disch := (first | omega | (simp only [AL, List.length_map]; omega))) only [AR, AL, ifT, ifF, take_all, List.length_cons, List.length_nil, Int.reduceToNat, Int.reducePow, Nat.reducePow]) | (refine wk_intro (by kernel_rfl) ?_))
  obtain ⟨rc0, a0, -⟩ := hat (i := 0) (by omega)
  have a0' : cs.head? = some (.sl (T.getD 0 []).length rc0) := a0
  have h40 := h4 0
  generalize hw : (T.getD 0 []).length = w at *
  by_cases c2 : w < 2
  · rw [if_pos (.inr c2)]
    clear hat h4
    refine Go.Ev.Fn.intro (fn := Tryz.f25) (body := (Tryz.f25).body.get!) (by kernel_rfl) (by kernel_rfl) (by kernel_rfl) (fun _ => rfl) (Nat.le_of_ble_eq_true (by kernel_rfl)) ?_; unfold Tryz.f25; simp only [Option.get!_some]
    repeat (first | (simp only [go_sem, Nat.reduceEqDiff, Nat.reduceAdd, Nat.reduceSub, Nat.reduceMul, Nat.reduceLeDiff, Nat.reduceLT, reduceIte, reduceCtorEq, Nat.succ_ne_zero, elemsC, Int.reduceToNat, Nat.reducePow, a0, a0', hlen]) | (simp (disch := (first | omega | (simp only [AL, List.length_map]; omega))) only [AR, AL, ifT, ifF, take_all, List.length_cons, List.length_nil, Int.reduceToNat, Int.reducePow, Nat.reducePow, a0, a0', hlen]) | (refine wk_intro (by kernel_rfl) ?_))
  rw [if_neg (by omega)]
  by_cases c3 : T.any (fun r => decide (r.length ≠ w)) = true
  · rw [if_pos c3]
    refine Go.Ev.Fn.intro (fn := Tryz.f25) (body := (Tryz.f25).body.get!) (by kernel_rfl) (by kernel_rfl) (by kernel_rfl) (fun _ => rfl) (Nat.le_of_ble_eq_true (by kernel_rfl)) ?_; unfold Tryz.f25; simp only [Option.get!_some]
    repeat (first | (simp only [go_sem, Nat.reduceEqDiff, Nat.reduceAdd, Nat.reduceSub, Nat.reduceMul, Nat.reduceLeDiff, Nat.reduceLT, reduceIte, reduceCtorEq, Nat.succ_ne_zero, elemsC, Int.reduceToNat, Nat.reducePow, a0, a0', hlen]) | (simp (disch := (first | omega | (simp only [AL, List.length_map]; omega))) only [AR, AL, ifT, ifF, take_all, List.length_cons, List.length_nil, Int.reduceToNat, Int.reducePow, Nat.reducePow, a0, a0', hlen]) | (refine wk_intro (by kernel_rfl) ?_))
    refine vp_loop_inv (fun s => s.tmp 0 = .sv (.sl T.length cs) ∧ s.tmp 19 = .sv (.sl T.length cs) ∧ s.tmp 20 = .sv (.int .i64 (T.length : Int)) ∧
        ∃ i : Nat, s.tmp 21 = .sv (.int .i64 (i : Int)) ∧ i ≤ T.length ∧ (T.take i).any (fun r => decide (r.length ≠ w)) = false)
      (fun s => match s.tmp 21 with | .sv (.int _ i) => T.length - i.toNat | _ => 0) ⟨rfl, rfl, rfl, 0, rfl, by omega, rfl⟩ ?_
    rintro s2 ⟨i0, i19, i20, i, i21, hi, hb⟩
    by_cases hend : i = T.length
    · subst hend
      rw [List.take_length, c3] at hb
      cases hb
    · obtain ⟨rc, a1, -⟩ := hat (i := i) (by omega)
      have h4i := h4 i
      have hor := any_take (fun r : List Rat => decide (r.length ≠ w)) T [] (i := i) (by omega)
      rw [hb, Bool.false_or] at hor
      generalize (T.getD i []).length = u at *
      clear hat h4 c3
      by_cases hu : u = w
      · subst hu
        rw [decide_eq_false (not_not_intro rfl)] at hor
        repeat (first | (simp only [go_sem, Nat.reduceEqDiff, Nat.reduceAdd, Nat.reduceSub, Nat.reduceMul, Nat.reduceLeDiff, Nat.reduceLT, reduceIte, reduceCtorEq, Nat.succ_ne_zero, elemsC, Int.reduceToNat, Nat.reducePow, i0, i19, i20, i21, a1, a0, a0', hlen]) | (simp (disch := (first | omega | (simp only [AL, List.length_map]; omega))) only [AR, AL, ifT, ifF, take_all, List.length_cons, List.length_nil, Int.reduceToNat, Int.reducePow, Nat.reducePow, i0, i19, i20, i21, a1, a0, a0', hlen]) | (refine wk_intro (by kernel_rfl) ?_))
        exact ⟨⟨i + 1, rfl, by omega, hor⟩, by omega⟩
      · clear hor
        repeat (first | (simp only [go_sem, Nat.reduceEqDiff, Nat.reduceAdd, Nat.reduceSub, Nat.reduceMul, Nat.reduceLeDiff, Nat.reduceLT, reduceIte, reduceCtorEq, Nat.succ_ne_zero, elemsC, Int.reduceToNat, Nat.reducePow, i0, i19, i20, i21, a1, a0, a0', hlen]) | (simp (disch := (first | omega | (simp only [AL, List.length_map]; omega))) only [AR, AL, ifT, ifF, take_all, List.length_cons, List.length_nil, Int.reduceToNat, Int.reducePow, Nat.reducePow, i0, i19, i20, i21, a1, a0, a0', hlen]) | (refine wk_intro (by kernel_rfl) ?_))
  rw [if_neg c3]
  have c3' := Bool.eq_false_iff.2 c3
  have hsame : ∀ i, i < T.length → (T.getD i []).length = w := by
    intro i hi
    have := fun e => c3 (any_of_getD (fun r : List Rat => decide (r.length ≠ w)) T [] hi e)
    by_cases e : (T.getD i []).length = w
    · exact e
    · exact absurd (decide_eq_true e) this
  obtain ⟨m, q1, q2, q3⟩ := quo_256 (w := w) (by omega) h40
  have hw0 : ¬ ((w : Int) = 0) := by omega
  clear h4 c3
  have key : ∀ (R : SV) (st : St), True := fun _ _ => trivial
  clear key
  by_cases c4 : T.any (fun r => r.any fun x => decide (x < 0)) = true
  · rw [if_pos c4]
    refine Go.Ev.Fn.intro (fn := Tryz.f25) (body := (Tryz.f25).body.get!) (by kernel_rfl) (by kernel_rfl) (by kernel_rfl) (fun _ => rfl) (Nat.le_of_ble_eq_true (by kernel_rfl)) ?_; unfold Tryz.f25; simp only [Option.get!_some]
    repeat (first | (simp only [go_sem, Nat.reduceEqDiff, Nat.reduceAdd, Nat.reduceSub, Nat.reduceMul, Nat.reduceLeDiff, Nat.reduceLT, reduceIte, reduceCtorEq, Nat.succ_ne_zero, elemsC, Int.reduceToNat, Nat.reducePow, a0, a0', hlen]) | (simp (disch := (first | omega | (simp only [AL, List.length_map]; omega))) only [AR, AL, ifT, ifF, take_all, List.length_cons, List.length_nil, Int.reduceToNat, Int.reducePow, Nat.reducePow, a0, a0', hlen]) | (refine wk_intro (by kernel_rfl) ?_))
    refine vp_loop_inv (fun s => s.tmp 0 = .sv (.sl T.length cs) ∧ s.tmp 19 = .sv (.sl T.length cs) ∧ s.tmp 20 = .sv (.int .i64 (T.length : Int)) ∧
        ∃ i : Nat, s.tmp 21 = .sv (.int .i64 (i : Int)) ∧ i ≤ T.length)
      (fun s => match s.tmp 21 with | .sv (.int _ i) => T.length - i.toNat | _ => 0) ⟨rfl, rfl, rfl, 0, rfl, by omega⟩ ?_
    rintro s2 ⟨i0, i19, i20, i, i21, hi⟩
    by_cases hend : i = T.length
    · subst hend
      repeat (first | (simp only [go_sem, Nat.reduceEqDiff, Nat.reduceAdd, Nat.reduceSub, Nat.reduceMul, Nat.reduceLeDiff, Nat.reduceLT, reduceIte, reduceCtorEq, Nat.succ_ne_zero, elemsC, Int.reduceToNat, Nat.reducePow, i0, i19, i20, i21, a0, a0', hlen, q1, hw0]) | (simp (disch := (first | omega | (simp only [AL, List.length_map]; omega))) only [AR, AL, ifT, ifF, take_all, List.length_cons, List.length_nil, Int.reduceToNat, Int.reducePow, Nat.reducePow, i0, i19, i20, i21, a0, a0', hlen, q1, hw0]) | (refine wk_intro (by kernel_rfl) ?_))
      refine vp_loop_inv (fun s => s.tmp 41 = .sv (.sl T.length cs) ∧ s.tmp 42 = .sv (.int .i64 (T.length : Int)) ∧
          ∃ i : Nat, s.tmp 43 = .sv (.int .i64 (i : Int)) ∧ i ≤ T.length ∧ (T.take i).any (fun r => r.any fun x => decide (x < 0)) = false)
        (fun s => match s.tmp 43 with | .sv (.int _ i) => T.length - i.toNat | _ => 0) ⟨rfl, rfl, 0, rfl, by omega, rfl⟩ ?_
      rintro s3 ⟨i41, i42, i, i43, hi, hb⟩
      by_cases hend : i = T.length
      · subst hend
        rw [List.take_length, c4] at hb
        cases hb
      · obtain ⟨rc, a1, hr⟩ := hat (i := i) (by omega)
        have hwi := hsame i (by omega)
        have hor := any_take (fun r : List Rat => r.any fun x => decide (x < 0)) T [] (i := i) (by omega)
        rw [hb, Bool.false_or] at hor
        generalize T.getD i [] = r at *
        have hrl := row_len hr
        clear hat c4 hsame
        repeat (first | (simp only [go_sem, Nat.reduceEqDiff, Nat.reduceAdd, Nat.reduceSub, Nat.reduceMul, Nat.reduceLeDiff, Nat.reduceLT, reduceIte, reduceCtorEq, Nat.succ_ne_zero, elemsC, Int.reduceToNat, Nat.reducePow, i41, i42, i43, a1, hlen, hwi]) | (simp (disch := (first | omega | (simp only [AL, List.length_map]; omega))) only [AR, AL, ifT, ifF, take_all, List.length_cons, List.length_nil, Int.reduceToNat, Int.reducePow, Nat.reducePow, i41, i42, i43, a1, hlen, hwi]) | (refine wk_intro (by kernel_rfl) ?_))
        refine vp_loop_inv (fun s => s.tmp 41 = .sv (.sl T.length cs) ∧ s.tmp 42 = .sv (.int .i64 (T.length : Int)) ∧ s.tmp 43 = .sv (.int .i64 (i : Int)) ∧ s.tmp 47 = .sv (.sl w rc) ∧ s.tmp 48 = .sv (.int .i64 (w : Int)) ∧
            ∃ k : Nat, s.tmp 49 = .sv (.int .i64 (k : Int)) ∧ k ≤ w ∧ (r.take k).any (fun x => decide (x < 0)) = false)
          (fun s => match s.tmp 49 with | .sv (.int _ i) => w - i.toNat | _ => 0) ⟨i41, i42, i43, rfl, rfl, 0, rfl, by omega, rfl⟩ ?_
        rintro s4 ⟨j41, j42, j43, j47, j48, k, j49, hk, hkb⟩
        by_cases hkend : k = w
        · subst hkend
          rw [← hwi, List.take_length] at hkb
          rw [hkb] at hor
          repeat (first | (simp only [go_sem, Nat.reduceEqDiff, Nat.reduceAdd, Nat.reduceSub, Nat.reduceMul, Nat.reduceLeDiff, Nat.reduceLT, reduceIte, reduceCtorEq, Nat.succ_ne_zero, elemsC, Int.reduceToNat, Nat.reducePow, j41, j42, j43, j47, j48, j49]) | (simp (disch := (first | omega | (simp only [AL, List.length_map]; omega))) only [AR, AL, ifT, ifF, take_all, List.length_cons, List.length_nil, Int.reduceToNat, Int.reducePow, Nat.reducePow, j41, j42, j43, j47, j48, j49]) | (refine wk_intro (by kernel_rfl) ?_))
          exact ⟨⟨i + 1, rfl, by omega, hor⟩, by omega⟩
        · obtain ⟨s, n, d, rest, g1, hA⟩ := row_at (i := k) hr (by omega)
          have b1 := test_isBelow hA (by omega) (by omega)
          have gor := any_take (fun x : Rat => decide (x < 0)) r 0 (i := k) (by omega)
          rw [hkb, Bool.false_or] at gor
          generalize r.getD k 0 = x at *
          clear hor hA
          by_cases hx : x < 0
          · rw [decide_eq_true hx] at b1
            clear gor
            repeat (first | (simp only [go_sem, Nat.reduceEqDiff, Nat.reduceAdd, Nat.reduceSub, Nat.reduceMul, Nat.reduceLeDiff, Nat.reduceLT, reduceIte, reduceCtorEq, Nat.succ_ne_zero, elemsC, Int.reduceToNat, Nat.reducePow, j41, j42, j43, j47, j48, j49, g1, hrl, hwi]) | (simp (disch := (first | omega | (simp only [AL, List.length_map]; omega))) only [AR, AL, ifT, ifF, take_all, List.length_cons, List.length_nil, Int.reduceToNat, Int.reducePow, Nat.reducePow, j41, j42, j43, j47, j48, j49, g1, hrl, hwi]) | (refine wk_intro (by kernel_rfl) ?_) | (refine vf_of (by first | exact b1) ?_))
          · rw [decide_eq_false hx] at b1 gor
            repeat (first | (simp only [go_sem, Nat.reduceEqDiff, Nat.reduceAdd, Nat.reduceSub, Nat.reduceMul, Nat.reduceLeDiff, Nat.reduceLT, reduceIte, reduceCtorEq, Nat.succ_ne_zero, elemsC, Int.reduceToNat, Nat.reducePow, j41, j42, j43, j47, j48, j49, g1, hrl, hwi]) | (simp (disch := (first | omega | (simp only [AL, List.length_map]; omega))) only [AR, AL, ifT, ifF, take_all, List.length_cons, List.length_nil, Int.reduceToNat, Int.reducePow, Nat.reducePow, j41, j42, j43, j47, j48, j49, g1, hrl, hwi]) | (refine wk_intro (by kernel_rfl) ?_) | (refine vf_of (by first | exact b1) ?_))
            exact ⟨⟨k + 1, rfl, by omega, gor⟩, by omega⟩
    · obtain ⟨rc, a1, -⟩ := hat (i := i) (by omega)
      have hwi := hsame i (by omega)
      clear hat c4 hsame
      repeat (first | (simp only [go_sem, Nat.reduceEqDiff, Nat.reduceAdd, Nat.reduceSub, Nat.reduceMul, Nat.reduceLeDiff, Nat.reduceLT, reduceIte, reduceCtorEq, Nat.succ_ne_zero, elemsC, Int.reduceToNat, Nat.reducePow, i0, i19, i20, i21, a1, a0, a0', hlen, hwi]) | (simp (disch := (first | omega | (simp only [AL, List.length_map]; omega))) only [AR, AL, ifT, ifF, take_all, List.length_cons, List.length_nil, Int.reduceToNat, Int.reducePow, Nat.reducePow, i0, i19, i20, i21, a1, a0, a0', hlen, hwi]) | (refine wk_intro (by kernel_rfl) ?_))
      exact ⟨⟨i + 1, rfl, by omega⟩, by omega⟩
  · rw [if_neg c4]
    have hneg : ∀ i k, i < T.length → k < w → ¬ (T.getD i []).getD k 0 < 0 := by
      intro i k hi hk hx
      refine c4 (any_of_getD _ T [] hi (any_of_getD (fun x : Rat => decide (x < 0)) _ 0 (i := k) ?_ (decide_eq_true hx)))
      rw [hsame i hi]; exact hk
    refine Go.Ev.Fn.intro (fn := Tryz.f25) (body := (Tryz.f25).body.get!) (by kernel_rfl) (by kernel_rfl) (by kernel_rfl) (fun _ => rfl) (Nat.le_of_ble_eq_true (by kernel_rfl)) ?_; unfold Tryz.f25; simp only [Option.get!_some]
    repeat (first | (simp only [go_sem, Nat.reduceEqDiff, Nat.reduceAdd, Nat.reduceSub, Nat.reduceMul, Nat.reduceLeDiff, Nat.reduceLT, reduceIte, reduceCtorEq, Nat.succ_ne_zero, elemsC, Int.reduceToNat, Nat.reducePow, a0, a0', hlen]) | (simp (disch := (first | omega | (simp only [AL, List.length_map]; omega))) only [AR, AL, ifT, ifF, take_all, List.length_cons, List.length_nil, Int.reduceToNat, Int.reducePow, Nat.reducePow, a0, a0', hlen]) | (refine wk_intro (by kernel_rfl) ?_))
    refine vp_loop_inv (fun s => s.tmp 0 = .sv (.sl T.length cs) ∧ s.tmp 19 = .sv (.sl T.length cs) ∧ s.tmp 20 = .sv (.int .i64 (T.length : Int)) ∧
        ∃ i : Nat, s.tmp 21 = .sv (.int .i64 (i : Int)) ∧ i ≤ T.length)
      (fun s => match s.tmp 21 with | .sv (.int _ i) => T.length - i.toNat | _ => 0) ⟨rfl, rfl, rfl, 0, rfl, by omega⟩ ?_
    rintro s2 ⟨i0, i19, i20, i, i21, hi⟩
    by_cases hend : i = T.length
    · subst hend
      repeat (first | (simp only [go_sem, Nat.reduceEqDiff, Nat.reduceAdd, Nat.reduceSub, Nat.reduceMul, Nat.reduceLeDiff, Nat.reduceLT, reduceIte, reduceCtorEq, Nat.succ_ne_zero, elemsC, Int.reduceToNat, Nat.reducePow, i0, i19, i20, i21, a0, a0', hlen, q1, hw0]) | (simp (disch := (first | omega | (simp only [AL, List.length_map]; omega))) only [AR, AL, ifT, ifF, take_all, List.length_cons, List.length_nil, Int.reduceToNat, Int.reducePow, Nat.reducePow, i0, i19, i20, i21, a0, a0', hlen, q1, hw0]) | (refine wk_intro (by kernel_rfl) ?_))
      refine vp_loop_inv (fun s => s.tmp 41 = .sv (.sl T.length cs) ∧ s.tmp 42 = .sv (.int .i64 (T.length : Int)) ∧
          ∃ i : Nat, s.tmp 43 = .sv (.int .i64 (i : Int)) ∧ i ≤ T.length)
        (fun s => match s.tmp 43 with | .sv (.int _ i) => T.length - i.toNat | _ => 0) ⟨rfl, rfl, 0, rfl, by omega⟩ ?_
      rintro s3 ⟨i41, i42, i, i43, hi⟩
      by_cases hend : i = T.length
      · subst hend
        repeat (first | (simp only [go_sem, Nat.reduceEqDiff, Nat.reduceAdd, Nat.reduceSub, Nat.reduceMul, Nat.reduceLeDiff, Nat.reduceLT, reduceIte, reduceCtorEq, Nat.succ_ne_zero, elemsC, Int.reduceToNat, Nat.reducePow, i41, i42, i43]) | (simp (disch := (first | omega | (simp only [AL, List.length_map]; omega))) only [AR, AL, ifT, ifF, take_all, List.length_cons, List.length_nil, Int.reduceToNat, Int.reducePow, Nat.reducePow, i41, i42, i43]) | (refine wk_intro (by kernel_rfl) ?_))
      · obtain ⟨rc, a1, hr⟩ := hat (i := i) (by omega)
        have hwi := hsame i (by omega)
        have hni := fun k hk => hneg i k (by omega) hk
        generalize T.getD i [] = r at *
        have hrl := row_len hr
        clear hat c4 hsame hneg
        repeat (first | (simp only [go_sem, Nat.reduceEqDiff, Nat.reduceAdd, Nat.reduceSub, Nat.reduceMul, Nat.reduceLeDiff, Nat.reduceLT, reduceIte, reduceCtorEq, Nat.succ_ne_zero, elemsC, Int.reduceToNat, Nat.reducePow, i41, i42, i43, a1, hlen, hwi]) | (simp (disch := (first | omega | (simp only [AL, List.length_map]; omega))) only [AR, AL, ifT, ifF, take_all, List.length_cons, List.length_nil, Int.reduceToNat, Int.reducePow, Nat.reducePow, i41, i42, i43, a1, hlen, hwi]) | (refine wk_intro (by kernel_rfl) ?_))
        refine vp_loop_inv (fun s => s.tmp 41 = .sv (.sl T.length cs) ∧ s.tmp 42 = .sv (.int .i64 (T.length : Int)) ∧ s.tmp 43 = .sv (.int .i64 (i : Int)) ∧ s.tmp 47 = .sv (.sl w rc) ∧ s.tmp 48 = .sv (.int .i64 (w : Int)) ∧
            ∃ k : Nat, s.tmp 49 = .sv (.int .i64 (k : Int)) ∧ k ≤ w)
          (fun s => match s.tmp 49 with | .sv (.int _ i) => w - i.toNat | _ => 0) ⟨i41, i42, i43, rfl, rfl, 0, rfl, by omega⟩ ?_
        rintro s4 ⟨j41, j42, j43, j47, j48, k, j49, hk⟩
        by_cases hkend : k = w
        · subst hkend
          repeat (first | (simp only [go_sem, Nat.reduceEqDiff, Nat.reduceAdd, Nat.reduceSub, Nat.reduceMul, Nat.reduceLeDiff, Nat.reduceLT, reduceIte, reduceCtorEq, Nat.succ_ne_zero, elemsC, Int.reduceToNat, Nat.reducePow, j41, j42, j43, j47, j48, j49]) | (simp (disch := (first | omega | (simp only [AL, List.length_map]; omega))) only [AR, AL, ifT, ifF, take_all, List.length_cons, List.length_nil, Int.reduceToNat, Int.reducePow, Nat.reducePow, j41, j42, j43, j47, j48, j49]) | (refine wk_intro (by kernel_rfl) ?_))
          exact ⟨⟨i + 1, rfl, by omega⟩, by omega⟩
        · obtain ⟨s, n, d, rest, g1, hA⟩ := row_at (i := k) hr (by omega)
          have b1 := test_isBelow hA (by omega) (by omega)
          have hx := hni k (by omega)
          rw [decide_eq_false hx] at b1
          clear hx hni hA
          repeat (first | (simp only [go_sem, Nat.reduceEqDiff, Nat.reduceAdd, Nat.reduceSub, Nat.reduceMul, Nat.reduceLeDiff, Nat.reduceLT, reduceIte, reduceCtorEq, Nat.succ_ne_zero, elemsC, Int.reduceToNat, Nat.reducePow, j41, j42, j43, j47, j48, j49, g1, hrl, hwi]) | (simp (disch := (first | omega | (simp only [AL, List.length_map]; omega))) only [AR, AL, ifT, ifF, take_all, List.length_cons, List.length_nil, Int.reduceToNat, Int.reducePow, Nat.reducePow, j41, j42, j43, j47, j48, j49, g1, hrl, hwi]) | (refine wk_intro (by kernel_rfl) ?_) | (refine vf_of (by first | exact b1) ?_))
          exact ⟨⟨k + 1, rfl, by omega⟩, by omega⟩
    · obtain ⟨rc, a1, -⟩ := hat (i := i) (by omega)
      have hwi := hsame i (by omega)
      clear hat c4 hsame hneg
      repeat (first | (simp only [go_sem, Nat.reduceEqDiff, Nat.reduceAdd, Nat.reduceSub, Nat.reduceMul, Nat.reduceLeDiff, Nat.reduceLT, reduceIte, reduceCtorEq, Nat.succ_ne_zero, elemsC, Int.reduceToNat, Nat.reducePow, i0, i19, i20, i21, a1, a0, a0', hlen, hwi]) | (simp (disch := (first | omega | (simp only [AL, List.length_map]; omega))) only [AR, AL, ifT, ifF, take_all, List.length_cons, List.length_nil, Int.reduceToNat, Int.reducePow, Nat.reducePow, i0, i19, i20, i21, a1, a0, a0', hlen, hwi]) | (refine wk_intro (by kernel_rfl) ?_))
      exact ⟨⟨i + 1, rfl, by omega⟩, by omega⟩
end
end Go.Proofs.YtdnmhnjblgkjaaaGreat
