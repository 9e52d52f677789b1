/-
  Contracts of functions that the law reaches: what each returns and what it leaves in memory. Conditions stand in each.
-/
import Derived.Test.YtmilaghhnaoidaaDoorT6
set_option linter.all false
set_option maxRecDepth 2000
/-
  A graph that came in.
-/
namespace Go.Proofs.Tst
open Go Go.Vc Go.RowKit Go.ChangeShapes Go.WideShapes Go.ChangeAt Go.Deep
section
variable {H : Type} {enc : TypeId × Value → H} {P : Program}
theorem weightsAll_mem {e : TypeId} {y : Nat} {d : DataW H} : ∀ {ds : List (DataW H)}, d ∈ ds → y ∈ d.weights P e → y ∈ DataW.weightsAll P e ds
  | [], h, _ => by simp at h
  | x :: r, h, hy => by
    rw [DataW.weightsAll, List.mem_append]
    rcases List.mem_cons.1 h with rfl | h
    · exact .inl hy
    · exact .inr (weightsAll_mem h hy)
theorem weightsEach_mem {y : Nat} {d : DataW H} {t : TypeId} : ∀ {k : Nat} {ts : List TypeId} {ds : List (DataW H)}, ts[k]? = some t → ds[k]? = some d → y ∈ d.weights P t → y ∈ DataW.weightsEach P ts ds
  | _, [], _, h, _, _ => by simp at h
  | _, _ :: _, [], _, h, _ => by simp at h
  | 0, _ :: _, _ :: _, h1, h2, hy => by
    simp at h1 h2; subst h1; subst h2
    rw [DataW.weightsEach, List.mem_append]; exact .inl hy
  | k + 1, _ :: _, _ :: _, h1, h2, hy => by
    rw [DataW.weightsEach, List.mem_append]
    exact .inr (weightsEach_mem (by simpa using h1) (by simpa using h2) hy)
variable {w : World} {base : Nat} {held : Bool}
theorem read_pairs {t e : TypeId} {f0 f1 : Field} {v : Value} {fuel : Nat} {x : DataW H × List MemPlace} (ht : P.underlying t = some (.slice e)) (he : P.underlying e = some (.struct #[f0, f1])) (ce : P.cellsOf e = 2) (hby : P.bytesOf e = 16)
    (o0 : f0.offset = 0) (o1 : f1.offset = 1) (c0 : P.cellsOf f0.type = 1) (c1 : P.cellsOf f1.type = 1) (u0 : P.underlying f0.type = some (.int .i64)) (u1 : P.underlying f1.type = some (.int .i64))
    (hf : DataW.trod enc P w base (fun _ => true) held fuel t [v] = some x) (hw : ∀ y ∈ x.1.weights P t, y ≤ reachBytes) :
    ∃ l : List (Int × Int), Rd 2 w.heap v l.length (pairsV l) ∧ l.length ≤ 8796093022208 := by
  rcases open_slice_pairs ht he ce o0 o1 c0 c1 hf with ⟨h1, h2⟩ | ⟨a', len, cap, m, k, V0, V1, D0, D1, P0, P1, h1, _, hlc, _, hm, rfl, hcell⟩
  · cases h1
    exact ⟨[], ⟨rfl, _, _, rfl, .inl rfl⟩, by simp⟩
  · cases h1
    simp only [if_true] at hm
    subst hm
    have hwt := hw _ (by simp only [DataW.weights, ht]; exact List.mem_cons_self ..)
    simp only [List.length_map, List.length_range, hby] at hwt
    unfold reachBytes at hwt
    obtain ⟨Z, hZ⟩ := choose_lt (α := Int × Int) (n := m) (p := fun i z => V0 i = .int .i64 z.1 ∧ V1 i = .int .i64 z.2) (fun i hi => by
      obtain ⟨_, _, g1, g2⟩ := hcell i hi
      obtain ⟨x, hx, _, hxw⟩ := DataW.trod_int u0 g1
      obtain ⟨y, hy, _, hyw⟩ := DataW.trod_int u1 g2
      exact ⟨(x, y), by simpa using hx, by simpa using hy⟩)
    have hl : ((List.range len).map Z).length = len := by simp
    refine ⟨(List.range len).map Z, ?_, by rw [hl]; omega⟩
    rw [hl]
    refine rd_of (by omega) (by simp) fun j hj => ?_
    obtain ⟨i, hij⟩ : ∃ i, j = i * 2 ∨ j = i * 2 + 1 := ⟨j / 2, by omega⟩
    have hi : i < len := by omega
    have hg : ((List.range len).map Z)[i]? = some (Z i) := by simp [hi]
    obtain ⟨g1, g2⟩ := pairsV_get _ _ _ hg
    obtain ⟨h3, h4, _, _⟩ := hcell i (by omega)
    obtain ⟨h5, h6⟩ := hZ i (by omega)
    rcases hij with rfl | rfl
    · exact ⟨_, g1, by rw [h3, h5]⟩
    · exact ⟨_, g2, by rw [h4, h6]⟩
theorem read_ints {t e : TypeId} {v : Value} {fuel : Nat} {x : DataW H × List MemPlace} (ht : P.underlying t = some (.slice e)) (he : P.underlying e = some (.int .i64)) (hc : P.cellsOf e = 1) (hby : P.bytesOf e = 8)
    (hf : DataW.trod enc P w base (fun _ => true) held fuel t [v] = some x) (hw : ∀ y ∈ x.1.weights P t, y ≤ reachBytes) :
    ∃ (l : List Int) (a : Option Addr) (c : Nat), v = .slice a l.length c ∧ l.length ≤ c ∧ Rd 1 w.heap (.slice a l.length c) l.length (intsV l) ∧ l.length ≤ 17592186044416 := by
  rcases open_ints ht he hc hf with ⟨h1, h2⟩ | ⟨a', len, cap, zs, h1, _, hlc, _, hz, rfl, hcell, hwf⟩
  · cases h1
    exact ⟨[], none, 0, rfl, Nat.le_refl _, ⟨rfl, _, _, rfl, .inl rfl⟩, by simp⟩
  · cases h1
    simp only [if_true] at hz
    have hwt := hw _ (by simp only [DataW.weights, ht]; exact List.mem_cons_self ..)
    simp only [lits, List.length_map, List.length_take, List.length_drop, hby] at hwt
    unfold reachBytes at hwt
    have hl : (zs.take len).length = len := by simp; omega
    refine ⟨zs.take len, some a', cap, by rw [hl], by rw [hl]; exact hlc, ?_, by rw [hl]; omega⟩
    rw [hl]
    refine rd_of (by omega) (by simp; omega) fun j hj => ?_
    have hj : j < zs.length := by omega
    refine ⟨.int .i64 (zs.getD j 0), ?_, hcell j hj⟩
    have : (zs.take len)[j]? = some (zs.getD j 0) := by
      rw [List.getElem?_take_of_lt (by omega)]; simp [hj]
    exact intsV_get this
theorem read_lists {t e i : TypeId} {v : Value} {fuel : Nat} {x : DataW H × List MemPlace} (ht : P.underlying t = some (.slice e)) (he : P.underlying e = some (.slice i)) (hi : P.underlying i = some (.int .i64)) (ce : P.cellsOf e = 1) (be : P.bytesOf e = 24) (ci : P.cellsOf i = 1) (bi : P.bytesOf i = 8)
    (hf : DataW.trod enc P w base (fun _ => true) held fuel t [v] = some x) (hw : ∀ y ∈ x.1.weights P t, y ≤ reachBytes) :
    ∃ (L : List (List Int)) (a : Option Addr) (c : Nat), v = .slice a L.length c ∧ L.length ≤ c ∧ RL w.heap (.slice a L.length c) (L.map intsV) ∧ RLc w.heap (.slice a L.length c) (L.map intsV) ∧ L.length ≤ 5864062014805 ∧ ∀ l ∈ L, l.length ≤ 17592186044416 := by
  rcases open_slice ht hf with ⟨h1, h2⟩ | ⟨a', len, cap, m, k, D, Pl, h1, _, hlc, _, hm, rfl, hcell⟩
  · cases h1
    exact ⟨[], none, 0, rfl, Nat.le_refl _, ⟨[], ⟨rfl, _, _, rfl, .inl rfl⟩, by simp⟩, ⟨[], ⟨rfl, _, _, rfl, .inl rfl⟩, by simp⟩, by simp, by simp⟩
  · cases h1
    simp only [if_true] at hm
    subst hm
    have hwt := hw _ (by simp only [DataW.weights, ht]; exact List.mem_cons_self ..)
    simp only [List.length_map, List.length_range, be] at hwt
    unfold reachBytes at hwt
    obtain ⟨Z, hZ⟩ := choose_lt (α := Value × List Int) (n := len) (p := fun i z => w.cell? (a'.add (i * 1)) = some z.1 ∧ (∃ a c, z.1 = .slice a z.2.length c ∧ z.2.length ≤ c ∧ Rd 1 w.heap (.slice a z.2.length c) z.2.length (intsV z.2)) ∧ z.2.length ≤ 17592186044416) (fun i hil => by
      obtain ⟨cs, hc1, hc2⟩ := hcell i (by omega)
      rw [ce] at hc1
      obtain ⟨_, hlen, hcs⟩ := World.cells?_some hc1
      have hDi : D i ∈ (List.range len).map D := List.mem_map.2 ⟨i, List.mem_range.2 hil, rfl⟩
      have hwD : ∀ y ∈ (D i).weights P e, y ≤ reachBytes := fun y hy => hw y (by
        simp only [DataW.weights, ht]
        exact List.mem_cons_of_mem _ (List.mem_append_left _ (weightsAll_mem hDi hy)))
      match cs, hlen with
      | [u], _ =>
        obtain ⟨l, a, c, h1, h2, h3, h4⟩ := read_ints he hi ci bi hc2 hwD
        have h0 := hcs 0 (by omega)
        refine ⟨(u, l), ?_, ⟨a, c, h1, h2, h3⟩, h4⟩
        rw [add_add] at h0
        simpa using h0)
    have hl : ((List.range len).map fun i => (Z i).2).length = len := by simp
    have hus : Rd 1 w.heap (.slice (some a') len m) len ((List.range len).map fun i => (Z i).1) := by
      refine rd_of (by omega) (by simp) fun j hj => ?_
      have hj' : j < len := by omega
      refine ⟨(Z j).1, by simp [hj'], ?_⟩
      have := (hZ j hj').1
      rwa [Nat.mul_one] at this
    have get : ∀ (i : Nat) (l : List Value), (((List.range len).map fun i => (Z i).2).map intsV)[i]? = some l → i < len ∧ l = intsV (Z i).2 := fun i l h => by
      have hil : i < len := by
        have := (List.getElem?_eq_some_iff.1 h).1
        simpa using this
      refine ⟨hil, ?_⟩
      simp [hil] at h
      exact h.symm
    refine ⟨(List.range len).map fun i => (Z i).2, some a', m, by rw [hl], by rw [hl]; exact hlc, ⟨(List.range len).map fun i => (Z i).1, ?_, fun i l h => ?_⟩, ⟨(List.range len).map fun i => (Z i).1, ?_, fun i l h => ?_⟩, by rw [hl]; omega, fun l hm => ?_⟩
    · simpa using hus
    · obtain ⟨hil, rfl⟩ := get i l h
      obtain ⟨-, ⟨a, c, h1, h2, h3⟩, -⟩ := hZ i hil
      exact ⟨_, by simp [hil]; rfl, by rw [h1, length_intsV]; exact h3⟩
    · simpa using hus
    · obtain ⟨hil, rfl⟩ := get i l h
      obtain ⟨-, ⟨a, c, h1, h2, h3⟩, -⟩ := hZ i hil
      exact ⟨a, c, by simp [hil, h1], by rw [length_intsV]; exact h2, by rw [length_intsV]; exact h3⟩
    · obtain ⟨i, hi, rfl⟩ := List.mem_map.1 hm
      exact (hZ i (List.mem_range.1 hi)).2.2
theorem read_events {t e ti tu : TypeId} {f0 f1 f2 f3 f4 : Field} {v : Value} {fuel : Nat} {x : DataW H × List MemPlace} (ht : P.underlying t = some (.slice e)) (he : P.underlying e = some (.struct #[f0, f1, f2, f3, f4])) (ce : P.cellsOf e = 5) (hby : P.bytesOf e = 40)
    (hO : f0.offset = 0 ∧ f1.offset = 1 ∧ f2.offset = 2 ∧ f3.offset = 3 ∧ f4.offset = 4) (hT : f0.type = ti ∧ f1.type = ti ∧ f2.type = ti ∧ f3.type = tu ∧ f4.type = ti) (ci : P.cellsOf ti = 1) (cu : P.cellsOf tu = 1) (ui : P.underlying ti = some (.int .i64)) (uu : P.underlying tu = some (.int .u64))
    (hf : DataW.trod enc P w base (fun _ => true) held fuel t [v] = some x) (hw : ∀ y ∈ x.1.weights P t, y ≤ reachBytes) :
    ∃ (l : List Ev), Rd 5 w.heap v l.length (evsV l) ∧ l.length ≤ 3518437208883 := by
  rcases open_slice ht hf with ⟨h1, h2⟩ | ⟨a', len, cap, m, k, D, Pl, h1, _, hlc, _, hm, rfl, hcell⟩
  · cases h1
    exact ⟨[], ⟨rfl, _, _, rfl, .inl rfl⟩, by simp⟩
  · cases h1
    simp only [if_true] at hm
    subst hm
    have hwt := hw _ (by simp only [DataW.weights, ht]; exact List.mem_cons_self ..)
    simp only [List.length_map, List.length_range, hby] at hwt
    unfold reachBytes at hwt
    obtain ⟨o0, o1, o2, o3, o4⟩ := hO
    obtain ⟨t0, t1, t2, t3, t4⟩ := hT
    obtain ⟨Z, hZ⟩ := choose_lt (α := Ev) (n := len) (p := fun i z => ∀ j, j < 5 → ∃ v, z.cells[j]? = some v ∧ w.cell? (a'.add (i * 5 + j)) = some v) (fun i hi => by
      obtain ⟨cs, hc1, hc2⟩ := hcell i (by omega)
      rw [ce] at hc1
      obtain ⟨_, hlen, hcs⟩ := World.cells?_some hc1
      obtain ⟨xs, k', hk, hxy, _, hxl, hfld⟩ := DataW.trod_struct he hc2
      match xs, hxl, cs, hlen with
      | [y0, y1, y2, y3, y4], _, [v0, v1, v2, v3, v4], _ =>
        have q0 := hfld 0 f0 rfl
        have q1 := hfld 1 f1 rfl
        have q2 := hfld 2 f2 rfl
        have q3 := hfld 3 f3 rfl
        have q4 := hfld 4 f4 rfl
        simp [o0, o1, o2, o3, o4, t0, t1, t2, t3, t4, ci, cu] at q0 q1 q2 q3 q4
        obtain ⟨x0, e0, -, -⟩ := DataW.trod_int ui q0
        obtain ⟨x1, e1, -, -⟩ := DataW.trod_int ui q1
        obtain ⟨x2, e2, -, -⟩ := DataW.trod_int ui q2
        obtain ⟨x3, e3, -, -⟩ := DataW.trod_int uu q3
        obtain ⟨x4, e4, -, -⟩ := DataW.trod_int ui q4
        simp at e0 e1 e2 e3 e4
        refine ⟨⟨x0, x1, x2, x3, x4⟩, fun j hj => ?_⟩
        have hj' := hcs j hj
        rw [add_add] at hj'
        have hcl : (Ev.cells ⟨x0, x1, x2, x3, x4⟩) = [v0, v1, v2, v3, v4] := by simp [Ev.cells, e0, e1, e2, e3, e4]
        rw [hcl]
        have hjl : j < [v0, v1, v2, v3, v4].length := hj
        exact ⟨_, List.getElem?_eq_getElem hjl, by rw [hj']; exact List.getElem?_eq_getElem hjl⟩)
    have hl : ((List.range len).map Z).length = len := by simp
    refine ⟨(List.range len).map Z, ?_, by rw [hl]; omega⟩
    rw [hl]
    refine rd_of (by omega) (by rw [length_evsV, hl]) fun j hj => ?_
    have hi : j / 5 < len := by omega
    have hg : ((List.range len).map Z)[j / 5]? = some (Z (j / 5)) := by simp [hi]
    obtain ⟨v, h3, h4⟩ := hZ (j / 5) hi (j % 5) (by omega)
    have hrow := evsV_get hg (j % 5) (by omega)
    rw [show j / 5 * 5 + j % 5 = j from by omega] at hrow h4
    exact ⟨v, by rw [hrow]; exact h3, h4⟩
/-- **A graph that came in.** -/
theorem arg_graph {r : Reach} {b0 : Nat} {t te tes tps tp tll tl ti tu : TypeId} {f0 f1 f2 f3 f4 f5 f6 f7 e0 e1 e2 e3 e4 g0 g1 : Field} {v : Value} {d : DataW H} {ps : List MemPlace} (ht : P.underlying t = some (.struct #[f0, f1, f2, f3, f4, f5, f6, f7])) (ct : P.cellsOf t = 8)
    (hO : f0.offset = 0 ∧ f1.offset = 1 ∧ f2.offset = 2 ∧ f3.offset = 3 ∧ f4.offset = 4 ∧ f5.offset = 5 ∧ f6.offset = 6 ∧ f7.offset = 7) (hT : f0.type = ti ∧ f1.type = tes ∧ f2.type = tps ∧ f3.type = tll ∧ f4.type = tps ∧ f5.type = tps ∧ f6.type = tps ∧ f7.type = tps)
    (ues : P.underlying tes = some (.slice te)) (ue : P.underlying te = some (.struct #[e0, e1, e2, e3, e4])) (ce : P.cellsOf te = 5) (be : P.bytesOf te = 40) (hEO : e0.offset = 0 ∧ e1.offset = 1 ∧ e2.offset = 2 ∧ e3.offset = 3 ∧ e4.offset = 4) (hET : e0.type = ti ∧ e1.type = ti ∧ e2.type = ti ∧ e3.type = tu ∧ e4.type = ti)
    (ups : P.underlying tps = some (.slice tp)) (up : P.underlying tp = some (.struct #[g0, g1])) (cp : P.cellsOf tp = 2) (bp : P.bytesOf tp = 16) (hPO : g0.offset = 0 ∧ g1.offset = 1 ∧ g0.type = ti ∧ g1.type = ti)
    (ull : P.underlying tll = some (.slice tl)) (ul : P.underlying tl = some (.slice ti)) (cl : P.cellsOf tl = 1) (bl : P.bytesOf tl = 24) (ui : P.underlying ti = some (.int .i64)) (ci : P.cellsOf ti = 1) (bi : P.bytesOf ti = 8) (uu : P.underlying tu = some (.int .u64)) (cu : P.cellsOf tu = 1)
    (ces : P.cellsOf tes = 1) (cps : P.cellsOf tps = 1) (cll : P.cellsOf tll = 1)
    (hval : Value.okWide P w r b0 t v) (hd : DataW.Trod enc P w base (fun _ => true) held t v d ps) (hw : ∀ x ∈ d.weights P t, x ≤ reachBytes) :
    ∃ (q : GV) (g : Gr), v = .agg (gcells q g).toArray ∧ GrAt w.heap q g := by
  obtain ⟨cs, rfl, hcs⟩ := okWide_struct ht hval
  obtain ⟨fuel, hf⟩ := hd
  have hf : DataW.trod enc P w base (fun _ => true) held fuel t cs.toList = some (d, ps) := hf
  obtain ⟨xs, k, hk, hx, hl, hxl, hfld⟩ := DataW.trod_struct ht hf
  simp only [Prod.mk.injEq] at hx
  obtain ⟨hD, -⟩ := hx
  obtain ⟨o0, o1, o2, o3, o4, o5, o6, o7⟩ := hO
  obtain ⟨t0, t1, t2, t3, t4, t5, t6, t7⟩ := hT
  obtain ⟨go0, go1, gt0, gt1⟩ := hPO
  rw [ct] at hl
  obtain ⟨cl'⟩ := cs
  match xs, hxl, cl', hl with
  | [y0, y1, y2, y3, y4, y5, y6, y7], _, [v0, v1, v2, v3, v4, v5, v6, v7], _ =>
    have q0 := hfld 0 f0 rfl
    have q1 := hfld 1 f1 rfl
    have q2 := hfld 2 f2 rfl
    have q3 := hfld 3 f3 rfl
    have q4 := hfld 4 f4 rfl
    have q5 := hfld 5 f5 rfl
    have q6 := hfld 6 f6 rfl
    have q7 := hfld 7 f7 rfl
    simp [o0, o1, o2, o3, o4, o5, o6, o7, t0, t1, t2, t3, t4, t5, t6, t7, ci, ces, cps, cll] at q0 q1 q2 q3 q4 q5 q6 q7
    simp only [List.map_cons, List.map_nil] at hD
    have wt : ∀ (j : Nat) (tj : TypeId) (y : DataW H), ([ti, tes, tps, tll, tps, tps, tps, tps] : List TypeId)[j]? = some tj → ([y0.1, y1.1, y2.1, y3.1, y4.1, y5.1, y6.1, y7.1] : List (DataW H))[j]? = some y → ∀ z ∈ y.weights P tj, z ≤ reachBytes := fun j tj y h1 h2 z hz => hw z (by
      rw [hD]; simp only [DataW.weights, ht]
      refine weightsEach_mem (k := j) (t := tj) (d := y) ?_ h2 hz
      simpa [t0, t1, t2, t3, t4, t5, t6, t7] using h1)
    obtain ⟨x0, e0', -, -⟩ := DataW.trod_int ui q0
    simp at e0'
    subst e0'
    obtain ⟨le, re, be'⟩ := read_events ues ue ce be hEO hET ci cu ui uu q1 (wt 1 _ _ rfl rfl)
    have rp := fun (v : Value) (y : DataW H × List MemPlace) (q : DataW.trod enc P w base (fun _ => true) held k tps [v] = some y) (hy : ∀ z ∈ y.1.weights P tps, z ≤ reachBytes) => read_pairs ups up cp bp go0 go1 (by rw [gt0]; exact ci) (by rw [gt1]; exact ci) (by rw [gt0]; exact ui) (by rw [gt1]; exact ui) q hy
    obtain ⟨lf, rf, bf⟩ := rp _ _ q2 (wt 2 _ _ rfl rfl)
    obtain ⟨L, la, lc, rfl, hLc, rL, rLc, bL, bl'⟩ := read_lists ull ul ui cl bl ci bi q3 (wt 3 _ _ rfl rfl)
    obtain ⟨lr, rr, br⟩ := rp _ _ q4 (wt 4 _ _ rfl rfl)
    obtain ⟨lad, ra, ba⟩ := rp _ _ q5 (wt 5 _ _ rfl rfl)
    obtain ⟨ld, rd', bd⟩ := rp _ _ q6 (wt 6 _ _ rfl rfl)
    obtain ⟨lct, rc, bc⟩ := rp _ _ q7 (wt 7 _ _ rfl rfl)
    obtain ⟨ea, ec, rfl⟩ := re.is
    obtain ⟨fa, fc, rfl⟩ := rf.is
    obtain ⟨ra', rc', rfl⟩ := rr.is
    obtain ⟨aa, ac, rfl⟩ := ra.is
    obtain ⟨da, dc, rfl⟩ := rd'.is
    obtain ⟨ca, cc, rfl⟩ := rc.is
    exact ⟨⟨ea, fa, la, ra', aa, da, ca, ec, fc, lc, rc', ac, dc, cc⟩, ⟨x0, le, lf, L, lr, lad, ld, lct⟩, rfl, ⟨re, rf, rL, rr, ra, rd', rc, ⟨be', bf, bL, br, ba, bd, bc, bl'⟩, hLc, rLc⟩⟩
end
end Go.Proofs.Tst
/-
  GraphSees.
-/
namespace Go.Proofs.Tst
open Go Go.Vc
theorem dec_self {α : Type} [DecidableEq α] (x : α) : decide (x = x) = true := by simp
end Go.Proofs.Tst
/-
  Plain laws of good graphs.
-/
namespace Go.Proofs.Tst
open Go Go.Vc
theorem firstBad_neg {f : Nat → Int × Int → Bool} : ∀ {l : List (Int × Int)} {i : Nat}, ¬ 0 ≤ Gr.firstBad f l i → ∀ p ∈ l, ∃ j, f j p = false
  | [], _, _, p, hp => by cases hp
  | q :: l, i, h, p, hp => by
    cases hf : f i q
    · rw [firstBad_ok hf] at h
      rcases List.mem_cons.1 hp with rfl | hp
      · exact ⟨i, hf⟩
      · exact firstBad_neg h p hp
    · rw [firstBad_bad hf] at h; omega
theorem rmw_before {g : Gr} (h : ¬ 0 ≤ g.rmwAt) {p : Int × Int} (hp : p ∈ g.rmw) : g.before p.1 p.2 = true := by
  obtain ⟨j, hj⟩ := firstBad_neg (f := g.rmwBad) h p hp
  unfold Gr.rmwBad at hj
  simp only [Bool.or_eq_false_iff, Bool.not_eq_false'] at hj
  have := hj.1.2
  unfold Gr.isNext at this
  simp only [Bool.and_eq_true] at this
  exact this.1
end Go.Proofs.Tst
/-
  The words' memory model: its relations, its check (plain).
-/
namespace Go.Proofs.Tst
open Go Go.Vc
def exB (n : Nat) (f : Nat → Bool) : Bool := (List.range n).any f
theorem exB_true {n : Nat} {f : Nat → Bool} : exB n f = true ↔ ∃ k, k < n ∧ f k = true := by
  unfold exB; simp [List.any_eq_true]
def isK (g : Gr) (k : Int) (i : Nat) : Bool := (g.ev i).kind == k
def isM (g : Gr) (m : Int) (i : Nat) : Bool := (g.ev i).mode == m
def rfeM (g : Gr) (i j : Nat) : Bool := relM g 1 i j && relM g 5 i j
def rfiM (g : Gr) (i j : Nat) : Bool := relM g 1 i j && !relM g 5 i j
def coeM (g : Gr) (i j : Nat) : Bool := relM g 2 i j && relM g 5 i j
def coiM (g : Gr) (i j : Nat) : Bool := relM g 2 i j && !relM g 5 i j
def freM (g : Gr) (i j : Nat) : Bool := relM g 9 i j && relM g 5 i j
def acqB (g : Gr) (i : Nat) : Bool := isM g 12 i || isM g 16 i
def lastB (g : Gr) (i : Nat) : Bool := g.rmw.any fun p => p.2 == (i : Int)
def obsM (g : Gr) (i j : Nat) : Bool := rfeM g i j || coeM g i j || freM g i j
def dobM (g : Gr) (i j : Nat) : Bool :=
  relM g 6 i j || relM g 7 i j || (relM g 8 i j && isK g 2 j) || (exB g.n (fun k => relM g 6 i k && relM g 0 k j) && isK g 2 j)
    || exB g.n (fun k => (relM g 8 i k || relM g 7 i k) && coiM g k j) || exB g.n (fun k => (relM g 6 i k || relM g 7 i k) && rfiM g k j)
def aobM (g : Gr) (i j : Nat) : Bool := relM g 3 i j || (lastB g i && rfiM g i j && acqB g j)
def bobM (g : Gr) (i j : Nat) : Bool :=
  exB g.n (fun k => relM g 0 i k && isM g 15 k && relM g 0 k j) || exB g.n (fun k => isK g 1 i && relM g 0 i k && isM g 14 k && relM g 0 k j)
    || (isM g 13 i && relM g 0 i j && isM g 12 j) || (acqB g i && relM g 0 i j) || (relM g 0 i j && isM g 13 j)
    || exB g.n (fun k => relM g 0 i k && isM g 13 k && coiM g k j)
def obM (g : Gr) (i j : Nat) : Bool := obsM g i j || dobM g i j || aobM g i j || bobM g i j
def inM (g : Gr) (i j : Nat) : Bool := (relM g 0 i j && relM g 4 i j) || relM g 1 i j || relM g 2 i j || relM g 9 i j
/-- Is a pair torn? -/
def tornB (g : Gr) (p : Int × Int) : Bool := inR g.n p.1 && inR g.n p.2 && exB g.n fun k => freM g p.1.toNat k && coeM g k p.2.toNat
def armAx (g : Gr) : Int × List Int :=
  if cycS g.n (inM g) ≠ [] then (1, (cycS g.n (inM g)).map fun (x : Nat) => (x : Int))
  else if cycS g.n (obM g) ≠ [] then (2, (cycS g.n (obM g)).map fun (x : Nat) => (x : Int))
  else match g.rmw.find? (tornB g) with | some p => (3, [p.1, p.2]) | none => (0, [])
theorem armAx_zero {g : Gr} : (armAx g).1 = 0 ↔ cycS g.n (inM g) = [] ∧ cycS g.n (obM g) = [] ∧ ∀ p ∈ g.rmw, tornB g p = false := by
  unfold armAx
  by_cases h1 : cycS g.n (inM g) = []
  · rw [if_neg (by simp [h1])]
    by_cases h2 : cycS g.n (obM g) = []
    · rw [if_neg (by simp [h2])]
      cases hf : g.rmw.find? (tornB g) with
      | none =>
        rw [List.find?_eq_none] at hf
        simp only [true_iff]
        exact ⟨h1, h2, fun p hp => by have := hf p hp; simpa using this⟩
      | some p =>
        have h3 := List.find?_some hf
        have h4 := List.mem_of_find?_eq_some hf
        simp only []
        constructor
        · intro h; exact absurd h (by decide)
        · rintro ⟨-, -, h5⟩; rw [h5 p h4] at h3; cases h3
    · rw [if_pos h2]
      simp only []
      constructor
      · intro h; exact absurd h (by decide)
      · rintro ⟨-, h, -⟩; exact absurd h h2
  · rw [if_pos h1]
    simp only []
    constructor
    · intro h; exact absurd h (by decide)
    · rintro ⟨h, -⟩; exact absurd h h1
theorem cyc_acyc {n : Nat} {M : Nat → Nat → Bool} : cycS n M = [] ↔ irrB n (plusM n M) = true := by
  constructor
  · intro h
    have := cycS_nil h
    unfold irrB
    rw [List.all_eq_true]
    intro i hi
    rw [this i (List.mem_range.1 hi)]; rfl
  · intro h
    unfold irrB at h
    rw [List.all_eq_true] at h
    apply Classical.byContradiction; intro hne
    obtain ⟨p, hp, -, hpp, -⟩ := cycS_is hne
    have := h p (List.mem_range.2 hp)
    rw [hpp] at this; cases this
theorem acyc_mono {n : Nat} {M N : Nat → Nat → Bool} (h : ∀ i j, i < n → j < n → M i j = true → N i j = true) (hN : irrB n (plusM n N) = true) : irrB n (plusM n M) = true := by
  unfold irrB at hN ⊢
  rw [List.all_eq_true] at hN ⊢
  intro i hi
  have hi' := List.mem_range.1 hi
  cases hp : plusM n M i i
  · rfl
  · have := plus_least (n := n) (M := M) (N := fun a b => plusM n N a b = true) (fun i j hi hj hm => plus_sub (h i j hi hj hm)) (fun _ x _ _ hx _ h1 h2 => plus_trans hx h1 h2) hi' hi' hp
    have h2 := hN i hi
    rw [this] at h2; cases h2
end Go.Proofs.Tst
/-
  What ARMv8's relations keep of any graph (plain).
-/
namespace Go.Proofs.Tst
open Go Go.Vc
end Go.Proofs.Tst
/-
  A graph with weaker modes and fewer pairs (plain).
-/
namespace Go.Proofs.Tst
open Go Go.Vc
def weakM (m m' : Int) : Prop := m' = m ∨ (m = 12 ∧ m' = 16) ∨ ((m = 12 ∨ m = 13 ∨ m = 16) ∧ m' = 11) ∨ (m = 15 ∧ m' = 14)
structure Weak (g h : Gr) : Prop where
  cells : h.cells = g.cells
  len : h.n = g.n
  rf : h.rf = g.rf
  co : h.co = g.co
  rmw : h.rmw = g.rmw
  thr : ∀ i, (h.ev i).thread = (g.ev i).thread
  kind : ∀ i, (h.ev i).kind = (g.ev i).kind
  loc : ∀ i, (h.ev i).loc = (g.ev i).loc
  val : ∀ i, (h.ev i).val = (g.ev i).val
  mode : ∀ i, weakM (g.ev i).mode (h.ev i).mode
  addr : h.addr.Sublist g.addr
  data : h.data.Sublist g.data
  ctrl : h.ctrl.Sublist g.ctrl
theorem firstEv_all {f : Nat → Bool} : ∀ (d i : Nat), (∀ j, i ≤ j → j < i + d → f j = false) → ¬ 0 ≤ Gr.firstEv f d i
  | 0, i, _ => by unfold Gr.firstEv; omega
  | d + 1, i, h => by
    rw [firstEv_ok (h i (Nat.le_refl _) (by omega))]
    exact firstEv_all d (i + 1) fun j h1 h2 => h j (by omega) (by omega)
namespace Weak
variable {g h : Gr}
theorem size (w : Weak g h) : h.size = g.size := by unfold Gr.size; rw [w.cells, w.len]
theorem is (w : Weak g h) (i k : Int) : h.is i k = g.is i k := by unfold Gr.is; rw [w.len, w.kind]
theorem before (w : Weak g h) (a b : Int) : h.before a b = g.before a b := by unfold Gr.before; rw [w.len, w.thr, w.thr]
theorem isNext (w : Weak g h) (a b : Int) : h.isNext a b = g.isNext a b := by unfold Gr.isNext; simp only [w.before, w.thr]
theorem writesOf (w : Weak g h) (c : Int) : h.writesOf c = g.writesOf c := by rw [writesOf_range, writesOf_range]; simp only [w.len, w.kind, w.loc]
theorem rfBad (w : Weak g h) (r k : Nat) : h.rfBad r k = g.rfBad r k := by unfold Gr.rfBad; simp only [w.rf, w.is, w.loc, w.val]
theorem rfGo (w : Weak g h) : ∀ d r k, h.rfGo d r k = g.rfGo d r k
  | 0, r, k => by unfold Gr.rfGo; rw [w.rf]
  | d + 1, r, k => by unfold Gr.rfGo; simp only [w.kind, w.rfBad, w.rfGo d]
theorem rfAt (w : Weak g h) : h.rfAt = g.rfAt := by unfold Gr.rfAt; rw [w.rfGo, w.len]
theorem coBad (w : Weak g h) (c : Nat) (l : List Int) : h.coBad c l = g.coBad c l := by unfold Gr.coBad; simp only [w.writesOf, w.is, w.loc]
theorem coAt (w : Weak g h) : h.coAt = g.coAt := by unfold Gr.coAt Gr.coFirst Gr.lists; simp only [w.co, w.cells, w.coBad]
theorem rmwAt (w : Weak g h) : h.rmwAt = g.rmwAt := by
  unfold Gr.rmwAt
  rw [w.rmw]
  refine firstBad_congr fun j p _ => ?_
  unfold Gr.rmwBad
  simp only [w.rmw, w.is, w.isNext, w.loc]
theorem modeOk (w : Weak g h) (i : Nat) (hk : Gr.modeOk true (g.ev i).kind (g.ev i).mode = true) : Gr.modeOk true (h.ev i).kind (h.ev i).mode = true := by
  have := w.mode i
  rw [w.kind]
  unfold Gr.modeOk at hk ⊢
  simp only [if_true, Bool.or_eq_true, Bool.and_eq_true, beq_iff_eq] at hk ⊢
  unfold weakM at this
  omega
theorem evOk (w : Weak g h) (i : Nat) (hk : g.evOk true (g.ev i) = true) : h.evOk true (h.ev i) = true := by
  unfold Gr.evOk at hk ⊢
  simp only [Bool.and_eq_true] at hk ⊢
  obtain ⟨⟨⟨h1, h2⟩, h3⟩, h4⟩ := hk
  refine ⟨⟨⟨?_, ?_⟩, w.modeOk i h3⟩, ?_⟩
  · rw [w.thr]; exact h1
  · rw [w.thr]; exact h2
  · rw [w.kind, w.loc, w.val, w.cells]; exact h4
theorem first (w : Weak g h) (c : Nat) (hk : g.ev c = Gr.first true c) : h.ev c = Gr.first true c := by
  have h1 := w.thr c; have h2 := w.kind c; have h3 := w.loc c; have h4 := w.val c; have h5 := w.mode c
  rw [hk] at h1 h2 h3 h4 h5
  have h5' : (h.ev c).mode = 11 := by
    unfold weakM Gr.first at h5; simp only [if_true] at h5; omega
  have h6 : (h.ev c).mode = (Gr.first true c).mode := h5'
  generalize h.ev c = e at h1 h2 h3 h4 h6
  generalize Gr.first true c = e' at h1 h2 h3 h4 h6
  cases e; cases e'
  simp only at h1 h2 h3 h4 h6
  rw [h1, h2, h3, h4, h6]
end Weak
/-- Rising pairs. -/
def Rises (l : List (Int × Int)) : Prop := l.Pairwise fun p q => p.1 < q.1 ∨ p.1 = q.1 ∧ p.2 < q.2
theorem rises_of : ∀ {l : List (Int × Int)}, (∀ i p q, l[i]? = some p → l[i + 1]? = some q → p.1 < q.1 ∨ p.1 = q.1 ∧ p.2 < q.2) → Rises l
  | [], _ => List.Pairwise.nil
  | [p], _ => List.pairwise_singleton _ _
  | p :: q :: l, h => by
    have ih : Rises (q :: l) := rises_of fun i a b ha hb => h (i + 1) a b (by simpa using ha) (by simpa using hb)
    refine List.Pairwise.cons (fun x hx => ?_) ih
    have h0 := h 0 p q rfl rfl
    rcases List.mem_cons.1 hx with rfl | hx
    · exact h0
    · have := (List.pairwise_cons.1 ih).1 x hx
      omega
theorem rises_at {l : List (Int × Int)} (h : Rises l) {i : Nat} {p q : Int × Int} (hp : l[i]? = some p) (hq : l[i + 1]? = some q) : p.1 < q.1 ∨ p.1 = q.1 ∧ p.2 < q.2 := by
  obtain ⟨h1, e1⟩ := List.getElem?_eq_some_iff.1 hp
  obtain ⟨h2, e2⟩ := List.getElem?_eq_some_iff.1 hq
  have := List.pairwise_iff_getElem.1 h i (i + 1) h1 h2 (by omega)
  rw [e1, e2] at this; exact this
theorem firstBad_get {f : Nat → Int × Int → Bool} : ∀ {l : List (Int × Int)} {i : Nat}, ¬ 0 ≤ Gr.firstBad f l i → ∀ j p, l[j]? = some p → f (i + j) p = false
  | [], _, _, j, p, hp => by simp at hp
  | q :: l, i, h, j, p, hp => by
    cases hf : f i q
    · rw [firstBad_ok hf] at h
      cases j with
      | zero => simp at hp; subst hp; exact hf
      | succ j => have := firstBad_get h j p (by simpa using hp); rw [show i + (j + 1) = i + 1 + j by omega]; exact this
    · rw [firstBad_bad hf] at h; omega
theorem firstBad_none {f : Nat → Int × Int → Bool} : ∀ {l : List (Int × Int)} {i : Nat}, (∀ j p, l[j]? = some p → f (i + j) p = false) → ¬ 0 ≤ Gr.firstBad f l i
  | [], _, _ => by unfold Gr.firstBad; omega
  | q :: l, i, h => by
    rw [firstBad_ok (by have := h 0 q rfl; exact this)]
    exact firstBad_none fun j p hp => by have := h (j + 1) p (by simpa using hp); rw [show i + 1 + j = i + (j + 1) by omega]; exact this
/-- A list of dependencies is in order. -/
theorem dep_iff {g : Gr} {l : List (Int × Int)} {f : Int → Bool} : ¬ 0 ≤ g.depAt true l f ↔ Rises l ∧ ∀ p ∈ l, g.is p.1 1 = true ∧ g.before p.1 p.2 = true ∧ f (g.ev p.2.toNat).kind = true := by
  unfold Gr.depAt
  constructor
  · intro h
    have hb := firstBad_get h
    refine ⟨rises_of fun i p q hp hq => ?_, fun p hp => ?_⟩
    · have := hb (i + 1) q hq
      unfold Gr.depBad at this
      simp only [Bool.or_eq_false_iff, Bool.and_eq_false_imp, decide_eq_true_eq] at this
      have h1 := this.1.1.1.1 (by omega)
      rw [Nat.zero_add, Nat.add_sub_cancel, List.getD_eq_getElem?_getD, hp, Option.getD_some] at h1
      simp only [decide_eq_false_iff_not, beq_iff_eq] at h1
      obtain ⟨h1, h2⟩ := h1
      by_cases he : q.1 = p.1
      · have := h2 he; right; exact ⟨he.symm, by omega⟩
      · left; omega
    · obtain ⟨j, hj⟩ := List.mem_iff_getElem?.1 hp
      have := hb j p hj
      unfold Gr.depBad at this
      simp only [Bool.or_eq_false_iff, Bool.not_eq_false'] at this
      exact ⟨this.1.1.2, this.1.2, this.2⟩
  · rintro ⟨hr, hp⟩
    refine firstBad_none fun j p hj => ?_
    obtain ⟨h1, h2, h3⟩ := hp p (List.mem_of_getElem? hj)
    unfold Gr.depBad
    rw [h1, h2, h3]
    simp only [Bool.not_true, Bool.or_false]
    by_cases h0 : 0 < 0 + j
    · obtain ⟨i, rfl⟩ : ∃ i, j = i + 1 := ⟨j - 1, by omega⟩
      have hlt := (List.getElem?_eq_some_iff.1 hj).1
      have hi : l[i]? = some l[i] := List.getElem?_eq_getElem (by omega)
      have := rises_at hr hi hj
      rw [Nat.zero_add, Nat.add_sub_cancel, List.getD_eq_getElem?_getD, hi, Option.getD_some]
      have e1 : decide (p.1 < l[i].1) = false := by simp; omega
      rw [e1]
      by_cases he : p.1 = l[i].1
      · have e2 : decide (p.2 ≤ l[i].2) = false := by simp; omega
        rw [e2]; simp
      · have : (p.1 == l[i].1) = false := by simpa using he
        rw [this]; simp
    · have : decide (0 < 0 + j) = false := by simpa using h0
      rw [this]; rfl
namespace Weak
variable {g h : Gr}
theorem dep (w : Weak g h) {l l' : List (Int × Int)} {f : Int → Bool} (hs : l'.Sublist l) (hd : ¬ 0 ≤ g.depAt true l f) : ¬ 0 ≤ h.depAt true l' f := by
  obtain ⟨h1, h2⟩ := dep_iff.1 hd
  refine dep_iff.2 ⟨h1.sublist hs, fun p hp => ?_⟩
  obtain ⟨a, b, c⟩ := h2 p (hs.subset hp)
  rw [w.is, w.before, w.kind]; exact ⟨a, b, c⟩
theorem check (w : Weak g h) (hg : (g.check true).1 = 0) : (h.check true).1 = 0 := by
  obtain ⟨h1, h2, h3, h4, h5, h6, h7, h8, h9⟩ := check_zero hg
  have k2 : ¬ 0 ≤ h.initAt true := by
    unfold Gr.initAt at h2 ⊢
    refine firstEv_all _ _ fun j hj hj' => ?_
    rw [w.cells] at hj'
    have := firstEv_neg _ _ h2 j hj hj'
    simp only [Bool.not_eq_false', beq_iff_eq] at this ⊢
    exact w.first j this
  have k3 : ¬ 0 ≤ h.evAt true := by
    unfold Gr.evAt at h3 ⊢
    refine firstEv_all _ _ fun j hj hj' => ?_
    rw [w.cells] at hj hj'
    rw [w.len] at hj'
    have := firstEv_neg _ _ h3 j hj hj'
    simp only [Bool.not_eq_false'] at this ⊢
    exact w.evOk j this
  unfold Gr.check
  rw [w.size, h1, if_neg (by simp), if_neg k2, if_neg k3, if_neg (by rw [w.rfAt]; exact h4), if_neg (by rw [w.coAt]; exact h5), if_neg (by rw [w.rmwAt]; exact h6), if_neg (w.dep w.addr h7), if_neg (w.dep w.data h8), if_neg (w.dep w.ctrl h9)]
theorem po (w : Weak g h) (i j : Nat) : relM h 0 i j = relM g 0 i j := w.before i j
theorem relRf (w : Weak g h) (i j : Nat) : relM h 1 i j = relM g 1 i j := by show ofM h.n h.rf i j = ofM g.n g.rf i j; rw [w.len, w.rf]
theorem relCo (w : Weak g h) (i j : Nat) : relM h 2 i j = relM g 2 i j := by show ofM h.n (coPairs h) i j = ofM g.n (coPairs g) i j; unfold coPairs; rw [w.len, w.co]
theorem relRmw (w : Weak g h) (i j : Nat) : relM h 3 i j = relM g 3 i j := by show ofM h.n h.rmw i j = ofM g.n g.rmw i j; rw [w.len, w.rmw]
theorem relSame (w : Weak g h) (i j : Nat) : relM h 4 i j = relM g 4 i j := by show h.sameM i j = g.sameM i j; unfold Gr.sameM; rw [w.loc, w.loc]
theorem relExt (w : Weak g h) (i j : Nat) : relM h 5 i j = relM g 5 i j := by show h.extM i j = g.extM i j; unfold Gr.extM; rw [w.thr, w.thr]
theorem relFr (w : Weak g h) (i j : Nat) : relM h 9 i j = relM g 9 i j := by
  show compM h.n (invM (ofM h.n h.rf)) h.n (ofM h.n (coPairs h)) i j = compM g.n (invM (ofM g.n g.rf)) g.n (ofM g.n (coPairs g)) i j
  unfold coPairs; rw [w.len, w.rf, w.co]
theorem ofSub {n : Nat} {l l' : List (Int × Int)} (hs : l'.Sublist l) {i j : Nat} (hm : ofM n l' i j = true) : ofM n l i j = true := by
  unfold ofM at hm ⊢
  rw [List.any_eq_true] at hm ⊢
  obtain ⟨p, hp, hm⟩ := hm
  exact ⟨p, hs.subset hp, hm⟩
theorem relDep (w : Weak g h) {k : Nat} (hk : k = 6 ∨ k = 7 ∨ k = 8) {i j : Nat} (hm : relM h k i j = true) : relM g k i j = true := by
  rcases hk with rfl | rfl | rfl
  · exact ofSub w.addr (by rw [← w.len]; exact hm)
  · exact ofSub w.data (by rw [← w.len]; exact hm)
  · exact ofSub w.ctrl (by rw [← w.len]; exact hm)
theorem rfi (w : Weak g h) (i j : Nat) : rfiM h i j = rfiM g i j := by unfold rfiM; rw [w.relRf, w.relExt]
theorem coi (w : Weak g h) (i j : Nat) : coiM h i j = coiM g i j := by unfold coiM; rw [w.relCo, w.relExt]
theorem coe (w : Weak g h) (i j : Nat) : coeM h i j = coeM g i j := by unfold coeM; rw [w.relCo, w.relExt]
theorem fre (w : Weak g h) (i j : Nat) : freM h i j = freM g i j := by unfold freM; rw [w.relFr, w.relExt]
theorem rfe (w : Weak g h) (i j : Nat) : rfeM h i j = rfeM g i j := by unfold rfeM; rw [w.relRf, w.relExt]
theorem obs (w : Weak g h) (i j : Nat) : obsM h i j = obsM g i j := by unfold obsM; rw [w.rfe, w.coe, w.fre]
theorem inn (w : Weak g h) (i j : Nat) : inM h i j = inM g i j := by unfold inM; rw [w.po, w.relSame, w.relRf, w.relCo, w.relFr]
theorem torn (w : Weak g h) (p : Int × Int) : tornB h p = tornB g p := by unfold tornB; simp only [w.len, w.fre, w.coe]
theorem isK' (w : Weak g h) (k : Int) (i : Nat) : isK h k i = isK g k i := by unfold isK; rw [w.kind]
theorem isM' (w : Weak g h) {m : Int} (hm : m = 12 ∨ m = 13 ∨ m = 15) {i : Nat} (h1 : isM h m i = true) : isM g m i = true := by
  have := w.mode i
  unfold isM at h1 ⊢
  simp only [beq_iff_eq] at h1 ⊢
  unfold weakM at this
  omega
theorem acq (w : Weak g h) {i : Nat} (h1 : acqB h i = true) : acqB g i = true := by
  have := w.mode i
  unfold acqB isM at h1 ⊢
  simp only [Bool.or_eq_true, beq_iff_eq] at h1 ⊢
  unfold weakM at this
  omega
theorem ld (w : Weak g h) {i : Nat} (h1 : isM h 14 i = true) : isM g 14 i = true ∨ isM g 15 i = true := by
  have := w.mode i
  unfold isM at h1 ⊢
  simp only [beq_iff_eq] at h1 ⊢
  unfold weakM at this
  omega
theorem dob (w : Weak g h) {i j : Nat} (hd : dobM h i j = true) : dobM g i j = true := by
  unfold dobM at hd ⊢
  simp only [Bool.or_eq_true, Bool.and_eq_true, exB_true, w.po, w.rfi, w.coi, w.isK', w.len] at hd ⊢
  have d6 : ∀ {i j}, relM h 6 i j = true → relM g 6 i j = true := fun x => w.relDep (by decide) x
  have d7 : ∀ {i j}, relM h 7 i j = true → relM g 7 i j = true := fun x => w.relDep (by decide) x
  have d8 : ∀ {i j}, relM h 8 i j = true → relM g 8 i j = true := fun x => w.relDep (by decide) x
  rcases hd with ((((hd | hd) | ⟨hd, he⟩) | ⟨⟨k, hk, h1, h2⟩, h3⟩) | ⟨k, hk, h1, h2⟩) | ⟨k, hk, h1, h2⟩
  · exact .inl (.inl (.inl (.inl (.inl (d6 hd)))))
  · exact .inl (.inl (.inl (.inl (.inr (d7 hd)))))
  · exact .inl (.inl (.inl (.inr ⟨d8 hd, he⟩)))
  · exact .inl (.inl (.inr ⟨⟨k, hk, d6 h1, h2⟩, h3⟩))
  · exact .inl (.inr ⟨k, hk, h1.imp d8 d7, h2⟩)
  · exact .inr ⟨k, hk, h1.imp d6 d7, h2⟩
theorem aob (w : Weak g h) {i j : Nat} (hd : aobM h i j = true) : aobM g i j = true := by
  have hl : lastB h i = lastB g i := by unfold lastB; rw [w.rmw]
  unfold aobM at hd ⊢
  simp only [Bool.or_eq_true, Bool.and_eq_true, w.relRmw, w.rfi, hl] at hd ⊢
  exact hd.imp id fun ⟨h1, h2⟩ => ⟨h1, w.acq h2⟩
theorem bob (w : Weak g h) {i j : Nat} (hd : bobM h i j = true) : bobM g i j = true := by
  unfold bobM at hd ⊢
  simp only [Bool.or_eq_true, Bool.and_eq_true, exB_true, w.po, w.coi, w.isK', w.len] at hd ⊢
  have m12 : ∀ {i}, isM h 12 i = true → isM g 12 i = true := fun x => w.isM' (by decide) x
  have m13 : ∀ {i}, isM h 13 i = true → isM g 13 i = true := fun x => w.isM' (by decide) x
  have m15 : ∀ {i}, isM h 15 i = true → isM g 15 i = true := fun x => w.isM' (by decide) x
  rcases hd with ((((⟨k, hk, ⟨h1, h3⟩, h2⟩ | ⟨k, hk, ⟨⟨h4, h1⟩, h3⟩, h2⟩) | ⟨⟨h3, h1⟩, h4⟩) | ⟨h3, h1⟩) | ⟨h1, h3⟩) | ⟨k, hk, ⟨h1, h3⟩, h2⟩
  · exact .inl (.inl (.inl (.inl (.inl ⟨k, hk, ⟨h1, m15 h3⟩, h2⟩))))
  · rcases w.ld h3 with h3 | h3
    · exact .inl (.inl (.inl (.inl (.inr ⟨k, hk, ⟨⟨h4, h1⟩, h3⟩, h2⟩))))
    · exact .inl (.inl (.inl (.inl (.inl ⟨k, hk, ⟨h1, h3⟩, h2⟩))))
  · exact .inl (.inl (.inl (.inr ⟨⟨m13 h3, h1⟩, m12 h4⟩)))
  · exact .inl (.inl (.inr ⟨w.acq h3, h1⟩))
  · exact .inl (.inr ⟨h1, m13 h3⟩)
  · exact .inr ⟨k, hk, ⟨h1, m13 h3⟩, h2⟩
theorem ob (w : Weak g h) {i j : Nat} (hd : obM h i j = true) : obM g i j = true := by
  unfold obM at hd ⊢
  simp only [Bool.or_eq_true, w.obs] at hd ⊢
  exact hd.imp (fun x => x.imp (fun x => x.imp id w.dob) w.aob) w.bob
theorem allowed (w : Weak g h) (ha : (armAx g).1 = 0) : (armAx h).1 = 0 := by
  obtain ⟨h1, h2, h3⟩ := armAx_zero.1 ha
  refine armAx_zero.2 ⟨?_, ?_, fun p hp => ?_⟩
  · rw [w.len, show inM h = inM g from funext fun i => funext fun j => w.inn i j]; exact h1
  · rw [w.len]
    exact cyc_acyc.2 (acyc_mono (fun i j _ _ hm => w.ob hm) (cyc_acyc.1 h2))
  · rw [w.torn]; rw [w.rmw] at hp; exact h3 p hp
end Weak
end Go.Proofs.Tst
/-
  Is a relation of the program's the document's?
-/
namespace Go.Proofs.Tst
open Go Go.Vc
end Go.Proofs.Tst
/-
  Changed graphs in memory.
-/
namespace Go.Proofs.Tst
open Go Go.Vc
theorem rlc_rl {h : Heap} {v : Value} {L : List (List Value)} (t : RLc h v L) : RL h v L := by
  obtain ⟨us, h1, h2⟩ := t
  exact ⟨us, h1, fun i l hl => by obtain ⟨a, c, h3, -, h5⟩ := h2 i l hl; exact ⟨_, h3, h5⟩⟩
theorem GrAt.setA {h : Heap} {q : GV} {g : Gr} (t : GrAt h q g) {l : List (Int × Int)} {a : Option Addr} {c : Nat} (w : Rd 2 h (.slice a l.length c) l.length (pairsV l)) (b : l.length ≤ 8796093022208) : GrAt h { q with a := a, ac := c } { g with addr := l } :=
  ⟨t.e, t.f, t.o, t.r, w, t.d, t.c, ⟨t.fits.e, t.fits.f, t.fits.o, t.fits.r, b, t.fits.d, t.fits.c, t.fits.l⟩, t.cap, t.l⟩
theorem GrAt.setD {h : Heap} {q : GV} {g : Gr} (t : GrAt h q g) {l : List (Int × Int)} {a : Option Addr} {c : Nat} (w : Rd 2 h (.slice a l.length c) l.length (pairsV l)) (b : l.length ≤ 8796093022208) : GrAt h { q with d := a, dc := c } { g with data := l } :=
  ⟨t.e, t.f, t.o, t.r, t.a, w, t.c, ⟨t.fits.e, t.fits.f, t.fits.o, t.fits.r, t.fits.a, b, t.fits.c, t.fits.l⟩, t.cap, t.l⟩
theorem GrAt.setC {h : Heap} {q : GV} {g : Gr} (t : GrAt h q g) {l : List (Int × Int)} {a : Option Addr} {c : Nat} (w : Rd 2 h (.slice a l.length c) l.length (pairsV l)) (b : l.length ≤ 8796093022208) : GrAt h { q with c := a, cc := c } { g with ctrl := l } :=
  ⟨t.e, t.f, t.o, t.r, t.a, t.d, w, ⟨t.fits.e, t.fits.f, t.fits.o, t.fits.r, t.fits.a, t.fits.d, b, t.fits.l⟩, t.cap, t.l⟩
end Go.Proofs.Tst
/-
  The document's relations of a graph.
-/
namespace Go.Proofs.Tst
open Go Go.Vc
end Go.Proofs.Tst
/-
  GraphLaws.
-/
namespace Go.Proofs.Tst
open Go Go.Vc
theorem bools_at {h : Heap} {a : Option Addr} {n c : Nat} {l : List Bool} (w : Rd 1 h (.slice a n c) n (boolsV l)) (hn : 0 < n) : ∃ b o, a = some ⟨b, o, none⟩ ∧ ∀ h', Fr 0 0 h h' → ∀ i x, l[i]? = some x → hcell h' b (o + i) = some (.bool x) := by
  obtain ⟨hl, a', c', k1, k2⟩ := w
  cases k1
  rcases k2 with k2 | ⟨b, o, k3, k4⟩
  · omega
  · exact ⟨b, o, k3, fun h' f i x hx => f.keep (k4 i _ (boolsV_get hx)) (by omega)⟩
theorem kindsV_get {g : Gr} {k : Int} {i : Nat} (hi : i < g.n) : (kindsV g k g.n)[i]? = some ((g.ev i).kind == k) := by
  unfold kindsV
  rw [List.getElem?_map, List.getElem?_take_of_lt hi, Gr.ev_get hi]; rfl
end Go.Proofs.Tst
/-
  whole: are facts the document's?
-/
namespace Go.Proofs.Tst
open Go Go.Vc
end Go.Proofs.Tst
/-
  GraphDerives.
-/
namespace Go.Proofs.Tst
open Go Go.Vc
theorem FactsAt.fr {h h' : Heap} {lo l r : Nat} {p : Nat → Value} {rd wr fe : Value} {g : Gr} (F : FactsAt h lo p rd wr fe g) (f : Fr l r h h') (hd : r ≤ lo) : FactsAt h' lo p rd wr fe g := by
  obtain ⟨A, B, D, dlo, dap⟩ := F.rel
  have a1 := F.hrd.at_
  have a2 := F.hwr.at_
  have a3 := F.hfe.at_
  have fz := f.size
  exact ⟨F.n, ⟨A, B, D.fr f (fun k hk => by have := dlo k hk; omega), fun k hk => by have := dlo k hk; omega, dap⟩, F.hrd.fr f (by omega), F.hwr.fr f (by omega), F.hfe.fr f (by omega), F.off⟩
end Go.Proofs.Tst
/-
  Events changed in place.
-/
namespace Go.Proofs.Tst
open Go Go.Vc
def setMode (E : List Ev) (i : Nat) (m : Int) : List Ev := E.set i { E.getD i default with mode := m }
@[simp] theorem length_setMode {E : List Ev} {i : Nat} {m : Int} : (setMode E i m).length = E.length := by simp [setMode]
theorem evsV_setMode : ∀ {E : List Ev} {i : Nat} {m : Int}, i < E.length → (evsV E).set (i * 5 + 4) (.int .i64 m) = evsV (setMode E i m)
  | [], i, _, h => by simp at h
  | e :: E, 0, m, _ => rfl
  | e :: E, i + 1, m, h => by
    have ih := evsV_setMode (E := E) (i := i) (m := m) (by simpa using h)
    have h1 : setMode (e :: E) (i + 1) m = e :: setMode E i m := by simp [setMode]
    have h2 : e.cells.length = 5 := rfl
    rw [h1, evsV_cons, evsV_cons, ← ih, List.set_append_right _ _ (by omega), h2]
    congr 2; omega
theorem putAt_right {a : List Value} : ∀ (ws r : List Value) (o : Nat), putAt (a ++ r) (a.length + o) ws = a ++ putAt r o ws
  | [], _, _ => rfl
  | v :: ws, r, o => by
    show putAt ((a ++ r).set (a.length + o) v) (a.length + o + 1) ws = a ++ putAt (r.set o v) (o + 1) ws
    rw [List.set_append_right _ _ (by omega), Nat.add_sub_cancel_left, Nat.add_assoc]
    exact putAt_right ws _ _
theorem putAt_left {r : List Value} : ∀ (ws a : List Value) (o : Nat), o + ws.length ≤ a.length → putAt (a ++ r) o ws = putAt a o ws ++ r
  | [], _, _, _ => rfl
  | v :: ws, a, o, h => by
    show putAt ((a ++ r).set o v) (o + 1) ws = putAt (a.set o v) (o + 1) ws ++ r
    simp at h
    rw [List.set_append_left _ _ (by omega)]
    exact putAt_left ws _ _ (by simp; omega)
theorem evsV_put : ∀ {E : List Ev} {i : Nat} {e : Ev}, i < E.length → putAt (evsV E) (i * 5) e.cells = evsV (E.set i e)
  | [], i, _, h => by simp at h
  | x :: E, 0, e, _ => rfl
  | x :: E, i + 1, e, h => by
    have ih := evsV_put (E := E) (i := i) (e := e) (by simpa using h)
    have h2 : (i + 1) * 5 = x.cells.length + i * 5 := by show _ = 5 + _; omega
    rw [List.set_cons_succ, evsV_cons, evsV_cons, ← ih, h2]
    exact putAt_right _ _ _
theorem holder_ev {h : Heap} {b n c lo : Nat} {E : List Ev} (w : Holder 5 h (.slice (some ⟨b, 0, none⟩) n c) n (evsV E) lo) {i : Nat} (hi : i < n) :
    Wr h b (i * 5 + 4) 1 ∧ Wr h b (i * 5) 5 ∧ (∀ h' m, Sto h h' b (i * 5 + 4) [.int .i64 m] → Holder 5 h' (.slice (some ⟨b, 0, none⟩) n c) n (evsV (setMode E i m)) lo) ∧ ∀ h' e, Sto h h' b (i * 5) e.cells → Holder 5 h' (.slice (some ⟨b, 0, none⟩) n c) n (evsV (E.set i e)) lo := by
  have hl := w.1
  rw [length_evsV] at hl
  have hE : i < E.length := by omega
  obtain ⟨b', c', rest, h1, h2, h3, h4⟩ := w.blk (by omega)
  cases h1
  refine ⟨h2.wr (by simp; omega), h2.wr (by simp; omega), fun h' m s => ⟨by simp; omega, .inr ⟨b, c, rest, rfl, ?_, h3, h4⟩⟩, fun h' e s => ⟨by simp; omega, .inr ⟨b, c, rest, rfl, ?_, h3, h4⟩⟩⟩
  · have := s.row h2
    rw [putAt_one, List.set_append_left _ _ (by simp; omega), evsV_setMode hE] at this
    exact this
  · have := s.row h2
    rw [putAt_left _ _ _ (by simp [Ev.cells]; omega), evsV_put hE] at this
    exact this
section
variable {h h' : Heap} {q : GV} {g : Gr} {lo : Nat}
/-- The events of a graph that one holds alone are other ones. -/
theorem GrOwn.evs' {E' : List Ev} {b : Nat} (w : GrOwn h q g lo) (f : Fr b (b + 1) h h') (hb : q.e = some ⟨b, 0, none⟩) (hl : E'.length = g.evs.length) (he : Holder 5 h' (.slice (some ⟨b, 0, none⟩) g.evs.length q.ec) g.evs.length (evsV E') lo) :
    GrOwn h' q { g with evs := E' } lo := by
  obtain ⟨us, o1, o2, o3⟩ := w.o
  have lb : bl (.slice q.e g.evs.length q.ec) = b ∧ bh (.slice q.e g.evs.length q.ec) = b + 1 := by rw [hb]; exact ⟨rfl, rfl⟩
  have key : ∀ x, Off (.slice q.e g.evs.length q.ec) x → bh x ≤ b ∨ b + 1 ≤ bl x ∨ b + 1 ≤ b := fun x hx => by
    unfold Off at hx
    have := bh_bl x
    omega
  have ha : Away b (b + 1) (.slice q.o g.co.length q.oc) us := fun x hx => key x (o3 x hx _ (by simp)).symm
  have hw := w.off
  refine ⟨?_, w.f.fr f (key _ (hw _ (by simp))), ⟨us, o1.fr f ha, o2, ?_⟩, w.r.fr f (key _ (hw _ (by simp))), w.a.fr f (key _ (hw _ (by simp))), w.d.fr f (key _ (hw _ (by simp))), w.c.fr f (key _ (hw _ (by simp))), ?_, ⟨?_, w.fits.f, w.fits.o, w.fits.r, w.fits.a, w.fits.d, w.fits.c, w.fits.l⟩⟩
  · dsimp only; rw [hl, hb]; exact he
  · dsimp only; rw [hl]; exact o3
  · dsimp only; rw [hl]; exact hw
  · dsimp only; rw [hl]; exact w.fits.e
theorem GrOwn.fr {l r : Nat} (w : GrOwn h q g lo) (f : Fr l r h h') (hd : r ≤ lo ∨ h.size ≤ l ∨ r ≤ l) : GrOwn h' q g lo := by
  obtain ⟨us, o1, o2, o3⟩ := w.o
  have k : ∀ {s n : Nat} {v : Value} {xs : List Value}, Holder s h v n xs lo → Holder s h' v n xs lo := fun o => o.fr f (by have := o.at_; have := o.top; omega)
  refine ⟨k w.e, k w.f, ⟨us, o1.fr f ?_, o2, o3⟩, k w.r, k w.a, k w.d, k w.c, w.off, w.fits⟩
  rcases hd with hd | hd | hd
  · exact o1.below hd
  · exact o1.above hd
  · exact Away.none hd
theorem GrOwn.lower {lo' : Nat} (w : GrOwn h q g lo) (hl : lo' ≤ lo) : GrOwn h q g lo' := by
  obtain ⟨us, o1, o2⟩ := w.o
  exact ⟨w.e.lower hl, w.f.lower hl, ⟨us, o1.lower hl, o2⟩, w.r.lower hl, w.a.lower hl, w.d.lower hl, w.c.lower hl, w.off, w.fits⟩
/-- Where its events lie, and what may be done to them. -/
theorem GrOwn.ev (w : GrOwn h q g lo) (hn : 0 < g.n) : ∃ b, q.e = some ⟨b, 0, none⟩ ∧ lo ≤ b ∧ b < h.size ∧ (∀ i, i < g.n → Wr h b (i * 5 + 4) 1 ∧ Wr h b (i * 5) 5) ∧
    (∀ h' i m, i < g.n → Sto h h' b (i * 5 + 4) [.int .i64 m] → GrOwn h' q { g with evs := setMode g.evs i m } lo) ∧ ∀ h' i e, i < g.n → Sto h h' b (i * 5) e.cells → GrOwn h' q { g with evs := g.evs.set i e } lo := by
  have we := w.e
  obtain ⟨b, c, rest, h1, h2, h3, h4⟩ := we.blk hn
  have hq : q.e = some ⟨b, 0, none⟩ := by injection h1
  rw [hq] at we
  exact ⟨b, hq, h4, h2.lt, fun i hi => ⟨(holder_ev we hi).1, (holder_ev we hi).2.1⟩, fun h' i m hi s => w.evs' s.fr hq (by simp) ((holder_ev we hi).2.2.1 _ _ s), fun h' i e hi s => w.evs' s.fr hq (by simp) ((holder_ev we hi).2.2.2 _ _ s)⟩
end
end Go.Proofs.Tst
/-
  Relations in memory, some at once; chains of steps.
-/
namespace Go.Proofs.Tst
open Go Go.Vc
abbrev Mx := Nat → Nat → Bool
def PA (h : Heap) (v : Value) (n : Nat) (M : Mx) : Prop := ∃ lo hi, ProgAt h lo hi v n M
/-- A new one, from lo on. -/
def PN (h : Heap) (lo : Nat) (v : Value) (n : Nat) (M : Mx) : Prop := ∃ a b, ProgAt h a b v n M ∧ lo ≤ a ∧ a ≤ b ∧ b ≤ h.size
section
variable {h h' : Heap} {v : Value} {n lo : Nat} {M N : Mx}
theorem PA.fr (t : PA h v n M) (f : Fr 0 0 h h') : PA h' v n M := by obtain ⟨a, b, t⟩ := t; exact ⟨a, b, t.fr f (by omega)⟩
theorem PA.ptr (t : PA h v n M) : ∃ b, v = .pointer (some ⟨b, 0, none⟩) := by obtain ⟨a, b, t⟩ := t; exact progPtr t
theorem PA.oc (t : PA h v n M) : v.oneCell' = true := by obtain ⟨b, rfl⟩ := t.ptr; rfl
theorem PA.cl (t : PA h v n M) : Vc.cl v = [v] := by obtain ⟨b, rfl⟩ := t.ptr; rfl
theorem PA.congr (t : PA h v n M) (e : ∀ i j, i < n → j < n → M i j = N i j) : PA h v n N := by obtain ⟨a, b, t⟩ := t; exact ⟨a, b, t.congr e⟩
theorem PA.le (t : PA h v n M) : n ≤ 256 := by obtain ⟨a, b, t⟩ := t; exact t.1
theorem PN.pa (t : PN h lo v n M) : PA h v n M := by obtain ⟨a, b, t, -⟩ := t; exact ⟨a, b, t⟩
theorem PN.of (t : ProgAt h lo h.size v n M) : PN h lo v n M := ⟨_, _, t, Nat.le_refl _, by obtain ⟨_, _, _, _, _, _, w⟩ := t; have := w.at_; omega, Nat.le_refl _⟩
theorem PN.congr (t : PN h lo v n M) (e : ∀ i j, i < n → j < n → M i j = N i j) : PN h lo v n N := by obtain ⟨a, b, t, k⟩ := t; exact ⟨a, b, t.congr e, k⟩
theorem PN.lower {lo' : Nat} (t : PN h lo v n M) (hl : lo' ≤ lo) : PN h lo' v n M := by obtain ⟨a, b, t, k⟩ := t; exact ⟨a, b, t, by omega, k.2⟩
theorem PN.fr {l r : Nat} (t : PN h lo v n M) (f : Fr l r h h') (hd : r ≤ lo ∨ h.size ≤ l ∨ r ≤ l) : PN h' lo v n M := by
  obtain ⟨a, b, t, k⟩ := t
  have := f.size
  exact ⟨a, b, t.fr f (by omega), by omega⟩
end
/-- Some at once, whose pairs together are these. -/
def UA (h : Heap) (lv : Value) (n : Nat) (M : Mx) : Prop := ∃ L : List (Value × Nat × Mx), Rd 1 h lv L.length (L.map (·.1)) ∧ RelsAt h L ∧ L.length ≤ 65536 ∧ maxN L = n ∧ ∀ i j, i < n → j < n → anyM L i j = M i j
theorem UA.fr {h h' : Heap} {v : Value} {n : Nat} {M : Mx} (t : UA h v n M) (f : Fr 0 0 h h') : UA h' v n M := by
  obtain ⟨L, h1, h2, h3⟩ := t; exact ⟨L, h1.fr f, h2.fr f, h3⟩
theorem maxN_same {n : Nat} : ∀ {l : List (Value × Mx)}, l ≠ [] → maxN (l.map fun x => (x.1, n, x.2)) = n := by
  have key : ∀ (l : List (Value × Mx)) (m : Nat), m ≤ n → (l.map fun x => (x.1, n, x.2)).foldl (fun m (x : Value × Nat × Mx) => max m x.2.1) m = if l = [] then m else n := by
    intro l
    induction l with
    | nil => intro m _; rfl
    | cons x l ih =>
      intro m hm
      simp only [List.map_cons, List.foldl_cons]
      rw [ih _ (by omega), if_neg (by simp : ¬ x :: l = [])]
      split
      · omega
      · rfl
  intro l hl
  unfold maxN
  rw [key l 0 (Nat.zero_le _), if_neg hl]
theorem UA.mk {h : Heap} {b n : Nat} {M : Mx} (l : List (Value × Mx)) (r : Rw h b (l.map (·.1))) (hp : ∀ x ∈ l, PA h x.1 n x.2) (hne : l ≠ []) (hl : l.length ≤ 65536) (hM : ∀ i j, i < n → j < n → (l.any fun x => x.2 i j) = M i j) :
    UA h (.slice (some ⟨b, 0, none⟩) l.length l.length) n M := by
  refine ⟨l.map fun x => (x.1, n, x.2), ?_, fun x hx => ?_, by rw [List.length_map]; exact hl, maxN_same hne, fun i j hi hj => ?_⟩
  · rw [List.length_map, List.map_map]
    exact Rw.rd (s := 1) r (by simp)
  · obtain ⟨y, hy, rfl⟩ := List.mem_map.1 hx
    exact hp y hy
  · rw [← hM i j hi hj]
    unfold anyM
    rw [List.any_map]
    congr 1
    funext x
    exact inN_in hi hj
theorem rel_UnionU {lv : Value} {n : Nat} {M : Mx} {h : Heap} (u : UA h lv n M) :
    Con Tryd.prog 50 #[lv] h fun v h' => Fr 0 0 h h' ∧ ProgAt h' h.size h'.size v n M := by
  obtain ⟨L, h1, h2, h3, h4, h5⟩ := u
  exact (rel_Union h1 h2 h3).mono fun v h' ⟨f, t⟩ => ⟨f, by rw [h4] at t; exact t.congr h5⟩
/-- One step of each, one behind the other. -/
def chM (n : Nat) (A : Mx) (l : List Mx) : Mx := l.foldl (fun X Y => compM n X n Y) A
/-- Some, one behind the other. -/
def CA (h : Heap) (lv : Value) (n : Nat) (l : List Mx) : Prop := ∃ ws : List Value, ws.length = l.length ∧ Rd 1 h lv ws.length ws ∧ ws.length ≤ 65536 ∧ ∀ (i : Nat) (w : Value) (M : Mx), ws[i]? = some w → l[i]? = some M → PA h w n M
theorem CA.fr {h h' : Heap} {v : Value} {n : Nat} {l : List Mx} (t : CA h v n l) (f : Fr 0 0 h h') : CA h' v n l := by
  obtain ⟨L, h1, h2, h3, h4⟩ := t; exact ⟨L, h1, h2.fr f, h3, fun i w M a b => (h4 i w M a b).fr f⟩
theorem CA.mk {h : Heap} {b n : Nat} (l : List (Value × Mx)) (r : Rw h b (l.map (·.1))) (hp : ∀ x ∈ l, PA h x.1 n x.2) (hl : l.length ≤ 65536) : CA h (.slice (some ⟨b, 0, none⟩) l.length l.length) n (l.map (·.2)) := by
  refine ⟨l.map (·.1), by simp, ?_, by simpa using hl, fun i w M h1 h2 => ?_⟩
  · rw [List.length_map]; exact Rw.rd (s := 1) r (by simp)
  · rw [List.getElem?_map, Option.map_eq_some_iff] at h1 h2
    obtain ⟨x, hx, rfl⟩ := h1
    obtain ⟨y, hy, rfl⟩ := h2
    rw [hx] at hy; cases hy
    exact hp x (List.mem_of_getElem? hx)
/-- The pairs of one of some. -/
def orM (l : List Mx) : Mx := fun i j => l.any fun X => X i j
theorem UA.mk' {h : Heap} {b n : Nat} (l : List (Value × Mx)) (r : Rw h b (l.map (·.1))) (hp : ∀ x ∈ l, PA h x.1 n x.2) (hne : l ≠ []) (hl : l.length ≤ 65536) : UA h (.slice (some ⟨b, 0, none⟩) l.length l.length) n (orM (l.map (·.2))) :=
  UA.mk l r hp hne hl fun i j _ _ => by unfold orM; rw [List.any_map]; rfl
theorem pa_nil {h : Heap} {n : Nat} : ∀ x ∈ ([] : List (Value × Mx)), PA h x.1 n x.2 := fun x hx => by cases hx
theorem pa_cons {h : Heap} {n : Nat} {v : Value} {M : Mx} {l : List (Value × Mx)} (a : PA h v n M) (t : ∀ x ∈ l, PA h x.1 n x.2) : ∀ x ∈ (v, M) :: l, PA h x.1 n x.2 := fun x hx => by
  rcases List.mem_cons.1 hx with rfl | hx
  · exact a
  · exact t x hx
def tC (n : Nat) (l : List Mx) : Tell := tell1 fun v _ _ h => CA h v n l
def tU (n : Nat) (M : Mx) : Tell := tell1 fun v _ _ h => UA h v n M
def tN (L n : Nat) (M : Mx) : Tell := tell1 fun v _ _ h => PN h L v n M
theorem stC (n : Nat) (l : List Mx) : Stab (tC n l) := Stab.one fun _ _ _ _ _ f t => t.fr f
theorem stU (n : Nat) (M : Mx) : Stab (tU n M) := Stab.one fun _ _ _ _ _ f t => t.fr f
theorem stN (L n : Nat) (M : Mx) : Stab (tN L n M) := Stab.one fun _ _ _ _ _ f t => t.fr f (.inr (.inr (Nat.le_refl _)))
theorem tC_eq (n : Nat) (l : List Mx) (u : Out) (h : Heap) : tC n l [u] h = CA h u.1 n l := (rfl)
theorem tU_eq (n : Nat) (M : Mx) (u : Out) (h : Heap) : tU n M [u] h = UA h u.1 n M := (rfl)
theorem tN_eq (L n : Nat) (M : Mx) (u : Out) (h : Heap) : tN L n M [u] h = PN h L u.1 n M := (rfl)
/-! ### What some operations make -/
def dM (f : Nat → Bool) : Mx := fun i j => i == j && f i
theorem exB_congr {n : Nat} {f g : Nat → Bool} (h : ∀ k, k < n → f k = g k) : exB n f = exB n g := by
  unfold exB
  rw [Bool.eq_iff_iff, List.any_eq_true, List.any_eq_true]
  exact ⟨fun ⟨k, hk, e⟩ => ⟨k, hk, by rw [← h k (List.mem_range.1 hk)]; exact e⟩, fun ⟨k, hk, e⟩ => ⟨k, hk, by rw [h k (List.mem_range.1 hk)]; exact e⟩⟩
section
variable {n i j : Nat} {A B : Mx} {f : Nat → Bool}
theorem interM_in (hi : i < n) (hj : j < n) : interM n A n B i j = (A i j && B i j) := by unfold interM; rw [inN_in hi hj, inN_in hi hj]
theorem minusM_in (hi : i < n) (hj : j < n) : minusM n A n B i j = (A i j && !B i j) := by unfold minusM; rw [inN_in hi hj, inN_in hi hj]
theorem compM_in (hi : i < n) (hj : j < n) : compM n A n B i j = exB n fun k => A i k && B k j := by
  show exB n (fun k => inN n A i k && inN n B k j) = _
  exact exB_congr fun k hk => by rw [inN_in hi hk, inN_in hk hj]
theorem exB_one (hi : i < n) {g : Nat → Bool} : (exB n fun k => i == k && g k) = g i := by
  rw [Bool.eq_iff_iff, exB_true]
  constructor
  · rintro ⟨k, hk, h⟩
    simp only [Bool.and_eq_true, beq_iff_eq] at h
    rw [h.1]; exact h.2
  · intro h; exact ⟨i, hi, by simp [h]⟩
theorem compM_dR (hi : i < n) (hj : j < n) : compM n A n (dM f) i j = (A i j && f j) := by
  rw [compM_in hi hj]
  have : (exB n fun k => A i k && dM f k j) = exB n fun k => j == k && (A i k && f k) := exB_congr fun k _ => by
    unfold dM
    have : (k == j) = (j == k) := by rw [Bool.eq_iff_iff, beq_iff_eq, beq_iff_eq]; exact eq_comm
    rw [this]
    cases A i k <;> cases (j == k) <;> cases f k <;> rfl
  rw [this, exB_one hj]
theorem compM_dL (hi : i < n) (hj : j < n) : compM n (dM f) n A i j = (f i && A i j) := by
  rw [compM_in hi hj]
  have : (exB n fun k => dM f i k && A k j) = exB n fun k => i == k && (f i && A k j) := exB_congr fun k _ => by
    unfold dM
    cases A k j <;> cases (i == k) <;> cases f i <;> rfl
  rw [this, exB_one hi]
end
theorem arm_chain {v0 lv : Value} {n : Nat} {A : Mx} {l : List Mx} {h : Heap} (h0 : PA h v0 n A) (hl : CA h lv n l) (ht : TabAt h) :
    Con Tryd.prog 122 #[v0, lv] h fun v h' => Fr 0 0 h h' ∧ PA h' v n (chM n A l) ∧ (l ≠ [] → PN h' h.size v n (chM n A l)) := by
  refine con_arm_chain ?_
  obtain ⟨ws', hwl, hr, hlen, hp⟩ := hl
  obtain ⟨la, lc, rfl⟩ := hr.is
  have p0 : Fr 0 0 h h := .refl _ _ _
  simp -dsimp only [go_sem]
  refine loop_intro (fun s : Nat × Value => [(0, s.2), (7, .slice la ws'.length lc), (8, .int .i64 ws'.length), (9, .int .i64 s.1)])
    (fun s h' => s.1 ≤ ws'.length ∧ Fr 0 0 h h' ∧ PA h' s.2 n (chM n A (l.take s.1)) ∧ (0 < s.1 → PN h' h.size s.2 n (chM n A (l.take s.1)))) (fun s => ws'.length - s.1) (0, v0) ?_ ?_ ?_
  · simp [Le, find]
  · exact ⟨by omega, p0, h0, by simp⟩
  clear p0
  rintro ⟨i, v⟩ h1 ⟨hi, p0, t, tn⟩
  dsimp only at hi t tn ⊢
  have p0_z := p0.size
  by_cases hlt : i < ws'.length
  · have e1 : ((i : Int) < (ws'.length : Int)) := by omega
    have hw : ws'[i]? = some ws'[i] := List.getElem?_eq_getElem hlt
    have hM : l[i]? = some (l[i]'(by omega)) := List.getElem?_eq_getElem (by omega)
    have tw := (hp i _ _ hw hM).fr p0
    generalize ws'[i] = w at hw tw
    have hs : l.take (i + 1) = l.take i ++ [l[i]'(by omega)] := by rw [List.take_add_one, hM]; rfl
    generalize l[i]'(by omega) = B at hM tw hs
    obtain ⟨hl1, a', c', k1, k2⟩ := hr
    cases k1
    rcases k2 with k2 | ⟨b, o, rfl, hc⟩
    · omega
    have hc := p0.keep (hc i _ hw) (by omega)
    simp -dsimp only [go_sem, e1, hc]
    obtain ⟨_, _, t1⟩ := t
    obtain ⟨_, _, t2⟩ := tw
    refine call_of (rel_Comp t1 t2 (ht.fr p0 (.inr rfl))) ?_
    rintro v2 h2 ⟨f2, t3⟩
    rw [Nat.max_self] at t3
    have q2 := f2.size
    have p0_z := p0.size
    have f2_z := f2.size
    replace p0 := p0.fresh f2 (by omega)
    have hch : chM n A (l.take (i + 1)) = compM n (chM n A (l.take i)) n B := by rw [hs]; unfold chM; rw [List.foldl_append]; rfl
    simp -dsimp only [go_sem]
    simp -dsimp (disch := omega) only [wrap64]
    refine ⟨(i + 1, v2), by dsimp only; omega, by simp [Le, find], by dsimp only; omega, p0, ?_, fun _ => ?_⟩
    · dsimp only; rw [hch]; exact ⟨_, _, t3⟩
    · dsimp only; rw [hch]; exact (PN.of t3).lower (by omega)
  · obtain rfl : i = ws'.length := by omega
    simp -dsimp only [go_sem, Int.lt_irrefl]
    rw [hwl, List.take_length] at t tn
    refine ⟨p0, t, fun hne => tn ?_⟩
    exact List.length_pos_iff.2 hne
end Go.Proofs.Tst
/-
  The words' memory model in memory: its parts.
-/
namespace Go.Proofs.Tst
open Go Go.Vc
def mcells (q : GV) (g : Gr) (c : Nat → Nat) (rd wr fe : Value) (d : Nat → Nat) : List Value := [.int .i64 g.cells, .slice q.e g.evs.length q.ec, .slice q.f g.rf.length q.fc, .slice q.o g.co.length q.oc, .slice q.r g.rmw.length q.rc, .slice q.a g.addr.length q.ac, .slice q.d g.data.length q.dc, .slice q.c g.ctrl.length q.cc,
  .pointer (some ⟨c 0, 0, none⟩), .pointer (some ⟨c 1, 0, none⟩), .pointer (some ⟨c 2, 0, none⟩), .pointer (some ⟨c 9, 0, none⟩), .pointer (some ⟨c 3, 0, none⟩), .pointer (some ⟨c 4, 0, none⟩), .pointer (some ⟨c 5, 0, none⟩), .pointer (some ⟨c 6, 0, none⟩), .pointer (some ⟨c 7, 0, none⟩), .pointer (some ⟨c 8, 0, none⟩), rd, wr, fe,
  .pointer (some ⟨d 0, 0, none⟩), .pointer (some ⟨d 1, 0, none⟩), .pointer (some ⟨d 2, 0, none⟩), .pointer (some ⟨d 3, 0, none⟩), .pointer (some ⟨d 4, 0, none⟩), .pointer (some ⟨d 5, 0, none⟩)]
def armM (g : Gr) : Nat → Mx
  | 0 => rfeM g
  | 1 => rfiM g
  | 2 => coeM g
  | 3 => coiM g
  | 4 => freM g
  | _ => dM (acqB g)
structure Md (h : Heap) (mb : Nat) (q : GV) (g : Gr) (c : Nat → Nat) (rd wr fe : Value) (d : Nat → Nat) : Prop where
  row : Rw h mb (mcells q g c rd wr fe d)
  gr : GrAt h q g
  n : g.n ≤ 256
  rel : ∀ k, k < 10 → PA h (.pointer (some ⟨c k, 0, none⟩)) g.n (relM g k)
  hm : ∀ k, k < 6 → PA h (.pointer (some ⟨d k, 0, none⟩)) g.n (armM g k)
  rd : Rd 1 h rd (kindsV g 1 g.n).length (boolsV (kindsV g 1 g.n))
  wr : Rd 1 h wr (kindsV g 2 g.n).length (boolsV (kindsV g 2 g.n))
  fe : Rd 1 h fe (kindsV g 3 g.n).length (boolsV (kindsV g 3 g.n))
theorem Md.fr {h h' : Heap} {mb : Nat} {q : GV} {g : Gr} {c : Nat → Nat} {rd wr fe : Value} {d : Nat → Nat} (m : Md h mb q g c rd wr fe d) (f : Fr 0 0 h h') : Md h' mb q g c rd wr fe d :=
  ⟨m.row.fr f (by omega), m.gr.fr f, m.n, fun k hk => (m.rel k hk).fr f, fun k hk => (m.hm k hk).fr f, m.rd.fr f, m.wr.fr f, m.fe.fr f⟩
/-- What it has of the graph. -/
structure Mg (h : Heap) (mb : Nat) (q : GV) (g : Gr) : Prop where
  row : ∃ rest, Rw h mb (gcells q g ++ rest)
  gr : GrAt h q g
  n : g.n ≤ 256
theorem Mg.fr {h h' : Heap} {mb : Nat} {q : GV} {g : Gr} (m : Mg h mb q g) (f : Fr 0 0 h h') : Mg h' mb q g :=
  ⟨by obtain ⟨r, w⟩ := m.row; exact ⟨r, w.fr f (by omega)⟩, m.gr.fr f, m.n⟩
theorem Md.mg {h : Heap} {mb : Nat} {q : GV} {g : Gr} {c : Nat → Nat} {rd wr fe : Value} {d : Nat → Nat} (m : Md h mb q g c rd wr fe d) : Mg h mb q g := ⟨⟨_, m.row⟩, m.gr, m.n⟩
theorem kinds_len (g : Gr) (k : Int) : (kindsV g k g.n).length = g.n := by simp [kindsV]; unfold Gr.n; omega
theorem atB_kinds {g : Gr} {k : Int} {i : Nat} (hi : i < g.n) : atB (kindsV g k g.n) i = isK g k i := atB_get (kindsV_get hi)
theorem atB_with {g : Gr} {x : Int} {i : Nat} (hi : i < g.n) : atB (withB g [x]) i = isM g x i := by
  refine atB_get ?_
  unfold withB isM
  rw [List.getElem?_map, Gr.ev_get hi]
  simp only [Option.map_some, Option.some.injEq]
  rw [Bool.eq_iff_iff]; simp
section
variable {h : Heap} {mb : Nat} {q : GV} {g : Gr} {c : Nat → Nat} {rd wr fe : Value} {d : Nat → Nat}
theorem arm_model_set (m : Mg h mb q g) {sv : Value} {l : List Bool} (hl : Rd 1 h sv l.length (boolsV l)) (hb : l.length ≤ 4611686018427387904) {f : Nat → Bool} (hf : ∀ i, i < g.n → atB l i = f i) :
    Con Tryd.prog 119 #[.pointer (some ⟨mb, 0, none⟩), sv] h fun v h' => Fr 0 0 h h' ∧ PN h' h.size v g.n (dM f) := by
  refine con_arm_model_set ?_
  have hn := m.n
  have hcl : clampN (g.n : Int) = g.n := by unfold clampN; omega
  have p0 : Fr 0 0 h h := .refl _ _ _
  obtain ⟨rest, r1⟩ := m.row
  unfold gcells at r1
  simp only [List.cons_append, List.nil_append] at r1
  simp -dsimp only [go_sem, evs_len, r1.cell]
  refine call_of (rel_Ident g.n hl hb) ?_
  rintro v h1 ⟨f1, t⟩
  rw [hcl] at t
  have f1_z := f1.size
  replace p0 := p0.fresh f1 (by omega)
  replace r1 := r1.fr f1 (by omega)
  simp -dsimp only [go_sem, r1.cell]
  exact ⟨p0, (PN.of t).congr fun i j hi hj => by
    show (i == j && atB l i) = (i == j && f i)
    rw [hf i hi]⟩
theorem arm_model_mode (m : Mg h mb q g) (x : Int) :
    Con Tryd.prog 109 #[.pointer (some ⟨mb, 0, none⟩), .int .i64 x] h fun v h' => Fr 0 0 h h' ∧ PN h' h.size v g.n (dM (isM g x)) := by
  refine con_arm_model_mode ?_
  have hn := m.n
  have p0 : Fr 0 0 h h := .refl _ _ _
  obtain ⟨rest, r1⟩ := m.row
  unfold gcells at r1
  simp only [List.cons_append, List.nil_append] at r1
  simp -dsimp only [go_sem, r1.cell]
  intro b2 h2 n2
  have n2_a := n2.at_
  have n2_z := n2.size
  replace p0 := p0.fresh (n2.fr (lo := 0) (hi := 0)) (by omega)
  replace r1 := r1.fr (n2.fr (lo := 0) (hi := 0)) (by omega)
  have r2 := n2.row
  simp -dsimp only [go_sem, r1.cell, r2.cell]
  refine call_of (graph_With (m.gr.fr p0) (by omega) (m := [x]) (Rw.rd (s := 1) (n := 1) (c := 1) r2 rfl) (by simp)) ?_
  rintro v3 h3 ⟨f3, o3⟩
  have f3_z := f3.size
  replace p0 := p0.fresh f3 (by omega)
  replace r1 := r1.fr f3 (by omega)
  replace r2 := r2.fr f3 (by omega)
  have hwl : (withB g [x]).length = g.n := by simp [withB, Gr.n]
  simp -dsimp only [go_sem, r1.cell, r2.cell]
  refine call_of (arm_model_set (m.fr p0) (l := withB g [x]) (by rw [hwl]; exact o3.rd) (by omega) (fun i hi => atB_with hi)) ?_
  rintro v4 h4 ⟨f4, t4⟩
  have f4_z := f4.size
  replace p0 := p0.fresh f4 (by omega)
  replace r1 := r1.fr f4 (by omega)
  replace r2 := r2.fr f4 (by omega)
  simp -dsimp only [go_sem, r1.cell, r2.cell]
  exact ⟨p0, t4.lower (by omega)⟩
theorem arm_model_obs (m : Md h mb q g c rd wr fe d) :
    Con Tryd.prog 112 #[.pointer (some ⟨mb, 0, none⟩)] h fun v h' => Fr 0 0 h h' ∧ PN h' h.size v g.n (obsM g) := by
  refine con_arm_model_obs ?_
  have p0 : Fr 0 0 h h := .refl _ _ _
  have r1 := m.row
  unfold mcells at r1
  simp -dsimp only [go_sem, r1.cell]
  intro b2 h2 n2
  have n2_a := n2.at_
  have n2_z := n2.size
  replace p0 := p0.fresh (n2.fr (lo := 0) (hi := 0)) (by omega)
  replace r1 := r1.fr (n2.fr (lo := 0) (hi := 0)) (by omega)
  have r2 := n2.row
  simp -dsimp only [go_sem, r1.cell, r2.cell]
  have m2 := m.fr p0
  refine call_of (rel_UnionU (UA.mk' [(.pointer (some ⟨d 0, 0, none⟩), rfeM g), (.pointer (some ⟨d 2, 0, none⟩), coeM g), (.pointer (some ⟨d 4, 0, none⟩), freM g)] r2 (pa_cons (m2.hm 0 (by decide)) (pa_cons (m2.hm 2 (by decide)) (pa_cons (m2.hm 4 (by decide)) pa_nil))) (by simp) (by simp))) ?_
  rintro v3 h3 ⟨f3, t3⟩
  have f3_z := f3.size
  replace p0 := p0.fresh f3 (by omega)
  replace r1 := r1.fr f3 (by omega)
  replace r2 := r2.fr f3 (by omega)
  simp -dsimp only [go_sem, r1.cell, r2.cell]
  exact ⟨p0, ((PN.of t3).lower (by omega)).congr fun i j _ _ => by simp [orM, obsM, Bool.or_assoc]⟩
set_option maxHeartbeats 2000000 in
theorem arm_model_dob (m : Md h mb q g c rd wr fe d) (ht : TabAt h) :
    Con Tryd.prog 113 #[.pointer (some ⟨mb, 0, none⟩)] h fun v h' => Fr 0 0 h h' ∧ PN h' h.size v g.n (dobM g) := by
  refine con_arm_model_dob ?_
  have hn := m.n
  have hkl := kinds_len g
  have p0 : Fr 0 0 h h := .refl _ _ _
  have r1 := m.row
  unfold mcells at r1
  simp -dsimp only [go_sem, r1.cell]
  refine call_of (arm_model_set (m.fr p0).mg (m.fr p0).wr (by rw [hkl]; omega) (fun i hi => atB_kinds hi)) ?_
  rintro v3 hL ⟨f3, w3⟩
  have f3_z := f3.size
  replace p0 := p0.fresh f3 (by omega)
  replace r1 := r1.fr f3 (by omega)
  obtain ⟨w, rfl⟩ := w3.pa.ptr
  simp -dsimp only [go_sem, r1.cell]
  have P0 : ∀ h', Fr 0 0 hL h' → Fr 0 0 h h' := fun h' f => p0.trans f
  have R : ∀ k, k < 10 → ∀ h', Fr 0 0 hL h' → PA h' (.pointer (some ⟨c k, 0, none⟩)) g.n (relM g k) := fun k hk h' f => (m.rel k hk).fr (P0 h' f)
  have E : ∀ k, k < 6 → ∀ h', Fr 0 0 hL h' → PA h' (.pointer (some ⟨d k, 0, none⟩)) g.n (armM g k) := fun k hk h' f => (m.hm k hk).fr (P0 h' f)
  have W : ∀ h', Fr 0 0 hL h' → PA h' (.pointer (some ⟨w, 0, none⟩)) g.n (dM (isK g 2)) := fun h' f => w3.pa.fr f
  have hLz : h.size ≤ hL.size := by omega
  clear p0 r1
  refine free_intro [(16, [16], tC g.n [(dM (isK g 2))]), (17, [17], tN hL.size g.n (chM g.n (relM g 8) [(dM (isK g 2))])), (29, [29], tC g.n [(relM g 0), (dM (isK g 2))]), (30, [30], tN hL.size g.n (chM g.n (relM g 6) [(relM g 0), (dM (isK g 2))])), (41, [41], tU g.n (orM [(relM g 8), (relM g 7)])), (42, [42], tN hL.size g.n (orM [(relM g 8), (relM g 7)])), (47, [47], tC g.n [(coiM g)]), (48, [48], tN hL.size g.n (chM g.n (orM [(relM g 8), (relM g 7)]) [(coiM g)])), (59, [59], tU g.n (orM [(relM g 6), (relM g 7)])), (60, [60], tN hL.size g.n (orM [(relM g 6), (relM g 7)])), (65, [65], tC g.n [(rfiM g)]), (66, [66], tN hL.size g.n (chM g.n (orM [(relM g 6), (relM g 7)]) [(rfiM g)])), (67, [67], tU g.n (orM [(relM g 6), (relM g 7), (chM g.n (relM g 8) [(dM (isK g 2))]), (chM g.n (relM g 6) [(relM g 0), (dM (isK g 2))]), (chM g.n (orM [(relM g 8), (relM g 7)]) [(coiM g)]), (chM g.n (orM [(relM g 6), (relM g 7)]) [(rfiM g)])])), (68, [68], tN hL.size g.n (orM [(relM g 6), (relM g 7), (chM g.n (relM g 8) [(dM (isK g 2))]), (chM g.n (relM g 6) [(relM g 0), (dM (isK g 2))]), (chM g.n (orM [(relM g 8), (relM g 7)]) [(coiM g)]), (chM g.n (orM [(relM g 6), (relM g 7)]) [(rfiM g)])])), (69, [69], tN hL.size g.n (orM [(relM g 6), (relM g 7), (chM g.n (relM g 8) [(dM (isK g 2))]), (chM g.n (relM g 6) [(relM g 0), (dM (isK g 2))]), (chM g.n (orM [(relM g 8), (relM g 7)]) [(coiM g)]), (chM g.n (orM [(relM g 6), (relM g 7)]) [(rfiM g)])]))] ?_ rfl ?_ ?_
  · exact ⟨stC _ _, stN _ _ _, stC _ _, stN _ _ _, stU _ _, stN _ _ _, stC _ _, stN _ _ _, stU _ _, stN _ _ _, stC _ _, stN _ _ _, stU _ _, stN _ _ _, stN _ _ _, trivial⟩
  · simp -dsimp only [go_sem, tC_eq, tU_eq, tN_eq]
    refine ⟨fun h4 f4 V => ?_, fun h4 f4 V a16 => ?_, fun h4 f4 V => ?_, fun h4 f4 V a29 a17 => ?_, fun h4 f4 V => ?_, fun h4 f4 V a41 a30 => ?_, fun h4 f4 V => ?_, fun h4 f4 V a47 a42 => ?_, fun h4 f4 V => ?_, fun h4 f4 V a59 a48 => ?_, fun h4 f4 V => ?_, fun h4 f4 V a65 a60 => ?_, fun h4 f4 V a17 a30 a48 a66 => ?_, fun h4 f4 V a67 a66 => ?_, fun h4 f4 V a16 a17 a29 a30 a41 a42 a47 a48 a59 a60 a65 a66 a67 a68 => ?_⟩
    · try simp -dsimp only [go_sem, putAt_one]
      intro b5 h5 n5
      try simp -dsimp only [go_sem] at n5
      simp -dsimp only [go_sem, tU_eq, tC_eq]
      exact ⟨n5.fr, CA.mk [(.pointer (some ⟨w, 0, none⟩), (dM (isK g 2)))] n5.row (pa_cons (PA.fr (W h4 f4) n5.fr) (pa_nil)) (by simp)⟩
    · try simp -dsimp only [go_sem]
      refine call_of (arm_chain (R 8 (by decide) h4 f4) a16 (ht.fr (P0 h4 f4) (.inr rfl))) ?_
      rintro v h5 ⟨f5, -, w⟩
      simp -dsimp only [go_sem, tN_eq]
      exact ⟨f5, PN.lower (w (by simp)) f4.size⟩
    · try simp -dsimp only [go_sem, putAt_one]
      intro b5 h5 n5
      try simp -dsimp only [go_sem] at n5
      simp -dsimp only [go_sem, tU_eq, tC_eq]
      exact ⟨n5.fr, CA.mk [(.pointer (some ⟨c 0, 0, none⟩), (relM g 0)), (.pointer (some ⟨w, 0, none⟩), (dM (isK g 2)))] n5.row (pa_cons (PA.fr (R 0 (by decide) h4 f4) n5.fr) (pa_cons (PA.fr (W h4 f4) n5.fr) (pa_nil))) (by simp)⟩
    · try simp -dsimp only [go_sem]
      refine call_of (arm_chain (R 6 (by decide) h4 f4) a29 (ht.fr (P0 h4 f4) (.inr rfl))) ?_
      rintro v h5 ⟨f5, -, w⟩
      simp -dsimp only [go_sem, tN_eq]
      exact ⟨f5, PN.lower (w (by simp)) f4.size⟩
    · try simp -dsimp only [go_sem, putAt_one]
      intro b5 h5 n5
      try simp -dsimp only [go_sem] at n5
      simp -dsimp only [go_sem, tU_eq, tC_eq]
      exact ⟨n5.fr, UA.mk' [(.pointer (some ⟨c 8, 0, none⟩), (relM g 8)), (.pointer (some ⟨c 7, 0, none⟩), (relM g 7))] n5.row (pa_cons (PA.fr (R 8 (by decide) h4 f4) n5.fr) (pa_cons (PA.fr (R 7 (by decide) h4 f4) n5.fr) (pa_nil))) (by simp) (by simp)⟩
    · try simp -dsimp only [go_sem]
      refine call_of (rel_UnionU a41) ?_
      rintro v h5 ⟨f5, w⟩
      simp -dsimp only [go_sem, tN_eq]
      exact ⟨f5, PN.lower (PN.of w) f4.size⟩
    · try simp -dsimp only [go_sem, putAt_one]
      intro b5 h5 n5
      try simp -dsimp only [go_sem] at n5
      simp -dsimp only [go_sem, tU_eq, tC_eq]
      exact ⟨n5.fr, CA.mk [(.pointer (some ⟨d 3, 0, none⟩), (coiM g))] n5.row (pa_cons (PA.fr (E 3 (by decide) h4 f4) n5.fr) (pa_nil)) (by simp)⟩
    · try simp -dsimp only [go_sem]
      refine call_of (arm_chain (a42.pa) a47 (ht.fr (P0 h4 f4) (.inr rfl))) ?_
      rintro v h5 ⟨f5, -, w⟩
      simp -dsimp only [go_sem, tN_eq]
      exact ⟨f5, PN.lower (w (by simp)) f4.size⟩
    · try simp -dsimp only [go_sem, putAt_one]
      intro b5 h5 n5
      try simp -dsimp only [go_sem] at n5
      simp -dsimp only [go_sem, tU_eq, tC_eq]
      exact ⟨n5.fr, UA.mk' [(.pointer (some ⟨c 6, 0, none⟩), (relM g 6)), (.pointer (some ⟨c 7, 0, none⟩), (relM g 7))] n5.row (pa_cons (PA.fr (R 6 (by decide) h4 f4) n5.fr) (pa_cons (PA.fr (R 7 (by decide) h4 f4) n5.fr) (pa_nil))) (by simp) (by simp)⟩
    · try simp -dsimp only [go_sem]
      refine call_of (rel_UnionU a59) ?_
      rintro v h5 ⟨f5, w⟩
      simp -dsimp only [go_sem, tN_eq]
      exact ⟨f5, PN.lower (PN.of w) f4.size⟩
    · try simp -dsimp only [go_sem, putAt_one]
      intro b5 h5 n5
      try simp -dsimp only [go_sem] at n5
      simp -dsimp only [go_sem, tU_eq, tC_eq]
      exact ⟨n5.fr, CA.mk [(.pointer (some ⟨d 1, 0, none⟩), (rfiM g))] n5.row (pa_cons (PA.fr (E 1 (by decide) h4 f4) n5.fr) (pa_nil)) (by simp)⟩
    · try simp -dsimp only [go_sem]
      refine call_of (arm_chain (a60.pa) a65 (ht.fr (P0 h4 f4) (.inr rfl))) ?_
      rintro v h5 ⟨f5, -, w⟩
      simp -dsimp only [go_sem, tN_eq]
      exact ⟨f5, PN.lower (w (by simp)) f4.size⟩
    · try simp -dsimp only [go_sem, a17.pa.cl, a30.pa.cl, a48.pa.cl, a66.pa.cl, putAt_one]
      intro b5 h5 n5
      try simp -dsimp only [go_sem] at n5
      simp -dsimp only [go_sem, tU_eq, tC_eq]
      exact ⟨n5.fr, UA.mk' [(.pointer (some ⟨c 6, 0, none⟩), (relM g 6)), (.pointer (some ⟨c 7, 0, none⟩), (relM g 7)), ((V 17).1, (chM g.n (relM g 8) [(dM (isK g 2))])), ((V 30).1, (chM g.n (relM g 6) [(relM g 0), (dM (isK g 2))])), ((V 48).1, (chM g.n (orM [(relM g 8), (relM g 7)]) [(coiM g)])), ((V 66).1, (chM g.n (orM [(relM g 6), (relM g 7)]) [(rfiM g)]))] n5.row (pa_cons (PA.fr (R 6 (by decide) h4 f4) n5.fr) (pa_cons (PA.fr (R 7 (by decide) h4 f4) n5.fr) (pa_cons (PA.fr (a17.pa) n5.fr) (pa_cons (PA.fr (a30.pa) n5.fr) (pa_cons (PA.fr (a48.pa) n5.fr) (pa_cons (PA.fr (a66.pa) n5.fr) (pa_nil))))))) (by simp) (by simp)⟩
    · try simp -dsimp only [go_sem]
      refine call_of (rel_UnionU a67) ?_
      rintro v h5 ⟨f5, w⟩
      simp -dsimp only [go_sem, tN_eq]
      exact ⟨f5, PN.lower (PN.of w) f4.size⟩
    · try simp -dsimp only [go_sem, tN_eq]
      exact ⟨.refl _ _ _, a68⟩
  · intro h4 f4 V _
    simp -dsimp only [go_sem, tC_eq, tU_eq, tN_eq]
    intro a16 a17 a29 a30 a41 a42 a47 a48 a59 a60 a65 a66 a67 a68 a69
    try simp -dsimp only [go_sem]
    refine ⟨P0 h4 f4, (a69.lower hLz).congr fun i j hi hj => ?_⟩
    unfold orM dobM chM
    simp only [List.foldl_cons, List.foldl_nil, List.any_cons, List.any_nil, Bool.or_false, compM_dR hi hj]
    rw [compM_in hi hj, compM_in hi hj, compM_in hi hj]
    simp only [Bool.or_assoc]
set_option maxHeartbeats 2000000 in
theorem arm_model_bob (m : Md h mb q g c rd wr fe d) (ht : TabAt h) :
    Con Tryd.prog 115 #[.pointer (some ⟨mb, 0, none⟩)] h fun v h' => Fr 0 0 h h' ∧ PN h' h.size v g.n (bobM g) := by
  refine con_arm_model_bob ?_
  have hn := m.n
  have hkl := kinds_len g
  have p0 : Fr 0 0 h h := .refl _ _ _
  have r1 := m.row
  unfold mcells at r1
  simp -dsimp only [go_sem, r1.cell]
  refine call_of (arm_model_mode (m.fr p0).mg 12) ?_
  rintro v3 h3 ⟨f3, w3⟩
  have f3_z := f3.size
  replace p0 := p0.fresh f3 (by omega)
  replace r1 := r1.fr f3 (by omega)
  obtain ⟨ra, rfl⟩ := w3.pa.ptr
  simp -dsimp only [go_sem, r1.cell]
  refine call_of (arm_model_mode (m.fr p0).mg 13) ?_
  rintro v4 hL ⟨f4', w4⟩
  have f4'_z := f4'.size
  replace p0 := p0.fresh f4' (by omega)
  replace r1 := r1.fr f4' (by omega)
  obtain ⟨rl, rfl⟩ := w4.pa.ptr
  have w3' := w3.pa.fr f4'
  simp -dsimp only [go_sem, r1.cell]
  have P0 : ∀ h', Fr 0 0 hL h' → Fr 0 0 h h' := fun h' f => p0.trans f
  have MD : ∀ h', Fr 0 0 hL h' → Md h' mb q g c rd wr fe d := fun h' f => m.fr (P0 h' f)
  have R : ∀ k, k < 10 → ∀ h', Fr 0 0 hL h' → PA h' (.pointer (some ⟨c k, 0, none⟩)) g.n (relM g k) := fun k hk h' f => (m.rel k hk).fr (P0 h' f)
  have E : ∀ k, k < 6 → ∀ h', Fr 0 0 hL h' → PA h' (.pointer (some ⟨d k, 0, none⟩)) g.n (armM g k) := fun k hk h' f => (m.hm k hk).fr (P0 h' f)
  have RA : ∀ h', Fr 0 0 hL h' → PA h' (.pointer (some ⟨ra, 0, none⟩)) g.n (dM (isM g 12)) := fun h' f => w3'.fr f
  have RL : ∀ h', Fr 0 0 hL h' → PA h' (.pointer (some ⟨rl, 0, none⟩)) g.n (dM (isM g 13)) := fun h' f => w4.pa.fr f
  have hLz : h.size ≤ hL.size := by omega
  clear p0 r1
  refine free_intro [(6, [6], tN hL.size g.n (dM (isM g 15))), (12, [12], tC g.n [(dM (isM g 15)), (relM g 0)]), (13, [13], tN hL.size g.n (chM g.n (relM g 0) [(dM (isM g 15)), (relM g 0)])), (20, [20], tN hL.size g.n (dM (isK g 1))), (27, [27], tN hL.size g.n (dM (isM g 14))), (33, [33], tC g.n [(relM g 0), (dM (isM g 14)), (relM g 0)]), (34, [34], tN hL.size g.n (chM g.n (dM (isK g 1)) [(relM g 0), (dM (isM g 14)), (relM g 0)])), (42, [42], tC g.n [(relM g 0), (dM (isM g 12))]), (43, [43], tN hL.size g.n (chM g.n (dM (isM g 13)) [(relM g 0), (dM (isM g 12))])), (53, [53], tC g.n [(relM g 0)]), (54, [54], tN hL.size g.n (chM g.n (dM (acqB g)) [(relM g 0)])), (61, [61], tC g.n [(dM (isM g 13))]), (62, [62], tN hL.size g.n (chM g.n (relM g 0) [(dM (isM g 13))])), (73, [73], tC g.n [(dM (isM g 13)), (coiM g)]), (74, [74], tN hL.size g.n (chM g.n (relM g 0) [(dM (isM g 13)), (coiM g)])), (75, [75], tU g.n (orM [(chM g.n (relM g 0) [(dM (isM g 15)), (relM g 0)]), (chM g.n (dM (isK g 1)) [(relM g 0), (dM (isM g 14)), (relM g 0)]), (chM g.n (dM (isM g 13)) [(relM g 0), (dM (isM g 12))]), (chM g.n (dM (acqB g)) [(relM g 0)]), (chM g.n (relM g 0) [(dM (isM g 13))]), (chM g.n (relM g 0) [(dM (isM g 13)), (coiM g)])])), (76, [76], tN hL.size g.n (orM [(chM g.n (relM g 0) [(dM (isM g 15)), (relM g 0)]), (chM g.n (dM (isK g 1)) [(relM g 0), (dM (isM g 14)), (relM g 0)]), (chM g.n (dM (isM g 13)) [(relM g 0), (dM (isM g 12))]), (chM g.n (dM (acqB g)) [(relM g 0)]), (chM g.n (relM g 0) [(dM (isM g 13))]), (chM g.n (relM g 0) [(dM (isM g 13)), (coiM g)])])), (77, [77], tN hL.size g.n (orM [(chM g.n (relM g 0) [(dM (isM g 15)), (relM g 0)]), (chM g.n (dM (isK g 1)) [(relM g 0), (dM (isM g 14)), (relM g 0)]), (chM g.n (dM (isM g 13)) [(relM g 0), (dM (isM g 12))]), (chM g.n (dM (acqB g)) [(relM g 0)]), (chM g.n (relM g 0) [(dM (isM g 13))]), (chM g.n (relM g 0) [(dM (isM g 13)), (coiM g)])]))] ?_ rfl ?_ ?_
  · exact ⟨stN _ _ _, stC _ _, stN _ _ _, stN _ _ _, stN _ _ _, stC _ _, stN _ _ _, stC _ _, stN _ _ _, stC _ _, stN _ _ _, stC _ _, stN _ _ _, stC _ _, stN _ _ _, stU _ _, stN _ _ _, stN _ _ _, trivial⟩
  · simp -dsimp only [go_sem, tC_eq, tU_eq, tN_eq]
    refine ⟨fun h4 f4 V => ?_, fun h4 f4 V a6 => ?_, fun h4 f4 V a12 a6 => ?_, fun h4 f4 V a13 => ?_, fun h4 f4 V a20 => ?_, fun h4 f4 V a27 => ?_, fun h4 f4 V a20 a33 a27 => ?_, fun h4 f4 V => ?_, fun h4 f4 V a42 a34 => ?_, fun h4 f4 V => ?_, fun h4 f4 V a53 a43 => ?_, fun h4 f4 V => ?_, fun h4 f4 V a61 a54 => ?_, fun h4 f4 V => ?_, fun h4 f4 V a73 a62 => ?_, fun h4 f4 V a13 a34 a43 a54 a62 a74 => ?_, fun h4 f4 V a75 a74 => ?_, fun h4 f4 V a6 a12 a13 a20 a27 a33 a34 a42 a43 a53 a54 a61 a62 a73 a74 a75 a76 => ?_⟩
    · try simp -dsimp only [go_sem]
      refine call_of (arm_model_mode (MD h4 f4).mg 15) ?_
      rintro v h5 ⟨f5, w⟩
      simp -dsimp only [go_sem, tN_eq]
      exact ⟨f5, PN.lower w f4.size⟩
    · try simp -dsimp only [go_sem, a6.pa.cl, putAt_one]
      intro b5 h5 n5
      try simp -dsimp only [go_sem] at n5
      simp -dsimp only [go_sem, tU_eq, tC_eq]
      exact ⟨n5.fr, CA.mk [((V 6).1, (dM (isM g 15))), (.pointer (some ⟨c 0, 0, none⟩), (relM g 0))] n5.row (pa_cons (PA.fr (a6.pa) n5.fr) (pa_cons (PA.fr (R 0 (by decide) h4 f4) n5.fr) (pa_nil))) (by simp)⟩
    · try simp -dsimp only [go_sem]
      refine call_of (arm_chain (R 0 (by decide) h4 f4) a12 (ht.fr (P0 h4 f4) (.inr rfl))) ?_
      rintro v h5 ⟨f5, -, w⟩
      simp -dsimp only [go_sem, tN_eq]
      exact ⟨f5, PN.lower (w (by simp)) f4.size⟩
    · try simp -dsimp only [go_sem]
      refine call_of (arm_model_set (MD h4 f4).mg (l := kindsV g 1 g.n) (MD h4 f4).rd (by rw [hkl]; omega) (fun i hi => atB_kinds hi)) ?_
      rintro v h5 ⟨f5, w⟩
      simp -dsimp only [go_sem, tN_eq]
      exact ⟨f5, PN.lower w f4.size⟩
    · try simp -dsimp only [go_sem]
      refine call_of (arm_model_mode (MD h4 f4).mg 14) ?_
      rintro v h5 ⟨f5, w⟩
      simp -dsimp only [go_sem, tN_eq]
      exact ⟨f5, PN.lower w f4.size⟩
    · try simp -dsimp only [go_sem, a27.pa.cl, putAt_one]
      intro b5 h5 n5
      try simp -dsimp only [go_sem] at n5
      simp -dsimp only [go_sem, tU_eq, tC_eq]
      exact ⟨n5.fr, CA.mk [(.pointer (some ⟨c 0, 0, none⟩), (relM g 0)), ((V 27).1, (dM (isM g 14))), (.pointer (some ⟨c 0, 0, none⟩), (relM g 0))] n5.row (pa_cons (PA.fr (R 0 (by decide) h4 f4) n5.fr) (pa_cons (PA.fr (a27.pa) n5.fr) (pa_cons (PA.fr (R 0 (by decide) h4 f4) n5.fr) (pa_nil)))) (by simp)⟩
    · try simp -dsimp only [go_sem]
      refine call_of (arm_chain (a20.pa) a33 (ht.fr (P0 h4 f4) (.inr rfl))) ?_
      rintro v h5 ⟨f5, -, w⟩
      simp -dsimp only [go_sem, tN_eq]
      exact ⟨f5, PN.lower (w (by simp)) f4.size⟩
    · try simp -dsimp only [go_sem, putAt_one]
      intro b5 h5 n5
      try simp -dsimp only [go_sem] at n5
      simp -dsimp only [go_sem, tU_eq, tC_eq]
      exact ⟨n5.fr, CA.mk [(.pointer (some ⟨c 0, 0, none⟩), (relM g 0)), (.pointer (some ⟨ra, 0, none⟩), (dM (isM g 12)))] n5.row (pa_cons (PA.fr (R 0 (by decide) h4 f4) n5.fr) (pa_cons (PA.fr (RA h4 f4) n5.fr) (pa_nil))) (by simp)⟩
    · try simp -dsimp only [go_sem]
      refine call_of (arm_chain (RL h4 f4) a42 (ht.fr (P0 h4 f4) (.inr rfl))) ?_
      rintro v h5 ⟨f5, -, w⟩
      simp -dsimp only [go_sem, tN_eq]
      exact ⟨f5, PN.lower (w (by simp)) f4.size⟩
    · try simp -dsimp only [go_sem, putAt_one]
      intro b5 h5 n5
      try simp -dsimp only [go_sem] at n5
      simp -dsimp only [go_sem, tU_eq, tC_eq]
      exact ⟨n5.fr, CA.mk [(.pointer (some ⟨c 0, 0, none⟩), (relM g 0))] n5.row (pa_cons (PA.fr (R 0 (by decide) h4 f4) n5.fr) (pa_nil)) (by simp)⟩
    · try simp -dsimp only [go_sem]
      refine call_of (arm_chain (E 5 (by decide) h4 f4) a53 (ht.fr (P0 h4 f4) (.inr rfl))) ?_
      rintro v h5 ⟨f5, -, w⟩
      simp -dsimp only [go_sem, tN_eq]
      exact ⟨f5, PN.lower (w (by simp)) f4.size⟩
    · try simp -dsimp only [go_sem, putAt_one]
      intro b5 h5 n5
      try simp -dsimp only [go_sem] at n5
      simp -dsimp only [go_sem, tU_eq, tC_eq]
      exact ⟨n5.fr, CA.mk [(.pointer (some ⟨rl, 0, none⟩), (dM (isM g 13)))] n5.row (pa_cons (PA.fr (RL h4 f4) n5.fr) (pa_nil)) (by simp)⟩
    · try simp -dsimp only [go_sem]
      refine call_of (arm_chain (R 0 (by decide) h4 f4) a61 (ht.fr (P0 h4 f4) (.inr rfl))) ?_
      rintro v h5 ⟨f5, -, w⟩
      simp -dsimp only [go_sem, tN_eq]
      exact ⟨f5, PN.lower (w (by simp)) f4.size⟩
    · try simp -dsimp only [go_sem, putAt_one]
      intro b5 h5 n5
      try simp -dsimp only [go_sem] at n5
      simp -dsimp only [go_sem, tU_eq, tC_eq]
      exact ⟨n5.fr, CA.mk [(.pointer (some ⟨rl, 0, none⟩), (dM (isM g 13))), (.pointer (some ⟨d 3, 0, none⟩), (coiM g))] n5.row (pa_cons (PA.fr (RL h4 f4) n5.fr) (pa_cons (PA.fr (E 3 (by decide) h4 f4) n5.fr) (pa_nil))) (by simp)⟩
    · try simp -dsimp only [go_sem]
      refine call_of (arm_chain (R 0 (by decide) h4 f4) a73 (ht.fr (P0 h4 f4) (.inr rfl))) ?_
      rintro v h5 ⟨f5, -, w⟩
      simp -dsimp only [go_sem, tN_eq]
      exact ⟨f5, PN.lower (w (by simp)) f4.size⟩
    · try simp -dsimp only [go_sem, a13.pa.cl, a34.pa.cl, a43.pa.cl, a54.pa.cl, a62.pa.cl, a74.pa.cl, putAt_one]
      intro b5 h5 n5
      try simp -dsimp only [go_sem] at n5
      simp -dsimp only [go_sem, tU_eq, tC_eq]
      exact ⟨n5.fr, UA.mk' [((V 13).1, (chM g.n (relM g 0) [(dM (isM g 15)), (relM g 0)])), ((V 34).1, (chM g.n (dM (isK g 1)) [(relM g 0), (dM (isM g 14)), (relM g 0)])), ((V 43).1, (chM g.n (dM (isM g 13)) [(relM g 0), (dM (isM g 12))])), ((V 54).1, (chM g.n (dM (acqB g)) [(relM g 0)])), ((V 62).1, (chM g.n (relM g 0) [(dM (isM g 13))])), ((V 74).1, (chM g.n (relM g 0) [(dM (isM g 13)), (coiM g)]))] n5.row (pa_cons (PA.fr (a13.pa) n5.fr) (pa_cons (PA.fr (a34.pa) n5.fr) (pa_cons (PA.fr (a43.pa) n5.fr) (pa_cons (PA.fr (a54.pa) n5.fr) (pa_cons (PA.fr (a62.pa) n5.fr) (pa_cons (PA.fr (a74.pa) n5.fr) (pa_nil))))))) (by simp) (by simp)⟩
    · try simp -dsimp only [go_sem]
      refine call_of (rel_UnionU a75) ?_
      rintro v h5 ⟨f5, w⟩
      simp -dsimp only [go_sem, tN_eq]
      exact ⟨f5, PN.lower (PN.of w) f4.size⟩
    · try simp -dsimp only [go_sem, tN_eq]
      exact ⟨.refl _ _ _, a76⟩
  · intro h4 f4 V _
    simp -dsimp only [go_sem, tC_eq, tU_eq, tN_eq]
    intro a6 a12 a13 a20 a27 a33 a34 a42 a43 a53 a54 a61 a62 a73 a74 a75 a76 a77
    try simp -dsimp only [go_sem]
    refine ⟨P0 h4 f4, (a77.lower hLz).congr fun i j hi hj => ?_⟩
    unfold orM bobM chM
    simp only [List.foldl_cons, List.foldl_nil, List.any_cons, List.any_nil, Bool.or_false, compM_dR hi hj]
    have e1 : compM g.n (compM g.n (relM g 0) g.n (dM (isM g 15))) g.n (relM g 0) i j = exB g.n fun k => relM g 0 i k && isM g 15 k && relM g 0 k j := by
      rw [compM_in hi hj]; exact exB_congr fun k hk => by rw [compM_dR hi hk]
    have e2 : compM g.n (compM g.n (compM g.n (dM (isK g 1)) g.n (relM g 0)) g.n (dM (isM g 14))) g.n (relM g 0) i j = exB g.n fun k => isK g 1 i && relM g 0 i k && isM g 14 k && relM g 0 k j := by
      rw [compM_in hi hj]; exact exB_congr fun k hk => by rw [compM_dR hi hk, compM_dL hi hk]
    have e3 : compM g.n (compM g.n (relM g 0) g.n (dM (isM g 13))) g.n (coiM g) i j = exB g.n fun k => relM g 0 i k && isM g 13 k && coiM g k j := by
      rw [compM_in hi hj]; exact exB_congr fun k hk => by rw [compM_dR hi hk]
    rw [e1, e2, e3]
    simp only [compM_dL hi hj, Bool.or_assoc]
end
end Go.Proofs.Tst
