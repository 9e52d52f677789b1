/-
  Contracts of functions that the law reaches: what each returns and what it leaves in memory. Conditions stand in each.
-/
import Derived.Test.YtmilaghhnaoidaaDoorT8
set_option linter.all false
set_option maxRecDepth 2000
/-
  From a contract to a row: what a law's call leaves; how arguments are read.
-/
namespace Go.Vc
open Go Go.RowKit Go.ChangeShapes Go.WideShapes Go.ChangeAt Go.Deep
section
variable {H : Type} {enc : TypeId × Value → H} {P : Program}
theorem trodAll_below (hl : laidOutB P = true) {W W' : World} (hb : Below W.heap.size W W') : ∀ {ts : List TypeId} {vs : List Value} {ds : List (DataW H)} {ps : List MemPlace},
    ts.all (fun t => P.readableRec t && decide (t < P.types.size)) = true → DataW.TrodAll enc P W 0 (fun _ => true) true ts vs ds ps → DataW.TrodAll enc P W' 0 (fun b => decide (b < W.heap.size)) true ts vs ds ps
  | [], _, _, _, _, h => by
    obtain ⟨rfl, rfl, rfl⟩ := trodAll_nil h
    exact rfl
  | t :: ts, _, _, _, hr, h => by
    have hlt := h.lt
    obtain ⟨v, vs, d, ds, p, q, rfl, rfl, rfl, h1, h2⟩ := trodAll_cons h
    simp only [List.all_cons, Bool.and_eq_true, decide_eq_true_eq] at hr
    exact ⟨p, q, Below.trod hl hr.1.1 hr.1.2 h1 hb (fun x hx => hlt x (List.mem_append_left _ hx)), trodAll_below hl hb hr.2 h2, rfl⟩

/-- What a law that answers true leaves. -/
theorem law_post {f : Func} {s : ChangeSpec} {W W' : World} {args : Array Value} {ds gs : List (DataW H)} {before : List MemPlace} {tb : TypeId}
    (hl : laidOutB P = true) (hp : f.params.toList.all (fun t => P.readableRec t && decide (t < P.types.size)) = true) (hv : s.vars = [])
    (hrt : f.resultTypes = #[tb]) (htb : P.underlying tb = some .bool) (hW : DataW.Whole enc P f.params.toList s.vars false W args.toList ds gs before)
    (hb : Below W.heap.size W W') (hfn : s.fn H (ds ++ gs) = { results := [.lit (.bool true)], args := ds }) : s.post enc P f false true false false W args (.bool true) W' := by
  have hW0 := hW
  obtain ⟨p, q, hA, hV, rfl, hz, hn⟩ := hW0
  rw [hv] at hV
  obtain ⟨rfl, rfl⟩ := trodVars_none hV
  refine ⟨ds, [], _, [], p, [], hW, ?_, ?_, ?_, ?_, fun h => by cases h⟩
  · rw [hfn, hrt]; exact trodAll_cons_mk (shut_bool htb true) trodAll_mk0
  · rw [hfn]; exact trodAll_below hl hb hp hA
  · rw [hfn, hv]; exact rfl
  · refine World.keptBut_mono (fun p hp => ⟨hp, ?_⟩) (hb.frame (· ∈ p ++ []))
    rw [List.append_nil] at hp
    exact .inr (.inl hp)

/-- The heap's part of a call that keeps all that was. -/
theorem below_of {w w' : World} (hf : Fr 0 0 w.heap w'.heap) (hl : Like none w w') : Below w.heap.size w w' :=
  ⟨hl.os, hl.tape, hl.output, hl.size, fun k hk => hf.old k hk (.inr (Nat.zero_le _))⟩

/-! ### Arguments -/
theorem cell?_plain {w : World} {a : Addr} {v : Value} (h : w.cell? a = some v) : a.spot = none := by
  unfold World.cell? at h
  split at h
  · split at h
    · cases h
    · rename_i hs; simpa using hs
  · cases h
theorem addr_plain {a : Addr} (h : a.spot = none) : a = ⟨a.block, a.off, none⟩ := by cases a; simp_all
theorem cell?_add {w : World} {a : Addr} (ha : a.spot = none) (j : Nat) : w.cell? (a.add j) = hcell w.heap a.block (a.off + j) := by
  rw [← cell?_heap]
  unfold Addr.add
  split
  · rename_i h; subst h; rw [Nat.add_zero, ← addr_plain ha]
  · rw [← ha]
theorem rd_of {w : World} {s n c : Nat} {a : Addr} {xs : List Value} (hs : 0 < s) (hl : xs.length = n * s) (hc : ∀ j, j < n * s → ∃ v, xs[j]? = some v ∧ w.cell? (a.add j) = some v) : Rd s w.heap (.slice (some a) n c) n xs := by
  refine ⟨hl, _, _, rfl, ?_⟩
  rcases Nat.eq_zero_or_pos n with h0 | h0
  · exact .inl h0
  · have hp : 0 < n * s := Nat.mul_pos h0 hs
    obtain ⟨v, _, hv⟩ := hc 0 hp
    have ha : a.spot = none := cell?_plain (w := w) (a := a) (by simpa [Addr.add] using hv)
    refine .inr ⟨a.block, a.off, by rw [← addr_plain ha], fun j x hj => ?_⟩
    obtain ⟨v, h1, h2⟩ := hc j (by have := (List.getElem?_eq_some_iff.1 hj).1; omega)
    rw [hj] at h1; cases h1
    rw [← cell?_add ha]; exact h2
variable {w : World} {base : Nat} {held : Bool}
end
end Go.Vc
/-
  A graph that came in.
-/
namespace Go.Proofs.Tst
open Go Go.Vc Go.RowKit Go.ChangeShapes Go.WideShapes Go.ChangeAt Go.Deep
section
variable {H : Type} {enc : TypeId × Value → H} {P : Program}
theorem weightsAll_mem {e : TypeId} {y : Nat} {d : DataW H} : ∀ {ds : List (DataW H)}, d ∈ ds → y ∈ d.weights P e → y ∈ DataW.weightsAll P e ds
  | [], h, _ => by simp at h
  | x :: r, h, hy => by
    rw [DataW.weightsAll, List.mem_append]
    rcases List.mem_cons.1 h with rfl | h
    · exact .inl hy
    · exact .inr (weightsAll_mem h hy)
theorem weightsEach_mem {y : Nat} {d : DataW H} {t : TypeId} : ∀ {k : Nat} {ts : List TypeId} {ds : List (DataW H)}, ts[k]? = some t → ds[k]? = some d → y ∈ d.weights P t → y ∈ DataW.weightsEach P ts ds
  | _, [], _, h, _, _ => by simp at h
  | _, _ :: _, [], _, h, _ => by simp at h
  | 0, _ :: _, _ :: _, h1, h2, hy => by
    simp at h1 h2; subst h1; subst h2
    rw [DataW.weightsEach, List.mem_append]; exact .inl hy
  | k + 1, _ :: _, _ :: _, h1, h2, hy => by
    rw [DataW.weightsEach, List.mem_append]
    exact .inr (weightsEach_mem (by simpa using h1) (by simpa using h2) hy)
variable {w : World} {base : Nat} {held : Bool}
theorem read_pairs {t e : TypeId} {f0 f1 : Field} {v : Value} {fuel : Nat} {x : DataW H × List MemPlace} (ht : P.underlying t = some (.slice e)) (he : P.underlying e = some (.struct #[f0, f1])) (ce : P.cellsOf e = 2) (hby : P.bytesOf e = 16)
    (o0 : f0.offset = 0) (o1 : f1.offset = 1) (c0 : P.cellsOf f0.type = 1) (c1 : P.cellsOf f1.type = 1) (u0 : P.underlying f0.type = some (.int .i64)) (u1 : P.underlying f1.type = some (.int .i64))
    (hf : DataW.trod enc P w base (fun _ => true) held fuel t [v] = some x) (hw : ∀ y ∈ x.1.weights P t, y ≤ reachBytes) :
    ∃ l : List (Int × Int), Rd 2 w.heap v l.length (pairsV l) ∧ l.length ≤ 8796093022208 := by
  rcases open_slice_pairs ht he ce o0 o1 c0 c1 hf with ⟨h1, h2⟩ | ⟨a', len, cap, m, k, V0, V1, D0, D1, P0, P1, h1, _, hlc, _, hm, rfl, hcell⟩
  · cases h1
    exact ⟨[], ⟨rfl, _, _, rfl, .inl rfl⟩, by simp⟩
  · cases h1
    simp only [if_true] at hm
    subst hm
    have hwt := hw _ (by simp only [DataW.weights, ht]; exact List.mem_cons_self ..)
    simp only [List.length_map, List.length_range, hby] at hwt
    unfold reachBytes at hwt
    obtain ⟨Z, hZ⟩ := choose_lt (α := Int × Int) (n := m) (p := fun i z => V0 i = .int .i64 z.1 ∧ V1 i = .int .i64 z.2) (fun i hi => by
      obtain ⟨_, _, g1, g2⟩ := hcell i hi
      obtain ⟨x, hx, _, hxw⟩ := DataW.trod_int u0 g1
      obtain ⟨y, hy, _, hyw⟩ := DataW.trod_int u1 g2
      exact ⟨(x, y), by simpa using hx, by simpa using hy⟩)
    have hl : ((List.range len).map Z).length = len := by simp
    refine ⟨(List.range len).map Z, ?_, by rw [hl]; omega⟩
    rw [hl]
    refine rd_of (by omega) (by simp) fun j hj => ?_
    obtain ⟨i, hij⟩ : ∃ i, j = i * 2 ∨ j = i * 2 + 1 := ⟨j / 2, by omega⟩
    have hi : i < len := by omega
    have hg : ((List.range len).map Z)[i]? = some (Z i) := by simp [hi]
    obtain ⟨g1, g2⟩ := pairsV_get _ _ _ hg
    obtain ⟨h3, h4, _, _⟩ := hcell i (by omega)
    obtain ⟨h5, h6⟩ := hZ i (by omega)
    rcases hij with rfl | rfl
    · exact ⟨_, g1, by rw [h3, h5]⟩
    · exact ⟨_, g2, by rw [h4, h6]⟩
theorem read_ints {t e : TypeId} {v : Value} {fuel : Nat} {x : DataW H × List MemPlace} (ht : P.underlying t = some (.slice e)) (he : P.underlying e = some (.int .i64)) (hc : P.cellsOf e = 1) (hby : P.bytesOf e = 8)
    (hf : DataW.trod enc P w base (fun _ => true) held fuel t [v] = some x) (hw : ∀ y ∈ x.1.weights P t, y ≤ reachBytes) :
    ∃ (l : List Int) (a : Option Addr) (c : Nat), v = .slice a l.length c ∧ l.length ≤ c ∧ Rd 1 w.heap (.slice a l.length c) l.length (intsV l) ∧ l.length ≤ 17592186044416 := by
  rcases open_ints ht he hc hf with ⟨h1, h2⟩ | ⟨a', len, cap, zs, h1, _, hlc, _, hz, rfl, hcell, hwf⟩
  · cases h1
    exact ⟨[], none, 0, rfl, Nat.le_refl _, ⟨rfl, _, _, rfl, .inl rfl⟩, by simp⟩
  · cases h1
    simp only [if_true] at hz
    have hwt := hw _ (by simp only [DataW.weights, ht]; exact List.mem_cons_self ..)
    simp only [lits, List.length_map, List.length_take, List.length_drop, hby] at hwt
    unfold reachBytes at hwt
    have hl : (zs.take len).length = len := by simp; omega
    refine ⟨zs.take len, some a', cap, by rw [hl], by rw [hl]; exact hlc, ?_, by rw [hl]; omega⟩
    rw [hl]
    refine rd_of (by omega) (by simp; omega) fun j hj => ?_
    have hj : j < zs.length := by omega
    refine ⟨.int .i64 (zs.getD j 0), ?_, hcell j hj⟩
    have : (zs.take len)[j]? = some (zs.getD j 0) := by
      rw [List.getElem?_take_of_lt (by omega)]; simp [hj]
    exact intsV_get this
theorem read_lists {t e i : TypeId} {v : Value} {fuel : Nat} {x : DataW H × List MemPlace} (ht : P.underlying t = some (.slice e)) (he : P.underlying e = some (.slice i)) (hi : P.underlying i = some (.int .i64)) (ce : P.cellsOf e = 1) (be : P.bytesOf e = 24) (ci : P.cellsOf i = 1) (bi : P.bytesOf i = 8)
    (hf : DataW.trod enc P w base (fun _ => true) held fuel t [v] = some x) (hw : ∀ y ∈ x.1.weights P t, y ≤ reachBytes) :
    ∃ (L : List (List Int)) (a : Option Addr) (c : Nat), v = .slice a L.length c ∧ L.length ≤ c ∧ RL w.heap (.slice a L.length c) (L.map intsV) ∧ RLc w.heap (.slice a L.length c) (L.map intsV) ∧ L.length ≤ 5864062014805 ∧ ∀ l ∈ L, l.length ≤ 17592186044416 := by
  rcases open_slice ht hf with ⟨h1, h2⟩ | ⟨a', len, cap, m, k, D, Pl, h1, _, hlc, _, hm, rfl, hcell⟩
  · cases h1
    exact ⟨[], none, 0, rfl, Nat.le_refl _, ⟨[], ⟨rfl, _, _, rfl, .inl rfl⟩, by simp⟩, ⟨[], ⟨rfl, _, _, rfl, .inl rfl⟩, by simp⟩, by simp, by simp⟩
  · cases h1
    simp only [if_true] at hm
    subst hm
    have hwt := hw _ (by simp only [DataW.weights, ht]; exact List.mem_cons_self ..)
    simp only [List.length_map, List.length_range, be] at hwt
    unfold reachBytes at hwt
    obtain ⟨Z, hZ⟩ := choose_lt (α := Value × List Int) (n := len) (p := fun i z => w.cell? (a'.add (i * 1)) = some z.1 ∧ (∃ a c, z.1 = .slice a z.2.length c ∧ z.2.length ≤ c ∧ Rd 1 w.heap (.slice a z.2.length c) z.2.length (intsV z.2)) ∧ z.2.length ≤ 17592186044416) (fun i hil => by
      obtain ⟨cs, hc1, hc2⟩ := hcell i (by omega)
      rw [ce] at hc1
      obtain ⟨_, hlen, hcs⟩ := World.cells?_some hc1
      have hDi : D i ∈ (List.range len).map D := List.mem_map.2 ⟨i, List.mem_range.2 hil, rfl⟩
      have hwD : ∀ y ∈ (D i).weights P e, y ≤ reachBytes := fun y hy => hw y (by
        simp only [DataW.weights, ht]
        exact List.mem_cons_of_mem _ (List.mem_append_left _ (weightsAll_mem hDi hy)))
      match cs, hlen with
      | [u], _ =>
        obtain ⟨l, a, c, h1, h2, h3, h4⟩ := read_ints he hi ci bi hc2 hwD
        have h0 := hcs 0 (by omega)
        refine ⟨(u, l), ?_, ⟨a, c, h1, h2, h3⟩, h4⟩
        rw [add_add] at h0
        simpa using h0)
    have hl : ((List.range len).map fun i => (Z i).2).length = len := by simp
    have hus : Rd 1 w.heap (.slice (some a') len m) len ((List.range len).map fun i => (Z i).1) := by
      refine rd_of (by omega) (by simp) fun j hj => ?_
      have hj' : j < len := by omega
      refine ⟨(Z j).1, by simp [hj'], ?_⟩
      have := (hZ j hj').1
      rwa [Nat.mul_one] at this
    have get : ∀ (i : Nat) (l : List Value), (((List.range len).map fun i => (Z i).2).map intsV)[i]? = some l → i < len ∧ l = intsV (Z i).2 := fun i l h => by
      have hil : i < len := by
        have := (List.getElem?_eq_some_iff.1 h).1
        simpa using this
      refine ⟨hil, ?_⟩
      simp [hil] at h
      exact h.symm
    refine ⟨(List.range len).map fun i => (Z i).2, some a', m, by rw [hl], by rw [hl]; exact hlc, ⟨(List.range len).map fun i => (Z i).1, ?_, fun i l h => ?_⟩, ⟨(List.range len).map fun i => (Z i).1, ?_, fun i l h => ?_⟩, by rw [hl]; omega, fun l hm => ?_⟩
    · simpa using hus
    · obtain ⟨hil, rfl⟩ := get i l h
      obtain ⟨-, ⟨a, c, h1, h2, h3⟩, -⟩ := hZ i hil
      exact ⟨_, by simp [hil]; rfl, by rw [h1, length_intsV]; exact h3⟩
    · simpa using hus
    · obtain ⟨hil, rfl⟩ := get i l h
      obtain ⟨-, ⟨a, c, h1, h2, h3⟩, -⟩ := hZ i hil
      exact ⟨a, c, by simp [hil, h1], by rw [length_intsV]; exact h2, by rw [length_intsV]; exact h3⟩
    · obtain ⟨i, hi, rfl⟩ := List.mem_map.1 hm
      exact (hZ i (List.mem_range.1 hi)).2.2
theorem read_events {t e ti tu : TypeId} {f0 f1 f2 f3 f4 : Field} {v : Value} {fuel : Nat} {x : DataW H × List MemPlace} (ht : P.underlying t = some (.slice e)) (he : P.underlying e = some (.struct #[f0, f1, f2, f3, f4])) (ce : P.cellsOf e = 5) (hby : P.bytesOf e = 40)
    (hO : f0.offset = 0 ∧ f1.offset = 1 ∧ f2.offset = 2 ∧ f3.offset = 3 ∧ f4.offset = 4) (hT : f0.type = ti ∧ f1.type = ti ∧ f2.type = ti ∧ f3.type = tu ∧ f4.type = ti) (ci : P.cellsOf ti = 1) (cu : P.cellsOf tu = 1) (ui : P.underlying ti = some (.int .i64)) (uu : P.underlying tu = some (.int .u64))
    (hf : DataW.trod enc P w base (fun _ => true) held fuel t [v] = some x) (hw : ∀ y ∈ x.1.weights P t, y ≤ reachBytes) :
    ∃ (l : List Ev), Rd 5 w.heap v l.length (evsV l) ∧ l.length ≤ 3518437208883 := by
  rcases open_slice ht hf with ⟨h1, h2⟩ | ⟨a', len, cap, m, k, D, Pl, h1, _, hlc, _, hm, rfl, hcell⟩
  · cases h1
    exact ⟨[], ⟨rfl, _, _, rfl, .inl rfl⟩, by simp⟩
  · cases h1
    simp only [if_true] at hm
    subst hm
    have hwt := hw _ (by simp only [DataW.weights, ht]; exact List.mem_cons_self ..)
    simp only [List.length_map, List.length_range, hby] at hwt
    unfold reachBytes at hwt
    obtain ⟨o0, o1, o2, o3, o4⟩ := hO
    obtain ⟨t0, t1, t2, t3, t4⟩ := hT
    obtain ⟨Z, hZ⟩ := choose_lt (α := Ev) (n := len) (p := fun i z => ∀ j, j < 5 → ∃ v, z.cells[j]? = some v ∧ w.cell? (a'.add (i * 5 + j)) = some v) (fun i hi => by
      obtain ⟨cs, hc1, hc2⟩ := hcell i (by omega)
      rw [ce] at hc1
      obtain ⟨_, hlen, hcs⟩ := World.cells?_some hc1
      obtain ⟨xs, k', hk, hxy, _, hxl, hfld⟩ := DataW.trod_struct he hc2
      match xs, hxl, cs, hlen with
      | [y0, y1, y2, y3, y4], _, [v0, v1, v2, v3, v4], _ =>
        have q0 := hfld 0 f0 rfl
        have q1 := hfld 1 f1 rfl
        have q2 := hfld 2 f2 rfl
        have q3 := hfld 3 f3 rfl
        have q4 := hfld 4 f4 rfl
        simp [o0, o1, o2, o3, o4, t0, t1, t2, t3, t4, ci, cu] at q0 q1 q2 q3 q4
        obtain ⟨x0, e0, -, -⟩ := DataW.trod_int ui q0
        obtain ⟨x1, e1, -, -⟩ := DataW.trod_int ui q1
        obtain ⟨x2, e2, -, -⟩ := DataW.trod_int ui q2
        obtain ⟨x3, e3, -, -⟩ := DataW.trod_int uu q3
        obtain ⟨x4, e4, -, -⟩ := DataW.trod_int ui q4
        simp at e0 e1 e2 e3 e4
        refine ⟨⟨x0, x1, x2, x3, x4⟩, fun j hj => ?_⟩
        have hj' := hcs j hj
        rw [add_add] at hj'
        have hcl : (Ev.cells ⟨x0, x1, x2, x3, x4⟩) = [v0, v1, v2, v3, v4] := by simp [Ev.cells, e0, e1, e2, e3, e4]
        rw [hcl]
        have hjl : j < [v0, v1, v2, v3, v4].length := hj
        exact ⟨_, List.getElem?_eq_getElem hjl, by rw [hj']; exact List.getElem?_eq_getElem hjl⟩)
    have hl : ((List.range len).map Z).length = len := by simp
    refine ⟨(List.range len).map Z, ?_, by rw [hl]; omega⟩
    rw [hl]
    refine rd_of (by omega) (by rw [length_evsV, hl]) fun j hj => ?_
    have hi : j / 5 < len := by omega
    have hg : ((List.range len).map Z)[j / 5]? = some (Z (j / 5)) := by simp [hi]
    obtain ⟨v, h3, h4⟩ := hZ (j / 5) hi (j % 5) (by omega)
    have hrow := evsV_get hg (j % 5) (by omega)
    rw [show j / 5 * 5 + j % 5 = j from by omega] at hrow h4
    exact ⟨v, by rw [hrow]; exact h3, h4⟩
/-- **A graph that came in.** -/
theorem arg_graph {r : Reach} {b0 : Nat} {t te tes tps tp tll tl ti tu : TypeId} {f0 f1 f2 f3 f4 f5 f6 f7 e0 e1 e2 e3 e4 g0 g1 : Field} {v : Value} {d : DataW H} {ps : List MemPlace} (ht : P.underlying t = some (.struct #[f0, f1, f2, f3, f4, f5, f6, f7])) (ct : P.cellsOf t = 8)
    (hO : f0.offset = 0 ∧ f1.offset = 1 ∧ f2.offset = 2 ∧ f3.offset = 3 ∧ f4.offset = 4 ∧ f5.offset = 5 ∧ f6.offset = 6 ∧ f7.offset = 7) (hT : f0.type = ti ∧ f1.type = tes ∧ f2.type = tps ∧ f3.type = tll ∧ f4.type = tps ∧ f5.type = tps ∧ f6.type = tps ∧ f7.type = tps)
    (ues : P.underlying tes = some (.slice te)) (ue : P.underlying te = some (.struct #[e0, e1, e2, e3, e4])) (ce : P.cellsOf te = 5) (be : P.bytesOf te = 40) (hEO : e0.offset = 0 ∧ e1.offset = 1 ∧ e2.offset = 2 ∧ e3.offset = 3 ∧ e4.offset = 4) (hET : e0.type = ti ∧ e1.type = ti ∧ e2.type = ti ∧ e3.type = tu ∧ e4.type = ti)
    (ups : P.underlying tps = some (.slice tp)) (up : P.underlying tp = some (.struct #[g0, g1])) (cp : P.cellsOf tp = 2) (bp : P.bytesOf tp = 16) (hPO : g0.offset = 0 ∧ g1.offset = 1 ∧ g0.type = ti ∧ g1.type = ti)
    (ull : P.underlying tll = some (.slice tl)) (ul : P.underlying tl = some (.slice ti)) (cl : P.cellsOf tl = 1) (bl : P.bytesOf tl = 24) (ui : P.underlying ti = some (.int .i64)) (ci : P.cellsOf ti = 1) (bi : P.bytesOf ti = 8) (uu : P.underlying tu = some (.int .u64)) (cu : P.cellsOf tu = 1)
    (ces : P.cellsOf tes = 1) (cps : P.cellsOf tps = 1) (cll : P.cellsOf tll = 1)
    (hval : Value.okWide P w r b0 t v) (hd : DataW.Trod enc P w base (fun _ => true) held t v d ps) (hw : ∀ x ∈ d.weights P t, x ≤ reachBytes) :
    ∃ (q : GV) (g : Gr), v = .agg (gcells q g).toArray ∧ GrAt w.heap q g := by
  obtain ⟨cs, rfl, hcs⟩ := okWide_struct ht hval
  obtain ⟨fuel, hf⟩ := hd
  have hf : DataW.trod enc P w base (fun _ => true) held fuel t cs.toList = some (d, ps) := hf
  obtain ⟨xs, k, hk, hx, hl, hxl, hfld⟩ := DataW.trod_struct ht hf
  simp only [Prod.mk.injEq] at hx
  obtain ⟨hD, -⟩ := hx
  obtain ⟨o0, o1, o2, o3, o4, o5, o6, o7⟩ := hO
  obtain ⟨t0, t1, t2, t3, t4, t5, t6, t7⟩ := hT
  obtain ⟨go0, go1, gt0, gt1⟩ := hPO
  rw [ct] at hl
  obtain ⟨cl'⟩ := cs
  match xs, hxl, cl', hl with
  | [y0, y1, y2, y3, y4, y5, y6, y7], _, [v0, v1, v2, v3, v4, v5, v6, v7], _ =>
    have q0 := hfld 0 f0 rfl
    have q1 := hfld 1 f1 rfl
    have q2 := hfld 2 f2 rfl
    have q3 := hfld 3 f3 rfl
    have q4 := hfld 4 f4 rfl
    have q5 := hfld 5 f5 rfl
    have q6 := hfld 6 f6 rfl
    have q7 := hfld 7 f7 rfl
    simp [o0, o1, o2, o3, o4, o5, o6, o7, t0, t1, t2, t3, t4, t5, t6, t7, ci, ces, cps, cll] at q0 q1 q2 q3 q4 q5 q6 q7
    simp only [List.map_cons, List.map_nil] at hD
    have wt : ∀ (j : Nat) (tj : TypeId) (y : DataW H), ([ti, tes, tps, tll, tps, tps, tps, tps] : List TypeId)[j]? = some tj → ([y0.1, y1.1, y2.1, y3.1, y4.1, y5.1, y6.1, y7.1] : List (DataW H))[j]? = some y → ∀ z ∈ y.weights P tj, z ≤ reachBytes := fun j tj y h1 h2 z hz => hw z (by
      rw [hD]; simp only [DataW.weights, ht]
      refine weightsEach_mem (k := j) (t := tj) (d := y) ?_ h2 hz
      simpa [t0, t1, t2, t3, t4, t5, t6, t7] using h1)
    obtain ⟨x0, e0', -, -⟩ := DataW.trod_int ui q0
    simp at e0'
    subst e0'
    obtain ⟨le, re, be'⟩ := read_events ues ue ce be hEO hET ci cu ui uu q1 (wt 1 _ _ rfl rfl)
    have rp := fun (v : Value) (y : DataW H × List MemPlace) (q : DataW.trod enc P w base (fun _ => true) held k tps [v] = some y) (hy : ∀ z ∈ y.1.weights P tps, z ≤ reachBytes) => read_pairs ups up cp bp go0 go1 (by rw [gt0]; exact ci) (by rw [gt1]; exact ci) (by rw [gt0]; exact ui) (by rw [gt1]; exact ui) q hy
    obtain ⟨lf, rf, bf⟩ := rp _ _ q2 (wt 2 _ _ rfl rfl)
    obtain ⟨L, la, lc, rfl, hLc, rL, rLc, bL, bl'⟩ := read_lists ull ul ui cl bl ci bi q3 (wt 3 _ _ rfl rfl)
    obtain ⟨lr, rr, br⟩ := rp _ _ q4 (wt 4 _ _ rfl rfl)
    obtain ⟨lad, ra, ba⟩ := rp _ _ q5 (wt 5 _ _ rfl rfl)
    obtain ⟨ld, rd', bd⟩ := rp _ _ q6 (wt 6 _ _ rfl rfl)
    obtain ⟨lct, rc, bc⟩ := rp _ _ q7 (wt 7 _ _ rfl rfl)
    obtain ⟨ea, ec, rfl⟩ := re.is
    obtain ⟨fa, fc, rfl⟩ := rf.is
    obtain ⟨ra', rc', rfl⟩ := rr.is
    obtain ⟨aa, ac, rfl⟩ := ra.is
    obtain ⟨da, dc, rfl⟩ := rd'.is
    obtain ⟨ca, cc, rfl⟩ := rc.is
    exact ⟨⟨ea, fa, la, ra', aa, da, ca, ec, fc, lc, rc', ac, dc, cc⟩, ⟨x0, le, lf, L, lr, lad, ld, lct⟩, rfl, ⟨re, rf, rL, rr, ra, rd', rc, ⟨be', bf, bL, br, ba, bd, bc, bl'⟩, hLc, rLc⟩⟩
end
end Go.Proofs.Tst
/-
  GraphDerives and its arguments.
-/
namespace Go.Proofs.Tst
end Go.Proofs.Tst
