/-
  Contracts of functions that the law reaches: what each returns and what it leaves in memory. Conditions stand in each.
-/
import Derived.Test.YtmilaghhnaoidaaDoorT5
set_option linter.all false
set_option maxRecDepth 2000
/-
  graph's With, Thread and Final.
-/
namespace Go.Proofs.Tst
open Go Go.Vc
def withB (g : Gr) (m : List Int) : List Bool := g.evs.map fun e => m.contains e.mode
def threadTo (g : Gr) (t : Int) (i : Nat) : List Int := ((List.range i).filter fun i => (g.ev i).thread == t).map fun (i : Nat) => (i : Int)
def threadL (g : Gr) (t : Int) : List Int := threadTo g t g.n
def finalOf (g : Gr) (l : List Int) : Int := (g.ev (l.getLastD 0).toNat).val
def finals (g : Gr) : List Int := g.co.map (finalOf g)
theorem threadTo_succ {g : Gr} {t : Int} {i : Nat} : threadTo g t (i + 1) = threadTo g t i ++ (if (g.ev i).thread = t then [(i : Int)] else []) := by
  unfold threadTo
  rw [List.range_succ, List.filter_append, List.map_append]
  congr 1
  by_cases h : (g.ev i).thread = t
  · rw [if_pos h]; simp [h]
  · rw [if_neg h]; simp [h]
theorem threadTo_len {g : Gr} {t : Int} {i : Nat} : (threadTo g t i).length ≤ i := by
  unfold threadTo; rw [List.length_map]; exact Nat.le_trans (List.length_filter_le _ _) (by simp)
theorem check_zero {g : Gr} {words : Bool} (h : (g.check words).1 = 0) : g.size = true ∧ ¬ 0 ≤ g.initAt words ∧ ¬ 0 ≤ g.evAt words ∧ ¬ 0 ≤ g.rfAt ∧ ¬ 0 ≤ g.coAt ∧ ¬ 0 ≤ g.rmwAt ∧
    ¬ 0 ≤ g.depAt words g.addr (fun k => k == 1 || k == 2) ∧ ¬ 0 ≤ g.depAt words g.data (fun k => k == 2) ∧ ¬ 0 ≤ g.depAt words g.ctrl (fun k => k == 1 || k == 2 || k == 3) := by
  unfold Gr.check at h
  cases h1 : g.size
  · rw [h1] at h; simp at h
  rw [h1, if_neg (by simp)] at h
  by_cases h2 : 0 ≤ g.initAt words
  · rw [if_pos h2] at h; simp at h
  rw [if_neg h2] at h
  by_cases h3 : 0 ≤ g.evAt words
  · rw [if_pos h3] at h; simp at h
  rw [if_neg h3] at h
  by_cases h4 : 0 ≤ g.rfAt
  · rw [if_pos h4] at h; simp at h
  rw [if_neg h4] at h
  by_cases h5 : 0 ≤ g.coAt
  · rw [if_pos h5] at h; simp at h
  rw [if_neg h5] at h
  by_cases h6 : 0 ≤ g.rmwAt
  · rw [if_pos h6] at h; simp at h
  rw [if_neg h6] at h
  by_cases h7 : 0 ≤ g.depAt words g.addr (fun k => k == 1 || k == 2)
  · rw [if_pos h7] at h; simp at h
  rw [if_neg h7] at h
  by_cases h8 : 0 ≤ g.depAt words g.data (fun k => k == 2)
  · rw [if_pos h8] at h; simp at h
  rw [if_neg h8] at h
  by_cases h9 : 0 ≤ g.depAt words g.ctrl (fun k => k == 1 || k == 2 || k == 3)
  · rw [if_pos h9] at h; simp at h
  exact ⟨rfl, h2, h3, h4, h5, h6, h7, h8, h9⟩
theorem good_check {g : Gr} (h : g.good = true) : ∃ words, (g.check words).1 = 0 := by
  unfold Gr.good at h
  simp only [Bool.or_eq_true, beq_iff_eq] at h
  rcases h with h | h
  · exact ⟨_, h⟩
  · exact ⟨_, h⟩
/-- The lists of a good graph. -/
theorem good_co {g : Gr} (h : g.good = true) : (g.co.length : Int) = g.cells ∧ ∀ c, c < g.co.length → g.coBad c (g.co.getD c []) = false := by
  obtain ⟨words, h⟩ := good_check h
  obtain ⟨hs, -, -, -, h5, -⟩ := check_zero h
  unfold Gr.coAt at h5
  have hlen : (g.co.length : Int) = g.cells := by
    apply Classical.byContradiction; intro hne
    rw [if_pos (.inr hne)] at h5; omega
  refine ⟨hlen, fun c hc => ?_⟩
  have hls : g.lists = g.co.length := by unfold Gr.lists; omega
  have hf : ¬ g.coFirst < g.lists := fun hlt => by rw [if_pos (.inl hlt)] at h5; omega
  cases hb : g.coBad c (g.co.getD c [])
  · rfl
  · exfalso
    apply hf
    unfold Gr.coFirst
    cases hfd : (List.range g.lists).find? (fun c => g.coBad c (g.co.getD c [])) with
    | none =>
      rw [List.find?_eq_none] at hfd
      exact absurd hb (hfd c (List.mem_range.2 (by omega)))
    | some u =>
      have := List.mem_of_find?_eq_some hfd
      rw [List.mem_range] at this
      exact this
theorem good_last {g : Gr} (h : g.good = true) {c : Nat} (hc : c < g.co.length) : ∃ w : Nat, 0 < (g.co.getD c []).length ∧ (g.co.getD c [])[(g.co.getD c []).length - 1]? = some (w : Int) ∧ w < g.n ∧ finalOf g (g.co.getD c []) = (g.ev w).val := by
  have hb := (good_co h).2 c hc
  rw [coBad_of] at hb
  simp only [Bool.not_eq_false', Bool.and_eq_true] at hb
  have hok := hb.1
  have hp := coOk_pos hok
  generalize g.co.getD c [] = l at *
  unfold coOk at hok
  simp only [Bool.and_eq_true, List.all_eq_true] at hok
  have hx : l[l.length - 1]? = some l[l.length - 1] := by simp [hp]
  have hm := hok.1.2 _ (List.mem_of_getElem? hx)
  have hl : l.getLastD 0 = l[l.length - 1] := by
    rw [List.getLastD_eq_getLast?, List.getLast?_eq_getElem?, hx]; rfl
  generalize l[l.length - 1] = x at *
  unfold coGood at hm
  simp only [Bool.and_eq_true] at hm
  obtain ⟨h1, h2, h3⟩ := is_lt hm.1
  obtain ⟨w, rfl⟩ := Int.eq_ofNat_of_zero_le h1
  exact ⟨w, hp, hx, by omega, by unfold finalOf; rw [hl, Int.toNat_natCast]⟩
theorem holder_row {s : Nat} {h : Heap} {b n : Nat} {xs : List Value} {lo : Nat} (r : Rw h b xs) (hl : xs.length = n * s) (hb : lo ≤ b) : Holder s h (.slice (some ⟨b, 0, none⟩) n n) n xs lo :=
  ⟨hl, .inr ⟨b, n, [], rfl, by rw [List.append_nil]; exact r, by simp, hb⟩⟩
theorem graph_With {h : Heap} {q : GV} {g : Gr} (t : GrAt h q g) (hn : g.n ≤ 281474976710656) {mv : Value} {m : List Int} (hm : Rd 1 h mv m.length (intsV m)) (bm : m.length ≤ 4611686018427387904) :
    Con Tryd.prog 22 #[.agg (gcells q g).toArray, mv] h fun v h' => Fr 0 0 h h' ∧ Holder 1 h' v g.n (boolsV (withB g m)) h.size := by
  refine con_graph_With ?_
  have p0 : Fr 0 0 h h := .refl _ _ _
  have be := t.fits.e
  have hen : g.evs.length = g.n := rfl
  obtain ⟨ma, mc, rfl⟩ := hm.is
  unfold gcells
  simp -dsimp only [go_sem]
  intro b1 h1 n1
  have n1_a := n1.at_
  have n1_z := n1.size
  replace p0 := p0.fresh (n1.fr (lo := 0) (hi := 0)) (by omega)
  have r1 := n1.row
  simp -dsimp only [go_sem, evs_len, r1.cell]
  refine Chk_intro (by omega) ?_
  intro b5 h2 n2
  have n2_a := n2.at_
  have n2_z := n2.size
  replace p0 := p0.fresh (n2.fr (lo := 0) (hi := 0)) (by omega)
  replace r1 := r1.fr (n2.fr (lo := 0) (hi := 0)) (by omega)
  have r2 := n2.row
  rw [zeros_one, Int.toNat_natCast, brow_false] at r2
  simp -dsimp only [go_sem, evs_len, r1.cell, r2.cell]
  refine loop_intro (fun i : Nat => [(1, .slice ma m.length mc), (5, .slice (some ⟨b5, 0, none⟩) g.n g.n), (13, .slice q.e g.evs.length q.ec), (14, .int .i64 g.n), (15, .int .i64 i)])
    (fun i h' => i ≤ g.n ∧ Fr 0 0 h h' ∧ Rw h' b5 (brow g.n fun j => decide (j < i) && m.contains (g.ev j).mode) ∧ h2.size ≤ h'.size) (fun i => g.n - i) 0 ?_ ?_ ?_
  · simp [Le, find, hen]
  · exact ⟨by omega, p0, by rw [brow_congr (g := fun _ => false) (fun j _ => by simp)]; exact r2, by omega⟩
  clear r2 p0
  rintro i h3 ⟨hi, p0, r2, y3⟩
  have p0_z := p0.size
  have r2_l := r2.lt
  have b5l : h.size ≤ b5 := by omega
  by_cases hlt : i < g.n
  · have e1 : ((i : Int) < (g.n : Int)) := by omega
    obtain ⟨eb, eo, he, hev⟩ := t.evs (by omega)
    obtain ⟨c0, c1, c2, c3, c4⟩ := hev h3 p0 i hlt
    simp -dsimp only [go_sem, e1, he, evs_len, c0, c1, c2, c3, c4, r2.cell]
    intro b7 h4 n4
    have n4_a := n4.at_
    have n4_z := n4.size
    replace p0 := p0.fresh (n4.fr (lo := 0) (hi := 0)) (by omega)
    replace r2 := r2.fr (n4.fr (lo := 0) (hi := 0)) (by omega)
    have r4 := n4.row
    simp -dsimp only [go_sem, r2.cell, r4.cell]
    refine Chk_intro (r4.wr (by first | (simp; done) | (simp; omega))) fun h5 s5 => ?_
    have s5_z := s5.size
    replace p0 := p0.fresh s5.fr (by omega)
    replace r2 := r2.fr s5.fr (by omega)
    replace r4 := s5.row r4
    try simp only [cl_int, cl_bool, cl_slice, cl_ptr, putAt_one, List.set_cons_zero, List.set_cons_succ, ivec_set, brow_upd] at r4
    simp -dsimp only [go_sem] at r4
    simp -dsimp only [go_sem, r2.cell, r4.cell]
    refine call_of (slices_Contains (hm.fr p0) (by omega)) ?_
    rintro v6 h6 ⟨rfl, rfl⟩
    simp -dsimp only [go_sem, r2.cell, r4.cell]
    refine Chk_intro (by omega) ?_
    simp -dsimp only [go_sem, r2.cell, r4.cell]
    refine Chk_intro (r2.wr (by first | (simp; done) | (simp; omega))) fun h7 s7 => ?_
    have s7_z := s7.size
    replace p0 := p0.fresh s7.fr (by omega)
    replace r4 := r4.fr s7.fr (by omega)
    replace r2 := s7.row r2
    try simp only [cl_int, cl_bool, cl_slice, cl_ptr, putAt_one, List.set_cons_zero, List.set_cons_succ, ivec_set, brow_upd] at r2
    simp -dsimp only [go_sem, r2.cell, r4.cell]
    simp -dsimp (disch := omega) only [wrap64]
    refine ⟨i + 1, by omega, by simp [Le, find, he, evs_len], by omega, p0, ?_, by omega⟩
    rw [brow_congr (g := _) (fun j hj => ?_)]
    · exact r2
    · unfold upd
      by_cases hji : j = i
      · subst hji; simp
      · simp [hji, show j < i + 1 ↔ j < i by omega]
  · obtain rfl : i = g.n := by omega
    simp -dsimp only [go_sem, Int.lt_irrefl, r2.cell]
    refine ⟨p0, ?_⟩
    have : boolsV (withB g m) = brow g.n fun j => decide (j < g.n) && m.contains (g.ev j).mode := by
      apply List.ext_getElem?
      intro j
      by_cases hj : j < g.n
      · rw [boolsV_get (b := m.contains (g.ev j).mode) (by unfold withB; rw [List.getElem?_map, Gr.ev_get hj]; rfl)]
        rw [brow_get hj]; simp [hj]
      · rw [List.getElem?_eq_none (by simp [withB]; unfold Gr.n at hj; omega), List.getElem?_eq_none (by simp; omega)]
    rw [this]
    exact holder_row r2 (by simp) b5l
theorem graph_Thread {h : Heap} {q : GV} {g : Gr} (t : GrAt h q g) (th : Int) :
    Con Tryd.prog 23 #[.agg (gcells q g).toArray, .int .i64 th] h fun v h' => Fr 0 0 h h' ∧ Holder 1 h' v (threadL g th).length (intsV (threadL g th)) h.size := by
  refine con_graph_Thread ?_
  have p0 : Fr 0 0 h h := .refl _ _ _
  have be := t.fits.e
  have hen : g.evs.length = g.n := rfl
  unfold gcells
  simp -dsimp only [go_sem]
  intro b1 h1 n1
  have n1_a := n1.at_
  have n1_z := n1.size
  replace p0 := p0.fresh (n1.fr (lo := 0) (hi := 0)) (by omega)
  have r1 := n1.row
  simp -dsimp only [go_sem, evs_len, r1.cell]
  refine loop_intro (fun s : Nat × Value => [(1, .int .i64 th), (5, s.2), (9, .slice q.e g.evs.length q.ec), (10, .int .i64 g.n), (11, .int .i64 s.1)])
    (fun s h' => s.1 ≤ g.n ∧ Fr 0 0 h h' ∧ Holder 1 h' s.2 (threadTo g th s.1).length (intsV (threadTo g th s.1)) h.size) (fun s => g.n - s.1) (0, .slice none 0 0) ?_ ?_ ?_
  · simp [Le, find, hen]
  · exact ⟨by omega, p0, .none _ _ _⟩
  clear p0
  rintro ⟨i, lv⟩ h3 ⟨hi, p0, o1⟩
  dsimp only at hi o1 ⊢
  have p0_z := p0.size
  have o1_l := o1.top
  have hle := threadTo_len (g := g) (t := th) (i := i)
  by_cases hlt : i < g.n
  · have e1 : ((i : Int) < (g.n : Int)) := by omega
    obtain ⟨eb, eo, he, hev⟩ := t.evs (by omega)
    obtain ⟨c0, c1, c2, c3, c4⟩ := hev h3 p0 i hlt
    obtain ⟨la, lc, rfl⟩ := o1.is
    simp -dsimp only [go_sem, e1, he, evs_len, c0, c1, c2, c3, c4]
    intro b7 h4 n4
    have n4_a := n4.at_
    have n4_z := n4.size
    replace p0 := p0.fresh (n4.fr (lo := 0) (hi := 0)) (by omega)
    replace o1 := o1.fr (n4.fr (lo := 0) (hi := 0)) (by have := o1.at_; omega)
    have r4 := n4.row
    simp -dsimp only [go_sem, r4.cell]
    have o1_a := o1.at_
    have o1_t := o1.top
    refine Chk_intro (r4.wr (by first | (simp; done) | (simp; omega))) fun h5 s5 => ?_
    have s5_z := s5.size
    replace p0 := p0.fresh s5.fr (by omega)
    replace o1 := o1.fr s5.fr (by have := o1.at_; omega)
    replace r4 := s5.row r4
    try simp only [cl_int, cl_bool, cl_slice, cl_ptr, putAt_one, List.set_cons_zero, List.set_cons_succ, ivec_set, brow_upd] at r4
    simp -dsimp only [go_sem] at r4
    by_cases a1 : (g.ev i).thread = th
    · simp -dsimp only [go_sem, beq_t a1, r4.cell]
      intro b8 h8 n8
      have n8_a := n8.at_
      have n8_z := n8.size
      replace p0 := p0.fresh (n8.fr (lo := 0) (hi := 0)) (by omega)
      replace o1 := o1.fr (n8.fr (lo := 0) (hi := 0)) (by have := o1.at_; omega)
      replace r4 := r4.fr (n8.fr (lo := 0) (hi := 0)) (by omega)
      have r8 := n8.row
      simp -dsimp only [go_sem, r4.cell, r8.cell]
      refine o1.append (by omega) rfl (by omega) (by simp) (by omega) fun v9 h9 o_new f9 e_app => ?_
      have f9_z := f9.size
      have o_at := o1.at_
      replace p0 := p0.fresh f9 (by omega)
      replace r4 := r4.fr f9 (by omega)
      replace r8 := r8.fr f9 (by omega)
      clear o_at e_app
      replace o1 := o_new
      have o1_l := o1.top
      simp -dsimp only [go_sem, r4.cell, r8.cell]
      simp -dsimp (disch := omega) only [wrap64]
      refine ⟨(i + 1, v9), by dsimp only; omega, by simp [Le, find, he, evs_len], by dsimp only; omega, p0, ?_⟩
      dsimp only
      rw [threadTo_succ, if_pos a1, intsV_append, List.length_append]
      exact o1
    · simp -dsimp only [go_sem, beq_f a1, r4.cell]
      simp -dsimp (disch := omega) only [wrap64]
      refine ⟨(i + 1, .slice la (threadTo g th i).length lc), by dsimp only; omega, by simp [Le, find, he, evs_len], by dsimp only; omega, p0, ?_⟩
      dsimp only
      rw [threadTo_succ, if_neg a1, List.append_nil]
      exact o1
  · obtain rfl : i = g.n := by omega
    simp -dsimp only [go_sem, Int.lt_irrefl]
    exact ⟨p0, o1⟩
end Go.Proofs.Tst
/-
  Final; the document's With, Thread, Final and Kinds.
-/
namespace Go.Proofs.Tst
open Go Go.Vc
def urow (n : Nat) (f : Nat → Int) : List Value := (List.range n).map fun i => .int .u64 (f i)
@[simp] theorem length_urow (n : Nat) (f : Nat → Int) : (urow n f).length = n := by simp [urow]
theorem urow_set {n : Nat} {f : Nat → Int} {i : Nat} {x : Int} : (urow n f).set i (.int .u64 x) = urow n fun j => if j = i then x else f j := by
  apply List.ext_getElem?
  intro j
  rw [List.getElem?_set]
  by_cases hj : j < n
  · by_cases hij : i = j
    · subst hij; simp [urow, hj]
    · simp [urow, hj, hij, Ne.symm hij]
  · by_cases hij : i = j
    · subst hij; simp [urow, hj]
    · simp [urow, hj, hij]
theorem urow_zero (n : Nat) : List.replicate n (Value.int .u64 0) = urow n fun _ => 0 := by
  apply List.ext_getElem?; intro k; by_cases hk : k < n <;> simp [urow, hk]
/-- Where a list of a graph lies. -/
theorem list_at {h : Heap} {la : Option Addr} {lc : Nat} {l : List Int} (hp : 0 < l.length) (hl : ∀ h', Fr 0 0 h h' → Rd 1 h' (.slice la l.length lc) l.length (intsV l)) : ∃ b o, la = some ⟨b, o, none⟩ ∧ ∀ h', Fr 0 0 h h' → ∀ (i : Nat) (x : Int), l[i]? = some x → hcell h' b (o + i) = some (.int .i64 x) := by
  obtain ⟨hl1, a, c', k1, k2⟩ := hl h (.refl _ _ _)
  cases k1
  rcases k2 with k2 | ⟨b, o, k3, k4⟩
  · omega
  · refine ⟨b, o, k3, fun h' f i x hx => ?_⟩
    obtain ⟨-, a', c'', m1, m2⟩ := hl h' f
    cases m1
    rw [k3] at m2
    rcases m2 with m2 | ⟨b', o', m3, m4⟩
    · omega
    · cases m3; exact m4 i _ (intsV_get hx)
theorem getD_get {l : List (List Int)} {c : Nat} (h : c < l.length) : l[c]? = some (l.getD c []) := by simp [h]
theorem graph_Final {h : Heap} {q : GV} {g : Gr} (t : GrAt h q g) :
    Con Tryd.prog 28 #[.agg (gcells q g).toArray] h fun v h' => Fr 0 0 h h' ∧ if g.good = true then ∃ w, v = .tuple #[w, .int .i64 0] ∧ Holder 1 h' w (finals g).length (wordsV (finals g)) h.size else v = .tuple #[.slice none 0 0, .int .i64 4] := by
  refine con_graph_Final ?_
  have p0 : Fr 0 0 h h := .refl _ _ _
  have be := t.fits.e
  have bo := t.fits.o
  have hen : g.evs.length = g.n := rfl
  have hrl := rl_at t.o
  unfold gcells
  simp -dsimp only [go_sem]
  intro b1 h1 n1
  have n1_a := n1.at_
  have n1_z := n1.size
  replace p0 := p0.fresh (n1.fr (lo := 0) (hi := 0)) (by omega)
  have r1 := n1.row
  simp -dsimp only [go_sem, r1.cell]
  refine call_of (graph_good (t.fr p0)) ?_
  rintro v2 h2 ⟨f2, rfl⟩
  have f2_z := f2.size
  replace p0 := p0.fresh f2 (by omega)
  replace r1 := r1.fr f2 (by omega)
  cases hg : g.good
  · simp -dsimp only [go_sem, r1.cell]
    exact p0
  obtain ⟨hcl, -⟩ := good_co hg
  have hsz := (good_n hg).2
  simp only [Gr.size, Bool.and_eq_true, decide_eq_true_eq] at hsz
  simp -dsimp only [go_sem, r1.cell]
  refine Chk_intro (by omega) ?_
  rw [zeros_one, ← hcl, Int.toNat_natCast, urow_zero]
  intro b4 h4 n4
  have n4_a := n4.at_
  have n4_z := n4.size
  replace p0 := p0.fresh (n4.fr (lo := 0) (hi := 0)) (by omega)
  replace r1 := r1.fr (n4.fr (lo := 0) (hi := 0)) (by omega)
  have r4 := n4.row
  simp -dsimp only [go_sem, r1.cell, r4.cell]
  refine loop_intro (fun c : Nat => [(1, .pointer (some ⟨b1, 0, none⟩)), (4, .slice (some ⟨b4, 0, none⟩) g.co.length g.co.length), (14, .slice q.o g.co.length q.oc), (15, .int .i64 g.co.length), (16, .int .i64 c)])
    (fun c h' => c ≤ g.co.length ∧ Fr 0 0 h h' ∧ Rw h' b1 (gcells q g) ∧ Rw h' b4 (urow g.co.length fun j => if j < c then finalOf g (g.co.getD j []) else 0)) (fun c => g.co.length - c) 0 ?_ ?_ ?_
  · simp [Le, find]
  · exact ⟨by omega, p0, r1, by simp only [Nat.not_lt_zero, if_false]; exact r4⟩
  clear r1 r4 p0
  rintro c h5 ⟨hc, p0, r1, r4⟩
  unfold gcells at r1
  have p0_z := p0.size
  have r1_l := r1.lt
  have r4_l := r4.lt
  have gb : b1 ≠ b4 ∧ h.size ≤ b4 := by omega
  by_cases hlt : c < g.co.length
  · have e1 : ((c : Int) < (g.co.length : Int)) := by omega
    obtain ⟨ob, oo, hoe, la, lc, hlist⟩ := hrl c hlt
    have hll := t.fits.l _ (List.mem_of_getElem? (getD_get hlt))
    obtain ⟨w, hp, hx, hwn, hfin⟩ := good_last hg hlt
    have hfc : (fun j => if j < c + 1 then finalOf g (g.co.getD j []) else 0) = fun j => if j = c then (g.ev w).val else if j < c then finalOf g (g.co.getD j []) else 0 := by
      funext j
      by_cases hj : j = c
      · subst hj; rw [if_pos (by omega), if_pos rfl, hfin]
      · rw [if_neg hj]
        by_cases hj2 : j < c
        · rw [if_pos (by omega), if_pos hj2]
        · rw [if_neg (by omega), if_neg hj2]
    generalize g.co.getD c [] = l at hlist hp hx hfin hll
    obtain ⟨lb, lo, hle, hlc⟩ := list_at hp fun h' f => (hlist h' f).2
    obtain ⟨l1, -⟩ := hlist h5 p0
    have cw := hlc h5 p0 _ _ hx
    obtain ⟨eb, eo, he, hev⟩ := t.evs (by omega)
    obtain ⟨c0, c1, c2, c3, c4⟩ := hev h5 p0 w hwn
    have hw : IntKind.i64.wrap ((l.length : Int) - 1) = ((l.length - 1 : Nat) : Int) := by rw [wrap64 (by omega) (by omega)]; omega
    have e2 : ((l.length - 1 : Nat) : Int) < (l.length : Int) := by omega
    have e3 : (w : Int) < (g.n : Int) := by omega
    simp -dsimp only [go_sem, e1, hoe, l1, hle, he, evs_len, hw, e2, e3, r1.cell, r4.cell]
    simp -dsimp only [go_sem, e1, hoe, l1, hle, he, evs_len, hw, e2, e3, cw, r1.cell, r4.cell]
    simp -dsimp only [go_sem, e1, hoe, l1, hle, he, evs_len, hw, e2, e3, cw, c3, r1.cell, r4.cell]
    refine Chk_intro (r4.wr (by first | (simp; done) | (simp; omega))) fun h6 s6 => ?_
    have s6_z := s6.size
    replace p0 := p0.fresh s6.fr (by omega)
    replace r1 := r1.fr s6.fr (by omega)
    replace r4 := s6.row r4
    try simp only [cl_int, cl_bool, cl_slice, cl_ptr, putAt_one, List.set_cons_zero, List.set_cons_succ, ivec_set, brow_upd] at r4
    rw [urow_set] at r4
    simp -dsimp only [go_sem, r1.cell, r4.cell]
    simp -dsimp (disch := omega) only [wrap64]
    exact ⟨c + 1, by omega, by simp [Le, find, hoe], by omega, p0, r1, by rw [hfc]; exact r4⟩
  · obtain rfl : c = g.co.length := by omega
    simp -dsimp only [go_sem, Int.lt_irrefl, r1.cell, r4.cell]
    refine ⟨p0, ?_⟩
    have : wordsV (finals g) = urow g.co.length fun j => if j < g.co.length then finalOf g (g.co.getD j []) else 0 := by
      apply List.ext_getElem?
      intro j
      by_cases hj : j < g.co.length
      · simp [wordsV, finals, urow, hj]
      · simp [wordsV, finals, urow, hj]
    rw [this]
    have hl : (finals g).length = g.co.length := by simp [finals]
    rw [hl]
    exact ⟨_, rfl, holder_row (s := 1) (n := g.co.length) r4 (by simp) gb.2⟩
theorem finals_succ {g : Gr} {c : Nat} (hc : c < g.co.length) : (g.co.take (c + 1)).map (finalOf g) = (g.co.take c).map (finalOf g) ++ [finalOf g (g.co.getD c [])] := by
  rw [List.take_add_one, getD_get hc]; simp
theorem wordsV_append (l m : List Int) : wordsV (l ++ m) = wordsV l ++ wordsV m := by simp [wordsV]
theorem ref8_Final {h : Heap} {q : GV} {g : Gr} (t : GrAt h q g) (hg : g.good = true) :
    Con Tryd.prog 29 #[.agg (gcells q g).toArray] h fun v h' => Fr 0 0 h h' ∧ Holder 1 h' v (finals g).length (wordsV (finals g)) h.size := by
  refine con_ref8_Final ?_
  have p0 : Fr 0 0 h h := .refl _ _ _
  have be := t.fits.e
  have bo := t.fits.o
  have hen : g.evs.length = g.n := rfl
  have hrl := rl_at t.o
  unfold gcells
  simp -dsimp only [go_sem]
  intro b1 h1 n1
  have n1_a := n1.at_
  have n1_z := n1.size
  replace p0 := p0.fresh (n1.fr (lo := 0) (hi := 0)) (by omega)
  have r1 := n1.row
  simp -dsimp only [go_sem, r1.cell]
  refine loop_intro (fun s : Nat × Value => [(1, .pointer (some ⟨b1, 0, none⟩)), (3, s.2), (4, .int .i64 s.1)])
    (fun s h' => s.1 ≤ g.co.length ∧ Fr 0 0 h h' ∧ Rw h' b1 (gcells q g) ∧ h1.size ≤ h'.size ∧ Holder 1 h' s.2 s.1 (wordsV ((g.co.take s.1).map (finalOf g))) h1.size) (fun s => g.co.length - s.1) (0, .slice none 0 0) ?_ ?_ ?_
  · simp [Le, find]
  · exact ⟨by omega, p0, r1, by omega, .none _ _ _⟩
  have gb : b1 < h1.size ∧ h.size ≤ b1 ∧ h.size ≤ h1.size := by omega
  clear r1 p0 n1_a n1_z
  rintro ⟨c, lv⟩ h5 ⟨hc, p0, r1, y5, o1⟩
  dsimp only at hc o1 ⊢
  unfold gcells at r1
  have p0_z := p0.size
  have r1_l := r1.lt
  have o1_l := o1.top
  by_cases hlt : c < g.co.length
  · have e1 : ((c : Int) < (g.co.length : Int)) := by omega
    obtain ⟨ob, oo, hoe, la, lc, hlist⟩ := hrl c hlt
    have hll := t.fits.l _ (List.mem_of_getElem? (getD_get hlt))
    have hsucc := finals_succ hlt
    obtain ⟨w, hp, hx, hwn, hfin⟩ := good_last hg hlt
    rw [hfin] at hsucc
    generalize g.co.getD c [] = l at hlist hp hx hfin hll
    obtain ⟨lb, lo, hle, hlc⟩ := list_at hp fun h' f => (hlist h' f).2
    obtain ⟨l1, -⟩ := hlist h5 p0
    have cw := hlc h5 p0 _ _ hx
    obtain ⟨eb, eo, he, hev⟩ := t.evs (by omega)
    obtain ⟨c0, c1, c2, c3, c4⟩ := hev h5 p0 w hwn
    obtain ⟨va, vc, rfl⟩ := o1.is
    have o1_a := o1.at_
    have hw : IntKind.i64.wrap ((l.length : Int) - 1) = ((l.length - 1 : Nat) : Int) := by rw [wrap64 (by omega) (by omega)]; omega
    have e2 : ((l.length - 1 : Nat) : Int) < (l.length : Int) := by omega
    have e3 : (w : Int) < (g.n : Int) := by omega
    simp -dsimp only [go_sem, e1, hoe, l1, hle, he, evs_len, hw, e2, e3, cw, c3, r1.cell]
    intro b8 h8 n8
    have n8_a := n8.at_
    have n8_z := n8.size
    replace p0 := p0.fresh (n8.fr (lo := 0) (hi := 0)) (by omega)
    replace r1 := r1.fr (n8.fr (lo := 0) (hi := 0)) (by omega)
    replace o1 := o1.fr (n8.fr (lo := 0) (hi := 0)) (by have := o1.at_; omega)
    have r8 := n8.row
    simp -dsimp only [go_sem, r1.cell, r8.cell]
    refine o1.append (by omega) rfl (by omega) (by simp) (by omega) fun v9 h9 o_new f9 e_app => ?_
    have f9_z := f9.size
    have o_at := o1.at_
    replace p0 := p0.fresh f9 (by omega)
    replace r1 := r1.fr f9 (by omega)
    replace r8 := r8.fr f9 (by omega)
    clear o_at e_app
    replace o1 := o_new
    have o1_l := o1.top
    obtain ⟨l1, -⟩ := hlist h9 p0
    have cw := hlc h9 p0 _ _ hx
    obtain ⟨c0, c1, c2, c3, c4⟩ := hev h9 p0 w hwn
    simp -dsimp only [go_sem, e1, hoe, l1, hle, he, evs_len, hw, e2, e3, cw, c3, r1.cell, r8.cell]
    simp -dsimp (disch := omega) only [wrap64]
    refine ⟨(c + 1, v9), by dsimp only; omega, by simp [Le, find], by dsimp only; omega, p0, r1, by omega, ?_⟩
    dsimp only
    rw [hsucc, wordsV_append]
    exact o1
  · obtain rfl : c = g.co.length := by omega
    rw [List.take_length] at o1
    simp -dsimp only [go_sem, Int.lt_irrefl, r1.cell]
    have hl : (finals g).length = g.co.length := by simp [finals]
    rw [hl]
    exact ⟨p0, o1.lower (by omega)⟩
theorem ref8_Thread {h : Heap} {q : GV} {g : Gr} (t : GrAt h q g) (th : Int) :
    Con Tryd.prog 27 #[.agg (gcells q g).toArray, .int .i64 th] h fun v h' => Fr 0 0 h h' ∧ Holder 1 h' v (threadL g th).length (intsV (threadL g th)) h.size := by
  refine con_ref8_Thread ?_
  have p0 : Fr 0 0 h h := .refl _ _ _
  have be := t.fits.e
  have hen : g.evs.length = g.n := rfl
  unfold gcells
  simp -dsimp only [go_sem]
  intro b1 h1 n1
  have n1_a := n1.at_
  have n1_z := n1.size
  replace p0 := p0.fresh (n1.fr (lo := 0) (hi := 0)) (by omega)
  have r1 := n1.row
  simp -dsimp only [go_sem, r1.cell]
  refine loop_intro (fun s : Nat × Value => [(1, .int .i64 th), (2, .pointer (some ⟨b1, 0, none⟩)), (5, s.2), (6, .int .i64 s.1)])
    (fun s h' => s.1 ≤ g.n ∧ Fr 0 0 h h' ∧ Rw h' b1 (gcells q g) ∧ h1.size ≤ h'.size ∧ Holder 1 h' s.2 (threadTo g th s.1).length (intsV (threadTo g th s.1)) h1.size) (fun s => g.n - s.1) (0, .slice none 0 0) ?_ ?_ ?_
  · simp [Le, find]
  · exact ⟨by omega, p0, r1, by omega, .none _ _ _⟩
  have gb : b1 < h1.size ∧ h.size ≤ b1 ∧ h.size ≤ h1.size := by omega
  clear r1 p0 n1_a n1_z
  rintro ⟨i, lv⟩ h3 ⟨hi, p0, r1, y3, o1⟩
  dsimp only at hi o1 ⊢
  unfold gcells at r1
  have p0_z := p0.size
  have r1_l := r1.lt
  have o1_l := o1.top
  have hle := threadTo_len (g := g) (t := th) (i := i)
  by_cases hlt : i < g.n
  · have e1 : ((i : Int) < (g.n : Int)) := by omega
    obtain ⟨eb, eo, he, hev⟩ := t.evs (by omega)
    obtain ⟨c0, c1, c2, c3, c4⟩ := hev h3 p0 i hlt
    obtain ⟨la, lc, rfl⟩ := o1.is
    have o1_a := o1.at_
    by_cases a1 : (g.ev i).thread = th
    · simp -dsimp only [go_sem, e1, he, evs_len, r1.cell]
      simp -dsimp only [go_sem, e1, he, evs_len, c0, beq_t a1, r1.cell]
      intro b8 h8 n8
      have n8_a := n8.at_
      have n8_z := n8.size
      replace p0 := p0.fresh (n8.fr (lo := 0) (hi := 0)) (by omega)
      replace r1 := r1.fr (n8.fr (lo := 0) (hi := 0)) (by omega)
      replace o1 := o1.fr (n8.fr (lo := 0) (hi := 0)) (by have := o1.at_; omega)
      have r8 := n8.row
      simp -dsimp only [go_sem, r1.cell, r8.cell]
      refine o1.append (by omega) rfl (by omega) (by simp) (by omega) fun v9 h9 o_new f9 e_app => ?_
      have f9_z := f9.size
      have o_at := o1.at_
      replace p0 := p0.fresh f9 (by omega)
      replace r1 := r1.fr f9 (by omega)
      replace r8 := r8.fr f9 (by omega)
      clear o_at e_app
      replace o1 := o_new
      have o1_l := o1.top
      simp -dsimp only [go_sem, r1.cell, r8.cell]
      simp -dsimp (disch := omega) only [wrap64]
      refine ⟨(i + 1, v9), by dsimp only; omega, by simp [Le, find], by dsimp only; omega, p0, r1, by omega, ?_⟩
      dsimp only
      rw [threadTo_succ, if_pos a1, intsV_append, List.length_append]
      exact o1
    · simp -dsimp only [go_sem, e1, he, evs_len, r1.cell]
      simp -dsimp only [go_sem, e1, he, evs_len, c0, beq_f a1, r1.cell]
      simp -dsimp (disch := omega) only [wrap64]
      refine ⟨(i + 1, .slice la (threadTo g th i).length lc), by dsimp only; omega, by simp [Le, find], by dsimp only; omega, p0, r1, by omega, ?_⟩
      dsimp only
      rw [threadTo_succ, if_neg a1, List.append_nil]
      exact o1
  · obtain rfl : i = g.n := by omega
    simp -dsimp only [go_sem, evs_len, Int.lt_irrefl, r1.cell]
    exact ⟨p0, o1.lower (by omega)⟩
theorem withB_take {g : Gr} {m : List Int} {i : Nat} (hi : i < g.n) : boolsV ((g.evs.take (i + 1)).map fun e => m.contains e.mode) = boolsV ((g.evs.take i).map fun e => m.contains e.mode) ++ [.bool (m.contains (g.ev i).mode)] := by
  rw [List.take_add_one, Gr.ev_get hi]; simp [boolsV]
theorem contains_succ {m : List Int} {j : Nat} {y x : Int} (h : m[j]? = some y) : (m.take (j + 1)).contains x = ((m.take j).contains x || (x == y)) := by
  rw [Bool.eq_iff_iff, List.take_add_one, h]; simp
theorem ref8_With {h : Heap} {q : GV} {g : Gr} (t : GrAt h q g) (hn : g.n ≤ 140737488355328) {mv : Value} {m : List Int} (hm : Rd 1 h mv m.length (intsV m)) (bm : m.length ≤ 4611686018427387904) :
    Con Tryd.prog 25 #[.agg (gcells q g).toArray, mv] h fun v h' => Fr 0 0 h h' ∧ Holder 1 h' v g.n (boolsV (withB g m)) h.size := by
  refine con_ref8_With ?_
  have p0 : Fr 0 0 h h := .refl _ _ _
  have be := t.fits.e
  have hen : g.evs.length = g.n := rfl
  obtain ⟨ma, mc, rfl⟩ := hm.is
  unfold gcells
  simp -dsimp only [go_sem]
  intro b1 h1 n1
  have n1_a := n1.at_
  have n1_z := n1.size
  replace p0 := p0.fresh (n1.fr (lo := 0) (hi := 0)) (by omega)
  have r1 := n1.row
  simp -dsimp only [go_sem, r1.cell]
  refine loop_intro (fun s : Nat × Value => [(1, .slice ma m.length mc), (2, .pointer (some ⟨b1, 0, none⟩)), (5, s.2), (6, .int .i64 s.1)])
    (fun s h' => s.1 ≤ g.n ∧ Fr 0 0 h h' ∧ Rw h' b1 (gcells q g) ∧ h1.size ≤ h'.size ∧ Holder 1 h' s.2 s.1 (boolsV ((g.evs.take s.1).map fun e => m.contains e.mode)) h1.size) (fun s => g.n - s.1) (0, .slice none 0 0) ?_ ?_ ?_
  · simp [Le, find]
  · exact ⟨by omega, p0, r1, by omega, .none _ _ _⟩
  have gb : b1 < h1.size ∧ h.size ≤ b1 ∧ h.size ≤ h1.size := by omega
  clear r1 p0 n1_a n1_z
  rintro ⟨i, lv⟩ h3 ⟨hi, p0, r1, y3, o1⟩
  dsimp only at hi o1 ⊢
  unfold gcells at r1
  have p0_z := p0.size
  have r1_l := r1.lt
  have o1_l := o1.top
  by_cases hlt : i < g.n
  · have e1 : ((i : Int) < (g.n : Int)) := by omega
    obtain ⟨eb, eo, he, hev⟩ := t.evs (by omega)
    obtain ⟨c0, c1, c2, c3, c4⟩ := hev h3 p0 i hlt
    obtain ⟨la, lc, rfl⟩ := o1.is
    have o1_a := o1.at_
    simp -dsimp only [go_sem, e1, evs_len, r1.cell]
    refine loop_intro (fun j : Nat => [(1, .slice ma m.length mc), (2, .pointer (some ⟨b1, 0, none⟩)), (5, .slice la i lc), (6, .int .i64 i), (7, .bool ((m.take j).contains (g.ev i).mode)), (8, .int .i64 j)])
      (fun j h' => j ≤ m.length ∧ h' = h3) (fun j => m.length - j) 0 ?_ ?_ ?_
    · simp [Le, find]
    · exact ⟨by omega, rfl⟩
    rintro j h3 ⟨hj, rfl⟩
    by_cases hjl : j < m.length
    · have e2 : ((j : Int) < (m.length : Int)) := by omega
      have hq : m[j]? = some m[j] := by simp [hjl]
      generalize m[j] = y at hq
      have hsucc := contains_succ (x := (g.ev i).mode) hq
      cases hcn : (m.take j).contains (g.ev i).mode
      · rw [hcn, Bool.false_or] at hsucc
        simp -dsimp only [go_sem, e2, he, evs_len, e1, c4, r1.cell]
        refine (hm.fr p0).idx (by omega) fun mb mo hmc => ?_
        have k1 := hmc j _ (intsV_get hq)
        simp -dsimp only [go_sem, k1, r1.cell]
        simp -dsimp (disch := omega) only [wrap64]
        exact ⟨j + 1, by omega, by rw [hsucc]; simp [Le, find], by omega⟩
      · rw [hcn, Bool.true_or] at hsucc
        simp -dsimp only [go_sem, e2, r1.cell]
        simp -dsimp (disch := omega) only [wrap64]
        exact ⟨j + 1, by omega, by rw [hsucc]; simp [Le, find], by omega⟩
    · obtain rfl : j = m.length := by omega
      rw [List.take_length]
      simp -dsimp only [go_sem, Int.lt_irrefl, r1.cell]
      intro b8 h8 n8
      have n8_a := n8.at_
      have n8_z := n8.size
      replace p0 := p0.fresh (n8.fr (lo := 0) (hi := 0)) (by omega)
      replace r1 := r1.fr (n8.fr (lo := 0) (hi := 0)) (by omega)
      replace o1 := o1.fr (n8.fr (lo := 0) (hi := 0)) (by have := o1.at_; omega)
      have r8 := n8.row
      simp -dsimp only [go_sem, r1.cell, r8.cell]
      refine o1.append (by omega) rfl (by omega) (by simp) (by omega) fun v9 h9 o_new f9 e_app => ?_
      have f9_z := f9.size
      have o_at := o1.at_
      replace p0 := p0.fresh f9 (by omega)
      replace r1 := r1.fr f9 (by omega)
      replace r8 := r8.fr f9 (by omega)
      clear o_at e_app
      replace o1 := o_new
      have o1_l := o1.top
      simp -dsimp only [go_sem, r1.cell, r8.cell]
      simp -dsimp (disch := omega) only [wrap64]
      refine ⟨(i + 1, v9), by dsimp only; omega, by simp [Le, find], by dsimp only; omega, p0, r1, by omega, ?_⟩
      dsimp only
      rw [withB_take hlt]
      exact o1
  · obtain rfl : i = g.n := by omega
    simp -dsimp only [go_sem, evs_len, Int.lt_irrefl, r1.cell]
    refine ⟨p0, ?_⟩
    have : withB g m = (g.evs.take g.n).map fun e => m.contains e.mode := by unfold withB Gr.n; rw [List.take_length]
    rw [this]
    exact o1.lower (by omega)
end Go.Proofs.Tst
/-
  lives: the document's example, its verdicts, its relations.
-/
namespace Go.Proofs.Tst
open Go Go.Vc
def exG : Gr := ⟨1, [⟨-1, 2, 0, 0, 1⟩, ⟨0, 2, 0, 7, 1⟩, ⟨1, 1, 0, 7, 2⟩, ⟨1, 3, -1, 0, 5⟩], [(1, 2)], [[0, 1]], [], [], [], []⟩
theorem law8_example {h : Heap} (hz : 0 < h.size) :
    Con Tryd.prog 36 #[] h fun v h' => Fr 0 0 h h' ∧ ∃ q, v = .agg (gcells q exG).toArray ∧ GrOwn h' q exG h.size := by
  refine con_law8_example ?_
  have p0 : Fr 0 0 h h := .refl _ _ _
  simp -dsimp only [go_sem]
  intro b0 h1 n1
  have n1_a := n1.at_
  have n1_z := n1.size
  replace p0 := p0.fresh (n1.fr (lo := 0) (hi := 0)) (by omega)
  have r0 := n1.row
  simp -dsimp only [go_sem, r0.cell]
  intro b1 h2 n2
  have n2_a := n2.at_
  have n2_z := n2.size
  replace p0 := p0.fresh (n2.fr (lo := 0) (hi := 0)) (by omega)
  replace r0 := r0.fr (n2.fr (lo := 0) (hi := 0)) (by omega)
  have r1 := n2.row
  simp -dsimp only [go_sem, r0.cell, r1.cell]
  intro b2 h3 n3
  have n3_a := n3.at_
  have n3_z := n3.size
  replace p0 := p0.fresh (n3.fr (lo := 0) (hi := 0)) (by omega)
  replace r0 := r0.fr (n3.fr (lo := 0) (hi := 0)) (by omega)
  replace r1 := r1.fr (n3.fr (lo := 0) (hi := 0)) (by omega)
  have r2 := n3.row
  simp -dsimp only [go_sem, r0.cell, r1.cell, r2.cell]
  intro b3 h4 n4
  have n4_a := n4.at_
  have n4_z := n4.size
  replace p0 := p0.fresh (n4.fr (lo := 0) (hi := 0)) (by omega)
  replace r0 := r0.fr (n4.fr (lo := 0) (hi := 0)) (by omega)
  replace r1 := r1.fr (n4.fr (lo := 0) (hi := 0)) (by omega)
  replace r2 := r2.fr (n4.fr (lo := 0) (hi := 0)) (by omega)
  have r3 := n4.row
  simp -dsimp only [go_sem, r0.cell, r1.cell, r2.cell, r3.cell]
  intro b4 h5 n5
  have n5_a := n5.at_
  have n5_z := n5.size
  replace p0 := p0.fresh (n5.fr (lo := 0) (hi := 0)) (by omega)
  replace r0 := r0.fr (n5.fr (lo := 0) (hi := 0)) (by omega)
  replace r1 := r1.fr (n5.fr (lo := 0) (hi := 0)) (by omega)
  replace r2 := r2.fr (n5.fr (lo := 0) (hi := 0)) (by omega)
  replace r3 := r3.fr (n5.fr (lo := 0) (hi := 0)) (by omega)
  have r4 := n5.row
  simp -dsimp only [go_sem, r0.cell, r1.cell, r2.cell, r3.cell, r4.cell]
  refine Chk_intro (r0.wr (by first | (simp; done) | (simp; omega))) fun h6 s6 => ?_
  have s6_z := s6.size
  replace p0 := p0.fresh s6.fr (by omega)
  replace r1 := r1.fr s6.fr (by omega)
  replace r2 := r2.fr s6.fr (by omega)
  replace r3 := r3.fr s6.fr (by omega)
  replace r4 := r4.fr s6.fr (by omega)
  replace r0 := s6.row r0
  try simp only [cl_int, cl_bool, cl_slice, cl_ptr, putAt_one, List.set_cons_zero, List.set_cons_succ, ivec_set, brow_upd] at r0
  simp -dsimp only [go_sem] at r0
  simp -dsimp only [go_sem, r0.cell, r1.cell, r2.cell, r3.cell, r4.cell]
  refine ⟨p0, ⟨some ⟨b1, 0, none⟩, some ⟨b2, 0, none⟩, some ⟨b4, 0, none⟩, none, none, none, none, 4, 1, 1, 0, 0, 0, 0⟩, rfl, ?_⟩
  have hs : bl (.slice (some ⟨b1, 0, none⟩) 4 4) = b1 ∧ bh (.slice (some ⟨b1, 0, none⟩) 4 4) = b1 + 1 := ⟨rfl, rfl⟩
  refine ⟨holder_row (s := 5) (n := 4) r1 rfl (by omega), holder_row (s := 2) (n := 1) r2 rfl (by omega), ⟨[.slice (some ⟨b3, 0, none⟩) 2 2], ⟨holder_row (s := 1) (n := 1) r4 rfl (by omega), fun i w l hw hl => ?_, fun w hw => ?_⟩, by simp, fun w hw x hx => ?_⟩, .none _ _ _, .none _ _ _, .none _ _ _, .none _ _ _, fun x hx => ?_, ⟨by decide, by decide, by decide, by decide, by decide, by decide, by decide, by decide⟩⟩
  · match i, hw, hl with
    | 0, hw, hl =>
      have hl : some (intsV [0, 1]) = some l := hl
      cases hl
      simp at hw; subst hw
      exact holder_row (s := 1) (n := 2) r3 rfl (by omega)
    | i + 1, hw, hl => simp at hw
  · simp at hw; subst hw
    unfold Off bl bh; dsimp only; omega
  · simp only [List.mem_cons, List.not_mem_nil, or_false] at hw hx
    rcases hw with rfl | rfl <;> rcases hx with rfl | rfl | rfl | rfl | rfl | rfl <;> (unfold Off; simp [bl, bh, exG] <;> omega)
  · simp only [List.mem_cons, List.not_mem_nil, or_false] at hx
    rcases hx with rfl | rfl | rfl | rfl | rfl <;> (unfold Off; simp [bl, bh, exG] <;> omega)
theorem exG_false : exG.check false = (0, 0) := by decide +kernel
theorem exG_true : exG.check true = (2, 0) := by decide +kernel
theorem exG_good : exG.good = true := by unfold Gr.good; rw [exG_false]; rfl
set_option maxHeartbeats 1000000 in
theorem law8_lives {h : Heap} (ht : TabAt h) :
    Con Tryd.prog 15 #[] h fun v h' => Fr 0 0 h h' ∧ v = .bool true := by
  refine con_law8_lives ?_
  have hz : 0 < h.size := hcell_lt (ht 0 0 rfl)
  have p0 : Fr 0 0 h h := .refl _ _ _
  simp -dsimp only [go_sem]
  refine call_of (law8_example hz) ?_
  rintro v1 h1 ⟨f1, q, rfl, t⟩
  replace t := t.at_
  have p1 : Fr 0 0 h1 h1 := .refl _ _ _
  have f1_z := f1.size
  replace p0 := p0.fresh f1 (by omega)
  unfold gcells
  simp -dsimp only [go_sem]
  intro b1 h2 n2
  have n2_a := n2.at_
  have n2_z := n2.size
  replace p0 := p0.fresh (n2.fr (lo := 0) (hi := 0)) (by omega)
  replace p1 := p1.fresh (n2.fr (lo := 0) (hi := 0)) (by omega)
  have r1 := n2.row
  simp -dsimp only [go_sem, r1.cell]
  refine Chk_intro (r1.wr (by first | (simp; done) | (simp; omega))) fun h3 s3 => ?_
  have s3_z := s3.size
  replace p0 := p0.fresh s3.fr (by omega)
  replace p1 := p1.fresh s3.fr (by omega)
  replace r1 := s3.row r1
  try simp only [cl_int, cl_bool, cl_slice, cl_ptr, putAt_one, List.set_cons_zero, List.set_cons_succ, ivec_set, brow_upd] at r1
  simp -dsimp only [go_sem] at r1
  simp -dsimp only [go_sem, r1.cell]
  refine call_of (graph_Check (t.fr p1) false) ?_
  rintro v4 h4 ⟨f4, rfl⟩
  have f4_z := f4.size
  replace p0 := p0.fresh f4 (by omega)
  replace p1 := p1.fresh f4 (by omega)
  replace r1 := r1.fr f4 (by omega)
  rw [exG_false]
  simp -dsimp only [go_sem, r1.cell]
  refine call_of (graph_Check (t.fr p1) true) ?_
  rintro v5 h5 ⟨f5, rfl⟩
  have f5_z := f5.size
  replace p0 := p0.fresh f5 (by omega)
  replace p1 := p1.fresh f5 (by omega)
  replace r1 := r1.fr f5 (by omega)
  rw [exG_true]
  simp -dsimp only [go_sem, r1.cell]
  refine call_of (graph_Derive (t.fr p1) (ht.fr p0 (.inr rfl))) ?_
  rintro v6 h6 ⟨f6, w⟩
  have f6_z := f6.size
  replace p0 := p0.fresh f6 (by omega)
  replace p1 := p1.fresh f6 (by omega)
  replace r1 := r1.fr f6 (by omega)
  rw [if_pos exG_good] at w
  obtain ⟨p, rd, wr, fe, rfl, F⟩ := w
  obtain ⟨A, B, D, dlo, dap⟩ := F.rel
  have o1 := F.hrd
  have o2 := F.hwr
  have o3 := F.hfe
  obtain ⟨rda, rdc, rfl⟩ := o1.is
  obtain ⟨wra, wrc, rfl⟩ := o2.is
  obtain ⟨fea, fec, rfl⟩ := o3.is
  have oc : ∀ k, k < 10 → (p k).oneCell' = true := fun k hk => by obtain ⟨_, e⟩ := progPtr (D.at_ k hk); rw [e]; rfl
  obtain ⟨c0, e0⟩ := progPtr (D.at_ 0 (by decide))
  obtain ⟨c1, e1⟩ := progPtr (D.at_ 1 (by decide))
  obtain ⟨c5, e5⟩ := progPtr (D.at_ 5 (by decide))
  have g0 := D.at_ 0 (by decide)
  have g5 := D.at_ 5 (by decide)
  rw [e0] at g0
  rw [e5] at g5
  have dR := o1.rd
  have ab0 := dlo 0 (by decide)
  have ab5 := dlo 5 (by decide)
  clear o1 o2 o3 F D dap
  unfold fcells
  have p6 : Fr 0 0 h6 h6 := .refl _ _ _
  simp -dsimp only [go_sem, r1.cell]
  intro b6 h7 n7
  have n7_a := n7.at_
  have n7_z := n7.size
  replace p0 := p0.fresh (n7.fr (lo := 0) (hi := 0)) (by omega)
  replace p1 := p1.fresh (n7.fr (lo := 0) (hi := 0)) (by omega)
  replace r1 := r1.fr (n7.fr (lo := 0) (hi := 0)) (by omega)
  replace g0 := g0.fr (n7.fr (lo := 0) (hi := 0)) (by omega)
  replace g5 := g5.fr (n7.fr (lo := 0) (hi := 0)) (by omega)
  replace p6 := p6.fresh (n7.fr (lo := 0) (hi := 0)) (by omega)
  have r6 := n7.row
  simp -dsimp only [go_sem, e0, e1, e5, oc 2 (by decide), oc 3 (by decide), oc 4 (by decide), oc 6 (by decide), oc 7 (by decide), oc 8 (by decide), oc 9 (by decide), r1.cell, r6.cell]
  refine Chk_intro (r6.wr (by first | (simp; done) | (simp; omega))) fun h8 s8 => ?_
  have s8_z := s8.size
  replace p0 := p0.fresh s8.fr (by omega)
  replace p1 := p1.fresh s8.fr (by omega)
  replace r1 := r1.fr s8.fr (by omega)
  replace g0 := g0.fr s8.fr (by omega)
  replace g5 := g5.fr s8.fr (by omega)
  replace p6 := p6.fresh s8.fr (by omega)
  replace r6 := s8.row r6
  try simp only [cl_int, cl_bool, cl_slice, cl_ptr, putAt_one, List.set_cons_zero, List.set_cons_succ, ivec_set, brow_upd] at r6
  simp -dsimp only [go_sem] at r6
  simp -dsimp only [go_sem, r1.cell, r6.cell]
  refine call_of (graph_Final (t.fr p1)) ?_
  rintro v9 h9 ⟨f9, w⟩
  have f9_z := f9.size
  replace p0 := p0.fresh f9 (by omega)
  replace p1 := p1.fresh f9 (by omega)
  replace r1 := r1.fr f9 (by omega)
  replace g0 := g0.fr f9 (by omega)
  replace g5 := g5.fr f9 (by omega)
  replace p6 := p6.fresh f9 (by omega)
  replace r6 := r6.fr f9 (by omega)
  rw [if_pos exG_good] at w
  obtain ⟨fv, rfl, o9⟩ := w
  have hfin : finals exG = [7] := by decide +kernel
  rw [hfin] at o9
  have p9 : Fr 0 0 h9 h9 := .refl _ _ _
  simp -dsimp only [go_sem, e0, e1, e5, r1.cell, r6.cell]
  intro b10 h10 n10
  have n10_a := n10.at_
  have n10_z := n10.size
  replace p0 := p0.fresh (n10.fr (lo := 0) (hi := 0)) (by omega)
  replace p1 := p1.fresh (n10.fr (lo := 0) (hi := 0)) (by omega)
  replace r1 := r1.fr (n10.fr (lo := 0) (hi := 0)) (by omega)
  replace g0 := g0.fr (n10.fr (lo := 0) (hi := 0)) (by omega)
  replace g5 := g5.fr (n10.fr (lo := 0) (hi := 0)) (by omega)
  replace p6 := p6.fresh (n10.fr (lo := 0) (hi := 0)) (by omega)
  replace r6 := r6.fr (n10.fr (lo := 0) (hi := 0)) (by omega)
  replace p9 := p9.fresh (n10.fr (lo := 0) (hi := 0)) (by omega)
  have r10 := n10.row
  simp -dsimp only [go_sem, r1.cell, r6.cell, r10.cell]
  have d10 : Rd 1 h10 (.slice (some ⟨b10, 0, none⟩) 1 1) 1 (wordsV [7]) := (holder_row (s := 1) (n := 1) (lo := 0) r10 rfl (by omega)).rd
  refine call_of (c_law8_words (l := [7]) (m := [7]) (o9.rd.fr p9) d10 (by decide)) ?_
  rintro v11 h11 ⟨rfl, rfl⟩
  simp -dsimp only [go_sem, show decide (([7] : List Int) = [7]) = true from rfl, e0, r1.cell, r6.cell, r10.cell]
  refine call_of (rel_Pairs g0 (ht.fr p0 (.inr rfl))) ?_
  rintro v12 h12 ⟨f12, o12⟩
  have f12_z := f12.size
  replace p0 := p0.fresh f12 (by omega)
  replace p1 := p1.fresh f12 (by omega)
  replace r1 := r1.fr f12 (by omega)
  replace g0 := g0.fr f12 (by omega)
  replace g5 := g5.fr f12 (by omega)
  replace p6 := p6.fresh f12 (by omega)
  replace r6 := r6.fr f12 (by omega)
  replace p9 := p9.fresh f12 (by omega)
  replace r10 := r10.fr f12 (by omega)
  have hpp : pairsOf exG.n (relM exG 0) = [(2, 3)] := by decide +kernel
  rw [hpp] at o12
  have p12 : Fr 0 0 h12 h12 := .refl _ _ _
  simp -dsimp only [go_sem, r1.cell, r6.cell, r10.cell]
  intro b13 h13 n13
  have n13_a := n13.at_
  have n13_z := n13.size
  replace p0 := p0.fresh (n13.fr (lo := 0) (hi := 0)) (by omega)
  replace p1 := p1.fresh (n13.fr (lo := 0) (hi := 0)) (by omega)
  replace r1 := r1.fr (n13.fr (lo := 0) (hi := 0)) (by omega)
  replace g0 := g0.fr (n13.fr (lo := 0) (hi := 0)) (by omega)
  replace g5 := g5.fr (n13.fr (lo := 0) (hi := 0)) (by omega)
  replace p6 := p6.fresh (n13.fr (lo := 0) (hi := 0)) (by omega)
  replace r6 := r6.fr (n13.fr (lo := 0) (hi := 0)) (by omega)
  replace p9 := p9.fresh (n13.fr (lo := 0) (hi := 0)) (by omega)
  replace r10 := r10.fr (n13.fr (lo := 0) (hi := 0)) (by omega)
  replace p12 := p12.fresh (n13.fr (lo := 0) (hi := 0)) (by omega)
  have r13 := n13.row
  simp -dsimp only [go_sem, r1.cell, r6.cell, r10.cell, r13.cell]
  have d13 : Rd 2 h13 (.slice (some ⟨b13, 0, none⟩) 1 1) 1 (pairsV [(2, 3)]) := (holder_row (s := 2) (n := 1) (lo := 0) r13 rfl (by omega)).rd
  refine call_of (c_law8_pairs (l := [(2, 3)]) (m := [(2, 3)]) (o12.rd.fr p12) d13 (by decide)) ?_
  rintro v14 h13 ⟨rfl, rfl⟩
  simp -dsimp only [go_sem, show decide (([(2, 3)] : List (Int × Int)) = [(2, 3)]) = true from rfl, e5, r1.cell, r6.cell, r10.cell, r13.cell]
  refine call_of (rel_Has g5 0 1) ?_
  rintro v15 h13 ⟨rfl, rfl⟩
  have hhas : (inR exG.n 0 && inR exG.n 1 && relM exG 5 (Int.toNat 0) (Int.toNat 1)) = true := by decide +kernel
  simp -dsimp only [go_sem, hhas, r1.cell, r6.cell, r10.cell, r13.cell]
  intro b16 h16 n16
  have n16_a := n16.at_
  have n16_z := n16.size
  replace p0 := p0.fresh (n16.fr (lo := 0) (hi := 0)) (by omega)
  replace p1 := p1.fresh (n16.fr (lo := 0) (hi := 0)) (by omega)
  replace r1 := r1.fr (n16.fr (lo := 0) (hi := 0)) (by omega)
  replace g0 := g0.fr (n16.fr (lo := 0) (hi := 0)) (by omega)
  replace g5 := g5.fr (n16.fr (lo := 0) (hi := 0)) (by omega)
  replace p6 := p6.fresh (n16.fr (lo := 0) (hi := 0)) (by omega)
  replace r6 := r6.fr (n16.fr (lo := 0) (hi := 0)) (by omega)
  replace p9 := p9.fresh (n16.fr (lo := 0) (hi := 0)) (by omega)
  replace r10 := r10.fr (n16.fr (lo := 0) (hi := 0)) (by omega)
  replace p12 := p12.fresh (n16.fr (lo := 0) (hi := 0)) (by omega)
  replace r13 := r13.fr (n16.fr (lo := 0) (hi := 0)) (by omega)
  have r16 := n16.row
  simp -dsimp only [go_sem, r1.cell, r6.cell, r10.cell, r13.cell, r16.cell]
  have hrd : kindsV exG 1 exG.n = [false, false, true, false] := by decide +kernel
  rw [hrd] at dR
  have d16 : Rd 1 h16 (.slice (some ⟨b16, 0, none⟩) 4 4) 4 (boolsV [false, false, true, false]) := (holder_row (s := 1) (n := 4) (lo := 0) r16 rfl (by omega)).rd
  refine call_of (c_law8_truths (l := [false, false, true, false]) (m := [false, false, true, false]) (dR.fr p6) d16 (by decide)) ?_
  rintro v17 h16 ⟨rfl, rfl⟩
  simp -dsimp only [go_sem, show decide (([false, false, true, false] : List Bool) = [false, false, true, false]) = true from rfl, r1.cell, r6.cell, r10.cell, r13.cell, r16.cell]
  refine call_of (graph_Thread (t.fr p1) 1) ?_
  rintro v18 h18 ⟨f18, o18⟩
  have f18_z := f18.size
  replace p0 := p0.fresh f18 (by omega)
  replace p1 := p1.fresh f18 (by omega)
  replace r1 := r1.fr f18 (by omega)
  replace g0 := g0.fr f18 (by omega)
  replace g5 := g5.fr f18 (by omega)
  replace p6 := p6.fresh f18 (by omega)
  replace r6 := r6.fr f18 (by omega)
  replace p9 := p9.fresh f18 (by omega)
  replace r10 := r10.fr f18 (by omega)
  replace p12 := p12.fresh f18 (by omega)
  replace r13 := r13.fr f18 (by omega)
  replace r16 := r16.fr f18 (by omega)
  have hth : threadL exG 1 = [2, 3] := by decide +kernel
  rw [hth] at o18
  have p18 : Fr 0 0 h18 h18 := .refl _ _ _
  simp -dsimp only [go_sem, r1.cell, r6.cell, r10.cell, r13.cell, r16.cell]
  intro b19 h19 n19
  have n19_a := n19.at_
  have n19_z := n19.size
  replace p0 := p0.fresh (n19.fr (lo := 0) (hi := 0)) (by omega)
  replace p1 := p1.fresh (n19.fr (lo := 0) (hi := 0)) (by omega)
  replace r1 := r1.fr (n19.fr (lo := 0) (hi := 0)) (by omega)
  replace g0 := g0.fr (n19.fr (lo := 0) (hi := 0)) (by omega)
  replace g5 := g5.fr (n19.fr (lo := 0) (hi := 0)) (by omega)
  replace p6 := p6.fresh (n19.fr (lo := 0) (hi := 0)) (by omega)
  replace r6 := r6.fr (n19.fr (lo := 0) (hi := 0)) (by omega)
  replace p9 := p9.fresh (n19.fr (lo := 0) (hi := 0)) (by omega)
  replace r10 := r10.fr (n19.fr (lo := 0) (hi := 0)) (by omega)
  replace p12 := p12.fresh (n19.fr (lo := 0) (hi := 0)) (by omega)
  replace r13 := r13.fr (n19.fr (lo := 0) (hi := 0)) (by omega)
  replace r16 := r16.fr (n19.fr (lo := 0) (hi := 0)) (by omega)
  replace p18 := p18.fresh (n19.fr (lo := 0) (hi := 0)) (by omega)
  have r19 := n19.row
  simp -dsimp only [go_sem, r1.cell, r6.cell, r10.cell, r13.cell, r16.cell, r19.cell]
  have d19 : Rd 1 h19 (.slice (some ⟨b19, 0, none⟩) 2 2) 2 (intsV [2, 3]) := (holder_row (s := 1) (n := 2) (lo := 0) r19 rfl (by omega)).rd
  refine call_of (c_law8_ints (l := [2, 3]) (m := [2, 3]) (o18.rd.fr p18) d19 (by decide)) ?_
  rintro v20 h19 ⟨rfl, rfl⟩
  simp -dsimp only [go_sem, show decide (([2, 3] : List Int) = [2, 3]) = true from rfl, r1.cell, r6.cell, r10.cell, r13.cell, r16.cell, r19.cell]
  exact p0
end Go.Proofs.Tst
/-
  GraphChecks, GraphSees.
-/
namespace Go.Proofs.Tst
open Go Go.Vc
end Go.Proofs.Tst
/-
  GraphSees.
-/
namespace Go.Proofs.Tst
open Go Go.Vc
theorem dec_self {α : Type} [DecidableEq α] (x : α) : decide (x = x) = true := by simp
set_option maxHeartbeats 2000000 in
theorem c_law8_GraphSees {h : Heap} {q : GV} {g : Gr} {mv : Value} {m : List Int} (t : GrAt h q g) (ht : TabAt h) (hm : Rd 1 h mv m.length (intsV m)) (bm : m.length ≤ 17592186044416) (th : Int) :
    Con Tryd.prog 5 #[.agg (gcells q g).toArray, mv, .int .i64 th] h fun v h' => Fr 0 0 h h' ∧ v = .bool true := by
  refine con_law8_GraphSees ?_
  have hz : 0 < h.size := hcell_lt (ht 0 0 rfl)
  have be := t.fits.e
  have bo := t.fits.o
  have hen : g.evs.length = g.n := rfl
  have p0 : Fr 0 0 h h := .refl _ _ _
  obtain ⟨ma, mc, rfl⟩ := hm.is
  unfold gcells
  simp -dsimp only [go_sem]
  intro b3 h1 n1
  have n1_a := n1.at_
  have n1_z := n1.size
  replace p0 := p0.fresh (n1.fr (lo := 0) (hi := 0)) (by omega)
  have r3 := n1.row
  simp -dsimp only [go_sem, r3.cell]
  refine call_of (ref8_Copied (t.fr p0) (by omega)) ?_
  rintro v2 h2 ⟨f2, q', rfl, w⟩
  have f2_z := f2.size
  replace p0 := p0.fresh f2 (by omega)
  replace r3 := r3.fr f2 (by omega)
  have t' := w.at_
  have p2 : Fr 0 0 h2 h2 := .refl _ _ _
  unfold gcells
  simp -dsimp only [go_sem, r3.cell]
  intro b7 h4 n4
  have n4_a := n4.at_
  have n4_z := n4.size
  replace p0 := p0.fresh (n4.fr (lo := 0) (hi := 0)) (by omega)
  replace r3 := r3.fr (n4.fr (lo := 0) (hi := 0)) (by omega)
  replace p2 := p2.fresh (n4.fr (lo := 0) (hi := 0)) (by omega)
  have r7 := n4.row
  simp -dsimp only [go_sem, r3.cell, r7.cell]
  refine Chk_intro (r7.wr (by first | (simp; done) | (simp; omega))) fun h5 s5 => ?_
  have s5_z := s5.size
  replace p0 := p0.fresh s5.fr (by omega)
  replace r3 := r3.fr s5.fr (by omega)
  replace p2 := p2.fresh s5.fr (by omega)
  replace r7 := s5.row r7
  try simp only [cl_int, cl_bool, cl_slice, cl_ptr, putAt_one, List.set_cons_zero, List.set_cons_succ, ivec_set, brow_upd] at r7
  simp -dsimp only [go_sem] at r7
  simp -dsimp only [go_sem, r3.cell, r7.cell]
  refine (Holder.none 1 _ h5.size).appendRd (hm.fr p0) (by omega) rfl (by omega) (oc_ints _) (by omega) fun v8 h8 o8 f8 e8 => ?_
  clear e8
  simp only [Nat.zero_add, List.nil_append] at o8
  replace f8 : Fr 0 0 _ h8 := f8
  have f8_z := f8.size
  replace p0 := p0.fresh f8 (by omega)
  replace r3 := r3.fr f8 (by omega)
  replace p2 := p2.fresh f8 (by omega)
  replace r7 := r7.fr f8 (by omega)
  obtain ⟨a8, c8, rfl⟩ := o8.is
  simp -dsimp only [go_sem, r3.cell, r7.cell]
  refine call_of (graph_With (t'.fr p2) (by omega) o8.rd (by omega)) ?_
  rintro v9 h9 ⟨f9, o9⟩
  have f9_z := f9.size
  replace p0 := p0.fresh f9 (by omega)
  replace r3 := r3.fr f9 (by omega)
  replace p2 := p2.fresh f9 (by omega)
  replace r7 := r7.fr f9 (by omega)
  replace o8 := o8.fr f9 (by have := o8.at_; omega)
  have g9 : b3 < h9.size ∧ b7 < h9.size ∧ h2.size ≤ h9.size ∧ h.size ≤ h2.size ∧ h.size ≤ b3 ∧ h2.size ≤ b7 ∧ b3 < h2.size := by omega
  simp -dsimp only [go_sem, r3.cell, r7.cell]
  refine call_of (graph_Thread (t'.fr p2) th) ?_
  rintro v10 h10 ⟨f10, o10⟩
  have f10_z := f10.size
  replace p0 := p0.fresh f10 (by omega)
  replace r3 := r3.fr f10 (by omega)
  replace p2 := p2.fresh f10 (by omega)
  replace r7 := r7.fr f10 (by omega)
  replace o8 := o8.fr f10 (by have := o8.at_; omega)
  replace o9 := o9.fr f10 (by have := o9.at_; omega)
  simp -dsimp only [go_sem, r3.cell, r7.cell]
  refine call_of (ref8_With (t.fr p0) (by omega) (hm.fr p0) (by omega)) ?_
  rintro v11 h11 ⟨f11, o11⟩
  have f11_z := f11.size
  replace p0 := p0.fresh f11 (by omega)
  replace r3 := r3.fr f11 (by omega)
  replace p2 := p2.fresh f11 (by omega)
  replace r7 := r7.fr f11 (by omega)
  replace o8 := o8.fr f11 (by have := o8.at_; omega)
  replace o9 := o9.fr f11 (by have := o9.at_; omega)
  replace o10 := o10.fr f11 (by have := o10.at_; omega)
  have hwl : (withB g m).length = g.n := by simp [withB, Gr.n]
  have htl := threadTo_len (g := g) (t := th) (i := g.n)
  simp -dsimp only [go_sem, r3.cell, r7.cell]
  refine call_of (c_law8_truths (l := withB g m) (m := withB g m) (by rw [hwl]; exact o9.rd) (by rw [hwl]; exact o11.rd) (by omega)) ?_
  rintro v12 h11 ⟨rfl, rfl⟩
  simp -dsimp only [go_sem, dec_self, r3.cell, r7.cell]
  refine call_of (ref8_Thread (t.fr p0) th) ?_
  rintro v13 h13 ⟨f13, o13⟩
  have f13_z := f13.size
  replace p0 := p0.fresh f13 (by omega)
  replace r3 := r3.fr f13 (by omega)
  replace p2 := p2.fresh f13 (by omega)
  replace r7 := r7.fr f13 (by omega)
  replace o8 := o8.fr f13 (by have := o8.at_; omega)
  replace o9 := o9.fr f13 (by have := o9.at_; omega)
  replace o10 := o10.fr f13 (by have := o10.at_; omega)
  simp -dsimp only [go_sem, r3.cell, r7.cell]
  refine call_of (c_law8_ints (l := threadL g th) (m := threadL g th) o10.rd o13.rd (by unfold threadL; omega)) ?_
  rintro v14 h13 ⟨rfl, rfl⟩
  simp -dsimp only [go_sem, dec_self, r3.cell, r7.cell]
  refine call_of (c_law8_ints (l := m) (m := m) o8.rd (hm.fr p0) (by omega)) ?_
  rintro v15 h13 ⟨rfl, rfl⟩
  simp -dsimp only [go_sem, dec_self, r3.cell, r7.cell]
  -- what was told is spoilt
  generalize hnl : (threadL g th).length = nl at o10
  have hnl' : nl ≤ g.n := by rw [← hnl]; exact htl
  obtain ⟨a10, c10, rfl⟩ := o10.is
  clear o8 o9 o11 o13
  refine loop_intro (fun i : Nat => [(2, .int .i64 th), (3, .pointer (some ⟨b3, 0, none⟩)), (7, .pointer (some ⟨b7, 0, none⟩)), (10, .slice a10 nl c10), (11, .int .i64 i)])
    (fun i h' => i ≤ nl ∧ Fr 0 0 h h' ∧ Fr 0 0 h2 h' ∧ Rw h' b3 (gcells q g) ∧ Rw h' b7 (gcells q' g) ∧ (∃ ys, Holder 1 h' (.slice a10 nl c10) nl ys h9.size)∧ h9.size ≤ h'.size) (fun i => nl - i) 0 ?_ ?_ ?_
  · simp [Le, find]
  · exact ⟨by omega, p0, p2, r3, r7, ⟨_, o10⟩, by omega⟩
  clear p0 p2 r3 r7 o10 
  rintro i h14 ⟨hi, p0, p2, r3, r7, ⟨ys, osp⟩, y9⟩
  unfold gcells at r3 r7
  have p0_z := p0.size
  have p2_z := p2.size
  have r3_l := r3.lt
  have r7_l := r7.lt
  have osp_l := osp.top
  by_cases hlt : i < nl
  · have e1 : ((i : Int) < (nl : Int)) := by omega
    obtain ⟨b, c, rest, he, -, -, hb⟩ := osp.blk (by omega)
    cases he
    simp -dsimp only [go_sem, e1, r3.cell, r7.cell]
    refine Chk_intro (osp.wrAt hlt) fun h15 s15 => ?_
    have osp' := osp.set hlt s15
    clear osp
    have f15 := s15.fr
    have f15_z := f15.size
    replace p0 := p0.fresh f15 (by omega)
    replace p2 := p2.fresh f15 (by omega)
    replace r3 := r3.fr f15 (by omega)
    replace r7 := r7.fr f15 (by omega)
    simp -dsimp only [go_sem, r3.cell, r7.cell]
    simp -dsimp (disch := omega) only [wrap64]
    exact ⟨i + 1, by omega, by simp [Le, find], by omega, p0, p2, r3, r7, ⟨_, osp'⟩, by omega⟩
  obtain rfl : i = nl := by omega
  simp -dsimp only [go_sem, Int.lt_irrefl, r3.cell, r7.cell]
  clear osp
  refine call_of (graph_Final (t'.fr p2)) ?_
  rintro v16 h16 ⟨f16, w16⟩
  have f16_z := f16.size
  replace p0 := p0.fresh f16 (by omega)
  replace p2 := p2.fresh f16 (by omega)
  replace r3 := r3.fr f16 (by omega)
  replace r7 := r7.fr f16 (by omega)
  have g16 : h9.size ≤ h14.size ∧ h14.size ≤ h16.size := by omega
  cases hg : g.good
  · rw [hg] at w16
    simp only [Bool.false_eq_true, if_false] at w16
    subst w16
    simp -dsimp only [go_sem, r3.cell, r7.cell]
    refine call_of (graph_Final (t'.fr p2)) ?_
    rintro v17 h17 ⟨f17, w17⟩
    have f17_z := f17.size
    replace p0 := p0.fresh f17 (by omega)
    replace p2 := p2.fresh f17 (by omega)
    replace r3 := r3.fr f17 (by omega)
    replace r7 := r7.fr f17 (by omega)
    rw [hg] at w17
    simp only [Bool.false_eq_true, if_false] at w17
    subst w17
    simp -dsimp only [go_sem, r3.cell, r7.cell]
    refine call_of (ref8_Good (t.fr p0)) ?_
    rintro v18 h18 ⟨f18, rfl⟩
    have f18_z := f18.size
    replace p0 := p0.fresh f18 (by omega)
    replace p2 := p2.fresh f18 (by omega)
    replace r3 := r3.fr f18 (by omega)
    replace r7 := r7.fr f18 (by omega)
    rw [hg]
    simp -dsimp only [go_sem, show (((0 : Nat) : Int) == 0) = true from rfl, r3.cell, r7.cell]
    refine call_of (law8_lives (ht.fr p0 (.inr rfl))) ?_
    rintro v19 h19 ⟨f19, rfl⟩
    have f19_z := f19.size
    replace p0 := p0.fresh f19 (by omega)
    replace p2 := p2.fresh f19 (by omega)
    replace r3 := r3.fr f19 (by omega)
    replace r7 := r7.fr f19 (by omega)
    simp -dsimp only [go_sem, r3.cell, r7.cell]
    exact p0
  rw [hg, if_pos rfl] at w16
  obtain ⟨u16, rfl, o16⟩ := w16
  have tp16 := o16.top
  simp -dsimp only [go_sem, r3.cell, r7.cell]
  refine call_of (graph_Final (t'.fr p2)) ?_
  rintro v17 h17 ⟨f17, w17⟩
  have f17_z := f17.size
  replace p0 := p0.fresh f17 (by omega)
  replace p2 := p2.fresh f17 (by omega)
  replace r3 := r3.fr f17 (by omega)
  replace r7 := r7.fr f17 (by omega)
  replace o16 := o16.fr f17 (by have := o16.at_; omega)
  rw [hg, if_pos rfl] at w17
  obtain ⟨u17, rfl, o17⟩ := w17
  simp -dsimp only [go_sem, r3.cell, r7.cell]
  refine call_of (ref8_Good (t.fr p0)) ?_
  rintro v18 h18 ⟨f18, rfl⟩
  have f18_z := f18.size
  replace p0 := p0.fresh f18 (by omega)
  replace p2 := p2.fresh f18 (by omega)
  replace r3 := r3.fr f18 (by omega)
  replace r7 := r7.fr f18 (by omega)
  replace o16 := o16.fr f18 (by have := o16.at_; omega)
  replace o17 := o17.fr f18 (by have := o17.at_; omega)
  rw [hg]
  simp -dsimp only [go_sem, r3.cell, r7.cell]
  refine call_of (ref8_Final (t.fr p0) hg) ?_
  rintro v19 h19 ⟨f19, o19⟩
  have f19_z := f19.size
  replace p0 := p0.fresh f19 (by omega)
  replace p2 := p2.fresh f19 (by omega)
  replace r3 := r3.fr f19 (by omega)
  replace r7 := r7.fr f19 (by omega)
  replace o16 := o16.fr f19 (by have := o16.at_; omega)
  replace o17 := o17.fr f19 (by have := o17.at_; omega)
  have hfl : (finals g).length = g.co.length := by simp [finals]
  simp -dsimp only [go_sem, r3.cell, r7.cell]
  refine call_of (c_law8_words (l := finals g) (m := finals g) o16.rd o19.rd (by omega)) ?_
  rintro v20 h19 ⟨rfl, rfl⟩
  simp -dsimp only [go_sem, dec_self, r3.cell, r7.cell]
  have g19 : h16.size ≤ h17.size ∧ h17.size ≤ h18.size ∧ h18.size ≤ h19.size := by omega
  have g16b : h14.size ≤ h16.size := g16.2
  generalize hfn : (finals g).length = nf at o16
  have hfn' : nf ≤ g.co.length := by omega
  obtain ⟨a16, c16, rfl⟩ := o16.is
  have o16a := o16.at_
  clear o16a
  have pd : Fr 0 0 h18 h18 := .refl _ _ _
  refine loop_intro (fun i : Nat => [(2, .int .i64 th), (3, .pointer (some ⟨b3, 0, none⟩)), (7, .pointer (some ⟨b7, 0, none⟩)), (12, .slice a16 nf c16), (14, u17), (16, v19), (17, .int .i64 i)])
    (fun i h' => i ≤ nf ∧ Fr 0 0 h h' ∧ Fr 0 0 h2 h' ∧ Rw h' b3 (gcells q g) ∧ Rw h' b7 (gcells q' g) ∧ (∃ ys, Holder 1 h' (.slice a16 nf c16) nf ys h14.size) ∧ Holder 1 h' u17 (finals g).length (wordsV (finals g)) h16.size ∧ Holder 1 h' v19 (finals g).length (wordsV (finals g)) h18.size) (fun i => nf - i) 0 ?_ ?_ ?_
  · simp [Le, find]
  · exact ⟨by omega, p0, p2, r3, r7, ⟨_, o16⟩, o17, o19⟩
  clear p0 p2 r3 r7 o16 o17 o19
  rintro i h20 ⟨hi, p0, p2, r3, r7, ⟨ys, osp⟩, o17, o19⟩
  unfold gcells at r3 r7
  have tps : bh (.slice a16 nf c16) ≤ h16.size := tp16
  have p0_z := p0.size
  have p2_z := p2.size
  have r3_l := r3.lt
  have r7_l := r7.lt
  by_cases hlt : i < nf
  · have e1 : ((i : Int) < (nf : Int)) := by omega
    obtain ⟨b, c, rest, he, -, -, hb⟩ := osp.blk (by omega)
    cases he
    have tps : b + 1 ≤ h16.size := tps
    simp -dsimp only [go_sem, e1, r3.cell, r7.cell]
    refine Chk_intro (osp.wrAt hlt) fun h21 s21 => ?_
    have osp' := osp.set hlt s21
    clear osp
    have f21 := s21.fr
    have f21_z := f21.size
    replace p0 := p0.fresh f21 (by omega)
    replace p2 := p2.fresh f21 (by omega)
    replace r3 := r3.fr f21 (by omega)
    replace r7 := r7.fr f21 (by omega)
    replace o17 := o17.fr f21 (by have := o17.at_; omega)
    replace o19 := o19.fr f21 (by have := o19.at_; omega)
    simp -dsimp only [go_sem, r3.cell, r7.cell]
    simp -dsimp (disch := omega) only [wrap64]
    exact ⟨i + 1, by omega, by simp [Le, find], by omega, p0, p2, r3, r7, ⟨_, osp'⟩, o17, o19⟩
  obtain rfl : i = nf := by omega
  simp -dsimp only [go_sem, Int.lt_irrefl, r3.cell, r7.cell]
  refine call_of (c_law8_words (l := finals g) (m := finals g) o17.rd o19.rd (by omega)) ?_
  rintro v22 h20 ⟨rfl, rfl⟩
  simp -dsimp only [go_sem, dec_self, r3.cell, r7.cell]
  refine call_of (graph_Thread (t'.fr p2) th) ?_
  rintro v23 h23 ⟨f23, o23⟩
  have f23_z := f23.size
  replace p0 := p0.fresh f23 (by omega)
  replace p2 := p2.fresh f23 (by omega)
  replace r3 := r3.fr f23 (by omega)
  replace r7 := r7.fr f23 (by omega)
  replace o17 := o17.fr f23 (by have := o17.at_; omega)
  replace o19 := o19.fr f23 (by have := o19.at_; omega)
  simp -dsimp only [go_sem, r3.cell, r7.cell]
  refine call_of (ref8_Thread (t.fr p0) th) ?_
  rintro v24 h24 ⟨f24, o24⟩
  have f24_z := f24.size
  replace p0 := p0.fresh f24 (by omega)
  replace p2 := p2.fresh f24 (by omega)
  replace r3 := r3.fr f24 (by omega)
  replace r7 := r7.fr f24 (by omega)
  replace o17 := o17.fr f24 (by have := o17.at_; omega)
  replace o19 := o19.fr f24 (by have := o19.at_; omega)
  replace o23 := o23.fr f24 (by omega)
  simp -dsimp only [go_sem, r3.cell, r7.cell]
  refine call_of (c_law8_ints (l := threadL g th) (m := threadL g th) o23.rd o24.rd (by unfold threadL; omega)) ?_
  rintro v25 h24 ⟨rfl, rfl⟩
  simp -dsimp only [go_sem, dec_self, r3.cell, r7.cell]
  refine call_of (ref8_Alike (t'.fr p2) (t.fr p0)) ?_
  rintro v26 h26 ⟨f26, rfl⟩
  have f26_z := f26.size
  replace p0 := p0.fresh f26 (by omega)
  replace p2 := p2.fresh f26 (by omega)
  replace r3 := r3.fr f26 (by omega)
  replace r7 := r7.fr f26 (by omega)
  replace o17 := o17.fr f26 (by have := o17.at_; omega)
  replace o19 := o19.fr f26 (by have := o19.at_; omega)
  simp -dsimp only [go_sem, r3.cell, r7.cell]
  refine call_of (law8_lives (ht.fr p0 (.inr rfl))) ?_
  rintro v27 h27 ⟨f27, rfl⟩
  have f27_z := f27.size
  replace p0 := p0.fresh f27 (by omega)
  replace p2 := p2.fresh f27 (by omega)
  replace r3 := r3.fr f27 (by omega)
  replace r7 := r7.fr f27 (by omega)
  replace o17 := o17.fr f27 (by have := o17.at_; omega)
  replace o19 := o19.fr f27 (by have := o19.at_; omega)
  simp -dsimp only [go_sem, r3.cell, r7.cell]
  exact p0
end Go.Proofs.Tst
/-
  From a contract to a row: what a law's call leaves; how arguments are read.
-/
namespace Go.Vc
open Go Go.RowKit Go.ChangeShapes Go.WideShapes Go.ChangeAt Go.Deep
section
variable {H : Type} {enc : TypeId × Value → H} {P : Program}
theorem trodAll_below (hl : laidOutB P = true) {W W' : World} (hb : Below W.heap.size W W') : ∀ {ts : List TypeId} {vs : List Value} {ds : List (DataW H)} {ps : List MemPlace},
    ts.all (fun t => P.readableRec t && decide (t < P.types.size)) = true → DataW.TrodAll enc P W 0 (fun _ => true) true ts vs ds ps → DataW.TrodAll enc P W' 0 (fun b => decide (b < W.heap.size)) true ts vs ds ps
  | [], _, _, _, _, h => by
    obtain ⟨rfl, rfl, rfl⟩ := trodAll_nil h
    exact rfl
  | t :: ts, _, _, _, hr, h => by
    have hlt := h.lt
    obtain ⟨v, vs, d, ds, p, q, rfl, rfl, rfl, h1, h2⟩ := trodAll_cons h
    simp only [List.all_cons, Bool.and_eq_true, decide_eq_true_eq] at hr
    exact ⟨p, q, Below.trod hl hr.1.1 hr.1.2 h1 hb (fun x hx => hlt x (List.mem_append_left _ hx)), trodAll_below hl hb hr.2 h2, rfl⟩

/-- What a law that answers true leaves. -/
theorem law_post {f : Func} {s : ChangeSpec} {W W' : World} {args : Array Value} {ds gs : List (DataW H)} {before : List MemPlace} {tb : TypeId}
    (hl : laidOutB P = true) (hp : f.params.toList.all (fun t => P.readableRec t && decide (t < P.types.size)) = true) (hv : s.vars = [])
    (hrt : f.resultTypes = #[tb]) (htb : P.underlying tb = some .bool) (hW : DataW.Whole enc P f.params.toList s.vars false W args.toList ds gs before)
    (hb : Below W.heap.size W W') (hfn : s.fn H (ds ++ gs) = { results := [.lit (.bool true)], args := ds }) : s.post enc P f false true false false W args (.bool true) W' := by
  have hW0 := hW
  obtain ⟨p, q, hA, hV, rfl, hz, hn⟩ := hW0
  rw [hv] at hV
  obtain ⟨rfl, rfl⟩ := trodVars_none hV
  refine ⟨ds, [], _, [], p, [], hW, ?_, ?_, ?_, ?_, fun h => by cases h⟩
  · rw [hfn, hrt]; exact trodAll_cons_mk (shut_bool htb true) trodAll_mk0
  · rw [hfn]; exact trodAll_below hl hb hp hA
  · rw [hfn, hv]; exact rfl
  · refine World.keptBut_mono (fun p hp => ⟨hp, ?_⟩) (hb.frame (· ∈ p ++ []))
    rw [List.append_nil] at hp
    exact .inr (.inl hp)

/-- The heap's part of a call that keeps all that was. -/
theorem below_of {w w' : World} (hf : Fr 0 0 w.heap w'.heap) (hl : Like none w w') : Below w.heap.size w w' :=
  ⟨hl.os, hl.tape, hl.output, hl.size, fun k hk => hf.old k hk (.inr (Nat.zero_le _))⟩

/-! ### Arguments -/
theorem cell?_plain {w : World} {a : Addr} {v : Value} (h : w.cell? a = some v) : a.spot = none := by
  unfold World.cell? at h
  split at h
  · split at h
    · cases h
    · rename_i hs; simpa using hs
  · cases h
theorem addr_plain {a : Addr} (h : a.spot = none) : a = ⟨a.block, a.off, none⟩ := by cases a; simp_all
theorem cell?_add {w : World} {a : Addr} (ha : a.spot = none) (j : Nat) : w.cell? (a.add j) = hcell w.heap a.block (a.off + j) := by
  rw [← cell?_heap]
  unfold Addr.add
  split
  · rename_i h; subst h; rw [Nat.add_zero, ← addr_plain ha]
  · rw [← ha]
theorem rd_of {w : World} {s n c : Nat} {a : Addr} {xs : List Value} (hs : 0 < s) (hl : xs.length = n * s) (hc : ∀ j, j < n * s → ∃ v, xs[j]? = some v ∧ w.cell? (a.add j) = some v) : Rd s w.heap (.slice (some a) n c) n xs := by
  refine ⟨hl, _, _, rfl, ?_⟩
  rcases Nat.eq_zero_or_pos n with h0 | h0
  · exact .inl h0
  · have hp : 0 < n * s := Nat.mul_pos h0 hs
    obtain ⟨v, _, hv⟩ := hc 0 hp
    have ha : a.spot = none := cell?_plain (w := w) (a := a) (by simpa [Addr.add] using hv)
    refine .inr ⟨a.block, a.off, by rw [← addr_plain ha], fun j x hj => ?_⟩
    obtain ⟨v, h1, h2⟩ := hc j (by have := (List.getElem?_eq_some_iff.1 hj).1; omega)
    rw [hj] at h1; cases h1
    rw [← cell?_add ha]; exact h2
theorem wf64 {n : Int} (h : (Lit.int .i64 n).wf = true) : -9223372036854775808 ≤ n ∧ n ≤ 9223372036854775807 := by
  simp only [Lit.wf, Bool.and_eq_true, decide_eq_true_eq] at h
  have e1 : IntKind.i64.min = -9223372036854775808 := by decide
  have e2 : IntKind.i64.max = 9223372036854775807 := by decide
  rw [e1, e2] at h; exact h

variable {w : World} {base : Nat} {held : Bool}
/-- A list of integers that came in. -/
theorem arg_ints {r : Reach} {b0 : Nat} {t e : TypeId} {v : Value} {d : DataW H} {ps : List MemPlace} (ht : P.underlying t = some (.slice e)) (he : P.underlying e = some (.int .i64)) (hc : P.cellsOf e = 1) (hby : P.bytesOf e = 8)
    (hval : Value.okWide P w r b0 t v) (hd : DataW.Trod enc P w base (fun _ => true) held t v d ps) (hw : ∀ x ∈ d.weights P t, x ≤ reachBytes) :
    ∃ l : List Int, Rd 1 w.heap v l.length (intsV l) ∧ l.length ≤ 17592186044416 ∧ ∀ x ∈ l, -9223372036854775808 ≤ x ∧ x ≤ 9223372036854775807 := by
  obtain ⟨a, n, c, rfl⟩ := okWide_slice ht hval
  obtain ⟨fuel, hf⟩ := hd
  rcases open_ints ht he hc hf with ⟨h1, h2⟩ | ⟨a', len, cap, zs, h1, _, hlc, _, hz, hx, hcell, hwf⟩
  · have h1 : [Value.slice a n c] = [.slice none 0 0] := h1
    cases h1
    exact ⟨[], ⟨rfl, _, _, rfl, .inl rfl⟩, by simp, by simp⟩
  · have h1 : [Value.slice a n c] = [.slice (some a') len cap] := h1
    cases h1
    simp only [if_true] at hz
    simp only [Prod.mk.injEq] at hx
    obtain ⟨rfl, rfl⟩ := hx
    have hwt := hw _ (by simp only [DataW.weights, ht]; exact List.mem_cons_self ..)
    simp only [lits, List.length_map, List.length_take, List.length_drop, hby] at hwt
    unfold reachBytes at hwt
    refine ⟨zs.take n, ?_, ?_, fun x hx => wf64 (hwf x (List.mem_of_mem_take hx))⟩
    · have hl : (zs.take n).length = n := by simp; omega
      rw [hl]
      refine rd_of (by omega) (by simp; omega) fun j hj => ?_
      have hj : j < zs.length := by omega
      refine ⟨.int .i64 (zs.getD j 0), ?_, hcell j hj⟩
      have : (zs.take n)[j]? = some (zs.getD j 0) := by
        rw [List.getElem?_take_of_lt (by omega)]; simp [hj]
      exact intsV_get this
    · simp; omega

end
end Go.Vc
/-
  A graph that came in.
-/
namespace Go.Proofs.Tst
open Go Go.Vc Go.RowKit Go.ChangeShapes Go.WideShapes Go.ChangeAt Go.Deep
section
variable {H : Type} {enc : TypeId × Value → H} {P : Program}
theorem weightsAll_mem {e : TypeId} {y : Nat} {d : DataW H} : ∀ {ds : List (DataW H)}, d ∈ ds → y ∈ d.weights P e → y ∈ DataW.weightsAll P e ds
  | [], h, _ => by simp at h
  | x :: r, h, hy => by
    rw [DataW.weightsAll, List.mem_append]
    rcases List.mem_cons.1 h with rfl | h
    · exact .inl hy
    · exact .inr (weightsAll_mem h hy)
theorem weightsEach_mem {y : Nat} {d : DataW H} {t : TypeId} : ∀ {k : Nat} {ts : List TypeId} {ds : List (DataW H)}, ts[k]? = some t → ds[k]? = some d → y ∈ d.weights P t → y ∈ DataW.weightsEach P ts ds
  | _, [], _, h, _, _ => by simp at h
  | _, _ :: _, [], _, h, _ => by simp at h
  | 0, _ :: _, _ :: _, h1, h2, hy => by
    simp at h1 h2; subst h1; subst h2
    rw [DataW.weightsEach, List.mem_append]; exact .inl hy
  | k + 1, _ :: _, _ :: _, h1, h2, hy => by
    rw [DataW.weightsEach, List.mem_append]
    exact .inr (weightsEach_mem (by simpa using h1) (by simpa using h2) hy)
variable {w : World} {base : Nat} {held : Bool}
theorem read_pairs {t e : TypeId} {f0 f1 : Field} {v : Value} {fuel : Nat} {x : DataW H × List MemPlace} (ht : P.underlying t = some (.slice e)) (he : P.underlying e = some (.struct #[f0, f1])) (ce : P.cellsOf e = 2) (hby : P.bytesOf e = 16)
    (o0 : f0.offset = 0) (o1 : f1.offset = 1) (c0 : P.cellsOf f0.type = 1) (c1 : P.cellsOf f1.type = 1) (u0 : P.underlying f0.type = some (.int .i64)) (u1 : P.underlying f1.type = some (.int .i64))
    (hf : DataW.trod enc P w base (fun _ => true) held fuel t [v] = some x) (hw : ∀ y ∈ x.1.weights P t, y ≤ reachBytes) :
    ∃ l : List (Int × Int), Rd 2 w.heap v l.length (pairsV l) ∧ l.length ≤ 8796093022208 := by
  rcases open_slice_pairs ht he ce o0 o1 c0 c1 hf with ⟨h1, h2⟩ | ⟨a', len, cap, m, k, V0, V1, D0, D1, P0, P1, h1, _, hlc, _, hm, rfl, hcell⟩
  · cases h1
    exact ⟨[], ⟨rfl, _, _, rfl, .inl rfl⟩, by simp⟩
  · cases h1
    simp only [if_true] at hm
    subst hm
    have hwt := hw _ (by simp only [DataW.weights, ht]; exact List.mem_cons_self ..)
    simp only [List.length_map, List.length_range, hby] at hwt
    unfold reachBytes at hwt
    obtain ⟨Z, hZ⟩ := choose_lt (α := Int × Int) (n := m) (p := fun i z => V0 i = .int .i64 z.1 ∧ V1 i = .int .i64 z.2) (fun i hi => by
      obtain ⟨_, _, g1, g2⟩ := hcell i hi
      obtain ⟨x, hx, _, hxw⟩ := DataW.trod_int u0 g1
      obtain ⟨y, hy, _, hyw⟩ := DataW.trod_int u1 g2
      exact ⟨(x, y), by simpa using hx, by simpa using hy⟩)
    have hl : ((List.range len).map Z).length = len := by simp
    refine ⟨(List.range len).map Z, ?_, by rw [hl]; omega⟩
    rw [hl]
    refine rd_of (by omega) (by simp) fun j hj => ?_
    obtain ⟨i, hij⟩ : ∃ i, j = i * 2 ∨ j = i * 2 + 1 := ⟨j / 2, by omega⟩
    have hi : i < len := by omega
    have hg : ((List.range len).map Z)[i]? = some (Z i) := by simp [hi]
    obtain ⟨g1, g2⟩ := pairsV_get _ _ _ hg
    obtain ⟨h3, h4, _, _⟩ := hcell i (by omega)
    obtain ⟨h5, h6⟩ := hZ i (by omega)
    rcases hij with rfl | rfl
    · exact ⟨_, g1, by rw [h3, h5]⟩
    · exact ⟨_, g2, by rw [h4, h6]⟩
theorem read_ints {t e : TypeId} {v : Value} {fuel : Nat} {x : DataW H × List MemPlace} (ht : P.underlying t = some (.slice e)) (he : P.underlying e = some (.int .i64)) (hc : P.cellsOf e = 1) (hby : P.bytesOf e = 8)
    (hf : DataW.trod enc P w base (fun _ => true) held fuel t [v] = some x) (hw : ∀ y ∈ x.1.weights P t, y ≤ reachBytes) :
    ∃ (l : List Int) (a : Option Addr) (c : Nat), v = .slice a l.length c ∧ l.length ≤ c ∧ Rd 1 w.heap (.slice a l.length c) l.length (intsV l) ∧ l.length ≤ 17592186044416 := by
  rcases open_ints ht he hc hf with ⟨h1, h2⟩ | ⟨a', len, cap, zs, h1, _, hlc, _, hz, rfl, hcell, hwf⟩
  · cases h1
    exact ⟨[], none, 0, rfl, Nat.le_refl _, ⟨rfl, _, _, rfl, .inl rfl⟩, by simp⟩
  · cases h1
    simp only [if_true] at hz
    have hwt := hw _ (by simp only [DataW.weights, ht]; exact List.mem_cons_self ..)
    simp only [lits, List.length_map, List.length_take, List.length_drop, hby] at hwt
    unfold reachBytes at hwt
    have hl : (zs.take len).length = len := by simp; omega
    refine ⟨zs.take len, some a', cap, by rw [hl], by rw [hl]; exact hlc, ?_, by rw [hl]; omega⟩
    rw [hl]
    refine rd_of (by omega) (by simp; omega) fun j hj => ?_
    have hj : j < zs.length := by omega
    refine ⟨.int .i64 (zs.getD j 0), ?_, hcell j hj⟩
    have : (zs.take len)[j]? = some (zs.getD j 0) := by
      rw [List.getElem?_take_of_lt (by omega)]; simp [hj]
    exact intsV_get this
theorem read_lists {t e i : TypeId} {v : Value} {fuel : Nat} {x : DataW H × List MemPlace} (ht : P.underlying t = some (.slice e)) (he : P.underlying e = some (.slice i)) (hi : P.underlying i = some (.int .i64)) (ce : P.cellsOf e = 1) (be : P.bytesOf e = 24) (ci : P.cellsOf i = 1) (bi : P.bytesOf i = 8)
    (hf : DataW.trod enc P w base (fun _ => true) held fuel t [v] = some x) (hw : ∀ y ∈ x.1.weights P t, y ≤ reachBytes) :
    ∃ (L : List (List Int)) (a : Option Addr) (c : Nat), v = .slice a L.length c ∧ L.length ≤ c ∧ RL w.heap (.slice a L.length c) (L.map intsV) ∧ RLc w.heap (.slice a L.length c) (L.map intsV) ∧ L.length ≤ 5864062014805 ∧ ∀ l ∈ L, l.length ≤ 17592186044416 := by
  rcases open_slice ht hf with ⟨h1, h2⟩ | ⟨a', len, cap, m, k, D, Pl, h1, _, hlc, _, hm, rfl, hcell⟩
  · cases h1
    exact ⟨[], none, 0, rfl, Nat.le_refl _, ⟨[], ⟨rfl, _, _, rfl, .inl rfl⟩, by simp⟩, ⟨[], ⟨rfl, _, _, rfl, .inl rfl⟩, by simp⟩, by simp, by simp⟩
  · cases h1
    simp only [if_true] at hm
    subst hm
    have hwt := hw _ (by simp only [DataW.weights, ht]; exact List.mem_cons_self ..)
    simp only [List.length_map, List.length_range, be] at hwt
    unfold reachBytes at hwt
    obtain ⟨Z, hZ⟩ := choose_lt (α := Value × List Int) (n := len) (p := fun i z => w.cell? (a'.add (i * 1)) = some z.1 ∧ (∃ a c, z.1 = .slice a z.2.length c ∧ z.2.length ≤ c ∧ Rd 1 w.heap (.slice a z.2.length c) z.2.length (intsV z.2)) ∧ z.2.length ≤ 17592186044416) (fun i hil => by
      obtain ⟨cs, hc1, hc2⟩ := hcell i (by omega)
      rw [ce] at hc1
      obtain ⟨_, hlen, hcs⟩ := World.cells?_some hc1
      have hDi : D i ∈ (List.range len).map D := List.mem_map.2 ⟨i, List.mem_range.2 hil, rfl⟩
      have hwD : ∀ y ∈ (D i).weights P e, y ≤ reachBytes := fun y hy => hw y (by
        simp only [DataW.weights, ht]
        exact List.mem_cons_of_mem _ (List.mem_append_left _ (weightsAll_mem hDi hy)))
      match cs, hlen with
      | [u], _ =>
        obtain ⟨l, a, c, h1, h2, h3, h4⟩ := read_ints he hi ci bi hc2 hwD
        have h0 := hcs 0 (by omega)
        refine ⟨(u, l), ?_, ⟨a, c, h1, h2, h3⟩, h4⟩
        rw [add_add] at h0
        simpa using h0)
    have hl : ((List.range len).map fun i => (Z i).2).length = len := by simp
    have hus : Rd 1 w.heap (.slice (some a') len m) len ((List.range len).map fun i => (Z i).1) := by
      refine rd_of (by omega) (by simp) fun j hj => ?_
      have hj' : j < len := by omega
      refine ⟨(Z j).1, by simp [hj'], ?_⟩
      have := (hZ j hj').1
      rwa [Nat.mul_one] at this
    have get : ∀ (i : Nat) (l : List Value), (((List.range len).map fun i => (Z i).2).map intsV)[i]? = some l → i < len ∧ l = intsV (Z i).2 := fun i l h => by
      have hil : i < len := by
        have := (List.getElem?_eq_some_iff.1 h).1
        simpa using this
      refine ⟨hil, ?_⟩
      simp [hil] at h
      exact h.symm
    refine ⟨(List.range len).map fun i => (Z i).2, some a', m, by rw [hl], by rw [hl]; exact hlc, ⟨(List.range len).map fun i => (Z i).1, ?_, fun i l h => ?_⟩, ⟨(List.range len).map fun i => (Z i).1, ?_, fun i l h => ?_⟩, by rw [hl]; omega, fun l hm => ?_⟩
    · simpa using hus
    · obtain ⟨hil, rfl⟩ := get i l h
      obtain ⟨-, ⟨a, c, h1, h2, h3⟩, -⟩ := hZ i hil
      exact ⟨_, by simp [hil]; rfl, by rw [h1, length_intsV]; exact h3⟩
    · simpa using hus
    · obtain ⟨hil, rfl⟩ := get i l h
      obtain ⟨-, ⟨a, c, h1, h2, h3⟩, -⟩ := hZ i hil
      exact ⟨a, c, by simp [hil, h1], by rw [length_intsV]; exact h2, by rw [length_intsV]; exact h3⟩
    · obtain ⟨i, hi, rfl⟩ := List.mem_map.1 hm
      exact (hZ i (List.mem_range.1 hi)).2.2
theorem read_events {t e ti tu : TypeId} {f0 f1 f2 f3 f4 : Field} {v : Value} {fuel : Nat} {x : DataW H × List MemPlace} (ht : P.underlying t = some (.slice e)) (he : P.underlying e = some (.struct #[f0, f1, f2, f3, f4])) (ce : P.cellsOf e = 5) (hby : P.bytesOf e = 40)
    (hO : f0.offset = 0 ∧ f1.offset = 1 ∧ f2.offset = 2 ∧ f3.offset = 3 ∧ f4.offset = 4) (hT : f0.type = ti ∧ f1.type = ti ∧ f2.type = ti ∧ f3.type = tu ∧ f4.type = ti) (ci : P.cellsOf ti = 1) (cu : P.cellsOf tu = 1) (ui : P.underlying ti = some (.int .i64)) (uu : P.underlying tu = some (.int .u64))
    (hf : DataW.trod enc P w base (fun _ => true) held fuel t [v] = some x) (hw : ∀ y ∈ x.1.weights P t, y ≤ reachBytes) :
    ∃ (l : List Ev), Rd 5 w.heap v l.length (evsV l) ∧ l.length ≤ 3518437208883 := by
  rcases open_slice ht hf with ⟨h1, h2⟩ | ⟨a', len, cap, m, k, D, Pl, h1, _, hlc, _, hm, rfl, hcell⟩
  · cases h1
    exact ⟨[], ⟨rfl, _, _, rfl, .inl rfl⟩, by simp⟩
  · cases h1
    simp only [if_true] at hm
    subst hm
    have hwt := hw _ (by simp only [DataW.weights, ht]; exact List.mem_cons_self ..)
    simp only [List.length_map, List.length_range, hby] at hwt
    unfold reachBytes at hwt
    obtain ⟨o0, o1, o2, o3, o4⟩ := hO
    obtain ⟨t0, t1, t2, t3, t4⟩ := hT
    obtain ⟨Z, hZ⟩ := choose_lt (α := Ev) (n := len) (p := fun i z => ∀ j, j < 5 → ∃ v, z.cells[j]? = some v ∧ w.cell? (a'.add (i * 5 + j)) = some v) (fun i hi => by
      obtain ⟨cs, hc1, hc2⟩ := hcell i (by omega)
      rw [ce] at hc1
      obtain ⟨_, hlen, hcs⟩ := World.cells?_some hc1
      obtain ⟨xs, k', hk, hxy, _, hxl, hfld⟩ := DataW.trod_struct he hc2
      match xs, hxl, cs, hlen with
      | [y0, y1, y2, y3, y4], _, [v0, v1, v2, v3, v4], _ =>
        have q0 := hfld 0 f0 rfl
        have q1 := hfld 1 f1 rfl
        have q2 := hfld 2 f2 rfl
        have q3 := hfld 3 f3 rfl
        have q4 := hfld 4 f4 rfl
        simp [o0, o1, o2, o3, o4, t0, t1, t2, t3, t4, ci, cu] at q0 q1 q2 q3 q4
        obtain ⟨x0, e0, -, -⟩ := DataW.trod_int ui q0
        obtain ⟨x1, e1, -, -⟩ := DataW.trod_int ui q1
        obtain ⟨x2, e2, -, -⟩ := DataW.trod_int ui q2
        obtain ⟨x3, e3, -, -⟩ := DataW.trod_int uu q3
        obtain ⟨x4, e4, -, -⟩ := DataW.trod_int ui q4
        simp at e0 e1 e2 e3 e4
        refine ⟨⟨x0, x1, x2, x3, x4⟩, fun j hj => ?_⟩
        have hj' := hcs j hj
        rw [add_add] at hj'
        have hcl : (Ev.cells ⟨x0, x1, x2, x3, x4⟩) = [v0, v1, v2, v3, v4] := by simp [Ev.cells, e0, e1, e2, e3, e4]
        rw [hcl]
        have hjl : j < [v0, v1, v2, v3, v4].length := hj
        exact ⟨_, List.getElem?_eq_getElem hjl, by rw [hj']; exact List.getElem?_eq_getElem hjl⟩)
    have hl : ((List.range len).map Z).length = len := by simp
    refine ⟨(List.range len).map Z, ?_, by rw [hl]; omega⟩
    rw [hl]
    refine rd_of (by omega) (by rw [length_evsV, hl]) fun j hj => ?_
    have hi : j / 5 < len := by omega
    have hg : ((List.range len).map Z)[j / 5]? = some (Z (j / 5)) := by simp [hi]
    obtain ⟨v, h3, h4⟩ := hZ (j / 5) hi (j % 5) (by omega)
    have hrow := evsV_get hg (j % 5) (by omega)
    rw [show j / 5 * 5 + j % 5 = j from by omega] at hrow h4
    exact ⟨v, by rw [hrow]; exact h3, h4⟩
/-- **A graph that came in.** -/
theorem arg_graph {r : Reach} {b0 : Nat} {t te tes tps tp tll tl ti tu : TypeId} {f0 f1 f2 f3 f4 f5 f6 f7 e0 e1 e2 e3 e4 g0 g1 : Field} {v : Value} {d : DataW H} {ps : List MemPlace} (ht : P.underlying t = some (.struct #[f0, f1, f2, f3, f4, f5, f6, f7])) (ct : P.cellsOf t = 8)
    (hO : f0.offset = 0 ∧ f1.offset = 1 ∧ f2.offset = 2 ∧ f3.offset = 3 ∧ f4.offset = 4 ∧ f5.offset = 5 ∧ f6.offset = 6 ∧ f7.offset = 7) (hT : f0.type = ti ∧ f1.type = tes ∧ f2.type = tps ∧ f3.type = tll ∧ f4.type = tps ∧ f5.type = tps ∧ f6.type = tps ∧ f7.type = tps)
    (ues : P.underlying tes = some (.slice te)) (ue : P.underlying te = some (.struct #[e0, e1, e2, e3, e4])) (ce : P.cellsOf te = 5) (be : P.bytesOf te = 40) (hEO : e0.offset = 0 ∧ e1.offset = 1 ∧ e2.offset = 2 ∧ e3.offset = 3 ∧ e4.offset = 4) (hET : e0.type = ti ∧ e1.type = ti ∧ e2.type = ti ∧ e3.type = tu ∧ e4.type = ti)
    (ups : P.underlying tps = some (.slice tp)) (up : P.underlying tp = some (.struct #[g0, g1])) (cp : P.cellsOf tp = 2) (bp : P.bytesOf tp = 16) (hPO : g0.offset = 0 ∧ g1.offset = 1 ∧ g0.type = ti ∧ g1.type = ti)
    (ull : P.underlying tll = some (.slice tl)) (ul : P.underlying tl = some (.slice ti)) (cl : P.cellsOf tl = 1) (bl : P.bytesOf tl = 24) (ui : P.underlying ti = some (.int .i64)) (ci : P.cellsOf ti = 1) (bi : P.bytesOf ti = 8) (uu : P.underlying tu = some (.int .u64)) (cu : P.cellsOf tu = 1)
    (ces : P.cellsOf tes = 1) (cps : P.cellsOf tps = 1) (cll : P.cellsOf tll = 1)
    (hval : Value.okWide P w r b0 t v) (hd : DataW.Trod enc P w base (fun _ => true) held t v d ps) (hw : ∀ x ∈ d.weights P t, x ≤ reachBytes) :
    ∃ (q : GV) (g : Gr), v = .agg (gcells q g).toArray ∧ GrAt w.heap q g := by
  obtain ⟨cs, rfl, hcs⟩ := okWide_struct ht hval
  obtain ⟨fuel, hf⟩ := hd
  have hf : DataW.trod enc P w base (fun _ => true) held fuel t cs.toList = some (d, ps) := hf
  obtain ⟨xs, k, hk, hx, hl, hxl, hfld⟩ := DataW.trod_struct ht hf
  simp only [Prod.mk.injEq] at hx
  obtain ⟨hD, -⟩ := hx
  obtain ⟨o0, o1, o2, o3, o4, o5, o6, o7⟩ := hO
  obtain ⟨t0, t1, t2, t3, t4, t5, t6, t7⟩ := hT
  obtain ⟨go0, go1, gt0, gt1⟩ := hPO
  rw [ct] at hl
  obtain ⟨cl'⟩ := cs
  match xs, hxl, cl', hl with
  | [y0, y1, y2, y3, y4, y5, y6, y7], _, [v0, v1, v2, v3, v4, v5, v6, v7], _ =>
    have q0 := hfld 0 f0 rfl
    have q1 := hfld 1 f1 rfl
    have q2 := hfld 2 f2 rfl
    have q3 := hfld 3 f3 rfl
    have q4 := hfld 4 f4 rfl
    have q5 := hfld 5 f5 rfl
    have q6 := hfld 6 f6 rfl
    have q7 := hfld 7 f7 rfl
    simp [o0, o1, o2, o3, o4, o5, o6, o7, t0, t1, t2, t3, t4, t5, t6, t7, ci, ces, cps, cll] at q0 q1 q2 q3 q4 q5 q6 q7
    simp only [List.map_cons, List.map_nil] at hD
    have wt : ∀ (j : Nat) (tj : TypeId) (y : DataW H), ([ti, tes, tps, tll, tps, tps, tps, tps] : List TypeId)[j]? = some tj → ([y0.1, y1.1, y2.1, y3.1, y4.1, y5.1, y6.1, y7.1] : List (DataW H))[j]? = some y → ∀ z ∈ y.weights P tj, z ≤ reachBytes := fun j tj y h1 h2 z hz => hw z (by
      rw [hD]; simp only [DataW.weights, ht]
      refine weightsEach_mem (k := j) (t := tj) (d := y) ?_ h2 hz
      simpa [t0, t1, t2, t3, t4, t5, t6, t7] using h1)
    obtain ⟨x0, e0', -, -⟩ := DataW.trod_int ui q0
    simp at e0'
    subst e0'
    obtain ⟨le, re, be'⟩ := read_events ues ue ce be hEO hET ci cu ui uu q1 (wt 1 _ _ rfl rfl)
    have rp := fun (v : Value) (y : DataW H × List MemPlace) (q : DataW.trod enc P w base (fun _ => true) held k tps [v] = some y) (hy : ∀ z ∈ y.1.weights P tps, z ≤ reachBytes) => read_pairs ups up cp bp go0 go1 (by rw [gt0]; exact ci) (by rw [gt1]; exact ci) (by rw [gt0]; exact ui) (by rw [gt1]; exact ui) q hy
    obtain ⟨lf, rf, bf⟩ := rp _ _ q2 (wt 2 _ _ rfl rfl)
    obtain ⟨L, la, lc, rfl, hLc, rL, rLc, bL, bl'⟩ := read_lists ull ul ui cl bl ci bi q3 (wt 3 _ _ rfl rfl)
    obtain ⟨lr, rr, br⟩ := rp _ _ q4 (wt 4 _ _ rfl rfl)
    obtain ⟨lad, ra, ba⟩ := rp _ _ q5 (wt 5 _ _ rfl rfl)
    obtain ⟨ld, rd', bd⟩ := rp _ _ q6 (wt 6 _ _ rfl rfl)
    obtain ⟨lct, rc, bc⟩ := rp _ _ q7 (wt 7 _ _ rfl rfl)
    obtain ⟨ea, ec, rfl⟩ := re.is
    obtain ⟨fa, fc, rfl⟩ := rf.is
    obtain ⟨ra', rc', rfl⟩ := rr.is
    obtain ⟨aa, ac, rfl⟩ := ra.is
    obtain ⟨da, dc, rfl⟩ := rd'.is
    obtain ⟨ca, cc, rfl⟩ := rc.is
    exact ⟨⟨ea, fa, la, ra', aa, da, ca, ec, fc, lc, rc', ac, dc, cc⟩, ⟨x0, le, lf, L, lr, lad, ld, lct⟩, rfl, ⟨re, rf, rL, rr, ra, rd', rc, ⟨be', bf, bL, br, ba, bd, bc, bl'⟩, hLc, rLc⟩⟩
end
end Go.Proofs.Tst
/-
  GraphSees and its arguments.
-/
namespace Go.Proofs.Tst
end Go.Proofs.Tst
