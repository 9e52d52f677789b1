/-
  Contracts of functions that the law reaches: what each returns and what it leaves in memory. Conditions stand in each.
-/
import Derived.Test.YtmilaghhnaoidaaDoorT5
set_option linter.all false
set_option maxRecDepth 2000
/-
  graph.Derive.
-/
namespace Go.Proofs.Tst
open Go Go.Vc
/-- A graph's relations and kinds in memory, from lo on, each apart from the others. -/
structure FactsAt (h : Heap) (lo : Nat) (p : Nat → Value) (rd wr fe : Value) (g : Gr) : Prop where
  n : g.n ≤ 256
  rel : ∃ A B, Der h A B p g.n (relM g) 10 ∧ (∀ k, k < 10 → lo ≤ A k ∧ A k ≤ B k ∧ B k ≤ h.size) ∧ ∀ k, k < 10 → ∀ v ∈ [rd, wr, fe], bh v ≤ A k ∨ B k ≤ bl v ∨ bh v ≤ bl v
  hrd : Holder 1 h rd g.n (boolsV (kindsV g 1 g.n)) lo
  hwr : Holder 1 h wr g.n (boolsV (kindsV g 2 g.n)) lo
  hfe : Holder 1 h fe g.n (boolsV (kindsV g 3 g.n)) lo
  off : Off rd wr ∧ Off rd fe ∧ Off wr fe
theorem kindsV_succ {g : Gr} {k : Int} {i : Nat} (hi : i < g.n) : boolsV (kindsV g k (i + 1)) = boolsV (kindsV g k i) ++ [.bool ((g.ev i).kind == k)] := by
  unfold kindsV boolsV
  rw [List.take_add_one, Gr.ev_get hi]
  simp
theorem relT_zero {g : Gr} {k x y : Nat} : relZ g k x y = relT g 0 0 k x y := by
  unfold relT
  split
  · rename_i hk
    rw [mixM_zero]
    rcases hk with rfl | rfl | rfl <;> rfl
  · rfl
theorem relT_end {g : Gr} {k x y : Nat} (hk : k < 9) (hx : x < g.n) (hy : y < g.n) : relT g g.n 0 k x y = relC g [] k x y := by
  unfold relT relC
  by_cases h2 : k = 2
  · subst h2; rfl
  · rw [if_neg h2]
    split
    · exact mixM_end hx hy
    · rename_i h
      have : k = 1 ∨ k = 3 ∨ k = 6 ∨ k = 7 ∨ k = 8 := by omega
      rcases this with rfl | rfl | rfl | rfl | rfl <;> rfl
theorem relC_end {g : Gr} {k : Nat} (hk : k < 9) : relC g (coPairs g) k = relM g k := by
  unfold relC
  by_cases h2 : k = 2
  · subst h2; rfl
  · rw [if_neg h2]
def ixL : List Nat := [1, 5, 7, 11, 13, 15, 19, 23, 27, 28, 29]
set_option maxHeartbeats 4000000 in
theorem graph_Derive {h : Heap} {q : GV} {g : Gr} (t : GrAt h q g) (ht : TabAt h) :
    Con Tryd.prog 16 #[.agg (gcells q g).toArray] h fun v h' => Fr 0 0 h h' ∧ if g.good = true then ∃ p rd wr fe, v = .tuple #[.agg (fcells p rd wr fe).toArray, .int .i64 0] ∧ FactsAt h' h.size p rd wr fe g else v = .tuple #[.agg fzero.toArray, .int .i64 4] := by
  refine con_graph_Derive ?_
  have p0 : Fr 0 0 h h := .refl _ _ _
  have be := t.fits.e
  have bf := t.fits.f
  have br := t.fits.r
  have ba := t.fits.a
  have bd := t.fits.d
  have bc := t.fits.c
  have hen : g.evs.length = g.n := rfl
  unfold gcells
  simp -dsimp only [go_sem]
  intro b1 h1 n1
  have n1_a := n1.at_
  have n1_z := n1.size
  replace p0 := p0.fresh (n1.fr (lo := 0) (hi := 0)) (by omega)
  have r1 := n1.row
  simp -dsimp only [go_sem, r1.cell]
  intro b2 h2 n2
  have n2_a := n2.at_
  have n2_z := n2.size
  replace p0 := p0.fresh (n2.fr (lo := 0) (hi := 0)) (by omega)
  replace r1 := r1.fr (n2.fr (lo := 0) (hi := 0)) (by omega)
  have r2 := n2.row
  simp -dsimp only [go_sem, r1.cell, r2.cell]
  refine call_of (graph_good (t.fr p0)) ?_
  rintro v3 h3 ⟨f3, rfl⟩
  have f3_z := f3.size
  replace p0 := p0.fresh f3 (by omega)
  replace r1 := r1.fr f3 (by omega)
  replace r2 := r2.fr f3 (by omega)
  cases hg : g.good
  · simp -dsimp only [go_sem, r1.cell, r2.cell]
    refine Chk_intro (r2.wr (by first | (simp; done) | (simp; omega))) fun h4 s4 => ?_
    have s4_z := s4.size
    replace p0 := p0.fresh s4.fr (by omega)
    replace r1 := r1.fr s4.fr (by omega)
    replace r2 := s4.row r2
    try simp only [cl_int, cl_bool, cl_slice, cl_ptr, putAt_one, List.set_cons_zero, List.set_cons_succ, ivec_set, brow_upd] at r2
    simp -dsimp only [go_sem] at r2
    simp -dsimp only [go_sem, r1.cell, r2.cell]
    exact withC_of fzero 0 (fun j x hj => by rw [r2.cell, Nat.zero_add]; exact hj) ⟨p0, rfl⟩
  obtain ⟨hn, hsz⟩ := good_n hg
  simp -dsimp only [go_sem, evs_len, r1.cell, r2.cell]
  have hcl : clampN (g.n : Int) = g.n := by unfold clampN; omega
  have t3 := t.fr p0
  refine free_intro [(1, [1], tellP g.n fun _ _ => false), (5, [5], tellP g.n (ofM g.n g.rf)), (7, [7], tellP g.n fun _ _ => false), (11, [11], tellP g.n (ofM g.n g.rmw)), (13, [13], tellP g.n fun _ _ => false), (15, [15], tellP g.n fun _ _ => false),
    (19, [19], tellP g.n (ofM g.n g.addr)), (23, [23], tellP g.n (ofM g.n g.data)), (27, [27], tellP g.n (ofM g.n g.ctrl)), (28, [1, 5, 7, 11, 13, 15, 19, 23, 27, 28], tellF), (29, [29], tellA fzero)] ?_ rfl ?_ ?_
  · exact ⟨stabP _ _, stabP _ _, stabP _ _, stabP _ _, stabP _ _, stabP _ _, stabP _ _, stabP _ _, stabP _ _, fun _ _ _ _ x => x, stabA _, trivial⟩
  · simp -dsimp only [go_sem, tellP_eq, tellF_eq, tellA_eq, r1.cell, r2.cell]
    refine ⟨fun h4 f4 V => ?_, fun h4 f4 V _ => ?_, fun h4 f4 V _ => ?_, fun h4 f4 V _ => ?_, fun h4 f4 V _ => ?_, fun h4 f4 V _ => ?_, fun h4 f4 V _ => ?_, fun h4 f4 V _ => ?_, fun h4 f4 V _ => ?_, fun h4 f4 V a1 a2 a3 a4 a5 a6 a7 a8 a9 => ?_, fun h4 f4 V => ?_⟩
    · refine call_of (rel_New g.n h4) ?_
      rintro v h5 ⟨f5, w⟩
      rw [hcl] at w
      simp -dsimp only [go_sem, tellP_eq, r1.cell, r2.cell]
      exact ⟨f5, w⟩
    · refine call_of (rel_Of g.n _ g.rf h4 (t3.f.fr f4) (by omega)) ?_
      rintro v h5 ⟨f5, w⟩
      rw [hcl] at w
      simp -dsimp only [go_sem, tellP_eq, r1.cell, r2.cell]
      exact ⟨f5, w⟩
    · refine call_of (rel_New g.n h4) ?_
      rintro v h5 ⟨f5, w⟩
      rw [hcl] at w
      simp -dsimp only [go_sem, tellP_eq, r1.cell, r2.cell]
      exact ⟨f5, w⟩
    · refine call_of (rel_Of g.n _ g.rmw h4 (t3.r.fr f4) (by omega)) ?_
      rintro v h5 ⟨f5, w⟩
      rw [hcl] at w
      simp -dsimp only [go_sem, tellP_eq, r1.cell, r2.cell]
      exact ⟨f5, w⟩
    · refine call_of (rel_New g.n h4) ?_
      rintro v h5 ⟨f5, w⟩
      rw [hcl] at w
      simp -dsimp only [go_sem, tellP_eq, r1.cell, r2.cell]
      exact ⟨f5, w⟩
    · refine call_of (rel_New g.n h4) ?_
      rintro v h5 ⟨f5, w⟩
      rw [hcl] at w
      simp -dsimp only [go_sem, tellP_eq, r1.cell, r2.cell]
      exact ⟨f5, w⟩
    · refine call_of (rel_Of g.n _ g.addr h4 (t3.a.fr f4) (by omega)) ?_
      rintro v h5 ⟨f5, w⟩
      rw [hcl] at w
      simp -dsimp only [go_sem, tellP_eq, r1.cell, r2.cell]
      exact ⟨f5, w⟩
    · refine call_of (rel_Of g.n _ g.data h4 (t3.d.fr f4) (by omega)) ?_
      rintro v h5 ⟨f5, w⟩
      rw [hcl] at w
      simp -dsimp only [go_sem, tellP_eq, r1.cell, r2.cell]
      exact ⟨f5, w⟩
    · refine call_of (rel_Of g.n _ g.ctrl h4 (t3.c.fr f4) (by omega)) ?_
      rintro v h5 ⟨f5, w⟩
      rw [hcl] at w
      simp -dsimp only [go_sem, tellP_eq, r1.cell, r2.cell]
      exact ⟨f5, w⟩
    · obtain ⟨b1, e1⟩ := progPtr a1
      obtain ⟨b2, e2⟩ := progPtr a2
      obtain ⟨b3, e3⟩ := progPtr a3
      obtain ⟨b4, e4⟩ := progPtr a4
      obtain ⟨b5, e5⟩ := progPtr a5
      obtain ⟨b6, e6⟩ := progPtr a6
      obtain ⟨b7, e7⟩ := progPtr a7
      obtain ⟨b8, e8⟩ := progPtr a8
      obtain ⟨b9, e9⟩ := progPtr a9
      simp -dsimp only [go_sem, e1, e2, e3, e4, e5, e6, e7, e8, e9, tellF_eq, r1.cell, r2.cell]
      exact .refl _ _ _
    · intro b5 h5 n5
      simp -dsimp only [go_sem, tellA_eq, r1.cell, r2.cell]
      exact ⟨n5.fr, n5.at_.symm ▸ rfl, n5.size, n5.at_ ▸ n5.row⟩
  · intro h4 f4 V sep
    replace sep := sep.at_ (L := ixL) rfl
    simp -dsimp only [go_sem, tellP_eq, tellF_eq, tellA_eq, r1.cell, r2.cell]
    rintro a1 a2 a3 a4 a5 a6 a7 a8 a9 e28 ⟨e29, z29, r5⟩
    have f4_z := f4.size
    replace p0 := p0.fresh f4 (by omega)
    replace r1 := r1.fr f4 (by omega)
    replace r2 := r2.fr f4 (by omega)
    have hH34 := f4.size
    have oc : ∀ {a b : Nat} {v : Value} {M : Nat → Nat → Bool}, ProgAt h4 a b v g.n M → v.oneCell' = true := fun t => by obtain ⟨_, e⟩ := progPtr t; rw [e]; rfl
    have hix : ∀ k, k < 9 → ixD k ∈ ixL ∧ ixD k ≠ 29 := by decide
    have hne : ∀ k, k < 9 → ∀ l, l < 9 → k ≠ l → ixD k ≠ ixD l := by decide
    have key : ∃ (A B : Nat → Nat) (p : Nat → Value) (b5 : Nat), p 0 = (V 1).1 ∧ p 1 = (V 5).1 ∧ p 2 = (V 7).1 ∧ p 3 = (V 11).1 ∧ p 4 = (V 13).1 ∧ p 5 = (V 15).1 ∧ p 6 = (V 19).1 ∧ p 7 = (V 23).1 ∧ p 8 = (V 27).1 ∧ b5 = (V 29).2.1 ∧
        Der h4 A B p g.n (relZ g) 9 ∧ (∀ k, k < 9 → h3.size ≤ A k ∧ A k ≤ B k ∧ B k ≤ h4.size) ∧ (∀ k, k < 9 → b5 < A k ∨ B k ≤ b5) ∧ h3.size ≤ b5 := by
      refine ⟨fun k => (V (ixD k)).2.1, fun k => (V (ixD k)).2.2, fun k => (V (ixD k)).1, _, rfl, rfl, rfl, rfl, rfl, rfl, rfl, rfl, rfl, rfl, ⟨fun k hk => ?_, fun k l hk hl hkl => sep.2 _ (hix k hk).1 _ (hix l hl).1 (hne k hk l hl hkl)⟩, fun k hk => sep.1 _ (hix k hk).1, fun k hk => ?_, (sep.1 29 (by decide)).1⟩
      · match k, hk with
        | 0, _ => exact a1
        | 1, _ => exact a2
        | 2, _ => exact a3
        | 3, _ => exact a4
        | 4, _ => exact a5
        | 5, _ => exact a6
        | 6, _ => exact a7
        | 7, _ => exact a8
        | 8, _ => exact a9
      · have := sep.2 29 (by decide) _ (hix k hk).1 (Ne.symm (hix k hk).2)
        have := sep.1 29 (by decide)
        show (V 29).2.1 < (V (ixD k)).2.1 ∨ (V (ixD k)).2.2 ≤ (V 29).2.1
        omega
    obtain ⟨A, B, p, b5, q0, q1, q2, q3, q4, q5, q6, q7, q8, q9, D, hAB, hb5, hb5'⟩ := key
    have ocs : (p 0).oneCell' = true ∧ (p 1).oneCell' = true ∧ (p 2).oneCell' = true ∧ (p 3).oneCell' = true ∧ (p 4).oneCell' = true ∧ (p 5).oneCell' = true ∧ (p 6).oneCell' = true ∧ (p 7).oneCell' = true ∧ (p 8).oneCell' = true :=
      ⟨oc (D.at_ 0 (by decide)), oc (D.at_ 1 (by decide)), oc (D.at_ 2 (by decide)), oc (D.at_ 3 (by decide)), oc (D.at_ 4 (by decide)), oc (D.at_ 5 (by decide)), oc (D.at_ 6 (by decide)), oc (D.at_ 7 (by decide)), oc (D.at_ 8 (by decide))⟩
    obtain ⟨oc0, oc1, oc2, oc3, oc4, oc5, oc6, oc7, oc8⟩ := ocs
    rw [← q9] at e29 r5
    rw [← q0, ← q1, ← q2, ← q3, ← q4, ← q5, ← q6, ← q7, ← q8] at e28
    clear a1 a2 a3 a4 a5 a6 a7 a8 a9 oc hix hne sep
    unfold fzero at r5
    have r5_l := r5.lt
    simp -dsimp only [go_sem, e29, e28, oc0, oc1, oc2, oc3, oc4, oc5, oc6, oc7, oc8, r1.cell, r2.cell, r5.cell]
    refine Chk_intro (r5.wr (by first | (simp; done) | (simp; omega))) fun h5 s5 => ?_
    have s5_z := s5.size
    replace p0 := p0.fresh s5.fr (by omega)
    replace r1 := r1.fr s5.fr (by omega)
    replace r2 := r2.fr s5.fr (by omega)
    replace D := D.fr s5.fr (fun k hk => by have := hAB k hk; first | omega | (have := hb5 k hk; omega))
    replace r5 := s5.row r5
    try simp only [cl_int, cl_bool, cl_slice, cl_ptr, putAt_one, List.set_cons_zero, List.set_cons_succ, ivec_set, brow_upd] at r5
    simp -dsimp only [go_sem] at r5
    have hz5 : 0 < h5.size := by omega
    have D : Der h5 A B p g.n (relT g 0 0) 9 := D.congr fun k hk x y _ _ => relT_zero
    have gb : h.size ≤ h3.size ∧ h3.size ≤ h4.size ∧ h4.size ≤ h5.size ∧ b1 < h3.size ∧ b2 < h3.size ∧ h3.size ≤ b5 ∧ b5 < h5.size ∧ h.size ≤ b1 ∧ h.size ≤ b2 ∧ b1 ≠ b2 := by omega
    clear e28 z29 q0 q1 q2 q3 q4 q5 q6 q7 q8 q9 n1_a n1_z n2_a n2_z f3_z f4_z s5_z hH34
    simp -dsimp only [go_sem, evs_len, r1.cell, r2.cell, r5.cell]
    refine loop_intro (fun s : Nat × Value × Value × Value => [(1, .pointer (some ⟨b1, 0, none⟩)), (2, .pointer (some ⟨b2, 0, none⟩)), (5, .pointer (some ⟨b5, 0, none⟩)), (53, .slice q.e g.evs.length q.ec), (54, .int .i64 g.n), (55, .int .i64 s.1)])
      (fun s h' => s.1 ≤ g.n ∧ Fr 0 0 h h' ∧ h5.size ≤ h'.size ∧ Rw h' b1 (gcells q g) ∧ Rw h' b2 fzero ∧ Rw h' b5 [p 0, p 1, p 2, .pointer none, p 3, p 4, p 5, p 6, p 7, p 8, s.2.1, s.2.2.1, s.2.2.2] ∧ Der h' A B p g.n (relT g s.1 0) 9 ∧
        Holder 1 h' s.2.1 s.1 (boolsV (kindsV g 1 s.1)) h5.size ∧ Holder 1 h' s.2.2.1 s.1 (boolsV (kindsV g 2 s.1)) h5.size ∧ Holder 1 h' s.2.2.2 s.1 (boolsV (kindsV g 3 s.1)) h5.size ∧ Off s.2.1 s.2.2.1 ∧ Off s.2.1 s.2.2.2 ∧ Off s.2.2.1 s.2.2.2) (fun s => g.n - s.1) (0, .slice none 0 0, .slice none 0 0, .slice none 0 0) ?_ ?_ ?_
    · simp [Le, find, hen, e29]
    · exact ⟨by omega, p0, by omega, r1, r2, r5, D, .none _ _ _, .none _ _ _, .none _ _ _, .inl rfl, .inl rfl, .inl rfl⟩
    clear p0 r1 r2 r5 D r5_l
    rintro ⟨i, rd, wr, fe⟩ h6 ⟨hi, p0, y6, r1, r2, r5, D, o1, o2, o3, f12, f13, f23⟩
    dsimp only at hi r5 D o1 o2 o3 f12 f13 f23 ⊢
    unfold gcells at r1
    unfold fzero at r2
    have p0_z := p0.size
    have r1_l := r1.lt
    have r2_l := r2.lt
    have r5_l := r5.lt
    by_cases hlt : i < g.n
    · have e1 : ((i : Int) < (g.n : Int)) := by omega
      obtain ⟨eb, eo, he, hev⟩ := t.evs (by omega)
      obtain ⟨c0, c1, c2, c3, c4⟩ := hev h6 p0 i hlt
      obtain ⟨ra0, rc0, rfl⟩ := o1.is
      obtain ⟨ra0', rc0', rfl⟩ := o2.is
      obtain ⟨ra0'', rc0'', rfl⟩ := o3.is
      have tp1 := o1.top
      have tp2 := o2.top
      have tp3 := o3.top
      simp -dsimp only [go_sem, e1, he, evs_len, c0, c1, c2, c3, c4, r1.cell, r2.cell, r5.cell]
      intro b7 h7 n7
      have n7_a := n7.at_
      have n7_z := n7.size
      replace p0 := p0.fresh (n7.fr (lo := 0) (hi := 0)) (by omega)
      replace r1 := r1.fr (n7.fr (lo := 0) (hi := 0)) (by omega)
      replace r2 := r2.fr (n7.fr (lo := 0) (hi := 0)) (by omega)
      replace r5 := r5.fr (n7.fr (lo := 0) (hi := 0)) (by omega)
      replace D := D.fr (n7.fr (lo := 0) (hi := 0)) (fun k hk => by have := hAB k hk; first | omega | (have := hb5 k hk; omega))
      have r7 := n7.row
      replace o1 := o1.fr (n7.fr (lo := 0) (hi := 0)) (by omega)
      replace o2 := o2.fr (n7.fr (lo := 0) (hi := 0)) (by omega)
      replace o3 := o3.fr (n7.fr (lo := 0) (hi := 0)) (by omega)
      simp -dsimp only [go_sem, r1.cell, r2.cell, r5.cell, r7.cell]
      refine Chk_intro (r7.wr (by first | (simp; done) | (simp; omega))) fun h8 s8 => ?_
      have s8_z := s8.size
      replace p0 := p0.fresh s8.fr (by omega)
      replace r1 := r1.fr s8.fr (by omega)
      replace r2 := r2.fr s8.fr (by omega)
      replace r5 := r5.fr s8.fr (by omega)
      replace D := D.fr s8.fr (fun k hk => by have := hAB k hk; first | omega | (have := hb5 k hk; omega))
      replace r7 := s8.row r7
      try simp only [cl_int, cl_bool, cl_slice, cl_ptr, putAt_one, List.set_cons_zero, List.set_cons_succ, ivec_set, brow_upd] at r7
      replace o1 := o1.fr s8.fr (by omega)
      replace o2 := o2.fr s8.fr (by omega)
      replace o3 := o3.fr s8.fr (by omega)
      simp -dsimp only [go_sem] at r7
      have hb7 : h6.size ≤ b7 ∧ b7 < h8.size ∧ h6.size ≤ h8.size := by omega
      have t71 : bh (.slice ra0 i rc0) ≤ b7 ∧ bh (.slice ra0' i rc0') ≤ b7 ∧ bh (.slice ra0'' i rc0'') ≤ b7 := by omega
      clear tp1 tp2 tp3 n7_a n7_z s8_z c0 c1 c2 c3 c4
      simp -dsimp only [go_sem, r1.cell, r2.cell, r5.cell, r7.cell]
      intro nb1 hb1 nn1
      have nn1_a := nn1.at_
      have nn1_z := nn1.size
      replace p0 := p0.fresh (nn1.fr (lo := 0) (hi := 0)) (by omega)
      replace r1 := r1.fr (nn1.fr (lo := 0) (hi := 0)) (by omega)
      replace r2 := r2.fr (nn1.fr (lo := 0) (hi := 0)) (by omega)
      replace r5 := r5.fr (nn1.fr (lo := 0) (hi := 0)) (by omega)
      replace D := D.fr (nn1.fr (lo := 0) (hi := 0)) (fun k hk => by have := hAB k hk; first | omega | (have := hb5 k hk; omega))
      replace r7 := r7.fr (nn1.fr (lo := 0) (hi := 0)) (by omega)
      have rn1 := nn1.row
      replace o1 := o1.fr (nn1.fr (lo := 0) (hi := 0)) (by omega)
      replace o2 := o2.fr (nn1.fr (lo := 0) (hi := 0)) (by omega)
      replace o3 := o3.fr (nn1.fr (lo := 0) (hi := 0)) (by omega)
      have oa1 := o1.at_
      simp -dsimp only [go_sem, r1.cell, r2.cell, r5.cell, r7.cell, rn1.cell]
      refine o1.append (by omega) rfl (by omega) (by simp) (by omega) fun u1 k1 on1 fn1 en1 => ?_
      have fn1_z := fn1.size
      replace p0 := p0.fresh fn1 (by omega)
      replace r1 := r1.fr fn1 (by omega)
      replace r2 := r2.fr fn1 (by omega)
      replace r5 := r5.fr fn1 (by omega)
      replace D := D.fr fn1 (fun k hk => by have := hAB k hk; first | omega | (have := hb5 k hk; omega))
      replace r7 := r7.fr fn1 (by omega)
      clear oa1
      have tp2 := o2.top
      have tp3 := o3.top
      have nw2 := (f12.symm).app tp2 hz5 on1 en1
      have nw3 := (f13.symm).app tp3 hz5 on1 en1
      replace o2 := o2.fr fn1 (f12.symm).away
      replace o3 := o3.fr fn1 (f13.symm).away
      replace o1 := on1
      clear en1 on1
      clear tp2 tp3
      replace f12 := nw2.symm
      replace f13 := nw3.symm
      clear nw2 nw3
      obtain ⟨ra1, rc1, rfl⟩ := o1.is
      have oa1 := o1.at_
      simp -dsimp only [go_sem, r1.cell, r2.cell, r5.cell, r7.cell]
      refine Chk_intro (r5.wr (by first | (simp; done) | (simp; omega))) fun ks1 st1 => ?_
      have st1_z := st1.size
      replace p0 := p0.fresh st1.fr (by omega)
      replace r1 := r1.fr st1.fr (by omega)
      replace r2 := r2.fr st1.fr (by omega)
      replace D := D.fr st1.fr (fun k hk => by have := hAB k hk; first | omega | (have := hb5 k hk; omega))
      replace r7 := r7.fr st1.fr (by omega)
      replace r5 := st1.row r5
      try simp only [cl_int, cl_bool, cl_slice, cl_ptr, putAt_one, List.set_cons_zero, List.set_cons_succ, ivec_set, brow_upd] at r5
      replace o1 := o1.fr st1.fr (by have := o1.at_; omega)
      replace o2 := o2.fr st1.fr (by have := o2.at_; omega)
      replace o3 := o3.fr st1.fr (by have := o3.at_; omega)
      clear oa1
      simp -dsimp only [go_sem, r1.cell, r2.cell, r5.cell, r7.cell]
      intro nb2 hb2 nn2
      have nn2_a := nn2.at_
      have nn2_z := nn2.size
      replace p0 := p0.fresh (nn2.fr (lo := 0) (hi := 0)) (by omega)
      replace r1 := r1.fr (nn2.fr (lo := 0) (hi := 0)) (by omega)
      replace r2 := r2.fr (nn2.fr (lo := 0) (hi := 0)) (by omega)
      replace r5 := r5.fr (nn2.fr (lo := 0) (hi := 0)) (by omega)
      replace D := D.fr (nn2.fr (lo := 0) (hi := 0)) (fun k hk => by have := hAB k hk; first | omega | (have := hb5 k hk; omega))
      replace r7 := r7.fr (nn2.fr (lo := 0) (hi := 0)) (by omega)
      have rn2 := nn2.row
      replace o1 := o1.fr (nn2.fr (lo := 0) (hi := 0)) (by omega)
      replace o2 := o2.fr (nn2.fr (lo := 0) (hi := 0)) (by omega)
      replace o3 := o3.fr (nn2.fr (lo := 0) (hi := 0)) (by omega)
      have oa2 := o2.at_
      simp -dsimp only [go_sem, r1.cell, r2.cell, r5.cell, r7.cell, rn2.cell]
      refine o2.append (by omega) rfl (by omega) (by simp) (by omega) fun u2 k2 on2 fn2 en2 => ?_
      have fn2_z := fn2.size
      replace p0 := p0.fresh fn2 (by omega)
      replace r1 := r1.fr fn2 (by omega)
      replace r2 := r2.fr fn2 (by omega)
      replace r5 := r5.fr fn2 (by omega)
      replace D := D.fr fn2 (fun k hk => by have := hAB k hk; first | omega | (have := hb5 k hk; omega))
      replace r7 := r7.fr fn2 (by omega)
      clear oa2
      have tp1 := o1.top
      have tp3 := o3.top
      have nw1 := (f12).app tp1 hz5 on2 en2
      have nw3 := (f23.symm).app tp3 hz5 on2 en2
      replace o1 := o1.fr fn2 (f12).away
      replace o3 := o3.fr fn2 (f23.symm).away
      replace o2 := on2
      clear en2 on2
      clear tp1 tp3
      replace f12 := nw1
      replace f23 := nw3.symm
      clear nw1 nw3
      obtain ⟨ra2, rc2, rfl⟩ := o2.is
      have oa2 := o2.at_
      simp -dsimp only [go_sem, r1.cell, r2.cell, r5.cell, r7.cell]
      refine Chk_intro (r5.wr (by first | (simp; done) | (simp; omega))) fun ks2 st2 => ?_
      have st2_z := st2.size
      replace p0 := p0.fresh st2.fr (by omega)
      replace r1 := r1.fr st2.fr (by omega)
      replace r2 := r2.fr st2.fr (by omega)
      replace D := D.fr st2.fr (fun k hk => by have := hAB k hk; first | omega | (have := hb5 k hk; omega))
      replace r7 := r7.fr st2.fr (by omega)
      replace r5 := st2.row r5
      try simp only [cl_int, cl_bool, cl_slice, cl_ptr, putAt_one, List.set_cons_zero, List.set_cons_succ, ivec_set, brow_upd] at r5
      replace o1 := o1.fr st2.fr (by have := o1.at_; omega)
      replace o2 := o2.fr st2.fr (by have := o2.at_; omega)
      replace o3 := o3.fr st2.fr (by have := o3.at_; omega)
      clear oa2
      simp -dsimp only [go_sem, r1.cell, r2.cell, r5.cell, r7.cell]
      intro nb3 hb3 nn3
      have nn3_a := nn3.at_
      have nn3_z := nn3.size
      replace p0 := p0.fresh (nn3.fr (lo := 0) (hi := 0)) (by omega)
      replace r1 := r1.fr (nn3.fr (lo := 0) (hi := 0)) (by omega)
      replace r2 := r2.fr (nn3.fr (lo := 0) (hi := 0)) (by omega)
      replace r5 := r5.fr (nn3.fr (lo := 0) (hi := 0)) (by omega)
      replace D := D.fr (nn3.fr (lo := 0) (hi := 0)) (fun k hk => by have := hAB k hk; first | omega | (have := hb5 k hk; omega))
      replace r7 := r7.fr (nn3.fr (lo := 0) (hi := 0)) (by omega)
      have rn3 := nn3.row
      replace o1 := o1.fr (nn3.fr (lo := 0) (hi := 0)) (by omega)
      replace o2 := o2.fr (nn3.fr (lo := 0) (hi := 0)) (by omega)
      replace o3 := o3.fr (nn3.fr (lo := 0) (hi := 0)) (by omega)
      have oa3 := o3.at_
      simp -dsimp only [go_sem, r1.cell, r2.cell, r5.cell, r7.cell, rn3.cell]
      refine o3.append (by omega) rfl (by omega) (by simp) (by omega) fun u3 k3 on3 fn3 en3 => ?_
      have fn3_z := fn3.size
      replace p0 := p0.fresh fn3 (by omega)
      replace r1 := r1.fr fn3 (by omega)
      replace r2 := r2.fr fn3 (by omega)
      replace r5 := r5.fr fn3 (by omega)
      replace D := D.fr fn3 (fun k hk => by have := hAB k hk; first | omega | (have := hb5 k hk; omega))
      replace r7 := r7.fr fn3 (by omega)
      clear oa3
      have tp1 := o1.top
      have tp2 := o2.top
      have nw1 := (f13).app tp1 hz5 on3 en3
      have nw2 := (f23).app tp2 hz5 on3 en3
      replace o1 := o1.fr fn3 (f13).away
      replace o2 := o2.fr fn3 (f23).away
      replace o3 := on3
      clear en3 on3
      clear tp1 tp2
      replace f13 := nw1
      replace f23 := nw2
      clear nw1 nw2
      obtain ⟨ra3, rc3, rfl⟩ := o3.is
      have oa3 := o3.at_
      simp -dsimp only [go_sem, r1.cell, r2.cell, r5.cell, r7.cell]
      refine Chk_intro (r5.wr (by first | (simp; done) | (simp; omega))) fun ks3 st3 => ?_
      have st3_z := st3.size
      replace p0 := p0.fresh st3.fr (by omega)
      replace r1 := r1.fr st3.fr (by omega)
      replace r2 := r2.fr st3.fr (by omega)
      replace D := D.fr st3.fr (fun k hk => by have := hAB k hk; first | omega | (have := hb5 k hk; omega))
      replace r7 := r7.fr st3.fr (by omega)
      replace r5 := st3.row r5
      try simp only [cl_int, cl_bool, cl_slice, cl_ptr, putAt_one, List.set_cons_zero, List.set_cons_succ, ivec_set, brow_upd] at r5
      replace o1 := o1.fr st3.fr (by have := o1.at_; omega)
      replace o2 := o2.fr st3.fr (by have := o2.at_; omega)
      replace o3 := o3.fr st3.fr (by have := o3.at_; omega)
      clear oa3
      simp -dsimp only [go_sem, r1.cell, r2.cell, r5.cell, r7.cell]
      refine derive_row t p0 hAB hb5 gb.1 (by omega) (by omega) hlt D r5 r7 fun h9 X9 D9 => ?_
      have notS : ∀ x, x < h3.size ∨ h4.size ≤ x ∨ x = b5 → ¬ InR A B 9 x := fun x hx ⟨k, hk, g1, g2⟩ => by have := hAB k hk; have := hb5 k hk; omega
      have X9_z := X9.size
      replace p0 := X9.fresh p0 fun x ⟨k, hk, g1, _⟩ => by have := hAB k hk; omega
      replace r1 := X9.rw r1 (notS _ (by omega))
      replace r2 := X9.rw r2 (notS _ (by omega))
      replace r5 := X9.rw r5 (notS _ (by omega))
      replace o1 := X9.holder o1 fun x hx => notS _ (by omega)
      replace o2 := X9.holder o2 fun x hx => notS _ (by omega)
      replace o3 := X9.holder o3 fun x hx => notS _ (by omega)
      simp -dsimp only [go_sem, r1.cell, r2.cell, r5.cell, r7.cell]
      simp -dsimp (disch := omega) only [wrap64]
      exact ⟨(i + 1, .slice ra1 (i + 1) rc1, .slice ra2 (i + 1) rc2, .slice ra3 (i + 1) rc3), by dsimp only; omega, by simp [Le, find, he, evs_len], by dsimp only; omega, p0, by omega, r1, r2, r5, D9, by rw [kindsV_succ hlt]; exact o1, by rw [kindsV_succ hlt]; exact o2, by rw [kindsV_succ hlt]; exact o3, f12, f13, f23⟩
    · obtain rfl : i = g.n := by omega
      have notS : ∀ x, x < h3.size ∨ h4.size ≤ x ∨ x = b5 → ¬ InR A B 9 x := fun x hx ⟨k, hk, g1, g2⟩ => by have := hAB k hk; have := hb5 k hk; omega
      replace D := D.congr fun k hk x y hx hy => relT_end hk hx hy
      simp -dsimp only [go_sem, Int.lt_irrefl, r1.cell, r2.cell, r5.cell]
      refine derive_co t p0 hAB hb5 gb.1 D r5 fun h9 X9 D9 => ?_
      have X9_z := X9.size
      replace p0 := X9.fresh p0 fun x ⟨k, hk, g1, _⟩ => by have := hAB k hk; omega
      replace r1 := X9.rw r1 (notS _ (by omega))
      replace r2 := X9.rw r2 (notS _ (by omega))
      replace r5 := X9.rw r5 (notS _ (by omega))
      replace o1 := X9.holder o1 fun x hx => notS _ (by omega)
      replace o2 := X9.holder o2 fun x hx => notS _ (by omega)
      replace o3 := X9.holder o3 fun x hx => notS _ (by omega)
      have g9 : h5.size ≤ h9.size := by omega
      clear D
      have p0_z := p0.size
      have r1_l := r1.lt
      have r2_l := r2.lt
      have r5_l := r5.lt
      simp -dsimp only [go_sem, r1.cell, r2.cell, r5.cell]
      refine call_of (rel_Inverse (D9.at_ 1 (by decide)) (ht.fr p0 (.inr rfl))) ?_
      rintro v10 h10 ⟨f10, w10⟩
      have f10_z := f10.size
      replace p0 := p0.fresh f10 (by omega)
      replace r1 := r1.fr f10 (by omega)
      replace r2 := r2.fr f10 (by omega)
      replace r5 := r5.fr f10 (by omega)
      replace D9 := D9.fr f10 (fun k hk => by have := hAB k hk; first | omega | (have := hb5 k hk; omega))
      replace o1 := o1.fr f10 (by omega)
      replace o2 := o2.fr f10 (by omega)
      replace o3 := o3.fr f10 (by omega)
      have tp1 := o1.top
      have tp2 := o2.top
      have tp3 := o3.top
      simp -dsimp only [go_sem, r1.cell, r2.cell, r5.cell]
      refine call_of (rel_Comp w10 (D9.at_ 2 (by decide)) (ht.fr p0 (.inr rfl))) ?_
      rintro v11 h11 ⟨f11, w11⟩
      have f11_z := f11.size
      replace p0 := p0.fresh f11 (by omega)
      replace r1 := r1.fr f11 (by omega)
      replace r2 := r2.fr f11 (by omega)
      replace r5 := r5.fr f11 (by omega)
      replace D9 := D9.fr f11 (fun k hk => by have := hAB k hk; first | omega | (have := hb5 k hk; omega))
      replace o1 := o1.fr f11 (by omega)
      replace o2 := o2.fr f11 (by omega)
      replace o3 := o3.fr f11 (by omega)
      rw [Nat.max_self] at w11
      obtain ⟨pb, rfl⟩ := progPtr w11
      have o1a := o1.at_
      have o2a := o2.at_
      have o3a := o3.at_
      obtain ⟨rda, rdc, rfl⟩ := o1.is
      obtain ⟨wra, wrc, rfl⟩ := o2.is
      obtain ⟨fea, fec, rfl⟩ := o3.is
      simp -dsimp only [go_sem, r1.cell, r2.cell, r5.cell]
      refine Chk_intro (r5.wr (by first | (simp; done) | (simp; omega))) fun h12 s12 => ?_
      have s12_z := s12.size
      replace p0 := p0.fresh s12.fr (by omega)
      replace r1 := r1.fr s12.fr (by omega)
      replace r2 := r2.fr s12.fr (by omega)
      replace D9 := D9.fr s12.fr (fun k hk => by have := hAB k hk; first | omega | (have := hb5 k hk; omega))
      replace r5 := s12.row r5
      try simp only [cl_int, cl_bool, cl_slice, cl_ptr, putAt_one, List.set_cons_zero, List.set_cons_succ, ivec_set, brow_upd] at r5
      replace o1 := o1.fr s12.fr (by omega)
      replace o2 := o2.fr s12.fr (by omega)
      replace o3 := o3.fr s12.fr (by omega)
      replace w11 := w11.fr s12.fr (by omega)
      have r5' : Rw h12 b5 [p 0, p 1, p 2, .pointer (some ⟨pb, 0, none⟩), p 3, p 4, p 5, p 6, p 7, p 8, .slice rda g.n rdc, .slice wra g.n wrc, .slice fea g.n fec] := r5
      clear r5
      simp -dsimp only [go_sem, r1.cell, r2.cell]
      refine withC_of [p 0, p 1, p 2, .pointer (some ⟨pb, 0, none⟩), p 3, p 4, p 5, p 6, p 7, p 8, .slice rda g.n rdc, .slice wra g.n wrc, .slice fea g.n fec] 0 (fun j x hj => by rw [r5'.cell, Nat.zero_add]; exact hj) ?_
      simp only [List.all_cons, List.all_nil, oc0, oc1, oc2, oc3, oc4, oc5, oc6, oc7, oc8]
      refine Chk_intro ⟨rfl, rfl⟩ ?_
      refine Chk_intro (r2.wr (by first | (simp; done) | (simp; omega))) fun h13 s13 => ?_
      have s13_z := s13.size
      replace p0 := p0.fresh s13.fr (by omega)
      replace r1 := r1.fr s13.fr (by omega)
      replace D9 := D9.fr s13.fr (fun k hk => by have := hAB k hk; first | omega | (have := hb5 k hk; omega))
      replace r2 := s13.row r2
      try simp only [cl_int, cl_bool, cl_slice, cl_ptr, putAt_one, List.set_cons_zero, List.set_cons_succ, ivec_set, brow_upd] at r2
      replace o1 := o1.fr s13.fr (by omega)
      replace o2 := o2.fr s13.fr (by omega)
      replace o3 := o3.fr s13.fr (by omega)
      replace w11 := w11.fr s13.fr (by omega)
      replace r2 : Rw h13 b2 [p 0, p 1, p 2, .pointer (some ⟨pb, 0, none⟩), p 3, p 4, p 5, p 6, p 7, p 8, .slice rda g.n rdc, .slice wra g.n wrc, .slice fea g.n fec] := r2
      simp -dsimp only [go_sem, r1.cell, r2.cell]
      refine withC_of [p 0, p 1, p 2, .pointer (some ⟨pb, 0, none⟩), p 3, p 4, p 5, p 6, p 7, p 8, .slice rda g.n rdc, .slice wra g.n wrc, .slice fea g.n fec] 0 (fun j x hj => by rw [r2.cell, Nat.zero_add]; exact hj) ?_
      refine ⟨p0, fun k => if k = 9 then .pointer (some ⟨pb, 0, none⟩) else p k, _, _, _, rfl, hn, ⟨fun k => if k = 9 then h10.size else A k, fun k => if k = 9 then h11.size else B k, ⟨fun k hk => ?_, fun k l hk hl hkl => ?_⟩, fun k hk => ?_, fun k hk v hv => ?_⟩, o1.lower (by omega), o2.lower (by omega), o3.lower (by omega), f12, f13, f23⟩
      · by_cases h9' : k = 9
        · subst h9'; exact w11
        · simp only [if_neg h9']
          have := D9.at_ k (by omega)
          rw [relC_end (by omega)] at this
          exact this
      · have key : ∀ k, k < 9 → B k ≤ h10.size := fun k hk => by have := hAB k hk; omega
        by_cases h9' : k = 9
        · simp only [if_pos h9', if_neg (show ¬ l = 9 by omega)]
          exact .inr (key l (by omega))
        · simp only [if_neg h9']
          by_cases h9'' : l = 9
          · simp only [if_pos h9'']; exact .inl (key k (by omega))
          · simp only [if_neg h9'']; exact D9.off k l (by omega) (by omega) hkl
      · by_cases h9' : k = 9
        · simp only [if_pos h9']; omega
        · simp only [if_neg h9']; have := hAB k (by omega); omega
      · have hb : bh v ≤ h10.size ∧ (bh v = 0 ∧ bl v = 0 ∨ h4.size ≤ bl v) := by
          simp only [List.mem_cons, List.not_mem_nil, or_false] at hv
          rcases hv with rfl | rfl | rfl <;> omega
        by_cases h9' : k = 9
        · simp only [if_pos h9']; omega
        · simp only [if_neg h9']; have := hAB k (by omega); omega
end Go.Proofs.Tst
/-
  graph's With, Thread and Final.
-/
namespace Go.Proofs.Tst
open Go Go.Vc
def withB (g : Gr) (m : List Int) : List Bool := g.evs.map fun e => m.contains e.mode
theorem check_zero {g : Gr} {words : Bool} (h : (g.check words).1 = 0) : g.size = true ∧ ¬ 0 ≤ g.initAt words ∧ ¬ 0 ≤ g.evAt words ∧ ¬ 0 ≤ g.rfAt ∧ ¬ 0 ≤ g.coAt ∧ ¬ 0 ≤ g.rmwAt ∧
    ¬ 0 ≤ g.depAt words g.addr (fun k => k == 1 || k == 2) ∧ ¬ 0 ≤ g.depAt words g.data (fun k => k == 2) ∧ ¬ 0 ≤ g.depAt words g.ctrl (fun k => k == 1 || k == 2 || k == 3) := by
  unfold Gr.check at h
  cases h1 : g.size
  · rw [h1] at h; simp at h
  rw [h1, if_neg (by simp)] at h
  by_cases h2 : 0 ≤ g.initAt words
  · rw [if_pos h2] at h; simp at h
  rw [if_neg h2] at h
  by_cases h3 : 0 ≤ g.evAt words
  · rw [if_pos h3] at h; simp at h
  rw [if_neg h3] at h
  by_cases h4 : 0 ≤ g.rfAt
  · rw [if_pos h4] at h; simp at h
  rw [if_neg h4] at h
  by_cases h5 : 0 ≤ g.coAt
  · rw [if_pos h5] at h; simp at h
  rw [if_neg h5] at h
  by_cases h6 : 0 ≤ g.rmwAt
  · rw [if_pos h6] at h; simp at h
  rw [if_neg h6] at h
  by_cases h7 : 0 ≤ g.depAt words g.addr (fun k => k == 1 || k == 2)
  · rw [if_pos h7] at h; simp at h
  rw [if_neg h7] at h
  by_cases h8 : 0 ≤ g.depAt words g.data (fun k => k == 2)
  · rw [if_pos h8] at h; simp at h
  rw [if_neg h8] at h
  by_cases h9 : 0 ≤ g.depAt words g.ctrl (fun k => k == 1 || k == 2 || k == 3)
  · rw [if_pos h9] at h; simp at h
  exact ⟨rfl, h2, h3, h4, h5, h6, h7, h8, h9⟩
theorem holder_row {s : Nat} {h : Heap} {b n : Nat} {xs : List Value} {lo : Nat} (r : Rw h b xs) (hl : xs.length = n * s) (hb : lo ≤ b) : Holder s h (.slice (some ⟨b, 0, none⟩) n n) n xs lo :=
  ⟨hl, .inr ⟨b, n, [], rfl, by rw [List.append_nil]; exact r, by simp, hb⟩⟩
theorem graph_With {h : Heap} {q : GV} {g : Gr} (t : GrAt h q g) (hn : g.n ≤ 281474976710656) {mv : Value} {m : List Int} (hm : Rd 1 h mv m.length (intsV m)) (bm : m.length ≤ 4611686018427387904) :
    Con Tryd.prog 22 #[.agg (gcells q g).toArray, mv] h fun v h' => Fr 0 0 h h' ∧ Holder 1 h' v g.n (boolsV (withB g m)) h.size := by
  refine con_graph_With ?_
  have p0 : Fr 0 0 h h := .refl _ _ _
  have be := t.fits.e
  have hen : g.evs.length = g.n := rfl
  obtain ⟨ma, mc, rfl⟩ := hm.is
  unfold gcells
  simp -dsimp only [go_sem]
  intro b1 h1 n1
  have n1_a := n1.at_
  have n1_z := n1.size
  replace p0 := p0.fresh (n1.fr (lo := 0) (hi := 0)) (by omega)
  have r1 := n1.row
  simp -dsimp only [go_sem, evs_len, r1.cell]
  refine Chk_intro (by omega) ?_
  intro b5 h2 n2
  have n2_a := n2.at_
  have n2_z := n2.size
  replace p0 := p0.fresh (n2.fr (lo := 0) (hi := 0)) (by omega)
  replace r1 := r1.fr (n2.fr (lo := 0) (hi := 0)) (by omega)
  have r2 := n2.row
  rw [zeros_one, Int.toNat_natCast, brow_false] at r2
  simp -dsimp only [go_sem, evs_len, r1.cell, r2.cell]
  refine loop_intro (fun i : Nat => [(1, .slice ma m.length mc), (5, .slice (some ⟨b5, 0, none⟩) g.n g.n), (13, .slice q.e g.evs.length q.ec), (14, .int .i64 g.n), (15, .int .i64 i)])
    (fun i h' => i ≤ g.n ∧ Fr 0 0 h h' ∧ Rw h' b5 (brow g.n fun j => decide (j < i) && m.contains (g.ev j).mode) ∧ h2.size ≤ h'.size) (fun i => g.n - i) 0 ?_ ?_ ?_
  · simp [Le, find, hen]
  · exact ⟨by omega, p0, by rw [brow_congr (g := fun _ => false) (fun j _ => by simp)]; exact r2, by omega⟩
  clear r2 p0
  rintro i h3 ⟨hi, p0, r2, y3⟩
  have p0_z := p0.size
  have r2_l := r2.lt
  have b5l : h.size ≤ b5 := by omega
  by_cases hlt : i < g.n
  · have e1 : ((i : Int) < (g.n : Int)) := by omega
    obtain ⟨eb, eo, he, hev⟩ := t.evs (by omega)
    obtain ⟨c0, c1, c2, c3, c4⟩ := hev h3 p0 i hlt
    simp -dsimp only [go_sem, e1, he, evs_len, c0, c1, c2, c3, c4, r2.cell]
    intro b7 h4 n4
    have n4_a := n4.at_
    have n4_z := n4.size
    replace p0 := p0.fresh (n4.fr (lo := 0) (hi := 0)) (by omega)
    replace r2 := r2.fr (n4.fr (lo := 0) (hi := 0)) (by omega)
    have r4 := n4.row
    simp -dsimp only [go_sem, r2.cell, r4.cell]
    refine Chk_intro (r4.wr (by first | (simp; done) | (simp; omega))) fun h5 s5 => ?_
    have s5_z := s5.size
    replace p0 := p0.fresh s5.fr (by omega)
    replace r2 := r2.fr s5.fr (by omega)
    replace r4 := s5.row r4
    try simp only [cl_int, cl_bool, cl_slice, cl_ptr, putAt_one, List.set_cons_zero, List.set_cons_succ, ivec_set, brow_upd] at r4
    simp -dsimp only [go_sem] at r4
    simp -dsimp only [go_sem, r2.cell, r4.cell]
    refine call_of (slices_Contains (hm.fr p0) (by omega)) ?_
    rintro v6 h6 ⟨rfl, rfl⟩
    simp -dsimp only [go_sem, r2.cell, r4.cell]
    refine Chk_intro (by omega) ?_
    simp -dsimp only [go_sem, r2.cell, r4.cell]
    refine Chk_intro (r2.wr (by first | (simp; done) | (simp; omega))) fun h7 s7 => ?_
    have s7_z := s7.size
    replace p0 := p0.fresh s7.fr (by omega)
    replace r4 := r4.fr s7.fr (by omega)
    replace r2 := s7.row r2
    try simp only [cl_int, cl_bool, cl_slice, cl_ptr, putAt_one, List.set_cons_zero, List.set_cons_succ, ivec_set, brow_upd] at r2
    simp -dsimp only [go_sem, r2.cell, r4.cell]
    simp -dsimp (disch := omega) only [wrap64]
    refine ⟨i + 1, by omega, by simp [Le, find, he, evs_len], by omega, p0, ?_, by omega⟩
    rw [brow_congr (g := _) (fun j hj => ?_)]
    · exact r2
    · unfold upd
      by_cases hji : j = i
      · subst hji; simp
      · simp [hji, show j < i + 1 ↔ j < i by omega]
  · obtain rfl : i = g.n := by omega
    simp -dsimp only [go_sem, Int.lt_irrefl, r2.cell]
    refine ⟨p0, ?_⟩
    have : boolsV (withB g m) = brow g.n fun j => decide (j < g.n) && m.contains (g.ev j).mode := by
      apply List.ext_getElem?
      intro j
      by_cases hj : j < g.n
      · rw [boolsV_get (b := m.contains (g.ev j).mode) (by unfold withB; rw [List.getElem?_map, Gr.ev_get hj]; rfl)]
        rw [brow_get hj]; simp [hj]
      · rw [List.getElem?_eq_none (by simp [withB]; unfold Gr.n at hj; omega), List.getElem?_eq_none (by simp; omega)]
    rw [this]
    exact holder_row r2 (by simp) b5l
end Go.Proofs.Tst
/-
  Final; the document's With, Thread, Final and Kinds.
-/
namespace Go.Proofs.Tst
open Go Go.Vc
def urow (n : Nat) (f : Nat → Int) : List Value := (List.range n).map fun i => .int .u64 (f i)
@[simp] theorem length_urow (n : Nat) (f : Nat → Int) : (urow n f).length = n := by simp [urow]
end Go.Proofs.Tst
/-
  lives: the document's example, its verdicts, its relations.
-/
namespace Go.Proofs.Tst
open Go Go.Vc
end Go.Proofs.Tst
/-
  GraphChecks, GraphSees.
-/
namespace Go.Proofs.Tst
open Go Go.Vc
end Go.Proofs.Tst
/-
  GraphSees.
-/
namespace Go.Proofs.Tst
open Go Go.Vc
theorem dec_self {α : Type} [DecidableEq α] (x : α) : decide (x = x) = true := by simp
end Go.Proofs.Tst
/-
  Plain laws of good graphs.
-/
namespace Go.Proofs.Tst
open Go Go.Vc
theorem firstBad_neg {f : Nat → Int × Int → Bool} : ∀ {l : List (Int × Int)} {i : Nat}, ¬ 0 ≤ Gr.firstBad f l i → ∀ p ∈ l, ∃ j, f j p = false
  | [], _, _, p, hp => by cases hp
  | q :: l, i, h, p, hp => by
    cases hf : f i q
    · rw [firstBad_ok hf] at h
      rcases List.mem_cons.1 hp with rfl | hp
      · exact ⟨i, hf⟩
      · exact firstBad_neg h p hp
    · rw [firstBad_bad hf] at h; omega
theorem rmw_before {g : Gr} (h : ¬ 0 ≤ g.rmwAt) {p : Int × Int} (hp : p ∈ g.rmw) : g.before p.1 p.2 = true := by
  obtain ⟨j, hj⟩ := firstBad_neg (f := g.rmwBad) h p hp
  unfold Gr.rmwBad at hj
  simp only [Bool.or_eq_false_iff, Bool.not_eq_false'] at hj
  have := hj.1.2
  unfold Gr.isNext at this
  simp only [Bool.and_eq_true] at this
  exact this.1
end Go.Proofs.Tst
/-
  The words' memory model: its relations, its check (plain).
-/
namespace Go.Proofs.Tst
open Go Go.Vc
def exB (n : Nat) (f : Nat → Bool) : Bool := (List.range n).any f
theorem exB_true {n : Nat} {f : Nat → Bool} : exB n f = true ↔ ∃ k, k < n ∧ f k = true := by
  unfold exB; simp [List.any_eq_true]
def isK (g : Gr) (k : Int) (i : Nat) : Bool := (g.ev i).kind == k
def isM (g : Gr) (m : Int) (i : Nat) : Bool := (g.ev i).mode == m
def rfeM (g : Gr) (i j : Nat) : Bool := relM g 1 i j && relM g 5 i j
def rfiM (g : Gr) (i j : Nat) : Bool := relM g 1 i j && !relM g 5 i j
def coeM (g : Gr) (i j : Nat) : Bool := relM g 2 i j && relM g 5 i j
def coiM (g : Gr) (i j : Nat) : Bool := relM g 2 i j && !relM g 5 i j
def freM (g : Gr) (i j : Nat) : Bool := relM g 9 i j && relM g 5 i j
def acqB (g : Gr) (i : Nat) : Bool := isM g 12 i || isM g 16 i
def lastB (g : Gr) (i : Nat) : Bool := g.rmw.any fun p => p.2 == (i : Int)
def obsM (g : Gr) (i j : Nat) : Bool := rfeM g i j || coeM g i j || freM g i j
def dobM (g : Gr) (i j : Nat) : Bool :=
  relM g 6 i j || relM g 7 i j || (relM g 8 i j && isK g 2 j) || (exB g.n (fun k => relM g 6 i k && relM g 0 k j) && isK g 2 j)
    || exB g.n (fun k => (relM g 8 i k || relM g 7 i k) && coiM g k j) || exB g.n (fun k => (relM g 6 i k || relM g 7 i k) && rfiM g k j)
def aobM (g : Gr) (i j : Nat) : Bool := relM g 3 i j || (lastB g i && rfiM g i j && acqB g j)
def bobM (g : Gr) (i j : Nat) : Bool :=
  exB g.n (fun k => relM g 0 i k && isM g 15 k && relM g 0 k j) || exB g.n (fun k => isK g 1 i && relM g 0 i k && isM g 14 k && relM g 0 k j)
    || (isM g 13 i && relM g 0 i j && isM g 12 j) || (acqB g i && relM g 0 i j) || (relM g 0 i j && isM g 13 j)
    || exB g.n (fun k => relM g 0 i k && isM g 13 k && coiM g k j)
def obM (g : Gr) (i j : Nat) : Bool := obsM g i j || dobM g i j || aobM g i j || bobM g i j
def inM (g : Gr) (i j : Nat) : Bool := (relM g 0 i j && relM g 4 i j) || relM g 1 i j || relM g 2 i j || relM g 9 i j
/-- Is a pair torn? -/
def tornB (g : Gr) (p : Int × Int) : Bool := inR g.n p.1 && inR g.n p.2 && exB g.n fun k => freM g p.1.toNat k && coeM g k p.2.toNat
def armAx (g : Gr) : Int × List Int :=
  if cycS g.n (inM g) ≠ [] then (1, (cycS g.n (inM g)).map fun (x : Nat) => (x : Int))
  else if cycS g.n (obM g) ≠ [] then (2, (cycS g.n (obM g)).map fun (x : Nat) => (x : Int))
  else match g.rmw.find? (tornB g) with | some p => (3, [p.1, p.2]) | none => (0, [])
end Go.Proofs.Tst
/-
  What ARMv8's relations keep of any graph (plain).
-/
namespace Go.Proofs.Tst
open Go Go.Vc
end Go.Proofs.Tst
/-
  A graph with weaker modes and fewer pairs (plain).
-/
namespace Go.Proofs.Tst
open Go Go.Vc
def weakM (m m' : Int) : Prop := m' = m ∨ (m = 12 ∧ m' = 16) ∨ ((m = 12 ∨ m = 13 ∨ m = 16) ∧ m' = 11) ∨ (m = 15 ∧ m' = 14)
structure Weak (g h : Gr) : Prop where
  cells : h.cells = g.cells
  len : h.n = g.n
  rf : h.rf = g.rf
  co : h.co = g.co
  rmw : h.rmw = g.rmw
  thr : ∀ i, (h.ev i).thread = (g.ev i).thread
  kind : ∀ i, (h.ev i).kind = (g.ev i).kind
  loc : ∀ i, (h.ev i).loc = (g.ev i).loc
  val : ∀ i, (h.ev i).val = (g.ev i).val
  mode : ∀ i, weakM (g.ev i).mode (h.ev i).mode
  addr : h.addr.Sublist g.addr
  data : h.data.Sublist g.data
  ctrl : h.ctrl.Sublist g.ctrl
theorem firstEv_all {f : Nat → Bool} : ∀ (d i : Nat), (∀ j, i ≤ j → j < i + d → f j = false) → ¬ 0 ≤ Gr.firstEv f d i
  | 0, i, _ => by unfold Gr.firstEv; omega
  | d + 1, i, h => by
    rw [firstEv_ok (h i (Nat.le_refl _) (by omega))]
    exact firstEv_all d (i + 1) fun j h1 h2 => h j (by omega) (by omega)
namespace Weak
variable {g h : Gr}
theorem size (w : Weak g h) : h.size = g.size := by unfold Gr.size; rw [w.cells, w.len]
theorem is (w : Weak g h) (i k : Int) : h.is i k = g.is i k := by unfold Gr.is; rw [w.len, w.kind]
theorem before (w : Weak g h) (a b : Int) : h.before a b = g.before a b := by unfold Gr.before; rw [w.len, w.thr, w.thr]
theorem isNext (w : Weak g h) (a b : Int) : h.isNext a b = g.isNext a b := by unfold Gr.isNext; simp only [w.before, w.thr]
theorem writesOf (w : Weak g h) (c : Int) : h.writesOf c = g.writesOf c := by rw [writesOf_range, writesOf_range]; simp only [w.len, w.kind, w.loc]
theorem rfBad (w : Weak g h) (r k : Nat) : h.rfBad r k = g.rfBad r k := by unfold Gr.rfBad; simp only [w.rf, w.is, w.loc, w.val]
theorem rfGo (w : Weak g h) : ∀ d r k, h.rfGo d r k = g.rfGo d r k
  | 0, r, k => by unfold Gr.rfGo; rw [w.rf]
  | d + 1, r, k => by unfold Gr.rfGo; simp only [w.kind, w.rfBad, w.rfGo d]
theorem rfAt (w : Weak g h) : h.rfAt = g.rfAt := by unfold Gr.rfAt; rw [w.rfGo, w.len]
theorem coBad (w : Weak g h) (c : Nat) (l : List Int) : h.coBad c l = g.coBad c l := by unfold Gr.coBad; simp only [w.writesOf, w.is, w.loc]
theorem coAt (w : Weak g h) : h.coAt = g.coAt := by unfold Gr.coAt Gr.coFirst Gr.lists; simp only [w.co, w.cells, w.coBad]
theorem rmwAt (w : Weak g h) : h.rmwAt = g.rmwAt := by
  unfold Gr.rmwAt
  rw [w.rmw]
  refine firstBad_congr fun j p _ => ?_
  unfold Gr.rmwBad
  simp only [w.rmw, w.is, w.isNext, w.loc]
theorem modeOk (w : Weak g h) (i : Nat) (hk : Gr.modeOk true (g.ev i).kind (g.ev i).mode = true) : Gr.modeOk true (h.ev i).kind (h.ev i).mode = true := by
  have := w.mode i
  rw [w.kind]
  unfold Gr.modeOk at hk ⊢
  simp only [if_true, Bool.or_eq_true, Bool.and_eq_true, beq_iff_eq] at hk ⊢
  unfold weakM at this
  omega
theorem evOk (w : Weak g h) (i : Nat) (hk : g.evOk true (g.ev i) = true) : h.evOk true (h.ev i) = true := by
  unfold Gr.evOk at hk ⊢
  simp only [Bool.and_eq_true] at hk ⊢
  obtain ⟨⟨⟨h1, h2⟩, h3⟩, h4⟩ := hk
  refine ⟨⟨⟨?_, ?_⟩, w.modeOk i h3⟩, ?_⟩
  · rw [w.thr]; exact h1
  · rw [w.thr]; exact h2
  · rw [w.kind, w.loc, w.val, w.cells]; exact h4
theorem first (w : Weak g h) (c : Nat) (hk : g.ev c = Gr.first true c) : h.ev c = Gr.first true c := by
  have h1 := w.thr c; have h2 := w.kind c; have h3 := w.loc c; have h4 := w.val c; have h5 := w.mode c
  rw [hk] at h1 h2 h3 h4 h5
  have h5' : (h.ev c).mode = 11 := by
    unfold weakM Gr.first at h5; simp only [if_true] at h5; omega
  have h6 : (h.ev c).mode = (Gr.first true c).mode := h5'
  generalize h.ev c = e at h1 h2 h3 h4 h6
  generalize Gr.first true c = e' at h1 h2 h3 h4 h6
  cases e; cases e'
  simp only at h1 h2 h3 h4 h6
  rw [h1, h2, h3, h4, h6]
end Weak
/-- Rising pairs. -/
def Rises (l : List (Int × Int)) : Prop := l.Pairwise fun p q => p.1 < q.1 ∨ p.1 = q.1 ∧ p.2 < q.2
theorem rises_of : ∀ {l : List (Int × Int)}, (∀ i p q, l[i]? = some p → l[i + 1]? = some q → p.1 < q.1 ∨ p.1 = q.1 ∧ p.2 < q.2) → Rises l
  | [], _ => List.Pairwise.nil
  | [p], _ => List.pairwise_singleton _ _
  | p :: q :: l, h => by
    have ih : Rises (q :: l) := rises_of fun i a b ha hb => h (i + 1) a b (by simpa using ha) (by simpa using hb)
    refine List.Pairwise.cons (fun x hx => ?_) ih
    have h0 := h 0 p q rfl rfl
    rcases List.mem_cons.1 hx with rfl | hx
    · exact h0
    · have := (List.pairwise_cons.1 ih).1 x hx
      omega
theorem rises_at {l : List (Int × Int)} (h : Rises l) {i : Nat} {p q : Int × Int} (hp : l[i]? = some p) (hq : l[i + 1]? = some q) : p.1 < q.1 ∨ p.1 = q.1 ∧ p.2 < q.2 := by
  obtain ⟨h1, e1⟩ := List.getElem?_eq_some_iff.1 hp
  obtain ⟨h2, e2⟩ := List.getElem?_eq_some_iff.1 hq
  have := List.pairwise_iff_getElem.1 h i (i + 1) h1 h2 (by omega)
  rw [e1, e2] at this; exact this
theorem firstBad_get {f : Nat → Int × Int → Bool} : ∀ {l : List (Int × Int)} {i : Nat}, ¬ 0 ≤ Gr.firstBad f l i → ∀ j p, l[j]? = some p → f (i + j) p = false
  | [], _, _, j, p, hp => by simp at hp
  | q :: l, i, h, j, p, hp => by
    cases hf : f i q
    · rw [firstBad_ok hf] at h
      cases j with
      | zero => simp at hp; subst hp; exact hf
      | succ j => have := firstBad_get h j p (by simpa using hp); rw [show i + (j + 1) = i + 1 + j by omega]; exact this
    · rw [firstBad_bad hf] at h; omega
theorem firstBad_none {f : Nat → Int × Int → Bool} : ∀ {l : List (Int × Int)} {i : Nat}, (∀ j p, l[j]? = some p → f (i + j) p = false) → ¬ 0 ≤ Gr.firstBad f l i
  | [], _, _ => by unfold Gr.firstBad; omega
  | q :: l, i, h => by
    rw [firstBad_ok (by have := h 0 q rfl; exact this)]
    exact firstBad_none fun j p hp => by have := h (j + 1) p (by simpa using hp); rw [show i + 1 + j = i + (j + 1) by omega]; exact this
/-- A list of dependencies is in order. -/
theorem dep_iff {g : Gr} {l : List (Int × Int)} {f : Int → Bool} : ¬ 0 ≤ g.depAt true l f ↔ Rises l ∧ ∀ p ∈ l, g.is p.1 1 = true ∧ g.before p.1 p.2 = true ∧ f (g.ev p.2.toNat).kind = true := by
  unfold Gr.depAt
  constructor
  · intro h
    have hb := firstBad_get h
    refine ⟨rises_of fun i p q hp hq => ?_, fun p hp => ?_⟩
    · have := hb (i + 1) q hq
      unfold Gr.depBad at this
      simp only [Bool.or_eq_false_iff, Bool.and_eq_false_imp, decide_eq_true_eq] at this
      have h1 := this.1.1.1.1 (by omega)
      rw [Nat.zero_add, Nat.add_sub_cancel, List.getD_eq_getElem?_getD, hp, Option.getD_some] at h1
      simp only [decide_eq_false_iff_not, beq_iff_eq] at h1
      obtain ⟨h1, h2⟩ := h1
      by_cases he : q.1 = p.1
      · have := h2 he; right; exact ⟨he.symm, by omega⟩
      · left; omega
    · obtain ⟨j, hj⟩ := List.mem_iff_getElem?.1 hp
      have := hb j p hj
      unfold Gr.depBad at this
      simp only [Bool.or_eq_false_iff, Bool.not_eq_false'] at this
      exact ⟨this.1.1.2, this.1.2, this.2⟩
  · rintro ⟨hr, hp⟩
    refine firstBad_none fun j p hj => ?_
    obtain ⟨h1, h2, h3⟩ := hp p (List.mem_of_getElem? hj)
    unfold Gr.depBad
    rw [h1, h2, h3]
    simp only [Bool.not_true, Bool.or_false]
    by_cases h0 : 0 < 0 + j
    · obtain ⟨i, rfl⟩ : ∃ i, j = i + 1 := ⟨j - 1, by omega⟩
      have hlt := (List.getElem?_eq_some_iff.1 hj).1
      have hi : l[i]? = some l[i] := List.getElem?_eq_getElem (by omega)
      have := rises_at hr hi hj
      rw [Nat.zero_add, Nat.add_sub_cancel, List.getD_eq_getElem?_getD, hi, Option.getD_some]
      have e1 : decide (p.1 < l[i].1) = false := by simp; omega
      rw [e1]
      by_cases he : p.1 = l[i].1
      · have e2 : decide (p.2 ≤ l[i].2) = false := by simp; omega
        rw [e2]; simp
      · have : (p.1 == l[i].1) = false := by simpa using he
        rw [this]; simp
    · have : decide (0 < 0 + j) = false := by simpa using h0
      rw [this]; rfl
namespace Weak
variable {g h : Gr}
theorem dep (w : Weak g h) {l l' : List (Int × Int)} {f : Int → Bool} (hs : l'.Sublist l) (hd : ¬ 0 ≤ g.depAt true l f) : ¬ 0 ≤ h.depAt true l' f := by
  obtain ⟨h1, h2⟩ := dep_iff.1 hd
  refine dep_iff.2 ⟨h1.sublist hs, fun p hp => ?_⟩
  obtain ⟨a, b, c⟩ := h2 p (hs.subset hp)
  rw [w.is, w.before, w.kind]; exact ⟨a, b, c⟩
theorem check (w : Weak g h) (hg : (g.check true).1 = 0) : (h.check true).1 = 0 := by
  obtain ⟨h1, h2, h3, h4, h5, h6, h7, h8, h9⟩ := check_zero hg
  have k2 : ¬ 0 ≤ h.initAt true := by
    unfold Gr.initAt at h2 ⊢
    refine firstEv_all _ _ fun j hj hj' => ?_
    rw [w.cells] at hj'
    have := firstEv_neg _ _ h2 j hj hj'
    simp only [Bool.not_eq_false', beq_iff_eq] at this ⊢
    exact w.first j this
  have k3 : ¬ 0 ≤ h.evAt true := by
    unfold Gr.evAt at h3 ⊢
    refine firstEv_all _ _ fun j hj hj' => ?_
    rw [w.cells] at hj hj'
    rw [w.len] at hj'
    have := firstEv_neg _ _ h3 j hj hj'
    simp only [Bool.not_eq_false'] at this ⊢
    exact w.evOk j this
  unfold Gr.check
  rw [w.size, h1, if_neg (by simp), if_neg k2, if_neg k3, if_neg (by rw [w.rfAt]; exact h4), if_neg (by rw [w.coAt]; exact h5), if_neg (by rw [w.rmwAt]; exact h6), if_neg (w.dep w.addr h7), if_neg (w.dep w.data h8), if_neg (w.dep w.ctrl h9)]
theorem po (w : Weak g h) (i j : Nat) : relM h 0 i j = relM g 0 i j := w.before i j
theorem relRf (w : Weak g h) (i j : Nat) : relM h 1 i j = relM g 1 i j := by show ofM h.n h.rf i j = ofM g.n g.rf i j; rw [w.len, w.rf]
theorem relCo (w : Weak g h) (i j : Nat) : relM h 2 i j = relM g 2 i j := by show ofM h.n (coPairs h) i j = ofM g.n (coPairs g) i j; unfold coPairs; rw [w.len, w.co]
theorem relRmw (w : Weak g h) (i j : Nat) : relM h 3 i j = relM g 3 i j := by show ofM h.n h.rmw i j = ofM g.n g.rmw i j; rw [w.len, w.rmw]
theorem relExt (w : Weak g h) (i j : Nat) : relM h 5 i j = relM g 5 i j := by show h.extM i j = g.extM i j; unfold Gr.extM; rw [w.thr, w.thr]
theorem relFr (w : Weak g h) (i j : Nat) : relM h 9 i j = relM g 9 i j := by
  show compM h.n (invM (ofM h.n h.rf)) h.n (ofM h.n (coPairs h)) i j = compM g.n (invM (ofM g.n g.rf)) g.n (ofM g.n (coPairs g)) i j
  unfold coPairs; rw [w.len, w.rf, w.co]
theorem ofSub {n : Nat} {l l' : List (Int × Int)} (hs : l'.Sublist l) {i j : Nat} (hm : ofM n l' i j = true) : ofM n l i j = true := by
  unfold ofM at hm ⊢
  rw [List.any_eq_true] at hm ⊢
  obtain ⟨p, hp, hm⟩ := hm
  exact ⟨p, hs.subset hp, hm⟩
theorem relDep (w : Weak g h) {k : Nat} (hk : k = 6 ∨ k = 7 ∨ k = 8) {i j : Nat} (hm : relM h k i j = true) : relM g k i j = true := by
  rcases hk with rfl | rfl | rfl
  · exact ofSub w.addr (by rw [← w.len]; exact hm)
  · exact ofSub w.data (by rw [← w.len]; exact hm)
  · exact ofSub w.ctrl (by rw [← w.len]; exact hm)
theorem rfi (w : Weak g h) (i j : Nat) : rfiM h i j = rfiM g i j := by unfold rfiM; rw [w.relRf, w.relExt]
theorem coi (w : Weak g h) (i j : Nat) : coiM h i j = coiM g i j := by unfold coiM; rw [w.relCo, w.relExt]
theorem coe (w : Weak g h) (i j : Nat) : coeM h i j = coeM g i j := by unfold coeM; rw [w.relCo, w.relExt]
theorem fre (w : Weak g h) (i j : Nat) : freM h i j = freM g i j := by unfold freM; rw [w.relFr, w.relExt]
theorem rfe (w : Weak g h) (i j : Nat) : rfeM h i j = rfeM g i j := by unfold rfeM; rw [w.relRf, w.relExt]
theorem obs (w : Weak g h) (i j : Nat) : obsM h i j = obsM g i j := by unfold obsM; rw [w.rfe, w.coe, w.fre]
theorem isK' (w : Weak g h) (k : Int) (i : Nat) : isK h k i = isK g k i := by unfold isK; rw [w.kind]
theorem isM' (w : Weak g h) {m : Int} (hm : m = 12 ∨ m = 13 ∨ m = 15) {i : Nat} (h1 : isM h m i = true) : isM g m i = true := by
  have := w.mode i
  unfold isM at h1 ⊢
  simp only [beq_iff_eq] at h1 ⊢
  unfold weakM at this
  omega
theorem acq (w : Weak g h) {i : Nat} (h1 : acqB h i = true) : acqB g i = true := by
  have := w.mode i
  unfold acqB isM at h1 ⊢
  simp only [Bool.or_eq_true, beq_iff_eq] at h1 ⊢
  unfold weakM at this
  omega
theorem ld (w : Weak g h) {i : Nat} (h1 : isM h 14 i = true) : isM g 14 i = true ∨ isM g 15 i = true := by
  have := w.mode i
  unfold isM at h1 ⊢
  simp only [beq_iff_eq] at h1 ⊢
  unfold weakM at this
  omega
theorem dob (w : Weak g h) {i j : Nat} (hd : dobM h i j = true) : dobM g i j = true := by
  unfold dobM at hd ⊢
  simp only [Bool.or_eq_true, Bool.and_eq_true, exB_true, w.po, w.rfi, w.coi, w.isK', w.len] at hd ⊢
  have d6 : ∀ {i j}, relM h 6 i j = true → relM g 6 i j = true := fun x => w.relDep (by decide) x
  have d7 : ∀ {i j}, relM h 7 i j = true → relM g 7 i j = true := fun x => w.relDep (by decide) x
  have d8 : ∀ {i j}, relM h 8 i j = true → relM g 8 i j = true := fun x => w.relDep (by decide) x
  rcases hd with ((((hd | hd) | ⟨hd, he⟩) | ⟨⟨k, hk, h1, h2⟩, h3⟩) | ⟨k, hk, h1, h2⟩) | ⟨k, hk, h1, h2⟩
  · exact .inl (.inl (.inl (.inl (.inl (d6 hd)))))
  · exact .inl (.inl (.inl (.inl (.inr (d7 hd)))))
  · exact .inl (.inl (.inl (.inr ⟨d8 hd, he⟩)))
  · exact .inl (.inl (.inr ⟨⟨k, hk, d6 h1, h2⟩, h3⟩))
  · exact .inl (.inr ⟨k, hk, h1.imp d8 d7, h2⟩)
  · exact .inr ⟨k, hk, h1.imp d6 d7, h2⟩
theorem aob (w : Weak g h) {i j : Nat} (hd : aobM h i j = true) : aobM g i j = true := by
  have hl : lastB h i = lastB g i := by unfold lastB; rw [w.rmw]
  unfold aobM at hd ⊢
  simp only [Bool.or_eq_true, Bool.and_eq_true, w.relRmw, w.rfi, hl] at hd ⊢
  exact hd.imp id fun ⟨h1, h2⟩ => ⟨h1, w.acq h2⟩
theorem bob (w : Weak g h) {i j : Nat} (hd : bobM h i j = true) : bobM g i j = true := by
  unfold bobM at hd ⊢
  simp only [Bool.or_eq_true, Bool.and_eq_true, exB_true, w.po, w.coi, w.isK', w.len] at hd ⊢
  have m12 : ∀ {i}, isM h 12 i = true → isM g 12 i = true := fun x => w.isM' (by decide) x
  have m13 : ∀ {i}, isM h 13 i = true → isM g 13 i = true := fun x => w.isM' (by decide) x
  have m15 : ∀ {i}, isM h 15 i = true → isM g 15 i = true := fun x => w.isM' (by decide) x
  rcases hd with ((((⟨k, hk, ⟨h1, h3⟩, h2⟩ | ⟨k, hk, ⟨⟨h4, h1⟩, h3⟩, h2⟩) | ⟨⟨h3, h1⟩, h4⟩) | ⟨h3, h1⟩) | ⟨h1, h3⟩) | ⟨k, hk, ⟨h1, h3⟩, h2⟩
  · exact .inl (.inl (.inl (.inl (.inl ⟨k, hk, ⟨h1, m15 h3⟩, h2⟩))))
  · rcases w.ld h3 with h3 | h3
    · exact .inl (.inl (.inl (.inl (.inr ⟨k, hk, ⟨⟨h4, h1⟩, h3⟩, h2⟩))))
    · exact .inl (.inl (.inl (.inl (.inl ⟨k, hk, ⟨h1, h3⟩, h2⟩))))
  · exact .inl (.inl (.inl (.inr ⟨⟨m13 h3, h1⟩, m12 h4⟩)))
  · exact .inl (.inl (.inr ⟨w.acq h3, h1⟩))
  · exact .inl (.inr ⟨h1, m13 h3⟩)
  · exact .inr ⟨k, hk, ⟨h1, m13 h3⟩, h2⟩
theorem ob (w : Weak g h) {i j : Nat} (hd : obM h i j = true) : obM g i j = true := by
  unfold obM at hd ⊢
  simp only [Bool.or_eq_true, w.obs] at hd ⊢
  exact hd.imp (fun x => x.imp (fun x => x.imp id w.dob) w.aob) w.bob
end Weak
end Go.Proofs.Tst
/-
  Is a relation of the program's the document's?
-/
namespace Go.Proofs.Tst
open Go Go.Vc
end Go.Proofs.Tst
/-
  Changed graphs in memory.
-/
namespace Go.Proofs.Tst
open Go Go.Vc
theorem rlc_rl {h : Heap} {v : Value} {L : List (List Value)} (t : RLc h v L) : RL h v L := by
  obtain ⟨us, h1, h2⟩ := t
  exact ⟨us, h1, fun i l hl => by obtain ⟨a, c, h3, -, h5⟩ := h2 i l hl; exact ⟨_, h3, h5⟩⟩
theorem GrAt.setR {h : Heap} {q : GV} {g : Gr} (t : GrAt h q g) {l : List (Int × Int)} {a : Option Addr} {c : Nat} (w : Rd 2 h (.slice a l.length c) l.length (pairsV l)) (b : l.length ≤ 8796093022208) : GrAt h { q with r := a, rc := c } { g with rmw := l } :=
  ⟨t.e, t.f, t.o, w, t.a, t.d, t.c, ⟨t.fits.e, t.fits.f, t.fits.o, b, t.fits.a, t.fits.d, t.fits.c, t.fits.l⟩, t.cap, t.l⟩
theorem GrAt.setA {h : Heap} {q : GV} {g : Gr} (t : GrAt h q g) {l : List (Int × Int)} {a : Option Addr} {c : Nat} (w : Rd 2 h (.slice a l.length c) l.length (pairsV l)) (b : l.length ≤ 8796093022208) : GrAt h { q with a := a, ac := c } { g with addr := l } :=
  ⟨t.e, t.f, t.o, t.r, w, t.d, t.c, ⟨t.fits.e, t.fits.f, t.fits.o, t.fits.r, b, t.fits.d, t.fits.c, t.fits.l⟩, t.cap, t.l⟩
theorem GrAt.setD {h : Heap} {q : GV} {g : Gr} (t : GrAt h q g) {l : List (Int × Int)} {a : Option Addr} {c : Nat} (w : Rd 2 h (.slice a l.length c) l.length (pairsV l)) (b : l.length ≤ 8796093022208) : GrAt h { q with d := a, dc := c } { g with data := l } :=
  ⟨t.e, t.f, t.o, t.r, t.a, w, t.c, ⟨t.fits.e, t.fits.f, t.fits.o, t.fits.r, t.fits.a, b, t.fits.c, t.fits.l⟩, t.cap, t.l⟩
theorem GrAt.setC {h : Heap} {q : GV} {g : Gr} (t : GrAt h q g) {l : List (Int × Int)} {a : Option Addr} {c : Nat} (w : Rd 2 h (.slice a l.length c) l.length (pairsV l)) (b : l.length ≤ 8796093022208) : GrAt h { q with c := a, cc := c } { g with ctrl := l } :=
  ⟨t.e, t.f, t.o, t.r, t.a, t.d, w, ⟨t.fits.e, t.fits.f, t.fits.o, t.fits.r, t.fits.a, t.fits.d, b, t.fits.l⟩, t.cap, t.l⟩
theorem GrAt.setE {h : Heap} {q : GV} {g : Gr} (t : GrAt h q g) {l : List Ev} {a : Option Addr} {c : Nat} (w : Rd 5 h (.slice a l.length c) l.length (evsV l)) (b : l.length ≤ 3518437208883) : GrAt h { q with e := a, ec := c } { g with evs := l } :=
  ⟨w, t.f, t.o, t.r, t.a, t.d, t.c, ⟨b, t.fits.f, t.fits.o, t.fits.r, t.fits.a, t.fits.d, t.fits.c, t.fits.l⟩, t.cap, t.l⟩
end Go.Proofs.Tst
/-
  The document's relations of a graph.
-/
namespace Go.Proofs.Tst
open Go Go.Vc
end Go.Proofs.Tst
/-
  GraphLaws.
-/
namespace Go.Proofs.Tst
open Go Go.Vc
theorem kindsV_get {g : Gr} {k : Int} {i : Nat} (hi : i < g.n) : (kindsV g k g.n)[i]? = some ((g.ev i).kind == k) := by
  unfold kindsV
  rw [List.getElem?_map, List.getElem?_take_of_lt hi, Gr.ev_get hi]; rfl
end Go.Proofs.Tst
/-
  whole: are facts the document's?
-/
namespace Go.Proofs.Tst
open Go Go.Vc
end Go.Proofs.Tst
/-
  GraphDerives.
-/
namespace Go.Proofs.Tst
open Go Go.Vc
theorem FactsAt.fr {h h' : Heap} {lo l r : Nat} {p : Nat → Value} {rd wr fe : Value} {g : Gr} (F : FactsAt h lo p rd wr fe g) (f : Fr l r h h') (hd : r ≤ lo) : FactsAt h' lo p rd wr fe g := by
  obtain ⟨A, B, D, dlo, dap⟩ := F.rel
  have a1 := F.hrd.at_
  have a2 := F.hwr.at_
  have a3 := F.hfe.at_
  have fz := f.size
  exact ⟨F.n, ⟨A, B, D.fr f (fun k hk => by have := dlo k hk; omega), fun k hk => by have := dlo k hk; omega, dap⟩, F.hrd.fr f (by omega), F.hwr.fr f (by omega), F.hfe.fr f (by omega), F.off⟩
end Go.Proofs.Tst
/-
  Events changed in place.
-/
namespace Go.Proofs.Tst
open Go Go.Vc
def setMode (E : List Ev) (i : Nat) (m : Int) : List Ev := E.set i { E.getD i default with mode := m }
@[simp] theorem length_setMode {E : List Ev} {i : Nat} {m : Int} : (setMode E i m).length = E.length := by simp [setMode]
theorem evsV_setMode : ∀ {E : List Ev} {i : Nat} {m : Int}, i < E.length → (evsV E).set (i * 5 + 4) (.int .i64 m) = evsV (setMode E i m)
  | [], i, _, h => by simp at h
  | e :: E, 0, m, _ => rfl
  | e :: E, i + 1, m, h => by
    have ih := evsV_setMode (E := E) (i := i) (m := m) (by simpa using h)
    have h1 : setMode (e :: E) (i + 1) m = e :: setMode E i m := by simp [setMode]
    have h2 : e.cells.length = 5 := rfl
    rw [h1, evsV_cons, evsV_cons, ← ih, List.set_append_right _ _ (by omega), h2]
    congr 2; omega
theorem putAt_right {a : List Value} : ∀ (ws r : List Value) (o : Nat), putAt (a ++ r) (a.length + o) ws = a ++ putAt r o ws
  | [], _, _ => rfl
  | v :: ws, r, o => by
    show putAt ((a ++ r).set (a.length + o) v) (a.length + o + 1) ws = a ++ putAt (r.set o v) (o + 1) ws
    rw [List.set_append_right _ _ (by omega), Nat.add_sub_cancel_left, Nat.add_assoc]
    exact putAt_right ws _ _
theorem putAt_left {r : List Value} : ∀ (ws a : List Value) (o : Nat), o + ws.length ≤ a.length → putAt (a ++ r) o ws = putAt a o ws ++ r
  | [], _, _, _ => rfl
  | v :: ws, a, o, h => by
    show putAt ((a ++ r).set o v) (o + 1) ws = putAt (a.set o v) (o + 1) ws ++ r
    simp at h
    rw [List.set_append_left _ _ (by omega)]
    exact putAt_left ws _ _ (by simp; omega)
theorem evsV_put : ∀ {E : List Ev} {i : Nat} {e : Ev}, i < E.length → putAt (evsV E) (i * 5) e.cells = evsV (E.set i e)
  | [], i, _, h => by simp at h
  | x :: E, 0, e, _ => rfl
  | x :: E, i + 1, e, h => by
    have ih := evsV_put (E := E) (i := i) (e := e) (by simpa using h)
    have h2 : (i + 1) * 5 = x.cells.length + i * 5 := by show _ = 5 + _; omega
    rw [List.set_cons_succ, evsV_cons, evsV_cons, ← ih, h2]
    exact putAt_right _ _ _
theorem holder_ev {h : Heap} {b n c lo : Nat} {E : List Ev} (w : Holder 5 h (.slice (some ⟨b, 0, none⟩) n c) n (evsV E) lo) {i : Nat} (hi : i < n) :
    Wr h b (i * 5 + 4) 1 ∧ Wr h b (i * 5) 5 ∧ (∀ h' m, Sto h h' b (i * 5 + 4) [.int .i64 m] → Holder 5 h' (.slice (some ⟨b, 0, none⟩) n c) n (evsV (setMode E i m)) lo) ∧ ∀ h' e, Sto h h' b (i * 5) e.cells → Holder 5 h' (.slice (some ⟨b, 0, none⟩) n c) n (evsV (E.set i e)) lo := by
  have hl := w.1
  rw [length_evsV] at hl
  have hE : i < E.length := by omega
  obtain ⟨b', c', rest, h1, h2, h3, h4⟩ := w.blk (by omega)
  cases h1
  refine ⟨h2.wr (by simp; omega), h2.wr (by simp; omega), fun h' m s => ⟨by simp; omega, .inr ⟨b, c, rest, rfl, ?_, h3, h4⟩⟩, fun h' e s => ⟨by simp; omega, .inr ⟨b, c, rest, rfl, ?_, h3, h4⟩⟩⟩
  · have := s.row h2
    rw [putAt_one, List.set_append_left _ _ (by simp; omega), evsV_setMode hE] at this
    exact this
  · have := s.row h2
    rw [putAt_left _ _ _ (by simp [Ev.cells]; omega), evsV_put hE] at this
    exact this
section
variable {h h' : Heap} {q : GV} {g : Gr} {lo : Nat}
/-- The events of a graph that one holds alone are other ones. -/
theorem GrOwn.evs' {E' : List Ev} {b : Nat} (w : GrOwn h q g lo) (f : Fr b (b + 1) h h') (hb : q.e = some ⟨b, 0, none⟩) (hl : E'.length = g.evs.length) (he : Holder 5 h' (.slice (some ⟨b, 0, none⟩) g.evs.length q.ec) g.evs.length (evsV E') lo) :
    GrOwn h' q { g with evs := E' } lo := by
  obtain ⟨us, o1, o2, o3⟩ := w.o
  have lb : bl (.slice q.e g.evs.length q.ec) = b ∧ bh (.slice q.e g.evs.length q.ec) = b + 1 := by rw [hb]; exact ⟨rfl, rfl⟩
  have key : ∀ x, Off (.slice q.e g.evs.length q.ec) x → bh x ≤ b ∨ b + 1 ≤ bl x ∨ b + 1 ≤ b := fun x hx => by
    unfold Off at hx
    have := bh_bl x
    omega
  have ha : Away b (b + 1) (.slice q.o g.co.length q.oc) us := fun x hx => key x (o3 x hx _ (by simp)).symm
  have hw := w.off
  refine ⟨?_, w.f.fr f (key _ (hw _ (by simp))), ⟨us, o1.fr f ha, o2, ?_⟩, w.r.fr f (key _ (hw _ (by simp))), w.a.fr f (key _ (hw _ (by simp))), w.d.fr f (key _ (hw _ (by simp))), w.c.fr f (key _ (hw _ (by simp))), ?_, ⟨?_, w.fits.f, w.fits.o, w.fits.r, w.fits.a, w.fits.d, w.fits.c, w.fits.l⟩⟩
  · dsimp only; rw [hl, hb]; exact he
  · dsimp only; rw [hl]; exact o3
  · dsimp only; rw [hl]; exact hw
  · dsimp only; rw [hl]; exact w.fits.e
theorem GrOwn.fr {l r : Nat} (w : GrOwn h q g lo) (f : Fr l r h h') (hd : r ≤ lo ∨ h.size ≤ l ∨ r ≤ l) : GrOwn h' q g lo := by
  obtain ⟨us, o1, o2, o3⟩ := w.o
  have k : ∀ {s n : Nat} {v : Value} {xs : List Value}, Holder s h v n xs lo → Holder s h' v n xs lo := fun o => o.fr f (by have := o.at_; have := o.top; omega)
  refine ⟨k w.e, k w.f, ⟨us, o1.fr f ?_, o2, o3⟩, k w.r, k w.a, k w.d, k w.c, w.off, w.fits⟩
  rcases hd with hd | hd | hd
  · exact o1.below hd
  · exact o1.above hd
  · exact Away.none hd
theorem GrOwn.lower {lo' : Nat} (w : GrOwn h q g lo) (hl : lo' ≤ lo) : GrOwn h q g lo' := by
  obtain ⟨us, o1, o2⟩ := w.o
  exact ⟨w.e.lower hl, w.f.lower hl, ⟨us, o1.lower hl, o2⟩, w.r.lower hl, w.a.lower hl, w.d.lower hl, w.c.lower hl, w.off, w.fits⟩
/-- Where its events lie, and what may be done to them. -/
theorem GrOwn.ev (w : GrOwn h q g lo) (hn : 0 < g.n) : ∃ b, q.e = some ⟨b, 0, none⟩ ∧ lo ≤ b ∧ b < h.size ∧ (∀ i, i < g.n → Wr h b (i * 5 + 4) 1 ∧ Wr h b (i * 5) 5) ∧
    (∀ h' i m, i < g.n → Sto h h' b (i * 5 + 4) [.int .i64 m] → GrOwn h' q { g with evs := setMode g.evs i m } lo) ∧ ∀ h' i e, i < g.n → Sto h h' b (i * 5) e.cells → GrOwn h' q { g with evs := g.evs.set i e } lo := by
  have we := w.e
  obtain ⟨b, c, rest, h1, h2, h3, h4⟩ := we.blk hn
  have hq : q.e = some ⟨b, 0, none⟩ := by injection h1
  rw [hq] at we
  exact ⟨b, hq, h4, h2.lt, fun i hi => ⟨(holder_ev we hi).1, (holder_ev we hi).2.1⟩, fun h' i m hi s => w.evs' s.fr hq (by simp) ((holder_ev we hi).2.2.1 _ _ s), fun h' i e hi s => w.evs' s.fr hq (by simp) ((holder_ev we hi).2.2.2 _ _ s)⟩
end
end Go.Proofs.Tst
/-
  Relations in memory, some at once; chains of steps.
-/
namespace Go.Proofs.Tst
open Go Go.Vc
abbrev Mx := Nat → Nat → Bool
def PA (h : Heap) (v : Value) (n : Nat) (M : Mx) : Prop := ∃ lo hi, ProgAt h lo hi v n M
/-- A new one, from lo on. -/
def PN (h : Heap) (lo : Nat) (v : Value) (n : Nat) (M : Mx) : Prop := ∃ a b, ProgAt h a b v n M ∧ lo ≤ a ∧ a ≤ b ∧ b ≤ h.size
section
variable {h h' : Heap} {v : Value} {n lo : Nat} {M N : Mx}
theorem PA.fr (t : PA h v n M) (f : Fr 0 0 h h') : PA h' v n M := by obtain ⟨a, b, t⟩ := t; exact ⟨a, b, t.fr f (by omega)⟩
theorem PA.ptr (t : PA h v n M) : ∃ b, v = .pointer (some ⟨b, 0, none⟩) := by obtain ⟨a, b, t⟩ := t; exact progPtr t
theorem PA.oc (t : PA h v n M) : v.oneCell' = true := by obtain ⟨b, rfl⟩ := t.ptr; rfl
theorem PA.cl (t : PA h v n M) : Vc.cl v = [v] := by obtain ⟨b, rfl⟩ := t.ptr; rfl
theorem PA.congr (t : PA h v n M) (e : ∀ i j, i < n → j < n → M i j = N i j) : PA h v n N := by obtain ⟨a, b, t⟩ := t; exact ⟨a, b, t.congr e⟩
theorem PN.pa (t : PN h lo v n M) : PA h v n M := by obtain ⟨a, b, t, -⟩ := t; exact ⟨a, b, t⟩
theorem PN.of (t : ProgAt h lo h.size v n M) : PN h lo v n M := ⟨_, _, t, Nat.le_refl _, by obtain ⟨_, _, _, _, _, _, w⟩ := t; have := w.at_; omega, Nat.le_refl _⟩
theorem PN.congr (t : PN h lo v n M) (e : ∀ i j, i < n → j < n → M i j = N i j) : PN h lo v n N := by obtain ⟨a, b, t, k⟩ := t; exact ⟨a, b, t.congr e, k⟩
theorem PN.lower {lo' : Nat} (t : PN h lo v n M) (hl : lo' ≤ lo) : PN h lo' v n M := by obtain ⟨a, b, t, k⟩ := t; exact ⟨a, b, t, by omega, k.2⟩
theorem PN.fr {l r : Nat} (t : PN h lo v n M) (f : Fr l r h h') (hd : r ≤ lo ∨ h.size ≤ l ∨ r ≤ l) : PN h' lo v n M := by
  obtain ⟨a, b, t, k⟩ := t
  have := f.size
  exact ⟨a, b, t.fr f (by omega), by omega⟩
end
/-- Some at once, whose pairs together are these. -/
def UA (h : Heap) (lv : Value) (n : Nat) (M : Mx) : Prop := ∃ L : List (Value × Nat × Mx), Rd 1 h lv L.length (L.map (·.1)) ∧ RelsAt h L ∧ L.length ≤ 65536 ∧ maxN L = n ∧ ∀ i j, i < n → j < n → anyM L i j = M i j
theorem UA.fr {h h' : Heap} {v : Value} {n : Nat} {M : Mx} (t : UA h v n M) (f : Fr 0 0 h h') : UA h' v n M := by
  obtain ⟨L, h1, h2, h3⟩ := t; exact ⟨L, h1.fr f, h2.fr f, h3⟩
theorem maxN_same {n : Nat} : ∀ {l : List (Value × Mx)}, l ≠ [] → maxN (l.map fun x => (x.1, n, x.2)) = n := by
  have key : ∀ (l : List (Value × Mx)) (m : Nat), m ≤ n → (l.map fun x => (x.1, n, x.2)).foldl (fun m (x : Value × Nat × Mx) => max m x.2.1) m = if l = [] then m else n := by
    intro l
    induction l with
    | nil => intro m _; rfl
    | cons x l ih =>
      intro m hm
      simp only [List.map_cons, List.foldl_cons]
      rw [ih _ (by omega), if_neg (by simp : ¬ x :: l = [])]
      split
      · omega
      · rfl
  intro l hl
  unfold maxN
  rw [key l 0 (Nat.zero_le _), if_neg hl]
theorem UA.mk {h : Heap} {b n : Nat} {M : Mx} (l : List (Value × Mx)) (r : Rw h b (l.map (·.1))) (hp : ∀ x ∈ l, PA h x.1 n x.2) (hne : l ≠ []) (hl : l.length ≤ 65536) (hM : ∀ i j, i < n → j < n → (l.any fun x => x.2 i j) = M i j) :
    UA h (.slice (some ⟨b, 0, none⟩) l.length l.length) n M := by
  refine ⟨l.map fun x => (x.1, n, x.2), ?_, fun x hx => ?_, by rw [List.length_map]; exact hl, maxN_same hne, fun i j hi hj => ?_⟩
  · rw [List.length_map, List.map_map]
    exact Rw.rd (s := 1) r (by simp)
  · obtain ⟨y, hy, rfl⟩ := List.mem_map.1 hx
    exact hp y hy
  · rw [← hM i j hi hj]
    unfold anyM
    rw [List.any_map]
    congr 1
    funext x
    exact inN_in hi hj
theorem rel_UnionU {lv : Value} {n : Nat} {M : Mx} {h : Heap} (u : UA h lv n M) :
    Con Tryd.prog 50 #[lv] h fun v h' => Fr 0 0 h h' ∧ ProgAt h' h.size h'.size v n M := by
  obtain ⟨L, h1, h2, h3, h4, h5⟩ := u
  exact (rel_Union h1 h2 h3).mono fun v h' ⟨f, t⟩ => ⟨f, by rw [h4] at t; exact t.congr h5⟩
/-- One step of each, one behind the other. -/
def chM (n : Nat) (A : Mx) (l : List Mx) : Mx := l.foldl (fun X Y => compM n X n Y) A
/-- Some, one behind the other. -/
def CA (h : Heap) (lv : Value) (n : Nat) (l : List Mx) : Prop := ∃ ws : List Value, ws.length = l.length ∧ Rd 1 h lv ws.length ws ∧ ws.length ≤ 65536 ∧ ∀ (i : Nat) (w : Value) (M : Mx), ws[i]? = some w → l[i]? = some M → PA h w n M
theorem CA.fr {h h' : Heap} {v : Value} {n : Nat} {l : List Mx} (t : CA h v n l) (f : Fr 0 0 h h') : CA h' v n l := by
  obtain ⟨L, h1, h2, h3, h4⟩ := t; exact ⟨L, h1, h2.fr f, h3, fun i w M a b => (h4 i w M a b).fr f⟩
theorem CA.mk {h : Heap} {b n : Nat} (l : List (Value × Mx)) (r : Rw h b (l.map (·.1))) (hp : ∀ x ∈ l, PA h x.1 n x.2) (hl : l.length ≤ 65536) : CA h (.slice (some ⟨b, 0, none⟩) l.length l.length) n (l.map (·.2)) := by
  refine ⟨l.map (·.1), by simp, ?_, by simpa using hl, fun i w M h1 h2 => ?_⟩
  · rw [List.length_map]; exact Rw.rd (s := 1) r (by simp)
  · rw [List.getElem?_map, Option.map_eq_some_iff] at h1 h2
    obtain ⟨x, hx, rfl⟩ := h1
    obtain ⟨y, hy, rfl⟩ := h2
    rw [hx] at hy; cases hy
    exact hp x (List.mem_of_getElem? hx)
/-- The pairs of one of some. -/
def orM (l : List Mx) : Mx := fun i j => l.any fun X => X i j
theorem UA.mk' {h : Heap} {b n : Nat} (l : List (Value × Mx)) (r : Rw h b (l.map (·.1))) (hp : ∀ x ∈ l, PA h x.1 n x.2) (hne : l ≠ []) (hl : l.length ≤ 65536) : UA h (.slice (some ⟨b, 0, none⟩) l.length l.length) n (orM (l.map (·.2))) :=
  UA.mk l r hp hne hl fun i j _ _ => by unfold orM; rw [List.any_map]; rfl
theorem pa_nil {h : Heap} {n : Nat} : ∀ x ∈ ([] : List (Value × Mx)), PA h x.1 n x.2 := fun x hx => by cases hx
theorem pa_cons {h : Heap} {n : Nat} {v : Value} {M : Mx} {l : List (Value × Mx)} (a : PA h v n M) (t : ∀ x ∈ l, PA h x.1 n x.2) : ∀ x ∈ (v, M) :: l, PA h x.1 n x.2 := fun x hx => by
  rcases List.mem_cons.1 hx with rfl | hx
  · exact a
  · exact t x hx
def tC (n : Nat) (l : List Mx) : Tell := tell1 fun v _ _ h => CA h v n l
def tU (n : Nat) (M : Mx) : Tell := tell1 fun v _ _ h => UA h v n M
def tN (L n : Nat) (M : Mx) : Tell := tell1 fun v _ _ h => PN h L v n M
theorem stC (n : Nat) (l : List Mx) : Stab (tC n l) := Stab.one fun _ _ _ _ _ f t => t.fr f
theorem stU (n : Nat) (M : Mx) : Stab (tU n M) := Stab.one fun _ _ _ _ _ f t => t.fr f
theorem stN (L n : Nat) (M : Mx) : Stab (tN L n M) := Stab.one fun _ _ _ _ _ f t => t.fr f (.inr (.inr (Nat.le_refl _)))
theorem tC_eq (n : Nat) (l : List Mx) (u : Out) (h : Heap) : tC n l [u] h = CA h u.1 n l := (rfl)
theorem tU_eq (n : Nat) (M : Mx) (u : Out) (h : Heap) : tU n M [u] h = UA h u.1 n M := (rfl)
theorem tN_eq (L n : Nat) (M : Mx) (u : Out) (h : Heap) : tN L n M [u] h = PN h L u.1 n M := (rfl)
/-! ### What some operations make -/
def dM (f : Nat → Bool) : Mx := fun i j => i == j && f i
theorem exB_congr {n : Nat} {f g : Nat → Bool} (h : ∀ k, k < n → f k = g k) : exB n f = exB n g := by
  unfold exB
  rw [Bool.eq_iff_iff, List.any_eq_true, List.any_eq_true]
  exact ⟨fun ⟨k, hk, e⟩ => ⟨k, hk, by rw [← h k (List.mem_range.1 hk)]; exact e⟩, fun ⟨k, hk, e⟩ => ⟨k, hk, by rw [h k (List.mem_range.1 hk)]; exact e⟩⟩
section
variable {n i j : Nat} {A B : Mx} {f : Nat → Bool}
theorem interM_in (hi : i < n) (hj : j < n) : interM n A n B i j = (A i j && B i j) := by unfold interM; rw [inN_in hi hj, inN_in hi hj]
theorem minusM_in (hi : i < n) (hj : j < n) : minusM n A n B i j = (A i j && !B i j) := by unfold minusM; rw [inN_in hi hj, inN_in hi hj]
theorem compM_in (hi : i < n) (hj : j < n) : compM n A n B i j = exB n fun k => A i k && B k j := by
  show exB n (fun k => inN n A i k && inN n B k j) = _
  exact exB_congr fun k hk => by rw [inN_in hi hk, inN_in hk hj]
theorem exB_one (hi : i < n) {g : Nat → Bool} : (exB n fun k => i == k && g k) = g i := by
  rw [Bool.eq_iff_iff, exB_true]
  constructor
  · rintro ⟨k, hk, h⟩
    simp only [Bool.and_eq_true, beq_iff_eq] at h
    rw [h.1]; exact h.2
  · intro h; exact ⟨i, hi, by simp [h]⟩
theorem compM_dR (hi : i < n) (hj : j < n) : compM n A n (dM f) i j = (A i j && f j) := by
  rw [compM_in hi hj]
  have : (exB n fun k => A i k && dM f k j) = exB n fun k => j == k && (A i k && f k) := exB_congr fun k _ => by
    unfold dM
    have : (k == j) = (j == k) := by rw [Bool.eq_iff_iff, beq_iff_eq, beq_iff_eq]; exact eq_comm
    rw [this]
    cases A i k <;> cases (j == k) <;> cases f k <;> rfl
  rw [this, exB_one hj]
theorem compM_dL (hi : i < n) (hj : j < n) : compM n (dM f) n A i j = (f i && A i j) := by
  rw [compM_in hi hj]
  have : (exB n fun k => dM f i k && A k j) = exB n fun k => i == k && (f i && A k j) := exB_congr fun k _ => by
    unfold dM
    cases A k j <;> cases (i == k) <;> cases f i <;> rfl
  rw [this, exB_one hi]
end
theorem arm_chain {v0 lv : Value} {n : Nat} {A : Mx} {l : List Mx} {h : Heap} (h0 : PA h v0 n A) (hl : CA h lv n l) (ht : TabAt h) :
    Con Tryd.prog 122 #[v0, lv] h fun v h' => Fr 0 0 h h' ∧ PA h' v n (chM n A l) ∧ (l ≠ [] → PN h' h.size v n (chM n A l)) := by
  refine con_arm_chain ?_
  obtain ⟨ws', hwl, hr, hlen, hp⟩ := hl
  obtain ⟨la, lc, rfl⟩ := hr.is
  have p0 : Fr 0 0 h h := .refl _ _ _
  simp -dsimp only [go_sem]
  refine loop_intro (fun s : Nat × Value => [(0, s.2), (7, .slice la ws'.length lc), (8, .int .i64 ws'.length), (9, .int .i64 s.1)])
    (fun s h' => s.1 ≤ ws'.length ∧ Fr 0 0 h h' ∧ PA h' s.2 n (chM n A (l.take s.1)) ∧ (0 < s.1 → PN h' h.size s.2 n (chM n A (l.take s.1)))) (fun s => ws'.length - s.1) (0, v0) ?_ ?_ ?_
  · simp [Le, find]
  · exact ⟨by omega, p0, h0, by simp⟩
  clear p0
  rintro ⟨i, v⟩ h1 ⟨hi, p0, t, tn⟩
  dsimp only at hi t tn ⊢
  have p0_z := p0.size
  by_cases hlt : i < ws'.length
  · have e1 : ((i : Int) < (ws'.length : Int)) := by omega
    have hw : ws'[i]? = some ws'[i] := List.getElem?_eq_getElem hlt
    have hM : l[i]? = some (l[i]'(by omega)) := List.getElem?_eq_getElem (by omega)
    have tw := (hp i _ _ hw hM).fr p0
    generalize ws'[i] = w at hw tw
    have hs : l.take (i + 1) = l.take i ++ [l[i]'(by omega)] := by rw [List.take_add_one, hM]; rfl
    generalize l[i]'(by omega) = B at hM tw hs
    obtain ⟨hl1, a', c', k1, k2⟩ := hr
    cases k1
    rcases k2 with k2 | ⟨b, o, rfl, hc⟩
    · omega
    have hc := p0.keep (hc i _ hw) (by omega)
    simp -dsimp only [go_sem, e1, hc]
    obtain ⟨_, _, t1⟩ := t
    obtain ⟨_, _, t2⟩ := tw
    refine call_of (rel_Comp t1 t2 (ht.fr p0 (.inr rfl))) ?_
    rintro v2 h2 ⟨f2, t3⟩
    rw [Nat.max_self] at t3
    have q2 := f2.size
    have p0_z := p0.size
    have f2_z := f2.size
    replace p0 := p0.fresh f2 (by omega)
    have hch : chM n A (l.take (i + 1)) = compM n (chM n A (l.take i)) n B := by rw [hs]; unfold chM; rw [List.foldl_append]; rfl
    simp -dsimp only [go_sem]
    simp -dsimp (disch := omega) only [wrap64]
    refine ⟨(i + 1, v2), by dsimp only; omega, by simp [Le, find], by dsimp only; omega, p0, ?_, fun _ => ?_⟩
    · dsimp only; rw [hch]; exact ⟨_, _, t3⟩
    · dsimp only; rw [hch]; exact (PN.of t3).lower (by omega)
  · obtain rfl : i = ws'.length := by omega
    simp -dsimp only [go_sem, Int.lt_irrefl]
    rw [hwl, List.take_length] at t tn
    refine ⟨p0, t, fun hne => tn ?_⟩
    exact List.length_pos_iff.2 hne
end Go.Proofs.Tst
