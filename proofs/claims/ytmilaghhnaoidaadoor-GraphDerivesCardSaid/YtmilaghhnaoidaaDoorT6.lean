/-
  Contracts of functions that the law reaches: what each returns and what it leaves in memory. Conditions stand in each.
-/
import Derived.Test.YtmilaghhnaoidaaDoorT5
set_option linter.all false
set_option maxRecDepth 2000
/-
  graph.Derive.
-/
namespace Go.Proofs.Tst
open Go Go.Vc
/-- A graph's relations and kinds in memory, from lo on, each apart from the others. -/
structure FactsAt (h : Heap) (lo : Nat) (p : Nat → Value) (rd wr fe : Value) (g : Gr) : Prop where
  n : g.n ≤ 256
  rel : ∃ A B, Der h A B p g.n (relM g) 10 ∧ (∀ k, k < 10 → lo ≤ A k ∧ A k ≤ B k ∧ B k ≤ h.size) ∧ ∀ k, k < 10 → ∀ v ∈ [rd, wr, fe], bh v ≤ A k ∨ B k ≤ bl v ∨ bh v ≤ bl v
  hrd : Holder 1 h rd g.n (boolsV (kindsV g 1 g.n)) lo
  hwr : Holder 1 h wr g.n (boolsV (kindsV g 2 g.n)) lo
  hfe : Holder 1 h fe g.n (boolsV (kindsV g 3 g.n)) lo
  off : Off rd wr ∧ Off rd fe ∧ Off wr fe
theorem kindsV_succ {g : Gr} {k : Int} {i : Nat} (hi : i < g.n) : boolsV (kindsV g k (i + 1)) = boolsV (kindsV g k i) ++ [.bool ((g.ev i).kind == k)] := by
  unfold kindsV boolsV
  rw [List.take_add_one, Gr.ev_get hi]
  simp
theorem relT_zero {g : Gr} {k x y : Nat} : relZ g k x y = relT g 0 0 k x y := by
  unfold relT
  split
  · rename_i hk
    rw [mixM_zero]
    rcases hk with rfl | rfl | rfl <;> rfl
  · rfl
theorem relT_end {g : Gr} {k x y : Nat} (hk : k < 9) (hx : x < g.n) (hy : y < g.n) : relT g g.n 0 k x y = relC g [] k x y := by
  unfold relT relC
  by_cases h2 : k = 2
  · subst h2; rfl
  · rw [if_neg h2]
    split
    · exact mixM_end hx hy
    · rename_i h
      have : k = 1 ∨ k = 3 ∨ k = 6 ∨ k = 7 ∨ k = 8 := by omega
      rcases this with rfl | rfl | rfl | rfl | rfl <;> rfl
theorem relC_end {g : Gr} {k : Nat} (hk : k < 9) : relC g (coPairs g) k = relM g k := by
  unfold relC
  by_cases h2 : k = 2
  · subst h2; rfl
  · rw [if_neg h2]
def ixL : List Nat := [1, 5, 7, 11, 13, 15, 19, 23, 27, 28, 29]
set_option maxHeartbeats 4000000 in
theorem graph_Derive {h : Heap} {q : GV} {g : Gr} (t : GrAt h q g) (ht : TabAt h) :
    Con Tryd.prog 16 #[.agg (gcells q g).toArray] h fun v h' => Fr 0 0 h h' ∧ if g.good = true then ∃ p rd wr fe, v = .tuple #[.agg (fcells p rd wr fe).toArray, .int .i64 0] ∧ FactsAt h' h.size p rd wr fe g else v = .tuple #[.agg fzero.toArray, .int .i64 4] := by
  refine con_graph_Derive ?_
  have p0 : Fr 0 0 h h := .refl _ _ _
  have be := t.fits.e
  have bf := t.fits.f
  have br := t.fits.r
  have ba := t.fits.a
  have bd := t.fits.d
  have bc := t.fits.c
  have hen : g.evs.length = g.n := rfl
  unfold gcells
  simp -dsimp only [go_sem]
  intro b1 h1 n1
  have n1_a := n1.at_
  have n1_z := n1.size
  replace p0 := p0.fresh (n1.fr (lo := 0) (hi := 0)) (by omega)
  have r1 := n1.row
  simp -dsimp only [go_sem, r1.cell]
  intro b2 h2 n2
  have n2_a := n2.at_
  have n2_z := n2.size
  replace p0 := p0.fresh (n2.fr (lo := 0) (hi := 0)) (by omega)
  replace r1 := r1.fr (n2.fr (lo := 0) (hi := 0)) (by omega)
  have r2 := n2.row
  simp -dsimp only [go_sem, r1.cell, r2.cell]
  refine call_of (graph_good (t.fr p0)) ?_
  rintro v3 h3 ⟨f3, rfl⟩
  have f3_z := f3.size
  replace p0 := p0.fresh f3 (by omega)
  replace r1 := r1.fr f3 (by omega)
  replace r2 := r2.fr f3 (by omega)
  cases hg : g.good
  · simp -dsimp only [go_sem, r1.cell, r2.cell]
    refine Chk_intro (r2.wr (by first | (simp; done) | (simp; omega))) fun h4 s4 => ?_
    have s4_z := s4.size
    replace p0 := p0.fresh s4.fr (by omega)
    replace r1 := r1.fr s4.fr (by omega)
    replace r2 := s4.row r2
    try simp only [cl_int, cl_bool, cl_slice, cl_ptr, putAt_one, List.set_cons_zero, List.set_cons_succ, ivec_set, brow_upd] at r2
    simp -dsimp only [go_sem] at r2
    simp -dsimp only [go_sem, r1.cell, r2.cell]
    exact withC_of fzero 0 (fun j x hj => by rw [r2.cell, Nat.zero_add]; exact hj) ⟨p0, rfl⟩
  obtain ⟨hn, hsz⟩ := good_n hg
  simp -dsimp only [go_sem, evs_len, r1.cell, r2.cell]
  have hcl : clampN (g.n : Int) = g.n := by unfold clampN; omega
  have t3 := t.fr p0
  refine free_intro [(1, [1], tellP g.n fun _ _ => false), (5, [5], tellP g.n (ofM g.n g.rf)), (7, [7], tellP g.n fun _ _ => false), (11, [11], tellP g.n (ofM g.n g.rmw)), (13, [13], tellP g.n fun _ _ => false), (15, [15], tellP g.n fun _ _ => false),
    (19, [19], tellP g.n (ofM g.n g.addr)), (23, [23], tellP g.n (ofM g.n g.data)), (27, [27], tellP g.n (ofM g.n g.ctrl)), (28, [1, 5, 7, 11, 13, 15, 19, 23, 27, 28], tellF), (29, [29], tellA fzero)] ?_ rfl ?_ ?_
  · exact ⟨stabP _ _, stabP _ _, stabP _ _, stabP _ _, stabP _ _, stabP _ _, stabP _ _, stabP _ _, stabP _ _, fun _ _ _ _ x => x, stabA _, trivial⟩
  · simp -dsimp only [go_sem, tellP_eq, tellF_eq, tellA_eq, r1.cell, r2.cell]
    refine ⟨fun h4 f4 V => ?_, fun h4 f4 V _ => ?_, fun h4 f4 V _ => ?_, fun h4 f4 V _ => ?_, fun h4 f4 V _ => ?_, fun h4 f4 V _ => ?_, fun h4 f4 V _ => ?_, fun h4 f4 V _ => ?_, fun h4 f4 V _ => ?_, fun h4 f4 V a1 a2 a3 a4 a5 a6 a7 a8 a9 => ?_, fun h4 f4 V => ?_⟩
    · refine call_of (rel_New g.n h4) ?_
      rintro v h5 ⟨f5, w⟩
      rw [hcl] at w
      simp -dsimp only [go_sem, tellP_eq, r1.cell, r2.cell]
      exact ⟨f5, w⟩
    · refine call_of (rel_Of g.n _ g.rf h4 (t3.f.fr f4) (by omega)) ?_
      rintro v h5 ⟨f5, w⟩
      rw [hcl] at w
      simp -dsimp only [go_sem, tellP_eq, r1.cell, r2.cell]
      exact ⟨f5, w⟩
    · refine call_of (rel_New g.n h4) ?_
      rintro v h5 ⟨f5, w⟩
      rw [hcl] at w
      simp -dsimp only [go_sem, tellP_eq, r1.cell, r2.cell]
      exact ⟨f5, w⟩
    · refine call_of (rel_Of g.n _ g.rmw h4 (t3.r.fr f4) (by omega)) ?_
      rintro v h5 ⟨f5, w⟩
      rw [hcl] at w
      simp -dsimp only [go_sem, tellP_eq, r1.cell, r2.cell]
      exact ⟨f5, w⟩
    · refine call_of (rel_New g.n h4) ?_
      rintro v h5 ⟨f5, w⟩
      rw [hcl] at w
      simp -dsimp only [go_sem, tellP_eq, r1.cell, r2.cell]
      exact ⟨f5, w⟩
    · refine call_of (rel_New g.n h4) ?_
      rintro v h5 ⟨f5, w⟩
      rw [hcl] at w
      simp -dsimp only [go_sem, tellP_eq, r1.cell, r2.cell]
      exact ⟨f5, w⟩
    · refine call_of (rel_Of g.n _ g.addr h4 (t3.a.fr f4) (by omega)) ?_
      rintro v h5 ⟨f5, w⟩
      rw [hcl] at w
      simp -dsimp only [go_sem, tellP_eq, r1.cell, r2.cell]
      exact ⟨f5, w⟩
    · refine call_of (rel_Of g.n _ g.data h4 (t3.d.fr f4) (by omega)) ?_
      rintro v h5 ⟨f5, w⟩
      rw [hcl] at w
      simp -dsimp only [go_sem, tellP_eq, r1.cell, r2.cell]
      exact ⟨f5, w⟩
    · refine call_of (rel_Of g.n _ g.ctrl h4 (t3.c.fr f4) (by omega)) ?_
      rintro v h5 ⟨f5, w⟩
      rw [hcl] at w
      simp -dsimp only [go_sem, tellP_eq, r1.cell, r2.cell]
      exact ⟨f5, w⟩
    · obtain ⟨b1, e1⟩ := progPtr a1
      obtain ⟨b2, e2⟩ := progPtr a2
      obtain ⟨b3, e3⟩ := progPtr a3
      obtain ⟨b4, e4⟩ := progPtr a4
      obtain ⟨b5, e5⟩ := progPtr a5
      obtain ⟨b6, e6⟩ := progPtr a6
      obtain ⟨b7, e7⟩ := progPtr a7
      obtain ⟨b8, e8⟩ := progPtr a8
      obtain ⟨b9, e9⟩ := progPtr a9
      simp -dsimp only [go_sem, e1, e2, e3, e4, e5, e6, e7, e8, e9, tellF_eq, r1.cell, r2.cell]
      exact .refl _ _ _
    · intro b5 h5 n5
      simp -dsimp only [go_sem, tellA_eq, r1.cell, r2.cell]
      exact ⟨n5.fr, n5.at_.symm ▸ rfl, n5.size, n5.at_ ▸ n5.row⟩
  · intro h4 f4 V sep
    replace sep := sep.at_ (L := ixL) rfl
    simp -dsimp only [go_sem, tellP_eq, tellF_eq, tellA_eq, r1.cell, r2.cell]
    rintro a1 a2 a3 a4 a5 a6 a7 a8 a9 e28 ⟨e29, z29, r5⟩
    have f4_z := f4.size
    replace p0 := p0.fresh f4 (by omega)
    replace r1 := r1.fr f4 (by omega)
    replace r2 := r2.fr f4 (by omega)
    have hH34 := f4.size
    have oc : ∀ {a b : Nat} {v : Value} {M : Nat → Nat → Bool}, ProgAt h4 a b v g.n M → v.oneCell' = true := fun t => by obtain ⟨_, e⟩ := progPtr t; rw [e]; rfl
    have hix : ∀ k, k < 9 → ixD k ∈ ixL ∧ ixD k ≠ 29 := by decide
    have hne : ∀ k, k < 9 → ∀ l, l < 9 → k ≠ l → ixD k ≠ ixD l := by decide
    have key : ∃ (A B : Nat → Nat) (p : Nat → Value) (b5 : Nat), p 0 = (V 1).1 ∧ p 1 = (V 5).1 ∧ p 2 = (V 7).1 ∧ p 3 = (V 11).1 ∧ p 4 = (V 13).1 ∧ p 5 = (V 15).1 ∧ p 6 = (V 19).1 ∧ p 7 = (V 23).1 ∧ p 8 = (V 27).1 ∧ b5 = (V 29).2.1 ∧
        Der h4 A B p g.n (relZ g) 9 ∧ (∀ k, k < 9 → h3.size ≤ A k ∧ A k ≤ B k ∧ B k ≤ h4.size) ∧ (∀ k, k < 9 → b5 < A k ∨ B k ≤ b5) ∧ h3.size ≤ b5 := by
      refine ⟨fun k => (V (ixD k)).2.1, fun k => (V (ixD k)).2.2, fun k => (V (ixD k)).1, _, rfl, rfl, rfl, rfl, rfl, rfl, rfl, rfl, rfl, rfl, ⟨fun k hk => ?_, fun k l hk hl hkl => sep.2 _ (hix k hk).1 _ (hix l hl).1 (hne k hk l hl hkl)⟩, fun k hk => sep.1 _ (hix k hk).1, fun k hk => ?_, (sep.1 29 (by decide)).1⟩
      · match k, hk with
        | 0, _ => exact a1
        | 1, _ => exact a2
        | 2, _ => exact a3
        | 3, _ => exact a4
        | 4, _ => exact a5
        | 5, _ => exact a6
        | 6, _ => exact a7
        | 7, _ => exact a8
        | 8, _ => exact a9
      · have := sep.2 29 (by decide) _ (hix k hk).1 (Ne.symm (hix k hk).2)
        have := sep.1 29 (by decide)
        show (V 29).2.1 < (V (ixD k)).2.1 ∨ (V (ixD k)).2.2 ≤ (V 29).2.1
        omega
    obtain ⟨A, B, p, b5, q0, q1, q2, q3, q4, q5, q6, q7, q8, q9, D, hAB, hb5, hb5'⟩ := key
    have ocs : (p 0).oneCell' = true ∧ (p 1).oneCell' = true ∧ (p 2).oneCell' = true ∧ (p 3).oneCell' = true ∧ (p 4).oneCell' = true ∧ (p 5).oneCell' = true ∧ (p 6).oneCell' = true ∧ (p 7).oneCell' = true ∧ (p 8).oneCell' = true :=
      ⟨oc (D.at_ 0 (by decide)), oc (D.at_ 1 (by decide)), oc (D.at_ 2 (by decide)), oc (D.at_ 3 (by decide)), oc (D.at_ 4 (by decide)), oc (D.at_ 5 (by decide)), oc (D.at_ 6 (by decide)), oc (D.at_ 7 (by decide)), oc (D.at_ 8 (by decide))⟩
    obtain ⟨oc0, oc1, oc2, oc3, oc4, oc5, oc6, oc7, oc8⟩ := ocs
    rw [← q9] at e29 r5
    rw [← q0, ← q1, ← q2, ← q3, ← q4, ← q5, ← q6, ← q7, ← q8] at e28
    clear a1 a2 a3 a4 a5 a6 a7 a8 a9 oc hix hne sep
    unfold fzero at r5
    have r5_l := r5.lt
    simp -dsimp only [go_sem, e29, e28, oc0, oc1, oc2, oc3, oc4, oc5, oc6, oc7, oc8, r1.cell, r2.cell, r5.cell]
    refine Chk_intro (r5.wr (by first | (simp; done) | (simp; omega))) fun h5 s5 => ?_
    have s5_z := s5.size
    replace p0 := p0.fresh s5.fr (by omega)
    replace r1 := r1.fr s5.fr (by omega)
    replace r2 := r2.fr s5.fr (by omega)
    replace D := D.fr s5.fr (fun k hk => by have := hAB k hk; first | omega | (have := hb5 k hk; omega))
    replace r5 := s5.row r5
    try simp only [cl_int, cl_bool, cl_slice, cl_ptr, putAt_one, List.set_cons_zero, List.set_cons_succ, ivec_set, brow_upd] at r5
    simp -dsimp only [go_sem] at r5
    have hz5 : 0 < h5.size := by omega
    have D : Der h5 A B p g.n (relT g 0 0) 9 := D.congr fun k hk x y _ _ => relT_zero
    have gb : h.size ≤ h3.size ∧ h3.size ≤ h4.size ∧ h4.size ≤ h5.size ∧ b1 < h3.size ∧ b2 < h3.size ∧ h3.size ≤ b5 ∧ b5 < h5.size ∧ h.size ≤ b1 ∧ h.size ≤ b2 ∧ b1 ≠ b2 := by omega
    clear e28 z29 q0 q1 q2 q3 q4 q5 q6 q7 q8 q9 n1_a n1_z n2_a n2_z f3_z f4_z s5_z hH34
    simp -dsimp only [go_sem, evs_len, r1.cell, r2.cell, r5.cell]
    refine loop_intro (fun s : Nat × Value × Value × Value => [(1, .pointer (some ⟨b1, 0, none⟩)), (2, .pointer (some ⟨b2, 0, none⟩)), (5, .pointer (some ⟨b5, 0, none⟩)), (53, .slice q.e g.evs.length q.ec), (54, .int .i64 g.n), (55, .int .i64 s.1)])
      (fun s h' => s.1 ≤ g.n ∧ Fr 0 0 h h' ∧ h5.size ≤ h'.size ∧ Rw h' b1 (gcells q g) ∧ Rw h' b2 fzero ∧ Rw h' b5 [p 0, p 1, p 2, .pointer none, p 3, p 4, p 5, p 6, p 7, p 8, s.2.1, s.2.2.1, s.2.2.2] ∧ Der h' A B p g.n (relT g s.1 0) 9 ∧
        Holder 1 h' s.2.1 s.1 (boolsV (kindsV g 1 s.1)) h5.size ∧ Holder 1 h' s.2.2.1 s.1 (boolsV (kindsV g 2 s.1)) h5.size ∧ Holder 1 h' s.2.2.2 s.1 (boolsV (kindsV g 3 s.1)) h5.size ∧ Off s.2.1 s.2.2.1 ∧ Off s.2.1 s.2.2.2 ∧ Off s.2.2.1 s.2.2.2) (fun s => g.n - s.1) (0, .slice none 0 0, .slice none 0 0, .slice none 0 0) ?_ ?_ ?_
    · simp [Le, find, hen, e29]
    · exact ⟨by omega, p0, by omega, r1, r2, r5, D, .none _ _ _, .none _ _ _, .none _ _ _, .inl rfl, .inl rfl, .inl rfl⟩
    clear p0 r1 r2 r5 D r5_l
    rintro ⟨i, rd, wr, fe⟩ h6 ⟨hi, p0, y6, r1, r2, r5, D, o1, o2, o3, f12, f13, f23⟩
    dsimp only at hi r5 D o1 o2 o3 f12 f13 f23 ⊢
    unfold gcells at r1
    unfold fzero at r2
    have p0_z := p0.size
    have r1_l := r1.lt
    have r2_l := r2.lt
    have r5_l := r5.lt
    by_cases hlt : i < g.n
    · have e1 : ((i : Int) < (g.n : Int)) := by omega
      obtain ⟨eb, eo, he, hev⟩ := t.evs (by omega)
      obtain ⟨c0, c1, c2, c3, c4⟩ := hev h6 p0 i hlt
      obtain ⟨ra0, rc0, rfl⟩ := o1.is
      obtain ⟨ra0', rc0', rfl⟩ := o2.is
      obtain ⟨ra0'', rc0'', rfl⟩ := o3.is
      have tp1 := o1.top
      have tp2 := o2.top
      have tp3 := o3.top
      simp -dsimp only [go_sem, e1, he, evs_len, c0, c1, c2, c3, c4, r1.cell, r2.cell, r5.cell]
      intro b7 h7 n7
      have n7_a := n7.at_
      have n7_z := n7.size
      replace p0 := p0.fresh (n7.fr (lo := 0) (hi := 0)) (by omega)
      replace r1 := r1.fr (n7.fr (lo := 0) (hi := 0)) (by omega)
      replace r2 := r2.fr (n7.fr (lo := 0) (hi := 0)) (by omega)
      replace r5 := r5.fr (n7.fr (lo := 0) (hi := 0)) (by omega)
      replace D := D.fr (n7.fr (lo := 0) (hi := 0)) (fun k hk => by have := hAB k hk; first | omega | (have := hb5 k hk; omega))
      have r7 := n7.row
      replace o1 := o1.fr (n7.fr (lo := 0) (hi := 0)) (by omega)
      replace o2 := o2.fr (n7.fr (lo := 0) (hi := 0)) (by omega)
      replace o3 := o3.fr (n7.fr (lo := 0) (hi := 0)) (by omega)
      simp -dsimp only [go_sem, r1.cell, r2.cell, r5.cell, r7.cell]
      refine Chk_intro (r7.wr (by first | (simp; done) | (simp; omega))) fun h8 s8 => ?_
      have s8_z := s8.size
      replace p0 := p0.fresh s8.fr (by omega)
      replace r1 := r1.fr s8.fr (by omega)
      replace r2 := r2.fr s8.fr (by omega)
      replace r5 := r5.fr s8.fr (by omega)
      replace D := D.fr s8.fr (fun k hk => by have := hAB k hk; first | omega | (have := hb5 k hk; omega))
      replace r7 := s8.row r7
      try simp only [cl_int, cl_bool, cl_slice, cl_ptr, putAt_one, List.set_cons_zero, List.set_cons_succ, ivec_set, brow_upd] at r7
      replace o1 := o1.fr s8.fr (by omega)
      replace o2 := o2.fr s8.fr (by omega)
      replace o3 := o3.fr s8.fr (by omega)
      simp -dsimp only [go_sem] at r7
      have hb7 : h6.size ≤ b7 ∧ b7 < h8.size ∧ h6.size ≤ h8.size := by omega
      have t71 : bh (.slice ra0 i rc0) ≤ b7 ∧ bh (.slice ra0' i rc0') ≤ b7 ∧ bh (.slice ra0'' i rc0'') ≤ b7 := by omega
      clear tp1 tp2 tp3 n7_a n7_z s8_z c0 c1 c2 c3 c4
      simp -dsimp only [go_sem, r1.cell, r2.cell, r5.cell, r7.cell]
      intro nb1 hb1 nn1
      have nn1_a := nn1.at_
      have nn1_z := nn1.size
      replace p0 := p0.fresh (nn1.fr (lo := 0) (hi := 0)) (by omega)
      replace r1 := r1.fr (nn1.fr (lo := 0) (hi := 0)) (by omega)
      replace r2 := r2.fr (nn1.fr (lo := 0) (hi := 0)) (by omega)
      replace r5 := r5.fr (nn1.fr (lo := 0) (hi := 0)) (by omega)
      replace D := D.fr (nn1.fr (lo := 0) (hi := 0)) (fun k hk => by have := hAB k hk; first | omega | (have := hb5 k hk; omega))
      replace r7 := r7.fr (nn1.fr (lo := 0) (hi := 0)) (by omega)
      have rn1 := nn1.row
      replace o1 := o1.fr (nn1.fr (lo := 0) (hi := 0)) (by omega)
      replace o2 := o2.fr (nn1.fr (lo := 0) (hi := 0)) (by omega)
      replace o3 := o3.fr (nn1.fr (lo := 0) (hi := 0)) (by omega)
      have oa1 := o1.at_
      simp -dsimp only [go_sem, r1.cell, r2.cell, r5.cell, r7.cell, rn1.cell]
      refine o1.append (by omega) rfl (by omega) (by simp) (by omega) fun u1 k1 on1 fn1 en1 => ?_
      have fn1_z := fn1.size
      replace p0 := p0.fresh fn1 (by omega)
      replace r1 := r1.fr fn1 (by omega)
      replace r2 := r2.fr fn1 (by omega)
      replace r5 := r5.fr fn1 (by omega)
      replace D := D.fr fn1 (fun k hk => by have := hAB k hk; first | omega | (have := hb5 k hk; omega))
      replace r7 := r7.fr fn1 (by omega)
      clear oa1
      have tp2 := o2.top
      have tp3 := o3.top
      have nw2 := (f12.symm).app tp2 hz5 on1 en1
      have nw3 := (f13.symm).app tp3 hz5 on1 en1
      replace o2 := o2.fr fn1 (f12.symm).away
      replace o3 := o3.fr fn1 (f13.symm).away
      replace o1 := on1
      clear en1 on1
      clear tp2 tp3
      replace f12 := nw2.symm
      replace f13 := nw3.symm
      clear nw2 nw3
      obtain ⟨ra1, rc1, rfl⟩ := o1.is
      have oa1 := o1.at_
      simp -dsimp only [go_sem, r1.cell, r2.cell, r5.cell, r7.cell]
      refine Chk_intro (r5.wr (by first | (simp; done) | (simp; omega))) fun ks1 st1 => ?_
      have st1_z := st1.size
      replace p0 := p0.fresh st1.fr (by omega)
      replace r1 := r1.fr st1.fr (by omega)
      replace r2 := r2.fr st1.fr (by omega)
      replace D := D.fr st1.fr (fun k hk => by have := hAB k hk; first | omega | (have := hb5 k hk; omega))
      replace r7 := r7.fr st1.fr (by omega)
      replace r5 := st1.row r5
      try simp only [cl_int, cl_bool, cl_slice, cl_ptr, putAt_one, List.set_cons_zero, List.set_cons_succ, ivec_set, brow_upd] at r5
      replace o1 := o1.fr st1.fr (by have := o1.at_; omega)
      replace o2 := o2.fr st1.fr (by have := o2.at_; omega)
      replace o3 := o3.fr st1.fr (by have := o3.at_; omega)
      clear oa1
      simp -dsimp only [go_sem, r1.cell, r2.cell, r5.cell, r7.cell]
      intro nb2 hb2 nn2
      have nn2_a := nn2.at_
      have nn2_z := nn2.size
      replace p0 := p0.fresh (nn2.fr (lo := 0) (hi := 0)) (by omega)
      replace r1 := r1.fr (nn2.fr (lo := 0) (hi := 0)) (by omega)
      replace r2 := r2.fr (nn2.fr (lo := 0) (hi := 0)) (by omega)
      replace r5 := r5.fr (nn2.fr (lo := 0) (hi := 0)) (by omega)
      replace D := D.fr (nn2.fr (lo := 0) (hi := 0)) (fun k hk => by have := hAB k hk; first | omega | (have := hb5 k hk; omega))
      replace r7 := r7.fr (nn2.fr (lo := 0) (hi := 0)) (by omega)
      have rn2 := nn2.row
      replace o1 := o1.fr (nn2.fr (lo := 0) (hi := 0)) (by omega)
      replace o2 := o2.fr (nn2.fr (lo := 0) (hi := 0)) (by omega)
      replace o3 := o3.fr (nn2.fr (lo := 0) (hi := 0)) (by omega)
      have oa2 := o2.at_
      simp -dsimp only [go_sem, r1.cell, r2.cell, r5.cell, r7.cell, rn2.cell]
      refine o2.append (by omega) rfl (by omega) (by simp) (by omega) fun u2 k2 on2 fn2 en2 => ?_
      have fn2_z := fn2.size
      replace p0 := p0.fresh fn2 (by omega)
      replace r1 := r1.fr fn2 (by omega)
      replace r2 := r2.fr fn2 (by omega)
      replace r5 := r5.fr fn2 (by omega)
      replace D := D.fr fn2 (fun k hk => by have := hAB k hk; first | omega | (have := hb5 k hk; omega))
      replace r7 := r7.fr fn2 (by omega)
      clear oa2
      have tp1 := o1.top
      have tp3 := o3.top
      have nw1 := (f12).app tp1 hz5 on2 en2
      have nw3 := (f23.symm).app tp3 hz5 on2 en2
      replace o1 := o1.fr fn2 (f12).away
      replace o3 := o3.fr fn2 (f23.symm).away
      replace o2 := on2
      clear en2 on2
      clear tp1 tp3
      replace f12 := nw1
      replace f23 := nw3.symm
      clear nw1 nw3
      obtain ⟨ra2, rc2, rfl⟩ := o2.is
      have oa2 := o2.at_
      simp -dsimp only [go_sem, r1.cell, r2.cell, r5.cell, r7.cell]
      refine Chk_intro (r5.wr (by first | (simp; done) | (simp; omega))) fun ks2 st2 => ?_
      have st2_z := st2.size
      replace p0 := p0.fresh st2.fr (by omega)
      replace r1 := r1.fr st2.fr (by omega)
      replace r2 := r2.fr st2.fr (by omega)
      replace D := D.fr st2.fr (fun k hk => by have := hAB k hk; first | omega | (have := hb5 k hk; omega))
      replace r7 := r7.fr st2.fr (by omega)
      replace r5 := st2.row r5
      try simp only [cl_int, cl_bool, cl_slice, cl_ptr, putAt_one, List.set_cons_zero, List.set_cons_succ, ivec_set, brow_upd] at r5
      replace o1 := o1.fr st2.fr (by have := o1.at_; omega)
      replace o2 := o2.fr st2.fr (by have := o2.at_; omega)
      replace o3 := o3.fr st2.fr (by have := o3.at_; omega)
      clear oa2
      simp -dsimp only [go_sem, r1.cell, r2.cell, r5.cell, r7.cell]
      intro nb3 hb3 nn3
      have nn3_a := nn3.at_
      have nn3_z := nn3.size
      replace p0 := p0.fresh (nn3.fr (lo := 0) (hi := 0)) (by omega)
      replace r1 := r1.fr (nn3.fr (lo := 0) (hi := 0)) (by omega)
      replace r2 := r2.fr (nn3.fr (lo := 0) (hi := 0)) (by omega)
      replace r5 := r5.fr (nn3.fr (lo := 0) (hi := 0)) (by omega)
      replace D := D.fr (nn3.fr (lo := 0) (hi := 0)) (fun k hk => by have := hAB k hk; first | omega | (have := hb5 k hk; omega))
      replace r7 := r7.fr (nn3.fr (lo := 0) (hi := 0)) (by omega)
      have rn3 := nn3.row
      replace o1 := o1.fr (nn3.fr (lo := 0) (hi := 0)) (by omega)
      replace o2 := o2.fr (nn3.fr (lo := 0) (hi := 0)) (by omega)
      replace o3 := o3.fr (nn3.fr (lo := 0) (hi := 0)) (by omega)
      have oa3 := o3.at_
      simp -dsimp only [go_sem, r1.cell, r2.cell, r5.cell, r7.cell, rn3.cell]
      refine o3.append (by omega) rfl (by omega) (by simp) (by omega) fun u3 k3 on3 fn3 en3 => ?_
      have fn3_z := fn3.size
      replace p0 := p0.fresh fn3 (by omega)
      replace r1 := r1.fr fn3 (by omega)
      replace r2 := r2.fr fn3 (by omega)
      replace r5 := r5.fr fn3 (by omega)
      replace D := D.fr fn3 (fun k hk => by have := hAB k hk; first | omega | (have := hb5 k hk; omega))
      replace r7 := r7.fr fn3 (by omega)
      clear oa3
      have tp1 := o1.top
      have tp2 := o2.top
      have nw1 := (f13).app tp1 hz5 on3 en3
      have nw2 := (f23).app tp2 hz5 on3 en3
      replace o1 := o1.fr fn3 (f13).away
      replace o2 := o2.fr fn3 (f23).away
      replace o3 := on3
      clear en3 on3
      clear tp1 tp2
      replace f13 := nw1
      replace f23 := nw2
      clear nw1 nw2
      obtain ⟨ra3, rc3, rfl⟩ := o3.is
      have oa3 := o3.at_
      simp -dsimp only [go_sem, r1.cell, r2.cell, r5.cell, r7.cell]
      refine Chk_intro (r5.wr (by first | (simp; done) | (simp; omega))) fun ks3 st3 => ?_
      have st3_z := st3.size
      replace p0 := p0.fresh st3.fr (by omega)
      replace r1 := r1.fr st3.fr (by omega)
      replace r2 := r2.fr st3.fr (by omega)
      replace D := D.fr st3.fr (fun k hk => by have := hAB k hk; first | omega | (have := hb5 k hk; omega))
      replace r7 := r7.fr st3.fr (by omega)
      replace r5 := st3.row r5
      try simp only [cl_int, cl_bool, cl_slice, cl_ptr, putAt_one, List.set_cons_zero, List.set_cons_succ, ivec_set, brow_upd] at r5
      replace o1 := o1.fr st3.fr (by have := o1.at_; omega)
      replace o2 := o2.fr st3.fr (by have := o2.at_; omega)
      replace o3 := o3.fr st3.fr (by have := o3.at_; omega)
      clear oa3
      simp -dsimp only [go_sem, r1.cell, r2.cell, r5.cell, r7.cell]
      refine derive_row t p0 hAB hb5 gb.1 (by omega) (by omega) hlt D r5 r7 fun h9 X9 D9 => ?_
      have notS : ∀ x, x < h3.size ∨ h4.size ≤ x ∨ x = b5 → ¬ InR A B 9 x := fun x hx ⟨k, hk, g1, g2⟩ => by have := hAB k hk; have := hb5 k hk; omega
      have X9_z := X9.size
      replace p0 := X9.fresh p0 fun x ⟨k, hk, g1, _⟩ => by have := hAB k hk; omega
      replace r1 := X9.rw r1 (notS _ (by omega))
      replace r2 := X9.rw r2 (notS _ (by omega))
      replace r5 := X9.rw r5 (notS _ (by omega))
      replace o1 := X9.holder o1 fun x hx => notS _ (by omega)
      replace o2 := X9.holder o2 fun x hx => notS _ (by omega)
      replace o3 := X9.holder o3 fun x hx => notS _ (by omega)
      simp -dsimp only [go_sem, r1.cell, r2.cell, r5.cell, r7.cell]
      simp -dsimp (disch := omega) only [wrap64]
      exact ⟨(i + 1, .slice ra1 (i + 1) rc1, .slice ra2 (i + 1) rc2, .slice ra3 (i + 1) rc3), by dsimp only; omega, by simp [Le, find, he, evs_len], by dsimp only; omega, p0, by omega, r1, r2, r5, D9, by rw [kindsV_succ hlt]; exact o1, by rw [kindsV_succ hlt]; exact o2, by rw [kindsV_succ hlt]; exact o3, f12, f13, f23⟩
    · obtain rfl : i = g.n := by omega
      have notS : ∀ x, x < h3.size ∨ h4.size ≤ x ∨ x = b5 → ¬ InR A B 9 x := fun x hx ⟨k, hk, g1, g2⟩ => by have := hAB k hk; have := hb5 k hk; omega
      replace D := D.congr fun k hk x y hx hy => relT_end hk hx hy
      simp -dsimp only [go_sem, Int.lt_irrefl, r1.cell, r2.cell, r5.cell]
      refine derive_co t p0 hAB hb5 gb.1 D r5 fun h9 X9 D9 => ?_
      have X9_z := X9.size
      replace p0 := X9.fresh p0 fun x ⟨k, hk, g1, _⟩ => by have := hAB k hk; omega
      replace r1 := X9.rw r1 (notS _ (by omega))
      replace r2 := X9.rw r2 (notS _ (by omega))
      replace r5 := X9.rw r5 (notS _ (by omega))
      replace o1 := X9.holder o1 fun x hx => notS _ (by omega)
      replace o2 := X9.holder o2 fun x hx => notS _ (by omega)
      replace o3 := X9.holder o3 fun x hx => notS _ (by omega)
      have g9 : h5.size ≤ h9.size := by omega
      clear D
      have p0_z := p0.size
      have r1_l := r1.lt
      have r2_l := r2.lt
      have r5_l := r5.lt
      simp -dsimp only [go_sem, r1.cell, r2.cell, r5.cell]
      refine call_of (rel_Inverse (D9.at_ 1 (by decide)) (ht.fr p0 (.inr rfl))) ?_
      rintro v10 h10 ⟨f10, w10⟩
      have f10_z := f10.size
      replace p0 := p0.fresh f10 (by omega)
      replace r1 := r1.fr f10 (by omega)
      replace r2 := r2.fr f10 (by omega)
      replace r5 := r5.fr f10 (by omega)
      replace D9 := D9.fr f10 (fun k hk => by have := hAB k hk; first | omega | (have := hb5 k hk; omega))
      replace o1 := o1.fr f10 (by omega)
      replace o2 := o2.fr f10 (by omega)
      replace o3 := o3.fr f10 (by omega)
      have tp1 := o1.top
      have tp2 := o2.top
      have tp3 := o3.top
      simp -dsimp only [go_sem, r1.cell, r2.cell, r5.cell]
      refine call_of (rel_Comp w10 (D9.at_ 2 (by decide)) (ht.fr p0 (.inr rfl))) ?_
      rintro v11 h11 ⟨f11, w11⟩
      have f11_z := f11.size
      replace p0 := p0.fresh f11 (by omega)
      replace r1 := r1.fr f11 (by omega)
      replace r2 := r2.fr f11 (by omega)
      replace r5 := r5.fr f11 (by omega)
      replace D9 := D9.fr f11 (fun k hk => by have := hAB k hk; first | omega | (have := hb5 k hk; omega))
      replace o1 := o1.fr f11 (by omega)
      replace o2 := o2.fr f11 (by omega)
      replace o3 := o3.fr f11 (by omega)
      rw [Nat.max_self] at w11
      obtain ⟨pb, rfl⟩ := progPtr w11
      have o1a := o1.at_
      have o2a := o2.at_
      have o3a := o3.at_
      obtain ⟨rda, rdc, rfl⟩ := o1.is
      obtain ⟨wra, wrc, rfl⟩ := o2.is
      obtain ⟨fea, fec, rfl⟩ := o3.is
      simp -dsimp only [go_sem, r1.cell, r2.cell, r5.cell]
      refine Chk_intro (r5.wr (by first | (simp; done) | (simp; omega))) fun h12 s12 => ?_
      have s12_z := s12.size
      replace p0 := p0.fresh s12.fr (by omega)
      replace r1 := r1.fr s12.fr (by omega)
      replace r2 := r2.fr s12.fr (by omega)
      replace D9 := D9.fr s12.fr (fun k hk => by have := hAB k hk; first | omega | (have := hb5 k hk; omega))
      replace r5 := s12.row r5
      try simp only [cl_int, cl_bool, cl_slice, cl_ptr, putAt_one, List.set_cons_zero, List.set_cons_succ, ivec_set, brow_upd] at r5
      replace o1 := o1.fr s12.fr (by omega)
      replace o2 := o2.fr s12.fr (by omega)
      replace o3 := o3.fr s12.fr (by omega)
      replace w11 := w11.fr s12.fr (by omega)
      have r5' : Rw h12 b5 [p 0, p 1, p 2, .pointer (some ⟨pb, 0, none⟩), p 3, p 4, p 5, p 6, p 7, p 8, .slice rda g.n rdc, .slice wra g.n wrc, .slice fea g.n fec] := r5
      clear r5
      simp -dsimp only [go_sem, r1.cell, r2.cell]
      refine withC_of [p 0, p 1, p 2, .pointer (some ⟨pb, 0, none⟩), p 3, p 4, p 5, p 6, p 7, p 8, .slice rda g.n rdc, .slice wra g.n wrc, .slice fea g.n fec] 0 (fun j x hj => by rw [r5'.cell, Nat.zero_add]; exact hj) ?_
      simp only [List.all_cons, List.all_nil, oc0, oc1, oc2, oc3, oc4, oc5, oc6, oc7, oc8]
      refine Chk_intro ⟨rfl, rfl⟩ ?_
      refine Chk_intro (r2.wr (by first | (simp; done) | (simp; omega))) fun h13 s13 => ?_
      have s13_z := s13.size
      replace p0 := p0.fresh s13.fr (by omega)
      replace r1 := r1.fr s13.fr (by omega)
      replace D9 := D9.fr s13.fr (fun k hk => by have := hAB k hk; first | omega | (have := hb5 k hk; omega))
      replace r2 := s13.row r2
      try simp only [cl_int, cl_bool, cl_slice, cl_ptr, putAt_one, List.set_cons_zero, List.set_cons_succ, ivec_set, brow_upd] at r2
      replace o1 := o1.fr s13.fr (by omega)
      replace o2 := o2.fr s13.fr (by omega)
      replace o3 := o3.fr s13.fr (by omega)
      replace w11 := w11.fr s13.fr (by omega)
      replace r2 : Rw h13 b2 [p 0, p 1, p 2, .pointer (some ⟨pb, 0, none⟩), p 3, p 4, p 5, p 6, p 7, p 8, .slice rda g.n rdc, .slice wra g.n wrc, .slice fea g.n fec] := r2
      simp -dsimp only [go_sem, r1.cell, r2.cell]
      refine withC_of [p 0, p 1, p 2, .pointer (some ⟨pb, 0, none⟩), p 3, p 4, p 5, p 6, p 7, p 8, .slice rda g.n rdc, .slice wra g.n wrc, .slice fea g.n fec] 0 (fun j x hj => by rw [r2.cell, Nat.zero_add]; exact hj) ?_
      refine ⟨p0, fun k => if k = 9 then .pointer (some ⟨pb, 0, none⟩) else p k, _, _, _, rfl, hn, ⟨fun k => if k = 9 then h10.size else A k, fun k => if k = 9 then h11.size else B k, ⟨fun k hk => ?_, fun k l hk hl hkl => ?_⟩, fun k hk => ?_, fun k hk v hv => ?_⟩, o1.lower (by omega), o2.lower (by omega), o3.lower (by omega), f12, f13, f23⟩
      · by_cases h9' : k = 9
        · subst h9'; exact w11
        · simp only [if_neg h9']
          have := D9.at_ k (by omega)
          rw [relC_end (by omega)] at this
          exact this
      · have key : ∀ k, k < 9 → B k ≤ h10.size := fun k hk => by have := hAB k hk; omega
        by_cases h9' : k = 9
        · simp only [if_pos h9', if_neg (show ¬ l = 9 by omega)]
          exact .inr (key l (by omega))
        · simp only [if_neg h9']
          by_cases h9'' : l = 9
          · simp only [if_pos h9'']; exact .inl (key k (by omega))
          · simp only [if_neg h9'']; exact D9.off k l (by omega) (by omega) hkl
      · by_cases h9' : k = 9
        · simp only [if_pos h9']; omega
        · simp only [if_neg h9']; have := hAB k (by omega); omega
      · have hb : bh v ≤ h10.size ∧ (bh v = 0 ∧ bl v = 0 ∨ h4.size ≤ bl v) := by
          simp only [List.mem_cons, List.not_mem_nil, or_false] at hv
          rcases hv with rfl | rfl | rfl <;> omega
        by_cases h9' : k = 9
        · simp only [if_pos h9']; omega
        · simp only [if_neg h9']; have := hAB k (by omega); omega
end Go.Proofs.Tst
/-
  graph's With, Thread and Final.
-/
namespace Go.Proofs.Tst
open Go Go.Vc
def threadTo (g : Gr) (t : Int) (i : Nat) : List Int := ((List.range i).filter fun i => (g.ev i).thread == t).map fun (i : Nat) => (i : Int)
def threadL (g : Gr) (t : Int) : List Int := threadTo g t g.n
def finalOf (g : Gr) (l : List Int) : Int := (g.ev (l.getLastD 0).toNat).val
def finals (g : Gr) : List Int := g.co.map (finalOf g)
theorem threadTo_succ {g : Gr} {t : Int} {i : Nat} : threadTo g t (i + 1) = threadTo g t i ++ (if (g.ev i).thread = t then [(i : Int)] else []) := by
  unfold threadTo
  rw [List.range_succ, List.filter_append, List.map_append]
  congr 1
  by_cases h : (g.ev i).thread = t
  · rw [if_pos h]; simp [h]
  · rw [if_neg h]; simp [h]
theorem threadTo_len {g : Gr} {t : Int} {i : Nat} : (threadTo g t i).length ≤ i := by
  unfold threadTo; rw [List.length_map]; exact Nat.le_trans (List.length_filter_le _ _) (by simp)
theorem check_zero {g : Gr} {words : Bool} (h : (g.check words).1 = 0) : g.size = true ∧ ¬ 0 ≤ g.initAt words ∧ ¬ 0 ≤ g.evAt words ∧ ¬ 0 ≤ g.rfAt ∧ ¬ 0 ≤ g.coAt ∧ ¬ 0 ≤ g.rmwAt ∧
    ¬ 0 ≤ g.depAt words g.addr (fun k => k == 1 || k == 2) ∧ ¬ 0 ≤ g.depAt words g.data (fun k => k == 2) ∧ ¬ 0 ≤ g.depAt words g.ctrl (fun k => k == 1 || k == 2 || k == 3) := by
  unfold Gr.check at h
  cases h1 : g.size
  · rw [h1] at h; simp at h
  rw [h1, if_neg (by simp)] at h
  by_cases h2 : 0 ≤ g.initAt words
  · rw [if_pos h2] at h; simp at h
  rw [if_neg h2] at h
  by_cases h3 : 0 ≤ g.evAt words
  · rw [if_pos h3] at h; simp at h
  rw [if_neg h3] at h
  by_cases h4 : 0 ≤ g.rfAt
  · rw [if_pos h4] at h; simp at h
  rw [if_neg h4] at h
  by_cases h5 : 0 ≤ g.coAt
  · rw [if_pos h5] at h; simp at h
  rw [if_neg h5] at h
  by_cases h6 : 0 ≤ g.rmwAt
  · rw [if_pos h6] at h; simp at h
  rw [if_neg h6] at h
  by_cases h7 : 0 ≤ g.depAt words g.addr (fun k => k == 1 || k == 2)
  · rw [if_pos h7] at h; simp at h
  rw [if_neg h7] at h
  by_cases h8 : 0 ≤ g.depAt words g.data (fun k => k == 2)
  · rw [if_pos h8] at h; simp at h
  rw [if_neg h8] at h
  by_cases h9 : 0 ≤ g.depAt words g.ctrl (fun k => k == 1 || k == 2 || k == 3)
  · rw [if_pos h9] at h; simp at h
  exact ⟨rfl, h2, h3, h4, h5, h6, h7, h8, h9⟩
theorem good_check {g : Gr} (h : g.good = true) : ∃ words, (g.check words).1 = 0 := by
  unfold Gr.good at h
  simp only [Bool.or_eq_true, beq_iff_eq] at h
  rcases h with h | h
  · exact ⟨_, h⟩
  · exact ⟨_, h⟩
/-- The lists of a good graph. -/
theorem good_co {g : Gr} (h : g.good = true) : (g.co.length : Int) = g.cells ∧ ∀ c, c < g.co.length → g.coBad c (g.co.getD c []) = false := by
  obtain ⟨words, h⟩ := good_check h
  obtain ⟨hs, -, -, -, h5, -⟩ := check_zero h
  unfold Gr.coAt at h5
  have hlen : (g.co.length : Int) = g.cells := by
    apply Classical.byContradiction; intro hne
    rw [if_pos (.inr hne)] at h5; omega
  refine ⟨hlen, fun c hc => ?_⟩
  have hls : g.lists = g.co.length := by unfold Gr.lists; omega
  have hf : ¬ g.coFirst < g.lists := fun hlt => by rw [if_pos (.inl hlt)] at h5; omega
  cases hb : g.coBad c (g.co.getD c [])
  · rfl
  · exfalso
    apply hf
    unfold Gr.coFirst
    cases hfd : (List.range g.lists).find? (fun c => g.coBad c (g.co.getD c [])) with
    | none =>
      rw [List.find?_eq_none] at hfd
      exact absurd hb (hfd c (List.mem_range.2 (by omega)))
    | some u =>
      have := List.mem_of_find?_eq_some hfd
      rw [List.mem_range] at this
      exact this
theorem good_last {g : Gr} (h : g.good = true) {c : Nat} (hc : c < g.co.length) : ∃ w : Nat, 0 < (g.co.getD c []).length ∧ (g.co.getD c [])[(g.co.getD c []).length - 1]? = some (w : Int) ∧ w < g.n ∧ finalOf g (g.co.getD c []) = (g.ev w).val := by
  have hb := (good_co h).2 c hc
  rw [coBad_of] at hb
  simp only [Bool.not_eq_false', Bool.and_eq_true] at hb
  have hok := hb.1
  have hp := coOk_pos hok
  generalize g.co.getD c [] = l at *
  unfold coOk at hok
  simp only [Bool.and_eq_true, List.all_eq_true] at hok
  have hx : l[l.length - 1]? = some l[l.length - 1] := by simp [hp]
  have hm := hok.1.2 _ (List.mem_of_getElem? hx)
  have hl : l.getLastD 0 = l[l.length - 1] := by
    rw [List.getLastD_eq_getLast?, List.getLast?_eq_getElem?, hx]; rfl
  generalize l[l.length - 1] = x at *
  unfold coGood at hm
  simp only [Bool.and_eq_true] at hm
  obtain ⟨h1, h2, h3⟩ := is_lt hm.1
  obtain ⟨w, rfl⟩ := Int.eq_ofNat_of_zero_le h1
  exact ⟨w, hp, hx, by omega, by unfold finalOf; rw [hl, Int.toNat_natCast]⟩
theorem holder_row {s : Nat} {h : Heap} {b n : Nat} {xs : List Value} {lo : Nat} (r : Rw h b xs) (hl : xs.length = n * s) (hb : lo ≤ b) : Holder s h (.slice (some ⟨b, 0, none⟩) n n) n xs lo :=
  ⟨hl, .inr ⟨b, n, [], rfl, by rw [List.append_nil]; exact r, by simp, hb⟩⟩
theorem graph_Thread {h : Heap} {q : GV} {g : Gr} (t : GrAt h q g) (th : Int) :
    Con Tryd.prog 23 #[.agg (gcells q g).toArray, .int .i64 th] h fun v h' => Fr 0 0 h h' ∧ Holder 1 h' v (threadL g th).length (intsV (threadL g th)) h.size := by
  refine con_graph_Thread ?_
  have p0 : Fr 0 0 h h := .refl _ _ _
  have be := t.fits.e
  have hen : g.evs.length = g.n := rfl
  unfold gcells
  simp -dsimp only [go_sem]
  intro b1 h1 n1
  have n1_a := n1.at_
  have n1_z := n1.size
  replace p0 := p0.fresh (n1.fr (lo := 0) (hi := 0)) (by omega)
  have r1 := n1.row
  simp -dsimp only [go_sem, evs_len, r1.cell]
  refine loop_intro (fun s : Nat × Value => [(1, .int .i64 th), (5, s.2), (9, .slice q.e g.evs.length q.ec), (10, .int .i64 g.n), (11, .int .i64 s.1)])
    (fun s h' => s.1 ≤ g.n ∧ Fr 0 0 h h' ∧ Holder 1 h' s.2 (threadTo g th s.1).length (intsV (threadTo g th s.1)) h.size) (fun s => g.n - s.1) (0, .slice none 0 0) ?_ ?_ ?_
  · simp [Le, find, hen]
  · exact ⟨by omega, p0, .none _ _ _⟩
  clear p0
  rintro ⟨i, lv⟩ h3 ⟨hi, p0, o1⟩
  dsimp only at hi o1 ⊢
  have p0_z := p0.size
  have o1_l := o1.top
  have hle := threadTo_len (g := g) (t := th) (i := i)
  by_cases hlt : i < g.n
  · have e1 : ((i : Int) < (g.n : Int)) := by omega
    obtain ⟨eb, eo, he, hev⟩ := t.evs (by omega)
    obtain ⟨c0, c1, c2, c3, c4⟩ := hev h3 p0 i hlt
    obtain ⟨la, lc, rfl⟩ := o1.is
    simp -dsimp only [go_sem, e1, he, evs_len, c0, c1, c2, c3, c4]
    intro b7 h4 n4
    have n4_a := n4.at_
    have n4_z := n4.size
    replace p0 := p0.fresh (n4.fr (lo := 0) (hi := 0)) (by omega)
    replace o1 := o1.fr (n4.fr (lo := 0) (hi := 0)) (by have := o1.at_; omega)
    have r4 := n4.row
    simp -dsimp only [go_sem, r4.cell]
    have o1_a := o1.at_
    have o1_t := o1.top
    refine Chk_intro (r4.wr (by first | (simp; done) | (simp; omega))) fun h5 s5 => ?_
    have s5_z := s5.size
    replace p0 := p0.fresh s5.fr (by omega)
    replace o1 := o1.fr s5.fr (by have := o1.at_; omega)
    replace r4 := s5.row r4
    try simp only [cl_int, cl_bool, cl_slice, cl_ptr, putAt_one, List.set_cons_zero, List.set_cons_succ, ivec_set, brow_upd] at r4
    simp -dsimp only [go_sem] at r4
    by_cases a1 : (g.ev i).thread = th
    · simp -dsimp only [go_sem, beq_t a1, r4.cell]
      intro b8 h8 n8
      have n8_a := n8.at_
      have n8_z := n8.size
      replace p0 := p0.fresh (n8.fr (lo := 0) (hi := 0)) (by omega)
      replace o1 := o1.fr (n8.fr (lo := 0) (hi := 0)) (by have := o1.at_; omega)
      replace r4 := r4.fr (n8.fr (lo := 0) (hi := 0)) (by omega)
      have r8 := n8.row
      simp -dsimp only [go_sem, r4.cell, r8.cell]
      refine o1.append (by omega) rfl (by omega) (by simp) (by omega) fun v9 h9 o_new f9 e_app => ?_
      have f9_z := f9.size
      have o_at := o1.at_
      replace p0 := p0.fresh f9 (by omega)
      replace r4 := r4.fr f9 (by omega)
      replace r8 := r8.fr f9 (by omega)
      clear o_at e_app
      replace o1 := o_new
      have o1_l := o1.top
      simp -dsimp only [go_sem, r4.cell, r8.cell]
      simp -dsimp (disch := omega) only [wrap64]
      refine ⟨(i + 1, v9), by dsimp only; omega, by simp [Le, find, he, evs_len], by dsimp only; omega, p0, ?_⟩
      dsimp only
      rw [threadTo_succ, if_pos a1, intsV_append, List.length_append]
      exact o1
    · simp -dsimp only [go_sem, beq_f a1, r4.cell]
      simp -dsimp (disch := omega) only [wrap64]
      refine ⟨(i + 1, .slice la (threadTo g th i).length lc), by dsimp only; omega, by simp [Le, find, he, evs_len], by dsimp only; omega, p0, ?_⟩
      dsimp only
      rw [threadTo_succ, if_neg a1, List.append_nil]
      exact o1
  · obtain rfl : i = g.n := by omega
    simp -dsimp only [go_sem, Int.lt_irrefl]
    exact ⟨p0, o1⟩
end Go.Proofs.Tst
/-
  Final; the document's With, Thread, Final and Kinds.
-/
namespace Go.Proofs.Tst
open Go Go.Vc
def urow (n : Nat) (f : Nat → Int) : List Value := (List.range n).map fun i => .int .u64 (f i)
@[simp] theorem length_urow (n : Nat) (f : Nat → Int) : (urow n f).length = n := by simp [urow]
theorem urow_set {n : Nat} {f : Nat → Int} {i : Nat} {x : Int} : (urow n f).set i (.int .u64 x) = urow n fun j => if j = i then x else f j := by
  apply List.ext_getElem?
  intro j
  rw [List.getElem?_set]
  by_cases hj : j < n
  · by_cases hij : i = j
    · subst hij; simp [urow, hj]
    · simp [urow, hj, hij, Ne.symm hij]
  · by_cases hij : i = j
    · subst hij; simp [urow, hj]
    · simp [urow, hj, hij]
theorem urow_zero (n : Nat) : List.replicate n (Value.int .u64 0) = urow n fun _ => 0 := by
  apply List.ext_getElem?; intro k; by_cases hk : k < n <;> simp [urow, hk]
/-- Where a list of a graph lies. -/
theorem list_at {h : Heap} {la : Option Addr} {lc : Nat} {l : List Int} (hp : 0 < l.length) (hl : ∀ h', Fr 0 0 h h' → Rd 1 h' (.slice la l.length lc) l.length (intsV l)) : ∃ b o, la = some ⟨b, o, none⟩ ∧ ∀ h', Fr 0 0 h h' → ∀ (i : Nat) (x : Int), l[i]? = some x → hcell h' b (o + i) = some (.int .i64 x) := by
  obtain ⟨hl1, a, c', k1, k2⟩ := hl h (.refl _ _ _)
  cases k1
  rcases k2 with k2 | ⟨b, o, k3, k4⟩
  · omega
  · refine ⟨b, o, k3, fun h' f i x hx => ?_⟩
    obtain ⟨-, a', c'', m1, m2⟩ := hl h' f
    cases m1
    rw [k3] at m2
    rcases m2 with m2 | ⟨b', o', m3, m4⟩
    · omega
    · cases m3; exact m4 i _ (intsV_get hx)
theorem getD_get {l : List (List Int)} {c : Nat} (h : c < l.length) : l[c]? = some (l.getD c []) := by simp [h]
theorem graph_Final {h : Heap} {q : GV} {g : Gr} (t : GrAt h q g) :
    Con Tryd.prog 28 #[.agg (gcells q g).toArray] h fun v h' => Fr 0 0 h h' ∧ if g.good = true then ∃ w, v = .tuple #[w, .int .i64 0] ∧ Holder 1 h' w (finals g).length (wordsV (finals g)) h.size else v = .tuple #[.slice none 0 0, .int .i64 4] := by
  refine con_graph_Final ?_
  have p0 : Fr 0 0 h h := .refl _ _ _
  have be := t.fits.e
  have bo := t.fits.o
  have hen : g.evs.length = g.n := rfl
  have hrl := rl_at t.o
  unfold gcells
  simp -dsimp only [go_sem]
  intro b1 h1 n1
  have n1_a := n1.at_
  have n1_z := n1.size
  replace p0 := p0.fresh (n1.fr (lo := 0) (hi := 0)) (by omega)
  have r1 := n1.row
  simp -dsimp only [go_sem, r1.cell]
  refine call_of (graph_good (t.fr p0)) ?_
  rintro v2 h2 ⟨f2, rfl⟩
  have f2_z := f2.size
  replace p0 := p0.fresh f2 (by omega)
  replace r1 := r1.fr f2 (by omega)
  cases hg : g.good
  · simp -dsimp only [go_sem, r1.cell]
    exact p0
  obtain ⟨hcl, -⟩ := good_co hg
  have hsz := (good_n hg).2
  simp only [Gr.size, Bool.and_eq_true, decide_eq_true_eq] at hsz
  simp -dsimp only [go_sem, r1.cell]
  refine Chk_intro (by omega) ?_
  rw [zeros_one, ← hcl, Int.toNat_natCast, urow_zero]
  intro b4 h4 n4
  have n4_a := n4.at_
  have n4_z := n4.size
  replace p0 := p0.fresh (n4.fr (lo := 0) (hi := 0)) (by omega)
  replace r1 := r1.fr (n4.fr (lo := 0) (hi := 0)) (by omega)
  have r4 := n4.row
  simp -dsimp only [go_sem, r1.cell, r4.cell]
  refine loop_intro (fun c : Nat => [(1, .pointer (some ⟨b1, 0, none⟩)), (4, .slice (some ⟨b4, 0, none⟩) g.co.length g.co.length), (14, .slice q.o g.co.length q.oc), (15, .int .i64 g.co.length), (16, .int .i64 c)])
    (fun c h' => c ≤ g.co.length ∧ Fr 0 0 h h' ∧ Rw h' b1 (gcells q g) ∧ Rw h' b4 (urow g.co.length fun j => if j < c then finalOf g (g.co.getD j []) else 0)) (fun c => g.co.length - c) 0 ?_ ?_ ?_
  · simp [Le, find]
  · exact ⟨by omega, p0, r1, by simp only [Nat.not_lt_zero, if_false]; exact r4⟩
  clear r1 r4 p0
  rintro c h5 ⟨hc, p0, r1, r4⟩
  unfold gcells at r1
  have p0_z := p0.size
  have r1_l := r1.lt
  have r4_l := r4.lt
  have gb : b1 ≠ b4 ∧ h.size ≤ b4 := by omega
  by_cases hlt : c < g.co.length
  · have e1 : ((c : Int) < (g.co.length : Int)) := by omega
    obtain ⟨ob, oo, hoe, la, lc, hlist⟩ := hrl c hlt
    have hll := t.fits.l _ (List.mem_of_getElem? (getD_get hlt))
    obtain ⟨w, hp, hx, hwn, hfin⟩ := good_last hg hlt
    have hfc : (fun j => if j < c + 1 then finalOf g (g.co.getD j []) else 0) = fun j => if j = c then (g.ev w).val else if j < c then finalOf g (g.co.getD j []) else 0 := by
      funext j
      by_cases hj : j = c
      · subst hj; rw [if_pos (by omega), if_pos rfl, hfin]
      · rw [if_neg hj]
        by_cases hj2 : j < c
        · rw [if_pos (by omega), if_pos hj2]
        · rw [if_neg (by omega), if_neg hj2]
    generalize g.co.getD c [] = l at hlist hp hx hfin hll
    obtain ⟨lb, lo, hle, hlc⟩ := list_at hp fun h' f => (hlist h' f).2
    obtain ⟨l1, -⟩ := hlist h5 p0
    have cw := hlc h5 p0 _ _ hx
    obtain ⟨eb, eo, he, hev⟩ := t.evs (by omega)
    obtain ⟨c0, c1, c2, c3, c4⟩ := hev h5 p0 w hwn
    have hw : IntKind.i64.wrap ((l.length : Int) - 1) = ((l.length - 1 : Nat) : Int) := by rw [wrap64 (by omega) (by omega)]; omega
    have e2 : ((l.length - 1 : Nat) : Int) < (l.length : Int) := by omega
    have e3 : (w : Int) < (g.n : Int) := by omega
    simp -dsimp only [go_sem, e1, hoe, l1, hle, he, evs_len, hw, e2, e3, r1.cell, r4.cell]
    simp -dsimp only [go_sem, e1, hoe, l1, hle, he, evs_len, hw, e2, e3, cw, r1.cell, r4.cell]
    simp -dsimp only [go_sem, e1, hoe, l1, hle, he, evs_len, hw, e2, e3, cw, c3, r1.cell, r4.cell]
    refine Chk_intro (r4.wr (by first | (simp; done) | (simp; omega))) fun h6 s6 => ?_
    have s6_z := s6.size
    replace p0 := p0.fresh s6.fr (by omega)
    replace r1 := r1.fr s6.fr (by omega)
    replace r4 := s6.row r4
    try simp only [cl_int, cl_bool, cl_slice, cl_ptr, putAt_one, List.set_cons_zero, List.set_cons_succ, ivec_set, brow_upd] at r4
    rw [urow_set] at r4
    simp -dsimp only [go_sem, r1.cell, r4.cell]
    simp -dsimp (disch := omega) only [wrap64]
    exact ⟨c + 1, by omega, by simp [Le, find, hoe], by omega, p0, r1, by rw [hfc]; exact r4⟩
  · obtain rfl : c = g.co.length := by omega
    simp -dsimp only [go_sem, Int.lt_irrefl, r1.cell, r4.cell]
    refine ⟨p0, ?_⟩
    have : wordsV (finals g) = urow g.co.length fun j => if j < g.co.length then finalOf g (g.co.getD j []) else 0 := by
      apply List.ext_getElem?
      intro j
      by_cases hj : j < g.co.length
      · simp [wordsV, finals, urow, hj]
      · simp [wordsV, finals, urow, hj]
    rw [this]
    have hl : (finals g).length = g.co.length := by simp [finals]
    rw [hl]
    exact ⟨_, rfl, holder_row (s := 1) (n := g.co.length) r4 (by simp) gb.2⟩
theorem ref8_Kinds {h : Heap} {q : GV} {g : Gr} (t : GrAt h q g) (hn : g.n ≤ 140737488355328) (k : Int) :
    Con Tryd.prog 75 #[.agg (gcells q g).toArray, .int .i64 k] h fun v h' => Fr 0 0 h h' ∧ Holder 1 h' v g.n (boolsV (kindsV g k g.n)) h.size := by
  refine con_ref8_Kinds ?_
  have p0 : Fr 0 0 h h := .refl _ _ _
  have be := t.fits.e
  have hen : g.evs.length = g.n := rfl
  unfold gcells
  simp -dsimp only [go_sem]
  intro b1 h1 n1
  have n1_a := n1.at_
  have n1_z := n1.size
  replace p0 := p0.fresh (n1.fr (lo := 0) (hi := 0)) (by omega)
  have r1 := n1.row
  simp -dsimp only [go_sem, r1.cell]
  refine loop_intro (fun s : Nat × Value => [(1, .int .i64 k), (2, .pointer (some ⟨b1, 0, none⟩)), (5, s.2), (6, .int .i64 s.1)])
    (fun s h' => s.1 ≤ g.n ∧ Fr 0 0 h h' ∧ Rw h' b1 (gcells q g) ∧ h1.size ≤ h'.size ∧ Holder 1 h' s.2 s.1 (boolsV (kindsV g k s.1)) h1.size) (fun s => g.n - s.1) (0, .slice none 0 0) ?_ ?_ ?_
  · simp [Le, find]
  · exact ⟨by omega, p0, r1, by omega, .none _ _ _⟩
  have gb : b1 < h1.size ∧ h.size ≤ b1 ∧ h.size ≤ h1.size := by omega
  clear r1 p0 n1_a n1_z
  rintro ⟨i, lv⟩ h3 ⟨hi, p0, r1, y3, o1⟩
  dsimp only at hi o1 ⊢
  unfold gcells at r1
  have p0_z := p0.size
  have r1_l := r1.lt
  have o1_l := o1.top
  by_cases hlt : i < g.n
  · have e1 : ((i : Int) < (g.n : Int)) := by omega
    obtain ⟨eb, eo, he, hev⟩ := t.evs (by omega)
    obtain ⟨c0, c1, c2, c3, c4⟩ := hev h3 p0 i hlt
    obtain ⟨la, lc, rfl⟩ := o1.is
    have o1_a := o1.at_
    simp -dsimp only [go_sem, e1, he, evs_len, c1, r1.cell]
    intro b8 h8 n8
    have n8_a := n8.at_
    have n8_z := n8.size
    replace p0 := p0.fresh (n8.fr (lo := 0) (hi := 0)) (by omega)
    replace r1 := r1.fr (n8.fr (lo := 0) (hi := 0)) (by omega)
    replace o1 := o1.fr (n8.fr (lo := 0) (hi := 0)) (by have := o1.at_; omega)
    have r8 := n8.row
    simp -dsimp only [go_sem, r1.cell, r8.cell]
    refine o1.append (by omega) rfl (by omega) (by simp) (by omega) fun v9 h9 o_new f9 e_app => ?_
    have f9_z := f9.size
    have o_at := o1.at_
    replace p0 := p0.fresh f9 (by omega)
    replace r1 := r1.fr f9 (by omega)
    replace r8 := r8.fr f9 (by omega)
    clear o_at e_app
    replace o1 := o_new
    have o1_l := o1.top
    obtain ⟨c0, c1, c2, c3, c4⟩ := hev h9 p0 i hlt
    simp -dsimp only [go_sem, he, evs_len, c1, r1.cell, r8.cell]
    simp -dsimp (disch := omega) only [wrap64]
    refine ⟨(i + 1, v9), by dsimp only; omega, by simp [Le, find], by dsimp only; omega, p0, r1, by omega, ?_⟩
    dsimp only
    rw [kindsV_succ hlt]
    exact o1
  · obtain rfl : i = g.n := by omega
    simp -dsimp only [go_sem, evs_len, Int.lt_irrefl, r1.cell]
    exact ⟨p0, o1.lower (by omega)⟩
end Go.Proofs.Tst
/-
  lives: the document's example, its verdicts, its relations.
-/
namespace Go.Proofs.Tst
open Go Go.Vc
def exG : Gr := ⟨1, [⟨-1, 2, 0, 0, 1⟩, ⟨0, 2, 0, 7, 1⟩, ⟨1, 1, 0, 7, 2⟩, ⟨1, 3, -1, 0, 5⟩], [(1, 2)], [[0, 1]], [], [], [], []⟩
theorem law8_example {h : Heap} (hz : 0 < h.size) :
    Con Tryd.prog 36 #[] h fun v h' => Fr 0 0 h h' ∧ ∃ q, v = .agg (gcells q exG).toArray ∧ GrOwn h' q exG h.size := by
  refine con_law8_example ?_
  have p0 : Fr 0 0 h h := .refl _ _ _
  simp -dsimp only [go_sem]
  intro b0 h1 n1
  have n1_a := n1.at_
  have n1_z := n1.size
  replace p0 := p0.fresh (n1.fr (lo := 0) (hi := 0)) (by omega)
  have r0 := n1.row
  simp -dsimp only [go_sem, r0.cell]
  intro b1 h2 n2
  have n2_a := n2.at_
  have n2_z := n2.size
  replace p0 := p0.fresh (n2.fr (lo := 0) (hi := 0)) (by omega)
  replace r0 := r0.fr (n2.fr (lo := 0) (hi := 0)) (by omega)
  have r1 := n2.row
  simp -dsimp only [go_sem, r0.cell, r1.cell]
  intro b2 h3 n3
  have n3_a := n3.at_
  have n3_z := n3.size
  replace p0 := p0.fresh (n3.fr (lo := 0) (hi := 0)) (by omega)
  replace r0 := r0.fr (n3.fr (lo := 0) (hi := 0)) (by omega)
  replace r1 := r1.fr (n3.fr (lo := 0) (hi := 0)) (by omega)
  have r2 := n3.row
  simp -dsimp only [go_sem, r0.cell, r1.cell, r2.cell]
  intro b3 h4 n4
  have n4_a := n4.at_
  have n4_z := n4.size
  replace p0 := p0.fresh (n4.fr (lo := 0) (hi := 0)) (by omega)
  replace r0 := r0.fr (n4.fr (lo := 0) (hi := 0)) (by omega)
  replace r1 := r1.fr (n4.fr (lo := 0) (hi := 0)) (by omega)
  replace r2 := r2.fr (n4.fr (lo := 0) (hi := 0)) (by omega)
  have r3 := n4.row
  simp -dsimp only [go_sem, r0.cell, r1.cell, r2.cell, r3.cell]
  intro b4 h5 n5
  have n5_a := n5.at_
  have n5_z := n5.size
  replace p0 := p0.fresh (n5.fr (lo := 0) (hi := 0)) (by omega)
  replace r0 := r0.fr (n5.fr (lo := 0) (hi := 0)) (by omega)
  replace r1 := r1.fr (n5.fr (lo := 0) (hi := 0)) (by omega)
  replace r2 := r2.fr (n5.fr (lo := 0) (hi := 0)) (by omega)
  replace r3 := r3.fr (n5.fr (lo := 0) (hi := 0)) (by omega)
  have r4 := n5.row
  simp -dsimp only [go_sem, r0.cell, r1.cell, r2.cell, r3.cell, r4.cell]
  refine Chk_intro (r0.wr (by first | (simp; done) | (simp; omega))) fun h6 s6 => ?_
  have s6_z := s6.size
  replace p0 := p0.fresh s6.fr (by omega)
  replace r1 := r1.fr s6.fr (by omega)
  replace r2 := r2.fr s6.fr (by omega)
  replace r3 := r3.fr s6.fr (by omega)
  replace r4 := r4.fr s6.fr (by omega)
  replace r0 := s6.row r0
  try simp only [cl_int, cl_bool, cl_slice, cl_ptr, putAt_one, List.set_cons_zero, List.set_cons_succ, ivec_set, brow_upd] at r0
  simp -dsimp only [go_sem] at r0
  simp -dsimp only [go_sem, r0.cell, r1.cell, r2.cell, r3.cell, r4.cell]
  refine ⟨p0, ⟨some ⟨b1, 0, none⟩, some ⟨b2, 0, none⟩, some ⟨b4, 0, none⟩, none, none, none, none, 4, 1, 1, 0, 0, 0, 0⟩, rfl, ?_⟩
  have hs : bl (.slice (some ⟨b1, 0, none⟩) 4 4) = b1 ∧ bh (.slice (some ⟨b1, 0, none⟩) 4 4) = b1 + 1 := ⟨rfl, rfl⟩
  refine ⟨holder_row (s := 5) (n := 4) r1 rfl (by omega), holder_row (s := 2) (n := 1) r2 rfl (by omega), ⟨[.slice (some ⟨b3, 0, none⟩) 2 2], ⟨holder_row (s := 1) (n := 1) r4 rfl (by omega), fun i w l hw hl => ?_, fun w hw => ?_⟩, by simp, fun w hw x hx => ?_⟩, .none _ _ _, .none _ _ _, .none _ _ _, .none _ _ _, fun x hx => ?_, ⟨by decide, by decide, by decide, by decide, by decide, by decide, by decide, by decide⟩⟩
  · match i, hw, hl with
    | 0, hw, hl =>
      have hl : some (intsV [0, 1]) = some l := hl
      cases hl
      simp at hw; subst hw
      exact holder_row (s := 1) (n := 2) r3 rfl (by omega)
    | i + 1, hw, hl => simp at hw
  · simp at hw; subst hw
    unfold Off bl bh; dsimp only; omega
  · simp only [List.mem_cons, List.not_mem_nil, or_false] at hw hx
    rcases hw with rfl | rfl <;> rcases hx with rfl | rfl | rfl | rfl | rfl | rfl <;> (unfold Off; simp [bl, bh, exG] <;> omega)
  · simp only [List.mem_cons, List.not_mem_nil, or_false] at hx
    rcases hx with rfl | rfl | rfl | rfl | rfl <;> (unfold Off; simp [bl, bh, exG] <;> omega)
theorem exG_false : exG.check false = (0, 0) := by decide +kernel
theorem exG_true : exG.check true = (2, 0) := by decide +kernel
theorem exG_good : exG.good = true := by unfold Gr.good; rw [exG_false]; rfl
set_option maxHeartbeats 1000000 in
theorem law8_lives {h : Heap} (ht : TabAt h) :
    Con Tryd.prog 15 #[] h fun v h' => Fr 0 0 h h' ∧ v = .bool true := by
  refine con_law8_lives ?_
  have hz : 0 < h.size := hcell_lt (ht 0 0 rfl)
  have p0 : Fr 0 0 h h := .refl _ _ _
  simp -dsimp only [go_sem]
  refine call_of (law8_example hz) ?_
  rintro v1 h1 ⟨f1, q, rfl, t⟩
  replace t := t.at_
  have p1 : Fr 0 0 h1 h1 := .refl _ _ _
  have f1_z := f1.size
  replace p0 := p0.fresh f1 (by omega)
  unfold gcells
  simp -dsimp only [go_sem]
  intro b1 h2 n2
  have n2_a := n2.at_
  have n2_z := n2.size
  replace p0 := p0.fresh (n2.fr (lo := 0) (hi := 0)) (by omega)
  replace p1 := p1.fresh (n2.fr (lo := 0) (hi := 0)) (by omega)
  have r1 := n2.row
  simp -dsimp only [go_sem, r1.cell]
  refine Chk_intro (r1.wr (by first | (simp; done) | (simp; omega))) fun h3 s3 => ?_
  have s3_z := s3.size
  replace p0 := p0.fresh s3.fr (by omega)
  replace p1 := p1.fresh s3.fr (by omega)
  replace r1 := s3.row r1
  try simp only [cl_int, cl_bool, cl_slice, cl_ptr, putAt_one, List.set_cons_zero, List.set_cons_succ, ivec_set, brow_upd] at r1
  simp -dsimp only [go_sem] at r1
  simp -dsimp only [go_sem, r1.cell]
  refine call_of (graph_Check (t.fr p1) false) ?_
  rintro v4 h4 ⟨f4, rfl⟩
  have f4_z := f4.size
  replace p0 := p0.fresh f4 (by omega)
  replace p1 := p1.fresh f4 (by omega)
  replace r1 := r1.fr f4 (by omega)
  rw [exG_false]
  simp -dsimp only [go_sem, r1.cell]
  refine call_of (graph_Check (t.fr p1) true) ?_
  rintro v5 h5 ⟨f5, rfl⟩
  have f5_z := f5.size
  replace p0 := p0.fresh f5 (by omega)
  replace p1 := p1.fresh f5 (by omega)
  replace r1 := r1.fr f5 (by omega)
  rw [exG_true]
  simp -dsimp only [go_sem, r1.cell]
  refine call_of (graph_Derive (t.fr p1) (ht.fr p0 (.inr rfl))) ?_
  rintro v6 h6 ⟨f6, w⟩
  have f6_z := f6.size
  replace p0 := p0.fresh f6 (by omega)
  replace p1 := p1.fresh f6 (by omega)
  replace r1 := r1.fr f6 (by omega)
  rw [if_pos exG_good] at w
  obtain ⟨p, rd, wr, fe, rfl, F⟩ := w
  obtain ⟨A, B, D, dlo, dap⟩ := F.rel
  have o1 := F.hrd
  have o2 := F.hwr
  have o3 := F.hfe
  obtain ⟨rda, rdc, rfl⟩ := o1.is
  obtain ⟨wra, wrc, rfl⟩ := o2.is
  obtain ⟨fea, fec, rfl⟩ := o3.is
  have oc : ∀ k, k < 10 → (p k).oneCell' = true := fun k hk => by obtain ⟨_, e⟩ := progPtr (D.at_ k hk); rw [e]; rfl
  obtain ⟨c0, e0⟩ := progPtr (D.at_ 0 (by decide))
  obtain ⟨c1, e1⟩ := progPtr (D.at_ 1 (by decide))
  obtain ⟨c5, e5⟩ := progPtr (D.at_ 5 (by decide))
  have g0 := D.at_ 0 (by decide)
  have g5 := D.at_ 5 (by decide)
  rw [e0] at g0
  rw [e5] at g5
  have dR := o1.rd
  have ab0 := dlo 0 (by decide)
  have ab5 := dlo 5 (by decide)
  clear o1 o2 o3 F D dap
  unfold fcells
  have p6 : Fr 0 0 h6 h6 := .refl _ _ _
  simp -dsimp only [go_sem, r1.cell]
  intro b6 h7 n7
  have n7_a := n7.at_
  have n7_z := n7.size
  replace p0 := p0.fresh (n7.fr (lo := 0) (hi := 0)) (by omega)
  replace p1 := p1.fresh (n7.fr (lo := 0) (hi := 0)) (by omega)
  replace r1 := r1.fr (n7.fr (lo := 0) (hi := 0)) (by omega)
  replace g0 := g0.fr (n7.fr (lo := 0) (hi := 0)) (by omega)
  replace g5 := g5.fr (n7.fr (lo := 0) (hi := 0)) (by omega)
  replace p6 := p6.fresh (n7.fr (lo := 0) (hi := 0)) (by omega)
  have r6 := n7.row
  simp -dsimp only [go_sem, e0, e1, e5, oc 2 (by decide), oc 3 (by decide), oc 4 (by decide), oc 6 (by decide), oc 7 (by decide), oc 8 (by decide), oc 9 (by decide), r1.cell, r6.cell]
  refine Chk_intro (r6.wr (by first | (simp; done) | (simp; omega))) fun h8 s8 => ?_
  have s8_z := s8.size
  replace p0 := p0.fresh s8.fr (by omega)
  replace p1 := p1.fresh s8.fr (by omega)
  replace r1 := r1.fr s8.fr (by omega)
  replace g0 := g0.fr s8.fr (by omega)
  replace g5 := g5.fr s8.fr (by omega)
  replace p6 := p6.fresh s8.fr (by omega)
  replace r6 := s8.row r6
  try simp only [cl_int, cl_bool, cl_slice, cl_ptr, putAt_one, List.set_cons_zero, List.set_cons_succ, ivec_set, brow_upd] at r6
  simp -dsimp only [go_sem] at r6
  simp -dsimp only [go_sem, r1.cell, r6.cell]
  refine call_of (graph_Final (t.fr p1)) ?_
  rintro v9 h9 ⟨f9, w⟩
  have f9_z := f9.size
  replace p0 := p0.fresh f9 (by omega)
  replace p1 := p1.fresh f9 (by omega)
  replace r1 := r1.fr f9 (by omega)
  replace g0 := g0.fr f9 (by omega)
  replace g5 := g5.fr f9 (by omega)
  replace p6 := p6.fresh f9 (by omega)
  replace r6 := r6.fr f9 (by omega)
  rw [if_pos exG_good] at w
  obtain ⟨fv, rfl, o9⟩ := w
  have hfin : finals exG = [7] := by decide +kernel
  rw [hfin] at o9
  have p9 : Fr 0 0 h9 h9 := .refl _ _ _
  simp -dsimp only [go_sem, e0, e1, e5, r1.cell, r6.cell]
  intro b10 h10 n10
  have n10_a := n10.at_
  have n10_z := n10.size
  replace p0 := p0.fresh (n10.fr (lo := 0) (hi := 0)) (by omega)
  replace p1 := p1.fresh (n10.fr (lo := 0) (hi := 0)) (by omega)
  replace r1 := r1.fr (n10.fr (lo := 0) (hi := 0)) (by omega)
  replace g0 := g0.fr (n10.fr (lo := 0) (hi := 0)) (by omega)
  replace g5 := g5.fr (n10.fr (lo := 0) (hi := 0)) (by omega)
  replace p6 := p6.fresh (n10.fr (lo := 0) (hi := 0)) (by omega)
  replace r6 := r6.fr (n10.fr (lo := 0) (hi := 0)) (by omega)
  replace p9 := p9.fresh (n10.fr (lo := 0) (hi := 0)) (by omega)
  have r10 := n10.row
  simp -dsimp only [go_sem, r1.cell, r6.cell, r10.cell]
  have d10 : Rd 1 h10 (.slice (some ⟨b10, 0, none⟩) 1 1) 1 (wordsV [7]) := (holder_row (s := 1) (n := 1) (lo := 0) r10 rfl (by omega)).rd
  refine call_of (c_law8_words (l := [7]) (m := [7]) (o9.rd.fr p9) d10 (by decide)) ?_
  rintro v11 h11 ⟨rfl, rfl⟩
  simp -dsimp only [go_sem, show decide (([7] : List Int) = [7]) = true from rfl, e0, r1.cell, r6.cell, r10.cell]
  refine call_of (rel_Pairs g0 (ht.fr p0 (.inr rfl))) ?_
  rintro v12 h12 ⟨f12, o12⟩
  have f12_z := f12.size
  replace p0 := p0.fresh f12 (by omega)
  replace p1 := p1.fresh f12 (by omega)
  replace r1 := r1.fr f12 (by omega)
  replace g0 := g0.fr f12 (by omega)
  replace g5 := g5.fr f12 (by omega)
  replace p6 := p6.fresh f12 (by omega)
  replace r6 := r6.fr f12 (by omega)
  replace p9 := p9.fresh f12 (by omega)
  replace r10 := r10.fr f12 (by omega)
  have hpp : pairsOf exG.n (relM exG 0) = [(2, 3)] := by decide +kernel
  rw [hpp] at o12
  have p12 : Fr 0 0 h12 h12 := .refl _ _ _
  simp -dsimp only [go_sem, r1.cell, r6.cell, r10.cell]
  intro b13 h13 n13
  have n13_a := n13.at_
  have n13_z := n13.size
  replace p0 := p0.fresh (n13.fr (lo := 0) (hi := 0)) (by omega)
  replace p1 := p1.fresh (n13.fr (lo := 0) (hi := 0)) (by omega)
  replace r1 := r1.fr (n13.fr (lo := 0) (hi := 0)) (by omega)
  replace g0 := g0.fr (n13.fr (lo := 0) (hi := 0)) (by omega)
  replace g5 := g5.fr (n13.fr (lo := 0) (hi := 0)) (by omega)
  replace p6 := p6.fresh (n13.fr (lo := 0) (hi := 0)) (by omega)
  replace r6 := r6.fr (n13.fr (lo := 0) (hi := 0)) (by omega)
  replace p9 := p9.fresh (n13.fr (lo := 0) (hi := 0)) (by omega)
  replace r10 := r10.fr (n13.fr (lo := 0) (hi := 0)) (by omega)
  replace p12 := p12.fresh (n13.fr (lo := 0) (hi := 0)) (by omega)
  have r13 := n13.row
  simp -dsimp only [go_sem, r1.cell, r6.cell, r10.cell, r13.cell]
  have d13 : Rd 2 h13 (.slice (some ⟨b13, 0, none⟩) 1 1) 1 (pairsV [(2, 3)]) := (holder_row (s := 2) (n := 1) (lo := 0) r13 rfl (by omega)).rd
  refine call_of (c_law8_pairs (l := [(2, 3)]) (m := [(2, 3)]) (o12.rd.fr p12) d13 (by decide)) ?_
  rintro v14 h13 ⟨rfl, rfl⟩
  simp -dsimp only [go_sem, show decide (([(2, 3)] : List (Int × Int)) = [(2, 3)]) = true from rfl, e5, r1.cell, r6.cell, r10.cell, r13.cell]
  refine call_of (rel_Has g5 0 1) ?_
  rintro v15 h13 ⟨rfl, rfl⟩
  have hhas : (inR exG.n 0 && inR exG.n 1 && relM exG 5 (Int.toNat 0) (Int.toNat 1)) = true := by decide +kernel
  simp -dsimp only [go_sem, hhas, r1.cell, r6.cell, r10.cell, r13.cell]
  intro b16 h16 n16
  have n16_a := n16.at_
  have n16_z := n16.size
  replace p0 := p0.fresh (n16.fr (lo := 0) (hi := 0)) (by omega)
  replace p1 := p1.fresh (n16.fr (lo := 0) (hi := 0)) (by omega)
  replace r1 := r1.fr (n16.fr (lo := 0) (hi := 0)) (by omega)
  replace g0 := g0.fr (n16.fr (lo := 0) (hi := 0)) (by omega)
  replace g5 := g5.fr (n16.fr (lo := 0) (hi := 0)) (by omega)
  replace p6 := p6.fresh (n16.fr (lo := 0) (hi := 0)) (by omega)
  replace r6 := r6.fr (n16.fr (lo := 0) (hi := 0)) (by omega)
  replace p9 := p9.fresh (n16.fr (lo := 0) (hi := 0)) (by omega)
  replace r10 := r10.fr (n16.fr (lo := 0) (hi := 0)) (by omega)
  replace p12 := p12.fresh (n16.fr (lo := 0) (hi := 0)) (by omega)
  replace r13 := r13.fr (n16.fr (lo := 0) (hi := 0)) (by omega)
  have r16 := n16.row
  simp -dsimp only [go_sem, r1.cell, r6.cell, r10.cell, r13.cell, r16.cell]
  have hrd : kindsV exG 1 exG.n = [false, false, true, false] := by decide +kernel
  rw [hrd] at dR
  have d16 : Rd 1 h16 (.slice (some ⟨b16, 0, none⟩) 4 4) 4 (boolsV [false, false, true, false]) := (holder_row (s := 1) (n := 4) (lo := 0) r16 rfl (by omega)).rd
  refine call_of (c_law8_truths (l := [false, false, true, false]) (m := [false, false, true, false]) (dR.fr p6) d16 (by decide)) ?_
  rintro v17 h16 ⟨rfl, rfl⟩
  simp -dsimp only [go_sem, show decide (([false, false, true, false] : List Bool) = [false, false, true, false]) = true from rfl, r1.cell, r6.cell, r10.cell, r13.cell, r16.cell]
  refine call_of (graph_Thread (t.fr p1) 1) ?_
  rintro v18 h18 ⟨f18, o18⟩
  have f18_z := f18.size
  replace p0 := p0.fresh f18 (by omega)
  replace p1 := p1.fresh f18 (by omega)
  replace r1 := r1.fr f18 (by omega)
  replace g0 := g0.fr f18 (by omega)
  replace g5 := g5.fr f18 (by omega)
  replace p6 := p6.fresh f18 (by omega)
  replace r6 := r6.fr f18 (by omega)
  replace p9 := p9.fresh f18 (by omega)
  replace r10 := r10.fr f18 (by omega)
  replace p12 := p12.fresh f18 (by omega)
  replace r13 := r13.fr f18 (by omega)
  replace r16 := r16.fr f18 (by omega)
  have hth : threadL exG 1 = [2, 3] := by decide +kernel
  rw [hth] at o18
  have p18 : Fr 0 0 h18 h18 := .refl _ _ _
  simp -dsimp only [go_sem, r1.cell, r6.cell, r10.cell, r13.cell, r16.cell]
  intro b19 h19 n19
  have n19_a := n19.at_
  have n19_z := n19.size
  replace p0 := p0.fresh (n19.fr (lo := 0) (hi := 0)) (by omega)
  replace p1 := p1.fresh (n19.fr (lo := 0) (hi := 0)) (by omega)
  replace r1 := r1.fr (n19.fr (lo := 0) (hi := 0)) (by omega)
  replace g0 := g0.fr (n19.fr (lo := 0) (hi := 0)) (by omega)
  replace g5 := g5.fr (n19.fr (lo := 0) (hi := 0)) (by omega)
  replace p6 := p6.fresh (n19.fr (lo := 0) (hi := 0)) (by omega)
  replace r6 := r6.fr (n19.fr (lo := 0) (hi := 0)) (by omega)
  replace p9 := p9.fresh (n19.fr (lo := 0) (hi := 0)) (by omega)
  replace r10 := r10.fr (n19.fr (lo := 0) (hi := 0)) (by omega)
  replace p12 := p12.fresh (n19.fr (lo := 0) (hi := 0)) (by omega)
  replace r13 := r13.fr (n19.fr (lo := 0) (hi := 0)) (by omega)
  replace r16 := r16.fr (n19.fr (lo := 0) (hi := 0)) (by omega)
  replace p18 := p18.fresh (n19.fr (lo := 0) (hi := 0)) (by omega)
  have r19 := n19.row
  simp -dsimp only [go_sem, r1.cell, r6.cell, r10.cell, r13.cell, r16.cell, r19.cell]
  have d19 : Rd 1 h19 (.slice (some ⟨b19, 0, none⟩) 2 2) 2 (intsV [2, 3]) := (holder_row (s := 1) (n := 2) (lo := 0) r19 rfl (by omega)).rd
  refine call_of (c_law8_ints (l := [2, 3]) (m := [2, 3]) (o18.rd.fr p18) d19 (by decide)) ?_
  rintro v20 h19 ⟨rfl, rfl⟩
  simp -dsimp only [go_sem, show decide (([2, 3] : List Int) = [2, 3]) = true from rfl, r1.cell, r6.cell, r10.cell, r13.cell, r16.cell, r19.cell]
  exact p0
end Go.Proofs.Tst
/-
  GraphChecks, GraphSees.
-/
namespace Go.Proofs.Tst
open Go Go.Vc
end Go.Proofs.Tst
/-
  GraphSees.
-/
namespace Go.Proofs.Tst
open Go Go.Vc
theorem dec_self {α : Type} [DecidableEq α] (x : α) : decide (x = x) = true := by simp
end Go.Proofs.Tst
/-
  Plain laws of good graphs.
-/
namespace Go.Proofs.Tst
open Go Go.Vc
/-- What a good graph's list holds. -/
theorem co_list {g : Gr} (hg : g.good = true) {c : Nat} (hc : c < g.co.length) : (g.co.getD c []).Nodup ∧ (∀ w ∈ g.co.getD c [], g.is w 2 = true ∧ (g.ev w.toNat).loc = (c : Int)) ∧ (g.co.getD c []).length = g.writesOf c := by
  have hb := (good_co hg).2 c hc
  rw [coBad_of] at hb
  simp only [Bool.not_eq_false', Bool.and_eq_true, beq_iff_eq] at hb
  obtain ⟨hok, hlen⟩ := hb
  unfold coOk coGood at hok
  simp only [Bool.and_eq_true, List.all_eq_true, decide_eq_true_eq, beq_iff_eq] at hok
  exact ⟨hok.2, fun w hw => hok.1.2 w hw, hlen⟩
end Go.Proofs.Tst
/-
  GraphLaws.
-/
namespace Go.Proofs.Tst
open Go Go.Vc
end Go.Proofs.Tst
/-
  The document's own Pairs.
-/
namespace Go.Proofs.Tst
open Go Go.Vc
def upto (f : Nat → Bool) (i j : Nat) : List (Int × Int) := ((List.range j).filter f).map fun (b : Nat) => ((i : Int), (b : Int))
theorem upto_zero {f : Nat → Bool} {i : Nat} : upto f i 0 = [] := rfl
theorem upto_succ {f : Nat → Bool} {i j : Nat} : upto f i (j + 1) = if f j = true then upto f i j ++ [((i : Int), (j : Int))] else upto f i j := by
  unfold upto
  rw [List.range_succ, List.filter_append, List.map_append]
  by_cases h : f j = true <;> simp [h]
theorem upto_len {f : Nat → Bool} {i j : Nat} : (upto f i j).length ≤ j := by
  unfold upto; rw [List.length_map]; exact Nat.le_trans (List.length_filter_le _ _) (by simp)
theorem upto_end {f : Nat → Bool} {i n : Nat} : upto f i n = (rest f n 0).map fun (b : Nat) => ((i : Int), (b : Int)) := by
  unfold upto rest; rw [Nat.sub_zero, List.range_eq_range']
theorem ref1_Pairs {n : Nat} {M : Nat → Nat → Bool} {rv : Value} {lo hi : Nat} {h : Heap} (hr : RefAt h lo hi rv n M) :
    Con Tryd.prog 99 #[rv] h fun v h' => Fr 0 0 h h' ∧ Holder 2 h' v (pairsOf n M).length (pairsV (pairsOf n M)) h.size := by
  refine con_ref1_Pairs ?_
  obtain ⟨hn, s, R, rfl, t⟩ := hr
  obtain ⟨sa, sc, rfl⟩ := t.own.is
  have p0 : Fr 0 0 h h := .refl _ _ _
  simp -dsimp only [go_sem]
  intro b1 h1 n1
  have n1_a := n1.at_
  have n1_z := n1.size
  replace p0 := p0.fresh (n1.fr (lo := 0) (hi := 0)) (by omega)
  have r1 := n1.row
  simp -dsimp only [go_sem, r1.cell]
  refine loop_intro (fun s : Nat × Value => [(1, .pointer (some ⟨b1, 0, none⟩)), (3, s.2), (4, .int .i64 s.1)])
    (fun s h' => s.1 ≤ n ∧ Fr 0 0 h h' ∧ h1.size ≤ h'.size ∧ Rw h' b1 [.int .i64 n, .slice sa n sc] ∧ Holder 2 h' s.2 (pairsTo n M s.1).length (pairsV (pairsTo n M s.1)) h1.size) (fun s => n - s.1) (0, .slice none 0 0) ?_ ?_ ?_
  · simp [Le, find]
  · exact ⟨by omega, p0, by omega, r1, .none _ _ _⟩
  rintro ⟨i, ov⟩ h2 ⟨hi, p0, y2, r1, oo⟩
  dsimp only at hi oo ⊢
  have p0_z := p0.size
  have r1_l := r1.lt
  have oo_l := oo.top
  simp -dsimp only [go_sem, r1.cell]
  refine ⟨fun hlt => ?_, fun hge => ?_⟩
  · have hlt : i < n := by omega
    have g4 := length_pairsTo_le n M i
    have g3 : i * n ≤ 256 * 256 := Nat.mul_le_mul (by omega) (by omega)
    have k1 : b1 < h1.size := by omega
    simp -dsimp only [go_sem, r1.cell]
    refine loop_intro (fun s : Nat × Value => [(1, .pointer (some ⟨b1, 0, none⟩)), (3, s.2), (4, .int .i64 i), (5, .int .i64 s.1)])
      (fun s h' => s.1 ≤ n ∧ Fr 0 0 h h' ∧ h1.size ≤ h'.size ∧ Rw h' b1 [.int .i64 n, .slice sa n sc] ∧ Holder 2 h' s.2 (pairsTo n M i ++ upto (M i) i s.1).length (pairsV (pairsTo n M i ++ upto (M i) i s.1)) h1.size) (fun s => n - s.1) (0, ov) ?_ ?_ ?_
    · simp [Le, find]
    · exact ⟨by omega, p0, by omega, r1, by simpa [upto_zero] using oo⟩
    rintro ⟨j, ov⟩ h3 ⟨hj, p0, y3, r1, oo⟩
    dsimp only at hj oo ⊢
    have p0_z := p0.size
    have r1_l := r1.lt
    have oo_l := oo.top
    have hul := upto_len (f := M i) (i := i) (j := j)
    have hal : (pairsTo n M i ++ upto (M i) i j).length = (pairsTo n M i).length + (upto (M i) i j).length := List.length_append
    obtain ⟨oa, oc, rfl⟩ := oo.is
    simp -dsimp only [go_sem, r1.cell]
    refine ⟨fun hlt2 => ?_, fun hge2 => ?_⟩
    · have hlt2 : j < n := by omega
      have t := t.fr p0 (by omega)
      simp -dsimp only [go_sem, r1.cell]
      refine Chk_intro (by omega) (t.idx hlt fun b4 o4 c4 => ?_)
      simp -dsimp only [go_sem, c4, r1.cell]
      refine Chk_intro (by omega) ?_
      simp -dsimp only [go_sem, t.cell hlt hlt2, r1.cell]
      cases hm : M i j with
      | false =>
        have eu : upto (M i) i (j + 1) = upto (M i) i j := by rw [upto_succ, if_neg (by simp [hm])]
        simp -dsimp only [go_sem, r1.cell]
        simp -dsimp (disch := omega) only [wrap64]
        exact ⟨(j + 1, .slice oa (pairsTo n M i ++ upto (M i) i j).length oc), by first | omega | (dsimp only; omega), by simp [Le, find], by first | omega | (dsimp only; omega), p0, by omega, r1, by dsimp only; rw [eu]; exact oo⟩
      | true =>
        have eu : upto (M i) i (j + 1) = upto (M i) i j ++ [((i : Int), (j : Int))] := by rw [upto_succ, if_pos hm]
        simp -dsimp only [go_sem, r1.cell]
        intro b5 h5 n5
        have n5_a := n5.at_
        have n5_z := n5.size
        replace p0 := p0.fresh (n5.fr (lo := 0) (hi := 0)) (by omega)
        replace r1 := r1.fr (n5.fr (lo := 0) (hi := 0)) (by omega)
        replace oo := oo.fr (n5.fr (lo := 0) (hi := 0)) (by have := oo.at_; omega)
        have r5 := n5.row
        simp -dsimp only [go_sem, r1.cell, r5.cell]
        refine oo.append (by omega) rfl (by omega) (by simp) (by omega) fun v6 h6 o_new f6 e_app => ?_
        have f6_z := f6.size
        have o_at := oo.at_
        replace p0 := p0.fresh f6 (by omega)
        replace r1 := r1.fr f6 (by omega)
        replace r5 := r5.fr f6 (by omega)
        clear o_at e_app
        replace oo := o_new
        have oo_l := oo.top
        simp -dsimp only [go_sem, r1.cell, r5.cell]
        simp -dsimp (disch := omega) only [wrap64]
        exact ⟨(j + 1, v6), by first | omega | (dsimp only; omega), by simp [Le, find], by first | omega | (dsimp only; omega), p0, by omega, r1, by dsimp only; rw [eu, ← List.append_assoc, pairsV_append, List.length_append]; exact oo⟩
    · have hjn : j = n := by omega
      subst hjn
      have eu : pairsTo j M i ++ upto (M i) i j = pairsTo j M (i + 1) := by rw [pairsTo_succ, upto_end]
      rw [eu] at oo ⊢
      simp -dsimp only [go_sem, r1.cell]
      simp -dsimp (disch := omega) only [wrap64]
      exact ⟨(i + 1, .slice oa (pairsTo j M (i + 1)).length oc), by first | omega | (dsimp only; omega), by simp [Le, find], by first | omega | (dsimp only; omega), p0, by omega, r1, oo⟩
  · have hin : i = n := by omega
    subst hin
    simp -dsimp only [go_sem, r1.cell]
    exact ⟨p0, oo.lower (by omega)⟩
end Go.Proofs.Tst
/-
  Is a relation of the program's the document's?
-/
namespace Go.Proofs.Tst
open Go Go.Vc
theorem c_law8_is {n : Nat} {M : Nat → Nat → Bool} {pv rv : Value} {lo hi lo' hi' : Nat} {h : Heap} (ht : TabAt h) (hr : ProgAt h lo hi pv n M) (hs : RefAt h lo' hi' rv n M) :
    Con Tryd.prog 66 #[pv, rv] h fun v h' => Fr 0 0 h h' ∧ v = .bool true := by
  refine con_law8_is ?_
  have hs0 := hs
  obtain ⟨hn, s, R, rfl, t⟩ := hs
  obtain ⟨sa, sc, rfl⟩ := t.own.is
  obtain ⟨pb, rfl⟩ := progPtr hr
  have p0 : Fr 0 0 h h := .refl _ _ _
  simp -dsimp only [go_sem]
  intro b1 h1 n1
  have n1_a := n1.at_
  have n1_z := n1.size
  replace p0 := p0.fresh (n1.fr (lo := 0) (hi := 0)) (by omega)
  have r1 := n1.row
  simp -dsimp only [go_sem, r1.cell]
  refine call_of (rel_Len (hr.fr p0 (by omega))) ?_
  rintro v h2 ⟨hh, rfl⟩
  obtain rfl : h1 = h2 := hh.symm
  simp -dsimp only [go_sem, beq_self_eq_true, r1.cell]
  refine call_of (rel_Pairs (hr.fr p0 (by omega)) (ht.fr p0 (by omega))) ?_
  rintro v h3 ⟨f3, o3⟩
  have f3_z := f3.size
  replace p0 := p0.fresh f3 (by omega)
  replace r1 := r1.fr f3 (by omega)
  simp -dsimp only [go_sem, beq_self_eq_true, r1.cell]
  refine call_of (ref1_Pairs (hs0.fr p0 (by omega))) ?_
  rintro v h4 ⟨f4, o4⟩
  have f4_z := f4.size
  replace p0 := p0.fresh f4 (by omega)
  replace r1 := r1.fr f4 (by omega)
  replace o3 := o3.fr f4 (by have := o3.at_; omega)
  have hpl : (pairsOf n M).length ≤ 4611686018427387904 := by
    have g4 : (pairsOf n M).length ≤ n * n := length_pairsTo_le n _ n
    have g3 : n * n ≤ 256 * 256 := Nat.mul_le_mul (by omega) (by omega)
    omega
  simp -dsimp only [go_sem, beq_self_eq_true, r1.cell]
  refine call_of (c_law8_pairs o3.rd o4.rd hpl) ?_
  rintro v h5 ⟨hh, rfl⟩
  obtain rfl : h4 = h5 := hh.symm
  rw [decide_eq_true rfl]
  simp -dsimp only [go_sem, beq_self_eq_true, r1.cell]
  exact p0
end Go.Proofs.Tst
namespace Go.Proofs.Tst
open Go Go.Vc
theorem ref1_Wide {n : Nat} {M : Nat → Nat → Bool} {rv : Value} {lo hi : Nat} {h : Heap} (hr : RefAt h lo hi rv n M) (k : Nat) (hk : k ≤ 256) :
    Con Tryd.prog 116 #[rv, .int .i64 k] h fun v h' => Fr 0 0 h h' ∧ RefAt h' h.size h'.size v (max k n) (inN n M) := by
  refine con_ref1_Wide ?_
  obtain ⟨hn, s, R, rfl, t⟩ := hr
  obtain ⟨sa, sc, rfl⟩ := t.own.is
  have hcl : clampN (max k n : Nat) = max k n := by unfold clampN; omega
  have p0 : Fr 0 0 h h := .refl _ _ _
  simp -dsimp only [go_sem]
  intro b2 h2 n2
  have n2_a := n2.at_
  have n2_z := n2.size
  replace p0 := p0.fresh (n2.fr (lo := 0) (hi := 0)) (by omega)
  have r2 := n2.row
  simp -dsimp only [go_sem, r2.cell]
  intro b4 h4 n4
  have n4_a := n4.at_
  have n4_z := n4.size
  replace p0 := p0.fresh (n4.fr (lo := 0) (hi := 0)) (by omega)
  replace r2 := r2.fr (n4.fr (lo := 0) (hi := 0)) (by omega)
  have r4 := n4.row
  simp -dsimp only [go_sem, r2.cell, r4.cell]
  refine If_joint (fun m : Int => [(1, .int .i64 m), (2, .pointer (some ⟨b2, 0, none⟩)), (4, .pointer (some ⟨b4, 0, none⟩))]) (fun m h' => h' = h4 ∧ m = (max k n : Nat)) (fun hgt => ?_) (fun hle => ?_) ?_
  · simp -dsimp only [go_sem, r2.cell, r4.cell]
    exact ⟨(n : Nat), by simp [Le, find], by omega⟩
  · simp -dsimp only [go_sem, r2.cell, r4.cell]
    exact ⟨(k : Nat), by simp [Le, find], by omega⟩
  rintro m h5 ⟨rfl, rfl⟩ e ⟨e1, e2, e4, -⟩
  simp -dsimp only [go_sem, e1, e2, e4, r2.cell, r4.cell]
  refine call_of (ref1_New (max k n : Nat) h5) ?_
  rintro v h6 ⟨f6, t6⟩
  rw [hcl] at t6
  obtain ⟨hmx, z, Z, rfl, t6⟩ := t6
  obtain ⟨za, zc, rfl⟩ := t6.own.is
  have t6_a := t6.own.at_
  have f6_z := f6.size
  replace p0 := p0.fresh f6 (by omega)
  replace r2 := r2.fr f6 (by omega)
  replace r4 := r4.fr f6 (by omega)
  simp -dsimp only [go_sem, e2, e4, r2.cell, r4.cell]
  intro b7 h7 n7
  have n7_a := n7.at_
  have n7_z := n7.size
  replace p0 := p0.fresh (n7.fr (lo := 0) (hi := 0)) (by omega)
  replace r2 := r2.fr (n7.fr (lo := 0) (hi := 0)) (by omega)
  replace r4 := r4.fr (n7.fr (lo := 0) (hi := 0)) (by omega)
  replace t6 := t6.fr (n7.fr (lo := 0) (hi := 0)) (by omega)
  have r7 := n7.row
  simp -dsimp only [go_sem, e2, e4, r2.cell, r4.cell, r7.cell]
  refine Chk_intro (r7.wr (by first | (simp; done) | (simp; omega))) fun h8 s8 => ?_
  have s8_z := s8.size
  replace p0 := p0.fresh s8.fr (by omega)
  replace r2 := r2.fr s8.fr (by omega)
  replace r4 := r4.fr s8.fr (by omega)
  replace t6 := t6.fr s8.fr (by omega)
  replace r7 := s8.row r7
  try simp only [cl_int, cl_bool, cl_slice, cl_ptr, putAt_one, List.set_cons_zero, List.set_cons_succ, ivec_set, brow_upd] at r7
  simp -dsimp only [go_sem, e2, e4, r2.cell, r4.cell, r7.cell]
  refine loop_intro (fun p : Nat => [(2, .pointer (some ⟨b2, 0, none⟩)), (4, .pointer (some ⟨b4, 0, none⟩)), (5, .pointer (some ⟨b7, 0, none⟩)), (6, .int .i64 p)]) (fun p h' => p ≤ n ∧ Fr 0 0 h h' ∧ h8.size ≤ h'.size ∧ Rw h' b2 [.int .i64 n, .slice sa n sc] ∧ Rw h' b4 [.int .i64 0, .slice none 0 0] ∧ Rw h' b7 [.int .i64 (max k n : Nat), .slice za (max k n) zc] ∧ Tab h' h5.size h6.size (.slice za (max k n) zc) (max k n) (max k n) Z (mixM p 0 n (M) (fun _ _ => false))) (fun p => n - p) 0 ?_ ?_ ?_
  · simp [Le, find]
  · exact ⟨by omega, p0, by omega, r2, r4, r7, t6.congr fun i j _ _ => by rw [mixM_zero]⟩
  rintro p hP ⟨hp, p0, yP, r2, r4, r7, t6⟩
  have p0_z := p0.size
  have r2_l := r2.lt
  have r4_l := r4.lt
  have r7_l := r7.lt
  simp -dsimp only [go_sem, r2.cell, r4.cell, r7.cell]
  refine ⟨fun hlt1 => ?_, fun hge1 => ?_⟩
  · have hlt1 : p < n := by omega
    simp -dsimp only [go_sem, r2.cell, r4.cell, r7.cell]
    refine loop_intro (fun q : Nat => [(2, .pointer (some ⟨b2, 0, none⟩)), (4, .pointer (some ⟨b4, 0, none⟩)), (5, .pointer (some ⟨b7, 0, none⟩)), (6, .int .i64 p), (7, .int .i64 q)]) (fun q h' => q ≤ n ∧ Fr 0 0 h h' ∧ h8.size ≤ h'.size ∧ Rw h' b2 [.int .i64 n, .slice sa n sc] ∧ Rw h' b4 [.int .i64 0, .slice none 0 0] ∧ Rw h' b7 [.int .i64 (max k n : Nat), .slice za (max k n) zc] ∧ Tab h' h5.size h6.size (.slice za (max k n) zc) (max k n) (max k n) Z (mixM p q n (M) (fun _ _ => false))) (fun q => n - q) 0 ?_ ?_ ?_
    · simp [Le, find]
    · exact ⟨by omega, p0, by omega, r2, r4, r7, t6⟩
    rintro q hQ ⟨hq, p0, yQ, r2, r4, r7, t6⟩
    have p0_z := p0.size
    have r2_l := r2.lt
    have r4_l := r4.lt
    have r7_l := r7.lt
    simp -dsimp only [go_sem, r2.cell, r4.cell, r7.cell]
    refine ⟨fun hlt2 => ?_, fun hge2 => ?_⟩
    · have hlt2 : q < n := by omega
      have tp := t.fr p0 (by omega)
      simp -dsimp only [go_sem, r2.cell, r4.cell, r7.cell]
      refine Chk_intro (by omega) (t6.idx (p := p) (by omega) fun b9 o9 c9 => ?_)
      simp -dsimp only [go_sem, c9, r2.cell, r4.cell, r7.cell]
      refine Chk_intro (by omega) (tp.idx hlt1 fun b10 o10 c10 => ?_)
      simp -dsimp only [go_sem, c10, r2.cell, r4.cell, r7.cell]
      refine Chk_intro (by omega) ?_
      simp -dsimp only [go_sem, tp.cell hlt1 hlt2, r2.cell, r4.cell, r7.cell]
      refine Chk_intro (by omega) ?_
      simp -dsimp only [go_sem, r2.cell, r4.cell, r7.cell]
      refine Chk_intro (t6.wr (by omega) (by omega)) fun h9 s9 => ?_
      have s9_z := s9.size
      have w_row := t6.row p (by omega)
      have t_new := t6.set (p := p) (q := q) (by omega) s9
      replace p0 := p0.fresh s9.fr (by omega)
      replace r2 := r2.fr s9.fr (by omega)
      replace r4 := r4.fr s9.fr (by omega)
      replace r7 := r7.fr s9.fr (by omega)
      simp -dsimp only [go_sem, r2.cell, r4.cell, r7.cell]
      simp -dsimp (disch := omega) only [wrap64]
      exact ⟨q + 1, by omega, by simp [Le, find], by omega, p0, by omega, r2, r4, r7, t_new.congr fun i j hi hj => mixM_set (rfl)⟩
    · have hqn : q = n := by omega
      simp -dsimp only [go_sem, r2.cell, r4.cell, r7.cell]
      simp -dsimp (disch := omega) only [wrap64]
      exact ⟨p + 1, by omega, by simp [Le, find], by omega, p0, by omega, r2, r4, r7, t6.congr fun i j _ _ => by rw [hqn]; exact mixM_next⟩
  have hpn : p = n := by omega
  simp -dsimp only [go_sem, r2.cell, r4.cell, r7.cell]
  refine Chk_intro (r4.wr (by first | (simp; done) | (simp; omega))) fun h9 s9 => ?_
  have s9_z := s9.size
  replace p0 := p0.fresh s9.fr (by omega)
  replace r2 := r2.fr s9.fr (by omega)
  replace r7 := r7.fr s9.fr (by omega)
  replace t6 := t6.fr s9.fr (by omega)
  replace r4 := s9.row r4
  try simp only [cl_int, cl_bool, cl_slice, cl_ptr, putAt_one, List.set_cons_zero, List.set_cons_succ, ivec_set, brow_upd] at r4
  simp -dsimp only [go_sem, r2.cell, r4.cell, r7.cell]
  refine ⟨p0, hmx, _, Z, rfl, ((t6.mono (by omega) (by omega)).congr fun i j hi hj => ?_)⟩
  rw [hpn]
  by_cases hij : i < n ∧ j < n
  · rw [mixM_end hij.1 hij.2, inN_in hij.1 hij.2]
  · rw [inN_out hij]; unfold mixM; rw [if_neg (by omega)]
end Go.Proofs.Tst
namespace Go.Proofs.Tst
open Go Go.Vc
end Go.Proofs.Tst
namespace Go.Proofs.Tst
open Go Go.Vc
theorem ref1_Inverse {n : Nat} {M : Nat → Nat → Bool} {rv : Value} {lo hi : Nat} {h : Heap} (hr : RefAt h lo hi rv n M) :
    Con Tryd.prog 102 #[rv] h fun v h' => Fr 0 0 h h' ∧ RefAt h' h.size h'.size v n (invM M) := by
  refine con_ref1_Inverse ?_
  obtain ⟨hn, s, R, rfl, t⟩ := hr
  obtain ⟨sa, sc, rfl⟩ := t.own.is
  have hcl : clampN (n : Nat) = n := by unfold clampN; omega
  have p0 : Fr 0 0 h h := .refl _ _ _
  simp -dsimp only [go_sem]
  intro b2 h2 n2
  have n2_a := n2.at_
  have n2_z := n2.size
  replace p0 := p0.fresh (n2.fr (lo := 0) (hi := 0)) (by omega)
  have r2 := n2.row
  simp -dsimp only [go_sem, r2.cell]
  intro b4 h4 n4
  have n4_a := n4.at_
  have n4_z := n4.size
  replace p0 := p0.fresh (n4.fr (lo := 0) (hi := 0)) (by omega)
  replace r2 := r2.fr (n4.fr (lo := 0) (hi := 0)) (by omega)
  have r4 := n4.row
  simp -dsimp only [go_sem, r2.cell, r4.cell]
  refine call_of (ref1_New n h4) ?_
  rintro v h6 ⟨f6, t6⟩
  rw [hcl] at t6
  obtain ⟨-, z, Z, rfl, t6⟩ := t6
  obtain ⟨za, zc, rfl⟩ := t6.own.is
  have t6_a := t6.own.at_
  have f6_z := f6.size
  replace p0 := p0.fresh f6 (by omega)
  replace r2 := r2.fr f6 (by omega)
  replace r4 := r4.fr f6 (by omega)
  simp -dsimp only [go_sem, r2.cell, r4.cell]
  intro b7 h7 n7
  have n7_a := n7.at_
  have n7_z := n7.size
  replace p0 := p0.fresh (n7.fr (lo := 0) (hi := 0)) (by omega)
  replace r2 := r2.fr (n7.fr (lo := 0) (hi := 0)) (by omega)
  replace r4 := r4.fr (n7.fr (lo := 0) (hi := 0)) (by omega)
  replace t6 := t6.fr (n7.fr (lo := 0) (hi := 0)) (by omega)
  have r7 := n7.row
  simp -dsimp only [go_sem, r2.cell, r4.cell, r7.cell]
  refine Chk_intro (r7.wr (by first | (simp; done) | (simp; omega))) fun h8 s8 => ?_
  have s8_z := s8.size
  replace p0 := p0.fresh s8.fr (by omega)
  replace r2 := r2.fr s8.fr (by omega)
  replace r4 := r4.fr s8.fr (by omega)
  replace t6 := t6.fr s8.fr (by omega)
  replace r7 := s8.row r7
  try simp only [cl_int, cl_bool, cl_slice, cl_ptr, putAt_one, List.set_cons_zero, List.set_cons_succ, ivec_set, brow_upd] at r7
  simp -dsimp only [go_sem, r2.cell, r4.cell, r7.cell]
  refine loop_intro (fun p : Nat => [(1, .pointer (some ⟨b2, 0, none⟩)), (2, .pointer (some ⟨b4, 0, none⟩)), (3, .pointer (some ⟨b7, 0, none⟩)), (4, .int .i64 p)]) (fun p h' => p ≤ n ∧ Fr 0 0 h h' ∧ h8.size ≤ h'.size ∧ Rw h' b2 [.int .i64 n, .slice sa n sc] ∧ Rw h' b4 [.int .i64 0, .slice none 0 0] ∧ Rw h' b7 [.int .i64 n, .slice za n zc] ∧ Tab h' h4.size h6.size (.slice za n zc) n n Z (fun i j => mixM p 0 n (M) (fun _ _ => false) j i)) (fun p => n - p) 0 ?_ ?_ ?_
  · simp [Le, find]
  · exact ⟨by omega, p0, by omega, r2, r4, r7, t6.congr fun i j _ _ => by rw [mixM_zero]⟩
  rintro p hP ⟨hp, p0, yP, r2, r4, r7, t6⟩
  have p0_z := p0.size
  have r2_l := r2.lt
  have r4_l := r4.lt
  have r7_l := r7.lt
  simp -dsimp only [go_sem, r2.cell, r4.cell, r7.cell]
  refine ⟨fun hlt1 => ?_, fun hge1 => ?_⟩
  · have hlt1 : p < n := by omega
    simp -dsimp only [go_sem, r2.cell, r4.cell, r7.cell]
    refine loop_intro (fun q : Nat => [(1, .pointer (some ⟨b2, 0, none⟩)), (2, .pointer (some ⟨b4, 0, none⟩)), (3, .pointer (some ⟨b7, 0, none⟩)), (4, .int .i64 p), (5, .int .i64 q)]) (fun q h' => q ≤ n ∧ Fr 0 0 h h' ∧ h8.size ≤ h'.size ∧ Rw h' b2 [.int .i64 n, .slice sa n sc] ∧ Rw h' b4 [.int .i64 0, .slice none 0 0] ∧ Rw h' b7 [.int .i64 n, .slice za n zc] ∧ Tab h' h4.size h6.size (.slice za n zc) n n Z (fun i j => mixM p q n (M) (fun _ _ => false) j i)) (fun q => n - q) 0 ?_ ?_ ?_
    · simp [Le, find]
    · exact ⟨by omega, p0, by omega, r2, r4, r7, t6⟩
    rintro q hQ ⟨hq, p0, yQ, r2, r4, r7, t6⟩
    have p0_z := p0.size
    have r2_l := r2.lt
    have r4_l := r4.lt
    have r7_l := r7.lt
    simp -dsimp only [go_sem, r2.cell, r4.cell, r7.cell]
    refine ⟨fun hlt2 => ?_, fun hge2 => ?_⟩
    · have hlt2 : q < n := by omega
      have tp := t.fr p0 (by omega)
      simp -dsimp only [go_sem, r2.cell, r4.cell, r7.cell]
      refine Chk_intro (by omega) (t6.idx (p := q) (by omega) fun b9 o9 c9 => ?_)
      simp -dsimp only [go_sem, c9, r2.cell, r4.cell, r7.cell]
      refine Chk_intro (by omega) (tp.idx (p := p) (by omega) fun b9' o9' d9 => ?_)
      simp -dsimp only [go_sem, d9, r2.cell, r4.cell, r7.cell]
      refine Chk_intro (by omega) ?_
      simp -dsimp only [go_sem, tp.cell hlt1 hlt2, r2.cell, r4.cell, r7.cell]
      refine Chk_intro (by omega) ?_
      simp -dsimp only [go_sem, r2.cell, r4.cell, r7.cell]
      refine Chk_intro (t6.wr (by omega) (by omega)) fun h10 s10 => ?_
      have s10_z := s10.size
      have w_row := t6.row q (by omega)
      have t_new := t6.set (p := q) (q := p) (by omega) s10
      replace p0 := p0.fresh s10.fr (by omega)
      replace r2 := r2.fr s10.fr (by omega)
      replace r4 := r4.fr s10.fr (by omega)
      replace r7 := r7.fr s10.fr (by omega)
      simp -dsimp only [go_sem, r2.cell, r4.cell, r7.cell]
      simp -dsimp (disch := omega) only [wrap64]
      exact ⟨q + 1, by omega, by simp [Le, find], by omega, p0, by omega, r2, r4, r7, t_new.congr fun i j hi hj => mixM_set' (rfl)⟩
    · have hqn : q = n := by omega
      simp -dsimp only [go_sem, r2.cell, r4.cell, r7.cell]
      simp -dsimp (disch := omega) only [wrap64]
      exact ⟨p + 1, by omega, by simp [Le, find], by omega, p0, by omega, r2, r4, r7, t6.congr fun i j _ _ => by rw [hqn]; exact mixM_next⟩
  have hpn : p = n := by omega
  simp -dsimp only [go_sem, r2.cell, r4.cell, r7.cell]
  refine Chk_intro (r4.wr (by first | (simp; done) | (simp; omega))) fun h9 s9 => ?_
  have s9_z := s9.size
  replace p0 := p0.fresh s9.fr (by omega)
  replace r2 := r2.fr s9.fr (by omega)
  replace r7 := r7.fr s9.fr (by omega)
  replace t6 := t6.fr s9.fr (by omega)
  replace r4 := s9.row r4
  try simp only [cl_int, cl_bool, cl_slice, cl_ptr, putAt_one, List.set_cons_zero, List.set_cons_succ, ivec_set, brow_upd] at r4
  simp -dsimp only [go_sem, r2.cell, r4.cell, r7.cell]
  refine ⟨p0, hn, _, Z, rfl, ((t6.mono (by omega) (by omega)).congr fun i j hi hj => ?_)⟩
  rw [hpn, mixM_end hj hi]; rfl
end Go.Proofs.Tst
