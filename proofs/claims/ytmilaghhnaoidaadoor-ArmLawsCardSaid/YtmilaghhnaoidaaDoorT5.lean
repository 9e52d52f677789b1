/-
  Contracts of functions that the law reaches: what each returns and what it leaves in memory. Conditions stand in each.
-/
import Derived.Test.YtmilaghhnaoidaaDoorT4
set_option linter.all false
set_option maxRecDepth 2000
/-
  graph.Derive.
-/
namespace Go.Proofs.Tst
open Go Go.Vc
/-- A graph's relations and kinds in memory, from lo on, each apart from the others. -/
structure FactsAt (h : Heap) (lo : Nat) (p : Nat → Value) (rd wr fe : Value) (g : Gr) : Prop where
  n : g.n ≤ 256
  rel : ∃ A B, Der h A B p g.n (relM g) 10 ∧ (∀ k, k < 10 → lo ≤ A k ∧ A k ≤ B k ∧ B k ≤ h.size) ∧ ∀ k, k < 10 → ∀ v ∈ [rd, wr, fe], bh v ≤ A k ∨ B k ≤ bl v ∨ bh v ≤ bl v
  hrd : Holder 1 h rd g.n (boolsV (kindsV g 1 g.n)) lo
  hwr : Holder 1 h wr g.n (boolsV (kindsV g 2 g.n)) lo
  hfe : Holder 1 h fe g.n (boolsV (kindsV g 3 g.n)) lo
  off : Off rd wr ∧ Off rd fe ∧ Off wr fe
theorem kindsV_succ {g : Gr} {k : Int} {i : Nat} (hi : i < g.n) : boolsV (kindsV g k (i + 1)) = boolsV (kindsV g k i) ++ [.bool ((g.ev i).kind == k)] := by
  unfold kindsV boolsV
  rw [List.take_add_one, Gr.ev_get hi]
  simp
theorem relT_zero {g : Gr} {k x y : Nat} : relZ g k x y = relT g 0 0 k x y := by
  unfold relT
  split
  · rename_i hk
    rw [mixM_zero]
    rcases hk with rfl | rfl | rfl <;> rfl
  · rfl
theorem relT_end {g : Gr} {k x y : Nat} (hk : k < 9) (hx : x < g.n) (hy : y < g.n) : relT g g.n 0 k x y = relC g [] k x y := by
  unfold relT relC
  by_cases h2 : k = 2
  · subst h2; rfl
  · rw [if_neg h2]
    split
    · exact mixM_end hx hy
    · rename_i h
      have : k = 1 ∨ k = 3 ∨ k = 6 ∨ k = 7 ∨ k = 8 := by omega
      rcases this with rfl | rfl | rfl | rfl | rfl <;> rfl
theorem relC_end {g : Gr} {k : Nat} (hk : k < 9) : relC g (coPairs g) k = relM g k := by
  unfold relC
  by_cases h2 : k = 2
  · subst h2; rfl
  · rw [if_neg h2]
def ixL : List Nat := [1, 5, 7, 11, 13, 15, 19, 23, 27, 28, 29]
set_option maxHeartbeats 4000000 in
theorem graph_Derive {h : Heap} {q : GV} {g : Gr} (t : GrAt h q g) (ht : TabAt h) :
    Con Tryd.prog 16 #[.agg (gcells q g).toArray] h fun v h' => Fr 0 0 h h' ∧ if g.good = true then ∃ p rd wr fe, v = .tuple #[.agg (fcells p rd wr fe).toArray, .int .i64 0] ∧ FactsAt h' h.size p rd wr fe g else v = .tuple #[.agg fzero.toArray, .int .i64 4] := by
  refine con_graph_Derive ?_
  have p0 : Fr 0 0 h h := .refl _ _ _
  have be := t.fits.e
  have bf := t.fits.f
  have br := t.fits.r
  have ba := t.fits.a
  have bd := t.fits.d
  have bc := t.fits.c
  have hen : g.evs.length = g.n := rfl
  unfold gcells
  simp -dsimp only [go_sem]
  intro b1 h1 n1
  have n1_a := n1.at_
  have n1_z := n1.size
  replace p0 := p0.fresh (n1.fr (lo := 0) (hi := 0)) (by omega)
  have r1 := n1.row
  simp -dsimp only [go_sem, r1.cell]
  intro b2 h2 n2
  have n2_a := n2.at_
  have n2_z := n2.size
  replace p0 := p0.fresh (n2.fr (lo := 0) (hi := 0)) (by omega)
  replace r1 := r1.fr (n2.fr (lo := 0) (hi := 0)) (by omega)
  have r2 := n2.row
  simp -dsimp only [go_sem, r1.cell, r2.cell]
  refine call_of (graph_good (t.fr p0)) ?_
  rintro v3 h3 ⟨f3, rfl⟩
  have f3_z := f3.size
  replace p0 := p0.fresh f3 (by omega)
  replace r1 := r1.fr f3 (by omega)
  replace r2 := r2.fr f3 (by omega)
  cases hg : g.good
  · simp -dsimp only [go_sem, r1.cell, r2.cell]
    refine Chk_intro (r2.wr (by first | (simp; done) | (simp; omega))) fun h4 s4 => ?_
    have s4_z := s4.size
    replace p0 := p0.fresh s4.fr (by omega)
    replace r1 := r1.fr s4.fr (by omega)
    replace r2 := s4.row r2
    try simp only [cl_int, cl_bool, cl_slice, cl_ptr, putAt_one, List.set_cons_zero, List.set_cons_succ, ivec_set, brow_upd] at r2
    simp -dsimp only [go_sem] at r2
    simp -dsimp only [go_sem, r1.cell, r2.cell]
    exact withC_of fzero 0 (fun j x hj => by rw [r2.cell, Nat.zero_add]; exact hj) ⟨p0, rfl⟩
  obtain ⟨hn, hsz⟩ := good_n hg
  simp -dsimp only [go_sem, evs_len, r1.cell, r2.cell]
  have hcl : clampN (g.n : Int) = g.n := by unfold clampN; omega
  have t3 := t.fr p0
  refine free_intro [(1, [1], tellP g.n fun _ _ => false), (5, [5], tellP g.n (ofM g.n g.rf)), (7, [7], tellP g.n fun _ _ => false), (11, [11], tellP g.n (ofM g.n g.rmw)), (13, [13], tellP g.n fun _ _ => false), (15, [15], tellP g.n fun _ _ => false),
    (19, [19], tellP g.n (ofM g.n g.addr)), (23, [23], tellP g.n (ofM g.n g.data)), (27, [27], tellP g.n (ofM g.n g.ctrl)), (28, [1, 5, 7, 11, 13, 15, 19, 23, 27, 28], tellF), (29, [29], tellA fzero)] ?_ rfl ?_ ?_
  · exact ⟨stabP _ _, stabP _ _, stabP _ _, stabP _ _, stabP _ _, stabP _ _, stabP _ _, stabP _ _, stabP _ _, fun _ _ _ _ x => x, stabA _, trivial⟩
  · simp -dsimp only [go_sem, tellP_eq, tellF_eq, tellA_eq, r1.cell, r2.cell]
    refine ⟨fun h4 f4 V => ?_, fun h4 f4 V _ => ?_, fun h4 f4 V _ => ?_, fun h4 f4 V _ => ?_, fun h4 f4 V _ => ?_, fun h4 f4 V _ => ?_, fun h4 f4 V _ => ?_, fun h4 f4 V _ => ?_, fun h4 f4 V _ => ?_, fun h4 f4 V a1 a2 a3 a4 a5 a6 a7 a8 a9 => ?_, fun h4 f4 V => ?_⟩
    · refine call_of (rel_New g.n h4) ?_
      rintro v h5 ⟨f5, w⟩
      rw [hcl] at w
      simp -dsimp only [go_sem, tellP_eq, r1.cell, r2.cell]
      exact ⟨f5, w⟩
    · refine call_of (rel_Of g.n _ g.rf h4 (t3.f.fr f4) (by omega)) ?_
      rintro v h5 ⟨f5, w⟩
      rw [hcl] at w
      simp -dsimp only [go_sem, tellP_eq, r1.cell, r2.cell]
      exact ⟨f5, w⟩
    · refine call_of (rel_New g.n h4) ?_
      rintro v h5 ⟨f5, w⟩
      rw [hcl] at w
      simp -dsimp only [go_sem, tellP_eq, r1.cell, r2.cell]
      exact ⟨f5, w⟩
    · refine call_of (rel_Of g.n _ g.rmw h4 (t3.r.fr f4) (by omega)) ?_
      rintro v h5 ⟨f5, w⟩
      rw [hcl] at w
      simp -dsimp only [go_sem, tellP_eq, r1.cell, r2.cell]
      exact ⟨f5, w⟩
    · refine call_of (rel_New g.n h4) ?_
      rintro v h5 ⟨f5, w⟩
      rw [hcl] at w
      simp -dsimp only [go_sem, tellP_eq, r1.cell, r2.cell]
      exact ⟨f5, w⟩
    · refine call_of (rel_New g.n h4) ?_
      rintro v h5 ⟨f5, w⟩
      rw [hcl] at w
      simp -dsimp only [go_sem, tellP_eq, r1.cell, r2.cell]
      exact ⟨f5, w⟩
    · refine call_of (rel_Of g.n _ g.addr h4 (t3.a.fr f4) (by omega)) ?_
      rintro v h5 ⟨f5, w⟩
      rw [hcl] at w
      simp -dsimp only [go_sem, tellP_eq, r1.cell, r2.cell]
      exact ⟨f5, w⟩
    · refine call_of (rel_Of g.n _ g.data h4 (t3.d.fr f4) (by omega)) ?_
      rintro v h5 ⟨f5, w⟩
      rw [hcl] at w
      simp -dsimp only [go_sem, tellP_eq, r1.cell, r2.cell]
      exact ⟨f5, w⟩
    · refine call_of (rel_Of g.n _ g.ctrl h4 (t3.c.fr f4) (by omega)) ?_
      rintro v h5 ⟨f5, w⟩
      rw [hcl] at w
      simp -dsimp only [go_sem, tellP_eq, r1.cell, r2.cell]
      exact ⟨f5, w⟩
    · obtain ⟨b1, e1⟩ := progPtr a1
      obtain ⟨b2, e2⟩ := progPtr a2
      obtain ⟨b3, e3⟩ := progPtr a3
      obtain ⟨b4, e4⟩ := progPtr a4
      obtain ⟨b5, e5⟩ := progPtr a5
      obtain ⟨b6, e6⟩ := progPtr a6
      obtain ⟨b7, e7⟩ := progPtr a7
      obtain ⟨b8, e8⟩ := progPtr a8
      obtain ⟨b9, e9⟩ := progPtr a9
      simp -dsimp only [go_sem, e1, e2, e3, e4, e5, e6, e7, e8, e9, tellF_eq, r1.cell, r2.cell]
      exact .refl _ _ _
    · intro b5 h5 n5
      simp -dsimp only [go_sem, tellA_eq, r1.cell, r2.cell]
      exact ⟨n5.fr, n5.at_.symm ▸ rfl, n5.size, n5.at_ ▸ n5.row⟩
  · intro h4 f4 V sep
    replace sep := sep.at_ (L := ixL) rfl
    simp -dsimp only [go_sem, tellP_eq, tellF_eq, tellA_eq, r1.cell, r2.cell]
    rintro a1 a2 a3 a4 a5 a6 a7 a8 a9 e28 ⟨e29, z29, r5⟩
    have f4_z := f4.size
    replace p0 := p0.fresh f4 (by omega)
    replace r1 := r1.fr f4 (by omega)
    replace r2 := r2.fr f4 (by omega)
    have hH34 := f4.size
    have oc : ∀ {a b : Nat} {v : Value} {M : Nat → Nat → Bool}, ProgAt h4 a b v g.n M → v.oneCell' = true := fun t => by obtain ⟨_, e⟩ := progPtr t; rw [e]; rfl
    have hix : ∀ k, k < 9 → ixD k ∈ ixL ∧ ixD k ≠ 29 := by decide
    have hne : ∀ k, k < 9 → ∀ l, l < 9 → k ≠ l → ixD k ≠ ixD l := by decide
    have key : ∃ (A B : Nat → Nat) (p : Nat → Value) (b5 : Nat), p 0 = (V 1).1 ∧ p 1 = (V 5).1 ∧ p 2 = (V 7).1 ∧ p 3 = (V 11).1 ∧ p 4 = (V 13).1 ∧ p 5 = (V 15).1 ∧ p 6 = (V 19).1 ∧ p 7 = (V 23).1 ∧ p 8 = (V 27).1 ∧ b5 = (V 29).2.1 ∧
        Der h4 A B p g.n (relZ g) 9 ∧ (∀ k, k < 9 → h3.size ≤ A k ∧ A k ≤ B k ∧ B k ≤ h4.size) ∧ (∀ k, k < 9 → b5 < A k ∨ B k ≤ b5) ∧ h3.size ≤ b5 := by
      refine ⟨fun k => (V (ixD k)).2.1, fun k => (V (ixD k)).2.2, fun k => (V (ixD k)).1, _, rfl, rfl, rfl, rfl, rfl, rfl, rfl, rfl, rfl, rfl, ⟨fun k hk => ?_, fun k l hk hl hkl => sep.2 _ (hix k hk).1 _ (hix l hl).1 (hne k hk l hl hkl)⟩, fun k hk => sep.1 _ (hix k hk).1, fun k hk => ?_, (sep.1 29 (by decide)).1⟩
      · match k, hk with
        | 0, _ => exact a1
        | 1, _ => exact a2
        | 2, _ => exact a3
        | 3, _ => exact a4
        | 4, _ => exact a5
        | 5, _ => exact a6
        | 6, _ => exact a7
        | 7, _ => exact a8
        | 8, _ => exact a9
      · have := sep.2 29 (by decide) _ (hix k hk).1 (Ne.symm (hix k hk).2)
        have := sep.1 29 (by decide)
        show (V 29).2.1 < (V (ixD k)).2.1 ∨ (V (ixD k)).2.2 ≤ (V 29).2.1
        omega
    obtain ⟨A, B, p, b5, q0, q1, q2, q3, q4, q5, q6, q7, q8, q9, D, hAB, hb5, hb5'⟩ := key
    have ocs : (p 0).oneCell' = true ∧ (p 1).oneCell' = true ∧ (p 2).oneCell' = true ∧ (p 3).oneCell' = true ∧ (p 4).oneCell' = true ∧ (p 5).oneCell' = true ∧ (p 6).oneCell' = true ∧ (p 7).oneCell' = true ∧ (p 8).oneCell' = true :=
      ⟨oc (D.at_ 0 (by decide)), oc (D.at_ 1 (by decide)), oc (D.at_ 2 (by decide)), oc (D.at_ 3 (by decide)), oc (D.at_ 4 (by decide)), oc (D.at_ 5 (by decide)), oc (D.at_ 6 (by decide)), oc (D.at_ 7 (by decide)), oc (D.at_ 8 (by decide))⟩
    obtain ⟨oc0, oc1, oc2, oc3, oc4, oc5, oc6, oc7, oc8⟩ := ocs
    rw [← q9] at e29 r5
    rw [← q0, ← q1, ← q2, ← q3, ← q4, ← q5, ← q6, ← q7, ← q8] at e28
    clear a1 a2 a3 a4 a5 a6 a7 a8 a9 oc hix hne sep
    unfold fzero at r5
    have r5_l := r5.lt
    simp -dsimp only [go_sem, e29, e28, oc0, oc1, oc2, oc3, oc4, oc5, oc6, oc7, oc8, r1.cell, r2.cell, r5.cell]
    refine Chk_intro (r5.wr (by first | (simp; done) | (simp; omega))) fun h5 s5 => ?_
    have s5_z := s5.size
    replace p0 := p0.fresh s5.fr (by omega)
    replace r1 := r1.fr s5.fr (by omega)
    replace r2 := r2.fr s5.fr (by omega)
    replace D := D.fr s5.fr (fun k hk => by have := hAB k hk; first | omega | (have := hb5 k hk; omega))
    replace r5 := s5.row r5
    try simp only [cl_int, cl_bool, cl_slice, cl_ptr, putAt_one, List.set_cons_zero, List.set_cons_succ, ivec_set, brow_upd] at r5
    simp -dsimp only [go_sem] at r5
    have hz5 : 0 < h5.size := by omega
    have D : Der h5 A B p g.n (relT g 0 0) 9 := D.congr fun k hk x y _ _ => relT_zero
    have gb : h.size ≤ h3.size ∧ h3.size ≤ h4.size ∧ h4.size ≤ h5.size ∧ b1 < h3.size ∧ b2 < h3.size ∧ h3.size ≤ b5 ∧ b5 < h5.size ∧ h.size ≤ b1 ∧ h.size ≤ b2 ∧ b1 ≠ b2 := by omega
    clear e28 z29 q0 q1 q2 q3 q4 q5 q6 q7 q8 q9 n1_a n1_z n2_a n2_z f3_z f4_z s5_z hH34
    simp -dsimp only [go_sem, evs_len, r1.cell, r2.cell, r5.cell]
    refine loop_intro (fun s : Nat × Value × Value × Value => [(1, .pointer (some ⟨b1, 0, none⟩)), (2, .pointer (some ⟨b2, 0, none⟩)), (5, .pointer (some ⟨b5, 0, none⟩)), (53, .slice q.e g.evs.length q.ec), (54, .int .i64 g.n), (55, .int .i64 s.1)])
      (fun s h' => s.1 ≤ g.n ∧ Fr 0 0 h h' ∧ h5.size ≤ h'.size ∧ Rw h' b1 (gcells q g) ∧ Rw h' b2 fzero ∧ Rw h' b5 [p 0, p 1, p 2, .pointer none, p 3, p 4, p 5, p 6, p 7, p 8, s.2.1, s.2.2.1, s.2.2.2] ∧ Der h' A B p g.n (relT g s.1 0) 9 ∧
        Holder 1 h' s.2.1 s.1 (boolsV (kindsV g 1 s.1)) h5.size ∧ Holder 1 h' s.2.2.1 s.1 (boolsV (kindsV g 2 s.1)) h5.size ∧ Holder 1 h' s.2.2.2 s.1 (boolsV (kindsV g 3 s.1)) h5.size ∧ Off s.2.1 s.2.2.1 ∧ Off s.2.1 s.2.2.2 ∧ Off s.2.2.1 s.2.2.2) (fun s => g.n - s.1) (0, .slice none 0 0, .slice none 0 0, .slice none 0 0) ?_ ?_ ?_
    · simp [Le, find, hen, e29]
    · exact ⟨by omega, p0, by omega, r1, r2, r5, D, .none _ _ _, .none _ _ _, .none _ _ _, .inl rfl, .inl rfl, .inl rfl⟩
    clear p0 r1 r2 r5 D r5_l
    rintro ⟨i, rd, wr, fe⟩ h6 ⟨hi, p0, y6, r1, r2, r5, D, o1, o2, o3, f12, f13, f23⟩
    dsimp only at hi r5 D o1 o2 o3 f12 f13 f23 ⊢
    unfold gcells at r1
    unfold fzero at r2
    have p0_z := p0.size
    have r1_l := r1.lt
    have r2_l := r2.lt
    have r5_l := r5.lt
    by_cases hlt : i < g.n
    · have e1 : ((i : Int) < (g.n : Int)) := by omega
      obtain ⟨eb, eo, he, hev⟩ := t.evs (by omega)
      obtain ⟨c0, c1, c2, c3, c4⟩ := hev h6 p0 i hlt
      obtain ⟨ra0, rc0, rfl⟩ := o1.is
      obtain ⟨ra0', rc0', rfl⟩ := o2.is
      obtain ⟨ra0'', rc0'', rfl⟩ := o3.is
      have tp1 := o1.top
      have tp2 := o2.top
      have tp3 := o3.top
      simp -dsimp only [go_sem, e1, he, evs_len, c0, c1, c2, c3, c4, r1.cell, r2.cell, r5.cell]
      intro b7 h7 n7
      have n7_a := n7.at_
      have n7_z := n7.size
      replace p0 := p0.fresh (n7.fr (lo := 0) (hi := 0)) (by omega)
      replace r1 := r1.fr (n7.fr (lo := 0) (hi := 0)) (by omega)
      replace r2 := r2.fr (n7.fr (lo := 0) (hi := 0)) (by omega)
      replace r5 := r5.fr (n7.fr (lo := 0) (hi := 0)) (by omega)
      replace D := D.fr (n7.fr (lo := 0) (hi := 0)) (fun k hk => by have := hAB k hk; first | omega | (have := hb5 k hk; omega))
      have r7 := n7.row
      replace o1 := o1.fr (n7.fr (lo := 0) (hi := 0)) (by omega)
      replace o2 := o2.fr (n7.fr (lo := 0) (hi := 0)) (by omega)
      replace o3 := o3.fr (n7.fr (lo := 0) (hi := 0)) (by omega)
      simp -dsimp only [go_sem, r1.cell, r2.cell, r5.cell, r7.cell]
      refine Chk_intro (r7.wr (by first | (simp; done) | (simp; omega))) fun h8 s8 => ?_
      have s8_z := s8.size
      replace p0 := p0.fresh s8.fr (by omega)
      replace r1 := r1.fr s8.fr (by omega)
      replace r2 := r2.fr s8.fr (by omega)
      replace r5 := r5.fr s8.fr (by omega)
      replace D := D.fr s8.fr (fun k hk => by have := hAB k hk; first | omega | (have := hb5 k hk; omega))
      replace r7 := s8.row r7
      try simp only [cl_int, cl_bool, cl_slice, cl_ptr, putAt_one, List.set_cons_zero, List.set_cons_succ, ivec_set, brow_upd] at r7
      replace o1 := o1.fr s8.fr (by omega)
      replace o2 := o2.fr s8.fr (by omega)
      replace o3 := o3.fr s8.fr (by omega)
      simp -dsimp only [go_sem] at r7
      have hb7 : h6.size ≤ b7 ∧ b7 < h8.size ∧ h6.size ≤ h8.size := by omega
      have t71 : bh (.slice ra0 i rc0) ≤ b7 ∧ bh (.slice ra0' i rc0') ≤ b7 ∧ bh (.slice ra0'' i rc0'') ≤ b7 := by omega
      clear tp1 tp2 tp3 n7_a n7_z s8_z c0 c1 c2 c3 c4
      simp -dsimp only [go_sem, r1.cell, r2.cell, r5.cell, r7.cell]
      intro nb1 hb1 nn1
      have nn1_a := nn1.at_
      have nn1_z := nn1.size
      replace p0 := p0.fresh (nn1.fr (lo := 0) (hi := 0)) (by omega)
      replace r1 := r1.fr (nn1.fr (lo := 0) (hi := 0)) (by omega)
      replace r2 := r2.fr (nn1.fr (lo := 0) (hi := 0)) (by omega)
      replace r5 := r5.fr (nn1.fr (lo := 0) (hi := 0)) (by omega)
      replace D := D.fr (nn1.fr (lo := 0) (hi := 0)) (fun k hk => by have := hAB k hk; first | omega | (have := hb5 k hk; omega))
      replace r7 := r7.fr (nn1.fr (lo := 0) (hi := 0)) (by omega)
      have rn1 := nn1.row
      replace o1 := o1.fr (nn1.fr (lo := 0) (hi := 0)) (by omega)
      replace o2 := o2.fr (nn1.fr (lo := 0) (hi := 0)) (by omega)
      replace o3 := o3.fr (nn1.fr (lo := 0) (hi := 0)) (by omega)
      have oa1 := o1.at_
      simp -dsimp only [go_sem, r1.cell, r2.cell, r5.cell, r7.cell, rn1.cell]
      refine o1.append (by omega) rfl (by omega) (by simp) (by omega) fun u1 k1 on1 fn1 en1 => ?_
      have fn1_z := fn1.size
      replace p0 := p0.fresh fn1 (by omega)
      replace r1 := r1.fr fn1 (by omega)
      replace r2 := r2.fr fn1 (by omega)
      replace r5 := r5.fr fn1 (by omega)
      replace D := D.fr fn1 (fun k hk => by have := hAB k hk; first | omega | (have := hb5 k hk; omega))
      replace r7 := r7.fr fn1 (by omega)
      clear oa1
      have tp2 := o2.top
      have tp3 := o3.top
      have nw2 := (f12.symm).app tp2 hz5 on1 en1
      have nw3 := (f13.symm).app tp3 hz5 on1 en1
      replace o2 := o2.fr fn1 (f12.symm).away
      replace o3 := o3.fr fn1 (f13.symm).away
      replace o1 := on1
      clear en1 on1
      clear tp2 tp3
      replace f12 := nw2.symm
      replace f13 := nw3.symm
      clear nw2 nw3
      obtain ⟨ra1, rc1, rfl⟩ := o1.is
      have oa1 := o1.at_
      simp -dsimp only [go_sem, r1.cell, r2.cell, r5.cell, r7.cell]
      refine Chk_intro (r5.wr (by first | (simp; done) | (simp; omega))) fun ks1 st1 => ?_
      have st1_z := st1.size
      replace p0 := p0.fresh st1.fr (by omega)
      replace r1 := r1.fr st1.fr (by omega)
      replace r2 := r2.fr st1.fr (by omega)
      replace D := D.fr st1.fr (fun k hk => by have := hAB k hk; first | omega | (have := hb5 k hk; omega))
      replace r7 := r7.fr st1.fr (by omega)
      replace r5 := st1.row r5
      try simp only [cl_int, cl_bool, cl_slice, cl_ptr, putAt_one, List.set_cons_zero, List.set_cons_succ, ivec_set, brow_upd] at r5
      replace o1 := o1.fr st1.fr (by have := o1.at_; omega)
      replace o2 := o2.fr st1.fr (by have := o2.at_; omega)
      replace o3 := o3.fr st1.fr (by have := o3.at_; omega)
      clear oa1
      simp -dsimp only [go_sem, r1.cell, r2.cell, r5.cell, r7.cell]
      intro nb2 hb2 nn2
      have nn2_a := nn2.at_
      have nn2_z := nn2.size
      replace p0 := p0.fresh (nn2.fr (lo := 0) (hi := 0)) (by omega)
      replace r1 := r1.fr (nn2.fr (lo := 0) (hi := 0)) (by omega)
      replace r2 := r2.fr (nn2.fr (lo := 0) (hi := 0)) (by omega)
      replace r5 := r5.fr (nn2.fr (lo := 0) (hi := 0)) (by omega)
      replace D := D.fr (nn2.fr (lo := 0) (hi := 0)) (fun k hk => by have := hAB k hk; first | omega | (have := hb5 k hk; omega))
      replace r7 := r7.fr (nn2.fr (lo := 0) (hi := 0)) (by omega)
      have rn2 := nn2.row
      replace o1 := o1.fr (nn2.fr (lo := 0) (hi := 0)) (by omega)
      replace o2 := o2.fr (nn2.fr (lo := 0) (hi := 0)) (by omega)
      replace o3 := o3.fr (nn2.fr (lo := 0) (hi := 0)) (by omega)
      have oa2 := o2.at_
      simp -dsimp only [go_sem, r1.cell, r2.cell, r5.cell, r7.cell, rn2.cell]
      refine o2.append (by omega) rfl (by omega) (by simp) (by omega) fun u2 k2 on2 fn2 en2 => ?_
      have fn2_z := fn2.size
      replace p0 := p0.fresh fn2 (by omega)
      replace r1 := r1.fr fn2 (by omega)
      replace r2 := r2.fr fn2 (by omega)
      replace r5 := r5.fr fn2 (by omega)
      replace D := D.fr fn2 (fun k hk => by have := hAB k hk; first | omega | (have := hb5 k hk; omega))
      replace r7 := r7.fr fn2 (by omega)
      clear oa2
      have tp1 := o1.top
      have tp3 := o3.top
      have nw1 := (f12).app tp1 hz5 on2 en2
      have nw3 := (f23.symm).app tp3 hz5 on2 en2
      replace o1 := o1.fr fn2 (f12).away
      replace o3 := o3.fr fn2 (f23.symm).away
      replace o2 := on2
      clear en2 on2
      clear tp1 tp3
      replace f12 := nw1
      replace f23 := nw3.symm
      clear nw1 nw3
      obtain ⟨ra2, rc2, rfl⟩ := o2.is
      have oa2 := o2.at_
      simp -dsimp only [go_sem, r1.cell, r2.cell, r5.cell, r7.cell]
      refine Chk_intro (r5.wr (by first | (simp; done) | (simp; omega))) fun ks2 st2 => ?_
      have st2_z := st2.size
      replace p0 := p0.fresh st2.fr (by omega)
      replace r1 := r1.fr st2.fr (by omega)
      replace r2 := r2.fr st2.fr (by omega)
      replace D := D.fr st2.fr (fun k hk => by have := hAB k hk; first | omega | (have := hb5 k hk; omega))
      replace r7 := r7.fr st2.fr (by omega)
      replace r5 := st2.row r5
      try simp only [cl_int, cl_bool, cl_slice, cl_ptr, putAt_one, List.set_cons_zero, List.set_cons_succ, ivec_set, brow_upd] at r5
      replace o1 := o1.fr st2.fr (by have := o1.at_; omega)
      replace o2 := o2.fr st2.fr (by have := o2.at_; omega)
      replace o3 := o3.fr st2.fr (by have := o3.at_; omega)
      clear oa2
      simp -dsimp only [go_sem, r1.cell, r2.cell, r5.cell, r7.cell]
      intro nb3 hb3 nn3
      have nn3_a := nn3.at_
      have nn3_z := nn3.size
      replace p0 := p0.fresh (nn3.fr (lo := 0) (hi := 0)) (by omega)
      replace r1 := r1.fr (nn3.fr (lo := 0) (hi := 0)) (by omega)
      replace r2 := r2.fr (nn3.fr (lo := 0) (hi := 0)) (by omega)
      replace r5 := r5.fr (nn3.fr (lo := 0) (hi := 0)) (by omega)
      replace D := D.fr (nn3.fr (lo := 0) (hi := 0)) (fun k hk => by have := hAB k hk; first | omega | (have := hb5 k hk; omega))
      replace r7 := r7.fr (nn3.fr (lo := 0) (hi := 0)) (by omega)
      have rn3 := nn3.row
      replace o1 := o1.fr (nn3.fr (lo := 0) (hi := 0)) (by omega)
      replace o2 := o2.fr (nn3.fr (lo := 0) (hi := 0)) (by omega)
      replace o3 := o3.fr (nn3.fr (lo := 0) (hi := 0)) (by omega)
      have oa3 := o3.at_
      simp -dsimp only [go_sem, r1.cell, r2.cell, r5.cell, r7.cell, rn3.cell]
      refine o3.append (by omega) rfl (by omega) (by simp) (by omega) fun u3 k3 on3 fn3 en3 => ?_
      have fn3_z := fn3.size
      replace p0 := p0.fresh fn3 (by omega)
      replace r1 := r1.fr fn3 (by omega)
      replace r2 := r2.fr fn3 (by omega)
      replace r5 := r5.fr fn3 (by omega)
      replace D := D.fr fn3 (fun k hk => by have := hAB k hk; first | omega | (have := hb5 k hk; omega))
      replace r7 := r7.fr fn3 (by omega)
      clear oa3
      have tp1 := o1.top
      have tp2 := o2.top
      have nw1 := (f13).app tp1 hz5 on3 en3
      have nw2 := (f23).app tp2 hz5 on3 en3
      replace o1 := o1.fr fn3 (f13).away
      replace o2 := o2.fr fn3 (f23).away
      replace o3 := on3
      clear en3 on3
      clear tp1 tp2
      replace f13 := nw1
      replace f23 := nw2
      clear nw1 nw2
      obtain ⟨ra3, rc3, rfl⟩ := o3.is
      have oa3 := o3.at_
      simp -dsimp only [go_sem, r1.cell, r2.cell, r5.cell, r7.cell]
      refine Chk_intro (r5.wr (by first | (simp; done) | (simp; omega))) fun ks3 st3 => ?_
      have st3_z := st3.size
      replace p0 := p0.fresh st3.fr (by omega)
      replace r1 := r1.fr st3.fr (by omega)
      replace r2 := r2.fr st3.fr (by omega)
      replace D := D.fr st3.fr (fun k hk => by have := hAB k hk; first | omega | (have := hb5 k hk; omega))
      replace r7 := r7.fr st3.fr (by omega)
      replace r5 := st3.row r5
      try simp only [cl_int, cl_bool, cl_slice, cl_ptr, putAt_one, List.set_cons_zero, List.set_cons_succ, ivec_set, brow_upd] at r5
      replace o1 := o1.fr st3.fr (by have := o1.at_; omega)
      replace o2 := o2.fr st3.fr (by have := o2.at_; omega)
      replace o3 := o3.fr st3.fr (by have := o3.at_; omega)
      clear oa3
      simp -dsimp only [go_sem, r1.cell, r2.cell, r5.cell, r7.cell]
      refine derive_row t p0 hAB hb5 gb.1 (by omega) (by omega) hlt D r5 r7 fun h9 X9 D9 => ?_
      have notS : ∀ x, x < h3.size ∨ h4.size ≤ x ∨ x = b5 → ¬ InR A B 9 x := fun x hx ⟨k, hk, g1, g2⟩ => by have := hAB k hk; have := hb5 k hk; omega
      have X9_z := X9.size
      replace p0 := X9.fresh p0 fun x ⟨k, hk, g1, _⟩ => by have := hAB k hk; omega
      replace r1 := X9.rw r1 (notS _ (by omega))
      replace r2 := X9.rw r2 (notS _ (by omega))
      replace r5 := X9.rw r5 (notS _ (by omega))
      replace o1 := X9.holder o1 fun x hx => notS _ (by omega)
      replace o2 := X9.holder o2 fun x hx => notS _ (by omega)
      replace o3 := X9.holder o3 fun x hx => notS _ (by omega)
      simp -dsimp only [go_sem, r1.cell, r2.cell, r5.cell, r7.cell]
      simp -dsimp (disch := omega) only [wrap64]
      exact ⟨(i + 1, .slice ra1 (i + 1) rc1, .slice ra2 (i + 1) rc2, .slice ra3 (i + 1) rc3), by dsimp only; omega, by simp [Le, find, he, evs_len], by dsimp only; omega, p0, by omega, r1, r2, r5, D9, by rw [kindsV_succ hlt]; exact o1, by rw [kindsV_succ hlt]; exact o2, by rw [kindsV_succ hlt]; exact o3, f12, f13, f23⟩
    · obtain rfl : i = g.n := by omega
      have notS : ∀ x, x < h3.size ∨ h4.size ≤ x ∨ x = b5 → ¬ InR A B 9 x := fun x hx ⟨k, hk, g1, g2⟩ => by have := hAB k hk; have := hb5 k hk; omega
      replace D := D.congr fun k hk x y hx hy => relT_end hk hx hy
      simp -dsimp only [go_sem, Int.lt_irrefl, r1.cell, r2.cell, r5.cell]
      refine derive_co t p0 hAB hb5 gb.1 D r5 fun h9 X9 D9 => ?_
      have X9_z := X9.size
      replace p0 := X9.fresh p0 fun x ⟨k, hk, g1, _⟩ => by have := hAB k hk; omega
      replace r1 := X9.rw r1 (notS _ (by omega))
      replace r2 := X9.rw r2 (notS _ (by omega))
      replace r5 := X9.rw r5 (notS _ (by omega))
      replace o1 := X9.holder o1 fun x hx => notS _ (by omega)
      replace o2 := X9.holder o2 fun x hx => notS _ (by omega)
      replace o3 := X9.holder o3 fun x hx => notS _ (by omega)
      have g9 : h5.size ≤ h9.size := by omega
      clear D
      have p0_z := p0.size
      have r1_l := r1.lt
      have r2_l := r2.lt
      have r5_l := r5.lt
      simp -dsimp only [go_sem, r1.cell, r2.cell, r5.cell]
      refine call_of (rel_Inverse (D9.at_ 1 (by decide)) (ht.fr p0 (.inr rfl))) ?_
      rintro v10 h10 ⟨f10, w10⟩
      have f10_z := f10.size
      replace p0 := p0.fresh f10 (by omega)
      replace r1 := r1.fr f10 (by omega)
      replace r2 := r2.fr f10 (by omega)
      replace r5 := r5.fr f10 (by omega)
      replace D9 := D9.fr f10 (fun k hk => by have := hAB k hk; first | omega | (have := hb5 k hk; omega))
      replace o1 := o1.fr f10 (by omega)
      replace o2 := o2.fr f10 (by omega)
      replace o3 := o3.fr f10 (by omega)
      have tp1 := o1.top
      have tp2 := o2.top
      have tp3 := o3.top
      simp -dsimp only [go_sem, r1.cell, r2.cell, r5.cell]
      refine call_of (rel_Comp w10 (D9.at_ 2 (by decide)) (ht.fr p0 (.inr rfl))) ?_
      rintro v11 h11 ⟨f11, w11⟩
      have f11_z := f11.size
      replace p0 := p0.fresh f11 (by omega)
      replace r1 := r1.fr f11 (by omega)
      replace r2 := r2.fr f11 (by omega)
      replace r5 := r5.fr f11 (by omega)
      replace D9 := D9.fr f11 (fun k hk => by have := hAB k hk; first | omega | (have := hb5 k hk; omega))
      replace o1 := o1.fr f11 (by omega)
      replace o2 := o2.fr f11 (by omega)
      replace o3 := o3.fr f11 (by omega)
      rw [Nat.max_self] at w11
      obtain ⟨pb, rfl⟩ := progPtr w11
      have o1a := o1.at_
      have o2a := o2.at_
      have o3a := o3.at_
      obtain ⟨rda, rdc, rfl⟩ := o1.is
      obtain ⟨wra, wrc, rfl⟩ := o2.is
      obtain ⟨fea, fec, rfl⟩ := o3.is
      simp -dsimp only [go_sem, r1.cell, r2.cell, r5.cell]
      refine Chk_intro (r5.wr (by first | (simp; done) | (simp; omega))) fun h12 s12 => ?_
      have s12_z := s12.size
      replace p0 := p0.fresh s12.fr (by omega)
      replace r1 := r1.fr s12.fr (by omega)
      replace r2 := r2.fr s12.fr (by omega)
      replace D9 := D9.fr s12.fr (fun k hk => by have := hAB k hk; first | omega | (have := hb5 k hk; omega))
      replace r5 := s12.row r5
      try simp only [cl_int, cl_bool, cl_slice, cl_ptr, putAt_one, List.set_cons_zero, List.set_cons_succ, ivec_set, brow_upd] at r5
      replace o1 := o1.fr s12.fr (by omega)
      replace o2 := o2.fr s12.fr (by omega)
      replace o3 := o3.fr s12.fr (by omega)
      replace w11 := w11.fr s12.fr (by omega)
      have r5' : Rw h12 b5 [p 0, p 1, p 2, .pointer (some ⟨pb, 0, none⟩), p 3, p 4, p 5, p 6, p 7, p 8, .slice rda g.n rdc, .slice wra g.n wrc, .slice fea g.n fec] := r5
      clear r5
      simp -dsimp only [go_sem, r1.cell, r2.cell]
      refine withC_of [p 0, p 1, p 2, .pointer (some ⟨pb, 0, none⟩), p 3, p 4, p 5, p 6, p 7, p 8, .slice rda g.n rdc, .slice wra g.n wrc, .slice fea g.n fec] 0 (fun j x hj => by rw [r5'.cell, Nat.zero_add]; exact hj) ?_
      simp only [List.all_cons, List.all_nil, oc0, oc1, oc2, oc3, oc4, oc5, oc6, oc7, oc8]
      refine Chk_intro ⟨rfl, rfl⟩ ?_
      refine Chk_intro (r2.wr (by first | (simp; done) | (simp; omega))) fun h13 s13 => ?_
      have s13_z := s13.size
      replace p0 := p0.fresh s13.fr (by omega)
      replace r1 := r1.fr s13.fr (by omega)
      replace D9 := D9.fr s13.fr (fun k hk => by have := hAB k hk; first | omega | (have := hb5 k hk; omega))
      replace r2 := s13.row r2
      try simp only [cl_int, cl_bool, cl_slice, cl_ptr, putAt_one, List.set_cons_zero, List.set_cons_succ, ivec_set, brow_upd] at r2
      replace o1 := o1.fr s13.fr (by omega)
      replace o2 := o2.fr s13.fr (by omega)
      replace o3 := o3.fr s13.fr (by omega)
      replace w11 := w11.fr s13.fr (by omega)
      replace r2 : Rw h13 b2 [p 0, p 1, p 2, .pointer (some ⟨pb, 0, none⟩), p 3, p 4, p 5, p 6, p 7, p 8, .slice rda g.n rdc, .slice wra g.n wrc, .slice fea g.n fec] := r2
      simp -dsimp only [go_sem, r1.cell, r2.cell]
      refine withC_of [p 0, p 1, p 2, .pointer (some ⟨pb, 0, none⟩), p 3, p 4, p 5, p 6, p 7, p 8, .slice rda g.n rdc, .slice wra g.n wrc, .slice fea g.n fec] 0 (fun j x hj => by rw [r2.cell, Nat.zero_add]; exact hj) ?_
      refine ⟨p0, fun k => if k = 9 then .pointer (some ⟨pb, 0, none⟩) else p k, _, _, _, rfl, hn, ⟨fun k => if k = 9 then h10.size else A k, fun k => if k = 9 then h11.size else B k, ⟨fun k hk => ?_, fun k l hk hl hkl => ?_⟩, fun k hk => ?_, fun k hk v hv => ?_⟩, o1.lower (by omega), o2.lower (by omega), o3.lower (by omega), f12, f13, f23⟩
      · by_cases h9' : k = 9
        · subst h9'; exact w11
        · simp only [if_neg h9']
          have := D9.at_ k (by omega)
          rw [relC_end (by omega)] at this
          exact this
      · have key : ∀ k, k < 9 → B k ≤ h10.size := fun k hk => by have := hAB k hk; omega
        by_cases h9' : k = 9
        · simp only [if_pos h9', if_neg (show ¬ l = 9 by omega)]
          exact .inr (key l (by omega))
        · simp only [if_neg h9']
          by_cases h9'' : l = 9
          · simp only [if_pos h9'']; exact .inl (key k (by omega))
          · simp only [if_neg h9'']; exact D9.off k l (by omega) (by omega) hkl
      · by_cases h9' : k = 9
        · simp only [if_pos h9']; omega
        · simp only [if_neg h9']; have := hAB k (by omega); omega
      · have hb : bh v ≤ h10.size ∧ (bh v = 0 ∧ bl v = 0 ∨ h4.size ≤ bl v) := by
          simp only [List.mem_cons, List.not_mem_nil, or_false] at hv
          rcases hv with rfl | rfl | rfl <;> omega
        by_cases h9' : k = 9
        · simp only [if_pos h9']; omega
        · simp only [if_neg h9']; have := hAB k (by omega); omega
end Go.Proofs.Tst
/-
  graph's With, Thread and Final.
-/
namespace Go.Proofs.Tst
open Go Go.Vc
def withB (g : Gr) (m : List Int) : List Bool := g.evs.map fun e => m.contains e.mode
theorem check_zero {g : Gr} {words : Bool} (h : (g.check words).1 = 0) : g.size = true ∧ ¬ 0 ≤ g.initAt words ∧ ¬ 0 ≤ g.evAt words ∧ ¬ 0 ≤ g.rfAt ∧ ¬ 0 ≤ g.coAt ∧ ¬ 0 ≤ g.rmwAt ∧
    ¬ 0 ≤ g.depAt words g.addr (fun k => k == 1 || k == 2) ∧ ¬ 0 ≤ g.depAt words g.data (fun k => k == 2) ∧ ¬ 0 ≤ g.depAt words g.ctrl (fun k => k == 1 || k == 2 || k == 3) := by
  unfold Gr.check at h
  cases h1 : g.size
  · rw [h1] at h; simp at h
  rw [h1, if_neg (by simp)] at h
  by_cases h2 : 0 ≤ g.initAt words
  · rw [if_pos h2] at h; simp at h
  rw [if_neg h2] at h
  by_cases h3 : 0 ≤ g.evAt words
  · rw [if_pos h3] at h; simp at h
  rw [if_neg h3] at h
  by_cases h4 : 0 ≤ g.rfAt
  · rw [if_pos h4] at h; simp at h
  rw [if_neg h4] at h
  by_cases h5 : 0 ≤ g.coAt
  · rw [if_pos h5] at h; simp at h
  rw [if_neg h5] at h
  by_cases h6 : 0 ≤ g.rmwAt
  · rw [if_pos h6] at h; simp at h
  rw [if_neg h6] at h
  by_cases h7 : 0 ≤ g.depAt words g.addr (fun k => k == 1 || k == 2)
  · rw [if_pos h7] at h; simp at h
  rw [if_neg h7] at h
  by_cases h8 : 0 ≤ g.depAt words g.data (fun k => k == 2)
  · rw [if_pos h8] at h; simp at h
  rw [if_neg h8] at h
  by_cases h9 : 0 ≤ g.depAt words g.ctrl (fun k => k == 1 || k == 2 || k == 3)
  · rw [if_pos h9] at h; simp at h
  exact ⟨rfl, h2, h3, h4, h5, h6, h7, h8, h9⟩
theorem good_check {g : Gr} (h : g.good = true) : ∃ words, (g.check words).1 = 0 := by
  unfold Gr.good at h
  simp only [Bool.or_eq_true, beq_iff_eq] at h
  rcases h with h | h
  · exact ⟨_, h⟩
  · exact ⟨_, h⟩
/-- The lists of a good graph. -/
theorem good_co {g : Gr} (h : g.good = true) : (g.co.length : Int) = g.cells ∧ ∀ c, c < g.co.length → g.coBad c (g.co.getD c []) = false := by
  obtain ⟨words, h⟩ := good_check h
  obtain ⟨hs, -, -, -, h5, -⟩ := check_zero h
  unfold Gr.coAt at h5
  have hlen : (g.co.length : Int) = g.cells := by
    apply Classical.byContradiction; intro hne
    rw [if_pos (.inr hne)] at h5; omega
  refine ⟨hlen, fun c hc => ?_⟩
  have hls : g.lists = g.co.length := by unfold Gr.lists; omega
  have hf : ¬ g.coFirst < g.lists := fun hlt => by rw [if_pos (.inl hlt)] at h5; omega
  cases hb : g.coBad c (g.co.getD c [])
  · rfl
  · exfalso
    apply hf
    unfold Gr.coFirst
    cases hfd : (List.range g.lists).find? (fun c => g.coBad c (g.co.getD c [])) with
    | none =>
      rw [List.find?_eq_none] at hfd
      exact absurd hb (hfd c (List.mem_range.2 (by omega)))
    | some u =>
      have := List.mem_of_find?_eq_some hfd
      rw [List.mem_range] at this
      exact this
theorem holder_row {s : Nat} {h : Heap} {b n : Nat} {xs : List Value} {lo : Nat} (r : Rw h b xs) (hl : xs.length = n * s) (hb : lo ≤ b) : Holder s h (.slice (some ⟨b, 0, none⟩) n n) n xs lo :=
  ⟨hl, .inr ⟨b, n, [], rfl, by rw [List.append_nil]; exact r, by simp, hb⟩⟩
theorem graph_With {h : Heap} {q : GV} {g : Gr} (t : GrAt h q g) (hn : g.n ≤ 281474976710656) {mv : Value} {m : List Int} (hm : Rd 1 h mv m.length (intsV m)) (bm : m.length ≤ 4611686018427387904) :
    Con Tryd.prog 22 #[.agg (gcells q g).toArray, mv] h fun v h' => Fr 0 0 h h' ∧ Holder 1 h' v g.n (boolsV (withB g m)) h.size := by
  refine con_graph_With ?_
  have p0 : Fr 0 0 h h := .refl _ _ _
  have be := t.fits.e
  have hen : g.evs.length = g.n := rfl
  obtain ⟨ma, mc, rfl⟩ := hm.is
  unfold gcells
  simp -dsimp only [go_sem]
  intro b1 h1 n1
  have n1_a := n1.at_
  have n1_z := n1.size
  replace p0 := p0.fresh (n1.fr (lo := 0) (hi := 0)) (by omega)
  have r1 := n1.row
  simp -dsimp only [go_sem, evs_len, r1.cell]
  refine Chk_intro (by omega) ?_
  intro b5 h2 n2
  have n2_a := n2.at_
  have n2_z := n2.size
  replace p0 := p0.fresh (n2.fr (lo := 0) (hi := 0)) (by omega)
  replace r1 := r1.fr (n2.fr (lo := 0) (hi := 0)) (by omega)
  have r2 := n2.row
  rw [zeros_one, Int.toNat_natCast, brow_false] at r2
  simp -dsimp only [go_sem, evs_len, r1.cell, r2.cell]
  refine loop_intro (fun i : Nat => [(1, .slice ma m.length mc), (5, .slice (some ⟨b5, 0, none⟩) g.n g.n), (13, .slice q.e g.evs.length q.ec), (14, .int .i64 g.n), (15, .int .i64 i)])
    (fun i h' => i ≤ g.n ∧ Fr 0 0 h h' ∧ Rw h' b5 (brow g.n fun j => decide (j < i) && m.contains (g.ev j).mode) ∧ h2.size ≤ h'.size) (fun i => g.n - i) 0 ?_ ?_ ?_
  · simp [Le, find, hen]
  · exact ⟨by omega, p0, by rw [brow_congr (g := fun _ => false) (fun j _ => by simp)]; exact r2, by omega⟩
  clear r2 p0
  rintro i h3 ⟨hi, p0, r2, y3⟩
  have p0_z := p0.size
  have r2_l := r2.lt
  have b5l : h.size ≤ b5 := by omega
  by_cases hlt : i < g.n
  · have e1 : ((i : Int) < (g.n : Int)) := by omega
    obtain ⟨eb, eo, he, hev⟩ := t.evs (by omega)
    obtain ⟨c0, c1, c2, c3, c4⟩ := hev h3 p0 i hlt
    simp -dsimp only [go_sem, e1, he, evs_len, c0, c1, c2, c3, c4, r2.cell]
    intro b7 h4 n4
    have n4_a := n4.at_
    have n4_z := n4.size
    replace p0 := p0.fresh (n4.fr (lo := 0) (hi := 0)) (by omega)
    replace r2 := r2.fr (n4.fr (lo := 0) (hi := 0)) (by omega)
    have r4 := n4.row
    simp -dsimp only [go_sem, r2.cell, r4.cell]
    refine Chk_intro (r4.wr (by first | (simp; done) | (simp; omega))) fun h5 s5 => ?_
    have s5_z := s5.size
    replace p0 := p0.fresh s5.fr (by omega)
    replace r2 := r2.fr s5.fr (by omega)
    replace r4 := s5.row r4
    try simp only [cl_int, cl_bool, cl_slice, cl_ptr, putAt_one, List.set_cons_zero, List.set_cons_succ, ivec_set, brow_upd] at r4
    simp -dsimp only [go_sem] at r4
    simp -dsimp only [go_sem, r2.cell, r4.cell]
    refine call_of (slices_Contains (hm.fr p0) (by omega)) ?_
    rintro v6 h6 ⟨rfl, rfl⟩
    simp -dsimp only [go_sem, r2.cell, r4.cell]
    refine Chk_intro (by omega) ?_
    simp -dsimp only [go_sem, r2.cell, r4.cell]
    refine Chk_intro (r2.wr (by first | (simp; done) | (simp; omega))) fun h7 s7 => ?_
    have s7_z := s7.size
    replace p0 := p0.fresh s7.fr (by omega)
    replace r4 := r4.fr s7.fr (by omega)
    replace r2 := s7.row r2
    try simp only [cl_int, cl_bool, cl_slice, cl_ptr, putAt_one, List.set_cons_zero, List.set_cons_succ, ivec_set, brow_upd] at r2
    simp -dsimp only [go_sem, r2.cell, r4.cell]
    simp -dsimp (disch := omega) only [wrap64]
    refine ⟨i + 1, by omega, by simp [Le, find, he, evs_len], by omega, p0, ?_, by omega⟩
    rw [brow_congr (g := _) (fun j hj => ?_)]
    · exact r2
    · unfold upd
      by_cases hji : j = i
      · subst hji; simp
      · simp [hji, show j < i + 1 ↔ j < i by omega]
  · obtain rfl : i = g.n := by omega
    simp -dsimp only [go_sem, Int.lt_irrefl, r2.cell]
    refine ⟨p0, ?_⟩
    have : boolsV (withB g m) = brow g.n fun j => decide (j < g.n) && m.contains (g.ev j).mode := by
      apply List.ext_getElem?
      intro j
      by_cases hj : j < g.n
      · rw [boolsV_get (b := m.contains (g.ev j).mode) (by unfold withB; rw [List.getElem?_map, Gr.ev_get hj]; rfl)]
        rw [brow_get hj]; simp [hj]
      · rw [List.getElem?_eq_none (by simp [withB]; unfold Gr.n at hj; omega), List.getElem?_eq_none (by simp; omega)]
    rw [this]
    exact holder_row r2 (by simp) b5l
end Go.Proofs.Tst
/-
  Final; the document's With, Thread, Final and Kinds.
-/
namespace Go.Proofs.Tst
open Go Go.Vc
def urow (n : Nat) (f : Nat → Int) : List Value := (List.range n).map fun i => .int .u64 (f i)
@[simp] theorem length_urow (n : Nat) (f : Nat → Int) : (urow n f).length = n := by simp [urow]
/-- Where a list of a graph lies. -/
theorem list_at {h : Heap} {la : Option Addr} {lc : Nat} {l : List Int} (hp : 0 < l.length) (hl : ∀ h', Fr 0 0 h h' → Rd 1 h' (.slice la l.length lc) l.length (intsV l)) : ∃ b o, la = some ⟨b, o, none⟩ ∧ ∀ h', Fr 0 0 h h' → ∀ (i : Nat) (x : Int), l[i]? = some x → hcell h' b (o + i) = some (.int .i64 x) := by
  obtain ⟨hl1, a, c', k1, k2⟩ := hl h (.refl _ _ _)
  cases k1
  rcases k2 with k2 | ⟨b, o, k3, k4⟩
  · omega
  · refine ⟨b, o, k3, fun h' f i x hx => ?_⟩
    obtain ⟨-, a', c'', m1, m2⟩ := hl h' f
    cases m1
    rw [k3] at m2
    rcases m2 with m2 | ⟨b', o', m3, m4⟩
    · omega
    · cases m3; exact m4 i _ (intsV_get hx)
theorem getD_get {l : List (List Int)} {c : Nat} (h : c < l.length) : l[c]? = some (l.getD c []) := by simp [h]
end Go.Proofs.Tst
/-
  lives: the document's example, its verdicts, its relations.
-/
namespace Go.Proofs.Tst
open Go Go.Vc
end Go.Proofs.Tst
/-
  GraphChecks, GraphSees.
-/
namespace Go.Proofs.Tst
open Go Go.Vc
end Go.Proofs.Tst
/-
  GraphSees.
-/
namespace Go.Proofs.Tst
open Go Go.Vc
theorem dec_self {α : Type} [DecidableEq α] (x : α) : decide (x = x) = true := by simp
end Go.Proofs.Tst
/-
  Plain laws of good graphs.
-/
namespace Go.Proofs.Tst
open Go Go.Vc
theorem ofM_mem {n : Nat} {L : List (Int × Int)} {x y : Nat} (hx : x < n) (hy : y < n) : ofM n L x y = true ↔ ((x : Int), (y : Int)) ∈ L := by
  unfold ofM
  rw [List.any_eq_true]
  constructor
  · rintro ⟨p, hp, h⟩
    simp only [Bool.and_eq_true, beq_iff_eq] at h
    have : p = ((x : Int), (y : Int)) := Prod.ext h.1.2 h.2
    exact this ▸ hp
  · intro h
    refine ⟨_, h, ?_⟩
    have h1 : inR n (x : Int) = true := by unfold inR; simp; omega
    have h2 : inR n (y : Int) = true := by unfold inR; simp; omega
    rw [h1, h2]; simp
theorem ofM_mem' {n : Nat} {L : List (Int × Int)} {x y : Nat} (h : ofM n L x y = true) : ((x : Int), (y : Int)) ∈ L := by
  unfold ofM at h
  rw [List.any_eq_true] at h
  obtain ⟨p, hp, h⟩ := h
  simp only [Bool.and_eq_true, beq_iff_eq] at h
  have : p = ((x : Int), (y : Int)) := Prod.ext h.1.2 h.2
  exact this ▸ hp
theorem firstBad_neg {f : Nat → Int × Int → Bool} : ∀ {l : List (Int × Int)} {i : Nat}, ¬ 0 ≤ Gr.firstBad f l i → ∀ p ∈ l, ∃ j, f j p = false
  | [], _, _, p, hp => by cases hp
  | q :: l, i, h, p, hp => by
    cases hf : f i q
    · rw [firstBad_ok hf] at h
      rcases List.mem_cons.1 hp with rfl | hp
      · exact ⟨i, hf⟩
      · exact firstBad_neg h p hp
    · rw [firstBad_bad hf] at h; omega
theorem rmw_before {g : Gr} (h : ¬ 0 ≤ g.rmwAt) {p : Int × Int} (hp : p ∈ g.rmw) : g.before p.1 p.2 = true := by
  obtain ⟨j, hj⟩ := firstBad_neg (f := g.rmwBad) h p hp
  unfold Gr.rmwBad at hj
  simp only [Bool.or_eq_false_iff, Bool.not_eq_false'] at hj
  have := hj.1.2
  unfold Gr.isNext at this
  simp only [Bool.and_eq_true] at this
  exact this.1
theorem before_nat {g : Gr} {a b : Nat} (h : g.before (a : Int) (b : Int) = true) : a < b ∧ b < g.n := by
  obtain ⟨h1, h2, h3⟩ := before_lt h
  omega
theorem lpairs_at : ∀ {l : List Int} {a b : Nat} {x y : Int}, a < b → l[a]? = some x → l[b]? = some y → (x, y) ∈ lpairs l
  | [], _, _, _, _, _, h, _ => by simp at h
  | z :: t, 0, b + 1, x, y, _, h1, h2 => by
    simp at h1 h2; subst h1
    unfold lpairs
    exact List.mem_append_left _ (List.mem_map.2 ⟨y, List.mem_of_getElem? h2, rfl⟩)
  | z :: t, a + 1, b + 1, x, y, hab, h1, h2 => by
    unfold lpairs
    exact List.mem_append_right _ (lpairs_at (by omega) h1 h2)
theorem list_coPairs {g : Gr} {c : Nat} {x y : Int} (hc : c < g.co.length) (h : (x, y) ∈ lpairs (g.co.getD c [])) : (x, y) ∈ coPairs g :=
  List.mem_flatMap.2 ⟨_, List.mem_of_getElem? (getD_get hc), h⟩
/-- What a good graph's list holds. -/
theorem co_list {g : Gr} (hg : g.good = true) {c : Nat} (hc : c < g.co.length) : (g.co.getD c []).Nodup ∧ (∀ w ∈ g.co.getD c [], g.is w 2 = true ∧ (g.ev w.toNat).loc = (c : Int)) ∧ (g.co.getD c []).length = g.writesOf c := by
  have hb := (good_co hg).2 c hc
  rw [coBad_of] at hb
  simp only [Bool.not_eq_false', Bool.and_eq_true, beq_iff_eq] at hb
  obtain ⟨hok, hlen⟩ := hb
  unfold coOk coGood at hok
  simp only [Bool.and_eq_true, List.all_eq_true, decide_eq_true_eq, beq_iff_eq] at hok
  exact ⟨hok.2, fun w hw => hok.1.2 w hw, hlen⟩
end Go.Proofs.Tst
/-
  GraphLaws.
-/
namespace Go.Proofs.Tst
open Go Go.Vc
theorem kindsV_get {g : Gr} {k : Int} {i : Nat} (hi : i < g.n) : (kindsV g k g.n)[i]? = some ((g.ev i).kind == k) := by
  unfold kindsV
  rw [List.getElem?_map, List.getElem?_take_of_lt hi, Gr.ev_get hi]; rfl
theorem within_self {n : Nat} {M N : Nat → Nat → Bool} (h : ∀ i j, i < n → j < n → M i j = true → N i j = true) : WithinP n M n N := fun i hi j hj hm => ⟨hi, hj, h i j hi hj hm⟩
theorem has_nat {n : Nat} {M : Nat → Nat → Bool} {i j : Nat} (hi : i < n) (hj : j < n) : (inR n (i : Int) && inR n (j : Int) && M (i : Int).toNat (j : Int).toNat) = M i j := by
  have h1 : inR n (i : Int) = true := by unfold inR; simp; omega
  have h2 : inR n (j : Int) = true := by unfold inR; simp; omega
  rw [h1, h2, Int.toNat_natCast, Int.toNat_natCast]; rfl
end Go.Proofs.Tst
/-
  The document's own Pairs.
-/
namespace Go.Proofs.Tst
open Go Go.Vc
end Go.Proofs.Tst
/-
  Is a relation of the program's the document's?
-/
namespace Go.Proofs.Tst
open Go Go.Vc
end Go.Proofs.Tst
namespace Go.Proofs.Tst
open Go Go.Vc
end Go.Proofs.Tst
namespace Go.Proofs.Tst
open Go Go.Vc
end Go.Proofs.Tst
namespace Go.Proofs.Tst
open Go Go.Vc
end Go.Proofs.Tst
namespace Go.Proofs.Tst
open Go Go.Vc
end Go.Proofs.Tst
/-
  The document's relations of a graph.
-/
namespace Go.Proofs.Tst
open Go Go.Vc
end Go.Proofs.Tst
/-
  whole: are facts the document's?
-/
namespace Go.Proofs.Tst
open Go Go.Vc
end Go.Proofs.Tst
/-
  GraphDerives.
-/
namespace Go.Proofs.Tst
open Go Go.Vc
theorem FactsAt.fr {h h' : Heap} {lo l r : Nat} {p : Nat → Value} {rd wr fe : Value} {g : Gr} (F : FactsAt h lo p rd wr fe g) (f : Fr l r h h') (hd : r ≤ lo) : FactsAt h' lo p rd wr fe g := by
  obtain ⟨A, B, D, dlo, dap⟩ := F.rel
  have a1 := F.hrd.at_
  have a2 := F.hwr.at_
  have a3 := F.hfe.at_
  have fz := f.size
  exact ⟨F.n, ⟨A, B, D.fr f (fun k hk => by have := dlo k hk; omega), fun k hk => by have := dlo k hk; omega, dap⟩, F.hrd.fr f (by omega), F.hwr.fr f (by omega), F.hfe.fr f (by omega), F.off⟩
end Go.Proofs.Tst
namespace Go.Proofs.Tst
open Go Go.Vc
theorem slices_Values {a : Option Addr} {n c : Nat} {h : Heap} : Con Tryd.prog 120 #[.slice a n c] h fun v h' => Fr 0 0 h h' ∧ v = .func (.func 124) #[] #[.pointer (some ⟨h.size, 0, none⟩)] ∧ Rw h' h.size [.slice a n c] ∧ h'.size = h.size + 1 := by
  refine con_slices_Values ?_
  simp -dsimp only [go_sem]
  intro b h1 n1
  have r1 := n1.row
  have a1 := n1.at_
  subst a1
  simp -dsimp only [go_sem]
  exact ⟨n1.fr, r1, n1.size⟩
theorem values_1 {b : Nat} {sv : Value} {l : List Nat} (hl : l.length ≤ 65536) :
    Iter Tryd.prog 124 #[.pointer (some ⟨b, 0, none⟩)] (l.map fun (p : Nat) => [Value.int .i64 (p : Int)]) (fun h => Rw h b [sv] ∧ Rd 1 h sv l.length (natsV l)) := by
  refine ⟨by unfold goodF; rw [Tryd.func124]; rfl, fun lo I X hy h hI hC => ?_⟩
  show ConX (some lo) Tryd.prog 124 #[.func (.yield lo) #[] #[], .pointer (some ⟨b, 0, none⟩)] h _
  refine con_slices_Values_1 ?_
  obtain ⟨sa, sc, rfl⟩ := hC.2.is
  simp -dsimp only [go_sem, hC.1.cell]
  refine loop_intro (fun i : Nat => [(0, .func (.yield lo) #[] #[]), (5, .slice sa l.length sc), (6, .int .i64 l.length), (7, .int .i64 i)])
    (fun i h' => i ≤ l.length ∧ (Rw h' b [.slice sa l.length sc] ∧ Rd 1 h' (.slice sa l.length sc) l.length (natsV l)) ∧ I i h') (fun i => l.length - i) 0 ?_ ?_ ?_
  · simp [Le, find]
  · exact ⟨by omega, hC, hI⟩
  rintro i h1 ⟨hi, hC1, hI1⟩
  simp -dsimp only [go_sem]
  refine ⟨fun hlt => ?_, fun hge => ?_⟩
  · have hlt : i < l.length := by omega
    have hq : l[i]? = some l[i] := by simp [hlt]
    generalize l[i] = q at hq
    simp -dsimp only [go_sem]
    refine Chk_intro (by omega) (hC1.2.idx (by omega) fun b2 o2 c2 => ?_)
    simp -dsimp only [go_sem, c2 i _ (natsV_get hq)]
    have hdx : (l.map fun (p : Nat) => [Value.int .i64 (p : Int)])[i]? = some [.int .i64 (q : Int)] := by rw [List.getElem?_map, hq]; rfl
    refine yld_of (hy i _ _ hdx hI1 hC1) ?_
    rintro v h4 (⟨rfl, hI4, hC4⟩ | ⟨rfl, hX4⟩)
    · simp -dsimp only [go_sem]
      simp -dsimp (disch := omega) only [wrap64]
      exact ⟨i + 1, by omega, by simp [Le, find], by omega, hC4, hI4⟩
    · simp -dsimp only [go_sem]
      exact .inr hX4
  · have : i = l.length := by omega
    subst this
    simp -dsimp only [go_sem]
    refine .inl ⟨?_, hC1⟩
    rw [List.length_map]
    exact hI1
theorem slices_AppendSeq {gf : FuncId} {lb : Array Value} {l : List Nat} {C : Heap → Prop} {h : Heap} (hit : Iter Tryd.prog gf lb (l.map fun (p : Nat) => [Value.int .i64 (p : Int)]) C)
    (cext : ∀ B h1 h2, h.size ≤ B → Ext B h1 h2 → C h1 → C h2) (cfr : ∀ h', Fr 0 0 h h' → C h') (hl : l.length ≤ 65536) :
    Con Tryd.prog 125 #[.slice none 0 0, .func (.func gf) #[] lb] h fun v h' => Fr 0 0 h h' ∧ Holder 1 h' v l.length (natsV l) h.size := by
  refine con_slices_AppendSeq (fun v h1 h2 x ⟨f, o⟩ => ⟨x.fr f (Nat.le_refl _), o.ext x⟩) ?_
  have p0 : Fr 0 0 h h := .refl _ _ _
  simp -dsimp only [go_sem]
  intro b1 h1 n1
  have n1_a := n1.at_
  have n1_z := n1.size
  replace p0 := p0.fresh (n1.fr (lo := 0) (hi := 0)) (by omega)
  have r1 := n1.row
  simp -dsimp only [go_sem, r1.cell]
  refine ⟨rfl, iter_intro hit (fun h2 h3 x => cext _ _ _ (by omega) x) (cfr _ p0)
    (fun d h' => Fr 0 0 h h' ∧ h1.size ≤ h'.size ∧ ∃ sv, Rw h' b1 [sv] ∧ Holder 1 h' sv d (natsV (l.take d)) h1.size) (fun _ _ => False) ?_ ?_ ?_ ?_ ?_ ?_ ?_⟩
  · rintro d h' ⟨q0, -⟩; exact cfr _ q0
  · rintro d h2 h3 x ⟨q0, q1, sv, q2, q3⟩; exact ⟨q0.ext x (by omega), Nat.le_trans q1 x.size, sv, q2.ext x, q3.ext x⟩
  · exact fun _ _ _ _ h => h
  · exact ⟨p0, by omega, _, r1, .none _ _ _⟩
  · rintro d q h2 z2 hq ⟨p0, y2, sv, r1, o2⟩
    have hd := (List.getElem?_eq_some_iff.1 hq).1
    have p0_z := p0.size
    have r1_l := r1.lt
    have o2_l := o2.top
    simp -dsimp only [go_sem, r1.cell]
    intro h3 x3
    have x3_z := x3.size
    replace p0 := p0.ext x3 (by omega)
    replace r1 := r1.ext x3
    replace o2 := o2.ext x3
    obtain ⟨va, vc, rfl⟩ := o2.is
    simp -dsimp only [go_sem, r1.cell]
    intro b4 h4 n4
    have n4_a := n4.at_
    have n4_z := n4.size
    replace p0 := p0.fresh (n4.fr (lo := 0) (hi := 0)) (by omega)
    replace r1 := r1.fr (n4.fr (lo := 0) (hi := 0)) (by omega)
    replace o2 := o2.fr (n4.fr (lo := 0) (hi := 0)) (by have := o2.at_; omega)
    simp -dsimp only [go_sem, n4.row.cell, r1.cell]
    refine o2.append (by omega) rfl (by omega) (by simp) (by omega) fun v5 h5 o_new f5 e_app => ?_
    have f5_z := f5.size
    have o_at := o2.at_
    replace p0 := p0.fresh f5 (by omega)
    replace r1 := r1.fr f5 (by omega)
    clear o_at e_app
    replace o2 := o_new
    have o2_l := o2.top
    obtain ⟨ua, uc, rfl⟩ := o2.is
    simp -dsimp only [go_sem, r1.cell]
    refine Chk_intro (r1.wr (by simp)) fun h6 s6 => ?_
    have s6_z := s6.size
    have r6 := s6.row r1
    have o6 := o2.fr s6.fr (by have := o2.at_; omega)
    have q6 := p0.fresh s6.fr (by omega)
    simp -dsimp only [go_sem] at r6
    simp -dsimp only [go_sem, r1.cell]
    refine ⟨q6, by omega, _, r6, ?_⟩
    rw [List.take_add_one, hq, Option.toList_some, natsV_append]
    exact o6
  · rintro h2 z2 ⟨p0, y2, sv, r1, o2⟩
    rw [List.take_length] at o2
    have p0_z := p0.size
    have r1_l := r1.lt
    have o2_l := o2.top
    simp -dsimp only [go_sem, r1.cell]
    exact ⟨p0, o2.lower (by omega)⟩
  · exact fun _ _ _ h => h.elim
theorem slices_Collect {gf : FuncId} {lb : Array Value} {l : List Nat} {C : Heap → Prop} {h : Heap} (hit : Iter Tryd.prog gf lb (l.map fun (p : Nat) => [Value.int .i64 (p : Int)]) C)
    (cext : ∀ B h1 h2, h.size ≤ B → Ext B h1 h2 → C h1 → C h2) (cfr : ∀ h', Fr 0 0 h h' → C h') (hl : l.length ≤ 65536) :
    Con Tryd.prog 121 #[.func (.func gf) #[] lb] h fun v h' => Fr 0 0 h h' ∧ Holder 1 h' v l.length (natsV l) h.size := by
  refine con_slices_Collect ?_
  simp -dsimp only [go_sem]
  refine call_of (slices_AppendSeq hit cext cfr hl) ?_
  rintro v h1 ⟨p1, o1⟩
  simp -dsimp only [go_sem]
  exact ⟨p1, o1⟩
end Go.Proofs.Tst
namespace Go.Proofs.Tst
open Go Go.Vc
/-- What is kept of a: the pairs that b has, or has not. -/
def keepM (n : Nat) (M : Nat → Nat → Bool) (m : Nat) (N : Nat → Nat → Bool) (has : Bool) (i j : Nat) : Bool := inN n M i j && (inN m N i j == has)
set_option maxHeartbeats 800000 in
theorem rel_keep {n m : Nat} {M N : Nat → Nat → Bool} {p q : Value} {lo hi lo' hi' : Nat} {h : Heap} (hr : ProgAt h lo hi p n M) (hs : ProgAt h lo' hi' q m N) (ht : TabAt h) (has : Bool) :
    Con Tryd.prog 111 #[p, q, .bool has] h fun v h' => Fr 0 0 h h' ∧ ProgAt h' h.size h'.size v (max n m) (keepM n M m N has) := by
  refine con_rel_keep (fun v h1 h2 x ⟨f, o⟩ => ⟨x.fr f (Nat.le_refl _), (o.ext x).mono (Nat.le_refl _) x.size⟩) ?_
  have hr0 := hr; have hs0 := hs
  obtain ⟨hn, pb, rb, R, W, rfl, t⟩ := hr
  obtain ⟨hm, pb', rb', R', W', rfl, t'⟩ := hs
  have p0 : Fr 0 0 h h := .refl _ _ _
  simp -dsimp only [go_sem]
  intro b1 h1 n1
  have n1_a := n1.at_
  have n1_z := n1.size
  replace p0 := p0.fresh (n1.fr (lo := 0) (hi := 0)) (by omega)
  have r1 := n1.row
  simp -dsimp only [go_sem, r1.cell]
  intro b2 h2 n2
  have n2_a := n2.at_
  have n2_z := n2.size
  replace p0 := p0.fresh (n2.fr (lo := 0) (hi := 0)) (by omega)
  replace r1 := r1.fr (n2.fr (lo := 0) (hi := 0)) (by omega)
  have r2 := n2.row
  have tq := t'.fr p0 (by omega)
  simp -dsimp only [go_sem, tq.ptr.cell, r1.cell, r2.cell]
  refine call_of (rel_wide (hr0.fr p0 (by omega)) m hm) ?_
  rintro v3 h3 ⟨f3, hk, pb3, rb3, R3, W3, rfl, t3⟩
  rw [Nat.max_comm] at hk t3
  have f3_z := f3.size
  replace p0 := p0.fresh f3 (by omega)
  replace r1 := r1.fr f3 (by omega)
  replace r2 := r2.fr f3 (by omega)
  simp -dsimp only [go_sem, r1.cell, r2.cell]
  intro b4 h4 n4
  have n4_a := n4.at_
  have n4_z := n4.size
  replace p0 := p0.fresh (n4.fr (lo := 0) (hi := 0)) (by omega)
  replace r1 := r1.fr (n4.fr (lo := 0) (hi := 0)) (by omega)
  replace r2 := r2.fr (n4.fr (lo := 0) (hi := 0)) (by omega)
  replace t3 := t3.fr (n4.fr (lo := 0) (hi := 0)) (by omega)
  have r4 := n4.row
  simp -dsimp only [go_sem, r1.cell, r2.cell, r4.cell]
  refine Chk_intro (r4.wr (by first | (simp; done) | (simp; omega))) fun h5 s5 => ?_
  have s5_z := s5.size
  replace p0 := p0.fresh s5.fr (by omega)
  replace r1 := r1.fr s5.fr (by omega)
  replace r2 := r2.fr s5.fr (by omega)
  replace t3 := t3.fr s5.fr (by omega)
  replace r4 := s5.row r4
  try simp only [cl_int, cl_bool, cl_slice, cl_ptr, putAt_one, List.set_cons_zero, List.set_cons_succ, ivec_set, brow_upd] at r4
  have at3 := t3.at_
  simp -dsimp only [go_sem, t3.ptr.cell, r1.cell, r2.cell, r4.cell]
  refine loop_intro (fun a : Nat => [(4, .pointer (some ⟨b1, 0, none⟩)), (5, .pointer (some ⟨b2, 0, none⟩)), (7, .pointer (some ⟨b4, 0, none⟩)), (20, .slice (some ⟨rb3, 0, none⟩) (max n m) (max n m)), (21, .int .i64 (max n m : Nat)), (22, .int .i64 a)])
    (fun a h' => a ≤ max n m ∧ Fr 0 0 h h' ∧ h5.size ≤ h'.size ∧ Rw h' b1 [.pointer (some ⟨pb', 0, none⟩)] ∧ Rw h' b2 [.bool has] ∧ Rw h' b4 [.pointer (some ⟨pb3, 0, none⟩)] ∧ ∃ W, PTab h' h2.size h3.size pb3 rb3 (max n m) R3 W fun i j => inN n M i j && (decide (a ≤ i) || (inN m N i j == has))) (fun a => max n m - a) 0 ?_ ?_ ?_
  · simp [Le, find]
  · exact ⟨by omega, p0, by omega, r1, r2, r4, _, t3.congr fun i j _ _ => by simp⟩
  rintro a h6 ⟨ha, p0, y6, r1, r2, r4, W6, t6⟩
  have p0_z := p0.size
  have r1_l := r1.lt
  have r2_l := r2.lt
  have r4_l := r4.lt
  simp -dsimp only [go_sem, r1.cell, r2.cell, r4.cell]
  refine ⟨fun hlt => ?_, fun hge => ?_⟩
  · have hlt : a < max n m := by omega
    simp -dsimp only [go_sem, r1.cell, r2.cell, r4.cell]
    refine Chk_intro (by omega) ?_
    simp -dsimp only [go_sem, t6.rowsGet hlt, r1.cell, r2.cell, r4.cell]
    intro b7 h7 n7
    have n7_a := n7.at_
    have n7_z := n7.size
    replace p0 := p0.fresh (n7.fr (lo := 0) (hi := 0)) (by omega)
    replace r1 := r1.fr (n7.fr (lo := 0) (hi := 0)) (by omega)
    replace r2 := r2.fr (n7.fr (lo := 0) (hi := 0)) (by omega)
    replace r4 := r4.fr (n7.fr (lo := 0) (hi := 0)) (by omega)
    replace t6 := t6.fr (n7.fr (lo := 0) (hi := 0)) (by omega)
    have r7 := n7.row
    simp -dsimp only [go_sem, r1.cell, r2.cell, r4.cell, r7.cell]
    refine Chk_intro (r7.wr (by first | (simp; done) | (simp; omega))) fun h8 s8 => ?_
    have s8_z := s8.size
    replace p0 := p0.fresh s8.fr (by omega)
    replace r1 := r1.fr s8.fr (by omega)
    replace r2 := r2.fr s8.fr (by omega)
    replace r4 := r4.fr s8.fr (by omega)
    replace t6 := t6.fr s8.fr (by omega)
    replace r7 := s8.row r7
    try simp only [cl_int, cl_bool, cl_slice, cl_ptr, putAt_one, List.set_cons_zero, List.set_cons_succ, ivec_set, brow_upd] at r7
    simp -dsimp only [go_sem, r1.cell, r2.cell, r4.cell, r7.cell]
    refine call_of (rel_points _ _ _ h8) ?_
    rintro v h9 ⟨f9, rfl, c9, z9⟩
    have f9_z := f9.size
    replace p0 := p0.fresh f9 (by omega)
    replace r1 := r1.fr f9 (by omega)
    replace r2 := r2.fr f9 (by omega)
    replace r4 := r4.fr f9 (by omega)
    replace t6 := t6.fr f9 (by omega)
    replace r7 := r7.fr f9 (by omega)
    simp -dsimp only [go_sem, r1.cell, r2.cell, r4.cell, r7.cell]
    have hbits := (t6.row a hlt).2.2.2.2.2
    have hit := points_1 (b := h8.size) (xv := .slice (some ⟨R3 a, 0, none⟩) (nw (max n m)) (nw (max n m))) (w := nw (max n m)) (W := W6 a) (fun j => (hbits j).1) (by unfold nw; omega)
    rw [rest_bits hbits] at hit
    have hL := length_rest_le (fun j => inN n M a j && (decide (a ≤ a) || (inN m N a j == has))) (max n m) 0
    have hC : RowC h8.size (.slice (some ⟨R3 a, 0, none⟩) (nw (max n m)) (nw (max n m))) (nw (max n m)) (W6 a) h9 := ⟨c9, ptab_rd t6 hlt, ht.fr p0 (by omega)⟩
    refine call_of (slices_Collect hit (fun B g1 g2 _ x ⟨c1, c2, c3⟩ => ⟨x.cell c1, x.rd c2, x.tab c3⟩) (fun g f => ⟨f.keep hC.1 (by omega), hC.2.1.fr f, hC.2.2.fr f (by omega)⟩) (by omega)) ?_
    rintro sv h10 ⟨f10, o10⟩
    clear hit hC
    have hrow : (rest (fun j => inN n M a j && (decide (a ≤ a) || (inN m N a j == has))) (max n m) 0) = rest (fun j => inN n M a j) (max n m) 0 := rest_congr fun j _ _ => by simp
    rw [hrow] at o10 hL
    have f10_z := f10.size
    replace p0 := p0.fresh f10 (by omega)
    replace r1 := r1.fr f10 (by omega)
    replace r2 := r2.fr f10 (by omega)
    replace r4 := r4.fr f10 (by omega)
    replace t6 := t6.fr f10 (by omega)
    replace r7 := r7.fr f10 (by omega)
    obtain ⟨va, vc, rfl⟩ := o10.is
    have o10_l := o10.top
    simp -dsimp only [go_sem, r1.cell, r2.cell, r4.cell, r7.cell]
    refine call_of (slices_Values) ?_
    rintro v h11 ⟨f11, rfl, r11, z11⟩
    have f11_z := f11.size
    replace p0 := p0.fresh f11 (by omega)
    replace r1 := r1.fr f11 (by omega)
    replace r2 := r2.fr f11 (by omega)
    replace r4 := r4.fr f11 (by omega)
    replace t6 := t6.fr f11 (by omega)
    replace r7 := r7.fr f11 (by omega)
    replace o10 := o10.fr f11 (by have := o10.at_; omega)
    simp -dsimp only [go_sem, r1.cell, r2.cell, r4.cell, r7.cell, r11.cell]
    refine ⟨rfl, iter_intro (values_1 (l := rest (fun j => inN n M a j) (max n m) 0) (by omega)) (fun g1 g2 x ⟨c1, c2⟩ => ⟨c1.ext x, c2.ext x⟩) ⟨r11, o10.rd⟩
      (fun d h' => Fr 0 0 h h' ∧ h11.size ≤ h'.size ∧ Rw h' b1 [.pointer (some ⟨pb', 0, none⟩)] ∧ Rw h' b2 [.bool has] ∧ Rw h' b4 [.pointer (some ⟨pb3, 0, none⟩)] ∧ Rw h' b7 [.int .i64 a] ∧ Rw h' h10.size [.slice va (rest (fun j => inN n M a j) (max n m) 0).length vc] ∧ Holder 1 h' (.slice va (rest (fun j => inN n M a j) (max n m) 0).length vc) (rest (fun j => inN n M a j) (max n m) 0).length (natsV (rest (fun j => inN n M a j) (max n m) 0)) h9.size ∧
        ∃ W, PTab h' h2.size h3.size pb3 rb3 (max n m) R3 W fun i j => inN n M i j && (decide (a + 1 ≤ i) || (inN m N i j == has) || (i == a && !((rest (fun j => inN n M a j) (max n m) 0).take d).contains j)))
      (fun _ _ => False) ?_ ?_ ?_ ?_ ?_ ?_ ?_⟩
    · rintro d h' ⟨-, -, -, -, -, -, q1, q2, -⟩; exact ⟨q1, q2.rd⟩
    · rintro d g1 g2 x ⟨q0, q1, q2, q3, q4, q5, q6, q7, W', q8⟩
      exact ⟨q0.ext x (by omega), Nat.le_trans q1 x.size, q2.ext x, q3.ext x, q4.ext x, q5.ext x, q6.ext x, q7.ext x, W', q8.ext x⟩
    · exact fun _ _ _ _ h => h
    · refine ⟨p0, Nat.le_refl _, r1, r2, r4, r7, r11, o10, _, t6.congr fun i j _ _ => ?_⟩
      by_cases hia : i = a
      · subst hia; simp
      · have e : (i == a) = false := by simpa using hia
        have e2 : (a ≤ i) = (a + 1 ≤ i) := by simp; omega
        simp [e, e2]
    · rintro d q h12 z12 hq ⟨p0, y12, r1, r2, r4, r7, r11, o10, W12, t12⟩
      have hqm := mem_rest.1 (List.mem_of_getElem? hq)
      have p0_z := p0.size
      have r1_l := r1.lt
      have r2_l := r2.lt
      have r4_l := r4.lt
      have r7_l := r7.lt
      have r11_l := r11.lt
      have o10_l := o10.top
      simp -dsimp only [go_sem, r1.cell, r2.cell, r4.cell, r7.cell, r11.cell]
      intro h13 x13
      have x13_z := x13.size
      replace p0 := p0.ext x13 (by omega)
      replace r1 := r1.ext x13
      replace r2 := r2.ext x13
      replace r4 := r4.ext x13
      replace r7 := r7.ext x13
      replace r11 := r11.ext x13
      replace o10 := o10.ext x13
      replace t12 := t12.ext x13
      simp -dsimp only [go_sem, r1.cell, r2.cell, r4.cell, r7.cell, r11.cell]
      refine call_of (rel_Has (hs0.fr p0 (by omega)) a q) ?_
      rintro v h14 ⟨rfl, rfl⟩
      have hh : (inR m a && inR m q && N (a : Int).toNat (q : Int).toNat) = inN m N a q := by
        simp [inN, inR]
      rw [hh]
      simp -dsimp only [go_sem, r1.cell, r2.cell, r4.cell, r7.cell, r11.cell]
      have hfree : ∀ j, j < max n m → ((rest (fun j => inN n M a j) (max n m) 0).take (d + 1)).contains j = (((rest (fun j => inN n M a j) (max n m) 0).take d).contains j || j == q) := fun j hj => by
        rw [List.take_add_one, hq, Option.toList_some, List.contains_append, List.contains_cons, List.contains_nil, Bool.or_false]
      cases hb : (inN m N a q != has) with
      | true =>
        have hb' : (inN m N a q == has) = false := by simpa [bne] using hb
        simp -dsimp only [go_sem, r1.cell, r2.cell, r4.cell, r7.cell, r11.cell]
        refine call_of (rel_PutT hk t12 a q false) ?_
        rintro v15 h15 ⟨f15, z15, rfl, W15, t15⟩
        have f15_z := f15.size
        replace p0 := p0.fresh f15 (by omega)
        replace r1 := r1.fr f15 (by omega)
        replace r2 := r2.fr f15 (by omega)
        replace r4 := r4.fr f15 (by omega)
        replace r7 := r7.fr f15 (by omega)
        replace r11 := r11.fr f15 (by omega)
        replace o10 := o10.fr f15 (by have := o10.at_; omega)
        simp -dsimp only [go_sem, r1.cell, r2.cell, r4.cell, r7.cell, r11.cell]
        refine ⟨p0, by omega, r1, r2, r4, r7, r11, o10, _, t15.congr fun i j hi hj => ?_⟩
        simp only [putM]
        have e1 : (inR (max n m : Nat) a && inR (max n m : Nat) q) = true := by simp [inR]; omega
        rw [e1, hfree j hj]
        by_cases hia : i = a
        · subst hia
          by_cases hjq : j = q
          · subst hjq; simp [hb']
          · have e2 : (j == q) = false := by simpa using hjq
            have e3 : ((q : Int) == (j : Int)) = false := by simp; omega
            simp [e2, e3]
        · have e : (i == a) = false := by simpa using hia
          have e3 : ((a : Int) == (i : Int)) = false := by simp; omega
          simp [e, e3]
      | false =>
        have hb' : (inN m N a q == has) = true := by simpa [bne] using hb
        simp -dsimp only [go_sem, r1.cell, r2.cell, r4.cell, r7.cell, r11.cell]
        refine ⟨p0, by omega, r1, r2, r4, r7, r11, o10, _, t12.congr fun i j hi hj => ?_⟩
        rw [hfree j hj]
        by_cases hia : i = a
        · subst hia
          by_cases hjq : j = q
          · subst hjq; simp [hb']
          · have e2 : (j == q) = false := by simpa using hjq
            simp [e2]
        · have e : (i == a) = false := by simpa using hia
          simp [e]
    · rintro h12 z12 ⟨p0, y12, r1, r2, r4, r7, r11, o10, W12, t12⟩
      simp -dsimp only [go_sem, r1.cell, r2.cell, r4.cell, r7.cell, r11.cell]
      simp -dsimp (disch := omega) only [wrap64]
      refine ⟨a + 1, by omega, by simp [Le, find], by omega, p0, by omega, r1, r2, r4, _, t12.congr fun i j hi hj => ?_⟩
      rw [List.take_length]
      by_cases hia : i = a
      · subst hia
        cases hM : inN n M i j with
        | false => simp
        | true =>
          have : (rest (fun j => inN n M i j) (max n m) 0).contains j = true := by
            rw [List.contains_iff_mem]; exact mem_rest.2 ⟨by omega, hj, hM⟩
          have e : ¬ i + 1 ≤ i := by omega
          rw [this]; simp [e]
      · have e : (i == a) = false := by simpa using hia
        simp [e]
    · exact fun _ _ _ h => h.elim
  · have : a = max n m := by omega
    subst this
    simp -dsimp only [go_sem, r1.cell, r2.cell, r4.cell]
    refine ⟨p0, hk, _, _, _, _, rfl, ((t6.mono' (hi' := h6.size) (by omega)).lower (by omega)).congr fun i j hi hj => ?_⟩
    have : ¬ max n m ≤ i := by omega
    simp [keepM, this]
end Go.Proofs.Tst
namespace Go.Proofs.Tst
open Go Go.Vc
theorem rel_Inter {n m : Nat} {M N : Nat → Nat → Bool} {p q : Value} {lo hi lo' hi' : Nat} {h : Heap} (hr : ProgAt h lo hi p n M) (hs : ProgAt h lo' hi' q m N) (ht : TabAt h) :
    Con Tryd.prog 89 #[p, q] h fun v h' => Fr 0 0 h h' ∧ ProgAt h' h.size h'.size v (max n m) (interM n M m N) := by
  refine con_rel_Inter ?_
  simp -dsimp only [go_sem]
  refine call_of (rel_keep hr hs ht true) ?_
  rintro v h1 ⟨p1, t1⟩
  simp -dsimp only [go_sem]
  exact ⟨p1, t1.congr fun i j _ _ => by unfold keepM interM; cases inN m N i j <;> simp⟩
theorem rel_Minus {n m : Nat} {M N : Nat → Nat → Bool} {p q : Value} {lo hi lo' hi' : Nat} {h : Heap} (hr : ProgAt h lo hi p n M) (hs : ProgAt h lo' hi' q m N) (ht : TabAt h) :
    Con Tryd.prog 108 #[p, q] h fun v h' => Fr 0 0 h h' ∧ ProgAt h' h.size h'.size v (max n m) (minusM n M m N) := by
  refine con_rel_Minus ?_
  simp -dsimp only [go_sem]
  refine call_of (rel_keep hr hs ht false) ?_
  rintro v h1 ⟨p1, t1⟩
  simp -dsimp only [go_sem]
  exact ⟨p1, t1.congr fun i j _ _ => by unfold keepM minusM; cases inN m N i j <;> simp⟩
theorem rel_Ident (n : Int) {sv : Value} {l : List Bool} {h : Heap} (hl : Rd 1 h sv l.length (boolsV l)) (hb : l.length ≤ 4611686018427387904) :
    Con Tryd.prog 123 #[.int .i64 n, sv] h fun v h' => Fr 0 0 h h' ∧ ProgAt h' h.size h'.size v (clampN n) (idM l) := by
  refine con_rel_Ident ?_
  obtain ⟨sa, sc, rfl⟩ := hl.is
  simp -dsimp only [go_sem]
  refine call_of (rel_New n h) ?_
  rintro v1 h1 ⟨p0, t1⟩
  simp -dsimp only [go_sem]
  refine loop_intro (fun a : Nat => [(5, v1), (10, .slice sa l.length sc), (11, .int .i64 l.length), (12, .int .i64 a)])
    (fun a h' => a ≤ l.length ∧ Fr 0 0 h h' ∧ h1.size ≤ h'.size ∧ ProgAt h' h.size h1.size v1 (clampN n) fun i j => i == j && (decide (i < a) && atB l i)) (fun a => l.length - a) 0 ?_ ?_ ?_
  · simp [Le, find]
  · exact ⟨by omega, p0, by omega, t1.congr fun i j _ _ => by simp⟩
  rintro a h2 ⟨ha, p0, y2, t2⟩
  have := p0.size
  simp -dsimp only [go_sem]
  refine ⟨fun hlt => ?_, fun hge => ?_⟩
  · have hlt : a < l.length := by omega
    have hq : l[a]? = some l[a] := by simp [hlt]
    generalize l[a] = b at hq
    simp -dsimp only [go_sem]
    refine Chk_intro (by omega) ((hl.fr p0).idx (by omega) fun b2 o2 c2 => ?_)
    simp -dsimp only [go_sem, c2 a _ (boolsV_get hq)]
    cases b with
    | true =>
      simp -dsimp only [go_sem]
      refine call_of (rel_Put t2 a a true) ?_
      rintro v3 h3 ⟨f3, z3, rfl, t3⟩
      simp -dsimp only [go_sem]
      simp -dsimp (disch := omega) only [wrap64]
      refine ⟨a + 1, by omega, by simp [Le, find], by omega, p0.fresh f3 (by have := t1.1; have := p0.size; omega), by omega, t3.congr fun i j hi hj => ?_⟩
      simp only [putM]
      by_cases hia : i = a
      · subst hia
        have e1 : (inR (clampN n) i) = true := by simp [inR]; omega
        by_cases hij : i = j
        · subst hij; simp [e1, atB_get hq]
        · have e2 : (i == j) = false := by simpa using hij
          have e3 : ((i : Int) == (j : Int)) = false := by simp; omega
          simp [e2, e3]
      · have e3 : ((a : Int) == (i : Int)) = false := by simp; omega
        have e4 : (i < a + 1) = (i < a) := by simp; omega
        simp [e3, e4]
    | false =>
      simp -dsimp only [go_sem]
      simp -dsimp (disch := omega) only [wrap64]
      refine ⟨a + 1, by omega, by simp [Le, find], by omega, p0, by omega, t2.congr fun i j hi hj => ?_⟩
      by_cases hia : i = a
      · subst hia; simp [atB_get hq]
      · have e4 : (i < a + 1) = (i < a) := by simp; omega
        simp [e4]
  · have : a = l.length := by omega
    subst this
    simp -dsimp only [go_sem]
    refine ⟨p0, (t2.congr fun i j _ _ => ?_).mono (Nat.le_refl _) (by omega)⟩
    by_cases hi : i < l.length
    · simp [idM, hi]
    · simp [idM, atB_out (show l.length ≤ i by omega)]
/-- Relations that are joined. -/
def RelsAt (h : Heap) (L : List (Value × Nat × (Nat → Nat → Bool))) : Prop := ∀ x ∈ L, ∃ lo hi, ProgAt h lo hi x.1 x.2.1 x.2.2
def maxN (L : List (Value × Nat × (Nat → Nat → Bool))) : Nat := L.foldl (fun n x => max n x.2.1) 0
def anyM (L : List (Value × Nat × (Nat → Nat → Bool))) (i j : Nat) : Bool := L.any fun x => inN x.2.1 x.2.2 i j
theorem foldl_max (L : List (Value × Nat × (Nat → Nat → Bool))) : ∀ n, n ≤ L.foldl (fun n x => max n x.2.1) n ∧ ∀ x ∈ L, x.2.1 ≤ L.foldl (fun n x => max n x.2.1) n := by
  induction L with
  | nil => intro n; simp
  | cons y L ih =>
    intro n
    obtain ⟨h1, h2⟩ := ih (max n y.2.1)
    refine ⟨by simp only [List.foldl_cons]; omega, fun x hx => ?_⟩
    rcases List.mem_cons.1 hx with rfl | hx
    · simp only [List.foldl_cons]; omega
    · exact h2 x hx
theorem le_maxN {L : List (Value × Nat × (Nat → Nat → Bool))} {x : Value × Nat × (Nat → Nat → Bool)} (h : x ∈ L) : x.2.1 ≤ maxN L := (foldl_max L 0).2 x h
theorem RelsAt.fr {h h' : Heap} {L : List (Value × Nat × (Nat → Nat → Bool))} (r : RelsAt h L) (f : Fr 0 0 h h') : RelsAt h' L := fun x hx => by
  obtain ⟨lo, hi, t⟩ := r x hx; exact ⟨lo, hi, t.fr f (by omega)⟩
theorem foldl_le (L : List (Value × Nat × (Nat → Nat → Bool))) (hL : ∀ x ∈ L, x.2.1 ≤ 256) : ∀ n, n ≤ 256 → L.foldl (fun n x => max n x.2.1) n ≤ 256 := by
  induction L with
  | nil => intro n h; simpa using h
  | cons y L ih =>
    intro n hn
    exact ih (fun x hx => hL x (List.mem_cons_of_mem _ hx)) _ (Nat.max_le.2 ⟨hn, hL y (List.mem_cons_self ..)⟩)
theorem rel_Union {lv : Value} {L : List (Value × Nat × (Nat → Nat → Bool))} {h : Heap} (hl : Rd 1 h lv L.length (L.map (·.1))) (hr : RelsAt h L) (hL : L.length ≤ 65536) :
    Con Tryd.prog 50 #[lv] h fun v h' => Fr 0 0 h h' ∧ ProgAt h' h.size h'.size v (maxN L) (anyM L) := by
  refine con_rel_Union ?_
  obtain ⟨la, lc, rfl⟩ := hl.is
  have hle : ∀ x ∈ L, x.2.1 ≤ 256 := fun x hx => by obtain ⟨lo, hi, t⟩ := hr x hx; exact t.1
  have htk : ∀ a, (hlt : a < L.length) → ((L.take (a + 1)).foldl (fun n x => max n x.2.1) 0) = max ((L.take a).foldl (fun n x => max n x.2.1) 0) L[a].2.1 := fun a hlt => by
    rw [List.take_succ_eq_append_getElem hlt, List.foldl_append]; rfl
  have htn : ∀ a, (L.take a).foldl (fun n x => max n x.2.1) 0 ≤ 256 := fun a => foldl_le _ (fun x hx => hle x (List.mem_of_mem_take hx)) 0 (by omega)
  simp -dsimp only [go_sem]
  refine loop_intro (fun a : Nat => [(0, .slice la L.length lc), (3, .int .i64 ((L.take a).foldl (fun n x => max n x.2.1) 0 : Nat)), (11, .slice la L.length lc), (12, .int .i64 L.length), (13, .int .i64 a)])
    (fun a h' => a ≤ L.length ∧ h' = h) (fun a => L.length - a) 0 ?_ ?_ ?_
  · simp [Le, find]
  · exact ⟨by omega, rfl⟩
  rintro a h0 ⟨ha, hh⟩
  obtain rfl : h = h0 := hh.symm
  simp -dsimp only [go_sem]
  refine ⟨fun hlt => ?_, fun hge => ?_⟩
  · have hlt : a < L.length := by omega
    have hq : (L.map (·.1))[a]? = some L[a].1 := by simp [hlt]
    have hmem : L[a] ∈ L := List.getElem_mem _
    have ht1 := htk a hlt
    generalize L[a] = x at hq hmem ht1
    obtain ⟨lo, hi, hn, pb, rb, R, W, hxv, t⟩ := hr x hmem
    rw [hxv] at hq
    simp -dsimp only [go_sem]
    refine Chk_intro (by omega) (hl.idx (by omega) fun b2 o2 c2 => ?_)
    simp -dsimp only [go_sem, c2 a _ hq, t.ptr.cell]
    simp -dsimp (disch := omega) only [wrap64]
    have e : (if (x.2.1 : Int) > ((L.take a).foldl (fun n x => max n x.2.1) 0 : Nat) then (x.2.1 : Int) else ((L.take a).foldl (fun n x => max n x.2.1) 0 : Nat)) = ((L.take (a + 1)).foldl (fun n x => max n x.2.1) 0 : Nat) := by
      rw [ht1]; split <;> omega
    rw [e]
    exact ⟨a + 1, by omega, by simp [Le, find], by omega⟩
  obtain rfl : a = L.length := by omega
  rw [List.take_length]
  have hmx : L.foldl (fun n x => max n x.2.1) 0 = maxN L := rfl
  rw [hmx]
  have hk : maxN L ≤ 256 := by have := htn L.length; rwa [List.take_length] at this
  have hcl : clampN (maxN L : Nat) = maxN L := by unfold clampN; omega
  simp -dsimp only [go_sem]
  refine call_of (rel_New _ _) ?_
  rintro v1 h1 ⟨p0, t1⟩
  rw [hcl] at t1
  obtain ⟨-, pb1, rb1, R1, W1, rfl, t1⟩ := t1
  have at1 := t1.at_
  simp -dsimp only [go_sem]
  refine loop_intro (fun a : Nat => [(6, .pointer (some ⟨pb1, 0, none⟩)), (26, .slice la L.length lc), (27, .int .i64 L.length), (28, .int .i64 a)])
    (fun a h' => a ≤ L.length ∧ Fr 0 0 h h' ∧ h1.size ≤ h'.size ∧ ∃ W, PTab h' h.size h1.size pb1 rb1 (maxN L) R1 W (anyM (L.take a))) (fun a => L.length - a) 0 ?_ ?_ ?_
  · simp [Le, find]
  · exact ⟨by omega, p0, by omega, _, t1.congr fun i j _ _ => by simp [anyM]⟩
  rintro a h2 ⟨ha, p0, y2, W2, t2⟩
  have p0_z := p0.size
  simp -dsimp only [go_sem]
  refine ⟨fun hlt => ?_, fun hge => ?_⟩
  · have hlt : a < L.length := by omega
    have hq : (L.map (·.1))[a]? = some L[a].1 := by simp [hlt]
    have hmem : L[a] ∈ L := List.getElem_mem _
    have htk2 : L.take (a + 1) = L.take a ++ [L[a]] := List.take_succ_eq_append_getElem hlt
    generalize L[a] = x at hq hmem htk2
    obtain ⟨lo, hi, hn, pb, rb, R, W, hxv, t⟩ := hr x hmem
    rw [hxv] at hq
    have hnk := le_maxN hmem
    generalize hxn : x.2.1 = n at hn t hnk
    simp -dsimp only [go_sem]
    refine Chk_intro (by omega) ((hl.fr p0).idx (by omega) fun b2 o2 c2 => ?_)
    have tp := t.fr p0 (by omega)
    simp -dsimp only [go_sem, c2 a _ hq, tp.ptr.cell]
    refine loop_intro (fun q : Nat => [(6, .pointer (some ⟨pb1, 0, none⟩)), (26, .slice la L.length lc), (27, .int .i64 L.length), (28, .int .i64 a), (35, .slice (some ⟨rb, 0, none⟩) n n), (36, .int .i64 n), (37, .int .i64 q)])
      (fun q h' => q ≤ n ∧ Fr 0 0 h h' ∧ h1.size ≤ h'.size ∧ ∃ W, PTab h' h.size h1.size pb1 rb1 (maxN L) R1 W fun i j => anyM (L.take a) i j || (decide (i < q) && decide (j < n) && x.2.2 i j)) (fun q => n - q) 0 ?_ ?_ ?_
    · simp [Le, find]
    · exact ⟨by omega, p0, by omega, _, t2.congr fun i j _ _ => by simp⟩
    rintro q h3 ⟨hqn, p0, y3, W3, t3⟩
    have p0_z := p0.size
    simp -dsimp only [go_sem]
    refine ⟨fun hlt2 => ?_, fun hge2 => ?_⟩
    · have hlt2 : q < n := by omega
      have tp := t.fr p0 (by omega)
      simp -dsimp only [go_sem]
      refine Chk_intro (by omega) ?_
      simp -dsimp only [go_sem, tp.rowsGet hlt2, t3.ptr.cell]
      refine Chk_intro (by omega) ?_
      simp -dsimp only [go_sem, t3.rowsGet (show q < maxN L by omega)]
      intro b5 h5 n5
      have n5_a := n5.at_
      have n5_z := n5.size
      replace p0 := p0.fresh (n5.fr (lo := 0) (hi := 0)) (by omega)
      replace t3 := t3.fr (n5.fr (lo := 0) (hi := 0)) (by omega)
      have r5 := n5.row
      obtain ⟨g1, g2, g3, g4, g5, g6⟩ := t3.row q (by omega)
      obtain ⟨f1, f2, f3, f4, f5, f6⟩ := (t.fr p0 (by omega)).row q hlt2
      simp -dsimp only [go_sem, r5.cell]
      refine call_of (row_join g1 f1 (r5.rd rfl) (fun j => (g6 j).1) (fun j => (f6 j).1) (by unfold nw; omega) (by unfold nw; omega)) ?_
      rintro _ h6 ⟨q6, z6, r6⟩
      have t6 := t3.updRow (by omega) q6 r6 (g6.or f6 (by omega))
      have q6_z := q6.size
      replace p0 := p0.fresh q6 (by omega)
      simp -dsimp only [go_sem]
      simp -dsimp (disch := omega) only [wrap64]
      refine ⟨q + 1, by omega, by simp [Le, find], by omega, p0, by omega, _, t6.congr fun i j hi hj => ?_⟩
      by_cases hia : i = q
      · subst hia
        rw [upd_same]; simp
      · rw [upd_ne _ _ hia]
        have : (i < q + 1) = (i < q) := by simp; omega
        simp [this]
    · have : q = n := by omega
      subst this
      simp -dsimp only [go_sem]
      simp -dsimp (disch := omega) only [wrap64]
      refine ⟨a + 1, by omega, by simp [Le, find], by omega, p0, by omega, _, t3.congr fun i j hi hj => ?_⟩
      rw [htk2]
      simp only [anyM, List.any_append, List.any_cons, List.any_nil, Bool.or_false, hxn]
      rfl
  · obtain rfl : a = L.length := by omega
    rw [List.take_length] at t2
    simp -dsimp only [go_sem]
    exact ⟨p0, hk, _, _, _, _, rfl, t2.mono' y2⟩
end Go.Proofs.Tst
/-
  A least cycle is one; numbers that rise, round by round.
-/
namespace Go.Vc
section
variable {n : Nat} {M : Nat → Nat → Bool} {p : Nat}
theorem far_plus : ∀ {m i : Nat}, farS n M p i = m + 1 → plusM n M i p = true
  | 0, i, h => plus_sub ((farS_step h).1 rfl)
  | m + 1, i, h => by
    obtain ⟨j, hj, hM, hf⟩ := (farS_step h).2 (by omega)
    exact plus_trans hj (plus_sub hM) (far_plus hf)
/-- The list of a shortest way. -/
theorem cycGo_way : ∀ (k a : Nat), farS n M p a = k + 1 → (a :: cycGo n M (farS n M p) k a).length = k + 1 ∧ ∀ i x, (a :: cycGo n M (farS n M p) k a)[i]? = some x →
    farS n M p x + i = k + 1 ∧ (i ≠ 0 → x < n ∧ plusM n M a x = true) ∧ (i < k → ∃ y, (a :: cycGo n M (farS n M p) k a)[i + 1]? = some y ∧ M x y = true) ∧ (i = k → M x p = true)
  | 0, a, h => by
    refine ⟨rfl, fun i x hx => ?_⟩
    simp only [cycGo] at hx
    cases i with
    | succ i => simp at hx
    | zero =>
      simp at hx; subst hx
      exact ⟨by omega, by omega, by omega, fun _ => (farS_step h).1 rfl⟩
  | k + 1, a, h => by
    obtain ⟨j, hj, hM, hf⟩ := (farS_step h).2 (by omega)
    simp only [cycGo]
    cases hl : lf (fun q => M a q && farS n M p q == k + 1) n 0 with
    | none =>
      have := lf_none hl j (by omega) hj
      simp [hM, hf] at this
    | some q =>
      obtain ⟨-, hq, hfq⟩ := lf_some hl
      simp only [Bool.and_eq_true, beq_iff_eq] at hfq
      obtain ⟨ih1, ih2⟩ := cycGo_way k q hfq.2
      refine ⟨by simpa using ih1, fun i x hx => ?_⟩
      cases i with
      | zero =>
        simp at hx; subst hx
        exact ⟨by omega, by omega, fun _ => ⟨q, by simp, hfq.1⟩, by omega⟩
      | succ i =>
        rw [List.getElem?_cons_succ] at hx
        obtain ⟨g1, g2, g3, g4⟩ := ih2 i x hx
        refine ⟨by omega, fun _ => ?_, fun hi => ?_, fun hi => g4 (by omega)⟩
        · cases i with
          | zero => simp at hx; subst hx; exact ⟨hq, plus_sub hfq.1⟩
          | succ i => exact ⟨(g2 (by omega)).1, plus_trans hq (plus_sub hfq.1) (g2 (by omega)).2⟩
        · obtain ⟨y, hy, hm⟩ := g3 (by omega)
          exact ⟨y, by rw [List.getElem?_cons_succ]; exact hy, hm⟩
end
/-- What is told of a cycle. -/
theorem cycS_is {n : Nat} {M : Nat → Nat → Bool} (hne : cycS n M ≠ []) : ∃ p, p < n ∧ (cycS n M)[0]? = some p ∧ plusM n M p p = true ∧ (∀ q, q < p → plusM n M q q = false) ∧
    (∀ (i x : Nat), (cycS n M)[i]? = some x → x < n ∧ p ≤ x ∧ (∀ y : Nat, (cycS n M)[i + 1]? = some y → M x y = true) ∧ (i + 1 = (cycS n M).length → M x p = true)) ∧
    ∀ i j x : Nat, (cycS n M)[i]? = some x → (cycS n M)[j]? = some x → i = j := by
  unfold cycS at hne ⊢
  cases hl : lf (fun p => plusM n M p p) n 0 with
  | none => rw [hl] at hne; simp at hne
  | some p =>
    obtain ⟨-, hp, hpp⟩ := lf_some hl
    dsimp only
    have hF := plus_far hp hp hpp
    obtain ⟨k, hk⟩ : ∃ k, farS n M p p = k + 1 := ⟨farS n M p p - 1, by omega⟩
    have hs : shortS n M p = p :: cycGo n M (farS n M p) k p := by unfold shortS; rw [hk]; rfl
    rw [hs]
    obtain ⟨h1, h2⟩ := cycGo_way (n := n) (M := M) (p := p) k p hk
    refine ⟨p, hp, by simp, hpp, fun q hq => lf_least hl q (by omega) hq, fun i x hx => ?_, fun i j x hi hj => ?_⟩
    · obtain ⟨g1, g2, g3, g4⟩ := h2 i x hx
      have hil : i < k + 1 := by rw [← h1]; exact (List.getElem?_eq_some_iff.1 hx).1
      have hx2 : x < n ∧ plusM n M p x = true := by
        by_cases hi : i = 0
        · subst hi; simp at hx; subst hx; exact ⟨hp, hpp⟩
        · exact g2 hi
      have hxx : plusM n M x x = true := by
        obtain ⟨m, hm⟩ : ∃ m, farS n M p x = m + 1 := ⟨farS n M p x - 1, by omega⟩
        exact plus_trans hp (far_plus hm) hx2.2
      refine ⟨hx2.1, ?_, fun y hy => ?_, fun hi => g4 (by omega)⟩
      · apply Classical.byContradiction; intro hlt
        have := lf_least hl x (by omega) (by omega)
        rw [this] at hxx; cases hxx
      · have : i + 1 < k + 1 := by rw [← h1]; exact (List.getElem?_eq_some_iff.1 hy).1
        obtain ⟨z, hz, hm⟩ := g3 (by omega)
        rw [hy] at hz; cases hz; exact hm
    · have := (h2 i x hi).1; have := (h2 j x hj).1; omega
theorem cycS_nil {n : Nat} {M : Nat → Nat → Bool} (h : cycS n M = []) : ∀ i, i < n → plusM n M i i = false := by
  unfold cycS at h
  split at h
  · rename_i hl; exact fun i hi => lf_none hl i (by omega) hi
  · simp [shortS] at h
/-- Without a cycle a way has fewer steps than there are points. -/
theorem way_short {n : Nat} {M : Nat → Nat → Bool} (ha : ∀ i, i < n → plusM n M i i = false) {k i j : Nat} (hi : i < n) (hj : j < n) (h : Way n M k i j) : k ≤ (List.range n).countP fun x => plusM n M i x := by
  induction h with
  | @one i j h =>
    rw [Nat.succ_le_iff]
    exact List.countP_pos_iff.2 ⟨j, List.mem_range.2 hj, plus_sub h⟩
  | @more k i x j hx h hw ih =>
    have := ih hx hj
    have := countP_lt (f := fun y => plusM n M x y) (g := fun y => plusM n M i y) n x hx (fun y hy => plus_trans hx (plus_sub h) hy) (ha x hx) (plus_sub h)
    omega
theorem no_way {n : Nat} {M : Nat → Nat → Bool} (ha : ∀ i, i < n → plusM n M i i = false) {i j : Nat} (hi : i < n) (hj : j < n) (h : Way n M n i j) : False := by
  have := way_short ha hi hj h
  have h2 := countP_lt (f := fun y => plusM n M i y) (g := fun _ => true) n i hi (fun _ _ => rfl) (ha i hi) rfl
  simp at h2
  omega
theorem Way.end {n : Nat} {M : Nat → Nat → Bool} {k a i j : Nat} (h : Way n M k a i) (hi : i < n) (hm : M i j = true) : Way n M (k + 1) a j := h.app hi (.one hm)

/-- Is there a way of so many steps to a point? -/
def WayTo (n : Nat) (M : Nat → Nat → Bool) (r i : Nat) : Prop := r = 0 ∨ ∃ a, a < n ∧ Way n M r a i
/-- The numbers within a round. -/
structure Num (n : Nat) (M : Nat → Nat → Bool) (r p : Nat) (N : Nat → Nat) : Prop where
  top : ∀ i, i < n → N i ≤ r
  new : ∀ i, i < n → p ≤ i → N i < r
  up : ∀ a b, a < n → b < n → M a b = true → N b ≠ 0 → N a ≠ 0 ∧ N a < N b
  old : ∀ i, i < n → N i = 0 ∨ N i = r → WayTo n M (r - 1) i
  done : ∀ i, i < p → N i = 0 → WayTo n M r i
section
variable {n : Nat} {M : Nat → Nat → Bool} {r p : Nat} {N : Nat → Nat}
theorem Num.skip (h : Num n M r p N) (h0 : N p ≠ 0 ∨ ∃ a, a < n ∧ M a p = true ∧ (N a = 0 ∨ N a = r)) (hr : 1 ≤ r) : Num n M r (p + 1) N := by
  refine ⟨h.top, fun i hi hpi => h.new i hi (by omega), h.up, h.old, fun i hi hN => ?_⟩
  by_cases hip : i = p
  · subst hip
    rcases h0 with h0 | ⟨a, ha, hm, h0⟩
    · exact absurd hN h0
    · obtain ⟨r, rfl⟩ : ∃ r', r = r' + 1 := ⟨r - 1, by omega⟩
      rcases h.old a ha h0 with h1 | ⟨b, hb, hw⟩
      · have : r = 0 := by omega
        subst this
        exact .inr ⟨a, ha, .one hm⟩
      · exact .inr ⟨b, hb, hw.end ha hm⟩
  · exact h.done i (by omega) hN
theorem Num.next (h : Num n M r n N) : Num n M (r + 1) 0 N :=
  ⟨fun i hi => by have := h.top i hi; omega, fun i hi _ => by have := h.top i hi; omega, h.up, fun i hi hN => by
    rcases hN with hN | hN
    · exact h.done i hi hN
    · have := h.top i hi; omega, fun i hi => by omega⟩
theorem Num.all (h : Num n M (n + 1) 0 N) (ha : ∀ i, i < n → plusM n M i i = false) {a b : Nat} (h1 : a < n) (h2 : b < n) (hm : M a b = true) : N a ≠ 0 ∧ N a < N b := by
  have hb : N b ≠ 0 := by
    intro h0
    rcases h.old b h2 (.inl h0) with h3 | ⟨c, hc, hw⟩
    · omega
    · exact no_way ha hc h2 hw
  exact h.up a b h1 h2 hm hb
end
end Go.Vc
/-
  The words' memory model: its relations, its check (plain).
-/
namespace Go.Proofs.Tst
open Go Go.Vc
def exB (n : Nat) (f : Nat → Bool) : Bool := (List.range n).any f
theorem exB_true {n : Nat} {f : Nat → Bool} : exB n f = true ↔ ∃ k, k < n ∧ f k = true := by
  unfold exB; simp [List.any_eq_true]
def isK (g : Gr) (k : Int) (i : Nat) : Bool := (g.ev i).kind == k
def isM (g : Gr) (m : Int) (i : Nat) : Bool := (g.ev i).mode == m
def rfeM (g : Gr) (i j : Nat) : Bool := relM g 1 i j && relM g 5 i j
def rfiM (g : Gr) (i j : Nat) : Bool := relM g 1 i j && !relM g 5 i j
def coeM (g : Gr) (i j : Nat) : Bool := relM g 2 i j && relM g 5 i j
def coiM (g : Gr) (i j : Nat) : Bool := relM g 2 i j && !relM g 5 i j
def freM (g : Gr) (i j : Nat) : Bool := relM g 9 i j && relM g 5 i j
def acqB (g : Gr) (i : Nat) : Bool := isM g 12 i || isM g 16 i
def lastB (g : Gr) (i : Nat) : Bool := g.rmw.any fun p => p.2 == (i : Int)
def obsM (g : Gr) (i j : Nat) : Bool := rfeM g i j || coeM g i j || freM g i j
def dobM (g : Gr) (i j : Nat) : Bool :=
  relM g 6 i j || relM g 7 i j || (relM g 8 i j && isK g 2 j) || (exB g.n (fun k => relM g 6 i k && relM g 0 k j) && isK g 2 j)
    || exB g.n (fun k => (relM g 8 i k || relM g 7 i k) && coiM g k j) || exB g.n (fun k => (relM g 6 i k || relM g 7 i k) && rfiM g k j)
def aobM (g : Gr) (i j : Nat) : Bool := relM g 3 i j || (lastB g i && rfiM g i j && acqB g j)
def bobM (g : Gr) (i j : Nat) : Bool :=
  exB g.n (fun k => relM g 0 i k && isM g 15 k && relM g 0 k j) || exB g.n (fun k => isK g 1 i && relM g 0 i k && isM g 14 k && relM g 0 k j)
    || (isM g 13 i && relM g 0 i j && isM g 12 j) || (acqB g i && relM g 0 i j) || (relM g 0 i j && isM g 13 j)
    || exB g.n (fun k => relM g 0 i k && isM g 13 k && coiM g k j)
def obM (g : Gr) (i j : Nat) : Bool := obsM g i j || dobM g i j || aobM g i j || bobM g i j
def inM (g : Gr) (i j : Nat) : Bool := (relM g 0 i j && relM g 4 i j) || relM g 1 i j || relM g 2 i j || relM g 9 i j
/-- Is a pair torn? -/
def tornB (g : Gr) (p : Int × Int) : Bool := inR g.n p.1 && inR g.n p.2 && exB g.n fun k => freM g p.1.toNat k && coeM g k p.2.toNat
def armAx (g : Gr) : Int × List Int :=
  if cycS g.n (inM g) ≠ [] then (1, (cycS g.n (inM g)).map fun (x : Nat) => (x : Int))
  else if cycS g.n (obM g) ≠ [] then (2, (cycS g.n (obM g)).map fun (x : Nat) => (x : Int))
  else match g.rmw.find? (tornB g) with | some p => (3, [p.1, p.2]) | none => (0, [])
theorem armAx_zero {g : Gr} : (armAx g).1 = 0 ↔ cycS g.n (inM g) = [] ∧ cycS g.n (obM g) = [] ∧ ∀ p ∈ g.rmw, tornB g p = false := by
  unfold armAx
  by_cases h1 : cycS g.n (inM g) = []
  · rw [if_neg (by simp [h1])]
    by_cases h2 : cycS g.n (obM g) = []
    · rw [if_neg (by simp [h2])]
      cases hf : g.rmw.find? (tornB g) with
      | none =>
        rw [List.find?_eq_none] at hf
        simp only [true_iff]
        exact ⟨h1, h2, fun p hp => by have := hf p hp; simpa using this⟩
      | some p =>
        have h3 := List.find?_some hf
        have h4 := List.mem_of_find?_eq_some hf
        simp only []
        constructor
        · intro h; exact absurd h (by decide)
        · rintro ⟨-, -, h5⟩; rw [h5 p h4] at h3; cases h3
    · rw [if_pos h2]
      simp only []
      constructor
      · intro h; exact absurd h (by decide)
      · rintro ⟨-, h, -⟩; exact absurd h h2
  · rw [if_pos h1]
    simp only []
    constructor
    · intro h; exact absurd h (by decide)
    · rintro ⟨h, -⟩; exact absurd h h1
theorem cyc_acyc {n : Nat} {M : Nat → Nat → Bool} : cycS n M = [] ↔ irrB n (plusM n M) = true := by
  constructor
  · intro h
    have := cycS_nil h
    unfold irrB
    rw [List.all_eq_true]
    intro i hi
    rw [this i (List.mem_range.1 hi)]; rfl
  · intro h
    unfold irrB at h
    rw [List.all_eq_true] at h
    apply Classical.byContradiction; intro hne
    obtain ⟨p, hp, -, hpp, -⟩ := cycS_is hne
    have := h p (List.mem_range.2 hp)
    rw [hpp] at this; cases this
end Go.Proofs.Tst
