/-
  Contracts of functions that the law reaches: what each returns and what it leaves in memory. Conditions stand in each.
-/
import Derived.Test.YtmilaghhnaoidaaDoorT8
set_option linter.all false
set_option maxRecDepth 2000
/-
  ArmLaws.
-/
namespace Go.Proofs.Tst
open Go Go.Vc
set_option maxHeartbeats 8000000 in
theorem c_law11_ArmLaws {h : Heap} {q : GV} {g : Gr} (t : GrAt h q g) (ht : TabAt h) :
    Con Tryd.prog 10 #[.agg (gcells q g).toArray] h fun v h' => Fr 0 0 h h' ∧ v = .bool true := by
  refine con_law11_ArmLaws ?_
  have hen : g.evs.length = g.n := rfl
  have be := t.fits.e
  have bf := t.fits.f
  have bo := t.fits.o
  have p0 : Fr 0 0 h h := .refl _ _ _
  unfold gcells
  simp -dsimp only [go_sem]
  intro b1 h1 n1
  have n1_a := n1.at_
  have n1_z := n1.size
  replace p0 := p0.fresh (n1.fr (lo := 0) (hi := 0)) (by omega)
  have r1 := n1.row
  simp -dsimp only [go_sem, r1.cell]
  refine call_of (arm_Derive (t.fr p0) (ht.fr p0 (.inr rfl))) ?_
  rintro v2 h2 ⟨f2, w2⟩
  have f2_z := f2.size
  replace p0 := p0.fresh f2 (by omega)
  replace r1 := r1.fr f2 (by omega)
  by_cases hc : (g.check true).1 = 0
  rotate_left
  · rw [if_neg hc] at w2
    subst w2
    simp -dsimp only [go_sem, r1.cell]
    intro b3 h3 n3
    have n3_a := n3.at_
    have n3_z := n3.size
    replace p0 := p0.fresh (n3.fr (lo := 0) (hi := 0)) (by omega)
    replace r1 := r1.fr (n3.fr (lo := 0) (hi := 0)) (by omega)
    have r3 := n3.row
    simp -dsimp only [go_sem, r1.cell, r3.cell]
    refine Chk_intro (r3.wr (by first | (simp; done) | (simp; omega))) fun h4 s4 => ?_
    have s4_z := s4.size
    replace p0 := p0.fresh s4.fr (by omega)
    replace r1 := r1.fr s4.fr (by omega)
    replace r3 := s4.row r3
    try simp only [cl_int, cl_bool, cl_slice, cl_ptr, putAt_one, List.set_cons_zero, List.set_cons_succ, ivec_set, brow_upd] at r3
    try simp -dsimp only [go_sem] at r3
    simp -dsimp only [go_sem, r1.cell, r3.cell]
    refine call_of (arm_Check (t.fr p0) (ht.fr p0 (.inr rfl))) ?_
    rintro v5 h5 ⟨f5, w5⟩
    have f5_z := f5.size
    replace p0 := p0.fresh f5 (by omega)
    replace r1 := r1.fr f5 (by omega)
    replace r3 := r3.fr f5 (by omega)
    rw [if_neg hc] at w5
    subst w5
    simp -dsimp only [go_sem, r1.cell, r3.cell]
    refine call_of (law11_lives (ht.fr p0 (.inr rfl))) ?_
    rintro v6 h6 ⟨f6, rfl⟩
    have f6_z := f6.size
    replace p0 := p0.fresh f6 (by omega)
    replace r1 := r1.fr f6 (by omega)
    replace r3 := r3.fr f6 (by omega)
    simp -dsimp only [go_sem, r1.cell, r3.cell]
    exact p0
  have hg := good_true hc
  have hn := (good_n hg).1
  rw [if_pos hc] at w2
  obtain ⟨x, A, B, rfl, D, dlo⟩ := w2
  obtain ⟨c0, e0⟩ := progPtr (D.at_ 0 (by decide))
  obtain ⟨c1, e1⟩ := progPtr (D.at_ 1 (by decide))
  obtain ⟨c2, e2⟩ := progPtr (D.at_ 2 (by decide))
  obtain ⟨c3, e3⟩ := progPtr (D.at_ 3 (by decide))
  obtain ⟨c4, e4⟩ := progPtr (D.at_ 4 (by decide))
  have g0 := D.at_ 0 (by decide)
  have g1 := D.at_ 1 (by decide)
  have g2 := D.at_ 2 (by decide)
  have g3 := D.at_ 3 (by decide)
  have g4 := D.at_ 4 (by decide)
  rw [e0] at g0
  rw [e1] at g1
  rw [e2] at g2
  rw [e3] at g3
  rw [e4] at g4
  rw [e0, e1, e2, e3, e4]
  clear D
  have p2 : Fr 0 0 h2 h2 := .refl _ _ _
  simp -dsimp only [go_sem, r1.cell]
  intro b3 h3 n3
  have n3_a := n3.at_
  have n3_z := n3.size
  replace p0 := p0.fresh (n3.fr (lo := 0) (hi := 0)) (by omega)
  replace r1 := r1.fr (n3.fr (lo := 0) (hi := 0)) (by omega)
  replace p2 := p2.fresh (n3.fr (lo := 0) (hi := 0)) (by omega)
  have r3 := n3.row
  simp -dsimp only [go_sem, r1.cell, r3.cell]
  refine Chk_intro (r3.wr (by first | (simp; done) | (simp; omega))) fun h4 s4 => ?_
  have s4_z := s4.size
  replace p0 := p0.fresh s4.fr (by omega)
  replace r1 := r1.fr s4.fr (by omega)
  replace p2 := p2.fresh s4.fr (by omega)
  replace r3 := s4.row r3
  try simp only [cl_int, cl_bool, cl_slice, cl_ptr, putAt_one, List.set_cons_zero, List.set_cons_succ, ivec_set, brow_upd] at r3
  try simp -dsimp only [go_sem] at r3
  have k1 := r1
  have k3 := r3
  have g0 := g0.fr p2 (by omega)
  have g1 := g1.fr p2 (by omega)
  have g2 := g2.fr p2 (by omega)
  have g3 := g3.fr p2 (by omega)
  have g4 := g4.fr p2 (by omega)
  clear p2
  have p4 : Fr 0 0 h4 h4 := .refl _ _ _
  simp -dsimp only [go_sem, r1.cell, r3.cell]
  refine call_of (arm_Check (t.fr p0) (ht.fr p0 (.inr rfl))) ?_
  rintro v5 h5 ⟨f5, w5⟩
  have f5_z := f5.size
  replace p0 := p0.fresh f5 (by omega)
  replace r1 := r1.fr f5 (by omega)
  replace r3 := r3.fr f5 (by omega)
  replace p4 := p4.fresh f5 (by omega)
  rw [if_pos hc] at w5
  obtain ⟨w5, rfl, -⟩ := w5
  simp -dsimp only [go_sem, r1.cell, r3.cell]
  intro b6 h6 n6
  have n6_a := n6.at_
  have n6_z := n6.size
  replace p0 := p0.fresh (n6.fr (lo := 0) (hi := 0)) (by omega)
  replace r1 := r1.fr (n6.fr (lo := 0) (hi := 0)) (by omega)
  replace r3 := r3.fr (n6.fr (lo := 0) (hi := 0)) (by omega)
  replace p4 := p4.fresh (n6.fr (lo := 0) (hi := 0)) (by omega)
  have r6 := n6.row
  simp -dsimp only [go_sem, r1.cell, r3.cell, r6.cell]
  refine call_of (rel_UnionU (UA.mk' [(.pointer (some ⟨c0, 0, none⟩), obsM g), (.pointer (some ⟨c1, 0, none⟩), dobM g), (.pointer (some ⟨c2, 0, none⟩), aobM g), (.pointer (some ⟨c3, 0, none⟩), bobM g)] r6 (pa_cons ⟨_, _, g0.fr p4 (by omega)⟩ (pa_cons ⟨_, _, g1.fr p4 (by omega)⟩ (pa_cons ⟨_, _, g2.fr p4 (by omega)⟩ (pa_cons ⟨_, _, g3.fr p4 (by omega)⟩ pa_nil)))) (by simp) (by simp))) ?_
  rintro v7 h7 ⟨f7, t7⟩
  have f7_z := f7.size
  replace p0 := p0.fresh f7 (by omega)
  replace r1 := r1.fr f7 (by omega)
  replace r3 := r3.fr f7 (by omega)
  replace p4 := p4.fresh f7 (by omega)
  replace r6 := r6.fr f7 (by omega)
  simp -dsimp only [go_sem, r1.cell, r3.cell, r6.cell]
  have hun : orM [obsM g, dobM g, aobM g, bobM g] = obM g := by funext i j; simp [orM, obM, Bool.or_assoc]
  replace t7 : ProgAt h7 h6.size h7.size v7 g.n (orM [obsM g, dobM g, aobM g, bobM g]) := t7
  rw [hun] at t7
  refine call_of (rel_Equal (g4.fr p4 (by omega)) t7 (ht.fr p0 (.inr rfl))) ?_
  rintro v8 h8 ⟨f8, rfl⟩
  have f8_z := f8.size
  replace p0 := p0.fresh f8 (by omega)
  replace r1 := r1.fr f8 (by omega)
  replace r3 := r3.fr f8 (by omega)
  replace p4 := p4.fresh f8 (by omega)
  replace r6 := r6.fr f8 (by omega)
  rw [decide_eq_true (⟨rfl, within_self fun i j _ _ hm => hm, within_self fun i j _ _ hm => hm⟩ : g.n = g.n ∧ WithinP g.n (aM g 4) g.n (obM g) ∧ WithinP g.n (obM g) g.n (aM g 4))]
  simp -dsimp only [go_sem, evs_len, r1.cell, r3.cell, r6.cell]
  have hb1 : h.size ≤ b1 ∧ b1 < h4.size ∧ h.size ≤ b3 ∧ b3 < h4.size := by omega
  refine loop_intro (fun i : Nat => [(1, .pointer (some ⟨b1, 0, none⟩)), (3, .pointer (some ⟨b3, 0, none⟩)), (5, .int .i64 (armAx g).1), (8, .int .i64 g.n), (9, .int .i64 i)])
    (fun i h' => i ≤ g.n ∧ Fr 0 0 h h' ∧ Fr 0 0 h4 h') (fun i => g.n - i) 0 ?_ ?_ ?_
  · simp [Le, find]
  · exact ⟨by omega, p0, p4⟩
  clear p0 p4 r1 r3 r6 t7
  rintro i h8 ⟨hi, p0, p4⟩
  have r1 := k1.fr p4 (by omega)
  have r3 := k3.fr p4 (by omega)
  have p0_z := p0.size
  have p4_z := p4.size
  have r1_l := r1.lt
  have r3_l := r3.lt
  by_cases hlt : i < g.n
  · have e1 : ((i : Int) < (g.n : Int)) := by omega
    obtain ⟨eb, eo, he, hev⟩ := t.evs (by omega)
    simp -dsimp only [go_sem, e1, r1.cell, r3.cell]
    refine loop_intro (fun j : Nat => [(1, .pointer (some ⟨b1, 0, none⟩)), (3, .pointer (some ⟨b3, 0, none⟩)), (5, .int .i64 (armAx g).1), (8, .int .i64 g.n), (9, .int .i64 i), (10, .int .i64 j)])
      (fun j h' => j ≤ g.n ∧ Fr 0 0 h h' ∧ Fr 0 0 h4 h') (fun j => g.n - j) 0 ?_ ?_ ?_
    · simp [Le, find]
    · exact ⟨by omega, p0, p4⟩
    clear p0 p4 r1 r3
    rintro j h8 ⟨hj, p0, p4⟩
    have r1 := k1.fr p4 (by omega)
    have r3 := k3.fr p4 (by omega)
    have p0_z := p0.size
    have p4_z := p4.size
    have r1_l := r1.lt
    have r3_l := r3.lt
    by_cases hjl : j < g.n
    rotate_left
    · obtain rfl : j = g.n := by omega
      simp -dsimp only [go_sem, Int.lt_irrefl, r1.cell, r3.cell]
      simp -dsimp (disch := omega) only [wrap64]
      exact ⟨i + 1, by omega, by simp [Le, find], by omega, p0, p4⟩
    have e2 : ((j : Int) < (g.n : Int)) := by omega
    obtain ⟨c0', -⟩ := hev h8 p0 i hlt
    obtain ⟨d0', -⟩ := hev h8 p0 j hjl
    simp -dsimp only [go_sem, e1, e2, he, evs_len, c0', d0', r1.cell, r3.cell]
    have ao : ∀ i j, aM g 0 i j = obsM g i j := fun _ _ => rfl
    by_cases hth : (g.ev i).thread = (g.ev j).thread
    · have ho : obsM g i j = false := by
        cases h : obsM g i j
        · rfl
        · exact absurd hth (obs_ext h)
      refine call_of (rel_Has (g0.fr p4 (by omega)) i j) ?_
      rintro v h9 ⟨hh, rfl⟩
      obtain rfl : h8 = h9 := hh.symm
      rw [has_nat hlt hjl, show aM g 0 i j = false from ho]
      simp -dsimp only [go_sem, e1, e2, he, evs_len, c0', d0', beq_t hth, bne_t hth, r1.cell, r3.cell]
      cases hbb : bobM g i j
      · skip
        refine call_of (rel_Has (g3.fr p4 (by omega)) i j) ?_
        rintro v h9 ⟨hh, rfl⟩
        obtain rfl : h8 = h9 := hh.symm
        rw [has_nat hlt hjl, show aM g 3 i j = false from hbb]
        simp -dsimp only [go_sem, e1, e2, he, evs_len, c0', d0', beq_t hth, bne_t hth, r1.cell, r3.cell]
        cases hab : aobM g i j
        · skip
          refine call_of (rel_Has (g2.fr p4 (by omega)) i j) ?_
          rintro v h9 ⟨hh, rfl⟩
          obtain rfl : h8 = h9 := hh.symm
          rw [has_nat hlt hjl, show aM g 2 i j = false from hab]
          simp -dsimp only [go_sem, e1, e2, he, evs_len, c0', d0', beq_t hth, bne_t hth, r1.cell, r3.cell]
          cases hdb : dobM g i j
          · skip
            refine call_of (rel_Has (g1.fr p4 (by omega)) i j) ?_
            rintro v h9 ⟨hh, rfl⟩
            obtain rfl : h8 = h9 := hh.symm
            rw [has_nat hlt hjl, show aM g 1 i j = false from hdb]
            simp -dsimp only [go_sem, e1, e2, he, evs_len, c0', d0', beq_t hth, bne_t hth, r1.cell, r3.cell]
            cases hob : obM g i j
            · skip
              refine call_of (rel_Has (g4.fr p4 (by omega)) i j) ?_
              rintro v h9 ⟨hh, rfl⟩
              obtain rfl : h8 = h9 := hh.symm
              rw [has_nat hlt hjl, show aM g 4 i j = false from hob]
              simp -dsimp only [go_sem, e1, e2, he, evs_len, c0', d0', beq_t hth, bne_t hth, r1.cell, r3.cell]
              simp -dsimp (disch := omega) only [wrap64]
              exact ⟨j + 1, by omega, by simp [Le, find, he, evs_len], by omega, p0, p4⟩
            · by_cases hx : (g.ev i).thread ≥ 0
              · have hy : ¬ (g.ev j).thread < 0 := by omega
                refine call_of (rel_Has (g4.fr p4 (by omega)) i j) ?_
                rintro v h9 ⟨hh, rfl⟩
                obtain rfl : h8 = h9 := hh.symm
                rw [has_nat hlt hjl, show aM g 4 i j = true from hob]
                simp -dsimp only [go_sem, e1, e2, he, evs_len, c0', d0', beq_t hth, bne_t hth, hx, hy, r1.cell, r3.cell]
                simp -dsimp (disch := omega) only [wrap64]
                exact ⟨j + 1, by omega, by simp [Le, find, he, evs_len], by omega, p0, p4⟩
              · skip
                refine call_of (rel_Has (g4.fr p4 (by omega)) i j) ?_
                rintro v h9 ⟨hh, rfl⟩
                obtain rfl : h8 = h9 := hh.symm
                rw [has_nat hlt hjl, show aM g 4 i j = true from hob]
                simp -dsimp only [go_sem, e1, e2, he, evs_len, c0', d0', beq_t hth, bne_t hth, hx, r1.cell, r3.cell]
                simp -dsimp (disch := omega) only [wrap64]
                exact ⟨j + 1, by omega, by simp [Le, find, he, evs_len], by omega, p0, p4⟩
          · skip
            refine call_of (rel_Has (g1.fr p4 (by omega)) i j) ?_
            rintro v h9 ⟨hh, rfl⟩
            obtain rfl : h8 = h9 := hh.symm
            rw [has_nat hlt hjl, show aM g 1 i j = true from hdb]
            simp -dsimp only [go_sem, e1, e2, he, evs_len, c0', d0', beq_t hth, bne_t hth, r1.cell, r3.cell]
            cases hob : obM g i j
            · skip
              refine call_of (rel_Has (g4.fr p4 (by omega)) i j) ?_
              rintro v h9 ⟨hh, rfl⟩
              obtain rfl : h8 = h9 := hh.symm
              rw [has_nat hlt hjl, show aM g 4 i j = false from hob]
              simp -dsimp only [go_sem, e1, e2, he, evs_len, c0', d0', beq_t hth, bne_t hth, r1.cell, r3.cell]
              simp -dsimp (disch := omega) only [wrap64]
              exact ⟨j + 1, by omega, by simp [Le, find, he, evs_len], by omega, p0, p4⟩
            · by_cases hx : (g.ev i).thread ≥ 0
              · have hy : ¬ (g.ev j).thread < 0 := by omega
                refine call_of (rel_Has (g4.fr p4 (by omega)) i j) ?_
                rintro v h9 ⟨hh, rfl⟩
                obtain rfl : h8 = h9 := hh.symm
                rw [has_nat hlt hjl, show aM g 4 i j = true from hob]
                simp -dsimp only [go_sem, e1, e2, he, evs_len, c0', d0', beq_t hth, bne_t hth, hx, hy, r1.cell, r3.cell]
                simp -dsimp (disch := omega) only [wrap64]
                exact ⟨j + 1, by omega, by simp [Le, find, he, evs_len], by omega, p0, p4⟩
              · skip
                refine call_of (rel_Has (g4.fr p4 (by omega)) i j) ?_
                rintro v h9 ⟨hh, rfl⟩
                obtain rfl : h8 = h9 := hh.symm
                rw [has_nat hlt hjl, show aM g 4 i j = true from hob]
                simp -dsimp only [go_sem, e1, e2, he, evs_len, c0', d0', beq_t hth, bne_t hth, hx, r1.cell, r3.cell]
                simp -dsimp (disch := omega) only [wrap64]
                exact ⟨j + 1, by omega, by simp [Le, find, he, evs_len], by omega, p0, p4⟩
        · skip
          refine call_of (rel_Has (g2.fr p4 (by omega)) i j) ?_
          rintro v h9 ⟨hh, rfl⟩
          obtain rfl : h8 = h9 := hh.symm
          rw [has_nat hlt hjl, show aM g 2 i j = true from hab]
          simp -dsimp only [go_sem, e1, e2, he, evs_len, c0', d0', beq_t hth, bne_t hth, r1.cell, r3.cell]
          cases hdb : dobM g i j
          · skip
            refine call_of (rel_Has (g1.fr p4 (by omega)) i j) ?_
            rintro v h9 ⟨hh, rfl⟩
            obtain rfl : h8 = h9 := hh.symm
            rw [has_nat hlt hjl, show aM g 1 i j = false from hdb]
            simp -dsimp only [go_sem, e1, e2, he, evs_len, c0', d0', beq_t hth, bne_t hth, r1.cell, r3.cell]
            cases hob : obM g i j
            · skip
              refine call_of (rel_Has (g4.fr p4 (by omega)) i j) ?_
              rintro v h9 ⟨hh, rfl⟩
              obtain rfl : h8 = h9 := hh.symm
              rw [has_nat hlt hjl, show aM g 4 i j = false from hob]
              simp -dsimp only [go_sem, e1, e2, he, evs_len, c0', d0', beq_t hth, bne_t hth, r1.cell, r3.cell]
              simp -dsimp (disch := omega) only [wrap64]
              exact ⟨j + 1, by omega, by simp [Le, find, he, evs_len], by omega, p0, p4⟩
            · by_cases hx : (g.ev i).thread ≥ 0
              · have hy : ¬ (g.ev j).thread < 0 := by omega
                refine call_of (rel_Has (g4.fr p4 (by omega)) i j) ?_
                rintro v h9 ⟨hh, rfl⟩
                obtain rfl : h8 = h9 := hh.symm
                rw [has_nat hlt hjl, show aM g 4 i j = true from hob]
                simp -dsimp only [go_sem, e1, e2, he, evs_len, c0', d0', beq_t hth, bne_t hth, hx, hy, r1.cell, r3.cell]
                simp -dsimp (disch := omega) only [wrap64]
                exact ⟨j + 1, by omega, by simp [Le, find, he, evs_len], by omega, p0, p4⟩
              · skip
                refine call_of (rel_Has (g4.fr p4 (by omega)) i j) ?_
                rintro v h9 ⟨hh, rfl⟩
                obtain rfl : h8 = h9 := hh.symm
                rw [has_nat hlt hjl, show aM g 4 i j = true from hob]
                simp -dsimp only [go_sem, e1, e2, he, evs_len, c0', d0', beq_t hth, bne_t hth, hx, r1.cell, r3.cell]
                simp -dsimp (disch := omega) only [wrap64]
                exact ⟨j + 1, by omega, by simp [Le, find, he, evs_len], by omega, p0, p4⟩
          · skip
            refine call_of (rel_Has (g1.fr p4 (by omega)) i j) ?_
            rintro v h9 ⟨hh, rfl⟩
            obtain rfl : h8 = h9 := hh.symm
            rw [has_nat hlt hjl, show aM g 1 i j = true from hdb]
            simp -dsimp only [go_sem, e1, e2, he, evs_len, c0', d0', beq_t hth, bne_t hth, r1.cell, r3.cell]
            cases hob : obM g i j
            · skip
              refine call_of (rel_Has (g4.fr p4 (by omega)) i j) ?_
              rintro v h9 ⟨hh, rfl⟩
              obtain rfl : h8 = h9 := hh.symm
              rw [has_nat hlt hjl, show aM g 4 i j = false from hob]
              simp -dsimp only [go_sem, e1, e2, he, evs_len, c0', d0', beq_t hth, bne_t hth, r1.cell, r3.cell]
              simp -dsimp (disch := omega) only [wrap64]
              exact ⟨j + 1, by omega, by simp [Le, find, he, evs_len], by omega, p0, p4⟩
            · by_cases hx : (g.ev i).thread ≥ 0
              · have hy : ¬ (g.ev j).thread < 0 := by omega
                refine call_of (rel_Has (g4.fr p4 (by omega)) i j) ?_
                rintro v h9 ⟨hh, rfl⟩
                obtain rfl : h8 = h9 := hh.symm
                rw [has_nat hlt hjl, show aM g 4 i j = true from hob]
                simp -dsimp only [go_sem, e1, e2, he, evs_len, c0', d0', beq_t hth, bne_t hth, hx, hy, r1.cell, r3.cell]
                simp -dsimp (disch := omega) only [wrap64]
                exact ⟨j + 1, by omega, by simp [Le, find, he, evs_len], by omega, p0, p4⟩
              · skip
                refine call_of (rel_Has (g4.fr p4 (by omega)) i j) ?_
                rintro v h9 ⟨hh, rfl⟩
                obtain rfl : h8 = h9 := hh.symm
                rw [has_nat hlt hjl, show aM g 4 i j = true from hob]
                simp -dsimp only [go_sem, e1, e2, he, evs_len, c0', d0', beq_t hth, bne_t hth, hx, r1.cell, r3.cell]
                simp -dsimp (disch := omega) only [wrap64]
                exact ⟨j + 1, by omega, by simp [Le, find, he, evs_len], by omega, p0, p4⟩
      · skip
        refine call_of (rel_Has (g3.fr p4 (by omega)) i j) ?_
        rintro v h9 ⟨hh, rfl⟩
        obtain rfl : h8 = h9 := hh.symm
        rw [has_nat hlt hjl, show aM g 3 i j = true from hbb]
        simp -dsimp only [go_sem, e1, e2, he, evs_len, c0', d0', beq_t hth, bne_t hth, r1.cell, r3.cell]
        cases hdb : dobM g i j
        · skip
          refine call_of (rel_Has (g1.fr p4 (by omega)) i j) ?_
          rintro v h9 ⟨hh, rfl⟩
          obtain rfl : h8 = h9 := hh.symm
          rw [has_nat hlt hjl, show aM g 1 i j = false from hdb]
          simp -dsimp only [go_sem, e1, e2, he, evs_len, c0', d0', beq_t hth, bne_t hth, r1.cell, r3.cell]
          cases hob : obM g i j
          · skip
            refine call_of (rel_Has (g4.fr p4 (by omega)) i j) ?_
            rintro v h9 ⟨hh, rfl⟩
            obtain rfl : h8 = h9 := hh.symm
            rw [has_nat hlt hjl, show aM g 4 i j = false from hob]
            simp -dsimp only [go_sem, e1, e2, he, evs_len, c0', d0', beq_t hth, bne_t hth, r1.cell, r3.cell]
            simp -dsimp (disch := omega) only [wrap64]
            exact ⟨j + 1, by omega, by simp [Le, find, he, evs_len], by omega, p0, p4⟩
          · by_cases hx : (g.ev i).thread ≥ 0
            · have hy : ¬ (g.ev j).thread < 0 := by omega
              refine call_of (rel_Has (g4.fr p4 (by omega)) i j) ?_
              rintro v h9 ⟨hh, rfl⟩
              obtain rfl : h8 = h9 := hh.symm
              rw [has_nat hlt hjl, show aM g 4 i j = true from hob]
              simp -dsimp only [go_sem, e1, e2, he, evs_len, c0', d0', beq_t hth, bne_t hth, hx, hy, r1.cell, r3.cell]
              simp -dsimp (disch := omega) only [wrap64]
              exact ⟨j + 1, by omega, by simp [Le, find, he, evs_len], by omega, p0, p4⟩
            · skip
              refine call_of (rel_Has (g4.fr p4 (by omega)) i j) ?_
              rintro v h9 ⟨hh, rfl⟩
              obtain rfl : h8 = h9 := hh.symm
              rw [has_nat hlt hjl, show aM g 4 i j = true from hob]
              simp -dsimp only [go_sem, e1, e2, he, evs_len, c0', d0', beq_t hth, bne_t hth, hx, r1.cell, r3.cell]
              simp -dsimp (disch := omega) only [wrap64]
              exact ⟨j + 1, by omega, by simp [Le, find, he, evs_len], by omega, p0, p4⟩
        · skip
          refine call_of (rel_Has (g1.fr p4 (by omega)) i j) ?_
          rintro v h9 ⟨hh, rfl⟩
          obtain rfl : h8 = h9 := hh.symm
          rw [has_nat hlt hjl, show aM g 1 i j = true from hdb]
          simp -dsimp only [go_sem, e1, e2, he, evs_len, c0', d0', beq_t hth, bne_t hth, r1.cell, r3.cell]
          cases hob : obM g i j
          · skip
            refine call_of (rel_Has (g4.fr p4 (by omega)) i j) ?_
            rintro v h9 ⟨hh, rfl⟩
            obtain rfl : h8 = h9 := hh.symm
            rw [has_nat hlt hjl, show aM g 4 i j = false from hob]
            simp -dsimp only [go_sem, e1, e2, he, evs_len, c0', d0', beq_t hth, bne_t hth, r1.cell, r3.cell]
            simp -dsimp (disch := omega) only [wrap64]
            exact ⟨j + 1, by omega, by simp [Le, find, he, evs_len], by omega, p0, p4⟩
          · by_cases hx : (g.ev i).thread ≥ 0
            · have hy : ¬ (g.ev j).thread < 0 := by omega
              refine call_of (rel_Has (g4.fr p4 (by omega)) i j) ?_
              rintro v h9 ⟨hh, rfl⟩
              obtain rfl : h8 = h9 := hh.symm
              rw [has_nat hlt hjl, show aM g 4 i j = true from hob]
              simp -dsimp only [go_sem, e1, e2, he, evs_len, c0', d0', beq_t hth, bne_t hth, hx, hy, r1.cell, r3.cell]
              simp -dsimp (disch := omega) only [wrap64]
              exact ⟨j + 1, by omega, by simp [Le, find, he, evs_len], by omega, p0, p4⟩
            · skip
              refine call_of (rel_Has (g4.fr p4 (by omega)) i j) ?_
              rintro v h9 ⟨hh, rfl⟩
              obtain rfl : h8 = h9 := hh.symm
              rw [has_nat hlt hjl, show aM g 4 i j = true from hob]
              simp -dsimp only [go_sem, e1, e2, he, evs_len, c0', d0', beq_t hth, bne_t hth, hx, r1.cell, r3.cell]
              simp -dsimp (disch := omega) only [wrap64]
              exact ⟨j + 1, by omega, by simp [Le, find, he, evs_len], by omega, p0, p4⟩
    have hbb : bobM g i j = false := by
      cases h : bobM g i j
      · rfl
      · exact absurd (bob_th h) hth
    have hab : aobM g i j = false := by
      cases h : aobM g i j
      · rfl
      · exact absurd (aob_th hc h) hth
    have hdb : dobM g i j = false := by
      cases h : dobM g i j
      · rfl
      · exact absurd (dob_th hc h) hth
    cases ho : obsM g i j
    · have hob : obM g i j = false := by
        cases h : obM g i j
        · rfl
        · have := ob_obs hc h hth
          rw [ho] at this; cases this
      refine call_of (rel_Has (g0.fr p4 (by omega)) i j) ?_
      rintro v h9 ⟨hh, rfl⟩
      obtain rfl : h8 = h9 := hh.symm
      rw [has_nat hlt hjl, show aM g 0 i j = false from ho]
      simp -dsimp only [go_sem, e1, e2, he, evs_len, c0', d0', beq_f hth, bne_f hth, r1.cell, r3.cell]
      refine call_of (rel_Has (g3.fr p4 (by omega)) i j) ?_
      rintro v h9 ⟨hh, rfl⟩
      obtain rfl : h8 = h9 := hh.symm
      rw [has_nat hlt hjl, show aM g 3 i j = false from hbb]
      simp -dsimp only [go_sem, e1, e2, he, evs_len, c0', d0', beq_f hth, bne_f hth, r1.cell, r3.cell]
      refine call_of (rel_Has (g2.fr p4 (by omega)) i j) ?_
      rintro v h9 ⟨hh, rfl⟩
      obtain rfl : h8 = h9 := hh.symm
      rw [has_nat hlt hjl, show aM g 2 i j = false from hab]
      simp -dsimp only [go_sem, e1, e2, he, evs_len, c0', d0', beq_f hth, bne_f hth, r1.cell, r3.cell]
      refine call_of (rel_Has (g1.fr p4 (by omega)) i j) ?_
      rintro v h9 ⟨hh, rfl⟩
      obtain rfl : h8 = h9 := hh.symm
      rw [has_nat hlt hjl, show aM g 1 i j = false from hdb]
      simp -dsimp only [go_sem, e1, e2, he, evs_len, c0', d0', beq_f hth, bne_f hth, r1.cell, r3.cell]
      refine call_of (rel_Has (g4.fr p4 (by omega)) i j) ?_
      rintro v h9 ⟨hh, rfl⟩
      obtain rfl : h8 = h9 := hh.symm
      rw [has_nat hlt hjl, show aM g 4 i j = false from hob]
      simp -dsimp only [go_sem, e1, e2, he, evs_len, c0', d0', beq_f hth, bne_f hth, r1.cell, r3.cell]
      simp -dsimp (disch := omega) only [wrap64]
      exact ⟨j + 1, by omega, by simp [Le, find, he, evs_len], by omega, p0, p4⟩
    have hob : obM g i j = true := by unfold obM; rw [ho]; rfl
    refine call_of (rel_Has (g0.fr p4 (by omega)) i j) ?_
    rintro v h9 ⟨hh, rfl⟩
    obtain rfl : h8 = h9 := hh.symm
    rw [has_nat hlt hjl, show aM g 0 i j = true from ho]
    simp -dsimp only [go_sem, e1, e2, he, evs_len, c0', d0', beq_f hth, bne_f hth, r1.cell, r3.cell]
    refine call_of (rel_Has (g3.fr p4 (by omega)) i j) ?_
    rintro v h9 ⟨hh, rfl⟩
    obtain rfl : h8 = h9 := hh.symm
    rw [has_nat hlt hjl, show aM g 3 i j = false from hbb]
    simp -dsimp only [go_sem, e1, e2, he, evs_len, c0', d0', beq_f hth, bne_f hth, r1.cell, r3.cell]
    refine call_of (rel_Has (g2.fr p4 (by omega)) i j) ?_
    rintro v h9 ⟨hh, rfl⟩
    obtain rfl : h8 = h9 := hh.symm
    rw [has_nat hlt hjl, show aM g 2 i j = false from hab]
    simp -dsimp only [go_sem, e1, e2, he, evs_len, c0', d0', beq_f hth, bne_f hth, r1.cell, r3.cell]
    refine call_of (rel_Has (g1.fr p4 (by omega)) i j) ?_
    rintro v h9 ⟨hh, rfl⟩
    obtain rfl : h8 = h9 := hh.symm
    rw [has_nat hlt hjl, show aM g 1 i j = false from hdb]
    simp -dsimp only [go_sem, e1, e2, he, evs_len, c0', d0', beq_f hth, bne_f hth, r1.cell, r3.cell]
    by_cases hx : (g.ev i).thread ≥ 0
    · by_cases hy : (g.ev j).thread < 0
      · skip
        refine call_of (rel_Has (g4.fr p4 (by omega)) i j) ?_
        rintro v h9 ⟨hh, rfl⟩
        obtain rfl : h8 = h9 := hh.symm
        rw [has_nat hlt hjl, show aM g 4 i j = true from hob]
        simp -dsimp only [go_sem, e1, e2, he, evs_len, c0', d0', beq_f hth, bne_f hth, hx, hy, r1.cell, r3.cell]
        refine call_of (rel_Has (g0.fr p4 (by omega)) i j) ?_
        rintro v h9 ⟨hh, rfl⟩
        obtain rfl : h8 = h9 := hh.symm
        rw [has_nat hlt hjl, show aM g 0 i j = true from ho]
        simp -dsimp only [go_sem, e1, e2, he, evs_len, c0', d0', beq_f hth, bne_f hth, hx, hy, r1.cell, r3.cell]
        simp -dsimp (disch := omega) only [wrap64]
        exact ⟨j + 1, by omega, by simp [Le, find, he, evs_len], by omega, p0, p4⟩
      · skip
        refine call_of (rel_Has (g4.fr p4 (by omega)) i j) ?_
        rintro v h9 ⟨hh, rfl⟩
        obtain rfl : h8 = h9 := hh.symm
        rw [has_nat hlt hjl, show aM g 4 i j = true from hob]
        simp -dsimp only [go_sem, e1, e2, he, evs_len, c0', d0', beq_f hth, bne_f hth, hx, hy, r1.cell, r3.cell]
        simp -dsimp (disch := omega) only [wrap64]
        exact ⟨j + 1, by omega, by simp [Le, find, he, evs_len], by omega, p0, p4⟩
    · skip
      refine call_of (rel_Has (g4.fr p4 (by omega)) i j) ?_
      rintro v h9 ⟨hh, rfl⟩
      obtain rfl : h8 = h9 := hh.symm
      rw [has_nat hlt hjl, show aM g 4 i j = true from hob]
      simp -dsimp only [go_sem, e1, e2, he, evs_len, c0', d0', beq_f hth, bne_f hth, hx, r1.cell, r3.cell]
      simp -dsimp (disch := omega) only [wrap64]
      exact ⟨j + 1, by omega, by simp [Le, find, he, evs_len], by omega, p0, p4⟩
  obtain rfl : i = g.n := by omega
  by_cases ha : (armAx g).1 = 0
  rotate_left
  · simp -dsimp only [go_sem, Int.lt_irrefl, bne_f ha, r1.cell, r3.cell]
    refine call_of (law11_lives (ht.fr p0 (.inr rfl))) ?_
    rintro v9 h9 ⟨f9, rfl⟩
    have f9_z := f9.size
    replace p0 := p0.fresh f9 (by omega)
    replace p4 := p4.fresh f9 (by omega)
    replace r1 := r1.fr f9 (by omega)
    replace r3 := r3.fr f9 (by omega)
    simp -dsimp only [go_sem, r1.cell, r3.cell]
    exact p0
  obtain ⟨hin, hout, -⟩ := armAx_zero.1 ha
  simp -dsimp only [go_sem, Int.lt_irrefl, bne_t ha, r1.cell, r3.cell]
  refine loop_intro (fun i : Nat => [(1, .pointer (some ⟨b1, 0, none⟩)), (3, .pointer (some ⟨b3, 0, none⟩)), (13, .int .i64 i)])
    (fun i h' => i ≤ g.rf.length ∧ Fr 0 0 h h' ∧ Fr 0 0 h4 h') (fun i => g.rf.length - i) 0 ?_ ?_ ?_
  · simp [Le, find]
  · exact ⟨by omega, p0, p4⟩
  clear p0 p4 r1 r3
  rintro i h9 ⟨hi, p0, p4⟩
  have r1 := k1.fr p4 (by omega)
  have r3 := k3.fr p4 (by omega)
  have p0_z := p0.size
  have p4_z := p4.size
  have r1_l := r1.lt
  have r3_l := r3.lt
  by_cases hlt : i < g.rf.length
  · have e1 : ((i : Int) < (g.rf.length : Int)) := by omega
    have hq : g.rf[i]? = some g.rf[i] := List.getElem?_eq_getElem hlt
    have hmem := List.mem_of_getElem? hq
    generalize g.rf[i] = pr at hq hmem
    obtain ⟨w, r, rfl, hwn, hrn, -⟩ := rf_pair hc hmem
    obtain ⟨rb, ro, hre, hrc⟩ := t.f.pairsAt (by omega)
    obtain ⟨x1, x2⟩ := hrc h9 p0 i _ hq
    dsimp only at x1 x2
    obtain ⟨eb, eo, he, hev⟩ := t.evs (by omega)
    obtain ⟨c0', -⟩ := hev h9 p0 w hwn
    obtain ⟨d0', -⟩ := hev h9 p0 r hrn
    have ew : ((w : Int) < (g.n : Int)) := by omega
    have er : ((r : Int) < (g.n : Int)) := by omega
    by_cases h0 : (g.ev w).thread ≥ 0
    · by_cases hth : (g.ev w).thread = (g.ev r).thread
      · have hwr : ¬ ((w : Int) > (r : Int)) := by have := rf_ahead hc hin hmem h0 hth; omega
        simp -dsimp only [go_sem, e1, hre, x1, x2, he, evs_len, ew, er, c0', d0', h0, beq_t hth, hwr, r1.cell, r3.cell]
        simp -dsimp (disch := omega) only [wrap64]
        exact ⟨i + 1, by omega, by simp [Le, find], by omega, p0, p4⟩
      · simp -dsimp only [go_sem, e1, hre, x1, x2, he, evs_len, ew, er, c0', d0', h0, beq_f hth, r1.cell, r3.cell]
        simp -dsimp (disch := omega) only [wrap64]
        exact ⟨i + 1, by omega, by simp [Le, find], by omega, p0, p4⟩
    · simp -dsimp only [go_sem, e1, hre, x1, x2, he, evs_len, ew, er, c0', d0', h0, r1.cell, r3.cell]
      simp -dsimp (disch := omega) only [wrap64]
      exact ⟨i + 1, by omega, by simp [Le, find], by omega, p0, p4⟩
  obtain rfl : i = g.rf.length := by omega
  simp -dsimp only [go_sem, Int.lt_irrefl, r1.cell, r3.cell]
  have hrl := rl_at t.o
  refine loop_intro (fun c : Nat => [(1, .pointer (some ⟨b1, 0, none⟩)), (3, .pointer (some ⟨b3, 0, none⟩)), (15, .int .i64 c)])
    (fun c h' => c ≤ g.co.length ∧ Fr 0 0 h h' ∧ Fr 0 0 h4 h') (fun c => g.co.length - c) 0 ?_ ?_ ?_
  · simp [Le, find]
  · exact ⟨by omega, p0, p4⟩
  clear p0 p4 r1 r3
  rintro c h10 ⟨hi, p0, p4⟩
  have r1 := k1.fr p4 (by omega)
  have r3 := k3.fr p4 (by omega)
  have p0_z := p0.size
  have p4_z := p4.size
  have r1_l := r1.lt
  have r3_l := r3.lt
  by_cases hlt : c < g.co.length
  rotate_left
  · obtain rfl : c = g.co.length := by omega
    simp -dsimp only [go_sem, Int.lt_irrefl, r1.cell, r3.cell]
    refine call_of (rel_Acyclic (g4.fr p4 (by omega))) ?_
    rintro v11 h11 ⟨f11, rfl⟩
    have f11_z := f11.size
    replace p0 := p0.fresh f11 (by omega)
    replace p4 := p4.fresh f11 (by omega)
    replace r1 := r1.fr f11 (by omega)
    replace r3 := r3.fr f11 (by omega)
    rw [show irrB g.n (plusM g.n (aM g 4)) = true from cyc_acyc.1 hout]
    simp -dsimp only [go_sem, r1.cell, r3.cell]
    refine call_of (law11_lives (ht.fr p0 (.inr rfl))) ?_
    rintro v12 h12 ⟨f12, rfl⟩
    have f12_z := f12.size
    replace p0 := p0.fresh f12 (by omega)
    replace p4 := p4.fresh f12 (by omega)
    replace r1 := r1.fr f12 (by omega)
    replace r3 := r3.fr f12 (by omega)
    simp -dsimp only [go_sem, r1.cell, r3.cell]
    exact p0
  have ec : ((c : Int) < (g.co.length : Int)) := by omega
  obtain ⟨ob, oo, hoe, la, lc, hlist⟩ := hrl c hlt
  have hll := t.fits.l _ (List.mem_of_getElem? (getD_get hlt))
  have hahead := fun (a b : Nat) (x y : Int) (hab : a < b) (h1 : (g.co.getD c [])[a]? = some x) (h2 : (g.co.getD c [])[b]? = some y) => co_ahead hc hin hlt hab h1 h2
  generalize g.co.getD c [] = l at hlist hll hahead
  simp -dsimp only [go_sem, ec, r1.cell, r3.cell]
  refine loop_intro (fun a : Nat => [(1, .pointer (some ⟨b1, 0, none⟩)), (3, .pointer (some ⟨b3, 0, none⟩)), (15, .int .i64 c), (16, .int .i64 a)])
    (fun a h' => a ≤ l.length ∧ Fr 0 0 h h' ∧ Fr 0 0 h4 h') (fun a => l.length - a) 0 ?_ ?_ ?_
  · simp [Le, find]
  · exact ⟨by omega, p0, p4⟩
  clear p0 p4 r1 r3
  rintro a h11 ⟨ha', p0, p4⟩
  have r1 := k1.fr p4 (by omega)
  have r3 := k3.fr p4 (by omega)
  have p0_z := p0.size
  have p4_z := p4.size
  have r1_l := r1.lt
  have r3_l := r3.lt
  obtain ⟨l1, -⟩ := hlist h11 p0
  by_cases hal : a < l.length
  rotate_left
  · obtain rfl : a = l.length := by omega
    simp -dsimp only [go_sem, ec, hoe, l1, Int.lt_irrefl, r1.cell, r3.cell]
    simp -dsimp (disch := omega) only [wrap64]
    exact ⟨c + 1, by omega, by simp [Le, find], by omega, p0, p4⟩
  have ea : ((a : Int) < (l.length : Int)) := by omega
  obtain ⟨lb, lo, hle, hlc⟩ := list_at (by omega) fun h' f => (hlist h' f).2
  simp -dsimp only [go_sem, ec, hoe, l1, ea, r1.cell, r3.cell]
  simp -dsimp (disch := omega) only [wrap64]
  refine loop_intro (fun b : Nat => [(1, .pointer (some ⟨b1, 0, none⟩)), (3, .pointer (some ⟨b3, 0, none⟩)), (15, .int .i64 c), (16, .int .i64 a), (17, .int .i64 (a + 1 + b : Nat))])
    (fun b h' => a + 1 + b ≤ l.length ∧ Fr 0 0 h h' ∧ Fr 0 0 h4 h') (fun b => l.length - b) 0 ?_ ?_ ?_
  · simp [Le, find]
  · exact ⟨by omega, p0, p4⟩
  clear p0 p4 r1 r3 l1
  rintro b h12 ⟨hb', p0, p4⟩
  have r1 := k1.fr p4 (by omega)
  have r3 := k3.fr p4 (by omega)
  have p0_z := p0.size
  have p4_z := p4.size
  have r1_l := r1.lt
  have r3_l := r3.lt
  obtain ⟨l1, -⟩ := hlist h12 p0
  by_cases hbl : a + 1 + b < l.length
  rotate_left
  · have eb : ¬ (((a + 1 + b : Nat) : Int) < (l.length : Int)) := by omega
    simp -dsimp only [go_sem, ec, hoe, l1, eb, r1.cell, r3.cell]
    simp -dsimp (disch := omega) only [wrap64]
    exact ⟨a + 1, by omega, by simp [Le, find], by omega, p0, p4⟩
  have eb : (((a + 1 + b : Nat) : Int) < (l.length : Int)) := by omega
  have hqa : l[a]? = some l[a] := List.getElem?_eq_getElem hal
  have hqb : l[a + 1 + b]? = some l[a + 1 + b] := List.getElem?_eq_getElem hbl
  obtain ⟨w, v, hw, hv, hwn, hvn, hah⟩ := hahead _ _ _ _ (show a < a + 1 + b by omega) hqa hqb
  rw [hw] at hqa
  rw [hv] at hqb
  have x1 := hlc h12 p0 _ _ hqa
  have x2 := hlc h12 p0 _ _ hqb
  obtain ⟨evb, evo, he, hev⟩ := t.evs (by omega)
  obtain ⟨c0', -⟩ := hev h12 p0 w hwn
  obtain ⟨d0', -⟩ := hev h12 p0 v hvn
  have ew : ((w : Int) < (g.n : Int)) := by omega
  have er : ((v : Int) < (g.n : Int)) := by omega
  by_cases h0 : (g.ev w).thread ≥ 0
  · by_cases hth : (g.ev w).thread = (g.ev v).thread
    · have hwr : ¬ ((w : Int) > (v : Int)) := by have := hah h0 hth; omega
      simp -dsimp only [go_sem, ec, hoe, l1, ea, eb, hle, x1, x2, he, evs_len, ew, er, c0', d0', h0, beq_t hth, hwr, r1.cell, r3.cell]
      simp -dsimp (disch := omega) only [wrap64]
      exact ⟨b + 1, by omega, by simp [Le, find]; omega, by omega, p0, p4⟩
    · simp -dsimp only [go_sem, ec, hoe, l1, ea, eb, hle, x1, x2, he, evs_len, ew, er, c0', d0', h0, beq_f hth, r1.cell, r3.cell]
      simp -dsimp (disch := omega) only [wrap64]
      exact ⟨b + 1, by omega, by simp [Le, find]; omega, by omega, p0, p4⟩
  · simp -dsimp only [go_sem, ec, hoe, l1, ea, eb, hle, x1, x2, he, evs_len, ew, er, c0', d0', h0, r1.cell, r3.cell]
    simp -dsimp (disch := omega) only [wrap64]
    exact ⟨b + 1, by omega, by simp [Le, find]; omega, by omega, p0, p4⟩
end Go.Proofs.Tst
/-
  ArmLaws and its arguments.
-/
namespace Go.Proofs.Tst
end Go.Proofs.Tst
