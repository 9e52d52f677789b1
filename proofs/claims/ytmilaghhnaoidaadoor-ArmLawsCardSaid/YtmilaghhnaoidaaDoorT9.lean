/-
  Contracts of functions that the law reaches: what each returns and what it leaves in memory. Conditions stand in each.
-/
import Derived.Test.YtmilaghhnaoidaaDoorT8
set_option linter.all false
set_option maxRecDepth 2000
/-
  ArmLaws.
-/
namespace Go.Proofs.Tst
open Go Go.Vc
set_option maxHeartbeats 8000000 in
theorem c_law11_ArmLaws {h : Heap} {q : GV} {g : Gr} (t : GrAt h q g) (ht : TabAt h) :
    Con Tryd.prog 10 #[.agg (gcells q g).toArray] h fun v h' => Fr 0 0 h h' ∧ v = .bool true := by
  refine con_law11_ArmLaws ?_
  have hen : g.evs.length = g.n := rfl
  have be := t.fits.e
  have bf := t.fits.f
  have bo := t.fits.o
  have p0 : Fr 0 0 h h := .refl _ _ _
  unfold gcells
  simp -dsimp only [go_sem]
  intro b1 h1 n1
  have n1_a := n1.at_
  have n1_z := n1.size
  replace p0 := p0.fresh (n1.fr (lo := 0) (hi := 0)) (by omega)
  have r1 := n1.row
  simp -dsimp only [go_sem, r1.cell]
  refine call_of (arm_Derive (t.fr p0) (ht.fr p0 (.inr rfl))) ?_
  rintro v2 h2 ⟨f2, w2⟩
  have f2_z := f2.size
  replace p0 := p0.fresh f2 (by omega)
  replace r1 := r1.fr f2 (by omega)
  by_cases hc : (g.check true).1 = 0
  rotate_left
  · rw [if_neg hc] at w2
    subst w2
    simp -dsimp only [go_sem, r1.cell]
    intro b3 h3 n3
    have n3_a := n3.at_
    have n3_z := n3.size
    replace p0 := p0.fresh (n3.fr (lo := 0) (hi := 0)) (by omega)
    replace r1 := r1.fr (n3.fr (lo := 0) (hi := 0)) (by omega)
    have r3 := n3.row
    simp -dsimp only [go_sem, r1.cell, r3.cell]
    refine Chk_intro (r3.wr (by first | (simp; done) | (simp; omega))) fun h4 s4 => ?_
    have s4_z := s4.size
    replace p0 := p0.fresh s4.fr (by omega)
    replace r1 := r1.fr s4.fr (by omega)
    replace r3 := s4.row r3
    try simp only [cl_int, cl_bool, cl_slice, cl_ptr, putAt_one, List.set_cons_zero, List.set_cons_succ, ivec_set, brow_upd] at r3
    try simp -dsimp only [go_sem] at r3
    simp -dsimp only [go_sem, r1.cell, r3.cell]
    refine call_of (arm_Check (t.fr p0) (ht.fr p0 (.inr rfl))) ?_
    rintro v5 h5 ⟨f5, w5⟩
    have f5_z := f5.size
    replace p0 := p0.fresh f5 (by omega)
    replace r1 := r1.fr f5 (by omega)
    replace r3 := r3.fr f5 (by omega)
    rw [if_neg hc] at w5
    subst w5
    simp -dsimp only [go_sem, r1.cell, r3.cell]
    refine call_of (law11_lives (ht.fr p0 (.inr rfl))) ?_
    rintro v6 h6 ⟨f6, rfl⟩
    have f6_z := f6.size
    replace p0 := p0.fresh f6 (by omega)
    replace r1 := r1.fr f6 (by omega)
    replace r3 := r3.fr f6 (by omega)
    simp -dsimp only [go_sem, r1.cell, r3.cell]
    exact p0
  have hg := good_true hc
  have hn := (good_n hg).1
  rw [if_pos hc] at w2
  obtain ⟨x, A, B, rfl, D, dlo⟩ := w2
  obtain ⟨c0, e0⟩ := progPtr (D.at_ 0 (by decide))
  obtain ⟨c1, e1⟩ := progPtr (D.at_ 1 (by decide))
  obtain ⟨c2, e2⟩ := progPtr (D.at_ 2 (by decide))
  obtain ⟨c3, e3⟩ := progPtr (D.at_ 3 (by decide))
  obtain ⟨c4, e4⟩ := progPtr (D.at_ 4 (by decide))
  have g0 := D.at_ 0 (by decide)
  have g1 := D.at_ 1 (by decide)
  have g2 := D.at_ 2 (by decide)
  have g3 := D.at_ 3 (by decide)
  have g4 := D.at_ 4 (by decide)
  rw [e0] at g0
  rw [e1] at g1
  rw [e2] at g2
  rw [e3] at g3
  rw [e4] at g4
  rw [e0, e1, e2, e3, e4]
  clear D
  have p2 : Fr 0 0 h2 h2 := .refl _ _ _
  simp -dsimp only [go_sem, r1.cell]
  intro b3 h3 n3
  have n3_a := n3.at_
  have n3_z := n3.size
  replace p0 := p0.fresh (n3.fr (lo := 0) (hi := 0)) (by omega)
  replace r1 := r1.fr (n3.fr (lo := 0) (hi := 0)) (by omega)
  replace p2 := p2.fresh (n3.fr (lo := 0) (hi := 0)) (by omega)
  have r3 := n3.row
  simp -dsimp only [go_sem, r1.cell, r3.cell]
  refine Chk_intro (r3.wr (by first | (simp; done) | (simp; omega))) fun h4 s4 => ?_
  have s4_z := s4.size
  replace p0 := p0.fresh s4.fr (by omega)
  replace r1 := r1.fr s4.fr (by omega)
  replace p2 := p2.fresh s4.fr (by omega)
  replace r3 := s4.row r3
  try simp only [cl_int, cl_bool, cl_slice, cl_ptr, putAt_one, List.set_cons_zero, List.set_cons_succ, ivec_set, brow_upd] at r3
  try simp -dsimp only [go_sem] at r3
  have k1 := r1
  have k3 := r3
  have g0 := g0.fr p2 (by omega)
  have g1 := g1.fr p2 (by omega)
  have g2 := g2.fr p2 (by omega)
  have g3 := g3.fr p2 (by omega)
  have g4 := g4.fr p2 (by omega)
  clear p2
  have p4 : Fr 0 0 h4 h4 := .refl _ _ _
  simp -dsimp only [go_sem, r1.cell, r3.cell]
  refine call_of (arm_Check (t.fr p0) (ht.fr p0 (.inr rfl))) ?_
  rintro v5 h5 ⟨f5, w5⟩
  have f5_z := f5.size
  replace p0 := p0.fresh f5 (by omega)
  replace r1 := r1.fr f5 (by omega)
  replace r3 := r3.fr f5 (by omega)
  replace p4 := p4.fresh f5 (by omega)
  rw [if_pos hc] at w5
  obtain ⟨w5, rfl, -⟩ := w5
  simp -dsimp only [go_sem, r1.cell, r3.cell]
  intro b6 h6 n6
  have n6_a := n6.at_
  have n6_z := n6.size
  replace p0 := p0.fresh (n6.fr (lo := 0) (hi := 0)) (by omega)
  replace r1 := r1.fr (n6.fr (lo := 0) (hi := 0)) (by omega)
  replace r3 := r3.fr (n6.fr (lo := 0) (hi := 0)) (by omega)
  replace p4 := p4.fresh (n6.fr (lo := 0) (hi := 0)) (by omega)
  have r6 := n6.row
  simp -dsimp only [go_sem, r1.cell, r3.cell, r6.cell]
  refine call_of (rel_UnionU (UA.mk' [(.pointer (some ⟨c0, 0, none⟩), obsM g), (.pointer (some ⟨c1, 0, none⟩), dobM g), (.pointer (some ⟨c2, 0, none⟩), aobM g), (.pointer (some ⟨c3, 0, none⟩), bobM g)] r6 (pa_cons ⟨_, _, g0.fr p4 (by omega)⟩ (pa_cons ⟨_, _, g1.fr p4 (by omega)⟩ (pa_cons ⟨_, _, g2.fr p4 (by omega)⟩ (pa_cons ⟨_, _, g3.fr p4 (by omega)⟩ pa_nil)))) (by simp) (by simp))) ?_
  rintro v7 h7 ⟨f7, t7⟩
  have f7_z := f7.size
  replace p0 := p0.fresh f7 (by omega)
  replace r1 := r1.fr f7 (by omega)
  replace r3 := r3.fr f7 (by omega)
  replace p4 := p4.fresh f7 (by omega)
  replace r6 := r6.fr f7 (by omega)
  simp -dsimp only [go_sem, r1.cell, r3.cell, r6.cell]
  have hun : orM [obsM g, dobM g, aobM g, bobM g] = obM g := by funext i j; simp [orM, obM, Bool.or_assoc]
  replace t7 : ProgAt h7 h6.size h7.size v7 g.n (orM [obsM g, dobM g, aobM g, bobM g]) := t7
  rw [hun] at t7
  refine call_of (rel_Equal (g4.fr p4 (by omega)) t7 (ht.fr p0 (.inr rfl))) ?_
  rintro v8 h8 ⟨f8, rfl⟩
  have f8_z := f8.size
  replace p0 := p0.fresh f8 (by omega)
  replace r1 := r1.fr f8 (by omega)
  replace r3 := r3.fr f8 (by omega)
  replace p4 := p4.fresh f8 (by omega)
  replace r6 := r6.fr f8 (by omega)
  rw [decide_eq_true (⟨rfl, within_self fun i j _ _ hm => hm, within_self fun i j _ _ hm => hm⟩ : g.n = g.n ∧ WithinP g.n (aM g 4) g.n (obM g) ∧ WithinP g.n (obM g) g.n (aM g 4))]
  simp -dsimp only [go_sem, evs_len, r1.cell, r3.cell, r6.cell]
  have hb1 : h.size ≤ b1 ∧ b1 < h4.size ∧ h.size ≤ b3 ∧ b3 < h4.size := by omega
  refine loop_intro (fun i : Nat => [(1, .pointer (some ⟨b1, 0, none⟩)), (3, .pointer (some ⟨b3, 0, none⟩)), (5, .int .i64 (armAx g).1), (8, .int .i64 g.n), (9, .int .i64 i)])
    (fun i h' => i ≤ g.n ∧ Fr 0 0 h h' ∧ Fr 0 0 h4 h') (fun i => g.n - i) 0 ?_ ?_ ?_
  · simp [Le, find]
  · exact ⟨by omega, p0, p4⟩
  clear p0 p4 r1 r3 r6 t7
  rintro i h8 ⟨hi, p0, p4⟩
  have r1 := k1.fr p4 (by omega)
  have r3 := k3.fr p4 (by omega)
  have p0_z := p0.size
  have p4_z := p4.size
  have r1_l := r1.lt
  have r3_l := r3.lt
  by_cases hlt : i < g.n
  · have e1 : ((i : Int) < (g.n : Int)) := by omega
    obtain ⟨eb, eo, he, hev⟩ := t.evs (by omega)
    simp -dsimp only [go_sem, e1, r1.cell, r3.cell]
    refine loop_intro (fun j : Nat => [(1, .pointer (some ⟨b1, 0, none⟩)), (3, .pointer (some ⟨b3, 0, none⟩)), (5, .int .i64 (armAx g).1), (8, .int .i64 g.n), (9, .int .i64 i), (10, .int .i64 j)])
      (fun j h' => j ≤ g.n ∧ Fr 0 0 h h' ∧ Fr 0 0 h4 h') (fun j => g.n - j) 0 ?_ ?_ ?_
    · simp [Le, find]
    · exact ⟨by omega, p0, p4⟩
    clear p0 p4 r1 r3
    rintro j h8 ⟨hj, p0, p4⟩
    have r1 := k1.fr p4 (by omega)
    have r3 := k3.fr p4 (by omega)
    have p0_z := p0.size
    have p4_z := p4.size
    have r1_l := r1.lt
    have r3_l := r3.lt
    by_cases hjl : j < g.n
    rotate_left
    · obtain rfl : j = g.n := by omega
      simp -dsimp only [go_sem, Int.lt_irrefl, r1.cell, r3.cell]
      simp -dsimp (disch := omega) only [wrap64]
      exact ⟨i + 1, by omega, by simp [Le, find], by omega, p0, p4⟩
    have e2 : ((j : Int) < (g.n : Int)) := by omega
    obtain ⟨c0', -⟩ := hev h8 p0 i hlt
    obtain ⟨d0', -⟩ := hev h8 p0 j hjl
    simp -dsimp only [go_sem, e1, e2, he, evs_len, c0', d0', r1.cell, r3.cell]
    have ao : ∀ i j, aM g 0 i j = obsM g i j := fun _ _ => rfl
    by_cases hth : (g.ev i).thread = (g.ev j).thread
    · have ho : obsM g i j = false := by
        cases h : obsM g i j
        · rfl
        · exact absurd hth (obs_ext h)
      refine call_of (rel_Has (g0.fr p4 (by omega)) i j) ?_
      rintro v h9 ⟨hh, rfl⟩
      obtain rfl : h8 = h9 := hh.symm
      rw [has_nat hlt hjl, show aM g 0 i j = false from ho]
      simp -dsimp only [go_sem, e1, e2, he, evs_len, c0', d0', beq_t hth, bne_t hth, r1.cell, r3.cell]
      cases hbb : bobM g i j
      · skip
        refine call_of (rel_Has (g3.fr p4 (by omega)) i j) ?_
        rintro v h9 ⟨hh, rfl⟩
        obtain rfl : h8 = h9 := hh.symm
        rw [has_nat hlt hjl, show aM g 3 i j = false from hbb]
        simp -dsimp only [go_sem, e1, e2, he, evs_len, c0', d0', beq_t hth, bne_t hth, r1.cell, r3.cell]
        cases hab : aobM g i j
        · skip
          refine call_of (rel_Has (g2.fr p4 (by omega)) i j) ?_
          rintro v h9 ⟨hh, rfl⟩
          obtain rfl : h8 = h9 := hh.symm
          rw [has_nat hlt hjl, show aM g 2 i j = false from hab]
          simp -dsimp only [go_sem, e1, e2, he, evs_len, c0', d0', beq_t hth, bne_t hth, r1.cell, r3.cell]
          cases hdb : dobM g i j
          · skip
            refine call_of (rel_Has (g1.fr p4 (by omega)) i j) ?_
            rintro v h9 ⟨hh, rfl⟩
            obtain rfl : h8 = h9 := hh.symm
            rw [has_nat hlt hjl, show aM g 1 i j = false from hdb]
            simp -dsimp only [go_sem, e1, e2, he, evs_len, c0', d0', beq_t hth, bne_t hth, r1.cell, r3.cell]
            cases hob : obM g i j
            · skip
              refine call_of (rel_Has (g4.fr p4 (by omega)) i j) ?_
              rintro v h9 ⟨hh, rfl⟩
              obtain rfl : h8 = h9 := hh.symm
              rw [has_nat hlt hjl, show aM g 4 i j = false from hob]
              simp -dsimp only [go_sem, e1, e2, he, evs_len, c0', d0', beq_t hth, bne_t hth, r1.cell, r3.cell]
              simp -dsimp (disch := omega) only [wrap64]
              exact ⟨j + 1, by omega, by simp [Le, find, he, evs_len], by omega, p0, p4⟩
            · by_cases hx : (g.ev i).thread ≥ 0
              · have hy : ¬ (g.ev j).thread < 0 := by omega
                refine call_of (rel_Has (g4.fr p4 (by omega)) i j) ?_
                rintro v h9 ⟨hh, rfl⟩
                obtain rfl : h8 = h9 := hh.symm
                rw [has_nat hlt hjl, show aM g 4 i j = true from hob]
                simp -dsimp only [go_sem, e1, e2, he, evs_len, c0', d0', beq_t hth, bne_t hth, hx, hy, r1.cell, r3.cell]
                simp -dsimp (disch := omega) only [wrap64]
                exact ⟨j + 1, by omega, by simp [Le, find, he, evs_len], by omega, p0, p4⟩
              · skip
                refine call_of (rel_Has (g4.fr p4 (by omega)) i j) ?_
                rintro v h9 ⟨hh, rfl⟩
                obtain rfl : h8 = h9 := hh.symm
                rw [has_nat hlt hjl, show aM g 4 i j = true from hob]
                simp -dsimp only [go_sem, e1, e2, he, evs_len, c0', d0', beq_t hth, bne_t hth, hx, r1.cell, r3.cell]
                simp -dsimp (disch := omega) only [wrap64]
                exact ⟨j + 1, by omega, by simp [Le, find, he, evs_len], by omega, p0, p4⟩
          · skip
            refine call_of (rel_Has (g1.fr p4 (by omega)) i j) ?_
            rintro v h9 ⟨hh, rfl⟩
            obtain rfl : h8 = h9 := hh.symm
            rw [has_nat hlt hjl, show aM g 1 i j = true from hdb]
            simp -dsimp only [go_sem, e1, e2, he, evs_len, c0', d0', beq_t hth, bne_t hth, r1.cell, r3.cell]
            cases hob : obM g i j
            · skip
              refine call_of (rel_Has (g4.fr p4 (by omega)) i j) ?_
              rintro v h9 ⟨hh, rfl⟩
              obtain rfl : h8 = h9 := hh.symm
              rw [has_nat hlt hjl, show aM g 4 i j = false from hob]
              simp -dsimp only [go_sem, e1, e2, he, evs_len, c0', d0', beq_t hth, bne_t hth, r1.cell, r3.cell]
              simp -dsimp (disch := omega) only [wrap64]
              exact ⟨j + 1, by omega, by simp [Le, find, he, evs_len], by omega, p0, p4⟩
            · by_cases hx : (g.ev i).thread ≥ 0
              · have hy : ¬ (g.ev j).thread < 0 := by omega
                refine call_of (rel_Has (g4.fr p4 (by omega)) i j) ?_
                rintro v h9 ⟨hh, rfl⟩
                obtain rfl : h8 = h9 := hh.symm
                rw [has_nat hlt hjl, show aM g 4 i j = true from hob]
                simp -dsimp only [go_sem, e1, e2, he, evs_len, c0', d0', beq_t hth, bne_t hth, hx, hy, r1.cell, r3.cell]
                simp -dsimp (disch := omega) only [wrap64]
                exact ⟨j + 1, by omega, by simp [Le, find, he, evs_len], by omega, p0, p4⟩
              · skip
                refine call_of (rel_Has (g4.fr p4 (by omega)) i j) ?_
                rintro v h9 ⟨hh, rfl⟩
                obtain rfl : h8 = h9 := hh.symm
                rw [has_nat hlt hjl, show aM g 4 i j = true from hob]
                simp -dsimp only [go_sem, e1, e2, he, evs_len, c0', d0', beq_t hth, bne_t hth, hx, r1.cell, r3.cell]
                simp -dsimp (disch := omega) only [wrap64]
                exact ⟨j + 1, by omega, by simp [Le, find, he, evs_len], by omega, p0, p4⟩
        · skip
          refine call_of (rel_Has (g2.fr p4 (by omega)) i j) ?_
          rintro v h9 ⟨hh, rfl⟩
          obtain rfl : h8 = h9 := hh.symm
          rw [has_nat hlt hjl, show aM g 2 i j = true from hab]
          simp -dsimp only [go_sem, e1, e2, he, evs_len, c0', d0', beq_t hth, bne_t hth, r1.cell, r3.cell]
          cases hdb : dobM g i j
          · skip
            refine call_of (rel_Has (g1.fr p4 (by omega)) i j) ?_
            rintro v h9 ⟨hh, rfl⟩
            obtain rfl : h8 = h9 := hh.symm
            rw [has_nat hlt hjl, show aM g 1 i j = false from hdb]
            simp -dsimp only [go_sem, e1, e2, he, evs_len, c0', d0', beq_t hth, bne_t hth, r1.cell, r3.cell]
            cases hob : obM g i j
            · skip
              refine call_of (rel_Has (g4.fr p4 (by omega)) i j) ?_
              rintro v h9 ⟨hh, rfl⟩
              obtain rfl : h8 = h9 := hh.symm
              rw [has_nat hlt hjl, show aM g 4 i j = false from hob]
              simp -dsimp only [go_sem, e1, e2, he, evs_len, c0', d0', beq_t hth, bne_t hth, r1.cell, r3.cell]
              simp -dsimp (disch := omega) only [wrap64]
              exact ⟨j + 1, by omega, by simp [Le, find, he, evs_len], by omega, p0, p4⟩
            · by_cases hx : (g.ev i).thread ≥ 0
              · have hy : ¬ (g.ev j).thread < 0 := by omega
                refine call_of (rel_Has (g4.fr p4 (by omega)) i j) ?_
                rintro v h9 ⟨hh, rfl⟩
                obtain rfl : h8 = h9 := hh.symm
                rw [has_nat hlt hjl, show aM g 4 i j = true from hob]
                simp -dsimp only [go_sem, e1, e2, he, evs_len, c0', d0', beq_t hth, bne_t hth, hx, hy, r1.cell, r3.cell]
                simp -dsimp (disch := omega) only [wrap64]
                exact ⟨j + 1, by omega, by simp [Le, find, he, evs_len], by omega, p0, p4⟩
              · skip
                refine call_of (rel_Has (g4.fr p4 (by omega)) i j) ?_
                rintro v h9 ⟨hh, rfl⟩
                obtain rfl : h8 = h9 := hh.symm
                rw [has_nat hlt hjl, show aM g 4 i j = true from hob]
                simp -dsimp only [go_sem, e1, e2, he, evs_len, c0', d0', beq_t hth, bne_t hth, hx, r1.cell, r3.cell]
                simp -dsimp (disch := omega) only [wrap64]
                exact ⟨j + 1, by omega, by simp [Le, find, he, evs_len], by omega, p0, p4⟩
          · skip
            refine call_of (rel_Has (g1.fr p4 (by omega)) i j) ?_
            rintro v h9 ⟨hh, rfl⟩
            obtain rfl : h8 = h9 := hh.symm
            rw [has_nat hlt hjl, show aM g 1 i j = true from hdb]
            simp -dsimp only [go_sem, e1, e2, he, evs_len, c0', d0', beq_t hth, bne_t hth, r1.cell, r3.cell]
            cases hob : obM g i j
            · skip
              refine call_of (rel_Has (g4.fr p4 (by omega)) i j) ?_
              rintro v h9 ⟨hh, rfl⟩
              obtain rfl : h8 = h9 := hh.symm
              rw [has_nat hlt hjl, show aM g 4 i j = false from hob]
              simp -dsimp only [go_sem, e1, e2, he, evs_len, c0', d0', beq_t hth, bne_t hth, r1.cell, r3.cell]
              simp -dsimp (disch := omega) only [wrap64]
              exact ⟨j + 1, by omega, by simp [Le, find, he, evs_len], by omega, p0, p4⟩
            · by_cases hx : (g.ev i).thread ≥ 0
              · have hy : ¬ (g.ev j).thread < 0 := by omega
                refine call_of (rel_Has (g4.fr p4 (by omega)) i j) ?_
                rintro v h9 ⟨hh, rfl⟩
                obtain rfl : h8 = h9 := hh.symm
                rw [has_nat hlt hjl, show aM g 4 i j = true from hob]
                simp -dsimp only [go_sem, e1, e2, he, evs_len, c0', d0', beq_t hth, bne_t hth, hx, hy, r1.cell, r3.cell]
                simp -dsimp (disch := omega) only [wrap64]
                exact ⟨j + 1, by omega, by simp [Le, find, he, evs_len], by omega, p0, p4⟩
              · skip
                refine call_of (rel_Has (g4.fr p4 (by omega)) i j) ?_
                rintro v h9 ⟨hh, rfl⟩
                obtain rfl : h8 = h9 := hh.symm
                rw [has_nat hlt hjl, show aM g 4 i j = true from hob]
                simp -dsimp only [go_sem, e1, e2, he, evs_len, c0', d0', beq_t hth, bne_t hth, hx, r1.cell, r3.cell]
                simp -dsimp (disch := omega) only [wrap64]
                exact ⟨j + 1, by omega, by simp [Le, find, he, evs_len], by omega, p0, p4⟩
      · skip
        refine call_of (rel_Has (g3.fr p4 (by omega)) i j) ?_
        rintro v h9 ⟨hh, rfl⟩
        obtain rfl : h8 = h9 := hh.symm
        rw [has_nat hlt hjl, show aM g 3 i j = true from hbb]
        simp -dsimp only [go_sem, e1, e2, he, evs_len, c0', d0', beq_t hth, bne_t hth, r1.cell, r3.cell]
        cases hdb : dobM g i j
        · skip
          refine call_of (rel_Has (g1.fr p4 (by omega)) i j) ?_
          rintro v h9 ⟨hh, rfl⟩
          obtain rfl : h8 = h9 := hh.symm
          rw [has_nat hlt hjl, show aM g 1 i j = false from hdb]
          simp -dsimp only [go_sem, e1, e2, he, evs_len, c0', d0', beq_t hth, bne_t hth, r1.cell, r3.cell]
          cases hob : obM g i j
          · skip
            refine call_of (rel_Has (g4.fr p4 (by omega)) i j) ?_
            rintro v h9 ⟨hh, rfl⟩
            obtain rfl : h8 = h9 := hh.symm
            rw [has_nat hlt hjl, show aM g 4 i j = false from hob]
            simp -dsimp only [go_sem, e1, e2, he, evs_len, c0', d0', beq_t hth, bne_t hth, r1.cell, r3.cell]
            simp -dsimp (disch := omega) only [wrap64]
            exact ⟨j + 1, by omega, by simp [Le, find, he, evs_len], by omega, p0, p4⟩
          · by_cases hx : (g.ev i).thread ≥ 0
            · have hy : ¬ (g.ev j).thread < 0 := by omega
              refine call_of (rel_Has (g4.fr p4 (by omega)) i j) ?_
              rintro v h9 ⟨hh, rfl⟩
              obtain rfl : h8 = h9 := hh.symm
              rw [has_nat hlt hjl, show aM g 4 i j = true from hob]
              simp -dsimp only [go_sem, e1, e2, he, evs_len, c0', d0', beq_t hth, bne_t hth, hx, hy, r1.cell, r3.cell]
              simp -dsimp (disch := omega) only [wrap64]
              exact ⟨j + 1, by omega, by simp [Le, find, he, evs_len], by omega, p0, p4⟩
            · skip
              refine call_of (rel_Has (g4.fr p4 (by omega)) i j) ?_
              rintro v h9 ⟨hh, rfl⟩
              obtain rfl : h8 = h9 := hh.symm
              rw [has_nat hlt hjl, show aM g 4 i j = true from hob]
              simp -dsimp only [go_sem, e1, e2, he, evs_len, c0', d0', beq_t hth, bne_t hth, hx, r1.cell, r3.cell]
              simp -dsimp (disch := omega) only [wrap64]
              exact ⟨j + 1, by omega, by simp [Le, find, he, evs_len], by omega, p0, p4⟩
        · skip
          refine call_of (rel_Has (g1.fr p4 (by omega)) i j) ?_
          rintro v h9 ⟨hh, rfl⟩
          obtain rfl : h8 = h9 := hh.symm
          rw [has_nat hlt hjl, show aM g 1 i j = true from hdb]
          simp -dsimp only [go_sem, e1, e2, he, evs_len, c0', d0', beq_t hth, bne_t hth, r1.cell, r3.cell]
          cases hob : obM g i j
          · skip
            refine call_of (rel_Has (g4.fr p4 (by omega)) i j) ?_
            rintro v h9 ⟨hh, rfl⟩
            obtain rfl : h8 = h9 := hh.symm
            rw [has_nat hlt hjl, show aM g 4 i j = false from hob]
            simp -dsimp only [go_sem, e1, e2, he, evs_len, c0', d0', beq_t hth, bne_t hth, r1.cell, r3.cell]
            simp -dsimp (disch := omega) only [wrap64]
            exact ⟨j + 1, by omega, by simp [Le, find, he, evs_len], by omega, p0, p4⟩
          · by_cases hx : (g.ev i).thread ≥ 0
            · have hy : ¬ (g.ev j).thread < 0 := by omega
              refine call_of (rel_Has (g4.fr p4 (by omega)) i j) ?_
              rintro v h9 ⟨hh, rfl⟩
              obtain rfl : h8 = h9 := hh.symm
              rw [has_nat hlt hjl, show aM g 4 i j = true from hob]
              simp -dsimp only [go_sem, e1, e2, he, evs_len, c0', d0', beq_t hth, bne_t hth, hx, hy, r1.cell, r3.cell]
              simp -dsimp (disch := omega) only [wrap64]
              exact ⟨j + 1, by omega, by simp [Le, find, he, evs_len], by omega, p0, p4⟩
            · skip
              refine call_of (rel_Has (g4.fr p4 (by omega)) i j) ?_
              rintro v h9 ⟨hh, rfl⟩
              obtain rfl : h8 = h9 := hh.symm
              rw [has_nat hlt hjl, show aM g 4 i j = true from hob]
              simp -dsimp only [go_sem, e1, e2, he, evs_len, c0', d0', beq_t hth, bne_t hth, hx, r1.cell, r3.cell]
              simp -dsimp (disch := omega) only [wrap64]
              exact ⟨j + 1, by omega, by simp [Le, find, he, evs_len], by omega, p0, p4⟩
    have hbb : bobM g i j = false := by
      cases h : bobM g i j
      · rfl
      · exact absurd (bob_th h) hth
    have hab : aobM g i j = false := by
      cases h : aobM g i j
      · rfl
      · exact absurd (aob_th hc h) hth
    have hdb : dobM g i j = false := by
      cases h : dobM g i j
      · rfl
      · exact absurd (dob_th hc h) hth
    cases ho : obsM g i j
    · have hob : obM g i j = false := by
        cases h : obM g i j
        · rfl
        · have := ob_obs hc h hth
          rw [ho] at this; cases this
      refine call_of (rel_Has (g0.fr p4 (by omega)) i j) ?_
      rintro v h9 ⟨hh, rfl⟩
      obtain rfl : h8 = h9 := hh.symm
      rw [has_nat hlt hjl, show aM g 0 i j = false from ho]
      simp -dsimp only [go_sem, e1, e2, he, evs_len, c0', d0', beq_f hth, bne_f hth, r1.cell, r3.cell]
      refine call_of (rel_Has (g3.fr p4 (by omega)) i j) ?_
      rintro v h9 ⟨hh, rfl⟩
      obtain rfl : h8 = h9 := hh.symm
      rw [has_nat hlt hjl, show aM g 3 i j = false from hbb]
      simp -dsimp only [go_sem, e1, e2, he, evs_len, c0', d0', beq_f hth, bne_f hth, r1.cell, r3.cell]
      refine call_of (rel_Has (g2.fr p4 (by omega)) i j) ?_
      rintro v h9 ⟨hh, rfl⟩
      obtain rfl : h8 = h9 := hh.symm
      rw [has_nat hlt hjl, show aM g 2 i j = false from hab]
      simp -dsimp only [go_sem, e1, e2, he, evs_len, c0', d0', beq_f hth, bne_f hth, r1.cell, r3.cell]
      refine call_of (rel_Has (g1.fr p4 (by omega)) i j) ?_
      rintro v h9 ⟨hh, rfl⟩
      obtain rfl : h8 = h9 := hh.symm
      rw [has_nat hlt hjl, show aM g 1 i j = false from hdb]
      simp -dsimp only [go_sem, e1, e2, he, evs_len, c0', d0', beq_f hth, bne_f hth, r1.cell, r3.cell]
      refine call_of (rel_Has (g4.fr p4 (by omega)) i j) ?_
      rintro v h9 ⟨hh, rfl⟩
      obtain rfl : h8 = h9 := hh.symm
      rw [has_nat hlt hjl, show aM g 4 i j = false from hob]
      simp -dsimp only [go_sem, e1, e2, he, evs_len, c0', d0', beq_f hth, bne_f hth, r1.cell, r3.cell]
      simp -dsimp (disch := omega) only [wrap64]
      exact ⟨j + 1, by omega, by simp [Le, find, he, evs_len], by omega, p0, p4⟩
    have hob : obM g i j = true := by unfold obM; rw [ho]; rfl
    refine call_of (rel_Has (g0.fr p4 (by omega)) i j) ?_
    rintro v h9 ⟨hh, rfl⟩
    obtain rfl : h8 = h9 := hh.symm
    rw [has_nat hlt hjl, show aM g 0 i j = true from ho]
    simp -dsimp only [go_sem, e1, e2, he, evs_len, c0', d0', beq_f hth, bne_f hth, r1.cell, r3.cell]
    refine call_of (rel_Has (g3.fr p4 (by omega)) i j) ?_
    rintro v h9 ⟨hh, rfl⟩
    obtain rfl : h8 = h9 := hh.symm
    rw [has_nat hlt hjl, show aM g 3 i j = false from hbb]
    simp -dsimp only [go_sem, e1, e2, he, evs_len, c0', d0', beq_f hth, bne_f hth, r1.cell, r3.cell]
    refine call_of (rel_Has (g2.fr p4 (by omega)) i j) ?_
    rintro v h9 ⟨hh, rfl⟩
    obtain rfl : h8 = h9 := hh.symm
    rw [has_nat hlt hjl, show aM g 2 i j = false from hab]
    simp -dsimp only [go_sem, e1, e2, he, evs_len, c0', d0', beq_f hth, bne_f hth, r1.cell, r3.cell]
    refine call_of (rel_Has (g1.fr p4 (by omega)) i j) ?_
    rintro v h9 ⟨hh, rfl⟩
    obtain rfl : h8 = h9 := hh.symm
    rw [has_nat hlt hjl, show aM g 1 i j = false from hdb]
    simp -dsimp only [go_sem, e1, e2, he, evs_len, c0', d0', beq_f hth, bne_f hth, r1.cell, r3.cell]
    by_cases hx : (g.ev i).thread ≥ 0
    · by_cases hy : (g.ev j).thread < 0
      · skip
        refine call_of (rel_Has (g4.fr p4 (by omega)) i j) ?_
        rintro v h9 ⟨hh, rfl⟩
        obtain rfl : h8 = h9 := hh.symm
        rw [has_nat hlt hjl, show aM g 4 i j = true from hob]
        simp -dsimp only [go_sem, e1, e2, he, evs_len, c0', d0', beq_f hth, bne_f hth, hx, hy, r1.cell, r3.cell]
        refine call_of (rel_Has (g0.fr p4 (by omega)) i j) ?_
        rintro v h9 ⟨hh, rfl⟩
        obtain rfl : h8 = h9 := hh.symm
        rw [has_nat hlt hjl, show aM g 0 i j = true from ho]
        simp -dsimp only [go_sem, e1, e2, he, evs_len, c0', d0', beq_f hth, bne_f hth, hx, hy, r1.cell, r3.cell]
        simp -dsimp (disch := omega) only [wrap64]
        exact ⟨j + 1, by omega, by simp [Le, find, he, evs_len], by omega, p0, p4⟩
      · skip
        refine call_of (rel_Has (g4.fr p4 (by omega)) i j) ?_
        rintro v h9 ⟨hh, rfl⟩
        obtain rfl : h8 = h9 := hh.symm
        rw [has_nat hlt hjl, show aM g 4 i j = true from hob]
        simp -dsimp only [go_sem, e1, e2, he, evs_len, c0', d0', beq_f hth, bne_f hth, hx, hy, r1.cell, r3.cell]
        simp -dsimp (disch := omega) only [wrap64]
        exact ⟨j + 1, by omega, by simp [Le, find, he, evs_len], by omega, p0, p4⟩
    · skip
      refine call_of (rel_Has (g4.fr p4 (by omega)) i j) ?_
      rintro v h9 ⟨hh, rfl⟩
      obtain rfl : h8 = h9 := hh.symm
      rw [has_nat hlt hjl, show aM g 4 i j = true from hob]
      simp -dsimp only [go_sem, e1, e2, he, evs_len, c0', d0', beq_f hth, bne_f hth, hx, r1.cell, r3.cell]
      simp -dsimp (disch := omega) only [wrap64]
      exact ⟨j + 1, by omega, by simp [Le, find, he, evs_len], by omega, p0, p4⟩
  obtain rfl : i = g.n := by omega
  by_cases ha : (armAx g).1 = 0
  rotate_left
  · simp -dsimp only [go_sem, Int.lt_irrefl, bne_f ha, r1.cell, r3.cell]
    refine call_of (law11_lives (ht.fr p0 (.inr rfl))) ?_
    rintro v9 h9 ⟨f9, rfl⟩
    have f9_z := f9.size
    replace p0 := p0.fresh f9 (by omega)
    replace p4 := p4.fresh f9 (by omega)
    replace r1 := r1.fr f9 (by omega)
    replace r3 := r3.fr f9 (by omega)
    simp -dsimp only [go_sem, r1.cell, r3.cell]
    exact p0
  obtain ⟨hin, hout, -⟩ := armAx_zero.1 ha
  simp -dsimp only [go_sem, Int.lt_irrefl, bne_t ha, r1.cell, r3.cell]
  refine loop_intro (fun i : Nat => [(1, .pointer (some ⟨b1, 0, none⟩)), (3, .pointer (some ⟨b3, 0, none⟩)), (13, .int .i64 i)])
    (fun i h' => i ≤ g.rf.length ∧ Fr 0 0 h h' ∧ Fr 0 0 h4 h') (fun i => g.rf.length - i) 0 ?_ ?_ ?_
  · simp [Le, find]
  · exact ⟨by omega, p0, p4⟩
  clear p0 p4 r1 r3
  rintro i h9 ⟨hi, p0, p4⟩
  have r1 := k1.fr p4 (by omega)
  have r3 := k3.fr p4 (by omega)
  have p0_z := p0.size
  have p4_z := p4.size
  have r1_l := r1.lt
  have r3_l := r3.lt
  by_cases hlt : i < g.rf.length
  · have e1 : ((i : Int) < (g.rf.length : Int)) := by omega
    have hq : g.rf[i]? = some g.rf[i] := List.getElem?_eq_getElem hlt
    have hmem := List.mem_of_getElem? hq
    generalize g.rf[i] = pr at hq hmem
    obtain ⟨w, r, rfl, hwn, hrn, -⟩ := rf_pair hc hmem
    obtain ⟨rb, ro, hre, hrc⟩ := t.f.pairsAt (by omega)
    obtain ⟨x1, x2⟩ := hrc h9 p0 i _ hq
    dsimp only at x1 x2
    obtain ⟨eb, eo, he, hev⟩ := t.evs (by omega)
    obtain ⟨c0', -⟩ := hev h9 p0 w hwn
    obtain ⟨d0', -⟩ := hev h9 p0 r hrn
    have ew : ((w : Int) < (g.n : Int)) := by omega
    have er : ((r : Int) < (g.n : Int)) := by omega
    by_cases h0 : (g.ev w).thread ≥ 0
    · by_cases hth : (g.ev w).thread = (g.ev r).thread
      · have hwr : ¬ ((w : Int) > (r : Int)) := by have := rf_ahead hc hin hmem h0 hth; omega
        simp -dsimp only [go_sem, e1, hre, x1, x2, he, evs_len, ew, er, c0', d0', h0, beq_t hth, hwr, r1.cell, r3.cell]
        simp -dsimp (disch := omega) only [wrap64]
        exact ⟨i + 1, by omega, by simp [Le, find], by omega, p0, p4⟩
      · simp -dsimp only [go_sem, e1, hre, x1, x2, he, evs_len, ew, er, c0', d0', h0, beq_f hth, r1.cell, r3.cell]
        simp -dsimp (disch := omega) only [wrap64]
        exact ⟨i + 1, by omega, by simp [Le, find], by omega, p0, p4⟩
    · simp -dsimp only [go_sem, e1, hre, x1, x2, he, evs_len, ew, er, c0', d0', h0, r1.cell, r3.cell]
      simp -dsimp (disch := omega) only [wrap64]
      exact ⟨i + 1, by omega, by simp [Le, find], by omega, p0, p4⟩
  obtain rfl : i = g.rf.length := by omega
  simp -dsimp only [go_sem, Int.lt_irrefl, r1.cell, r3.cell]
  have hrl := rl_at t.o
  refine loop_intro (fun c : Nat => [(1, .pointer (some ⟨b1, 0, none⟩)), (3, .pointer (some ⟨b3, 0, none⟩)), (15, .int .i64 c)])
    (fun c h' => c ≤ g.co.length ∧ Fr 0 0 h h' ∧ Fr 0 0 h4 h') (fun c => g.co.length - c) 0 ?_ ?_ ?_
  · simp [Le, find]
  · exact ⟨by omega, p0, p4⟩
  clear p0 p4 r1 r3
  rintro c h10 ⟨hi, p0, p4⟩
  have r1 := k1.fr p4 (by omega)
  have r3 := k3.fr p4 (by omega)
  have p0_z := p0.size
  have p4_z := p4.size
  have r1_l := r1.lt
  have r3_l := r3.lt
  by_cases hlt : c < g.co.length
  rotate_left
  · obtain rfl : c = g.co.length := by omega
    simp -dsimp only [go_sem, Int.lt_irrefl, r1.cell, r3.cell]
    refine call_of (rel_Acyclic (g4.fr p4 (by omega))) ?_
    rintro v11 h11 ⟨f11, rfl⟩
    have f11_z := f11.size
    replace p0 := p0.fresh f11 (by omega)
    replace p4 := p4.fresh f11 (by omega)
    replace r1 := r1.fr f11 (by omega)
    replace r3 := r3.fr f11 (by omega)
    rw [show irrB g.n (plusM g.n (aM g 4)) = true from cyc_acyc.1 hout]
    simp -dsimp only [go_sem, r1.cell, r3.cell]
    refine call_of (law11_lives (ht.fr p0 (.inr rfl))) ?_
    rintro v12 h12 ⟨f12, rfl⟩
    have f12_z := f12.size
    replace p0 := p0.fresh f12 (by omega)
    replace p4 := p4.fresh f12 (by omega)
    replace r1 := r1.fr f12 (by omega)
    replace r3 := r3.fr f12 (by omega)
    simp -dsimp only [go_sem, r1.cell, r3.cell]
    exact p0
  have ec : ((c : Int) < (g.co.length : Int)) := by omega
  obtain ⟨ob, oo, hoe, la, lc, hlist⟩ := hrl c hlt
  have hll := t.fits.l _ (List.mem_of_getElem? (getD_get hlt))
  have hahead := fun (a b : Nat) (x y : Int) (hab : a < b) (h1 : (g.co.getD c [])[a]? = some x) (h2 : (g.co.getD c [])[b]? = some y) => co_ahead hc hin hlt hab h1 h2
  generalize g.co.getD c [] = l at hlist hll hahead
  simp -dsimp only [go_sem, ec, r1.cell, r3.cell]
  refine loop_intro (fun a : Nat => [(1, .pointer (some ⟨b1, 0, none⟩)), (3, .pointer (some ⟨b3, 0, none⟩)), (15, .int .i64 c), (16, .int .i64 a)])
    (fun a h' => a ≤ l.length ∧ Fr 0 0 h h' ∧ Fr 0 0 h4 h') (fun a => l.length - a) 0 ?_ ?_ ?_
  · simp [Le, find]
  · exact ⟨by omega, p0, p4⟩
  clear p0 p4 r1 r3
  rintro a h11 ⟨ha', p0, p4⟩
  have r1 := k1.fr p4 (by omega)
  have r3 := k3.fr p4 (by omega)
  have p0_z := p0.size
  have p4_z := p4.size
  have r1_l := r1.lt
  have r3_l := r3.lt
  obtain ⟨l1, -⟩ := hlist h11 p0
  by_cases hal : a < l.length
  rotate_left
  · obtain rfl : a = l.length := by omega
    simp -dsimp only [go_sem, ec, hoe, l1, Int.lt_irrefl, r1.cell, r3.cell]
    simp -dsimp (disch := omega) only [wrap64]
    exact ⟨c + 1, by omega, by simp [Le, find], by omega, p0, p4⟩
  have ea : ((a : Int) < (l.length : Int)) := by omega
  obtain ⟨lb, lo, hle, hlc⟩ := list_at (by omega) fun h' f => (hlist h' f).2
  simp -dsimp only [go_sem, ec, hoe, l1, ea, r1.cell, r3.cell]
  simp -dsimp (disch := omega) only [wrap64]
  refine loop_intro (fun b : Nat => [(1, .pointer (some ⟨b1, 0, none⟩)), (3, .pointer (some ⟨b3, 0, none⟩)), (15, .int .i64 c), (16, .int .i64 a), (17, .int .i64 (a + 1 + b : Nat))])
    (fun b h' => a + 1 + b ≤ l.length ∧ Fr 0 0 h h' ∧ Fr 0 0 h4 h') (fun b => l.length - b) 0 ?_ ?_ ?_
  · simp [Le, find]
  · exact ⟨by omega, p0, p4⟩
  clear p0 p4 r1 r3 l1
  rintro b h12 ⟨hb', p0, p4⟩
  have r1 := k1.fr p4 (by omega)
  have r3 := k3.fr p4 (by omega)
  have p0_z := p0.size
  have p4_z := p4.size
  have r1_l := r1.lt
  have r3_l := r3.lt
  obtain ⟨l1, -⟩ := hlist h12 p0
  by_cases hbl : a + 1 + b < l.length
  rotate_left
  · have eb : ¬ (((a + 1 + b : Nat) : Int) < (l.length : Int)) := by omega
    simp -dsimp only [go_sem, ec, hoe, l1, eb, r1.cell, r3.cell]
    simp -dsimp (disch := omega) only [wrap64]
    exact ⟨a + 1, by omega, by simp [Le, find], by omega, p0, p4⟩
  have eb : (((a + 1 + b : Nat) : Int) < (l.length : Int)) := by omega
  have hqa : l[a]? = some l[a] := List.getElem?_eq_getElem hal
  have hqb : l[a + 1 + b]? = some l[a + 1 + b] := List.getElem?_eq_getElem hbl
  obtain ⟨w, v, hw, hv, hwn, hvn, hah⟩ := hahead _ _ _ _ (show a < a + 1 + b by omega) hqa hqb
  rw [hw] at hqa
  rw [hv] at hqb
  have x1 := hlc h12 p0 _ _ hqa
  have x2 := hlc h12 p0 _ _ hqb
  obtain ⟨evb, evo, he, hev⟩ := t.evs (by omega)
  obtain ⟨c0', -⟩ := hev h12 p0 w hwn
  obtain ⟨d0', -⟩ := hev h12 p0 v hvn
  have ew : ((w : Int) < (g.n : Int)) := by omega
  have er : ((v : Int) < (g.n : Int)) := by omega
  by_cases h0 : (g.ev w).thread ≥ 0
  · by_cases hth : (g.ev w).thread = (g.ev v).thread
    · have hwr : ¬ ((w : Int) > (v : Int)) := by have := hah h0 hth; omega
      simp -dsimp only [go_sem, ec, hoe, l1, ea, eb, hle, x1, x2, he, evs_len, ew, er, c0', d0', h0, beq_t hth, hwr, r1.cell, r3.cell]
      simp -dsimp (disch := omega) only [wrap64]
      exact ⟨b + 1, by omega, by simp [Le, find]; omega, by omega, p0, p4⟩
    · simp -dsimp only [go_sem, ec, hoe, l1, ea, eb, hle, x1, x2, he, evs_len, ew, er, c0', d0', h0, beq_f hth, r1.cell, r3.cell]
      simp -dsimp (disch := omega) only [wrap64]
      exact ⟨b + 1, by omega, by simp [Le, find]; omega, by omega, p0, p4⟩
  · simp -dsimp only [go_sem, ec, hoe, l1, ea, eb, hle, x1, x2, he, evs_len, ew, er, c0', d0', h0, r1.cell, r3.cell]
    simp -dsimp (disch := omega) only [wrap64]
    exact ⟨b + 1, by omega, by simp [Le, find]; omega, by omega, p0, p4⟩
end Go.Proofs.Tst
/-
  From a contract to a row: what a law's call leaves; how arguments are read.
-/
namespace Go.Vc
open Go Go.RowKit Go.ChangeShapes Go.WideShapes Go.ChangeAt Go.Deep
section
variable {H : Type} {enc : TypeId × Value → H} {P : Program}
theorem trodAll_below (hl : laidOutB P = true) {W W' : World} (hb : Below W.heap.size W W') : ∀ {ts : List TypeId} {vs : List Value} {ds : List (DataW H)} {ps : List MemPlace},
    ts.all (fun t => P.readableRec t && decide (t < P.types.size)) = true → DataW.TrodAll enc P W 0 (fun _ => true) true ts vs ds ps → DataW.TrodAll enc P W' 0 (fun b => decide (b < W.heap.size)) true ts vs ds ps
  | [], _, _, _, _, h => by
    obtain ⟨rfl, rfl, rfl⟩ := trodAll_nil h
    exact rfl
  | t :: ts, _, _, _, hr, h => by
    have hlt := h.lt
    obtain ⟨v, vs, d, ds, p, q, rfl, rfl, rfl, h1, h2⟩ := trodAll_cons h
    simp only [List.all_cons, Bool.and_eq_true, decide_eq_true_eq] at hr
    exact ⟨p, q, Below.trod hl hr.1.1 hr.1.2 h1 hb (fun x hx => hlt x (List.mem_append_left _ hx)), trodAll_below hl hb hr.2 h2, rfl⟩

/-- What a law that answers true leaves. -/
theorem law_post {f : Func} {s : ChangeSpec} {W W' : World} {args : Array Value} {ds gs : List (DataW H)} {before : List MemPlace} {tb : TypeId}
    (hl : laidOutB P = true) (hp : f.params.toList.all (fun t => P.readableRec t && decide (t < P.types.size)) = true) (hv : s.vars = [])
    (hrt : f.resultTypes = #[tb]) (htb : P.underlying tb = some .bool) (hW : DataW.Whole enc P f.params.toList s.vars false W args.toList ds gs before)
    (hb : Below W.heap.size W W') (hfn : s.fn H (ds ++ gs) = { results := [.lit (.bool true)], args := ds }) : s.post enc P f false true false false W args (.bool true) W' := by
  have hW0 := hW
  obtain ⟨p, q, hA, hV, rfl, hz, hn⟩ := hW0
  rw [hv] at hV
  obtain ⟨rfl, rfl⟩ := trodVars_none hV
  refine ⟨ds, [], _, [], p, [], hW, ?_, ?_, ?_, ?_, fun h => by cases h⟩
  · rw [hfn, hrt]; exact trodAll_cons_mk (shut_bool htb true) trodAll_mk0
  · rw [hfn]; exact trodAll_below hl hb hp hA
  · rw [hfn, hv]; exact rfl
  · refine World.keptBut_mono (fun p hp => ⟨hp, ?_⟩) (hb.frame (· ∈ p ++ []))
    rw [List.append_nil] at hp
    exact .inr (.inl hp)

/-- The heap's part of a call that keeps all that was. -/
theorem below_of {w w' : World} (hf : Fr 0 0 w.heap w'.heap) (hl : Like none w w') : Below w.heap.size w w' :=
  ⟨hl.os, hl.tape, hl.output, hl.size, fun k hk => hf.old k hk (.inr (Nat.zero_le _))⟩

/-! ### Arguments -/
theorem cell?_plain {w : World} {a : Addr} {v : Value} (h : w.cell? a = some v) : a.spot = none := by
  unfold World.cell? at h
  split at h
  · split at h
    · cases h
    · rename_i hs; simpa using hs
  · cases h
theorem addr_plain {a : Addr} (h : a.spot = none) : a = ⟨a.block, a.off, none⟩ := by cases a; simp_all
theorem cell?_add {w : World} {a : Addr} (ha : a.spot = none) (j : Nat) : w.cell? (a.add j) = hcell w.heap a.block (a.off + j) := by
  rw [← cell?_heap]
  unfold Addr.add
  split
  · rename_i h; subst h; rw [Nat.add_zero, ← addr_plain ha]
  · rw [← ha]
theorem rd_of {w : World} {s n c : Nat} {a : Addr} {xs : List Value} (hs : 0 < s) (hl : xs.length = n * s) (hc : ∀ j, j < n * s → ∃ v, xs[j]? = some v ∧ w.cell? (a.add j) = some v) : Rd s w.heap (.slice (some a) n c) n xs := by
  refine ⟨hl, _, _, rfl, ?_⟩
  rcases Nat.eq_zero_or_pos n with h0 | h0
  · exact .inl h0
  · have hp : 0 < n * s := Nat.mul_pos h0 hs
    obtain ⟨v, _, hv⟩ := hc 0 hp
    have ha : a.spot = none := cell?_plain (w := w) (a := a) (by simpa [Addr.add] using hv)
    refine .inr ⟨a.block, a.off, by rw [← addr_plain ha], fun j x hj => ?_⟩
    obtain ⟨v, h1, h2⟩ := hc j (by have := (List.getElem?_eq_some_iff.1 hj).1; omega)
    rw [hj] at h1; cases h1
    rw [← cell?_add ha]; exact h2
variable {w : World} {base : Nat} {held : Bool}
end
end Go.Vc
/-
  A graph that came in.
-/
namespace Go.Proofs.Tst
open Go Go.Vc Go.RowKit Go.ChangeShapes Go.WideShapes Go.ChangeAt Go.Deep
section
variable {H : Type} {enc : TypeId × Value → H} {P : Program}
theorem weightsAll_mem {e : TypeId} {y : Nat} {d : DataW H} : ∀ {ds : List (DataW H)}, d ∈ ds → y ∈ d.weights P e → y ∈ DataW.weightsAll P e ds
  | [], h, _ => by simp at h
  | x :: r, h, hy => by
    rw [DataW.weightsAll, List.mem_append]
    rcases List.mem_cons.1 h with rfl | h
    · exact .inl hy
    · exact .inr (weightsAll_mem h hy)
theorem weightsEach_mem {y : Nat} {d : DataW H} {t : TypeId} : ∀ {k : Nat} {ts : List TypeId} {ds : List (DataW H)}, ts[k]? = some t → ds[k]? = some d → y ∈ d.weights P t → y ∈ DataW.weightsEach P ts ds
  | _, [], _, h, _, _ => by simp at h
  | _, _ :: _, [], _, h, _ => by simp at h
  | 0, _ :: _, _ :: _, h1, h2, hy => by
    simp at h1 h2; subst h1; subst h2
    rw [DataW.weightsEach, List.mem_append]; exact .inl hy
  | k + 1, _ :: _, _ :: _, h1, h2, hy => by
    rw [DataW.weightsEach, List.mem_append]
    exact .inr (weightsEach_mem (by simpa using h1) (by simpa using h2) hy)
variable {w : World} {base : Nat} {held : Bool}
theorem read_pairs {t e : TypeId} {f0 f1 : Field} {v : Value} {fuel : Nat} {x : DataW H × List MemPlace} (ht : P.underlying t = some (.slice e)) (he : P.underlying e = some (.struct #[f0, f1])) (ce : P.cellsOf e = 2) (hby : P.bytesOf e = 16)
    (o0 : f0.offset = 0) (o1 : f1.offset = 1) (c0 : P.cellsOf f0.type = 1) (c1 : P.cellsOf f1.type = 1) (u0 : P.underlying f0.type = some (.int .i64)) (u1 : P.underlying f1.type = some (.int .i64))
    (hf : DataW.trod enc P w base (fun _ => true) held fuel t [v] = some x) (hw : ∀ y ∈ x.1.weights P t, y ≤ reachBytes) :
    ∃ l : List (Int × Int), Rd 2 w.heap v l.length (pairsV l) ∧ l.length ≤ 8796093022208 := by
  rcases open_slice_pairs ht he ce o0 o1 c0 c1 hf with ⟨h1, h2⟩ | ⟨a', len, cap, m, k, V0, V1, D0, D1, P0, P1, h1, _, hlc, _, hm, rfl, hcell⟩
  · cases h1
    exact ⟨[], ⟨rfl, _, _, rfl, .inl rfl⟩, by simp⟩
  · cases h1
    simp only [if_true] at hm
    subst hm
    have hwt := hw _ (by simp only [DataW.weights, ht]; exact List.mem_cons_self ..)
    simp only [List.length_map, List.length_range, hby] at hwt
    unfold reachBytes at hwt
    obtain ⟨Z, hZ⟩ := choose_lt (α := Int × Int) (n := m) (p := fun i z => V0 i = .int .i64 z.1 ∧ V1 i = .int .i64 z.2) (fun i hi => by
      obtain ⟨_, _, g1, g2⟩ := hcell i hi
      obtain ⟨x, hx, _, hxw⟩ := DataW.trod_int u0 g1
      obtain ⟨y, hy, _, hyw⟩ := DataW.trod_int u1 g2
      exact ⟨(x, y), by simpa using hx, by simpa using hy⟩)
    have hl : ((List.range len).map Z).length = len := by simp
    refine ⟨(List.range len).map Z, ?_, by rw [hl]; omega⟩
    rw [hl]
    refine rd_of (by omega) (by simp) fun j hj => ?_
    obtain ⟨i, hij⟩ : ∃ i, j = i * 2 ∨ j = i * 2 + 1 := ⟨j / 2, by omega⟩
    have hi : i < len := by omega
    have hg : ((List.range len).map Z)[i]? = some (Z i) := by simp [hi]
    obtain ⟨g1, g2⟩ := pairsV_get _ _ _ hg
    obtain ⟨h3, h4, _, _⟩ := hcell i (by omega)
    obtain ⟨h5, h6⟩ := hZ i (by omega)
    rcases hij with rfl | rfl
    · exact ⟨_, g1, by rw [h3, h5]⟩
    · exact ⟨_, g2, by rw [h4, h6]⟩
theorem read_ints {t e : TypeId} {v : Value} {fuel : Nat} {x : DataW H × List MemPlace} (ht : P.underlying t = some (.slice e)) (he : P.underlying e = some (.int .i64)) (hc : P.cellsOf e = 1) (hby : P.bytesOf e = 8)
    (hf : DataW.trod enc P w base (fun _ => true) held fuel t [v] = some x) (hw : ∀ y ∈ x.1.weights P t, y ≤ reachBytes) :
    ∃ (l : List Int) (a : Option Addr) (c : Nat), v = .slice a l.length c ∧ l.length ≤ c ∧ Rd 1 w.heap (.slice a l.length c) l.length (intsV l) ∧ l.length ≤ 17592186044416 := by
  rcases open_ints ht he hc hf with ⟨h1, h2⟩ | ⟨a', len, cap, zs, h1, _, hlc, _, hz, rfl, hcell, hwf⟩
  · cases h1
    exact ⟨[], none, 0, rfl, Nat.le_refl _, ⟨rfl, _, _, rfl, .inl rfl⟩, by simp⟩
  · cases h1
    simp only [if_true] at hz
    have hwt := hw _ (by simp only [DataW.weights, ht]; exact List.mem_cons_self ..)
    simp only [lits, List.length_map, List.length_take, List.length_drop, hby] at hwt
    unfold reachBytes at hwt
    have hl : (zs.take len).length = len := by simp; omega
    refine ⟨zs.take len, some a', cap, by rw [hl], by rw [hl]; exact hlc, ?_, by rw [hl]; omega⟩
    rw [hl]
    refine rd_of (by omega) (by simp; omega) fun j hj => ?_
    have hj : j < zs.length := by omega
    refine ⟨.int .i64 (zs.getD j 0), ?_, hcell j hj⟩
    have : (zs.take len)[j]? = some (zs.getD j 0) := by
      rw [List.getElem?_take_of_lt (by omega)]; simp [hj]
    exact intsV_get this
theorem read_lists {t e i : TypeId} {v : Value} {fuel : Nat} {x : DataW H × List MemPlace} (ht : P.underlying t = some (.slice e)) (he : P.underlying e = some (.slice i)) (hi : P.underlying i = some (.int .i64)) (ce : P.cellsOf e = 1) (be : P.bytesOf e = 24) (ci : P.cellsOf i = 1) (bi : P.bytesOf i = 8)
    (hf : DataW.trod enc P w base (fun _ => true) held fuel t [v] = some x) (hw : ∀ y ∈ x.1.weights P t, y ≤ reachBytes) :
    ∃ (L : List (List Int)) (a : Option Addr) (c : Nat), v = .slice a L.length c ∧ L.length ≤ c ∧ RL w.heap (.slice a L.length c) (L.map intsV) ∧ RLc w.heap (.slice a L.length c) (L.map intsV) ∧ L.length ≤ 5864062014805 ∧ ∀ l ∈ L, l.length ≤ 17592186044416 := by
  rcases open_slice ht hf with ⟨h1, h2⟩ | ⟨a', len, cap, m, k, D, Pl, h1, _, hlc, _, hm, rfl, hcell⟩
  · cases h1
    exact ⟨[], none, 0, rfl, Nat.le_refl _, ⟨[], ⟨rfl, _, _, rfl, .inl rfl⟩, by simp⟩, ⟨[], ⟨rfl, _, _, rfl, .inl rfl⟩, by simp⟩, by simp, by simp⟩
  · cases h1
    simp only [if_true] at hm
    subst hm
    have hwt := hw _ (by simp only [DataW.weights, ht]; exact List.mem_cons_self ..)
    simp only [List.length_map, List.length_range, be] at hwt
    unfold reachBytes at hwt
    obtain ⟨Z, hZ⟩ := choose_lt (α := Value × List Int) (n := len) (p := fun i z => w.cell? (a'.add (i * 1)) = some z.1 ∧ (∃ a c, z.1 = .slice a z.2.length c ∧ z.2.length ≤ c ∧ Rd 1 w.heap (.slice a z.2.length c) z.2.length (intsV z.2)) ∧ z.2.length ≤ 17592186044416) (fun i hil => by
      obtain ⟨cs, hc1, hc2⟩ := hcell i (by omega)
      rw [ce] at hc1
      obtain ⟨_, hlen, hcs⟩ := World.cells?_some hc1
      have hDi : D i ∈ (List.range len).map D := List.mem_map.2 ⟨i, List.mem_range.2 hil, rfl⟩
      have hwD : ∀ y ∈ (D i).weights P e, y ≤ reachBytes := fun y hy => hw y (by
        simp only [DataW.weights, ht]
        exact List.mem_cons_of_mem _ (List.mem_append_left _ (weightsAll_mem hDi hy)))
      match cs, hlen with
      | [u], _ =>
        obtain ⟨l, a, c, h1, h2, h3, h4⟩ := read_ints he hi ci bi hc2 hwD
        have h0 := hcs 0 (by omega)
        refine ⟨(u, l), ?_, ⟨a, c, h1, h2, h3⟩, h4⟩
        rw [add_add] at h0
        simpa using h0)
    have hl : ((List.range len).map fun i => (Z i).2).length = len := by simp
    have hus : Rd 1 w.heap (.slice (some a') len m) len ((List.range len).map fun i => (Z i).1) := by
      refine rd_of (by omega) (by simp) fun j hj => ?_
      have hj' : j < len := by omega
      refine ⟨(Z j).1, by simp [hj'], ?_⟩
      have := (hZ j hj').1
      rwa [Nat.mul_one] at this
    have get : ∀ (i : Nat) (l : List Value), (((List.range len).map fun i => (Z i).2).map intsV)[i]? = some l → i < len ∧ l = intsV (Z i).2 := fun i l h => by
      have hil : i < len := by
        have := (List.getElem?_eq_some_iff.1 h).1
        simpa using this
      refine ⟨hil, ?_⟩
      simp [hil] at h
      exact h.symm
    refine ⟨(List.range len).map fun i => (Z i).2, some a', m, by rw [hl], by rw [hl]; exact hlc, ⟨(List.range len).map fun i => (Z i).1, ?_, fun i l h => ?_⟩, ⟨(List.range len).map fun i => (Z i).1, ?_, fun i l h => ?_⟩, by rw [hl]; omega, fun l hm => ?_⟩
    · simpa using hus
    · obtain ⟨hil, rfl⟩ := get i l h
      obtain ⟨-, ⟨a, c, h1, h2, h3⟩, -⟩ := hZ i hil
      exact ⟨_, by simp [hil]; rfl, by rw [h1, length_intsV]; exact h3⟩
    · simpa using hus
    · obtain ⟨hil, rfl⟩ := get i l h
      obtain ⟨-, ⟨a, c, h1, h2, h3⟩, -⟩ := hZ i hil
      exact ⟨a, c, by simp [hil, h1], by rw [length_intsV]; exact h2, by rw [length_intsV]; exact h3⟩
    · obtain ⟨i, hi, rfl⟩ := List.mem_map.1 hm
      exact (hZ i (List.mem_range.1 hi)).2.2
theorem read_events {t e ti tu : TypeId} {f0 f1 f2 f3 f4 : Field} {v : Value} {fuel : Nat} {x : DataW H × List MemPlace} (ht : P.underlying t = some (.slice e)) (he : P.underlying e = some (.struct #[f0, f1, f2, f3, f4])) (ce : P.cellsOf e = 5) (hby : P.bytesOf e = 40)
    (hO : f0.offset = 0 ∧ f1.offset = 1 ∧ f2.offset = 2 ∧ f3.offset = 3 ∧ f4.offset = 4) (hT : f0.type = ti ∧ f1.type = ti ∧ f2.type = ti ∧ f3.type = tu ∧ f4.type = ti) (ci : P.cellsOf ti = 1) (cu : P.cellsOf tu = 1) (ui : P.underlying ti = some (.int .i64)) (uu : P.underlying tu = some (.int .u64))
    (hf : DataW.trod enc P w base (fun _ => true) held fuel t [v] = some x) (hw : ∀ y ∈ x.1.weights P t, y ≤ reachBytes) :
    ∃ (l : List Ev), Rd 5 w.heap v l.length (evsV l) ∧ l.length ≤ 3518437208883 := by
  rcases open_slice ht hf with ⟨h1, h2⟩ | ⟨a', len, cap, m, k, D, Pl, h1, _, hlc, _, hm, rfl, hcell⟩
  · cases h1
    exact ⟨[], ⟨rfl, _, _, rfl, .inl rfl⟩, by simp⟩
  · cases h1
    simp only [if_true] at hm
    subst hm
    have hwt := hw _ (by simp only [DataW.weights, ht]; exact List.mem_cons_self ..)
    simp only [List.length_map, List.length_range, hby] at hwt
    unfold reachBytes at hwt
    obtain ⟨o0, o1, o2, o3, o4⟩ := hO
    obtain ⟨t0, t1, t2, t3, t4⟩ := hT
    obtain ⟨Z, hZ⟩ := choose_lt (α := Ev) (n := len) (p := fun i z => ∀ j, j < 5 → ∃ v, z.cells[j]? = some v ∧ w.cell? (a'.add (i * 5 + j)) = some v) (fun i hi => by
      obtain ⟨cs, hc1, hc2⟩ := hcell i (by omega)
      rw [ce] at hc1
      obtain ⟨_, hlen, hcs⟩ := World.cells?_some hc1
      obtain ⟨xs, k', hk, hxy, _, hxl, hfld⟩ := DataW.trod_struct he hc2
      match xs, hxl, cs, hlen with
      | [y0, y1, y2, y3, y4], _, [v0, v1, v2, v3, v4], _ =>
        have q0 := hfld 0 f0 rfl
        have q1 := hfld 1 f1 rfl
        have q2 := hfld 2 f2 rfl
        have q3 := hfld 3 f3 rfl
        have q4 := hfld 4 f4 rfl
        simp [o0, o1, o2, o3, o4, t0, t1, t2, t3, t4, ci, cu] at q0 q1 q2 q3 q4
        obtain ⟨x0, e0, -, -⟩ := DataW.trod_int ui q0
        obtain ⟨x1, e1, -, -⟩ := DataW.trod_int ui q1
        obtain ⟨x2, e2, -, -⟩ := DataW.trod_int ui q2
        obtain ⟨x3, e3, -, -⟩ := DataW.trod_int uu q3
        obtain ⟨x4, e4, -, -⟩ := DataW.trod_int ui q4
        simp at e0 e1 e2 e3 e4
        refine ⟨⟨x0, x1, x2, x3, x4⟩, fun j hj => ?_⟩
        have hj' := hcs j hj
        rw [add_add] at hj'
        have hcl : (Ev.cells ⟨x0, x1, x2, x3, x4⟩) = [v0, v1, v2, v3, v4] := by simp [Ev.cells, e0, e1, e2, e3, e4]
        rw [hcl]
        have hjl : j < [v0, v1, v2, v3, v4].length := hj
        exact ⟨_, List.getElem?_eq_getElem hjl, by rw [hj']; exact List.getElem?_eq_getElem hjl⟩)
    have hl : ((List.range len).map Z).length = len := by simp
    refine ⟨(List.range len).map Z, ?_, by rw [hl]; omega⟩
    rw [hl]
    refine rd_of (by omega) (by rw [length_evsV, hl]) fun j hj => ?_
    have hi : j / 5 < len := by omega
    have hg : ((List.range len).map Z)[j / 5]? = some (Z (j / 5)) := by simp [hi]
    obtain ⟨v, h3, h4⟩ := hZ (j / 5) hi (j % 5) (by omega)
    have hrow := evsV_get hg (j % 5) (by omega)
    rw [show j / 5 * 5 + j % 5 = j from by omega] at hrow h4
    exact ⟨v, by rw [hrow]; exact h3, h4⟩
/-- **A graph that came in.** -/
theorem arg_graph {r : Reach} {b0 : Nat} {t te tes tps tp tll tl ti tu : TypeId} {f0 f1 f2 f3 f4 f5 f6 f7 e0 e1 e2 e3 e4 g0 g1 : Field} {v : Value} {d : DataW H} {ps : List MemPlace} (ht : P.underlying t = some (.struct #[f0, f1, f2, f3, f4, f5, f6, f7])) (ct : P.cellsOf t = 8)
    (hO : f0.offset = 0 ∧ f1.offset = 1 ∧ f2.offset = 2 ∧ f3.offset = 3 ∧ f4.offset = 4 ∧ f5.offset = 5 ∧ f6.offset = 6 ∧ f7.offset = 7) (hT : f0.type = ti ∧ f1.type = tes ∧ f2.type = tps ∧ f3.type = tll ∧ f4.type = tps ∧ f5.type = tps ∧ f6.type = tps ∧ f7.type = tps)
    (ues : P.underlying tes = some (.slice te)) (ue : P.underlying te = some (.struct #[e0, e1, e2, e3, e4])) (ce : P.cellsOf te = 5) (be : P.bytesOf te = 40) (hEO : e0.offset = 0 ∧ e1.offset = 1 ∧ e2.offset = 2 ∧ e3.offset = 3 ∧ e4.offset = 4) (hET : e0.type = ti ∧ e1.type = ti ∧ e2.type = ti ∧ e3.type = tu ∧ e4.type = ti)
    (ups : P.underlying tps = some (.slice tp)) (up : P.underlying tp = some (.struct #[g0, g1])) (cp : P.cellsOf tp = 2) (bp : P.bytesOf tp = 16) (hPO : g0.offset = 0 ∧ g1.offset = 1 ∧ g0.type = ti ∧ g1.type = ti)
    (ull : P.underlying tll = some (.slice tl)) (ul : P.underlying tl = some (.slice ti)) (cl : P.cellsOf tl = 1) (bl : P.bytesOf tl = 24) (ui : P.underlying ti = some (.int .i64)) (ci : P.cellsOf ti = 1) (bi : P.bytesOf ti = 8) (uu : P.underlying tu = some (.int .u64)) (cu : P.cellsOf tu = 1)
    (ces : P.cellsOf tes = 1) (cps : P.cellsOf tps = 1) (cll : P.cellsOf tll = 1)
    (hval : Value.okWide P w r b0 t v) (hd : DataW.Trod enc P w base (fun _ => true) held t v d ps) (hw : ∀ x ∈ d.weights P t, x ≤ reachBytes) :
    ∃ (q : GV) (g : Gr), v = .agg (gcells q g).toArray ∧ GrAt w.heap q g := by
  obtain ⟨cs, rfl, hcs⟩ := okWide_struct ht hval
  obtain ⟨fuel, hf⟩ := hd
  have hf : DataW.trod enc P w base (fun _ => true) held fuel t cs.toList = some (d, ps) := hf
  obtain ⟨xs, k, hk, hx, hl, hxl, hfld⟩ := DataW.trod_struct ht hf
  simp only [Prod.mk.injEq] at hx
  obtain ⟨hD, -⟩ := hx
  obtain ⟨o0, o1, o2, o3, o4, o5, o6, o7⟩ := hO
  obtain ⟨t0, t1, t2, t3, t4, t5, t6, t7⟩ := hT
  obtain ⟨go0, go1, gt0, gt1⟩ := hPO
  rw [ct] at hl
  obtain ⟨cl'⟩ := cs
  match xs, hxl, cl', hl with
  | [y0, y1, y2, y3, y4, y5, y6, y7], _, [v0, v1, v2, v3, v4, v5, v6, v7], _ =>
    have q0 := hfld 0 f0 rfl
    have q1 := hfld 1 f1 rfl
    have q2 := hfld 2 f2 rfl
    have q3 := hfld 3 f3 rfl
    have q4 := hfld 4 f4 rfl
    have q5 := hfld 5 f5 rfl
    have q6 := hfld 6 f6 rfl
    have q7 := hfld 7 f7 rfl
    simp [o0, o1, o2, o3, o4, o5, o6, o7, t0, t1, t2, t3, t4, t5, t6, t7, ci, ces, cps, cll] at q0 q1 q2 q3 q4 q5 q6 q7
    simp only [List.map_cons, List.map_nil] at hD
    have wt : ∀ (j : Nat) (tj : TypeId) (y : DataW H), ([ti, tes, tps, tll, tps, tps, tps, tps] : List TypeId)[j]? = some tj → ([y0.1, y1.1, y2.1, y3.1, y4.1, y5.1, y6.1, y7.1] : List (DataW H))[j]? = some y → ∀ z ∈ y.weights P tj, z ≤ reachBytes := fun j tj y h1 h2 z hz => hw z (by
      rw [hD]; simp only [DataW.weights, ht]
      refine weightsEach_mem (k := j) (t := tj) (d := y) ?_ h2 hz
      simpa [t0, t1, t2, t3, t4, t5, t6, t7] using h1)
    obtain ⟨x0, e0', -, -⟩ := DataW.trod_int ui q0
    simp at e0'
    subst e0'
    obtain ⟨le, re, be'⟩ := read_events ues ue ce be hEO hET ci cu ui uu q1 (wt 1 _ _ rfl rfl)
    have rp := fun (v : Value) (y : DataW H × List MemPlace) (q : DataW.trod enc P w base (fun _ => true) held k tps [v] = some y) (hy : ∀ z ∈ y.1.weights P tps, z ≤ reachBytes) => read_pairs ups up cp bp go0 go1 (by rw [gt0]; exact ci) (by rw [gt1]; exact ci) (by rw [gt0]; exact ui) (by rw [gt1]; exact ui) q hy
    obtain ⟨lf, rf, bf⟩ := rp _ _ q2 (wt 2 _ _ rfl rfl)
    obtain ⟨L, la, lc, rfl, hLc, rL, rLc, bL, bl'⟩ := read_lists ull ul ui cl bl ci bi q3 (wt 3 _ _ rfl rfl)
    obtain ⟨lr, rr, br⟩ := rp _ _ q4 (wt 4 _ _ rfl rfl)
    obtain ⟨lad, ra, ba⟩ := rp _ _ q5 (wt 5 _ _ rfl rfl)
    obtain ⟨ld, rd', bd⟩ := rp _ _ q6 (wt 6 _ _ rfl rfl)
    obtain ⟨lct, rc, bc⟩ := rp _ _ q7 (wt 7 _ _ rfl rfl)
    obtain ⟨ea, ec, rfl⟩ := re.is
    obtain ⟨fa, fc, rfl⟩ := rf.is
    obtain ⟨ra', rc', rfl⟩ := rr.is
    obtain ⟨aa, ac, rfl⟩ := ra.is
    obtain ⟨da, dc, rfl⟩ := rd'.is
    obtain ⟨ca, cc, rfl⟩ := rc.is
    exact ⟨⟨ea, fa, la, ra', aa, da, ca, ec, fc, lc, rc', ac, dc, cc⟩, ⟨x0, le, lf, L, lr, lad, ld, lct⟩, rfl, ⟨re, rf, rL, rr, ra, rd', rc, ⟨be', bf, bL, br, ba, bd, bc, bl'⟩, hLc, rLc⟩⟩
end
end Go.Proofs.Tst
/-
  ArmLaws and its arguments.
-/
namespace Go.Proofs.Tst
end Go.Proofs.Tst
