/-
  Contracts of functions that the law reaches: what each returns and what it leaves in memory. Conditions stand in each.
-/
import Derived.Test.YtgedofjefepebaaDoorT2
set_option linter.all false
set_option maxRecDepth 2000
namespace Go.Proofs.Tst
open Go Go.Vc
set_option maxHeartbeats 800000 in
theorem rel_Comp {n m : Nat} {M N : Nat → Nat → Bool} {p q : Value} {lo hi lo' hi' : Nat} {h : Heap} (hr : ProgAt h lo hi p n M) (hs : ProgAt h lo' hi' q m N) (ht : TabAt h) :
    Con Tryd.prog 37 #[p, q] h fun v h' => Fr 0 0 h h' ∧ ProgAt h' h.size h'.size v (max n m) (compM n M m N) := by
  refine con_rel_Comp (fun v h1 h2 x ⟨f, o⟩ => ⟨x.fr f (Nat.le_refl _), (o.ext x).mono (Nat.le_refl _) x.size⟩) ?_
  obtain ⟨hn, pb, rb, R, W, rfl, t⟩ := hr
  obtain ⟨hm, pb', rb', R', W', rfl, t'⟩ := hs
  have hmx : (if (m : Int) > (n : Int) then (m : Int) else (n : Int)) = ((max n m : Nat) : Int) := by split <;> omega
  have hcl : clampN (max n m : Nat) = max n m := by unfold clampN; omega
  have p0 : Fr 0 0 h h := .refl _ _ _
  simp -dsimp only [go_sem, ↓reduceIte, reduceCtorEq, Nat.reduceEqDiff, Nat.reduceAdd, Nat.reduceLeDiff, Nat.reduceMul, Int.reduceBEq, Int.reduceBNe, Int.reduceLT, Int.reduceLE, Int.reduceGT, Int.reduceGE]
  intro b1 h1 n1
  have n1_a := n1.at_
  have n1_z := n1.size
  replace p0 := p0.fresh (n1.fr (lo := 0) (hi := 0)) (by omega)
  have r1 := n1.row
  have tp := t.fr p0 (by omega)
  have tq := t'.fr p0 (by omega)
  simp -dsimp only [go_sem, ↓reduceIte, reduceCtorEq, Nat.reduceEqDiff, Nat.reduceAdd, Nat.reduceLeDiff, Nat.reduceMul, Int.reduceBEq, Int.reduceBNe, Int.reduceLT, Int.reduceLE, Int.reduceGT, Int.reduceGE, tp.ptr.cell, tq.ptr.cell, r1.cell]
  rw [hmx]
  refine rvc_joint (fun b2 : Nat => [(0, .pointer (some ⟨pb, 0, none⟩)), (3, .pointer (some ⟨b1, 0, none⟩)), (4, .pointer none), (5, .pointer (some ⟨b2, 0, none⟩))])
    (fun b2 h' => Fr 0 0 h h' ∧ Rw h' b1 [.pointer (some ⟨pb', 0, none⟩)] ∧ b1 < b2 ∧ ∃ pb1 rb1 R1 W1 lo1 hi1, h1.size ≤ lo1 ∧ hi1 ≤ h'.size ∧ (b2 < lo1 ∨ hi1 ≤ b2) ∧ Rw h' b2 [.pointer (some ⟨pb1, 0, none⟩)] ∧ PTab h' lo1 hi1 pb1 rb1 (max n m) R1 W1 fun _ _ => false) ?_ ?_
  · simp -dsimp only [go_sem, ↓reduceIte, reduceCtorEq, Nat.reduceEqDiff, Nat.reduceAdd, Nat.reduceLeDiff, Nat.reduceMul, Int.reduceBEq, Int.reduceBNe, Int.reduceLT, Int.reduceLE, Int.reduceGT, Int.reduceGE, r_two, r1.cell]
    refine ⟨?_, ?_⟩
    · refine call_of (rel_New _ h1) ?_
      rintro v h2 ⟨f2, t2⟩
      rw [hcl] at t2
      obtain ⟨-, pb1, rb1, R1, W1, rfl, t2⟩ := t2
      have f2_z := f2.size
      replace p0 := p0.fresh f2 (by omega)
      replace r1 := r1.fr f2 (by omega)
      have tp := t.fr p0 (by omega)
      have tq := t'.fr p0 (by omega)
      simp -dsimp only [go_sem, ↓reduceIte, reduceCtorEq, Nat.reduceEqDiff, Nat.reduceAdd, Nat.reduceLeDiff, Nat.reduceMul, Int.reduceBEq, Int.reduceBNe, Int.reduceLT, Int.reduceLE, Int.reduceGT, Int.reduceGE, tp.ptr.cell, tq.ptr.cell, r1.cell]
      intro b3 h3 n3
      have n3_a := n3.at_
      have n3_z := n3.size
      replace p0 := p0.fresh (n3.fr (lo := 0) (hi := 0)) (by omega)
      replace r1 := r1.fr (n3.fr (lo := 0) (hi := 0)) (by omega)
      replace t2 := t2.fr (n3.fr (lo := 0) (hi := 0)) (by omega)
      have r3 := n3.row
      simp -dsimp only [go_sem, ↓reduceIte, reduceCtorEq, Nat.reduceEqDiff, Nat.reduceAdd, Nat.reduceLeDiff, Nat.reduceMul, Int.reduceBEq, Int.reduceBNe, Int.reduceLT, Int.reduceLE, Int.reduceGT, Int.reduceGE, r1.cell, r3.cell]
      refine Chk_intro (r3.wr (by first | (simp; done) | (simp; omega))) fun h4 s4 => ?_
      have s4_z := s4.size
      replace p0 := p0.fresh s4.fr (by omega)
      replace r1 := r1.fr s4.fr (by omega)
      replace t2 := t2.fr s4.fr (by omega)
      replace r3 := s4.row r3
      try simp only [cl_int, cl_bool, cl_slice, cl_ptr, putAt_one, List.set_cons_zero, List.set_cons_succ, ivec_set, brow_upd] at r3
      simp -dsimp only [go_sem, ↓reduceIte, reduceCtorEq, Nat.reduceEqDiff, Nat.reduceAdd, Nat.reduceLeDiff, Nat.reduceMul, Int.reduceBEq, Int.reduceBNe, Int.reduceLT, Int.reduceLE, Int.reduceGT, Int.reduceGE, r1.cell, r3.cell]
      exact ⟨b3, by simp [Le, find], p0, r1, by omega, _, _, _, _, _, _, Nat.le_refl _, by omega, .inr (by omega), r3, t2⟩
    · intro b3 h3 n3
      have n3_a := n3.at_
      have n3_z := n3.size
      replace p0 := p0.fresh (n3.fr (lo := 0) (hi := 0)) (by omega)
      replace r1 := r1.fr (n3.fr (lo := 0) (hi := 0)) (by omega)
      have r3 := n3.row
      simp -dsimp only [go_sem, ↓reduceIte, reduceCtorEq, Nat.reduceEqDiff, Nat.reduceAdd, Nat.reduceLeDiff, Nat.reduceMul, Int.reduceBEq, Int.reduceBNe, Int.reduceLT, Int.reduceLE, Int.reduceGT, Int.reduceGE, r1.cell, r3.cell]
      refine call_of (rel_New _ h3) ?_
      rintro v h2 ⟨f2, t2⟩
      rw [hcl] at t2
      obtain ⟨-, pb1, rb1, R1, W1, rfl, t2⟩ := t2
      have f2_z := f2.size
      replace p0 := p0.fresh f2 (by omega)
      replace r1 := r1.fr f2 (by omega)
      replace r3 := r3.fr f2 (by omega)
      have tp := t.fr p0 (by omega)
      have tq := t'.fr p0 (by omega)
      simp -dsimp only [go_sem, ↓reduceIte, reduceCtorEq, Nat.reduceEqDiff, Nat.reduceAdd, Nat.reduceLeDiff, Nat.reduceMul, Int.reduceBEq, Int.reduceBNe, Int.reduceLT, Int.reduceLE, Int.reduceGT, Int.reduceGE, tp.ptr.cell, tq.ptr.cell, r1.cell, r3.cell]
      refine Chk_intro (r3.wr (by first | (simp; done) | (simp; omega))) fun h4 s4 => ?_
      have s4_z := s4.size
      replace p0 := p0.fresh s4.fr (by omega)
      replace r1 := r1.fr s4.fr (by omega)
      replace t2 := t2.fr s4.fr (by omega)
      replace r3 := s4.row r3
      try simp only [cl_int, cl_bool, cl_slice, cl_ptr, putAt_one, List.set_cons_zero, List.set_cons_succ, ivec_set, brow_upd] at r3
      simp -dsimp only [go_sem, ↓reduceIte, reduceCtorEq, Nat.reduceEqDiff, Nat.reduceAdd, Nat.reduceLeDiff, Nat.reduceMul, Int.reduceBEq, Int.reduceBNe, Int.reduceLT, Int.reduceLE, Int.reduceGT, Int.reduceGE, r1.cell, r3.cell]
      exact ⟨b3, by simp [Le, find], p0, r1, by omega, _, _, _, _, h3.size, h2.size, by omega, by omega, .inl (by omega), r3, t2⟩
  rintro b2 h2 ⟨p0, r1, hb12, pb1, rb1, R1, W1, lo1, hi1, hlo, hhi, hb2, r2, t2⟩ e ⟨e0, e3, e4, e5, -⟩
  have p0_z := p0.size
  have r1_l := r1.lt
  have r2_l := r2.lt
  have at2 := t2.at_
  have tp := t.fr p0 (by omega)
  simp -dsimp only [go_sem, ↓reduceIte, reduceCtorEq, Nat.reduceEqDiff, Nat.reduceAdd, Nat.reduceLeDiff, Nat.reduceMul, Int.reduceBEq, Int.reduceBNe, Int.reduceLT, Int.reduceLE, Int.reduceGT, Int.reduceGE, e0, e3, e4, e5, tp.ptr.cell, r1.cell, r2.cell]
  refine loop_intro (fun a : Nat => [(3, .pointer (some ⟨b1, 0, none⟩)), (5, .pointer (some ⟨b2, 0, none⟩)), (22, .slice (some ⟨rb, 0, none⟩) n n), (23, .int .i64 n), (24, .int .i64 a)])
    (fun a h' => a ≤ n ∧ Fr 0 0 h h' ∧ h2.size ≤ h'.size ∧ Rw h' b1 [.pointer (some ⟨pb', 0, none⟩)] ∧ Rw h' b2 [.pointer (some ⟨pb1, 0, none⟩)] ∧ ∃ W, PTab h' lo1 hi1 pb1 rb1 (max n m) R1 W fun i j => decide (i < a) && compM n M m N i j) (fun a => n - a) 0 ?_ ?_ ?_
  · simp [Le, find]
  · exact ⟨by omega, p0, by omega, r1, r2, _, t2.congr fun i j _ _ => by simp⟩
  rintro a h4 ⟨ha, p0, y4, r1, r2, W4, t4⟩
  have p0_z := p0.size
  have r1_l := r1.lt
  have r2_l := r2.lt
  simp -dsimp only [go_sem, ↓reduceIte, reduceCtorEq, Nat.reduceEqDiff, Nat.reduceAdd, Nat.reduceLeDiff, Nat.reduceMul, Int.reduceBEq, Int.reduceBNe, Int.reduceLT, Int.reduceLE, Int.reduceGT, Int.reduceGE, r1.cell, r2.cell]
  refine ⟨fun hlt => ?_, fun hge => ?_⟩
  · have hlt : a < n := by omega
    simp -dsimp only [go_sem, ↓reduceIte, reduceCtorEq, Nat.reduceEqDiff, Nat.reduceAdd, Nat.reduceLeDiff, Nat.reduceMul, Int.reduceBEq, Int.reduceBNe, Int.reduceLT, Int.reduceLE, Int.reduceGT, Int.reduceGE, r1.cell, r2.cell]
    refine Chk_intro (by omega) ?_
    simp -dsimp only [go_sem, ↓reduceIte, reduceCtorEq, Nat.reduceEqDiff, Nat.reduceAdd, Nat.reduceLeDiff, Nat.reduceMul, Int.reduceBEq, Int.reduceBNe, Int.reduceLT, Int.reduceLE, Int.reduceGT, Int.reduceGE, (t.fr p0 (by omega)).rowsGet hlt, r1.cell, r2.cell]
    intro b5 h5 n5
    have n5_a := n5.at_
    have n5_z := n5.size
    replace p0 := p0.fresh (n5.fr (lo := 0) (hi := 0)) (by omega)
    replace r1 := r1.fr (n5.fr (lo := 0) (hi := 0)) (by omega)
    replace r2 := r2.fr (n5.fr (lo := 0) (hi := 0)) (by omega)
    replace t4 := t4.fr (n5.fr (lo := 0) (hi := 0)) (by omega)
    have r5 := n5.row
    simp -dsimp only [go_sem, ↓reduceIte, reduceCtorEq, Nat.reduceEqDiff, Nat.reduceAdd, Nat.reduceLeDiff, Nat.reduceMul, Int.reduceBEq, Int.reduceBNe, Int.reduceLT, Int.reduceLE, Int.reduceGT, Int.reduceGE, r1.cell, r2.cell, r5.cell]
    refine Chk_intro (r5.wr (by first | (simp; done) | (simp; omega))) fun h6 s6 => ?_
    have s6_z := s6.size
    replace p0 := p0.fresh s6.fr (by omega)
    replace r1 := r1.fr s6.fr (by omega)
    replace r2 := r2.fr s6.fr (by omega)
    replace t4 := t4.fr s6.fr (by omega)
    replace r5 := s6.row r5
    try simp only [cl_int, cl_bool, cl_slice, cl_ptr, putAt_one, List.set_cons_zero, List.set_cons_succ, ivec_set, brow_upd] at r5
    simp -dsimp only [go_sem, ↓reduceIte, reduceCtorEq, Nat.reduceEqDiff, Nat.reduceAdd, Nat.reduceLeDiff, Nat.reduceMul, Int.reduceBEq, Int.reduceBNe, Int.reduceLT, Int.reduceLE, Int.reduceGT, Int.reduceGE, r1.cell, r2.cell, r5.cell]
    refine call_of (rel_points _ _ _ h6) ?_
    rintro v h7 ⟨f7, rfl, c7, z7⟩
    have f7_z := f7.size
    replace p0 := p0.fresh f7 (by omega)
    replace r1 := r1.fr f7 (by omega)
    replace r2 := r2.fr f7 (by omega)
    replace t4 := t4.fr f7 (by omega)
    replace r5 := r5.fr f7 (by omega)
    simp -dsimp only [go_sem, ↓reduceIte, reduceCtorEq, Nat.reduceEqDiff, Nat.reduceAdd, Nat.reduceLeDiff, Nat.reduceMul, Int.reduceBEq, Int.reduceBNe, Int.reduceLT, Int.reduceLE, Int.reduceGT, Int.reduceGE, r1.cell, r2.cell, r5.cell]
    have hbits := (t.row a hlt).2.2.2.2.2
    refine ⟨rfl, points_intro rfl hbits hn ⟨c7, ptab_rd (t.fr p0 (by omega)) hlt, ht.fr p0 (by omega)⟩
      (fun d h' => Fr 0 0 h h' ∧ h7.size ≤ h'.size ∧ Rw h' b1 [.pointer (some ⟨pb', 0, none⟩)] ∧ Rw h' b2 [.pointer (some ⟨pb1, 0, none⟩)] ∧ Rw h' b5 [.int .i64 a] ∧ hcell h' h6.size 0 = some (.slice (some ⟨R a, 0, none⟩) (nw n) (nw n)) ∧
        ∃ W, PTab h' lo1 hi1 pb1 rb1 (max n m) R1 W fun i j => (decide (i < a) && compM n M m N i j) || (i == a && ((rest (M a) n 0).take d).any fun q => inN m N q j))
      (fun _ _ => False) ?_ ?_ ?_ ?_ ?_ ?_ ?_⟩
    · rintro d h' ⟨q0, -, -, -, -, q1, -⟩
      exact ⟨q1, ptab_rd (t.fr q0 (by omega)) hlt, ht.fr q0 (by omega)⟩
    · rintro d h8 h9 x ⟨q0, q1, q2, q3, q3', q4, W', q5⟩
      exact ⟨q0.ext x (by omega), Nat.le_trans q1 x.size, q2.ext x, q3.ext x, q3'.ext x, x.cell q4, W', q5.ext x⟩
    · exact fun _ _ _ _ h => h
    · exact ⟨p0, Nat.le_refl _, r1, r2, r5, c7, _, t4.congr fun i j _ _ => by simp⟩
    · rintro d q h8 z8 hq hqn hqf ⟨p0, y8, r1, r2, r5, c8, W8, t8⟩
      have p0_z := p0.size
      have r1_l := r1.lt
      have r2_l := r2.lt
      have r5_l := r5.lt
      simp -dsimp only [go_sem, ↓reduceIte, reduceCtorEq, Nat.reduceEqDiff, Nat.reduceAdd, Nat.reduceLeDiff, Nat.reduceMul, Int.reduceBEq, Int.reduceBNe, Int.reduceLT, Int.reduceLE, Int.reduceGT, Int.reduceGE, r1.cell, r2.cell, r5.cell]
      intro h9 x9
      have x9_z := x9.size
      replace p0 := p0.ext x9 (by omega)
      replace r1 := r1.ext x9
      replace r2 := r2.ext x9
      replace r5 := r5.ext x9
      replace t8 := t8.ext x9
      have c8 := x9.cell c8
      have tq := t'.fr p0 (by omega)
      simp -dsimp only [go_sem, ↓reduceIte, reduceCtorEq, Nat.reduceEqDiff, Nat.reduceAdd, Nat.reduceLeDiff, Nat.reduceMul, Int.reduceBEq, Int.reduceBNe, Int.reduceLT, Int.reduceLE, Int.reduceGT, Int.reduceGE, tq.ptr.cell, r1.cell, r2.cell, r5.cell]
      refine ⟨fun hqm => ?_, fun hqm => ?_⟩
      · have hqm : q < m := by omega
        obtain ⟨g1, g2, g3, g4, g5, g6⟩ := t8.row a (by omega)
        simp -dsimp only [go_sem, ↓reduceIte, reduceCtorEq, Nat.reduceEqDiff, Nat.reduceAdd, Nat.reduceLeDiff, Nat.reduceMul, Int.reduceBEq, Int.reduceBNe, Int.reduceLT, Int.reduceLE, Int.reduceGT, Int.reduceGE, tq.ptr.cell, t8.ptr.cell, r1.cell, r2.cell, r5.cell]
        refine Chk_intro (by omega) ?_
        simp -dsimp only [go_sem, ↓reduceIte, reduceCtorEq, Nat.reduceEqDiff, Nat.reduceAdd, Nat.reduceLeDiff, Nat.reduceMul, Int.reduceBEq, Int.reduceBNe, Int.reduceLT, Int.reduceLE, Int.reduceGT, Int.reduceGE, t8.rowsGet (show a < max n m by omega), tq.ptr.cell, r1.cell, r2.cell, r5.cell]
        refine Chk_intro (by omega) ?_
        simp -dsimp only [go_sem, ↓reduceIte, reduceCtorEq, Nat.reduceEqDiff, Nat.reduceAdd, Nat.reduceLeDiff, Nat.reduceMul, Int.reduceBEq, Int.reduceBNe, Int.reduceLT, Int.reduceLE, Int.reduceGT, Int.reduceGE, tq.rowsGet hqm, r1.cell, r2.cell, r5.cell]
        intro b10 h10 n10
        have n10_a := n10.at_
        have n10_z := n10.size
        replace p0 := p0.fresh (n10.fr (lo := 0) (hi := 0)) (by omega)
        replace r1 := r1.fr (n10.fr (lo := 0) (hi := 0)) (by omega)
        replace r2 := r2.fr (n10.fr (lo := 0) (hi := 0)) (by omega)
        replace r5 := r5.fr (n10.fr (lo := 0) (hi := 0)) (by omega)
        replace t8 := t8.fr (n10.fr (lo := 0) (hi := 0)) (by omega)
        have r10 := n10.row
        obtain ⟨g1, g2, g3, g4, g5, g6⟩ := t8.row a (by omega)
        have tq := t'.fr p0 (by omega)
        obtain ⟨f1, f2, f3, f4, f5, f6⟩ := tq.row q hqm
        simp -dsimp only [go_sem, ↓reduceIte, reduceCtorEq, Nat.reduceEqDiff, Nat.reduceAdd, Nat.reduceLeDiff, Nat.reduceMul, Int.reduceBEq, Int.reduceBNe, Int.reduceLT, Int.reduceLE, Int.reduceGT, Int.reduceGE, tq.ptr.cell, t8.ptr.cell, t8.rowsGet (show a < max n m by omega), tq.rowsGet hqm, r1.cell, r2.cell, r5.cell, r10.cell]
        refine call_of (row_join g1 f1 (r10.rd rfl) (fun j => (g6 j).1) (fun j => (f6 j).1) (by unfold nw; omega) (by unfold nw; omega)) ?_
        rintro _ h11 ⟨f11, z11, r11⟩
        have t11 := t8.updRow (by omega) f11 r11 (g6.or f6 (by omega))
        have c10 := (n10.fr (lo := 0) (hi := 0)).keep c8 (by omega)
        have f11_z := f11.size
        replace p0 := p0.fresh f11 (by omega)
        replace r1 := r1.fr f11 (by omega)
        replace r2 := r2.fr f11 (by omega)
        replace r5 := r5.fr f11 (by omega)
        have tq := t'.fr p0 (by omega)
        simp -dsimp only [go_sem, ↓reduceIte, reduceCtorEq, Nat.reduceEqDiff, Nat.reduceAdd, Nat.reduceLeDiff, Nat.reduceMul, Int.reduceBEq, Int.reduceBNe, Int.reduceLT, Int.reduceLE, Int.reduceGT, Int.reduceGE, t11.ptr.cell, t11.rowsGet (show a < max n m by omega), tq.ptr.cell, tq.rowsGet hqm, r1.cell, r2.cell, r5.cell]
        refine ⟨p0, by omega, r1, r2, r5, f11.keep c10 (by omega), _, t11.congr fun i j hi hj => ?_⟩
        rw [List.take_add_one, hq, Option.toList_some, List.any_append]
        by_cases hia : i = a
        · subst hia
          rw [upd_same]
          simp [inN, hqm]
        · rw [upd_ne _ _ hia]
          have e : (i == a) = false := by simpa using hia
          simp [e]
      · simp -dsimp only [go_sem, ↓reduceIte, reduceCtorEq, Nat.reduceEqDiff, Nat.reduceAdd, Nat.reduceLeDiff, Nat.reduceMul, Int.reduceBEq, Int.reduceBNe, Int.reduceLT, Int.reduceLE, Int.reduceGT, Int.reduceGE, r1.cell, r2.cell, r5.cell]
        refine ⟨p0, by omega, r1, r2, r5, c8, _, t8.congr fun i j hi hj => ?_⟩
        rw [List.take_add_one, hq, Option.toList_some, List.any_append]
        have : inN m N q j = false := inN_out (by omega)
        simp [this]
    · rintro h8 z8 ⟨p0, y8, r1, r2, r5, c8, W8, t8⟩
      simp -dsimp only [go_sem, ↓reduceIte, reduceCtorEq, Nat.reduceEqDiff, Nat.reduceAdd, Nat.reduceLeDiff, Nat.reduceMul, Int.reduceBEq, Int.reduceBNe, Int.reduceLT, Int.reduceLE, Int.reduceGT, Int.reduceGE, r1.cell, r2.cell, r5.cell]
      simp -dsimp (disch := omega) only [wrap64]
      refine ⟨a + 1, by omega, by simp [Le, find], by omega, p0, by omega, r1, r2, _, t8.congr fun i j hi hj => ?_⟩
      rw [List.take_length]
      by_cases hia : i = a
      · subst hia
        have : (rest (M i) n 0).any (fun q => inN m N q j) = compM n M m N i j := by
          rw [Bool.eq_iff_iff, compM_true, List.any_eq_true]
          constructor
          · rintro ⟨k, hk, h1⟩
            have := mem_rest.1 hk
            exact ⟨k, inN_true.2 ⟨hlt, this.2.1, this.2.2⟩, h1⟩
          · rintro ⟨k, h1, h2⟩
            have := inN_true.1 h1
            exact ⟨k, mem_rest.2 ⟨by omega, this.2.1, this.2.2⟩, h2⟩
        simp [this]
      · have e : (i == a) = false := by simpa using hia
        have : (i < a + 1) = (i < a) := by simp; omega
        simp [this, e]
    · exact fun _ _ _ h => h.elim
  · have : a = n := by omega
    subst this
    simp -dsimp only [go_sem, ↓reduceIte, reduceCtorEq, Nat.reduceEqDiff, Nat.reduceAdd, Nat.reduceLeDiff, Nat.reduceMul, Int.reduceBEq, Int.reduceBNe, Int.reduceLT, Int.reduceLE, Int.reduceGT, Int.reduceGE, r1.cell, r2.cell]
    refine ⟨p0, by omega, _, _, _, _, rfl, ((t4.mono' (hi' := h4.size) (by omega)).lower (by omega)).congr fun i j hi hj => ?_⟩
    by_cases hia : i < a
    · simp [hia]
    · have : compM a M m N i j = false := by
        rw [Bool.eq_false_iff]; intro h'
        obtain ⟨k, h1, _⟩ := compM_true.1 h'
        exact hia (inN_true.1 h1).1
      simp [this]
end Go.Proofs.Tst
namespace Go.Proofs.Tst
open Go Go.Vc
theorem slices_Values {a : Option Addr} {n c : Nat} {h : Heap} : Con Tryd.prog 107 #[.slice a n c] h fun v h' => Fr 0 0 h h' ∧ v = .func (.func 111) #[] #[.pointer (some ⟨h.size, 0, none⟩)] ∧ Rw h' h.size [.slice a n c] ∧ h'.size = h.size + 1 := by
  refine con_slices_Values ?_
  simp -dsimp only [go_sem, ↓reduceIte, reduceCtorEq, Nat.reduceEqDiff, Nat.reduceAdd, Nat.reduceLeDiff, Nat.reduceMul, Int.reduceBEq, Int.reduceBNe, Int.reduceLT, Int.reduceLE, Int.reduceGT, Int.reduceGE]
  intro b h1 n1
  have r1 := n1.row
  have a1 := n1.at_
  subst a1
  simp -dsimp only [go_sem, ↓reduceIte, reduceCtorEq, Nat.reduceEqDiff, Nat.reduceAdd, Nat.reduceLeDiff, Nat.reduceMul, Int.reduceBEq, Int.reduceBNe, Int.reduceLT, Int.reduceLE, Int.reduceGT, Int.reduceGE]
  exact ⟨n1.fr, r1, n1.size⟩
theorem values_1 {b : Nat} {sv : Value} {l : List Nat} (hl : l.length ≤ 65536) :
    Iter Tryd.prog 111 #[.pointer (some ⟨b, 0, none⟩)] (l.map fun (p : Nat) => [Value.int .i64 (p : Int)]) (fun h => Rw h b [sv] ∧ Rd 1 h sv l.length (natsV l)) := by
  refine ⟨by unfold goodF; rw [Tryd.func111]; rfl, fun lo I X hy h hI hC => ?_⟩
  show ConX (some lo) Tryd.prog 111 #[.func (.yield lo) #[] #[], .pointer (some ⟨b, 0, none⟩)] h _
  refine con_slices_Values_1 ?_
  obtain ⟨sa, sc, rfl⟩ := hC.2.is
  simp -dsimp only [go_sem, ↓reduceIte, reduceCtorEq, Nat.reduceEqDiff, Nat.reduceAdd, Nat.reduceLeDiff, Nat.reduceMul, Int.reduceBEq, Int.reduceBNe, Int.reduceLT, Int.reduceLE, Int.reduceGT, Int.reduceGE, hC.1.cell]
  refine loop_intro (fun i : Nat => [(0, .func (.yield lo) #[] #[]), (5, .slice sa l.length sc), (6, .int .i64 l.length), (7, .int .i64 i)])
    (fun i h' => i ≤ l.length ∧ (Rw h' b [.slice sa l.length sc] ∧ Rd 1 h' (.slice sa l.length sc) l.length (natsV l)) ∧ I i h') (fun i => l.length - i) 0 ?_ ?_ ?_
  · simp [Le, find]
  · exact ⟨by omega, hC, hI⟩
  rintro i h1 ⟨hi, hC1, hI1⟩
  simp -dsimp only [go_sem, ↓reduceIte, reduceCtorEq, Nat.reduceEqDiff, Nat.reduceAdd, Nat.reduceLeDiff, Nat.reduceMul, Int.reduceBEq, Int.reduceBNe, Int.reduceLT, Int.reduceLE, Int.reduceGT, Int.reduceGE]
  refine ⟨fun hlt => ?_, fun hge => ?_⟩
  · have hlt : i < l.length := by omega
    have hq : l[i]? = some l[i] := by simp [hlt]
    generalize l[i] = q at hq
    simp -dsimp only [go_sem, ↓reduceIte, reduceCtorEq, Nat.reduceEqDiff, Nat.reduceAdd, Nat.reduceLeDiff, Nat.reduceMul, Int.reduceBEq, Int.reduceBNe, Int.reduceLT, Int.reduceLE, Int.reduceGT, Int.reduceGE]
    refine Chk_intro (by omega) (hC1.2.idx (by omega) fun b2 o2 c2 => ?_)
    simp -dsimp only [go_sem, ↓reduceIte, reduceCtorEq, Nat.reduceEqDiff, Nat.reduceAdd, Nat.reduceLeDiff, Nat.reduceMul, Int.reduceBEq, Int.reduceBNe, Int.reduceLT, Int.reduceLE, Int.reduceGT, Int.reduceGE, c2 i _ (natsV_get hq)]
    have hdx : (l.map fun (p : Nat) => [Value.int .i64 (p : Int)])[i]? = some [.int .i64 (q : Int)] := by rw [List.getElem?_map, hq]; rfl
    refine yld_of (hy i _ _ hdx hI1 hC1) ?_
    rintro v h4 (⟨rfl, hI4, hC4⟩ | ⟨rfl, hX4⟩)
    · simp -dsimp only [go_sem, ↓reduceIte, reduceCtorEq, Nat.reduceEqDiff, Nat.reduceAdd, Nat.reduceLeDiff, Nat.reduceMul, Int.reduceBEq, Int.reduceBNe, Int.reduceLT, Int.reduceLE, Int.reduceGT, Int.reduceGE]
      simp -dsimp (disch := omega) only [wrap64]
      exact ⟨i + 1, by omega, by simp [Le, find], by omega, hC4, hI4⟩
    · simp -dsimp only [go_sem, ↓reduceIte, reduceCtorEq, Nat.reduceEqDiff, Nat.reduceAdd, Nat.reduceLeDiff, Nat.reduceMul, Int.reduceBEq, Int.reduceBNe, Int.reduceLT, Int.reduceLE, Int.reduceGT, Int.reduceGE]
      exact .inr hX4
  · have : i = l.length := by omega
    subst this
    simp -dsimp only [go_sem, ↓reduceIte, reduceCtorEq, Nat.reduceEqDiff, Nat.reduceAdd, Nat.reduceLeDiff, Nat.reduceMul, Int.reduceBEq, Int.reduceBNe, Int.reduceLT, Int.reduceLE, Int.reduceGT, Int.reduceGE]
    refine .inl ⟨?_, hC1⟩
    rw [List.length_map]
    exact hI1
theorem slices_AppendSeq {gf : FuncId} {lb : Array Value} {l : List Nat} {C : Heap → Prop} {h : Heap} (hit : Iter Tryd.prog gf lb (l.map fun (p : Nat) => [Value.int .i64 (p : Int)]) C)
    (cext : ∀ B h1 h2, h.size ≤ B → Ext B h1 h2 → C h1 → C h2) (cfr : ∀ h', Fr 0 0 h h' → C h') (hl : l.length ≤ 65536) :
    Con Tryd.prog 112 #[.slice none 0 0, .func (.func gf) #[] lb] h fun v h' => Fr 0 0 h h' ∧ Holder 1 h' v l.length (natsV l) h.size := by
  refine con_slices_AppendSeq (fun v h1 h2 x ⟨f, o⟩ => ⟨x.fr f (Nat.le_refl _), o.ext x⟩) ?_
  have p0 : Fr 0 0 h h := .refl _ _ _
  simp -dsimp only [go_sem, ↓reduceIte, reduceCtorEq, Nat.reduceEqDiff, Nat.reduceAdd, Nat.reduceLeDiff, Nat.reduceMul, Int.reduceBEq, Int.reduceBNe, Int.reduceLT, Int.reduceLE, Int.reduceGT, Int.reduceGE]
  intro b1 h1 n1
  have n1_a := n1.at_
  have n1_z := n1.size
  replace p0 := p0.fresh (n1.fr (lo := 0) (hi := 0)) (by omega)
  have r1 := n1.row
  simp -dsimp only [go_sem, ↓reduceIte, reduceCtorEq, Nat.reduceEqDiff, Nat.reduceAdd, Nat.reduceLeDiff, Nat.reduceMul, Int.reduceBEq, Int.reduceBNe, Int.reduceLT, Int.reduceLE, Int.reduceGT, Int.reduceGE, r1.cell]
  refine ⟨rfl, iter_intro hit (fun h2 h3 x => cext _ _ _ (by omega) x) (cfr _ p0)
    (fun d h' => Fr 0 0 h h' ∧ h1.size ≤ h'.size ∧ ∃ sv, Rw h' b1 [sv] ∧ Holder 1 h' sv d (natsV (l.take d)) h1.size) (fun _ _ => False) ?_ ?_ ?_ ?_ ?_ ?_ ?_⟩
  · rintro d h' ⟨q0, -⟩; exact cfr _ q0
  · rintro d h2 h3 x ⟨q0, q1, sv, q2, q3⟩; exact ⟨q0.ext x (by omega), Nat.le_trans q1 x.size, sv, q2.ext x, q3.ext x⟩
  · exact fun _ _ _ _ h => h
  · exact ⟨p0, by omega, _, r1, .none _ _ _⟩
  · rintro d q h2 z2 hq ⟨p0, y2, sv, r1, o2⟩
    have hd := (List.getElem?_eq_some_iff.1 hq).1
    have p0_z := p0.size
    have r1_l := r1.lt
    have o2_l := o2.top
    simp -dsimp only [go_sem, ↓reduceIte, reduceCtorEq, Nat.reduceEqDiff, Nat.reduceAdd, Nat.reduceLeDiff, Nat.reduceMul, Int.reduceBEq, Int.reduceBNe, Int.reduceLT, Int.reduceLE, Int.reduceGT, Int.reduceGE, r1.cell]
    intro h3 x3
    have x3_z := x3.size
    replace p0 := p0.ext x3 (by omega)
    replace r1 := r1.ext x3
    replace o2 := o2.ext x3
    obtain ⟨va, vc, rfl⟩ := o2.is
    simp -dsimp only [go_sem, ↓reduceIte, reduceCtorEq, Nat.reduceEqDiff, Nat.reduceAdd, Nat.reduceLeDiff, Nat.reduceMul, Int.reduceBEq, Int.reduceBNe, Int.reduceLT, Int.reduceLE, Int.reduceGT, Int.reduceGE, r1.cell]
    intro b4 h4 n4
    have n4_a := n4.at_
    have n4_z := n4.size
    replace p0 := p0.fresh (n4.fr (lo := 0) (hi := 0)) (by omega)
    replace r1 := r1.fr (n4.fr (lo := 0) (hi := 0)) (by omega)
    replace o2 := o2.fr (n4.fr (lo := 0) (hi := 0)) (by have := o2.at_; omega)
    simp -dsimp only [go_sem, ↓reduceIte, reduceCtorEq, Nat.reduceEqDiff, Nat.reduceAdd, Nat.reduceLeDiff, Nat.reduceMul, Int.reduceBEq, Int.reduceBNe, Int.reduceLT, Int.reduceLE, Int.reduceGT, Int.reduceGE, n4.row.cell, r1.cell]
    refine o2.append (by omega) rfl (by omega) (by simp) (by omega) fun v5 h5 o_new f5 e_app => ?_
    have f5_z := f5.size
    have o_at := o2.at_
    replace p0 := p0.fresh f5 (by omega)
    replace r1 := r1.fr f5 (by omega)
    clear o_at e_app
    replace o2 := o_new
    have o2_l := o2.top
    obtain ⟨ua, uc, rfl⟩ := o2.is
    simp -dsimp only [go_sem, ↓reduceIte, reduceCtorEq, Nat.reduceEqDiff, Nat.reduceAdd, Nat.reduceLeDiff, Nat.reduceMul, Int.reduceBEq, Int.reduceBNe, Int.reduceLT, Int.reduceLE, Int.reduceGT, Int.reduceGE, r1.cell]
    refine Chk_intro (r1.wr (by simp)) fun h6 s6 => ?_
    have s6_z := s6.size
    have r6 := s6.row r1
    have o6 := o2.fr s6.fr (by have := o2.at_; omega)
    have q6 := p0.fresh s6.fr (by omega)
    simp -dsimp only [go_sem, ↓reduceIte, reduceCtorEq, Nat.reduceEqDiff, Nat.reduceAdd, Nat.reduceLeDiff, Nat.reduceMul, Int.reduceBEq, Int.reduceBNe, Int.reduceLT, Int.reduceLE, Int.reduceGT, Int.reduceGE] at r6
    simp -dsimp only [go_sem, ↓reduceIte, reduceCtorEq, Nat.reduceEqDiff, Nat.reduceAdd, Nat.reduceLeDiff, Nat.reduceMul, Int.reduceBEq, Int.reduceBNe, Int.reduceLT, Int.reduceLE, Int.reduceGT, Int.reduceGE, r1.cell]
    refine ⟨q6, by omega, _, r6, ?_⟩
    rw [List.take_add_one, hq, Option.toList_some, natsV_append]
    exact o6
  · rintro h2 z2 ⟨p0, y2, sv, r1, o2⟩
    rw [List.take_length] at o2
    have p0_z := p0.size
    have r1_l := r1.lt
    have o2_l := o2.top
    simp -dsimp only [go_sem, ↓reduceIte, reduceCtorEq, Nat.reduceEqDiff, Nat.reduceAdd, Nat.reduceLeDiff, Nat.reduceMul, Int.reduceBEq, Int.reduceBNe, Int.reduceLT, Int.reduceLE, Int.reduceGT, Int.reduceGE, r1.cell]
    exact ⟨p0, o2.lower (by omega)⟩
  · exact fun _ _ _ h => h.elim
theorem slices_Collect {gf : FuncId} {lb : Array Value} {l : List Nat} {C : Heap → Prop} {h : Heap} (hit : Iter Tryd.prog gf lb (l.map fun (p : Nat) => [Value.int .i64 (p : Int)]) C)
    (cext : ∀ B h1 h2, h.size ≤ B → Ext B h1 h2 → C h1 → C h2) (cfr : ∀ h', Fr 0 0 h h' → C h') (hl : l.length ≤ 65536) :
    Con Tryd.prog 108 #[.func (.func gf) #[] lb] h fun v h' => Fr 0 0 h h' ∧ Holder 1 h' v l.length (natsV l) h.size := by
  refine con_slices_Collect ?_
  simp -dsimp only [go_sem, ↓reduceIte, reduceCtorEq, Nat.reduceEqDiff, Nat.reduceAdd, Nat.reduceLeDiff, Nat.reduceMul, Int.reduceBEq, Int.reduceBNe, Int.reduceLT, Int.reduceLE, Int.reduceGT, Int.reduceGE]
  refine call_of (slices_AppendSeq hit cext cfr hl) ?_
  rintro v h1 ⟨p1, o1⟩
  simp -dsimp only [go_sem, ↓reduceIte, reduceCtorEq, Nat.reduceEqDiff, Nat.reduceAdd, Nat.reduceLeDiff, Nat.reduceMul, Int.reduceBEq, Int.reduceBNe, Int.reduceLT, Int.reduceLE, Int.reduceGT, Int.reduceGE]
  exact ⟨p1, o1⟩
end Go.Proofs.Tst
namespace Go.Proofs.Tst
open Go Go.Vc
/-- What is kept of a: the pairs that b has, or has not. -/
def keepM (n : Nat) (M : Nat → Nat → Bool) (m : Nat) (N : Nat → Nat → Bool) (has : Bool) (i j : Nat) : Bool := inN n M i j && (inN m N i j == has)
set_option maxHeartbeats 800000 in
theorem rel_keep {n m : Nat} {M N : Nat → Nat → Bool} {p q : Value} {lo hi lo' hi' : Nat} {h : Heap} (hr : ProgAt h lo hi p n M) (hs : ProgAt h lo' hi' q m N) (ht : TabAt h) (has : Bool) :
    Con Tryd.prog 83 #[p, q, .bool has] h fun v h' => Fr 0 0 h h' ∧ ProgAt h' h.size h'.size v (max n m) (keepM n M m N has) := by
  refine con_rel_keep (fun v h1 h2 x ⟨f, o⟩ => ⟨x.fr f (Nat.le_refl _), (o.ext x).mono (Nat.le_refl _) x.size⟩) ?_
  have hr0 := hr; have hs0 := hs
  obtain ⟨hn, pb, rb, R, W, rfl, t⟩ := hr
  obtain ⟨hm, pb', rb', R', W', rfl, t'⟩ := hs
  have p0 : Fr 0 0 h h := .refl _ _ _
  simp -dsimp only [go_sem, ↓reduceIte, reduceCtorEq, Nat.reduceEqDiff, Nat.reduceAdd, Nat.reduceLeDiff, Nat.reduceMul, Int.reduceBEq, Int.reduceBNe, Int.reduceLT, Int.reduceLE, Int.reduceGT, Int.reduceGE]
  intro b1 h1 n1
  have n1_a := n1.at_
  have n1_z := n1.size
  replace p0 := p0.fresh (n1.fr (lo := 0) (hi := 0)) (by omega)
  have r1 := n1.row
  simp -dsimp only [go_sem, ↓reduceIte, reduceCtorEq, Nat.reduceEqDiff, Nat.reduceAdd, Nat.reduceLeDiff, Nat.reduceMul, Int.reduceBEq, Int.reduceBNe, Int.reduceLT, Int.reduceLE, Int.reduceGT, Int.reduceGE, r1.cell]
  intro b2 h2 n2
  have n2_a := n2.at_
  have n2_z := n2.size
  replace p0 := p0.fresh (n2.fr (lo := 0) (hi := 0)) (by omega)
  replace r1 := r1.fr (n2.fr (lo := 0) (hi := 0)) (by omega)
  have r2 := n2.row
  have tq := t'.fr p0 (by omega)
  simp -dsimp only [go_sem, ↓reduceIte, reduceCtorEq, Nat.reduceEqDiff, Nat.reduceAdd, Nat.reduceLeDiff, Nat.reduceMul, Int.reduceBEq, Int.reduceBNe, Int.reduceLT, Int.reduceLE, Int.reduceGT, Int.reduceGE, tq.ptr.cell, r1.cell, r2.cell]
  refine call_of (rel_wide (hr0.fr p0 (by omega)) m hm) ?_
  rintro v3 h3 ⟨f3, hk, pb3, rb3, R3, W3, rfl, t3⟩
  rw [Nat.max_comm] at hk t3
  have f3_z := f3.size
  replace p0 := p0.fresh f3 (by omega)
  replace r1 := r1.fr f3 (by omega)
  replace r2 := r2.fr f3 (by omega)
  simp -dsimp only [go_sem, ↓reduceIte, reduceCtorEq, Nat.reduceEqDiff, Nat.reduceAdd, Nat.reduceLeDiff, Nat.reduceMul, Int.reduceBEq, Int.reduceBNe, Int.reduceLT, Int.reduceLE, Int.reduceGT, Int.reduceGE, r1.cell, r2.cell]
  intro b4 h4 n4
  have n4_a := n4.at_
  have n4_z := n4.size
  replace p0 := p0.fresh (n4.fr (lo := 0) (hi := 0)) (by omega)
  replace r1 := r1.fr (n4.fr (lo := 0) (hi := 0)) (by omega)
  replace r2 := r2.fr (n4.fr (lo := 0) (hi := 0)) (by omega)
  replace t3 := t3.fr (n4.fr (lo := 0) (hi := 0)) (by omega)
  have r4 := n4.row
  simp -dsimp only [go_sem, ↓reduceIte, reduceCtorEq, Nat.reduceEqDiff, Nat.reduceAdd, Nat.reduceLeDiff, Nat.reduceMul, Int.reduceBEq, Int.reduceBNe, Int.reduceLT, Int.reduceLE, Int.reduceGT, Int.reduceGE, r1.cell, r2.cell, r4.cell]
  refine Chk_intro (r4.wr (by first | (simp; done) | (simp; omega))) fun h5 s5 => ?_
  have s5_z := s5.size
  replace p0 := p0.fresh s5.fr (by omega)
  replace r1 := r1.fr s5.fr (by omega)
  replace r2 := r2.fr s5.fr (by omega)
  replace t3 := t3.fr s5.fr (by omega)
  replace r4 := s5.row r4
  try simp only [cl_int, cl_bool, cl_slice, cl_ptr, putAt_one, List.set_cons_zero, List.set_cons_succ, ivec_set, brow_upd] at r4
  have at3 := t3.at_
  simp -dsimp only [go_sem, ↓reduceIte, reduceCtorEq, Nat.reduceEqDiff, Nat.reduceAdd, Nat.reduceLeDiff, Nat.reduceMul, Int.reduceBEq, Int.reduceBNe, Int.reduceLT, Int.reduceLE, Int.reduceGT, Int.reduceGE, t3.ptr.cell, r1.cell, r2.cell, r4.cell]
  refine loop_intro (fun a : Nat => [(4, .pointer (some ⟨b1, 0, none⟩)), (5, .pointer (some ⟨b2, 0, none⟩)), (7, .pointer (some ⟨b4, 0, none⟩)), (20, .slice (some ⟨rb3, 0, none⟩) (max n m) (max n m)), (21, .int .i64 (max n m : Nat)), (22, .int .i64 a)])
    (fun a h' => a ≤ max n m ∧ Fr 0 0 h h' ∧ h5.size ≤ h'.size ∧ Rw h' b1 [.pointer (some ⟨pb', 0, none⟩)] ∧ Rw h' b2 [.bool has] ∧ Rw h' b4 [.pointer (some ⟨pb3, 0, none⟩)] ∧ ∃ W, PTab h' h2.size h3.size pb3 rb3 (max n m) R3 W fun i j => inN n M i j && (decide (a ≤ i) || (inN m N i j == has))) (fun a => max n m - a) 0 ?_ ?_ ?_
  · simp [Le, find]
  · exact ⟨by omega, p0, by omega, r1, r2, r4, _, t3.congr fun i j _ _ => by simp⟩
  rintro a h6 ⟨ha, p0, y6, r1, r2, r4, W6, t6⟩
  have p0_z := p0.size
  have r1_l := r1.lt
  have r2_l := r2.lt
  have r4_l := r4.lt
  simp -dsimp only [go_sem, ↓reduceIte, reduceCtorEq, Nat.reduceEqDiff, Nat.reduceAdd, Nat.reduceLeDiff, Nat.reduceMul, Int.reduceBEq, Int.reduceBNe, Int.reduceLT, Int.reduceLE, Int.reduceGT, Int.reduceGE, r1.cell, r2.cell, r4.cell]
  refine ⟨fun hlt => ?_, fun hge => ?_⟩
  · have hlt : a < max n m := by omega
    simp -dsimp only [go_sem, ↓reduceIte, reduceCtorEq, Nat.reduceEqDiff, Nat.reduceAdd, Nat.reduceLeDiff, Nat.reduceMul, Int.reduceBEq, Int.reduceBNe, Int.reduceLT, Int.reduceLE, Int.reduceGT, Int.reduceGE, r1.cell, r2.cell, r4.cell]
    refine Chk_intro (by omega) ?_
    simp -dsimp only [go_sem, ↓reduceIte, reduceCtorEq, Nat.reduceEqDiff, Nat.reduceAdd, Nat.reduceLeDiff, Nat.reduceMul, Int.reduceBEq, Int.reduceBNe, Int.reduceLT, Int.reduceLE, Int.reduceGT, Int.reduceGE, t6.rowsGet hlt, r1.cell, r2.cell, r4.cell]
    intro b7 h7 n7
    have n7_a := n7.at_
    have n7_z := n7.size
    replace p0 := p0.fresh (n7.fr (lo := 0) (hi := 0)) (by omega)
    replace r1 := r1.fr (n7.fr (lo := 0) (hi := 0)) (by omega)
    replace r2 := r2.fr (n7.fr (lo := 0) (hi := 0)) (by omega)
    replace r4 := r4.fr (n7.fr (lo := 0) (hi := 0)) (by omega)
    replace t6 := t6.fr (n7.fr (lo := 0) (hi := 0)) (by omega)
    have r7 := n7.row
    simp -dsimp only [go_sem, ↓reduceIte, reduceCtorEq, Nat.reduceEqDiff, Nat.reduceAdd, Nat.reduceLeDiff, Nat.reduceMul, Int.reduceBEq, Int.reduceBNe, Int.reduceLT, Int.reduceLE, Int.reduceGT, Int.reduceGE, r1.cell, r2.cell, r4.cell, r7.cell]
    refine Chk_intro (r7.wr (by first | (simp; done) | (simp; omega))) fun h8 s8 => ?_
    have s8_z := s8.size
    replace p0 := p0.fresh s8.fr (by omega)
    replace r1 := r1.fr s8.fr (by omega)
    replace r2 := r2.fr s8.fr (by omega)
    replace r4 := r4.fr s8.fr (by omega)
    replace t6 := t6.fr s8.fr (by omega)
    replace r7 := s8.row r7
    try simp only [cl_int, cl_bool, cl_slice, cl_ptr, putAt_one, List.set_cons_zero, List.set_cons_succ, ivec_set, brow_upd] at r7
    simp -dsimp only [go_sem, ↓reduceIte, reduceCtorEq, Nat.reduceEqDiff, Nat.reduceAdd, Nat.reduceLeDiff, Nat.reduceMul, Int.reduceBEq, Int.reduceBNe, Int.reduceLT, Int.reduceLE, Int.reduceGT, Int.reduceGE, r1.cell, r2.cell, r4.cell, r7.cell]
    refine call_of (rel_points _ _ _ h8) ?_
    rintro v h9 ⟨f9, rfl, c9, z9⟩
    have f9_z := f9.size
    replace p0 := p0.fresh f9 (by omega)
    replace r1 := r1.fr f9 (by omega)
    replace r2 := r2.fr f9 (by omega)
    replace r4 := r4.fr f9 (by omega)
    replace t6 := t6.fr f9 (by omega)
    replace r7 := r7.fr f9 (by omega)
    simp -dsimp only [go_sem, ↓reduceIte, reduceCtorEq, Nat.reduceEqDiff, Nat.reduceAdd, Nat.reduceLeDiff, Nat.reduceMul, Int.reduceBEq, Int.reduceBNe, Int.reduceLT, Int.reduceLE, Int.reduceGT, Int.reduceGE, r1.cell, r2.cell, r4.cell, r7.cell]
    have hbits := (t6.row a hlt).2.2.2.2.2
    have hit := points_1 (b := h8.size) (xv := .slice (some ⟨R3 a, 0, none⟩) (nw (max n m)) (nw (max n m))) (w := nw (max n m)) (W := W6 a) (fun j => (hbits j).1) (by unfold nw; omega)
    rw [rest_bits hbits] at hit
    have hL := length_rest_le (fun j => inN n M a j && (decide (a ≤ a) || (inN m N a j == has))) (max n m) 0
    have hC : RowC h8.size (.slice (some ⟨R3 a, 0, none⟩) (nw (max n m)) (nw (max n m))) (nw (max n m)) (W6 a) h9 := ⟨c9, ptab_rd t6 hlt, ht.fr p0 (by omega)⟩
    refine call_of (slices_Collect hit (fun B g1 g2 _ x ⟨c1, c2, c3⟩ => ⟨x.cell c1, x.rd c2, x.tab c3⟩) (fun g f => ⟨f.keep hC.1 (by omega), hC.2.1.fr f, hC.2.2.fr f (by omega)⟩) (by omega)) ?_
    rintro sv h10 ⟨f10, o10⟩
    clear hit hC
    have hrow : (rest (fun j => inN n M a j && (decide (a ≤ a) || (inN m N a j == has))) (max n m) 0) = rest (fun j => inN n M a j) (max n m) 0 := rest_congr fun j _ _ => by simp
    rw [hrow] at o10 hL
    have f10_z := f10.size
    replace p0 := p0.fresh f10 (by omega)
    replace r1 := r1.fr f10 (by omega)
    replace r2 := r2.fr f10 (by omega)
    replace r4 := r4.fr f10 (by omega)
    replace t6 := t6.fr f10 (by omega)
    replace r7 := r7.fr f10 (by omega)
    obtain ⟨va, vc, rfl⟩ := o10.is
    have o10_l := o10.top
    simp -dsimp only [go_sem, ↓reduceIte, reduceCtorEq, Nat.reduceEqDiff, Nat.reduceAdd, Nat.reduceLeDiff, Nat.reduceMul, Int.reduceBEq, Int.reduceBNe, Int.reduceLT, Int.reduceLE, Int.reduceGT, Int.reduceGE, r1.cell, r2.cell, r4.cell, r7.cell]
    refine call_of (slices_Values) ?_
    rintro v h11 ⟨f11, rfl, r11, z11⟩
    have f11_z := f11.size
    replace p0 := p0.fresh f11 (by omega)
    replace r1 := r1.fr f11 (by omega)
    replace r2 := r2.fr f11 (by omega)
    replace r4 := r4.fr f11 (by omega)
    replace t6 := t6.fr f11 (by omega)
    replace r7 := r7.fr f11 (by omega)
    replace o10 := o10.fr f11 (by have := o10.at_; omega)
    simp -dsimp only [go_sem, ↓reduceIte, reduceCtorEq, Nat.reduceEqDiff, Nat.reduceAdd, Nat.reduceLeDiff, Nat.reduceMul, Int.reduceBEq, Int.reduceBNe, Int.reduceLT, Int.reduceLE, Int.reduceGT, Int.reduceGE, r1.cell, r2.cell, r4.cell, r7.cell, r11.cell]
    refine ⟨rfl, iter_intro (values_1 (l := rest (fun j => inN n M a j) (max n m) 0) (by omega)) (fun g1 g2 x ⟨c1, c2⟩ => ⟨c1.ext x, c2.ext x⟩) ⟨r11, o10.rd⟩
      (fun d h' => Fr 0 0 h h' ∧ h11.size ≤ h'.size ∧ Rw h' b1 [.pointer (some ⟨pb', 0, none⟩)] ∧ Rw h' b2 [.bool has] ∧ Rw h' b4 [.pointer (some ⟨pb3, 0, none⟩)] ∧ Rw h' b7 [.int .i64 a] ∧ Rw h' h10.size [.slice va (rest (fun j => inN n M a j) (max n m) 0).length vc] ∧ Holder 1 h' (.slice va (rest (fun j => inN n M a j) (max n m) 0).length vc) (rest (fun j => inN n M a j) (max n m) 0).length (natsV (rest (fun j => inN n M a j) (max n m) 0)) h9.size ∧
        ∃ W, PTab h' h2.size h3.size pb3 rb3 (max n m) R3 W fun i j => inN n M i j && (decide (a + 1 ≤ i) || (inN m N i j == has) || (i == a && !((rest (fun j => inN n M a j) (max n m) 0).take d).contains j)))
      (fun _ _ => False) ?_ ?_ ?_ ?_ ?_ ?_ ?_⟩
    · rintro d h' ⟨-, -, -, -, -, -, q1, q2, -⟩; exact ⟨q1, q2.rd⟩
    · rintro d g1 g2 x ⟨q0, q1, q2, q3, q4, q5, q6, q7, W', q8⟩
      exact ⟨q0.ext x (by omega), Nat.le_trans q1 x.size, q2.ext x, q3.ext x, q4.ext x, q5.ext x, q6.ext x, q7.ext x, W', q8.ext x⟩
    · exact fun _ _ _ _ h => h
    · refine ⟨p0, Nat.le_refl _, r1, r2, r4, r7, r11, o10, _, t6.congr fun i j _ _ => ?_⟩
      by_cases hia : i = a
      · subst hia; simp
      · have e : (i == a) = false := by simpa using hia
        have e2 : (a ≤ i) = (a + 1 ≤ i) := by simp; omega
        simp [e, e2]
    · rintro d q h12 z12 hq ⟨p0, y12, r1, r2, r4, r7, r11, o10, W12, t12⟩
      have hqm := mem_rest.1 (List.mem_of_getElem? hq)
      have p0_z := p0.size
      have r1_l := r1.lt
      have r2_l := r2.lt
      have r4_l := r4.lt
      have r7_l := r7.lt
      have r11_l := r11.lt
      have o10_l := o10.top
      simp -dsimp only [go_sem, ↓reduceIte, reduceCtorEq, Nat.reduceEqDiff, Nat.reduceAdd, Nat.reduceLeDiff, Nat.reduceMul, Int.reduceBEq, Int.reduceBNe, Int.reduceLT, Int.reduceLE, Int.reduceGT, Int.reduceGE, r1.cell, r2.cell, r4.cell, r7.cell, r11.cell]
      intro h13 x13
      have x13_z := x13.size
      replace p0 := p0.ext x13 (by omega)
      replace r1 := r1.ext x13
      replace r2 := r2.ext x13
      replace r4 := r4.ext x13
      replace r7 := r7.ext x13
      replace r11 := r11.ext x13
      replace o10 := o10.ext x13
      replace t12 := t12.ext x13
      simp -dsimp only [go_sem, ↓reduceIte, reduceCtorEq, Nat.reduceEqDiff, Nat.reduceAdd, Nat.reduceLeDiff, Nat.reduceMul, Int.reduceBEq, Int.reduceBNe, Int.reduceLT, Int.reduceLE, Int.reduceGT, Int.reduceGE, r1.cell, r2.cell, r4.cell, r7.cell, r11.cell]
      refine call_of (rel_Has (hs0.fr p0 (by omega)) a q) ?_
      rintro v h14 ⟨rfl, rfl⟩
      have hh : (inR m a && inR m q && N (a : Int).toNat (q : Int).toNat) = inN m N a q := by
        simp [inN, inR]
      rw [hh]
      simp -dsimp only [go_sem, ↓reduceIte, reduceCtorEq, Nat.reduceEqDiff, Nat.reduceAdd, Nat.reduceLeDiff, Nat.reduceMul, Int.reduceBEq, Int.reduceBNe, Int.reduceLT, Int.reduceLE, Int.reduceGT, Int.reduceGE, r1.cell, r2.cell, r4.cell, r7.cell, r11.cell]
      have hfree : ∀ j, j < max n m → ((rest (fun j => inN n M a j) (max n m) 0).take (d + 1)).contains j = (((rest (fun j => inN n M a j) (max n m) 0).take d).contains j || j == q) := fun j hj => by
        rw [List.take_add_one, hq, Option.toList_some, List.contains_append, List.contains_cons, List.contains_nil, Bool.or_false]
      cases hb : (inN m N a q != has) with
      | true =>
        have hb' : (inN m N a q == has) = false := by simpa [bne] using hb
        simp -dsimp only [go_sem, ↓reduceIte, reduceCtorEq, Nat.reduceEqDiff, Nat.reduceAdd, Nat.reduceLeDiff, Nat.reduceMul, Int.reduceBEq, Int.reduceBNe, Int.reduceLT, Int.reduceLE, Int.reduceGT, Int.reduceGE, r1.cell, r2.cell, r4.cell, r7.cell, r11.cell]
        refine call_of (rel_PutT hk t12 a q false) ?_
        rintro v15 h15 ⟨f15, z15, rfl, W15, t15⟩
        have f15_z := f15.size
        replace p0 := p0.fresh f15 (by omega)
        replace r1 := r1.fr f15 (by omega)
        replace r2 := r2.fr f15 (by omega)
        replace r4 := r4.fr f15 (by omega)
        replace r7 := r7.fr f15 (by omega)
        replace r11 := r11.fr f15 (by omega)
        replace o10 := o10.fr f15 (by have := o10.at_; omega)
        simp -dsimp only [go_sem, ↓reduceIte, reduceCtorEq, Nat.reduceEqDiff, Nat.reduceAdd, Nat.reduceLeDiff, Nat.reduceMul, Int.reduceBEq, Int.reduceBNe, Int.reduceLT, Int.reduceLE, Int.reduceGT, Int.reduceGE, r1.cell, r2.cell, r4.cell, r7.cell, r11.cell]
        refine ⟨p0, by omega, r1, r2, r4, r7, r11, o10, _, t15.congr fun i j hi hj => ?_⟩
        simp only [putM]
        have e1 : (inR (max n m : Nat) a && inR (max n m : Nat) q) = true := by simp [inR]; omega
        rw [e1, hfree j hj]
        by_cases hia : i = a
        · subst hia
          by_cases hjq : j = q
          · subst hjq; simp [hb']
          · have e2 : (j == q) = false := by simpa using hjq
            have e3 : ((q : Int) == (j : Int)) = false := by simp; omega
            simp [e2, e3]
        · have e : (i == a) = false := by simpa using hia
          have e3 : ((a : Int) == (i : Int)) = false := by simp; omega
          simp [e, e3]
      | false =>
        have hb' : (inN m N a q == has) = true := by simpa [bne] using hb
        simp -dsimp only [go_sem, ↓reduceIte, reduceCtorEq, Nat.reduceEqDiff, Nat.reduceAdd, Nat.reduceLeDiff, Nat.reduceMul, Int.reduceBEq, Int.reduceBNe, Int.reduceLT, Int.reduceLE, Int.reduceGT, Int.reduceGE, r1.cell, r2.cell, r4.cell, r7.cell, r11.cell]
        refine ⟨p0, by omega, r1, r2, r4, r7, r11, o10, _, t12.congr fun i j hi hj => ?_⟩
        rw [hfree j hj]
        by_cases hia : i = a
        · subst hia
          by_cases hjq : j = q
          · subst hjq; simp [hb']
          · have e2 : (j == q) = false := by simpa using hjq
            simp [e2]
        · have e : (i == a) = false := by simpa using hia
          simp [e]
    · rintro h12 z12 ⟨p0, y12, r1, r2, r4, r7, r11, o10, W12, t12⟩
      simp -dsimp only [go_sem, ↓reduceIte, reduceCtorEq, Nat.reduceEqDiff, Nat.reduceAdd, Nat.reduceLeDiff, Nat.reduceMul, Int.reduceBEq, Int.reduceBNe, Int.reduceLT, Int.reduceLE, Int.reduceGT, Int.reduceGE, r1.cell, r2.cell, r4.cell, r7.cell, r11.cell]
      simp -dsimp (disch := omega) only [wrap64]
      refine ⟨a + 1, by omega, by simp [Le, find], by omega, p0, by omega, r1, r2, r4, _, t12.congr fun i j hi hj => ?_⟩
      rw [List.take_length]
      by_cases hia : i = a
      · subst hia
        cases hM : inN n M i j with
        | false => simp
        | true =>
          have : (rest (fun j => inN n M i j) (max n m) 0).contains j = true := by
            rw [List.contains_iff_mem]; exact mem_rest.2 ⟨by omega, hj, hM⟩
          have e : ¬ i + 1 ≤ i := by omega
          rw [this]; simp [e]
      · have e : (i == a) = false := by simpa using hia
        simp [e]
    · exact fun _ _ _ h => h.elim
  · have : a = max n m := by omega
    subst this
    simp -dsimp only [go_sem, ↓reduceIte, reduceCtorEq, Nat.reduceEqDiff, Nat.reduceAdd, Nat.reduceLeDiff, Nat.reduceMul, Int.reduceBEq, Int.reduceBNe, Int.reduceLT, Int.reduceLE, Int.reduceGT, Int.reduceGE, r1.cell, r2.cell, r4.cell]
    refine ⟨p0, hk, _, _, _, _, rfl, ((t6.mono' (hi' := h6.size) (by omega)).lower (by omega)).congr fun i j hi hj => ?_⟩
    have : ¬ max n m ≤ i := by omega
    simp [keepM, this]
end Go.Proofs.Tst
namespace Go.Proofs.Tst
open Go Go.Vc
theorem rel_Inter {n m : Nat} {M N : Nat → Nat → Bool} {p q : Value} {lo hi lo' hi' : Nat} {h : Heap} (hr : ProgAt h lo hi p n M) (hs : ProgAt h lo' hi' q m N) (ht : TabAt h) :
    Con Tryd.prog 41 #[p, q] h fun v h' => Fr 0 0 h h' ∧ ProgAt h' h.size h'.size v (max n m) (interM n M m N) := by
  refine con_rel_Inter ?_
  simp -dsimp only [go_sem, ↓reduceIte, reduceCtorEq, Nat.reduceEqDiff, Nat.reduceAdd, Nat.reduceLeDiff, Nat.reduceMul, Int.reduceBEq, Int.reduceBNe, Int.reduceLT, Int.reduceLE, Int.reduceGT, Int.reduceGE]
  refine call_of (rel_keep hr hs ht true) ?_
  rintro v h1 ⟨p1, t1⟩
  simp -dsimp only [go_sem, ↓reduceIte, reduceCtorEq, Nat.reduceEqDiff, Nat.reduceAdd, Nat.reduceLeDiff, Nat.reduceMul, Int.reduceBEq, Int.reduceBNe, Int.reduceLT, Int.reduceLE, Int.reduceGT, Int.reduceGE]
  exact ⟨p1, t1.congr fun i j _ _ => by unfold keepM interM; cases inN m N i j <;> simp⟩
theorem rel_Minus {n m : Nat} {M N : Nat → Nat → Bool} {p q : Value} {lo hi lo' hi' : Nat} {h : Heap} (hr : ProgAt h lo hi p n M) (hs : ProgAt h lo' hi' q m N) (ht : TabAt h) :
    Con Tryd.prog 40 #[p, q] h fun v h' => Fr 0 0 h h' ∧ ProgAt h' h.size h'.size v (max n m) (minusM n M m N) := by
  refine con_rel_Minus ?_
  simp -dsimp only [go_sem, ↓reduceIte, reduceCtorEq, Nat.reduceEqDiff, Nat.reduceAdd, Nat.reduceLeDiff, Nat.reduceMul, Int.reduceBEq, Int.reduceBNe, Int.reduceLT, Int.reduceLE, Int.reduceGT, Int.reduceGE]
  refine call_of (rel_keep hr hs ht false) ?_
  rintro v h1 ⟨p1, t1⟩
  simp -dsimp only [go_sem, ↓reduceIte, reduceCtorEq, Nat.reduceEqDiff, Nat.reduceAdd, Nat.reduceLeDiff, Nat.reduceMul, Int.reduceBEq, Int.reduceBNe, Int.reduceLT, Int.reduceLE, Int.reduceGT, Int.reduceGE]
  exact ⟨p1, t1.congr fun i j _ _ => by unfold keepM minusM; cases inN m N i j <;> simp⟩
theorem rel_Ident (n : Int) {sv : Value} {l : List Bool} {h : Heap} (hl : Rd 1 h sv l.length (boolsV l)) (hb : l.length ≤ 4611686018427387904) :
    Con Tryd.prog 63 #[.int .i64 n, sv] h fun v h' => Fr 0 0 h h' ∧ ProgAt h' h.size h'.size v (clampN n) (idM l) := by
  refine con_rel_Ident ?_
  obtain ⟨sa, sc, rfl⟩ := hl.is
  simp -dsimp only [go_sem, ↓reduceIte, reduceCtorEq, Nat.reduceEqDiff, Nat.reduceAdd, Nat.reduceLeDiff, Nat.reduceMul, Int.reduceBEq, Int.reduceBNe, Int.reduceLT, Int.reduceLE, Int.reduceGT, Int.reduceGE]
  refine call_of (rel_New n h) ?_
  rintro v1 h1 ⟨p0, t1⟩
  simp -dsimp only [go_sem, ↓reduceIte, reduceCtorEq, Nat.reduceEqDiff, Nat.reduceAdd, Nat.reduceLeDiff, Nat.reduceMul, Int.reduceBEq, Int.reduceBNe, Int.reduceLT, Int.reduceLE, Int.reduceGT, Int.reduceGE]
  refine loop_intro (fun a : Nat => [(5, v1), (10, .slice sa l.length sc), (11, .int .i64 l.length), (12, .int .i64 a)])
    (fun a h' => a ≤ l.length ∧ Fr 0 0 h h' ∧ h1.size ≤ h'.size ∧ ProgAt h' h.size h1.size v1 (clampN n) fun i j => i == j && (decide (i < a) && atB l i)) (fun a => l.length - a) 0 ?_ ?_ ?_
  · simp [Le, find]
  · exact ⟨by omega, p0, by omega, t1.congr fun i j _ _ => by simp⟩
  rintro a h2 ⟨ha, p0, y2, t2⟩
  have := p0.size
  simp -dsimp only [go_sem, ↓reduceIte, reduceCtorEq, Nat.reduceEqDiff, Nat.reduceAdd, Nat.reduceLeDiff, Nat.reduceMul, Int.reduceBEq, Int.reduceBNe, Int.reduceLT, Int.reduceLE, Int.reduceGT, Int.reduceGE]
  refine ⟨fun hlt => ?_, fun hge => ?_⟩
  · have hlt : a < l.length := by omega
    have hq : l[a]? = some l[a] := by simp [hlt]
    generalize l[a] = b at hq
    simp -dsimp only [go_sem, ↓reduceIte, reduceCtorEq, Nat.reduceEqDiff, Nat.reduceAdd, Nat.reduceLeDiff, Nat.reduceMul, Int.reduceBEq, Int.reduceBNe, Int.reduceLT, Int.reduceLE, Int.reduceGT, Int.reduceGE]
    refine Chk_intro (by omega) ((hl.fr p0).idx (by omega) fun b2 o2 c2 => ?_)
    simp -dsimp only [go_sem, ↓reduceIte, reduceCtorEq, Nat.reduceEqDiff, Nat.reduceAdd, Nat.reduceLeDiff, Nat.reduceMul, Int.reduceBEq, Int.reduceBNe, Int.reduceLT, Int.reduceLE, Int.reduceGT, Int.reduceGE, c2 a _ (boolsV_get hq)]
    cases b with
    | true =>
      simp -dsimp only [go_sem, ↓reduceIte, reduceCtorEq, Nat.reduceEqDiff, Nat.reduceAdd, Nat.reduceLeDiff, Nat.reduceMul, Int.reduceBEq, Int.reduceBNe, Int.reduceLT, Int.reduceLE, Int.reduceGT, Int.reduceGE]
      refine call_of (rel_Put t2 a a true) ?_
      rintro v3 h3 ⟨f3, z3, rfl, t3⟩
      simp -dsimp only [go_sem, ↓reduceIte, reduceCtorEq, Nat.reduceEqDiff, Nat.reduceAdd, Nat.reduceLeDiff, Nat.reduceMul, Int.reduceBEq, Int.reduceBNe, Int.reduceLT, Int.reduceLE, Int.reduceGT, Int.reduceGE]
      simp -dsimp (disch := omega) only [wrap64]
      refine ⟨a + 1, by omega, by simp [Le, find], by omega, p0.fresh f3 (by have := t1.1; have := p0.size; omega), by omega, t3.congr fun i j hi hj => ?_⟩
      simp only [putM]
      by_cases hia : i = a
      · subst hia
        have e1 : (inR (clampN n) i) = true := by simp [inR]; omega
        by_cases hij : i = j
        · subst hij; simp [e1, atB_get hq]
        · have e2 : (i == j) = false := by simpa using hij
          have e3 : ((i : Int) == (j : Int)) = false := by simp; omega
          simp [e2, e3]
      · have e3 : ((a : Int) == (i : Int)) = false := by simp; omega
        have e4 : (i < a + 1) = (i < a) := by simp; omega
        simp [e3, e4]
    | false =>
      simp -dsimp only [go_sem, ↓reduceIte, reduceCtorEq, Nat.reduceEqDiff, Nat.reduceAdd, Nat.reduceLeDiff, Nat.reduceMul, Int.reduceBEq, Int.reduceBNe, Int.reduceLT, Int.reduceLE, Int.reduceGT, Int.reduceGE]
      simp -dsimp (disch := omega) only [wrap64]
      refine ⟨a + 1, by omega, by simp [Le, find], by omega, p0, by omega, t2.congr fun i j hi hj => ?_⟩
      by_cases hia : i = a
      · subst hia; simp [atB_get hq]
      · have e4 : (i < a + 1) = (i < a) := by simp; omega
        simp [e4]
  · have : a = l.length := by omega
    subst this
    simp -dsimp only [go_sem, ↓reduceIte, reduceCtorEq, Nat.reduceEqDiff, Nat.reduceAdd, Nat.reduceLeDiff, Nat.reduceMul, Int.reduceBEq, Int.reduceBNe, Int.reduceLT, Int.reduceLE, Int.reduceGT, Int.reduceGE]
    refine ⟨p0, (t2.congr fun i j _ _ => ?_).mono (Nat.le_refl _) (by omega)⟩
    by_cases hi : i < l.length
    · simp [idM, hi]
    · simp [idM, atB_out (show l.length ≤ i by omega)]
/-- Relations that are joined. -/
def RelsAt (h : Heap) (L : List (Value × Nat × (Nat → Nat → Bool))) : Prop := ∀ x ∈ L, ∃ lo hi, ProgAt h lo hi x.1 x.2.1 x.2.2
def maxN (L : List (Value × Nat × (Nat → Nat → Bool))) : Nat := L.foldl (fun n x => max n x.2.1) 0
def anyM (L : List (Value × Nat × (Nat → Nat → Bool))) (i j : Nat) : Bool := L.any fun x => inN x.2.1 x.2.2 i j
theorem foldl_max (L : List (Value × Nat × (Nat → Nat → Bool))) : ∀ n, n ≤ L.foldl (fun n x => max n x.2.1) n ∧ ∀ x ∈ L, x.2.1 ≤ L.foldl (fun n x => max n x.2.1) n := by
  induction L with
  | nil => intro n; simp
  | cons y L ih =>
    intro n
    obtain ⟨h1, h2⟩ := ih (max n y.2.1)
    refine ⟨by simp only [List.foldl_cons]; omega, fun x hx => ?_⟩
    rcases List.mem_cons.1 hx with rfl | hx
    · simp only [List.foldl_cons]; omega
    · exact h2 x hx
theorem le_maxN {L : List (Value × Nat × (Nat → Nat → Bool))} {x : Value × Nat × (Nat → Nat → Bool)} (h : x ∈ L) : x.2.1 ≤ maxN L := (foldl_max L 0).2 x h
theorem RelsAt.fr {h h' : Heap} {L : List (Value × Nat × (Nat → Nat → Bool))} (r : RelsAt h L) (f : Fr 0 0 h h') : RelsAt h' L := fun x hx => by
  obtain ⟨lo, hi, t⟩ := r x hx; exact ⟨lo, hi, t.fr f (by omega)⟩
theorem foldl_le (L : List (Value × Nat × (Nat → Nat → Bool))) (hL : ∀ x ∈ L, x.2.1 ≤ 256) : ∀ n, n ≤ 256 → L.foldl (fun n x => max n x.2.1) n ≤ 256 := by
  induction L with
  | nil => intro n h; simpa using h
  | cons y L ih =>
    intro n hn
    exact ih (fun x hx => hL x (List.mem_cons_of_mem _ hx)) _ (Nat.max_le.2 ⟨hn, hL y (List.mem_cons_self ..)⟩)
theorem rel_Union {lv : Value} {L : List (Value × Nat × (Nat → Nat → Bool))} {h : Heap} (hl : Rd 1 h lv L.length (L.map (·.1))) (hr : RelsAt h L) (hL : L.length ≤ 65536) :
    Con Tryd.prog 39 #[lv] h fun v h' => Fr 0 0 h h' ∧ ProgAt h' h.size h'.size v (maxN L) (anyM L) := by
  refine con_rel_Union ?_
  obtain ⟨la, lc, rfl⟩ := hl.is
  have hle : ∀ x ∈ L, x.2.1 ≤ 256 := fun x hx => by obtain ⟨lo, hi, t⟩ := hr x hx; exact t.1
  have htk : ∀ a, (hlt : a < L.length) → ((L.take (a + 1)).foldl (fun n x => max n x.2.1) 0) = max ((L.take a).foldl (fun n x => max n x.2.1) 0) L[a].2.1 := fun a hlt => by
    rw [List.take_succ_eq_append_getElem hlt, List.foldl_append]; rfl
  have htn : ∀ a, (L.take a).foldl (fun n x => max n x.2.1) 0 ≤ 256 := fun a => foldl_le _ (fun x hx => hle x (List.mem_of_mem_take hx)) 0 (by omega)
  simp -dsimp only [go_sem, ↓reduceIte, reduceCtorEq, Nat.reduceEqDiff, Nat.reduceAdd, Nat.reduceLeDiff, Nat.reduceMul, Int.reduceBEq, Int.reduceBNe, Int.reduceLT, Int.reduceLE, Int.reduceGT, Int.reduceGE]
  refine loop_intro (fun a : Nat => [(0, .slice la L.length lc), (3, .int .i64 ((L.take a).foldl (fun n x => max n x.2.1) 0 : Nat)), (11, .slice la L.length lc), (12, .int .i64 L.length), (13, .int .i64 a)])
    (fun a h' => a ≤ L.length ∧ h' = h) (fun a => L.length - a) 0 ?_ ?_ ?_
  · simp [Le, find]
  · exact ⟨by omega, rfl⟩
  rintro a h0 ⟨ha, hh⟩
  obtain rfl : h = h0 := hh.symm
  simp -dsimp only [go_sem, ↓reduceIte, reduceCtorEq, Nat.reduceEqDiff, Nat.reduceAdd, Nat.reduceLeDiff, Nat.reduceMul, Int.reduceBEq, Int.reduceBNe, Int.reduceLT, Int.reduceLE, Int.reduceGT, Int.reduceGE]
  refine ⟨fun hlt => ?_, fun hge => ?_⟩
  · have hlt : a < L.length := by omega
    have hq : (L.map (·.1))[a]? = some L[a].1 := by simp [hlt]
    have hmem : L[a] ∈ L := List.getElem_mem _
    have ht1 := htk a hlt
    generalize L[a] = x at hq hmem ht1
    obtain ⟨lo, hi, hn, pb, rb, R, W, hxv, t⟩ := hr x hmem
    rw [hxv] at hq
    simp -dsimp only [go_sem, ↓reduceIte, reduceCtorEq, Nat.reduceEqDiff, Nat.reduceAdd, Nat.reduceLeDiff, Nat.reduceMul, Int.reduceBEq, Int.reduceBNe, Int.reduceLT, Int.reduceLE, Int.reduceGT, Int.reduceGE]
    refine Chk_intro (by omega) (hl.idx (by omega) fun b2 o2 c2 => ?_)
    simp -dsimp only [go_sem, ↓reduceIte, reduceCtorEq, Nat.reduceEqDiff, Nat.reduceAdd, Nat.reduceLeDiff, Nat.reduceMul, Int.reduceBEq, Int.reduceBNe, Int.reduceLT, Int.reduceLE, Int.reduceGT, Int.reduceGE, c2 a _ hq, t.ptr.cell]
    simp -dsimp (disch := omega) only [wrap64]
    have e : (if (x.2.1 : Int) > ((L.take a).foldl (fun n x => max n x.2.1) 0 : Nat) then (x.2.1 : Int) else ((L.take a).foldl (fun n x => max n x.2.1) 0 : Nat)) = ((L.take (a + 1)).foldl (fun n x => max n x.2.1) 0 : Nat) := by
      rw [ht1]; split <;> omega
    rw [e]
    exact ⟨a + 1, by omega, by simp [Le, find], by omega⟩
  obtain rfl : a = L.length := by omega
  rw [List.take_length]
  have hmx : L.foldl (fun n x => max n x.2.1) 0 = maxN L := rfl
  rw [hmx]
  have hk : maxN L ≤ 256 := by have := htn L.length; rwa [List.take_length] at this
  have hcl : clampN (maxN L : Nat) = maxN L := by unfold clampN; omega
  simp -dsimp only [go_sem, ↓reduceIte, reduceCtorEq, Nat.reduceEqDiff, Nat.reduceAdd, Nat.reduceLeDiff, Nat.reduceMul, Int.reduceBEq, Int.reduceBNe, Int.reduceLT, Int.reduceLE, Int.reduceGT, Int.reduceGE]
  refine call_of (rel_New _ _) ?_
  rintro v1 h1 ⟨p0, t1⟩
  rw [hcl] at t1
  obtain ⟨-, pb1, rb1, R1, W1, rfl, t1⟩ := t1
  have at1 := t1.at_
  simp -dsimp only [go_sem, ↓reduceIte, reduceCtorEq, Nat.reduceEqDiff, Nat.reduceAdd, Nat.reduceLeDiff, Nat.reduceMul, Int.reduceBEq, Int.reduceBNe, Int.reduceLT, Int.reduceLE, Int.reduceGT, Int.reduceGE]
  refine loop_intro (fun a : Nat => [(6, .pointer (some ⟨pb1, 0, none⟩)), (26, .slice la L.length lc), (27, .int .i64 L.length), (28, .int .i64 a)])
    (fun a h' => a ≤ L.length ∧ Fr 0 0 h h' ∧ h1.size ≤ h'.size ∧ ∃ W, PTab h' h.size h1.size pb1 rb1 (maxN L) R1 W (anyM (L.take a))) (fun a => L.length - a) 0 ?_ ?_ ?_
  · simp [Le, find]
  · exact ⟨by omega, p0, by omega, _, t1.congr fun i j _ _ => by simp [anyM]⟩
  rintro a h2 ⟨ha, p0, y2, W2, t2⟩
  have p0_z := p0.size
  simp -dsimp only [go_sem, ↓reduceIte, reduceCtorEq, Nat.reduceEqDiff, Nat.reduceAdd, Nat.reduceLeDiff, Nat.reduceMul, Int.reduceBEq, Int.reduceBNe, Int.reduceLT, Int.reduceLE, Int.reduceGT, Int.reduceGE]
  refine ⟨fun hlt => ?_, fun hge => ?_⟩
  · have hlt : a < L.length := by omega
    have hq : (L.map (·.1))[a]? = some L[a].1 := by simp [hlt]
    have hmem : L[a] ∈ L := List.getElem_mem _
    have htk2 : L.take (a + 1) = L.take a ++ [L[a]] := List.take_succ_eq_append_getElem hlt
    generalize L[a] = x at hq hmem htk2
    obtain ⟨lo, hi, hn, pb, rb, R, W, hxv, t⟩ := hr x hmem
    rw [hxv] at hq
    have hnk := le_maxN hmem
    generalize hxn : x.2.1 = n at hn t hnk
    simp -dsimp only [go_sem, ↓reduceIte, reduceCtorEq, Nat.reduceEqDiff, Nat.reduceAdd, Nat.reduceLeDiff, Nat.reduceMul, Int.reduceBEq, Int.reduceBNe, Int.reduceLT, Int.reduceLE, Int.reduceGT, Int.reduceGE]
    refine Chk_intro (by omega) ((hl.fr p0).idx (by omega) fun b2 o2 c2 => ?_)
    have tp := t.fr p0 (by omega)
    simp -dsimp only [go_sem, ↓reduceIte, reduceCtorEq, Nat.reduceEqDiff, Nat.reduceAdd, Nat.reduceLeDiff, Nat.reduceMul, Int.reduceBEq, Int.reduceBNe, Int.reduceLT, Int.reduceLE, Int.reduceGT, Int.reduceGE, c2 a _ hq, tp.ptr.cell]
    refine loop_intro (fun q : Nat => [(6, .pointer (some ⟨pb1, 0, none⟩)), (26, .slice la L.length lc), (27, .int .i64 L.length), (28, .int .i64 a), (35, .slice (some ⟨rb, 0, none⟩) n n), (36, .int .i64 n), (37, .int .i64 q)])
      (fun q h' => q ≤ n ∧ Fr 0 0 h h' ∧ h1.size ≤ h'.size ∧ ∃ W, PTab h' h.size h1.size pb1 rb1 (maxN L) R1 W fun i j => anyM (L.take a) i j || (decide (i < q) && decide (j < n) && x.2.2 i j)) (fun q => n - q) 0 ?_ ?_ ?_
    · simp [Le, find]
    · exact ⟨by omega, p0, by omega, _, t2.congr fun i j _ _ => by simp⟩
    rintro q h3 ⟨hqn, p0, y3, W3, t3⟩
    have p0_z := p0.size
    simp -dsimp only [go_sem, ↓reduceIte, reduceCtorEq, Nat.reduceEqDiff, Nat.reduceAdd, Nat.reduceLeDiff, Nat.reduceMul, Int.reduceBEq, Int.reduceBNe, Int.reduceLT, Int.reduceLE, Int.reduceGT, Int.reduceGE]
    refine ⟨fun hlt2 => ?_, fun hge2 => ?_⟩
    · have hlt2 : q < n := by omega
      have tp := t.fr p0 (by omega)
      simp -dsimp only [go_sem, ↓reduceIte, reduceCtorEq, Nat.reduceEqDiff, Nat.reduceAdd, Nat.reduceLeDiff, Nat.reduceMul, Int.reduceBEq, Int.reduceBNe, Int.reduceLT, Int.reduceLE, Int.reduceGT, Int.reduceGE]
      refine Chk_intro (by omega) ?_
      simp -dsimp only [go_sem, ↓reduceIte, reduceCtorEq, Nat.reduceEqDiff, Nat.reduceAdd, Nat.reduceLeDiff, Nat.reduceMul, Int.reduceBEq, Int.reduceBNe, Int.reduceLT, Int.reduceLE, Int.reduceGT, Int.reduceGE, tp.rowsGet hlt2, t3.ptr.cell]
      refine Chk_intro (by omega) ?_
      simp -dsimp only [go_sem, ↓reduceIte, reduceCtorEq, Nat.reduceEqDiff, Nat.reduceAdd, Nat.reduceLeDiff, Nat.reduceMul, Int.reduceBEq, Int.reduceBNe, Int.reduceLT, Int.reduceLE, Int.reduceGT, Int.reduceGE, t3.rowsGet (show q < maxN L by omega)]
      intro b5 h5 n5
      have n5_a := n5.at_
      have n5_z := n5.size
      replace p0 := p0.fresh (n5.fr (lo := 0) (hi := 0)) (by omega)
      replace t3 := t3.fr (n5.fr (lo := 0) (hi := 0)) (by omega)
      have r5 := n5.row
      obtain ⟨g1, g2, g3, g4, g5, g6⟩ := t3.row q (by omega)
      obtain ⟨f1, f2, f3, f4, f5, f6⟩ := (t.fr p0 (by omega)).row q hlt2
      simp -dsimp only [go_sem, ↓reduceIte, reduceCtorEq, Nat.reduceEqDiff, Nat.reduceAdd, Nat.reduceLeDiff, Nat.reduceMul, Int.reduceBEq, Int.reduceBNe, Int.reduceLT, Int.reduceLE, Int.reduceGT, Int.reduceGE, r5.cell]
      refine call_of (row_join g1 f1 (r5.rd rfl) (fun j => (g6 j).1) (fun j => (f6 j).1) (by unfold nw; omega) (by unfold nw; omega)) ?_
      rintro _ h6 ⟨q6, z6, r6⟩
      have t6 := t3.updRow (by omega) q6 r6 (g6.or f6 (by omega))
      have q6_z := q6.size
      replace p0 := p0.fresh q6 (by omega)
      simp -dsimp only [go_sem, ↓reduceIte, reduceCtorEq, Nat.reduceEqDiff, Nat.reduceAdd, Nat.reduceLeDiff, Nat.reduceMul, Int.reduceBEq, Int.reduceBNe, Int.reduceLT, Int.reduceLE, Int.reduceGT, Int.reduceGE]
      simp -dsimp (disch := omega) only [wrap64]
      refine ⟨q + 1, by omega, by simp [Le, find], by omega, p0, by omega, _, t6.congr fun i j hi hj => ?_⟩
      by_cases hia : i = q
      · subst hia
        rw [upd_same]; simp
      · rw [upd_ne _ _ hia]
        have : (i < q + 1) = (i < q) := by simp; omega
        simp [this]
    · have : q = n := by omega
      subst this
      simp -dsimp only [go_sem, ↓reduceIte, reduceCtorEq, Nat.reduceEqDiff, Nat.reduceAdd, Nat.reduceLeDiff, Nat.reduceMul, Int.reduceBEq, Int.reduceBNe, Int.reduceLT, Int.reduceLE, Int.reduceGT, Int.reduceGE]
      simp -dsimp (disch := omega) only [wrap64]
      refine ⟨a + 1, by omega, by simp [Le, find], by omega, p0, by omega, _, t3.congr fun i j hi hj => ?_⟩
      rw [htk2]
      simp only [anyM, List.any_append, List.any_cons, List.any_nil, Bool.or_false, hxn]
      rfl
  · obtain rfl : a = L.length := by omega
    rw [List.take_length] at t2
    simp -dsimp only [go_sem, ↓reduceIte, reduceCtorEq, Nat.reduceEqDiff, Nat.reduceAdd, Nat.reduceLeDiff, Nat.reduceMul, Int.reduceBEq, Int.reduceBNe, Int.reduceLT, Int.reduceLE, Int.reduceGT, Int.reduceGE]
    exact ⟨p0, hk, _, _, _, _, rfl, t2.mono' y2⟩
end Go.Proofs.Tst
/-
  How many bits a word has: the library's way of adding them up.
-/
namespace Go.Vc
def bitsL : Nat → Nat → List Nat
  | 0, _ => []
  | n + 1, x => x % 2 :: bitsL n (x / 2)
def popN (n x : Nat) : Nat := (bitsL n x).sum
/-- Digits of k bits. -/
def vD (k : Nat) : List Nat → Nat
  | [] => 0
  | d :: l => d + 2 ^ k * vD k l
def vP (w : Nat) : List (Nat × Nat) → Nat
  | [] => 0
  | p :: l => p.1 + 2 ^ w * p.2 + 2 ^ (2 * w) * vP w l
def mD (w : Nat) : Nat → Nat
  | 0 => 0
  | n + 1 => (2 ^ w - 1) + 2 ^ (2 * w) * mD w n
def prs : List Nat → List (Nat × Nat)
  | a :: b :: l => (a, b) :: prs l
  | _ => []
theorem and_split {k a b c d : Nat} (ha : a < 2 ^ k) (hc : c < 2 ^ k) : (a + 2 ^ k * b) &&& (c + 2 ^ k * d) = (a &&& c) + 2 ^ k * (b &&& d) := by
  apply Nat.eq_of_testBit_eq; intro i
  have hac : a &&& c < 2 ^ k := Nat.and_lt_two_pow _ hc
  rw [Nat.testBit_and, Nat.add_comm a, Nat.add_comm c, Nat.add_comm (a &&& c), Nat.testBit_two_pow_mul_add _ ha, Nat.testBit_two_pow_mul_add _ hc, Nat.testBit_two_pow_mul_add _ hac]
  split
  · rw [Nat.testBit_and]
  · rw [Nat.testBit_and]
theorem pow2w (w : Nat) : 2 ^ (2 * w) = 2 ^ w * 2 ^ w := by rw [Nat.two_mul, Nat.pow_add]
theorem low_and {w a b : Nat} (ha : a < 2 ^ w) : (a + 2 ^ w * b) &&& (2 ^ w - 1) = a := by
  rw [Nat.and_two_pow_sub_one_eq_mod, Nat.add_mul_mod_self_left, Nat.mod_eq_of_lt ha]
theorem lt_sq {w a b : Nat} (ha : a < 2 ^ w) (hb : b < 2 ^ w) : a + 2 ^ w * b < 2 ^ (2 * w) := by
  rw [pow2w]
  have := Nat.mul_le_mul_left (2 ^ w) (show b ≤ 2 ^ w - 1 by omega)
  rw [Nat.mul_sub_one] at this
  have h2 : 2 ^ w ≤ 2 ^ w * 2 ^ w := Nat.le_mul_of_pos_left _ (Nat.two_pow_pos w)
  omega
theorem mask_lt (w : Nat) : 2 ^ w - 1 < 2 ^ (2 * w) := by
  have h1 : 2 ^ w ≤ 2 ^ (2 * w) := Nat.pow_le_pow_right (by decide) (by omega)
  have := Nat.two_pow_pos w
  omega
theorem even_and {w : Nat} : ∀ (l : List (Nat × Nat)), (∀ p ∈ l, p.1 < 2 ^ w ∧ p.2 < 2 ^ w) → vP w l &&& mD w l.length = vD (2 * w) (l.map (·.1))
  | [], _ => by simp [vP, mD, vD]
  | p :: l, h => by
    obtain ⟨h1, h2⟩ := h p (List.mem_cons_self ..)
    simp only [vP, List.length_cons, mD, List.map_cons, vD]
    rw [and_split (lt_sq h1 h2) (mask_lt w), low_and h1, even_and l fun q hq => h q (List.mem_cons_of_mem _ hq)]
theorem odd_and {w : Nat} : ∀ (l : List (Nat × Nat)), (∀ p ∈ l, p.1 < 2 ^ w ∧ p.2 < 2 ^ w) → vP w l / 2 ^ w &&& mD w l.length = vD (2 * w) (l.map (·.2))
  | [], _ => by simp [vP, mD, vD]
  | p :: l, h => by
    obtain ⟨h1, h2⟩ := h p (List.mem_cons_self ..)
    simp only [vP, List.length_cons, mD, List.map_cons, vD]
    have e : (p.1 + 2 ^ w * p.2 + 2 ^ (2 * w) * vP w l) / 2 ^ w = (p.2 + 2 ^ w * (vP w l % 2 ^ w)) + 2 ^ (2 * w) * (vP w l / 2 ^ w) := by
      rw [pow2w, Nat.add_assoc, Nat.mul_assoc, ← Nat.mul_add, Nat.add_comm p.1, Nat.mul_add_div (Nat.two_pow_pos w), Nat.div_eq_of_lt h1, Nat.add_zero, Nat.mul_assoc, Nat.add_assoc, ← Nat.mul_add, Nat.mod_add_div]
    rw [e, and_split (lt_sq h2 (Nat.mod_lt _ (Nat.two_pow_pos w))) (mask_lt w), low_and h2, odd_and l fun q hq => h q (List.mem_cons_of_mem _ hq)]
theorem vD_add (k : Nat) : ∀ (l : List (Nat × Nat)), vD k (l.map (·.2)) + vD k (l.map (·.1)) = vD k (l.map fun p => p.1 + p.2)
  | [] => rfl
  | p :: l => by
    simp only [List.map_cons, vD]
    rw [← vD_add k l, Nat.mul_add]; omega
theorem vP_prs (w : Nat) : ∀ (n : Nat) (l : List Nat), l.length = 2 * n → vP w (prs l) = vD w l ∧ (prs l).length = n ∧ (∀ p ∈ prs l, p.1 ∈ l ∧ p.2 ∈ l) ∧ ((prs l).map fun p => p.1 + p.2).sum = l.sum
  | 0, [], _ => ⟨rfl, rfl, by simp [prs], rfl⟩
  | 0, _ :: _, h => by simp at h
  | n + 1, [], h => by simp at h
  | n + 1, [_], h => by simp at h; omega
  | n + 1, a :: b :: l, h => by
    obtain ⟨h1, h2, h3, h4⟩ := vP_prs w n l (by simp at h; omega)
    refine ⟨?_, by simp [prs, h2], fun p hp => ?_, ?_⟩
    · simp only [prs, vP, vD, h1]
      rw [Nat.mul_add, pow2w, Nat.mul_assoc]; omega
    · simp only [prs, List.mem_cons] at hp ⊢
      rcases hp with rfl | hp
      · exact ⟨.inl rfl, .inr (.inl rfl)⟩
      · obtain ⟨g1, g2⟩ := h3 p hp; exact ⟨.inr (.inr g1), .inr (.inr g2)⟩
    · simp only [prs, List.map_cons, List.sum_cons, h4]; omega
/-- One stage: neighbours added. -/
def sums (l : List Nat) : List Nat := (prs l).map fun p => p.1 + p.2
theorem stage {w n : Nat} {l : List Nat} (hl : l.length = 2 * n) (hd : ∀ d ∈ l, d < 2 ^ w) :
    (vD w l / 2 ^ w &&& mD w n) + (vD w l &&& mD w n) = vD (2 * w) (sums l) := by
  obtain ⟨h1, h2, h3, h4⟩ := vP_prs w n l hl
  have hp : ∀ p ∈ prs l, p.1 < 2 ^ w ∧ p.2 < 2 ^ w := fun p hp => ⟨hd _ (h3 p hp).1, hd _ (h3 p hp).2⟩
  rw [← h1, ← h2, odd_and _ hp, even_and _ hp, vD_add]; rfl
theorem sums_facts {n m : Nat} {l : List Nat} (hl : l.length = 2 * n) (hd : ∀ d ∈ l, d ≤ m) : (sums l).length = n ∧ (sums l).sum = l.sum ∧ ∀ d ∈ sums l, d ≤ 2 * m := by
  obtain ⟨_, h2, h3, h4⟩ := vP_prs 0 n l hl
  refine ⟨by simp [sums, h2], h4, fun d hd' => ?_⟩
  obtain ⟨p, hp, rfl⟩ := List.mem_map.1 hd'
  have g := h3 p hp
  have := hd _ g.1; have := hd _ g.2; omega
theorem vD_bits : ∀ (n x : Nat), vD 1 (bitsL n x) = x % 2 ^ n
  | 0, x => by simp [bitsL, vD, Nat.mod_one]
  | n + 1, x => by
    simp only [bitsL, vD, vD_bits n]
    rw [show 2 ^ (n + 1) = 2 * 2 ^ n from Nat.pow_succ', Nat.mod_mul]
theorem len_bits : ∀ (n x : Nat), (bitsL n x).length = n
  | 0, _ => rfl
  | n + 1, x => by simp [bitsL, len_bits n]
theorem bits_le : ∀ (n x : Nat), ∀ d ∈ bitsL n x, d ≤ 1
  | 0, _, d, h => by simp [bitsL] at h
  | n + 1, x, d, h => by
    simp only [bitsL, List.mem_cons] at h
    rcases h with rfl | h
    · omega
    · exact bits_le n _ d h
theorem vD_lt {k : Nat} : ∀ (l : List Nat), (∀ d ∈ l, d < 2 ^ k) → vD k l < 2 ^ (k * l.length)
  | [], _ => by simp [vD]
  | d :: l, h => by
    have h1 := h d (List.mem_cons_self ..)
    have h2 := vD_lt l fun d hd => h d (List.mem_cons_of_mem _ hd)
    simp only [vD, List.length_cons]
    rw [Nat.mul_add, Nat.mul_one, Nat.pow_add, Nat.mul_comm (2 ^ (k * l.length))]
    have := Nat.mul_le_mul_left (2 ^ k) (show vD k l + 1 ≤ 2 ^ (k * l.length) from h2)
    rw [Nat.mul_add] at this; omega
theorem vP_lt {w : Nat} : ∀ (l : List (Nat × Nat)), (∀ p ∈ l, p.1 < 2 ^ w ∧ p.2 < 2 ^ w) → vP w l < 2 ^ (2 * w * l.length)
  | [], _ => by simp [vP]
  | p :: l, h => by
    obtain ⟨h1, h2⟩ := h p (List.mem_cons_self ..)
    have h3 := vP_lt l fun q hq => h q (List.mem_cons_of_mem _ hq)
    have h4 := lt_sq h1 h2
    simp only [vP, List.length_cons]
    rw [Nat.mul_add, Nat.mul_one, Nat.pow_add, Nat.mul_comm (2 ^ (2 * w * l.length))]
    have := Nat.mul_le_mul_left (2 ^ (2 * w)) (show vP w l + 1 ≤ 2 ^ (2 * w * l.length) from h3)
    rw [Nat.mul_add] at this; omega
/-- The bits of a word, by stages. -/
theorem pop_stages {x : Nat} (hx : x < 2 ^ 64) : ∃ l2 l4 : List Nat,
    (x / 2 ^ 1 &&& 6148914691236517205) + (x &&& 6148914691236517205) = vD 2 l2 ∧ vD 2 l2 < 2 ^ 64 ∧
    (vD 2 l2 / 2 ^ 2 &&& 3689348814741910323) + (vD 2 l2 &&& 3689348814741910323) = vD 4 l4 ∧ l4.length = 16 ∧ (∀ d ∈ l4, d ≤ 4) ∧ l4.sum = popN 64 x := by
  have e0 : vD 1 (bitsL 64 x) = x := by rw [vD_bits, Nat.mod_eq_of_lt hx]
  have f1 := sums_facts (n := 32) (m := 1) (by rw [len_bits]) (bits_le 64 x)
  have s1 := stage (w := 1) (n := 32) (l := bitsL 64 x) (by rw [len_bits]) fun d hd => by have := bits_le 64 x d hd; omega
  rw [e0, show mD 1 32 = 6148914691236517205 by decide] at s1
  have f2 := sums_facts (n := 16) (m := 2) f1.1 f1.2.2
  have s2 := stage (w := 2) (n := 16) (l := sums (bitsL 64 x)) f1.1 fun d hd => by have := f1.2.2 d hd; omega
  rw [show mD 2 16 = 3689348814741910323 by decide] at s2
  have hlt := vD_lt (k := 2) (sums (bitsL 64 x)) fun d hd => by have := f1.2.2 d hd; omega
  rw [f1.1] at hlt
  refine ⟨sums (bitsL 64 x), sums (sums (bitsL 64 x)), s1, hlt, s2, f2.1, f2.2.2, ?_⟩
  rw [f2.2.1, f1.2.1]; rfl
theorem vD_div {k d : Nat} {l : List Nat} (h : d < 2 ^ k) : vD k (d :: l) / 2 ^ k = vD k l := by
  simp only [vD]
  rw [Nat.add_mul_div_left _ _ (Nat.two_pow_pos k), Nat.div_eq_of_lt h, Nat.zero_add]
theorem vD_zip (k : Nat) : ∀ (l m : List Nat), l.length = m.length → vD k l + vD k m = vD k (List.zipWith (· + ·) l m)
  | [], [], _ => rfl
  | [], _ :: _, h => by simp at h
  | _ :: _, [], h => by simp at h
  | a :: l, b :: m, h => by
    simp only [List.zipWith, vD]
    rw [← vD_zip k l m (by simpa using h), Nat.mul_add]; omega
theorem vD_snoc (k : Nat) : ∀ (l : List Nat), vD k (l ++ [0]) = vD k l
  | [] => by simp [vD]
  | a :: l => by simp only [List.cons_append, vD, vD_snoc k l]
theorem vD_step {k d : Nat} {l : List Nat} (h : d < 2 ^ k) : vD k (d :: l) + vD k (d :: l) / 2 ^ k = vD k (List.zipWith (· + ·) (d :: l) (l ++ [0])) := by
  rw [vD_div h, ← vD_snoc k l, vD_zip _ _ _ (by simp)]
theorem div_two (x k j : Nat) : x / 2 ^ (k + j) = x / 2 ^ k / 2 ^ j := by rw [Nat.pow_add, Nat.div_div_eq_div_mul]
theorem pop_bytes {c0 c1 c2 c3 c4 c5 c6 c7 : Nat} (k0 : c0 ≤ 8) (k1 : c1 ≤ 8) (k2 : c2 ≤ 8) (k3 : c3 ≤ 8) (k4 : c4 ≤ 8) (k5 : c5 ≤ 8) (k6 : c6 ≤ 8) (k7 : c7 ≤ 8) :
    ∃ y1 y2 y3, vD 8 [c0, c1, c2, c3, c4, c5, c6, c7] + vD 8 [c0, c1, c2, c3, c4, c5, c6, c7] / 2 ^ 8 = y1 ∧ y1 + y1 / 2 ^ 16 = y2 ∧ y2 + y2 / 2 ^ 32 = y3 ∧ y3 < 2 ^ 64 ∧ y1 < 2 ^ 64 ∧ y2 < 2 ^ 64 ∧ y3 % 128 = c0 + c1 + c2 + c3 + c4 + c5 + c6 + c7 := by
  have e1 := vD_step (k := 8) (d := c0) (l := [c1, c2, c3, c4, c5, c6, c7]) (by omega)
  simp only [List.cons_append, List.nil_append, List.zipWith] at e1
  have d1 : vD 8 [c0 + c1, c1 + c2, c2 + c3, c3 + c4, c4 + c5, c5 + c6, c6 + c7, c7 + 0] / 2 ^ 16 = vD 8 [c2 + c3, c3 + c4, c4 + c5, c5 + c6, c6 + c7, c7 + 0] := by
    rw [show (16 : Nat) = 8 + 8 from rfl, div_two, vD_div (by omega), vD_div (by omega)]
  have e2 : vD 8 [c0 + c1, c1 + c2, c2 + c3, c3 + c4, c4 + c5, c5 + c6, c6 + c7, c7 + 0] + vD 8 [c2 + c3, c3 + c4, c4 + c5, c5 + c6, c6 + c7, c7 + 0, 0, 0] = vD 8 _ := vD_zip 8 _ _ rfl
  simp only [List.zipWith] at e2
  have z2 : vD 8 [c2 + c3, c3 + c4, c4 + c5, c5 + c6, c6 + c7, c7 + 0, 0, 0] = vD 8 [c2 + c3, c3 + c4, c4 + c5, c5 + c6, c6 + c7, c7 + 0] := by simp [vD]
  have d2 : vD 8 [c0 + c1 + (c2 + c3), c1 + c2 + (c3 + c4), c2 + c3 + (c4 + c5), c3 + c4 + (c5 + c6), c4 + c5 + (c6 + c7), c5 + c6 + (c7 + 0), c6 + c7 + 0, c7 + 0 + 0] / 2 ^ 32 = vD 8 [c4 + c5 + (c6 + c7), c5 + c6 + (c7 + 0), c6 + c7 + 0, c7 + 0 + 0] := by
    rw [show (32 : Nat) = 8 + 8 + 8 + 8 from rfl, div_two, div_two, div_two, vD_div (by omega), vD_div (by omega), vD_div (by omega), vD_div (by omega)]
  have e3 : vD 8 [c0 + c1 + (c2 + c3), c1 + c2 + (c3 + c4), c2 + c3 + (c4 + c5), c3 + c4 + (c5 + c6), c4 + c5 + (c6 + c7), c5 + c6 + (c7 + 0), c6 + c7 + 0, c7 + 0 + 0] + vD 8 [c4 + c5 + (c6 + c7), c5 + c6 + (c7 + 0), c6 + c7 + 0, c7 + 0 + 0, 0, 0, 0, 0] = vD 8 _ := vD_zip 8 _ _ rfl
  simp only [List.zipWith] at e3
  have z3 : vD 8 [c4 + c5 + (c6 + c7), c5 + c6 + (c7 + 0), c6 + c7 + 0, c7 + 0 + 0, 0, 0, 0, 0] = vD 8 [c4 + c5 + (c6 + c7), c5 + c6 + (c7 + 0), c6 + c7 + 0, c7 + 0 + 0] := by simp [vD]
  rw [z2, ← d1] at e2
  rw [z3, ← d2] at e3
  refine ⟨_, _, _, e1, e2, e3, ?_, ?_, ?_, ?_⟩
  · refine vD_lt (k := 8) _ fun d hd => ?_
    simp only [List.mem_cons, List.not_mem_nil, or_false] at hd
    omega
  · refine vD_lt (k := 8) _ fun d hd => ?_
    simp only [List.mem_cons, List.not_mem_nil, or_false] at hd
    omega
  · refine vD_lt (k := 8) _ fun d hd => ?_
    simp only [List.mem_cons, List.not_mem_nil, or_false] at hd
    omega
  · rw [vD, show (2 : Nat) ^ 8 = 128 * 2 from rfl, Nat.mul_assoc, Nat.add_mul_mod_self_left]
    omega
theorem pop_end {l4 : List Nat} (hl : l4.length = 16) (hd : ∀ d ∈ l4, d ≤ 4) : ∃ y8 : Nat, vD 4 l4 / 2 ^ 4 + vD 4 l4 < 2 ^ 64 ∧ (vD 4 l4 / 2 ^ 4 + vD 4 l4) &&& 1085102592571150095 = y8 ∧ ∃ y1 y2 y3 : Nat, y8 + y8 / 2 ^ 8 = y1 ∧ y1 + y1 / 2 ^ 16 = y2 ∧ y2 + y2 / 2 ^ 32 = y3 ∧ y3 < 2 ^ 64 ∧ y1 < 2 ^ 64 ∧ y2 < 2 ^ 64 ∧ y3 % 128 = l4.sum := by
  match l4, hl, hd with
  | [a0, a1, a2, a3, a4, a5, a6, a7, a8, a9, b0, b1, b2, b3, b4, b5], _, hd =>
    simp only [List.mem_cons, List.not_mem_nil, or_false, forall_eq_or_imp, forall_eq] at hd
    obtain ⟨h0, h1, h2, h3, h4, h5, h6, h7, h8, h9, g0, g1, g2, g3, g4, g5⟩ := hd
    have e := vD_step (k := 4) (d := a0) (l := [a1, a2, a3, a4, a5, a6, a7, a8, a9, b0, b1, b2, b3, b4, b5]) (by omega)
    simp only [List.cons_append, List.nil_append, List.zipWith] at e
    rw [Nat.add_comm] at e
    obtain ⟨e', _, _, _⟩ := vP_prs 4 8 [a0 + a1, a1 + a2, a2 + a3, a3 + a4, a4 + a5, a5 + a6, a6 + a7, a7 + a8, a8 + a9, a9 + b0, b0 + b1, b1 + b2, b2 + b3, b3 + b4, b4 + b5, b5 + 0] rfl
    simp only [prs] at e'
    rw [← e'] at e
    have hp : ∀ p ∈ [(a0 + a1, a1 + a2), (a2 + a3, a3 + a4), (a4 + a5, a5 + a6), (a6 + a7, a7 + a8), (a8 + a9, a9 + b0), (b0 + b1, b1 + b2), (b2 + b3, b3 + b4), (b4 + b5, b5 + 0)], p.1 < 2 ^ 4 ∧ p.2 < 2 ^ 4 := by
      simp only [List.mem_cons, List.not_mem_nil, or_false, forall_eq_or_imp, forall_eq]
      refine ⟨⟨?_, ?_⟩, ⟨?_, ?_⟩, ⟨?_, ?_⟩, ⟨?_, ?_⟩, ⟨?_, ?_⟩, ⟨?_, ?_⟩, ⟨?_, ?_⟩, ?_, ?_⟩ <;> omega
    have hand := even_and _ hp
    have hlt := vP_lt _ hp
    rw [show mD 4 (List.length [(a0 + a1, a1 + a2), (a2 + a3, a3 + a4), (a4 + a5, a5 + a6), (a6 + a7, a7 + a8), (a8 + a9, a9 + b0), (b0 + b1, b1 + b2), (b2 + b3, b3 + b4), (b4 + b5, b5 + 0)]) = 1085102592571150095 by simp only [List.length_cons, List.length_nil]; decide] at hand
    have hsum : [a0, a1, a2, a3, a4, a5, a6, a7, a8, a9, b0, b1, b2, b3, b4, b5].sum = (a0 + a1) + (a2 + a3) + (a4 + a5) + (a6 + a7) + (a8 + a9) + (b0 + b1) + (b2 + b3) + (b4 + b5) := by
      simp only [List.sum_cons, List.sum_nil, Nat.add_zero, Nat.add_assoc]
    clear hp
    refine ⟨_, by rw [e]; exact hlt, by rw [e, hand], ?_⟩
    rw [hsum]
    simp only [List.map_cons, List.map_nil]
    clear hand hlt e e' hsum
    exact pop_bytes (by omega) (by omega) (by omega) (by omega) (by omega) (by omega) (by omega) (by omega)
end Go.Vc
namespace Go.Proofs.Tst
open Go Go.Vc
theorem i64_bits {y : Nat} (h : y < 18446744073709551616) : (BitVec.ofInt 64 (IntKind.i64.wrap (y : Int))).toNat = y := by
  have e : ((2 ^ 64 : Nat) : Int) = 18446744073709551616 := by decide
  rw [BitVec.toNat_ofInt, IntKind.wrap_i64, e]
  by_cases h2 : y < 9223372036854775808
  · rw [show ((y : Int) + 9223372036854775808) % 18446744073709551616 - 9223372036854775808 = (y : Int) by omega]
    rw [show (y : Int) % 18446744073709551616 = (y : Int) by omega]
    rfl
  · rw [show ((y : Int) + 9223372036854775808) % 18446744073709551616 - 9223372036854775808 = (y : Int) - 18446744073709551616 by omega]
    rw [show ((y : Int) - 18446744073709551616) % 18446744073709551616 = (y : Int) by omega]
    rfl
theorem OnesCount64 {x : Nat} {h : Heap} (hx : x < 2 ^ 64) : Con Tryd.prog 89 #[.int .u64 x] h fun v h' => h' = h ∧ v = .int .i64 (popN 64 x) := by
  refine con_math_bits_OnesCount64 ?_
  obtain ⟨l2, l4, s1, b2, s2, hl, hd, hsum⟩ := pop_stages hx
  obtain ⟨y8, b4, e8, y1, y2, y3, e1, e2, e3, c3, c1, c2, hy⟩ := pop_end hl hd
  have k1 : (x : Int).fdiv (2 ^ min (Int.toNat 1) 64) = ((x / 2 ^ 1 : Nat) : Int) := shr64 x 1 (by decide)
  have k2 : ((vD 2 l2 : Nat) : Int).fdiv (2 ^ min (Int.toNat 2) 64) = ((vD 2 l2 / 2 ^ 2 : Nat) : Int) := shr64 _ 2 (by decide)
  have k3 : ((vD 4 l4 : Nat) : Int).fdiv (2 ^ min (Int.toNat 4) 64) = ((vD 4 l4 / 2 ^ 4 : Nat) : Int) := shr64 _ 4 (by decide)
  have k4 : ((y8 : Nat) : Int).fdiv (2 ^ min (Int.toNat 8) 64) = ((y8 / 2 ^ 8 : Nat) : Int) := shr64 _ 8 (by decide)
  have k5 : ((y1 : Nat) : Int).fdiv (2 ^ min (Int.toNat 16) 64) = ((y1 / 2 ^ 16 : Nat) : Int) := shr64 _ 16 (by decide)
  have k6 : ((y2 : Nat) : Int).fdiv (2 ^ min (Int.toNat 32) 64) = ((y2 / 2 ^ 32 : Nat) : Int) := shr64 _ 32 (by decide)
  have a1 : IntKind.u64.wrap ((BitVec.ofInt IntKind.u64.bits ((x / 2 ^ 1 : Nat) : Int) &&& BitVec.ofInt IntKind.u64.bits 6148914691236517205).toNat : Int) = _ := and64 (a := x / 2 ^ 1) (b := 6148914691236517205) (by omega) (by decide)
  have a1' : IntKind.u64.wrap ((BitVec.ofInt IntKind.u64.bits (x : Int) &&& BitVec.ofInt IntKind.u64.bits 6148914691236517205).toNat : Int) = _ := and64 (a := x) (b := 6148914691236517205) hx (by decide)
  have a2 : IntKind.u64.wrap ((BitVec.ofInt IntKind.u64.bits ((vD 2 l2 / 2 ^ 2 : Nat) : Int) &&& BitVec.ofInt IntKind.u64.bits 3689348814741910323).toNat : Int) = _ := and64 (a := vD 2 l2 / 2 ^ 2) (b := 3689348814741910323) (by omega) (by decide)
  have a2' : IntKind.u64.wrap ((BitVec.ofInt IntKind.u64.bits ((vD 2 l2 : Nat) : Int) &&& BitVec.ofInt IntKind.u64.bits 3689348814741910323).toNat : Int) = _ := and64 (a := vD 2 l2) (b := 3689348814741910323) b2 (by decide)
  have w1 : IntKind.u64.wrap (((x / 2 ^ 1 &&& 6148914691236517205 : Nat) : Int) + ((x &&& 6148914691236517205 : Nat) : Int)) = ((vD 2 l2 : Nat) : Int) := by
    rw [← s1, wrapu64 (by omega) (by rw [← Int.natCast_add, s1]; omega)]; rfl
  have hb4 : vD 4 l4 < 2 ^ 64 := by omega
  have w2 : IntKind.u64.wrap (((vD 2 l2 / 2 ^ 2 &&& 3689348814741910323 : Nat) : Int) + ((vD 2 l2 &&& 3689348814741910323 : Nat) : Int)) = ((vD 4 l4 : Nat) : Int) := by
    rw [← s2, wrapu64 (by omega) (by rw [← Int.natCast_add, s2]; omega)]; rfl
  have w3 : IntKind.u64.wrap (((vD 4 l4 / 2 ^ 4 : Nat) : Int) + ((vD 4 l4 : Nat) : Int)) = ((vD 4 l4 / 2 ^ 4 + vD 4 l4 : Nat) : Int) := by
    rw [wrapu64 (by omega) (by omega)]; omega
  have a3 : IntKind.u64.wrap ((BitVec.ofInt IntKind.u64.bits ((vD 4 l4 / 2 ^ 4 + vD 4 l4 : Nat) : Int) &&& BitVec.ofInt IntKind.u64.bits 1085102592571150095).toNat : Int) = (y8 : Int) := by
    rw [← e8]; exact and64 (a := vD 4 l4 / 2 ^ 4 + vD 4 l4) (b := 1085102592571150095) b4 (by decide)
  have w4 : IntKind.u64.wrap ((y8 : Int) + ((y8 / 2 ^ 8 : Nat) : Int)) = (y1 : Int) := by rw [wrapu64 (by omega) (by omega)]; omega
  have w5 : IntKind.u64.wrap ((y1 : Int) + ((y1 / 2 ^ 16 : Nat) : Int)) = (y2 : Int) := by rw [wrapu64 (by omega) (by omega)]; omega
  have w6 : IntKind.u64.wrap ((y2 : Int) + ((y2 / 2 ^ 32 : Nat) : Int)) = (y3 : Int) := by rw [wrapu64 (by omega) (by omega)]; omega
  simp -dsimp only [go_sem, ↓reduceIte, reduceCtorEq, Nat.reduceEqDiff, Nat.reduceAdd, Nat.reduceLeDiff, Nat.reduceMul, Int.reduceBEq, Int.reduceBNe, Int.reduceLT, Int.reduceLE, Int.reduceGT, Int.reduceGE, k1, a1, a1', w1, k2, a2, a2', w2, k3, w3, a3, k4, w4, k5, w5, k6, w6]
  have c0 : (BitVec.ofInt IntKind.i64.bits (IntKind.i64.wrap (y3 : Int))).toNat = y3 := by
    exact i64_bits c3
  have c5 : (BitVec.ofInt IntKind.i64.bits 127).toNat = 2 ^ 7 - 1 := by decide
  have hlt : popN 64 x < 128 := by rw [← hsum, ← hy]; omega
  rw [BitVec.toNat_and, c0, c5, Nat.and_two_pow_sub_one_eq_mod, show (2 : Nat) ^ 7 = 128 from rfl, hy, hsum]
  generalize popN 64 x = z at hlt
  rw [wrap64 (by omega) (by omega)]
theorem popN_filter (g : Nat → Bool) : ∀ (n x a : Nat), (∀ i, i < n → g (a + i) = x.testBit i) → ((List.range' a n).filter g).length = popN n x
  | 0, x, a, _ => rfl
  | n + 1, x, a, h => by
    have ih := popN_filter g n (x / 2) (a + 1) fun i hi => by
      have := h (i + 1) (by omega)
      rw [Nat.testBit_succ] at this
      rw [← this]; congr 1; omega
    have h0 := h 0 (by omega)
    rw [Nat.add_zero, Nat.testBit_zero] at h0
    rw [List.range'_succ, List.filter_cons]
    simp only [popN, bitsL, List.sum_cons] at ih ⊢
    rcases Nat.mod_two_eq_zero_or_one x with e | e
    · rw [h0, e]; simp [ih]
    · rw [h0, e]; simp [ih]; omega
/-- The bits of a row's words, added up. -/
def popW (W : Nat → Nat) : Nat → Nat
  | 0 => 0
  | k + 1 => popW W k + popN 64 (W k)
theorem popW_rest (W : Nat → Nat) : ∀ k, (rest (wbit W) (64 * k) 0).length = popW W k
  | 0 => by simp [rest, popW]
  | k + 1 => by
    have := popW_rest W k
    unfold rest at this ⊢
    rw [Nat.sub_zero] at this ⊢
    rw [show 64 * (k + 1) = 64 * k + 64 from by omega, ← List.range'_append_1, List.filter_append, List.length_append, this, popW]
    refine congrArg (popW W k + ·) ?_
    refine popN_filter _ 64 (W k) _ fun i hi => ?_
    unfold wbit
    rw [show (0 + 64 * k + i) / 64 = k from by omega, show (0 + 64 * k + i) % 64 = i from by omega]
theorem popW_bits {n : Nat} {W : Nat → Nat} {f : Nat → Bool} (b : Bits n W f) : popW W (nw n) = (rest f n 0).length := by rw [← rest_bits b, popW_rest]
theorem popN_le (n x : Nat) : popN n x ≤ n := by
  have := popN_filter (fun i => x.testBit i) n x 0 fun i _ => by rw [Nat.zero_add]
  rw [← this]; exact Nat.le_trans (List.length_filter_le _ _) (by simp)
theorem popW_le (W : Nat → Nat) : ∀ k, popW W k ≤ 64 * k
  | 0 => Nat.le_refl _
  | k + 1 => by have := popW_le W k; have := popN_le 64 (W k); simp only [popW]; omega
theorem length_pairsTo_succ (n : Nat) (M : Nat → Nat → Bool) (k : Nat) : (pairsTo n M (k + 1)).length = (pairsTo n M k).length + (rest (M k) n 0).length := by
  rw [pairsTo_succ, List.length_append, List.length_map]
theorem rel_Size {n : Nat} {M : Nat → Nat → Bool} {p : Value} {lo hi : Nat} {h : Heap} (hr : ProgAt h lo hi p n M) :
    Con Tryd.prog 60 #[p] h fun v h' => h' = h ∧ v = .int .i64 (pairsOf n M).length := by
  refine con_rel_Rel_Size ?_
  obtain ⟨hn, pb, rb, R, W, rfl, t⟩ := hr
  have hle : ∀ k, k ≤ n → (pairsTo n M k).length ≤ 65536 := fun k hk => Nat.le_trans (length_pairsTo_le n M k) (Nat.le_trans (Nat.mul_le_mul (show k ≤ 256 by omega) hn) (by omega))
  simp -dsimp only [go_sem, ↓reduceIte, reduceCtorEq, Nat.reduceEqDiff, Nat.reduceAdd, Nat.reduceLeDiff, Nat.reduceMul, Int.reduceBEq, Int.reduceBNe, Int.reduceLT, Int.reduceLE, Int.reduceGT, Int.reduceGE, t.ptr.cell]
  refine loop_intro (fun a : Nat => [(3, .int .i64 (pairsTo n M a).length), (11, .slice (some ⟨rb, 0, none⟩) n n), (12, .int .i64 n), (13, .int .i64 a)])
    (fun a h' => h' = h ∧ a ≤ n) (fun a => n - a) 0 ?_ ?_ ?_
  · simp [Le, find, pairsTo]
  · exact ⟨rfl, by omega⟩
  rintro a h0 ⟨hh, ha⟩
  obtain rfl : h = h0 := hh.symm
  simp -dsimp only [go_sem, ↓reduceIte, reduceCtorEq, Nat.reduceEqDiff, Nat.reduceAdd, Nat.reduceLeDiff, Nat.reduceMul, Int.reduceBEq, Int.reduceBNe, Int.reduceLT, Int.reduceLE, Int.reduceGT, Int.reduceGE]
  refine ⟨fun hlt => ?_, fun hge => ?_⟩
  · have hlt : a < n := by omega
    obtain ⟨g1, g2, g3, g4, g5, g6⟩ := t.row a hlt
    have h1 := hle a ha
    simp -dsimp only [go_sem, ↓reduceIte, reduceCtorEq, Nat.reduceEqDiff, Nat.reduceAdd, Nat.reduceLeDiff, Nat.reduceMul, Int.reduceBEq, Int.reduceBNe, Int.reduceLT, Int.reduceLE, Int.reduceGT, Int.reduceGE]
    refine Chk_intro (by omega) ?_
    simp -dsimp only [go_sem, ↓reduceIte, reduceCtorEq, Nat.reduceEqDiff, Nat.reduceAdd, Nat.reduceLeDiff, Nat.reduceMul, Int.reduceBEq, Int.reduceBNe, Int.reduceLT, Int.reduceLE, Int.reduceGT, Int.reduceGE, t.rowsGet hlt]
    refine loop_intro (fun j : Nat => [(3, .int .i64 ((pairsTo n M a).length + popW (W a) j : Nat)), (11, .slice (some ⟨rb, 0, none⟩) n n), (12, .int .i64 n), (13, .int .i64 a), (17, .slice (some ⟨R a, 0, none⟩) (nw n) (nw n)), (18, .int .i64 (nw n)), (19, .int .i64 j)])
      (fun j h' => h' = h ∧ j ≤ nw n) (fun j => nw n - j) 0 ?_ ?_ ?_
    · simp [Le, find, popW]
    · exact ⟨rfl, by omega⟩
    rintro j h0 ⟨hh, hj⟩
    obtain rfl : h = h0 := hh.symm
    simp -dsimp only [go_sem, ↓reduceIte, reduceCtorEq, Nat.reduceEqDiff, Nat.reduceAdd, Nat.reduceLeDiff, Nat.reduceMul, Int.reduceBEq, Int.reduceBNe, Int.reduceLT, Int.reduceLE, Int.reduceGT, Int.reduceGE]
    refine ⟨fun hlt2 => ?_, fun hge2 => ?_⟩
    · have hlt2 : j < nw n := by omega
      have hw := popW_le (W a) j
      have hp := popN_le 64 (W a j)
      have hnw : nw n ≤ 4 := by unfold nw; omega
      simp -dsimp only [go_sem, ↓reduceIte, reduceCtorEq, Nat.reduceEqDiff, Nat.reduceAdd, Nat.reduceLeDiff, Nat.reduceMul, Int.reduceBEq, Int.reduceBNe, Int.reduceLT, Int.reduceLE, Int.reduceGT, Int.reduceGE]
      refine Chk_intro (by omega) ?_
      simp -dsimp only [go_sem, ↓reduceIte, reduceCtorEq, Nat.reduceEqDiff, Nat.reduceAdd, Nat.reduceLeDiff, Nat.reduceMul, Int.reduceBEq, Int.reduceBNe, Int.reduceLT, Int.reduceLE, Int.reduceGT, Int.reduceGE, g1.cell, wrow_get hlt2]
      refine call_of (OnesCount64 (g6 j).1) ?_
      rintro v h2 ⟨rfl, rfl⟩
      simp -dsimp only [go_sem, ↓reduceIte, reduceCtorEq, Nat.reduceEqDiff, Nat.reduceAdd, Nat.reduceLeDiff, Nat.reduceMul, Int.reduceBEq, Int.reduceBNe, Int.reduceLT, Int.reduceLE, Int.reduceGT, Int.reduceGE]
      simp -dsimp (disch := omega) only [wrap64]
      refine ⟨j + 1, by omega, ?_, by omega⟩
      have e : (((pairsTo n M a).length + popW (W a) j : Nat) : Int) + (popN 64 (W a j) : Nat) = ((pairsTo n M a).length + popW (W a) (j + 1) : Nat) := by simp only [popW]; omega
      simp [Le, find, ← e]
    · obtain rfl : j = nw n := by omega
      rw [popW_bits g6, ← length_pairsTo_succ]
      simp -dsimp only [go_sem, ↓reduceIte, reduceCtorEq, Nat.reduceEqDiff, Nat.reduceAdd, Nat.reduceLeDiff, Nat.reduceMul, Int.reduceBEq, Int.reduceBNe, Int.reduceLT, Int.reduceLE, Int.reduceGT, Int.reduceGE]
      simp -dsimp (disch := omega) only [wrap64]
      exact ⟨a + 1, by omega, by simp [Le, find], by omega⟩
  · obtain rfl : a = n := by omega
    simp -dsimp only [go_sem, ↓reduceIte, reduceCtorEq, Nat.reduceEqDiff, Nat.reduceAdd, Nat.reduceLeDiff, Nat.reduceMul, Int.reduceBEq, Int.reduceBNe, Int.reduceLT, Int.reduceLE, Int.reduceGT, Int.reduceGE]
    rfl
end Go.Proofs.Tst
