/-
  Contracts of functions that the law reaches: what each returns and what it leaves in memory. Conditions stand in each.
-/
import Derived.Test.YtgedofjefepebaaDoorT5
set_option linter.all false
set_option maxRecDepth 2000
namespace Go.Proofs.Tst
open Go Go.Vc
theorem ref1_Union {n m : Nat} {M N : Nat → Nat → Bool} {rv sv : Value} {lo hi lo' hi' : Nat} {h : Heap} (hr : RefAt h lo hi rv n M) (hs : RefAt h lo' hi' sv m N) :
    Con Tryd.prog 92 #[rv, sv] h fun v h' => Fr 0 0 h h' ∧ RefAt h' h.size h'.size v (max n m) (unionM n M m N) := by
  refine con_ref1_Union ?_
  have hr0 := hr; have hs0 := hs
  obtain ⟨hn, s, R, rfl, t⟩ := hr
  obtain ⟨sa, sc, rfl⟩ := t.own.is
  obtain ⟨hm, s', R', rfl, t'⟩ := hs
  obtain ⟨sa', sc', rfl⟩ := t'.own.is
  have p0 : Fr 0 0 h h := .refl _ _ _
  simp -dsimp only [go_sem, ↓reduceIte, reduceCtorEq, Nat.reduceEqDiff, Nat.reduceAdd, Nat.reduceLeDiff, Nat.reduceMul, Int.reduceBEq, Int.reduceBNe, Int.reduceLT, Int.reduceLE, Int.reduceGT, Int.reduceGE]
  intro b2 h2 n2
  have n2_a := n2.at_
  have n2_z := n2.size
  replace p0 := p0.fresh (n2.fr (lo := 0) (hi := 0)) (by omega)
  have r2 := n2.row
  simp -dsimp only [go_sem, ↓reduceIte, reduceCtorEq, Nat.reduceEqDiff, Nat.reduceAdd, Nat.reduceLeDiff, Nat.reduceMul, Int.reduceBEq, Int.reduceBNe, Int.reduceLT, Int.reduceLE, Int.reduceGT, Int.reduceGE, r2.cell]
  intro b3 h3 n3
  have n3_a := n3.at_
  have n3_z := n3.size
  replace p0 := p0.fresh (n3.fr (lo := 0) (hi := 0)) (by omega)
  replace r2 := r2.fr (n3.fr (lo := 0) (hi := 0)) (by omega)
  have r3 := n3.row
  simp -dsimp only [go_sem, ↓reduceIte, reduceCtorEq, Nat.reduceEqDiff, Nat.reduceAdd, Nat.reduceLeDiff, Nat.reduceMul, Int.reduceBEq, Int.reduceBNe, Int.reduceLT, Int.reduceLE, Int.reduceGT, Int.reduceGE, r2.cell, r3.cell]
  intro b4 h4 n4
  have n4_a := n4.at_
  have n4_z := n4.size
  replace p0 := p0.fresh (n4.fr (lo := 0) (hi := 0)) (by omega)
  replace r2 := r2.fr (n4.fr (lo := 0) (hi := 0)) (by omega)
  replace r3 := r3.fr (n4.fr (lo := 0) (hi := 0)) (by omega)
  have r4 := n4.row
  simp -dsimp only [go_sem, ↓reduceIte, reduceCtorEq, Nat.reduceEqDiff, Nat.reduceAdd, Nat.reduceLeDiff, Nat.reduceMul, Int.reduceBEq, Int.reduceBNe, Int.reduceLT, Int.reduceLE, Int.reduceGT, Int.reduceGE, r2.cell, r3.cell, r4.cell]
  refine call_of (ref1_Wide (hr0.fr p0 (by omega)) m hm) ?_
  rintro v h6 ⟨f6, hmx, z, Z, rfl, t6⟩
  rw [Nat.max_comm] at hmx t6
  obtain ⟨za, zc, rfl⟩ := t6.own.is
  rw [Nat.max_comm]
  have t6_a := t6.own.at_
  have f6_z := f6.size
  replace p0 := p0.fresh f6 (by omega)
  replace r2 := r2.fr f6 (by omega)
  replace r3 := r3.fr f6 (by omega)
  replace r4 := r4.fr f6 (by omega)
  simp -dsimp only [go_sem, ↓reduceIte, reduceCtorEq, Nat.reduceEqDiff, Nat.reduceAdd, Nat.reduceLeDiff, Nat.reduceMul, Int.reduceBEq, Int.reduceBNe, Int.reduceLT, Int.reduceLE, Int.reduceGT, Int.reduceGE, r2.cell, r3.cell, r4.cell]
  intro b7 h7 n7
  have n7_a := n7.at_
  have n7_z := n7.size
  replace p0 := p0.fresh (n7.fr (lo := 0) (hi := 0)) (by omega)
  replace r2 := r2.fr (n7.fr (lo := 0) (hi := 0)) (by omega)
  replace r3 := r3.fr (n7.fr (lo := 0) (hi := 0)) (by omega)
  replace r4 := r4.fr (n7.fr (lo := 0) (hi := 0)) (by omega)
  replace t6 := t6.fr (n7.fr (lo := 0) (hi := 0)) (by omega)
  have r7 := n7.row
  simp -dsimp only [go_sem, ↓reduceIte, reduceCtorEq, Nat.reduceEqDiff, Nat.reduceAdd, Nat.reduceLeDiff, Nat.reduceMul, Int.reduceBEq, Int.reduceBNe, Int.reduceLT, Int.reduceLE, Int.reduceGT, Int.reduceGE, r2.cell, r3.cell, r4.cell, r7.cell]
  refine Chk_intro (r7.wr (by first | (simp; done) | (simp; omega))) fun h8 s8 => ?_
  have s8_z := s8.size
  replace p0 := p0.fresh s8.fr (by omega)
  replace r2 := r2.fr s8.fr (by omega)
  replace r3 := r3.fr s8.fr (by omega)
  replace r4 := r4.fr s8.fr (by omega)
  replace t6 := t6.fr s8.fr (by omega)
  replace r7 := s8.row r7
  try simp only [cl_int, cl_bool, cl_slice, cl_ptr, putAt_one, List.set_cons_zero, List.set_cons_succ, ivec_set, brow_upd] at r7
  simp -dsimp only [go_sem, ↓reduceIte, reduceCtorEq, Nat.reduceEqDiff, Nat.reduceAdd, Nat.reduceLeDiff, Nat.reduceMul, Int.reduceBEq, Int.reduceBNe, Int.reduceLT, Int.reduceLE, Int.reduceGT, Int.reduceGE, r2.cell, r3.cell, r4.cell, r7.cell]
  refine loop_intro (fun p : Nat => [(3, .pointer (some ⟨b3, 0, none⟩)), (4, .pointer (some ⟨b4, 0, none⟩)), (5, .pointer (some ⟨b7, 0, none⟩)), (6, .int .i64 p)]) (fun p h' => p ≤ m ∧ Fr 0 0 h h' ∧ h8.size ≤ h'.size ∧ Rw h' b3 [.int .i64 m, .slice sa' m sc'] ∧ Rw h' b4 [.int .i64 0, .slice none 0 0] ∧ Rw h' b7 [.int .i64 (max n m : Nat), .slice za (max n m) zc] ∧ Tab h' h4.size h6.size (.slice za (max n m) zc) (max n m) (max n m) Z (mixM p 0 m (unionM n M m N) (inN n M))) (fun p => m - p) 0 ?_ ?_ ?_
  · simp [Le, find]
  · exact ⟨by omega, p0, by omega, r3, r4, r7, t6.congr fun i j _ _ => by rw [mixM_zero]⟩
  rintro p hP ⟨hp, p0, yP, r3, r4, r7, t6⟩
  have p0_z := p0.size
  have r3_l := r3.lt
  have r4_l := r4.lt
  have r7_l := r7.lt
  simp -dsimp only [go_sem, ↓reduceIte, reduceCtorEq, Nat.reduceEqDiff, Nat.reduceAdd, Nat.reduceLeDiff, Nat.reduceMul, Int.reduceBEq, Int.reduceBNe, Int.reduceLT, Int.reduceLE, Int.reduceGT, Int.reduceGE, r3.cell, r4.cell, r7.cell]
  refine ⟨fun hlt1 => ?_, fun hge1 => ?_⟩
  · have hlt1 : p < m := by omega
    simp -dsimp only [go_sem, ↓reduceIte, reduceCtorEq, Nat.reduceEqDiff, Nat.reduceAdd, Nat.reduceLeDiff, Nat.reduceMul, Int.reduceBEq, Int.reduceBNe, Int.reduceLT, Int.reduceLE, Int.reduceGT, Int.reduceGE, r3.cell, r4.cell, r7.cell]
    refine loop_intro (fun q : Nat => [(3, .pointer (some ⟨b3, 0, none⟩)), (4, .pointer (some ⟨b4, 0, none⟩)), (5, .pointer (some ⟨b7, 0, none⟩)), (6, .int .i64 p), (7, .int .i64 q)]) (fun q h' => q ≤ m ∧ Fr 0 0 h h' ∧ h8.size ≤ h'.size ∧ Rw h' b3 [.int .i64 m, .slice sa' m sc'] ∧ Rw h' b4 [.int .i64 0, .slice none 0 0] ∧ Rw h' b7 [.int .i64 (max n m : Nat), .slice za (max n m) zc] ∧ Tab h' h4.size h6.size (.slice za (max n m) zc) (max n m) (max n m) Z (mixM p q m (unionM n M m N) (inN n M))) (fun q => m - q) 0 ?_ ?_ ?_
    · simp [Le, find]
    · exact ⟨by omega, p0, by omega, r3, r4, r7, t6⟩
    rintro q hQ ⟨hq, p0, yQ, r3, r4, r7, t6⟩
    have p0_z := p0.size
    have r3_l := r3.lt
    have r4_l := r4.lt
    have r7_l := r7.lt
    simp -dsimp only [go_sem, ↓reduceIte, reduceCtorEq, Nat.reduceEqDiff, Nat.reduceAdd, Nat.reduceLeDiff, Nat.reduceMul, Int.reduceBEq, Int.reduceBNe, Int.reduceLT, Int.reduceLE, Int.reduceGT, Int.reduceGE, r3.cell, r4.cell, r7.cell]
    refine ⟨fun hlt2 => ?_, fun hge2 => ?_⟩
    · have hlt2 : q < m := by omega
      have hold : mixM p q m (unionM n M m N) (inN n M) p q = inN n M p q := mixM_same rfl (Nat.le_refl _)
      simp -dsimp only [go_sem, ↓reduceIte, reduceCtorEq, Nat.reduceEqDiff, Nat.reduceAdd, Nat.reduceLeDiff, Nat.reduceMul, Int.reduceBEq, Int.reduceBNe, Int.reduceLT, Int.reduceLE, Int.reduceGT, Int.reduceGE, r3.cell, r4.cell, r7.cell]
      refine Chk_intro (by omega) (t6.idx (p := p) (by omega) fun b9 o9 c9 => ?_)
      simp -dsimp only [go_sem, ↓reduceIte, reduceCtorEq, Nat.reduceEqDiff, Nat.reduceAdd, Nat.reduceLeDiff, Nat.reduceMul, Int.reduceBEq, Int.reduceBNe, Int.reduceLT, Int.reduceLE, Int.reduceGT, Int.reduceGE, c9, r3.cell, r4.cell, r7.cell]
      refine Chk_intro (by omega) (t6.idx (p := p) (by omega) fun b9' o9' d9 => ?_)
      simp -dsimp only [go_sem, ↓reduceIte, reduceCtorEq, Nat.reduceEqDiff, Nat.reduceAdd, Nat.reduceLeDiff, Nat.reduceMul, Int.reduceBEq, Int.reduceBNe, Int.reduceLT, Int.reduceLE, Int.reduceGT, Int.reduceGE, d9, r3.cell, r4.cell, r7.cell]
      refine Chk_intro (by omega) ?_
      simp -dsimp only [go_sem, ↓reduceIte, reduceCtorEq, Nat.reduceEqDiff, Nat.reduceAdd, Nat.reduceLeDiff, Nat.reduceMul, Int.reduceBEq, Int.reduceBNe, Int.reduceLT, Int.reduceLE, Int.reduceGT, Int.reduceGE, t6.cell (show p < max n m by omega) (show q < max n m by omega), r3.cell, r4.cell, r7.cell]
      rw [hold]
      cases hM : inN n M p q with
      | true =>
        simp -dsimp only [go_sem, ↓reduceIte, reduceCtorEq, Nat.reduceEqDiff, Nat.reduceAdd, Nat.reduceLeDiff, Nat.reduceMul, Int.reduceBEq, Int.reduceBNe, Int.reduceLT, Int.reduceLE, Int.reduceGT, Int.reduceGE, r3.cell, r4.cell, r7.cell]
        refine Chk_intro (by omega) ?_
        simp -dsimp only [go_sem, ↓reduceIte, reduceCtorEq, Nat.reduceEqDiff, Nat.reduceAdd, Nat.reduceLeDiff, Nat.reduceMul, Int.reduceBEq, Int.reduceBNe, Int.reduceLT, Int.reduceLE, Int.reduceGT, Int.reduceGE, r3.cell, r4.cell, r7.cell]
        refine Chk_intro (t6.wr (by omega) (by omega)) fun h10 s10 => ?_
        have s10_z := s10.size
        have w_row := t6.row p (by omega)
        have t_new := t6.set (p := p) (q := q) (by omega) s10
        replace p0 := p0.fresh s10.fr (by omega)
        replace r3 := r3.fr s10.fr (by omega)
        replace r4 := r4.fr s10.fr (by omega)
        replace r7 := r7.fr s10.fr (by omega)
        simp -dsimp only [go_sem, ↓reduceIte, reduceCtorEq, Nat.reduceEqDiff, Nat.reduceAdd, Nat.reduceLeDiff, Nat.reduceMul, Int.reduceBEq, Int.reduceBNe, Int.reduceLT, Int.reduceLE, Int.reduceGT, Int.reduceGE, r3.cell, r4.cell, r7.cell]
        simp -dsimp (disch := omega) only [wrap64]
        exact ⟨q + 1, by omega, by simp [Le, find], by omega, p0, by omega, r3, r4, r7, t_new.congr fun i j hi hj => mixM_set (by simp [unionM, hM])⟩
      | false =>
        have tq := t'.fr p0 (by omega)
        simp -dsimp only [go_sem, ↓reduceIte, reduceCtorEq, Nat.reduceEqDiff, Nat.reduceAdd, Nat.reduceLeDiff, Nat.reduceMul, Int.reduceBEq, Int.reduceBNe, Int.reduceLT, Int.reduceLE, Int.reduceGT, Int.reduceGE, r3.cell, r4.cell, r7.cell]
        refine Chk_intro (by omega) (tq.idx (p := p) (by omega) fun b10 o10 c10 => ?_)
        simp -dsimp only [go_sem, ↓reduceIte, reduceCtorEq, Nat.reduceEqDiff, Nat.reduceAdd, Nat.reduceLeDiff, Nat.reduceMul, Int.reduceBEq, Int.reduceBNe, Int.reduceLT, Int.reduceLE, Int.reduceGT, Int.reduceGE, c10, r3.cell, r4.cell, r7.cell]
        refine Chk_intro (by omega) ?_
        simp -dsimp only [go_sem, ↓reduceIte, reduceCtorEq, Nat.reduceEqDiff, Nat.reduceAdd, Nat.reduceLeDiff, Nat.reduceMul, Int.reduceBEq, Int.reduceBNe, Int.reduceLT, Int.reduceLE, Int.reduceGT, Int.reduceGE, tq.cell hlt1 hlt2, r3.cell, r4.cell, r7.cell]
        refine Chk_intro (by omega) ?_
        simp -dsimp only [go_sem, ↓reduceIte, reduceCtorEq, Nat.reduceEqDiff, Nat.reduceAdd, Nat.reduceLeDiff, Nat.reduceMul, Int.reduceBEq, Int.reduceBNe, Int.reduceLT, Int.reduceLE, Int.reduceGT, Int.reduceGE, r3.cell, r4.cell, r7.cell]
        refine Chk_intro (t6.wr (by omega) (by omega)) fun h11 s11 => ?_
        have s11_z := s11.size
        have w_row := t6.row p (by omega)
        have t_new := t6.set (p := p) (q := q) (by omega) s11
        replace p0 := p0.fresh s11.fr (by omega)
        replace r3 := r3.fr s11.fr (by omega)
        replace r4 := r4.fr s11.fr (by omega)
        replace r7 := r7.fr s11.fr (by omega)
        simp -dsimp only [go_sem, ↓reduceIte, reduceCtorEq, Nat.reduceEqDiff, Nat.reduceAdd, Nat.reduceLeDiff, Nat.reduceMul, Int.reduceBEq, Int.reduceBNe, Int.reduceLT, Int.reduceLE, Int.reduceGT, Int.reduceGE, r3.cell, r4.cell, r7.cell]
        simp -dsimp (disch := omega) only [wrap64]
        exact ⟨q + 1, by omega, by simp [Le, find], by omega, p0, by omega, r3, r4, r7, t_new.congr fun i j hi hj => mixM_set (by simp [unionM, hM, inN_in hlt1 hlt2])⟩
    · have hqn : q = m := by omega
      simp -dsimp only [go_sem, ↓reduceIte, reduceCtorEq, Nat.reduceEqDiff, Nat.reduceAdd, Nat.reduceLeDiff, Nat.reduceMul, Int.reduceBEq, Int.reduceBNe, Int.reduceLT, Int.reduceLE, Int.reduceGT, Int.reduceGE, r3.cell, r4.cell, r7.cell]
      simp -dsimp (disch := omega) only [wrap64]
      exact ⟨p + 1, by omega, by simp [Le, find], by omega, p0, by omega, r3, r4, r7, t6.congr fun i j _ _ => by rw [hqn]; exact mixM_next⟩
  have hpn : p = m := by omega
  simp -dsimp only [go_sem, ↓reduceIte, reduceCtorEq, Nat.reduceEqDiff, Nat.reduceAdd, Nat.reduceLeDiff, Nat.reduceMul, Int.reduceBEq, Int.reduceBNe, Int.reduceLT, Int.reduceLE, Int.reduceGT, Int.reduceGE, r3.cell, r4.cell, r7.cell]
  refine Chk_intro (r4.wr (by first | (simp; done) | (simp; omega))) fun h9 s9 => ?_
  have s9_z := s9.size
  replace p0 := p0.fresh s9.fr (by omega)
  replace r3 := r3.fr s9.fr (by omega)
  replace r7 := r7.fr s9.fr (by omega)
  replace t6 := t6.fr s9.fr (by omega)
  replace r4 := s9.row r4
  try simp only [cl_int, cl_bool, cl_slice, cl_ptr, putAt_one, List.set_cons_zero, List.set_cons_succ, ivec_set, brow_upd] at r4
  simp -dsimp only [go_sem, ↓reduceIte, reduceCtorEq, Nat.reduceEqDiff, Nat.reduceAdd, Nat.reduceLeDiff, Nat.reduceMul, Int.reduceBEq, Int.reduceBNe, Int.reduceLT, Int.reduceLE, Int.reduceGT, Int.reduceGE, r3.cell, r4.cell, r7.cell]
  refine ⟨p0, hmx, _, Z, rfl, ((t6.mono (by omega) (by omega)).congr fun i j hi hj => ?_)⟩
  rw [hpn]
  by_cases hij : i < m ∧ j < m
  · rw [mixM_end hij.1 hij.2]
  · unfold mixM; rw [if_neg (by omega)]; simp [unionM, inN_out hij]
theorem ref1_Inverse {n : Nat} {M : Nat → Nat → Bool} {rv : Value} {lo hi : Nat} {h : Heap} (hr : RefAt h lo hi rv n M) :
    Con Tryd.prog 94 #[rv] h fun v h' => Fr 0 0 h h' ∧ RefAt h' h.size h'.size v n (invM M) := by
  refine con_ref1_Inverse ?_
  obtain ⟨hn, s, R, rfl, t⟩ := hr
  obtain ⟨sa, sc, rfl⟩ := t.own.is
  have hcl : clampN (n : Nat) = n := by unfold clampN; omega
  have p0 : Fr 0 0 h h := .refl _ _ _
  simp -dsimp only [go_sem, ↓reduceIte, reduceCtorEq, Nat.reduceEqDiff, Nat.reduceAdd, Nat.reduceLeDiff, Nat.reduceMul, Int.reduceBEq, Int.reduceBNe, Int.reduceLT, Int.reduceLE, Int.reduceGT, Int.reduceGE]
  intro b2 h2 n2
  have n2_a := n2.at_
  have n2_z := n2.size
  replace p0 := p0.fresh (n2.fr (lo := 0) (hi := 0)) (by omega)
  have r2 := n2.row
  simp -dsimp only [go_sem, ↓reduceIte, reduceCtorEq, Nat.reduceEqDiff, Nat.reduceAdd, Nat.reduceLeDiff, Nat.reduceMul, Int.reduceBEq, Int.reduceBNe, Int.reduceLT, Int.reduceLE, Int.reduceGT, Int.reduceGE, r2.cell]
  intro b4 h4 n4
  have n4_a := n4.at_
  have n4_z := n4.size
  replace p0 := p0.fresh (n4.fr (lo := 0) (hi := 0)) (by omega)
  replace r2 := r2.fr (n4.fr (lo := 0) (hi := 0)) (by omega)
  have r4 := n4.row
  simp -dsimp only [go_sem, ↓reduceIte, reduceCtorEq, Nat.reduceEqDiff, Nat.reduceAdd, Nat.reduceLeDiff, Nat.reduceMul, Int.reduceBEq, Int.reduceBNe, Int.reduceLT, Int.reduceLE, Int.reduceGT, Int.reduceGE, r2.cell, r4.cell]
  refine call_of (ref1_New n h4) ?_
  rintro v h6 ⟨f6, t6⟩
  rw [hcl] at t6
  obtain ⟨-, z, Z, rfl, t6⟩ := t6
  obtain ⟨za, zc, rfl⟩ := t6.own.is
  have t6_a := t6.own.at_
  have f6_z := f6.size
  replace p0 := p0.fresh f6 (by omega)
  replace r2 := r2.fr f6 (by omega)
  replace r4 := r4.fr f6 (by omega)
  simp -dsimp only [go_sem, ↓reduceIte, reduceCtorEq, Nat.reduceEqDiff, Nat.reduceAdd, Nat.reduceLeDiff, Nat.reduceMul, Int.reduceBEq, Int.reduceBNe, Int.reduceLT, Int.reduceLE, Int.reduceGT, Int.reduceGE, r2.cell, r4.cell]
  intro b7 h7 n7
  have n7_a := n7.at_
  have n7_z := n7.size
  replace p0 := p0.fresh (n7.fr (lo := 0) (hi := 0)) (by omega)
  replace r2 := r2.fr (n7.fr (lo := 0) (hi := 0)) (by omega)
  replace r4 := r4.fr (n7.fr (lo := 0) (hi := 0)) (by omega)
  replace t6 := t6.fr (n7.fr (lo := 0) (hi := 0)) (by omega)
  have r7 := n7.row
  simp -dsimp only [go_sem, ↓reduceIte, reduceCtorEq, Nat.reduceEqDiff, Nat.reduceAdd, Nat.reduceLeDiff, Nat.reduceMul, Int.reduceBEq, Int.reduceBNe, Int.reduceLT, Int.reduceLE, Int.reduceGT, Int.reduceGE, r2.cell, r4.cell, r7.cell]
  refine Chk_intro (r7.wr (by first | (simp; done) | (simp; omega))) fun h8 s8 => ?_
  have s8_z := s8.size
  replace p0 := p0.fresh s8.fr (by omega)
  replace r2 := r2.fr s8.fr (by omega)
  replace r4 := r4.fr s8.fr (by omega)
  replace t6 := t6.fr s8.fr (by omega)
  replace r7 := s8.row r7
  try simp only [cl_int, cl_bool, cl_slice, cl_ptr, putAt_one, List.set_cons_zero, List.set_cons_succ, ivec_set, brow_upd] at r7
  simp -dsimp only [go_sem, ↓reduceIte, reduceCtorEq, Nat.reduceEqDiff, Nat.reduceAdd, Nat.reduceLeDiff, Nat.reduceMul, Int.reduceBEq, Int.reduceBNe, Int.reduceLT, Int.reduceLE, Int.reduceGT, Int.reduceGE, r2.cell, r4.cell, r7.cell]
  refine loop_intro (fun p : Nat => [(1, .pointer (some ⟨b2, 0, none⟩)), (2, .pointer (some ⟨b4, 0, none⟩)), (3, .pointer (some ⟨b7, 0, none⟩)), (4, .int .i64 p)]) (fun p h' => p ≤ n ∧ Fr 0 0 h h' ∧ h8.size ≤ h'.size ∧ Rw h' b2 [.int .i64 n, .slice sa n sc] ∧ Rw h' b4 [.int .i64 0, .slice none 0 0] ∧ Rw h' b7 [.int .i64 n, .slice za n zc] ∧ Tab h' h4.size h6.size (.slice za n zc) n n Z (fun i j => mixM p 0 n (M) (fun _ _ => false) j i)) (fun p => n - p) 0 ?_ ?_ ?_
  · simp [Le, find]
  · exact ⟨by omega, p0, by omega, r2, r4, r7, t6.congr fun i j _ _ => by rw [mixM_zero]⟩
  rintro p hP ⟨hp, p0, yP, r2, r4, r7, t6⟩
  have p0_z := p0.size
  have r2_l := r2.lt
  have r4_l := r4.lt
  have r7_l := r7.lt
  simp -dsimp only [go_sem, ↓reduceIte, reduceCtorEq, Nat.reduceEqDiff, Nat.reduceAdd, Nat.reduceLeDiff, Nat.reduceMul, Int.reduceBEq, Int.reduceBNe, Int.reduceLT, Int.reduceLE, Int.reduceGT, Int.reduceGE, r2.cell, r4.cell, r7.cell]
  refine ⟨fun hlt1 => ?_, fun hge1 => ?_⟩
  · have hlt1 : p < n := by omega
    simp -dsimp only [go_sem, ↓reduceIte, reduceCtorEq, Nat.reduceEqDiff, Nat.reduceAdd, Nat.reduceLeDiff, Nat.reduceMul, Int.reduceBEq, Int.reduceBNe, Int.reduceLT, Int.reduceLE, Int.reduceGT, Int.reduceGE, r2.cell, r4.cell, r7.cell]
    refine loop_intro (fun q : Nat => [(1, .pointer (some ⟨b2, 0, none⟩)), (2, .pointer (some ⟨b4, 0, none⟩)), (3, .pointer (some ⟨b7, 0, none⟩)), (4, .int .i64 p), (5, .int .i64 q)]) (fun q h' => q ≤ n ∧ Fr 0 0 h h' ∧ h8.size ≤ h'.size ∧ Rw h' b2 [.int .i64 n, .slice sa n sc] ∧ Rw h' b4 [.int .i64 0, .slice none 0 0] ∧ Rw h' b7 [.int .i64 n, .slice za n zc] ∧ Tab h' h4.size h6.size (.slice za n zc) n n Z (fun i j => mixM p q n (M) (fun _ _ => false) j i)) (fun q => n - q) 0 ?_ ?_ ?_
    · simp [Le, find]
    · exact ⟨by omega, p0, by omega, r2, r4, r7, t6⟩
    rintro q hQ ⟨hq, p0, yQ, r2, r4, r7, t6⟩
    have p0_z := p0.size
    have r2_l := r2.lt
    have r4_l := r4.lt
    have r7_l := r7.lt
    simp -dsimp only [go_sem, ↓reduceIte, reduceCtorEq, Nat.reduceEqDiff, Nat.reduceAdd, Nat.reduceLeDiff, Nat.reduceMul, Int.reduceBEq, Int.reduceBNe, Int.reduceLT, Int.reduceLE, Int.reduceGT, Int.reduceGE, r2.cell, r4.cell, r7.cell]
    refine ⟨fun hlt2 => ?_, fun hge2 => ?_⟩
    · have hlt2 : q < n := by omega
      have tp := t.fr p0 (by omega)
      simp -dsimp only [go_sem, ↓reduceIte, reduceCtorEq, Nat.reduceEqDiff, Nat.reduceAdd, Nat.reduceLeDiff, Nat.reduceMul, Int.reduceBEq, Int.reduceBNe, Int.reduceLT, Int.reduceLE, Int.reduceGT, Int.reduceGE, r2.cell, r4.cell, r7.cell]
      refine Chk_intro (by omega) (t6.idx (p := q) (by omega) fun b9 o9 c9 => ?_)
      simp -dsimp only [go_sem, ↓reduceIte, reduceCtorEq, Nat.reduceEqDiff, Nat.reduceAdd, Nat.reduceLeDiff, Nat.reduceMul, Int.reduceBEq, Int.reduceBNe, Int.reduceLT, Int.reduceLE, Int.reduceGT, Int.reduceGE, c9, r2.cell, r4.cell, r7.cell]
      refine Chk_intro (by omega) (tp.idx (p := p) (by omega) fun b9' o9' d9 => ?_)
      simp -dsimp only [go_sem, ↓reduceIte, reduceCtorEq, Nat.reduceEqDiff, Nat.reduceAdd, Nat.reduceLeDiff, Nat.reduceMul, Int.reduceBEq, Int.reduceBNe, Int.reduceLT, Int.reduceLE, Int.reduceGT, Int.reduceGE, d9, r2.cell, r4.cell, r7.cell]
      refine Chk_intro (by omega) ?_
      simp -dsimp only [go_sem, ↓reduceIte, reduceCtorEq, Nat.reduceEqDiff, Nat.reduceAdd, Nat.reduceLeDiff, Nat.reduceMul, Int.reduceBEq, Int.reduceBNe, Int.reduceLT, Int.reduceLE, Int.reduceGT, Int.reduceGE, tp.cell hlt1 hlt2, r2.cell, r4.cell, r7.cell]
      refine Chk_intro (by omega) ?_
      simp -dsimp only [go_sem, ↓reduceIte, reduceCtorEq, Nat.reduceEqDiff, Nat.reduceAdd, Nat.reduceLeDiff, Nat.reduceMul, Int.reduceBEq, Int.reduceBNe, Int.reduceLT, Int.reduceLE, Int.reduceGT, Int.reduceGE, r2.cell, r4.cell, r7.cell]
      refine Chk_intro (t6.wr (by omega) (by omega)) fun h10 s10 => ?_
      have s10_z := s10.size
      have w_row := t6.row q (by omega)
      have t_new := t6.set (p := q) (q := p) (by omega) s10
      replace p0 := p0.fresh s10.fr (by omega)
      replace r2 := r2.fr s10.fr (by omega)
      replace r4 := r4.fr s10.fr (by omega)
      replace r7 := r7.fr s10.fr (by omega)
      simp -dsimp only [go_sem, ↓reduceIte, reduceCtorEq, Nat.reduceEqDiff, Nat.reduceAdd, Nat.reduceLeDiff, Nat.reduceMul, Int.reduceBEq, Int.reduceBNe, Int.reduceLT, Int.reduceLE, Int.reduceGT, Int.reduceGE, r2.cell, r4.cell, r7.cell]
      simp -dsimp (disch := omega) only [wrap64]
      exact ⟨q + 1, by omega, by simp [Le, find], by omega, p0, by omega, r2, r4, r7, t_new.congr fun i j hi hj => mixM_set' (rfl)⟩
    · have hqn : q = n := by omega
      simp -dsimp only [go_sem, ↓reduceIte, reduceCtorEq, Nat.reduceEqDiff, Nat.reduceAdd, Nat.reduceLeDiff, Nat.reduceMul, Int.reduceBEq, Int.reduceBNe, Int.reduceLT, Int.reduceLE, Int.reduceGT, Int.reduceGE, r2.cell, r4.cell, r7.cell]
      simp -dsimp (disch := omega) only [wrap64]
      exact ⟨p + 1, by omega, by simp [Le, find], by omega, p0, by omega, r2, r4, r7, t6.congr fun i j _ _ => by rw [hqn]; exact mixM_next⟩
  have hpn : p = n := by omega
  simp -dsimp only [go_sem, ↓reduceIte, reduceCtorEq, Nat.reduceEqDiff, Nat.reduceAdd, Nat.reduceLeDiff, Nat.reduceMul, Int.reduceBEq, Int.reduceBNe, Int.reduceLT, Int.reduceLE, Int.reduceGT, Int.reduceGE, r2.cell, r4.cell, r7.cell]
  refine Chk_intro (r4.wr (by first | (simp; done) | (simp; omega))) fun h9 s9 => ?_
  have s9_z := s9.size
  replace p0 := p0.fresh s9.fr (by omega)
  replace r2 := r2.fr s9.fr (by omega)
  replace r7 := r7.fr s9.fr (by omega)
  replace t6 := t6.fr s9.fr (by omega)
  replace r4 := s9.row r4
  try simp only [cl_int, cl_bool, cl_slice, cl_ptr, putAt_one, List.set_cons_zero, List.set_cons_succ, ivec_set, brow_upd] at r4
  simp -dsimp only [go_sem, ↓reduceIte, reduceCtorEq, Nat.reduceEqDiff, Nat.reduceAdd, Nat.reduceLeDiff, Nat.reduceMul, Int.reduceBEq, Int.reduceBNe, Int.reduceLT, Int.reduceLE, Int.reduceGT, Int.reduceGE, r2.cell, r4.cell, r7.cell]
  refine ⟨p0, hn, _, Z, rfl, ((t6.mono (by omega) (by omega)).congr fun i j hi hj => ?_)⟩
  rw [hpn, mixM_end hj hi]; rfl
theorem ref1_Cut {n : Nat} {M : Nat → Nat → Bool} {rv rsv csv : Value} {rs cs : List Bool} {lo hi : Nat} {h : Heap} (hr : RefAt h lo hi rv n M) (hs : Rd 1 h rsv rs.length (boolsV rs)) (hc : Rd 1 h csv cs.length (boolsV cs)) :
    Con Tryd.prog 95 #[rv, rsv, csv] h fun v h' => Fr 0 0 h h' ∧ RefAt h' h.size h'.size v n (cutM M rs cs) := by
  refine con_ref1_Cut ?_
  obtain ⟨hn, s, R, rfl, t⟩ := hr
  obtain ⟨sa, sc, rfl⟩ := t.own.is
  have hcl : clampN (n : Nat) = n := by unfold clampN; omega
  have p0 : Fr 0 0 h h := .refl _ _ _
  simp -dsimp only [go_sem, ↓reduceIte, reduceCtorEq, Nat.reduceEqDiff, Nat.reduceAdd, Nat.reduceLeDiff, Nat.reduceMul, Int.reduceBEq, Int.reduceBNe, Int.reduceLT, Int.reduceLE, Int.reduceGT, Int.reduceGE]
  intro b3 h3 n3
  have n3_a := n3.at_
  have n3_z := n3.size
  replace p0 := p0.fresh (n3.fr (lo := 0) (hi := 0)) (by omega)
  have r3 := n3.row
  simp -dsimp only [go_sem, ↓reduceIte, reduceCtorEq, Nat.reduceEqDiff, Nat.reduceAdd, Nat.reduceLeDiff, Nat.reduceMul, Int.reduceBEq, Int.reduceBNe, Int.reduceLT, Int.reduceLE, Int.reduceGT, Int.reduceGE, r3.cell]
  intro b6 h4 n4
  have n4_a := n4.at_
  have n4_z := n4.size
  replace p0 := p0.fresh (n4.fr (lo := 0) (hi := 0)) (by omega)
  replace r3 := r3.fr (n4.fr (lo := 0) (hi := 0)) (by omega)
  have r6 := n4.row
  simp -dsimp only [go_sem, ↓reduceIte, reduceCtorEq, Nat.reduceEqDiff, Nat.reduceAdd, Nat.reduceLeDiff, Nat.reduceMul, Int.reduceBEq, Int.reduceBNe, Int.reduceLT, Int.reduceLE, Int.reduceGT, Int.reduceGE, r3.cell, r6.cell]
  refine call_of (ref1_New n h4) ?_
  rintro v h6 ⟨f6, t6⟩
  rw [hcl] at t6
  obtain ⟨-, z, Z, rfl, t6⟩ := t6
  obtain ⟨za, zc, rfl⟩ := t6.own.is
  have t6_a := t6.own.at_
  have f6_z := f6.size
  replace p0 := p0.fresh f6 (by omega)
  replace r3 := r3.fr f6 (by omega)
  replace r6 := r6.fr f6 (by omega)
  simp -dsimp only [go_sem, ↓reduceIte, reduceCtorEq, Nat.reduceEqDiff, Nat.reduceAdd, Nat.reduceLeDiff, Nat.reduceMul, Int.reduceBEq, Int.reduceBNe, Int.reduceLT, Int.reduceLE, Int.reduceGT, Int.reduceGE, r3.cell, r6.cell]
  intro b7 h7 n7
  have n7_a := n7.at_
  have n7_z := n7.size
  replace p0 := p0.fresh (n7.fr (lo := 0) (hi := 0)) (by omega)
  replace r3 := r3.fr (n7.fr (lo := 0) (hi := 0)) (by omega)
  replace r6 := r6.fr (n7.fr (lo := 0) (hi := 0)) (by omega)
  replace t6 := t6.fr (n7.fr (lo := 0) (hi := 0)) (by omega)
  have r7 := n7.row
  simp -dsimp only [go_sem, ↓reduceIte, reduceCtorEq, Nat.reduceEqDiff, Nat.reduceAdd, Nat.reduceLeDiff, Nat.reduceMul, Int.reduceBEq, Int.reduceBNe, Int.reduceLT, Int.reduceLE, Int.reduceGT, Int.reduceGE, r3.cell, r6.cell, r7.cell]
  refine Chk_intro (r7.wr (by first | (simp; done) | (simp; omega))) fun h8 s8 => ?_
  have s8_z := s8.size
  replace p0 := p0.fresh s8.fr (by omega)
  replace r3 := r3.fr s8.fr (by omega)
  replace r6 := r6.fr s8.fr (by omega)
  replace t6 := t6.fr s8.fr (by omega)
  replace r7 := s8.row r7
  try simp only [cl_int, cl_bool, cl_slice, cl_ptr, putAt_one, List.set_cons_zero, List.set_cons_succ, ivec_set, brow_upd] at r7
  simp -dsimp only [go_sem, ↓reduceIte, reduceCtorEq, Nat.reduceEqDiff, Nat.reduceAdd, Nat.reduceLeDiff, Nat.reduceMul, Int.reduceBEq, Int.reduceBNe, Int.reduceLT, Int.reduceLE, Int.reduceGT, Int.reduceGE, r3.cell, r6.cell, r7.cell]
  refine loop_intro (fun p : Nat => [(1, rsv), (2, csv), (3, .pointer (some ⟨b3, 0, none⟩)), (6, .pointer (some ⟨b6, 0, none⟩)), (7, .pointer (some ⟨b7, 0, none⟩)), (8, .int .i64 p)]) (fun p h' => p ≤ n ∧ Fr 0 0 h h' ∧ h8.size ≤ h'.size ∧ Rw h' b3 [.int .i64 n, .slice sa n sc] ∧ Rw h' b6 [.int .i64 0, .slice none 0 0] ∧ Rw h' b7 [.int .i64 n, .slice za n zc] ∧ Tab h' h4.size h6.size (.slice za n zc) n n Z (mixM p 0 n (cutM M rs cs) (fun _ _ => false))) (fun p => n - p) 0 ?_ ?_ ?_
  · simp [Le, find]
  · exact ⟨by omega, p0, by omega, r3, r6, r7, t6.congr fun i j _ _ => by rw [mixM_zero]⟩
  rintro p hP ⟨hp, p0, yP, r3, r6, r7, t6⟩
  have p0_z := p0.size
  have r3_l := r3.lt
  have r6_l := r6.lt
  have r7_l := r7.lt
  simp -dsimp only [go_sem, ↓reduceIte, reduceCtorEq, Nat.reduceEqDiff, Nat.reduceAdd, Nat.reduceLeDiff, Nat.reduceMul, Int.reduceBEq, Int.reduceBNe, Int.reduceLT, Int.reduceLE, Int.reduceGT, Int.reduceGE, r3.cell, r6.cell, r7.cell]
  refine ⟨fun hlt1 => ?_, fun hge1 => ?_⟩
  · have hlt1 : p < n := by omega
    simp -dsimp only [go_sem, ↓reduceIte, reduceCtorEq, Nat.reduceEqDiff, Nat.reduceAdd, Nat.reduceLeDiff, Nat.reduceMul, Int.reduceBEq, Int.reduceBNe, Int.reduceLT, Int.reduceLE, Int.reduceGT, Int.reduceGE, r3.cell, r6.cell, r7.cell]
    refine loop_intro (fun q : Nat => [(1, rsv), (2, csv), (3, .pointer (some ⟨b3, 0, none⟩)), (6, .pointer (some ⟨b6, 0, none⟩)), (7, .pointer (some ⟨b7, 0, none⟩)), (8, .int .i64 p), (9, .int .i64 q)]) (fun q h' => q ≤ n ∧ Fr 0 0 h h' ∧ h8.size ≤ h'.size ∧ Rw h' b3 [.int .i64 n, .slice sa n sc] ∧ Rw h' b6 [.int .i64 0, .slice none 0 0] ∧ Rw h' b7 [.int .i64 n, .slice za n zc] ∧ Tab h' h4.size h6.size (.slice za n zc) n n Z (mixM p q n (cutM M rs cs) (fun _ _ => false))) (fun q => n - q) 0 ?_ ?_ ?_
    · simp [Le, find]
    · exact ⟨by omega, p0, by omega, r3, r6, r7, t6⟩
    rintro q hQ ⟨hq, p0, yQ, r3, r6, r7, t6⟩
    have p0_z := p0.size
    have r3_l := r3.lt
    have r6_l := r6.lt
    have r7_l := r7.lt
    simp -dsimp only [go_sem, ↓reduceIte, reduceCtorEq, Nat.reduceEqDiff, Nat.reduceAdd, Nat.reduceLeDiff, Nat.reduceMul, Int.reduceBEq, Int.reduceBNe, Int.reduceLT, Int.reduceLE, Int.reduceGT, Int.reduceGE, r3.cell, r6.cell, r7.cell]
    refine ⟨fun hlt2 => ?_, fun hge2 => ?_⟩
    · have hlt2 : q < n := by omega
      have tp := t.fr p0 (by omega)
      simp -dsimp only [go_sem, ↓reduceIte, reduceCtorEq, Nat.reduceEqDiff, Nat.reduceAdd, Nat.reduceLeDiff, Nat.reduceMul, Int.reduceBEq, Int.reduceBNe, Int.reduceLT, Int.reduceLE, Int.reduceGT, Int.reduceGE, r3.cell, r6.cell, r7.cell]
      refine Chk_intro (by omega) (t6.idx (p := p) (by omega) fun b9 o9 c9 => ?_)
      simp -dsimp only [go_sem, ↓reduceIte, reduceCtorEq, Nat.reduceEqDiff, Nat.reduceAdd, Nat.reduceLeDiff, Nat.reduceMul, Int.reduceBEq, Int.reduceBNe, Int.reduceLT, Int.reduceLE, Int.reduceGT, Int.reduceGE, c9, r3.cell, r6.cell, r7.cell]
      refine Chk_intro (by omega) (tp.idx (p := p) (by omega) fun b9' o9' d9 => ?_)
      simp -dsimp only [go_sem, ↓reduceIte, reduceCtorEq, Nat.reduceEqDiff, Nat.reduceAdd, Nat.reduceLeDiff, Nat.reduceMul, Int.reduceBEq, Int.reduceBNe, Int.reduceLT, Int.reduceLE, Int.reduceGT, Int.reduceGE, d9, r3.cell, r6.cell, r7.cell]
      refine Chk_intro (by omega) ?_
      have e9 := tp.cell hlt1 hlt2
      simp -dsimp only [go_sem, ↓reduceIte, reduceCtorEq, Nat.reduceEqDiff, Nat.reduceAdd, Nat.reduceLeDiff, Nat.reduceMul, Int.reduceBEq, Int.reduceBNe, Int.reduceLT, Int.reduceLE, Int.reduceGT, Int.reduceGE, e9, r3.cell, r6.cell, r7.cell]
      cases hM : M p q with
      | false =>
        simp -dsimp only [go_sem, ↓reduceIte, reduceCtorEq, Nat.reduceEqDiff, Nat.reduceAdd, Nat.reduceLeDiff, Nat.reduceMul, Int.reduceBEq, Int.reduceBNe, Int.reduceLT, Int.reduceLE, Int.reduceGT, Int.reduceGE, r3.cell, r6.cell, r7.cell]
        refine Chk_intro (by omega) ?_
        simp -dsimp only [go_sem, ↓reduceIte, reduceCtorEq, Nat.reduceEqDiff, Nat.reduceAdd, Nat.reduceLeDiff, Nat.reduceMul, Int.reduceBEq, Int.reduceBNe, Int.reduceLT, Int.reduceLE, Int.reduceGT, Int.reduceGE, r3.cell, r6.cell, r7.cell]
        refine Chk_intro (t6.wr (by omega) (by omega)) fun h10 s10 => ?_
        have s10_z := s10.size
        have w_row := t6.row p (by omega)
        have t_new := t6.set (p := p) (q := q) (by omega) s10
        replace p0 := p0.fresh s10.fr (by omega)
        replace r3 := r3.fr s10.fr (by omega)
        replace r6 := r6.fr s10.fr (by omega)
        replace r7 := r7.fr s10.fr (by omega)
        simp -dsimp only [go_sem, ↓reduceIte, reduceCtorEq, Nat.reduceEqDiff, Nat.reduceAdd, Nat.reduceLeDiff, Nat.reduceMul, Int.reduceBEq, Int.reduceBNe, Int.reduceLT, Int.reduceLE, Int.reduceGT, Int.reduceGE, r3.cell, r6.cell, r7.cell]
        simp -dsimp (disch := omega) only [wrap64]
        exact ⟨q + 1, by omega, by simp [Le, find], by omega, p0, by omega, r3, r6, r7, t_new.congr fun i j hi hj => mixM_set (by simp [cutM, hM])⟩
      | true =>
        rw [hM] at e9
        simp -dsimp only [go_sem, ↓reduceIte, reduceCtorEq, Nat.reduceEqDiff, Nat.reduceAdd, Nat.reduceLeDiff, Nat.reduceMul, Int.reduceBEq, Int.reduceBNe, Int.reduceLT, Int.reduceLE, Int.reduceGT, Int.reduceGE, r3.cell, r6.cell, r7.cell]
        refine call_of (ref1_At (hs.fr p0) p) ?_
        rintro v h10 ⟨rfl, rfl⟩
        simp -dsimp only [go_sem, ↓reduceIte, reduceCtorEq, Nat.reduceEqDiff, Nat.reduceAdd, Nat.reduceLeDiff, Nat.reduceMul, Int.reduceBEq, Int.reduceBNe, Int.reduceLT, Int.reduceLE, Int.reduceGT, Int.reduceGE, c9, d9, e9, r3.cell, r6.cell, r7.cell]
        cases hR : atB rs p with
        | false =>
          simp -dsimp only [go_sem, ↓reduceIte, reduceCtorEq, Nat.reduceEqDiff, Nat.reduceAdd, Nat.reduceLeDiff, Nat.reduceMul, Int.reduceBEq, Int.reduceBNe, Int.reduceLT, Int.reduceLE, Int.reduceGT, Int.reduceGE, r3.cell, r6.cell, r7.cell]
          refine Chk_intro (by omega) ?_
          simp -dsimp only [go_sem, ↓reduceIte, reduceCtorEq, Nat.reduceEqDiff, Nat.reduceAdd, Nat.reduceLeDiff, Nat.reduceMul, Int.reduceBEq, Int.reduceBNe, Int.reduceLT, Int.reduceLE, Int.reduceGT, Int.reduceGE, r3.cell, r6.cell, r7.cell]
          refine Chk_intro (t6.wr (by omega) (by omega)) fun h11 s11 => ?_
          have s11_z := s11.size
          have w_row := t6.row p (by omega)
          have t_new := t6.set (p := p) (q := q) (by omega) s11
          replace p0 := p0.fresh s11.fr (by omega)
          replace r3 := r3.fr s11.fr (by omega)
          replace r6 := r6.fr s11.fr (by omega)
          replace r7 := r7.fr s11.fr (by omega)
          simp -dsimp only [go_sem, ↓reduceIte, reduceCtorEq, Nat.reduceEqDiff, Nat.reduceAdd, Nat.reduceLeDiff, Nat.reduceMul, Int.reduceBEq, Int.reduceBNe, Int.reduceLT, Int.reduceLE, Int.reduceGT, Int.reduceGE, r3.cell, r6.cell, r7.cell]
          simp -dsimp (disch := omega) only [wrap64]
          exact ⟨q + 1, by omega, by simp [Le, find], by omega, p0, by omega, r3, r6, r7, t_new.congr fun i j hi hj => mixM_set (by simp [cutM, hR])⟩
        | true =>
          simp -dsimp only [go_sem, ↓reduceIte, reduceCtorEq, Nat.reduceEqDiff, Nat.reduceAdd, Nat.reduceLeDiff, Nat.reduceMul, Int.reduceBEq, Int.reduceBNe, Int.reduceLT, Int.reduceLE, Int.reduceGT, Int.reduceGE, r3.cell, r6.cell, r7.cell]
          refine call_of (ref1_At (hc.fr p0) q) ?_
          rintro v h11 ⟨rfl, rfl⟩
          simp -dsimp only [go_sem, ↓reduceIte, reduceCtorEq, Nat.reduceEqDiff, Nat.reduceAdd, Nat.reduceLeDiff, Nat.reduceMul, Int.reduceBEq, Int.reduceBNe, Int.reduceLT, Int.reduceLE, Int.reduceGT, Int.reduceGE, c9, d9, e9, r3.cell, r6.cell, r7.cell]
          refine Chk_intro (by omega) ?_
          simp -dsimp only [go_sem, ↓reduceIte, reduceCtorEq, Nat.reduceEqDiff, Nat.reduceAdd, Nat.reduceLeDiff, Nat.reduceMul, Int.reduceBEq, Int.reduceBNe, Int.reduceLT, Int.reduceLE, Int.reduceGT, Int.reduceGE, r3.cell, r6.cell, r7.cell]
          refine Chk_intro (t6.wr (by omega) (by omega)) fun h12 s12 => ?_
          have s12_z := s12.size
          have w_row := t6.row p (by omega)
          have t_new := t6.set (p := p) (q := q) (by omega) s12
          replace p0 := p0.fresh s12.fr (by omega)
          replace r3 := r3.fr s12.fr (by omega)
          replace r6 := r6.fr s12.fr (by omega)
          replace r7 := r7.fr s12.fr (by omega)
          simp -dsimp only [go_sem, ↓reduceIte, reduceCtorEq, Nat.reduceEqDiff, Nat.reduceAdd, Nat.reduceLeDiff, Nat.reduceMul, Int.reduceBEq, Int.reduceBNe, Int.reduceLT, Int.reduceLE, Int.reduceGT, Int.reduceGE, r3.cell, r6.cell, r7.cell]
          simp -dsimp (disch := omega) only [wrap64]
          exact ⟨q + 1, by omega, by simp [Le, find], by omega, p0, by omega, r3, r6, r7, t_new.congr fun i j hi hj => mixM_set (by simp [cutM, hM, hR])⟩
    · have hqn : q = n := by omega
      simp -dsimp only [go_sem, ↓reduceIte, reduceCtorEq, Nat.reduceEqDiff, Nat.reduceAdd, Nat.reduceLeDiff, Nat.reduceMul, Int.reduceBEq, Int.reduceBNe, Int.reduceLT, Int.reduceLE, Int.reduceGT, Int.reduceGE, r3.cell, r6.cell, r7.cell]
      simp -dsimp (disch := omega) only [wrap64]
      exact ⟨p + 1, by omega, by simp [Le, find], by omega, p0, by omega, r3, r6, r7, t6.congr fun i j _ _ => by rw [hqn]; exact mixM_next⟩
  have hpn : p = n := by omega
  simp -dsimp only [go_sem, ↓reduceIte, reduceCtorEq, Nat.reduceEqDiff, Nat.reduceAdd, Nat.reduceLeDiff, Nat.reduceMul, Int.reduceBEq, Int.reduceBNe, Int.reduceLT, Int.reduceLE, Int.reduceGT, Int.reduceGE, r3.cell, r6.cell, r7.cell]
  refine Chk_intro (r6.wr (by first | (simp; done) | (simp; omega))) fun h9 s9 => ?_
  have s9_z := s9.size
  replace p0 := p0.fresh s9.fr (by omega)
  replace r3 := r3.fr s9.fr (by omega)
  replace r7 := r7.fr s9.fr (by omega)
  replace t6 := t6.fr s9.fr (by omega)
  replace r6 := s9.row r6
  try simp only [cl_int, cl_bool, cl_slice, cl_ptr, putAt_one, List.set_cons_zero, List.set_cons_succ, ivec_set, brow_upd] at r6
  simp -dsimp only [go_sem, ↓reduceIte, reduceCtorEq, Nat.reduceEqDiff, Nat.reduceAdd, Nat.reduceLeDiff, Nat.reduceMul, Int.reduceBEq, Int.reduceBNe, Int.reduceLT, Int.reduceLE, Int.reduceGT, Int.reduceGE, r3.cell, r6.cell, r7.cell]
  refine ⟨p0, hn, _, Z, rfl, ((t6.mono (by omega) (by omega)).congr fun i j hi hj => ?_)⟩
  rw [hpn, mixM_end hi hj]
theorem ref1_Ident (n : Int) {sv : Value} {l : List Bool} {h : Heap} (hl : Rd 1 h sv l.length (boolsV l)) :
    Con Tryd.prog 91 #[.int .i64 n, sv] h fun v h' => Fr 0 0 h h' ∧ RefAt h' h.size h'.size v (clampN n) (idM l) := by
  refine con_ref1_Ident ?_
  have p0 : Fr 0 0 h h := .refl _ _ _
  simp -dsimp only [go_sem, ↓reduceIte, reduceCtorEq, Nat.reduceEqDiff, Nat.reduceAdd, Nat.reduceLeDiff, Nat.reduceMul, Int.reduceBEq, Int.reduceBNe, Int.reduceLT, Int.reduceLE, Int.reduceGT, Int.reduceGE]
  intro b4 h4 n4
  have n4_a := n4.at_
  have n4_z := n4.size
  replace p0 := p0.fresh (n4.fr (lo := 0) (hi := 0)) (by omega)
  have r4 := n4.row
  simp -dsimp only [go_sem, ↓reduceIte, reduceCtorEq, Nat.reduceEqDiff, Nat.reduceAdd, Nat.reduceLeDiff, Nat.reduceMul, Int.reduceBEq, Int.reduceBNe, Int.reduceLT, Int.reduceLE, Int.reduceGT, Int.reduceGE, r4.cell]
  refine call_of (ref1_New n h4) ?_
  rintro v h6 ⟨f6, hk, z, Z, rfl, t6⟩
  generalize clampN n = k at *
  obtain ⟨za, zc, rfl⟩ := t6.own.is
  have t6_a := t6.own.at_
  have f6_z := f6.size
  replace p0 := p0.fresh f6 (by omega)
  replace r4 := r4.fr f6 (by omega)
  simp -dsimp only [go_sem, ↓reduceIte, reduceCtorEq, Nat.reduceEqDiff, Nat.reduceAdd, Nat.reduceLeDiff, Nat.reduceMul, Int.reduceBEq, Int.reduceBNe, Int.reduceLT, Int.reduceLE, Int.reduceGT, Int.reduceGE, r4.cell]
  intro b7 h7 n7
  have n7_a := n7.at_
  have n7_z := n7.size
  replace p0 := p0.fresh (n7.fr (lo := 0) (hi := 0)) (by omega)
  replace r4 := r4.fr (n7.fr (lo := 0) (hi := 0)) (by omega)
  replace t6 := t6.fr (n7.fr (lo := 0) (hi := 0)) (by omega)
  have r7 := n7.row
  simp -dsimp only [go_sem, ↓reduceIte, reduceCtorEq, Nat.reduceEqDiff, Nat.reduceAdd, Nat.reduceLeDiff, Nat.reduceMul, Int.reduceBEq, Int.reduceBNe, Int.reduceLT, Int.reduceLE, Int.reduceGT, Int.reduceGE, r4.cell, r7.cell]
  refine Chk_intro (r7.wr (by first | (simp; done) | (simp; omega))) fun h8 s8 => ?_
  have s8_z := s8.size
  replace p0 := p0.fresh s8.fr (by omega)
  replace r4 := r4.fr s8.fr (by omega)
  replace t6 := t6.fr s8.fr (by omega)
  replace r7 := s8.row r7
  try simp only [cl_int, cl_bool, cl_slice, cl_ptr, putAt_one, List.set_cons_zero, List.set_cons_succ, ivec_set, brow_upd] at r7
  simp -dsimp only [go_sem, ↓reduceIte, reduceCtorEq, Nat.reduceEqDiff, Nat.reduceAdd, Nat.reduceLeDiff, Nat.reduceMul, Int.reduceBEq, Int.reduceBNe, Int.reduceLT, Int.reduceLE, Int.reduceGT, Int.reduceGE, r4.cell, r7.cell]
  refine loop_intro (fun a : Nat => [(1, sv), (4, .pointer (some ⟨b4, 0, none⟩)), (5, .pointer (some ⟨b7, 0, none⟩)), (6, .int .i64 a)])
    (fun a h' => a ≤ k ∧ Fr 0 0 h h' ∧ h8.size ≤ h'.size ∧ Rw h' b4 [.int .i64 0, .slice none 0 0] ∧ Rw h' b7 [.int .i64 k, .slice za k zc] ∧ Tab h' h4.size h6.size (.slice za k zc) k k Z fun i j => decide (i < a) && idM l i j) (fun a => k - a) 0 ?_ ?_ ?_
  · simp [Le, find]
  · exact ⟨by omega, p0, by omega, r4, r7, t6.congr fun i j _ _ => by simp⟩
  rintro a h9 ⟨ha, p0, y9, r4, r7, t6⟩
  have p0_z := p0.size
  have r4_l := r4.lt
  have r7_l := r7.lt
  simp -dsimp only [go_sem, ↓reduceIte, reduceCtorEq, Nat.reduceEqDiff, Nat.reduceAdd, Nat.reduceLeDiff, Nat.reduceMul, Int.reduceBEq, Int.reduceBNe, Int.reduceLT, Int.reduceLE, Int.reduceGT, Int.reduceGE, r4.cell, r7.cell]
  refine ⟨fun hlt => ?_, fun hge => ?_⟩
  · have hlt : a < k := by omega
    simp -dsimp only [go_sem, ↓reduceIte, reduceCtorEq, Nat.reduceEqDiff, Nat.reduceAdd, Nat.reduceLeDiff, Nat.reduceMul, Int.reduceBEq, Int.reduceBNe, Int.reduceLT, Int.reduceLE, Int.reduceGT, Int.reduceGE, r4.cell, r7.cell]
    refine Chk_intro (by omega) (t6.idx (p := a) (by omega) fun b9 o9 c9 => ?_)
    simp -dsimp only [go_sem, ↓reduceIte, reduceCtorEq, Nat.reduceEqDiff, Nat.reduceAdd, Nat.reduceLeDiff, Nat.reduceMul, Int.reduceBEq, Int.reduceBNe, Int.reduceLT, Int.reduceLE, Int.reduceGT, Int.reduceGE, c9, r4.cell, r7.cell]
    refine call_of (ref1_At (hl.fr p0) a) ?_
    rintro v h10 ⟨rfl, rfl⟩
    simp -dsimp only [go_sem, ↓reduceIte, reduceCtorEq, Nat.reduceEqDiff, Nat.reduceAdd, Nat.reduceLeDiff, Nat.reduceMul, Int.reduceBEq, Int.reduceBNe, Int.reduceLT, Int.reduceLE, Int.reduceGT, Int.reduceGE, c9, r4.cell, r7.cell]
    refine Chk_intro (by omega) ?_
    simp -dsimp only [go_sem, ↓reduceIte, reduceCtorEq, Nat.reduceEqDiff, Nat.reduceAdd, Nat.reduceLeDiff, Nat.reduceMul, Int.reduceBEq, Int.reduceBNe, Int.reduceLT, Int.reduceLE, Int.reduceGT, Int.reduceGE, r4.cell, r7.cell]
    refine Chk_intro (t6.wr hlt hlt) fun h11 s11 => ?_
    have s11_z := s11.size
    have w_row := t6.row a hlt
    have t7 := t6.set hlt s11
    have s11.fr_z := s11.fr.size
    replace p0 := p0.fresh s11.fr (by omega)
    replace r4 := r4.fr s11.fr (by omega)
    replace r7 := r7.fr s11.fr (by omega)
    simp -dsimp only [go_sem, ↓reduceIte, reduceCtorEq, Nat.reduceEqDiff, Nat.reduceAdd, Nat.reduceLeDiff, Nat.reduceMul, Int.reduceBEq, Int.reduceBNe, Int.reduceLT, Int.reduceLE, Int.reduceGT, Int.reduceGE, r4.cell, r7.cell]
    simp -dsimp (disch := omega) only [wrap64]
    refine ⟨a + 1, by omega, by simp [Le, find], by omega, p0, by omega, r4, r7, t7.congr fun i j hi hj => ?_⟩
    by_cases hij : i = a ∧ j = a
    · rw [if_pos hij, hij.1, hij.2]; simp [idM]
    · rw [if_neg hij]
      by_cases hia : i = a
      · have e : (i == j) = false := by simp; omega
        simp [idM, e]
      · have e4 : (i < a + 1) = (i < a) := by simp; omega
        simp [e4]
  · simp -dsimp only [go_sem, ↓reduceIte, reduceCtorEq, Nat.reduceEqDiff, Nat.reduceAdd, Nat.reduceLeDiff, Nat.reduceMul, Int.reduceBEq, Int.reduceBNe, Int.reduceLT, Int.reduceLE, Int.reduceGT, Int.reduceGE, r4.cell, r7.cell]
    refine Chk_intro (r4.wr (by first | (simp; done) | (simp; omega))) fun h10 s10 => ?_
    have s10_z := s10.size
    replace p0 := p0.fresh s10.fr (by omega)
    replace r7 := r7.fr s10.fr (by omega)
    replace t6 := t6.fr s10.fr (by omega)
    replace r4 := s10.row r4
    try simp only [cl_int, cl_bool, cl_slice, cl_ptr, putAt_one, List.set_cons_zero, List.set_cons_succ, ivec_set, brow_upd] at r4
    simp -dsimp only [go_sem, ↓reduceIte, reduceCtorEq, Nat.reduceEqDiff, Nat.reduceAdd, Nat.reduceLeDiff, Nat.reduceMul, Int.reduceBEq, Int.reduceBNe, Int.reduceLT, Int.reduceLE, Int.reduceGT, Int.reduceGE, r4.cell, r7.cell]
    refine ⟨p0, hk, _, Z, rfl, ((t6.mono (by omega) (by omega)).congr fun i j hi hj => by simp; omega)⟩
theorem ref1_Opt {n : Nat} {M : Nat → Nat → Bool} {rv : Value} {lo hi : Nat} {h : Heap} (hr : RefAt h lo hi rv n M) :
    Con Tryd.prog 97 #[rv] h fun v h' => Fr 0 0 h h' ∧ RefAt h' h.size h'.size v n (optM M) := by
  refine con_ref1_Opt ?_
  have hr0 := hr
  obtain ⟨hn, s, R, rfl, t⟩ := hr
  obtain ⟨sa, sc, rfl⟩ := t.own.is
  have p0 : Fr 0 0 h h := .refl _ _ _
  simp -dsimp only [go_sem, ↓reduceIte, reduceCtorEq, Nat.reduceEqDiff, Nat.reduceAdd, Nat.reduceLeDiff, Nat.reduceMul, Int.reduceBEq, Int.reduceBNe, Int.reduceLT, Int.reduceLE, Int.reduceGT, Int.reduceGE]
  intro b2 h2 n2
  have n2_a := n2.at_
  have n2_z := n2.size
  replace p0 := p0.fresh (n2.fr (lo := 0) (hi := 0)) (by omega)
  have r2 := n2.row
  simp -dsimp only [go_sem, ↓reduceIte, reduceCtorEq, Nat.reduceEqDiff, Nat.reduceAdd, Nat.reduceLeDiff, Nat.reduceMul, Int.reduceBEq, Int.reduceBNe, Int.reduceLT, Int.reduceLE, Int.reduceGT, Int.reduceGE, r2.cell]
  intro b4 h4 n4
  have n4_a := n4.at_
  have n4_z := n4.size
  replace p0 := p0.fresh (n4.fr (lo := 0) (hi := 0)) (by omega)
  replace r2 := r2.fr (n4.fr (lo := 0) (hi := 0)) (by omega)
  have r4 := n4.row
  simp -dsimp only [go_sem, ↓reduceIte, reduceCtorEq, Nat.reduceEqDiff, Nat.reduceAdd, Nat.reduceLeDiff, Nat.reduceMul, Int.reduceBEq, Int.reduceBNe, Int.reduceLT, Int.reduceLE, Int.reduceGT, Int.reduceGE, r2.cell, r4.cell]
  refine call_of (ref1_Wide (hr0.fr p0 (by omega)) 0 (by omega)) ?_
  rw [Nat.zero_max]
  rintro v h6 ⟨f6, -, z, Z, rfl, t6⟩
  obtain ⟨za, zc, rfl⟩ := t6.own.is
  have t6_a := t6.own.at_
  have f6_z := f6.size
  replace p0 := p0.fresh f6 (by omega)
  replace r2 := r2.fr f6 (by omega)
  replace r4 := r4.fr f6 (by omega)
  simp -dsimp only [go_sem, ↓reduceIte, reduceCtorEq, Nat.reduceEqDiff, Nat.reduceAdd, Nat.reduceLeDiff, Nat.reduceMul, Int.reduceBEq, Int.reduceBNe, Int.reduceLT, Int.reduceLE, Int.reduceGT, Int.reduceGE, r2.cell, r4.cell]
  intro b7 h7 n7
  have n7_a := n7.at_
  have n7_z := n7.size
  replace p0 := p0.fresh (n7.fr (lo := 0) (hi := 0)) (by omega)
  replace r2 := r2.fr (n7.fr (lo := 0) (hi := 0)) (by omega)
  replace r4 := r4.fr (n7.fr (lo := 0) (hi := 0)) (by omega)
  replace t6 := t6.fr (n7.fr (lo := 0) (hi := 0)) (by omega)
  have r7 := n7.row
  simp -dsimp only [go_sem, ↓reduceIte, reduceCtorEq, Nat.reduceEqDiff, Nat.reduceAdd, Nat.reduceLeDiff, Nat.reduceMul, Int.reduceBEq, Int.reduceBNe, Int.reduceLT, Int.reduceLE, Int.reduceGT, Int.reduceGE, r2.cell, r4.cell, r7.cell]
  refine Chk_intro (r7.wr (by first | (simp; done) | (simp; omega))) fun h8 s8 => ?_
  have s8_z := s8.size
  replace p0 := p0.fresh s8.fr (by omega)
  replace r2 := r2.fr s8.fr (by omega)
  replace r4 := r4.fr s8.fr (by omega)
  replace t6 := t6.fr s8.fr (by omega)
  replace r7 := s8.row r7
  try simp only [cl_int, cl_bool, cl_slice, cl_ptr, putAt_one, List.set_cons_zero, List.set_cons_succ, ivec_set, brow_upd] at r7
  simp -dsimp only [go_sem, ↓reduceIte, reduceCtorEq, Nat.reduceEqDiff, Nat.reduceAdd, Nat.reduceLeDiff, Nat.reduceMul, Int.reduceBEq, Int.reduceBNe, Int.reduceLT, Int.reduceLE, Int.reduceGT, Int.reduceGE, r2.cell, r4.cell, r7.cell]
  refine loop_intro (fun a : Nat => [(2, .pointer (some ⟨b4, 0, none⟩)), (3, .pointer (some ⟨b7, 0, none⟩)), (4, .int .i64 a)])
    (fun a h' => a ≤ n ∧ Fr 0 0 h h' ∧ h8.size ≤ h'.size ∧ Rw h' b4 [.int .i64 0, .slice none 0 0] ∧ Rw h' b7 [.int .i64 n, .slice za n zc] ∧ Tab h' h4.size h6.size (.slice za n zc) n n Z fun i j => M i j || (decide (i < a) && i == j)) (fun a => n - a) 0 ?_ ?_ ?_
  · simp [Le, find]
  · exact ⟨by omega, p0, by omega, r4, r7, t6.congr fun i j hi hj => by simp [inN_in hi hj]⟩
  rintro a h9 ⟨ha, p0, y9, r4, r7, t6⟩
  have p0_z := p0.size
  have r4_l := r4.lt
  have r7_l := r7.lt
  simp -dsimp only [go_sem, ↓reduceIte, reduceCtorEq, Nat.reduceEqDiff, Nat.reduceAdd, Nat.reduceLeDiff, Nat.reduceMul, Int.reduceBEq, Int.reduceBNe, Int.reduceLT, Int.reduceLE, Int.reduceGT, Int.reduceGE, r4.cell, r7.cell]
  refine ⟨fun hlt => ?_, fun hge => ?_⟩
  · have hlt : a < n := by omega
    simp -dsimp only [go_sem, ↓reduceIte, reduceCtorEq, Nat.reduceEqDiff, Nat.reduceAdd, Nat.reduceLeDiff, Nat.reduceMul, Int.reduceBEq, Int.reduceBNe, Int.reduceLT, Int.reduceLE, Int.reduceGT, Int.reduceGE, r4.cell, r7.cell]
    refine Chk_intro (by omega) (t6.idx (p := a) (by omega) fun b9 o9 c9 => ?_)
    simp -dsimp only [go_sem, ↓reduceIte, reduceCtorEq, Nat.reduceEqDiff, Nat.reduceAdd, Nat.reduceLeDiff, Nat.reduceMul, Int.reduceBEq, Int.reduceBNe, Int.reduceLT, Int.reduceLE, Int.reduceGT, Int.reduceGE, c9, r4.cell, r7.cell]
    refine Chk_intro (by omega) ?_
    simp -dsimp only [go_sem, ↓reduceIte, reduceCtorEq, Nat.reduceEqDiff, Nat.reduceAdd, Nat.reduceLeDiff, Nat.reduceMul, Int.reduceBEq, Int.reduceBNe, Int.reduceLT, Int.reduceLE, Int.reduceGT, Int.reduceGE, r4.cell, r7.cell]
    refine Chk_intro (t6.wr hlt hlt) fun h11 s11 => ?_
    have s11_z := s11.size
    have w_row := t6.row a hlt
    have t7 := t6.set hlt s11
    have s11.fr_z := s11.fr.size
    replace p0 := p0.fresh s11.fr (by omega)
    replace r4 := r4.fr s11.fr (by omega)
    replace r7 := r7.fr s11.fr (by omega)
    simp -dsimp only [go_sem, ↓reduceIte, reduceCtorEq, Nat.reduceEqDiff, Nat.reduceAdd, Nat.reduceLeDiff, Nat.reduceMul, Int.reduceBEq, Int.reduceBNe, Int.reduceLT, Int.reduceLE, Int.reduceGT, Int.reduceGE, r4.cell, r7.cell]
    simp -dsimp (disch := omega) only [wrap64]
    refine ⟨a + 1, by omega, by simp [Le, find], by omega, p0, by omega, r4, r7, t7.congr fun i j hi hj => ?_⟩
    by_cases hij : i = a ∧ j = a
    · rw [if_pos hij, hij.1, hij.2]; simp
    · rw [if_neg hij]
      by_cases hia : i = a
      · have e : (i == j) = false := by simp; omega
        simp [e]
      · have e4 : (i < a + 1) = (i < a) := by simp; omega
        simp [e4]
  · simp -dsimp only [go_sem, ↓reduceIte, reduceCtorEq, Nat.reduceEqDiff, Nat.reduceAdd, Nat.reduceLeDiff, Nat.reduceMul, Int.reduceBEq, Int.reduceBNe, Int.reduceLT, Int.reduceLE, Int.reduceGT, Int.reduceGE, r4.cell, r7.cell]
    refine Chk_intro (r4.wr (by first | (simp; done) | (simp; omega))) fun h10 s10 => ?_
    have s10_z := s10.size
    replace p0 := p0.fresh s10.fr (by omega)
    replace r7 := r7.fr s10.fr (by omega)
    replace t6 := t6.fr s10.fr (by omega)
    replace r4 := s10.row r4
    try simp only [cl_int, cl_bool, cl_slice, cl_ptr, putAt_one, List.set_cons_zero, List.set_cons_succ, ivec_set, brow_upd] at r4
    simp -dsimp only [go_sem, ↓reduceIte, reduceCtorEq, Nat.reduceEqDiff, Nat.reduceAdd, Nat.reduceLeDiff, Nat.reduceMul, Int.reduceBEq, Int.reduceBNe, Int.reduceLT, Int.reduceLE, Int.reduceGT, Int.reduceGE, r4.cell, r7.cell]
    refine ⟨p0, hn, _, Z, rfl, ((t6.mono (by omega) (by omega)).congr fun i j hi hj => ?_)⟩
    have : i < a := by omega
    simp [optM, this]
end Go.Proofs.Tst
