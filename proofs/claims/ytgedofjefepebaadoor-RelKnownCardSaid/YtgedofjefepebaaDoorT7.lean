/-
  Contracts of functions that the law reaches: what each returns and what it leaves in memory. Conditions stand in each.
-/
import Derived.Test.YtgedofjefepebaaDoorT6
set_option linter.all false
set_option maxRecDepth 2000
namespace Go.Proofs.Tst
open Go Go.Vc
set_option maxHeartbeats 800000 in
theorem ref1_Plus {n : Nat} {M : Nat → Nat → Bool} {rv : Value} {lo hi : Nat} {h : Heap} (hr : RefAt h lo hi rv n M) :
    Con Tryd.prog 84 #[rv] h fun v h' => Fr 0 0 h h' ∧ RefAt h' h.size h'.size v n (plusM n M) := by
  refine con_ref1_Plus ?_
  have hr0 := hr
  obtain ⟨hn, s, R, rfl, t⟩ := hr
  obtain ⟨sa, sc, rfl⟩ := t.own.is
  have p0 : Fr 0 0 h h := .refl _ _ _
  simp -dsimp only [go_sem, ↓reduceIte, reduceCtorEq, Nat.reduceEqDiff, Nat.reduceAdd, Nat.reduceLeDiff, Nat.reduceMul, Int.reduceBEq, Int.reduceBNe, Int.reduceLT, Int.reduceLE, Int.reduceGT, Int.reduceGE]
  intro b1 h1 n1
  have n1_a := n1.at_
  have n1_z := n1.size
  replace p0 := p0.fresh (n1.fr (lo := 0) (hi := 0)) (by omega)
  have r1 := n1.row
  simp -dsimp only [go_sem, ↓reduceIte, reduceCtorEq, Nat.reduceEqDiff, Nat.reduceAdd, Nat.reduceLeDiff, Nat.reduceMul, Int.reduceBEq, Int.reduceBNe, Int.reduceLT, Int.reduceLE, Int.reduceGT, Int.reduceGE, r1.cell]
  intro b4 h4 n4
  have n4_a := n4.at_
  have n4_z := n4.size
  replace p0 := p0.fresh (n4.fr (lo := 0) (hi := 0)) (by omega)
  replace r1 := r1.fr (n4.fr (lo := 0) (hi := 0)) (by omega)
  have r4 := n4.row
  simp -dsimp only [go_sem, ↓reduceIte, reduceCtorEq, Nat.reduceEqDiff, Nat.reduceAdd, Nat.reduceLeDiff, Nat.reduceMul, Int.reduceBEq, Int.reduceBNe, Int.reduceLT, Int.reduceLE, Int.reduceGT, Int.reduceGE, r1.cell, r4.cell]
  refine call_of (ref1_Wide (hr0.fr p0 (by omega)) 0 (by omega)) ?_
  rw [Nat.zero_max]
  rintro v h6 ⟨f6, -, z, Z, rfl, t6⟩
  obtain ⟨za, zc, rfl⟩ := t6.own.is
  have t6_a := t6.own.at_
  have f6_z := f6.size
  replace p0 := p0.fresh f6 (by omega)
  replace r1 := r1.fr f6 (by omega)
  replace r4 := r4.fr f6 (by omega)
  simp -dsimp only [go_sem, ↓reduceIte, reduceCtorEq, Nat.reduceEqDiff, Nat.reduceAdd, Nat.reduceLeDiff, Nat.reduceMul, Int.reduceBEq, Int.reduceBNe, Int.reduceLT, Int.reduceLE, Int.reduceGT, Int.reduceGE, r1.cell, r4.cell]
  intro b7 h7 n7
  have n7_a := n7.at_
  have n7_z := n7.size
  replace p0 := p0.fresh (n7.fr (lo := 0) (hi := 0)) (by omega)
  replace r1 := r1.fr (n7.fr (lo := 0) (hi := 0)) (by omega)
  replace r4 := r4.fr (n7.fr (lo := 0) (hi := 0)) (by omega)
  replace t6 := t6.fr (n7.fr (lo := 0) (hi := 0)) (by omega)
  have r7 := n7.row
  simp -dsimp only [go_sem, ↓reduceIte, reduceCtorEq, Nat.reduceEqDiff, Nat.reduceAdd, Nat.reduceLeDiff, Nat.reduceMul, Int.reduceBEq, Int.reduceBNe, Int.reduceLT, Int.reduceLE, Int.reduceGT, Int.reduceGE, r1.cell, r4.cell, r7.cell]
  refine Chk_intro (r7.wr (by first | (simp; done) | (simp; omega))) fun h8 s8 => ?_
  have s8_z := s8.size
  replace p0 := p0.fresh s8.fr (by omega)
  replace r1 := r1.fr s8.fr (by omega)
  replace r4 := r4.fr s8.fr (by omega)
  replace t6 := t6.fr s8.fr (by omega)
  replace r7 := s8.row r7
  try simp only [cl_int, cl_bool, cl_slice, cl_ptr, putAt_one, List.set_cons_zero, List.set_cons_succ, ivec_set, brow_upd] at r7
  simp -dsimp only [go_sem, ↓reduceIte, reduceCtorEq, Nat.reduceEqDiff, Nat.reduceAdd, Nat.reduceLeDiff, Nat.reduceMul, Int.reduceBEq, Int.reduceBNe, Int.reduceLT, Int.reduceLE, Int.reduceGT, Int.reduceGE, r1.cell, r4.cell, r7.cell]
  refine loop_intro (fun k : Nat => [(2, .pointer (some ⟨b4, 0, none⟩)), (3, .pointer (some ⟨b7, 0, none⟩)), (4, .int .i64 k)])
    (fun k h' => k ≤ n ∧ Fr 0 0 h h' ∧ h8.size ≤ h'.size ∧ Rw h' b4 [.int .i64 0, .slice none 0 0] ∧ Rw h' b7 [.int .i64 n, .slice za n zc] ∧ Tab h' h4.size h6.size (.slice za n zc) n n Z (warM n M k)) (fun k => n - k) 0 ?_ ?_ ?_
  · simp [Le, find]
  · exact ⟨by omega, p0, by omega, r4, r7, t6.congr fun i j hi hj => by rw [inN_in hi hj]; rfl⟩
  rintro k h9 ⟨hk, p0, y9, r4, r7, t6⟩
  have p0_z := p0.size
  have r4_l := r4.lt
  have r7_l := r7.lt
  simp -dsimp only [go_sem, ↓reduceIte, reduceCtorEq, Nat.reduceEqDiff, Nat.reduceAdd, Nat.reduceLeDiff, Nat.reduceMul, Int.reduceBEq, Int.reduceBNe, Int.reduceLT, Int.reduceLE, Int.reduceGT, Int.reduceGE, r4.cell, r7.cell]
  refine ⟨fun hlt => ?_, fun hge => ?_⟩
  · have hlt : k < n := by omega
    simp -dsimp only [go_sem, ↓reduceIte, reduceCtorEq, Nat.reduceEqDiff, Nat.reduceAdd, Nat.reduceLeDiff, Nat.reduceMul, Int.reduceBEq, Int.reduceBNe, Int.reduceLT, Int.reduceLE, Int.reduceGT, Int.reduceGE, r4.cell, r7.cell]
    refine loop_intro (fun p : Nat => [(2, .pointer (some ⟨b4, 0, none⟩)), (3, .pointer (some ⟨b7, 0, none⟩)), (4, .int .i64 k), (5, .int .i64 p)])
      (fun p h' => p ≤ n ∧ Fr 0 0 h h' ∧ h8.size ≤ h'.size ∧ Rw h' b4 [.int .i64 0, .slice none 0 0] ∧ Rw h' b7 [.int .i64 n, .slice za n zc] ∧ Tab h' h4.size h6.size (.slice za n zc) n n Z (mixM p 0 n (warM n M (k + 1)) (warM n M k))) (fun p => n - p) 0 ?_ ?_ ?_
    · simp [Le, find]
    · exact ⟨by omega, p0, by omega, r4, r7, t6.congr fun i j _ _ => by rw [mixM_zero]⟩
    rintro p h10 ⟨hp, p0, y10, r4, r7, t6⟩
    have p0_z := p0.size
    have r4_l := r4.lt
    have r7_l := r7.lt
    simp -dsimp only [go_sem, ↓reduceIte, reduceCtorEq, Nat.reduceEqDiff, Nat.reduceAdd, Nat.reduceLeDiff, Nat.reduceMul, Int.reduceBEq, Int.reduceBNe, Int.reduceLT, Int.reduceLE, Int.reduceGT, Int.reduceGE, r4.cell, r7.cell]
    refine ⟨fun hlt1 => ?_, fun hge1 => ?_⟩
    · have hlt1 : p < n := by omega
      simp -dsimp only [go_sem, ↓reduceIte, reduceCtorEq, Nat.reduceEqDiff, Nat.reduceAdd, Nat.reduceLeDiff, Nat.reduceMul, Int.reduceBEq, Int.reduceBNe, Int.reduceLT, Int.reduceLE, Int.reduceGT, Int.reduceGE, r4.cell, r7.cell]
      refine loop_intro (fun q : Nat => [(2, .pointer (some ⟨b4, 0, none⟩)), (3, .pointer (some ⟨b7, 0, none⟩)), (4, .int .i64 k), (5, .int .i64 p), (6, .int .i64 q)])
        (fun q h' => q ≤ n ∧ (warM n M k p k = false → q = 0) ∧ Fr 0 0 h h' ∧ h8.size ≤ h'.size ∧ Rw h' b4 [.int .i64 0, .slice none 0 0] ∧ Rw h' b7 [.int .i64 n, .slice za n zc] ∧ Tab h' h4.size h6.size (.slice za n zc) n n Z (mixM p q n (warM n M (k + 1)) (warM n M k))) (fun q => n - q) 0 ?_ ?_ ?_
      · simp [Le, find]
      · exact ⟨by omega, fun _ => rfl, p0, by omega, r4, r7, t6⟩
      rintro q h11 ⟨hq, hq0, p0, y11, r4, r7, t6⟩
      have p0_z := p0.size
      have r4_l := r4.lt
      have r7_l := r7.lt
      have hpk : mixM p q n (warM n M (k + 1)) (warM n M k) p k = warM n M k p k := by
        unfold mixM; split
        · have : warM n M (k + 1) p k = warM n M k p k := by simp only [warM]; cases warM n M k p k <;> simp
          exact this
        · rfl
      have hkq : q < n → mixM p q n (warM n M (k + 1)) (warM n M k) k q = warM n M k k q := fun _ => by
        unfold mixM; split
        · exact warM_self n M k q
        · rfl
      have hpq : mixM p q n (warM n M (k + 1)) (warM n M k) p q = warM n M k p q := mixM_same rfl (Nat.le_refl _)
      simp -dsimp only [go_sem, ↓reduceIte, reduceCtorEq, Nat.reduceEqDiff, Nat.reduceAdd, Nat.reduceLeDiff, Nat.reduceMul, Int.reduceBEq, Int.reduceBNe, Int.reduceLT, Int.reduceLE, Int.reduceGT, Int.reduceGE, r4.cell, r7.cell]
      refine Chk_intro (by omega) (t6.idx (p := p) (by omega) fun b9 o9 c9 => ?_)
      simp -dsimp only [go_sem, ↓reduceIte, reduceCtorEq, Nat.reduceEqDiff, Nat.reduceAdd, Nat.reduceLeDiff, Nat.reduceMul, Int.reduceBEq, Int.reduceBNe, Int.reduceLT, Int.reduceLE, Int.reduceGT, Int.reduceGE, c9, r4.cell, r7.cell]
      refine Chk_intro (by omega) ?_
      simp -dsimp only [go_sem, ↓reduceIte, reduceCtorEq, Nat.reduceEqDiff, Nat.reduceAdd, Nat.reduceLeDiff, Nat.reduceMul, Int.reduceBEq, Int.reduceBNe, Int.reduceLT, Int.reduceLE, Int.reduceGT, Int.reduceGE, t6.cell hlt1 hlt, r4.cell, r7.cell]
      rw [hpk]
      cases hM : warM n M k p k with
      | false =>
        have hq0 := hq0 hM
        subst hq0
        simp -dsimp only [go_sem, ↓reduceIte, reduceCtorEq, Nat.reduceEqDiff, Nat.reduceAdd, Nat.reduceLeDiff, Nat.reduceMul, Int.reduceBEq, Int.reduceBNe, Int.reduceLT, Int.reduceLE, Int.reduceGT, Int.reduceGE, r4.cell, r7.cell]
        simp -dsimp (disch := omega) only [wrap64]
        refine ⟨p + 1, by omega, by simp [Le, find], by omega, p0, by omega, r4, r7, t6.congr fun i j hi hj => ?_⟩
        unfold mixM
        by_cases hip : i = p
        · subst hip
          rw [if_neg (by omega), if_pos (by omega)]; simp [warM, hM]
        · by_cases h1 : i < p
          · rw [if_pos (by omega), if_pos (by omega)]
          · rw [if_neg (by omega), if_neg (by omega)]
      | true =>
        simp -dsimp only [go_sem, ↓reduceIte, reduceCtorEq, Nat.reduceEqDiff, Nat.reduceAdd, Nat.reduceLeDiff, Nat.reduceMul, Int.reduceBEq, Int.reduceBNe, Int.reduceLT, Int.reduceLE, Int.reduceGT, Int.reduceGE, r4.cell, r7.cell]
        refine ⟨fun hlt2 => ?_, fun hge2 => ?_⟩
        · have hlt2 : q < n := by omega
          simp -dsimp only [go_sem, ↓reduceIte, reduceCtorEq, Nat.reduceEqDiff, Nat.reduceAdd, Nat.reduceLeDiff, Nat.reduceMul, Int.reduceBEq, Int.reduceBNe, Int.reduceLT, Int.reduceLE, Int.reduceGT, Int.reduceGE, r4.cell, r7.cell]
          refine Chk_intro (by omega) (t6.idx (p := p) (by omega) fun b10 o10 c10 => ?_)
          simp -dsimp only [go_sem, ↓reduceIte, reduceCtorEq, Nat.reduceEqDiff, Nat.reduceAdd, Nat.reduceLeDiff, Nat.reduceMul, Int.reduceBEq, Int.reduceBNe, Int.reduceLT, Int.reduceLE, Int.reduceGT, Int.reduceGE, c10, r4.cell, r7.cell]
          refine Chk_intro (by omega) (t6.idx (p := p) (by omega) fun b11 o11 c11 => ?_)
          simp -dsimp only [go_sem, ↓reduceIte, reduceCtorEq, Nat.reduceEqDiff, Nat.reduceAdd, Nat.reduceLeDiff, Nat.reduceMul, Int.reduceBEq, Int.reduceBNe, Int.reduceLT, Int.reduceLE, Int.reduceGT, Int.reduceGE, c11, r4.cell, r7.cell]
          refine Chk_intro (by omega) ?_
          simp -dsimp only [go_sem, ↓reduceIte, reduceCtorEq, Nat.reduceEqDiff, Nat.reduceAdd, Nat.reduceLeDiff, Nat.reduceMul, Int.reduceBEq, Int.reduceBNe, Int.reduceLT, Int.reduceLE, Int.reduceGT, Int.reduceGE, t6.cell hlt1 hlt2, r4.cell, r7.cell]
          rw [hpq]
          cases hM2 : warM n M k p q with
          | true =>
            simp -dsimp only [go_sem, ↓reduceIte, reduceCtorEq, Nat.reduceEqDiff, Nat.reduceAdd, Nat.reduceLeDiff, Nat.reduceMul, Int.reduceBEq, Int.reduceBNe, Int.reduceLT, Int.reduceLE, Int.reduceGT, Int.reduceGE, r4.cell, r7.cell]
            refine Chk_intro (by omega) ?_
            simp -dsimp only [go_sem, ↓reduceIte, reduceCtorEq, Nat.reduceEqDiff, Nat.reduceAdd, Nat.reduceLeDiff, Nat.reduceMul, Int.reduceBEq, Int.reduceBNe, Int.reduceLT, Int.reduceLE, Int.reduceGT, Int.reduceGE, r4.cell, r7.cell]
            refine Chk_intro (t6.wr hlt1 hlt2) fun h12 s12 => ?_
            have s12_z := s12.size
            have w_row := t6.row p hlt1
            have t7 := t6.set hlt1 s12
            have s12.fr_z := s12.fr.size
            replace p0 := p0.fresh s12.fr (by omega)
            replace r4 := r4.fr s12.fr (by omega)
            replace r7 := r7.fr s12.fr (by omega)
            simp -dsimp only [go_sem, ↓reduceIte, reduceCtorEq, Nat.reduceEqDiff, Nat.reduceAdd, Nat.reduceLeDiff, Nat.reduceMul, Int.reduceBEq, Int.reduceBNe, Int.reduceLT, Int.reduceLE, Int.reduceGT, Int.reduceGE, r4.cell, r7.cell]
            simp -dsimp (disch := omega) only [wrap64]
            exact ⟨q + 1, by omega, by simp [Le, find], by omega, by simp, p0, by omega, r4, r7, t7.congr fun i j hi hj => mixM_set (by simp [warM, hM2])⟩
          | false =>
            simp -dsimp only [go_sem, ↓reduceIte, reduceCtorEq, Nat.reduceEqDiff, Nat.reduceAdd, Nat.reduceLeDiff, Nat.reduceMul, Int.reduceBEq, Int.reduceBNe, Int.reduceLT, Int.reduceLE, Int.reduceGT, Int.reduceGE, r4.cell, r7.cell]
            refine Chk_intro (by omega) (t6.idx (p := k) (by omega) fun b12 o12 c12 => ?_)
            simp -dsimp only [go_sem, ↓reduceIte, reduceCtorEq, Nat.reduceEqDiff, Nat.reduceAdd, Nat.reduceLeDiff, Nat.reduceMul, Int.reduceBEq, Int.reduceBNe, Int.reduceLT, Int.reduceLE, Int.reduceGT, Int.reduceGE, c12, r4.cell, r7.cell]
            refine Chk_intro (by omega) ?_
            simp -dsimp only [go_sem, ↓reduceIte, reduceCtorEq, Nat.reduceEqDiff, Nat.reduceAdd, Nat.reduceLeDiff, Nat.reduceMul, Int.reduceBEq, Int.reduceBNe, Int.reduceLT, Int.reduceLE, Int.reduceGT, Int.reduceGE, t6.cell hlt hlt2, r4.cell, r7.cell]
            rw [hkq hlt2]
            refine Chk_intro (by omega) ?_
            simp -dsimp only [go_sem, ↓reduceIte, reduceCtorEq, Nat.reduceEqDiff, Nat.reduceAdd, Nat.reduceLeDiff, Nat.reduceMul, Int.reduceBEq, Int.reduceBNe, Int.reduceLT, Int.reduceLE, Int.reduceGT, Int.reduceGE, r4.cell, r7.cell]
            refine Chk_intro (t6.wr hlt1 hlt2) fun h12 s12 => ?_
            have s12_z := s12.size
            have w_row := t6.row p hlt1
            have t7 := t6.set hlt1 s12
            have s12.fr_z := s12.fr.size
            replace p0 := p0.fresh s12.fr (by omega)
            replace r4 := r4.fr s12.fr (by omega)
            replace r7 := r7.fr s12.fr (by omega)
            simp -dsimp only [go_sem, ↓reduceIte, reduceCtorEq, Nat.reduceEqDiff, Nat.reduceAdd, Nat.reduceLeDiff, Nat.reduceMul, Int.reduceBEq, Int.reduceBNe, Int.reduceLT, Int.reduceLE, Int.reduceGT, Int.reduceGE, r4.cell, r7.cell]
            simp -dsimp (disch := omega) only [wrap64]
            exact ⟨q + 1, by omega, by simp [Le, find], by omega, by simp, p0, by omega, r4, r7, t7.congr fun i j hi hj => mixM_set (by simp [warM, hM, hM2])⟩
        · have hqn : q = n := by omega
          simp -dsimp only [go_sem, ↓reduceIte, reduceCtorEq, Nat.reduceEqDiff, Nat.reduceAdd, Nat.reduceLeDiff, Nat.reduceMul, Int.reduceBEq, Int.reduceBNe, Int.reduceLT, Int.reduceLE, Int.reduceGT, Int.reduceGE, r4.cell, r7.cell]
          simp -dsimp (disch := omega) only [wrap64]
          exact ⟨p + 1, by omega, by simp [Le, find], by omega, p0, by omega, r4, r7, t6.congr fun i j _ _ => by rw [hqn]; exact mixM_next⟩
    · have hpn : p = n := by omega
      simp -dsimp only [go_sem, ↓reduceIte, reduceCtorEq, Nat.reduceEqDiff, Nat.reduceAdd, Nat.reduceLeDiff, Nat.reduceMul, Int.reduceBEq, Int.reduceBNe, Int.reduceLT, Int.reduceLE, Int.reduceGT, Int.reduceGE, r4.cell, r7.cell]
      simp -dsimp (disch := omega) only [wrap64]
      exact ⟨k + 1, by omega, by simp [Le, find], by omega, p0, by omega, r4, r7, t6.congr fun i j hi hj => by rw [hpn, mixM_end hi hj]⟩
  · have hkn : k = n := by omega
    simp -dsimp only [go_sem, ↓reduceIte, reduceCtorEq, Nat.reduceEqDiff, Nat.reduceAdd, Nat.reduceLeDiff, Nat.reduceMul, Int.reduceBEq, Int.reduceBNe, Int.reduceLT, Int.reduceLE, Int.reduceGT, Int.reduceGE, r4.cell, r7.cell]
    refine Chk_intro (r4.wr (by first | (simp; done) | (simp; omega))) fun h10 s10 => ?_
    have s10_z := s10.size
    replace p0 := p0.fresh s10.fr (by omega)
    replace r7 := r7.fr s10.fr (by omega)
    replace t6 := t6.fr s10.fr (by omega)
    replace r4 := s10.row r4
    try simp only [cl_int, cl_bool, cl_slice, cl_ptr, putAt_one, List.set_cons_zero, List.set_cons_succ, ivec_set, brow_upd] at r4
    simp -dsimp only [go_sem, ↓reduceIte, reduceCtorEq, Nat.reduceEqDiff, Nat.reduceAdd, Nat.reduceLeDiff, Nat.reduceMul, Int.reduceBEq, Int.reduceBNe, Int.reduceLT, Int.reduceLE, Int.reduceGT, Int.reduceGE, r4.cell, r7.cell]
    refine ⟨p0, hn, _, Z, rfl, ((t6.mono (by omega) (by omega)).congr fun i j hi hj => by rw [hkn]; rfl)⟩
theorem ref1_Star {n : Nat} {M : Nat → Nat → Bool} {rv : Value} {lo hi : Nat} {h : Heap} (hr : RefAt h lo hi rv n M) :
    Con Tryd.prog 96 #[rv] h fun v h' => Fr 0 0 h h' ∧ RefAt h' h.size h'.size v n (optM (plusM n M)) := by
  refine con_ref1_Star ?_
  have hr0 := hr
  obtain ⟨hn, s, R, rfl, t⟩ := hr
  obtain ⟨sa, sc, rfl⟩ := t.own.is
  have p0 : Fr 0 0 h h := .refl _ _ _
  simp -dsimp only [go_sem, ↓reduceIte, reduceCtorEq, Nat.reduceEqDiff, Nat.reduceAdd, Nat.reduceLeDiff, Nat.reduceMul, Int.reduceBEq, Int.reduceBNe, Int.reduceLT, Int.reduceLE, Int.reduceGT, Int.reduceGE]
  intro b1 h1 n1
  have n1_a := n1.at_
  have n1_z := n1.size
  replace p0 := p0.fresh (n1.fr (lo := 0) (hi := 0)) (by omega)
  have r1 := n1.row
  simp -dsimp only [go_sem, ↓reduceIte, reduceCtorEq, Nat.reduceEqDiff, Nat.reduceAdd, Nat.reduceLeDiff, Nat.reduceMul, Int.reduceBEq, Int.reduceBNe, Int.reduceLT, Int.reduceLE, Int.reduceGT, Int.reduceGE, r1.cell]
  intro b2 h2 n2
  have n2_a := n2.at_
  have n2_z := n2.size
  replace p0 := p0.fresh (n2.fr (lo := 0) (hi := 0)) (by omega)
  replace r1 := r1.fr (n2.fr (lo := 0) (hi := 0)) (by omega)
  have r2 := n2.row
  simp -dsimp only [go_sem, ↓reduceIte, reduceCtorEq, Nat.reduceEqDiff, Nat.reduceAdd, Nat.reduceLeDiff, Nat.reduceMul, Int.reduceBEq, Int.reduceBNe, Int.reduceLT, Int.reduceLE, Int.reduceGT, Int.reduceGE, r1.cell, r2.cell]
  refine call_of (ref1_Plus (hr0.fr p0 (by omega))) ?_
  rintro v3 h3 ⟨f3, t3⟩
  have f3_z := f3.size
  replace p0 := p0.fresh f3 (by omega)
  replace r1 := r1.fr f3 (by omega)
  replace r2 := r2.fr f3 (by omega)
  simp -dsimp only [go_sem, ↓reduceIte, reduceCtorEq, Nat.reduceEqDiff, Nat.reduceAdd, Nat.reduceLeDiff, Nat.reduceMul, Int.reduceBEq, Int.reduceBNe, Int.reduceLT, Int.reduceLE, Int.reduceGT, Int.reduceGE, r1.cell, r2.cell]
  refine call_of (ref1_Opt t3) ?_
  rintro v4 h4 ⟨f4, -, z, Z, rfl, t4⟩
  obtain ⟨za, zc, rfl⟩ := t4.own.is
  have t4_a := t4.own.at_
  have f4_z := f4.size
  replace p0 := p0.fresh f4 (by omega)
  replace r1 := r1.fr f4 (by omega)
  replace r2 := r2.fr f4 (by omega)
  simp -dsimp only [go_sem, ↓reduceIte, reduceCtorEq, Nat.reduceEqDiff, Nat.reduceAdd, Nat.reduceLeDiff, Nat.reduceMul, Int.reduceBEq, Int.reduceBNe, Int.reduceLT, Int.reduceLE, Int.reduceGT, Int.reduceGE, r1.cell, r2.cell]
  refine Chk_intro (r2.wr (by first | (simp; done) | (simp; omega))) fun h5 s5 => ?_
  have s5_z := s5.size
  replace p0 := p0.fresh s5.fr (by omega)
  replace r1 := r1.fr s5.fr (by omega)
  replace t4 := t4.fr s5.fr (by omega)
  replace r2 := s5.row r2
  try simp only [cl_int, cl_bool, cl_slice, cl_ptr, putAt_one, List.set_cons_zero, List.set_cons_succ, ivec_set, brow_upd] at r2
  simp -dsimp only [go_sem, ↓reduceIte, reduceCtorEq, Nat.reduceEqDiff, Nat.reduceAdd, Nat.reduceLeDiff, Nat.reduceMul, Int.reduceBEq, Int.reduceBNe, Int.reduceLT, Int.reduceLE, Int.reduceGT, Int.reduceGE, r1.cell, r2.cell]
  exact ⟨p0, hn, _, Z, rfl, t4.mono (by omega) (by omega)⟩
theorem ref1_Irreflexive {n : Nat} {M : Nat → Nat → Bool} {rv : Value} {lo hi : Nat} {h : Heap} (hr : RefAt h lo hi rv n M) :
    Con Tryd.prog 85 #[rv] h fun v h' => Fr 0 0 h h' ∧ v = .bool (irrB n M) := by
  refine con_ref1_Irreflexive ?_
  obtain ⟨hn, s, R, rfl, t⟩ := hr
  obtain ⟨sa, sc, rfl⟩ := t.own.is
  have p0 : Fr 0 0 h h := .refl _ _ _
  simp -dsimp only [go_sem, ↓reduceIte, reduceCtorEq, Nat.reduceEqDiff, Nat.reduceAdd, Nat.reduceLeDiff, Nat.reduceMul, Int.reduceBEq, Int.reduceBNe, Int.reduceLT, Int.reduceLE, Int.reduceGT, Int.reduceGE]
  intro b1 h1 n1
  have n1_a := n1.at_
  have n1_z := n1.size
  replace p0 := p0.fresh (n1.fr (lo := 0) (hi := 0)) (by omega)
  have r1 := n1.row
  simp -dsimp only [go_sem, ↓reduceIte, reduceCtorEq, Nat.reduceEqDiff, Nat.reduceAdd, Nat.reduceLeDiff, Nat.reduceMul, Int.reduceBEq, Int.reduceBNe, Int.reduceLT, Int.reduceLE, Int.reduceGT, Int.reduceGE, r1.cell]
  refine loop_intro (fun a : Nat => [(1, .pointer (some ⟨b1, 0, none⟩)), (3, .int .i64 a)])
    (fun a h' => a ≤ n ∧ h' = h1 ∧ ∀ i, i < a → M i i = false) (fun a => n - a) 0 ?_ ?_ ?_
  · simp [Le, find]
  · exact ⟨by omega, rfl, by omega⟩
  rintro a h2 ⟨ha, hh, hinv⟩
  obtain rfl : h1 = h2 := hh.symm
  have tp := t.fr p0 (by omega)
  simp -dsimp only [go_sem, ↓reduceIte, reduceCtorEq, Nat.reduceEqDiff, Nat.reduceAdd, Nat.reduceLeDiff, Nat.reduceMul, Int.reduceBEq, Int.reduceBNe, Int.reduceLT, Int.reduceLE, Int.reduceGT, Int.reduceGE, r1.cell]
  refine ⟨fun hlt => ?_, fun hge => ?_⟩
  · have hlt : a < n := by omega
    simp -dsimp only [go_sem, ↓reduceIte, reduceCtorEq, Nat.reduceEqDiff, Nat.reduceAdd, Nat.reduceLeDiff, Nat.reduceMul, Int.reduceBEq, Int.reduceBNe, Int.reduceLT, Int.reduceLE, Int.reduceGT, Int.reduceGE, r1.cell]
    refine Chk_intro (by omega) (tp.idx hlt fun b9 o9 c9 => ?_)
    simp -dsimp only [go_sem, ↓reduceIte, reduceCtorEq, Nat.reduceEqDiff, Nat.reduceAdd, Nat.reduceLeDiff, Nat.reduceMul, Int.reduceBEq, Int.reduceBNe, Int.reduceLT, Int.reduceLE, Int.reduceGT, Int.reduceGE, c9, r1.cell]
    refine Chk_intro (by omega) ?_
    simp -dsimp only [go_sem, ↓reduceIte, reduceCtorEq, Nat.reduceEqDiff, Nat.reduceAdd, Nat.reduceLeDiff, Nat.reduceMul, Int.reduceBEq, Int.reduceBNe, Int.reduceLT, Int.reduceLE, Int.reduceGT, Int.reduceGE, tp.cell hlt hlt, r1.cell]
    cases hm : M a a with
    | true =>
      simp -dsimp only [go_sem, ↓reduceIte, reduceCtorEq, Nat.reduceEqDiff, Nat.reduceAdd, Nat.reduceLeDiff, Nat.reduceMul, Int.reduceBEq, Int.reduceBNe, Int.reduceLT, Int.reduceLE, Int.reduceGT, Int.reduceGE, r1.cell]
      refine ⟨p0, ?_⟩
      have : irrB n M = false := by
        rw [Bool.eq_false_iff]; intro h'
        have := List.all_eq_true.1 h' a (List.mem_range.2 hlt)
        simp [hm] at this
      rw [this]
    | false =>
      simp -dsimp only [go_sem, ↓reduceIte, reduceCtorEq, Nat.reduceEqDiff, Nat.reduceAdd, Nat.reduceLeDiff, Nat.reduceMul, Int.reduceBEq, Int.reduceBNe, Int.reduceLT, Int.reduceLE, Int.reduceGT, Int.reduceGE, r1.cell]
      simp -dsimp (disch := omega) only [wrap64]
      refine ⟨a + 1, by omega, by simp [Le, find], by omega, fun i hi => ?_⟩
      by_cases hia : i = a
      · subst hia; exact hm
      · exact hinv i (by omega)
  · have : a = n := by omega
    subst this
    simp -dsimp only [go_sem, ↓reduceIte, reduceCtorEq, Nat.reduceEqDiff, Nat.reduceAdd, Nat.reduceLeDiff, Nat.reduceMul, Int.reduceBEq, Int.reduceBNe, Int.reduceLT, Int.reduceLE, Int.reduceGT, Int.reduceGE, r1.cell]
    have : irrB a M = true := List.all_eq_true.2 fun i hi => by rw [hinv i (List.mem_range.1 hi)]; rfl
    rw [this]; exact ⟨p0, rfl⟩
theorem ref1_Comp {n m : Nat} {M N : Nat → Nat → Bool} {rv sv : Value} {lo hi lo' hi' : Nat} {h : Heap} (hr : RefAt h lo hi rv n M) (hs : RefAt h lo' hi' sv m N) :
    Con Tryd.prog 87 #[rv, sv] h fun v h' => Fr 0 0 h h' ∧ RefAt h' h.size h'.size v (max n m) (compM n M m N) := by
  refine con_ref1_Comp ?_
  have hr0 := hr; have hs0 := hs
  obtain ⟨hn, s, R, rfl, t⟩ := hr
  obtain ⟨sa, sc, rfl⟩ := t.own.is
  obtain ⟨hm, s', R', rfl, t'⟩ := hs
  obtain ⟨sa', sc', rfl⟩ := t'.own.is
  have hcl : clampN (max n m : Nat) = max n m := by unfold clampN; omega
  have p0 : Fr 0 0 h h := .refl _ _ _
  simp -dsimp only [go_sem, ↓reduceIte, reduceCtorEq, Nat.reduceEqDiff, Nat.reduceAdd, Nat.reduceLeDiff, Nat.reduceMul, Int.reduceBEq, Int.reduceBNe, Int.reduceLT, Int.reduceLE, Int.reduceGT, Int.reduceGE]
  intro b2 h2 n2
  have n2_a := n2.at_
  have n2_z := n2.size
  replace p0 := p0.fresh (n2.fr (lo := 0) (hi := 0)) (by omega)
  have r2 := n2.row
  simp -dsimp only [go_sem, ↓reduceIte, reduceCtorEq, Nat.reduceEqDiff, Nat.reduceAdd, Nat.reduceLeDiff, Nat.reduceMul, Int.reduceBEq, Int.reduceBNe, Int.reduceLT, Int.reduceLE, Int.reduceGT, Int.reduceGE, r2.cell]
  intro b3 h3 n3
  have n3_a := n3.at_
  have n3_z := n3.size
  replace p0 := p0.fresh (n3.fr (lo := 0) (hi := 0)) (by omega)
  replace r2 := r2.fr (n3.fr (lo := 0) (hi := 0)) (by omega)
  have r3 := n3.row
  simp -dsimp only [go_sem, ↓reduceIte, reduceCtorEq, Nat.reduceEqDiff, Nat.reduceAdd, Nat.reduceLeDiff, Nat.reduceMul, Int.reduceBEq, Int.reduceBNe, Int.reduceLT, Int.reduceLE, Int.reduceGT, Int.reduceGE, r2.cell, r3.cell]
  intro b4 h4 n4
  have n4_a := n4.at_
  have n4_z := n4.size
  replace p0 := p0.fresh (n4.fr (lo := 0) (hi := 0)) (by omega)
  replace r2 := r2.fr (n4.fr (lo := 0) (hi := 0)) (by omega)
  replace r3 := r3.fr (n4.fr (lo := 0) (hi := 0)) (by omega)
  have r4 := n4.row
  simp -dsimp only [go_sem, ↓reduceIte, reduceCtorEq, Nat.reduceEqDiff, Nat.reduceAdd, Nat.reduceLeDiff, Nat.reduceMul, Int.reduceBEq, Int.reduceBNe, Int.reduceLT, Int.reduceLE, Int.reduceGT, Int.reduceGE, r2.cell, r3.cell, r4.cell]
  refine call_of (ref1_Wide (hr0.fr p0 (by omega)) m hm) ?_
  rw [Nat.max_comm]
  rintro v h6 ⟨f6, hmx, x, X, rfl, tx⟩
  obtain ⟨xa, xc, rfl⟩ := tx.own.is
  have tx_a := tx.own.at_
  have f6_z := f6.size
  replace p0 := p0.fresh f6 (by omega)
  replace r2 := r2.fr f6 (by omega)
  replace r3 := r3.fr f6 (by omega)
  replace r4 := r4.fr f6 (by omega)
  simp -dsimp only [go_sem, ↓reduceIte, reduceCtorEq, Nat.reduceEqDiff, Nat.reduceAdd, Nat.reduceLeDiff, Nat.reduceMul, Int.reduceBEq, Int.reduceBNe, Int.reduceLT, Int.reduceLE, Int.reduceGT, Int.reduceGE, r2.cell, r3.cell, r4.cell]
  intro b7 h7 n7
  have n7_a := n7.at_
  have n7_z := n7.size
  replace p0 := p0.fresh (n7.fr (lo := 0) (hi := 0)) (by omega)
  replace r2 := r2.fr (n7.fr (lo := 0) (hi := 0)) (by omega)
  replace r3 := r3.fr (n7.fr (lo := 0) (hi := 0)) (by omega)
  replace r4 := r4.fr (n7.fr (lo := 0) (hi := 0)) (by omega)
  replace tx := tx.fr (n7.fr (lo := 0) (hi := 0)) (by omega)
  have r7 := n7.row
  simp -dsimp only [go_sem, ↓reduceIte, reduceCtorEq, Nat.reduceEqDiff, Nat.reduceAdd, Nat.reduceLeDiff, Nat.reduceMul, Int.reduceBEq, Int.reduceBNe, Int.reduceLT, Int.reduceLE, Int.reduceGT, Int.reduceGE, r2.cell, r3.cell, r4.cell, r7.cell]
  refine Chk_intro (r7.wr (by first | (simp; done) | (simp; omega))) fun h8 s8 => ?_
  have s8_z := s8.size
  replace p0 := p0.fresh s8.fr (by omega)
  replace r2 := r2.fr s8.fr (by omega)
  replace r3 := r3.fr s8.fr (by omega)
  replace r4 := r4.fr s8.fr (by omega)
  replace tx := tx.fr s8.fr (by omega)
  replace r7 := s8.row r7
  try simp only [cl_int, cl_bool, cl_slice, cl_ptr, putAt_one, List.set_cons_zero, List.set_cons_succ, ivec_set, brow_upd] at r7
  simp -dsimp only [go_sem, ↓reduceIte, reduceCtorEq, Nat.reduceEqDiff, Nat.reduceAdd, Nat.reduceLeDiff, Nat.reduceMul, Int.reduceBEq, Int.reduceBNe, Int.reduceLT, Int.reduceLE, Int.reduceGT, Int.reduceGE, r2.cell, r3.cell, r4.cell, r7.cell]
  refine call_of (ref1_Wide (hs0.fr p0 (by omega)) n hn) ?_
  rintro v h9 ⟨f9, -, y, Y, rfl, ty⟩
  obtain ⟨ya, yc, rfl⟩ := ty.own.is
  have ty_a := ty.own.at_
  have f9_z := f9.size
  replace p0 := p0.fresh f9 (by omega)
  replace r2 := r2.fr f9 (by omega)
  replace r3 := r3.fr f9 (by omega)
  replace r4 := r4.fr f9 (by omega)
  replace tx := tx.fr f9 (by omega)
  replace r7 := r7.fr f9 (by omega)
  simp -dsimp only [go_sem, ↓reduceIte, reduceCtorEq, Nat.reduceEqDiff, Nat.reduceAdd, Nat.reduceLeDiff, Nat.reduceMul, Int.reduceBEq, Int.reduceBNe, Int.reduceLT, Int.reduceLE, Int.reduceGT, Int.reduceGE, r2.cell, r3.cell, r4.cell, r7.cell]
  intro b10 h10 n10
  have n10_a := n10.at_
  have n10_z := n10.size
  replace p0 := p0.fresh (n10.fr (lo := 0) (hi := 0)) (by omega)
  replace r2 := r2.fr (n10.fr (lo := 0) (hi := 0)) (by omega)
  replace r3 := r3.fr (n10.fr (lo := 0) (hi := 0)) (by omega)
  replace r4 := r4.fr (n10.fr (lo := 0) (hi := 0)) (by omega)
  replace tx := tx.fr (n10.fr (lo := 0) (hi := 0)) (by omega)
  replace r7 := r7.fr (n10.fr (lo := 0) (hi := 0)) (by omega)
  replace ty := ty.fr (n10.fr (lo := 0) (hi := 0)) (by omega)
  have r10 := n10.row
  simp -dsimp only [go_sem, ↓reduceIte, reduceCtorEq, Nat.reduceEqDiff, Nat.reduceAdd, Nat.reduceLeDiff, Nat.reduceMul, Int.reduceBEq, Int.reduceBNe, Int.reduceLT, Int.reduceLE, Int.reduceGT, Int.reduceGE, r2.cell, r3.cell, r4.cell, r7.cell, r10.cell]
  refine Chk_intro (r10.wr (by first | (simp; done) | (simp; omega))) fun h11 s11 => ?_
  have s11_z := s11.size
  replace p0 := p0.fresh s11.fr (by omega)
  replace r2 := r2.fr s11.fr (by omega)
  replace r3 := r3.fr s11.fr (by omega)
  replace r4 := r4.fr s11.fr (by omega)
  replace tx := tx.fr s11.fr (by omega)
  replace r7 := r7.fr s11.fr (by omega)
  replace ty := ty.fr s11.fr (by omega)
  replace r10 := s11.row r10
  try simp only [cl_int, cl_bool, cl_slice, cl_ptr, putAt_one, List.set_cons_zero, List.set_cons_succ, ivec_set, brow_upd] at r10
  simp -dsimp only [go_sem, ↓reduceIte, reduceCtorEq, Nat.reduceEqDiff, Nat.reduceAdd, Nat.reduceLeDiff, Nat.reduceMul, Int.reduceBEq, Int.reduceBNe, Int.reduceLT, Int.reduceLE, Int.reduceGT, Int.reduceGE, r2.cell, r3.cell, r4.cell, r7.cell, r10.cell]
  refine call_of (ref1_New (max n m : Nat) h11) ?_
  rintro v h12 ⟨f12, t12⟩
  rw [hcl] at t12
  obtain ⟨-, z, Z, rfl, t12⟩ := t12
  obtain ⟨za, zc, rfl⟩ := t12.own.is
  have t12_a := t12.own.at_
  have f12_z := f12.size
  replace p0 := p0.fresh f12 (by omega)
  replace r2 := r2.fr f12 (by omega)
  replace r3 := r3.fr f12 (by omega)
  replace r4 := r4.fr f12 (by omega)
  replace tx := tx.fr f12 (by omega)
  replace r7 := r7.fr f12 (by omega)
  replace ty := ty.fr f12 (by omega)
  replace r10 := r10.fr f12 (by omega)
  simp -dsimp only [go_sem, ↓reduceIte, reduceCtorEq, Nat.reduceEqDiff, Nat.reduceAdd, Nat.reduceLeDiff, Nat.reduceMul, Int.reduceBEq, Int.reduceBNe, Int.reduceLT, Int.reduceLE, Int.reduceGT, Int.reduceGE, r2.cell, r3.cell, r4.cell, r7.cell, r10.cell]
  intro b13 h13 n13
  have n13_a := n13.at_
  have n13_z := n13.size
  replace p0 := p0.fresh (n13.fr (lo := 0) (hi := 0)) (by omega)
  replace r2 := r2.fr (n13.fr (lo := 0) (hi := 0)) (by omega)
  replace r3 := r3.fr (n13.fr (lo := 0) (hi := 0)) (by omega)
  replace r4 := r4.fr (n13.fr (lo := 0) (hi := 0)) (by omega)
  replace tx := tx.fr (n13.fr (lo := 0) (hi := 0)) (by omega)
  replace r7 := r7.fr (n13.fr (lo := 0) (hi := 0)) (by omega)
  replace ty := ty.fr (n13.fr (lo := 0) (hi := 0)) (by omega)
  replace r10 := r10.fr (n13.fr (lo := 0) (hi := 0)) (by omega)
  replace t12 := t12.fr (n13.fr (lo := 0) (hi := 0)) (by omega)
  have r13 := n13.row
  simp -dsimp only [go_sem, ↓reduceIte, reduceCtorEq, Nat.reduceEqDiff, Nat.reduceAdd, Nat.reduceLeDiff, Nat.reduceMul, Int.reduceBEq, Int.reduceBNe, Int.reduceLT, Int.reduceLE, Int.reduceGT, Int.reduceGE, r2.cell, r3.cell, r4.cell, r7.cell, r10.cell, r13.cell]
  refine Chk_intro (r13.wr (by first | (simp; done) | (simp; omega))) fun h14 s14 => ?_
  have s14_z := s14.size
  replace p0 := p0.fresh s14.fr (by omega)
  replace r2 := r2.fr s14.fr (by omega)
  replace r3 := r3.fr s14.fr (by omega)
  replace r4 := r4.fr s14.fr (by omega)
  replace tx := tx.fr s14.fr (by omega)
  replace r7 := r7.fr s14.fr (by omega)
  replace ty := ty.fr s14.fr (by omega)
  replace r10 := r10.fr s14.fr (by omega)
  replace t12 := t12.fr s14.fr (by omega)
  replace r13 := s14.row r13
  try simp only [cl_int, cl_bool, cl_slice, cl_ptr, putAt_one, List.set_cons_zero, List.set_cons_succ, ivec_set, brow_upd] at r13
  simp -dsimp only [go_sem, ↓reduceIte, reduceCtorEq, Nat.reduceEqDiff, Nat.reduceAdd, Nat.reduceLeDiff, Nat.reduceMul, Int.reduceBEq, Int.reduceBNe, Int.reduceLT, Int.reduceLE, Int.reduceGT, Int.reduceGE, r2.cell, r3.cell, r4.cell, r7.cell, r10.cell, r13.cell]
  have htx := tx; have hty := ty
  have q0 := p0
  -- points, one by one
  refine loop_intro (fun p : Nat => [(4, .pointer (some ⟨b4, 0, none⟩)), (5, .pointer (some ⟨b7, 0, none⟩)), (6, .pointer (some ⟨b10, 0, none⟩)), (7, .pointer (some ⟨b13, 0, none⟩)), (8, .int .i64 p)])
    (fun p h' => p ≤ max n m ∧ Fr 0 0 h h' ∧ h14.size ≤ h'.size ∧ Rw h' b4 [.int .i64 0, .slice none 0 0] ∧ Rw h' b7 [.int .i64 (max n m : Nat), .slice xa (max n m) xc] ∧ Rw h' b10 [.int .i64 (max n m : Nat), .slice ya (max n m) yc] ∧ Rw h' b13 [.int .i64 (max n m : Nat), .slice za (max n m) zc] ∧
      Tab h' h4.size h6.size (.slice xa (max n m) xc) (max n m) (max n m) X (inN n M) ∧ Tab h' h8.size h9.size (.slice ya (max n m) yc) (max n m) (max n m) Y (inN m N) ∧ Tab h' h11.size h12.size (.slice za (max n m) zc) (max n m) (max n m) Z fun i j => decide (i < p) && compM n M m N i j) (fun p => max n m - p) 0 ?_ ?_ ?_
  · simp [Le, find]
  · exact ⟨by omega, p0, by omega, r4, r7, r10, r13, tx, ty, t12.congr fun i j _ _ => by simp⟩
  rintro p hP ⟨hp, p0, yP, r4, r7, r10, r13, tx, ty, t12⟩
  have p0_z := p0.size
  have r4_l := r4.lt
  have r7_l := r7.lt
  have r10_l := r10.lt
  have r13_l := r13.lt
  simp -dsimp only [go_sem, ↓reduceIte, reduceCtorEq, Nat.reduceEqDiff, Nat.reduceAdd, Nat.reduceLeDiff, Nat.reduceMul, Int.reduceBEq, Int.reduceBNe, Int.reduceLT, Int.reduceLE, Int.reduceGT, Int.reduceGE, r4.cell, r7.cell, r10.cell, r13.cell]
  refine ⟨fun hlt1 => ?_, fun hge1 => ?_⟩
  · have hlt1 : p < max n m := by omega
    simp -dsimp only [go_sem, ↓reduceIte, reduceCtorEq, Nat.reduceEqDiff, Nat.reduceAdd, Nat.reduceLeDiff, Nat.reduceMul, Int.reduceBEq, Int.reduceBNe, Int.reduceLT, Int.reduceLE, Int.reduceGT, Int.reduceGE, r4.cell, r7.cell, r10.cell, r13.cell]
    refine loop_intro (fun q : Nat => [(4, .pointer (some ⟨b4, 0, none⟩)), (5, .pointer (some ⟨b7, 0, none⟩)), (6, .pointer (some ⟨b10, 0, none⟩)), (7, .pointer (some ⟨b13, 0, none⟩)), (8, .int .i64 p), (9, .int .i64 q)])
      (fun q h' => q ≤ max n m ∧ Fr 0 0 h h' ∧ h14.size ≤ h'.size ∧ Rw h' b4 [.int .i64 0, .slice none 0 0] ∧ Rw h' b7 [.int .i64 (max n m : Nat), .slice xa (max n m) xc] ∧ Rw h' b10 [.int .i64 (max n m : Nat), .slice ya (max n m) yc] ∧ Rw h' b13 [.int .i64 (max n m : Nat), .slice za (max n m) zc] ∧
        Tab h' h4.size h6.size (.slice xa (max n m) xc) (max n m) (max n m) X (inN n M) ∧ Tab h' h8.size h9.size (.slice ya (max n m) yc) (max n m) (max n m) Y (inN m N) ∧ Tab h' h11.size h12.size (.slice za (max n m) zc) (max n m) (max n m) Z fun i j => (decide (i < p) && compM n M m N i j) || (i == p && (List.range q).any fun k => inN n M p k && inN m N k j)) (fun q => max n m - q) 0 ?_ ?_ ?_
    · simp [Le, find]
    · exact ⟨by omega, p0, by omega, r4, r7, r10, r13, tx, ty, t12.congr fun i j _ _ => by simp⟩
    rintro q hQ ⟨hq, p0, yQ, r4, r7, r10, r13, tx, ty, t12⟩
    have p0_z := p0.size
    have r4_l := r4.lt
    have r7_l := r7.lt
    have r10_l := r10.lt
    have r13_l := r13.lt
    simp -dsimp only [go_sem, ↓reduceIte, reduceCtorEq, Nat.reduceEqDiff, Nat.reduceAdd, Nat.reduceLeDiff, Nat.reduceMul, Int.reduceBEq, Int.reduceBNe, Int.reduceLT, Int.reduceLE, Int.reduceGT, Int.reduceGE, r4.cell, r7.cell, r10.cell, r13.cell]
    refine ⟨fun hlt2 => ?_, fun hge2 => ?_⟩
    · have hlt2 : q < max n m := by omega
      have hstep : ∀ j, (List.range (q + 1)).any (fun k => inN n M p k && inN m N k j) = ((List.range q).any (fun k => inN n M p k && inN m N k j) || (inN n M p q && inN m N q j)) := fun j => by
        rw [List.range_succ, List.any_append]; simp
      simp -dsimp only [go_sem, ↓reduceIte, reduceCtorEq, Nat.reduceEqDiff, Nat.reduceAdd, Nat.reduceLeDiff, Nat.reduceMul, Int.reduceBEq, Int.reduceBNe, Int.reduceLT, Int.reduceLE, Int.reduceGT, Int.reduceGE, r4.cell, r7.cell, r10.cell, r13.cell]
      refine loop_intro (fun c : Nat => [(4, .pointer (some ⟨b4, 0, none⟩)), (5, .pointer (some ⟨b7, 0, none⟩)), (6, .pointer (some ⟨b10, 0, none⟩)), (7, .pointer (some ⟨b13, 0, none⟩)), (8, .int .i64 p), (9, .int .i64 q), (10, .int .i64 c)])
        (fun c h' => c ≤ max n m ∧ (inN n M p q = false → c = 0) ∧ Fr 0 0 h h' ∧ h14.size ≤ h'.size ∧ Rw h' b4 [.int .i64 0, .slice none 0 0] ∧ Rw h' b7 [.int .i64 (max n m : Nat), .slice xa (max n m) xc] ∧ Rw h' b10 [.int .i64 (max n m : Nat), .slice ya (max n m) yc] ∧ Rw h' b13 [.int .i64 (max n m : Nat), .slice za (max n m) zc] ∧
          Tab h' h4.size h6.size (.slice xa (max n m) xc) (max n m) (max n m) X (inN n M) ∧ Tab h' h8.size h9.size (.slice ya (max n m) yc) (max n m) (max n m) Y (inN m N) ∧ Tab h' h11.size h12.size (.slice za (max n m) zc) (max n m) (max n m) Z fun i j => (decide (i < p) && compM n M m N i j) || (i == p && ((List.range q).any (fun k => inN n M p k && inN m N k j) || (decide (j < c) && inN m N q j)))) (fun c => max n m - c) 0 ?_ ?_ ?_
      · simp [Le, find]
      · exact ⟨by omega, fun _ => rfl, p0, by omega, r4, r7, r10, r13, tx, ty, t12.congr fun i j _ _ => by simp⟩
      rintro c hC ⟨hc, hc0, p0, yC, r4, r7, r10, r13, tx, ty, t12⟩
      have p0_z := p0.size
      have r4_l := r4.lt
      have r7_l := r7.lt
      have r10_l := r10.lt
      have r13_l := r13.lt
      simp -dsimp only [go_sem, ↓reduceIte, reduceCtorEq, Nat.reduceEqDiff, Nat.reduceAdd, Nat.reduceLeDiff, Nat.reduceMul, Int.reduceBEq, Int.reduceBNe, Int.reduceLT, Int.reduceLE, Int.reduceGT, Int.reduceGE, r4.cell, r7.cell, r10.cell, r13.cell]
      refine Chk_intro (by omega) (tx.idx (p := p) (by omega) fun b15 o15 c15 => ?_)
      simp -dsimp only [go_sem, ↓reduceIte, reduceCtorEq, Nat.reduceEqDiff, Nat.reduceAdd, Nat.reduceLeDiff, Nat.reduceMul, Int.reduceBEq, Int.reduceBNe, Int.reduceLT, Int.reduceLE, Int.reduceGT, Int.reduceGE, c15, r4.cell, r7.cell, r10.cell, r13.cell]
      refine Chk_intro (by omega) ?_
      simp -dsimp only [go_sem, ↓reduceIte, reduceCtorEq, Nat.reduceEqDiff, Nat.reduceAdd, Nat.reduceLeDiff, Nat.reduceMul, Int.reduceBEq, Int.reduceBNe, Int.reduceLT, Int.reduceLE, Int.reduceGT, Int.reduceGE, tx.cell hlt1 hlt2, r4.cell, r7.cell, r10.cell, r13.cell]
      cases hM : inN n M p q with
      | false =>
        have hc0 := hc0 hM
        subst hc0
        simp -dsimp only [go_sem, ↓reduceIte, reduceCtorEq, Nat.reduceEqDiff, Nat.reduceAdd, Nat.reduceLeDiff, Nat.reduceMul, Int.reduceBEq, Int.reduceBNe, Int.reduceLT, Int.reduceLE, Int.reduceGT, Int.reduceGE, r4.cell, r7.cell, r10.cell, r13.cell]
        simp -dsimp (disch := omega) only [wrap64]
        refine ⟨q + 1, by omega, by simp [Le, find], by omega, p0, by omega, r4, r7, r10, r13, tx, ty, t12.congr fun i j hi hj => ?_⟩
        rw [hstep, hM]; simp
      | true =>
        simp -dsimp only [go_sem, ↓reduceIte, reduceCtorEq, Nat.reduceEqDiff, Nat.reduceAdd, Nat.reduceLeDiff, Nat.reduceMul, Int.reduceBEq, Int.reduceBNe, Int.reduceLT, Int.reduceLE, Int.reduceGT, Int.reduceGE, r4.cell, r7.cell, r10.cell, r13.cell]
        refine ⟨fun hlt3 => ?_, fun hge3 => ?_⟩
        · have hlt3 : c < max n m := by omega
          have hold : ((decide (p < p) && compM n M m N p c) || (true && ((List.range q).any (fun k => inN n M p k && inN m N k c) || (decide (c < c) && inN m N q c)))) = (List.range q).any (fun k => inN n M p k && inN m N k c) := by simp
          have hnew : ∀ (v : Bool), v = ((List.range q).any (fun k => inN n M p k && inN m N k c) || inN m N q c) → ∀ i j, (if i = p ∧ j = c then v else ((decide (i < p) && compM n M m N i j) || (i == p && ((List.range q).any (fun k => inN n M p k && inN m N k j) || (decide (j < c) && inN m N q j))))) = ((decide (i < p) && compM n M m N i j) || (i == p && ((List.range q).any (fun k => inN n M p k && inN m N k j) || (decide (j < c + 1) && inN m N q j)))) := fun v hv i j => by
            by_cases hij : i = p ∧ j = c
            · obtain ⟨rfl, rfl⟩ := hij
              rw [if_pos ⟨rfl, rfl⟩, hv]; simp
            · rw [if_neg hij]
              by_cases hip : i = p
              · have : (j < c + 1) = (j < c) := by simp; omega
                simp [this]
              · have e : (i == p) = false := by simpa using hip
                simp [e]
          simp -dsimp only [go_sem, ↓reduceIte, reduceCtorEq, Nat.reduceEqDiff, Nat.reduceAdd, Nat.reduceLeDiff, Nat.reduceMul, Int.reduceBEq, Int.reduceBNe, Int.reduceLT, Int.reduceLE, Int.reduceGT, Int.reduceGE, r4.cell, r7.cell, r10.cell, r13.cell]
          refine Chk_intro (by omega) (t12.idx (p := p) (by omega) fun b16 o16 c16 => ?_)
          simp -dsimp only [go_sem, ↓reduceIte, reduceCtorEq, Nat.reduceEqDiff, Nat.reduceAdd, Nat.reduceLeDiff, Nat.reduceMul, Int.reduceBEq, Int.reduceBNe, Int.reduceLT, Int.reduceLE, Int.reduceGT, Int.reduceGE, c16, r4.cell, r7.cell, r10.cell, r13.cell]
          refine Chk_intro (by omega) (t12.idx (p := p) (by omega) fun b17 o17 c17 => ?_)
          simp -dsimp only [go_sem, ↓reduceIte, reduceCtorEq, Nat.reduceEqDiff, Nat.reduceAdd, Nat.reduceLeDiff, Nat.reduceMul, Int.reduceBEq, Int.reduceBNe, Int.reduceLT, Int.reduceLE, Int.reduceGT, Int.reduceGE, c17, r4.cell, r7.cell, r10.cell, r13.cell]
          refine Chk_intro (by omega) ?_
          simp -dsimp only [go_sem, ↓reduceIte, reduceCtorEq, Nat.reduceEqDiff, Nat.reduceAdd, Nat.reduceLeDiff, Nat.reduceMul, Int.reduceBEq, Int.reduceBNe, Int.reduceLT, Int.reduceLE, Int.reduceGT, Int.reduceGE, t12.cell hlt1 hlt3, r4.cell, r7.cell, r10.cell, r13.cell]
          rw [hold]
          cases hA : (List.range q).any (fun k => inN n M p k && inN m N k c) with
          | true =>
            simp -dsimp only [go_sem, ↓reduceIte, reduceCtorEq, Nat.reduceEqDiff, Nat.reduceAdd, Nat.reduceLeDiff, Nat.reduceMul, Int.reduceBEq, Int.reduceBNe, Int.reduceLT, Int.reduceLE, Int.reduceGT, Int.reduceGE, r4.cell, r7.cell, r10.cell, r13.cell]
            refine Chk_intro (by omega) ?_
            simp -dsimp only [go_sem, ↓reduceIte, reduceCtorEq, Nat.reduceEqDiff, Nat.reduceAdd, Nat.reduceLeDiff, Nat.reduceMul, Int.reduceBEq, Int.reduceBNe, Int.reduceLT, Int.reduceLE, Int.reduceGT, Int.reduceGE, r4.cell, r7.cell, r10.cell, r13.cell]
            refine Chk_intro (t12.wr hlt1 hlt3) fun h18 s18 => ?_
            have s18_z := s18.size
            have w_row := t12.row p hlt1
            have t13 := t12.set hlt1 s18
            have s18.fr_z := s18.fr.size
            replace p0 := p0.fresh s18.fr (by omega)
            replace r4 := r4.fr s18.fr (by omega)
            replace r7 := r7.fr s18.fr (by omega)
            replace r10 := r10.fr s18.fr (by omega)
            replace r13 := r13.fr s18.fr (by omega)
            replace tx := tx.fr s18.fr (by omega)
            replace ty := ty.fr s18.fr (by omega)
            simp -dsimp only [go_sem, ↓reduceIte, reduceCtorEq, Nat.reduceEqDiff, Nat.reduceAdd, Nat.reduceLeDiff, Nat.reduceMul, Int.reduceBEq, Int.reduceBNe, Int.reduceLT, Int.reduceLE, Int.reduceGT, Int.reduceGE, r4.cell, r7.cell, r10.cell, r13.cell]
            simp -dsimp (disch := omega) only [wrap64]
            exact ⟨c + 1, by omega, by simp [Le, find], by omega, by simp, p0, by omega, r4, r7, r10, r13, tx, ty, t13.congr fun i j _ _ => hnew _ (by rw [hA, Bool.true_or]) i j⟩
          | false =>
            simp -dsimp only [go_sem, ↓reduceIte, reduceCtorEq, Nat.reduceEqDiff, Nat.reduceAdd, Nat.reduceLeDiff, Nat.reduceMul, Int.reduceBEq, Int.reduceBNe, Int.reduceLT, Int.reduceLE, Int.reduceGT, Int.reduceGE, r4.cell, r7.cell, r10.cell, r13.cell]
            refine Chk_intro (by omega) (ty.idx (p := q) (by omega) fun b18 o18 c18 => ?_)
            simp -dsimp only [go_sem, ↓reduceIte, reduceCtorEq, Nat.reduceEqDiff, Nat.reduceAdd, Nat.reduceLeDiff, Nat.reduceMul, Int.reduceBEq, Int.reduceBNe, Int.reduceLT, Int.reduceLE, Int.reduceGT, Int.reduceGE, c18, r4.cell, r7.cell, r10.cell, r13.cell]
            refine Chk_intro (by omega) ?_
            simp -dsimp only [go_sem, ↓reduceIte, reduceCtorEq, Nat.reduceEqDiff, Nat.reduceAdd, Nat.reduceLeDiff, Nat.reduceMul, Int.reduceBEq, Int.reduceBNe, Int.reduceLT, Int.reduceLE, Int.reduceGT, Int.reduceGE, ty.cell hlt2 hlt3, r4.cell, r7.cell, r10.cell, r13.cell]
            refine Chk_intro (by omega) ?_
            simp -dsimp only [go_sem, ↓reduceIte, reduceCtorEq, Nat.reduceEqDiff, Nat.reduceAdd, Nat.reduceLeDiff, Nat.reduceMul, Int.reduceBEq, Int.reduceBNe, Int.reduceLT, Int.reduceLE, Int.reduceGT, Int.reduceGE, r4.cell, r7.cell, r10.cell, r13.cell]
            refine Chk_intro (t12.wr hlt1 hlt3) fun h18 s18 => ?_
            have s18_z := s18.size
            have w_row := t12.row p hlt1
            have t13 := t12.set hlt1 s18
            have s18.fr_z := s18.fr.size
            replace p0 := p0.fresh s18.fr (by omega)
            replace r4 := r4.fr s18.fr (by omega)
            replace r7 := r7.fr s18.fr (by omega)
            replace r10 := r10.fr s18.fr (by omega)
            replace r13 := r13.fr s18.fr (by omega)
            replace tx := tx.fr s18.fr (by omega)
            replace ty := ty.fr s18.fr (by omega)
            simp -dsimp only [go_sem, ↓reduceIte, reduceCtorEq, Nat.reduceEqDiff, Nat.reduceAdd, Nat.reduceLeDiff, Nat.reduceMul, Int.reduceBEq, Int.reduceBNe, Int.reduceLT, Int.reduceLE, Int.reduceGT, Int.reduceGE, r4.cell, r7.cell, r10.cell, r13.cell]
            simp -dsimp (disch := omega) only [wrap64]
            exact ⟨c + 1, by omega, by simp [Le, find], by omega, by simp, p0, by omega, r4, r7, r10, r13, tx, ty, t13.congr fun i j _ _ => hnew _ (by rw [hA, Bool.false_or]) i j⟩
        · have hcn : c = max n m := by omega
          simp -dsimp only [go_sem, ↓reduceIte, reduceCtorEq, Nat.reduceEqDiff, Nat.reduceAdd, Nat.reduceLeDiff, Nat.reduceMul, Int.reduceBEq, Int.reduceBNe, Int.reduceLT, Int.reduceLE, Int.reduceGT, Int.reduceGE, r4.cell, r7.cell, r10.cell, r13.cell]
          simp -dsimp (disch := omega) only [wrap64]
          refine ⟨q + 1, by omega, by simp [Le, find], by omega, p0, by omega, r4, r7, r10, r13, tx, ty, t12.congr fun i j hi hj => ?_⟩
          have : j < c := by omega
          rw [hstep, hM]; simp [this]
    · have hqn : q = max n m := by omega
      simp -dsimp only [go_sem, ↓reduceIte, reduceCtorEq, Nat.reduceEqDiff, Nat.reduceAdd, Nat.reduceLeDiff, Nat.reduceMul, Int.reduceBEq, Int.reduceBNe, Int.reduceLT, Int.reduceLE, Int.reduceGT, Int.reduceGE, r4.cell, r7.cell, r10.cell, r13.cell]
      simp -dsimp (disch := omega) only [wrap64]
      refine ⟨p + 1, by omega, by simp [Le, find], by omega, p0, by omega, r4, r7, r10, r13, tx, ty, t12.congr fun i j hi hj => ?_⟩
      by_cases hip : i = p
      · subst hip
        have e : (List.range q).any (fun k => inN n M i k && inN m N k j) = compM n M m N i j := by
          rw [Bool.eq_iff_iff, compM_true, List.any_eq_true]
          simp only [List.mem_range, Bool.and_eq_true]
          refine exists_congr fun k => ⟨fun ⟨_, h⟩ => h, fun h => ⟨?_, h⟩⟩
          have := (inN_true.1 h.1).2.1; omega
        rw [e]; simp
      · have e : (i == p) = false := by simpa using hip
        have e4 : (i < p + 1) = (i < p) := by simp; omega
        simp [e, e4]
  · have hpn : p = max n m := by omega
    simp -dsimp only [go_sem, ↓reduceIte, reduceCtorEq, Nat.reduceEqDiff, Nat.reduceAdd, Nat.reduceLeDiff, Nat.reduceMul, Int.reduceBEq, Int.reduceBNe, Int.reduceLT, Int.reduceLE, Int.reduceGT, Int.reduceGE, r4.cell, r7.cell, r10.cell, r13.cell]
    refine Chk_intro (r4.wr (by first | (simp; done) | (simp; omega))) fun h15 s15 => ?_
    have s15_z := s15.size
    replace p0 := p0.fresh s15.fr (by omega)
    replace r7 := r7.fr s15.fr (by omega)
    replace r10 := r10.fr s15.fr (by omega)
    replace r13 := r13.fr s15.fr (by omega)
    replace tx := tx.fr s15.fr (by omega)
    replace ty := ty.fr s15.fr (by omega)
    replace t12 := t12.fr s15.fr (by omega)
    replace r4 := s15.row r4
    try simp only [cl_int, cl_bool, cl_slice, cl_ptr, putAt_one, List.set_cons_zero, List.set_cons_succ, ivec_set, brow_upd] at r4
    simp -dsimp only [go_sem, ↓reduceIte, reduceCtorEq, Nat.reduceEqDiff, Nat.reduceAdd, Nat.reduceLeDiff, Nat.reduceMul, Int.reduceBEq, Int.reduceBNe, Int.reduceLT, Int.reduceLE, Int.reduceGT, Int.reduceGE, r4.cell, r7.cell, r10.cell, r13.cell]
    refine ⟨p0, hmx, _, Z, rfl, ((t12.mono (by omega) (by omega)).congr fun i j hi hj => ?_)⟩
    have : i < p := by omega
    simp [this]
end Go.Proofs.Tst
namespace Go.Proofs.Tst
open Go Go.Vc
def exL : List (Int × Int) := [(0, 1), (1, 2), (2, 0), (2, 3), (9, 1)]
theorem c_law1_example (h : Heap) : Con Tryd.prog 57 #[] h fun v h' => Fr 0 0 h h' ∧ ProgAt h' h.size h'.size v 4 (ofM 4 exL) := by
  refine con_law1_example ?_
  have p0 : Fr 0 0 h h := .refl _ _ _
  simp -dsimp only [go_sem, ↓reduceIte, reduceCtorEq, Nat.reduceEqDiff, Nat.reduceAdd, Nat.reduceLeDiff, Nat.reduceMul, Int.reduceBEq, Int.reduceBNe, Int.reduceLT, Int.reduceLE, Int.reduceGT, Int.reduceGE]
  intro b1 h1 n1
  have n1_a := n1.at_
  have n1_z := n1.size
  replace p0 := p0.fresh (n1.fr (lo := 0) (hi := 0)) (by omega)
  have r1 := n1.row
  simp -dsimp only [go_sem, ↓reduceIte, reduceCtorEq, Nat.reduceEqDiff, Nat.reduceAdd, Nat.reduceLeDiff, Nat.reduceMul, Int.reduceBEq, Int.reduceBNe, Int.reduceLT, Int.reduceLE, Int.reduceGT, Int.reduceGE, r1.cell]
  refine call_of (rel_Of 4 _ exL h1 (r1.rd rfl) (by decide)) ?_
  rintro v h2 ⟨f2, t2⟩
  have f2_z := f2.size
  replace p0 := p0.fresh f2 (by omega)
  replace r1 := r1.fr f2 (by omega)
  simp -dsimp only [go_sem, ↓reduceIte, reduceCtorEq, Nat.reduceEqDiff, Nat.reduceAdd, Nat.reduceLeDiff, Nat.reduceMul, Int.reduceBEq, Int.reduceBNe, Int.reduceLT, Int.reduceLE, Int.reduceGT, Int.reduceGE, r1.cell]
  exact ⟨p0, t2.mono (by omega) (by omega)⟩
theorem k1_1 : (pairsOf 4 (ofM 4 exL)).length = 4 := by decide +kernel
theorem k1_2 : cycS 4 (ofM 4 exL) = [0, 1, 2] := by decide +kernel
theorem k1_3 : (pairsOf 4 (plusM 4 (ofM 4 exL))).length = 12 := by decide +kernel
theorem k1_4 : irrB 4 (plusM 4 (ofM 4 exL)) = false := by decide +kernel
theorem k1_5 : irrB 4 (ofM 4 exL) = true := by decide +kernel
theorem k1_6 : (inR ((4 : Nat) : Int) 2 && inR ((4 : Nat) : Int) 0 && ofM 4 exL (Int.toNat 2) (Int.toNat 0)) = true := by decide +kernel
theorem k1_7 : (inR ((4 : Nat) : Int) 9 && inR ((4 : Nat) : Int) 1 && ofM 4 exL (Int.toNat 9) (Int.toNat 1)) = false := by decide +kernel
theorem c_law1_lives {h : Heap} (ht : TabAt h) : Con Tryd.prog 27 #[] h fun v h' => Fr 0 0 h h' ∧ v = .bool true := by
  refine con_law1_lives ?_
  have p0 : Fr 0 0 h h := .refl _ _ _
  simp -dsimp only [go_sem, ↓reduceIte, reduceCtorEq, Nat.reduceEqDiff, Nat.reduceAdd, Nat.reduceLeDiff, Nat.reduceMul, Int.reduceBEq, Int.reduceBNe, Int.reduceLT, Int.reduceLE, Int.reduceGT, Int.reduceGE]
  refine call_of (c_law1_example h) ?_
  rintro v1 h1 ⟨f1, t1⟩
  have f1_z := f1.size
  replace p0 := p0.fresh f1 (by omega)
  have q1 := t1
  obtain ⟨-, pb, rb, R, W, rfl, -⟩ := q1
  simp -dsimp only [go_sem, ↓reduceIte, reduceCtorEq, Nat.reduceEqDiff, Nat.reduceAdd, Nat.reduceLeDiff, Nat.reduceMul, Int.reduceBEq, Int.reduceBNe, Int.reduceLT, Int.reduceLE, Int.reduceGT, Int.reduceGE]
  refine call_of (rel_Copy t1) ?_
  rintro v2 h2 ⟨f2, -, pb2, rb2, R2, W2, rfl, -⟩
  have f2_z := f2.size
  replace p0 := p0.fresh f2 (by omega)
  replace t1 := t1.fr f2 (by omega)
  simp -dsimp only [go_sem, ↓reduceIte, reduceCtorEq, Nat.reduceEqDiff, Nat.reduceAdd, Nat.reduceLeDiff, Nat.reduceMul, Int.reduceBEq, Int.reduceBNe, Int.reduceLT, Int.reduceLE, Int.reduceGT, Int.reduceGE]
  refine call_of (rel_Inverse t1 (ht.fr p0 (by omega))) ?_
  rintro v3 h3 ⟨f3, -, pb3, rb3, R3, W3, rfl, -⟩
  have f3_z := f3.size
  replace p0 := p0.fresh f3 (by omega)
  replace t1 := t1.fr f3 (by omega)
  simp -dsimp only [go_sem, ↓reduceIte, reduceCtorEq, Nat.reduceEqDiff, Nat.reduceAdd, Nat.reduceLeDiff, Nat.reduceMul, Int.reduceBEq, Int.reduceBNe, Int.reduceLT, Int.reduceLE, Int.reduceGT, Int.reduceGE]
  refine call_of (rel_Opt t1) ?_
  rintro v4 h4 ⟨f4, -, pb4, rb4, R4, W4, rfl, -⟩
  have f4_z := f4.size
  replace p0 := p0.fresh f4 (by omega)
  replace t1 := t1.fr f4 (by omega)
  simp -dsimp only [go_sem, ↓reduceIte, reduceCtorEq, Nat.reduceEqDiff, Nat.reduceAdd, Nat.reduceLeDiff, Nat.reduceMul, Int.reduceBEq, Int.reduceBNe, Int.reduceLT, Int.reduceLE, Int.reduceGT, Int.reduceGE]
  refine call_of (rel_Plus t1) ?_
  rintro v5 h5 ⟨f5, -, pb5, rb5, R5, W5, rfl, -⟩
  have f5_z := f5.size
  replace p0 := p0.fresh f5 (by omega)
  replace t1 := t1.fr f5 (by omega)
  simp -dsimp only [go_sem, ↓reduceIte, reduceCtorEq, Nat.reduceEqDiff, Nat.reduceAdd, Nat.reduceLeDiff, Nat.reduceMul, Int.reduceBEq, Int.reduceBNe, Int.reduceLT, Int.reduceLE, Int.reduceGT, Int.reduceGE]
  refine call_of (rel_Len t1) ?_
  rintro v h6 ⟨rfl, rfl⟩
  simp -dsimp only [go_sem, ↓reduceIte, reduceCtorEq, Nat.reduceEqDiff, Nat.reduceAdd, Nat.reduceLeDiff, Nat.reduceMul, Int.reduceBEq, Int.reduceBNe, Int.reduceLT, Int.reduceLE, Int.reduceGT, Int.reduceGE, Int.cast_ofNat_Int]
  refine call_of (rel_Size t1) ?_
  rintro v h6 ⟨rfl, rfl⟩
  rw [k1_1]
  simp -dsimp only [go_sem, ↓reduceIte, reduceCtorEq, Nat.reduceEqDiff, Nat.reduceAdd, Nat.reduceLeDiff, Nat.reduceMul, Int.reduceBEq, Int.reduceBNe, Int.reduceLT, Int.reduceLE, Int.reduceGT, Int.reduceGE, Int.cast_ofNat_Int]
  refine call_of (rel_Has t1 2 0) ?_
  rintro v h6 ⟨rfl, rfl⟩
  rw [k1_6]
  simp -dsimp only [go_sem, ↓reduceIte, reduceCtorEq, Nat.reduceEqDiff, Nat.reduceAdd, Nat.reduceLeDiff, Nat.reduceMul, Int.reduceBEq, Int.reduceBNe, Int.reduceLT, Int.reduceLE, Int.reduceGT, Int.reduceGE]
  refine call_of (rel_Has t1 9 1) ?_
  rintro v h6 ⟨rfl, rfl⟩
  rw [k1_7]
  simp -dsimp only [go_sem, ↓reduceIte, reduceCtorEq, Nat.reduceEqDiff, Nat.reduceAdd, Nat.reduceLeDiff, Nat.reduceMul, Int.reduceBEq, Int.reduceBNe, Int.reduceLT, Int.reduceLE, Int.reduceGT, Int.reduceGE]
  refine call_of (rel_Cycle t1 (ht.fr p0 (by omega))) ?_
  rintro v6 h6 ⟨f6, o6⟩
  rw [k1_2] at o6
  have f6_z := f6.size
  replace p0 := p0.fresh f6 (by omega)
  replace t1 := t1.fr f6 (by omega)
  simp -dsimp only [go_sem, ↓reduceIte, reduceCtorEq, Nat.reduceEqDiff, Nat.reduceAdd, Nat.reduceLeDiff, Nat.reduceMul, Int.reduceBEq, Int.reduceBNe, Int.reduceLT, Int.reduceLE, Int.reduceGT, Int.reduceGE]
  intro b7 h7 n7
  have n7_a := n7.at_
  have n7_z := n7.size
  replace p0 := p0.fresh (n7.fr (lo := 0) (hi := 0)) (by omega)
  replace t1 := t1.fr (n7.fr (lo := 0) (hi := 0)) (by omega)
  replace o6 := o6.fr (n7.fr (lo := 0) (hi := 0)) (by have := o6.at_; omega)
  have r7 := n7.row
  simp -dsimp only [go_sem, ↓reduceIte, reduceCtorEq, Nat.reduceEqDiff, Nat.reduceAdd, Nat.reduceLeDiff, Nat.reduceMul, Int.reduceBEq, Int.reduceBNe, Int.reduceLT, Int.reduceLE, Int.reduceGT, Int.reduceGE, r7.cell]
  refine call_of (c_law1_ints (l := [0, 1, 2]) (m := [0, 1, 2]) o6.rd (r7.rd rfl) (by decide)) ?_
  rintro v h8 ⟨rfl, rfl⟩
  simp -dsimp only [go_sem, ↓reduceIte, reduceCtorEq, Nat.reduceEqDiff, Nat.reduceAdd, Nat.reduceLeDiff, Nat.reduceMul, Int.reduceBEq, Int.reduceBNe, Int.reduceLT, Int.reduceLE, Int.reduceGT, Int.reduceGE, r7.cell]
  refine call_of (rel_Plus t1) ?_
  rintro v9 h9 ⟨f9, t9⟩
  have f9_z := f9.size
  replace p0 := p0.fresh f9 (by omega)
  replace t1 := t1.fr f9 (by omega)
  replace o6 := o6.fr f9 (by have := o6.at_; omega)
  replace r7 := r7.fr f9 (by omega)
  have q9 := t9
  obtain ⟨-, pb9, rb9, R9, W9, rfl, -⟩ := q9
  simp -dsimp only [go_sem, ↓reduceIte, reduceCtorEq, Nat.reduceEqDiff, Nat.reduceAdd, Nat.reduceLeDiff, Nat.reduceMul, Int.reduceBEq, Int.reduceBNe, Int.reduceLT, Int.reduceLE, Int.reduceGT, Int.reduceGE, r7.cell]
  refine call_of (rel_Size t9) ?_
  rintro v h10 ⟨rfl, rfl⟩
  rw [k1_3]
  simp -dsimp only [go_sem, ↓reduceIte, reduceCtorEq, Nat.reduceEqDiff, Nat.reduceAdd, Nat.reduceLeDiff, Nat.reduceMul, Int.reduceBEq, Int.reduceBNe, Int.reduceLT, Int.reduceLE, Int.reduceGT, Int.reduceGE, Int.cast_ofNat_Int, r7.cell]
  refine call_of (rel_Acyclic t1) ?_
  rintro v h11 ⟨f11, rfl⟩
  rw [k1_4]
  have f11_z := f11.size
  replace p0 := p0.fresh f11 (by omega)
  replace t1 := t1.fr f11 (by omega)
  replace o6 := o6.fr f11 (by have := o6.at_; omega)
  replace r7 := r7.fr f11 (by omega)
  replace t9 := t9.fr f11 (by omega)
  simp -dsimp only [go_sem, ↓reduceIte, reduceCtorEq, Nat.reduceEqDiff, Nat.reduceAdd, Nat.reduceLeDiff, Nat.reduceMul, Int.reduceBEq, Int.reduceBNe, Int.reduceLT, Int.reduceLE, Int.reduceGT, Int.reduceGE, r7.cell]
  refine call_of (rel_Irreflexive t1) ?_
  rintro v h12 ⟨rfl, rfl⟩
  rw [k1_5]
  simp -dsimp only [go_sem, ↓reduceIte, reduceCtorEq, Nat.reduceEqDiff, Nat.reduceAdd, Nat.reduceLeDiff, Nat.reduceMul, Int.reduceBEq, Int.reduceBNe, Int.reduceLT, Int.reduceLE, Int.reduceGT, Int.reduceGE, r7.cell]
  exact p0
end Go.Proofs.Tst
/-
  A least cycle is one; numbers that rise, round by round.
-/
namespace Go.Vc
section
variable {n : Nat} {M : Nat → Nat → Bool} {p : Nat}
theorem far_plus : ∀ {m i : Nat}, farS n M p i = m + 1 → plusM n M i p = true
  | 0, i, h => plus_sub ((farS_step h).1 rfl)
  | m + 1, i, h => by
    obtain ⟨j, hj, hM, hf⟩ := (farS_step h).2 (by omega)
    exact plus_trans hj (plus_sub hM) (far_plus hf)
/-- The list of a shortest way. -/
theorem cycGo_way : ∀ (k a : Nat), farS n M p a = k + 1 → (a :: cycGo n M (farS n M p) k a).length = k + 1 ∧ ∀ i x, (a :: cycGo n M (farS n M p) k a)[i]? = some x →
    farS n M p x + i = k + 1 ∧ (i ≠ 0 → x < n ∧ plusM n M a x = true) ∧ (i < k → ∃ y, (a :: cycGo n M (farS n M p) k a)[i + 1]? = some y ∧ M x y = true) ∧ (i = k → M x p = true)
  | 0, a, h => by
    refine ⟨rfl, fun i x hx => ?_⟩
    simp only [cycGo] at hx
    cases i with
    | succ i => simp at hx
    | zero =>
      simp at hx; subst hx
      exact ⟨by omega, by omega, by omega, fun _ => (farS_step h).1 rfl⟩
  | k + 1, a, h => by
    obtain ⟨j, hj, hM, hf⟩ := (farS_step h).2 (by omega)
    simp only [cycGo]
    cases hl : lf (fun q => M a q && farS n M p q == k + 1) n 0 with
    | none =>
      have := lf_none hl j (by omega) hj
      simp [hM, hf] at this
    | some q =>
      obtain ⟨-, hq, hfq⟩ := lf_some hl
      simp only [Bool.and_eq_true, beq_iff_eq] at hfq
      obtain ⟨ih1, ih2⟩ := cycGo_way k q hfq.2
      refine ⟨by simpa using ih1, fun i x hx => ?_⟩
      cases i with
      | zero =>
        simp at hx; subst hx
        exact ⟨by omega, by omega, fun _ => ⟨q, by simp, hfq.1⟩, by omega⟩
      | succ i =>
        rw [List.getElem?_cons_succ] at hx
        obtain ⟨g1, g2, g3, g4⟩ := ih2 i x hx
        refine ⟨by omega, fun _ => ?_, fun hi => ?_, fun hi => g4 (by omega)⟩
        · cases i with
          | zero => simp at hx; subst hx; exact ⟨hq, plus_sub hfq.1⟩
          | succ i => exact ⟨(g2 (by omega)).1, plus_trans hq (plus_sub hfq.1) (g2 (by omega)).2⟩
        · obtain ⟨y, hy, hm⟩ := g3 (by omega)
          exact ⟨y, by rw [List.getElem?_cons_succ]; exact hy, hm⟩
end
/-- What is told of a cycle. -/
theorem cycS_is {n : Nat} {M : Nat → Nat → Bool} (hne : cycS n M ≠ []) : ∃ p, p < n ∧ (cycS n M)[0]? = some p ∧ plusM n M p p = true ∧ (∀ q, q < p → plusM n M q q = false) ∧
    (∀ (i x : Nat), (cycS n M)[i]? = some x → x < n ∧ p ≤ x ∧ (∀ y : Nat, (cycS n M)[i + 1]? = some y → M x y = true) ∧ (i + 1 = (cycS n M).length → M x p = true)) ∧
    ∀ i j x : Nat, (cycS n M)[i]? = some x → (cycS n M)[j]? = some x → i = j := by
  unfold cycS at hne ⊢
  cases hl : lf (fun p => plusM n M p p) n 0 with
  | none => rw [hl] at hne; simp at hne
  | some p =>
    obtain ⟨-, hp, hpp⟩ := lf_some hl
    dsimp only
    have hF := plus_far hp hp hpp
    obtain ⟨k, hk⟩ : ∃ k, farS n M p p = k + 1 := ⟨farS n M p p - 1, by omega⟩
    have hs : shortS n M p = p :: cycGo n M (farS n M p) k p := by unfold shortS; rw [hk]; rfl
    rw [hs]
    obtain ⟨h1, h2⟩ := cycGo_way (n := n) (M := M) (p := p) k p hk
    refine ⟨p, hp, by simp, hpp, fun q hq => lf_least hl q (by omega) hq, fun i x hx => ?_, fun i j x hi hj => ?_⟩
    · obtain ⟨g1, g2, g3, g4⟩ := h2 i x hx
      have hil : i < k + 1 := by rw [← h1]; exact (List.getElem?_eq_some_iff.1 hx).1
      have hx2 : x < n ∧ plusM n M p x = true := by
        by_cases hi : i = 0
        · subst hi; simp at hx; subst hx; exact ⟨hp, hpp⟩
        · exact g2 hi
      have hxx : plusM n M x x = true := by
        obtain ⟨m, hm⟩ : ∃ m, farS n M p x = m + 1 := ⟨farS n M p x - 1, by omega⟩
        exact plus_trans hp (far_plus hm) hx2.2
      refine ⟨hx2.1, ?_, fun y hy => ?_, fun hi => g4 (by omega)⟩
      · apply Classical.byContradiction; intro hlt
        have := lf_least hl x (by omega) (by omega)
        rw [this] at hxx; cases hxx
      · have : i + 1 < k + 1 := by rw [← h1]; exact (List.getElem?_eq_some_iff.1 hy).1
        obtain ⟨z, hz, hm⟩ := g3 (by omega)
        rw [hy] at hz; cases hz; exact hm
    · have := (h2 i x hi).1; have := (h2 j x hj).1; omega
theorem cycS_nil {n : Nat} {M : Nat → Nat → Bool} (h : cycS n M = []) : ∀ i, i < n → plusM n M i i = false := by
  unfold cycS at h
  split at h
  · rename_i hl; exact fun i hi => lf_none hl i (by omega) hi
  · simp [shortS] at h
/-- Without a cycle a way has fewer steps than there are points. -/
theorem way_short {n : Nat} {M : Nat → Nat → Bool} (ha : ∀ i, i < n → plusM n M i i = false) {k i j : Nat} (hi : i < n) (hj : j < n) (h : Way n M k i j) : k ≤ (List.range n).countP fun x => plusM n M i x := by
  induction h with
  | @one i j h =>
    rw [Nat.succ_le_iff]
    exact List.countP_pos_iff.2 ⟨j, List.mem_range.2 hj, plus_sub h⟩
  | @more k i x j hx h hw ih =>
    have := ih hx hj
    have := countP_lt (f := fun y => plusM n M x y) (g := fun y => plusM n M i y) n x hx (fun y hy => plus_trans hx (plus_sub h) hy) (ha x hx) (plus_sub h)
    omega
theorem no_way {n : Nat} {M : Nat → Nat → Bool} (ha : ∀ i, i < n → plusM n M i i = false) {i j : Nat} (hi : i < n) (hj : j < n) (h : Way n M n i j) : False := by
  have := way_short ha hi hj h
  have h2 := countP_lt (f := fun y => plusM n M i y) (g := fun _ => true) n i hi (fun _ _ => rfl) (ha i hi) rfl
  simp at h2
  omega
theorem Way.end {n : Nat} {M : Nat → Nat → Bool} {k a i j : Nat} (h : Way n M k a i) (hi : i < n) (hm : M i j = true) : Way n M (k + 1) a j := h.app hi (.one hm)

/-- Is there a way of so many steps to a point? -/
def WayTo (n : Nat) (M : Nat → Nat → Bool) (r i : Nat) : Prop := r = 0 ∨ ∃ a, a < n ∧ Way n M r a i
/-- The numbers within a round. -/
structure Num (n : Nat) (M : Nat → Nat → Bool) (r p : Nat) (N : Nat → Nat) : Prop where
  top : ∀ i, i < n → N i ≤ r
  new : ∀ i, i < n → p ≤ i → N i < r
  up : ∀ a b, a < n → b < n → M a b = true → N b ≠ 0 → N a ≠ 0 ∧ N a < N b
  old : ∀ i, i < n → N i = 0 ∨ N i = r → WayTo n M (r - 1) i
  done : ∀ i, i < p → N i = 0 → WayTo n M r i
section
variable {n : Nat} {M : Nat → Nat → Bool} {r p : Nat} {N : Nat → Nat}
theorem Num.start : Num n M 1 0 fun _ => 0 :=
  ⟨fun _ _ => by omega, fun _ _ _ => by omega, fun _ _ _ _ _ h => absurd rfl h, fun _ _ _ => .inl rfl, fun i h => by omega⟩
theorem Num.label (h : Num n M r p N) (hp : p < n) (h0 : N p = 0) (hf : ∀ a, a < n → M a p = true → N a ≠ 0 ∧ N a ≠ r) : Num n M r (p + 1) (upd N p r) := by
  have hr := h.new p hp (Nat.le_refl _)
  refine ⟨fun i hi => ?_, fun i hi hpi => ?_, fun a b ha hb hm hN => ?_, fun i hi hN => ?_, fun i hi hN => ?_⟩
  · by_cases hip : i = p
    · subst hip; rw [upd_same]; omega
    · rw [upd_ne _ _ hip]; exact h.top i hi
  · rw [upd_ne _ _ (by omega)]; exact h.new i hi (by omega)
  · by_cases hbp : b = p
    · subst hbp
      have h1 := hf a ha hm
      have h2 := h.top a ha
      have hab : a ≠ b := by rintro rfl; exact h1.1 h0
      rw [upd_same, upd_ne _ _ hab]; omega
    · rw [upd_ne _ _ hbp] at hN ⊢
      have h1 := h.up a b ha hb hm hN
      have hap : a ≠ p := by rintro rfl; exact h1.1 h0
      rw [upd_ne _ _ hap]; exact h1
  · by_cases hip : i = p
    · subst hip; exact h.old i hi (.inl h0)
    · rw [upd_ne _ _ hip] at hN; exact h.old i hi hN
  · by_cases hip : i = p
    · subst hip; rw [upd_same] at hN; omega
    · rw [upd_ne _ _ hip] at hN; exact h.done i (by omega) hN
theorem Num.skip (h : Num n M r p N) (h0 : N p ≠ 0 ∨ ∃ a, a < n ∧ M a p = true ∧ (N a = 0 ∨ N a = r)) (hr : 1 ≤ r) : Num n M r (p + 1) N := by
  refine ⟨h.top, fun i hi hpi => h.new i hi (by omega), h.up, h.old, fun i hi hN => ?_⟩
  by_cases hip : i = p
  · subst hip
    rcases h0 with h0 | ⟨a, ha, hm, h0⟩
    · exact absurd hN h0
    · obtain ⟨r, rfl⟩ : ∃ r', r = r' + 1 := ⟨r - 1, by omega⟩
      rcases h.old a ha h0 with h1 | ⟨b, hb, hw⟩
      · have : r = 0 := by omega
        subst this
        exact .inr ⟨a, ha, .one hm⟩
      · exact .inr ⟨b, hb, hw.end ha hm⟩
  · exact h.done i (by omega) hN
theorem Num.next (h : Num n M r n N) : Num n M (r + 1) 0 N :=
  ⟨fun i hi => by have := h.top i hi; omega, fun i hi _ => by have := h.top i hi; omega, h.up, fun i hi hN => by
    rcases hN with hN | hN
    · exact h.done i hi hN
    · have := h.top i hi; omega, fun i hi => by omega⟩
theorem Num.all (h : Num n M (n + 1) 0 N) (ha : ∀ i, i < n → plusM n M i i = false) {a b : Nat} (h1 : a < n) (h2 : b < n) (hm : M a b = true) : N a ≠ 0 ∧ N a < N b := by
  have hb : N b ≠ 0 := by
    intro h0
    rcases h.old b h2 (.inl h0) with h3 | ⟨c, hc, hw⟩
    · omega
    · exact no_way ha hc h2 hw
  exact h.up a b h1 h2 hm hb
end
end Go.Vc
namespace Go.Proofs.Tst
open Go Go.Vc
/-- Does a pair keep a point from its number? -/
def badN (N : Nat → Nat) (r p : Nat) (x : Int × Int) : Bool := x.2 == (p : Int) && ((N x.1.toNat : Int) == 0 || (N x.1.toNat : Int) == (r : Int))
theorem c_law1_rises {n : Nat} {M : Nat → Nat → Bool} {pv : Value} {lo hi : Nat} {h : Heap} (hr : ProgAt h lo hi pv n M) (ht : TabAt h) (ha : ∀ i, i < n → plusM n M i i = false) :
    Con Tryd.prog 29 #[pv] h fun v h' => Fr 0 0 h h' ∧ v = .bool true := by
  refine con_law1_rises ?_
  have hn := hr.1
  have p0 : Fr 0 0 h h := .refl _ _ _
  simp -dsimp only [go_sem, ↓reduceIte, reduceCtorEq, Nat.reduceEqDiff, Nat.reduceAdd, Nat.reduceLeDiff, Nat.reduceMul, Int.reduceBEq, Int.reduceBNe, Int.reduceLT, Int.reduceLE, Int.reduceGT, Int.reduceGE]
  refine call_of (rel_Len hr) ?_
  rintro v h0 ⟨hh, rfl⟩
  obtain rfl : h = h0 := hh.symm
  simp -dsimp only [go_sem, ↓reduceIte, reduceCtorEq, Nat.reduceEqDiff, Nat.reduceAdd, Nat.reduceLeDiff, Nat.reduceMul, Int.reduceBEq, Int.reduceBNe, Int.reduceLT, Int.reduceLE, Int.reduceGT, Int.reduceGE]
  refine call_of (rel_Pairs hr ht) ?_
  rintro lv h1 ⟨f1, ol⟩
  have hlen := length_pairsTo_le n M n
  have hmem := fun (p : Int × Int) => mem_pairsOf (n := n) (M := M) (p := p)
  have hlen : (pairsOf n M).length ≤ n * n := hlen
  have hn2 : n * n ≤ 65536 := Nat.mul_le_mul hn hn
  generalize pairsOf n M = l at ol hlen hmem
  obtain ⟨la, lc, rfl⟩ := ol.is
  have ol_l := ol.top
  have f1_z := f1.size
  replace p0 := p0.fresh f1 (by omega)
  simp -dsimp only [go_sem, ↓reduceIte, reduceCtorEq, Nat.reduceEqDiff, Nat.reduceAdd, Nat.reduceLeDiff, Nat.reduceMul, Int.reduceBEq, Int.reduceBNe, Int.reduceLT, Int.reduceLE, Int.reduceGT, Int.reduceGE]
  refine Chk_intro (by omega) ?_
  intro bN h2 n2
  have n2_a := n2.at_
  have n2_z := n2.size
  replace p0 := p0.fresh (n2.fr (lo := 0) (hi := 0)) (by omega)
  replace ol := ol.fr (n2.fr (lo := 0) (hi := 0)) (by have := ol.at_; omega)
  have rN := n2.row
  rw [zeros_one, Int.toNat_natCast, ivec_rep] at rN
  simp -dsimp only [go_sem, ↓reduceIte, reduceCtorEq, Nat.reduceEqDiff, Nat.reduceAdd, Nat.reduceLeDiff, Nat.reduceMul, Int.reduceBEq, Int.reduceBNe, Int.reduceLT, Int.reduceLE, Int.reduceGT, Int.reduceGE, rN.cell]
  refine loop_intro (fun r : Nat => [(3, .int .i64 n), (4, .slice la l.length lc), (5, .slice (some ⟨bN, 0, none⟩) n n), (6, .int .i64 r)])
    (fun r h' => 1 ≤ r ∧ r ≤ n + 1 ∧ Fr 0 0 h h' ∧ h2.size ≤ h'.size ∧ Holder 2 h' (.slice la l.length lc) l.length (pairsV l) h.size ∧ ∃ N, Rw h' bN (ivec n fun i => (N i : Int)) ∧ Num n M r 0 N) (fun r => n + 1 - r) 1 ?_ ?_ ?_
  · simp [Le, find]
  · exact ⟨by omega, by omega, p0, by omega, ol, _, rN, .start⟩
  rintro r h3 ⟨hr1, hrn, p0, y3, ol, N, rN, hN⟩
  have p0_z := p0.size
  have ol_l := ol.top
  have rN_l := rN.lt
  simp -dsimp only [go_sem, ↓reduceIte, reduceCtorEq, Nat.reduceEqDiff, Nat.reduceAdd, Nat.reduceLeDiff, Nat.reduceMul, Int.reduceBEq, Int.reduceBNe, Int.reduceLT, Int.reduceLE, Int.reduceGT, Int.reduceGE, rN.cell]
  refine ⟨fun hlt => ?_, fun hge => ?_⟩
  · have hlt : r ≤ n := by omega
    simp -dsimp only [go_sem, ↓reduceIte, reduceCtorEq, Nat.reduceEqDiff, Nat.reduceAdd, Nat.reduceLeDiff, Nat.reduceMul, Int.reduceBEq, Int.reduceBNe, Int.reduceLT, Int.reduceLE, Int.reduceGT, Int.reduceGE, rN.cell]
    refine loop_intro (fun p : Nat => [(3, .int .i64 n), (4, .slice la l.length lc), (5, .slice (some ⟨bN, 0, none⟩) n n), (6, .int .i64 r), (7, .int .i64 p)])
      (fun p h' => p ≤ n ∧ Fr 0 0 h h' ∧ h2.size ≤ h'.size ∧ Holder 2 h' (.slice la l.length lc) l.length (pairsV l) h.size ∧ ∃ N, Rw h' bN (ivec n fun i => (N i : Int)) ∧ Num n M r p N) (fun p => n - p) 0 ?_ ?_ ?_
    · simp [Le, find]
    · exact ⟨by omega, p0, by omega, ol, _, rN, hN⟩
    rintro p h4 ⟨hp, p0, y4, ol, N, rN, hN⟩
    have p0_z := p0.size
    have ol_l := ol.top
    have rN_l := rN.lt
    simp -dsimp only [go_sem, ↓reduceIte, reduceCtorEq, Nat.reduceEqDiff, Nat.reduceAdd, Nat.reduceLeDiff, Nat.reduceMul, Int.reduceBEq, Int.reduceBNe, Int.reduceLT, Int.reduceLE, Int.reduceGT, Int.reduceGE, rN.cell]
    refine ⟨fun hlt1 => ?_, fun hge1 => ?_⟩
    · have hlt1 : p < n := by omega
      simp -dsimp only [go_sem, ↓reduceIte, reduceCtorEq, Nat.reduceEqDiff, Nat.reduceAdd, Nat.reduceLeDiff, Nat.reduceMul, Int.reduceBEq, Int.reduceBNe, Int.reduceLT, Int.reduceLE, Int.reduceGT, Int.reduceGE, rN.cell]
      refine Chk_intro (by omega) ?_
      simp -dsimp only [go_sem, ↓reduceIte, reduceCtorEq, Nat.reduceEqDiff, Nat.reduceAdd, Nat.reduceLeDiff, Nat.reduceMul, Int.reduceBEq, Int.reduceBNe, Int.reduceLT, Int.reduceLE, Int.reduceGT, Int.reduceGE, ivec_get hlt1, rN.cell]
      refine loop_intro (fun s : Nat × Bool => [(3, .int .i64 n), (4, .slice la l.length lc), (5, .slice (some ⟨bN, 0, none⟩) n n), (6, .int .i64 r), (7, .int .i64 p), (8, .bool s.2), (9, .int .i64 s.1)])
        (fun s h' => h' = h4 ∧ s.1 ≤ l.length ∧ s.2 = (((N p : Int) == 0) && !(l.take s.1).any (badN N r p))) (fun s => l.length - s.1) (0, ((N p : Int) == 0)) ?_ ?_ ?_
      · simp [Le, find]
      · exact ⟨rfl, by simp, by simp⟩
      rintro ⟨i, free⟩ h5 ⟨hh, hi, hf⟩
      obtain rfl : h4 = h5 := hh.symm
      dsimp only at hi hf ⊢
      have hfin : (i < l.length → free = false) → free = (((N p : Int) == 0) && !l.any (badN N r p)) := fun h => by
        by_cases hil : i < l.length
        · have h1 := h hil
          rw [h1] at hf
          rw [h1]
          by_cases h0 : ((N p : Int) == 0) = true
          · rw [h0, Bool.true_and] at hf ⊢
            have h2 : (l.take i).any (badN N r p) = true := by simpa using hf.symm
            obtain ⟨x, hx, hb⟩ := List.any_eq_true.1 h2
            have : l.any (badN N r p) = true := List.any_eq_true.2 ⟨x, List.mem_of_mem_take hx, hb⟩
            rw [this]; rfl
          · rw [Bool.not_eq_true] at h0; rw [h0]; rfl
        · rw [List.take_of_length_le (by omega)] at hf; exact hf
      have hout : free = (((N p : Int) == 0) && !l.any (badN N r p)) → (free = true → Num n M r (p + 1) (upd N p r)) ∧ (free = false → Num n M r (p + 1) N) := fun hfr => by
        refine ⟨fun h1 => ?_, fun h1 => ?_⟩
        · rw [h1] at hfr
          have hfr := hfr.symm
          simp only [Bool.and_eq_true, Bool.not_eq_true', beq_iff_eq, List.any_eq_false] at hfr
          refine hN.label hlt1 (by omega) fun a ha' hm => ?_
          have := hfr.2 ((a : Int), (p : Int)) ((hmem _).2 ⟨a, p, ha', hlt1, hm, rfl⟩)
          simp [badN] at this; omega
        · rw [h1] at hfr
          refine hN.skip ?_ hr1
          by_cases h0 : N p = 0
          · right
            rw [h0] at hfr
            have hany : l.any (badN N r p) = true := by
              cases h2 : l.any (badN N r p) with
              | true => rfl
              | false => rw [h2] at hfr; exact absurd hfr (by decide)
            obtain ⟨x, hx, hb⟩ := List.any_eq_true.1 hany
            obtain ⟨a, b, h3, h4, h5, rfl⟩ := (hmem _).1 hx
            simp [badN] at hb
            obtain ⟨hbp, hb⟩ := hb
            obtain rfl : b = p := by omega
            exact ⟨a, h3, h5, by omega⟩
          · exact .inl h0
      by_cases hil : i < l.length <;> have hilI := hil <;> rw [show (i < l.length) = ((i : Int) < (l.length : Int)) by simp] at hilI
      · cases free with
        | true =>
          have hx : l[i]? = some l[i] := by simp [hil]
          have hxm := (hmem _).1 (List.mem_of_getElem? hx)
          have htk : (l.take (i + 1)).any (badN N r p) = ((l.take i).any (badN N r p) || badN N r p l[i]) := by
            rw [List.take_succ_eq_append_getElem hil, List.any_append]; simp only [List.any_cons, List.any_nil, Bool.or_false]
          generalize l[i] = x at hx hxm htk
          obtain ⟨a, b, g1, g2, g3, rfl⟩ := hxm
          have hf' : ((N p : Int) == 0) = true ∧ (l.take i).any (badN N r p) = false := by
            have := hf.symm; simpa using this
          have hnext : ∀ v, v = (!badN N r p ((a : Int), (b : Int))) → v = (((N p : Int) == 0) && !(l.take (i + 1)).any (badN N r p)) := fun v hv => by
            rw [hf'.1, htk, hf'.2, Bool.false_or, Bool.true_and]; exact hv
          simp -dsimp only [go_sem, ↓reduceIte, reduceCtorEq, Nat.reduceEqDiff, Nat.reduceAdd, Nat.reduceLeDiff, Nat.reduceMul, Int.reduceBEq, Int.reduceBNe, Int.reduceLT, Int.reduceLE, Int.reduceGT, Int.reduceGE, hilI, decide_true, decide_false, rN.cell]
          refine ol.rd.pair hx fun b1 o1 c1 d1 => ?_
          simp -dsimp only [go_sem, ↓reduceIte, reduceCtorEq, Nat.reduceEqDiff, Nat.reduceAdd, Nat.reduceLeDiff, Nat.reduceMul, Int.reduceBEq, Int.reduceBNe, Int.reduceLT, Int.reduceLE, Int.reduceGT, Int.reduceGE, c1, d1, rN.cell]
          cases hb : ((b : Int) == (p : Int)) with
          | false =>
            simp -dsimp only [go_sem, ↓reduceIte, reduceCtorEq, Nat.reduceEqDiff, Nat.reduceAdd, Nat.reduceLeDiff, Nat.reduceMul, Int.reduceBEq, Int.reduceBNe, Int.reduceLT, Int.reduceLE, Int.reduceGT, Int.reduceGE, rN.cell]
            simp -dsimp (disch := omega) only [wrap64]
            exact ⟨(i + 1, true), by omega, by simp [Le, find], by omega, hnext _ (by simp [badN, hb])⟩
          | true =>
            simp -dsimp only [go_sem, ↓reduceIte, reduceCtorEq, Nat.reduceEqDiff, Nat.reduceAdd, Nat.reduceLeDiff, Nat.reduceMul, Int.reduceBEq, Int.reduceBNe, Int.reduceLT, Int.reduceLE, Int.reduceGT, Int.reduceGE, rN.cell]
            refine Chk_intro (by omega) (ol.rd.pair hx fun b2 o2 c2 d2 => ?_)
            simp -dsimp only [go_sem, ↓reduceIte, reduceCtorEq, Nat.reduceEqDiff, Nat.reduceAdd, Nat.reduceLeDiff, Nat.reduceMul, Int.reduceBEq, Int.reduceBNe, Int.reduceLT, Int.reduceLE, Int.reduceGT, Int.reduceGE, c2, d2, rN.cell]
            refine Chk_intro (by omega) ?_
            simp -dsimp only [go_sem, ↓reduceIte, reduceCtorEq, Nat.reduceEqDiff, Nat.reduceAdd, Nat.reduceLeDiff, Nat.reduceMul, Int.reduceBEq, Int.reduceBNe, Int.reduceLT, Int.reduceLE, Int.reduceGT, Int.reduceGE, ivec_get g1, rN.cell]
            cases hz : ((N a : Int) == 0) with
            | true =>
              simp -dsimp only [go_sem, ↓reduceIte, reduceCtorEq, Nat.reduceEqDiff, Nat.reduceAdd, Nat.reduceLeDiff, Nat.reduceMul, Int.reduceBEq, Int.reduceBNe, Int.reduceLT, Int.reduceLE, Int.reduceGT, Int.reduceGE, rN.cell]
              simp -dsimp (disch := omega) only [wrap64]
              exact ⟨(i + 1, false), by omega, by simp [Le, find], by omega, hnext _ (by simp [badN, hb, hz])⟩
            | false =>
              simp -dsimp only [go_sem, ↓reduceIte, reduceCtorEq, Nat.reduceEqDiff, Nat.reduceAdd, Nat.reduceLeDiff, Nat.reduceMul, Int.reduceBEq, Int.reduceBNe, Int.reduceLT, Int.reduceLE, Int.reduceGT, Int.reduceGE, rN.cell]
              refine Chk_intro (by omega) (ol.rd.pair hx fun b3 o3 c3 d3 => ?_)
              simp -dsimp only [go_sem, ↓reduceIte, reduceCtorEq, Nat.reduceEqDiff, Nat.reduceAdd, Nat.reduceLeDiff, Nat.reduceMul, Int.reduceBEq, Int.reduceBNe, Int.reduceLT, Int.reduceLE, Int.reduceGT, Int.reduceGE, c3, d3, rN.cell]
              refine Chk_intro (by omega) ?_
              simp -dsimp only [go_sem, ↓reduceIte, reduceCtorEq, Nat.reduceEqDiff, Nat.reduceAdd, Nat.reduceLeDiff, Nat.reduceMul, Int.reduceBEq, Int.reduceBNe, Int.reduceLT, Int.reduceLE, Int.reduceGT, Int.reduceGE, ivec_get g1, rN.cell]
              cases hz2 : ((N a : Int) == (r : Int)) with
              | true =>
                simp -dsimp only [go_sem, ↓reduceIte, reduceCtorEq, Nat.reduceEqDiff, Nat.reduceAdd, Nat.reduceLeDiff, Nat.reduceMul, Int.reduceBEq, Int.reduceBNe, Int.reduceLT, Int.reduceLE, Int.reduceGT, Int.reduceGE, rN.cell]
                simp -dsimp (disch := omega) only [wrap64]
                exact ⟨(i + 1, false), by omega, by simp [Le, find], by omega, hnext _ (by simp [badN, hb, hz, hz2])⟩
              | false =>
                simp -dsimp only [go_sem, ↓reduceIte, reduceCtorEq, Nat.reduceEqDiff, Nat.reduceAdd, Nat.reduceLeDiff, Nat.reduceMul, Int.reduceBEq, Int.reduceBNe, Int.reduceLT, Int.reduceLE, Int.reduceGT, Int.reduceGE, rN.cell]
                simp -dsimp (disch := omega) only [wrap64]
                exact ⟨(i + 1, true), by omega, by simp [Le, find], by omega, hnext _ (by simp [badN, hb, hz, hz2])⟩
        | false =>
          simp -dsimp only [go_sem, ↓reduceIte, reduceCtorEq, Nat.reduceEqDiff, Nat.reduceAdd, Nat.reduceLeDiff, Nat.reduceMul, Int.reduceBEq, Int.reduceBNe, Int.reduceLT, Int.reduceLE, Int.reduceGT, Int.reduceGE, hilI, decide_true, decide_false, rN.cell]
          simp -dsimp (disch := omega) only [wrap64]
          exact ⟨p + 1, by omega, by simp [Le, find], by omega, p0, by omega, ol, _, rN, (hout (hfin fun _ => rfl)).2 rfl⟩
      · have hfr := hout (hfin fun h => absurd h hil)
        simp -dsimp only [go_sem, ↓reduceIte, reduceCtorEq, Nat.reduceEqDiff, Nat.reduceAdd, Nat.reduceLeDiff, Nat.reduceMul, Int.reduceBEq, Int.reduceBNe, Int.reduceLT, Int.reduceLE, Int.reduceGT, Int.reduceGE, hilI, decide_true, decide_false, rN.cell]
        cases free with
        | true =>
          simp -dsimp only [go_sem, ↓reduceIte, reduceCtorEq, Nat.reduceEqDiff, Nat.reduceAdd, Nat.reduceLeDiff, Nat.reduceMul, Int.reduceBEq, Int.reduceBNe, Int.reduceLT, Int.reduceLE, Int.reduceGT, Int.reduceGE, rN.cell]
          refine Chk_intro (by omega) ?_
          simp -dsimp only [go_sem, ↓reduceIte, reduceCtorEq, Nat.reduceEqDiff, Nat.reduceAdd, Nat.reduceLeDiff, Nat.reduceMul, Int.reduceBEq, Int.reduceBNe, Int.reduceLT, Int.reduceLE, Int.reduceGT, Int.reduceGE, rN.cell]
          refine Chk_intro (rN.wr (by first | (simp; done) | (simp; omega))) fun h6 s6 => ?_
          have s6_z := s6.size
          replace p0 := p0.fresh s6.fr (by omega)
          replace ol := ol.fr s6.fr (by have := ol.at_; omega)
          replace rN := s6.row rN
          try simp only [cl_int, cl_bool, cl_slice, cl_ptr, putAt_one, List.set_cons_zero, List.set_cons_succ, ivec_set, brow_upd] at rN
          simp -dsimp only [go_sem, ↓reduceIte, reduceCtorEq, Nat.reduceEqDiff, Nat.reduceAdd, Nat.reduceLeDiff, Nat.reduceMul, Int.reduceBEq, Int.reduceBNe, Int.reduceLT, Int.reduceLE, Int.reduceGT, Int.reduceGE, rN.cell]
          simp -dsimp (disch := omega) only [wrap64]
          refine ⟨p + 1, by omega, by simp [Le, find], by omega, p0, by omega, ol, _, ?_, hfr.1 rfl⟩
          rw [ivec_congr (fun i _ => ?_)]; exact rN
          unfold upd; split <;> rfl
        | false =>
          simp -dsimp only [go_sem, ↓reduceIte, reduceCtorEq, Nat.reduceEqDiff, Nat.reduceAdd, Nat.reduceLeDiff, Nat.reduceMul, Int.reduceBEq, Int.reduceBNe, Int.reduceLT, Int.reduceLE, Int.reduceGT, Int.reduceGE, rN.cell]
          simp -dsimp (disch := omega) only [wrap64]
          exact ⟨p + 1, by omega, by simp [Le, find], by omega, p0, by omega, ol, _, rN, hfr.2 rfl⟩
    · have : p = n := by omega
      subst this
      simp -dsimp only [go_sem, ↓reduceIte, reduceCtorEq, Nat.reduceEqDiff, Nat.reduceAdd, Nat.reduceLeDiff, Nat.reduceMul, Int.reduceBEq, Int.reduceBNe, Int.reduceLT, Int.reduceLE, Int.reduceGT, Int.reduceGE, rN.cell]
      simp -dsimp (disch := omega) only [wrap64]
      exact ⟨r + 1, by omega, by simp [Le, find], by omega, by omega, p0, by omega, ol, _, rN, hN.next⟩
  · have : r = n + 1 := by omega
    subst this
    simp -dsimp only [go_sem, ↓reduceIte, reduceCtorEq, Nat.reduceEqDiff, Nat.reduceAdd, Nat.reduceLeDiff, Nat.reduceMul, Int.reduceBEq, Int.reduceBNe, Int.reduceLT, Int.reduceLE, Int.reduceGT, Int.reduceGE, rN.cell]
    refine loop_intro (fun i : Nat => [(4, .slice la l.length lc), (5, .slice (some ⟨bN, 0, none⟩) n n), (10, .int .i64 i)])
      (fun i h' => h' = h3 ∧ i ≤ l.length) (fun i => l.length - i) 0 ?_ ?_ ?_
    · simp [Le, find]
    · exact ⟨rfl, by omega⟩
    rintro i h4 ⟨hh, hi⟩
    obtain rfl : h3 = h4 := hh.symm
    simp -dsimp only [go_sem, ↓reduceIte, reduceCtorEq, Nat.reduceEqDiff, Nat.reduceAdd, Nat.reduceLeDiff, Nat.reduceMul, Int.reduceBEq, Int.reduceBNe, Int.reduceLT, Int.reduceLE, Int.reduceGT, Int.reduceGE, rN.cell]
    refine ⟨fun hlt1 => ?_, fun hge1 => ?_⟩
    · have hil : i < l.length := by omega
      have hx : l[i]? = some l[i] := by simp [hil]
      have hxm := (hmem _).1 (List.mem_of_getElem? hx)
      generalize l[i] = x at hx hxm
      obtain ⟨a, b, g1, g2, g3, rfl⟩ := hxm
      have hab := hN.all ha g1 g2 g3
      have e1 : ((N a : Int) == 0) = false := by simp; omega
      have e2 : ¬ (N b : Int) ≤ N a := by omega
      simp -dsimp only [go_sem, ↓reduceIte, reduceCtorEq, Nat.reduceEqDiff, Nat.reduceAdd, Nat.reduceLeDiff, Nat.reduceMul, Int.reduceBEq, Int.reduceBNe, Int.reduceLT, Int.reduceLE, Int.reduceGT, Int.reduceGE, rN.cell]
      refine Chk_intro (by omega) (ol.rd.pair hx fun b1 o1 c1 d1 => ?_)
      simp -dsimp only [go_sem, ↓reduceIte, reduceCtorEq, Nat.reduceEqDiff, Nat.reduceAdd, Nat.reduceLeDiff, Nat.reduceMul, Int.reduceBEq, Int.reduceBNe, Int.reduceLT, Int.reduceLE, Int.reduceGT, Int.reduceGE, c1, d1, rN.cell]
      refine Chk_intro (by omega) ?_
      simp -dsimp only [go_sem, ↓reduceIte, reduceCtorEq, Nat.reduceEqDiff, Nat.reduceAdd, Nat.reduceLeDiff, Nat.reduceMul, Int.reduceBEq, Int.reduceBNe, Int.reduceLT, Int.reduceLE, Int.reduceGT, Int.reduceGE, ivec_get g1, rN.cell]
      rw [e1]
      simp -dsimp only [go_sem, ↓reduceIte, reduceCtorEq, Nat.reduceEqDiff, Nat.reduceAdd, Nat.reduceLeDiff, Nat.reduceMul, Int.reduceBEq, Int.reduceBNe, Int.reduceLT, Int.reduceLE, Int.reduceGT, Int.reduceGE, rN.cell]
      refine Chk_intro (by omega) (ol.rd.pair hx fun b2 o2 c2 d2 => ?_)
      simp -dsimp only [go_sem, ↓reduceIte, reduceCtorEq, Nat.reduceEqDiff, Nat.reduceAdd, Nat.reduceLeDiff, Nat.reduceMul, Int.reduceBEq, Int.reduceBNe, Int.reduceLT, Int.reduceLE, Int.reduceGT, Int.reduceGE, c2, d2, rN.cell]
      refine Chk_intro (by omega) ?_
      simp -dsimp only [go_sem, ↓reduceIte, reduceCtorEq, Nat.reduceEqDiff, Nat.reduceAdd, Nat.reduceLeDiff, Nat.reduceMul, Int.reduceBEq, Int.reduceBNe, Int.reduceLT, Int.reduceLE, Int.reduceGT, Int.reduceGE, ivec_get g2, rN.cell]
      refine Chk_intro (by omega) (ol.rd.pair hx fun b3 o3 c3 d3 => ?_)
      simp -dsimp only [go_sem, ↓reduceIte, reduceCtorEq, Nat.reduceEqDiff, Nat.reduceAdd, Nat.reduceLeDiff, Nat.reduceMul, Int.reduceBEq, Int.reduceBNe, Int.reduceLT, Int.reduceLE, Int.reduceGT, Int.reduceGE, c3, d3, rN.cell]
      refine Chk_intro (by omega) ?_
      simp -dsimp only [go_sem, ↓reduceIte, reduceCtorEq, Nat.reduceEqDiff, Nat.reduceAdd, Nat.reduceLeDiff, Nat.reduceMul, Int.reduceBEq, Int.reduceBNe, Int.reduceLT, Int.reduceLE, Int.reduceGT, Int.reduceGE, ivec_get g1, rN.cell]
      simp -dsimp only [go_sem, ↓reduceIte, reduceCtorEq, Nat.reduceEqDiff, Nat.reduceAdd, Nat.reduceLeDiff, Nat.reduceMul, Int.reduceBEq, Int.reduceBNe, Int.reduceLT, Int.reduceLE, Int.reduceGT, Int.reduceGE, e2, rN.cell]
      simp -dsimp (disch := omega) only [wrap64]
      exact ⟨i + 1, by omega, by simp [Le, find], by omega⟩
    · simp -dsimp only [go_sem, ↓reduceIte, reduceCtorEq, Nat.reduceEqDiff, Nat.reduceAdd, Nat.reduceLeDiff, Nat.reduceMul, Int.reduceBEq, Int.reduceBNe, Int.reduceLT, Int.reduceLE, Int.reduceGT, Int.reduceGE, rN.cell]
      exact p0
end Go.Proofs.Tst
