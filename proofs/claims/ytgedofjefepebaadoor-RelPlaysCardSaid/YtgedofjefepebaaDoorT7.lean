/-
  Contracts of functions that the law reaches: what each returns and what it leaves in memory. Conditions stand in each.
-/
import Derived.Test.YtgedofjefepebaaDoorT6
set_option linter.all false
set_option maxRecDepth 2000
namespace Go.Proofs.Tst
open Go Go.Vc
set_option maxHeartbeats 800000 in
theorem ref1_Plus {n : Nat} {M : Nat → Nat → Bool} {rv : Value} {lo hi : Nat} {h : Heap} (hr : RefAt h lo hi rv n M) :
    Con Tryd.prog 84 #[rv] h fun v h' => Fr 0 0 h h' ∧ RefAt h' h.size h'.size v n (plusM n M) := by
  refine con_ref1_Plus ?_
  have hr0 := hr
  obtain ⟨hn, s, R, rfl, t⟩ := hr
  obtain ⟨sa, sc, rfl⟩ := t.own.is
  have p0 : Fr 0 0 h h := .refl _ _ _
  simp -dsimp only [go_sem, ↓reduceIte, reduceCtorEq, Nat.reduceEqDiff, Nat.reduceAdd, Nat.reduceLeDiff, Nat.reduceMul, Int.reduceBEq, Int.reduceBNe, Int.reduceLT, Int.reduceLE, Int.reduceGT, Int.reduceGE]
  intro b1 h1 n1
  have n1_a := n1.at_
  have n1_z := n1.size
  replace p0 := p0.fresh (n1.fr (lo := 0) (hi := 0)) (by omega)
  have r1 := n1.row
  simp -dsimp only [go_sem, ↓reduceIte, reduceCtorEq, Nat.reduceEqDiff, Nat.reduceAdd, Nat.reduceLeDiff, Nat.reduceMul, Int.reduceBEq, Int.reduceBNe, Int.reduceLT, Int.reduceLE, Int.reduceGT, Int.reduceGE, r1.cell]
  intro b4 h4 n4
  have n4_a := n4.at_
  have n4_z := n4.size
  replace p0 := p0.fresh (n4.fr (lo := 0) (hi := 0)) (by omega)
  replace r1 := r1.fr (n4.fr (lo := 0) (hi := 0)) (by omega)
  have r4 := n4.row
  simp -dsimp only [go_sem, ↓reduceIte, reduceCtorEq, Nat.reduceEqDiff, Nat.reduceAdd, Nat.reduceLeDiff, Nat.reduceMul, Int.reduceBEq, Int.reduceBNe, Int.reduceLT, Int.reduceLE, Int.reduceGT, Int.reduceGE, r1.cell, r4.cell]
  refine call_of (ref1_Wide (hr0.fr p0 (by omega)) 0 (by omega)) ?_
  rw [Nat.zero_max]
  rintro v h6 ⟨f6, -, z, Z, rfl, t6⟩
  obtain ⟨za, zc, rfl⟩ := t6.own.is
  have t6_a := t6.own.at_
  have f6_z := f6.size
  replace p0 := p0.fresh f6 (by omega)
  replace r1 := r1.fr f6 (by omega)
  replace r4 := r4.fr f6 (by omega)
  simp -dsimp only [go_sem, ↓reduceIte, reduceCtorEq, Nat.reduceEqDiff, Nat.reduceAdd, Nat.reduceLeDiff, Nat.reduceMul, Int.reduceBEq, Int.reduceBNe, Int.reduceLT, Int.reduceLE, Int.reduceGT, Int.reduceGE, r1.cell, r4.cell]
  intro b7 h7 n7
  have n7_a := n7.at_
  have n7_z := n7.size
  replace p0 := p0.fresh (n7.fr (lo := 0) (hi := 0)) (by omega)
  replace r1 := r1.fr (n7.fr (lo := 0) (hi := 0)) (by omega)
  replace r4 := r4.fr (n7.fr (lo := 0) (hi := 0)) (by omega)
  replace t6 := t6.fr (n7.fr (lo := 0) (hi := 0)) (by omega)
  have r7 := n7.row
  simp -dsimp only [go_sem, ↓reduceIte, reduceCtorEq, Nat.reduceEqDiff, Nat.reduceAdd, Nat.reduceLeDiff, Nat.reduceMul, Int.reduceBEq, Int.reduceBNe, Int.reduceLT, Int.reduceLE, Int.reduceGT, Int.reduceGE, r1.cell, r4.cell, r7.cell]
  refine Chk_intro (r7.wr (by first | (simp; done) | (simp; omega))) fun h8 s8 => ?_
  have s8_z := s8.size
  replace p0 := p0.fresh s8.fr (by omega)
  replace r1 := r1.fr s8.fr (by omega)
  replace r4 := r4.fr s8.fr (by omega)
  replace t6 := t6.fr s8.fr (by omega)
  replace r7 := s8.row r7
  try simp only [cl_int, cl_bool, cl_slice, cl_ptr, putAt_one, List.set_cons_zero, List.set_cons_succ, ivec_set, brow_upd] at r7
  simp -dsimp only [go_sem, ↓reduceIte, reduceCtorEq, Nat.reduceEqDiff, Nat.reduceAdd, Nat.reduceLeDiff, Nat.reduceMul, Int.reduceBEq, Int.reduceBNe, Int.reduceLT, Int.reduceLE, Int.reduceGT, Int.reduceGE, r1.cell, r4.cell, r7.cell]
  refine loop_intro (fun k : Nat => [(2, .pointer (some ⟨b4, 0, none⟩)), (3, .pointer (some ⟨b7, 0, none⟩)), (4, .int .i64 k)])
    (fun k h' => k ≤ n ∧ Fr 0 0 h h' ∧ h8.size ≤ h'.size ∧ Rw h' b4 [.int .i64 0, .slice none 0 0] ∧ Rw h' b7 [.int .i64 n, .slice za n zc] ∧ Tab h' h4.size h6.size (.slice za n zc) n n Z (warM n M k)) (fun k => n - k) 0 ?_ ?_ ?_
  · simp [Le, find]
  · exact ⟨by omega, p0, by omega, r4, r7, t6.congr fun i j hi hj => by rw [inN_in hi hj]; rfl⟩
  rintro k h9 ⟨hk, p0, y9, r4, r7, t6⟩
  have p0_z := p0.size
  have r4_l := r4.lt
  have r7_l := r7.lt
  simp -dsimp only [go_sem, ↓reduceIte, reduceCtorEq, Nat.reduceEqDiff, Nat.reduceAdd, Nat.reduceLeDiff, Nat.reduceMul, Int.reduceBEq, Int.reduceBNe, Int.reduceLT, Int.reduceLE, Int.reduceGT, Int.reduceGE, r4.cell, r7.cell]
  refine ⟨fun hlt => ?_, fun hge => ?_⟩
  · have hlt : k < n := by omega
    simp -dsimp only [go_sem, ↓reduceIte, reduceCtorEq, Nat.reduceEqDiff, Nat.reduceAdd, Nat.reduceLeDiff, Nat.reduceMul, Int.reduceBEq, Int.reduceBNe, Int.reduceLT, Int.reduceLE, Int.reduceGT, Int.reduceGE, r4.cell, r7.cell]
    refine loop_intro (fun p : Nat => [(2, .pointer (some ⟨b4, 0, none⟩)), (3, .pointer (some ⟨b7, 0, none⟩)), (4, .int .i64 k), (5, .int .i64 p)])
      (fun p h' => p ≤ n ∧ Fr 0 0 h h' ∧ h8.size ≤ h'.size ∧ Rw h' b4 [.int .i64 0, .slice none 0 0] ∧ Rw h' b7 [.int .i64 n, .slice za n zc] ∧ Tab h' h4.size h6.size (.slice za n zc) n n Z (mixM p 0 n (warM n M (k + 1)) (warM n M k))) (fun p => n - p) 0 ?_ ?_ ?_
    · simp [Le, find]
    · exact ⟨by omega, p0, by omega, r4, r7, t6.congr fun i j _ _ => by rw [mixM_zero]⟩
    rintro p h10 ⟨hp, p0, y10, r4, r7, t6⟩
    have p0_z := p0.size
    have r4_l := r4.lt
    have r7_l := r7.lt
    simp -dsimp only [go_sem, ↓reduceIte, reduceCtorEq, Nat.reduceEqDiff, Nat.reduceAdd, Nat.reduceLeDiff, Nat.reduceMul, Int.reduceBEq, Int.reduceBNe, Int.reduceLT, Int.reduceLE, Int.reduceGT, Int.reduceGE, r4.cell, r7.cell]
    refine ⟨fun hlt1 => ?_, fun hge1 => ?_⟩
    · have hlt1 : p < n := by omega
      simp -dsimp only [go_sem, ↓reduceIte, reduceCtorEq, Nat.reduceEqDiff, Nat.reduceAdd, Nat.reduceLeDiff, Nat.reduceMul, Int.reduceBEq, Int.reduceBNe, Int.reduceLT, Int.reduceLE, Int.reduceGT, Int.reduceGE, r4.cell, r7.cell]
      refine loop_intro (fun q : Nat => [(2, .pointer (some ⟨b4, 0, none⟩)), (3, .pointer (some ⟨b7, 0, none⟩)), (4, .int .i64 k), (5, .int .i64 p), (6, .int .i64 q)])
        (fun q h' => q ≤ n ∧ (warM n M k p k = false → q = 0) ∧ Fr 0 0 h h' ∧ h8.size ≤ h'.size ∧ Rw h' b4 [.int .i64 0, .slice none 0 0] ∧ Rw h' b7 [.int .i64 n, .slice za n zc] ∧ Tab h' h4.size h6.size (.slice za n zc) n n Z (mixM p q n (warM n M (k + 1)) (warM n M k))) (fun q => n - q) 0 ?_ ?_ ?_
      · simp [Le, find]
      · exact ⟨by omega, fun _ => rfl, p0, by omega, r4, r7, t6⟩
      rintro q h11 ⟨hq, hq0, p0, y11, r4, r7, t6⟩
      have p0_z := p0.size
      have r4_l := r4.lt
      have r7_l := r7.lt
      have hpk : mixM p q n (warM n M (k + 1)) (warM n M k) p k = warM n M k p k := by
        unfold mixM; split
        · have : warM n M (k + 1) p k = warM n M k p k := by simp only [warM]; cases warM n M k p k <;> simp
          exact this
        · rfl
      have hkq : q < n → mixM p q n (warM n M (k + 1)) (warM n M k) k q = warM n M k k q := fun _ => by
        unfold mixM; split
        · exact warM_self n M k q
        · rfl
      have hpq : mixM p q n (warM n M (k + 1)) (warM n M k) p q = warM n M k p q := mixM_same rfl (Nat.le_refl _)
      simp -dsimp only [go_sem, ↓reduceIte, reduceCtorEq, Nat.reduceEqDiff, Nat.reduceAdd, Nat.reduceLeDiff, Nat.reduceMul, Int.reduceBEq, Int.reduceBNe, Int.reduceLT, Int.reduceLE, Int.reduceGT, Int.reduceGE, r4.cell, r7.cell]
      refine Chk_intro (by omega) (t6.idx (p := p) (by omega) fun b9 o9 c9 => ?_)
      simp -dsimp only [go_sem, ↓reduceIte, reduceCtorEq, Nat.reduceEqDiff, Nat.reduceAdd, Nat.reduceLeDiff, Nat.reduceMul, Int.reduceBEq, Int.reduceBNe, Int.reduceLT, Int.reduceLE, Int.reduceGT, Int.reduceGE, c9, r4.cell, r7.cell]
      refine Chk_intro (by omega) ?_
      simp -dsimp only [go_sem, ↓reduceIte, reduceCtorEq, Nat.reduceEqDiff, Nat.reduceAdd, Nat.reduceLeDiff, Nat.reduceMul, Int.reduceBEq, Int.reduceBNe, Int.reduceLT, Int.reduceLE, Int.reduceGT, Int.reduceGE, t6.cell hlt1 hlt, r4.cell, r7.cell]
      rw [hpk]
      cases hM : warM n M k p k with
      | false =>
        have hq0 := hq0 hM
        subst hq0
        simp -dsimp only [go_sem, ↓reduceIte, reduceCtorEq, Nat.reduceEqDiff, Nat.reduceAdd, Nat.reduceLeDiff, Nat.reduceMul, Int.reduceBEq, Int.reduceBNe, Int.reduceLT, Int.reduceLE, Int.reduceGT, Int.reduceGE, r4.cell, r7.cell]
        simp -dsimp (disch := omega) only [wrap64]
        refine ⟨p + 1, by omega, by simp [Le, find], by omega, p0, by omega, r4, r7, t6.congr fun i j hi hj => ?_⟩
        unfold mixM
        by_cases hip : i = p
        · subst hip
          rw [if_neg (by omega), if_pos (by omega)]; simp [warM, hM]
        · by_cases h1 : i < p
          · rw [if_pos (by omega), if_pos (by omega)]
          · rw [if_neg (by omega), if_neg (by omega)]
      | true =>
        simp -dsimp only [go_sem, ↓reduceIte, reduceCtorEq, Nat.reduceEqDiff, Nat.reduceAdd, Nat.reduceLeDiff, Nat.reduceMul, Int.reduceBEq, Int.reduceBNe, Int.reduceLT, Int.reduceLE, Int.reduceGT, Int.reduceGE, r4.cell, r7.cell]
        refine ⟨fun hlt2 => ?_, fun hge2 => ?_⟩
        · have hlt2 : q < n := by omega
          simp -dsimp only [go_sem, ↓reduceIte, reduceCtorEq, Nat.reduceEqDiff, Nat.reduceAdd, Nat.reduceLeDiff, Nat.reduceMul, Int.reduceBEq, Int.reduceBNe, Int.reduceLT, Int.reduceLE, Int.reduceGT, Int.reduceGE, r4.cell, r7.cell]
          refine Chk_intro (by omega) (t6.idx (p := p) (by omega) fun b10 o10 c10 => ?_)
          simp -dsimp only [go_sem, ↓reduceIte, reduceCtorEq, Nat.reduceEqDiff, Nat.reduceAdd, Nat.reduceLeDiff, Nat.reduceMul, Int.reduceBEq, Int.reduceBNe, Int.reduceLT, Int.reduceLE, Int.reduceGT, Int.reduceGE, c10, r4.cell, r7.cell]
          refine Chk_intro (by omega) (t6.idx (p := p) (by omega) fun b11 o11 c11 => ?_)
          simp -dsimp only [go_sem, ↓reduceIte, reduceCtorEq, Nat.reduceEqDiff, Nat.reduceAdd, Nat.reduceLeDiff, Nat.reduceMul, Int.reduceBEq, Int.reduceBNe, Int.reduceLT, Int.reduceLE, Int.reduceGT, Int.reduceGE, c11, r4.cell, r7.cell]
          refine Chk_intro (by omega) ?_
          simp -dsimp only [go_sem, ↓reduceIte, reduceCtorEq, Nat.reduceEqDiff, Nat.reduceAdd, Nat.reduceLeDiff, Nat.reduceMul, Int.reduceBEq, Int.reduceBNe, Int.reduceLT, Int.reduceLE, Int.reduceGT, Int.reduceGE, t6.cell hlt1 hlt2, r4.cell, r7.cell]
          rw [hpq]
          cases hM2 : warM n M k p q with
          | true =>
            simp -dsimp only [go_sem, ↓reduceIte, reduceCtorEq, Nat.reduceEqDiff, Nat.reduceAdd, Nat.reduceLeDiff, Nat.reduceMul, Int.reduceBEq, Int.reduceBNe, Int.reduceLT, Int.reduceLE, Int.reduceGT, Int.reduceGE, r4.cell, r7.cell]
            refine Chk_intro (by omega) ?_
            simp -dsimp only [go_sem, ↓reduceIte, reduceCtorEq, Nat.reduceEqDiff, Nat.reduceAdd, Nat.reduceLeDiff, Nat.reduceMul, Int.reduceBEq, Int.reduceBNe, Int.reduceLT, Int.reduceLE, Int.reduceGT, Int.reduceGE, r4.cell, r7.cell]
            refine Chk_intro (t6.wr hlt1 hlt2) fun h12 s12 => ?_
            have s12_z := s12.size
            have w_row := t6.row p hlt1
            have t7 := t6.set hlt1 s12
            have s12.fr_z := s12.fr.size
            replace p0 := p0.fresh s12.fr (by omega)
            replace r4 := r4.fr s12.fr (by omega)
            replace r7 := r7.fr s12.fr (by omega)
            simp -dsimp only [go_sem, ↓reduceIte, reduceCtorEq, Nat.reduceEqDiff, Nat.reduceAdd, Nat.reduceLeDiff, Nat.reduceMul, Int.reduceBEq, Int.reduceBNe, Int.reduceLT, Int.reduceLE, Int.reduceGT, Int.reduceGE, r4.cell, r7.cell]
            simp -dsimp (disch := omega) only [wrap64]
            exact ⟨q + 1, by omega, by simp [Le, find], by omega, by simp, p0, by omega, r4, r7, t7.congr fun i j hi hj => mixM_set (by simp [warM, hM2])⟩
          | false =>
            simp -dsimp only [go_sem, ↓reduceIte, reduceCtorEq, Nat.reduceEqDiff, Nat.reduceAdd, Nat.reduceLeDiff, Nat.reduceMul, Int.reduceBEq, Int.reduceBNe, Int.reduceLT, Int.reduceLE, Int.reduceGT, Int.reduceGE, r4.cell, r7.cell]
            refine Chk_intro (by omega) (t6.idx (p := k) (by omega) fun b12 o12 c12 => ?_)
            simp -dsimp only [go_sem, ↓reduceIte, reduceCtorEq, Nat.reduceEqDiff, Nat.reduceAdd, Nat.reduceLeDiff, Nat.reduceMul, Int.reduceBEq, Int.reduceBNe, Int.reduceLT, Int.reduceLE, Int.reduceGT, Int.reduceGE, c12, r4.cell, r7.cell]
            refine Chk_intro (by omega) ?_
            simp -dsimp only [go_sem, ↓reduceIte, reduceCtorEq, Nat.reduceEqDiff, Nat.reduceAdd, Nat.reduceLeDiff, Nat.reduceMul, Int.reduceBEq, Int.reduceBNe, Int.reduceLT, Int.reduceLE, Int.reduceGT, Int.reduceGE, t6.cell hlt hlt2, r4.cell, r7.cell]
            rw [hkq hlt2]
            refine Chk_intro (by omega) ?_
            simp -dsimp only [go_sem, ↓reduceIte, reduceCtorEq, Nat.reduceEqDiff, Nat.reduceAdd, Nat.reduceLeDiff, Nat.reduceMul, Int.reduceBEq, Int.reduceBNe, Int.reduceLT, Int.reduceLE, Int.reduceGT, Int.reduceGE, r4.cell, r7.cell]
            refine Chk_intro (t6.wr hlt1 hlt2) fun h12 s12 => ?_
            have s12_z := s12.size
            have w_row := t6.row p hlt1
            have t7 := t6.set hlt1 s12
            have s12.fr_z := s12.fr.size
            replace p0 := p0.fresh s12.fr (by omega)
            replace r4 := r4.fr s12.fr (by omega)
            replace r7 := r7.fr s12.fr (by omega)
            simp -dsimp only [go_sem, ↓reduceIte, reduceCtorEq, Nat.reduceEqDiff, Nat.reduceAdd, Nat.reduceLeDiff, Nat.reduceMul, Int.reduceBEq, Int.reduceBNe, Int.reduceLT, Int.reduceLE, Int.reduceGT, Int.reduceGE, r4.cell, r7.cell]
            simp -dsimp (disch := omega) only [wrap64]
            exact ⟨q + 1, by omega, by simp [Le, find], by omega, by simp, p0, by omega, r4, r7, t7.congr fun i j hi hj => mixM_set (by simp [warM, hM, hM2])⟩
        · have hqn : q = n := by omega
          simp -dsimp only [go_sem, ↓reduceIte, reduceCtorEq, Nat.reduceEqDiff, Nat.reduceAdd, Nat.reduceLeDiff, Nat.reduceMul, Int.reduceBEq, Int.reduceBNe, Int.reduceLT, Int.reduceLE, Int.reduceGT, Int.reduceGE, r4.cell, r7.cell]
          simp -dsimp (disch := omega) only [wrap64]
          exact ⟨p + 1, by omega, by simp [Le, find], by omega, p0, by omega, r4, r7, t6.congr fun i j _ _ => by rw [hqn]; exact mixM_next⟩
    · have hpn : p = n := by omega
      simp -dsimp only [go_sem, ↓reduceIte, reduceCtorEq, Nat.reduceEqDiff, Nat.reduceAdd, Nat.reduceLeDiff, Nat.reduceMul, Int.reduceBEq, Int.reduceBNe, Int.reduceLT, Int.reduceLE, Int.reduceGT, Int.reduceGE, r4.cell, r7.cell]
      simp -dsimp (disch := omega) only [wrap64]
      exact ⟨k + 1, by omega, by simp [Le, find], by omega, p0, by omega, r4, r7, t6.congr fun i j hi hj => by rw [hpn, mixM_end hi hj]⟩
  · have hkn : k = n := by omega
    simp -dsimp only [go_sem, ↓reduceIte, reduceCtorEq, Nat.reduceEqDiff, Nat.reduceAdd, Nat.reduceLeDiff, Nat.reduceMul, Int.reduceBEq, Int.reduceBNe, Int.reduceLT, Int.reduceLE, Int.reduceGT, Int.reduceGE, r4.cell, r7.cell]
    refine Chk_intro (r4.wr (by first | (simp; done) | (simp; omega))) fun h10 s10 => ?_
    have s10_z := s10.size
    replace p0 := p0.fresh s10.fr (by omega)
    replace r7 := r7.fr s10.fr (by omega)
    replace t6 := t6.fr s10.fr (by omega)
    replace r4 := s10.row r4
    try simp only [cl_int, cl_bool, cl_slice, cl_ptr, putAt_one, List.set_cons_zero, List.set_cons_succ, ivec_set, brow_upd] at r4
    simp -dsimp only [go_sem, ↓reduceIte, reduceCtorEq, Nat.reduceEqDiff, Nat.reduceAdd, Nat.reduceLeDiff, Nat.reduceMul, Int.reduceBEq, Int.reduceBNe, Int.reduceLT, Int.reduceLE, Int.reduceGT, Int.reduceGE, r4.cell, r7.cell]
    refine ⟨p0, hn, _, Z, rfl, ((t6.mono (by omega) (by omega)).congr fun i j hi hj => by rw [hkn]; rfl)⟩
theorem ref1_Star {n : Nat} {M : Nat → Nat → Bool} {rv : Value} {lo hi : Nat} {h : Heap} (hr : RefAt h lo hi rv n M) :
    Con Tryd.prog 96 #[rv] h fun v h' => Fr 0 0 h h' ∧ RefAt h' h.size h'.size v n (optM (plusM n M)) := by
  refine con_ref1_Star ?_
  have hr0 := hr
  obtain ⟨hn, s, R, rfl, t⟩ := hr
  obtain ⟨sa, sc, rfl⟩ := t.own.is
  have p0 : Fr 0 0 h h := .refl _ _ _
  simp -dsimp only [go_sem, ↓reduceIte, reduceCtorEq, Nat.reduceEqDiff, Nat.reduceAdd, Nat.reduceLeDiff, Nat.reduceMul, Int.reduceBEq, Int.reduceBNe, Int.reduceLT, Int.reduceLE, Int.reduceGT, Int.reduceGE]
  intro b1 h1 n1
  have n1_a := n1.at_
  have n1_z := n1.size
  replace p0 := p0.fresh (n1.fr (lo := 0) (hi := 0)) (by omega)
  have r1 := n1.row
  simp -dsimp only [go_sem, ↓reduceIte, reduceCtorEq, Nat.reduceEqDiff, Nat.reduceAdd, Nat.reduceLeDiff, Nat.reduceMul, Int.reduceBEq, Int.reduceBNe, Int.reduceLT, Int.reduceLE, Int.reduceGT, Int.reduceGE, r1.cell]
  intro b2 h2 n2
  have n2_a := n2.at_
  have n2_z := n2.size
  replace p0 := p0.fresh (n2.fr (lo := 0) (hi := 0)) (by omega)
  replace r1 := r1.fr (n2.fr (lo := 0) (hi := 0)) (by omega)
  have r2 := n2.row
  simp -dsimp only [go_sem, ↓reduceIte, reduceCtorEq, Nat.reduceEqDiff, Nat.reduceAdd, Nat.reduceLeDiff, Nat.reduceMul, Int.reduceBEq, Int.reduceBNe, Int.reduceLT, Int.reduceLE, Int.reduceGT, Int.reduceGE, r1.cell, r2.cell]
  refine call_of (ref1_Plus (hr0.fr p0 (by omega))) ?_
  rintro v3 h3 ⟨f3, t3⟩
  have f3_z := f3.size
  replace p0 := p0.fresh f3 (by omega)
  replace r1 := r1.fr f3 (by omega)
  replace r2 := r2.fr f3 (by omega)
  simp -dsimp only [go_sem, ↓reduceIte, reduceCtorEq, Nat.reduceEqDiff, Nat.reduceAdd, Nat.reduceLeDiff, Nat.reduceMul, Int.reduceBEq, Int.reduceBNe, Int.reduceLT, Int.reduceLE, Int.reduceGT, Int.reduceGE, r1.cell, r2.cell]
  refine call_of (ref1_Opt t3) ?_
  rintro v4 h4 ⟨f4, -, z, Z, rfl, t4⟩
  obtain ⟨za, zc, rfl⟩ := t4.own.is
  have t4_a := t4.own.at_
  have f4_z := f4.size
  replace p0 := p0.fresh f4 (by omega)
  replace r1 := r1.fr f4 (by omega)
  replace r2 := r2.fr f4 (by omega)
  simp -dsimp only [go_sem, ↓reduceIte, reduceCtorEq, Nat.reduceEqDiff, Nat.reduceAdd, Nat.reduceLeDiff, Nat.reduceMul, Int.reduceBEq, Int.reduceBNe, Int.reduceLT, Int.reduceLE, Int.reduceGT, Int.reduceGE, r1.cell, r2.cell]
  refine Chk_intro (r2.wr (by first | (simp; done) | (simp; omega))) fun h5 s5 => ?_
  have s5_z := s5.size
  replace p0 := p0.fresh s5.fr (by omega)
  replace r1 := r1.fr s5.fr (by omega)
  replace t4 := t4.fr s5.fr (by omega)
  replace r2 := s5.row r2
  try simp only [cl_int, cl_bool, cl_slice, cl_ptr, putAt_one, List.set_cons_zero, List.set_cons_succ, ivec_set, brow_upd] at r2
  simp -dsimp only [go_sem, ↓reduceIte, reduceCtorEq, Nat.reduceEqDiff, Nat.reduceAdd, Nat.reduceLeDiff, Nat.reduceMul, Int.reduceBEq, Int.reduceBNe, Int.reduceLT, Int.reduceLE, Int.reduceGT, Int.reduceGE, r1.cell, r2.cell]
  exact ⟨p0, hn, _, Z, rfl, t4.mono (by omega) (by omega)⟩
theorem ref1_Irreflexive {n : Nat} {M : Nat → Nat → Bool} {rv : Value} {lo hi : Nat} {h : Heap} (hr : RefAt h lo hi rv n M) :
    Con Tryd.prog 85 #[rv] h fun v h' => Fr 0 0 h h' ∧ v = .bool (irrB n M) := by
  refine con_ref1_Irreflexive ?_
  obtain ⟨hn, s, R, rfl, t⟩ := hr
  obtain ⟨sa, sc, rfl⟩ := t.own.is
  have p0 : Fr 0 0 h h := .refl _ _ _
  simp -dsimp only [go_sem, ↓reduceIte, reduceCtorEq, Nat.reduceEqDiff, Nat.reduceAdd, Nat.reduceLeDiff, Nat.reduceMul, Int.reduceBEq, Int.reduceBNe, Int.reduceLT, Int.reduceLE, Int.reduceGT, Int.reduceGE]
  intro b1 h1 n1
  have n1_a := n1.at_
  have n1_z := n1.size
  replace p0 := p0.fresh (n1.fr (lo := 0) (hi := 0)) (by omega)
  have r1 := n1.row
  simp -dsimp only [go_sem, ↓reduceIte, reduceCtorEq, Nat.reduceEqDiff, Nat.reduceAdd, Nat.reduceLeDiff, Nat.reduceMul, Int.reduceBEq, Int.reduceBNe, Int.reduceLT, Int.reduceLE, Int.reduceGT, Int.reduceGE, r1.cell]
  refine loop_intro (fun a : Nat => [(1, .pointer (some ⟨b1, 0, none⟩)), (3, .int .i64 a)])
    (fun a h' => a ≤ n ∧ h' = h1 ∧ ∀ i, i < a → M i i = false) (fun a => n - a) 0 ?_ ?_ ?_
  · simp [Le, find]
  · exact ⟨by omega, rfl, by omega⟩
  rintro a h2 ⟨ha, hh, hinv⟩
  obtain rfl : h1 = h2 := hh.symm
  have tp := t.fr p0 (by omega)
  simp -dsimp only [go_sem, ↓reduceIte, reduceCtorEq, Nat.reduceEqDiff, Nat.reduceAdd, Nat.reduceLeDiff, Nat.reduceMul, Int.reduceBEq, Int.reduceBNe, Int.reduceLT, Int.reduceLE, Int.reduceGT, Int.reduceGE, r1.cell]
  refine ⟨fun hlt => ?_, fun hge => ?_⟩
  · have hlt : a < n := by omega
    simp -dsimp only [go_sem, ↓reduceIte, reduceCtorEq, Nat.reduceEqDiff, Nat.reduceAdd, Nat.reduceLeDiff, Nat.reduceMul, Int.reduceBEq, Int.reduceBNe, Int.reduceLT, Int.reduceLE, Int.reduceGT, Int.reduceGE, r1.cell]
    refine Chk_intro (by omega) (tp.idx hlt fun b9 o9 c9 => ?_)
    simp -dsimp only [go_sem, ↓reduceIte, reduceCtorEq, Nat.reduceEqDiff, Nat.reduceAdd, Nat.reduceLeDiff, Nat.reduceMul, Int.reduceBEq, Int.reduceBNe, Int.reduceLT, Int.reduceLE, Int.reduceGT, Int.reduceGE, c9, r1.cell]
    refine Chk_intro (by omega) ?_
    simp -dsimp only [go_sem, ↓reduceIte, reduceCtorEq, Nat.reduceEqDiff, Nat.reduceAdd, Nat.reduceLeDiff, Nat.reduceMul, Int.reduceBEq, Int.reduceBNe, Int.reduceLT, Int.reduceLE, Int.reduceGT, Int.reduceGE, tp.cell hlt hlt, r1.cell]
    cases hm : M a a with
    | true =>
      simp -dsimp only [go_sem, ↓reduceIte, reduceCtorEq, Nat.reduceEqDiff, Nat.reduceAdd, Nat.reduceLeDiff, Nat.reduceMul, Int.reduceBEq, Int.reduceBNe, Int.reduceLT, Int.reduceLE, Int.reduceGT, Int.reduceGE, r1.cell]
      refine ⟨p0, ?_⟩
      have : irrB n M = false := by
        rw [Bool.eq_false_iff]; intro h'
        have := List.all_eq_true.1 h' a (List.mem_range.2 hlt)
        simp [hm] at this
      rw [this]
    | false =>
      simp -dsimp only [go_sem, ↓reduceIte, reduceCtorEq, Nat.reduceEqDiff, Nat.reduceAdd, Nat.reduceLeDiff, Nat.reduceMul, Int.reduceBEq, Int.reduceBNe, Int.reduceLT, Int.reduceLE, Int.reduceGT, Int.reduceGE, r1.cell]
      simp -dsimp (disch := omega) only [wrap64]
      refine ⟨a + 1, by omega, by simp [Le, find], by omega, fun i hi => ?_⟩
      by_cases hia : i = a
      · subst hia; exact hm
      · exact hinv i (by omega)
  · have : a = n := by omega
    subst this
    simp -dsimp only [go_sem, ↓reduceIte, reduceCtorEq, Nat.reduceEqDiff, Nat.reduceAdd, Nat.reduceLeDiff, Nat.reduceMul, Int.reduceBEq, Int.reduceBNe, Int.reduceLT, Int.reduceLE, Int.reduceGT, Int.reduceGE, r1.cell]
    have : irrB a M = true := List.all_eq_true.2 fun i hi => by rw [hinv i (List.mem_range.1 hi)]; rfl
    rw [this]; exact ⟨p0, rfl⟩
theorem ref1_Comp {n m : Nat} {M N : Nat → Nat → Bool} {rv sv : Value} {lo hi lo' hi' : Nat} {h : Heap} (hr : RefAt h lo hi rv n M) (hs : RefAt h lo' hi' sv m N) :
    Con Tryd.prog 87 #[rv, sv] h fun v h' => Fr 0 0 h h' ∧ RefAt h' h.size h'.size v (max n m) (compM n M m N) := by
  refine con_ref1_Comp ?_
  have hr0 := hr; have hs0 := hs
  obtain ⟨hn, s, R, rfl, t⟩ := hr
  obtain ⟨sa, sc, rfl⟩ := t.own.is
  obtain ⟨hm, s', R', rfl, t'⟩ := hs
  obtain ⟨sa', sc', rfl⟩ := t'.own.is
  have hcl : clampN (max n m : Nat) = max n m := by unfold clampN; omega
  have p0 : Fr 0 0 h h := .refl _ _ _
  simp -dsimp only [go_sem, ↓reduceIte, reduceCtorEq, Nat.reduceEqDiff, Nat.reduceAdd, Nat.reduceLeDiff, Nat.reduceMul, Int.reduceBEq, Int.reduceBNe, Int.reduceLT, Int.reduceLE, Int.reduceGT, Int.reduceGE]
  intro b2 h2 n2
  have n2_a := n2.at_
  have n2_z := n2.size
  replace p0 := p0.fresh (n2.fr (lo := 0) (hi := 0)) (by omega)
  have r2 := n2.row
  simp -dsimp only [go_sem, ↓reduceIte, reduceCtorEq, Nat.reduceEqDiff, Nat.reduceAdd, Nat.reduceLeDiff, Nat.reduceMul, Int.reduceBEq, Int.reduceBNe, Int.reduceLT, Int.reduceLE, Int.reduceGT, Int.reduceGE, r2.cell]
  intro b3 h3 n3
  have n3_a := n3.at_
  have n3_z := n3.size
  replace p0 := p0.fresh (n3.fr (lo := 0) (hi := 0)) (by omega)
  replace r2 := r2.fr (n3.fr (lo := 0) (hi := 0)) (by omega)
  have r3 := n3.row
  simp -dsimp only [go_sem, ↓reduceIte, reduceCtorEq, Nat.reduceEqDiff, Nat.reduceAdd, Nat.reduceLeDiff, Nat.reduceMul, Int.reduceBEq, Int.reduceBNe, Int.reduceLT, Int.reduceLE, Int.reduceGT, Int.reduceGE, r2.cell, r3.cell]
  intro b4 h4 n4
  have n4_a := n4.at_
  have n4_z := n4.size
  replace p0 := p0.fresh (n4.fr (lo := 0) (hi := 0)) (by omega)
  replace r2 := r2.fr (n4.fr (lo := 0) (hi := 0)) (by omega)
  replace r3 := r3.fr (n4.fr (lo := 0) (hi := 0)) (by omega)
  have r4 := n4.row
  simp -dsimp only [go_sem, ↓reduceIte, reduceCtorEq, Nat.reduceEqDiff, Nat.reduceAdd, Nat.reduceLeDiff, Nat.reduceMul, Int.reduceBEq, Int.reduceBNe, Int.reduceLT, Int.reduceLE, Int.reduceGT, Int.reduceGE, r2.cell, r3.cell, r4.cell]
  refine call_of (ref1_Wide (hr0.fr p0 (by omega)) m hm) ?_
  rw [Nat.max_comm]
  rintro v h6 ⟨f6, hmx, x, X, rfl, tx⟩
  obtain ⟨xa, xc, rfl⟩ := tx.own.is
  have tx_a := tx.own.at_
  have f6_z := f6.size
  replace p0 := p0.fresh f6 (by omega)
  replace r2 := r2.fr f6 (by omega)
  replace r3 := r3.fr f6 (by omega)
  replace r4 := r4.fr f6 (by omega)
  simp -dsimp only [go_sem, ↓reduceIte, reduceCtorEq, Nat.reduceEqDiff, Nat.reduceAdd, Nat.reduceLeDiff, Nat.reduceMul, Int.reduceBEq, Int.reduceBNe, Int.reduceLT, Int.reduceLE, Int.reduceGT, Int.reduceGE, r2.cell, r3.cell, r4.cell]
  intro b7 h7 n7
  have n7_a := n7.at_
  have n7_z := n7.size
  replace p0 := p0.fresh (n7.fr (lo := 0) (hi := 0)) (by omega)
  replace r2 := r2.fr (n7.fr (lo := 0) (hi := 0)) (by omega)
  replace r3 := r3.fr (n7.fr (lo := 0) (hi := 0)) (by omega)
  replace r4 := r4.fr (n7.fr (lo := 0) (hi := 0)) (by omega)
  replace tx := tx.fr (n7.fr (lo := 0) (hi := 0)) (by omega)
  have r7 := n7.row
  simp -dsimp only [go_sem, ↓reduceIte, reduceCtorEq, Nat.reduceEqDiff, Nat.reduceAdd, Nat.reduceLeDiff, Nat.reduceMul, Int.reduceBEq, Int.reduceBNe, Int.reduceLT, Int.reduceLE, Int.reduceGT, Int.reduceGE, r2.cell, r3.cell, r4.cell, r7.cell]
  refine Chk_intro (r7.wr (by first | (simp; done) | (simp; omega))) fun h8 s8 => ?_
  have s8_z := s8.size
  replace p0 := p0.fresh s8.fr (by omega)
  replace r2 := r2.fr s8.fr (by omega)
  replace r3 := r3.fr s8.fr (by omega)
  replace r4 := r4.fr s8.fr (by omega)
  replace tx := tx.fr s8.fr (by omega)
  replace r7 := s8.row r7
  try simp only [cl_int, cl_bool, cl_slice, cl_ptr, putAt_one, List.set_cons_zero, List.set_cons_succ, ivec_set, brow_upd] at r7
  simp -dsimp only [go_sem, ↓reduceIte, reduceCtorEq, Nat.reduceEqDiff, Nat.reduceAdd, Nat.reduceLeDiff, Nat.reduceMul, Int.reduceBEq, Int.reduceBNe, Int.reduceLT, Int.reduceLE, Int.reduceGT, Int.reduceGE, r2.cell, r3.cell, r4.cell, r7.cell]
  refine call_of (ref1_Wide (hs0.fr p0 (by omega)) n hn) ?_
  rintro v h9 ⟨f9, -, y, Y, rfl, ty⟩
  obtain ⟨ya, yc, rfl⟩ := ty.own.is
  have ty_a := ty.own.at_
  have f9_z := f9.size
  replace p0 := p0.fresh f9 (by omega)
  replace r2 := r2.fr f9 (by omega)
  replace r3 := r3.fr f9 (by omega)
  replace r4 := r4.fr f9 (by omega)
  replace tx := tx.fr f9 (by omega)
  replace r7 := r7.fr f9 (by omega)
  simp -dsimp only [go_sem, ↓reduceIte, reduceCtorEq, Nat.reduceEqDiff, Nat.reduceAdd, Nat.reduceLeDiff, Nat.reduceMul, Int.reduceBEq, Int.reduceBNe, Int.reduceLT, Int.reduceLE, Int.reduceGT, Int.reduceGE, r2.cell, r3.cell, r4.cell, r7.cell]
  intro b10 h10 n10
  have n10_a := n10.at_
  have n10_z := n10.size
  replace p0 := p0.fresh (n10.fr (lo := 0) (hi := 0)) (by omega)
  replace r2 := r2.fr (n10.fr (lo := 0) (hi := 0)) (by omega)
  replace r3 := r3.fr (n10.fr (lo := 0) (hi := 0)) (by omega)
  replace r4 := r4.fr (n10.fr (lo := 0) (hi := 0)) (by omega)
  replace tx := tx.fr (n10.fr (lo := 0) (hi := 0)) (by omega)
  replace r7 := r7.fr (n10.fr (lo := 0) (hi := 0)) (by omega)
  replace ty := ty.fr (n10.fr (lo := 0) (hi := 0)) (by omega)
  have r10 := n10.row
  simp -dsimp only [go_sem, ↓reduceIte, reduceCtorEq, Nat.reduceEqDiff, Nat.reduceAdd, Nat.reduceLeDiff, Nat.reduceMul, Int.reduceBEq, Int.reduceBNe, Int.reduceLT, Int.reduceLE, Int.reduceGT, Int.reduceGE, r2.cell, r3.cell, r4.cell, r7.cell, r10.cell]
  refine Chk_intro (r10.wr (by first | (simp; done) | (simp; omega))) fun h11 s11 => ?_
  have s11_z := s11.size
  replace p0 := p0.fresh s11.fr (by omega)
  replace r2 := r2.fr s11.fr (by omega)
  replace r3 := r3.fr s11.fr (by omega)
  replace r4 := r4.fr s11.fr (by omega)
  replace tx := tx.fr s11.fr (by omega)
  replace r7 := r7.fr s11.fr (by omega)
  replace ty := ty.fr s11.fr (by omega)
  replace r10 := s11.row r10
  try simp only [cl_int, cl_bool, cl_slice, cl_ptr, putAt_one, List.set_cons_zero, List.set_cons_succ, ivec_set, brow_upd] at r10
  simp -dsimp only [go_sem, ↓reduceIte, reduceCtorEq, Nat.reduceEqDiff, Nat.reduceAdd, Nat.reduceLeDiff, Nat.reduceMul, Int.reduceBEq, Int.reduceBNe, Int.reduceLT, Int.reduceLE, Int.reduceGT, Int.reduceGE, r2.cell, r3.cell, r4.cell, r7.cell, r10.cell]
  refine call_of (ref1_New (max n m : Nat) h11) ?_
  rintro v h12 ⟨f12, t12⟩
  rw [hcl] at t12
  obtain ⟨-, z, Z, rfl, t12⟩ := t12
  obtain ⟨za, zc, rfl⟩ := t12.own.is
  have t12_a := t12.own.at_
  have f12_z := f12.size
  replace p0 := p0.fresh f12 (by omega)
  replace r2 := r2.fr f12 (by omega)
  replace r3 := r3.fr f12 (by omega)
  replace r4 := r4.fr f12 (by omega)
  replace tx := tx.fr f12 (by omega)
  replace r7 := r7.fr f12 (by omega)
  replace ty := ty.fr f12 (by omega)
  replace r10 := r10.fr f12 (by omega)
  simp -dsimp only [go_sem, ↓reduceIte, reduceCtorEq, Nat.reduceEqDiff, Nat.reduceAdd, Nat.reduceLeDiff, Nat.reduceMul, Int.reduceBEq, Int.reduceBNe, Int.reduceLT, Int.reduceLE, Int.reduceGT, Int.reduceGE, r2.cell, r3.cell, r4.cell, r7.cell, r10.cell]
  intro b13 h13 n13
  have n13_a := n13.at_
  have n13_z := n13.size
  replace p0 := p0.fresh (n13.fr (lo := 0) (hi := 0)) (by omega)
  replace r2 := r2.fr (n13.fr (lo := 0) (hi := 0)) (by omega)
  replace r3 := r3.fr (n13.fr (lo := 0) (hi := 0)) (by omega)
  replace r4 := r4.fr (n13.fr (lo := 0) (hi := 0)) (by omega)
  replace tx := tx.fr (n13.fr (lo := 0) (hi := 0)) (by omega)
  replace r7 := r7.fr (n13.fr (lo := 0) (hi := 0)) (by omega)
  replace ty := ty.fr (n13.fr (lo := 0) (hi := 0)) (by omega)
  replace r10 := r10.fr (n13.fr (lo := 0) (hi := 0)) (by omega)
  replace t12 := t12.fr (n13.fr (lo := 0) (hi := 0)) (by omega)
  have r13 := n13.row
  simp -dsimp only [go_sem, ↓reduceIte, reduceCtorEq, Nat.reduceEqDiff, Nat.reduceAdd, Nat.reduceLeDiff, Nat.reduceMul, Int.reduceBEq, Int.reduceBNe, Int.reduceLT, Int.reduceLE, Int.reduceGT, Int.reduceGE, r2.cell, r3.cell, r4.cell, r7.cell, r10.cell, r13.cell]
  refine Chk_intro (r13.wr (by first | (simp; done) | (simp; omega))) fun h14 s14 => ?_
  have s14_z := s14.size
  replace p0 := p0.fresh s14.fr (by omega)
  replace r2 := r2.fr s14.fr (by omega)
  replace r3 := r3.fr s14.fr (by omega)
  replace r4 := r4.fr s14.fr (by omega)
  replace tx := tx.fr s14.fr (by omega)
  replace r7 := r7.fr s14.fr (by omega)
  replace ty := ty.fr s14.fr (by omega)
  replace r10 := r10.fr s14.fr (by omega)
  replace t12 := t12.fr s14.fr (by omega)
  replace r13 := s14.row r13
  try simp only [cl_int, cl_bool, cl_slice, cl_ptr, putAt_one, List.set_cons_zero, List.set_cons_succ, ivec_set, brow_upd] at r13
  simp -dsimp only [go_sem, ↓reduceIte, reduceCtorEq, Nat.reduceEqDiff, Nat.reduceAdd, Nat.reduceLeDiff, Nat.reduceMul, Int.reduceBEq, Int.reduceBNe, Int.reduceLT, Int.reduceLE, Int.reduceGT, Int.reduceGE, r2.cell, r3.cell, r4.cell, r7.cell, r10.cell, r13.cell]
  have htx := tx; have hty := ty
  have q0 := p0
  -- points, one by one
  refine loop_intro (fun p : Nat => [(4, .pointer (some ⟨b4, 0, none⟩)), (5, .pointer (some ⟨b7, 0, none⟩)), (6, .pointer (some ⟨b10, 0, none⟩)), (7, .pointer (some ⟨b13, 0, none⟩)), (8, .int .i64 p)])
    (fun p h' => p ≤ max n m ∧ Fr 0 0 h h' ∧ h14.size ≤ h'.size ∧ Rw h' b4 [.int .i64 0, .slice none 0 0] ∧ Rw h' b7 [.int .i64 (max n m : Nat), .slice xa (max n m) xc] ∧ Rw h' b10 [.int .i64 (max n m : Nat), .slice ya (max n m) yc] ∧ Rw h' b13 [.int .i64 (max n m : Nat), .slice za (max n m) zc] ∧
      Tab h' h4.size h6.size (.slice xa (max n m) xc) (max n m) (max n m) X (inN n M) ∧ Tab h' h8.size h9.size (.slice ya (max n m) yc) (max n m) (max n m) Y (inN m N) ∧ Tab h' h11.size h12.size (.slice za (max n m) zc) (max n m) (max n m) Z fun i j => decide (i < p) && compM n M m N i j) (fun p => max n m - p) 0 ?_ ?_ ?_
  · simp [Le, find]
  · exact ⟨by omega, p0, by omega, r4, r7, r10, r13, tx, ty, t12.congr fun i j _ _ => by simp⟩
  rintro p hP ⟨hp, p0, yP, r4, r7, r10, r13, tx, ty, t12⟩
  have p0_z := p0.size
  have r4_l := r4.lt
  have r7_l := r7.lt
  have r10_l := r10.lt
  have r13_l := r13.lt
  simp -dsimp only [go_sem, ↓reduceIte, reduceCtorEq, Nat.reduceEqDiff, Nat.reduceAdd, Nat.reduceLeDiff, Nat.reduceMul, Int.reduceBEq, Int.reduceBNe, Int.reduceLT, Int.reduceLE, Int.reduceGT, Int.reduceGE, r4.cell, r7.cell, r10.cell, r13.cell]
  refine ⟨fun hlt1 => ?_, fun hge1 => ?_⟩
  · have hlt1 : p < max n m := by omega
    simp -dsimp only [go_sem, ↓reduceIte, reduceCtorEq, Nat.reduceEqDiff, Nat.reduceAdd, Nat.reduceLeDiff, Nat.reduceMul, Int.reduceBEq, Int.reduceBNe, Int.reduceLT, Int.reduceLE, Int.reduceGT, Int.reduceGE, r4.cell, r7.cell, r10.cell, r13.cell]
    refine loop_intro (fun q : Nat => [(4, .pointer (some ⟨b4, 0, none⟩)), (5, .pointer (some ⟨b7, 0, none⟩)), (6, .pointer (some ⟨b10, 0, none⟩)), (7, .pointer (some ⟨b13, 0, none⟩)), (8, .int .i64 p), (9, .int .i64 q)])
      (fun q h' => q ≤ max n m ∧ Fr 0 0 h h' ∧ h14.size ≤ h'.size ∧ Rw h' b4 [.int .i64 0, .slice none 0 0] ∧ Rw h' b7 [.int .i64 (max n m : Nat), .slice xa (max n m) xc] ∧ Rw h' b10 [.int .i64 (max n m : Nat), .slice ya (max n m) yc] ∧ Rw h' b13 [.int .i64 (max n m : Nat), .slice za (max n m) zc] ∧
        Tab h' h4.size h6.size (.slice xa (max n m) xc) (max n m) (max n m) X (inN n M) ∧ Tab h' h8.size h9.size (.slice ya (max n m) yc) (max n m) (max n m) Y (inN m N) ∧ Tab h' h11.size h12.size (.slice za (max n m) zc) (max n m) (max n m) Z fun i j => (decide (i < p) && compM n M m N i j) || (i == p && (List.range q).any fun k => inN n M p k && inN m N k j)) (fun q => max n m - q) 0 ?_ ?_ ?_
    · simp [Le, find]
    · exact ⟨by omega, p0, by omega, r4, r7, r10, r13, tx, ty, t12.congr fun i j _ _ => by simp⟩
    rintro q hQ ⟨hq, p0, yQ, r4, r7, r10, r13, tx, ty, t12⟩
    have p0_z := p0.size
    have r4_l := r4.lt
    have r7_l := r7.lt
    have r10_l := r10.lt
    have r13_l := r13.lt
    simp -dsimp only [go_sem, ↓reduceIte, reduceCtorEq, Nat.reduceEqDiff, Nat.reduceAdd, Nat.reduceLeDiff, Nat.reduceMul, Int.reduceBEq, Int.reduceBNe, Int.reduceLT, Int.reduceLE, Int.reduceGT, Int.reduceGE, r4.cell, r7.cell, r10.cell, r13.cell]
    refine ⟨fun hlt2 => ?_, fun hge2 => ?_⟩
    · have hlt2 : q < max n m := by omega
      have hstep : ∀ j, (List.range (q + 1)).any (fun k => inN n M p k && inN m N k j) = ((List.range q).any (fun k => inN n M p k && inN m N k j) || (inN n M p q && inN m N q j)) := fun j => by
        rw [List.range_succ, List.any_append]; simp
      simp -dsimp only [go_sem, ↓reduceIte, reduceCtorEq, Nat.reduceEqDiff, Nat.reduceAdd, Nat.reduceLeDiff, Nat.reduceMul, Int.reduceBEq, Int.reduceBNe, Int.reduceLT, Int.reduceLE, Int.reduceGT, Int.reduceGE, r4.cell, r7.cell, r10.cell, r13.cell]
      refine loop_intro (fun c : Nat => [(4, .pointer (some ⟨b4, 0, none⟩)), (5, .pointer (some ⟨b7, 0, none⟩)), (6, .pointer (some ⟨b10, 0, none⟩)), (7, .pointer (some ⟨b13, 0, none⟩)), (8, .int .i64 p), (9, .int .i64 q), (10, .int .i64 c)])
        (fun c h' => c ≤ max n m ∧ (inN n M p q = false → c = 0) ∧ Fr 0 0 h h' ∧ h14.size ≤ h'.size ∧ Rw h' b4 [.int .i64 0, .slice none 0 0] ∧ Rw h' b7 [.int .i64 (max n m : Nat), .slice xa (max n m) xc] ∧ Rw h' b10 [.int .i64 (max n m : Nat), .slice ya (max n m) yc] ∧ Rw h' b13 [.int .i64 (max n m : Nat), .slice za (max n m) zc] ∧
          Tab h' h4.size h6.size (.slice xa (max n m) xc) (max n m) (max n m) X (inN n M) ∧ Tab h' h8.size h9.size (.slice ya (max n m) yc) (max n m) (max n m) Y (inN m N) ∧ Tab h' h11.size h12.size (.slice za (max n m) zc) (max n m) (max n m) Z fun i j => (decide (i < p) && compM n M m N i j) || (i == p && ((List.range q).any (fun k => inN n M p k && inN m N k j) || (decide (j < c) && inN m N q j)))) (fun c => max n m - c) 0 ?_ ?_ ?_
      · simp [Le, find]
      · exact ⟨by omega, fun _ => rfl, p0, by omega, r4, r7, r10, r13, tx, ty, t12.congr fun i j _ _ => by simp⟩
      rintro c hC ⟨hc, hc0, p0, yC, r4, r7, r10, r13, tx, ty, t12⟩
      have p0_z := p0.size
      have r4_l := r4.lt
      have r7_l := r7.lt
      have r10_l := r10.lt
      have r13_l := r13.lt
      simp -dsimp only [go_sem, ↓reduceIte, reduceCtorEq, Nat.reduceEqDiff, Nat.reduceAdd, Nat.reduceLeDiff, Nat.reduceMul, Int.reduceBEq, Int.reduceBNe, Int.reduceLT, Int.reduceLE, Int.reduceGT, Int.reduceGE, r4.cell, r7.cell, r10.cell, r13.cell]
      refine Chk_intro (by omega) (tx.idx (p := p) (by omega) fun b15 o15 c15 => ?_)
      simp -dsimp only [go_sem, ↓reduceIte, reduceCtorEq, Nat.reduceEqDiff, Nat.reduceAdd, Nat.reduceLeDiff, Nat.reduceMul, Int.reduceBEq, Int.reduceBNe, Int.reduceLT, Int.reduceLE, Int.reduceGT, Int.reduceGE, c15, r4.cell, r7.cell, r10.cell, r13.cell]
      refine Chk_intro (by omega) ?_
      simp -dsimp only [go_sem, ↓reduceIte, reduceCtorEq, Nat.reduceEqDiff, Nat.reduceAdd, Nat.reduceLeDiff, Nat.reduceMul, Int.reduceBEq, Int.reduceBNe, Int.reduceLT, Int.reduceLE, Int.reduceGT, Int.reduceGE, tx.cell hlt1 hlt2, r4.cell, r7.cell, r10.cell, r13.cell]
      cases hM : inN n M p q with
      | false =>
        have hc0 := hc0 hM
        subst hc0
        simp -dsimp only [go_sem, ↓reduceIte, reduceCtorEq, Nat.reduceEqDiff, Nat.reduceAdd, Nat.reduceLeDiff, Nat.reduceMul, Int.reduceBEq, Int.reduceBNe, Int.reduceLT, Int.reduceLE, Int.reduceGT, Int.reduceGE, r4.cell, r7.cell, r10.cell, r13.cell]
        simp -dsimp (disch := omega) only [wrap64]
        refine ⟨q + 1, by omega, by simp [Le, find], by omega, p0, by omega, r4, r7, r10, r13, tx, ty, t12.congr fun i j hi hj => ?_⟩
        rw [hstep, hM]; simp
      | true =>
        simp -dsimp only [go_sem, ↓reduceIte, reduceCtorEq, Nat.reduceEqDiff, Nat.reduceAdd, Nat.reduceLeDiff, Nat.reduceMul, Int.reduceBEq, Int.reduceBNe, Int.reduceLT, Int.reduceLE, Int.reduceGT, Int.reduceGE, r4.cell, r7.cell, r10.cell, r13.cell]
        refine ⟨fun hlt3 => ?_, fun hge3 => ?_⟩
        · have hlt3 : c < max n m := by omega
          have hold : ((decide (p < p) && compM n M m N p c) || (true && ((List.range q).any (fun k => inN n M p k && inN m N k c) || (decide (c < c) && inN m N q c)))) = (List.range q).any (fun k => inN n M p k && inN m N k c) := by simp
          have hnew : ∀ (v : Bool), v = ((List.range q).any (fun k => inN n M p k && inN m N k c) || inN m N q c) → ∀ i j, (if i = p ∧ j = c then v else ((decide (i < p) && compM n M m N i j) || (i == p && ((List.range q).any (fun k => inN n M p k && inN m N k j) || (decide (j < c) && inN m N q j))))) = ((decide (i < p) && compM n M m N i j) || (i == p && ((List.range q).any (fun k => inN n M p k && inN m N k j) || (decide (j < c + 1) && inN m N q j)))) := fun v hv i j => by
            by_cases hij : i = p ∧ j = c
            · obtain ⟨rfl, rfl⟩ := hij
              rw [if_pos ⟨rfl, rfl⟩, hv]; simp
            · rw [if_neg hij]
              by_cases hip : i = p
              · have : (j < c + 1) = (j < c) := by simp; omega
                simp [this]
              · have e : (i == p) = false := by simpa using hip
                simp [e]
          simp -dsimp only [go_sem, ↓reduceIte, reduceCtorEq, Nat.reduceEqDiff, Nat.reduceAdd, Nat.reduceLeDiff, Nat.reduceMul, Int.reduceBEq, Int.reduceBNe, Int.reduceLT, Int.reduceLE, Int.reduceGT, Int.reduceGE, r4.cell, r7.cell, r10.cell, r13.cell]
          refine Chk_intro (by omega) (t12.idx (p := p) (by omega) fun b16 o16 c16 => ?_)
          simp -dsimp only [go_sem, ↓reduceIte, reduceCtorEq, Nat.reduceEqDiff, Nat.reduceAdd, Nat.reduceLeDiff, Nat.reduceMul, Int.reduceBEq, Int.reduceBNe, Int.reduceLT, Int.reduceLE, Int.reduceGT, Int.reduceGE, c16, r4.cell, r7.cell, r10.cell, r13.cell]
          refine Chk_intro (by omega) (t12.idx (p := p) (by omega) fun b17 o17 c17 => ?_)
          simp -dsimp only [go_sem, ↓reduceIte, reduceCtorEq, Nat.reduceEqDiff, Nat.reduceAdd, Nat.reduceLeDiff, Nat.reduceMul, Int.reduceBEq, Int.reduceBNe, Int.reduceLT, Int.reduceLE, Int.reduceGT, Int.reduceGE, c17, r4.cell, r7.cell, r10.cell, r13.cell]
          refine Chk_intro (by omega) ?_
          simp -dsimp only [go_sem, ↓reduceIte, reduceCtorEq, Nat.reduceEqDiff, Nat.reduceAdd, Nat.reduceLeDiff, Nat.reduceMul, Int.reduceBEq, Int.reduceBNe, Int.reduceLT, Int.reduceLE, Int.reduceGT, Int.reduceGE, t12.cell hlt1 hlt3, r4.cell, r7.cell, r10.cell, r13.cell]
          rw [hold]
          cases hA : (List.range q).any (fun k => inN n M p k && inN m N k c) with
          | true =>
            simp -dsimp only [go_sem, ↓reduceIte, reduceCtorEq, Nat.reduceEqDiff, Nat.reduceAdd, Nat.reduceLeDiff, Nat.reduceMul, Int.reduceBEq, Int.reduceBNe, Int.reduceLT, Int.reduceLE, Int.reduceGT, Int.reduceGE, r4.cell, r7.cell, r10.cell, r13.cell]
            refine Chk_intro (by omega) ?_
            simp -dsimp only [go_sem, ↓reduceIte, reduceCtorEq, Nat.reduceEqDiff, Nat.reduceAdd, Nat.reduceLeDiff, Nat.reduceMul, Int.reduceBEq, Int.reduceBNe, Int.reduceLT, Int.reduceLE, Int.reduceGT, Int.reduceGE, r4.cell, r7.cell, r10.cell, r13.cell]
            refine Chk_intro (t12.wr hlt1 hlt3) fun h18 s18 => ?_
            have s18_z := s18.size
            have w_row := t12.row p hlt1
            have t13 := t12.set hlt1 s18
            have s18.fr_z := s18.fr.size
            replace p0 := p0.fresh s18.fr (by omega)
            replace r4 := r4.fr s18.fr (by omega)
            replace r7 := r7.fr s18.fr (by omega)
            replace r10 := r10.fr s18.fr (by omega)
            replace r13 := r13.fr s18.fr (by omega)
            replace tx := tx.fr s18.fr (by omega)
            replace ty := ty.fr s18.fr (by omega)
            simp -dsimp only [go_sem, ↓reduceIte, reduceCtorEq, Nat.reduceEqDiff, Nat.reduceAdd, Nat.reduceLeDiff, Nat.reduceMul, Int.reduceBEq, Int.reduceBNe, Int.reduceLT, Int.reduceLE, Int.reduceGT, Int.reduceGE, r4.cell, r7.cell, r10.cell, r13.cell]
            simp -dsimp (disch := omega) only [wrap64]
            exact ⟨c + 1, by omega, by simp [Le, find], by omega, by simp, p0, by omega, r4, r7, r10, r13, tx, ty, t13.congr fun i j _ _ => hnew _ (by rw [hA, Bool.true_or]) i j⟩
          | false =>
            simp -dsimp only [go_sem, ↓reduceIte, reduceCtorEq, Nat.reduceEqDiff, Nat.reduceAdd, Nat.reduceLeDiff, Nat.reduceMul, Int.reduceBEq, Int.reduceBNe, Int.reduceLT, Int.reduceLE, Int.reduceGT, Int.reduceGE, r4.cell, r7.cell, r10.cell, r13.cell]
            refine Chk_intro (by omega) (ty.idx (p := q) (by omega) fun b18 o18 c18 => ?_)
            simp -dsimp only [go_sem, ↓reduceIte, reduceCtorEq, Nat.reduceEqDiff, Nat.reduceAdd, Nat.reduceLeDiff, Nat.reduceMul, Int.reduceBEq, Int.reduceBNe, Int.reduceLT, Int.reduceLE, Int.reduceGT, Int.reduceGE, c18, r4.cell, r7.cell, r10.cell, r13.cell]
            refine Chk_intro (by omega) ?_
            simp -dsimp only [go_sem, ↓reduceIte, reduceCtorEq, Nat.reduceEqDiff, Nat.reduceAdd, Nat.reduceLeDiff, Nat.reduceMul, Int.reduceBEq, Int.reduceBNe, Int.reduceLT, Int.reduceLE, Int.reduceGT, Int.reduceGE, ty.cell hlt2 hlt3, r4.cell, r7.cell, r10.cell, r13.cell]
            refine Chk_intro (by omega) ?_
            simp -dsimp only [go_sem, ↓reduceIte, reduceCtorEq, Nat.reduceEqDiff, Nat.reduceAdd, Nat.reduceLeDiff, Nat.reduceMul, Int.reduceBEq, Int.reduceBNe, Int.reduceLT, Int.reduceLE, Int.reduceGT, Int.reduceGE, r4.cell, r7.cell, r10.cell, r13.cell]
            refine Chk_intro (t12.wr hlt1 hlt3) fun h18 s18 => ?_
            have s18_z := s18.size
            have w_row := t12.row p hlt1
            have t13 := t12.set hlt1 s18
            have s18.fr_z := s18.fr.size
            replace p0 := p0.fresh s18.fr (by omega)
            replace r4 := r4.fr s18.fr (by omega)
            replace r7 := r7.fr s18.fr (by omega)
            replace r10 := r10.fr s18.fr (by omega)
            replace r13 := r13.fr s18.fr (by omega)
            replace tx := tx.fr s18.fr (by omega)
            replace ty := ty.fr s18.fr (by omega)
            simp -dsimp only [go_sem, ↓reduceIte, reduceCtorEq, Nat.reduceEqDiff, Nat.reduceAdd, Nat.reduceLeDiff, Nat.reduceMul, Int.reduceBEq, Int.reduceBNe, Int.reduceLT, Int.reduceLE, Int.reduceGT, Int.reduceGE, r4.cell, r7.cell, r10.cell, r13.cell]
            simp -dsimp (disch := omega) only [wrap64]
            exact ⟨c + 1, by omega, by simp [Le, find], by omega, by simp, p0, by omega, r4, r7, r10, r13, tx, ty, t13.congr fun i j _ _ => hnew _ (by rw [hA, Bool.false_or]) i j⟩
        · have hcn : c = max n m := by omega
          simp -dsimp only [go_sem, ↓reduceIte, reduceCtorEq, Nat.reduceEqDiff, Nat.reduceAdd, Nat.reduceLeDiff, Nat.reduceMul, Int.reduceBEq, Int.reduceBNe, Int.reduceLT, Int.reduceLE, Int.reduceGT, Int.reduceGE, r4.cell, r7.cell, r10.cell, r13.cell]
          simp -dsimp (disch := omega) only [wrap64]
          refine ⟨q + 1, by omega, by simp [Le, find], by omega, p0, by omega, r4, r7, r10, r13, tx, ty, t12.congr fun i j hi hj => ?_⟩
          have : j < c := by omega
          rw [hstep, hM]; simp [this]
    · have hqn : q = max n m := by omega
      simp -dsimp only [go_sem, ↓reduceIte, reduceCtorEq, Nat.reduceEqDiff, Nat.reduceAdd, Nat.reduceLeDiff, Nat.reduceMul, Int.reduceBEq, Int.reduceBNe, Int.reduceLT, Int.reduceLE, Int.reduceGT, Int.reduceGE, r4.cell, r7.cell, r10.cell, r13.cell]
      simp -dsimp (disch := omega) only [wrap64]
      refine ⟨p + 1, by omega, by simp [Le, find], by omega, p0, by omega, r4, r7, r10, r13, tx, ty, t12.congr fun i j hi hj => ?_⟩
      by_cases hip : i = p
      · subst hip
        have e : (List.range q).any (fun k => inN n M i k && inN m N k j) = compM n M m N i j := by
          rw [Bool.eq_iff_iff, compM_true, List.any_eq_true]
          simp only [List.mem_range, Bool.and_eq_true]
          refine exists_congr fun k => ⟨fun ⟨_, h⟩ => h, fun h => ⟨?_, h⟩⟩
          have := (inN_true.1 h.1).2.1; omega
        rw [e]; simp
      · have e : (i == p) = false := by simpa using hip
        have e4 : (i < p + 1) = (i < p) := by simp; omega
        simp [e, e4]
  · have hpn : p = max n m := by omega
    simp -dsimp only [go_sem, ↓reduceIte, reduceCtorEq, Nat.reduceEqDiff, Nat.reduceAdd, Nat.reduceLeDiff, Nat.reduceMul, Int.reduceBEq, Int.reduceBNe, Int.reduceLT, Int.reduceLE, Int.reduceGT, Int.reduceGE, r4.cell, r7.cell, r10.cell, r13.cell]
    refine Chk_intro (r4.wr (by first | (simp; done) | (simp; omega))) fun h15 s15 => ?_
    have s15_z := s15.size
    replace p0 := p0.fresh s15.fr (by omega)
    replace r7 := r7.fr s15.fr (by omega)
    replace r10 := r10.fr s15.fr (by omega)
    replace r13 := r13.fr s15.fr (by omega)
    replace tx := tx.fr s15.fr (by omega)
    replace ty := ty.fr s15.fr (by omega)
    replace t12 := t12.fr s15.fr (by omega)
    replace r4 := s15.row r4
    try simp only [cl_int, cl_bool, cl_slice, cl_ptr, putAt_one, List.set_cons_zero, List.set_cons_succ, ivec_set, brow_upd] at r4
    simp -dsimp only [go_sem, ↓reduceIte, reduceCtorEq, Nat.reduceEqDiff, Nat.reduceAdd, Nat.reduceLeDiff, Nat.reduceMul, Int.reduceBEq, Int.reduceBNe, Int.reduceLT, Int.reduceLE, Int.reduceGT, Int.reduceGE, r4.cell, r7.cell, r10.cell, r13.cell]
    refine ⟨p0, hmx, _, Z, rfl, ((t12.mono (by omega) (by omega)).congr fun i j hi hj => ?_)⟩
    have : i < p := by omega
    simp [this]
end Go.Proofs.Tst
namespace Go.Proofs.Tst
open Go Go.Vc
def exL : List (Int × Int) := [(0, 1), (1, 2), (2, 0), (2, 3), (9, 1)]
theorem c_law1_example (h : Heap) : Con Tryd.prog 57 #[] h fun v h' => Fr 0 0 h h' ∧ ProgAt h' h.size h'.size v 4 (ofM 4 exL) := by
  refine con_law1_example ?_
  have p0 : Fr 0 0 h h := .refl _ _ _
  simp -dsimp only [go_sem, ↓reduceIte, reduceCtorEq, Nat.reduceEqDiff, Nat.reduceAdd, Nat.reduceLeDiff, Nat.reduceMul, Int.reduceBEq, Int.reduceBNe, Int.reduceLT, Int.reduceLE, Int.reduceGT, Int.reduceGE]
  intro b1 h1 n1
  have n1_a := n1.at_
  have n1_z := n1.size
  replace p0 := p0.fresh (n1.fr (lo := 0) (hi := 0)) (by omega)
  have r1 := n1.row
  simp -dsimp only [go_sem, ↓reduceIte, reduceCtorEq, Nat.reduceEqDiff, Nat.reduceAdd, Nat.reduceLeDiff, Nat.reduceMul, Int.reduceBEq, Int.reduceBNe, Int.reduceLT, Int.reduceLE, Int.reduceGT, Int.reduceGE, r1.cell]
  refine call_of (rel_Of 4 _ exL h1 (r1.rd rfl) (by decide)) ?_
  rintro v h2 ⟨f2, t2⟩
  have f2_z := f2.size
  replace p0 := p0.fresh f2 (by omega)
  replace r1 := r1.fr f2 (by omega)
  simp -dsimp only [go_sem, ↓reduceIte, reduceCtorEq, Nat.reduceEqDiff, Nat.reduceAdd, Nat.reduceLeDiff, Nat.reduceMul, Int.reduceBEq, Int.reduceBNe, Int.reduceLT, Int.reduceLE, Int.reduceGT, Int.reduceGE, r1.cell]
  exact ⟨p0, t2.mono (by omega) (by omega)⟩
theorem k1_1 : (pairsOf 4 (ofM 4 exL)).length = 4 := by decide +kernel
theorem k1_2 : cycS 4 (ofM 4 exL) = [0, 1, 2] := by decide +kernel
theorem k1_3 : (pairsOf 4 (plusM 4 (ofM 4 exL))).length = 12 := by decide +kernel
theorem k1_4 : irrB 4 (plusM 4 (ofM 4 exL)) = false := by decide +kernel
theorem k1_5 : irrB 4 (ofM 4 exL) = true := by decide +kernel
theorem k1_6 : (inR ((4 : Nat) : Int) 2 && inR ((4 : Nat) : Int) 0 && ofM 4 exL (Int.toNat 2) (Int.toNat 0)) = true := by decide +kernel
theorem k1_7 : (inR ((4 : Nat) : Int) 9 && inR ((4 : Nat) : Int) 1 && ofM 4 exL (Int.toNat 9) (Int.toNat 1)) = false := by decide +kernel
theorem c_law1_lives {h : Heap} (ht : TabAt h) : Con Tryd.prog 27 #[] h fun v h' => Fr 0 0 h h' ∧ v = .bool true := by
  refine con_law1_lives ?_
  have p0 : Fr 0 0 h h := .refl _ _ _
  simp -dsimp only [go_sem, ↓reduceIte, reduceCtorEq, Nat.reduceEqDiff, Nat.reduceAdd, Nat.reduceLeDiff, Nat.reduceMul, Int.reduceBEq, Int.reduceBNe, Int.reduceLT, Int.reduceLE, Int.reduceGT, Int.reduceGE]
  refine call_of (c_law1_example h) ?_
  rintro v1 h1 ⟨f1, t1⟩
  have f1_z := f1.size
  replace p0 := p0.fresh f1 (by omega)
  have q1 := t1
  obtain ⟨-, pb, rb, R, W, rfl, -⟩ := q1
  simp -dsimp only [go_sem, ↓reduceIte, reduceCtorEq, Nat.reduceEqDiff, Nat.reduceAdd, Nat.reduceLeDiff, Nat.reduceMul, Int.reduceBEq, Int.reduceBNe, Int.reduceLT, Int.reduceLE, Int.reduceGT, Int.reduceGE]
  refine call_of (rel_Copy t1) ?_
  rintro v2 h2 ⟨f2, -, pb2, rb2, R2, W2, rfl, -⟩
  have f2_z := f2.size
  replace p0 := p0.fresh f2 (by omega)
  replace t1 := t1.fr f2 (by omega)
  simp -dsimp only [go_sem, ↓reduceIte, reduceCtorEq, Nat.reduceEqDiff, Nat.reduceAdd, Nat.reduceLeDiff, Nat.reduceMul, Int.reduceBEq, Int.reduceBNe, Int.reduceLT, Int.reduceLE, Int.reduceGT, Int.reduceGE]
  refine call_of (rel_Inverse t1 (ht.fr p0 (by omega))) ?_
  rintro v3 h3 ⟨f3, -, pb3, rb3, R3, W3, rfl, -⟩
  have f3_z := f3.size
  replace p0 := p0.fresh f3 (by omega)
  replace t1 := t1.fr f3 (by omega)
  simp -dsimp only [go_sem, ↓reduceIte, reduceCtorEq, Nat.reduceEqDiff, Nat.reduceAdd, Nat.reduceLeDiff, Nat.reduceMul, Int.reduceBEq, Int.reduceBNe, Int.reduceLT, Int.reduceLE, Int.reduceGT, Int.reduceGE]
  refine call_of (rel_Opt t1) ?_
  rintro v4 h4 ⟨f4, -, pb4, rb4, R4, W4, rfl, -⟩
  have f4_z := f4.size
  replace p0 := p0.fresh f4 (by omega)
  replace t1 := t1.fr f4 (by omega)
  simp -dsimp only [go_sem, ↓reduceIte, reduceCtorEq, Nat.reduceEqDiff, Nat.reduceAdd, Nat.reduceLeDiff, Nat.reduceMul, Int.reduceBEq, Int.reduceBNe, Int.reduceLT, Int.reduceLE, Int.reduceGT, Int.reduceGE]
  refine call_of (rel_Plus t1) ?_
  rintro v5 h5 ⟨f5, -, pb5, rb5, R5, W5, rfl, -⟩
  have f5_z := f5.size
  replace p0 := p0.fresh f5 (by omega)
  replace t1 := t1.fr f5 (by omega)
  simp -dsimp only [go_sem, ↓reduceIte, reduceCtorEq, Nat.reduceEqDiff, Nat.reduceAdd, Nat.reduceLeDiff, Nat.reduceMul, Int.reduceBEq, Int.reduceBNe, Int.reduceLT, Int.reduceLE, Int.reduceGT, Int.reduceGE]
  refine call_of (rel_Len t1) ?_
  rintro v h6 ⟨rfl, rfl⟩
  simp -dsimp only [go_sem, ↓reduceIte, reduceCtorEq, Nat.reduceEqDiff, Nat.reduceAdd, Nat.reduceLeDiff, Nat.reduceMul, Int.reduceBEq, Int.reduceBNe, Int.reduceLT, Int.reduceLE, Int.reduceGT, Int.reduceGE, Int.cast_ofNat_Int]
  refine call_of (rel_Size t1) ?_
  rintro v h6 ⟨rfl, rfl⟩
  rw [k1_1]
  simp -dsimp only [go_sem, ↓reduceIte, reduceCtorEq, Nat.reduceEqDiff, Nat.reduceAdd, Nat.reduceLeDiff, Nat.reduceMul, Int.reduceBEq, Int.reduceBNe, Int.reduceLT, Int.reduceLE, Int.reduceGT, Int.reduceGE, Int.cast_ofNat_Int]
  refine call_of (rel_Has t1 2 0) ?_
  rintro v h6 ⟨rfl, rfl⟩
  rw [k1_6]
  simp -dsimp only [go_sem, ↓reduceIte, reduceCtorEq, Nat.reduceEqDiff, Nat.reduceAdd, Nat.reduceLeDiff, Nat.reduceMul, Int.reduceBEq, Int.reduceBNe, Int.reduceLT, Int.reduceLE, Int.reduceGT, Int.reduceGE]
  refine call_of (rel_Has t1 9 1) ?_
  rintro v h6 ⟨rfl, rfl⟩
  rw [k1_7]
  simp -dsimp only [go_sem, ↓reduceIte, reduceCtorEq, Nat.reduceEqDiff, Nat.reduceAdd, Nat.reduceLeDiff, Nat.reduceMul, Int.reduceBEq, Int.reduceBNe, Int.reduceLT, Int.reduceLE, Int.reduceGT, Int.reduceGE]
  refine call_of (rel_Cycle t1 (ht.fr p0 (by omega))) ?_
  rintro v6 h6 ⟨f6, o6⟩
  rw [k1_2] at o6
  have f6_z := f6.size
  replace p0 := p0.fresh f6 (by omega)
  replace t1 := t1.fr f6 (by omega)
  simp -dsimp only [go_sem, ↓reduceIte, reduceCtorEq, Nat.reduceEqDiff, Nat.reduceAdd, Nat.reduceLeDiff, Nat.reduceMul, Int.reduceBEq, Int.reduceBNe, Int.reduceLT, Int.reduceLE, Int.reduceGT, Int.reduceGE]
  intro b7 h7 n7
  have n7_a := n7.at_
  have n7_z := n7.size
  replace p0 := p0.fresh (n7.fr (lo := 0) (hi := 0)) (by omega)
  replace t1 := t1.fr (n7.fr (lo := 0) (hi := 0)) (by omega)
  replace o6 := o6.fr (n7.fr (lo := 0) (hi := 0)) (by have := o6.at_; omega)
  have r7 := n7.row
  simp -dsimp only [go_sem, ↓reduceIte, reduceCtorEq, Nat.reduceEqDiff, Nat.reduceAdd, Nat.reduceLeDiff, Nat.reduceMul, Int.reduceBEq, Int.reduceBNe, Int.reduceLT, Int.reduceLE, Int.reduceGT, Int.reduceGE, r7.cell]
  refine call_of (c_law1_ints (l := [0, 1, 2]) (m := [0, 1, 2]) o6.rd (r7.rd rfl) (by decide)) ?_
  rintro v h8 ⟨rfl, rfl⟩
  simp -dsimp only [go_sem, ↓reduceIte, reduceCtorEq, Nat.reduceEqDiff, Nat.reduceAdd, Nat.reduceLeDiff, Nat.reduceMul, Int.reduceBEq, Int.reduceBNe, Int.reduceLT, Int.reduceLE, Int.reduceGT, Int.reduceGE, r7.cell]
  refine call_of (rel_Plus t1) ?_
  rintro v9 h9 ⟨f9, t9⟩
  have f9_z := f9.size
  replace p0 := p0.fresh f9 (by omega)
  replace t1 := t1.fr f9 (by omega)
  replace o6 := o6.fr f9 (by have := o6.at_; omega)
  replace r7 := r7.fr f9 (by omega)
  have q9 := t9
  obtain ⟨-, pb9, rb9, R9, W9, rfl, -⟩ := q9
  simp -dsimp only [go_sem, ↓reduceIte, reduceCtorEq, Nat.reduceEqDiff, Nat.reduceAdd, Nat.reduceLeDiff, Nat.reduceMul, Int.reduceBEq, Int.reduceBNe, Int.reduceLT, Int.reduceLE, Int.reduceGT, Int.reduceGE, r7.cell]
  refine call_of (rel_Size t9) ?_
  rintro v h10 ⟨rfl, rfl⟩
  rw [k1_3]
  simp -dsimp only [go_sem, ↓reduceIte, reduceCtorEq, Nat.reduceEqDiff, Nat.reduceAdd, Nat.reduceLeDiff, Nat.reduceMul, Int.reduceBEq, Int.reduceBNe, Int.reduceLT, Int.reduceLE, Int.reduceGT, Int.reduceGE, Int.cast_ofNat_Int, r7.cell]
  refine call_of (rel_Acyclic t1) ?_
  rintro v h11 ⟨f11, rfl⟩
  rw [k1_4]
  have f11_z := f11.size
  replace p0 := p0.fresh f11 (by omega)
  replace t1 := t1.fr f11 (by omega)
  replace o6 := o6.fr f11 (by have := o6.at_; omega)
  replace r7 := r7.fr f11 (by omega)
  replace t9 := t9.fr f11 (by omega)
  simp -dsimp only [go_sem, ↓reduceIte, reduceCtorEq, Nat.reduceEqDiff, Nat.reduceAdd, Nat.reduceLeDiff, Nat.reduceMul, Int.reduceBEq, Int.reduceBNe, Int.reduceLT, Int.reduceLE, Int.reduceGT, Int.reduceGE, r7.cell]
  refine call_of (rel_Irreflexive t1) ?_
  rintro v h12 ⟨rfl, rfl⟩
  rw [k1_5]
  simp -dsimp only [go_sem, ↓reduceIte, reduceCtorEq, Nat.reduceEqDiff, Nat.reduceAdd, Nat.reduceLeDiff, Nat.reduceMul, Int.reduceBEq, Int.reduceBNe, Int.reduceLT, Int.reduceLE, Int.reduceGT, Int.reduceGE, r7.cell]
  exact p0
end Go.Proofs.Tst
/-
  A least cycle is one; numbers that rise, round by round.
-/
namespace Go.Vc
section
variable {n : Nat} {M : Nat → Nat → Bool} {p : Nat}
end
theorem cycS_nil {n : Nat} {M : Nat → Nat → Bool} (h : cycS n M = []) : ∀ i, i < n → plusM n M i i = false := by
  unfold cycS at h
  split at h
  · rename_i hl; exact fun i hi => lf_none hl i (by omega) hi
  · simp [shortS] at h
/-- Without a cycle a way has fewer steps than there are points. -/
theorem way_short {n : Nat} {M : Nat → Nat → Bool} (ha : ∀ i, i < n → plusM n M i i = false) {k i j : Nat} (hi : i < n) (hj : j < n) (h : Way n M k i j) : k ≤ (List.range n).countP fun x => plusM n M i x := by
  induction h with
  | @one i j h =>
    rw [Nat.succ_le_iff]
    exact List.countP_pos_iff.2 ⟨j, List.mem_range.2 hj, plus_sub h⟩
  | @more k i x j hx h hw ih =>
    have := ih hx hj
    have := countP_lt (f := fun y => plusM n M x y) (g := fun y => plusM n M i y) n x hx (fun y hy => plus_trans hx (plus_sub h) hy) (ha x hx) (plus_sub h)
    omega
theorem no_way {n : Nat} {M : Nat → Nat → Bool} (ha : ∀ i, i < n → plusM n M i i = false) {i j : Nat} (hi : i < n) (hj : j < n) (h : Way n M n i j) : False := by
  have := way_short ha hi hj h
  have h2 := countP_lt (f := fun y => plusM n M i y) (g := fun _ => true) n i hi (fun _ _ => rfl) (ha i hi) rfl
  simp at h2
  omega
theorem Way.end {n : Nat} {M : Nat → Nat → Bool} {k a i j : Nat} (h : Way n M k a i) (hi : i < n) (hm : M i j = true) : Way n M (k + 1) a j := h.app hi (.one hm)

/-- Is there a way of so many steps to a point? -/
def WayTo (n : Nat) (M : Nat → Nat → Bool) (r i : Nat) : Prop := r = 0 ∨ ∃ a, a < n ∧ Way n M r a i
/-- The numbers within a round. -/
structure Num (n : Nat) (M : Nat → Nat → Bool) (r p : Nat) (N : Nat → Nat) : Prop where
  top : ∀ i, i < n → N i ≤ r
  new : ∀ i, i < n → p ≤ i → N i < r
  up : ∀ a b, a < n → b < n → M a b = true → N b ≠ 0 → N a ≠ 0 ∧ N a < N b
  old : ∀ i, i < n → N i = 0 ∨ N i = r → WayTo n M (r - 1) i
  done : ∀ i, i < p → N i = 0 → WayTo n M r i
section
variable {n : Nat} {M : Nat → Nat → Bool} {r p : Nat} {N : Nat → Nat}
theorem Num.skip (h : Num n M r p N) (h0 : N p ≠ 0 ∨ ∃ a, a < n ∧ M a p = true ∧ (N a = 0 ∨ N a = r)) (hr : 1 ≤ r) : Num n M r (p + 1) N := by
  refine ⟨h.top, fun i hi hpi => h.new i hi (by omega), h.up, h.old, fun i hi hN => ?_⟩
  by_cases hip : i = p
  · subst hip
    rcases h0 with h0 | ⟨a, ha, hm, h0⟩
    · exact absurd hN h0
    · obtain ⟨r, rfl⟩ : ∃ r', r = r' + 1 := ⟨r - 1, by omega⟩
      rcases h.old a ha h0 with h1 | ⟨b, hb, hw⟩
      · have : r = 0 := by omega
        subst this
        exact .inr ⟨a, ha, .one hm⟩
      · exact .inr ⟨b, hb, hw.end ha hm⟩
  · exact h.done i (by omega) hN
theorem Num.next (h : Num n M r n N) : Num n M (r + 1) 0 N :=
  ⟨fun i hi => by have := h.top i hi; omega, fun i hi _ => by have := h.top i hi; omega, h.up, fun i hi hN => by
    rcases hN with hN | hN
    · exact h.done i hi hN
    · have := h.top i hi; omega, fun i hi => by omega⟩
theorem Num.all (h : Num n M (n + 1) 0 N) (ha : ∀ i, i < n → plusM n M i i = false) {a b : Nat} (h1 : a < n) (h2 : b < n) (hm : M a b = true) : N a ≠ 0 ∧ N a < N b := by
  have hb : N b ≠ 0 := by
    intro h0
    rcases h.old b h2 (.inl h0) with h3 | ⟨c, hc, hw⟩
    · omega
    · exact no_way ha hc h2 hw
  exact h.up a b h1 h2 hm hb
end
end Go.Vc
namespace Go.Proofs.Tst
open Go Go.Vc
end Go.Proofs.Tst
namespace Go.Proofs.Tst
open Go Go.Vc
end Go.Proofs.Tst
/-
  The laws of sets of pairs.
-/
namespace Go.Proofs.Tst
open Go Go.Vc
section
variable {k : Nat} {A B C : Nat → Nat → Bool} {i j : Nat}
end
theorem progPtr {h : Heap} {lo hi : Nat} {p : Value} {n : Nat} {M : Nat → Nat → Bool} (t : ProgAt h lo hi p n M) : ∃ pb, p = .pointer (some ⟨pb, 0, none⟩) := by
  obtain ⟨-, pb, rb, R, W, rfl, -⟩ := t; exact ⟨pb, rfl⟩
end Go.Proofs.Tst
/-
  Chapter 1's examples.
-/
namespace Go.Proofs.Tst
open Go Go.Vc
theorem brow_bools {n : Nat} {f : Nat → Bool} : brow n f = boolsV ((List.range n).map f) := by simp [brow, boolsV]
theorem c_law1_truths {l m : List Bool} {a b : Value} {h : Heap} (hl : Rd 1 h a l.length (boolsV l)) (hm : Rd 1 h b m.length (boolsV m)) (hb : l.length ≤ 4611686018427387904) :
    Con Tryd.prog 61 #[a, b] h fun v h' => h' = h ∧ v = .bool (decide (l = m)) := by
  refine con_law1_truths ?_
  obtain ⟨aa, ac, rfl⟩ := hl.is
  obtain ⟨ba, bc, rfl⟩ := hm.is
  simp -dsimp only [go_sem, ↓reduceIte, reduceCtorEq, Nat.reduceEqDiff, Nat.reduceAdd, Nat.reduceLeDiff, Nat.reduceMul, Int.reduceBEq, Int.reduceBNe, Int.reduceLT, Int.reduceLE, Int.reduceGT, Int.reduceGE]
  refine ⟨fun hne => ?_, fun heq => ?_⟩
  · simp -dsimp only [go_sem, ↓reduceIte, reduceCtorEq, Nat.reduceEqDiff, Nat.reduceAdd, Nat.reduceLeDiff, Nat.reduceMul, Int.reduceBEq, Int.reduceBNe, Int.reduceLT, Int.reduceLE, Int.reduceGT, Int.reduceGE]
    have : l ≠ m := by rintro rfl; simp at hne
    simp [this]
  have heq : l.length = m.length := by have : (l.length : Int) = m.length := by simpa using heq
                                       omega
  simp -dsimp only [go_sem, ↓reduceIte, reduceCtorEq, Nat.reduceEqDiff, Nat.reduceAdd, Nat.reduceLeDiff, Nat.reduceMul, Int.reduceBEq, Int.reduceBNe, Int.reduceLT, Int.reduceLE, Int.reduceGT, Int.reduceGE]
  refine loop_intro (fun i : Nat => [(0, .slice aa l.length ac), (1, .slice ba m.length bc), (5, .int .i64 i)])
    (fun i h' => i ≤ l.length ∧ h' = h ∧ ∀ j, j < i → l[j]? = m[j]?) (fun i => l.length - i) 0 ?_ ?_ ?_
  · simp [Le, find]
  · exact ⟨by omega, rfl, fun j hj => by omega⟩
  rintro i _ ⟨hi, rfl, hinv⟩
  simp -dsimp only [go_sem, ↓reduceIte, reduceCtorEq, Nat.reduceEqDiff, Nat.reduceAdd, Nat.reduceLeDiff, Nat.reduceMul, Int.reduceBEq, Int.reduceBNe, Int.reduceLT, Int.reduceLE, Int.reduceGT, Int.reduceGE]
  refine ⟨fun hlt => ?_, fun hge => ?_⟩
  · have hlt : i < l.length := by omega
    have hx : l[i]? = some l[i] := List.getElem?_eq_getElem _
    have hy : m[i]? = some (m[i]'(by omega)) := List.getElem?_eq_getElem _
    generalize l[i] = x at hx
    generalize (m[i]'(by omega)) = y at hy
    simp -dsimp only [go_sem, ↓reduceIte, reduceCtorEq, Nat.reduceEqDiff, Nat.reduceAdd, Nat.reduceLeDiff, Nat.reduceMul, Int.reduceBEq, Int.reduceBNe, Int.reduceLT, Int.reduceLE, Int.reduceGT, Int.reduceGE]
    refine Chk_intro (by omega) (hl.idx (by omega) fun b1 o1 c1 => ?_)
    simp -dsimp only [go_sem, ↓reduceIte, reduceCtorEq, Nat.reduceEqDiff, Nat.reduceAdd, Nat.reduceLeDiff, Nat.reduceMul, Int.reduceBEq, Int.reduceBNe, Int.reduceLT, Int.reduceLE, Int.reduceGT, Int.reduceGE, c1 i _ (boolsV_get hx)]
    refine Chk_intro (by omega) (hm.idx (by omega) fun b2 o2 c2 => ?_)
    simp -dsimp only [go_sem, ↓reduceIte, reduceCtorEq, Nat.reduceEqDiff, Nat.reduceAdd, Nat.reduceLeDiff, Nat.reduceMul, Int.reduceBEq, Int.reduceBNe, Int.reduceLT, Int.reduceLE, Int.reduceGT, Int.reduceGE, c2 i _ (boolsV_get hy)]
    refine ⟨fun hne => ?_, fun he => ?_⟩
    · simp -dsimp only [go_sem, ↓reduceIte, reduceCtorEq, Nat.reduceEqDiff, Nat.reduceAdd, Nat.reduceLeDiff, Nat.reduceMul, Int.reduceBEq, Int.reduceBNe, Int.reduceLT, Int.reduceLE, Int.reduceGT, Int.reduceGE]
      have : l ≠ m := by rintro rfl; rw [hx] at hy; cases hy; simp at hne
      simp [this]
    · simp -dsimp only [go_sem, ↓reduceIte, reduceCtorEq, Nat.reduceEqDiff, Nat.reduceAdd, Nat.reduceLeDiff, Nat.reduceMul, Int.reduceBEq, Int.reduceBNe, Int.reduceLT, Int.reduceLE, Int.reduceGT, Int.reduceGE]
      simp -dsimp (disch := omega) only [wrap64]
      refine ⟨i + 1, by omega, by simp [Le, find], by omega, fun j hj => ?_⟩
      by_cases hji : j = i
      · subst hji
        rw [hx, hy]
        simpa using he
      · exact hinv j (by omega)
  · simp -dsimp only [go_sem, ↓reduceIte, reduceCtorEq, Nat.reduceEqDiff, Nat.reduceAdd, Nat.reduceLeDiff, Nat.reduceMul, Int.reduceBEq, Int.reduceBNe, Int.reduceLT, Int.reduceLE, Int.reduceGT, Int.reduceGE]
    have : l = m := List.ext_getElem? fun j => by
      by_cases hj : j < i
      · exact hinv j hj
      · rw [List.getElem?_eq_none (by omega), List.getElem?_eq_none (by omega)]
    simp [this]
theorem rels2' {h : Heap} {v w : Value} {k m : Nat} {A B : Nat → Nat → Bool} {lo hi lo' hi' : Nat} (t : ProgAt h lo hi v k A) (u : ProgAt h lo' hi' w m B) : RelsAt h [(v, k, A), (w, m, B)] := fun x hx => by
  rcases List.mem_cons.1 hx with rfl | hx
  · exact ⟨_, _, t⟩
  rcases List.mem_cons.1 hx with rfl | hx
  · exact ⟨_, _, u⟩
  · simp at hx
end Go.Proofs.Tst
/-
  The document's own Image, Within, Equal, Put, far, Cycle.
-/
namespace Go.Proofs.Tst
open Go Go.Vc
theorem ref1_Within {n m : Nat} {M N : Nat → Nat → Bool} {rv sv : Value} {lo hi lo' hi' : Nat} {h : Heap} (hr : RefAt h lo hi rv n M) (hs : RefAt h lo' hi' sv m N) :
    Con Tryd.prog 102 #[rv, sv] h fun v h' => Fr 0 0 h h' ∧ v = .bool (decide (WithinP n M m N)) := by
  refine con_ref1_Within ?_
  have hs0 := hs
  obtain ⟨hn, s, R, rfl, t⟩ := hr
  obtain ⟨sa, sc, rfl⟩ := t.own.is
  obtain ⟨hm, s', R', rfl, t'⟩ := hs
  obtain ⟨sa', sc', rfl⟩ := t'.own.is
  have p0 : Fr 0 0 h h := .refl _ _ _
  simp -dsimp only [go_sem, ↓reduceIte, reduceCtorEq, Nat.reduceEqDiff, Nat.reduceAdd, Nat.reduceLeDiff, Nat.reduceMul, Int.reduceBEq, Int.reduceBNe, Int.reduceLT, Int.reduceLE, Int.reduceGT, Int.reduceGE]
  intro b1 h1 n1
  have n1_a := n1.at_
  have n1_z := n1.size
  replace p0 := p0.fresh (n1.fr (lo := 0) (hi := 0)) (by omega)
  have r1 := n1.row
  simp -dsimp only [go_sem, ↓reduceIte, reduceCtorEq, Nat.reduceEqDiff, Nat.reduceAdd, Nat.reduceLeDiff, Nat.reduceMul, Int.reduceBEq, Int.reduceBNe, Int.reduceLT, Int.reduceLE, Int.reduceGT, Int.reduceGE, r1.cell]
  intro b2 h2 n2
  have n2_a := n2.at_
  have n2_z := n2.size
  replace p0 := p0.fresh (n2.fr (lo := 0) (hi := 0)) (by omega)
  replace r1 := r1.fr (n2.fr (lo := 0) (hi := 0)) (by omega)
  have r2 := n2.row
  simp -dsimp only [go_sem, ↓reduceIte, reduceCtorEq, Nat.reduceEqDiff, Nat.reduceAdd, Nat.reduceLeDiff, Nat.reduceMul, Int.reduceBEq, Int.reduceBNe, Int.reduceLT, Int.reduceLE, Int.reduceGT, Int.reduceGE, r1.cell, r2.cell]
  refine loop_intro (fun a : Nat => [(2, .pointer (some ⟨b1, 0, none⟩)), (3, .pointer (some ⟨b2, 0, none⟩)), (5, .int .i64 a)])
    (fun a h' => a ≤ n ∧ Fr 0 0 h2 h' ∧ ∀ x, x < a → ∀ y, y < n → M x y = true → x < m ∧ y < m ∧ N x y = true) (fun a => n - a) 0 ?_ ?_ ?_
  · simp [Le, find]
  · exact ⟨by omega, .refl _ _ _, by omega⟩
  rintro a h3 ⟨ha, f3, hin⟩
  have f3_z := f3.size
  replace p0 := p0.fresh f3 (by omega)
  replace r1 := r1.fr f3 (by omega)
  replace r2 := r2.fr f3 (by omega)
  simp -dsimp only [go_sem, ↓reduceIte, reduceCtorEq, Nat.reduceEqDiff, Nat.reduceAdd, Nat.reduceLeDiff, Nat.reduceMul, Int.reduceBEq, Int.reduceBNe, Int.reduceLT, Int.reduceLE, Int.reduceGT, Int.reduceGE, r1.cell, r2.cell]
  refine ⟨fun hlt => ?_, fun hge => ?_⟩
  · have hlt : a < n := by omega
    simp -dsimp only [go_sem, ↓reduceIte, reduceCtorEq, Nat.reduceEqDiff, Nat.reduceAdd, Nat.reduceLeDiff, Nat.reduceMul, Int.reduceBEq, Int.reduceBNe, Int.reduceLT, Int.reduceLE, Int.reduceGT, Int.reduceGE, r1.cell, r2.cell]
    refine loop_intro (fun b : Nat => [(2, .pointer (some ⟨b1, 0, none⟩)), (3, .pointer (some ⟨b2, 0, none⟩)), (5, .int .i64 a), (6, .int .i64 b)])
      (fun b h' => b ≤ n ∧ Fr 0 0 h3 h' ∧ ∀ y, y < b → M a y = true → a < m ∧ y < m ∧ N a y = true) (fun b => n - b) 0 ?_ ?_ ?_
    · simp [Le, find]
    · exact ⟨by omega, .refl _ _ _, by omega⟩
    rintro b h4 ⟨hb, f4, hin2⟩
    have f4_z := f4.size
    replace p0 := p0.fresh f4 (by omega)
    replace r1 := r1.fr f4 (by omega)
    replace r2 := r2.fr f4 (by omega)
    have t := t.fr p0 (by omega)
    simp -dsimp only [go_sem, ↓reduceIte, reduceCtorEq, Nat.reduceEqDiff, Nat.reduceAdd, Nat.reduceLeDiff, Nat.reduceMul, Int.reduceBEq, Int.reduceBNe, Int.reduceLT, Int.reduceLE, Int.reduceGT, Int.reduceGE, r1.cell, r2.cell]
    refine ⟨fun hlt2 => ?_, fun hge2 => ?_⟩
    · have hlt2 : b < n := by omega
      have go : (M a b = true → a < m ∧ b < m ∧ N a b = true) → ∀ y, y < b + 1 → M a y = true → a < m ∧ y < m ∧ N a y = true := fun h y hy hm => by
        by_cases hyb : y = b
        · subst hyb; exact h hm
        · exact hin2 y (by omega) hm
      simp -dsimp only [go_sem, ↓reduceIte, reduceCtorEq, Nat.reduceEqDiff, Nat.reduceAdd, Nat.reduceLeDiff, Nat.reduceMul, Int.reduceBEq, Int.reduceBNe, Int.reduceLT, Int.reduceLE, Int.reduceGT, Int.reduceGE, r1.cell, r2.cell]
      refine Chk_intro (by omega) (t.idx hlt fun b5 o5 c5 => ?_)
      simp -dsimp only [go_sem, ↓reduceIte, reduceCtorEq, Nat.reduceEqDiff, Nat.reduceAdd, Nat.reduceLeDiff, Nat.reduceMul, Int.reduceBEq, Int.reduceBNe, Int.reduceLT, Int.reduceLE, Int.reduceGT, Int.reduceGE, c5, r1.cell, r2.cell]
      refine Chk_intro (by omega) ?_
      simp -dsimp only [go_sem, ↓reduceIte, reduceCtorEq, Nat.reduceEqDiff, Nat.reduceAdd, Nat.reduceLeDiff, Nat.reduceMul, Int.reduceBEq, Int.reduceBNe, Int.reduceLT, Int.reduceLE, Int.reduceGT, Int.reduceGE, t.cell hlt hlt2, r1.cell, r2.cell]
      cases hm : M a b with
      | false =>
        simp -dsimp only [go_sem, ↓reduceIte, reduceCtorEq, Nat.reduceEqDiff, Nat.reduceAdd, Nat.reduceLeDiff, Nat.reduceMul, Int.reduceBEq, Int.reduceBNe, Int.reduceLT, Int.reduceLE, Int.reduceGT, Int.reduceGE, r1.cell, r2.cell]
        simp -dsimp (disch := omega) only [wrap64]
        exact ⟨b + 1, by omega, by simp [Le, find], by omega, f4, go (by simp [hm])⟩
      | true =>
        simp -dsimp only [go_sem, ↓reduceIte, reduceCtorEq, Nat.reduceEqDiff, Nat.reduceAdd, Nat.reduceLeDiff, Nat.reduceMul, Int.reduceBEq, Int.reduceBNe, Int.reduceLT, Int.reduceLE, Int.reduceGT, Int.reduceGE, r1.cell, r2.cell]
        refine call_of (ref1_Has (hs0.fr p0 (by omega)) a b) ?_
        rintro v h5 ⟨f5, rfl⟩
        by_cases hN : a < m ∧ b < m ∧ N a b = true
        · have e : (inR m (a : Int) && inR m (b : Int) && N ((a : Int).toNat) ((b : Int).toNat)) = true := by simp [inR, hN]
          rw [e]
          simp -dsimp only [go_sem, ↓reduceIte, reduceCtorEq, Nat.reduceEqDiff, Nat.reduceAdd, Nat.reduceLeDiff, Nat.reduceMul, Int.reduceBEq, Int.reduceBNe, Int.reduceLT, Int.reduceLE, Int.reduceGT, Int.reduceGE, r1.cell, r2.cell]
          simp -dsimp (disch := omega) only [wrap64]
          exact ⟨b + 1, by omega, by simp [Le, find], by omega, f4.trans f5, go fun _ => hN⟩
        · have e : (inR m (a : Int) && inR m (b : Int) && N ((a : Int).toNat) ((b : Int).toNat)) = false := by
            rw [Bool.eq_false_iff]; intro h; apply hN; simp [inR] at h; exact ⟨h.1.1, h.1.2, h.2⟩
          rw [e]
          simp -dsimp only [go_sem, ↓reduceIte, reduceCtorEq, Nat.reduceEqDiff, Nat.reduceAdd, Nat.reduceLeDiff, Nat.reduceMul, Int.reduceBEq, Int.reduceBNe, Int.reduceLT, Int.reduceLE, Int.reduceGT, Int.reduceGE, r1.cell, r2.cell]
          exact ⟨p0.trans f5, by rw [decide_eq_false]; exact fun h => hN (h a hlt b hlt2 hm)⟩
    · have hbn : b = n := by omega
      subst hbn
      simp -dsimp only [go_sem, ↓reduceIte, reduceCtorEq, Nat.reduceEqDiff, Nat.reduceAdd, Nat.reduceLeDiff, Nat.reduceMul, Int.reduceBEq, Int.reduceBNe, Int.reduceLT, Int.reduceLE, Int.reduceGT, Int.reduceGE, r1.cell, r2.cell]
      simp -dsimp (disch := omega) only [wrap64]
      refine ⟨a + 1, by omega, by simp [Le, find], by omega, f3.trans f4, fun x hx y hy hm => ?_⟩
      by_cases hxa : x = a
      · subst hxa; exact hin2 y hy hm
      · exact hin x (by omega) y hy hm
  · have han : a = n := by omega
    subst han
    simp -dsimp only [go_sem, ↓reduceIte, reduceCtorEq, Nat.reduceEqDiff, Nat.reduceAdd, Nat.reduceLeDiff, Nat.reduceMul, Int.reduceBEq, Int.reduceBNe, Int.reduceLT, Int.reduceLE, Int.reduceGT, Int.reduceGE, r1.cell, r2.cell]
    exact ⟨p0, by rw [decide_eq_true (p := WithinP a M m N) hin]⟩
theorem ref1_Equal {n m : Nat} {M N : Nat → Nat → Bool} {rv sv : Value} {lo hi lo' hi' : Nat} {h : Heap} (hr : RefAt h lo hi rv n M) (hs : RefAt h lo' hi' sv m N) :
    Con Tryd.prog 101 #[rv, sv] h fun v h' => Fr 0 0 h h' ∧ v = .bool (decide (n = m ∧ WithinP n M m N ∧ WithinP m N n M)) := by
  refine con_ref1_Equal ?_
  have hr0 := hr; have hs0 := hs
  obtain ⟨hn, s, R, rfl, t⟩ := hr
  obtain ⟨sa, sc, rfl⟩ := t.own.is
  obtain ⟨hm, s', R', rfl, t'⟩ := hs
  obtain ⟨sa', sc', rfl⟩ := t'.own.is
  have p0 : Fr 0 0 h h := .refl _ _ _
  simp -dsimp only [go_sem, ↓reduceIte, reduceCtorEq, Nat.reduceEqDiff, Nat.reduceAdd, Nat.reduceLeDiff, Nat.reduceMul, Int.reduceBEq, Int.reduceBNe, Int.reduceLT, Int.reduceLE, Int.reduceGT, Int.reduceGE]
  intro b1 h1 n1
  have n1_a := n1.at_
  have n1_z := n1.size
  replace p0 := p0.fresh (n1.fr (lo := 0) (hi := 0)) (by omega)
  have r1 := n1.row
  simp -dsimp only [go_sem, ↓reduceIte, reduceCtorEq, Nat.reduceEqDiff, Nat.reduceAdd, Nat.reduceLeDiff, Nat.reduceMul, Int.reduceBEq, Int.reduceBNe, Int.reduceLT, Int.reduceLE, Int.reduceGT, Int.reduceGE, r1.cell]
  intro b2 h2 n2
  have n2_a := n2.at_
  have n2_z := n2.size
  replace p0 := p0.fresh (n2.fr (lo := 0) (hi := 0)) (by omega)
  replace r1 := r1.fr (n2.fr (lo := 0) (hi := 0)) (by omega)
  have r2 := n2.row
  simp -dsimp only [go_sem, ↓reduceIte, reduceCtorEq, Nat.reduceEqDiff, Nat.reduceAdd, Nat.reduceLeDiff, Nat.reduceMul, Int.reduceBEq, Int.reduceBNe, Int.reduceLT, Int.reduceLE, Int.reduceGT, Int.reduceGE, r1.cell, r2.cell]
  by_cases hnm : n = m
  · subst hnm
    simp -dsimp only [go_sem, ↓reduceIte, reduceCtorEq, Nat.reduceEqDiff, Nat.reduceAdd, Nat.reduceLeDiff, Nat.reduceMul, Int.reduceBEq, Int.reduceBNe, Int.reduceLT, Int.reduceLE, Int.reduceGT, Int.reduceGE, beq_self_eq_true, r1.cell, r2.cell]
    refine call_of (ref1_Within (hr0.fr p0 (by omega)) (hs0.fr p0 (by omega))) ?_
    rintro v h3 ⟨f3, rfl⟩
    have f3_z := f3.size
    replace p0 := p0.fresh f3 (by omega)
    replace r1 := r1.fr f3 (by omega)
    replace r2 := r2.fr f3 (by omega)
    by_cases h1 : WithinP n M n N
    · rw [decide_eq_true h1]
      simp -dsimp only [go_sem, ↓reduceIte, reduceCtorEq, Nat.reduceEqDiff, Nat.reduceAdd, Nat.reduceLeDiff, Nat.reduceMul, Int.reduceBEq, Int.reduceBNe, Int.reduceLT, Int.reduceLE, Int.reduceGT, Int.reduceGE, beq_self_eq_true, r1.cell, r2.cell]
      refine call_of (ref1_Within (hs0.fr p0 (by omega)) (hr0.fr p0 (by omega))) ?_
      rintro v h4 ⟨f4, rfl⟩
      have f4_z := f4.size
      replace p0 := p0.fresh f4 (by omega)
      replace r1 := r1.fr f4 (by omega)
      replace r2 := r2.fr f4 (by omega)
      simp -dsimp only [go_sem, ↓reduceIte, reduceCtorEq, Nat.reduceEqDiff, Nat.reduceAdd, Nat.reduceLeDiff, Nat.reduceMul, Int.reduceBEq, Int.reduceBNe, Int.reduceLT, Int.reduceLE, Int.reduceGT, Int.reduceGE, r1.cell, r2.cell]
      exact ⟨p0, by simp [h1]⟩
    · rw [decide_eq_false h1]
      simp -dsimp only [go_sem, ↓reduceIte, reduceCtorEq, Nat.reduceEqDiff, Nat.reduceAdd, Nat.reduceLeDiff, Nat.reduceMul, Int.reduceBEq, Int.reduceBNe, Int.reduceLT, Int.reduceLE, Int.reduceGT, Int.reduceGE, beq_self_eq_true, r1.cell, r2.cell]
      exact ⟨p0, by simp [h1]⟩
  · have e : ((n : Int) == (m : Int)) = false := by simp; omega
    simp -dsimp only [go_sem, ↓reduceIte, reduceCtorEq, Nat.reduceEqDiff, Nat.reduceAdd, Nat.reduceLeDiff, Nat.reduceMul, Int.reduceBEq, Int.reduceBNe, Int.reduceLT, Int.reduceLE, Int.reduceGT, Int.reduceGE, e, r1.cell, r2.cell]
    exact ⟨p0, by simp [hnm]⟩
theorem ref1_Image {n : Nat} {M : Nat → Nat → Bool} {rv sv : Value} {l : List Bool} {lo hi : Nat} {h : Heap} (hr : RefAt h lo hi rv n M) (hs : Rd 1 h sv l.length (boolsV l)) :
    Con Tryd.prog 99 #[rv, sv] h fun v h' => Fr 0 0 h h' ∧ Holder 1 h' v n (brow n (imgB n M l)) h.size := by
  refine con_ref1_Image ?_
  obtain ⟨hn, s, R, rfl, t⟩ := hr
  obtain ⟨sa, sc, rfl⟩ := t.own.is
  obtain ⟨la, lc, rfl⟩ := hs.is
  have p0 : Fr 0 0 h h := .refl _ _ _
  simp -dsimp only [go_sem, ↓reduceIte, reduceCtorEq, Nat.reduceEqDiff, Nat.reduceAdd, Nat.reduceLeDiff, Nat.reduceMul, Int.reduceBEq, Int.reduceBNe, Int.reduceLT, Int.reduceLE, Int.reduceGT, Int.reduceGE]
  intro b1 h1 n1
  have n1_a := n1.at_
  have n1_z := n1.size
  replace p0 := p0.fresh (n1.fr (lo := 0) (hi := 0)) (by omega)
  have r1 := n1.row
  simp -dsimp only [go_sem, ↓reduceIte, reduceCtorEq, Nat.reduceEqDiff, Nat.reduceAdd, Nat.reduceLeDiff, Nat.reduceMul, Int.reduceBEq, Int.reduceBNe, Int.reduceLT, Int.reduceLE, Int.reduceGT, Int.reduceGE, r1.cell]
  refine Chk_intro (by omega) ?_
  intro b2 h2 n2
  have n2_a := n2.at_
  have n2_z := n2.size
  replace p0 := p0.fresh (n2.fr (lo := 0) (hi := 0)) (by omega)
  replace r1 := r1.fr (n2.fr (lo := 0) (hi := 0)) (by omega)
  have r2 := n2.row
  rw [zeros_one, Int.toNat_natCast, brow_false] at r2
  simp -dsimp only [go_sem, ↓reduceIte, reduceCtorEq, Nat.reduceEqDiff, Nat.reduceAdd, Nat.reduceLeDiff, Nat.reduceMul, Int.reduceBEq, Int.reduceBNe, Int.reduceLT, Int.reduceLE, Int.reduceGT, Int.reduceGE, r1.cell, r2.cell]
  refine loop_intro (fun i : Nat => [(1, .slice la l.length lc), (2, .pointer (some ⟨b1, 0, none⟩)), (5, .slice (some ⟨b2, 0, none⟩) n n), (6, .int .i64 i)])
    (fun i h' => i ≤ n ∧ Fr 0 0 h h' ∧ h2.size ≤ h'.size ∧ Rw h' b1 [.int .i64 n, .slice sa n sc] ∧ Rw h' b2 (brow n fun j => (List.range i).any fun x => atB l x && M x j)) (fun i => n - i) 0 ?_ ?_ ?_
  · simp [Le, find]
  · exact ⟨by omega, p0, by omega, r1, by simpa using r2⟩
  have k2 : h.size ≤ b1 ∧ b1 < b2 ∧ b2 < h2.size := by omega
  rintro i h3 ⟨hi, p0, y3, r1, r2⟩
  have p0_z := p0.size
  have r1_l := r1.lt
  have r2_l := r2.lt
  simp -dsimp only [go_sem, ↓reduceIte, reduceCtorEq, Nat.reduceEqDiff, Nat.reduceAdd, Nat.reduceLeDiff, Nat.reduceMul, Int.reduceBEq, Int.reduceBNe, Int.reduceLT, Int.reduceLE, Int.reduceGT, Int.reduceGE, r1.cell, r2.cell]
  refine ⟨fun hlt => ?_, fun hge => ?_⟩
  · have hlt : i < n := by omega
    simp -dsimp only [go_sem, ↓reduceIte, reduceCtorEq, Nat.reduceEqDiff, Nat.reduceAdd, Nat.reduceLeDiff, Nat.reduceMul, Int.reduceBEq, Int.reduceBNe, Int.reduceLT, Int.reduceLE, Int.reduceGT, Int.reduceGE, r1.cell, r2.cell]
    refine loop_intro (fun q : Nat => [(1, .slice la l.length lc), (2, .pointer (some ⟨b1, 0, none⟩)), (5, .slice (some ⟨b2, 0, none⟩) n n), (6, .int .i64 i), (7, .int .i64 q)])
      (fun q h' => q ≤ n ∧ Fr 0 0 h h' ∧ h2.size ≤ h'.size ∧ Rw h' b1 [.int .i64 n, .slice sa n sc] ∧ Rw h' b2 (brow n fun j => ((List.range i).any fun x => atB l x && M x j) || (decide (j < q) && (atB l i && M i j)))) (fun q => n - q) 0 ?_ ?_ ?_
    · simp [Le, find]
    · exact ⟨by omega, p0, by omega, r1, by simpa using r2⟩
    rintro q h4 ⟨hq, p0, y4, r1, r2⟩
    have p0_z := p0.size
    have r1_l := r1.lt
    have r2_l := r2.lt
    simp -dsimp only [go_sem, ↓reduceIte, reduceCtorEq, Nat.reduceEqDiff, Nat.reduceAdd, Nat.reduceLeDiff, Nat.reduceMul, Int.reduceBEq, Int.reduceBNe, Int.reduceLT, Int.reduceLE, Int.reduceGT, Int.reduceGE, r1.cell, r2.cell]
    refine call_of (ref1_At (hs.fr p0) i) ?_
    rintro v h5 ⟨hh, rfl⟩
    obtain rfl : h4 = h5 := hh.symm
    have next : ∀ h', Rw h' b2 (brow n fun j => ((List.range i).any fun x => atB l x && M x j) || (atB l i && M i j)) → Rw h' b2 (brow n fun j => (List.range (i + 1)).any fun x => atB l x && M x j) := fun h' r => by
      rw [brow_congr fun j hj => ?_]; exact r
      rw [List.range_succ, List.any_append]; simp
    cases hA : atB l i with
    | false =>
      simp -dsimp only [go_sem, ↓reduceIte, reduceCtorEq, Nat.reduceEqDiff, Nat.reduceAdd, Nat.reduceLeDiff, Nat.reduceMul, Int.reduceBEq, Int.reduceBNe, Int.reduceLT, Int.reduceLE, Int.reduceGT, Int.reduceGE, r1.cell, r2.cell]
      simp -dsimp (disch := omega) only [wrap64]
      exact ⟨i + 1, by omega, by simp [Le, find], by omega, p0, by omega, r1, next _ (by simpa [hA] using r2)⟩
    | true =>
      rw [hA] at r2
      simp -dsimp only [go_sem, ↓reduceIte, reduceCtorEq, Nat.reduceEqDiff, Nat.reduceAdd, Nat.reduceLeDiff, Nat.reduceMul, Int.reduceBEq, Int.reduceBNe, Int.reduceLT, Int.reduceLE, Int.reduceGT, Int.reduceGE, r1.cell, r2.cell]
      refine ⟨fun hlt2 => ?_, fun hge2 => ?_⟩
      · have hlt2 : q < n := by omega
        have t := t.fr p0 (by omega)
        simp -dsimp only [go_sem, ↓reduceIte, reduceCtorEq, Nat.reduceEqDiff, Nat.reduceAdd, Nat.reduceLeDiff, Nat.reduceMul, Int.reduceBEq, Int.reduceBNe, Int.reduceLT, Int.reduceLE, Int.reduceGT, Int.reduceGE, r1.cell, r2.cell]
        refine Chk_intro (by omega) ?_
        simp -dsimp only [go_sem, ↓reduceIte, reduceCtorEq, Nat.reduceEqDiff, Nat.reduceAdd, Nat.reduceLeDiff, Nat.reduceMul, Int.reduceBEq, Int.reduceBNe, Int.reduceLT, Int.reduceLE, Int.reduceGT, Int.reduceGE, brow_get hlt2, r1.cell, r2.cell]
        have upto : ∀ b : Bool, (((List.range i).any fun x => atB l x && M x q) || M i q) = b → ∀ h' , Rw h' b2 (brow n (upd (fun j => ((List.range i).any fun x => atB l x && M x j) || (decide (j < q) && (true && M i j))) q b)) → Rw h' b2 (brow n fun j => ((List.range i).any fun x => atB l x && M x j) || (decide (j < q + 1) && (true && M i j))) := fun b hb h' r => by
          rw [brow_congr fun j hj => ?_]; exact r
          by_cases hjq : j = q
          · subst hjq
            rw [upd_same, ← hb]; simp [hA]
          · rw [upd_ne _ _ hjq]
            have : (j < q + 1) = (j < q) := by simp; omega
            simp only [this]
        cases hB : ((List.range i).any fun x => atB l x && M x q) with
        | true =>
          simp -dsimp only [go_sem, ↓reduceIte, reduceCtorEq, Nat.reduceEqDiff, Nat.reduceAdd, Nat.reduceLeDiff, Nat.reduceMul, Int.reduceBEq, Int.reduceBNe, Int.reduceLT, Int.reduceLE, Int.reduceGT, Int.reduceGE, hB, Nat.lt_irrefl, decide_false, Bool.false_and, Bool.or_false, r1.cell, r2.cell]
          refine Chk_intro (by omega) ?_
          simp -dsimp only [go_sem, ↓reduceIte, reduceCtorEq, Nat.reduceEqDiff, Nat.reduceAdd, Nat.reduceLeDiff, Nat.reduceMul, Int.reduceBEq, Int.reduceBNe, Int.reduceLT, Int.reduceLE, Int.reduceGT, Int.reduceGE, hB, Nat.lt_irrefl, decide_false, Bool.false_and, Bool.or_false, r1.cell, r2.cell]
          refine Chk_intro (r2.wr (by first | (simp; done) | (simp; omega))) fun h6 s6 => ?_
          have s6_z := s6.size
          replace p0 := p0.fresh s6.fr (by omega)
          replace r1 := r1.fr s6.fr (by omega)
          replace r2 := s6.row r2
          try simp only [cl_int, cl_bool, cl_slice, cl_ptr, putAt_one, List.set_cons_zero, List.set_cons_succ, ivec_set, brow_upd] at r2
          simp -dsimp only [go_sem, ↓reduceIte, reduceCtorEq, Nat.reduceEqDiff, Nat.reduceAdd, Nat.reduceLeDiff, Nat.reduceMul, Int.reduceBEq, Int.reduceBNe, Int.reduceLT, Int.reduceLE, Int.reduceGT, Int.reduceGE, r1.cell, r2.cell]
          simp -dsimp (disch := omega) only [wrap64]
          exact ⟨q + 1, by omega, by simp [Le, find], by omega, p0, by omega, r1, upto true (by simp [hB]) _ r2⟩
        | false =>
          simp -dsimp only [go_sem, ↓reduceIte, reduceCtorEq, Nat.reduceEqDiff, Nat.reduceAdd, Nat.reduceLeDiff, Nat.reduceMul, Int.reduceBEq, Int.reduceBNe, Int.reduceLT, Int.reduceLE, Int.reduceGT, Int.reduceGE, hB, Nat.lt_irrefl, decide_false, Bool.false_and, Bool.or_false, r1.cell, r2.cell]
          refine Chk_intro (by omega) (t.idx hlt fun b5 o5 c5 => ?_)
          simp -dsimp only [go_sem, ↓reduceIte, reduceCtorEq, Nat.reduceEqDiff, Nat.reduceAdd, Nat.reduceLeDiff, Nat.reduceMul, Int.reduceBEq, Int.reduceBNe, Int.reduceLT, Int.reduceLE, Int.reduceGT, Int.reduceGE, hB, c5, Nat.lt_irrefl, decide_false, Bool.false_and, Bool.or_false, r1.cell, r2.cell]
          refine Chk_intro (by omega) ?_
          simp -dsimp only [go_sem, ↓reduceIte, reduceCtorEq, Nat.reduceEqDiff, Nat.reduceAdd, Nat.reduceLeDiff, Nat.reduceMul, Int.reduceBEq, Int.reduceBNe, Int.reduceLT, Int.reduceLE, Int.reduceGT, Int.reduceGE, hB, t.cell hlt hlt2, Nat.lt_irrefl, decide_false, Bool.false_and, Bool.or_false, r1.cell, r2.cell]
          refine Chk_intro (by omega) ?_
          simp -dsimp only [go_sem, ↓reduceIte, reduceCtorEq, Nat.reduceEqDiff, Nat.reduceAdd, Nat.reduceLeDiff, Nat.reduceMul, Int.reduceBEq, Int.reduceBNe, Int.reduceLT, Int.reduceLE, Int.reduceGT, Int.reduceGE, hB, t.cell hlt hlt2, Nat.lt_irrefl, decide_false, Bool.false_and, Bool.or_false, r1.cell, r2.cell]
          refine Chk_intro (r2.wr (by first | (simp; done) | (simp; omega))) fun h6 s6 => ?_
          have s6_z := s6.size
          replace p0 := p0.fresh s6.fr (by omega)
          replace r1 := r1.fr s6.fr (by omega)
          replace r2 := s6.row r2
          try simp only [cl_int, cl_bool, cl_slice, cl_ptr, putAt_one, List.set_cons_zero, List.set_cons_succ, ivec_set, brow_upd] at r2
          simp -dsimp only [go_sem, ↓reduceIte, reduceCtorEq, Nat.reduceEqDiff, Nat.reduceAdd, Nat.reduceLeDiff, Nat.reduceMul, Int.reduceBEq, Int.reduceBNe, Int.reduceLT, Int.reduceLE, Int.reduceGT, Int.reduceGE, r1.cell, r2.cell]
          simp -dsimp (disch := omega) only [wrap64]
          exact ⟨q + 1, by omega, by simp [Le, find], by omega, p0, by omega, r1, upto (M i q) (by simp [hB]) _ r2⟩
      · have hqn : q = n := by omega
        subst hqn
        simp -dsimp only [go_sem, ↓reduceIte, reduceCtorEq, Nat.reduceEqDiff, Nat.reduceAdd, Nat.reduceLeDiff, Nat.reduceMul, Int.reduceBEq, Int.reduceBNe, Int.reduceLT, Int.reduceLE, Int.reduceGT, Int.reduceGE, r1.cell, r2.cell]
        simp -dsimp (disch := omega) only [wrap64]
        refine ⟨i + 1, by omega, by simp [Le, find], by omega, p0, by omega, r1, next _ ?_⟩
        rw [brow_congr fun j hj => ?_]; exact r2
        simp [hA, hj]
  · have hin : i = n := by omega
    subst hin
    simp -dsimp only [go_sem, ↓reduceIte, reduceCtorEq, Nat.reduceEqDiff, Nat.reduceAdd, Nat.reduceLeDiff, Nat.reduceMul, Int.reduceBEq, Int.reduceBNe, Int.reduceLT, Int.reduceLE, Int.reduceGT, Int.reduceGE, r1.cell, r2.cell]
    refine ⟨p0, ⟨by simp, .inr ⟨b2, i, [], rfl, ?_, by simp, by omega⟩⟩⟩
    rw [List.append_nil]; exact r2
end Go.Proofs.Tst
