/-
  Contracts of functions that the law reaches: what each returns and what it leaves in memory. Conditions stand in each.
-/
import Derived.Test.YtgedofjefepebaaDoorT3
set_option linter.all false
set_option maxRecDepth 2000
namespace Go.Proofs.Tst
open Go Go.Vc
theorem rel_Copy {n : Nat} {M : Nat → Nat → Bool} {p : Value} {lo hi : Nat} {h : Heap} (hr : ProgAt h lo hi p n M) :
    Con Tryd.prog 56 #[p] h fun v h' => Fr 0 0 h h' ∧ ProgAt h' h.size h'.size v n (inN n M) := by
  refine con_rel_Rel_Copy ?_
  simp -dsimp only [go_sem, ↓reduceIte, reduceCtorEq, Nat.reduceEqDiff, Nat.reduceAdd, Nat.reduceLeDiff, Nat.reduceMul, Int.reduceBEq, Int.reduceBNe, Int.reduceLT, Int.reduceLE, Int.reduceGT, Int.reduceGE]
  refine call_of (rel_wide hr 0 (by omega)) ?_
  rintro v h1 ⟨p1, t1⟩
  simp -dsimp only [go_sem, ↓reduceIte, reduceCtorEq, Nat.reduceEqDiff, Nat.reduceAdd, Nat.reduceLeDiff, Nat.reduceMul, Int.reduceBEq, Int.reduceBNe, Int.reduceLT, Int.reduceLE, Int.reduceGT, Int.reduceGE]
  exact ⟨p1, by rwa [Nat.zero_max] at t1⟩
theorem rel_Irreflexive {n : Nat} {M : Nat → Nat → Bool} {p : Value} {lo hi : Nat} {h : Heap} (hr : ProgAt h lo hi p n M) :
    Con Tryd.prog 46 #[p] h fun v h' => h' = h ∧ v = .bool (irrB n M) := by
  refine con_rel_Irreflexive ?_
  obtain ⟨hn, pb, rb, R, W, rfl, t⟩ := hr
  simp -dsimp only [go_sem, ↓reduceIte, reduceCtorEq, Nat.reduceEqDiff, Nat.reduceAdd, Nat.reduceLeDiff, Nat.reduceMul, Int.reduceBEq, Int.reduceBNe, Int.reduceLT, Int.reduceLE, Int.reduceGT, Int.reduceGE, t.ptr.cell]
  refine loop_intro (fun a : Nat => [(8, .slice (some ⟨rb, 0, none⟩) n n), (9, .int .i64 n), (10, .int .i64 a)])
    (fun a h' => h' = h ∧ a ≤ n ∧ ∀ i, i < a → M i i = false) (fun a => n - a) 0 ?_ ?_ ?_
  · simp [Le, find]
  · exact ⟨rfl, by omega, by omega⟩
  rintro a _ ⟨rfl, ha, hinv⟩
  simp -dsimp only [go_sem, ↓reduceIte, reduceCtorEq, Nat.reduceEqDiff, Nat.reduceAdd, Nat.reduceLeDiff, Nat.reduceMul, Int.reduceBEq, Int.reduceBNe, Int.reduceLT, Int.reduceLE, Int.reduceGT, Int.reduceGE]
  refine ⟨fun hlt => ?_, fun hge => ?_⟩
  · have hlt : a < n := by omega
    obtain ⟨g1, g2, g3, g4, g5, g6⟩ := t.row a hlt
    simp -dsimp only [go_sem, ↓reduceIte, reduceCtorEq, Nat.reduceEqDiff, Nat.reduceAdd, Nat.reduceLeDiff, Nat.reduceMul, Int.reduceBEq, Int.reduceBNe, Int.reduceLT, Int.reduceLE, Int.reduceGT, Int.reduceGE]
    refine Chk_intro (by omega) ?_
    simp -dsimp only [go_sem, ↓reduceIte, reduceCtorEq, Nat.reduceEqDiff, Nat.reduceAdd, Nat.reduceLeDiff, Nat.reduceMul, Int.reduceBEq, Int.reduceBNe, Int.reduceLT, Int.reduceLE, Int.reduceGT, Int.reduceGE, t.rowsGet hlt]
    refine call_of (row_has (p := a) (ptab_rd t hlt) (by unfold nw; omega) (g6 _).1 (by omega)) ?_
    rintro v h1 ⟨rfl, rfl⟩
    rw [g6.get hlt]
    cases hm : M a a with
    | true =>
      simp -dsimp only [go_sem, ↓reduceIte, reduceCtorEq, Nat.reduceEqDiff, Nat.reduceAdd, Nat.reduceLeDiff, Nat.reduceMul, Int.reduceBEq, Int.reduceBNe, Int.reduceLT, Int.reduceLE, Int.reduceGT, Int.reduceGE]
      have : irrB n M = false := by
        rw [Bool.eq_false_iff]; intro h'
        have := List.all_eq_true.1 h' a (List.mem_range.2 hlt)
        simp [hm] at this
      rw [this]
    | false =>
      simp -dsimp only [go_sem, ↓reduceIte, reduceCtorEq, Nat.reduceEqDiff, Nat.reduceAdd, Nat.reduceLeDiff, Nat.reduceMul, Int.reduceBEq, Int.reduceBNe, Int.reduceLT, Int.reduceLE, Int.reduceGT, Int.reduceGE]
      simp -dsimp (disch := omega) only [wrap64]
      refine ⟨a + 1, by omega, by simp [Le, find], by omega, fun i hi => ?_⟩
      by_cases hia : i = a
      · subst hia; exact hm
      · exact hinv i (by omega)
  · have : a = n := by omega
    subst this
    simp -dsimp only [go_sem, ↓reduceIte, reduceCtorEq, Nat.reduceEqDiff, Nat.reduceAdd, Nat.reduceLeDiff, Nat.reduceMul, Int.reduceBEq, Int.reduceBNe, Int.reduceLT, Int.reduceLE, Int.reduceGT, Int.reduceGE]
    have : irrB a M = true := List.all_eq_true.2 fun i hi => by rw [hinv i (List.mem_range.1 hi)]; rfl
    rw [this]
theorem rel_Plus {n : Nat} {M : Nat → Nat → Bool} {p : Value} {lo hi : Nat} {h : Heap} (hr : ProgAt h lo hi p n M) :
    Con Tryd.prog 30 #[p] h fun v h' => Fr 0 0 h h' ∧ ProgAt h' h.size h'.size v n (plusM n M) := by
  refine con_rel_Plus ?_
  simp -dsimp only [go_sem, ↓reduceIte, reduceCtorEq, Nat.reduceEqDiff, Nat.reduceAdd, Nat.reduceLeDiff, Nat.reduceMul, Int.reduceBEq, Int.reduceBNe, Int.reduceLT, Int.reduceLE, Int.reduceGT, Int.reduceGE]
  refine call_of (rel_Copy hr) ?_
  rintro v1 h1 ⟨p1, hn, pb1, rb1, R1, W1, rfl, t1⟩
  have at1 := t1.at_
  simp -dsimp only [go_sem, ↓reduceIte, reduceCtorEq, Nat.reduceEqDiff, Nat.reduceAdd, Nat.reduceLeDiff, Nat.reduceMul, Int.reduceBEq, Int.reduceBNe, Int.reduceLT, Int.reduceLE, Int.reduceGT, Int.reduceGE, t1.ptr.cell]
  refine loop_intro (fun k : Nat => [(3, .pointer (some ⟨pb1, 0, none⟩)), (11, .int .i64 n), (12, .int .i64 k)])
    (fun k h' => k ≤ n ∧ Fr 0 0 h h' ∧ h1.size ≤ h'.size ∧ ∃ W, PTab h' h.size h1.size pb1 rb1 n R1 W (warM n M k)) (fun k => n - k) 0 ?_ ?_ ?_
  · simp [Le, find]
  · exact ⟨by omega, p1, by omega, _, t1.congr fun i j hi hj => inN_in hi hj⟩
  rintro k h2 ⟨hk, p0, y2, W2, t2⟩
  simp -dsimp only [go_sem, ↓reduceIte, reduceCtorEq, Nat.reduceEqDiff, Nat.reduceAdd, Nat.reduceLeDiff, Nat.reduceMul, Int.reduceBEq, Int.reduceBNe, Int.reduceLT, Int.reduceLE, Int.reduceGT, Int.reduceGE]
  refine ⟨fun hlt => ?_, fun hge => ?_⟩
  · have hlt : k < n := by omega
    simp -dsimp only [go_sem, ↓reduceIte, reduceCtorEq, Nat.reduceEqDiff, Nat.reduceAdd, Nat.reduceLeDiff, Nat.reduceMul, Int.reduceBEq, Int.reduceBNe, Int.reduceLT, Int.reduceLE, Int.reduceGT, Int.reduceGE, t2.ptr.cell]
    refine loop_intro (fun a : Nat => [(3, .pointer (some ⟨pb1, 0, none⟩)), (4, .int .i64 k), (11, .int .i64 n), (12, .int .i64 k), (18, .int .i64 n), (19, .int .i64 a)])
      (fun a h' => a ≤ n ∧ Fr 0 0 h h' ∧ h1.size ≤ h'.size ∧ ∃ W, PTab h' h.size h1.size pb1 rb1 n R1 W fun i j => if i < a then warM n M (k + 1) i j else warM n M k i j) (fun a => n - a) 0 ?_ ?_ ?_
    · simp [Le, find]
    · exact ⟨by omega, p0, by omega, _, t2.congr fun i j hi hj => by simp⟩
    rintro a h3 ⟨ha, p0, y3, W3, t3⟩
    have p0_z := p0.size
    simp -dsimp only [go_sem, ↓reduceIte, reduceCtorEq, Nat.reduceEqDiff, Nat.reduceAdd, Nat.reduceLeDiff, Nat.reduceMul, Int.reduceBEq, Int.reduceBNe, Int.reduceLT, Int.reduceLE, Int.reduceGT, Int.reduceGE]
    refine ⟨fun hlt2 => ?_, fun hge2 => ?_⟩
    · have hlt2 : a < n := by omega
      obtain ⟨g1, g2, g3, g4, g5, g6⟩ := t3.row a hlt2
      obtain ⟨f1, f2, f3, f4, f5, f6⟩ := t3.row k hlt
      simp -dsimp only [go_sem, ↓reduceIte, reduceCtorEq, Nat.reduceEqDiff, Nat.reduceAdd, Nat.reduceLeDiff, Nat.reduceMul, Int.reduceBEq, Int.reduceBNe, Int.reduceLT, Int.reduceLE, Int.reduceGT, Int.reduceGE, t3.ptr.cell]
      refine Chk_intro (by omega) ?_
      simp -dsimp only [go_sem, ↓reduceIte, reduceCtorEq, Nat.reduceEqDiff, Nat.reduceAdd, Nat.reduceLeDiff, Nat.reduceMul, Int.reduceBEq, Int.reduceBNe, Int.reduceLT, Int.reduceLE, Int.reduceGT, Int.reduceGE, t3.rowsGet hlt2]
      refine call_of (row_has (p := k) (ptab_rd t3 hlt2) (by unfold nw; omega) (g6 _).1 (by omega)) ?_
      rintro v h4 ⟨rfl, rfl⟩
      rw [g6.get hlt]
      simp only [Nat.lt_irrefl, if_false]
      cases hm : warM n M k a k with
      | true =>
        simp -dsimp only [go_sem, ↓reduceIte, reduceCtorEq, Nat.reduceEqDiff, Nat.reduceAdd, Nat.reduceLeDiff, Nat.reduceMul, Int.reduceBEq, Int.reduceBNe, Int.reduceLT, Int.reduceLE, Int.reduceGT, Int.reduceGE, t3.ptr.cell]
        refine Chk_intro (by omega) ?_
        simp -dsimp only [go_sem, ↓reduceIte, reduceCtorEq, Nat.reduceEqDiff, Nat.reduceAdd, Nat.reduceLeDiff, Nat.reduceMul, Int.reduceBEq, Int.reduceBNe, Int.reduceLT, Int.reduceLE, Int.reduceGT, Int.reduceGE, t3.rowsGet hlt2, t3.ptr.cell]
        refine Chk_intro (by omega) ?_
        simp -dsimp only [go_sem, ↓reduceIte, reduceCtorEq, Nat.reduceEqDiff, Nat.reduceAdd, Nat.reduceLeDiff, Nat.reduceMul, Int.reduceBEq, Int.reduceBNe, Int.reduceLT, Int.reduceLE, Int.reduceGT, Int.reduceGE, t3.rowsGet hlt]
        intro b5 h5 n5
        have n5_a := n5.at_
        have n5_z := n5.size
        replace p0 := p0.fresh (n5.fr (lo := 0) (hi := 0)) (by omega)
        replace t3 := t3.fr (n5.fr (lo := 0) (hi := 0)) (by omega)
        have r5 := n5.row
        obtain ⟨g1, g2, g3, g4, g5, g6⟩ := t3.row a hlt2
        obtain ⟨f1, f2, f3, f4, f5, f6⟩ := t3.row k hlt
        simp -dsimp only [go_sem, ↓reduceIte, reduceCtorEq, Nat.reduceEqDiff, Nat.reduceAdd, Nat.reduceLeDiff, Nat.reduceMul, Int.reduceBEq, Int.reduceBNe, Int.reduceLT, Int.reduceLE, Int.reduceGT, Int.reduceGE, t3.rowsGet hlt, t3.rowsGet hlt2, t3.ptr.cell, r5.cell]
        refine call_of (row_join g1 f1 (r5.rd rfl) (fun j => (g6 j).1) (fun j => (f6 j).1) (by unfold nw; omega) (by unfold nw; omega)) ?_
        rintro _ h6 ⟨q6, z6, r6⟩
        have t6 := t3.updRow hlt2 q6 r6 (g6.or f6 (by omega))
        have q6_z := q6.size
        replace p0 := p0.fresh q6 (by omega)
        simp -dsimp only [go_sem, ↓reduceIte, reduceCtorEq, Nat.reduceEqDiff, Nat.reduceAdd, Nat.reduceLeDiff, Nat.reduceMul, Int.reduceBEq, Int.reduceBNe, Int.reduceLT, Int.reduceLE, Int.reduceGT, Int.reduceGE, t6.ptr.cell, t6.rowsGet hlt, t6.rowsGet hlt2]
        simp -dsimp (disch := omega) only [wrap64]
        refine ⟨a + 1, by omega, by simp [Le, find], by omega, p0, by omega, _, t6.congr fun i j hi hj => ?_⟩
        by_cases hia : i = a
        · subst hia
          have e : (if k < i then warM n M (k + 1) k j else warM n M k k j) = warM n M k k j := by split <;> simp [warM_self]
          rw [upd_same, if_pos (Nat.lt_succ_self _)]
          simp only [Nat.lt_irrefl, if_false, e, hj, decide_true, Bool.true_and]
          simp only [warM, hm, Bool.true_and]
        · rw [upd_ne _ _ hia]
          have : (i < a + 1) = (i < a) := by simp; omega
          simp [this]
      | false =>
        simp -dsimp only [go_sem, ↓reduceIte, reduceCtorEq, Nat.reduceEqDiff, Nat.reduceAdd, Nat.reduceLeDiff, Nat.reduceMul, Int.reduceBEq, Int.reduceBNe, Int.reduceLT, Int.reduceLE, Int.reduceGT, Int.reduceGE]
        simp -dsimp (disch := omega) only [wrap64]
        refine ⟨a + 1, by omega, by simp [Le, find], by omega, p0, by omega, _, t3.congr fun i j hi hj => ?_⟩
        by_cases hia : i = a
        · subst hia
          simp [warM, hm]
        · have : (i < a + 1) = (i < a) := by simp; omega
          simp [this]
    · have : a = n := by omega
      subst this
      simp -dsimp only [go_sem, ↓reduceIte, reduceCtorEq, Nat.reduceEqDiff, Nat.reduceAdd, Nat.reduceLeDiff, Nat.reduceMul, Int.reduceBEq, Int.reduceBNe, Int.reduceLT, Int.reduceLE, Int.reduceGT, Int.reduceGE]
      simp -dsimp (disch := omega) only [wrap64]
      exact ⟨k + 1, by omega, by simp [Le, find], by omega, p0, by omega, _, t3.congr fun i j hi hj => by simp [hi]⟩
  · have : k = n := by omega
    subst this
    simp -dsimp only [go_sem, ↓reduceIte, reduceCtorEq, Nat.reduceEqDiff, Nat.reduceAdd, Nat.reduceLeDiff, Nat.reduceMul, Int.reduceBEq, Int.reduceBNe, Int.reduceLT, Int.reduceLE, Int.reduceGT, Int.reduceGE]
    exact ⟨p0, hn, _, _, _, _, rfl, t2.mono' y2⟩
theorem rel_Acyclic {n : Nat} {M : Nat → Nat → Bool} {p : Value} {lo hi : Nat} {h : Heap} (hr : ProgAt h lo hi p n M) :
    Con Tryd.prog 45 #[p] h fun v h' => Fr 0 0 h h' ∧ v = .bool (irrB n (plusM n M)) := by
  refine con_rel_Acyclic ?_
  simp -dsimp only [go_sem, ↓reduceIte, reduceCtorEq, Nat.reduceEqDiff, Nat.reduceAdd, Nat.reduceLeDiff, Nat.reduceMul, Int.reduceBEq, Int.reduceBNe, Int.reduceLT, Int.reduceLE, Int.reduceGT, Int.reduceGE]
  refine call_of (rel_Plus hr) ?_
  rintro v1 h1 ⟨p1, t1⟩
  simp -dsimp only [go_sem, ↓reduceIte, reduceCtorEq, Nat.reduceEqDiff, Nat.reduceAdd, Nat.reduceLeDiff, Nat.reduceMul, Int.reduceBEq, Int.reduceBNe, Int.reduceLT, Int.reduceLE, Int.reduceGT, Int.reduceGE]
  refine call_of (rel_Irreflexive t1) ?_
  rintro v2 h2 ⟨rfl, rfl⟩
  simp -dsimp only [go_sem, ↓reduceIte, reduceCtorEq, Nat.reduceEqDiff, Nat.reduceAdd, Nat.reduceLeDiff, Nat.reduceMul, Int.reduceBEq, Int.reduceBNe, Int.reduceLT, Int.reduceLE, Int.reduceGT, Int.reduceGE]
  exact p1
theorem rel_Opt {n : Nat} {M : Nat → Nat → Bool} {p : Value} {lo hi : Nat} {h : Heap} (hr : ProgAt h lo hi p n M) :
    Con Tryd.prog 44 #[p] h fun v h' => Fr 0 0 h h' ∧ ProgAt h' h.size h'.size v n (optM M) := by
  refine con_rel_Opt ?_
  simp -dsimp only [go_sem, ↓reduceIte, reduceCtorEq, Nat.reduceEqDiff, Nat.reduceAdd, Nat.reduceLeDiff, Nat.reduceMul, Int.reduceBEq, Int.reduceBNe, Int.reduceLT, Int.reduceLE, Int.reduceGT, Int.reduceGE]
  refine call_of (rel_Copy hr) ?_
  rintro v1 h1 ⟨p1, hn, pb1, rb1, R1, W1, rfl, t1⟩
  have at1 := t1.at_
  simp -dsimp only [go_sem, ↓reduceIte, reduceCtorEq, Nat.reduceEqDiff, Nat.reduceAdd, Nat.reduceLeDiff, Nat.reduceMul, Int.reduceBEq, Int.reduceBNe, Int.reduceLT, Int.reduceLE, Int.reduceGT, Int.reduceGE, t1.ptr.cell]
  refine loop_intro (fun k : Nat => [(3, .pointer (some ⟨pb1, 0, none⟩)), (10, .int .i64 n), (11, .int .i64 k)])
    (fun k h' => k ≤ n ∧ Fr 0 0 h h' ∧ h1.size ≤ h'.size ∧ ∃ W, PTab h' h.size h1.size pb1 rb1 n R1 W fun i j => M i j || (decide (i < k) && i == j)) (fun k => n - k) 0 ?_ ?_ ?_
  · simp [Le, find]
  · exact ⟨by omega, p1, by omega, _, t1.congr fun i j hi hj => by simp [inN_in hi hj]⟩
  rintro a h2 ⟨ha, p0, y2, W2, t3⟩
  have p0_z := p0.size
  simp -dsimp only [go_sem, ↓reduceIte, reduceCtorEq, Nat.reduceEqDiff, Nat.reduceAdd, Nat.reduceLeDiff, Nat.reduceMul, Int.reduceBEq, Int.reduceBNe, Int.reduceLT, Int.reduceLE, Int.reduceGT, Int.reduceGE]
  refine ⟨fun hlt => ?_, fun hge => ?_⟩
  · have hlt : a < n := by omega
    obtain ⟨g1, g2, g3, g4, g5, g6⟩ := t3.row a hlt
    simp -dsimp only [go_sem, ↓reduceIte, reduceCtorEq, Nat.reduceEqDiff, Nat.reduceAdd, Nat.reduceLeDiff, Nat.reduceMul, Int.reduceBEq, Int.reduceBNe, Int.reduceLT, Int.reduceLE, Int.reduceGT, Int.reduceGE, t3.ptr.cell]
    refine Chk_intro (by omega) ?_
    simp -dsimp only [go_sem, ↓reduceIte, reduceCtorEq, Nat.reduceEqDiff, Nat.reduceAdd, Nat.reduceLeDiff, Nat.reduceMul, Int.reduceBEq, Int.reduceBNe, Int.reduceLT, Int.reduceLE, Int.reduceGT, Int.reduceGE, t3.rowsGet hlt]
    refine call_of (row_set (p := a) g1 (by unfold nw; omega) (fun j => (g6 j).1) (by unfold nw; omega)) ?_
    rintro _ h6 ⟨q6, z6, r6⟩
    have t6 := t3.updRow hlt q6 r6 (g6.set hlt)
    have q6_z := q6.size
    replace p0 := p0.fresh q6 (by omega)
    simp -dsimp only [go_sem, ↓reduceIte, reduceCtorEq, Nat.reduceEqDiff, Nat.reduceAdd, Nat.reduceLeDiff, Nat.reduceMul, Int.reduceBEq, Int.reduceBNe, Int.reduceLT, Int.reduceLE, Int.reduceGT, Int.reduceGE]
    simp -dsimp (disch := omega) only [wrap64]
    refine ⟨a + 1, by omega, by simp [Le, find], by omega, p0, by omega, _, t6.congr fun i j hi hj => ?_⟩
    by_cases hia : i = a
    · subst hia
      rw [upd_same]
      by_cases hji : j = i
      · subst hji; simp
      · have : (i == j) = false := by simp; omega
        simp [hji, this]
    · rw [upd_ne _ _ hia]
      have : (i < a + 1) = (i < a) := by simp; omega
      simp [this]
  · have : a = n := by omega
    subst this
    simp -dsimp only [go_sem, ↓reduceIte, reduceCtorEq, Nat.reduceEqDiff, Nat.reduceAdd, Nat.reduceLeDiff, Nat.reduceMul, Int.reduceBEq, Int.reduceBNe, Int.reduceLT, Int.reduceLE, Int.reduceGT, Int.reduceGE]
    exact ⟨p0, hn, _, _, _, _, rfl, (t3.mono' y2).congr fun i j hi _ => by simp [optM, hi]⟩
theorem rel_Star {n : Nat} {M : Nat → Nat → Bool} {p : Value} {lo hi : Nat} {h : Heap} (hr : ProgAt h lo hi p n M) :
    Con Tryd.prog 43 #[p] h fun v h' => Fr 0 0 h h' ∧ ProgAt h' h.size h'.size v n (optM (plusM n M)) := by
  refine con_rel_Star ?_
  simp -dsimp only [go_sem, ↓reduceIte, reduceCtorEq, Nat.reduceEqDiff, Nat.reduceAdd, Nat.reduceLeDiff, Nat.reduceMul, Int.reduceBEq, Int.reduceBNe, Int.reduceLT, Int.reduceLE, Int.reduceGT, Int.reduceGE]
  refine call_of (rel_Plus hr) ?_
  rintro v1 h1 ⟨p1, t1⟩
  have := p1.size
  simp -dsimp only [go_sem, ↓reduceIte, reduceCtorEq, Nat.reduceEqDiff, Nat.reduceAdd, Nat.reduceLeDiff, Nat.reduceMul, Int.reduceBEq, Int.reduceBNe, Int.reduceLT, Int.reduceLE, Int.reduceGT, Int.reduceGE]
  refine call_of (rel_Opt t1) ?_
  rintro v2 h2 ⟨p2, t2⟩
  simp -dsimp only [go_sem, ↓reduceIte, reduceCtorEq, Nat.reduceEqDiff, Nat.reduceAdd, Nat.reduceLeDiff, Nat.reduceMul, Int.reduceBEq, Int.reduceBNe, Int.reduceLT, Int.reduceLE, Int.reduceGT, Int.reduceGE]
  exact ⟨p1.trans p2, t2.mono this (Nat.le_refl _)⟩
end Go.Proofs.Tst
/-
  order.Extensions: the lists are those of extGo, in their order.
-/
namespace Go.Proofs.Tst
open Go Go.Vc
theorem slices_Clone {a : Option Addr} {n c : Nat} {xs : List Value} {h : Heap} (hr : Rd 1 h (.slice a n c) n xs) (hoc : xs.all Value.oneCell' = true) (hb : n ≤ 65536) :
    Con Tryd.prog 80 #[.slice a n c] h fun v h' => Fr 0 0 h h' ∧ Holder 1 h' v n xs h.size := by
  refine con_slices_Clone ?_
  have p0 : Fr 0 0 h h := .refl _ _ _
  have hl := hr.1
  cases a with
  | none =>
    obtain ⟨-, a', c', h1, h2⟩ := hr
    cases h1
    have hn : n = 0 := by rcases h2 with h2 | ⟨b, o, h2, -⟩ <;> simp_all
    subst hn
    obtain rfl : xs = [] := List.eq_nil_of_length_eq_zero (by simpa using hl)
    simp -dsimp only [go_sem, ↓reduceIte, reduceCtorEq, Nat.reduceEqDiff, Nat.reduceAdd, Nat.reduceLeDiff, Nat.reduceMul, Int.reduceBEq, Int.reduceBNe, Int.reduceLT, Int.reduceLE, Int.reduceGT, Int.reduceGE]
    exact ⟨p0, .none _ _ _⟩
  | some a =>
    simp -dsimp only [go_sem, ↓reduceIte, reduceCtorEq, Nat.reduceEqDiff, Nat.reduceAdd, Nat.reduceLeDiff, Nat.reduceMul, Int.reduceBEq, Int.reduceBNe, Int.reduceLT, Int.reduceLE, Int.reduceGT, Int.reduceGE]
    intro b1 h1 n1
    have n1_a := n1.at_
    have n1_z := n1.size
    replace p0 := p0.fresh (n1.fr (lo := 0) (hi := 0)) (by omega)
    have r1 := n1.row
    have o1 : Holder 1 h1 (.slice (some ⟨b1, 0, none⟩) 0 0) 0 [] h.size := ⟨rfl, .inr ⟨b1, 0, [], rfl, r1, rfl, by omega⟩⟩
    simp -dsimp only [go_sem, ↓reduceIte, reduceCtorEq, Nat.reduceEqDiff, Nat.reduceAdd, Nat.reduceLeDiff, Nat.reduceMul, Int.reduceBEq, Int.reduceBNe, Int.reduceLT, Int.reduceLE, Int.reduceGT, Int.reduceGE, r1.cell]
    refine o1.appendRd (hr.fr p0) (by omega) rfl (by omega) hoc (by omega) fun v2 h2 o2 f2 e2 => ?_
    simp -dsimp only [go_sem, ↓reduceIte, reduceCtorEq, Nat.reduceEqDiff, Nat.reduceAdd, Nat.reduceLeDiff, Nat.reduceMul, Int.reduceBEq, Int.reduceBNe, Int.reduceLT, Int.reduceLE, Int.reduceGT, Int.reduceGE, r1.cell]
    rw [Nat.zero_add, List.nil_append] at o2
    exact ⟨p0.fresh f2 (by simp [bl, bh]; omega), o2⟩
def allS (n : Nat) (M : Nat → Nat → Bool) : List (List Nat) := if irrB n (plusM n M) = true then extGo n M n [] else []
def extS (n : Nat) (M : Nat → Nat → Bool) (most : Int) : List (List Nat) := (allS n M).take most.toNat
def extB (n : Nat) (M : Nat → Nat → Bool) (most : Int) : Bool := decide ((allS n M).length ≤ most.toNat)
structure ExI (h h1 h2 : Heap) (c : ChB) (n : Nat) (M : Nat → Nat → Bool) (most : Int) (lv wv : Value) (q : Nat) (way : List Nat) (out : List (List Nat)) (us : List Value) (h' : Heap) : Prop where
  p : Fr 0 0 h h'
  y : h2.size ≤ h'.size
  len : way.length ≤ n
  nd : way.Nodup
  lt : ∀ x ∈ way, x < n
  qn : q ≤ n
  t : Chs h' h1.size h2.size c n M way.contains
  ow : Holder 1 h' wv way.length (natsV way) h2.size
  oL : LL h' lv us (out.map natsV) h2.size
  wl : Off wv lv
  wu : ∀ w ∈ us, Off w wv
  ap : us.Pairwise Off
  rem : out ++ remS n M way q = extGo n M n []
  few : out.length ≤ most.toNat
theorem exI_back {h h1 h2 h6 h7 : Heap} {c : ChB} {n b wc x : Nat} {M : Nat → Nat → Bool} {most : Int} {lv : Value} {w : List Nat} {out : List (List Nat)} {us : List Value} (nd : (w ++ [x]).Nodup) (lt : ∀ y ∈ w ++ [x], y < n) (p : Fr 0 0 h h6) (y : h2.size ≤ h6.size)
    (ow : Holder 1 h6 (.slice (some ⟨b, 0, none⟩) (w.length + 1) wc) (w.length + 1) (natsV (w ++ [x])) h2.size) (oL : LL h6 lv us (out.map natsV) h2.size) (wl : Off (.slice (some ⟨b, 0, none⟩) (w ++ [x]).length wc) lv)
    (wu : ∀ u ∈ us, Off u (.slice (some ⟨b, 0, none⟩) (w ++ [x]).length wc)) (ap : us.Pairwise Off) (rem : out ++ remS n M w (x + 1) = extGo n M n []) (few : out.length ≤ most.toNat)
    (f7 : Fr h1.size h2.size h6 h7) (z7 : h7.size = h6.size) (t7 : Chs h7 h1.size h2.size c n M fun k => if k = x then false else (w ++ [x]).contains k) (h01 : h.size ≤ h1.size) :
    ExI h h1 h2 c n M most lv (.slice (some ⟨b, 0, none⟩) w.length wc) (x + 1) w out us h7 := by
  have hx : x < n := lt x (by simp)
  have hb := ow.at_
  rw [List.nodup_append] at nd
  have hl : w.length ≤ n := nodup_lt nd.1 fun y hy => lt y (by simp [hy])
  refine ⟨p.fresh f7 (by omega), by omega, hl, nd.1, fun y hy => lt y (by simp [hy]), by omega, ?_, ?_, oL.fr f7 (oL.below (Nat.le_refl _)), wl, wu, ap, rem, few⟩
  · have e : (fun k => if k = x then false else (w ++ [x]).contains k) = w.contains := by
      funext k
      by_cases hk : k = x
      · subst hk
        have : k ∉ w := fun hm => nd.2.2 k hm k (by simp) rfl
        simp [this]
      · simp [hk]
    rw [e] at t7; exact t7
  · rw [natsV_append] at ow
    exact ow.pop.fr f7 (by simp only [bl, bh] at *; omega)
theorem oc_nats (l : List Nat) : (natsV l).all Value.oneCell' = true := by simp [natsV, Value.oneCell', List.all_eq_true]
set_option maxHeartbeats 1000000 in
theorem order_Extensions {n : Nat} {M : Nat → Nat → Bool} {pv : Value} {lo hi : Nat} {h : Heap} (hr : ProgAt h lo hi pv n M) (ht : TabAt h) (most : Int) (hm : most ≤ 65536) (hz : 0 < h.size) :
    Con Tryd.prog 33 #[pv, .int .i64 most] h fun v h' => Fr 0 0 h h' ∧ ∃ s us, v = .tuple #[s, .bool (extB n M most)] ∧ LL h' s us ((extS n M most).map natsV) h.size ∧ us.Pairwise Off := by
  refine con_order_Extensions ?_
  have hn := hr.1
  have p0 : Fr 0 0 h h := .refl _ _ _
  simp -dsimp only [go_sem, ↓reduceIte, reduceCtorEq, Nat.reduceEqDiff, Nat.reduceAdd, Nat.reduceLeDiff, Nat.reduceMul, Int.reduceBEq, Int.reduceBNe, Int.reduceLT, Int.reduceLE, Int.reduceGT, Int.reduceGE]
  refine call_of (rel_Acyclic hr) ?_
  rintro v h1 ⟨f1, rfl⟩
  have f1_z := f1.size
  replace p0 := p0.fresh f1 (by omega)
  simp -dsimp only [go_sem, ↓reduceIte, reduceCtorEq, Nat.reduceEqDiff, Nat.reduceAdd, Nat.reduceLeDiff, Nat.reduceMul, Int.reduceBEq, Int.reduceBNe, Int.reduceLT, Int.reduceLE, Int.reduceGT, Int.reduceGE]
  cases hac : irrB n (plusM n M) with
  | false =>
    simp -dsimp only [go_sem, ↓reduceIte, reduceCtorEq, Nat.reduceEqDiff, Nat.reduceAdd, Nat.reduceLeDiff, Nat.reduceMul, Int.reduceBEq, Int.reduceBNe, Int.reduceLT, Int.reduceLE, Int.reduceGT, Int.reduceGE]
    exact ⟨p0, .slice none 0 0, [], by simp [extB, allS, hac], by simp only [extS, allS, hac]; simp; exact .nil, .nil⟩
  | true =>
  have hall : allS n M = extGo n M n [] := by simp [allS, hac]
  simp -dsimp only [go_sem, ↓reduceIte, reduceCtorEq, Nat.reduceEqDiff, Nat.reduceAdd, Nat.reduceLeDiff, Nat.reduceMul, Int.reduceBEq, Int.reduceBNe, Int.reduceLT, Int.reduceLE, Int.reduceGT, Int.reduceGE]
  refine call_of (order_chooser (hr.fr p0 (by omega)) (ht.fr p0 (by omega))) ?_
  rintro v h2 ⟨f2, c, rfl, t2⟩
  have f2_z := f2.size
  replace p0 := p0.fresh f2 (by omega)
  simp -dsimp only [go_sem, ↓reduceIte, reduceCtorEq, Nat.reduceEqDiff, Nat.reduceAdd, Nat.reduceLeDiff, Nat.reduceMul, Int.reduceBEq, Int.reduceBNe, Int.reduceLT, Int.reduceLE, Int.reduceGT, Int.reduceGE]
  refine loop_intro (fun s : Value × Value × Nat × List Nat × List (List Nat) × List Value => [(0, pv), (1, .int .i64 most), (4, s.1), (6, c.next), (7, c.place), (8, s.2.1), (9, .int .i64 s.2.2.1)])
    (fun s h' => ExI h h1 h2 c n M most s.1 s.2.1 s.2.2.1 s.2.2.2.1 s.2.2.2.2.1 s.2.2.2.2.2 h')
    (fun s => (2 * n + 2) ^ (n + 1) - posV n s.2.2.2.1 s.2.2.1) (.slice none 0 0, .slice none 0 0, 0, [], [], []) ?_ ?_ ?_
  · simp [Le, find]
  · exact ⟨p0, Nat.le_refl _, by simp, by simp, by simp, Nat.zero_le _, t2, .none _ _ _, .nil, .inl rfl, by simp, .nil, by rw [List.nil_append, rem_start], by simp⟩
  rintro ⟨lv, wv, q, way, out, us⟩ h3 hI
  dsimp only at hI ⊢
  simp -dsimp only [go_sem, ↓reduceIte, reduceCtorEq, Nat.reduceEqDiff, Nat.reduceAdd, Nat.reduceLeDiff, Nat.reduceMul, Int.reduceBEq, Int.reduceBNe, Int.reduceLT, Int.reduceLE, Int.reduceGT, Int.reduceGE]
  refine loop_intro (fun s : Value × Value × Nat × List Nat × List (List Nat) × List Value => [(0, pv), (1, .int .i64 most), (4, s.1), (6, c.next), (7, c.place), (8, s.2.1), (9, .int .i64 s.2.2.1)])
    (fun s h' => ExI h h1 h2 c n M most s.1 s.2.1 s.2.2.1 s.2.2.2.1 s.2.2.2.2.1 s.2.2.2.2.2 h' ∧ posV n way q ≤ posV n s.2.2.2.1 s.2.2.1)
    (fun s => (2 * n + 2) ^ (n + 1) - posV n s.2.2.2.1 s.2.2.1) (lv, wv, q, way, out, us) ?_ ?_ ?_
  · simp [Le, find]
  · exact ⟨hI, Nat.le_refl _⟩
  clear hI
  rintro ⟨lv, wv, q', way', out, us⟩ h4 ⟨J, hpos⟩
  dsimp only at J hpos ⊢
  have hP := posV_lt J.len J.lt J.qn
  have p4 := J.p
  have ow := J.ow
  have oL := J.oL
  have y4 := J.y
  have hl := J.len
  obtain ⟨wa, wc, rfl⟩ := ow.is
  simp -dsimp only [go_sem, ↓reduceIte, reduceCtorEq, Nat.reduceEqDiff, Nat.reduceAdd, Nat.reduceLeDiff, Nat.reduceMul, Int.reduceBEq, Int.reduceBNe, Int.reduceLT, Int.reduceLE, Int.reduceGT, Int.reduceGE]
  refine call_of (rel_Len (hr.fr p4 (by omega))) ?_
  rintro v h5 ⟨rfl, rfl⟩
  simp -dsimp only [go_sem, ↓reduceIte, reduceCtorEq, Nat.reduceEqDiff, Nat.reduceAdd, Nat.reduceLeDiff, Nat.reduceMul, Int.reduceBEq, Int.reduceBNe, Int.reduceLT, Int.reduceLE, Int.reduceGT, Int.reduceGE]
  refine ⟨fun hlt => ?_, fun hge => ?_⟩
  · have hlt : way'.length < n := by omega
    simp -dsimp only [go_sem, ↓reduceIte, reduceCtorEq, Nat.reduceEqDiff, Nat.reduceAdd, Nat.reduceLeDiff, Nat.reduceMul, Int.reduceBEq, Int.reduceBNe, Int.reduceLT, Int.reduceLE, Int.reduceGT, Int.reduceGE, ChB.next]
    refine call_of (chooser_next (q := q') J.t J.qn) ?_
    rintro v h6 ⟨rfl, rfl⟩
    cases hx : lf (freeB n M way'.contains) n q' with
    | none =>
      have htodo := todo_none (n := n) (M := M) hlt hx
      simp -dsimp only [go_sem, ↓reduceIte, reduceCtorEq, Nat.reduceEqDiff, Nat.reduceAdd, Nat.reduceLeDiff, Nat.reduceMul, Int.reduceBEq, Int.reduceBNe, Int.reduceLT, Int.reduceLE, Int.reduceGT, Int.reduceGE, nx_none]
      refine ⟨fun h0 => ?_, fun h0 => ?_⟩
      · obtain rfl : way' = [] := List.eq_nil_of_length_eq_zero (by simpa using h0)
        have hout : allS n M = out := by rw [hall, ← J.rem, rem_nil, htodo, List.append_nil]
        have hf := J.few
        simp -dsimp only [go_sem, ↓reduceIte, reduceCtorEq, Nat.reduceEqDiff, Nat.reduceAdd, Nat.reduceLeDiff, Nat.reduceMul, Int.reduceBEq, Int.reduceBNe, Int.reduceLT, Int.reduceLE, Int.reduceGT, Int.reduceGE]
        exact ⟨p4, lv, us, by simp [extB, hout, hf], by rw [extS, hout, List.take_of_length_le hf]; exact oL.lower (by omega), J.ap⟩
      · obtain ⟨w, x, rfl⟩ : ∃ w x, way' = w ++ [x] := by
          rcases List.eq_nil_or_concat way' with rfl | ⟨w, x, rfl⟩
          · simp at h0
          · exact ⟨w, x, by rw [List.concat_eq_append]⟩
        have ew : (w ++ [x]).length = w.length + 1 := by simp
        rw [ew] at ow ⊢
        obtain ⟨b, c', rest, hv, hrow, hcap, hb⟩ := ow.blk (by omega)
        cases hv
        have e1 : IntKind.i64.wrap (((w.length + 1 : Nat) : Int) - 1) = (w.length : Int) := by rw [wrap64 (by omega) (by omega)]; omega
        have hxn : x < n := J.lt x (by simp)
        have hc : hcell h6 b w.length = some (.int .i64 x) := by rw [hrow.cell, List.getElem?_append_left (by simp), natsV_get (p := x) (by simp)]
        simp -dsimp only [go_sem, ↓reduceIte, reduceCtorEq, Nat.reduceEqDiff, Nat.reduceAdd, Nat.reduceLeDiff, Nat.reduceMul, Int.reduceBEq, Int.reduceBNe, Int.reduceLT, Int.reduceLE, Int.reduceGT, Int.reduceGE, e1]
        refine Chk_intro (by omega) ?_
        simp -dsimp only [go_sem, ↓reduceIte, reduceCtorEq, Nat.reduceEqDiff, Nat.reduceAdd, Nat.reduceLeDiff, Nat.reduceMul, Int.reduceBEq, Int.reduceBNe, Int.reduceLT, Int.reduceLE, Int.reduceGT, Int.reduceGE, e1, Int.toNat_natCast, hc]
        refine Chk_intro (by omega) ?_
        simp -dsimp only [go_sem, ↓reduceIte, reduceCtorEq, Nat.reduceEqDiff, Nat.reduceAdd, Nat.reduceLeDiff, Nat.reduceMul, Int.reduceBEq, Int.reduceBNe, Int.reduceLT, Int.reduceLE, Int.reduceGT, Int.reduceGE, e1, Int.toNat_natCast]
        refine Chk_intro (by omega) ?_
        simp -dsimp only [go_sem, ↓reduceIte, reduceCtorEq, Nat.reduceEqDiff, Nat.reduceAdd, Nat.reduceLeDiff, Nat.reduceMul, Int.reduceBEq, Int.reduceBNe, Int.reduceLT, Int.reduceLE, Int.reduceGT, Int.reduceGE, ChB.place]
        refine call_of (chooser_place J.t hxn false (by simp)) ?_
        rintro v h7 ⟨f7, z7, t7⟩
        simp -dsimp only [go_sem, ↓reduceIte, reduceCtorEq, Nat.reduceEqDiff, Nat.reduceAdd, Nat.reduceLeDiff, Nat.reduceMul, Int.reduceBEq, Int.reduceBNe, Int.reduceLT, Int.reduceLE, Int.reduceGT, Int.reduceGE]
        simp -dsimp (disch := omega) only [wrap64]
        have hB := posV_back (p := x) (l := w) (q := q') (by omega) J.qn
        generalize (2 * n + 2) ^ (n + 1) = T at *
        refine ⟨(lv, .slice (some ⟨b, 0, none⟩) w.length wc, x + 1, w, out, us), by dsimp only; omega, by simp [Le, find, ChB.next, ChB.place], ?_⟩
        exact exI_back J.nd J.lt p4 y4 ow oL J.wl J.wu J.ap (by rw [← J.rem, rem_back (by omega), htodo]; rfl) J.few f7 z7 t7 (by omega)
    | some x =>
      obtain ⟨hqx, hxn, hfx⟩ := lf_some hx
      have hDx : way'.contains x = false := (freeB_true.1 hfx).1
      have hxw : x ∉ way' := by simpa using hDx
      simp -dsimp only [go_sem, ↓reduceIte, reduceCtorEq, Nat.reduceEqDiff, Nat.reduceAdd, Nat.reduceLeDiff, Nat.reduceMul, Int.reduceBEq, Int.reduceBNe, Int.reduceLT, Int.reduceLE, Int.reduceGT, Int.reduceGE, nx_some]
      simp -dsimp only [go_sem, ↓reduceIte, reduceCtorEq, Nat.reduceEqDiff, Nat.reduceAdd, Nat.reduceLeDiff, Nat.reduceMul, Int.reduceBEq, Int.reduceBNe, Int.reduceLT, Int.reduceLE, Int.reduceGT, Int.reduceGE, ChB.place]
      refine call_of (chooser_place J.t hxn true (by simpa using hDx)) ?_
      rintro v h7 ⟨f7, z7, t7⟩
      simp -dsimp only [go_sem, ↓reduceIte, reduceCtorEq, Nat.reduceEqDiff, Nat.reduceAdd, Nat.reduceLeDiff, Nat.reduceMul, Int.reduceBEq, Int.reduceBNe, Int.reduceLT, Int.reduceLE, Int.reduceGT, Int.reduceGE, nx_some]
      intro b8 h8 n8
      have a8 := n8.at_; have z8 := n8.size
      have w0 := ow.at_
      simp -dsimp only [go_sem, ↓reduceIte, reduceCtorEq, Nat.reduceEqDiff, Nat.reduceAdd, Nat.reduceLeDiff, Nat.reduceMul, Int.reduceBEq, Int.reduceBNe, Int.reduceLT, Int.reduceLE, Int.reduceGT, Int.reduceGE, nx_some, n8.row.cell]
      have o8 := (ow.fr f7 (by omega)).fr (n8.fr (lo := 0) (hi := 0)) (by omega)
      have p8 : Fr 0 0 h h8 := (p4.fresh f7 (by omega)).trans n8.fr
      have oL8 := (oL.fr f7 (oL.below (Nat.le_refl _))).fr (n8.fr (lo := 0) (hi := 0)) (.none (Nat.le_refl _))
      refine o8.append (by omega) rfl (by omega) (by simp) (by omega) fun v9 h9 o9 f9 e9 => ?_
      have y9 := f9.size
      simp -dsimp only [go_sem, ↓reduceIte, reduceCtorEq, Nat.reduceEqDiff, Nat.reduceAdd, Nat.reduceLeDiff, Nat.reduceMul, Int.reduceBEq, Int.reduceBNe, Int.reduceLT, Int.reduceLE, Int.reduceGT, Int.reduceGE]
      have hA := posV_place (p := x) hlt hqx
      have hP2 := posV_lt (n := n) (l := way' ++ [x]) (q := 0) (by simp; omega) (by intro y hy; rcases List.mem_append.1 hy with hy | hy; exact J.lt y hy; simp at hy; omega) (by omega)
      generalize (2 * n + 2) ^ (n + 1) = T at *
      have e : (fun k => if k = x then true else way'.contains k) = (way' ++ [x]).contains := by
        funext k; by_cases hk : k = x <;> simp [hk]
      rw [e] at t7
      have hz2 : 0 < h2.size := by omega
      have way_away : ∀ u, u = lv ∨ u ∈ us → Off u (.slice wa way'.length wc) := fun u hu => by
        rcases hu with rfl | hu
        · exact J.wl.symm
        · exact J.wu u hu
      refine ⟨(lv, v9, 0, way' ++ [x], out, us), by dsimp only; omega, by simp [Le, find, ChB.next, ChB.place], ?_, by dsimp only; omega⟩
      dsimp only
      refine ⟨p8.fresh f9 (by omega), by omega, by simp; omega, ?_, ?_, by omega, ?_, ?_, oL8.fr f9 (fun u hu => (way_away u hu).away), ?_, ?_, J.ap, ?_, J.few⟩
      · rw [List.nodup_append]; exact ⟨J.nd, by simp, fun y hy z hz => by simp at hz; subst hz; rintro rfl; exact hxw hy⟩
      · intro y hy; rcases List.mem_append.1 hy with hy | hy
        · exact J.lt y hy
        · simp at hy; omega
      · exact (t7.fr (n8.fr (lo := 0) (hi := 0)) (by omega)).fr f9 (by omega)
      · rw [natsV_append, List.length_append]; exact o9
      · exact (Off.app (way_away lv (.inl rfl)) (oL8.top lv (.inl rfl)) hz2 o9 e9).symm
      · exact fun u hu => Off.app (way_away u (.inr hu)) (oL8.top u (.inr hu)) hz2 o9 e9
      · rw [← rem_place hlt hx]; exact J.rem
  · have hfull : way'.length = n := by omega
    have htodo := todo_full (M := M) (q := q') hfull
    have elen : (out.map natsV).length = out.length := by simp
    have oLis := oL.own.is
    rw [elen] at oLis
    obtain ⟨la, lc, rfl⟩ := oLis
    simp -dsimp only [go_sem, ↓reduceIte, reduceCtorEq, Nat.reduceEqDiff, Nat.reduceAdd, Nat.reduceLeDiff, Nat.reduceMul, Int.reduceBEq, Int.reduceBNe, Int.reduceLT, Int.reduceLE, Int.reduceGT, Int.reduceGE]
    refine ⟨fun hge2 => ?_, fun hlt2 => ?_⟩
    · have hll : allS n M = out ++ (way' :: later n M way'.reverse) := by rw [hall, ← J.rem, remS, htodo]; rfl
      have hom : out.length = most.toNat := by have := J.few; omega
      simp -dsimp only [go_sem, ↓reduceIte, reduceCtorEq, Nat.reduceEqDiff, Nat.reduceAdd, Nat.reduceLeDiff, Nat.reduceMul, Int.reduceBEq, Int.reduceBNe, Int.reduceLT, Int.reduceLE, Int.reduceGT, Int.reduceGE]
      refine ⟨p4, .slice la out.length lc, us, ?_, ?_, J.ap⟩
      · rw [extB, hll, decide_eq_false (by simp; omega)]
      · rw [extS, hll, ← hom, List.take_left]; exact oL.lower (by omega)
    have hlt2 : out.length < most.toNat := by omega
    simp -dsimp only [go_sem, ↓reduceIte, reduceCtorEq, Nat.reduceEqDiff, Nat.reduceAdd, Nat.reduceLeDiff, Nat.reduceMul, Int.reduceBEq, Int.reduceBNe, Int.reduceLT, Int.reduceLE, Int.reduceGT, Int.reduceGE]
    refine call_of (slices_Clone ow.rd (oc_nats _) (by omega)) ?_
    rintro cv h6 ⟨f6, oc⟩
    obtain ⟨ca, cc, rfl⟩ := oc.is
    have z6 := f6.size
    have oL6 := oL.fr f6 (.none (Nat.le_refl _))
    have ow6 := ow.fr f6 (by omega)
    have t6 := J.t.fr f6 (by omega)
    simp -dsimp only [go_sem, ↓reduceIte, reduceCtorEq, Nat.reduceEqDiff, Nat.reduceAdd, Nat.reduceLeDiff, Nat.reduceMul, Int.reduceBEq, Int.reduceBNe, Int.reduceLT, Int.reduceLE, Int.reduceGT, Int.reduceGE]
    intro b7 h7 n7
    have a7 := n7.at_; have z7 := n7.size
    have oL7 := oL6.fr (n7.fr (lo := 0) (hi := 0)) (.none (Nat.le_refl _))
    have ow7 := ow6.fr (n7.fr (lo := 0) (hi := 0)) (by omega)
    have oc7 := oc.fr (n7.fr (lo := 0) (hi := 0)) (by omega)
    have hz2 : 0 < h2.size := by omega
    have offc : ∀ u, bh u ≤ h5.size → Off (.slice ca way'.length cc) u := fun u hu => by
      have := oc.at_; have := bh_bl u; unfold Off; omega
    simp -dsimp only [go_sem, ↓reduceIte, reduceCtorEq, Nat.reduceEqDiff, Nat.reduceAdd, Nat.reduceLeDiff, Nat.reduceMul, Int.reduceBEq, Int.reduceBNe, Int.reduceLT, Int.reduceLE, Int.reduceGT, Int.reduceGE, n7.row.cell]
    have own7 := oL7.own
    rw [elen] at own7
    refine own7.append (by omega) rfl (by omega) (by simp) (by omega) fun lv2 h8 o8 f8 e8 => ?_
    have y8 := f8.size
    have oL8 := oL7.push (l := natsV way') hz2 (by rw [length_natsV]; exact oc7.lower (by omega)) (offc _ (oL.top _ (.inl rfl))) (by rw [elen]; exact o8) f8 e8
    have ow8 := ow7.fr f8 J.wl.away
    have lw := oL.own.at_
    have t8 := (t6.fr (n7.fr (lo := 0) (hi := 0)) (by omega)).fr f8 (by omega)
    have p8 : Fr 0 0 h h8 := ((p4.trans f6).trans n7.fr).fresh f8 (by omega)
    have ap8 : (us ++ [Value.slice ca way'.length cc]).Pairwise Off := by
      rw [List.pairwise_append]
      exact ⟨J.ap, List.pairwise_singleton .., fun u hu w hw => by simp at hw; subst hw; exact (offc u (oL.top u (.inr hu))).symm⟩
    have wl8 : Off (.slice wa way'.length wc) lv2 := Off.app J.wl ow7.top hz2 o8 e8
    have wu8 : ∀ u ∈ us ++ [Value.slice ca way'.length cc], Off u (.slice wa way'.length wc) := fun u hu => by
      rcases List.mem_append.1 hu with hu | hu
      · exact J.wu u hu
      · simp at hu; subst hu; exact offc _ ow.top
    have few8 : (out ++ [way']).length ≤ most.toNat := by simp; omega
    have oL8' : LL h8 lv2 (us ++ [Value.slice ca way'.length cc]) ((out ++ [way']).map natsV) h2.size := by rw [List.map_append]; exact oL8
    simp -dsimp only [go_sem, ↓reduceIte, reduceCtorEq, Nat.reduceEqDiff, Nat.reduceAdd, Nat.reduceLeDiff, Nat.reduceMul, Int.reduceBEq, Int.reduceBNe, Int.reduceLT, Int.reduceLE, Int.reduceGT, Int.reduceGE]
    refine ⟨fun h0 => ?_, fun h0 => ?_⟩
    · obtain rfl : way' = [] := List.eq_nil_of_length_eq_zero (by simpa using h0)
      have hout : allS n M = out ++ [[]] := by rw [hall, ← J.rem, rem_nil, htodo]
      simp -dsimp only [go_sem, ↓reduceIte, reduceCtorEq, Nat.reduceEqDiff, Nat.reduceAdd, Nat.reduceLeDiff, Nat.reduceMul, Int.reduceBEq, Int.reduceBNe, Int.reduceLT, Int.reduceLE, Int.reduceGT, Int.reduceGE]
      exact ⟨p8, lv2, _, by rw [extB, hout, decide_eq_true few8], by rw [extS, hout, List.take_of_length_le few8]; exact oL8'.lower (by omega), ap8⟩
    · obtain ⟨w, x, rfl⟩ : ∃ w x, way' = w ++ [x] := by
        rcases List.eq_nil_or_concat way' with rfl | ⟨w, x, rfl⟩
        · simp at h0
        · exact ⟨w, x, by rw [List.concat_eq_append]⟩
      have ew : (w ++ [x]).length = w.length + 1 := by simp
      rw [ew] at ow8 ⊢
      obtain ⟨b, c', rest, hv, hrow, hcap, hb⟩ := ow8.blk (by omega)
      cases hv
      have e1 : IntKind.i64.wrap (((w.length + 1 : Nat) : Int) - 1) = (w.length : Int) := by rw [wrap64 (by omega) (by omega)]; omega
      have hxn : x < n := J.lt x (by simp)
      have hc : hcell h8 b w.length = some (.int .i64 x) := by rw [hrow.cell, List.getElem?_append_left (by simp), natsV_get (p := x) (by simp)]
      simp -dsimp only [go_sem, ↓reduceIte, reduceCtorEq, Nat.reduceEqDiff, Nat.reduceAdd, Nat.reduceLeDiff, Nat.reduceMul, Int.reduceBEq, Int.reduceBNe, Int.reduceLT, Int.reduceLE, Int.reduceGT, Int.reduceGE, e1]
      refine Chk_intro (by omega) ?_
      simp -dsimp only [go_sem, ↓reduceIte, reduceCtorEq, Nat.reduceEqDiff, Nat.reduceAdd, Nat.reduceLeDiff, Nat.reduceMul, Int.reduceBEq, Int.reduceBNe, Int.reduceLT, Int.reduceLE, Int.reduceGT, Int.reduceGE, e1, Int.toNat_natCast, hc]
      refine Chk_intro (by omega) ?_
      simp -dsimp only [go_sem, ↓reduceIte, reduceCtorEq, Nat.reduceEqDiff, Nat.reduceAdd, Nat.reduceLeDiff, Nat.reduceMul, Int.reduceBEq, Int.reduceBNe, Int.reduceLT, Int.reduceLE, Int.reduceGT, Int.reduceGE, e1, Int.toNat_natCast]
      refine Chk_intro (by omega) ?_
      simp -dsimp only [go_sem, ↓reduceIte, reduceCtorEq, Nat.reduceEqDiff, Nat.reduceAdd, Nat.reduceLeDiff, Nat.reduceMul, Int.reduceBEq, Int.reduceBNe, Int.reduceLT, Int.reduceLE, Int.reduceGT, Int.reduceGE, ChB.place]
      refine call_of (chooser_place t8 hxn false (by simp)) ?_
      rintro v h9 ⟨f9, z9, t9⟩
      simp -dsimp only [go_sem, ↓reduceIte, reduceCtorEq, Nat.reduceEqDiff, Nat.reduceAdd, Nat.reduceLeDiff, Nat.reduceMul, Int.reduceBEq, Int.reduceBNe, Int.reduceLT, Int.reduceLE, Int.reduceGT, Int.reduceGE]
      simp -dsimp (disch := omega) only [wrap64]
      have hB := posV_back (p := x) (l := w) (q := q') (by omega) J.qn
      generalize (2 * n + 2) ^ (n + 1) = T at *
      refine ⟨(lv2, .slice (some ⟨b, 0, none⟩) w.length wc, x + 1, w, out ++ [w ++ [x]], us ++ [Value.slice ca (w ++ [x]).length cc]), by dsimp only; omega, by simp [Le, find, ChB.next, ChB.place], ?_⟩
      exact exI_back J.nd J.lt p8 (by omega) ow8 oL8' wl8 wu8 ap8 (by rw [← J.rem, rem_back (by omega), htodo]; simp) few8 f9 z9 t9 (by omega)
end Go.Proofs.Tst
/-
  The document's own Extensions.
-/
namespace Go.Proofs.Tst
open Go Go.Vc
set_option maxHeartbeats 1000000 in
theorem ref2_more {n : Nat} {M : Nat → Nat → Bool} {rv : Value} {lo hi : Nat} : ∀ (d : Nat) (l : List Nat) (m : Nat) (dv lv : Value) (h : Heap), RefAt h lo hi rv n M → Rd 1 h dv n (brow n l.contains) → Rd 1 h lv l.length (natsV l) → l.length + d = n → m ≤ 65536 → 0 < h.size →
    Con Tryd.prog 79 #[rv, dv, lv, .int .i64 (m : Int)] h fun v h' => Fr 0 0 h h' ∧ ∃ s us, v = .tuple #[s, .bool (decide ((extGo n M d l).length ≤ m))] ∧ LL h' s us (((extGo n M d l).take m).map natsV) h.size := by
  intro d
  induction d with
  | zero =>
    intro l m dv lv h hr hd hl hld hm hz
    refine con_ref2_more ?_
    obtain ⟨hn, s, R, rfl, t⟩ := hr
    obtain ⟨sa, sc, rfl⟩ := t.own.is
    obtain ⟨da, dc, rfl⟩ := hd.is
    obtain ⟨la, lc, rfl⟩ := hl.is
    have p0 : Fr 0 0 h h := .refl _ _ _
    simp -dsimp only [go_sem, ↓reduceIte, reduceCtorEq, Nat.reduceEqDiff, Nat.reduceAdd, Nat.reduceLeDiff, Nat.reduceMul, Int.reduceBEq, Int.reduceBNe, Int.reduceLT, Int.reduceLE, Int.reduceGT, Int.reduceGE]
    intro b1 h1 n1
    have n1_a := n1.at_
    have n1_z := n1.size
    replace p0 := p0.fresh (n1.fr (lo := 0) (hi := 0)) (by omega)
    have r1 := n1.row
    simp -dsimp only [go_sem, ↓reduceIte, reduceCtorEq, Nat.reduceEqDiff, Nat.reduceAdd, Nat.reduceLeDiff, Nat.reduceMul, Int.reduceBEq, Int.reduceBNe, Int.reduceLT, Int.reduceLE, Int.reduceGT, Int.reduceGE, r1.cell]
    refine ⟨fun _ => ?_, fun hne => absurd (by simp; omega) hne⟩
    simp -dsimp only [go_sem, ↓reduceIte, reduceCtorEq, Nat.reduceEqDiff, Nat.reduceAdd, Nat.reduceLeDiff, Nat.reduceMul, Int.reduceBEq, Int.reduceBNe, Int.reduceLT, Int.reduceLE, Int.reduceGT, Int.reduceGE, r1.cell]
    refine ⟨fun hm1 => ?_, fun hm1 => ?_⟩
    · have : m = 0 := by omega
      subst this
      simp -dsimp only [go_sem, ↓reduceIte, reduceCtorEq, Nat.reduceEqDiff, Nat.reduceAdd, Nat.reduceLeDiff, Nat.reduceMul, Int.reduceBEq, Int.reduceBNe, Int.reduceLT, Int.reduceLE, Int.reduceGT, Int.reduceGE, r1.cell]
      exact ⟨p0, .slice none 0 0, [], by simp [extGo], .nil⟩
    have hm1 : 1 ≤ m := by omega
    simp -dsimp only [go_sem, ↓reduceIte, reduceCtorEq, Nat.reduceEqDiff, Nat.reduceAdd, Nat.reduceLeDiff, Nat.reduceMul, Int.reduceBEq, Int.reduceBNe, Int.reduceLT, Int.reduceLE, Int.reduceGT, Int.reduceGE, r1.cell]
    refine loop_intro (fun s : Nat × Value => [(2, .slice la l.length lc), (10, s.2), (11, .int .i64 s.1)])
      (fun s h' => s.1 ≤ l.length ∧ Fr 0 0 h h' ∧ h1.size ≤ h'.size ∧ Holder 1 h' s.2 s.1 (natsV (l.take s.1)) h.size) (fun s => l.length - s.1) (0, .slice none 0 0) ?_ ?_ ?_
    · simp [Le, find]
    · exact ⟨by omega, p0, by omega, .none _ _ _⟩
    rintro ⟨i, ov⟩ h3 ⟨hi, p0, y3, oo⟩
    dsimp only at hi p0 y3 oo ⊢
    have p0_z := p0.size
    have oo_l := oo.top
    obtain ⟨oa, oc, rfl⟩ := oo.is
    simp -dsimp only [go_sem, ↓reduceIte, reduceCtorEq, Nat.reduceEqDiff, Nat.reduceAdd, Nat.reduceLeDiff, Nat.reduceMul, Int.reduceBEq, Int.reduceBNe, Int.reduceLT, Int.reduceLE, Int.reduceGT, Int.reduceGE]
    refine ⟨fun hlt => ?_, fun hge => ?_⟩
    · have hlt : i < l.length := by omega
      have hx : l[i]? = some l[i] := by simp
      have htk : l.take (i + 1) = l.take i ++ [l[i]] := by rw [List.take_succ_eq_append_getElem hlt]
      generalize l[i] = x at hx htk
      simp -dsimp only [go_sem, ↓reduceIte, reduceCtorEq, Nat.reduceEqDiff, Nat.reduceAdd, Nat.reduceLeDiff, Nat.reduceMul, Int.reduceBEq, Int.reduceBNe, Int.reduceLT, Int.reduceLE, Int.reduceGT, Int.reduceGE]
      refine Chk_intro (by omega) ((hl.fr p0).idx (by omega) fun b3 o3 c3 => ?_)
      simp -dsimp only [go_sem, ↓reduceIte, reduceCtorEq, Nat.reduceEqDiff, Nat.reduceAdd, Nat.reduceLeDiff, Nat.reduceMul, Int.reduceBEq, Int.reduceBNe, Int.reduceLT, Int.reduceLE, Int.reduceGT, Int.reduceGE, c3 i _ (natsV_get hx)]
      intro b4 h4 n4
      have n4_a := n4.at_
      have n4_z := n4.size
      replace p0 := p0.fresh (n4.fr (lo := 0) (hi := 0)) (by omega)
      replace oo := oo.fr (n4.fr (lo := 0) (hi := 0)) (by have := oo.at_; omega)
      have r4 := n4.row
      simp -dsimp only [go_sem, ↓reduceIte, reduceCtorEq, Nat.reduceEqDiff, Nat.reduceAdd, Nat.reduceLeDiff, Nat.reduceMul, Int.reduceBEq, Int.reduceBNe, Int.reduceLT, Int.reduceLE, Int.reduceGT, Int.reduceGE, r4.cell]
      refine oo.append (by omega) rfl (by omega) (by simp) (by omega) fun v5 h5 o_new f5 e_app => ?_
      have f5_z := f5.size
      have o_at := oo.at_
      replace p0 := p0.fresh f5 (by omega)
      replace r4 := r4.fr f5 (by omega)
      clear o_at e_app
      replace oo := o_new
      have oo_l := oo.top
      simp -dsimp only [go_sem, ↓reduceIte, reduceCtorEq, Nat.reduceEqDiff, Nat.reduceAdd, Nat.reduceLeDiff, Nat.reduceMul, Int.reduceBEq, Int.reduceBNe, Int.reduceLT, Int.reduceLE, Int.reduceGT, Int.reduceGE, r4.cell]
      simp -dsimp (disch := omega) only [wrap64]
      exact ⟨(i + 1, v5), by first | omega | (dsimp only; omega), by simp [Le, find], by first | omega | (dsimp only; omega), p0, by omega, by dsimp only; rw [htk, natsV_append]; exact oo⟩
    · have hil : i = l.length := by omega
      subst hil
      rw [List.take_length] at oo
      simp -dsimp only [go_sem, ↓reduceIte, reduceCtorEq, Nat.reduceEqDiff, Nat.reduceAdd, Nat.reduceLeDiff, Nat.reduceMul, Int.reduceBEq, Int.reduceBNe, Int.reduceLT, Int.reduceLE, Int.reduceGT, Int.reduceGE]
      intro b4 h4 n4
      have n4_a := n4.at_
      have n4_z := n4.size
      replace p0 := p0.fresh (n4.fr (lo := 0) (hi := 0)) (by omega)
      replace oo := oo.fr (n4.fr (lo := 0) (hi := 0)) (by have := oo.at_; omega)
      have r4 := n4.row
      simp -dsimp only [go_sem, ↓reduceIte, reduceCtorEq, Nat.reduceEqDiff, Nat.reduceAdd, Nat.reduceLeDiff, Nat.reduceMul, Int.reduceBEq, Int.reduceBNe, Int.reduceLT, Int.reduceLE, Int.reduceGT, Int.reduceGE, r4.cell]
      refine ⟨p0, .slice (some ⟨b4, 0, none⟩) 1 1, [.slice oa l.length oc], by simp [extGo, hm1], ?_⟩
      have e : (extGo n M 0 l).take m = [l] := by simp only [extGo]; exact List.take_of_length_le (by simpa using hm1)
      rw [e]
      refine ⟨⟨rfl, .inr ⟨b4, 1, [], rfl, r4, rfl, by omega⟩⟩, fun i w x hw hx => ?_, fun w hw => ?_⟩
      · cases i with
        | zero => simp at hw hx; subst hw; subst hx; simpa using oo
        | succ i => simp at hw
      · simp at hw; subst hw
        have := bh_bl (.slice oa l.length oc)
        have : bl (.slice (some ⟨b4, 0, none⟩) 1 1) = b4 := rfl
        unfold Off; omega
  | succ d ih =>
    intro l m dv lv h hr hd hl hld hm hz
    refine con_ref2_more ?_
    have hr0 := hr
    obtain ⟨hn, s, R, rfl, t⟩ := hr
    obtain ⟨sa, sc, rfl⟩ := t.own.is
    obtain ⟨da, dc, rfl⟩ := hd.is
    obtain ⟨la, lc, rfl⟩ := hl.is
    have p0 : Fr 0 0 h h := .refl _ _ _
    have p0_z := p0.size
    simp -dsimp only [go_sem, ↓reduceIte, reduceCtorEq, Nat.reduceEqDiff, Nat.reduceAdd, Nat.reduceLeDiff, Nat.reduceMul, Int.reduceBEq, Int.reduceBNe, Int.reduceLT, Int.reduceLE, Int.reduceGT, Int.reduceGE]
    intro b1 h1 n1
    have n1_a := n1.at_
    have n1_z := n1.size
    replace p0 := p0.fresh (n1.fr (lo := 0) (hi := 0)) (by omega)
    have r1 := n1.row
    simp -dsimp only [go_sem, ↓reduceIte, reduceCtorEq, Nat.reduceEqDiff, Nat.reduceAdd, Nat.reduceLeDiff, Nat.reduceMul, Int.reduceBEq, Int.reduceBNe, Int.reduceLT, Int.reduceLE, Int.reduceGT, Int.reduceGE, r1.cell]
    refine ⟨fun he => absurd he (by simp; omega), fun _ => ?_⟩
    simp -dsimp only [go_sem, ↓reduceIte, reduceCtorEq, Nat.reduceEqDiff, Nat.reduceAdd, Nat.reduceLeDiff, Nat.reduceMul, Int.reduceBEq, Int.reduceBNe, Int.reduceLT, Int.reduceLE, Int.reduceGT, Int.reduceGE, r1.cell]
    refine loop_intro (fun s : Nat × Value × List Value × List (List Nat) => [(1, .slice da n dc), (2, .slice la l.length lc), (3, .int .i64 m), (4, .pointer (some ⟨b1, 0, none⟩)), (12, s.2.1), (13, .int .i64 s.1)])
      (fun s h' => s.1 ≤ n ∧ Fr 0 0 h h' ∧ h1.size ≤ h'.size ∧ Rw h' b1 [.int .i64 n, .slice sa n sc] ∧ LL h' s.2.1 s.2.2.1 (s.2.2.2.map natsV) h1.size ∧ s.2.2.2.length ≤ m ∧ s.2.2.2 ++ extFrom n M l s.1 = extGo n M (d + 1) l) (fun s => n - s.1) (0, .slice none 0 0, [], []) ?_ ?_ ?_
    · simp [Le, find]
    · exact ⟨by omega, p0, by omega, r1, .nil, by simp, by rw [List.nil_append, extFrom, show n - l.length - 1 = d from by omega]; rfl⟩
    rintro ⟨p, ov, us, out⟩ h2 ⟨hp, p0, y2, r1, LO, hout, hrem⟩
    dsimp only at hp p0 y2 r1 LO hout hrem ⊢
    have p0_z := p0.size
    have r1_l := r1.lt
    have LO_l := LO.own.top
    have elen : (out.map natsV).length = out.length := by simp
    have LOis := LO.own.is
    rw [elen] at LOis
    obtain ⟨oa, oc, rfl⟩ := LOis
    simp -dsimp only [go_sem, ↓reduceIte, reduceCtorEq, Nat.reduceEqDiff, Nat.reduceAdd, Nat.reduceLeDiff, Nat.reduceMul, Int.reduceBEq, Int.reduceBNe, Int.reduceLT, Int.reduceLE, Int.reduceGT, Int.reduceGE, r1.cell]
    refine ⟨fun hlt => ?_, fun hge => ?_⟩
    · have hlt : p < n := by omega
      simp -dsimp only [go_sem, ↓reduceIte, reduceCtorEq, Nat.reduceEqDiff, Nat.reduceAdd, Nat.reduceLeDiff, Nat.reduceMul, Int.reduceBEq, Int.reduceBNe, Int.reduceLT, Int.reduceLE, Int.reduceGT, Int.reduceGE, r1.cell]
      refine call_of (ref2_free (hr0.fr p0 (by omega)) (hd.fr p0) hlt) ?_
      rintro v h3 ⟨f3, rfl⟩
      have f3_z := f3.size
      replace p0 := p0.fresh f3 (by omega)
      replace r1 := r1.fr f3 (by omega)
      replace LO := LO.fr f3 (by first | exact Away.none (Nat.le_refl _) | exact LO.below (by omega) | exact LO.above (by omega) | assumption | exact fun w hw => (by have := aTop w hw; omega))
      have hstep := rest_step (g := freeB n M l.contains) hlt
      cases hfr : freeB n M l.contains p with
      | false =>
        rw [hfr] at hstep
        have hstep : extFrom n M l p = extFrom n M l (p + 1) := by unfold extFrom; rw [hstep]; rfl
        simp -dsimp only [go_sem, ↓reduceIte, reduceCtorEq, Nat.reduceEqDiff, Nat.reduceAdd, Nat.reduceLeDiff, Nat.reduceMul, Int.reduceBEq, Int.reduceBNe, Int.reduceLT, Int.reduceLE, Int.reduceGT, Int.reduceGE, r1.cell]
        simp -dsimp (disch := omega) only [wrap64]
        exact ⟨(p + 1, _, us, out), by first | omega | (dsimp only; omega), by simp [Le, find], by first | omega | (dsimp only; omega), p0, by first | omega | (dsimp only; omega), r1, LO, hout, by rw [← hstep]; exact hrem⟩
      | true =>
      rw [hfr, if_pos rfl] at hstep
      have hstep : extFrom n M l p = extGo n M d (l ++ [p]) ++ extFrom n M l (p + 1) := by unfold extFrom; rw [hstep, List.flatMap_cons, show n - l.length - 1 = d from by omega]
      rw [hstep] at hrem
      simp -dsimp only [go_sem, ↓reduceIte, reduceCtorEq, Nat.reduceEqDiff, Nat.reduceAdd, Nat.reduceLeDiff, Nat.reduceMul, Int.reduceBEq, Int.reduceBNe, Int.reduceLT, Int.reduceLE, Int.reduceGT, Int.reduceGE, r1.cell]
      refine Chk_intro (by omega) ?_
      have aTop := LO.top
      intro b4 h4 n4
      have n4_a := n4.at_
      have n4_z := n4.size
      replace p0 := p0.fresh (n4.fr (lo := 0) (hi := 0)) (by omega)
      replace r1 := r1.fr (n4.fr (lo := 0) (hi := 0)) (by omega)
      replace LO := LO.fr (n4.fr (lo := 0) (hi := 0)) (by first | exact Away.none (Nat.le_refl _) | exact LO.below (by omega) | exact LO.above (by omega) | assumption | exact fun w hw => (by have := aTop w hw; omega))
      have r4 := n4.row
      rw [zeros_one, Int.toNat_natCast, brow_false] at r4
      simp -dsimp only [go_sem, ↓reduceIte, reduceCtorEq, Nat.reduceEqDiff, Nat.reduceAdd, Nat.reduceLeDiff, Nat.reduceMul, Int.reduceBEq, Int.reduceBNe, Int.reduceLT, Int.reduceLE, Int.reduceGT, Int.reduceGE, r1.cell, r4.cell]
      refine loop_intro (fun i : Nat => [(1, .slice da n dc), (2, .slice la l.length lc), (3, .int .i64 m), (4, .pointer (some ⟨b1, 0, none⟩)), (12, .slice oa out.length oc), (13, .int .i64 p), (14, .slice (some ⟨b4, 0, none⟩) n n), (15, .int .i64 i)])
        (fun i h' => i ≤ n ∧ Fr 0 0 h h' ∧ h4.size ≤ h'.size ∧ Rw h' b1 [.int .i64 n, .slice sa n sc] ∧ LL h' (.slice oa out.length oc) us (out.map natsV) h1.size ∧ Rw h' b4 (brow n fun q => decide (q < i) && (l ++ [p]).contains q)) (fun i => n - i) 0 ?_ ?_ ?_
      · simp [Le, find]
      · exact ⟨by omega, p0, by omega, r1, LO, by rw [brow_congr (g := fun _ => false)]; exact r4; intro j _; simp⟩
      rintro i h5 ⟨hi, p0, y5, r1, LO, r4⟩
      have p0_z := p0.size
      have r1_l := r1.lt
      have LO_l := LO.own.top
      have r4_l := r4.lt
      simp -dsimp only [go_sem, ↓reduceIte, reduceCtorEq, Nat.reduceEqDiff, Nat.reduceAdd, Nat.reduceLeDiff, Nat.reduceMul, Int.reduceBEq, Int.reduceBNe, Int.reduceLT, Int.reduceLE, Int.reduceGT, Int.reduceGE, r1.cell, r4.cell]
      refine ⟨fun hlt1 => ?_, fun hge1 => ?_⟩
      · have hlt1 : i < n := by omega
        simp -dsimp only [go_sem, ↓reduceIte, reduceCtorEq, Nat.reduceEqDiff, Nat.reduceAdd, Nat.reduceLeDiff, Nat.reduceMul, Int.reduceBEq, Int.reduceBNe, Int.reduceLT, Int.reduceLE, Int.reduceGT, Int.reduceGE, r1.cell, r4.cell]
        refine Chk_intro (by omega) ((hd.fr p0).idx (by omega) fun b6 o6 c6 => ?_)
        have c6 := c6 i _ (brow_get hlt1)
        have eset : (brow n fun q => decide (q < i) && (l ++ [p]).contains q).set i (.bool (l.contains i || (i : Int) == (p : Int))) = brow n fun q => decide (q < i + 1) && (l ++ [p]).contains q := by
          rw [brow_set]
          apply brow_congr
          intro j hj
          by_cases hji : j = i
          · subst hji
            have : ((j : Int) == (p : Int)) = decide (j = p) := by rw [Bool.eq_iff_iff]; simp; omega
            simp [this]
          · have : (j < i + 1) = (j < i) := by simp; omega
            simp [hji, this]
        cases hci : l.contains i with
        | true =>
          rw [hci] at c6 eset
          rw [Bool.true_or] at eset
          simp -dsimp only [go_sem, ↓reduceIte, reduceCtorEq, Nat.reduceEqDiff, Nat.reduceAdd, Nat.reduceLeDiff, Nat.reduceMul, Int.reduceBEq, Int.reduceBNe, Int.reduceLT, Int.reduceLE, Int.reduceGT, Int.reduceGE, c6, r1.cell, r4.cell]
          refine Chk_intro (by omega) ?_
          simp -dsimp only [go_sem, ↓reduceIte, reduceCtorEq, Nat.reduceEqDiff, Nat.reduceAdd, Nat.reduceLeDiff, Nat.reduceMul, Int.reduceBEq, Int.reduceBNe, Int.reduceLT, Int.reduceLE, Int.reduceGT, Int.reduceGE, r1.cell, r4.cell]
          refine Chk_intro (r4.wr (by first | (simp; done) | (simp; omega))) fun h6 s6 => ?_
          have s6_z := s6.size
          replace p0 := p0.fresh s6.fr (by omega)
          replace r1 := r1.fr s6.fr (by omega)
          replace LO := LO.fr s6.fr (by first | exact Away.none (Nat.le_refl _) | exact LO.below (by omega) | exact LO.above (by omega) | assumption | exact fun w hw => (by have := aTop w hw; omega))
          replace r4 := s6.row r4
          try simp only [cl_int, cl_bool, cl_slice, cl_ptr, putAt_one, List.set_cons_zero, List.set_cons_succ, ivec_set, brow_upd] at r4
          rw [← brow_upd, eset] at r4
          simp -dsimp only [go_sem, ↓reduceIte, reduceCtorEq, Nat.reduceEqDiff, Nat.reduceAdd, Nat.reduceLeDiff, Nat.reduceMul, Int.reduceBEq, Int.reduceBNe, Int.reduceLT, Int.reduceLE, Int.reduceGT, Int.reduceGE, r1.cell, r4.cell]
          simp -dsimp (disch := omega) only [wrap64]
          exact ⟨i + 1, by omega, by simp [Le, find], by omega, p0, by omega, r1, LO, r4⟩
        | false =>
          rw [hci] at c6 eset
          rw [Bool.false_or] at eset
          simp -dsimp only [go_sem, ↓reduceIte, reduceCtorEq, Nat.reduceEqDiff, Nat.reduceAdd, Nat.reduceLeDiff, Nat.reduceMul, Int.reduceBEq, Int.reduceBNe, Int.reduceLT, Int.reduceLE, Int.reduceGT, Int.reduceGE, c6, r1.cell, r4.cell]
          refine Chk_intro (by omega) ?_
          simp -dsimp only [go_sem, ↓reduceIte, reduceCtorEq, Nat.reduceEqDiff, Nat.reduceAdd, Nat.reduceLeDiff, Nat.reduceMul, Int.reduceBEq, Int.reduceBNe, Int.reduceLT, Int.reduceLE, Int.reduceGT, Int.reduceGE, r1.cell, r4.cell]
          refine Chk_intro (r4.wr (by first | (simp; done) | (simp; omega))) fun h6 s6 => ?_
          have s6_z := s6.size
          replace p0 := p0.fresh s6.fr (by omega)
          replace r1 := r1.fr s6.fr (by omega)
          replace LO := LO.fr s6.fr (by first | exact Away.none (Nat.le_refl _) | exact LO.below (by omega) | exact LO.above (by omega) | assumption | exact fun w hw => (by have := aTop w hw; omega))
          replace r4 := s6.row r4
          try simp only [cl_int, cl_bool, cl_slice, cl_ptr, putAt_one, List.set_cons_zero, List.set_cons_succ, ivec_set, brow_upd] at r4
          rw [← brow_upd, eset] at r4
          simp -dsimp only [go_sem, ↓reduceIte, reduceCtorEq, Nat.reduceEqDiff, Nat.reduceAdd, Nat.reduceLeDiff, Nat.reduceMul, Int.reduceBEq, Int.reduceBNe, Int.reduceLT, Int.reduceLE, Int.reduceGT, Int.reduceGE, r1.cell, r4.cell]
          simp -dsimp (disch := omega) only [wrap64]
          exact ⟨i + 1, by omega, by simp [Le, find], by omega, p0, by omega, r1, LO, r4⟩
      have hin : i = n := by omega
      subst hin
      rw [brow_congr (g := (l ++ [p]).contains) (fun j hj => by simp [hj])] at r4
      simp -dsimp only [go_sem, ↓reduceIte, reduceCtorEq, Nat.reduceEqDiff, Nat.reduceAdd, Nat.reduceLeDiff, Nat.reduceMul, Int.reduceBEq, Int.reduceBNe, Int.reduceLT, Int.reduceLE, Int.reduceGT, Int.reduceGE, r1.cell, r4.cell]
      refine loop_intro (fun s : Nat × Value => [(1, .slice da i dc), (2, .slice la l.length lc), (3, .int .i64 m), (4, .pointer (some ⟨b1, 0, none⟩)), (12, .slice oa out.length oc), (13, .int .i64 p), (14, .slice (some ⟨b4, 0, none⟩) i i), (16, s.2), (17, .int .i64 s.1)])
        (fun s h' => s.1 ≤ l.length ∧ Fr 0 0 h h' ∧ h5.size ≤ h'.size ∧ Rw h' b1 [.int .i64 i, .slice sa i sc] ∧ LL h' (.slice oa out.length oc) us (out.map natsV) h1.size ∧ Rw h' b4 (brow i (l ++ [p]).contains) ∧ Holder 1 h' s.2 s.1 (natsV (l.take s.1)) h5.size) (fun s => l.length - s.1) (0, .slice none 0 0) ?_ ?_ ?_
      · simp [Le, find]
      · exact ⟨by omega, p0, by omega, r1, LO, r4, .none _ _ _⟩
      have k1 := r1.lt; have k4 := r4.lt
      rintro ⟨q, wv⟩ h6 ⟨hq, p0, y6, r1, LO, r4, oo⟩
      dsimp only at hq p0 y6 r1 LO r4 oo ⊢
      have p0_z := p0.size
      have r1_l := r1.lt
      have LO_l := LO.own.top
      have r4_l := r4.lt
      have oo_l := oo.top
      obtain ⟨wa, wc, rfl⟩ := oo.is
      simp -dsimp only [go_sem, ↓reduceIte, reduceCtorEq, Nat.reduceEqDiff, Nat.reduceAdd, Nat.reduceLeDiff, Nat.reduceMul, Int.reduceBEq, Int.reduceBNe, Int.reduceLT, Int.reduceLE, Int.reduceGT, Int.reduceGE, r1.cell, r4.cell]
      refine ⟨fun hlt2 => ?_, fun hge2 => ?_⟩
      · have hlt2 : q < l.length := by omega
        have hx : l[q]? = some l[q] := by simp
        have htk : l.take (q + 1) = l.take q ++ [l[q]] := by rw [List.take_succ_eq_append_getElem hlt2]
        generalize l[q] = x at hx htk
        simp -dsimp only [go_sem, ↓reduceIte, reduceCtorEq, Nat.reduceEqDiff, Nat.reduceAdd, Nat.reduceLeDiff, Nat.reduceMul, Int.reduceBEq, Int.reduceBNe, Int.reduceLT, Int.reduceLE, Int.reduceGT, Int.reduceGE, r1.cell, r4.cell]
        refine Chk_intro (by omega) ((hl.fr p0).idx (by omega) fun b7 o7 c7 => ?_)
        simp -dsimp only [go_sem, ↓reduceIte, reduceCtorEq, Nat.reduceEqDiff, Nat.reduceAdd, Nat.reduceLeDiff, Nat.reduceMul, Int.reduceBEq, Int.reduceBNe, Int.reduceLT, Int.reduceLE, Int.reduceGT, Int.reduceGE, c7 q _ (natsV_get hx), r1.cell, r4.cell]
        intro b8 h8 n8
        have n8_a := n8.at_
        have n8_z := n8.size
        replace p0 := p0.fresh (n8.fr (lo := 0) (hi := 0)) (by omega)
        replace r1 := r1.fr (n8.fr (lo := 0) (hi := 0)) (by omega)
        replace LO := LO.fr (n8.fr (lo := 0) (hi := 0)) (by first | exact Away.none (Nat.le_refl _) | exact LO.below (by omega) | exact LO.above (by omega) | assumption | exact fun w hw => (by have := aTop w hw; omega))
        replace r4 := r4.fr (n8.fr (lo := 0) (hi := 0)) (by omega)
        replace oo := oo.fr (n8.fr (lo := 0) (hi := 0)) (by have := oo.at_; omega)
        have r8 := n8.row
        simp -dsimp only [go_sem, ↓reduceIte, reduceCtorEq, Nat.reduceEqDiff, Nat.reduceAdd, Nat.reduceLeDiff, Nat.reduceMul, Int.reduceBEq, Int.reduceBNe, Int.reduceLT, Int.reduceLE, Int.reduceGT, Int.reduceGE, r1.cell, r4.cell, r8.cell]
        refine oo.append (by omega) rfl (by omega) (by simp) (by omega) fun v9 h9 o_new f9 e_app => ?_
        have f9_z := f9.size
        have o_at := oo.at_
        replace p0 := p0.fresh f9 (by omega)
        replace r1 := r1.fr f9 (by omega)
        replace LO := LO.fr f9 (by first | exact Away.none (Nat.le_refl _) | exact LO.below (by omega) | exact LO.above (by omega) | assumption | exact fun w hw => (by have := aTop w hw; omega))
        replace r4 := r4.fr f9 (by omega)
        replace r8 := r8.fr f9 (by omega)
        clear o_at e_app
        replace oo := o_new
        have oo_l := oo.top
        simp -dsimp only [go_sem, ↓reduceIte, reduceCtorEq, Nat.reduceEqDiff, Nat.reduceAdd, Nat.reduceLeDiff, Nat.reduceMul, Int.reduceBEq, Int.reduceBNe, Int.reduceLT, Int.reduceLE, Int.reduceGT, Int.reduceGE, r1.cell, r4.cell, r8.cell]
        simp -dsimp (disch := omega) only [wrap64]
        exact ⟨(q + 1, v9), by first | omega | (dsimp only; omega), by simp [Le, find], by first | omega | (dsimp only; omega), p0, by omega, r1, LO, r4, by dsimp only; rw [htk, natsV_append]; exact oo⟩
      have hql : q = l.length := by omega
      subst hql
      rw [List.take_length] at oo
      simp -dsimp only [go_sem, ↓reduceIte, reduceCtorEq, Nat.reduceEqDiff, Nat.reduceAdd, Nat.reduceLeDiff, Nat.reduceMul, Int.reduceBEq, Int.reduceBNe, Int.reduceLT, Int.reduceLE, Int.reduceGT, Int.reduceGE, r1.cell, r4.cell]
      intro b8 h8 n8
      have n8_a := n8.at_
      have n8_z := n8.size
      replace p0 := p0.fresh (n8.fr (lo := 0) (hi := 0)) (by omega)
      replace r1 := r1.fr (n8.fr (lo := 0) (hi := 0)) (by omega)
      replace LO := LO.fr (n8.fr (lo := 0) (hi := 0)) (by first | exact Away.none (Nat.le_refl _) | exact LO.below (by omega) | exact LO.above (by omega) | assumption | exact fun w hw => (by have := aTop w hw; omega))
      replace r4 := r4.fr (n8.fr (lo := 0) (hi := 0)) (by omega)
      replace oo := oo.fr (n8.fr (lo := 0) (hi := 0)) (by have := oo.at_; omega)
      have r8 := n8.row
      simp -dsimp only [go_sem, ↓reduceIte, reduceCtorEq, Nat.reduceEqDiff, Nat.reduceAdd, Nat.reduceLeDiff, Nat.reduceMul, Int.reduceBEq, Int.reduceBNe, Int.reduceLT, Int.reduceLE, Int.reduceGT, Int.reduceGE, r1.cell, r4.cell, r8.cell]
      refine oo.append (by omega) rfl (by omega) (by simp) (by omega) fun v9 h9 o_new f9 e_app => ?_
      have f9_z := f9.size
      have o_at := oo.at_
      replace p0 := p0.fresh f9 (by omega)
      replace r1 := r1.fr f9 (by omega)
      replace LO := LO.fr f9 (by first | exact Away.none (Nat.le_refl _) | exact LO.below (by omega) | exact LO.above (by omega) | assumption | exact fun w hw => (by have := aTop w hw; omega))
      replace r4 := r4.fr f9 (by omega)
      replace r8 := r8.fr f9 (by omega)
      clear o_at e_app
      replace oo := o_new
      have oo_l := oo.top
      have em : IntKind.i64.wrap ((m : Int) - (out.length : Int)) = ((m - out.length : Nat) : Int) := by rw [wrap64 (by omega) (by omega)]; omega
      simp -dsimp only [go_sem, ↓reduceIte, reduceCtorEq, Nat.reduceEqDiff, Nat.reduceAdd, Nat.reduceLeDiff, Nat.reduceMul, Int.reduceBEq, Int.reduceBNe, Int.reduceLT, Int.reduceLE, Int.reduceGT, Int.reduceGE, em, r1.cell, r4.cell, r8.cell]
      have elp : (l ++ [p]).length = l.length + 1 := by simp
      rw [← elp] at oo
      have eap : natsV l ++ [Value.int .i64 (p : Int)] = natsV (l ++ [p]) := by rw [natsV_append]; rfl
      rw [eap] at oo
      refine call_of (ih (l ++ [p]) (m - out.length) _ _ _ (hr0.fr p0 (by omega)) (r4.rd (by simp)) oo.rd (by omega) (by omega) (by omega)) ?_
      rintro v h10 ⟨f10, sv, us2, rfl, LS⟩
      have aTop := LO.top
      have f10_z := f10.size
      replace p0 := p0.fresh f10 (by omega)
      replace r1 := r1.fr f10 (by omega)
      replace LO := LO.fr f10 (by first | exact Away.none (Nat.le_refl _) | exact LO.below (by omega) | exact LO.above (by omega) | assumption | exact fun w hw => (by have := aTop w hw; omega))
      generalize extGo i M d (l ++ [p]) = E at hrem LS ⊢
      have hT : ∃ T, T = E.take (m - out.length) := ⟨_, rfl⟩
      obtain ⟨T, hT⟩ := hT
      rw [← hT] at LS
      have eT : (T.map natsV).length = T.length := by simp
      have hTl : T.length ≤ m - out.length := by rw [hT, List.length_take]; omega
      have LSis := LS.own.is
      rw [eT] at LSis
      obtain ⟨ta, tc, rfl⟩ := LSis
      have offs : ∀ u, u = .slice ta T.length tc ∨ u ∈ us2 → Off u (.slice oa out.length oc) := fun u hu => by
        have h1 := aTop _ (.inl rfl)
        have h3 := bh_bl u
        have h2 : bh u = 0 ∨ h9.size ≤ bl u := by
          rcases hu with rfl | hu
          · have := LS.own.at_; omega
          · obtain ⟨j, x, -, -, o⟩ := LS.get hu
            have := o.at_; omega
        have h4 := bh_bl (.slice oa out.length oc)
        unfold Off; omega
      simp -dsimp only [go_sem, ↓reduceIte, reduceCtorEq, Nat.reduceEqDiff, Nat.reduceAdd, Nat.reduceLeDiff, Nat.reduceMul, Int.reduceBEq, Int.reduceBNe, Int.reduceLT, Int.reduceLE, Int.reduceGT, Int.reduceGE, r1.cell]
      refine loop_intro (fun s : Nat × Value × List Value => [(1, .slice da i dc), (2, .slice la l.length lc), (3, .int .i64 m), (4, .pointer (some ⟨b1, 0, none⟩)), (12, s.2.1), (13, .int .i64 p), (18, .slice ta T.length tc), (19, .bool (decide (E.length ≤ m - out.length))), (20, .int .i64 s.1)])
        (fun s h' => s.1 ≤ T.length ∧ Fr 0 0 h h' ∧ h10.size ≤ h'.size ∧ Rw h' b1 [.int .i64 i, .slice sa i sc] ∧ LL h' s.2.1 s.2.2 ((out ++ T.take s.1).map natsV) h1.size ∧ LL h' (.slice ta T.length tc) us2 (T.map natsV) h9.size ∧ ∀ u, u = .slice ta T.length tc ∨ u ∈ us2 → Off u s.2.1) (fun s => T.length - s.1) (0, .slice oa out.length oc, us) ?_ ?_ ?_
      · simp [Le, find]
      · exact ⟨by omega, p0, by omega, r1, by simpa using LO, LS, offs⟩
      clear offs LS
      have k1 := r1.lt
      have f10_z := f10.size
      rintro ⟨j, ov, us3⟩ h11 ⟨hj, p0, y11, r1, LO, LS, offs⟩
      dsimp only at hj p0 y11 r1 LO LS offs ⊢
      have p0_z := p0.size
      have r1_l := r1.lt
      have elen2 : ((out ++ T.take j).map natsV).length = out.length + j := by simp; omega
      have LOis := LO.own.is
      rw [elen2] at LOis
      obtain ⟨va, vc, rfl⟩ := LOis
      have LOown := LO.own
      rw [elen2] at LOown
      have LSown := LS.own
      rw [eT] at LSown
      simp -dsimp only [go_sem, ↓reduceIte, reduceCtorEq, Nat.reduceEqDiff, Nat.reduceAdd, Nat.reduceLeDiff, Nat.reduceMul, Int.reduceBEq, Int.reduceBNe, Int.reduceLT, Int.reduceLE, Int.reduceGT, Int.reduceGE, r1.cell]
      refine ⟨fun hlt3 => ?_, fun hge3 => ?_⟩
      · have hlt3 : j < T.length := by omega
        have hul : us2.length = T.length := by rw [LS.len, eT]
        have hu : us2[j]? = some (us2[j]'(by omega)) := List.getElem?_eq_getElem _
        have hmem : (us2[j]'(by omega)) ∈ us2 := List.getElem_mem _
        generalize (us2[j]'(by omega)) = u at hu hmem
        have hx : T[j]? = some T[j] := List.getElem?_eq_getElem _
        have htk : T.take (j + 1) = T.take j ++ [T[j]] := by rw [List.take_succ_eq_append_getElem hlt3]
        generalize T[j] = x at hx htk
        have ou := LS.at_ j u (natsV x) hu (by rw [List.getElem?_map, hx]; rfl)
        obtain ⟨ua, uc, rfl⟩ := ou.is
        simp -dsimp only [go_sem, ↓reduceIte, reduceCtorEq, Nat.reduceEqDiff, Nat.reduceAdd, Nat.reduceLeDiff, Nat.reduceMul, Int.reduceBEq, Int.reduceBNe, Int.reduceLT, Int.reduceLE, Int.reduceGT, Int.reduceGE, r1.cell]
        refine Chk_intro (by omega) (LSown.rd.idx (by omega) fun b12 o12 c12 => ?_)
        simp -dsimp only [go_sem, ↓reduceIte, reduceCtorEq, Nat.reduceEqDiff, Nat.reduceAdd, Nat.reduceLeDiff, Nat.reduceMul, Int.reduceBEq, Int.reduceBNe, Int.reduceLT, Int.reduceLE, Int.reduceGT, Int.reduceGE, c12 j _ hu, r1.cell]
        intro b13 h13 n13
        have n13_a := n13.at_; have n13_z := n13.size
        replace p0 := p0.trans n13.fr
        replace r1 := n13.rw r1
        replace LO := LO.fr (n13.fr (lo := 0) (hi := 0)) (.none (Nat.le_refl _))
        replace LS := LS.fr (n13.fr (lo := 0) (hi := 0)) (.none (Nat.le_refl _))
        replace ou := ou.fr (n13.fr (lo := 0) (hi := 0)) (by omega)
        replace LOown := LOown.fr (n13.fr (lo := 0) (hi := 0)) (by omega)
        simp -dsimp only [go_sem, ↓reduceIte, reduceCtorEq, Nat.reduceEqDiff, Nat.reduceAdd, Nat.reduceLeDiff, Nat.reduceMul, Int.reduceBEq, Int.reduceBNe, Int.reduceLT, Int.reduceLE, Int.reduceGT, Int.reduceGE, n13.row.cell, r1.cell]
        refine LOown.append (by omega) rfl (by omega) (by simp) (by omega) fun v14 h14 o14 f14 e14 => ?_
        have f14_z := f14.size
        have hz0 : 0 < h1.size := by omega
        have lot := LO.own.at_
        have LO' := LO.push hz0 (ou.lower (by omega)) (offs _ (.inr hmem)) (by rw [elen2]; exact o14) f14 e14
        have LS' := LS.fr f14 (fun w hw => (offs w hw).away)
        have offs' : ∀ u, u = .slice ta T.length tc ∨ u ∈ us2 → Off u v14 := fun w hw => (offs w hw).app (LS.top w hw) hz0 o14 e14
        have f14_z := f14.size
        replace p0 := p0.fresh f14 (by omega)
        replace r1 := r1.fr f14 (by omega)
        simp -dsimp only [go_sem, ↓reduceIte, reduceCtorEq, Nat.reduceEqDiff, Nat.reduceAdd, Nat.reduceLeDiff, Nat.reduceMul, Int.reduceBEq, Int.reduceBNe, Int.reduceLT, Int.reduceLE, Int.reduceGT, Int.reduceGE, r1.cell]
        simp -dsimp (disch := omega) only [wrap64]
        refine ⟨(j + 1, v14, us3 ++ [Value.slice ua (natsV x).length uc]), by first | omega | (dsimp only; omega), by simp [Le, find], by first | omega | (dsimp only; omega), p0, by omega, r1, ?_, LS', offs'⟩
        dsimp only
        rw [htk, ← List.append_assoc, List.map_append]
        exact LO'
      have hjT : j = T.length := by omega
      subst hjT
      rw [List.take_length] at LO elen2
      simp -dsimp only [go_sem, ↓reduceIte, reduceCtorEq, Nat.reduceEqDiff, Nat.reduceAdd, Nat.reduceLeDiff, Nat.reduceMul, Int.reduceBEq, Int.reduceBNe, Int.reduceLT, Int.reduceLE, Int.reduceGT, Int.reduceGE, r1.cell]
      by_cases hE : E.length ≤ m - out.length
      · have hTE : T = E := by rw [hT, List.take_of_length_le hE]
        rw [decide_eq_true hE]
        simp -dsimp only [go_sem, ↓reduceIte, reduceCtorEq, Nat.reduceEqDiff, Nat.reduceAdd, Nat.reduceLeDiff, Nat.reduceMul, Int.reduceBEq, Int.reduceBNe, Int.reduceLT, Int.reduceLE, Int.reduceGT, Int.reduceGE, r1.cell]
        simp -dsimp (disch := omega) only [wrap64]
        exact ⟨(p + 1, _, us3, out ++ T), by first | omega | (dsimp only; omega), by simp [Le, find], by first | omega | (dsimp only; omega), p0, by first | omega | (dsimp only; omega), r1, LO, by simp; omega, by dsimp only; rw [List.append_assoc, hTE]; exact hrem⟩
      · rw [decide_eq_false hE]
        simp -dsimp only [go_sem, ↓reduceIte, reduceCtorEq, Nat.reduceEqDiff, Nat.reduceAdd, Nat.reduceLeDiff, Nat.reduceMul, Int.reduceBEq, Int.reduceBNe, Int.reduceLT, Int.reduceLE, Int.reduceGT, Int.reduceGE, r1.cell]
        refine ⟨p0, _, us3, by rw [← hrem, decide_eq_false]; simp; omega, ?_⟩
        have : (out ++ (E ++ extFrom i M l (p + 1))).take m = out ++ T := by
          rw [List.take_append, List.take_of_length_le hout, List.take_append_of_le_length (by omega), hT]
        rw [← hrem, this]; exact LO.lower (by omega)
    · have hpn : p = n := by omega
      have : extFrom n M l p = [] := by unfold extFrom; rw [rest_end (by omega)]; rfl
      rw [this, List.append_nil] at hrem
      simp -dsimp only [go_sem, ↓reduceIte, reduceCtorEq, Nat.reduceEqDiff, Nat.reduceAdd, Nat.reduceLeDiff, Nat.reduceMul, Int.reduceBEq, Int.reduceBNe, Int.reduceLT, Int.reduceLE, Int.reduceGT, Int.reduceGE, r1.cell]
      exact ⟨p0, _, us, by rw [← hrem, decide_eq_true hout], by rw [← hrem, List.take_of_length_le hout]; exact LO.lower (by omega)⟩
theorem ref2_Extensions {n : Nat} {M : Nat → Nat → Bool} {rv : Value} {lo hi : Nat} {h : Heap} (hr : RefAt h lo hi rv n M) (most : Int) (hm : most ≤ 65536) (hz : 0 < h.size) :
    Con Tryd.prog 32 #[rv, .int .i64 most] h fun v h' => Fr 0 0 h h' ∧ ∃ s us, v = .tuple #[s, .bool (extB n M most)] ∧ LL h' s us ((extS n M most).map natsV) h.size := by
  refine con_ref2_Extensions ?_
  have hr0 := hr
  obtain ⟨hn, s, R, rfl, t⟩ := hr
  obtain ⟨sa, sc, rfl⟩ := t.own.is
  have p0 : Fr 0 0 h h := .refl _ _ _
  simp -dsimp only [go_sem, ↓reduceIte, reduceCtorEq, Nat.reduceEqDiff, Nat.reduceAdd, Nat.reduceLeDiff, Nat.reduceMul, Int.reduceBEq, Int.reduceBNe, Int.reduceLT, Int.reduceLE, Int.reduceGT, Int.reduceGE]
  intro b1 h1 n1
  have n1_a := n1.at_
  have n1_z := n1.size
  replace p0 := p0.fresh (n1.fr (lo := 0) (hi := 0)) (by omega)
  have r1 := n1.row
  simp -dsimp only [go_sem, ↓reduceIte, reduceCtorEq, Nat.reduceEqDiff, Nat.reduceAdd, Nat.reduceLeDiff, Nat.reduceMul, Int.reduceBEq, Int.reduceBNe, Int.reduceLT, Int.reduceLE, Int.reduceGT, Int.reduceGE, r1.cell]
  refine call_of (ref2_Sort (hr0.fr p0 (by omega))) ?_
  rintro v h2 ⟨f2, o2⟩
  have f2_z := f2.size
  replace p0 := p0.fresh f2 (by omega)
  replace r1 := r1.fr f2 (by omega)
  have hac := sort_acyc (n := n) (M := M)
  cases hs : sortS n M with
  | none =>
    rw [hs] at o2 hac
    simp only [ListOr] at o2
    subst o2
    have hall : allS n M = [] := by unfold allS; rw [← hac]; rfl
    simp -dsimp only [go_sem, ↓reduceIte, reduceCtorEq, Nat.reduceEqDiff, Nat.reduceAdd, Nat.reduceLeDiff, Nat.reduceMul, Int.reduceBEq, Int.reduceBNe, Int.reduceLT, Int.reduceLE, Int.reduceGT, Int.reduceGE, r1.cell]
    exact ⟨p0, .slice none 0 0, [], by simp [extB, hall], by simp only [extS, hall]; simp; exact .nil⟩
  | some l =>
    rw [hs] at o2 hac
    obtain ⟨w2, rfl, o2⟩ := o2
    have hall : allS n M = extGo n M n [] := by unfold allS; rw [← hac]; rfl
    simp -dsimp only [go_sem, ↓reduceIte, reduceCtorEq, Nat.reduceEqDiff, Nat.reduceAdd, Nat.reduceLeDiff, Nat.reduceMul, Int.reduceBEq, Int.reduceBNe, Int.reduceLT, Int.reduceLE, Int.reduceGT, Int.reduceGE, r1.cell]
    refine If_joint (fun y : Nat => [(1, .int .i64 y), (2, .pointer (some ⟨b1, 0, none⟩))]) (fun y h' => h' = h2 ∧ y = most.toNat) ?_ ?_ ?_
    · intro h0
      simp -dsimp only [go_sem, ↓reduceIte, reduceCtorEq, Nat.reduceEqDiff, Nat.reduceAdd, Nat.reduceLeDiff, Nat.reduceMul, Int.reduceBEq, Int.reduceBNe, Int.reduceLT, Int.reduceLE, Int.reduceGT, Int.reduceGE, r1.cell]
      exact ⟨0, by simp [Le, find], by omega⟩
    · intro h0
      simp -dsimp only [go_sem, ↓reduceIte, reduceCtorEq, Nat.reduceEqDiff, Nat.reduceAdd, Nat.reduceLeDiff, Nat.reduceMul, Int.reduceBEq, Int.reduceBNe, Int.reduceLT, Int.reduceLE, Int.reduceGT, Int.reduceGE, r1.cell]
      exact ⟨most.toNat, by simp [Le, find]; omega, rfl⟩
    rintro y h3 ⟨hh, hy⟩ e ⟨e1, e2, -⟩
    obtain rfl : h2 = h3 := hh.symm
    simp -dsimp only [go_sem, ↓reduceIte, reduceCtorEq, Nat.reduceEqDiff, Nat.reduceAdd, Nat.reduceLeDiff, Nat.reduceMul, Int.reduceBEq, Int.reduceBNe, Int.reduceLT, Int.reduceLE, Int.reduceGT, Int.reduceGE, e1, e2, r1.cell]
    refine Chk_intro (by omega) ?_
    intro b4 h4 n4
    have n4_a := n4.at_
    have n4_z := n4.size
    replace p0 := p0.fresh (n4.fr (lo := 0) (hi := 0)) (by omega)
    replace r1 := r1.fr (n4.fr (lo := 0) (hi := 0)) (by omega)
    have r4 := n4.row
    rw [zeros_one, Int.toNat_natCast, brow_false] at r4
    simp -dsimp only [go_sem, ↓reduceIte, reduceCtorEq, Nat.reduceEqDiff, Nat.reduceAdd, Nat.reduceLeDiff, Nat.reduceMul, Int.reduceBEq, Int.reduceBNe, Int.reduceLT, Int.reduceLE, Int.reduceGT, Int.reduceGE, e1, e2, r1.cell, r4.cell]
    refine call_of (ref2_more (hi := hi) (lo := lo) (M := M) n [] y _ _ _ (hr0.fr p0 (by omega)) (r4.rd (by simp)) (Holder.none 1 h4 0).rd (by simp) (by omega) (by omega)) ?_
    rintro v h5 ⟨f5, sv, us, rfl, LS⟩
    have f5_z := f5.size
    replace p0 := p0.fresh f5 (by omega)
    replace r1 := r1.fr f5 (by omega)
    replace r4 := r4.fr f5 (by omega)
    simp -dsimp only [go_sem, ↓reduceIte, reduceCtorEq, Nat.reduceEqDiff, Nat.reduceAdd, Nat.reduceLeDiff, Nat.reduceMul, Int.reduceBEq, Int.reduceBNe, Int.reduceLT, Int.reduceLE, Int.reduceGT, Int.reduceGE, e1, e2, r1.cell, r4.cell]
    subst hy
    exact ⟨p0, sv, us, by rw [extB, hall], by rw [extS, hall]; exact LS.lower (by omega)⟩
end Go.Proofs.Tst
/-
  Lists of lists that are written over, row by row; rows that are grown behind one's back.
-/
namespace Go.Vc
open Go
def mv (k : Nat) : Value := .int .i64 (-1 - (k : Int))
def rowM (k c : Nat) (l : List Value) : List Value := List.replicate (min c l.length) (mv k) ++ l.drop c
def mrk (L : List (List Value)) (i j : Nat) : List (List Value) := L.mapIdx fun k l => if k < i then rowM k l.length l else if k = i then rowM k j l else l
@[simp] theorem rowM_len {k c : Nat} {l : List Value} : (rowM k c l).length = l.length := by unfold rowM; simp; omega
theorem rowM_zero {k : Nat} {l : List Value} : rowM k 0 l = l := by simp [rowM]
theorem rowM_set {k j : Nat} {l : List Value} (hj : j < l.length) : (rowM k j l).set j (mv k) = rowM k (j + 1) l := by
  apply List.ext_getElem?
  intro x
  unfold rowM
  rw [Nat.min_eq_left (by omega), Nat.min_eq_left (by omega)]
  by_cases hx : x < j
  · rw [List.getElem?_set_ne (by omega), List.getElem?_append_left (by simpa using hx), List.getElem?_append_left (by simp; omega)]
    simp [hx, show x < j + 1 from by omega]
  · by_cases hxj : x = j
    · subst hxj
      rw [List.getElem?_set_self (by simp; omega), List.getElem?_append_left (by simp)]
      simp
    · rw [List.getElem?_set_ne (fun h => hxj h.symm), List.getElem?_append_right (by simp; omega), List.getElem?_append_right (by simp; omega)]
      simp only [List.length_replicate, List.getElem?_drop]
      congr 1; omega
theorem rowM_get {k j x : Nat} {l : List Value} (hj : x < j) (hx : x < l.length) : (rowM k j l)[x]? = some (mv k) := by
  unfold rowM
  rw [List.getElem?_append_left (by simp; omega), List.getElem?_replicate, if_pos (by omega)]
theorem mrk_get {L : List (List Value)} {i j k : Nat} : (mrk L i j)[k]? = (L[k]?).map fun l => if k < i then rowM k l.length l else if k = i then rowM k j l else l := by
  unfold mrk; rw [List.getElem?_mapIdx]
@[simp] theorem mrk_len {L : List (List Value)} {i j : Nat} : (mrk L i j).length = L.length := by simp [mrk]
theorem mrk_zero {L : List (List Value)} : mrk L 0 0 = L := by
  apply List.ext_getElem?; intro k
  rw [mrk_get]
  by_cases hk : k = 0
  · subst hk; cases L[0]? <;> simp [rowM_zero]
  · cases L[k]? <;> simp [hk]
theorem mrk_at {L : List (List Value)} {i j : Nat} {l : List Value} (hi : L[i]? = some l) : (mrk L i j)[i]? = some (rowM i j l) := by
  rw [mrk_get, hi]; simp
theorem mrk_set {L : List (List Value)} {i j : Nat} {l : List Value} (hi : L[i]? = some l) : (mrk L i j).set i (rowM i (j + 1) l) = mrk L i (j + 1) := by
  have hil := (List.getElem?_eq_some_iff.1 hi).1
  apply List.ext_getElem?; intro k
  by_cases hk : k = i
  · subst hk
    rw [List.getElem?_set_self (by simpa using hil), mrk_at hi]
  · rw [List.getElem?_set_ne (fun h => hk h.symm), mrk_get, mrk_get]
    simp [hk]
theorem mrk_set' {L : List (List Value)} {i j : Nat} {l : List Value} (hi : L[i]? = some l) : (mrk L i j).set i (rowM i j l) = mrk L i j := by
  have hil := (List.getElem?_eq_some_iff.1 hi).1
  apply List.ext_getElem?; intro k
  by_cases hk : k = i
  · subst hk
    rw [List.getElem?_set_self (by simpa using hil), mrk_at hi]
  · rw [List.getElem?_set_ne (fun h => hk h.symm)]
theorem mrk_next {L : List (List Value)} {i : Nat} {l : List Value} (hi : L[i]? = some l) : mrk L i l.length = mrk L (i + 1) 0 := by
  apply List.ext_getElem?; intro k
  rw [mrk_get, mrk_get]
  by_cases hk : k = i
  · subst hk; rw [hi]; simp
  · by_cases hk1 : k < i
    · simp [hk1, show k < i + 1 from by omega]
    · have : ¬ k < i + 1 := by omega
      by_cases hk2 : k = i + 1
      · subst hk2; cases L[i + 1]? <;> simp [rowM_zero, show ¬ i + 1 < i from by omega]
      · simp [hk, hk1, this, hk2]
theorem mrk_end {L : List (List Value)} {k : Nat} {l : List Value} (hk : L[k]? = some l) : (mrk L L.length 0)[k]? = some (rowM k l.length l) := by
  rw [mrk_get, hk]; simp [(List.getElem?_eq_some_iff.1 hk).1]
/-- A store behind what it holds. -/
theorem Holder.beyond {h h' : Heap} {b n c j : Nat} {xs : List Value} {x : Value} {lo : Nat} (w : Holder 1 h (.slice (some ⟨b, 0, Option.none⟩) n c) n xs lo) (hj : n ≤ j) (s : Sto h h' b j [x]) : Holder 1 h' (.slice (some ⟨b, 0, Option.none⟩) n c) n xs lo := by
  have hl := w.1
  obtain ⟨_, ⟨h1, _⟩ | ⟨b', c', rest, h1, h2, h3, h4⟩⟩ := w
  · simp at h1
  cases h1
  refine ⟨hl, .inr ⟨b, c, rest.set (j - n) x, rfl, ?_, by simpa using h3, h4⟩⟩
  have := s.row h2
  rw [putAt_one, List.set_append_right _ _ (by omega)] at this
  rwa [show j - xs.length = j - n from by omega] at this
/-- What is appended to, and what it was. -/
theorem Holder.appendOld {bytes : Nat} {zero : List Value} {h : Heap} {a : Option Addr} {n c : Nat} {xs new : List Value} {m lo : Nat} {K : Value → Heap → Prop} {d : Dep K}
    (w : Holder 1 h (.slice a n c) n xs lo) (hz : zero.length = 1) (hlo : lo ≤ h.size) (hm : new.length = m * 1) (hbig : (n + m) * 2 * bytes ≤ 281474976710656)
    (hK : ∀ v' h', Holder 1 h' v' (n + m) (xs ++ new) lo → Holder 1 h' (.slice a n c) n xs lo → Fr (bl (.slice a n c)) (bh (.slice a n c)) h h' → bl v' = bl (.slice a n c) ∧ h'.size = h.size ∨ bl v' = h.size ∧ h'.size = h.size + 1 ∨ bh v' = 0 ∧ h' = h → K v' h') :
    appB 1 bytes zero h a n c new m K d := by
  have hlen := w.1
  have w0 := w
  refine ⟨fun hfit => ?_, fun hfit => ⟨hbig, ?_⟩⟩
  · obtain ⟨_, ⟨h1, rfl⟩ | ⟨b, c', rest, h1, h2, h3, h4⟩⟩ := w
    · cases h1
      have hm0 : m = 0 := by omega
      subst hm0
      refine ⟨rfl, hK _ _ ⟨by simp at hm hlen; simp [hm, hlen], .inl ⟨rfl, rfl⟩⟩ w0 (.refl _ _ _) (.inr (.inr ⟨rfl, rfl⟩))⟩
    · cases h1
      simp only [Nat.zero_add]
      refine ⟨h2.wr (by simp [hlen]; omega), fun h' st => ?_⟩
      have := st.row h2
      rw [← hlen, ← List.take_append_drop (m * 1) rest, ← List.append_assoc, putAt_mid _ _ _ _ (by simp [hm]; omega)] at this
      refine hK _ _ ⟨by simp [hlen, hm, Nat.add_mul], .inr ⟨b, _, rest.drop (m * 1), rfl, ?_, by simp; omega, h4⟩⟩ ⟨hlen, .inr ⟨b, _, new ++ rest.drop (m * 1), rfl, ?_, by simp; omega, h4⟩⟩ st.fr (.inl ⟨rfl, st.size⟩)
      · simpa using this
      · simpa using this
  · have hold : ∃ old : List Value, old = xs ∧ (old = [] ∧ a = Option.none ∧ n = 0 ∨ ∃ b o, a = some ⟨b, o, Option.none⟩ ∧ old.length = n * 1 ∧ ∀ j v, old[j]? = some v → hcell h b (o + j) = some v) := by
      refine ⟨xs, rfl, ?_⟩
      obtain ⟨_, ⟨h1, rfl⟩ | ⟨b, c', rest, h1, h2, h3, h4⟩⟩ := w
      · cases h1; exact .inl ⟨by simpa using hlen, rfl, rfl⟩
      · cases h1
        refine .inr ⟨b, 0, rfl, hlen, fun j v hj => ?_⟩
        rw [h2.cell, Nat.zero_add, List.getElem?_append_left (List.getElem?_eq_some_iff.1 hj).1, hj]
    obtain ⟨old, rfl, hold⟩ := hold
    refine ⟨old, hold, fun c' b' h' hc' nw => ?_⟩
    refine hK _ _ ⟨by simp [hlen, hm, Nat.add_mul], .inr ⟨b', c', zeros zero (c' - (n + m)), rfl, nw.row, ?_, by rw [nw.at_]; exact hlo⟩⟩ (w0.fr (nw.fr (lo := 0) (hi := 0)) (by omega)) nw.fr (.inr (.inl ⟨nw.at_, nw.size⟩))
    rw [length_zeros, hz, ← Nat.add_mul]; congr 1; omega
/-- Grown, and the last one stored: what was there stays. -/
theorem grown {h8 h9 h10 : Heap} {u : Value} {b n m j c : Nat} {xs ys : List Value} {x : Value} {lo : Nat} (h0 : 0 < lo) (hlo : lo ≤ h8.size) (o : Holder 1 h9 (.slice (some ⟨b, 0, none⟩) m c) m ys lo) (w : Holder 1 h9 u n xs lo) (hj : n ≤ j)
    (f : Fr (bl u) (bh u) h8 h9) (e : b = bl u ∧ h9.size = h8.size ∨ b = h8.size ∧ h9.size = h8.size + 1 ∨ b + 1 = 0 ∧ h9 = h8) (s : Sto h9 h10 b j [x]) (hw : bh u ≤ h8.size) : Holder 1 h10 u n xs lo ∧ Fr (bl u) (bh u) h8 h10 := by
  have hb : lo ≤ b := by
    have := o.at_
    simp only [bl, bh] at this; omega
  have hu := bh_bl u
  have hf : Fr (bl u) (bh u) h8 h10 := f.freshIn s.fr (by omega)
  refine ⟨?_, hf⟩
  rcases e with ⟨e, -⟩ | ⟨e, -⟩ | ⟨e, -⟩
  · obtain ⟨_, ⟨h1, _⟩ | ⟨b', c', rest, h1, h2, h3, h4⟩⟩ := id w
    · subst h1; simp [bl] at e; omega
    · subst h1
      obtain rfl : b = b' := e
      exact w.beyond hj s
  · exact w.fr s.fr (by omega)
  · omega
end Go.Vc
