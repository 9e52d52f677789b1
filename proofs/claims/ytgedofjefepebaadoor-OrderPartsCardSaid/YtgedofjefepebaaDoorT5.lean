/-
  Contracts of functions that the law reaches: what each returns and what it leaves in memory. Conditions stand in each.
-/
import Derived.Test.YtgedofjefepebaaDoorT4
set_option linter.all false
set_option maxRecDepth 2000
namespace Go.Proofs.Tst
open Go Go.Vc
theorem ref1_Has {n : Nat} {M : Nat → Nat → Bool} {rv : Value} {lo hi : Nat} {h : Heap} (hr : RefAt h lo hi rv n M) (a b : Int) :
    Con Tryd.prog 98 #[rv, .int .i64 a, .int .i64 b] h fun v h' => Fr 0 0 h h' ∧ v = .bool (inR n a && inR n b && M a.toNat b.toNat) := by
  refine con_ref1_Has ?_
  obtain ⟨hn, s, R, rfl, t⟩ := hr
  obtain ⟨sa, sc, rfl⟩ := t.own.is
  have p0 : Fr 0 0 h h := .refl _ _ _
  simp -dsimp only [go_sem, ↓reduceIte, reduceCtorEq, Nat.reduceEqDiff, Nat.reduceAdd, Nat.reduceLeDiff, Nat.reduceMul, Int.reduceBEq, Int.reduceBNe, Int.reduceLT, Int.reduceLE, Int.reduceGT, Int.reduceGE]
  intro b1 h1 n1
  have n1_a := n1.at_
  have n1_z := n1.size
  replace p0 := p0.fresh (n1.fr (lo := 0) (hi := 0)) (by omega)
  have r1 := n1.row
  simp -dsimp only [go_sem, ↓reduceIte, reduceCtorEq, Nat.reduceEqDiff, Nat.reduceAdd, Nat.reduceLeDiff, Nat.reduceMul, Int.reduceBEq, Int.reduceBNe, Int.reduceLT, Int.reduceLE, Int.reduceGT, Int.reduceGE, r1.cell]
  refine call_of (ref1_in n a _ h1) ?_
  rintro v h2 ⟨f2, rfl⟩
  have f2_z := f2.size
  replace p0 := p0.fresh f2 (by omega)
  replace r1 := r1.fr f2 (by omega)
  cases ha : inR n a with
  | false =>
    simp -dsimp only [go_sem, ↓reduceIte, reduceCtorEq, Nat.reduceEqDiff, Nat.reduceAdd, Nat.reduceLeDiff, Nat.reduceMul, Int.reduceBEq, Int.reduceBNe, Int.reduceLT, Int.reduceLE, Int.reduceGT, Int.reduceGE, r1.cell]
    exact ⟨p0, by simp⟩
  | true =>
    simp -dsimp only [go_sem, ↓reduceIte, reduceCtorEq, Nat.reduceEqDiff, Nat.reduceAdd, Nat.reduceLeDiff, Nat.reduceMul, Int.reduceBEq, Int.reduceBNe, Int.reduceLT, Int.reduceLE, Int.reduceGT, Int.reduceGE, r1.cell]
    refine call_of (ref1_in n b _ h2) ?_
    rintro v h3 ⟨f3, rfl⟩
    have f3_z := f3.size
    replace p0 := p0.fresh f3 (by omega)
    replace r1 := r1.fr f3 (by omega)
    cases hb : inR n b with
    | false =>
      simp -dsimp only [go_sem, ↓reduceIte, reduceCtorEq, Nat.reduceEqDiff, Nat.reduceAdd, Nat.reduceLeDiff, Nat.reduceMul, Int.reduceBEq, Int.reduceBNe, Int.reduceLT, Int.reduceLE, Int.reduceGT, Int.reduceGE, r1.cell]
      exact ⟨p0, by simp⟩
    | true =>
      simp only [inR, decide_eq_true_eq] at ha hb
      obtain ⟨x, rfl⟩ : ∃ x : Nat, a = x := ⟨a.toNat, by omega⟩
      obtain ⟨y, rfl⟩ : ∃ y : Nat, b = y := ⟨b.toNat, by omega⟩
      have tp := t.fr p0 (by omega)
      simp -dsimp only [go_sem, ↓reduceIte, reduceCtorEq, Nat.reduceEqDiff, Nat.reduceAdd, Nat.reduceLeDiff, Nat.reduceMul, Int.reduceBEq, Int.reduceBNe, Int.reduceLT, Int.reduceLE, Int.reduceGT, Int.reduceGE, r1.cell]
      refine Chk_intro (by omega) (tp.idx (p := x) (by omega) fun b4 o4 c4 => ?_)
      simp -dsimp only [go_sem, ↓reduceIte, reduceCtorEq, Nat.reduceEqDiff, Nat.reduceAdd, Nat.reduceLeDiff, Nat.reduceMul, Int.reduceBEq, Int.reduceBNe, Int.reduceLT, Int.reduceLE, Int.reduceGT, Int.reduceGE, c4, r1.cell]
      refine Chk_intro (by omega) ?_
      simp -dsimp only [go_sem, ↓reduceIte, reduceCtorEq, Nat.reduceEqDiff, Nat.reduceAdd, Nat.reduceLeDiff, Nat.reduceMul, Int.reduceBEq, Int.reduceBNe, Int.reduceLT, Int.reduceLE, Int.reduceGT, Int.reduceGE, tp.cell (show x < n by omega) (show y < n by omega), r1.cell]
      exact ⟨p0, by simp⟩
theorem inRN {n a : Nat} : inR n a = decide (a < n) := by unfold inR; congr 1; simp
theorem hasN {n a b : Nat} {M : Nat → Nat → Bool} : (inR n a && inR n b && M (a : Int).toNat (b : Int).toNat) = inN n M a b := by
  simp only [inRN, Int.toNat_natCast, inN]

theorem ref1_Minus {n m : Nat} {M N : Nat → Nat → Bool} {rv sv : Value} {lo hi lo' hi' : Nat} {h : Heap} (hr : RefAt h lo hi rv n M) (hs : RefAt h lo' hi' sv m N) :
    Con Tryd.prog 86 #[rv, sv] h fun v h' => Fr 0 0 h h' ∧ RefAt h' h.size h'.size v (max n m) (minusM n M m N) := by
  refine con_ref1_Minus ?_
  have hr0 := hr; have hs0 := hs
  obtain ⟨hn, s, R, rfl, t⟩ := hr
  obtain ⟨sa, sc, rfl⟩ := t.own.is
  obtain ⟨hm, s', R', rfl, t'⟩ := hs
  obtain ⟨sa', sc', rfl⟩ := t'.own.is
  have p0 : Fr 0 0 h h := .refl _ _ _
  simp -dsimp only [go_sem, ↓reduceIte, reduceCtorEq, Nat.reduceEqDiff, Nat.reduceAdd, Nat.reduceLeDiff, Nat.reduceMul, Int.reduceBEq, Int.reduceBNe, Int.reduceLT, Int.reduceLE, Int.reduceGT, Int.reduceGE]
  intro b2 h2 n2
  have n2_a := n2.at_
  have n2_z := n2.size
  replace p0 := p0.fresh (n2.fr (lo := 0) (hi := 0)) (by omega)
  have r2 := n2.row
  simp -dsimp only [go_sem, ↓reduceIte, reduceCtorEq, Nat.reduceEqDiff, Nat.reduceAdd, Nat.reduceLeDiff, Nat.reduceMul, Int.reduceBEq, Int.reduceBNe, Int.reduceLT, Int.reduceLE, Int.reduceGT, Int.reduceGE, r2.cell]
  intro b3 h3 n3
  have n3_a := n3.at_
  have n3_z := n3.size
  replace p0 := p0.fresh (n3.fr (lo := 0) (hi := 0)) (by omega)
  replace r2 := r2.fr (n3.fr (lo := 0) (hi := 0)) (by omega)
  have r3 := n3.row
  simp -dsimp only [go_sem, ↓reduceIte, reduceCtorEq, Nat.reduceEqDiff, Nat.reduceAdd, Nat.reduceLeDiff, Nat.reduceMul, Int.reduceBEq, Int.reduceBNe, Int.reduceLT, Int.reduceLE, Int.reduceGT, Int.reduceGE, r2.cell, r3.cell]
  intro b4 h4 n4
  have n4_a := n4.at_
  have n4_z := n4.size
  replace p0 := p0.fresh (n4.fr (lo := 0) (hi := 0)) (by omega)
  replace r2 := r2.fr (n4.fr (lo := 0) (hi := 0)) (by omega)
  replace r3 := r3.fr (n4.fr (lo := 0) (hi := 0)) (by omega)
  have r4 := n4.row
  simp -dsimp only [go_sem, ↓reduceIte, reduceCtorEq, Nat.reduceEqDiff, Nat.reduceAdd, Nat.reduceLeDiff, Nat.reduceMul, Int.reduceBEq, Int.reduceBNe, Int.reduceLT, Int.reduceLE, Int.reduceGT, Int.reduceGE, r2.cell, r3.cell, r4.cell]
  refine call_of (ref1_Wide (hr0.fr p0 (by omega)) m hm) ?_
  rintro v h6 ⟨f6, hmx, z, Z, rfl, t6⟩
  rw [Nat.max_comm] at hmx t6
  obtain ⟨za, zc, rfl⟩ := t6.own.is
  rw [Nat.max_comm]
  have t6_a := t6.own.at_
  have f6_z := f6.size
  replace p0 := p0.fresh f6 (by omega)
  replace r2 := r2.fr f6 (by omega)
  replace r3 := r3.fr f6 (by omega)
  replace r4 := r4.fr f6 (by omega)
  simp -dsimp only [go_sem, ↓reduceIte, reduceCtorEq, Nat.reduceEqDiff, Nat.reduceAdd, Nat.reduceLeDiff, Nat.reduceMul, Int.reduceBEq, Int.reduceBNe, Int.reduceLT, Int.reduceLE, Int.reduceGT, Int.reduceGE, r2.cell, r3.cell, r4.cell]
  intro b7 h7 n7
  have n7_a := n7.at_
  have n7_z := n7.size
  replace p0 := p0.fresh (n7.fr (lo := 0) (hi := 0)) (by omega)
  replace r2 := r2.fr (n7.fr (lo := 0) (hi := 0)) (by omega)
  replace r3 := r3.fr (n7.fr (lo := 0) (hi := 0)) (by omega)
  replace r4 := r4.fr (n7.fr (lo := 0) (hi := 0)) (by omega)
  replace t6 := t6.fr (n7.fr (lo := 0) (hi := 0)) (by omega)
  have r7 := n7.row
  simp -dsimp only [go_sem, ↓reduceIte, reduceCtorEq, Nat.reduceEqDiff, Nat.reduceAdd, Nat.reduceLeDiff, Nat.reduceMul, Int.reduceBEq, Int.reduceBNe, Int.reduceLT, Int.reduceLE, Int.reduceGT, Int.reduceGE, r2.cell, r3.cell, r4.cell, r7.cell]
  refine Chk_intro (r7.wr (by first | (simp; done) | (simp; omega))) fun h8 s8 => ?_
  have s8_z := s8.size
  replace p0 := p0.fresh s8.fr (by omega)
  replace r2 := r2.fr s8.fr (by omega)
  replace r3 := r3.fr s8.fr (by omega)
  replace r4 := r4.fr s8.fr (by omega)
  replace t6 := t6.fr s8.fr (by omega)
  replace r7 := s8.row r7
  try simp only [cl_int, cl_bool, cl_slice, cl_ptr, putAt_one, List.set_cons_zero, List.set_cons_succ, ivec_set, brow_upd] at r7
  simp -dsimp only [go_sem, ↓reduceIte, reduceCtorEq, Nat.reduceEqDiff, Nat.reduceAdd, Nat.reduceLeDiff, Nat.reduceMul, Int.reduceBEq, Int.reduceBNe, Int.reduceLT, Int.reduceLE, Int.reduceGT, Int.reduceGE, r2.cell, r3.cell, r4.cell, r7.cell]
  refine loop_intro (fun p : Nat => [(3, .pointer (some ⟨b3, 0, none⟩)), (4, .pointer (some ⟨b4, 0, none⟩)), (5, .pointer (some ⟨b7, 0, none⟩)), (6, .int .i64 p)]) (fun p h' => p ≤ (max n m) ∧ Fr 0 0 h h' ∧ h8.size ≤ h'.size ∧ Rw h' b3 [.int .i64 m, .slice sa' m sc'] ∧ Rw h' b4 [.int .i64 0, .slice none 0 0] ∧ Rw h' b7 [.int .i64 (max n m : Nat), .slice za (max n m) zc] ∧ Tab h' h4.size h6.size (.slice za (max n m) zc) (max n m) (max n m) Z (mixM p 0 (max n m) (minusM n M m N) (inN n M))) (fun p => (max n m) - p) 0 ?_ ?_ ?_
  · simp [Le, find]
  · exact ⟨by omega, p0, by omega, r3, r4, r7, t6.congr fun i j _ _ => by rw [mixM_zero]⟩
  rintro p hP ⟨hp, p0, yP, r3, r4, r7, t6⟩
  have p0_z := p0.size
  have r3_l := r3.lt
  have r4_l := r4.lt
  have r7_l := r7.lt
  simp -dsimp only [go_sem, ↓reduceIte, reduceCtorEq, Nat.reduceEqDiff, Nat.reduceAdd, Nat.reduceLeDiff, Nat.reduceMul, Int.reduceBEq, Int.reduceBNe, Int.reduceLT, Int.reduceLE, Int.reduceGT, Int.reduceGE, r3.cell, r4.cell, r7.cell]
  refine ⟨fun hlt1 => ?_, fun hge1 => ?_⟩
  · have hlt1 : p < (max n m) := by omega
    simp -dsimp only [go_sem, ↓reduceIte, reduceCtorEq, Nat.reduceEqDiff, Nat.reduceAdd, Nat.reduceLeDiff, Nat.reduceMul, Int.reduceBEq, Int.reduceBNe, Int.reduceLT, Int.reduceLE, Int.reduceGT, Int.reduceGE, r3.cell, r4.cell, r7.cell]
    refine loop_intro (fun q : Nat => [(3, .pointer (some ⟨b3, 0, none⟩)), (4, .pointer (some ⟨b4, 0, none⟩)), (5, .pointer (some ⟨b7, 0, none⟩)), (6, .int .i64 p), (7, .int .i64 q)]) (fun q h' => q ≤ (max n m) ∧ Fr 0 0 h h' ∧ h8.size ≤ h'.size ∧ Rw h' b3 [.int .i64 m, .slice sa' m sc'] ∧ Rw h' b4 [.int .i64 0, .slice none 0 0] ∧ Rw h' b7 [.int .i64 (max n m : Nat), .slice za (max n m) zc] ∧ Tab h' h4.size h6.size (.slice za (max n m) zc) (max n m) (max n m) Z (mixM p q (max n m) (minusM n M m N) (inN n M))) (fun q => (max n m) - q) 0 ?_ ?_ ?_
    · simp [Le, find]
    · exact ⟨by omega, p0, by omega, r3, r4, r7, t6⟩
    rintro q hQ ⟨hq, p0, yQ, r3, r4, r7, t6⟩
    have p0_z := p0.size
    have r3_l := r3.lt
    have r4_l := r4.lt
    have r7_l := r7.lt
    simp -dsimp only [go_sem, ↓reduceIte, reduceCtorEq, Nat.reduceEqDiff, Nat.reduceAdd, Nat.reduceLeDiff, Nat.reduceMul, Int.reduceBEq, Int.reduceBNe, Int.reduceLT, Int.reduceLE, Int.reduceGT, Int.reduceGE, r3.cell, r4.cell, r7.cell]
    refine ⟨fun hlt2 => ?_, fun hge2 => ?_⟩
    · have hlt2 : q < (max n m) := by omega
      have hold : mixM p q (max n m) (minusM n M m N) (inN n M) p q = inN n M p q := mixM_same rfl (Nat.le_refl _)
      simp -dsimp only [go_sem, ↓reduceIte, reduceCtorEq, Nat.reduceEqDiff, Nat.reduceAdd, Nat.reduceLeDiff, Nat.reduceMul, Int.reduceBEq, Int.reduceBNe, Int.reduceLT, Int.reduceLE, Int.reduceGT, Int.reduceGE, r3.cell, r4.cell, r7.cell]
      refine Chk_intro (by omega) (t6.idx (p := p) (by omega) fun b9 o9 c9 => ?_)
      simp -dsimp only [go_sem, ↓reduceIte, reduceCtorEq, Nat.reduceEqDiff, Nat.reduceAdd, Nat.reduceLeDiff, Nat.reduceMul, Int.reduceBEq, Int.reduceBNe, Int.reduceLT, Int.reduceLE, Int.reduceGT, Int.reduceGE, c9, r3.cell, r4.cell, r7.cell]
      refine Chk_intro (by omega) (t6.idx (p := p) (by omega) fun b9' o9' d9 => ?_)
      simp -dsimp only [go_sem, ↓reduceIte, reduceCtorEq, Nat.reduceEqDiff, Nat.reduceAdd, Nat.reduceLeDiff, Nat.reduceMul, Int.reduceBEq, Int.reduceBNe, Int.reduceLT, Int.reduceLE, Int.reduceGT, Int.reduceGE, d9, r3.cell, r4.cell, r7.cell]
      refine Chk_intro (by omega) ?_
      simp -dsimp only [go_sem, ↓reduceIte, reduceCtorEq, Nat.reduceEqDiff, Nat.reduceAdd, Nat.reduceLeDiff, Nat.reduceMul, Int.reduceBEq, Int.reduceBNe, Int.reduceLT, Int.reduceLE, Int.reduceGT, Int.reduceGE, t6.cell hlt1 hlt2, r3.cell, r4.cell, r7.cell]
      rw [hold]
      cases hM : inN n M p q with
      | false =>
        simp -dsimp only [go_sem, ↓reduceIte, reduceCtorEq, Nat.reduceEqDiff, Nat.reduceAdd, Nat.reduceLeDiff, Nat.reduceMul, Int.reduceBEq, Int.reduceBNe, Int.reduceLT, Int.reduceLE, Int.reduceGT, Int.reduceGE, r3.cell, r4.cell, r7.cell]
        refine Chk_intro (by omega) ?_
        simp -dsimp only [go_sem, ↓reduceIte, reduceCtorEq, Nat.reduceEqDiff, Nat.reduceAdd, Nat.reduceLeDiff, Nat.reduceMul, Int.reduceBEq, Int.reduceBNe, Int.reduceLT, Int.reduceLE, Int.reduceGT, Int.reduceGE, r3.cell, r4.cell, r7.cell]
        refine Chk_intro (t6.wr (by omega) (by omega)) fun h10 s10 => ?_
        have s10_z := s10.size
        have w_row := t6.row p (by omega)
        have t_new := t6.set (p := p) (q := q) (by omega) s10
        replace p0 := p0.fresh s10.fr (by omega)
        replace r3 := r3.fr s10.fr (by omega)
        replace r4 := r4.fr s10.fr (by omega)
        replace r7 := r7.fr s10.fr (by omega)
        simp -dsimp only [go_sem, ↓reduceIte, reduceCtorEq, Nat.reduceEqDiff, Nat.reduceAdd, Nat.reduceLeDiff, Nat.reduceMul, Int.reduceBEq, Int.reduceBNe, Int.reduceLT, Int.reduceLE, Int.reduceGT, Int.reduceGE, r3.cell, r4.cell, r7.cell]
        simp -dsimp (disch := omega) only [wrap64]
        exact ⟨q + 1, by omega, by simp [Le, find], by omega, p0, by omega, r3, r4, r7, t_new.congr fun i j hi hj => mixM_set (by simp [minusM, interM, minusM, hM])⟩
      | true =>
        simp -dsimp only [go_sem, ↓reduceIte, reduceCtorEq, Nat.reduceEqDiff, Nat.reduceAdd, Nat.reduceLeDiff, Nat.reduceMul, Int.reduceBEq, Int.reduceBNe, Int.reduceLT, Int.reduceLE, Int.reduceGT, Int.reduceGE, r3.cell, r4.cell, r7.cell]
        refine call_of (ref1_Has (hs0.fr p0 (by omega)) p q) ?_
        rintro v h10 ⟨f10, rfl⟩
        rw [hasN]
        have c9' := f10.keep c9 (by omega)
        have d9' := f10.keep d9 (by omega)
        have c10 := t6.cell hlt1 hlt2
        rw [hold, hM] at c10
        have c10' := f10.keep c10 (by omega)
        have f10_z := f10.size
        replace p0 := p0.fresh f10 (by omega)
        replace r3 := r3.fr f10 (by omega)
        replace r4 := r4.fr f10 (by omega)
        replace r7 := r7.fr f10 (by omega)
        replace t6 := t6.fr f10 (by omega)
        simp -dsimp only [go_sem, ↓reduceIte, reduceCtorEq, Nat.reduceEqDiff, Nat.reduceAdd, Nat.reduceLeDiff, Nat.reduceMul, Int.reduceBEq, Int.reduceBNe, Int.reduceLT, Int.reduceLE, Int.reduceGT, Int.reduceGE, c9', d9', c10', r3.cell, r4.cell, r7.cell]
        refine Chk_intro (by omega) ?_
        simp -dsimp only [go_sem, ↓reduceIte, reduceCtorEq, Nat.reduceEqDiff, Nat.reduceAdd, Nat.reduceLeDiff, Nat.reduceMul, Int.reduceBEq, Int.reduceBNe, Int.reduceLT, Int.reduceLE, Int.reduceGT, Int.reduceGE, r3.cell, r4.cell, r7.cell]
        refine Chk_intro (t6.wr (by omega) (by omega)) fun h11 s11 => ?_
        have s11_z := s11.size
        have w_row := t6.row p (by omega)
        have t_new := t6.set (p := p) (q := q) (by omega) s11
        replace p0 := p0.fresh s11.fr (by omega)
        replace r3 := r3.fr s11.fr (by omega)
        replace r4 := r4.fr s11.fr (by omega)
        replace r7 := r7.fr s11.fr (by omega)
        simp -dsimp only [go_sem, ↓reduceIte, reduceCtorEq, Nat.reduceEqDiff, Nat.reduceAdd, Nat.reduceLeDiff, Nat.reduceMul, Int.reduceBEq, Int.reduceBNe, Int.reduceLT, Int.reduceLE, Int.reduceGT, Int.reduceGE, r3.cell, r4.cell, r7.cell]
        simp -dsimp (disch := omega) only [wrap64]
        exact ⟨q + 1, by omega, by simp [Le, find], by omega, p0, by omega, r3, r4, r7, t_new.congr fun i j hi hj => mixM_set (by simp [minusM, interM, minusM, hM])⟩
    · have hqn : q = (max n m) := by omega
      simp -dsimp only [go_sem, ↓reduceIte, reduceCtorEq, Nat.reduceEqDiff, Nat.reduceAdd, Nat.reduceLeDiff, Nat.reduceMul, Int.reduceBEq, Int.reduceBNe, Int.reduceLT, Int.reduceLE, Int.reduceGT, Int.reduceGE, r3.cell, r4.cell, r7.cell]
      simp -dsimp (disch := omega) only [wrap64]
      exact ⟨p + 1, by omega, by simp [Le, find], by omega, p0, by omega, r3, r4, r7, t6.congr fun i j _ _ => by rw [hqn]; exact mixM_next⟩
  have hpn : p = (max n m) := by omega
  simp -dsimp only [go_sem, ↓reduceIte, reduceCtorEq, Nat.reduceEqDiff, Nat.reduceAdd, Nat.reduceLeDiff, Nat.reduceMul, Int.reduceBEq, Int.reduceBNe, Int.reduceLT, Int.reduceLE, Int.reduceGT, Int.reduceGE, r3.cell, r4.cell, r7.cell]
  refine Chk_intro (r4.wr (by first | (simp; done) | (simp; omega))) fun h9 s9 => ?_
  have s9_z := s9.size
  replace p0 := p0.fresh s9.fr (by omega)
  replace r3 := r3.fr s9.fr (by omega)
  replace r7 := r7.fr s9.fr (by omega)
  replace t6 := t6.fr s9.fr (by omega)
  replace r4 := s9.row r4
  try simp only [cl_int, cl_bool, cl_slice, cl_ptr, putAt_one, List.set_cons_zero, List.set_cons_succ, ivec_set, brow_upd] at r4
  simp -dsimp only [go_sem, ↓reduceIte, reduceCtorEq, Nat.reduceEqDiff, Nat.reduceAdd, Nat.reduceLeDiff, Nat.reduceMul, Int.reduceBEq, Int.reduceBNe, Int.reduceLT, Int.reduceLE, Int.reduceGT, Int.reduceGE, r3.cell, r4.cell, r7.cell]
  refine ⟨p0, hmx, _, Z, rfl, ((t6.mono (by omega) (by omega)).congr fun i j hi hj => ?_)⟩
  rw [hpn, mixM_end hi hj]
end Go.Proofs.Tst
namespace Go.Proofs.Tst
open Go Go.Vc
end Go.Proofs.Tst
namespace Go.Proofs.Tst
open Go Go.Vc
set_option maxHeartbeats 800000 in
theorem ref1_Plus {n : Nat} {M : Nat → Nat → Bool} {rv : Value} {lo hi : Nat} {h : Heap} (hr : RefAt h lo hi rv n M) :
    Con Tryd.prog 84 #[rv] h fun v h' => Fr 0 0 h h' ∧ RefAt h' h.size h'.size v n (plusM n M) := by
  refine con_ref1_Plus ?_
  have hr0 := hr
  obtain ⟨hn, s, R, rfl, t⟩ := hr
  obtain ⟨sa, sc, rfl⟩ := t.own.is
  have p0 : Fr 0 0 h h := .refl _ _ _
  simp -dsimp only [go_sem, ↓reduceIte, reduceCtorEq, Nat.reduceEqDiff, Nat.reduceAdd, Nat.reduceLeDiff, Nat.reduceMul, Int.reduceBEq, Int.reduceBNe, Int.reduceLT, Int.reduceLE, Int.reduceGT, Int.reduceGE]
  intro b1 h1 n1
  have n1_a := n1.at_
  have n1_z := n1.size
  replace p0 := p0.fresh (n1.fr (lo := 0) (hi := 0)) (by omega)
  have r1 := n1.row
  simp -dsimp only [go_sem, ↓reduceIte, reduceCtorEq, Nat.reduceEqDiff, Nat.reduceAdd, Nat.reduceLeDiff, Nat.reduceMul, Int.reduceBEq, Int.reduceBNe, Int.reduceLT, Int.reduceLE, Int.reduceGT, Int.reduceGE, r1.cell]
  intro b4 h4 n4
  have n4_a := n4.at_
  have n4_z := n4.size
  replace p0 := p0.fresh (n4.fr (lo := 0) (hi := 0)) (by omega)
  replace r1 := r1.fr (n4.fr (lo := 0) (hi := 0)) (by omega)
  have r4 := n4.row
  simp -dsimp only [go_sem, ↓reduceIte, reduceCtorEq, Nat.reduceEqDiff, Nat.reduceAdd, Nat.reduceLeDiff, Nat.reduceMul, Int.reduceBEq, Int.reduceBNe, Int.reduceLT, Int.reduceLE, Int.reduceGT, Int.reduceGE, r1.cell, r4.cell]
  refine call_of (ref1_Wide (hr0.fr p0 (by omega)) 0 (by omega)) ?_
  rw [Nat.zero_max]
  rintro v h6 ⟨f6, -, z, Z, rfl, t6⟩
  obtain ⟨za, zc, rfl⟩ := t6.own.is
  have t6_a := t6.own.at_
  have f6_z := f6.size
  replace p0 := p0.fresh f6 (by omega)
  replace r1 := r1.fr f6 (by omega)
  replace r4 := r4.fr f6 (by omega)
  simp -dsimp only [go_sem, ↓reduceIte, reduceCtorEq, Nat.reduceEqDiff, Nat.reduceAdd, Nat.reduceLeDiff, Nat.reduceMul, Int.reduceBEq, Int.reduceBNe, Int.reduceLT, Int.reduceLE, Int.reduceGT, Int.reduceGE, r1.cell, r4.cell]
  intro b7 h7 n7
  have n7_a := n7.at_
  have n7_z := n7.size
  replace p0 := p0.fresh (n7.fr (lo := 0) (hi := 0)) (by omega)
  replace r1 := r1.fr (n7.fr (lo := 0) (hi := 0)) (by omega)
  replace r4 := r4.fr (n7.fr (lo := 0) (hi := 0)) (by omega)
  replace t6 := t6.fr (n7.fr (lo := 0) (hi := 0)) (by omega)
  have r7 := n7.row
  simp -dsimp only [go_sem, ↓reduceIte, reduceCtorEq, Nat.reduceEqDiff, Nat.reduceAdd, Nat.reduceLeDiff, Nat.reduceMul, Int.reduceBEq, Int.reduceBNe, Int.reduceLT, Int.reduceLE, Int.reduceGT, Int.reduceGE, r1.cell, r4.cell, r7.cell]
  refine Chk_intro (r7.wr (by first | (simp; done) | (simp; omega))) fun h8 s8 => ?_
  have s8_z := s8.size
  replace p0 := p0.fresh s8.fr (by omega)
  replace r1 := r1.fr s8.fr (by omega)
  replace r4 := r4.fr s8.fr (by omega)
  replace t6 := t6.fr s8.fr (by omega)
  replace r7 := s8.row r7
  try simp only [cl_int, cl_bool, cl_slice, cl_ptr, putAt_one, List.set_cons_zero, List.set_cons_succ, ivec_set, brow_upd] at r7
  simp -dsimp only [go_sem, ↓reduceIte, reduceCtorEq, Nat.reduceEqDiff, Nat.reduceAdd, Nat.reduceLeDiff, Nat.reduceMul, Int.reduceBEq, Int.reduceBNe, Int.reduceLT, Int.reduceLE, Int.reduceGT, Int.reduceGE, r1.cell, r4.cell, r7.cell]
  refine loop_intro (fun k : Nat => [(2, .pointer (some ⟨b4, 0, none⟩)), (3, .pointer (some ⟨b7, 0, none⟩)), (4, .int .i64 k)])
    (fun k h' => k ≤ n ∧ Fr 0 0 h h' ∧ h8.size ≤ h'.size ∧ Rw h' b4 [.int .i64 0, .slice none 0 0] ∧ Rw h' b7 [.int .i64 n, .slice za n zc] ∧ Tab h' h4.size h6.size (.slice za n zc) n n Z (warM n M k)) (fun k => n - k) 0 ?_ ?_ ?_
  · simp [Le, find]
  · exact ⟨by omega, p0, by omega, r4, r7, t6.congr fun i j hi hj => by rw [inN_in hi hj]; rfl⟩
  rintro k h9 ⟨hk, p0, y9, r4, r7, t6⟩
  have p0_z := p0.size
  have r4_l := r4.lt
  have r7_l := r7.lt
  simp -dsimp only [go_sem, ↓reduceIte, reduceCtorEq, Nat.reduceEqDiff, Nat.reduceAdd, Nat.reduceLeDiff, Nat.reduceMul, Int.reduceBEq, Int.reduceBNe, Int.reduceLT, Int.reduceLE, Int.reduceGT, Int.reduceGE, r4.cell, r7.cell]
  refine ⟨fun hlt => ?_, fun hge => ?_⟩
  · have hlt : k < n := by omega
    simp -dsimp only [go_sem, ↓reduceIte, reduceCtorEq, Nat.reduceEqDiff, Nat.reduceAdd, Nat.reduceLeDiff, Nat.reduceMul, Int.reduceBEq, Int.reduceBNe, Int.reduceLT, Int.reduceLE, Int.reduceGT, Int.reduceGE, r4.cell, r7.cell]
    refine loop_intro (fun p : Nat => [(2, .pointer (some ⟨b4, 0, none⟩)), (3, .pointer (some ⟨b7, 0, none⟩)), (4, .int .i64 k), (5, .int .i64 p)])
      (fun p h' => p ≤ n ∧ Fr 0 0 h h' ∧ h8.size ≤ h'.size ∧ Rw h' b4 [.int .i64 0, .slice none 0 0] ∧ Rw h' b7 [.int .i64 n, .slice za n zc] ∧ Tab h' h4.size h6.size (.slice za n zc) n n Z (mixM p 0 n (warM n M (k + 1)) (warM n M k))) (fun p => n - p) 0 ?_ ?_ ?_
    · simp [Le, find]
    · exact ⟨by omega, p0, by omega, r4, r7, t6.congr fun i j _ _ => by rw [mixM_zero]⟩
    rintro p h10 ⟨hp, p0, y10, r4, r7, t6⟩
    have p0_z := p0.size
    have r4_l := r4.lt
    have r7_l := r7.lt
    simp -dsimp only [go_sem, ↓reduceIte, reduceCtorEq, Nat.reduceEqDiff, Nat.reduceAdd, Nat.reduceLeDiff, Nat.reduceMul, Int.reduceBEq, Int.reduceBNe, Int.reduceLT, Int.reduceLE, Int.reduceGT, Int.reduceGE, r4.cell, r7.cell]
    refine ⟨fun hlt1 => ?_, fun hge1 => ?_⟩
    · have hlt1 : p < n := by omega
      simp -dsimp only [go_sem, ↓reduceIte, reduceCtorEq, Nat.reduceEqDiff, Nat.reduceAdd, Nat.reduceLeDiff, Nat.reduceMul, Int.reduceBEq, Int.reduceBNe, Int.reduceLT, Int.reduceLE, Int.reduceGT, Int.reduceGE, r4.cell, r7.cell]
      refine loop_intro (fun q : Nat => [(2, .pointer (some ⟨b4, 0, none⟩)), (3, .pointer (some ⟨b7, 0, none⟩)), (4, .int .i64 k), (5, .int .i64 p), (6, .int .i64 q)])
        (fun q h' => q ≤ n ∧ (warM n M k p k = false → q = 0) ∧ Fr 0 0 h h' ∧ h8.size ≤ h'.size ∧ Rw h' b4 [.int .i64 0, .slice none 0 0] ∧ Rw h' b7 [.int .i64 n, .slice za n zc] ∧ Tab h' h4.size h6.size (.slice za n zc) n n Z (mixM p q n (warM n M (k + 1)) (warM n M k))) (fun q => n - q) 0 ?_ ?_ ?_
      · simp [Le, find]
      · exact ⟨by omega, fun _ => rfl, p0, by omega, r4, r7, t6⟩
      rintro q h11 ⟨hq, hq0, p0, y11, r4, r7, t6⟩
      have p0_z := p0.size
      have r4_l := r4.lt
      have r7_l := r7.lt
      have hpk : mixM p q n (warM n M (k + 1)) (warM n M k) p k = warM n M k p k := by
        unfold mixM; split
        · have : warM n M (k + 1) p k = warM n M k p k := by simp only [warM]; cases warM n M k p k <;> simp
          exact this
        · rfl
      have hkq : q < n → mixM p q n (warM n M (k + 1)) (warM n M k) k q = warM n M k k q := fun _ => by
        unfold mixM; split
        · exact warM_self n M k q
        · rfl
      have hpq : mixM p q n (warM n M (k + 1)) (warM n M k) p q = warM n M k p q := mixM_same rfl (Nat.le_refl _)
      simp -dsimp only [go_sem, ↓reduceIte, reduceCtorEq, Nat.reduceEqDiff, Nat.reduceAdd, Nat.reduceLeDiff, Nat.reduceMul, Int.reduceBEq, Int.reduceBNe, Int.reduceLT, Int.reduceLE, Int.reduceGT, Int.reduceGE, r4.cell, r7.cell]
      refine Chk_intro (by omega) (t6.idx (p := p) (by omega) fun b9 o9 c9 => ?_)
      simp -dsimp only [go_sem, ↓reduceIte, reduceCtorEq, Nat.reduceEqDiff, Nat.reduceAdd, Nat.reduceLeDiff, Nat.reduceMul, Int.reduceBEq, Int.reduceBNe, Int.reduceLT, Int.reduceLE, Int.reduceGT, Int.reduceGE, c9, r4.cell, r7.cell]
      refine Chk_intro (by omega) ?_
      simp -dsimp only [go_sem, ↓reduceIte, reduceCtorEq, Nat.reduceEqDiff, Nat.reduceAdd, Nat.reduceLeDiff, Nat.reduceMul, Int.reduceBEq, Int.reduceBNe, Int.reduceLT, Int.reduceLE, Int.reduceGT, Int.reduceGE, t6.cell hlt1 hlt, r4.cell, r7.cell]
      rw [hpk]
      cases hM : warM n M k p k with
      | false =>
        have hq0 := hq0 hM
        subst hq0
        simp -dsimp only [go_sem, ↓reduceIte, reduceCtorEq, Nat.reduceEqDiff, Nat.reduceAdd, Nat.reduceLeDiff, Nat.reduceMul, Int.reduceBEq, Int.reduceBNe, Int.reduceLT, Int.reduceLE, Int.reduceGT, Int.reduceGE, r4.cell, r7.cell]
        simp -dsimp (disch := omega) only [wrap64]
        refine ⟨p + 1, by omega, by simp [Le, find], by omega, p0, by omega, r4, r7, t6.congr fun i j hi hj => ?_⟩
        unfold mixM
        by_cases hip : i = p
        · subst hip
          rw [if_neg (by omega), if_pos (by omega)]; simp [warM, hM]
        · by_cases h1 : i < p
          · rw [if_pos (by omega), if_pos (by omega)]
          · rw [if_neg (by omega), if_neg (by omega)]
      | true =>
        simp -dsimp only [go_sem, ↓reduceIte, reduceCtorEq, Nat.reduceEqDiff, Nat.reduceAdd, Nat.reduceLeDiff, Nat.reduceMul, Int.reduceBEq, Int.reduceBNe, Int.reduceLT, Int.reduceLE, Int.reduceGT, Int.reduceGE, r4.cell, r7.cell]
        refine ⟨fun hlt2 => ?_, fun hge2 => ?_⟩
        · have hlt2 : q < n := by omega
          simp -dsimp only [go_sem, ↓reduceIte, reduceCtorEq, Nat.reduceEqDiff, Nat.reduceAdd, Nat.reduceLeDiff, Nat.reduceMul, Int.reduceBEq, Int.reduceBNe, Int.reduceLT, Int.reduceLE, Int.reduceGT, Int.reduceGE, r4.cell, r7.cell]
          refine Chk_intro (by omega) (t6.idx (p := p) (by omega) fun b10 o10 c10 => ?_)
          simp -dsimp only [go_sem, ↓reduceIte, reduceCtorEq, Nat.reduceEqDiff, Nat.reduceAdd, Nat.reduceLeDiff, Nat.reduceMul, Int.reduceBEq, Int.reduceBNe, Int.reduceLT, Int.reduceLE, Int.reduceGT, Int.reduceGE, c10, r4.cell, r7.cell]
          refine Chk_intro (by omega) (t6.idx (p := p) (by omega) fun b11 o11 c11 => ?_)
          simp -dsimp only [go_sem, ↓reduceIte, reduceCtorEq, Nat.reduceEqDiff, Nat.reduceAdd, Nat.reduceLeDiff, Nat.reduceMul, Int.reduceBEq, Int.reduceBNe, Int.reduceLT, Int.reduceLE, Int.reduceGT, Int.reduceGE, c11, r4.cell, r7.cell]
          refine Chk_intro (by omega) ?_
          simp -dsimp only [go_sem, ↓reduceIte, reduceCtorEq, Nat.reduceEqDiff, Nat.reduceAdd, Nat.reduceLeDiff, Nat.reduceMul, Int.reduceBEq, Int.reduceBNe, Int.reduceLT, Int.reduceLE, Int.reduceGT, Int.reduceGE, t6.cell hlt1 hlt2, r4.cell, r7.cell]
          rw [hpq]
          cases hM2 : warM n M k p q with
          | true =>
            simp -dsimp only [go_sem, ↓reduceIte, reduceCtorEq, Nat.reduceEqDiff, Nat.reduceAdd, Nat.reduceLeDiff, Nat.reduceMul, Int.reduceBEq, Int.reduceBNe, Int.reduceLT, Int.reduceLE, Int.reduceGT, Int.reduceGE, r4.cell, r7.cell]
            refine Chk_intro (by omega) ?_
            simp -dsimp only [go_sem, ↓reduceIte, reduceCtorEq, Nat.reduceEqDiff, Nat.reduceAdd, Nat.reduceLeDiff, Nat.reduceMul, Int.reduceBEq, Int.reduceBNe, Int.reduceLT, Int.reduceLE, Int.reduceGT, Int.reduceGE, r4.cell, r7.cell]
            refine Chk_intro (t6.wr hlt1 hlt2) fun h12 s12 => ?_
            have s12_z := s12.size
            have w_row := t6.row p hlt1
            have t7 := t6.set hlt1 s12
            have s12.fr_z := s12.fr.size
            replace p0 := p0.fresh s12.fr (by omega)
            replace r4 := r4.fr s12.fr (by omega)
            replace r7 := r7.fr s12.fr (by omega)
            simp -dsimp only [go_sem, ↓reduceIte, reduceCtorEq, Nat.reduceEqDiff, Nat.reduceAdd, Nat.reduceLeDiff, Nat.reduceMul, Int.reduceBEq, Int.reduceBNe, Int.reduceLT, Int.reduceLE, Int.reduceGT, Int.reduceGE, r4.cell, r7.cell]
            simp -dsimp (disch := omega) only [wrap64]
            exact ⟨q + 1, by omega, by simp [Le, find], by omega, by simp, p0, by omega, r4, r7, t7.congr fun i j hi hj => mixM_set (by simp [warM, hM2])⟩
          | false =>
            simp -dsimp only [go_sem, ↓reduceIte, reduceCtorEq, Nat.reduceEqDiff, Nat.reduceAdd, Nat.reduceLeDiff, Nat.reduceMul, Int.reduceBEq, Int.reduceBNe, Int.reduceLT, Int.reduceLE, Int.reduceGT, Int.reduceGE, r4.cell, r7.cell]
            refine Chk_intro (by omega) (t6.idx (p := k) (by omega) fun b12 o12 c12 => ?_)
            simp -dsimp only [go_sem, ↓reduceIte, reduceCtorEq, Nat.reduceEqDiff, Nat.reduceAdd, Nat.reduceLeDiff, Nat.reduceMul, Int.reduceBEq, Int.reduceBNe, Int.reduceLT, Int.reduceLE, Int.reduceGT, Int.reduceGE, c12, r4.cell, r7.cell]
            refine Chk_intro (by omega) ?_
            simp -dsimp only [go_sem, ↓reduceIte, reduceCtorEq, Nat.reduceEqDiff, Nat.reduceAdd, Nat.reduceLeDiff, Nat.reduceMul, Int.reduceBEq, Int.reduceBNe, Int.reduceLT, Int.reduceLE, Int.reduceGT, Int.reduceGE, t6.cell hlt hlt2, r4.cell, r7.cell]
            rw [hkq hlt2]
            refine Chk_intro (by omega) ?_
            simp -dsimp only [go_sem, ↓reduceIte, reduceCtorEq, Nat.reduceEqDiff, Nat.reduceAdd, Nat.reduceLeDiff, Nat.reduceMul, Int.reduceBEq, Int.reduceBNe, Int.reduceLT, Int.reduceLE, Int.reduceGT, Int.reduceGE, r4.cell, r7.cell]
            refine Chk_intro (t6.wr hlt1 hlt2) fun h12 s12 => ?_
            have s12_z := s12.size
            have w_row := t6.row p hlt1
            have t7 := t6.set hlt1 s12
            have s12.fr_z := s12.fr.size
            replace p0 := p0.fresh s12.fr (by omega)
            replace r4 := r4.fr s12.fr (by omega)
            replace r7 := r7.fr s12.fr (by omega)
            simp -dsimp only [go_sem, ↓reduceIte, reduceCtorEq, Nat.reduceEqDiff, Nat.reduceAdd, Nat.reduceLeDiff, Nat.reduceMul, Int.reduceBEq, Int.reduceBNe, Int.reduceLT, Int.reduceLE, Int.reduceGT, Int.reduceGE, r4.cell, r7.cell]
            simp -dsimp (disch := omega) only [wrap64]
            exact ⟨q + 1, by omega, by simp [Le, find], by omega, by simp, p0, by omega, r4, r7, t7.congr fun i j hi hj => mixM_set (by simp [warM, hM, hM2])⟩
        · have hqn : q = n := by omega
          simp -dsimp only [go_sem, ↓reduceIte, reduceCtorEq, Nat.reduceEqDiff, Nat.reduceAdd, Nat.reduceLeDiff, Nat.reduceMul, Int.reduceBEq, Int.reduceBNe, Int.reduceLT, Int.reduceLE, Int.reduceGT, Int.reduceGE, r4.cell, r7.cell]
          simp -dsimp (disch := omega) only [wrap64]
          exact ⟨p + 1, by omega, by simp [Le, find], by omega, p0, by omega, r4, r7, t6.congr fun i j _ _ => by rw [hqn]; exact mixM_next⟩
    · have hpn : p = n := by omega
      simp -dsimp only [go_sem, ↓reduceIte, reduceCtorEq, Nat.reduceEqDiff, Nat.reduceAdd, Nat.reduceLeDiff, Nat.reduceMul, Int.reduceBEq, Int.reduceBNe, Int.reduceLT, Int.reduceLE, Int.reduceGT, Int.reduceGE, r4.cell, r7.cell]
      simp -dsimp (disch := omega) only [wrap64]
      exact ⟨k + 1, by omega, by simp [Le, find], by omega, p0, by omega, r4, r7, t6.congr fun i j hi hj => by rw [hpn, mixM_end hi hj]⟩
  · have hkn : k = n := by omega
    simp -dsimp only [go_sem, ↓reduceIte, reduceCtorEq, Nat.reduceEqDiff, Nat.reduceAdd, Nat.reduceLeDiff, Nat.reduceMul, Int.reduceBEq, Int.reduceBNe, Int.reduceLT, Int.reduceLE, Int.reduceGT, Int.reduceGE, r4.cell, r7.cell]
    refine Chk_intro (r4.wr (by first | (simp; done) | (simp; omega))) fun h10 s10 => ?_
    have s10_z := s10.size
    replace p0 := p0.fresh s10.fr (by omega)
    replace r7 := r7.fr s10.fr (by omega)
    replace t6 := t6.fr s10.fr (by omega)
    replace r4 := s10.row r4
    try simp only [cl_int, cl_bool, cl_slice, cl_ptr, putAt_one, List.set_cons_zero, List.set_cons_succ, ivec_set, brow_upd] at r4
    simp -dsimp only [go_sem, ↓reduceIte, reduceCtorEq, Nat.reduceEqDiff, Nat.reduceAdd, Nat.reduceLeDiff, Nat.reduceMul, Int.reduceBEq, Int.reduceBNe, Int.reduceLT, Int.reduceLE, Int.reduceGT, Int.reduceGE, r4.cell, r7.cell]
    refine ⟨p0, hn, _, Z, rfl, ((t6.mono (by omega) (by omega)).congr fun i j hi hj => by rw [hkn]; rfl)⟩
theorem ref1_Irreflexive {n : Nat} {M : Nat → Nat → Bool} {rv : Value} {lo hi : Nat} {h : Heap} (hr : RefAt h lo hi rv n M) :
    Con Tryd.prog 85 #[rv] h fun v h' => Fr 0 0 h h' ∧ v = .bool (irrB n M) := by
  refine con_ref1_Irreflexive ?_
  obtain ⟨hn, s, R, rfl, t⟩ := hr
  obtain ⟨sa, sc, rfl⟩ := t.own.is
  have p0 : Fr 0 0 h h := .refl _ _ _
  simp -dsimp only [go_sem, ↓reduceIte, reduceCtorEq, Nat.reduceEqDiff, Nat.reduceAdd, Nat.reduceLeDiff, Nat.reduceMul, Int.reduceBEq, Int.reduceBNe, Int.reduceLT, Int.reduceLE, Int.reduceGT, Int.reduceGE]
  intro b1 h1 n1
  have n1_a := n1.at_
  have n1_z := n1.size
  replace p0 := p0.fresh (n1.fr (lo := 0) (hi := 0)) (by omega)
  have r1 := n1.row
  simp -dsimp only [go_sem, ↓reduceIte, reduceCtorEq, Nat.reduceEqDiff, Nat.reduceAdd, Nat.reduceLeDiff, Nat.reduceMul, Int.reduceBEq, Int.reduceBNe, Int.reduceLT, Int.reduceLE, Int.reduceGT, Int.reduceGE, r1.cell]
  refine loop_intro (fun a : Nat => [(1, .pointer (some ⟨b1, 0, none⟩)), (3, .int .i64 a)])
    (fun a h' => a ≤ n ∧ h' = h1 ∧ ∀ i, i < a → M i i = false) (fun a => n - a) 0 ?_ ?_ ?_
  · simp [Le, find]
  · exact ⟨by omega, rfl, by omega⟩
  rintro a h2 ⟨ha, hh, hinv⟩
  obtain rfl : h1 = h2 := hh.symm
  have tp := t.fr p0 (by omega)
  simp -dsimp only [go_sem, ↓reduceIte, reduceCtorEq, Nat.reduceEqDiff, Nat.reduceAdd, Nat.reduceLeDiff, Nat.reduceMul, Int.reduceBEq, Int.reduceBNe, Int.reduceLT, Int.reduceLE, Int.reduceGT, Int.reduceGE, r1.cell]
  refine ⟨fun hlt => ?_, fun hge => ?_⟩
  · have hlt : a < n := by omega
    simp -dsimp only [go_sem, ↓reduceIte, reduceCtorEq, Nat.reduceEqDiff, Nat.reduceAdd, Nat.reduceLeDiff, Nat.reduceMul, Int.reduceBEq, Int.reduceBNe, Int.reduceLT, Int.reduceLE, Int.reduceGT, Int.reduceGE, r1.cell]
    refine Chk_intro (by omega) (tp.idx hlt fun b9 o9 c9 => ?_)
    simp -dsimp only [go_sem, ↓reduceIte, reduceCtorEq, Nat.reduceEqDiff, Nat.reduceAdd, Nat.reduceLeDiff, Nat.reduceMul, Int.reduceBEq, Int.reduceBNe, Int.reduceLT, Int.reduceLE, Int.reduceGT, Int.reduceGE, c9, r1.cell]
    refine Chk_intro (by omega) ?_
    simp -dsimp only [go_sem, ↓reduceIte, reduceCtorEq, Nat.reduceEqDiff, Nat.reduceAdd, Nat.reduceLeDiff, Nat.reduceMul, Int.reduceBEq, Int.reduceBNe, Int.reduceLT, Int.reduceLE, Int.reduceGT, Int.reduceGE, tp.cell hlt hlt, r1.cell]
    cases hm : M a a with
    | true =>
      simp -dsimp only [go_sem, ↓reduceIte, reduceCtorEq, Nat.reduceEqDiff, Nat.reduceAdd, Nat.reduceLeDiff, Nat.reduceMul, Int.reduceBEq, Int.reduceBNe, Int.reduceLT, Int.reduceLE, Int.reduceGT, Int.reduceGE, r1.cell]
      refine ⟨p0, ?_⟩
      have : irrB n M = false := by
        rw [Bool.eq_false_iff]; intro h'
        have := List.all_eq_true.1 h' a (List.mem_range.2 hlt)
        simp [hm] at this
      rw [this]
    | false =>
      simp -dsimp only [go_sem, ↓reduceIte, reduceCtorEq, Nat.reduceEqDiff, Nat.reduceAdd, Nat.reduceLeDiff, Nat.reduceMul, Int.reduceBEq, Int.reduceBNe, Int.reduceLT, Int.reduceLE, Int.reduceGT, Int.reduceGE, r1.cell]
      simp -dsimp (disch := omega) only [wrap64]
      refine ⟨a + 1, by omega, by simp [Le, find], by omega, fun i hi => ?_⟩
      by_cases hia : i = a
      · subst hia; exact hm
      · exact hinv i (by omega)
  · have : a = n := by omega
    subst this
    simp -dsimp only [go_sem, ↓reduceIte, reduceCtorEq, Nat.reduceEqDiff, Nat.reduceAdd, Nat.reduceLeDiff, Nat.reduceMul, Int.reduceBEq, Int.reduceBNe, Int.reduceLT, Int.reduceLE, Int.reduceGT, Int.reduceGE, r1.cell]
    have : irrB a M = true := List.all_eq_true.2 fun i hi => by rw [hinv i (List.mem_range.1 hi)]; rfl
    rw [this]; exact ⟨p0, rfl⟩
theorem ref1_Comp {n m : Nat} {M N : Nat → Nat → Bool} {rv sv : Value} {lo hi lo' hi' : Nat} {h : Heap} (hr : RefAt h lo hi rv n M) (hs : RefAt h lo' hi' sv m N) :
    Con Tryd.prog 87 #[rv, sv] h fun v h' => Fr 0 0 h h' ∧ RefAt h' h.size h'.size v (max n m) (compM n M m N) := by
  refine con_ref1_Comp ?_
  have hr0 := hr; have hs0 := hs
  obtain ⟨hn, s, R, rfl, t⟩ := hr
  obtain ⟨sa, sc, rfl⟩ := t.own.is
  obtain ⟨hm, s', R', rfl, t'⟩ := hs
  obtain ⟨sa', sc', rfl⟩ := t'.own.is
  have hcl : clampN (max n m : Nat) = max n m := by unfold clampN; omega
  have p0 : Fr 0 0 h h := .refl _ _ _
  simp -dsimp only [go_sem, ↓reduceIte, reduceCtorEq, Nat.reduceEqDiff, Nat.reduceAdd, Nat.reduceLeDiff, Nat.reduceMul, Int.reduceBEq, Int.reduceBNe, Int.reduceLT, Int.reduceLE, Int.reduceGT, Int.reduceGE]
  intro b2 h2 n2
  have n2_a := n2.at_
  have n2_z := n2.size
  replace p0 := p0.fresh (n2.fr (lo := 0) (hi := 0)) (by omega)
  have r2 := n2.row
  simp -dsimp only [go_sem, ↓reduceIte, reduceCtorEq, Nat.reduceEqDiff, Nat.reduceAdd, Nat.reduceLeDiff, Nat.reduceMul, Int.reduceBEq, Int.reduceBNe, Int.reduceLT, Int.reduceLE, Int.reduceGT, Int.reduceGE, r2.cell]
  intro b3 h3 n3
  have n3_a := n3.at_
  have n3_z := n3.size
  replace p0 := p0.fresh (n3.fr (lo := 0) (hi := 0)) (by omega)
  replace r2 := r2.fr (n3.fr (lo := 0) (hi := 0)) (by omega)
  have r3 := n3.row
  simp -dsimp only [go_sem, ↓reduceIte, reduceCtorEq, Nat.reduceEqDiff, Nat.reduceAdd, Nat.reduceLeDiff, Nat.reduceMul, Int.reduceBEq, Int.reduceBNe, Int.reduceLT, Int.reduceLE, Int.reduceGT, Int.reduceGE, r2.cell, r3.cell]
  intro b4 h4 n4
  have n4_a := n4.at_
  have n4_z := n4.size
  replace p0 := p0.fresh (n4.fr (lo := 0) (hi := 0)) (by omega)
  replace r2 := r2.fr (n4.fr (lo := 0) (hi := 0)) (by omega)
  replace r3 := r3.fr (n4.fr (lo := 0) (hi := 0)) (by omega)
  have r4 := n4.row
  simp -dsimp only [go_sem, ↓reduceIte, reduceCtorEq, Nat.reduceEqDiff, Nat.reduceAdd, Nat.reduceLeDiff, Nat.reduceMul, Int.reduceBEq, Int.reduceBNe, Int.reduceLT, Int.reduceLE, Int.reduceGT, Int.reduceGE, r2.cell, r3.cell, r4.cell]
  refine call_of (ref1_Wide (hr0.fr p0 (by omega)) m hm) ?_
  rw [Nat.max_comm]
  rintro v h6 ⟨f6, hmx, x, X, rfl, tx⟩
  obtain ⟨xa, xc, rfl⟩ := tx.own.is
  have tx_a := tx.own.at_
  have f6_z := f6.size
  replace p0 := p0.fresh f6 (by omega)
  replace r2 := r2.fr f6 (by omega)
  replace r3 := r3.fr f6 (by omega)
  replace r4 := r4.fr f6 (by omega)
  simp -dsimp only [go_sem, ↓reduceIte, reduceCtorEq, Nat.reduceEqDiff, Nat.reduceAdd, Nat.reduceLeDiff, Nat.reduceMul, Int.reduceBEq, Int.reduceBNe, Int.reduceLT, Int.reduceLE, Int.reduceGT, Int.reduceGE, r2.cell, r3.cell, r4.cell]
  intro b7 h7 n7
  have n7_a := n7.at_
  have n7_z := n7.size
  replace p0 := p0.fresh (n7.fr (lo := 0) (hi := 0)) (by omega)
  replace r2 := r2.fr (n7.fr (lo := 0) (hi := 0)) (by omega)
  replace r3 := r3.fr (n7.fr (lo := 0) (hi := 0)) (by omega)
  replace r4 := r4.fr (n7.fr (lo := 0) (hi := 0)) (by omega)
  replace tx := tx.fr (n7.fr (lo := 0) (hi := 0)) (by omega)
  have r7 := n7.row
  simp -dsimp only [go_sem, ↓reduceIte, reduceCtorEq, Nat.reduceEqDiff, Nat.reduceAdd, Nat.reduceLeDiff, Nat.reduceMul, Int.reduceBEq, Int.reduceBNe, Int.reduceLT, Int.reduceLE, Int.reduceGT, Int.reduceGE, r2.cell, r3.cell, r4.cell, r7.cell]
  refine Chk_intro (r7.wr (by first | (simp; done) | (simp; omega))) fun h8 s8 => ?_
  have s8_z := s8.size
  replace p0 := p0.fresh s8.fr (by omega)
  replace r2 := r2.fr s8.fr (by omega)
  replace r3 := r3.fr s8.fr (by omega)
  replace r4 := r4.fr s8.fr (by omega)
  replace tx := tx.fr s8.fr (by omega)
  replace r7 := s8.row r7
  try simp only [cl_int, cl_bool, cl_slice, cl_ptr, putAt_one, List.set_cons_zero, List.set_cons_succ, ivec_set, brow_upd] at r7
  simp -dsimp only [go_sem, ↓reduceIte, reduceCtorEq, Nat.reduceEqDiff, Nat.reduceAdd, Nat.reduceLeDiff, Nat.reduceMul, Int.reduceBEq, Int.reduceBNe, Int.reduceLT, Int.reduceLE, Int.reduceGT, Int.reduceGE, r2.cell, r3.cell, r4.cell, r7.cell]
  refine call_of (ref1_Wide (hs0.fr p0 (by omega)) n hn) ?_
  rintro v h9 ⟨f9, -, y, Y, rfl, ty⟩
  obtain ⟨ya, yc, rfl⟩ := ty.own.is
  have ty_a := ty.own.at_
  have f9_z := f9.size
  replace p0 := p0.fresh f9 (by omega)
  replace r2 := r2.fr f9 (by omega)
  replace r3 := r3.fr f9 (by omega)
  replace r4 := r4.fr f9 (by omega)
  replace tx := tx.fr f9 (by omega)
  replace r7 := r7.fr f9 (by omega)
  simp -dsimp only [go_sem, ↓reduceIte, reduceCtorEq, Nat.reduceEqDiff, Nat.reduceAdd, Nat.reduceLeDiff, Nat.reduceMul, Int.reduceBEq, Int.reduceBNe, Int.reduceLT, Int.reduceLE, Int.reduceGT, Int.reduceGE, r2.cell, r3.cell, r4.cell, r7.cell]
  intro b10 h10 n10
  have n10_a := n10.at_
  have n10_z := n10.size
  replace p0 := p0.fresh (n10.fr (lo := 0) (hi := 0)) (by omega)
  replace r2 := r2.fr (n10.fr (lo := 0) (hi := 0)) (by omega)
  replace r3 := r3.fr (n10.fr (lo := 0) (hi := 0)) (by omega)
  replace r4 := r4.fr (n10.fr (lo := 0) (hi := 0)) (by omega)
  replace tx := tx.fr (n10.fr (lo := 0) (hi := 0)) (by omega)
  replace r7 := r7.fr (n10.fr (lo := 0) (hi := 0)) (by omega)
  replace ty := ty.fr (n10.fr (lo := 0) (hi := 0)) (by omega)
  have r10 := n10.row
  simp -dsimp only [go_sem, ↓reduceIte, reduceCtorEq, Nat.reduceEqDiff, Nat.reduceAdd, Nat.reduceLeDiff, Nat.reduceMul, Int.reduceBEq, Int.reduceBNe, Int.reduceLT, Int.reduceLE, Int.reduceGT, Int.reduceGE, r2.cell, r3.cell, r4.cell, r7.cell, r10.cell]
  refine Chk_intro (r10.wr (by first | (simp; done) | (simp; omega))) fun h11 s11 => ?_
  have s11_z := s11.size
  replace p0 := p0.fresh s11.fr (by omega)
  replace r2 := r2.fr s11.fr (by omega)
  replace r3 := r3.fr s11.fr (by omega)
  replace r4 := r4.fr s11.fr (by omega)
  replace tx := tx.fr s11.fr (by omega)
  replace r7 := r7.fr s11.fr (by omega)
  replace ty := ty.fr s11.fr (by omega)
  replace r10 := s11.row r10
  try simp only [cl_int, cl_bool, cl_slice, cl_ptr, putAt_one, List.set_cons_zero, List.set_cons_succ, ivec_set, brow_upd] at r10
  simp -dsimp only [go_sem, ↓reduceIte, reduceCtorEq, Nat.reduceEqDiff, Nat.reduceAdd, Nat.reduceLeDiff, Nat.reduceMul, Int.reduceBEq, Int.reduceBNe, Int.reduceLT, Int.reduceLE, Int.reduceGT, Int.reduceGE, r2.cell, r3.cell, r4.cell, r7.cell, r10.cell]
  refine call_of (ref1_New (max n m : Nat) h11) ?_
  rintro v h12 ⟨f12, t12⟩
  rw [hcl] at t12
  obtain ⟨-, z, Z, rfl, t12⟩ := t12
  obtain ⟨za, zc, rfl⟩ := t12.own.is
  have t12_a := t12.own.at_
  have f12_z := f12.size
  replace p0 := p0.fresh f12 (by omega)
  replace r2 := r2.fr f12 (by omega)
  replace r3 := r3.fr f12 (by omega)
  replace r4 := r4.fr f12 (by omega)
  replace tx := tx.fr f12 (by omega)
  replace r7 := r7.fr f12 (by omega)
  replace ty := ty.fr f12 (by omega)
  replace r10 := r10.fr f12 (by omega)
  simp -dsimp only [go_sem, ↓reduceIte, reduceCtorEq, Nat.reduceEqDiff, Nat.reduceAdd, Nat.reduceLeDiff, Nat.reduceMul, Int.reduceBEq, Int.reduceBNe, Int.reduceLT, Int.reduceLE, Int.reduceGT, Int.reduceGE, r2.cell, r3.cell, r4.cell, r7.cell, r10.cell]
  intro b13 h13 n13
  have n13_a := n13.at_
  have n13_z := n13.size
  replace p0 := p0.fresh (n13.fr (lo := 0) (hi := 0)) (by omega)
  replace r2 := r2.fr (n13.fr (lo := 0) (hi := 0)) (by omega)
  replace r3 := r3.fr (n13.fr (lo := 0) (hi := 0)) (by omega)
  replace r4 := r4.fr (n13.fr (lo := 0) (hi := 0)) (by omega)
  replace tx := tx.fr (n13.fr (lo := 0) (hi := 0)) (by omega)
  replace r7 := r7.fr (n13.fr (lo := 0) (hi := 0)) (by omega)
  replace ty := ty.fr (n13.fr (lo := 0) (hi := 0)) (by omega)
  replace r10 := r10.fr (n13.fr (lo := 0) (hi := 0)) (by omega)
  replace t12 := t12.fr (n13.fr (lo := 0) (hi := 0)) (by omega)
  have r13 := n13.row
  simp -dsimp only [go_sem, ↓reduceIte, reduceCtorEq, Nat.reduceEqDiff, Nat.reduceAdd, Nat.reduceLeDiff, Nat.reduceMul, Int.reduceBEq, Int.reduceBNe, Int.reduceLT, Int.reduceLE, Int.reduceGT, Int.reduceGE, r2.cell, r3.cell, r4.cell, r7.cell, r10.cell, r13.cell]
  refine Chk_intro (r13.wr (by first | (simp; done) | (simp; omega))) fun h14 s14 => ?_
  have s14_z := s14.size
  replace p0 := p0.fresh s14.fr (by omega)
  replace r2 := r2.fr s14.fr (by omega)
  replace r3 := r3.fr s14.fr (by omega)
  replace r4 := r4.fr s14.fr (by omega)
  replace tx := tx.fr s14.fr (by omega)
  replace r7 := r7.fr s14.fr (by omega)
  replace ty := ty.fr s14.fr (by omega)
  replace r10 := r10.fr s14.fr (by omega)
  replace t12 := t12.fr s14.fr (by omega)
  replace r13 := s14.row r13
  try simp only [cl_int, cl_bool, cl_slice, cl_ptr, putAt_one, List.set_cons_zero, List.set_cons_succ, ivec_set, brow_upd] at r13
  simp -dsimp only [go_sem, ↓reduceIte, reduceCtorEq, Nat.reduceEqDiff, Nat.reduceAdd, Nat.reduceLeDiff, Nat.reduceMul, Int.reduceBEq, Int.reduceBNe, Int.reduceLT, Int.reduceLE, Int.reduceGT, Int.reduceGE, r2.cell, r3.cell, r4.cell, r7.cell, r10.cell, r13.cell]
  have htx := tx; have hty := ty
  have q0 := p0
  -- points, one by one
  refine loop_intro (fun p : Nat => [(4, .pointer (some ⟨b4, 0, none⟩)), (5, .pointer (some ⟨b7, 0, none⟩)), (6, .pointer (some ⟨b10, 0, none⟩)), (7, .pointer (some ⟨b13, 0, none⟩)), (8, .int .i64 p)])
    (fun p h' => p ≤ max n m ∧ Fr 0 0 h h' ∧ h14.size ≤ h'.size ∧ Rw h' b4 [.int .i64 0, .slice none 0 0] ∧ Rw h' b7 [.int .i64 (max n m : Nat), .slice xa (max n m) xc] ∧ Rw h' b10 [.int .i64 (max n m : Nat), .slice ya (max n m) yc] ∧ Rw h' b13 [.int .i64 (max n m : Nat), .slice za (max n m) zc] ∧
      Tab h' h4.size h6.size (.slice xa (max n m) xc) (max n m) (max n m) X (inN n M) ∧ Tab h' h8.size h9.size (.slice ya (max n m) yc) (max n m) (max n m) Y (inN m N) ∧ Tab h' h11.size h12.size (.slice za (max n m) zc) (max n m) (max n m) Z fun i j => decide (i < p) && compM n M m N i j) (fun p => max n m - p) 0 ?_ ?_ ?_
  · simp [Le, find]
  · exact ⟨by omega, p0, by omega, r4, r7, r10, r13, tx, ty, t12.congr fun i j _ _ => by simp⟩
  rintro p hP ⟨hp, p0, yP, r4, r7, r10, r13, tx, ty, t12⟩
  have p0_z := p0.size
  have r4_l := r4.lt
  have r7_l := r7.lt
  have r10_l := r10.lt
  have r13_l := r13.lt
  simp -dsimp only [go_sem, ↓reduceIte, reduceCtorEq, Nat.reduceEqDiff, Nat.reduceAdd, Nat.reduceLeDiff, Nat.reduceMul, Int.reduceBEq, Int.reduceBNe, Int.reduceLT, Int.reduceLE, Int.reduceGT, Int.reduceGE, r4.cell, r7.cell, r10.cell, r13.cell]
  refine ⟨fun hlt1 => ?_, fun hge1 => ?_⟩
  · have hlt1 : p < max n m := by omega
    simp -dsimp only [go_sem, ↓reduceIte, reduceCtorEq, Nat.reduceEqDiff, Nat.reduceAdd, Nat.reduceLeDiff, Nat.reduceMul, Int.reduceBEq, Int.reduceBNe, Int.reduceLT, Int.reduceLE, Int.reduceGT, Int.reduceGE, r4.cell, r7.cell, r10.cell, r13.cell]
    refine loop_intro (fun q : Nat => [(4, .pointer (some ⟨b4, 0, none⟩)), (5, .pointer (some ⟨b7, 0, none⟩)), (6, .pointer (some ⟨b10, 0, none⟩)), (7, .pointer (some ⟨b13, 0, none⟩)), (8, .int .i64 p), (9, .int .i64 q)])
      (fun q h' => q ≤ max n m ∧ Fr 0 0 h h' ∧ h14.size ≤ h'.size ∧ Rw h' b4 [.int .i64 0, .slice none 0 0] ∧ Rw h' b7 [.int .i64 (max n m : Nat), .slice xa (max n m) xc] ∧ Rw h' b10 [.int .i64 (max n m : Nat), .slice ya (max n m) yc] ∧ Rw h' b13 [.int .i64 (max n m : Nat), .slice za (max n m) zc] ∧
        Tab h' h4.size h6.size (.slice xa (max n m) xc) (max n m) (max n m) X (inN n M) ∧ Tab h' h8.size h9.size (.slice ya (max n m) yc) (max n m) (max n m) Y (inN m N) ∧ Tab h' h11.size h12.size (.slice za (max n m) zc) (max n m) (max n m) Z fun i j => (decide (i < p) && compM n M m N i j) || (i == p && (List.range q).any fun k => inN n M p k && inN m N k j)) (fun q => max n m - q) 0 ?_ ?_ ?_
    · simp [Le, find]
    · exact ⟨by omega, p0, by omega, r4, r7, r10, r13, tx, ty, t12.congr fun i j _ _ => by simp⟩
    rintro q hQ ⟨hq, p0, yQ, r4, r7, r10, r13, tx, ty, t12⟩
    have p0_z := p0.size
    have r4_l := r4.lt
    have r7_l := r7.lt
    have r10_l := r10.lt
    have r13_l := r13.lt
    simp -dsimp only [go_sem, ↓reduceIte, reduceCtorEq, Nat.reduceEqDiff, Nat.reduceAdd, Nat.reduceLeDiff, Nat.reduceMul, Int.reduceBEq, Int.reduceBNe, Int.reduceLT, Int.reduceLE, Int.reduceGT, Int.reduceGE, r4.cell, r7.cell, r10.cell, r13.cell]
    refine ⟨fun hlt2 => ?_, fun hge2 => ?_⟩
    · have hlt2 : q < max n m := by omega
      have hstep : ∀ j, (List.range (q + 1)).any (fun k => inN n M p k && inN m N k j) = ((List.range q).any (fun k => inN n M p k && inN m N k j) || (inN n M p q && inN m N q j)) := fun j => by
        rw [List.range_succ, List.any_append]; simp
      simp -dsimp only [go_sem, ↓reduceIte, reduceCtorEq, Nat.reduceEqDiff, Nat.reduceAdd, Nat.reduceLeDiff, Nat.reduceMul, Int.reduceBEq, Int.reduceBNe, Int.reduceLT, Int.reduceLE, Int.reduceGT, Int.reduceGE, r4.cell, r7.cell, r10.cell, r13.cell]
      refine loop_intro (fun c : Nat => [(4, .pointer (some ⟨b4, 0, none⟩)), (5, .pointer (some ⟨b7, 0, none⟩)), (6, .pointer (some ⟨b10, 0, none⟩)), (7, .pointer (some ⟨b13, 0, none⟩)), (8, .int .i64 p), (9, .int .i64 q), (10, .int .i64 c)])
        (fun c h' => c ≤ max n m ∧ (inN n M p q = false → c = 0) ∧ Fr 0 0 h h' ∧ h14.size ≤ h'.size ∧ Rw h' b4 [.int .i64 0, .slice none 0 0] ∧ Rw h' b7 [.int .i64 (max n m : Nat), .slice xa (max n m) xc] ∧ Rw h' b10 [.int .i64 (max n m : Nat), .slice ya (max n m) yc] ∧ Rw h' b13 [.int .i64 (max n m : Nat), .slice za (max n m) zc] ∧
          Tab h' h4.size h6.size (.slice xa (max n m) xc) (max n m) (max n m) X (inN n M) ∧ Tab h' h8.size h9.size (.slice ya (max n m) yc) (max n m) (max n m) Y (inN m N) ∧ Tab h' h11.size h12.size (.slice za (max n m) zc) (max n m) (max n m) Z fun i j => (decide (i < p) && compM n M m N i j) || (i == p && ((List.range q).any (fun k => inN n M p k && inN m N k j) || (decide (j < c) && inN m N q j)))) (fun c => max n m - c) 0 ?_ ?_ ?_
      · simp [Le, find]
      · exact ⟨by omega, fun _ => rfl, p0, by omega, r4, r7, r10, r13, tx, ty, t12.congr fun i j _ _ => by simp⟩
      rintro c hC ⟨hc, hc0, p0, yC, r4, r7, r10, r13, tx, ty, t12⟩
      have p0_z := p0.size
      have r4_l := r4.lt
      have r7_l := r7.lt
      have r10_l := r10.lt
      have r13_l := r13.lt
      simp -dsimp only [go_sem, ↓reduceIte, reduceCtorEq, Nat.reduceEqDiff, Nat.reduceAdd, Nat.reduceLeDiff, Nat.reduceMul, Int.reduceBEq, Int.reduceBNe, Int.reduceLT, Int.reduceLE, Int.reduceGT, Int.reduceGE, r4.cell, r7.cell, r10.cell, r13.cell]
      refine Chk_intro (by omega) (tx.idx (p := p) (by omega) fun b15 o15 c15 => ?_)
      simp -dsimp only [go_sem, ↓reduceIte, reduceCtorEq, Nat.reduceEqDiff, Nat.reduceAdd, Nat.reduceLeDiff, Nat.reduceMul, Int.reduceBEq, Int.reduceBNe, Int.reduceLT, Int.reduceLE, Int.reduceGT, Int.reduceGE, c15, r4.cell, r7.cell, r10.cell, r13.cell]
      refine Chk_intro (by omega) ?_
      simp -dsimp only [go_sem, ↓reduceIte, reduceCtorEq, Nat.reduceEqDiff, Nat.reduceAdd, Nat.reduceLeDiff, Nat.reduceMul, Int.reduceBEq, Int.reduceBNe, Int.reduceLT, Int.reduceLE, Int.reduceGT, Int.reduceGE, tx.cell hlt1 hlt2, r4.cell, r7.cell, r10.cell, r13.cell]
      cases hM : inN n M p q with
      | false =>
        have hc0 := hc0 hM
        subst hc0
        simp -dsimp only [go_sem, ↓reduceIte, reduceCtorEq, Nat.reduceEqDiff, Nat.reduceAdd, Nat.reduceLeDiff, Nat.reduceMul, Int.reduceBEq, Int.reduceBNe, Int.reduceLT, Int.reduceLE, Int.reduceGT, Int.reduceGE, r4.cell, r7.cell, r10.cell, r13.cell]
        simp -dsimp (disch := omega) only [wrap64]
        refine ⟨q + 1, by omega, by simp [Le, find], by omega, p0, by omega, r4, r7, r10, r13, tx, ty, t12.congr fun i j hi hj => ?_⟩
        rw [hstep, hM]; simp
      | true =>
        simp -dsimp only [go_sem, ↓reduceIte, reduceCtorEq, Nat.reduceEqDiff, Nat.reduceAdd, Nat.reduceLeDiff, Nat.reduceMul, Int.reduceBEq, Int.reduceBNe, Int.reduceLT, Int.reduceLE, Int.reduceGT, Int.reduceGE, r4.cell, r7.cell, r10.cell, r13.cell]
        refine ⟨fun hlt3 => ?_, fun hge3 => ?_⟩
        · have hlt3 : c < max n m := by omega
          have hold : ((decide (p < p) && compM n M m N p c) || (true && ((List.range q).any (fun k => inN n M p k && inN m N k c) || (decide (c < c) && inN m N q c)))) = (List.range q).any (fun k => inN n M p k && inN m N k c) := by simp
          have hnew : ∀ (v : Bool), v = ((List.range q).any (fun k => inN n M p k && inN m N k c) || inN m N q c) → ∀ i j, (if i = p ∧ j = c then v else ((decide (i < p) && compM n M m N i j) || (i == p && ((List.range q).any (fun k => inN n M p k && inN m N k j) || (decide (j < c) && inN m N q j))))) = ((decide (i < p) && compM n M m N i j) || (i == p && ((List.range q).any (fun k => inN n M p k && inN m N k j) || (decide (j < c + 1) && inN m N q j)))) := fun v hv i j => by
            by_cases hij : i = p ∧ j = c
            · obtain ⟨rfl, rfl⟩ := hij
              rw [if_pos ⟨rfl, rfl⟩, hv]; simp
            · rw [if_neg hij]
              by_cases hip : i = p
              · have : (j < c + 1) = (j < c) := by simp; omega
                simp [this]
              · have e : (i == p) = false := by simpa using hip
                simp [e]
          simp -dsimp only [go_sem, ↓reduceIte, reduceCtorEq, Nat.reduceEqDiff, Nat.reduceAdd, Nat.reduceLeDiff, Nat.reduceMul, Int.reduceBEq, Int.reduceBNe, Int.reduceLT, Int.reduceLE, Int.reduceGT, Int.reduceGE, r4.cell, r7.cell, r10.cell, r13.cell]
          refine Chk_intro (by omega) (t12.idx (p := p) (by omega) fun b16 o16 c16 => ?_)
          simp -dsimp only [go_sem, ↓reduceIte, reduceCtorEq, Nat.reduceEqDiff, Nat.reduceAdd, Nat.reduceLeDiff, Nat.reduceMul, Int.reduceBEq, Int.reduceBNe, Int.reduceLT, Int.reduceLE, Int.reduceGT, Int.reduceGE, c16, r4.cell, r7.cell, r10.cell, r13.cell]
          refine Chk_intro (by omega) (t12.idx (p := p) (by omega) fun b17 o17 c17 => ?_)
          simp -dsimp only [go_sem, ↓reduceIte, reduceCtorEq, Nat.reduceEqDiff, Nat.reduceAdd, Nat.reduceLeDiff, Nat.reduceMul, Int.reduceBEq, Int.reduceBNe, Int.reduceLT, Int.reduceLE, Int.reduceGT, Int.reduceGE, c17, r4.cell, r7.cell, r10.cell, r13.cell]
          refine Chk_intro (by omega) ?_
          simp -dsimp only [go_sem, ↓reduceIte, reduceCtorEq, Nat.reduceEqDiff, Nat.reduceAdd, Nat.reduceLeDiff, Nat.reduceMul, Int.reduceBEq, Int.reduceBNe, Int.reduceLT, Int.reduceLE, Int.reduceGT, Int.reduceGE, t12.cell hlt1 hlt3, r4.cell, r7.cell, r10.cell, r13.cell]
          rw [hold]
          cases hA : (List.range q).any (fun k => inN n M p k && inN m N k c) with
          | true =>
            simp -dsimp only [go_sem, ↓reduceIte, reduceCtorEq, Nat.reduceEqDiff, Nat.reduceAdd, Nat.reduceLeDiff, Nat.reduceMul, Int.reduceBEq, Int.reduceBNe, Int.reduceLT, Int.reduceLE, Int.reduceGT, Int.reduceGE, r4.cell, r7.cell, r10.cell, r13.cell]
            refine Chk_intro (by omega) ?_
            simp -dsimp only [go_sem, ↓reduceIte, reduceCtorEq, Nat.reduceEqDiff, Nat.reduceAdd, Nat.reduceLeDiff, Nat.reduceMul, Int.reduceBEq, Int.reduceBNe, Int.reduceLT, Int.reduceLE, Int.reduceGT, Int.reduceGE, r4.cell, r7.cell, r10.cell, r13.cell]
            refine Chk_intro (t12.wr hlt1 hlt3) fun h18 s18 => ?_
            have s18_z := s18.size
            have w_row := t12.row p hlt1
            have t13 := t12.set hlt1 s18
            have s18.fr_z := s18.fr.size
            replace p0 := p0.fresh s18.fr (by omega)
            replace r4 := r4.fr s18.fr (by omega)
            replace r7 := r7.fr s18.fr (by omega)
            replace r10 := r10.fr s18.fr (by omega)
            replace r13 := r13.fr s18.fr (by omega)
            replace tx := tx.fr s18.fr (by omega)
            replace ty := ty.fr s18.fr (by omega)
            simp -dsimp only [go_sem, ↓reduceIte, reduceCtorEq, Nat.reduceEqDiff, Nat.reduceAdd, Nat.reduceLeDiff, Nat.reduceMul, Int.reduceBEq, Int.reduceBNe, Int.reduceLT, Int.reduceLE, Int.reduceGT, Int.reduceGE, r4.cell, r7.cell, r10.cell, r13.cell]
            simp -dsimp (disch := omega) only [wrap64]
            exact ⟨c + 1, by omega, by simp [Le, find], by omega, by simp, p0, by omega, r4, r7, r10, r13, tx, ty, t13.congr fun i j _ _ => hnew _ (by rw [hA, Bool.true_or]) i j⟩
          | false =>
            simp -dsimp only [go_sem, ↓reduceIte, reduceCtorEq, Nat.reduceEqDiff, Nat.reduceAdd, Nat.reduceLeDiff, Nat.reduceMul, Int.reduceBEq, Int.reduceBNe, Int.reduceLT, Int.reduceLE, Int.reduceGT, Int.reduceGE, r4.cell, r7.cell, r10.cell, r13.cell]
            refine Chk_intro (by omega) (ty.idx (p := q) (by omega) fun b18 o18 c18 => ?_)
            simp -dsimp only [go_sem, ↓reduceIte, reduceCtorEq, Nat.reduceEqDiff, Nat.reduceAdd, Nat.reduceLeDiff, Nat.reduceMul, Int.reduceBEq, Int.reduceBNe, Int.reduceLT, Int.reduceLE, Int.reduceGT, Int.reduceGE, c18, r4.cell, r7.cell, r10.cell, r13.cell]
            refine Chk_intro (by omega) ?_
            simp -dsimp only [go_sem, ↓reduceIte, reduceCtorEq, Nat.reduceEqDiff, Nat.reduceAdd, Nat.reduceLeDiff, Nat.reduceMul, Int.reduceBEq, Int.reduceBNe, Int.reduceLT, Int.reduceLE, Int.reduceGT, Int.reduceGE, ty.cell hlt2 hlt3, r4.cell, r7.cell, r10.cell, r13.cell]
            refine Chk_intro (by omega) ?_
            simp -dsimp only [go_sem, ↓reduceIte, reduceCtorEq, Nat.reduceEqDiff, Nat.reduceAdd, Nat.reduceLeDiff, Nat.reduceMul, Int.reduceBEq, Int.reduceBNe, Int.reduceLT, Int.reduceLE, Int.reduceGT, Int.reduceGE, r4.cell, r7.cell, r10.cell, r13.cell]
            refine Chk_intro (t12.wr hlt1 hlt3) fun h18 s18 => ?_
            have s18_z := s18.size
            have w_row := t12.row p hlt1
            have t13 := t12.set hlt1 s18
            have s18.fr_z := s18.fr.size
            replace p0 := p0.fresh s18.fr (by omega)
            replace r4 := r4.fr s18.fr (by omega)
            replace r7 := r7.fr s18.fr (by omega)
            replace r10 := r10.fr s18.fr (by omega)
            replace r13 := r13.fr s18.fr (by omega)
            replace tx := tx.fr s18.fr (by omega)
            replace ty := ty.fr s18.fr (by omega)
            simp -dsimp only [go_sem, ↓reduceIte, reduceCtorEq, Nat.reduceEqDiff, Nat.reduceAdd, Nat.reduceLeDiff, Nat.reduceMul, Int.reduceBEq, Int.reduceBNe, Int.reduceLT, Int.reduceLE, Int.reduceGT, Int.reduceGE, r4.cell, r7.cell, r10.cell, r13.cell]
            simp -dsimp (disch := omega) only [wrap64]
            exact ⟨c + 1, by omega, by simp [Le, find], by omega, by simp, p0, by omega, r4, r7, r10, r13, tx, ty, t13.congr fun i j _ _ => hnew _ (by rw [hA, Bool.false_or]) i j⟩
        · have hcn : c = max n m := by omega
          simp -dsimp only [go_sem, ↓reduceIte, reduceCtorEq, Nat.reduceEqDiff, Nat.reduceAdd, Nat.reduceLeDiff, Nat.reduceMul, Int.reduceBEq, Int.reduceBNe, Int.reduceLT, Int.reduceLE, Int.reduceGT, Int.reduceGE, r4.cell, r7.cell, r10.cell, r13.cell]
          simp -dsimp (disch := omega) only [wrap64]
          refine ⟨q + 1, by omega, by simp [Le, find], by omega, p0, by omega, r4, r7, r10, r13, tx, ty, t12.congr fun i j hi hj => ?_⟩
          have : j < c := by omega
          rw [hstep, hM]; simp [this]
    · have hqn : q = max n m := by omega
      simp -dsimp only [go_sem, ↓reduceIte, reduceCtorEq, Nat.reduceEqDiff, Nat.reduceAdd, Nat.reduceLeDiff, Nat.reduceMul, Int.reduceBEq, Int.reduceBNe, Int.reduceLT, Int.reduceLE, Int.reduceGT, Int.reduceGE, r4.cell, r7.cell, r10.cell, r13.cell]
      simp -dsimp (disch := omega) only [wrap64]
      refine ⟨p + 1, by omega, by simp [Le, find], by omega, p0, by omega, r4, r7, r10, r13, tx, ty, t12.congr fun i j hi hj => ?_⟩
      by_cases hip : i = p
      · subst hip
        have e : (List.range q).any (fun k => inN n M i k && inN m N k j) = compM n M m N i j := by
          rw [Bool.eq_iff_iff, compM_true, List.any_eq_true]
          simp only [List.mem_range, Bool.and_eq_true]
          refine exists_congr fun k => ⟨fun ⟨_, h⟩ => h, fun h => ⟨?_, h⟩⟩
          have := (inN_true.1 h.1).2.1; omega
        rw [e]; simp
      · have e : (i == p) = false := by simpa using hip
        have e4 : (i < p + 1) = (i < p) := by simp; omega
        simp [e, e4]
  · have hpn : p = max n m := by omega
    simp -dsimp only [go_sem, ↓reduceIte, reduceCtorEq, Nat.reduceEqDiff, Nat.reduceAdd, Nat.reduceLeDiff, Nat.reduceMul, Int.reduceBEq, Int.reduceBNe, Int.reduceLT, Int.reduceLE, Int.reduceGT, Int.reduceGE, r4.cell, r7.cell, r10.cell, r13.cell]
    refine Chk_intro (r4.wr (by first | (simp; done) | (simp; omega))) fun h15 s15 => ?_
    have s15_z := s15.size
    replace p0 := p0.fresh s15.fr (by omega)
    replace r7 := r7.fr s15.fr (by omega)
    replace r10 := r10.fr s15.fr (by omega)
    replace r13 := r13.fr s15.fr (by omega)
    replace tx := tx.fr s15.fr (by omega)
    replace ty := ty.fr s15.fr (by omega)
    replace t12 := t12.fr s15.fr (by omega)
    replace r4 := s15.row r4
    try simp only [cl_int, cl_bool, cl_slice, cl_ptr, putAt_one, List.set_cons_zero, List.set_cons_succ, ivec_set, brow_upd] at r4
    simp -dsimp only [go_sem, ↓reduceIte, reduceCtorEq, Nat.reduceEqDiff, Nat.reduceAdd, Nat.reduceLeDiff, Nat.reduceMul, Int.reduceBEq, Int.reduceBNe, Int.reduceLT, Int.reduceLE, Int.reduceGT, Int.reduceGE, r4.cell, r7.cell, r10.cell, r13.cell]
    refine ⟨p0, hmx, _, Z, rfl, ((t12.mono (by omega) (by omega)).congr fun i j hi hj => ?_)⟩
    have : i < p := by omega
    simp [this]
end Go.Proofs.Tst
