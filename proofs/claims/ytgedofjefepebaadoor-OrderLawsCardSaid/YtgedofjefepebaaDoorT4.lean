/-
  Contracts of functions that the law reaches: what each returns and what it leaves in memory. Conditions stand in each.
-/
import Derived.Test.YtgedofjefepebaaDoorT3
set_option linter.all false
set_option maxRecDepth 2000
namespace Go.Proofs.Tst
open Go Go.Vc
set_option maxHeartbeats 1600000 in
theorem order_Glue {n : Nat} {M : Nat → Nat → Bool} {rv lv : Value} {l : List (Int × Int)} {lo hi : Nat} {h : Heap} (hr : ProgAt h lo hi rv n M) (ht : TabAt h) (hl : Rd 2 h lv l.length (pairsV l)) (hb : l.length ≤ 4611686018427387904) :
    Con Tryd.prog 25 #[rv, lv] h fun v h' => Fr 0 0 h h' ∧ ResL h' h.size v (glueS n M l) := by
  refine con_order_Glue ?_
  have hn := hr.1
  obtain ⟨la, lc, rfl⟩ := hl.is
  have p0 : Fr 0 0 h h := .refl _ _ _
  simp -dsimp only [go_sem, ↓reduceIte, reduceCtorEq, Nat.reduceEqDiff, Nat.reduceAdd, Nat.reduceLeDiff, Nat.reduceMul, Int.reduceBEq, Int.reduceBNe, Int.reduceLT, Int.reduceLE, Int.reduceGT, Int.reduceGE]
  refine call_of (rel_Len hr) ?_
  rintro v h1 ⟨rfl, rfl⟩
  simp -dsimp only [go_sem, ↓reduceIte, reduceCtorEq, Nat.reduceEqDiff, Nat.reduceAdd, Nat.reduceLeDiff, Nat.reduceMul, Int.reduceBEq, Int.reduceBNe, Int.reduceLT, Int.reduceLE, Int.reduceGT, Int.reduceGE]
  refine Chk_intro (by omega) ?_
  intro bo h2 n2
  have n2_a := n2.at_
  have n2_z := n2.size
  replace p0 := p0.fresh (n2.fr (lo := 0) (hi := 0)) (by omega)
  have ro := n2.row
  rw [zeros_one, Int.toNat_natCast, ivec_rep] at ro
  simp -dsimp only [go_sem, ↓reduceIte, reduceCtorEq, Nat.reduceEqDiff, Nat.reduceAdd, Nat.reduceLeDiff, Nat.reduceMul, Int.reduceBEq, Int.reduceBNe, Int.reduceLT, Int.reduceLE, Int.reduceGT, Int.reduceGE, ro.cell]
  refine Chk_intro (by omega) ?_
  intro bx h3 n3
  have n3_a := n3.at_
  have n3_z := n3.size
  replace p0 := p0.fresh (n3.fr (lo := 0) (hi := 0)) (by omega)
  replace ro := ro.fr (n3.fr (lo := 0) (hi := 0)) (by omega)
  have rx := n3.row
  rw [zeros_one, Int.toNat_natCast, ivec_rep] at rx
  simp -dsimp only [go_sem, ↓reduceIte, reduceCtorEq, Nat.reduceEqDiff, Nat.reduceAdd, Nat.reduceLeDiff, Nat.reduceMul, Int.reduceBEq, Int.reduceBNe, Int.reduceLT, Int.reduceLE, Int.reduceGT, Int.reduceGE, ro.cell, rx.cell]
  refine loop_intro (fun i : Nat => [(0, rv), (1, .slice la l.length lc), (6, .int .i64 n), (7, .slice (some ⟨bo, 0, none⟩) n n), (8, .slice (some ⟨bx, 0, none⟩) n n), (27, .int .i64 n), (28, .int .i64 i)])
    (fun i h' => i ≤ n ∧ Fr 0 0 h1 h' ∧ h3.size ≤ h'.size ∧ Rw h' bo (ivec n fun p => if p < i then (p : Int) else 0) ∧ Rw h' bx (ivec n fun p => if p < i then -1 else 0)) (fun i => n - i) 0 ?_ ?_ ?_
  · simp [Le, find]
  · exact ⟨by omega, p0, by omega, by simpa using ro, by simpa using rx⟩
  rintro i h4 ⟨hi, p0, y4, ro, rx⟩
  have p0_z := p0.size
  have ro_l := ro.lt
  have rx_l := rx.lt
  simp -dsimp only [go_sem, ↓reduceIte, reduceCtorEq, Nat.reduceEqDiff, Nat.reduceAdd, Nat.reduceLeDiff, Nat.reduceMul, Int.reduceBEq, Int.reduceBNe, Int.reduceLT, Int.reduceLE, Int.reduceGT, Int.reduceGE, ro.cell, rx.cell]
  refine ⟨fun hlt => ?_, fun hge => ?_⟩
  · have hlt : i < n := by omega
    simp -dsimp only [go_sem, ↓reduceIte, reduceCtorEq, Nat.reduceEqDiff, Nat.reduceAdd, Nat.reduceLeDiff, Nat.reduceMul, Int.reduceBEq, Int.reduceBNe, Int.reduceLT, Int.reduceLE, Int.reduceGT, Int.reduceGE, ro.cell, rx.cell]
    refine Chk_intro (by omega) ?_
    simp -dsimp only [go_sem, ↓reduceIte, reduceCtorEq, Nat.reduceEqDiff, Nat.reduceAdd, Nat.reduceLeDiff, Nat.reduceMul, Int.reduceBEq, Int.reduceBNe, Int.reduceLT, Int.reduceLE, Int.reduceGT, Int.reduceGE, ro.cell, rx.cell]
    refine Chk_intro (ro.wr (by first | (simp; done) | (simp; omega))) fun h5 s5 => ?_
    have s5_z := s5.size
    replace p0 := p0.fresh s5.fr (by omega)
    replace rx := rx.fr s5.fr (by omega)
    replace ro := s5.row ro
    try simp only [cl_int, cl_bool, cl_slice, cl_ptr, putAt_one, List.set_cons_zero, List.set_cons_succ, ivec_set, brow_upd] at ro
    simp -dsimp only [go_sem, ↓reduceIte, reduceCtorEq, Nat.reduceEqDiff, Nat.reduceAdd, Nat.reduceLeDiff, Nat.reduceMul, Int.reduceBEq, Int.reduceBNe, Int.reduceLT, Int.reduceLE, Int.reduceGT, Int.reduceGE, ro.cell, rx.cell]
    refine Chk_intro (by omega) ?_
    simp -dsimp only [go_sem, ↓reduceIte, reduceCtorEq, Nat.reduceEqDiff, Nat.reduceAdd, Nat.reduceLeDiff, Nat.reduceMul, Int.reduceBEq, Int.reduceBNe, Int.reduceLT, Int.reduceLE, Int.reduceGT, Int.reduceGE, ro.cell, rx.cell]
    refine Chk_intro (rx.wr (by first | (simp; done) | (simp; omega))) fun h6 s6 => ?_
    have s6_z := s6.size
    replace p0 := p0.fresh s6.fr (by omega)
    replace ro := ro.fr s6.fr (by omega)
    replace rx := s6.row rx
    try simp only [cl_int, cl_bool, cl_slice, cl_ptr, putAt_one, List.set_cons_zero, List.set_cons_succ, ivec_set, brow_upd] at rx
    simp -dsimp only [go_sem, ↓reduceIte, reduceCtorEq, Nat.reduceEqDiff, Nat.reduceAdd, Nat.reduceLeDiff, Nat.reduceMul, Int.reduceBEq, Int.reduceBNe, Int.reduceLT, Int.reduceLE, Int.reduceGT, Int.reduceGE, ro.cell, rx.cell]
    simp -dsimp (disch := omega) only [wrap64]
    refine ⟨i + 1, by omega, by simp [Le, find], by omega, p0, by omega, ?_, ?_⟩
    · rw [ivec_congr fun p hp => ?_]; exact ro
      by_cases h : p = i
      · subst h; rw [upd_same, if_pos (by omega)]
      · rw [upd_ne _ _ h]; congr 1; simp; omega
    · rw [ivec_congr fun p hp => ?_]; exact rx
      by_cases h : p = i
      · subst h; rw [upd_same, if_pos (by omega)]
      · rw [upd_ne _ _ h]; congr 1; simp; omega
  obtain rfl : n = i := by omega
  replace ro : Rw h4 bo (ivec n fun p => ((id p : Nat) : Int)) := by rw [ivec_congr fun p hp => ?_]; exact ro; simp [hp]
  replace rx : Rw h4 bx (ivec n fun _ => -1) := by rw [ivec_congr fun p hp => ?_]; exact rx; simp [hp]
  have a3 := p0.size
  simp -dsimp only [go_sem, ↓reduceIte, reduceCtorEq, Nat.reduceEqDiff, Nat.reduceAdd, Nat.reduceLeDiff, Nat.reduceMul, Int.reduceBEq, Int.reduceBNe, Int.reduceLT, Int.reduceLE, Int.reduceGT, Int.reduceGE, ro.cell, rx.cell]
  refine Chk_intro (by omega) ?_
  intro bu h5 n5
  have n5_a := n5.at_
  have n5_z := n5.size
  replace p0 := p0.fresh (n5.fr (lo := 0) (hi := 0)) (by omega)
  replace ro := ro.fr (n5.fr (lo := 0) (hi := 0)) (by omega)
  replace rx := rx.fr (n5.fr (lo := 0) (hi := 0)) (by omega)
  have ru := n5.row
  rw [zeros_one, Int.toNat_natCast, brow_false] at ru
  simp -dsimp only [go_sem, ↓reduceIte, reduceCtorEq, Nat.reduceEqDiff, Nat.reduceAdd, Nat.reduceLeDiff, Nat.reduceMul, Int.reduceBEq, Int.reduceBNe, Int.reduceLT, Int.reduceLE, Int.reduceGT, Int.reduceGE, ro.cell, rx.cell, ru.cell]
  refine loop_intro (fun i : Nat => [(0, rv), (6, .int .i64 n), (7, .slice (some ⟨bo, 0, none⟩) n n), (8, .slice (some ⟨bx, 0, none⟩) n n), (10, .slice (some ⟨bu, 0, none⟩) n n), (41, .slice la l.length lc), (42, .int .i64 l.length), (43, .int .i64 i)])
    (fun i h' => i ≤ l.length ∧ Fr 0 0 h1 h' ∧ h5.size ≤ h'.size ∧ ∃ (U : Nat → Bool) (F : Nat → Nat) (S : Nat → Int), Rw h' bo (ivec n fun p => (F p : Int)) ∧ Rw h' bx (ivec n S) ∧ Rw h' bu (brow n U) ∧ GluI n U F S ∧ glueIn n (l.drop i) U F S = glueFS n l) (fun i => l.length - i) 0 ?_ ?_ ?_
  · simp [Le, find]
  · exact ⟨by omega, p0, by omega, _, _, _, ro, rx, ru, .start n, rfl⟩
  rintro i h6 ⟨hi, p0, y6, U, F, S, ro, rx, ru, hG, hgl⟩
  have p0_z := p0.size
  have ro_l := ro.lt
  have rx_l := rx.lt
  have ru_l := ru.lt
  simp -dsimp only [go_sem, ↓reduceIte, reduceCtorEq, Nat.reduceEqDiff, Nat.reduceAdd, Nat.reduceLeDiff, Nat.reduceMul, Int.reduceBEq, Int.reduceBNe, Int.reduceLT, Int.reduceLE, Int.reduceGT, Int.reduceGE, ro.cell, rx.cell, ru.cell]
  refine ⟨fun hlt => ?_, fun hge => ?_⟩
  · have hlt : i < l.length := by omega
    have hp : l[i]? = some l[i] := by simp [hlt]
    rw [List.drop_eq_getElem_cons hlt] at hgl
    generalize l[i] = p at hp hgl
    obtain ⟨a, b⟩ := p
    have bad : badP n U (a, b) → glueFS n l = none := fun hb => by rw [← hgl]; simp [glueIn, hb]
    have fin : glueFS n l = none → glueS n M l = .error 1 := fun hb => by simp [glueS, hb]
    simp -dsimp only [go_sem, ↓reduceIte, reduceCtorEq, Nat.reduceEqDiff, Nat.reduceAdd, Nat.reduceLeDiff, Nat.reduceMul, Int.reduceBEq, Int.reduceBNe, Int.reduceLT, Int.reduceLE, Int.reduceGT, Int.reduceGE, ro.cell, rx.cell, ru.cell]
    refine Chk_intro (by omega) ((hl.fr p0).pair hp fun b7 o7 c1 c2 => ?_)
    simp -dsimp only [go_sem, ↓reduceIte, reduceCtorEq, Nat.reduceEqDiff, Nat.reduceAdd, Nat.reduceLeDiff, Nat.reduceMul, Int.reduceBEq, Int.reduceBNe, Int.reduceLT, Int.reduceLE, Int.reduceGT, Int.reduceGE, c1, c2, ro.cell, rx.cell, ru.cell]
    intro b8 h8 n8
    have n8_a := n8.at_
    have n8_z := n8.size
    replace p0 := p0.fresh (n8.fr (lo := 0) (hi := 0)) (by omega)
    replace ro := ro.fr (n8.fr (lo := 0) (hi := 0)) (by omega)
    replace rx := rx.fr (n8.fr (lo := 0) (hi := 0)) (by omega)
    replace ru := ru.fr (n8.fr (lo := 0) (hi := 0)) (by omega)
    have r8 := n8.row
    simp -dsimp only [go_sem, ↓reduceIte, reduceCtorEq, Nat.reduceEqDiff, Nat.reduceAdd, Nat.reduceLeDiff, Nat.reduceMul, Int.reduceBEq, Int.reduceBNe, Int.reduceLT, Int.reduceLE, Int.reduceGT, Int.reduceGE, ro.cell, rx.cell, ru.cell, r8.cell]
    refine Chk_intro (r8.wr (by first | (simp; done) | (simp; omega))) fun h9 s9 => ?_
    have s9_z := s9.size
    replace p0 := p0.fresh s9.fr (by omega)
    replace ro := ro.fr s9.fr (by omega)
    replace rx := rx.fr s9.fr (by omega)
    replace ru := ru.fr s9.fr (by omega)
    replace r8 := s9.row r8
    try simp only [cl_int, cl_bool, cl_slice, cl_ptr, putAt_one, List.set_cons_zero, List.set_cons_succ, ivec_set, brow_upd] at r8
    simp -dsimp only [go_sem, ↓reduceIte, reduceCtorEq, Nat.reduceEqDiff, Nat.reduceAdd, Nat.reduceLeDiff, Nat.reduceMul, Int.reduceBEq, Int.reduceBNe, Int.reduceLT, Int.reduceLE, Int.reduceGT, Int.reduceGE] at r8
    by_cases g1 : a < 0
    · simp -dsimp only [go_sem, ↓reduceIte, reduceCtorEq, Nat.reduceEqDiff, Nat.reduceAdd, Nat.reduceLeDiff, Nat.reduceMul, Int.reduceBEq, Int.reduceBNe, Int.reduceLT, Int.reduceLE, Int.reduceGT, Int.reduceGE, g1, decide_true, ro.cell, rx.cell, ru.cell, r8.cell]
      exact ⟨p0, by rw [fin (bad (.inl g1))]; rfl⟩
    by_cases g2 : a ≥ (n : Int)
    · simp -dsimp only [go_sem, ↓reduceIte, reduceCtorEq, Nat.reduceEqDiff, Nat.reduceAdd, Nat.reduceLeDiff, Nat.reduceMul, Int.reduceBEq, Int.reduceBNe, Int.reduceLT, Int.reduceLE, Int.reduceGT, Int.reduceGE, g1, g2, decide_true, decide_false, ro.cell, rx.cell, ru.cell, r8.cell]
      exact ⟨p0, by rw [fin (bad (.inr (.inl g2)))]; rfl⟩
    by_cases g3 : b < 0
    · simp -dsimp only [go_sem, ↓reduceIte, reduceCtorEq, Nat.reduceEqDiff, Nat.reduceAdd, Nat.reduceLeDiff, Nat.reduceMul, Int.reduceBEq, Int.reduceBNe, Int.reduceLT, Int.reduceLE, Int.reduceGT, Int.reduceGE, g1, g2, g3, decide_true, decide_false, ro.cell, rx.cell, ru.cell, r8.cell]
      exact ⟨p0, by rw [fin (bad (.inr (.inr (.inl g3))))]; rfl⟩
    by_cases g4 : b ≥ (n : Int)
    · simp -dsimp only [go_sem, ↓reduceIte, reduceCtorEq, Nat.reduceEqDiff, Nat.reduceAdd, Nat.reduceLeDiff, Nat.reduceMul, Int.reduceBEq, Int.reduceBNe, Int.reduceLT, Int.reduceLE, Int.reduceGT, Int.reduceGE, g1, g2, g3, g4, decide_true, decide_false, ro.cell, rx.cell, ru.cell, r8.cell]
      exact ⟨p0, by rw [fin (bad (.inr (.inr (.inr (.inl g4)))))]; rfl⟩
    obtain ⟨x, rfl⟩ : ∃ x : Nat, a = x := ⟨a.toNat, by omega⟩
    obtain ⟨y, rfl⟩ : ∃ y : Nat, b = y := ⟨b.toNat, by omega⟩
    have hx : x < n := by omega
    have hy : y < n := by omega
    by_cases g5 : x = y
    · subst g5
      simp -dsimp only [go_sem, ↓reduceIte, reduceCtorEq, Nat.reduceEqDiff, Nat.reduceAdd, Nat.reduceLeDiff, Nat.reduceMul, Int.reduceBEq, Int.reduceBNe, Int.reduceLT, Int.reduceLE, Int.reduceGT, Int.reduceGE, g1, g2, g3, g4, decide_true, decide_false, beq_self_eq_true, ro.cell, rx.cell, ru.cell, r8.cell]
      exact ⟨p0, by rw [fin (bad (.inr (.inr (.inr (.inr (.inl rfl))))))]; rfl⟩
    have g5' : ((x : Int) == (y : Int)) = false := by simp; omega
    simp -dsimp only [go_sem, ↓reduceIte, reduceCtorEq, Nat.reduceEqDiff, Nat.reduceAdd, Nat.reduceLeDiff, Nat.reduceMul, Int.reduceBEq, Int.reduceBNe, Int.reduceLT, Int.reduceLE, Int.reduceGT, Int.reduceGE, g1, g2, g3, g4, g5', decide_true, decide_false, decide_eq_false, ro.cell, rx.cell, ru.cell, r8.cell]
    refine Chk_intro (by omega) ?_
    simp -dsimp only [go_sem, ↓reduceIte, reduceCtorEq, Nat.reduceEqDiff, Nat.reduceAdd, Nat.reduceLeDiff, Nat.reduceMul, Int.reduceBEq, Int.reduceBNe, Int.reduceLT, Int.reduceLE, Int.reduceGT, Int.reduceGE, brow_get hx, ro.cell, rx.cell, ru.cell, r8.cell]
    by_cases g6 : U x = true
    · simp -dsimp only [go_sem, ↓reduceIte, reduceCtorEq, Nat.reduceEqDiff, Nat.reduceAdd, Nat.reduceLeDiff, Nat.reduceMul, Int.reduceBEq, Int.reduceBNe, Int.reduceLT, Int.reduceLE, Int.reduceGT, Int.reduceGE, g6, g1, g2, g3, g4, g5', decide_true, decide_false, ro.cell, rx.cell, ru.cell, r8.cell]
      exact ⟨p0, by rw [fin (bad (.inr (.inr (.inr (.inr (.inr (.inl (by simpa using g6))))))))]; rfl⟩
    replace g6 : U x = false := Bool.eq_false_iff.2 g6
    simp -dsimp only [go_sem, ↓reduceIte, reduceCtorEq, Nat.reduceEqDiff, Nat.reduceAdd, Nat.reduceLeDiff, Nat.reduceMul, Int.reduceBEq, Int.reduceBNe, Int.reduceLT, Int.reduceLE, Int.reduceGT, Int.reduceGE, g6, g1, g2, g3, g4, g5', decide_true, decide_false, ro.cell, rx.cell, ru.cell, r8.cell]
    refine Chk_intro (by omega) ?_
    simp -dsimp only [go_sem, ↓reduceIte, reduceCtorEq, Nat.reduceEqDiff, Nat.reduceAdd, Nat.reduceLeDiff, Nat.reduceMul, Int.reduceBEq, Int.reduceBNe, Int.reduceLT, Int.reduceLE, Int.reduceGT, Int.reduceGE, brow_get hy, g6, ro.cell, rx.cell, ru.cell, r8.cell]
    by_cases g7 : U y = true
    · simp -dsimp only [go_sem, ↓reduceIte, reduceCtorEq, Nat.reduceEqDiff, Nat.reduceAdd, Nat.reduceLeDiff, Nat.reduceMul, Int.reduceBEq, Int.reduceBNe, Int.reduceLT, Int.reduceLE, Int.reduceGT, Int.reduceGE, g7, g1, g2, g3, g4, g5', decide_true, decide_false, ro.cell, rx.cell, ru.cell, r8.cell]
      exact ⟨p0, by rw [fin (bad (.inr (.inr (.inr (.inr (.inr (.inr (by simpa using g7))))))))]; rfl⟩
    replace g7 : U y = false := Bool.eq_false_iff.2 g7
    simp -dsimp only [go_sem, ↓reduceIte, reduceCtorEq, Nat.reduceEqDiff, Nat.reduceAdd, Nat.reduceLeDiff, Nat.reduceMul, Int.reduceBEq, Int.reduceBNe, Int.reduceLT, Int.reduceLE, Int.reduceGT, Int.reduceGE, g7, g6, ro.cell, rx.cell, ru.cell, r8.cell]
    have nb : ¬ badP n U ((x : Int), (y : Int)) := by
      simp [badP, g6, g7]; omega
    refine Chk_intro (by omega) ?_
    simp -dsimp only [go_sem, ↓reduceIte, reduceCtorEq, Nat.reduceEqDiff, Nat.reduceAdd, Nat.reduceLeDiff, Nat.reduceMul, Int.reduceBEq, Int.reduceBNe, Int.reduceLT, Int.reduceLE, Int.reduceGT, Int.reduceGE, ro.cell, rx.cell, ru.cell, r8.cell]
    refine Chk_intro (ru.wr (by first | (simp; done) | (simp; omega))) fun h10 s10 => ?_
    have s10_z := s10.size
    replace p0 := p0.fresh s10.fr (by omega)
    replace ro := ro.fr s10.fr (by omega)
    replace rx := rx.fr s10.fr (by omega)
    replace r8 := r8.fr s10.fr (by omega)
    replace ru := s10.row ru
    try simp only [cl_int, cl_bool, cl_slice, cl_ptr, putAt_one, List.set_cons_zero, List.set_cons_succ, ivec_set, brow_upd] at ru
    simp -dsimp only [go_sem, ↓reduceIte, reduceCtorEq, Nat.reduceEqDiff, Nat.reduceAdd, Nat.reduceLeDiff, Nat.reduceMul, Int.reduceBEq, Int.reduceBNe, Int.reduceLT, Int.reduceLE, Int.reduceGT, Int.reduceGE, ro.cell, rx.cell, ru.cell, r8.cell]
    refine Chk_intro (by omega) ?_
    simp -dsimp only [go_sem, ↓reduceIte, reduceCtorEq, Nat.reduceEqDiff, Nat.reduceAdd, Nat.reduceLeDiff, Nat.reduceMul, Int.reduceBEq, Int.reduceBNe, Int.reduceLT, Int.reduceLE, Int.reduceGT, Int.reduceGE, ro.cell, rx.cell, ru.cell, r8.cell]
    refine Chk_intro (ru.wr (by first | (simp; done) | (simp; omega))) fun h11 s11 => ?_
    have s11_z := s11.size
    replace p0 := p0.fresh s11.fr (by omega)
    replace ro := ro.fr s11.fr (by omega)
    replace rx := rx.fr s11.fr (by omega)
    replace r8 := r8.fr s11.fr (by omega)
    replace ru := s11.row ru
    try simp only [cl_int, cl_bool, cl_slice, cl_ptr, putAt_one, List.set_cons_zero, List.set_cons_succ, ivec_set, brow_upd] at ru
    simp -dsimp only [go_sem, ↓reduceIte, reduceCtorEq, Nat.reduceEqDiff, Nat.reduceAdd, Nat.reduceLeDiff, Nat.reduceMul, Int.reduceBEq, Int.reduceBNe, Int.reduceLT, Int.reduceLE, Int.reduceGT, Int.reduceGE, ro.cell, rx.cell, ru.cell, r8.cell]
    refine Chk_intro (by omega) ?_
    simp -dsimp only [go_sem, ↓reduceIte, reduceCtorEq, Nat.reduceEqDiff, Nat.reduceAdd, Nat.reduceLeDiff, Nat.reduceMul, Int.reduceBEq, Int.reduceBNe, Int.reduceLT, Int.reduceLE, Int.reduceGT, Int.reduceGE, ro.cell, rx.cell, ru.cell, r8.cell]
    refine Chk_intro (ro.wr (by first | (simp; done) | (simp; omega))) fun h12 s12 => ?_
    have s12_z := s12.size
    replace p0 := p0.fresh s12.fr (by omega)
    replace rx := rx.fr s12.fr (by omega)
    replace ru := ru.fr s12.fr (by omega)
    replace r8 := r8.fr s12.fr (by omega)
    replace ro := s12.row ro
    try simp only [cl_int, cl_bool, cl_slice, cl_ptr, putAt_one, List.set_cons_zero, List.set_cons_succ, ivec_set, brow_upd] at ro
    simp -dsimp only [go_sem, ↓reduceIte, reduceCtorEq, Nat.reduceEqDiff, Nat.reduceAdd, Nat.reduceLeDiff, Nat.reduceMul, Int.reduceBEq, Int.reduceBNe, Int.reduceLT, Int.reduceLE, Int.reduceGT, Int.reduceGE, ro.cell, rx.cell, ru.cell, r8.cell]
    refine Chk_intro (by omega) ?_
    simp -dsimp only [go_sem, ↓reduceIte, reduceCtorEq, Nat.reduceEqDiff, Nat.reduceAdd, Nat.reduceLeDiff, Nat.reduceMul, Int.reduceBEq, Int.reduceBNe, Int.reduceLT, Int.reduceLE, Int.reduceGT, Int.reduceGE, ro.cell, rx.cell, ru.cell, r8.cell]
    refine Chk_intro (rx.wr (by first | (simp; done) | (simp; omega))) fun h13 s13 => ?_
    have s13_z := s13.size
    replace p0 := p0.fresh s13.fr (by omega)
    replace ro := ro.fr s13.fr (by omega)
    replace ru := ru.fr s13.fr (by omega)
    replace r8 := r8.fr s13.fr (by omega)
    replace rx := s13.row rx
    try simp only [cl_int, cl_bool, cl_slice, cl_ptr, putAt_one, List.set_cons_zero, List.set_cons_succ, ivec_set, brow_upd] at rx
    simp -dsimp only [go_sem, ↓reduceIte, reduceCtorEq, Nat.reduceEqDiff, Nat.reduceAdd, Nat.reduceLeDiff, Nat.reduceMul, Int.reduceBEq, Int.reduceBNe, Int.reduceLT, Int.reduceLE, Int.reduceGT, Int.reduceGE, ro.cell, rx.cell, ru.cell, r8.cell]
    simp -dsimp (disch := omega) only [wrap64]
    simp only [glueIn, if_neg nb, Int.toNat_natCast] at hgl
    refine ⟨i + 1, by omega, by simp [Le, find], by omega, p0, by omega, upd (upd U x true) y true, upd F y x, upd S x (y : Int), ?_, rx, ru, hG.step hx hy g5 g6 g7, hgl⟩
    rw [ivec_congr fun p hp => ?_]; exact ro
    unfold upd; split <;> rfl
  have hil : i = l.length := by omega
  subst hil
  rw [List.drop_length] at hgl
  simp only [glueIn] at hgl
  have y1 := p0.size
  simp -dsimp only [go_sem, ↓reduceIte, reduceCtorEq, Nat.reduceEqDiff, Nat.reduceAdd, Nat.reduceLeDiff, Nat.reduceMul, Int.reduceBEq, Int.reduceBNe, Int.reduceLT, Int.reduceLE, Int.reduceGT, Int.reduceGE, ro.cell, rx.cell, ru.cell]
  refine call_of (rel_New n h6) ?_
  rintro v7 h7 ⟨f7, t7⟩
  have f7_z := f7.size
  replace p0 := p0.fresh f7 (by omega)
  replace ro := ro.fr f7 (by omega)
  replace rx := rx.fr f7 (by omega)
  replace ru := ru.fr f7 (by omega)
  have hcl : clampN n = n := by unfold clampN; omega
  rw [hcl] at t7
  simp -dsimp only [go_sem, ↓reduceIte, reduceCtorEq, Nat.reduceEqDiff, Nat.reduceAdd, Nat.reduceLeDiff, Nat.reduceMul, Int.reduceBEq, Int.reduceBNe, Int.reduceLT, Int.reduceLE, Int.reduceGT, Int.reduceGE, ro.cell, rx.cell, ru.cell]
  refine call_of (rel_Pairs (hr.fr p0 (by omega)) (ht.fr p0 (by omega))) ?_
  rintro v h8 ⟨f8, o8⟩
  have f8_z := f8.size
  replace p0 := p0.fresh f8 (by omega)
  replace ro := ro.fr f8 (by omega)
  replace rx := rx.fr f8 (by omega)
  replace ru := ru.fr f8 (by omega)
  replace t7 := t7.fr f8 (by omega)
  obtain ⟨pa, pc, rfl⟩ := o8.is
  have g3 : n * n ≤ 256 * 256 := Nat.mul_le_mul (by omega) (by omega)
  have g4 : (pairsOf n M).length ≤ n * n := length_pairsTo_le n M n
  simp -dsimp only [go_sem, ↓reduceIte, reduceCtorEq, Nat.reduceEqDiff, Nat.reduceAdd, Nat.reduceLeDiff, Nat.reduceMul, Int.reduceBEq, Int.reduceBNe, Int.reduceLT, Int.reduceLE, Int.reduceGT, Int.reduceGE, ro.cell, rx.cell, ru.cell]
  refine loop_intro (fun j : Nat => [(6, .int .i64 n), (7, .slice (some ⟨bo, 0, none⟩) n n), (8, .slice (some ⟨bx, 0, none⟩) n n), (13, v7), (112, .slice pa (pairsOf n M).length pc), (113, .int .i64 (pairsOf n M).length), (114, .int .i64 j)])
    (fun j h' => j ≤ (pairsOf n M).length ∧ Fr 0 0 h1 h' ∧ h8.size ≤ h'.size ∧ Rw h' bo (ivec n fun p => (F p : Int)) ∧ Rw h' bx (ivec n S) ∧ Holder 2 h' (.slice pa (pairsOf n M).length pc) (pairsOf n M).length (pairsV (pairsOf n M)) h7.size ∧
      ∃ N, ProgAt h' h6.size h7.size v7 n N ∧ ∀ x y, N x y = true ↔ ∃ p : Nat × Nat, ((p.1 : Int), (p.2 : Int)) ∈ (pairsOf n M).take j ∧ S p.1 ≠ (p.2 : Int) ∧ F p.1 = x ∧ F p.2 = y) (fun j => (pairsOf n M).length - j) 0 ?_ ?_ ?_
  · simp [Le, find]
  · exact ⟨by omega, p0, by omega, ro, rx, o8, _, t7, by simp⟩
  rintro j h9 ⟨hj, p0, y9, ro, rx, o8, N, t9, hN⟩
  have p0_z := p0.size
  have ro_l := ro.lt
  have rx_l := rx.lt
  have o8_l := o8.top
  simp -dsimp only [go_sem, ↓reduceIte, reduceCtorEq, Nat.reduceEqDiff, Nat.reduceAdd, Nat.reduceLeDiff, Nat.reduceMul, Int.reduceBEq, Int.reduceBNe, Int.reduceLT, Int.reduceLE, Int.reduceGT, Int.reduceGE, ro.cell, rx.cell]
  refine ⟨fun hlt => ?_, fun hge => ?_⟩
  · have hlt : j < (pairsOf n M).length := by omega
    have hq : (pairsOf n M)[j]? = some (pairsOf n M)[j] := by simp
    have htk : (pairsOf n M).take (j + 1) = (pairsOf n M).take j ++ [(pairsOf n M)[j]] := by rw [List.take_succ_eq_append_getElem hlt]
    have hmem : (pairsOf n M)[j] ∈ pairsOf n M := List.getElem_mem _
    generalize (pairsOf n M)[j] = q at hq htk hmem
    obtain ⟨a, b, ha, hb', hm, rfl⟩ := mem_pairsOf.1 hmem
    simp -dsimp only [go_sem, ↓reduceIte, reduceCtorEq, Nat.reduceEqDiff, Nat.reduceAdd, Nat.reduceLeDiff, Nat.reduceMul, Int.reduceBEq, Int.reduceBNe, Int.reduceLT, Int.reduceLE, Int.reduceGT, Int.reduceGE, ro.cell, rx.cell]
    refine Chk_intro (by omega) (o8.rd.pair hq fun b6 o6 c6 c7 => ?_)
    simp -dsimp only [go_sem, ↓reduceIte, reduceCtorEq, Nat.reduceEqDiff, Nat.reduceAdd, Nat.reduceLeDiff, Nat.reduceMul, Int.reduceBEq, Int.reduceBNe, Int.reduceLT, Int.reduceLE, Int.reduceGT, Int.reduceGE, c6, c7, ro.cell, rx.cell]
    intro b10 h10 n10
    have n10_a := n10.at_
    have n10_z := n10.size
    replace p0 := p0.fresh (n10.fr (lo := 0) (hi := 0)) (by omega)
    replace ro := ro.fr (n10.fr (lo := 0) (hi := 0)) (by omega)
    replace rx := rx.fr (n10.fr (lo := 0) (hi := 0)) (by omega)
    replace o8 := o8.fr (n10.fr (lo := 0) (hi := 0)) (by have := o8.at_; omega)
    replace t9 := t9.fr (n10.fr (lo := 0) (hi := 0)) (by omega)
    have r10 := n10.row
    simp -dsimp only [go_sem, ↓reduceIte, reduceCtorEq, Nat.reduceEqDiff, Nat.reduceAdd, Nat.reduceLeDiff, Nat.reduceMul, Int.reduceBEq, Int.reduceBNe, Int.reduceLT, Int.reduceLE, Int.reduceGT, Int.reduceGE, ro.cell, rx.cell, r10.cell]
    refine Chk_intro (r10.wr (by first | (simp; done) | (simp; omega))) fun h11 s11 => ?_
    have s11_z := s11.size
    replace p0 := p0.fresh s11.fr (by omega)
    replace ro := ro.fr s11.fr (by omega)
    replace rx := rx.fr s11.fr (by omega)
    replace o8 := o8.fr s11.fr (by have := o8.at_; omega)
    replace t9 := t9.fr s11.fr (by omega)
    replace r10 := s11.row r10
    try simp only [cl_int, cl_bool, cl_slice, cl_ptr, putAt_one, List.set_cons_zero, List.set_cons_succ, ivec_set, brow_upd] at r10
    simp -dsimp only [go_sem, ↓reduceIte, reduceCtorEq, Nat.reduceEqDiff, Nat.reduceAdd, Nat.reduceLeDiff, Nat.reduceMul, Int.reduceBEq, Int.reduceBNe, Int.reduceLT, Int.reduceLE, Int.reduceGT, Int.reduceGE] at r10
    simp -dsimp only [go_sem, ↓reduceIte, reduceCtorEq, Nat.reduceEqDiff, Nat.reduceAdd, Nat.reduceLeDiff, Nat.reduceMul, Int.reduceBEq, Int.reduceBNe, Int.reduceLT, Int.reduceLE, Int.reduceGT, Int.reduceGE, ro.cell, rx.cell, r10.cell]
    refine Chk_intro (by omega) ?_
    simp -dsimp only [go_sem, ↓reduceIte, reduceCtorEq, Nat.reduceEqDiff, Nat.reduceAdd, Nat.reduceLeDiff, Nat.reduceMul, Int.reduceBEq, Int.reduceBNe, Int.reduceLT, Int.reduceLE, Int.reduceGT, Int.reduceGE, ivec_get ha, ro.cell, rx.cell, r10.cell]
    refine ⟨fun hne => ?_, fun heq => ?_⟩
    · have hFa := hG.lt a ha
      have hFb := hG.lt b hb'
      simp -dsimp only [go_sem, ↓reduceIte, reduceCtorEq, Nat.reduceEqDiff, Nat.reduceAdd, Nat.reduceLeDiff, Nat.reduceMul, Int.reduceBEq, Int.reduceBNe, Int.reduceLT, Int.reduceLE, Int.reduceGT, Int.reduceGE, ro.cell, rx.cell, r10.cell]
      refine Chk_intro (by omega) ?_
      simp -dsimp only [go_sem, ↓reduceIte, reduceCtorEq, Nat.reduceEqDiff, Nat.reduceAdd, Nat.reduceLeDiff, Nat.reduceMul, Int.reduceBEq, Int.reduceBNe, Int.reduceLT, Int.reduceLE, Int.reduceGT, Int.reduceGE, ivec_get ha, ro.cell, rx.cell, r10.cell]
      refine Chk_intro (by omega) ?_
      simp -dsimp only [go_sem, ↓reduceIte, reduceCtorEq, Nat.reduceEqDiff, Nat.reduceAdd, Nat.reduceLeDiff, Nat.reduceMul, Int.reduceBEq, Int.reduceBNe, Int.reduceLT, Int.reduceLE, Int.reduceGT, Int.reduceGE, ivec_get hb', ro.cell, rx.cell, r10.cell]
      refine call_of (rel_Put t9 (F a) (F b) true) ?_
      rintro v12 h12 ⟨f12, z12, rfl, t12⟩
      have f12_z := f12.size
      replace p0 := p0.fresh f12 (by omega)
      replace ro := ro.fr f12 (by omega)
      replace rx := rx.fr f12 (by omega)
      replace o8 := o8.fr f12 (by have := o8.at_; omega)
      replace r10 := r10.fr f12 (by omega)
      simp -dsimp only [go_sem, ↓reduceIte, reduceCtorEq, Nat.reduceEqDiff, Nat.reduceAdd, Nat.reduceLeDiff, Nat.reduceMul, Int.reduceBEq, Int.reduceBNe, Int.reduceLT, Int.reduceLE, Int.reduceGT, Int.reduceGE, ro.cell, rx.cell, r10.cell]
      simp -dsimp (disch := omega) only [wrap64]
      refine ⟨j + 1, by omega, by simp [Le, find], by omega, p0, by omega, ro, rx, o8, _, t12, fun x y => ?_⟩
      have e : (inR n (F a) && inR n (F b)) = true := by simp [inR]; omega
      simp only [putM, e, Bool.true_and]
      rw [htk]
      by_cases hxy : x = F a ∧ y = F b
      · obtain ⟨rfl, rfl⟩ := hxy
        simp only [beq_self_eq_true, Bool.and_self, if_true, true_iff]
        exact ⟨(a, b), by simp, by simpa using hne, rfl, rfl⟩
      · have : ((F a : Int) == (x : Int) && (F b : Int) == (y : Int)) = false := by
          rw [Bool.eq_false_iff]; intro h; apply hxy; simp at h; omega
        rw [this]
        simp only [Bool.false_eq_true, if_false]
        rw [hN]
        refine exists_congr fun p => ?_
        simp only [List.mem_append, List.mem_singleton, Prod.mk.injEq]
        constructor
        · rintro ⟨h1, h2⟩; exact ⟨.inl h1, h2⟩
        · rintro ⟨h1 | ⟨h1, h1'⟩, h2, h3, h4⟩
          · exact ⟨h1, h2, h3, h4⟩
          · have e1 : p.1 = a := by omega
            have e2 : p.2 = b := by omega
            rw [e1] at h3; rw [e2] at h4
            exact absurd ⟨h3.symm, h4.symm⟩ hxy
    · simp -dsimp only [go_sem, ↓reduceIte, reduceCtorEq, Nat.reduceEqDiff, Nat.reduceAdd, Nat.reduceLeDiff, Nat.reduceMul, Int.reduceBEq, Int.reduceBNe, Int.reduceLT, Int.reduceLE, Int.reduceGT, Int.reduceGE, ro.cell, rx.cell, r10.cell]
      simp -dsimp (disch := omega) only [wrap64]
      refine ⟨j + 1, by omega, by simp [Le, find], by omega, p0, by omega, ro, rx, o8, N, t9, fun x y => ?_⟩
      rw [htk, hN]
      refine exists_congr fun p => ?_
      simp only [List.mem_append, List.mem_singleton, Prod.mk.injEq]
      constructor
      · rintro ⟨h1, h2⟩; exact ⟨.inl h1, h2⟩
      · rintro ⟨h1 | ⟨h1, h1'⟩, h2, h3, h4⟩
        · exact ⟨h1, h2, h3, h4⟩
        · have e1 : p.1 = a := by omega
          have e2 : p.2 = b := by omega
          rw [e1, e2] at h2
          exact absurd h2 (by simpa using heq)
  have hjl : j = (pairsOf n M).length := by omega
  subst hjl
  rw [List.take_length] at hN
  have t9 := t9.congr (M' := glueM n M F S) fun x y hx hy => Bool.eq_iff_iff.2 (by
    rw [hN, glueM_true]
    constructor
    · rintro ⟨⟨p, q⟩, h1, h2, h3, h4⟩
      obtain ⟨a, b, ha, hb, hm, he⟩ := mem_pairsOf.1 h1
      simp only [Prod.mk.injEq] at he
      have e1 : p = a := by omega
      have e2 : q = b := by omega
      subst e1 e2
      exact ⟨p, ha, q, hb, hm, h2, h3, h4⟩
    · rintro ⟨p, hp, q, hq, hm, h2, h3, h4⟩
      exact ⟨(p, q), mem_pairsOf.2 ⟨p, q, hp, hq, hm, rfl⟩, h2, h3, h4⟩)
  have hS : glueS n M l = orCyc (glueGo n F S (glueM n M F S) n []) := by simp only [glueS, ← hgl]
  clear hN
  generalize glueM n M F S = G at hS t9
  simp -dsimp only [go_sem, ↓reduceIte, reduceCtorEq, Nat.reduceEqDiff, Nat.reduceAdd, Nat.reduceLeDiff, Nat.reduceMul, Int.reduceBEq, Int.reduceBNe, Int.reduceLT, Int.reduceLE, Int.reduceGT, Int.reduceGE, ro.cell, rx.cell]
  refine call_of (order_chooser t9 (ht.fr p0 (by omega))) ?_
  rintro v h10 ⟨f10, c, rfl, t10⟩
  have f10_z := f10.size
  replace p0 := p0.fresh f10 (by omega)
  replace ro := ro.fr f10 (by omega)
  replace rx := rx.fr f10 (by omega)
  replace o8 := o8.fr f10 (by have := o8.at_; omega)
  replace t9 := t9.fr f10 (by omega)
  have y10 := p0.size
  simp -dsimp only [go_sem, ↓reduceIte, reduceCtorEq, Nat.reduceEqDiff, Nat.reduceAdd, Nat.reduceLeDiff, Nat.reduceMul, Int.reduceBEq, Int.reduceBNe, Int.reduceLT, Int.reduceLE, Int.reduceGT, Int.reduceGE, ro.cell, rx.cell]
  refine loop_intro (fun s : Value × Nat => [(6, .int .i64 n), (7, .slice (some ⟨bo, 0, none⟩) n n), (8, .slice (some ⟨bx, 0, none⟩) n n), (16, c.next), (17, c.place), (18, s.1)])
    (fun s h' => Fr 0 0 h1 h' ∧ h10.size ≤ h'.size ∧ Rw h' bo (ivec n fun p => (F p : Int)) ∧ Rw h' bx (ivec n S) ∧ ∃ m : List Nat, m.length = s.2 ∧ m.length ≤ n + 1 ∧ Chs h' h9.size h10.size c n G m.contains ∧ Holder 1 h' s.1 m.length (natsV m) h10.size ∧ (∀ q, q < n → F q ≠ q → m.contains q = m.contains (F q)) ∧ ∃ k, n ≤ m.length + k ∧ glueGo n F S G k m = glueGo n F S G n []) (fun s => n - s.2) (.slice none 0 0, 0) ?_ ?_ ?_
  · simp [Le, find]
  · exact ⟨p0, by omega, ro, rx, [], rfl, by simp, t10, .none _ _ _, by simp, n, by simp, rfl⟩
  rintro ⟨lv, i⟩ h12 ⟨p0, y12, ro, rx, m, hmi, hmn, t12, ol, hpt, k, hk, hgo⟩
  dsimp only at hmi ol ⊢
  subst hmi
  have p0_z := p0.size
  have ro_l := ro.lt
  have rx_l := rx.lt
  have ol_l := ol.top
  obtain ⟨va, vc, rfl⟩ := ol.is
  simp -dsimp only [go_sem, ↓reduceIte, reduceCtorEq, Nat.reduceEqDiff, Nat.reduceAdd, Nat.reduceLeDiff, Nat.reduceMul, Int.reduceBEq, Int.reduceBNe, Int.reduceLT, Int.reduceLE, Int.reduceGT, Int.reduceGE, ro.cell, rx.cell]
  refine ⟨fun hlt => ?_, fun hge => ?_⟩
  · have hlt : m.length < n := by omega
    simp -dsimp only [go_sem, ↓reduceIte, reduceCtorEq, Nat.reduceEqDiff, Nat.reduceAdd, Nat.reduceLeDiff, Nat.reduceMul, Int.reduceBEq, Int.reduceBNe, Int.reduceLT, Int.reduceLE, Int.reduceGT, Int.reduceGE, ChB.next, ro.cell, rx.cell]
    refine call_of (chooser_next (q := 0) t12 (by omega)) ?_
    rintro v h13 ⟨rfl, rfl⟩
    simp -dsimp only [go_sem, ↓reduceIte, reduceCtorEq, Nat.reduceEqDiff, Nat.reduceAdd, Nat.reduceLeDiff, Nat.reduceMul, Int.reduceBEq, Int.reduceBNe, Int.reduceLT, Int.reduceLE, Int.reduceGT, Int.reduceGE, ro.cell, rx.cell]
    refine loop_intro (fun q : Nat => [(6, .int .i64 n), (7, .slice (some ⟨bo, 0, none⟩) n n), (8, .slice (some ⟨bx, 0, none⟩) n n), (16, c.next), (17, c.place), (18, .slice va m.length vc), (19, .int .i64 (nx (lf (freeB n G m.contains) n q)))])
      (fun q h' => q ≤ n ∧ h' = h13 ∧ lf (fun p => F p == p && freeB n G m.contains p) n 0 = lf (fun p => F p == p && freeB n G m.contains p) n q) (fun q => n - q) 0 ?_ ?_ ?_
    · simp [Le, find, ChB.next, ChB.place]
    · exact ⟨by omega, rfl, rfl⟩
    rintro q _ ⟨hq, rfl, hlf⟩
    obtain ⟨hl0, hl1⟩ := lf_and (freeB n G m.contains) (fun p => F p == p) n (n - q) q rfl
    -- what is found
    have step : ∀ x, x < n → lf (fun p => F p == p && freeB n G m.contains p) n 0 = some x → freeB n G m.contains x = true → F x = x → ∃ k', k = k' + 1 ∧ glueGo n F S G k' (if S x ≥ 0 then m ++ [x] ++ [(S x).toNat] else m ++ [x]) = glueGo n F S G n [] := fun x hxn hx hfx hFx => by
      obtain ⟨k, rfl⟩ : ∃ k', k = k' + 1 := ⟨k - 1, by omega⟩
      simp only [glueGo, if_neg (show ¬ n ≤ m.length by omega), hx] at hgo
      exact ⟨k, rfl, hgo⟩
    cases hx : lf (freeB n G m.contains) n q with
    | none =>
      have hx' := hl0 hx
      rw [← hlf] at hx'
      simp -dsimp only [go_sem, ↓reduceIte, reduceCtorEq, Nat.reduceEqDiff, Nat.reduceAdd, Nat.reduceLeDiff, Nat.reduceMul, Int.reduceBEq, Int.reduceBNe, Int.reduceLT, Int.reduceLE, Int.reduceGT, Int.reduceGE, hx, ro.cell, rx.cell]
      obtain ⟨k, rfl⟩ : ∃ k', k = k' + 1 := ⟨k - 1, by omega⟩
      simp only [glueGo, if_neg (show ¬ n ≤ m.length by omega), hx'] at hgo
      exact ⟨p0, by rw [hS, ← hgo]; rfl⟩
    | some x =>
      obtain ⟨hqx, hxn, hfx⟩ := lf_some hx
      obtain ⟨hl2, hl3⟩ := hl1 x hx
      simp -dsimp only [go_sem, ↓reduceIte, reduceCtorEq, Nat.reduceEqDiff, Nat.reduceAdd, Nat.reduceLeDiff, Nat.reduceMul, Int.reduceBEq, Int.reduceBNe, Int.reduceLT, Int.reduceLE, Int.reduceGT, Int.reduceGE, hx, ro.cell, rx.cell]
      refine Chk_intro (by omega) ?_
      simp -dsimp only [go_sem, ↓reduceIte, reduceCtorEq, Nat.reduceEqDiff, Nat.reduceAdd, Nat.reduceLeDiff, Nat.reduceMul, Int.reduceBEq, Int.reduceBNe, Int.reduceLT, Int.reduceLE, Int.reduceGT, Int.reduceGE, ivec_get hxn, ro.cell, rx.cell]
      refine ⟨fun hne => ?_, fun heq => ?_⟩
      · have hF : (F x == x) = false := by simp at hne ⊢; omega
        simp -dsimp only [go_sem, ↓reduceIte, reduceCtorEq, Nat.reduceEqDiff, Nat.reduceAdd, Nat.reduceLeDiff, Nat.reduceMul, Int.reduceBEq, Int.reduceBNe, Int.reduceLT, Int.reduceLE, Int.reduceGT, Int.reduceGE, ro.cell, rx.cell]
        rw [wrap64 (by omega) (by omega)]
        simp -dsimp only [go_sem, ↓reduceIte, reduceCtorEq, Nat.reduceEqDiff, Nat.reduceAdd, Nat.reduceLeDiff, Nat.reduceMul, Int.reduceBEq, Int.reduceBNe, Int.reduceLT, Int.reduceLE, Int.reduceGT, Int.reduceGE, ChB.next, ro.cell, rx.cell]
        refine call_of (chooser_next (q := x + 1) t12 (by omega)) ?_
        rintro v h14 ⟨rfl, rfl⟩
        simp -dsimp only [go_sem, ↓reduceIte, reduceCtorEq, Nat.reduceEqDiff, Nat.reduceAdd, Nat.reduceLeDiff, Nat.reduceMul, Int.reduceBEq, Int.reduceBNe, Int.reduceLT, Int.reduceLE, Int.reduceGT, Int.reduceGE, ro.cell, rx.cell]
        exact ⟨x + 1, by omega, by simp [Le, find, ChB.next, ChB.place], by omega, hlf.trans (hl3 hF)⟩
      · have hFx : F x = x := by simp at heq; omega
        obtain ⟨k', hk', hgo'⟩ := step x hxn (hlf.trans (hl2 (by simp [hFx]))) hfx hFx
        have hDx : m.contains x = false := (freeB_true.1 hfx).1
        simp -dsimp only [go_sem, ↓reduceIte, reduceCtorEq, Nat.reduceEqDiff, Nat.reduceAdd, Nat.reduceLeDiff, Nat.reduceMul, Int.reduceBEq, Int.reduceBNe, Int.reduceLT, Int.reduceLE, Int.reduceGT, Int.reduceGE, ChB.place, ro.cell, rx.cell]
        refine call_of (chooser_place t12 hxn true (by simpa using hDx)) ?_
        rintro v h14 ⟨f14, z14, t14⟩
        have f14_z := f14.size
        replace p0 := p0.fresh f14 (by omega)
        replace ro := ro.fr f14 (by omega)
        replace rx := rx.fr f14 (by omega)
        replace ol := ol.fr f14 (by have := ol.at_; omega)
        simp -dsimp only [go_sem, ↓reduceIte, reduceCtorEq, Nat.reduceEqDiff, Nat.reduceAdd, Nat.reduceLeDiff, Nat.reduceMul, Int.reduceBEq, Int.reduceBNe, Int.reduceLT, Int.reduceLE, Int.reduceGT, Int.reduceGE, ro.cell, rx.cell]
        intro b15 h15 n15
        have n15_a := n15.at_
        have n15_z := n15.size
        replace p0 := p0.fresh (n15.fr (lo := 0) (hi := 0)) (by omega)
        replace ro := ro.fr (n15.fr (lo := 0) (hi := 0)) (by omega)
        replace rx := rx.fr (n15.fr (lo := 0) (hi := 0)) (by omega)
        replace ol := ol.fr (n15.fr (lo := 0) (hi := 0)) (by have := ol.at_; omega)
        replace t14 := t14.fr (n15.fr (lo := 0) (hi := 0)) (by omega)
        simp -dsimp only [go_sem, ↓reduceIte, reduceCtorEq, Nat.reduceEqDiff, Nat.reduceAdd, Nat.reduceLeDiff, Nat.reduceMul, Int.reduceBEq, Int.reduceBNe, Int.reduceLT, Int.reduceLE, Int.reduceGT, Int.reduceGE, n15.row.cell, ro.cell, rx.cell]
        refine ol.append (by omega) rfl (by omega) (by simp) (by omega) fun v16 h16 o_new f16 e_app => ?_
        have f16_z := f16.size
        have o_at := ol.at_
        replace p0 := p0.fresh f16 (by omega)
        replace ro := ro.fr f16 (by omega)
        replace rx := rx.fr f16 (by omega)
        replace t14 := t14.fr f16 (by omega)
        clear o_at e_app
        replace ol := o_new
        have ol_l := ol.top
        simp -dsimp only [go_sem, ↓reduceIte, reduceCtorEq, Nat.reduceEqDiff, Nat.reduceAdd, Nat.reduceLeDiff, Nat.reduceMul, Int.reduceBEq, Int.reduceBNe, Int.reduceLT, Int.reduceLE, Int.reduceGT, Int.reduceGE, ro.cell, rx.cell]
        refine Chk_intro (by omega) ?_
        simp -dsimp only [go_sem, ↓reduceIte, reduceCtorEq, Nat.reduceEqDiff, Nat.reduceAdd, Nat.reduceLeDiff, Nat.reduceMul, Int.reduceBEq, Int.reduceBNe, Int.reduceLT, Int.reduceLE, Int.reduceGT, Int.reduceGE, ivec_get hxn, ro.cell, rx.cell]
        have e1 : (fun k => if k = x then true else m.contains k) = (m ++ [x]).contains := by
          funext j; by_cases hj : j = x <;> simp [hj]
        rw [e1] at t14
        have ol2 : Holder 1 h16 v16 (m ++ [x]).length (natsV (m ++ [x])) h10.size := by simpa [natsV] using ol
        have ol2_l := ol2.top
        have hml : (m ++ [x]).length = m.length + 1 := by simp
        have hpt' := hG.keep hxn hpt hFx
        rcases hG.snd x hxn with hs | ⟨y, hy, hs, hyx, hyF, hxF⟩
        · rw [hs, if_neg (by decide)] at hgo'
          rw [hs, if_neg (by decide)] at hpt'
          simp -dsimp only [go_sem, ↓reduceIte, reduceCtorEq, Nat.reduceEqDiff, Nat.reduceAdd, Nat.reduceLeDiff, Nat.reduceMul, Int.reduceBEq, Int.reduceBNe, Int.reduceLT, Int.reduceLE, Int.reduceGT, Int.reduceGE, hs, ro.cell, rx.cell]
          exact ⟨(v16, (m ++ [x]).length), by dsimp only; omega, by simp [Le, find, ChB.next, ChB.place], p0, by omega, ro, rx, m ++ [x], rfl, by omega, t14, ol2, hpt', k', by omega, hgo'⟩
        · rw [hs, if_pos (by omega), Int.toNat_natCast] at hgo'
          rw [hs, if_pos (by omega), Int.toNat_natCast] at hpt'
          obtain ⟨wa, wc, rfl⟩ := ol2.is
          have hDy : (m ++ [x]).contains y = false := by
            have := hpt y hy (by omega)
            rw [hyF, hDx] at this
            simp only [List.contains_append, this, List.contains_cons, List.contains_nil, Bool.or_false, Bool.false_or, beq_eq_false_iff_ne, ne_eq]
            exact hyx
          simp -dsimp only [go_sem, ↓reduceIte, reduceCtorEq, Nat.reduceEqDiff, Nat.reduceAdd, Nat.reduceLeDiff, Nat.reduceMul, Int.reduceBEq, Int.reduceBNe, Int.reduceLT, Int.reduceLE, Int.reduceGT, Int.reduceGE, hs, ChB.place, ro.cell, rx.cell]
          refine call_of (chooser_place t14 hy true (by simpa using hDy)) ?_
          rintro v h17 ⟨f17, z17, t17⟩
          have f17_z := f17.size
          replace p0 := p0.fresh f17 (by omega)
          replace ro := ro.fr f17 (by omega)
          replace rx := rx.fr f17 (by omega)
          replace ol2 := ol2.fr f17 (by have := ol2.at_; omega)
          simp -dsimp only [go_sem, ↓reduceIte, reduceCtorEq, Nat.reduceEqDiff, Nat.reduceAdd, Nat.reduceLeDiff, Nat.reduceMul, Int.reduceBEq, Int.reduceBNe, Int.reduceLT, Int.reduceLE, Int.reduceGT, Int.reduceGE, ro.cell, rx.cell]
          intro b18 h18 n18
          have n18_a := n18.at_
          have n18_z := n18.size
          replace p0 := p0.fresh (n18.fr (lo := 0) (hi := 0)) (by omega)
          replace ro := ro.fr (n18.fr (lo := 0) (hi := 0)) (by omega)
          replace rx := rx.fr (n18.fr (lo := 0) (hi := 0)) (by omega)
          replace ol2 := ol2.fr (n18.fr (lo := 0) (hi := 0)) (by have := ol2.at_; omega)
          replace t17 := t17.fr (n18.fr (lo := 0) (hi := 0)) (by omega)
          simp -dsimp only [go_sem, ↓reduceIte, reduceCtorEq, Nat.reduceEqDiff, Nat.reduceAdd, Nat.reduceLeDiff, Nat.reduceMul, Int.reduceBEq, Int.reduceBNe, Int.reduceLT, Int.reduceLE, Int.reduceGT, Int.reduceGE, n18.row.cell, ro.cell, rx.cell]
          refine ol2.append (by omega) rfl (by omega) (by simp) (by omega) fun v19 h19 o_new f19 e_app => ?_
          have f19_z := f19.size
          have o_at := ol2.at_
          replace p0 := p0.fresh f19 (by omega)
          replace ro := ro.fr f19 (by omega)
          replace rx := rx.fr f19 (by omega)
          replace t17 := t17.fr f19 (by omega)
          clear o_at e_app
          replace ol2 := o_new
          have ol2_l := ol2.top
          simp -dsimp only [go_sem, ↓reduceIte, reduceCtorEq, Nat.reduceEqDiff, Nat.reduceAdd, Nat.reduceLeDiff, Nat.reduceMul, Int.reduceBEq, Int.reduceBNe, Int.reduceLT, Int.reduceLE, Int.reduceGT, Int.reduceGE, ro.cell, rx.cell]
          have e2 : (fun k => if k = y then true else (m ++ [x]).contains k) = (m ++ [x] ++ [y]).contains := by
            funext j; by_cases hj : j = y <;> simp [hj]
          rw [e2] at t17
          have hml2 : (m ++ [x] ++ [y]).length = m.length + 2 := by simp
          refine ⟨(v19, (m ++ [x] ++ [y]).length), by dsimp only; omega, by simp [Le, find, ChB.next, ChB.place], p0, by omega, ro, rx, m ++ [x] ++ [y], rfl, by omega, t17, ?_, hpt', k', by omega, hgo'⟩
          rw [natsV_append, List.length_append]; first | exact ol2 | (rw [hs] at ol2; exact ol2)
  · simp -dsimp only [go_sem, ↓reduceIte, reduceCtorEq, Nat.reduceEqDiff, Nat.reduceAdd, Nat.reduceLeDiff, Nat.reduceMul, Int.reduceBEq, Int.reduceBNe, Int.reduceLT, Int.reduceLE, Int.reduceGT, Int.reduceGE, ro.cell, rx.cell]
    refine ⟨p0, ?_⟩
    rw [hS, ← hgo, glueGo_end (by omega)]
    exact ⟨_, rfl, ol.lower (by omega)⟩
end Go.Proofs.Tst
/-
  What Glue tells is linear, its pairs together; where there is any such order it tells one.
-/
namespace Go.Proofs.Tst
open Go Go.Vc
section
variable {n : Nat} {M : Nat → Nat → Bool} {F : Nat → Nat} {S : Nat → Int}
theorem glueIn_spec : ∀ (l : List (Int × Int)) (U : Nat → Bool) (F : Nat → Nat) (S : Nat → Int) (F' : Nat → Nat) (S' : Nat → Int), GluI n U F S → glueIn n l U F S = some (F', S') →
    (∃ U', GluI n U' F' S') ∧ (∀ p, U p = true → S' p = S p) ∧ ∀ x, x ∈ l → ∃ a b : Nat, x = ((a : Int), (b : Int)) ∧ a < n ∧ b < n ∧ S' a = (b : Int)
  | [], U, F, S, F', S', g, h => by
    simp only [glueIn, Option.some.injEq, Prod.mk.injEq] at h
    obtain ⟨rfl, rfl⟩ := h
    exact ⟨⟨U, g⟩, fun _ _ => rfl, by simp⟩
  | x :: l, U, F, S, F', S', g, h => by
    by_cases hb : badP n U x
    · simp only [glueIn, if_pos hb] at h; simp at h
    simp only [glueIn, if_neg hb] at h
    obtain ⟨a', b'⟩ := x
    unfold badP at hb
    simp only [not_or] at hb
    obtain ⟨h1, h2, h3, h4, h5, h6, h7⟩ := hb
    obtain ⟨a, rfl⟩ : ∃ a : Nat, a' = a := ⟨a'.toNat, by omega⟩
    obtain ⟨b, rfl⟩ : ∃ b : Nat, b' = b := ⟨b'.toNat, by omega⟩
    simp only [Int.toNat_natCast] at h h6 h7
    have ha : a < n := by omega
    have hb : b < n := by omega
    have hab : a ≠ b := by omega
    have g2 := g.step ha hb hab (by simpa using h6) (by simpa using h7)
    obtain ⟨k1, k2, k3⟩ := glueIn_spec l _ _ _ _ _ g2 h
    have hSa : S' a = (b : Int) := by
      rw [k2 a (by unfold upd; simp), upd_same]
    refine ⟨k1, fun p hp => ?_, fun y hy => ?_⟩
    · rw [k2 p (by unfold upd; simp [hp]), upd_ne]
      rintro rfl; exact h6 hp
    · rcases List.mem_cons.1 hy with rfl | hy
      · exact ⟨a, b, rfl, ha, hb, hSa⟩
      · exact k3 y hy
structure GInv (n : Nat) (M : Nat → Nat → Bool) (F : Nat → Nat) (S : Nat → Int) (l : List Nat) : Prop where
  pre : Pre n M l
  un : ∀ q, q < n → (q ∈ l ↔ F q ∈ l)
  tog : ∀ a b : Nat, a ∈ l → S a = (b : Int) → ∃ j, l[j]? = some a ∧ l[j + 1]? = some b
theorem GInv.nil : GInv n M F S [] := ⟨Pre.nil, by simp, by simp⟩
theorem freeB_mem {l : List Nat} {N : Nat → Nat → Bool} {p : Nat} (h : freeB n N l.contains p = true) : p ∉ l ∧ ∀ a, a < n → N a p = true → a ∈ l := by
  obtain ⟨h1, h2⟩ := freeB_true.1 h
  exact ⟨by simpa using h1, fun a ha hm => by simpa using h2 a ha hm⟩
theorem GInv.step {U : Nat → Bool} {l : List Nat} {p : Nat} (g : GluI n U F S) (v : GInv n M F S l) (hp : p < n) (hF : F p = p) (hf : freeB n (glueM n M F S) l.contains p = true) :
    GInv n M F S (if S p ≥ 0 then l ++ [p] ++ [(S p).toNat] else l ++ [p]) := by
  obtain ⟨hpl, hfr⟩ := freeB_mem hf
  have hM : ∀ a b, a < n → b < n → M a b = true → S a ≠ (b : Int) → F b = p → a ∈ l := fun a b ha hb hm hs hFb =>
    (v.un a ha).2 (hfr (F a) (g.lt a ha) (glueM_true.2 ⟨a, ha, b, hb, hm, hs, rfl, hFb⟩))
  have sndF : ∀ a (b : Nat), a < n → S a = (b : Int) → F b = a ∧ b ≠ a ∧ b < n := fun a b ha h => by
    rcases g.snd a ha with h1 | ⟨q, hq, h1, h2, h3, h4⟩
    · omega
    · obtain rfl : q = b := by omega
      exact ⟨h3, h2, hq⟩
  have pre1 : Pre n M (l ++ [p]) := Pre.snoc.2 ⟨v.pre, hp, freeB_true.2 ⟨by simpa using hpl, fun a ha hm => by
    have hs : S a ≠ (p : Int) := fun h => by
      obtain ⟨h1, h2, -⟩ := sndF a p ha h
      rw [hF] at h1; exact h2 h1
    simpa using hM a p ha hp hm hs hF⟩⟩
  have keepT : ∀ (k : List Nat) (a b : Nat), a ∈ l → S a = (b : Int) → ∃ j, (l ++ k)[j]? = some a ∧ (l ++ k)[j + 1]? = some b := fun k a b ha hs => by
    obtain ⟨j, h1, h2⟩ := v.tog a b ha hs
    have hj := (List.getElem?_eq_some_iff.1 h2).1
    exact ⟨j, by rw [List.getElem?_append_left (by omega)]; exact h1, by rw [List.getElem?_append_left hj]; exact h2⟩
  split
  · rename_i hS
    obtain ⟨q, hq⟩ : ∃ q : Nat, S p = (q : Int) := ⟨(S p).toNat, by omega⟩
    obtain ⟨hFq, hqp, hqn⟩ := sndF p q hp hq
    rw [hq, Int.toNat_natCast]
    have hql : q ∉ l := fun h => hpl (by have := (v.un q hqn).1 h; rwa [hFq] at this)
    refine ⟨?_, fun x hx => ?_, fun a b ha hs => ?_⟩
    · refine Pre.snoc.2 ⟨pre1, hqn, freeB_true.2 ⟨by simp [hql, hqp], fun a ha hm => ?_⟩⟩
      by_cases hs : S a = (q : Int)
      · obtain ⟨h1, -, -⟩ := sndF a q ha hs
        rw [hFq] at h1; subst h1; simp
      · have := hM a q ha hqn hm hs hFq
        simp [this]
    · simp only [List.mem_append, List.mem_singleton, List.append_assoc, List.mem_cons, List.not_mem_nil, or_false]
      constructor
      · rintro (h | rfl | rfl)
        · exact .inl ((v.un x hx).1 h)
        · exact .inr (.inl hF)
        · exact .inr (.inl hFq)
      · rintro (h | h | h)
        · exact .inl ((v.un x hx).2 h)
        · by_cases hxp : x = p
          · exact .inr (.inl hxp)
          · have := (g.fst x hx (by rw [h]; exact fun e => hxp e.symm)).1
            rw [h, hq] at this
            exact .inr (.inr (by omega))
        · have h6 := (g.fst x hx)
          by_cases hxx : F x = x
          · exact .inr (.inr (by omega))
          · have h7 := (h6 hxx).2
            rw [h, hFq] at h7; exact absurd h7.symm hqp
    · simp only [List.mem_append, List.mem_singleton] at ha
      rcases ha with (ha | rfl) | rfl
      · rw [List.append_assoc]; exact keepT _ a b ha hs
      · have : b = q := by omega
        subst this
        exact ⟨l.length, by simp, by simp⟩
      · obtain ⟨h1, -, -⟩ := sndF a b hqn hs
        rcases g.snd a hqn with h2 | ⟨_, _, _, _, _, h3⟩
        · omega
        · rw [hFq] at h3; exact absurd h3.symm hqp
  · rename_i hS
    have hno : ∀ x, x < n → F x = p → x = p := fun x hx h => by
      by_cases hxx : F x = x
      · omega
      · have := (g.fst x hx hxx).1
        rw [h] at this; omega
    refine ⟨pre1, fun x hx => ?_, fun a b ha hs => ?_⟩
    · simp only [List.mem_append, List.mem_singleton]
      constructor
      · rintro (h | rfl)
        · exact .inl ((v.un x hx).1 h)
        · exact .inr hF
      · rintro (h | h)
        · exact .inl ((v.un x hx).2 h)
        · exact .inr (hno x hx h)
    · simp only [List.mem_append, List.mem_singleton] at ha
      rcases ha with ha | rfl
      · exact keepT _ a b ha hs
      · omega
theorem glueGo_inv {U : Nat → Bool} (g : GluI n U F S) : ∀ (k : Nat) (l m : List Nat), n ≤ l.length + k → GInv n M F S l → glueGo n F S (glueM n M F S) k l = some m → GInv n M F S m ∧ m.length = n
  | 0, l, m, hk, v, h => by
    simp only [glueGo, Option.some.injEq] at h; subst h
    have := v.pre.len
    exact ⟨v, by omega⟩
  | k + 1, l, m, hk, v, h => by
    simp only [glueGo] at h
    by_cases hn : n ≤ l.length
    · rw [if_pos hn] at h
      simp only [Option.some.injEq] at h; subst h
      have := v.pre.len
      exact ⟨v, by omega⟩
    rw [if_neg hn] at h
    cases hx : lf (fun p => F p == p && freeB n (glueM n M F S) l.contains p) n 0 with
    | none => rw [hx] at h; simp at h
    | some p =>
      rw [hx] at h
      obtain ⟨-, hp, hf⟩ := lf_some hx
      simp only [Bool.and_eq_true, beq_iff_eq] at hf
      exact glueGo_inv g k _ m (by split <;> simp <;> omega) (v.step g hp hf.1 hf.2) h
/-- Where there is an order with the pairs together, none is stuck. -/
theorem glueGo_ok {U : Nat → Bool} (g : GluI n U F S) {m : List Nat} (hm : Pre n M m) (hml : m.length = n) (ht : ∀ a b : Nat, a < n → S a = (b : Int) → m.idxOf b = m.idxOf a + 1) : ∀ (k : Nat) (l : List Nat), n ≤ l.length + k → GInv n M F S l → glueGo n F S (glueM n M F S) k l ≠ none
  | 0, l, _, _ => by simp [glueGo]
  | k + 1, l, hk, v => by
    simp only [glueGo]
    by_cases hn : n ≤ l.length
    · rw [if_pos hn]; simp
    rw [if_neg hn]
    have sndF : ∀ a (b : Nat), a < n → S a = (b : Int) → F b = a ∧ b ≠ a ∧ b < n := fun a b ha h => by
      rcases g.snd a ha with h1 | ⟨q, hq, h1, h2, h3, h4⟩
      · omega
      · obtain rfl : q = b := by omega
        exact ⟨h3, h2, hq⟩
    have inj : ∀ a b, a < n → b < n → m.idxOf a = m.idxOf b → a = b := fun a b ha hb h => by
      have h1 := all_in hm hml ha
      have h2 := all_in hm hml hb
      have e1 := List.getElem_idxOf (List.idxOf_lt_length_iff.2 h1)
      have e2 := List.getElem_idxOf (List.idxOf_lt_length_iff.2 h2)
      rw [← e1, ← e2]; congr 1
    have fidem : ∀ x, x < n → F (F x) = F x := fun x hx => by
      by_cases h : F x = x
      · rw [h, h]
      · exact (g.fst x hx h).2
    have atU : ∀ x, x < n → m.idxOf x = m.idxOf (F x) ∨ (m.idxOf x = m.idxOf (F x) + 1 ∧ S (F x) = (x : Int)) := fun x hx => by
      by_cases h : F x = x
      · rw [h]; exact .inl rfl
      · have h1 := (g.fst x hx h).1
        exact .inr ⟨ht (F x) x (g.lt x hx) h1, h1⟩
    cases hx : lf (fun p => F p == p && freeB n (glueM n M F S) l.contains p) n 0 with
    | some p =>
      obtain ⟨-, hp, hf⟩ := lf_some hx
      simp only [Bool.and_eq_true, beq_iff_eq] at hf
      exact glueGo_ok g hm hml ht k _ (by split <;> simp <;> omega) (v.step g hp hf.1 hf.2)
    | none =>
      exfalso
      have hex : ∃ x, x < n ∧ x ∉ l := by
        apply Classical.byContradiction; intro hno
        have := nodup_sub (l := List.range n) (m := l) List.nodup_range fun x hx => Classical.byContradiction fun h => hno ⟨x, List.mem_range.1 hx, h⟩
        simp at this; omega
      -- the first unit, by the order, that is not placed
      have least : ∀ (d x : Nat), m.idxOf x ≤ d → x < n → F x = x → x ∉ l → ∃ p, p < n ∧ F p = p ∧ p ∉ l ∧ ∀ y, y < n → F y = y → y ∉ l → m.idxOf p ≤ m.idxOf y := by
        intro d
        induction d with
        | zero => exact fun x hd hx hF hl => ⟨x, hx, hF, hl, fun y _ _ _ => by omega⟩
        | succ d ih =>
          intro x hd hx hF hl
          by_cases hy : ∃ y, y < n ∧ F y = y ∧ y ∉ l ∧ m.idxOf y < m.idxOf x
          · obtain ⟨y, h1, h2, h3, h4⟩ := hy
            exact ih y (by omega) h1 h2 h3
          · exact ⟨x, hx, hF, hl, fun y h1 h2 h3 => Classical.byContradiction fun h => hy ⟨y, h1, h2, h3, by omega⟩⟩
      obtain ⟨x, hxn, hxl⟩ := hex
      obtain ⟨p, hp, hFp, hpl, hmin⟩ := least _ (F x) (Nat.le_refl _) (g.lt x hxn) (fidem x hxn) (fun h => hxl ((v.un x hxn).2 h))
      have := lf_none hx p (by omega) hp
      simp only [hFp, beq_self_eq_true, Bool.true_and] at this
      rw [Bool.eq_false_iff] at this
      refine this (freeB_true.2 ⟨by simpa using hpl, fun a ha hN => ?_⟩)
      rw [glueM_true] at hN
      obtain ⟨p', hp', q', hq', hM, hs, hFa, hFq⟩ := hN
      apply Classical.byContradiction; intro hal
      have hal : a ∉ l := by simpa using hal
      have hFa2 : F a = a := by rw [← hFa]; exact fidem p' hp'
      have h1 := hmin a ha hFa2 hal
      have h2 := hm.idx hp' (all_in hm hml hq') hM
      have h3 := atU p' hp'
      have h4 := atU q' hq'
      rw [hFa] at h3; rw [hFq] at h4
      by_cases hap : a = p
      · subst hap
        rcases h3 with h3 | ⟨h3, h3'⟩
        · rcases h4 with h4 | ⟨h4, h4'⟩
          · omega
          · have : p' = a := inj p' a hp' ha h3
            subst this
            exact hs h4'
        · omega
      · have : m.idxOf p ≠ m.idxOf a := fun h => hap (inj a p ha hp h.symm)
        rcases h4 with h4 | ⟨h4, h4'⟩ <;> omega
end
end Go.Proofs.Tst
/-
  order.Extensions: the lists are those of extGo, in their order.
-/
namespace Go.Proofs.Tst
open Go Go.Vc
theorem oc_nats (l : List Nat) : (natsV l).all Value.oneCell' = true := by simp [natsV, Value.oneCell', List.all_eq_true]
end Go.Proofs.Tst
/-
  All lists of all points, and the orders among them.
-/
namespace Go.Proofs.Tst
open Go Go.Vc
section
variable {n : Nat} {M : Nat → Nat → Bool}
theorem glueIn_only : ∀ (l : List (Int × Int)) (U : Nat → Bool) (F : Nat → Nat) (S : Nat → Int) (F' : Nat → Nat) (S' : Nat → Int), glueIn n l U F S = some (F', S') → ∀ a b : Nat, S' a = (b : Int) → S a = (b : Int) ∨ ((a : Int), (b : Int)) ∈ l
  | [], U, F, S, F', S', h, a, b, hs => by
    simp only [glueIn, Option.some.injEq, Prod.mk.injEq] at h
    obtain ⟨rfl, rfl⟩ := h
    exact .inl hs
  | x :: l, U, F, S, F', S', h, a, b, hs => by
    by_cases hb : badP n U x
    · simp only [glueIn, if_pos hb] at h; simp at h
    simp only [glueIn, if_neg hb] at h
    obtain ⟨a', b'⟩ := x
    unfold badP at hb
    simp only [not_or] at hb
    rcases glueIn_only l _ _ _ _ _ h a b hs with h1 | h1
    · by_cases ha : a = a'.toNat
      · subst ha
        rw [upd_same] at h1
        refine .inr (List.mem_cons.2 (.inl ?_))
        simp only [Prod.mk.injEq]
        dsimp only at h1 hb
        exact ⟨by omega, h1.symm⟩
      · rw [upd_ne _ _ ha] at h1; exact .inl h1
    · exact .inr (List.mem_cons_of_mem _ h1)
/-- Do the pairs' points stand one behind the other? -/
def TogP (m : List Nat) (l : List (Int × Int)) : Prop := ∀ x ∈ l, ∃ j, m[j]?.map (fun (p : Nat) => (p : Int)) = some x.1 ∧ m[j + 1]?.map (fun (p : Nat) => (p : Int)) = some x.2
theorem glue_sound {l : List (Int × Int)} {g : List Nat} (h : glueS n M l = .ok g) : Pre n M g ∧ g.length = n ∧ TogP g l := by
  unfold glueS at h
  cases hF : glueFS n l with
  | none => rw [hF] at h; simp at h
  | some FS =>
    obtain ⟨F, S⟩ := FS
    rw [hF] at h
    simp only at h
    cases hG : glueGo n F S (glueM n M F S) n [] with
    | none => rw [hG] at h; simp [orCyc] at h
    | some m =>
      rw [hG] at h
      simp only [orCyc, Except.ok.injEq] at h
      subst h
      obtain ⟨⟨U, g⟩, -, k3⟩ := glueIn_spec l _ _ _ _ _ (.start n) hF
      obtain ⟨v, hl⟩ := glueGo_inv g n [] m (by simp) .nil hG
      refine ⟨v.pre, hl, fun x hx => ?_⟩
      obtain ⟨a, b, rfl, ha, hb, hs⟩ := k3 x hx
      obtain ⟨j, h1, h2⟩ := v.tog a b (all_in v.pre hl ha) hs
      exact ⟨j, by rw [h1]; rfl, by rw [h2]; rfl⟩
theorem glue_err {l : List (Int × Int)} {e : Int} (h : glueS n M l = .error e) : e = 1 ∨ (e = 3 ∧ ∀ m, Pre n M m → m.length = n → ¬ TogP m l) := by
  unfold glueS at h
  cases hF : glueFS n l with
  | none => rw [hF] at h; simp only [Except.error.injEq] at h; exact .inl h.symm
  | some FS =>
    obtain ⟨F, S⟩ := FS
    rw [hF] at h
    simp only at h
    cases hG : glueGo n F S (glueM n M F S) n [] with
    | some m => rw [hG] at h; simp [orCyc] at h
    | none =>
      rw [hG] at h
      simp only [orCyc, Except.error.injEq] at h
      refine .inr ⟨h.symm, fun m hm hml ht => ?_⟩
      obtain ⟨⟨U, g⟩, -, k3⟩ := glueIn_spec l _ _ _ _ _ (.start n) hF
      refine glueGo_ok g hm hml (fun a b ha hs => ?_) n [] (by simp) .nil hG
      rcases glueIn_only l _ _ _ _ _ hF a b hs with h1 | h1
      · simp at h1
      · obtain ⟨j, h2, h3⟩ := ht _ h1
        have h2 : m[j]? = some a := by
          cases hj : m[j]? with
          | none => rw [hj] at h2; simp at h2
          | some y => rw [hj] at h2; simp at h2; congr 1; omega
        have h3 : m[j + 1]? = some b := by
          cases hj : m[j + 1]? with
          | none => rw [hj] at h3; simp at h3
          | some y => rw [hj] at h3; simp at h3; congr 1; omega
        obtain ⟨q1, q2⟩ := List.getElem?_eq_some_iff.1 h2
        obtain ⟨q3, q4⟩ := List.getElem?_eq_some_iff.1 h3
        rw [← q2, ← q4, hm.1.idxOf_getElem, hm.1.idxOf_getElem]
theorem idx_map (a : Nat) : ∀ l : List Nat, (l.map fun (p : Nat) => (p : Int)).idxOf (a : Int) = l.idxOf a
  | [] => rfl
  | x :: l => by
    rw [List.map_cons, List.idxOf_cons, List.idxOf_cons, idx_map a l]
    have : ((x : Int) == (a : Int)) = (x == a) := by rw [Bool.eq_iff_iff]; simp; omega
    rw [this]
theorem linP_pre {l : List Nat} : LinP n M (l.map fun (p : Nat) => (p : Int)) ↔ Pre n M l ∧ l.length = n := by
  constructor
  · rintro ⟨h1, h2, h3, h4⟩
    have hl : l.length = n := by simpa using h1
    have hnd : l.Nodup := (List.pairwise_map.1 h3).imp fun h e => h (by rw [e])
    have hlt : ∀ x ∈ l, x < n := fun x hx => by
      have := (h2 (x : Int) (List.mem_map.2 ⟨x, hx, rfl⟩)).2; omega
    have hall : ∀ a, a < n → a ∈ l := fun a ha => by
      apply Classical.byContradiction; intro hn
      have := nodup_lt (n := n) (l := a :: l) (List.nodup_cons.2 ⟨hn, hnd⟩) fun x hx => by
        rcases List.mem_cons.1 hx with rfl | hx
        · exact ha
        · exact hlt x hx
      simp at this; omega
    refine ⟨⟨hnd, hlt, fun i x hx a ha hm => ?_⟩, hl⟩
    obtain ⟨hi, rfl⟩ := List.getElem?_eq_some_iff.1 hx
    have := h4 a ha l[i] (hlt _ (List.getElem_mem _)) hm
    rw [idx_map, idx_map, hnd.idxOf_getElem] at this
    have hal := List.getElem_idxOf (List.idxOf_lt_length_iff.2 (hall a ha))
    rw [List.mem_iff_getElem]
    exact ⟨l.idxOf a, by rw [List.length_take]; omega, by rw [List.getElem_take]; exact hal⟩
  · rintro ⟨h, hl⟩
    refine ⟨by simpa using hl, fun x hx => ?_, ?_, fun a ha b hb hm => ?_⟩
    · obtain ⟨p, hp, rfl⟩ := List.mem_map.1 hx
      have := h.2.1 p hp; omega
    · exact List.pairwise_map.2 (h.1.imp fun h e => h (by omega))
    · rw [idx_map, idx_map]; exact h.idx ha (all_in h hl hb) hm
end
end Go.Proofs.Tst
/-
  Components and Reduction, plainly.
-/
namespace Go.Proofs.Tst
open Go Go.Vc
section
variable {n : Nat} {M : Nat → Nat → Bool}
theorem smM_plus {x y : Nat} (h : smM n M (ldF n M) x y = true) : plusM n M x y = true := by
  rw [smM_true] at h
  obtain ⟨p, hp, q, hq, hm, -, rfl, rfl⟩ := h
  have hpq := plus_sub (n := n) hm
  have h1 : ldF n M p = p ∨ plusM n M (ldF n M p) p = true := by
    rcases ldF_eqv (n := n) (M := M) (p := p) with h | ⟨-, h⟩
    · exact .inl h
    · unfold eqvB at h; rw [Bool.and_eq_true] at h; exact .inr h.2
  have h2 : ldF n M q = q ∨ plusM n M q (ldF n M q) = true := by
    rcases ldF_eqv (n := n) (M := M) (p := q) with h | ⟨-, h⟩
    · exact .inl h
    · unfold eqvB at h; rw [Bool.and_eq_true] at h; exact .inr h.1
  have h3 : plusM n M (ldF n M p) q = true := by
    rcases h1 with h | h
    · rw [h]; exact hpq
    · exact plus_trans hp h hpq
  rcases h2 with h | h
  · rw [h]; exact h3
  · exact plus_trans hq h3 h
theorem rep_eq {x y : Nat} (hx : ldF n M x = x) (hy : ldF n M y = y) (h : eqvB n M x y = true) : x = y := by
  rcases Nat.lt_trichotomy x y with h1 | h1 | h1
  · exact (ldF_least (n := n) (M := M) (p := y) (q := x) (by omega) (eqvB_symm h)).elim
  · exact h1
  · exact (ldF_least (n := n) (M := M) (p := x) (q := y) (by omega) h).elim
theorem smM_rep {x y : Nat} (h : smM n M (ldF n M) x y = true) : x < n ∧ y < n ∧ ldF n M x = x ∧ ldF n M y = y ∧ x ≠ y := by
  rw [smM_true] at h
  obtain ⟨p, hp, q, hq, -, hne, rfl, rfl⟩ := h
  exact ⟨Nat.lt_of_le_of_lt ldF_le hp, Nat.lt_of_le_of_lt ldF_le hq, ldF_idem hp, ldF_idem hq, hne⟩
theorem smM_acyc : ∀ i, i < n → plusM n (smM n M (ldF n M)) i i = false := fun i hi => by
  rw [Bool.eq_false_iff]; intro h
  have sub : ∀ {a b}, a < n → b < n → plusM n (smM n M (ldF n M)) a b = true → plusM n M a b = true := fun {a b} ha hb h =>
    plus_least (N := fun a b => plusM n M a b = true) (fun a b _ _ h => smM_plus h) (fun _ _ _ _ hx _ h1 h2 => plus_trans hx h1 h2) ha hb h
  have := plus_least (n := n) (M := smM n M (ldF n M)) (N := fun a b => ∃ y, smM n M (ldF n M) a y = true ∧ (y = b ∨ plusM n (smM n M (ldF n M)) y b = true))
    (fun a b _ _ h => ⟨b, h, .inl rfl⟩) (fun a x b _ hx _ ⟨y, h1, h2⟩ ⟨z, h3, h4⟩ => by
      refine ⟨y, h1, .inr ?_⟩
      have hxz : plusM n (smM n M (ldF n M)) x b = true := by
        rcases h4 with rfl | h4
        · exact plus_sub h3
        · exact plus_trans (smM_rep h3).2.1 (plus_sub h3) h4
      rcases h2 with rfl | h2
      · exact hxz
      · exact plus_trans hx h2 hxz) hi hi h
  obtain ⟨y, h1, h2⟩ := this
  obtain ⟨k1, k2, k3, k4, k5⟩ := smM_rep h1
  rcases h2 with rfl | h2
  · exact k5 rfl
  · refine k5 (rep_eq k3 k4 ?_)
    unfold eqvB
    rw [smM_plus h1, sub k2 hi h2]; rfl
/-- All least points are told. -/
theorem seq_all : ∀ (l : List Nat), SeqI n (smM n M (ldF n M)) (ldF n M) l → lf (fun p => ldF n M p == p && freeB n (smM n M (ldF n M)) l.contains p) n 0 = none → ∀ p, p < n → ldF n M p = p → p ∈ l := fun l hl hnone p hp hF => by
  apply Classical.byContradiction; intro hpl
  obtain ⟨q, hq, hf⟩ := free_exists (n := n) (M := smM n M (ldF n M)) smM_acyc (D := fun q => l.contains q || ldF n M q != q) _ p hp (by simp [hpl, hF]) (Nat.le_refl _)
  obtain ⟨h1, h2⟩ := freeB_true.1 hf
  simp only [Bool.or_eq_false_iff, bne_eq_false_iff_eq] at h1
  have := lf_none hnone q (by omega) hq
  simp only [h1.2, beq_self_eq_true, Bool.true_and] at this
  rw [Bool.eq_false_iff] at this
  refine this (freeB_true.2 ⟨h1.1, fun a ha hm => ?_⟩)
  have := h2 a ha hm
  have ha2 := (smM_rep hm).2.2.1
  simpa [ha2] using this
theorem seqGo_reach {S : Nat → Nat → Bool} {F : Nat → Nat} : ∀ (d : Nat) (l : List Nat), n - l.length = d → SeqI n S F l → ∃ l', SeqI n S F l' ∧ l' = seqGo n S F n [] ∧ lf (fun p => F p == p && freeB n S l'.contains p) n 0 = none
  | d, l, hd, hl => by
    cases hx : lf (fun p => F p == p && freeB n S l.contains p) n 0 with
    | none => exact ⟨l, hl, hl.done hx, hx⟩
    | some p =>
      have h2 := hl.step hx
      have h3 := h2.len
      have h4 : (l ++ [p]).length = l.length + 1 := by simp
      match d, hd with
      | 0, hd => omega
      | d + 1, hd => exact seqGo_reach d (l ++ [p]) (by omega) h2
theorem partsR_spec : (partsR n M).Nodup ∧ (∀ x, x ∈ partsR n M ↔ x < n ∧ ldF n M x = x) := by
  obtain ⟨l, h1, h2, h3⟩ := seqGo_reach (S := smM n M (ldF n M)) (F := ldF n M) _ [] rfl .start
  have : partsR n M = l := by rw [partsR, ← h2]
  rw [this]
  exact ⟨h1.1, fun x => ⟨fun hx => h1.2.1 x hx, fun ⟨hx, hF⟩ => seq_all l h1 h3 x hx hF⟩⟩
/-- What leads to a list that is told stands ahead of it. -/
theorem seqGo_closed {S : Nat → Nat → Bool} {F : Nat → Nat} : ∀ (k : Nat) (l : List Nat) (j : Nat), (∀ i, i ≤ l.length → ∀ y, y ∈ l.take i → ∀ x, x < n → S x y = true → x ∈ l.take i) → ∀ y, y ∈ (l ++ seqGo n S F k l).take j → ∀ x, x < n → S x y = true → x ∈ (l ++ seqGo n S F k l).take j
  | 0, l, j, hc, y, hy, x, hx, hS => by
    simp only [seqGo, List.append_nil] at hy ⊢
    by_cases hj : j ≤ l.length
    · exact hc j hj y hy x hx hS
    · rw [List.take_of_length_le (by omega)] at hy ⊢
      have := hc l.length (Nat.le_refl _) y (by rwa [List.take_length]) x hx hS
      rwa [List.take_length] at this
  | k + 1, l, j, hc, y, hy, x, hx, hS => by
    simp only [seqGo] at hy ⊢
    cases hl : lf (fun p => F p == p && freeB n S l.contains p) n 0 with
    | none =>
      rw [hl] at hy
      simp only [List.append_nil] at hy ⊢
      by_cases hj : j ≤ l.length
      · exact hc j hj y hy x hx hS
      · rw [List.take_of_length_le (by omega)] at hy ⊢
        have := hc l.length (Nat.le_refl _) y (by rwa [List.take_length]) x hx hS
        rwa [List.take_length] at this
    | some p =>
      rw [hl] at hy
      simp only at hy ⊢
      obtain ⟨-, hp, hf⟩ := lf_some hl
      simp only [Bool.and_eq_true, beq_iff_eq] at hf
      have e : l ++ p :: seqGo n S F k (l ++ [p]) = (l ++ [p]) ++ seqGo n S F k (l ++ [p]) := by simp
      rw [e] at hy ⊢
      refine seqGo_closed k (l ++ [p]) j (fun i hi z hz w hw hs => ?_) y hy x hx hS
      by_cases hil : i ≤ l.length
      · rw [List.take_append_of_le_length hil] at hz ⊢
        exact hc i hil z hz w hw hs
      · rw [List.take_of_length_le (by simp; omega)] at hz ⊢
        rcases List.mem_append.1 hz with hz | hz
        · have := hc l.length (Nat.le_refl _) z (by rwa [List.take_length]) w hw hs
          rw [List.take_length] at this
          exact List.mem_append.2 (.inl this)
        · simp at hz; subst hz
          have := (freeB_true.1 hf.2).2 w hw hs
          exact List.mem_append.2 (.inl (by simpa using this))
theorem parts_back {i k ri rk : Nat} (hi : (partsR n M)[i]? = some ri) (hk : (partsR n M)[k]? = some rk) (hki : k < i) : plusM n M ri rk = false := by
  obtain ⟨hnd, hmem⟩ := partsR_spec (n := n) (M := M)
  have hri := (hmem ri).1 (List.mem_of_getElem? hi)
  have hrk := (hmem rk).1 (List.mem_of_getElem? hk)
  rw [Bool.eq_false_iff]; intro h
  have cl : ∀ y, y ∈ (partsR n M).take (k + 1) → ∀ x, x < n → smM n M (ldF n M) x y = true → x ∈ (partsR n M).take (k + 1) := by
    have := seqGo_closed (n := n) (S := smM n M (ldF n M)) (F := ldF n M) n [] (k + 1) (fun i _ y hy => by simp at hy)
    simpa [partsR] using this
  have := plus_least (n := n) (M := M) (N := fun a b => ldF n M b ∈ (partsR n M).take (k + 1) → ldF n M a ∈ (partsR n M).take (k + 1)) (fun a b ha hb hm hb2 => by
    by_cases he : ldF n M a = ldF n M b
    · rw [he]; exact hb2
    · exact cl _ hb2 _ (Nat.lt_of_le_of_lt ldF_le ha) (smM_true.2 ⟨a, ha, b, hb, hm, he, rfl, rfl⟩)) (fun _ _ _ _ _ _ h1 h2 h3 => h1 (h2 h3)) hri.1 hrk.1 h
  rw [hri.2, hrk.2] at this
  have hin : rk ∈ (partsR n M).take (k + 1) := by
    rw [List.mem_iff_getElem?]
    exact ⟨k, by rw [List.getElem?_take_of_lt (by omega)]; exact hk⟩
  have := this hin
  obtain ⟨j, hj⟩ := List.mem_iff_getElem?.1 this
  have hjk : j < k + 1 := by
    have := (List.getElem?_eq_some_iff.1 hj).1
    rw [List.length_take] at this; omega
  rw [List.getElem?_take_of_lt hjk] at hj
  have := nodup_at hnd hj hi
  omega
where
  nodup_at {l : List Nat} {i j x : Nat} (h : l.Nodup) (hi : l[i]? = some x) (hj : l[j]? = some x) : i = j := by
    obtain ⟨h1, rfl⟩ := List.getElem?_eq_some_iff.1 hi
    obtain ⟨h2, h3⟩ := List.getElem?_eq_some_iff.1 hj
    have e1 := h.idxOf_getElem i h1
    have e2 := h.idxOf_getElem j h2
    rw [h3] at e2; omega
end
end Go.Proofs.Tst
/-
  How many bits a word has: the library's way of adding them up.
-/
namespace Go.Vc
end Go.Vc
namespace Go.Proofs.Tst
open Go Go.Vc
end Go.Proofs.Tst
namespace Go.Proofs.Tst
open Go Go.Vc
end Go.Proofs.Tst
namespace Go.Proofs.Tst
open Go Go.Vc
/-- The points of a round. -/
def LayL (n : Nat) (M : Nat → Nat → Bool) (p k : Nat) (L : List Nat) : Prop := (k = 0 ∧ L = [p]) ∨ (0 < k ∧ ∀ i, i ∈ L ↔ i < n ∧ farK n M p k i = k)
theorem LayL.lay {n : Nat} {M : Nat → Nat → Bool} {p k : Nat} {L : List Nat} (h : LayL n M p k L) (i : Nat) : L.any (fun q => M i q) = lay n M p (farK n M p k) k i := by
  rcases h with ⟨rfl, rfl⟩ | ⟨hk, h⟩
  · simp [Go.Vc.lay]
  · obtain ⟨k, rfl⟩ : ∃ k', k = k' + 1 := ⟨k - 1, by omega⟩
    rw [Bool.eq_iff_iff, lay_succ, List.any_eq_true]
    exact ⟨fun ⟨q, hq, hm⟩ => ⟨q, ((h q).1 hq).1, hm, ((h q).1 hq).2⟩, fun ⟨q, hq, hm, hf⟩ => ⟨q, (h q).2 ⟨hq, hf⟩, hm⟩⟩
theorem LayL.lt {n : Nat} {M : Nat → Nat → Bool} {p k : Nat} {L : List Nat} (hp : p < n) (h : LayL n M p k L) {q : Nat} (hq : q ∈ L) : q < n := by
  rcases h with ⟨rfl, rfl⟩ | ⟨hk, h⟩
  · simp at hq; omega
  · exact ((h q).1 hq).1

end Go.Proofs.Tst
/-
  Lists compared, cell by cell.
-/
namespace Go.Proofs.Tst
open Go Go.Vc
theorem c_law2_ints {l m : List Int} {a b : Value} {h : Heap} (hl : Rd 1 h a l.length (intsV l)) (hm : Rd 1 h b m.length (intsV m)) (hb : l.length ≤ 4611686018427387904) :
    Con Tryd.prog 18 #[a, b] h fun v h' => h' = h ∧ v = .bool (decide (l = m)) := by
  refine con_law2_ints ?_
  obtain ⟨aa, ac, rfl⟩ := hl.is
  obtain ⟨ba, bc, rfl⟩ := hm.is
  simp -dsimp only [go_sem, ↓reduceIte, reduceCtorEq, Nat.reduceEqDiff, Nat.reduceAdd, Nat.reduceLeDiff, Nat.reduceMul, Int.reduceBEq, Int.reduceBNe, Int.reduceLT, Int.reduceLE, Int.reduceGT, Int.reduceGE]
  refine ⟨fun hne => ?_, fun heq => ?_⟩
  · simp -dsimp only [go_sem, ↓reduceIte, reduceCtorEq, Nat.reduceEqDiff, Nat.reduceAdd, Nat.reduceLeDiff, Nat.reduceMul, Int.reduceBEq, Int.reduceBNe, Int.reduceLT, Int.reduceLE, Int.reduceGT, Int.reduceGE]
    have : l ≠ m := by rintro rfl; simp at hne
    simp [this]
  have heq : l.length = m.length := by have : (l.length : Int) = m.length := by simpa using heq
                                       omega
  simp -dsimp only [go_sem, ↓reduceIte, reduceCtorEq, Nat.reduceEqDiff, Nat.reduceAdd, Nat.reduceLeDiff, Nat.reduceMul, Int.reduceBEq, Int.reduceBNe, Int.reduceLT, Int.reduceLE, Int.reduceGT, Int.reduceGE]
  refine loop_intro (fun i : Nat => [(0, .slice aa l.length ac), (1, .slice ba m.length bc), (5, .int .i64 i)])
    (fun i h' => i ≤ l.length ∧ h' = h ∧ ∀ j, j < i → l[j]? = m[j]?) (fun i => l.length - i) 0 ?_ ?_ ?_
  · simp [Le, find]
  · exact ⟨by omega, rfl, fun j hj => by omega⟩
  rintro i _ ⟨hi, rfl, hinv⟩
  simp -dsimp only [go_sem, ↓reduceIte, reduceCtorEq, Nat.reduceEqDiff, Nat.reduceAdd, Nat.reduceLeDiff, Nat.reduceMul, Int.reduceBEq, Int.reduceBNe, Int.reduceLT, Int.reduceLE, Int.reduceGT, Int.reduceGE]
  refine ⟨fun hlt => ?_, fun hge => ?_⟩
  · have hlt : i < l.length := by omega
    simp -dsimp only [go_sem, ↓reduceIte, reduceCtorEq, Nat.reduceEqDiff, Nat.reduceAdd, Nat.reduceLeDiff, Nat.reduceMul, Int.reduceBEq, Int.reduceBNe, Int.reduceLT, Int.reduceLE, Int.reduceGT, Int.reduceGE]
    refine Chk_intro (by omega) (hl.idx (by omega) fun b1 o1 c1 => ?_)
    simp -dsimp only [go_sem, ↓reduceIte, reduceCtorEq, Nat.reduceEqDiff, Nat.reduceAdd, Nat.reduceLeDiff, Nat.reduceMul, Int.reduceBEq, Int.reduceBNe, Int.reduceLT, Int.reduceLE, Int.reduceGT, Int.reduceGE, c1 i _ (intsV_get (List.getElem?_eq_getElem hlt))]
    refine Chk_intro (by omega) (hm.idx (by omega) fun b2 o2 c2 => ?_)
    simp -dsimp only [go_sem, ↓reduceIte, reduceCtorEq, Nat.reduceEqDiff, Nat.reduceAdd, Nat.reduceLeDiff, Nat.reduceMul, Int.reduceBEq, Int.reduceBNe, Int.reduceLT, Int.reduceLE, Int.reduceGT, Int.reduceGE, c2 i _ (intsV_get (List.getElem?_eq_getElem (show i < m.length by omega)))]
    refine ⟨fun hne => ?_, fun he => ?_⟩
    · simp -dsimp only [go_sem, ↓reduceIte, reduceCtorEq, Nat.reduceEqDiff, Nat.reduceAdd, Nat.reduceLeDiff, Nat.reduceMul, Int.reduceBEq, Int.reduceBNe, Int.reduceLT, Int.reduceLE, Int.reduceGT, Int.reduceGE]
      have : l ≠ m := by rintro rfl; simp at hne
      simp [this]
    · simp -dsimp only [go_sem, ↓reduceIte, reduceCtorEq, Nat.reduceEqDiff, Nat.reduceAdd, Nat.reduceLeDiff, Nat.reduceMul, Int.reduceBEq, Int.reduceBNe, Int.reduceLT, Int.reduceLE, Int.reduceGT, Int.reduceGE]
      simp -dsimp (disch := omega) only [wrap64]
      refine ⟨i + 1, by omega, by simp [Le, find], by omega, fun j hj => ?_⟩
      by_cases hji : j = i
      · subst hji
        rw [List.getElem?_eq_getElem hlt, List.getElem?_eq_getElem (show j < m.length by omega)]
        simpa using he
      · exact hinv j (by omega)
  · simp -dsimp only [go_sem, ↓reduceIte, reduceCtorEq, Nat.reduceEqDiff, Nat.reduceAdd, Nat.reduceLeDiff, Nat.reduceMul, Int.reduceBEq, Int.reduceBNe, Int.reduceLT, Int.reduceLE, Int.reduceGT, Int.reduceGE]
    have : l = m := List.ext_getElem? fun j => by
      by_cases hj : j < i
      · exact hinv j hj
      · rw [List.getElem?_eq_none (by omega), List.getElem?_eq_none (by omega)]
    simp [this]
end Go.Proofs.Tst
namespace Go.Proofs.Tst
open Go Go.Vc
end Go.Proofs.Tst
namespace Go.Proofs.Tst
open Go Go.Vc
end Go.Proofs.Tst
namespace Go.Proofs.Tst
open Go Go.Vc
end Go.Proofs.Tst
/-
  The laws of sets of pairs.
-/
namespace Go.Proofs.Tst
open Go Go.Vc
theorem eqP {n m : Nat} {M N : Nat → Nat → Bool} (h : n = m) (he : ∀ i j, i < n → j < n → (M i j = true ↔ N i j = true)) : decide (n = m ∧ WithinP n M m N ∧ WithinP m N n M) = true := by
  subst h
  exact decide_eq_true ⟨rfl, fun a ha b hb hm => ⟨ha, hb, (he a b ha hb).1 hm⟩, fun a ha b hb hm => ⟨ha, hb, (he a b ha hb).2 hm⟩⟩
section
variable {k : Nat} {A B C : Nat → Nat → Bool} {i j : Nat}
end
theorem progPtr {h : Heap} {lo hi : Nat} {p : Value} {n : Nat} {M : Nat → Nat → Bool} (t : ProgAt h lo hi p n M) : ∃ pb, p = .pointer (some ⟨pb, 0, none⟩) := by
  obtain ⟨-, pb, rb, R, W, rfl, -⟩ := t; exact ⟨pb, rfl⟩
end Go.Proofs.Tst
namespace Go.Proofs.Tst
open Go Go.Vc
section
variable {n : Nat} {M : Nat → Nat → Bool}
theorem memb_mem {F : Nat → Nat} {r k p : Nat} : p ∈ memb F r k ↔ p < k ∧ F p = r := by simp [memb]
theorem memb_sorted {F : Nat → Nat} {r k : Nat} : (memb F r k).Pairwise (· < ·) := List.Pairwise.filter _ List.pairwise_lt_range
theorem memb_first {r : Nat} (hr : r < n) (hF : ldF n M r = r) : (memb (ldF n M) r n)[0]? = some r := by
  have h1 : r ∈ memb (ldF n M) r n := memb_mem.2 ⟨hr, hF⟩
  have h2 := memb_sorted (F := ldF n M) (r := r) (k := n)
  have h3 : ∀ x ∈ memb (ldF n M) r n, r ≤ x := fun x hx => by rw [← (memb_mem.1 hx).2]; exact ldF_le
  generalize memb (ldF n M) r n = l at h1 h2 h3
  cases l with
  | nil => simp at h1
  | cons y t =>
    rcases List.mem_cons.1 h1 with rfl | h
    · rfl
    · have := (List.pairwise_cons.1 h2).1 r h
      have := h3 y (List.mem_cons_self ..)
      omega
/-- The lists, one behind the other. -/
def flatS (n : Nat) (M : Nat → Nat → Bool) : List Nat := (partsS n M).flatten
theorem flat_pre : Pre n (fun _ _ => false) (flatS n M) ∧ (flatS n M).length = n := by
  obtain ⟨hnd, hmem⟩ := partsR_spec (n := n) (M := M)
  have hd : (flatS n M).Nodup := by
    unfold flatS partsS
    rw [List.Nodup, List.pairwise_flatten]
    refine ⟨fun l hl => ?_, ?_⟩
    · obtain ⟨r, -, rfl⟩ := List.mem_map.1 hl
      exact memb_sorted.imp fun h => Nat.ne_of_lt h
    · rw [List.pairwise_map]
      refine hnd.imp fun {a b} hab x hx y hy hxy => ?_
      rw [memb_mem] at hx hy
      subst hxy
      exact hab (hx.2.symm.trans hy.2)
  have hl : ∀ x, x ∈ flatS n M ↔ x < n := fun x => by
    unfold flatS partsS
    simp only [List.mem_flatten, List.mem_map]
    constructor
    · rintro ⟨_, ⟨r, -, rfl⟩, hx⟩; exact (memb_mem.1 hx).1
    · intro hx
      exact ⟨_, ⟨ldF n M x, (hmem _).2 ⟨Nat.lt_of_le_of_lt ldF_le hx, ldF_idem hx⟩, rfl⟩, memb_mem.2 ⟨hx, rfl⟩⟩
  have h1 := nodup_lt hd fun x hx => (hl x).1 hx
  have h2 := nodup_sub (l := List.range n) (m := flatS n M) List.nodup_range fun x hx => (hl x).2 (List.mem_range.1 hx)
  simp at h2
  exact ⟨⟨hd, fun x hx => (hl x).1 hx, fun _ _ _ _ _ h => by simp at h⟩, by omega⟩
theorem lf_congr {f g : Nat → Bool} {q : Nat} (h : ∀ x, x < n → f x = g x) : lf f n q = lf g n q := by
  cases hf : lf f n q with
  | none =>
    cases hg : lf g n q with
    | none => rfl
    | some x =>
      obtain ⟨h1, h2, h3⟩ := lf_some hg
      have := lf_none hf x h1 h2
      rw [h x h2, h3] at this; simp at this
  | some x =>
    obtain ⟨h1, h2, h3⟩ := lf_some hf
    rw [lf_is h1 h2 (by rw [← h x h2]; exact h3) fun y hy hyx => by rw [← h y (by omega)]; exact lf_least hf y hy hyx]
theorem flat_sort {m : List Nat} (hs : sortS n M = some m) : flatS n M = m := by
  have hac : ∀ i, i < n → plusM n M i i = false := irrB_true.1 (by rw [← sort_acyc, hs]; rfl)
  have hF : ∀ p, p < n → ldF n M p = p := fun p hp => by
    rcases ldF_eqv (n := n) (M := M) (p := p) with h | ⟨h1, h2⟩
    · exact h
    · unfold eqvB at h2; rw [Bool.and_eq_true] at h2
      have := plus_trans (show ldF n M p < n by omega) h2.1 h2.2
      rw [hac p hp] at this; simp at this
  have hS : ∀ a p, a < n → p < n → (smM n M (ldF n M) a p = true ↔ M a p = true) := fun a p ha hp => by
    rw [smM_true]
    constructor
    · rintro ⟨x, hx, y, hy, hm, -, h1, h2⟩
      rw [hF x hx] at h1; rw [hF y hy] at h2; subst h1; subst h2; exact hm
    · intro hm
      refine ⟨a, ha, p, hp, hm, ?_, hF a ha, hF p hp⟩
      rw [hF a ha, hF p hp]; rintro rfl
      have := hac a ha
      rw [plus_sub hm] at this; simp at this
  have hfree : ∀ (l : List Nat) p, p < n → (ldF n M p == p && freeB n (smM n M (ldF n M)) l.contains p) = freeB n M l.contains p := fun l p hp => by
    rw [hF p hp, beq_self_eq_true, Bool.true_and, Bool.eq_iff_iff, freeB_true, freeB_true]
    refine and_congr_right fun _ => forall_congr' fun a => forall_congr' fun ha => ?_
    rw [hS a p ha hp]
  have go : ∀ (k : Nat) (l m : List Nat), sortGo n M k l = some m → m = l ++ seqGo n (smM n M (ldF n M)) (ldF n M) k l := by
    intro k
    induction k with
    | zero => intro l m h; simp [sortGo] at h; subst h; simp [seqGo]
    | succ k ih =>
      intro l m h
      simp only [sortGo] at h
      cases hx : lf (freeB n M l.contains) n 0 with
      | none => rw [hx] at h; simp at h
      | some p =>
        rw [hx] at h
        have := ih _ _ h
        simp only [seqGo]
        rw [lf_congr (fun x hx => hfree l x hx), hx, this]
        simp
  have hR : partsR n M = m := by
    have := go n [] m hs
    rw [List.nil_append] at this
    exact this.symm
  have hmem := (partsR_spec (n := n) (M := M)).2
  have e : partsS n M = (partsR n M).map fun r => [r] := by
    unfold partsS
    refine List.map_congr_left fun r hr => ?_
    have hrn := ((hmem r).1 hr).1
    have h1 : ∀ p, p ∈ memb (ldF n M) r n ↔ p = r := fun p => by
      rw [memb_mem]
      constructor
      · rintro ⟨hp, h⟩; rw [hF p hp] at h; exact h
      · rintro rfl; exact ⟨hrn, hF _ hrn⟩
    have h2 := memb_sorted (F := ldF n M) (r := r) (k := n)
    generalize memb (ldF n M) r n = l at h1 h2
    match l, h1, h2 with
    | [], h1, _ => exact absurd ((h1 r).2 rfl) (by simp)
    | [y], h1, _ => rw [(h1 y).1 (by simp)]
    | y :: z :: t, h1, h2 =>
      have e1 := (h1 y).1 (by simp)
      have e2 := (h1 z).1 (by simp)
      have := (List.pairwise_cons.1 h2).1 z (by simp)
      omega
  unfold flatS
  rw [e, hR]
  clear e hR hs go
  induction m with
  | nil => rfl
  | cons x m ih => simp only [List.map_cons, List.flatten_cons, ih, List.singleton_append]
/-! Reduction. -/
theorem redM_true {i j : Nat} (hi : i < n) (hj : j < n) : redM n M i j = true ↔ plusM n M i j = true ∧ ∀ z, z < n → plusM n M i z = true → plusM n M z j = true → False := by
  unfold redM minusM
  rw [inN_in hi hj, inN_in hi hj, Bool.and_eq_true, Bool.not_eq_true', Bool.eq_false_iff]
  refine and_congr_right fun _ => ?_
  rw [ne_eq, compM_true]
  constructor
  · intro h z hz h1 h2
    exact h ⟨z, inN_true.2 ⟨hi, hz, h1⟩, inN_true.2 ⟨hz, hj, h2⟩⟩
  · rintro h ⟨z, h1, h2⟩
    rw [inN_true] at h1 h2
    exact h z h1.2.1 h1.2.2 h2.2.2
theorem red_plus (ha : ∀ i, i < n → plusM n M i i = false) {i j : Nat} (hi : i < n) (hj : j < n) : plusM n (redM n M) i j = true ↔ plusM n M i j = true := by
  constructor
  · exact plus_least (N := fun i j => plusM n M i j = true) (fun i j hi hj h => ((redM_true hi hj).1 h).1) (fun _ _ _ _ hx _ h1 h2 => plus_trans hx h1 h2) hi hj
  · have key : ∀ (c i j : Nat), i < n → j < n → plusM n M i j = true → ((List.range n).countP fun z => plusM n M i z && plusM n M z j) ≤ c → plusM n (redM n M) i j = true := by
      intro c
      induction c with
      | zero =>
        intro i j hi hj h hc
        refine plus_sub ((redM_true hi hj).2 ⟨h, fun z hz h1 h2 => ?_⟩)
        have : 0 < (List.range n).countP fun z => plusM n M i z && plusM n M z j := List.countP_pos_iff.2 ⟨z, List.mem_range.2 hz, by simp [h1, h2]⟩
        omega
      | succ c ih =>
        intro i j hi hj h hc
        by_cases hz : ∃ z, z < n ∧ plusM n M i z = true ∧ plusM n M z j = true
        · obtain ⟨z, hz, h1, h2⟩ := hz
          have c1 := countP_lt (f := fun w => plusM n M i w && plusM n M w z) (g := fun w => plusM n M i w && plusM n M w j) n z hz (fun w hw => by
            simp only [Bool.and_eq_true] at hw ⊢
            exact ⟨hw.1, plus_trans hz hw.2 h2⟩) (by simp [ha z hz]) (by simp [h1, h2])
          have c2 := countP_lt (f := fun w => plusM n M z w && plusM n M w j) (g := fun w => plusM n M i w && plusM n M w j) n z hz (fun w hw => by
            simp only [Bool.and_eq_true] at hw ⊢
            exact ⟨plus_trans hz h1 hw.1, hw.2⟩) (by simp [ha z hz]) (by simp [h1, h2])
          exact plus_trans hz (ih i z hi hz h1 (by omega)) (ih z j hz hj h2 (by omega))
        · exact plus_sub ((redM_true hi hj).2 ⟨h, fun z hzn h1 h2 => hz ⟨z, hzn, h1, h2⟩⟩)
    exact fun h => key _ i j hi hj h (Nat.le_refl _)
theorem red_irr (ha : irrB n (plusM n M) = true) : irrB n (plusM n (redM n M)) = true := by
  have h := irrB_true.1 ha
  refine irrB_true.2 fun i hi => ?_
  rw [Bool.eq_false_iff]; intro hc
  have := h i hi
  rw [(red_plus h hi hi).1 hc] at this; simp at this
theorem red_red (ha : irrB n (plusM n M) = true) {i j : Nat} (hi : i < n) (hj : j < n) : redM n (redM n M) i j = true ↔ redM n M i j = true := by
  have h := irrB_true.1 ha
  rw [redM_true hi hj, redM_true hi hj, red_plus h hi hj]
  refine and_congr_right fun _ => forall_congr' fun z => forall_congr' fun hz => ?_
  rw [red_plus h hi hz, red_plus h hz hj]
theorem red_less {a b : Nat} (ha : a < n) (hb : b < n) (hd : redM n M a b = true) : plusM n (putM n (redM n M) a b false) a b = false := by
  have hd := (redM_true ha hb).1 hd
  rw [Bool.eq_false_iff]; intro h
  have := plus_least (N := fun i j => plusM n M i j = true ∧ ¬ (i = a ∧ j = b)) (fun i j hi hj h => by
    unfold putM at h
    split at h
    · simp at h
    · rename_i hne
      refine ⟨((redM_true hi hj).1 h).1, ?_⟩
      rintro ⟨rfl, rfl⟩
      apply hne
      simp [inR, hi, hj]) (fun i x j hi hx hj h1 h2 => ⟨plus_trans hx h1.1 h2.1, by
      rintro ⟨rfl, rfl⟩; exact hd.2 x hx h1.1 h2.1⟩) ha hb h
  exact this.2 ⟨rfl, rfl⟩
end
end Go.Proofs.Tst
