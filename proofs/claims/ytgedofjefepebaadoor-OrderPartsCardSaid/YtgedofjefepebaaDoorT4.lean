/-
  Contracts of functions that the law reaches: what each returns and what it leaves in memory. Conditions stand in each.
-/
import Derived.Test.YtgedofjefepebaaDoorT3
set_option linter.all false
set_option maxRecDepth 2000
namespace Go.Proofs.Tst
open Go Go.Vc
set_option maxHeartbeats 1600000 in
theorem order_Glue {n : Nat} {M : Nat → Nat → Bool} {rv lv : Value} {l : List (Int × Int)} {lo hi : Nat} {h : Heap} (hr : ProgAt h lo hi rv n M) (ht : TabAt h) (hl : Rd 2 h lv l.length (pairsV l)) (hb : l.length ≤ 4611686018427387904) :
    Con Tryd.prog 25 #[rv, lv] h fun v h' => Fr 0 0 h h' ∧ ResL h' h.size v (glueS n M l) := by
  refine con_order_Glue ?_
  have hn := hr.1
  obtain ⟨la, lc, rfl⟩ := hl.is
  have p0 : Fr 0 0 h h := .refl _ _ _
  simp -dsimp only [go_sem, ↓reduceIte, reduceCtorEq, Nat.reduceEqDiff, Nat.reduceAdd, Nat.reduceLeDiff, Nat.reduceMul, Int.reduceBEq, Int.reduceBNe, Int.reduceLT, Int.reduceLE, Int.reduceGT, Int.reduceGE]
  refine call_of (rel_Len hr) ?_
  rintro v h1 ⟨rfl, rfl⟩
  simp -dsimp only [go_sem, ↓reduceIte, reduceCtorEq, Nat.reduceEqDiff, Nat.reduceAdd, Nat.reduceLeDiff, Nat.reduceMul, Int.reduceBEq, Int.reduceBNe, Int.reduceLT, Int.reduceLE, Int.reduceGT, Int.reduceGE]
  refine Chk_intro (by omega) ?_
  intro bo h2 n2
  have n2_a := n2.at_
  have n2_z := n2.size
  replace p0 := p0.fresh (n2.fr (lo := 0) (hi := 0)) (by omega)
  have ro := n2.row
  rw [zeros_one, Int.toNat_natCast, ivec_rep] at ro
  simp -dsimp only [go_sem, ↓reduceIte, reduceCtorEq, Nat.reduceEqDiff, Nat.reduceAdd, Nat.reduceLeDiff, Nat.reduceMul, Int.reduceBEq, Int.reduceBNe, Int.reduceLT, Int.reduceLE, Int.reduceGT, Int.reduceGE, ro.cell]
  refine Chk_intro (by omega) ?_
  intro bx h3 n3
  have n3_a := n3.at_
  have n3_z := n3.size
  replace p0 := p0.fresh (n3.fr (lo := 0) (hi := 0)) (by omega)
  replace ro := ro.fr (n3.fr (lo := 0) (hi := 0)) (by omega)
  have rx := n3.row
  rw [zeros_one, Int.toNat_natCast, ivec_rep] at rx
  simp -dsimp only [go_sem, ↓reduceIte, reduceCtorEq, Nat.reduceEqDiff, Nat.reduceAdd, Nat.reduceLeDiff, Nat.reduceMul, Int.reduceBEq, Int.reduceBNe, Int.reduceLT, Int.reduceLE, Int.reduceGT, Int.reduceGE, ro.cell, rx.cell]
  refine loop_intro (fun i : Nat => [(0, rv), (1, .slice la l.length lc), (6, .int .i64 n), (7, .slice (some ⟨bo, 0, none⟩) n n), (8, .slice (some ⟨bx, 0, none⟩) n n), (27, .int .i64 n), (28, .int .i64 i)])
    (fun i h' => i ≤ n ∧ Fr 0 0 h1 h' ∧ h3.size ≤ h'.size ∧ Rw h' bo (ivec n fun p => if p < i then (p : Int) else 0) ∧ Rw h' bx (ivec n fun p => if p < i then -1 else 0)) (fun i => n - i) 0 ?_ ?_ ?_
  · simp [Le, find]
  · exact ⟨by omega, p0, by omega, by simpa using ro, by simpa using rx⟩
  rintro i h4 ⟨hi, p0, y4, ro, rx⟩
  have p0_z := p0.size
  have ro_l := ro.lt
  have rx_l := rx.lt
  simp -dsimp only [go_sem, ↓reduceIte, reduceCtorEq, Nat.reduceEqDiff, Nat.reduceAdd, Nat.reduceLeDiff, Nat.reduceMul, Int.reduceBEq, Int.reduceBNe, Int.reduceLT, Int.reduceLE, Int.reduceGT, Int.reduceGE, ro.cell, rx.cell]
  refine ⟨fun hlt => ?_, fun hge => ?_⟩
  · have hlt : i < n := by omega
    simp -dsimp only [go_sem, ↓reduceIte, reduceCtorEq, Nat.reduceEqDiff, Nat.reduceAdd, Nat.reduceLeDiff, Nat.reduceMul, Int.reduceBEq, Int.reduceBNe, Int.reduceLT, Int.reduceLE, Int.reduceGT, Int.reduceGE, ro.cell, rx.cell]
    refine Chk_intro (by omega) ?_
    simp -dsimp only [go_sem, ↓reduceIte, reduceCtorEq, Nat.reduceEqDiff, Nat.reduceAdd, Nat.reduceLeDiff, Nat.reduceMul, Int.reduceBEq, Int.reduceBNe, Int.reduceLT, Int.reduceLE, Int.reduceGT, Int.reduceGE, ro.cell, rx.cell]
    refine Chk_intro (ro.wr (by first | (simp; done) | (simp; omega))) fun h5 s5 => ?_
    have s5_z := s5.size
    replace p0 := p0.fresh s5.fr (by omega)
    replace rx := rx.fr s5.fr (by omega)
    replace ro := s5.row ro
    try simp only [cl_int, cl_bool, cl_slice, cl_ptr, putAt_one, List.set_cons_zero, List.set_cons_succ, ivec_set, brow_upd] at ro
    simp -dsimp only [go_sem, ↓reduceIte, reduceCtorEq, Nat.reduceEqDiff, Nat.reduceAdd, Nat.reduceLeDiff, Nat.reduceMul, Int.reduceBEq, Int.reduceBNe, Int.reduceLT, Int.reduceLE, Int.reduceGT, Int.reduceGE, ro.cell, rx.cell]
    refine Chk_intro (by omega) ?_
    simp -dsimp only [go_sem, ↓reduceIte, reduceCtorEq, Nat.reduceEqDiff, Nat.reduceAdd, Nat.reduceLeDiff, Nat.reduceMul, Int.reduceBEq, Int.reduceBNe, Int.reduceLT, Int.reduceLE, Int.reduceGT, Int.reduceGE, ro.cell, rx.cell]
    refine Chk_intro (rx.wr (by first | (simp; done) | (simp; omega))) fun h6 s6 => ?_
    have s6_z := s6.size
    replace p0 := p0.fresh s6.fr (by omega)
    replace ro := ro.fr s6.fr (by omega)
    replace rx := s6.row rx
    try simp only [cl_int, cl_bool, cl_slice, cl_ptr, putAt_one, List.set_cons_zero, List.set_cons_succ, ivec_set, brow_upd] at rx
    simp -dsimp only [go_sem, ↓reduceIte, reduceCtorEq, Nat.reduceEqDiff, Nat.reduceAdd, Nat.reduceLeDiff, Nat.reduceMul, Int.reduceBEq, Int.reduceBNe, Int.reduceLT, Int.reduceLE, Int.reduceGT, Int.reduceGE, ro.cell, rx.cell]
    simp -dsimp (disch := omega) only [wrap64]
    refine ⟨i + 1, by omega, by simp [Le, find], by omega, p0, by omega, ?_, ?_⟩
    · rw [ivec_congr fun p hp => ?_]; exact ro
      by_cases h : p = i
      · subst h; rw [upd_same, if_pos (by omega)]
      · rw [upd_ne _ _ h]; congr 1; simp; omega
    · rw [ivec_congr fun p hp => ?_]; exact rx
      by_cases h : p = i
      · subst h; rw [upd_same, if_pos (by omega)]
      · rw [upd_ne _ _ h]; congr 1; simp; omega
  obtain rfl : n = i := by omega
  replace ro : Rw h4 bo (ivec n fun p => ((id p : Nat) : Int)) := by rw [ivec_congr fun p hp => ?_]; exact ro; simp [hp]
  replace rx : Rw h4 bx (ivec n fun _ => -1) := by rw [ivec_congr fun p hp => ?_]; exact rx; simp [hp]
  have a3 := p0.size
  simp -dsimp only [go_sem, ↓reduceIte, reduceCtorEq, Nat.reduceEqDiff, Nat.reduceAdd, Nat.reduceLeDiff, Nat.reduceMul, Int.reduceBEq, Int.reduceBNe, Int.reduceLT, Int.reduceLE, Int.reduceGT, Int.reduceGE, ro.cell, rx.cell]
  refine Chk_intro (by omega) ?_
  intro bu h5 n5
  have n5_a := n5.at_
  have n5_z := n5.size
  replace p0 := p0.fresh (n5.fr (lo := 0) (hi := 0)) (by omega)
  replace ro := ro.fr (n5.fr (lo := 0) (hi := 0)) (by omega)
  replace rx := rx.fr (n5.fr (lo := 0) (hi := 0)) (by omega)
  have ru := n5.row
  rw [zeros_one, Int.toNat_natCast, brow_false] at ru
  simp -dsimp only [go_sem, ↓reduceIte, reduceCtorEq, Nat.reduceEqDiff, Nat.reduceAdd, Nat.reduceLeDiff, Nat.reduceMul, Int.reduceBEq, Int.reduceBNe, Int.reduceLT, Int.reduceLE, Int.reduceGT, Int.reduceGE, ro.cell, rx.cell, ru.cell]
  refine loop_intro (fun i : Nat => [(0, rv), (6, .int .i64 n), (7, .slice (some ⟨bo, 0, none⟩) n n), (8, .slice (some ⟨bx, 0, none⟩) n n), (10, .slice (some ⟨bu, 0, none⟩) n n), (41, .slice la l.length lc), (42, .int .i64 l.length), (43, .int .i64 i)])
    (fun i h' => i ≤ l.length ∧ Fr 0 0 h1 h' ∧ h5.size ≤ h'.size ∧ ∃ (U : Nat → Bool) (F : Nat → Nat) (S : Nat → Int), Rw h' bo (ivec n fun p => (F p : Int)) ∧ Rw h' bx (ivec n S) ∧ Rw h' bu (brow n U) ∧ GluI n U F S ∧ glueIn n (l.drop i) U F S = glueFS n l) (fun i => l.length - i) 0 ?_ ?_ ?_
  · simp [Le, find]
  · exact ⟨by omega, p0, by omega, _, _, _, ro, rx, ru, .start n, rfl⟩
  rintro i h6 ⟨hi, p0, y6, U, F, S, ro, rx, ru, hG, hgl⟩
  have p0_z := p0.size
  have ro_l := ro.lt
  have rx_l := rx.lt
  have ru_l := ru.lt
  simp -dsimp only [go_sem, ↓reduceIte, reduceCtorEq, Nat.reduceEqDiff, Nat.reduceAdd, Nat.reduceLeDiff, Nat.reduceMul, Int.reduceBEq, Int.reduceBNe, Int.reduceLT, Int.reduceLE, Int.reduceGT, Int.reduceGE, ro.cell, rx.cell, ru.cell]
  refine ⟨fun hlt => ?_, fun hge => ?_⟩
  · have hlt : i < l.length := by omega
    have hp : l[i]? = some l[i] := by simp [hlt]
    rw [List.drop_eq_getElem_cons hlt] at hgl
    generalize l[i] = p at hp hgl
    obtain ⟨a, b⟩ := p
    have bad : badP n U (a, b) → glueFS n l = none := fun hb => by rw [← hgl]; simp [glueIn, hb]
    have fin : glueFS n l = none → glueS n M l = .error 1 := fun hb => by simp [glueS, hb]
    simp -dsimp only [go_sem, ↓reduceIte, reduceCtorEq, Nat.reduceEqDiff, Nat.reduceAdd, Nat.reduceLeDiff, Nat.reduceMul, Int.reduceBEq, Int.reduceBNe, Int.reduceLT, Int.reduceLE, Int.reduceGT, Int.reduceGE, ro.cell, rx.cell, ru.cell]
    refine Chk_intro (by omega) ((hl.fr p0).pair hp fun b7 o7 c1 c2 => ?_)
    simp -dsimp only [go_sem, ↓reduceIte, reduceCtorEq, Nat.reduceEqDiff, Nat.reduceAdd, Nat.reduceLeDiff, Nat.reduceMul, Int.reduceBEq, Int.reduceBNe, Int.reduceLT, Int.reduceLE, Int.reduceGT, Int.reduceGE, c1, c2, ro.cell, rx.cell, ru.cell]
    intro b8 h8 n8
    have n8_a := n8.at_
    have n8_z := n8.size
    replace p0 := p0.fresh (n8.fr (lo := 0) (hi := 0)) (by omega)
    replace ro := ro.fr (n8.fr (lo := 0) (hi := 0)) (by omega)
    replace rx := rx.fr (n8.fr (lo := 0) (hi := 0)) (by omega)
    replace ru := ru.fr (n8.fr (lo := 0) (hi := 0)) (by omega)
    have r8 := n8.row
    simp -dsimp only [go_sem, ↓reduceIte, reduceCtorEq, Nat.reduceEqDiff, Nat.reduceAdd, Nat.reduceLeDiff, Nat.reduceMul, Int.reduceBEq, Int.reduceBNe, Int.reduceLT, Int.reduceLE, Int.reduceGT, Int.reduceGE, ro.cell, rx.cell, ru.cell, r8.cell]
    refine Chk_intro (r8.wr (by first | (simp; done) | (simp; omega))) fun h9 s9 => ?_
    have s9_z := s9.size
    replace p0 := p0.fresh s9.fr (by omega)
    replace ro := ro.fr s9.fr (by omega)
    replace rx := rx.fr s9.fr (by omega)
    replace ru := ru.fr s9.fr (by omega)
    replace r8 := s9.row r8
    try simp only [cl_int, cl_bool, cl_slice, cl_ptr, putAt_one, List.set_cons_zero, List.set_cons_succ, ivec_set, brow_upd] at r8
    simp -dsimp only [go_sem, ↓reduceIte, reduceCtorEq, Nat.reduceEqDiff, Nat.reduceAdd, Nat.reduceLeDiff, Nat.reduceMul, Int.reduceBEq, Int.reduceBNe, Int.reduceLT, Int.reduceLE, Int.reduceGT, Int.reduceGE] at r8
    by_cases g1 : a < 0
    · simp -dsimp only [go_sem, ↓reduceIte, reduceCtorEq, Nat.reduceEqDiff, Nat.reduceAdd, Nat.reduceLeDiff, Nat.reduceMul, Int.reduceBEq, Int.reduceBNe, Int.reduceLT, Int.reduceLE, Int.reduceGT, Int.reduceGE, g1, decide_true, ro.cell, rx.cell, ru.cell, r8.cell]
      exact ⟨p0, by rw [fin (bad (.inl g1))]; rfl⟩
    by_cases g2 : a ≥ (n : Int)
    · simp -dsimp only [go_sem, ↓reduceIte, reduceCtorEq, Nat.reduceEqDiff, Nat.reduceAdd, Nat.reduceLeDiff, Nat.reduceMul, Int.reduceBEq, Int.reduceBNe, Int.reduceLT, Int.reduceLE, Int.reduceGT, Int.reduceGE, g1, g2, decide_true, decide_false, ro.cell, rx.cell, ru.cell, r8.cell]
      exact ⟨p0, by rw [fin (bad (.inr (.inl g2)))]; rfl⟩
    by_cases g3 : b < 0
    · simp -dsimp only [go_sem, ↓reduceIte, reduceCtorEq, Nat.reduceEqDiff, Nat.reduceAdd, Nat.reduceLeDiff, Nat.reduceMul, Int.reduceBEq, Int.reduceBNe, Int.reduceLT, Int.reduceLE, Int.reduceGT, Int.reduceGE, g1, g2, g3, decide_true, decide_false, ro.cell, rx.cell, ru.cell, r8.cell]
      exact ⟨p0, by rw [fin (bad (.inr (.inr (.inl g3))))]; rfl⟩
    by_cases g4 : b ≥ (n : Int)
    · simp -dsimp only [go_sem, ↓reduceIte, reduceCtorEq, Nat.reduceEqDiff, Nat.reduceAdd, Nat.reduceLeDiff, Nat.reduceMul, Int.reduceBEq, Int.reduceBNe, Int.reduceLT, Int.reduceLE, Int.reduceGT, Int.reduceGE, g1, g2, g3, g4, decide_true, decide_false, ro.cell, rx.cell, ru.cell, r8.cell]
      exact ⟨p0, by rw [fin (bad (.inr (.inr (.inr (.inl g4)))))]; rfl⟩
    obtain ⟨x, rfl⟩ : ∃ x : Nat, a = x := ⟨a.toNat, by omega⟩
    obtain ⟨y, rfl⟩ : ∃ y : Nat, b = y := ⟨b.toNat, by omega⟩
    have hx : x < n := by omega
    have hy : y < n := by omega
    by_cases g5 : x = y
    · subst g5
      simp -dsimp only [go_sem, ↓reduceIte, reduceCtorEq, Nat.reduceEqDiff, Nat.reduceAdd, Nat.reduceLeDiff, Nat.reduceMul, Int.reduceBEq, Int.reduceBNe, Int.reduceLT, Int.reduceLE, Int.reduceGT, Int.reduceGE, g1, g2, g3, g4, decide_true, decide_false, beq_self_eq_true, ro.cell, rx.cell, ru.cell, r8.cell]
      exact ⟨p0, by rw [fin (bad (.inr (.inr (.inr (.inr (.inl rfl))))))]; rfl⟩
    have g5' : ((x : Int) == (y : Int)) = false := by simp; omega
    simp -dsimp only [go_sem, ↓reduceIte, reduceCtorEq, Nat.reduceEqDiff, Nat.reduceAdd, Nat.reduceLeDiff, Nat.reduceMul, Int.reduceBEq, Int.reduceBNe, Int.reduceLT, Int.reduceLE, Int.reduceGT, Int.reduceGE, g1, g2, g3, g4, g5', decide_true, decide_false, decide_eq_false, ro.cell, rx.cell, ru.cell, r8.cell]
    refine Chk_intro (by omega) ?_
    simp -dsimp only [go_sem, ↓reduceIte, reduceCtorEq, Nat.reduceEqDiff, Nat.reduceAdd, Nat.reduceLeDiff, Nat.reduceMul, Int.reduceBEq, Int.reduceBNe, Int.reduceLT, Int.reduceLE, Int.reduceGT, Int.reduceGE, brow_get hx, ro.cell, rx.cell, ru.cell, r8.cell]
    by_cases g6 : U x = true
    · simp -dsimp only [go_sem, ↓reduceIte, reduceCtorEq, Nat.reduceEqDiff, Nat.reduceAdd, Nat.reduceLeDiff, Nat.reduceMul, Int.reduceBEq, Int.reduceBNe, Int.reduceLT, Int.reduceLE, Int.reduceGT, Int.reduceGE, g6, g1, g2, g3, g4, g5', decide_true, decide_false, ro.cell, rx.cell, ru.cell, r8.cell]
      exact ⟨p0, by rw [fin (bad (.inr (.inr (.inr (.inr (.inr (.inl (by simpa using g6))))))))]; rfl⟩
    replace g6 : U x = false := Bool.eq_false_iff.2 g6
    simp -dsimp only [go_sem, ↓reduceIte, reduceCtorEq, Nat.reduceEqDiff, Nat.reduceAdd, Nat.reduceLeDiff, Nat.reduceMul, Int.reduceBEq, Int.reduceBNe, Int.reduceLT, Int.reduceLE, Int.reduceGT, Int.reduceGE, g6, g1, g2, g3, g4, g5', decide_true, decide_false, ro.cell, rx.cell, ru.cell, r8.cell]
    refine Chk_intro (by omega) ?_
    simp -dsimp only [go_sem, ↓reduceIte, reduceCtorEq, Nat.reduceEqDiff, Nat.reduceAdd, Nat.reduceLeDiff, Nat.reduceMul, Int.reduceBEq, Int.reduceBNe, Int.reduceLT, Int.reduceLE, Int.reduceGT, Int.reduceGE, brow_get hy, g6, ro.cell, rx.cell, ru.cell, r8.cell]
    by_cases g7 : U y = true
    · simp -dsimp only [go_sem, ↓reduceIte, reduceCtorEq, Nat.reduceEqDiff, Nat.reduceAdd, Nat.reduceLeDiff, Nat.reduceMul, Int.reduceBEq, Int.reduceBNe, Int.reduceLT, Int.reduceLE, Int.reduceGT, Int.reduceGE, g7, g1, g2, g3, g4, g5', decide_true, decide_false, ro.cell, rx.cell, ru.cell, r8.cell]
      exact ⟨p0, by rw [fin (bad (.inr (.inr (.inr (.inr (.inr (.inr (by simpa using g7))))))))]; rfl⟩
    replace g7 : U y = false := Bool.eq_false_iff.2 g7
    simp -dsimp only [go_sem, ↓reduceIte, reduceCtorEq, Nat.reduceEqDiff, Nat.reduceAdd, Nat.reduceLeDiff, Nat.reduceMul, Int.reduceBEq, Int.reduceBNe, Int.reduceLT, Int.reduceLE, Int.reduceGT, Int.reduceGE, g7, g6, ro.cell, rx.cell, ru.cell, r8.cell]
    have nb : ¬ badP n U ((x : Int), (y : Int)) := by
      simp [badP, g6, g7]; omega
    refine Chk_intro (by omega) ?_
    simp -dsimp only [go_sem, ↓reduceIte, reduceCtorEq, Nat.reduceEqDiff, Nat.reduceAdd, Nat.reduceLeDiff, Nat.reduceMul, Int.reduceBEq, Int.reduceBNe, Int.reduceLT, Int.reduceLE, Int.reduceGT, Int.reduceGE, ro.cell, rx.cell, ru.cell, r8.cell]
    refine Chk_intro (ru.wr (by first | (simp; done) | (simp; omega))) fun h10 s10 => ?_
    have s10_z := s10.size
    replace p0 := p0.fresh s10.fr (by omega)
    replace ro := ro.fr s10.fr (by omega)
    replace rx := rx.fr s10.fr (by omega)
    replace r8 := r8.fr s10.fr (by omega)
    replace ru := s10.row ru
    try simp only [cl_int, cl_bool, cl_slice, cl_ptr, putAt_one, List.set_cons_zero, List.set_cons_succ, ivec_set, brow_upd] at ru
    simp -dsimp only [go_sem, ↓reduceIte, reduceCtorEq, Nat.reduceEqDiff, Nat.reduceAdd, Nat.reduceLeDiff, Nat.reduceMul, Int.reduceBEq, Int.reduceBNe, Int.reduceLT, Int.reduceLE, Int.reduceGT, Int.reduceGE, ro.cell, rx.cell, ru.cell, r8.cell]
    refine Chk_intro (by omega) ?_
    simp -dsimp only [go_sem, ↓reduceIte, reduceCtorEq, Nat.reduceEqDiff, Nat.reduceAdd, Nat.reduceLeDiff, Nat.reduceMul, Int.reduceBEq, Int.reduceBNe, Int.reduceLT, Int.reduceLE, Int.reduceGT, Int.reduceGE, ro.cell, rx.cell, ru.cell, r8.cell]
    refine Chk_intro (ru.wr (by first | (simp; done) | (simp; omega))) fun h11 s11 => ?_
    have s11_z := s11.size
    replace p0 := p0.fresh s11.fr (by omega)
    replace ro := ro.fr s11.fr (by omega)
    replace rx := rx.fr s11.fr (by omega)
    replace r8 := r8.fr s11.fr (by omega)
    replace ru := s11.row ru
    try simp only [cl_int, cl_bool, cl_slice, cl_ptr, putAt_one, List.set_cons_zero, List.set_cons_succ, ivec_set, brow_upd] at ru
    simp -dsimp only [go_sem, ↓reduceIte, reduceCtorEq, Nat.reduceEqDiff, Nat.reduceAdd, Nat.reduceLeDiff, Nat.reduceMul, Int.reduceBEq, Int.reduceBNe, Int.reduceLT, Int.reduceLE, Int.reduceGT, Int.reduceGE, ro.cell, rx.cell, ru.cell, r8.cell]
    refine Chk_intro (by omega) ?_
    simp -dsimp only [go_sem, ↓reduceIte, reduceCtorEq, Nat.reduceEqDiff, Nat.reduceAdd, Nat.reduceLeDiff, Nat.reduceMul, Int.reduceBEq, Int.reduceBNe, Int.reduceLT, Int.reduceLE, Int.reduceGT, Int.reduceGE, ro.cell, rx.cell, ru.cell, r8.cell]
    refine Chk_intro (ro.wr (by first | (simp; done) | (simp; omega))) fun h12 s12 => ?_
    have s12_z := s12.size
    replace p0 := p0.fresh s12.fr (by omega)
    replace rx := rx.fr s12.fr (by omega)
    replace ru := ru.fr s12.fr (by omega)
    replace r8 := r8.fr s12.fr (by omega)
    replace ro := s12.row ro
    try simp only [cl_int, cl_bool, cl_slice, cl_ptr, putAt_one, List.set_cons_zero, List.set_cons_succ, ivec_set, brow_upd] at ro
    simp -dsimp only [go_sem, ↓reduceIte, reduceCtorEq, Nat.reduceEqDiff, Nat.reduceAdd, Nat.reduceLeDiff, Nat.reduceMul, Int.reduceBEq, Int.reduceBNe, Int.reduceLT, Int.reduceLE, Int.reduceGT, Int.reduceGE, ro.cell, rx.cell, ru.cell, r8.cell]
    refine Chk_intro (by omega) ?_
    simp -dsimp only [go_sem, ↓reduceIte, reduceCtorEq, Nat.reduceEqDiff, Nat.reduceAdd, Nat.reduceLeDiff, Nat.reduceMul, Int.reduceBEq, Int.reduceBNe, Int.reduceLT, Int.reduceLE, Int.reduceGT, Int.reduceGE, ro.cell, rx.cell, ru.cell, r8.cell]
    refine Chk_intro (rx.wr (by first | (simp; done) | (simp; omega))) fun h13 s13 => ?_
    have s13_z := s13.size
    replace p0 := p0.fresh s13.fr (by omega)
    replace ro := ro.fr s13.fr (by omega)
    replace ru := ru.fr s13.fr (by omega)
    replace r8 := r8.fr s13.fr (by omega)
    replace rx := s13.row rx
    try simp only [cl_int, cl_bool, cl_slice, cl_ptr, putAt_one, List.set_cons_zero, List.set_cons_succ, ivec_set, brow_upd] at rx
    simp -dsimp only [go_sem, ↓reduceIte, reduceCtorEq, Nat.reduceEqDiff, Nat.reduceAdd, Nat.reduceLeDiff, Nat.reduceMul, Int.reduceBEq, Int.reduceBNe, Int.reduceLT, Int.reduceLE, Int.reduceGT, Int.reduceGE, ro.cell, rx.cell, ru.cell, r8.cell]
    simp -dsimp (disch := omega) only [wrap64]
    simp only [glueIn, if_neg nb, Int.toNat_natCast] at hgl
    refine ⟨i + 1, by omega, by simp [Le, find], by omega, p0, by omega, upd (upd U x true) y true, upd F y x, upd S x (y : Int), ?_, rx, ru, hG.step hx hy g5 g6 g7, hgl⟩
    rw [ivec_congr fun p hp => ?_]; exact ro
    unfold upd; split <;> rfl
  have hil : i = l.length := by omega
  subst hil
  rw [List.drop_length] at hgl
  simp only [glueIn] at hgl
  have y1 := p0.size
  simp -dsimp only [go_sem, ↓reduceIte, reduceCtorEq, Nat.reduceEqDiff, Nat.reduceAdd, Nat.reduceLeDiff, Nat.reduceMul, Int.reduceBEq, Int.reduceBNe, Int.reduceLT, Int.reduceLE, Int.reduceGT, Int.reduceGE, ro.cell, rx.cell, ru.cell]
  refine call_of (rel_New n h6) ?_
  rintro v7 h7 ⟨f7, t7⟩
  have f7_z := f7.size
  replace p0 := p0.fresh f7 (by omega)
  replace ro := ro.fr f7 (by omega)
  replace rx := rx.fr f7 (by omega)
  replace ru := ru.fr f7 (by omega)
  have hcl : clampN n = n := by unfold clampN; omega
  rw [hcl] at t7
  simp -dsimp only [go_sem, ↓reduceIte, reduceCtorEq, Nat.reduceEqDiff, Nat.reduceAdd, Nat.reduceLeDiff, Nat.reduceMul, Int.reduceBEq, Int.reduceBNe, Int.reduceLT, Int.reduceLE, Int.reduceGT, Int.reduceGE, ro.cell, rx.cell, ru.cell]
  refine call_of (rel_Pairs (hr.fr p0 (by omega)) (ht.fr p0 (by omega))) ?_
  rintro v h8 ⟨f8, o8⟩
  have f8_z := f8.size
  replace p0 := p0.fresh f8 (by omega)
  replace ro := ro.fr f8 (by omega)
  replace rx := rx.fr f8 (by omega)
  replace ru := ru.fr f8 (by omega)
  replace t7 := t7.fr f8 (by omega)
  obtain ⟨pa, pc, rfl⟩ := o8.is
  have g3 : n * n ≤ 256 * 256 := Nat.mul_le_mul (by omega) (by omega)
  have g4 : (pairsOf n M).length ≤ n * n := length_pairsTo_le n M n
  simp -dsimp only [go_sem, ↓reduceIte, reduceCtorEq, Nat.reduceEqDiff, Nat.reduceAdd, Nat.reduceLeDiff, Nat.reduceMul, Int.reduceBEq, Int.reduceBNe, Int.reduceLT, Int.reduceLE, Int.reduceGT, Int.reduceGE, ro.cell, rx.cell, ru.cell]
  refine loop_intro (fun j : Nat => [(6, .int .i64 n), (7, .slice (some ⟨bo, 0, none⟩) n n), (8, .slice (some ⟨bx, 0, none⟩) n n), (13, v7), (112, .slice pa (pairsOf n M).length pc), (113, .int .i64 (pairsOf n M).length), (114, .int .i64 j)])
    (fun j h' => j ≤ (pairsOf n M).length ∧ Fr 0 0 h1 h' ∧ h8.size ≤ h'.size ∧ Rw h' bo (ivec n fun p => (F p : Int)) ∧ Rw h' bx (ivec n S) ∧ Holder 2 h' (.slice pa (pairsOf n M).length pc) (pairsOf n M).length (pairsV (pairsOf n M)) h7.size ∧
      ∃ N, ProgAt h' h6.size h7.size v7 n N ∧ ∀ x y, N x y = true ↔ ∃ p : Nat × Nat, ((p.1 : Int), (p.2 : Int)) ∈ (pairsOf n M).take j ∧ S p.1 ≠ (p.2 : Int) ∧ F p.1 = x ∧ F p.2 = y) (fun j => (pairsOf n M).length - j) 0 ?_ ?_ ?_
  · simp [Le, find]
  · exact ⟨by omega, p0, by omega, ro, rx, o8, _, t7, by simp⟩
  rintro j h9 ⟨hj, p0, y9, ro, rx, o8, N, t9, hN⟩
  have p0_z := p0.size
  have ro_l := ro.lt
  have rx_l := rx.lt
  have o8_l := o8.top
  simp -dsimp only [go_sem, ↓reduceIte, reduceCtorEq, Nat.reduceEqDiff, Nat.reduceAdd, Nat.reduceLeDiff, Nat.reduceMul, Int.reduceBEq, Int.reduceBNe, Int.reduceLT, Int.reduceLE, Int.reduceGT, Int.reduceGE, ro.cell, rx.cell]
  refine ⟨fun hlt => ?_, fun hge => ?_⟩
  · have hlt : j < (pairsOf n M).length := by omega
    have hq : (pairsOf n M)[j]? = some (pairsOf n M)[j] := by simp
    have htk : (pairsOf n M).take (j + 1) = (pairsOf n M).take j ++ [(pairsOf n M)[j]] := by rw [List.take_succ_eq_append_getElem hlt]
    have hmem : (pairsOf n M)[j] ∈ pairsOf n M := List.getElem_mem _
    generalize (pairsOf n M)[j] = q at hq htk hmem
    obtain ⟨a, b, ha, hb', hm, rfl⟩ := mem_pairsOf.1 hmem
    simp -dsimp only [go_sem, ↓reduceIte, reduceCtorEq, Nat.reduceEqDiff, Nat.reduceAdd, Nat.reduceLeDiff, Nat.reduceMul, Int.reduceBEq, Int.reduceBNe, Int.reduceLT, Int.reduceLE, Int.reduceGT, Int.reduceGE, ro.cell, rx.cell]
    refine Chk_intro (by omega) (o8.rd.pair hq fun b6 o6 c6 c7 => ?_)
    simp -dsimp only [go_sem, ↓reduceIte, reduceCtorEq, Nat.reduceEqDiff, Nat.reduceAdd, Nat.reduceLeDiff, Nat.reduceMul, Int.reduceBEq, Int.reduceBNe, Int.reduceLT, Int.reduceLE, Int.reduceGT, Int.reduceGE, c6, c7, ro.cell, rx.cell]
    intro b10 h10 n10
    have n10_a := n10.at_
    have n10_z := n10.size
    replace p0 := p0.fresh (n10.fr (lo := 0) (hi := 0)) (by omega)
    replace ro := ro.fr (n10.fr (lo := 0) (hi := 0)) (by omega)
    replace rx := rx.fr (n10.fr (lo := 0) (hi := 0)) (by omega)
    replace o8 := o8.fr (n10.fr (lo := 0) (hi := 0)) (by have := o8.at_; omega)
    replace t9 := t9.fr (n10.fr (lo := 0) (hi := 0)) (by omega)
    have r10 := n10.row
    simp -dsimp only [go_sem, ↓reduceIte, reduceCtorEq, Nat.reduceEqDiff, Nat.reduceAdd, Nat.reduceLeDiff, Nat.reduceMul, Int.reduceBEq, Int.reduceBNe, Int.reduceLT, Int.reduceLE, Int.reduceGT, Int.reduceGE, ro.cell, rx.cell, r10.cell]
    refine Chk_intro (r10.wr (by first | (simp; done) | (simp; omega))) fun h11 s11 => ?_
    have s11_z := s11.size
    replace p0 := p0.fresh s11.fr (by omega)
    replace ro := ro.fr s11.fr (by omega)
    replace rx := rx.fr s11.fr (by omega)
    replace o8 := o8.fr s11.fr (by have := o8.at_; omega)
    replace t9 := t9.fr s11.fr (by omega)
    replace r10 := s11.row r10
    try simp only [cl_int, cl_bool, cl_slice, cl_ptr, putAt_one, List.set_cons_zero, List.set_cons_succ, ivec_set, brow_upd] at r10
    simp -dsimp only [go_sem, ↓reduceIte, reduceCtorEq, Nat.reduceEqDiff, Nat.reduceAdd, Nat.reduceLeDiff, Nat.reduceMul, Int.reduceBEq, Int.reduceBNe, Int.reduceLT, Int.reduceLE, Int.reduceGT, Int.reduceGE] at r10
    simp -dsimp only [go_sem, ↓reduceIte, reduceCtorEq, Nat.reduceEqDiff, Nat.reduceAdd, Nat.reduceLeDiff, Nat.reduceMul, Int.reduceBEq, Int.reduceBNe, Int.reduceLT, Int.reduceLE, Int.reduceGT, Int.reduceGE, ro.cell, rx.cell, r10.cell]
    refine Chk_intro (by omega) ?_
    simp -dsimp only [go_sem, ↓reduceIte, reduceCtorEq, Nat.reduceEqDiff, Nat.reduceAdd, Nat.reduceLeDiff, Nat.reduceMul, Int.reduceBEq, Int.reduceBNe, Int.reduceLT, Int.reduceLE, Int.reduceGT, Int.reduceGE, ivec_get ha, ro.cell, rx.cell, r10.cell]
    refine ⟨fun hne => ?_, fun heq => ?_⟩
    · have hFa := hG.lt a ha
      have hFb := hG.lt b hb'
      simp -dsimp only [go_sem, ↓reduceIte, reduceCtorEq, Nat.reduceEqDiff, Nat.reduceAdd, Nat.reduceLeDiff, Nat.reduceMul, Int.reduceBEq, Int.reduceBNe, Int.reduceLT, Int.reduceLE, Int.reduceGT, Int.reduceGE, ro.cell, rx.cell, r10.cell]
      refine Chk_intro (by omega) ?_
      simp -dsimp only [go_sem, ↓reduceIte, reduceCtorEq, Nat.reduceEqDiff, Nat.reduceAdd, Nat.reduceLeDiff, Nat.reduceMul, Int.reduceBEq, Int.reduceBNe, Int.reduceLT, Int.reduceLE, Int.reduceGT, Int.reduceGE, ivec_get ha, ro.cell, rx.cell, r10.cell]
      refine Chk_intro (by omega) ?_
      simp -dsimp only [go_sem, ↓reduceIte, reduceCtorEq, Nat.reduceEqDiff, Nat.reduceAdd, Nat.reduceLeDiff, Nat.reduceMul, Int.reduceBEq, Int.reduceBNe, Int.reduceLT, Int.reduceLE, Int.reduceGT, Int.reduceGE, ivec_get hb', ro.cell, rx.cell, r10.cell]
      refine call_of (rel_Put t9 (F a) (F b) true) ?_
      rintro v12 h12 ⟨f12, z12, rfl, t12⟩
      have f12_z := f12.size
      replace p0 := p0.fresh f12 (by omega)
      replace ro := ro.fr f12 (by omega)
      replace rx := rx.fr f12 (by omega)
      replace o8 := o8.fr f12 (by have := o8.at_; omega)
      replace r10 := r10.fr f12 (by omega)
      simp -dsimp only [go_sem, ↓reduceIte, reduceCtorEq, Nat.reduceEqDiff, Nat.reduceAdd, Nat.reduceLeDiff, Nat.reduceMul, Int.reduceBEq, Int.reduceBNe, Int.reduceLT, Int.reduceLE, Int.reduceGT, Int.reduceGE, ro.cell, rx.cell, r10.cell]
      simp -dsimp (disch := omega) only [wrap64]
      refine ⟨j + 1, by omega, by simp [Le, find], by omega, p0, by omega, ro, rx, o8, _, t12, fun x y => ?_⟩
      have e : (inR n (F a) && inR n (F b)) = true := by simp [inR]; omega
      simp only [putM, e, Bool.true_and]
      rw [htk]
      by_cases hxy : x = F a ∧ y = F b
      · obtain ⟨rfl, rfl⟩ := hxy
        simp only [beq_self_eq_true, Bool.and_self, if_true, true_iff]
        exact ⟨(a, b), by simp, by simpa using hne, rfl, rfl⟩
      · have : ((F a : Int) == (x : Int) && (F b : Int) == (y : Int)) = false := by
          rw [Bool.eq_false_iff]; intro h; apply hxy; simp at h; omega
        rw [this]
        simp only [Bool.false_eq_true, if_false]
        rw [hN]
        refine exists_congr fun p => ?_
        simp only [List.mem_append, List.mem_singleton, Prod.mk.injEq]
        constructor
        · rintro ⟨h1, h2⟩; exact ⟨.inl h1, h2⟩
        · rintro ⟨h1 | ⟨h1, h1'⟩, h2, h3, h4⟩
          · exact ⟨h1, h2, h3, h4⟩
          · have e1 : p.1 = a := by omega
            have e2 : p.2 = b := by omega
            rw [e1] at h3; rw [e2] at h4
            exact absurd ⟨h3.symm, h4.symm⟩ hxy
    · simp -dsimp only [go_sem, ↓reduceIte, reduceCtorEq, Nat.reduceEqDiff, Nat.reduceAdd, Nat.reduceLeDiff, Nat.reduceMul, Int.reduceBEq, Int.reduceBNe, Int.reduceLT, Int.reduceLE, Int.reduceGT, Int.reduceGE, ro.cell, rx.cell, r10.cell]
      simp -dsimp (disch := omega) only [wrap64]
      refine ⟨j + 1, by omega, by simp [Le, find], by omega, p0, by omega, ro, rx, o8, N, t9, fun x y => ?_⟩
      rw [htk, hN]
      refine exists_congr fun p => ?_
      simp only [List.mem_append, List.mem_singleton, Prod.mk.injEq]
      constructor
      · rintro ⟨h1, h2⟩; exact ⟨.inl h1, h2⟩
      · rintro ⟨h1 | ⟨h1, h1'⟩, h2, h3, h4⟩
        · exact ⟨h1, h2, h3, h4⟩
        · have e1 : p.1 = a := by omega
          have e2 : p.2 = b := by omega
          rw [e1, e2] at h2
          exact absurd h2 (by simpa using heq)
  have hjl : j = (pairsOf n M).length := by omega
  subst hjl
  rw [List.take_length] at hN
  have t9 := t9.congr (M' := glueM n M F S) fun x y hx hy => Bool.eq_iff_iff.2 (by
    rw [hN, glueM_true]
    constructor
    · rintro ⟨⟨p, q⟩, h1, h2, h3, h4⟩
      obtain ⟨a, b, ha, hb, hm, he⟩ := mem_pairsOf.1 h1
      simp only [Prod.mk.injEq] at he
      have e1 : p = a := by omega
      have e2 : q = b := by omega
      subst e1 e2
      exact ⟨p, ha, q, hb, hm, h2, h3, h4⟩
    · rintro ⟨p, hp, q, hq, hm, h2, h3, h4⟩
      exact ⟨(p, q), mem_pairsOf.2 ⟨p, q, hp, hq, hm, rfl⟩, h2, h3, h4⟩)
  have hS : glueS n M l = orCyc (glueGo n F S (glueM n M F S) n []) := by simp only [glueS, ← hgl]
  clear hN
  generalize glueM n M F S = G at hS t9
  simp -dsimp only [go_sem, ↓reduceIte, reduceCtorEq, Nat.reduceEqDiff, Nat.reduceAdd, Nat.reduceLeDiff, Nat.reduceMul, Int.reduceBEq, Int.reduceBNe, Int.reduceLT, Int.reduceLE, Int.reduceGT, Int.reduceGE, ro.cell, rx.cell]
  refine call_of (order_chooser t9 (ht.fr p0 (by omega))) ?_
  rintro v h10 ⟨f10, c, rfl, t10⟩
  have f10_z := f10.size
  replace p0 := p0.fresh f10 (by omega)
  replace ro := ro.fr f10 (by omega)
  replace rx := rx.fr f10 (by omega)
  replace o8 := o8.fr f10 (by have := o8.at_; omega)
  replace t9 := t9.fr f10 (by omega)
  have y10 := p0.size
  simp -dsimp only [go_sem, ↓reduceIte, reduceCtorEq, Nat.reduceEqDiff, Nat.reduceAdd, Nat.reduceLeDiff, Nat.reduceMul, Int.reduceBEq, Int.reduceBNe, Int.reduceLT, Int.reduceLE, Int.reduceGT, Int.reduceGE, ro.cell, rx.cell]
  refine loop_intro (fun s : Value × Nat => [(6, .int .i64 n), (7, .slice (some ⟨bo, 0, none⟩) n n), (8, .slice (some ⟨bx, 0, none⟩) n n), (16, c.next), (17, c.place), (18, s.1)])
    (fun s h' => Fr 0 0 h1 h' ∧ h10.size ≤ h'.size ∧ Rw h' bo (ivec n fun p => (F p : Int)) ∧ Rw h' bx (ivec n S) ∧ ∃ m : List Nat, m.length = s.2 ∧ m.length ≤ n + 1 ∧ Chs h' h9.size h10.size c n G m.contains ∧ Holder 1 h' s.1 m.length (natsV m) h10.size ∧ (∀ q, q < n → F q ≠ q → m.contains q = m.contains (F q)) ∧ ∃ k, n ≤ m.length + k ∧ glueGo n F S G k m = glueGo n F S G n []) (fun s => n - s.2) (.slice none 0 0, 0) ?_ ?_ ?_
  · simp [Le, find]
  · exact ⟨p0, by omega, ro, rx, [], rfl, by simp, t10, .none _ _ _, by simp, n, by simp, rfl⟩
  rintro ⟨lv, i⟩ h12 ⟨p0, y12, ro, rx, m, hmi, hmn, t12, ol, hpt, k, hk, hgo⟩
  dsimp only at hmi ol ⊢
  subst hmi
  have p0_z := p0.size
  have ro_l := ro.lt
  have rx_l := rx.lt
  have ol_l := ol.top
  obtain ⟨va, vc, rfl⟩ := ol.is
  simp -dsimp only [go_sem, ↓reduceIte, reduceCtorEq, Nat.reduceEqDiff, Nat.reduceAdd, Nat.reduceLeDiff, Nat.reduceMul, Int.reduceBEq, Int.reduceBNe, Int.reduceLT, Int.reduceLE, Int.reduceGT, Int.reduceGE, ro.cell, rx.cell]
  refine ⟨fun hlt => ?_, fun hge => ?_⟩
  · have hlt : m.length < n := by omega
    simp -dsimp only [go_sem, ↓reduceIte, reduceCtorEq, Nat.reduceEqDiff, Nat.reduceAdd, Nat.reduceLeDiff, Nat.reduceMul, Int.reduceBEq, Int.reduceBNe, Int.reduceLT, Int.reduceLE, Int.reduceGT, Int.reduceGE, ChB.next, ro.cell, rx.cell]
    refine call_of (chooser_next (q := 0) t12 (by omega)) ?_
    rintro v h13 ⟨rfl, rfl⟩
    simp -dsimp only [go_sem, ↓reduceIte, reduceCtorEq, Nat.reduceEqDiff, Nat.reduceAdd, Nat.reduceLeDiff, Nat.reduceMul, Int.reduceBEq, Int.reduceBNe, Int.reduceLT, Int.reduceLE, Int.reduceGT, Int.reduceGE, ro.cell, rx.cell]
    refine loop_intro (fun q : Nat => [(6, .int .i64 n), (7, .slice (some ⟨bo, 0, none⟩) n n), (8, .slice (some ⟨bx, 0, none⟩) n n), (16, c.next), (17, c.place), (18, .slice va m.length vc), (19, .int .i64 (nx (lf (freeB n G m.contains) n q)))])
      (fun q h' => q ≤ n ∧ h' = h13 ∧ lf (fun p => F p == p && freeB n G m.contains p) n 0 = lf (fun p => F p == p && freeB n G m.contains p) n q) (fun q => n - q) 0 ?_ ?_ ?_
    · simp [Le, find, ChB.next, ChB.place]
    · exact ⟨by omega, rfl, rfl⟩
    rintro q _ ⟨hq, rfl, hlf⟩
    obtain ⟨hl0, hl1⟩ := lf_and (freeB n G m.contains) (fun p => F p == p) n (n - q) q rfl
    -- what is found
    have step : ∀ x, x < n → lf (fun p => F p == p && freeB n G m.contains p) n 0 = some x → freeB n G m.contains x = true → F x = x → ∃ k', k = k' + 1 ∧ glueGo n F S G k' (if S x ≥ 0 then m ++ [x] ++ [(S x).toNat] else m ++ [x]) = glueGo n F S G n [] := fun x hxn hx hfx hFx => by
      obtain ⟨k, rfl⟩ : ∃ k', k = k' + 1 := ⟨k - 1, by omega⟩
      simp only [glueGo, if_neg (show ¬ n ≤ m.length by omega), hx] at hgo
      exact ⟨k, rfl, hgo⟩
    cases hx : lf (freeB n G m.contains) n q with
    | none =>
      have hx' := hl0 hx
      rw [← hlf] at hx'
      simp -dsimp only [go_sem, ↓reduceIte, reduceCtorEq, Nat.reduceEqDiff, Nat.reduceAdd, Nat.reduceLeDiff, Nat.reduceMul, Int.reduceBEq, Int.reduceBNe, Int.reduceLT, Int.reduceLE, Int.reduceGT, Int.reduceGE, hx, ro.cell, rx.cell]
      obtain ⟨k, rfl⟩ : ∃ k', k = k' + 1 := ⟨k - 1, by omega⟩
      simp only [glueGo, if_neg (show ¬ n ≤ m.length by omega), hx'] at hgo
      exact ⟨p0, by rw [hS, ← hgo]; rfl⟩
    | some x =>
      obtain ⟨hqx, hxn, hfx⟩ := lf_some hx
      obtain ⟨hl2, hl3⟩ := hl1 x hx
      simp -dsimp only [go_sem, ↓reduceIte, reduceCtorEq, Nat.reduceEqDiff, Nat.reduceAdd, Nat.reduceLeDiff, Nat.reduceMul, Int.reduceBEq, Int.reduceBNe, Int.reduceLT, Int.reduceLE, Int.reduceGT, Int.reduceGE, hx, ro.cell, rx.cell]
      refine Chk_intro (by omega) ?_
      simp -dsimp only [go_sem, ↓reduceIte, reduceCtorEq, Nat.reduceEqDiff, Nat.reduceAdd, Nat.reduceLeDiff, Nat.reduceMul, Int.reduceBEq, Int.reduceBNe, Int.reduceLT, Int.reduceLE, Int.reduceGT, Int.reduceGE, ivec_get hxn, ro.cell, rx.cell]
      refine ⟨fun hne => ?_, fun heq => ?_⟩
      · have hF : (F x == x) = false := by simp at hne ⊢; omega
        simp -dsimp only [go_sem, ↓reduceIte, reduceCtorEq, Nat.reduceEqDiff, Nat.reduceAdd, Nat.reduceLeDiff, Nat.reduceMul, Int.reduceBEq, Int.reduceBNe, Int.reduceLT, Int.reduceLE, Int.reduceGT, Int.reduceGE, ro.cell, rx.cell]
        rw [wrap64 (by omega) (by omega)]
        simp -dsimp only [go_sem, ↓reduceIte, reduceCtorEq, Nat.reduceEqDiff, Nat.reduceAdd, Nat.reduceLeDiff, Nat.reduceMul, Int.reduceBEq, Int.reduceBNe, Int.reduceLT, Int.reduceLE, Int.reduceGT, Int.reduceGE, ChB.next, ro.cell, rx.cell]
        refine call_of (chooser_next (q := x + 1) t12 (by omega)) ?_
        rintro v h14 ⟨rfl, rfl⟩
        simp -dsimp only [go_sem, ↓reduceIte, reduceCtorEq, Nat.reduceEqDiff, Nat.reduceAdd, Nat.reduceLeDiff, Nat.reduceMul, Int.reduceBEq, Int.reduceBNe, Int.reduceLT, Int.reduceLE, Int.reduceGT, Int.reduceGE, ro.cell, rx.cell]
        exact ⟨x + 1, by omega, by simp [Le, find, ChB.next, ChB.place], by omega, hlf.trans (hl3 hF)⟩
      · have hFx : F x = x := by simp at heq; omega
        obtain ⟨k', hk', hgo'⟩ := step x hxn (hlf.trans (hl2 (by simp [hFx]))) hfx hFx
        have hDx : m.contains x = false := (freeB_true.1 hfx).1
        simp -dsimp only [go_sem, ↓reduceIte, reduceCtorEq, Nat.reduceEqDiff, Nat.reduceAdd, Nat.reduceLeDiff, Nat.reduceMul, Int.reduceBEq, Int.reduceBNe, Int.reduceLT, Int.reduceLE, Int.reduceGT, Int.reduceGE, ChB.place, ro.cell, rx.cell]
        refine call_of (chooser_place t12 hxn true (by simpa using hDx)) ?_
        rintro v h14 ⟨f14, z14, t14⟩
        have f14_z := f14.size
        replace p0 := p0.fresh f14 (by omega)
        replace ro := ro.fr f14 (by omega)
        replace rx := rx.fr f14 (by omega)
        replace ol := ol.fr f14 (by have := ol.at_; omega)
        simp -dsimp only [go_sem, ↓reduceIte, reduceCtorEq, Nat.reduceEqDiff, Nat.reduceAdd, Nat.reduceLeDiff, Nat.reduceMul, Int.reduceBEq, Int.reduceBNe, Int.reduceLT, Int.reduceLE, Int.reduceGT, Int.reduceGE, ro.cell, rx.cell]
        intro b15 h15 n15
        have n15_a := n15.at_
        have n15_z := n15.size
        replace p0 := p0.fresh (n15.fr (lo := 0) (hi := 0)) (by omega)
        replace ro := ro.fr (n15.fr (lo := 0) (hi := 0)) (by omega)
        replace rx := rx.fr (n15.fr (lo := 0) (hi := 0)) (by omega)
        replace ol := ol.fr (n15.fr (lo := 0) (hi := 0)) (by have := ol.at_; omega)
        replace t14 := t14.fr (n15.fr (lo := 0) (hi := 0)) (by omega)
        simp -dsimp only [go_sem, ↓reduceIte, reduceCtorEq, Nat.reduceEqDiff, Nat.reduceAdd, Nat.reduceLeDiff, Nat.reduceMul, Int.reduceBEq, Int.reduceBNe, Int.reduceLT, Int.reduceLE, Int.reduceGT, Int.reduceGE, n15.row.cell, ro.cell, rx.cell]
        refine ol.append (by omega) rfl (by omega) (by simp) (by omega) fun v16 h16 o_new f16 e_app => ?_
        have f16_z := f16.size
        have o_at := ol.at_
        replace p0 := p0.fresh f16 (by omega)
        replace ro := ro.fr f16 (by omega)
        replace rx := rx.fr f16 (by omega)
        replace t14 := t14.fr f16 (by omega)
        clear o_at e_app
        replace ol := o_new
        have ol_l := ol.top
        simp -dsimp only [go_sem, ↓reduceIte, reduceCtorEq, Nat.reduceEqDiff, Nat.reduceAdd, Nat.reduceLeDiff, Nat.reduceMul, Int.reduceBEq, Int.reduceBNe, Int.reduceLT, Int.reduceLE, Int.reduceGT, Int.reduceGE, ro.cell, rx.cell]
        refine Chk_intro (by omega) ?_
        simp -dsimp only [go_sem, ↓reduceIte, reduceCtorEq, Nat.reduceEqDiff, Nat.reduceAdd, Nat.reduceLeDiff, Nat.reduceMul, Int.reduceBEq, Int.reduceBNe, Int.reduceLT, Int.reduceLE, Int.reduceGT, Int.reduceGE, ivec_get hxn, ro.cell, rx.cell]
        have e1 : (fun k => if k = x then true else m.contains k) = (m ++ [x]).contains := by
          funext j; by_cases hj : j = x <;> simp [hj]
        rw [e1] at t14
        have ol2 : Holder 1 h16 v16 (m ++ [x]).length (natsV (m ++ [x])) h10.size := by simpa [natsV] using ol
        have ol2_l := ol2.top
        have hml : (m ++ [x]).length = m.length + 1 := by simp
        have hpt' := hG.keep hxn hpt hFx
        rcases hG.snd x hxn with hs | ⟨y, hy, hs, hyx, hyF, hxF⟩
        · rw [hs, if_neg (by decide)] at hgo'
          rw [hs, if_neg (by decide)] at hpt'
          simp -dsimp only [go_sem, ↓reduceIte, reduceCtorEq, Nat.reduceEqDiff, Nat.reduceAdd, Nat.reduceLeDiff, Nat.reduceMul, Int.reduceBEq, Int.reduceBNe, Int.reduceLT, Int.reduceLE, Int.reduceGT, Int.reduceGE, hs, ro.cell, rx.cell]
          exact ⟨(v16, (m ++ [x]).length), by dsimp only; omega, by simp [Le, find, ChB.next, ChB.place], p0, by omega, ro, rx, m ++ [x], rfl, by omega, t14, ol2, hpt', k', by omega, hgo'⟩
        · rw [hs, if_pos (by omega), Int.toNat_natCast] at hgo'
          rw [hs, if_pos (by omega), Int.toNat_natCast] at hpt'
          obtain ⟨wa, wc, rfl⟩ := ol2.is
          have hDy : (m ++ [x]).contains y = false := by
            have := hpt y hy (by omega)
            rw [hyF, hDx] at this
            simp only [List.contains_append, this, List.contains_cons, List.contains_nil, Bool.or_false, Bool.false_or, beq_eq_false_iff_ne, ne_eq]
            exact hyx
          simp -dsimp only [go_sem, ↓reduceIte, reduceCtorEq, Nat.reduceEqDiff, Nat.reduceAdd, Nat.reduceLeDiff, Nat.reduceMul, Int.reduceBEq, Int.reduceBNe, Int.reduceLT, Int.reduceLE, Int.reduceGT, Int.reduceGE, hs, ChB.place, ro.cell, rx.cell]
          refine call_of (chooser_place t14 hy true (by simpa using hDy)) ?_
          rintro v h17 ⟨f17, z17, t17⟩
          have f17_z := f17.size
          replace p0 := p0.fresh f17 (by omega)
          replace ro := ro.fr f17 (by omega)
          replace rx := rx.fr f17 (by omega)
          replace ol2 := ol2.fr f17 (by have := ol2.at_; omega)
          simp -dsimp only [go_sem, ↓reduceIte, reduceCtorEq, Nat.reduceEqDiff, Nat.reduceAdd, Nat.reduceLeDiff, Nat.reduceMul, Int.reduceBEq, Int.reduceBNe, Int.reduceLT, Int.reduceLE, Int.reduceGT, Int.reduceGE, ro.cell, rx.cell]
          intro b18 h18 n18
          have n18_a := n18.at_
          have n18_z := n18.size
          replace p0 := p0.fresh (n18.fr (lo := 0) (hi := 0)) (by omega)
          replace ro := ro.fr (n18.fr (lo := 0) (hi := 0)) (by omega)
          replace rx := rx.fr (n18.fr (lo := 0) (hi := 0)) (by omega)
          replace ol2 := ol2.fr (n18.fr (lo := 0) (hi := 0)) (by have := ol2.at_; omega)
          replace t17 := t17.fr (n18.fr (lo := 0) (hi := 0)) (by omega)
          simp -dsimp only [go_sem, ↓reduceIte, reduceCtorEq, Nat.reduceEqDiff, Nat.reduceAdd, Nat.reduceLeDiff, Nat.reduceMul, Int.reduceBEq, Int.reduceBNe, Int.reduceLT, Int.reduceLE, Int.reduceGT, Int.reduceGE, n18.row.cell, ro.cell, rx.cell]
          refine ol2.append (by omega) rfl (by omega) (by simp) (by omega) fun v19 h19 o_new f19 e_app => ?_
          have f19_z := f19.size
          have o_at := ol2.at_
          replace p0 := p0.fresh f19 (by omega)
          replace ro := ro.fr f19 (by omega)
          replace rx := rx.fr f19 (by omega)
          replace t17 := t17.fr f19 (by omega)
          clear o_at e_app
          replace ol2 := o_new
          have ol2_l := ol2.top
          simp -dsimp only [go_sem, ↓reduceIte, reduceCtorEq, Nat.reduceEqDiff, Nat.reduceAdd, Nat.reduceLeDiff, Nat.reduceMul, Int.reduceBEq, Int.reduceBNe, Int.reduceLT, Int.reduceLE, Int.reduceGT, Int.reduceGE, ro.cell, rx.cell]
          have e2 : (fun k => if k = y then true else (m ++ [x]).contains k) = (m ++ [x] ++ [y]).contains := by
            funext j; by_cases hj : j = y <;> simp [hj]
          rw [e2] at t17
          have hml2 : (m ++ [x] ++ [y]).length = m.length + 2 := by simp
          refine ⟨(v19, (m ++ [x] ++ [y]).length), by dsimp only; omega, by simp [Le, find, ChB.next, ChB.place], p0, by omega, ro, rx, m ++ [x] ++ [y], rfl, by omega, t17, ?_, hpt', k', by omega, hgo'⟩
          rw [natsV_append, List.length_append]; first | exact ol2 | (rw [hs] at ol2; exact ol2)
  · simp -dsimp only [go_sem, ↓reduceIte, reduceCtorEq, Nat.reduceEqDiff, Nat.reduceAdd, Nat.reduceLeDiff, Nat.reduceMul, Int.reduceBEq, Int.reduceBNe, Int.reduceLT, Int.reduceLE, Int.reduceGT, Int.reduceGE, ro.cell, rx.cell]
    refine ⟨p0, ?_⟩
    rw [hS, ← hgo, glueGo_end (by omega)]
    exact ⟨_, rfl, ol.lower (by omega)⟩
end Go.Proofs.Tst
/-
  Lists compared, cell by cell.
-/
namespace Go.Proofs.Tst
open Go Go.Vc
theorem c_law2_ints {l m : List Int} {a b : Value} {h : Heap} (hl : Rd 1 h a l.length (intsV l)) (hm : Rd 1 h b m.length (intsV m)) (hb : l.length ≤ 4611686018427387904) :
    Con Tryd.prog 18 #[a, b] h fun v h' => h' = h ∧ v = .bool (decide (l = m)) := by
  refine con_law2_ints ?_
  obtain ⟨aa, ac, rfl⟩ := hl.is
  obtain ⟨ba, bc, rfl⟩ := hm.is
  simp -dsimp only [go_sem, ↓reduceIte, reduceCtorEq, Nat.reduceEqDiff, Nat.reduceAdd, Nat.reduceLeDiff, Nat.reduceMul, Int.reduceBEq, Int.reduceBNe, Int.reduceLT, Int.reduceLE, Int.reduceGT, Int.reduceGE]
  refine ⟨fun hne => ?_, fun heq => ?_⟩
  · simp -dsimp only [go_sem, ↓reduceIte, reduceCtorEq, Nat.reduceEqDiff, Nat.reduceAdd, Nat.reduceLeDiff, Nat.reduceMul, Int.reduceBEq, Int.reduceBNe, Int.reduceLT, Int.reduceLE, Int.reduceGT, Int.reduceGE]
    have : l ≠ m := by rintro rfl; simp at hne
    simp [this]
  have heq : l.length = m.length := by have : (l.length : Int) = m.length := by simpa using heq
                                       omega
  simp -dsimp only [go_sem, ↓reduceIte, reduceCtorEq, Nat.reduceEqDiff, Nat.reduceAdd, Nat.reduceLeDiff, Nat.reduceMul, Int.reduceBEq, Int.reduceBNe, Int.reduceLT, Int.reduceLE, Int.reduceGT, Int.reduceGE]
  refine loop_intro (fun i : Nat => [(0, .slice aa l.length ac), (1, .slice ba m.length bc), (5, .int .i64 i)])
    (fun i h' => i ≤ l.length ∧ h' = h ∧ ∀ j, j < i → l[j]? = m[j]?) (fun i => l.length - i) 0 ?_ ?_ ?_
  · simp [Le, find]
  · exact ⟨by omega, rfl, fun j hj => by omega⟩
  rintro i _ ⟨hi, rfl, hinv⟩
  simp -dsimp only [go_sem, ↓reduceIte, reduceCtorEq, Nat.reduceEqDiff, Nat.reduceAdd, Nat.reduceLeDiff, Nat.reduceMul, Int.reduceBEq, Int.reduceBNe, Int.reduceLT, Int.reduceLE, Int.reduceGT, Int.reduceGE]
  refine ⟨fun hlt => ?_, fun hge => ?_⟩
  · have hlt : i < l.length := by omega
    simp -dsimp only [go_sem, ↓reduceIte, reduceCtorEq, Nat.reduceEqDiff, Nat.reduceAdd, Nat.reduceLeDiff, Nat.reduceMul, Int.reduceBEq, Int.reduceBNe, Int.reduceLT, Int.reduceLE, Int.reduceGT, Int.reduceGE]
    refine Chk_intro (by omega) (hl.idx (by omega) fun b1 o1 c1 => ?_)
    simp -dsimp only [go_sem, ↓reduceIte, reduceCtorEq, Nat.reduceEqDiff, Nat.reduceAdd, Nat.reduceLeDiff, Nat.reduceMul, Int.reduceBEq, Int.reduceBNe, Int.reduceLT, Int.reduceLE, Int.reduceGT, Int.reduceGE, c1 i _ (intsV_get (List.getElem?_eq_getElem hlt))]
    refine Chk_intro (by omega) (hm.idx (by omega) fun b2 o2 c2 => ?_)
    simp -dsimp only [go_sem, ↓reduceIte, reduceCtorEq, Nat.reduceEqDiff, Nat.reduceAdd, Nat.reduceLeDiff, Nat.reduceMul, Int.reduceBEq, Int.reduceBNe, Int.reduceLT, Int.reduceLE, Int.reduceGT, Int.reduceGE, c2 i _ (intsV_get (List.getElem?_eq_getElem (show i < m.length by omega)))]
    refine ⟨fun hne => ?_, fun he => ?_⟩
    · simp -dsimp only [go_sem, ↓reduceIte, reduceCtorEq, Nat.reduceEqDiff, Nat.reduceAdd, Nat.reduceLeDiff, Nat.reduceMul, Int.reduceBEq, Int.reduceBNe, Int.reduceLT, Int.reduceLE, Int.reduceGT, Int.reduceGE]
      have : l ≠ m := by rintro rfl; simp at hne
      simp [this]
    · simp -dsimp only [go_sem, ↓reduceIte, reduceCtorEq, Nat.reduceEqDiff, Nat.reduceAdd, Nat.reduceLeDiff, Nat.reduceMul, Int.reduceBEq, Int.reduceBNe, Int.reduceLT, Int.reduceLE, Int.reduceGT, Int.reduceGE]
      simp -dsimp (disch := omega) only [wrap64]
      refine ⟨i + 1, by omega, by simp [Le, find], by omega, fun j hj => ?_⟩
      by_cases hji : j = i
      · subst hji
        rw [List.getElem?_eq_getElem hlt, List.getElem?_eq_getElem (show j < m.length by omega)]
        simpa using he
      · exact hinv j (by omega)
  · simp -dsimp only [go_sem, ↓reduceIte, reduceCtorEq, Nat.reduceEqDiff, Nat.reduceAdd, Nat.reduceLeDiff, Nat.reduceMul, Int.reduceBEq, Int.reduceBNe, Int.reduceLT, Int.reduceLE, Int.reduceGT, Int.reduceGE]
    have : l = m := List.ext_getElem? fun j => by
      by_cases hj : j < i
      · exact hinv j hj
      · rw [List.getElem?_eq_none (by omega), List.getElem?_eq_none (by omega)]
    simp [this]
theorem c_law2_same {l m : List (Int × Int)} {a b : Value} {h : Heap} (hl : Rd 2 h a l.length (pairsV l)) (hm : Rd 2 h b m.length (pairsV m)) (hb : l.length ≤ 4611686018427387904) :
    Con Tryd.prog 26 #[a, b] h fun v h' => h' = h ∧ v = .bool (decide (l = m)) := by
  refine con_law2_same ?_
  obtain ⟨aa, ac, rfl⟩ := hl.is
  obtain ⟨ba, bc, rfl⟩ := hm.is
  simp -dsimp only [go_sem, ↓reduceIte, reduceCtorEq, Nat.reduceEqDiff, Nat.reduceAdd, Nat.reduceLeDiff, Nat.reduceMul, Int.reduceBEq, Int.reduceBNe, Int.reduceLT, Int.reduceLE, Int.reduceGT, Int.reduceGE]
  refine ⟨fun hne => ?_, fun heq => ?_⟩
  · simp -dsimp only [go_sem, ↓reduceIte, reduceCtorEq, Nat.reduceEqDiff, Nat.reduceAdd, Nat.reduceLeDiff, Nat.reduceMul, Int.reduceBEq, Int.reduceBNe, Int.reduceLT, Int.reduceLE, Int.reduceGT, Int.reduceGE]
    have : l ≠ m := by rintro rfl; simp at hne
    simp [this]
  have heq : l.length = m.length := by have : (l.length : Int) = m.length := by simpa using heq
                                       omega
  simp -dsimp only [go_sem, ↓reduceIte, reduceCtorEq, Nat.reduceEqDiff, Nat.reduceAdd, Nat.reduceLeDiff, Nat.reduceMul, Int.reduceBEq, Int.reduceBNe, Int.reduceLT, Int.reduceLE, Int.reduceGT, Int.reduceGE]
  refine loop_intro (fun i : Nat => [(0, .slice aa l.length ac), (1, .slice ba m.length bc), (5, .int .i64 i)])
    (fun i h' => i ≤ l.length ∧ h' = h ∧ ∀ j, j < i → l[j]? = m[j]?) (fun i => l.length - i) 0 ?_ ?_ ?_
  · simp [Le, find]
  · exact ⟨by omega, rfl, fun j hj => by omega⟩
  rintro i _ ⟨hi, rfl, hinv⟩
  simp -dsimp only [go_sem, ↓reduceIte, reduceCtorEq, Nat.reduceEqDiff, Nat.reduceAdd, Nat.reduceLeDiff, Nat.reduceMul, Int.reduceBEq, Int.reduceBNe, Int.reduceLT, Int.reduceLE, Int.reduceGT, Int.reduceGE]
  refine ⟨fun hlt => ?_, fun hge => ?_⟩
  · have hlt : i < l.length := by omega
    simp -dsimp only [go_sem, ↓reduceIte, reduceCtorEq, Nat.reduceEqDiff, Nat.reduceAdd, Nat.reduceLeDiff, Nat.reduceMul, Int.reduceBEq, Int.reduceBNe, Int.reduceLT, Int.reduceLE, Int.reduceGT, Int.reduceGE]
    refine Chk_intro (by omega) (hl.pair (List.getElem?_eq_getElem hlt) fun b1 o1 c1 d1 => ?_)
    simp -dsimp only [go_sem, ↓reduceIte, reduceCtorEq, Nat.reduceEqDiff, Nat.reduceAdd, Nat.reduceLeDiff, Nat.reduceMul, Int.reduceBEq, Int.reduceBNe, Int.reduceLT, Int.reduceLE, Int.reduceGT, Int.reduceGE, c1, d1]
    refine Chk_intro (by omega) (hm.pair (List.getElem?_eq_getElem (show i < m.length by omega)) fun b2 o2 c2 d2 => ?_)
    simp -dsimp only [go_sem, ↓reduceIte, reduceCtorEq, Nat.reduceEqDiff, Nat.reduceAdd, Nat.reduceLeDiff, Nat.reduceMul, Int.reduceBEq, Int.reduceBNe, Int.reduceLT, Int.reduceLE, Int.reduceGT, Int.reduceGE, c2, d2]
    refine ⟨fun hne => ?_, fun he => ?_⟩
    · simp -dsimp only [go_sem, ↓reduceIte, reduceCtorEq, Nat.reduceEqDiff, Nat.reduceAdd, Nat.reduceLeDiff, Nat.reduceMul, Int.reduceBEq, Int.reduceBNe, Int.reduceLT, Int.reduceLE, Int.reduceGT, Int.reduceGE]
      have : l ≠ m := by rintro rfl; simp at hne
      simp [this]
    · simp -dsimp only [go_sem, ↓reduceIte, reduceCtorEq, Nat.reduceEqDiff, Nat.reduceAdd, Nat.reduceLeDiff, Nat.reduceMul, Int.reduceBEq, Int.reduceBNe, Int.reduceLT, Int.reduceLE, Int.reduceGT, Int.reduceGE]
      simp -dsimp (disch := omega) only [wrap64]
      refine ⟨i + 1, by omega, by simp [Le, find], by omega, fun j hj => ?_⟩
      by_cases hji : j = i
      · subst hji
        rw [List.getElem?_eq_getElem hlt, List.getElem?_eq_getElem (show j < m.length by omega)]
        simp at he
        rw [Prod.ext he.1 he.2]
      · exact hinv j (by omega)
  · simp -dsimp only [go_sem, ↓reduceIte, reduceCtorEq, Nat.reduceEqDiff, Nat.reduceAdd, Nat.reduceLeDiff, Nat.reduceMul, Int.reduceBEq, Int.reduceBNe, Int.reduceLT, Int.reduceLE, Int.reduceGT, Int.reduceGE]
    have : l = m := List.ext_getElem? fun j => by
      by_cases hj : j < i
      · exact hinv j hj
      · rw [List.getElem?_eq_none (by omega), List.getElem?_eq_none (by omega)]
    simp [this]
end Go.Proofs.Tst
namespace Go.Proofs.Tst
open Go Go.Vc
def smallL : List (Int × Int) := [(2, 0), (3, 1)]
def roundL : List (Int × Int) := [(0, 1), (1, 0), (1, 4), (3, 3), (4, 2)]
theorem c_law2_small (h : Heap) : Con Tryd.prog 69 #[] h fun v h' => Fr 0 0 h h' ∧ ProgAt h' h.size h'.size v 4 (ofM 4 smallL) := by
  refine con_law2_small ?_
  have p0 : Fr 0 0 h h := .refl _ _ _
  simp -dsimp only [go_sem, ↓reduceIte, reduceCtorEq, Nat.reduceEqDiff, Nat.reduceAdd, Nat.reduceLeDiff, Nat.reduceMul, Int.reduceBEq, Int.reduceBNe, Int.reduceLT, Int.reduceLE, Int.reduceGT, Int.reduceGE]
  intro b1 h1 n1
  have n1_a := n1.at_
  have n1_z := n1.size
  replace p0 := p0.fresh (n1.fr (lo := 0) (hi := 0)) (by omega)
  have r1 := n1.row
  simp -dsimp only [go_sem, ↓reduceIte, reduceCtorEq, Nat.reduceEqDiff, Nat.reduceAdd, Nat.reduceLeDiff, Nat.reduceMul, Int.reduceBEq, Int.reduceBNe, Int.reduceLT, Int.reduceLE, Int.reduceGT, Int.reduceGE, r1.cell]
  refine call_of (rel_Of 4 _ smallL h1 (r1.rd rfl) (by decide)) ?_
  rintro v h2 ⟨f2, t2⟩
  have f2_z := f2.size
  replace p0 := p0.fresh f2 (by omega)
  replace r1 := r1.fr f2 (by omega)
  simp -dsimp only [go_sem, ↓reduceIte, reduceCtorEq, Nat.reduceEqDiff, Nat.reduceAdd, Nat.reduceLeDiff, Nat.reduceMul, Int.reduceBEq, Int.reduceBNe, Int.reduceLT, Int.reduceLE, Int.reduceGT, Int.reduceGE, r1.cell]
  exact ⟨p0, t2.mono (by omega) (by omega)⟩
theorem c_law2_round (h : Heap) : Con Tryd.prog 70 #[] h fun v h' => Fr 0 0 h h' ∧ ProgAt h' h.size h'.size v 5 (ofM 5 roundL) := by
  refine con_law2_round ?_
  have p0 : Fr 0 0 h h := .refl _ _ _
  simp -dsimp only [go_sem, ↓reduceIte, reduceCtorEq, Nat.reduceEqDiff, Nat.reduceAdd, Nat.reduceLeDiff, Nat.reduceMul, Int.reduceBEq, Int.reduceBNe, Int.reduceLT, Int.reduceLE, Int.reduceGT, Int.reduceGE]
  intro b1 h1 n1
  have n1_a := n1.at_
  have n1_z := n1.size
  replace p0 := p0.fresh (n1.fr (lo := 0) (hi := 0)) (by omega)
  have r1 := n1.row
  simp -dsimp only [go_sem, ↓reduceIte, reduceCtorEq, Nat.reduceEqDiff, Nat.reduceAdd, Nat.reduceLeDiff, Nat.reduceMul, Int.reduceBEq, Int.reduceBNe, Int.reduceLT, Int.reduceLE, Int.reduceGT, Int.reduceGE, r1.cell]
  refine call_of (rel_Of 5 _ roundL h1 (r1.rd rfl) (by decide)) ?_
  rintro v h2 ⟨f2, t2⟩
  have f2_z := f2.size
  replace p0 := p0.fresh f2 (by omega)
  replace r1 := r1.fr f2 (by omega)
  simp -dsimp only [go_sem, ↓reduceIte, reduceCtorEq, Nat.reduceEqDiff, Nat.reduceAdd, Nat.reduceLeDiff, Nat.reduceMul, Int.reduceBEq, Int.reduceBNe, Int.reduceLT, Int.reduceLE, Int.reduceGT, Int.reduceGE, r1.cell]
  exact ⟨p0, t2.mono (by omega) (by omega)⟩
theorem k2_1 : sortS 4 (ofM 4 smallL) = some [2, 0, 3, 1] := by decide
theorem k2_2 : sortS 5 (ofM 5 roundL) = none := by decide
theorem k2_3 : glueS 4 (ofM 4 smallL) [(2, 3)] = .ok [2, 3, 0, 1] := by rfl
theorem k2_4 : LinP 4 (ofM 4 smallL) [2, 0, 3, 1] := by decide
theorem k2_5 : ¬ LinP 4 (ofM 4 smallL) [0, 1, 2, 3] := by decide
theorem c_law2_lives {h : Heap} (ht : TabAt h) : Con Tryd.prog 23 #[] h fun v h' => Fr 0 0 h h' ∧ v = .bool true := by
  refine con_law2_lives ?_
  have p0 : Fr 0 0 h h := .refl _ _ _
  simp -dsimp only [go_sem, ↓reduceIte, reduceCtorEq, Nat.reduceEqDiff, Nat.reduceAdd, Nat.reduceLeDiff, Nat.reduceMul, Int.reduceBEq, Int.reduceBNe, Int.reduceLT, Int.reduceLE, Int.reduceGT, Int.reduceGE]
  refine call_of (c_law2_small h) ?_
  rintro v1 h1 ⟨f1, t1⟩
  have f1_z := f1.size
  replace p0 := p0.fresh f1 (by omega)
  simp -dsimp only [go_sem, ↓reduceIte, reduceCtorEq, Nat.reduceEqDiff, Nat.reduceAdd, Nat.reduceLeDiff, Nat.reduceMul, Int.reduceBEq, Int.reduceBNe, Int.reduceLT, Int.reduceLE, Int.reduceGT, Int.reduceGE]
  refine call_of (order_Sort t1 (ht.fr p0 (by omega))) ?_
  rintro v2 h2 ⟨f2, o2⟩
  rw [k2_1] at o2
  obtain ⟨w2, rfl, o2⟩ := o2
  have f2_z := f2.size
  replace p0 := p0.fresh f2 (by omega)
  simp -dsimp only [go_sem, ↓reduceIte, reduceCtorEq, Nat.reduceEqDiff, Nat.reduceAdd, Nat.reduceLeDiff, Nat.reduceMul, Int.reduceBEq, Int.reduceBNe, Int.reduceLT, Int.reduceLE, Int.reduceGT, Int.reduceGE]
  refine call_of (c_law2_round h2) ?_
  rintro v3 h3 ⟨f3, t3⟩
  have f3_z := f3.size
  replace p0 := p0.fresh f3 (by omega)
  replace o2 := o2.fr f3 (by have := o2.at_; omega)
  simp -dsimp only [go_sem, ↓reduceIte, reduceCtorEq, Nat.reduceEqDiff, Nat.reduceAdd, Nat.reduceLeDiff, Nat.reduceMul, Int.reduceBEq, Int.reduceBNe, Int.reduceLT, Int.reduceLE, Int.reduceGT, Int.reduceGE]
  refine call_of (order_Sort t3 (ht.fr p0 (by omega))) ?_
  rintro v4 h4 ⟨f4, o4⟩
  rw [k2_2] at o4
  simp only [ListOr] at o4
  subst o4
  have f4_z := f4.size
  replace p0 := p0.fresh f4 (by omega)
  replace o2 := o2.fr f4 (by have := o2.at_; omega)
  simp -dsimp only [go_sem, ↓reduceIte, reduceCtorEq, Nat.reduceEqDiff, Nat.reduceAdd, Nat.reduceLeDiff, Nat.reduceMul, Int.reduceBEq, Int.reduceBNe, Int.reduceLT, Int.reduceLE, Int.reduceGT, Int.reduceGE]
  refine call_of (c_law2_small h4) ?_
  rintro v5 h5 ⟨f5, t5⟩
  have f5_z := f5.size
  replace p0 := p0.fresh f5 (by omega)
  replace o2 := o2.fr f5 (by have := o2.at_; omega)
  simp -dsimp only [go_sem, ↓reduceIte, reduceCtorEq, Nat.reduceEqDiff, Nat.reduceAdd, Nat.reduceLeDiff, Nat.reduceMul, Int.reduceBEq, Int.reduceBNe, Int.reduceLT, Int.reduceLE, Int.reduceGT, Int.reduceGE]
  intro b6 h6 n6
  have n6_a := n6.at_
  have n6_z := n6.size
  replace p0 := p0.fresh (n6.fr (lo := 0) (hi := 0)) (by omega)
  replace o2 := o2.fr (n6.fr (lo := 0) (hi := 0)) (by have := o2.at_; omega)
  replace t5 := t5.fr (n6.fr (lo := 0) (hi := 0)) (by omega)
  have r6 := n6.row
  simp -dsimp only [go_sem, ↓reduceIte, reduceCtorEq, Nat.reduceEqDiff, Nat.reduceAdd, Nat.reduceLeDiff, Nat.reduceMul, Int.reduceBEq, Int.reduceBNe, Int.reduceLT, Int.reduceLE, Int.reduceGT, Int.reduceGE, r6.cell]
  refine call_of (order_Glue (l := [(2, 3)]) t5 (ht.fr p0 (by omega)) (r6.rd rfl) (by decide)) ?_
  rintro v7 h7 ⟨f7, o7⟩
  rw [k2_3] at o7
  obtain ⟨w7, rfl, o7⟩ := o7
  have f7_z := f7.size
  replace p0 := p0.fresh f7 (by omega)
  replace o2 := o2.fr f7 (by have := o2.at_; omega)
  simp -dsimp only [go_sem, ↓reduceIte, reduceCtorEq, Nat.reduceEqDiff, Nat.reduceAdd, Nat.reduceLeDiff, Nat.reduceMul, Int.reduceBEq, Int.reduceBNe, Int.reduceLT, Int.reduceLE, Int.reduceGT, Int.reduceGE]
  intro b8 h8 n8
  have n8_a := n8.at_
  have n8_z := n8.size
  replace p0 := p0.fresh (n8.fr (lo := 0) (hi := 0)) (by omega)
  replace o2 := o2.fr (n8.fr (lo := 0) (hi := 0)) (by have := o2.at_; omega)
  replace o7 := o7.fr (n8.fr (lo := 0) (hi := 0)) (by have := o7.at_; omega)
  have r8 := n8.row
  simp -dsimp only [go_sem, ↓reduceIte, reduceCtorEq, Nat.reduceEqDiff, Nat.reduceAdd, Nat.reduceLeDiff, Nat.reduceMul, Int.reduceBEq, Int.reduceBNe, Int.reduceLT, Int.reduceLE, Int.reduceGT, Int.reduceGE, r8.cell]
  refine call_of (c_law2_ints (l := [2, 0, 3, 1]) (m := [2, 0, 3, 1]) o2.rd (r8.rd rfl) (by decide)) ?_
  rintro v h9 ⟨rfl, rfl⟩
  simp -dsimp only [go_sem, ↓reduceIte, reduceCtorEq, Nat.reduceEqDiff, Nat.reduceAdd, Nat.reduceLeDiff, Nat.reduceMul, Int.reduceBEq, Int.reduceBNe, Int.reduceLT, Int.reduceLE, Int.reduceGT, Int.reduceGE, r8.cell]
  intro b10 h10 n10
  have n10_a := n10.at_
  have n10_z := n10.size
  replace p0 := p0.fresh (n10.fr (lo := 0) (hi := 0)) (by omega)
  replace o2 := o2.fr (n10.fr (lo := 0) (hi := 0)) (by have := o2.at_; omega)
  replace o7 := o7.fr (n10.fr (lo := 0) (hi := 0)) (by have := o7.at_; omega)
  replace r8 := r8.fr (n10.fr (lo := 0) (hi := 0)) (by omega)
  have r10 := n10.row
  simp -dsimp only [go_sem, ↓reduceIte, reduceCtorEq, Nat.reduceEqDiff, Nat.reduceAdd, Nat.reduceLeDiff, Nat.reduceMul, Int.reduceBEq, Int.reduceBNe, Int.reduceLT, Int.reduceLE, Int.reduceGT, Int.reduceGE, r8.cell, r10.cell]
  refine call_of (c_law2_ints (l := [2, 3, 0, 1]) (m := [2, 3, 0, 1]) o7.rd (r10.rd rfl) (by decide)) ?_
  rintro v h11 ⟨rfl, rfl⟩
  simp -dsimp only [go_sem, ↓reduceIte, reduceCtorEq, Nat.reduceEqDiff, Nat.reduceAdd, Nat.reduceLeDiff, Nat.reduceMul, Int.reduceBEq, Int.reduceBNe, Int.reduceLT, Int.reduceLE, Int.reduceGT, Int.reduceGE, r8.cell, r10.cell]
  refine call_of (c_law2_small h11) ?_
  rintro v12 h12 ⟨f12, t12⟩
  have f12_z := f12.size
  replace p0 := p0.fresh f12 (by omega)
  replace o2 := o2.fr f12 (by have := o2.at_; omega)
  replace o7 := o7.fr f12 (by have := o7.at_; omega)
  replace r8 := r8.fr f12 (by omega)
  replace r10 := r10.fr f12 (by omega)
  simp -dsimp only [go_sem, ↓reduceIte, reduceCtorEq, Nat.reduceEqDiff, Nat.reduceAdd, Nat.reduceLeDiff, Nat.reduceMul, Int.reduceBEq, Int.reduceBNe, Int.reduceLT, Int.reduceLE, Int.reduceGT, Int.reduceGE, r8.cell, r10.cell]
  refine call_of (order_Linear (l := [2, 0, 3, 1]) t12 (ht.fr p0 (by omega)) o2.rd (by decide)) ?_
  rintro v13 h13 ⟨f13, rfl⟩
  rw [decide_eq_true k2_4]
  have f13_z := f13.size
  replace p0 := p0.fresh f13 (by omega)
  replace o2 := o2.fr f13 (by have := o2.at_; omega)
  replace o7 := o7.fr f13 (by have := o7.at_; omega)
  replace r8 := r8.fr f13 (by omega)
  replace r10 := r10.fr f13 (by omega)
  simp -dsimp only [go_sem, ↓reduceIte, reduceCtorEq, Nat.reduceEqDiff, Nat.reduceAdd, Nat.reduceLeDiff, Nat.reduceMul, Int.reduceBEq, Int.reduceBNe, Int.reduceLT, Int.reduceLE, Int.reduceGT, Int.reduceGE, r8.cell, r10.cell]
  refine call_of (c_law2_small h13) ?_
  rintro v14 h14 ⟨f14, t14⟩
  have f14_z := f14.size
  replace p0 := p0.fresh f14 (by omega)
  replace o2 := o2.fr f14 (by have := o2.at_; omega)
  replace o7 := o7.fr f14 (by have := o7.at_; omega)
  replace r8 := r8.fr f14 (by omega)
  replace r10 := r10.fr f14 (by omega)
  simp -dsimp only [go_sem, ↓reduceIte, reduceCtorEq, Nat.reduceEqDiff, Nat.reduceAdd, Nat.reduceLeDiff, Nat.reduceMul, Int.reduceBEq, Int.reduceBNe, Int.reduceLT, Int.reduceLE, Int.reduceGT, Int.reduceGE, r8.cell, r10.cell]
  intro b15 h15 n15
  have n15_a := n15.at_
  have n15_z := n15.size
  replace p0 := p0.fresh (n15.fr (lo := 0) (hi := 0)) (by omega)
  replace o2 := o2.fr (n15.fr (lo := 0) (hi := 0)) (by have := o2.at_; omega)
  replace o7 := o7.fr (n15.fr (lo := 0) (hi := 0)) (by have := o7.at_; omega)
  replace r8 := r8.fr (n15.fr (lo := 0) (hi := 0)) (by omega)
  replace r10 := r10.fr (n15.fr (lo := 0) (hi := 0)) (by omega)
  replace t14 := t14.fr (n15.fr (lo := 0) (hi := 0)) (by omega)
  have r15 := n15.row
  simp -dsimp only [go_sem, ↓reduceIte, reduceCtorEq, Nat.reduceEqDiff, Nat.reduceAdd, Nat.reduceLeDiff, Nat.reduceMul, Int.reduceBEq, Int.reduceBNe, Int.reduceLT, Int.reduceLE, Int.reduceGT, Int.reduceGE, r8.cell, r10.cell, r15.cell]
  refine call_of (order_Linear (l := [0, 1, 2, 3]) t14 (ht.fr p0 (by omega)) (r15.rd rfl) (by decide)) ?_
  rintro v16 h16 ⟨f16, rfl⟩
  rw [decide_eq_false k2_5]
  have f16_z := f16.size
  replace p0 := p0.fresh f16 (by omega)
  replace o2 := o2.fr f16 (by have := o2.at_; omega)
  replace o7 := o7.fr f16 (by have := o7.at_; omega)
  replace r8 := r8.fr f16 (by omega)
  replace r10 := r10.fr f16 (by omega)
  replace t14 := t14.fr f16 (by omega)
  replace r15 := r15.fr f16 (by omega)
  simp -dsimp only [go_sem, ↓reduceIte, reduceCtorEq, Nat.reduceEqDiff, Nat.reduceAdd, Nat.reduceLeDiff, Nat.reduceMul, Int.reduceBEq, Int.reduceBNe, Int.reduceLT, Int.reduceLE, Int.reduceGT, Int.reduceGE, r8.cell, r10.cell, r15.cell]
  exact p0
end Go.Proofs.Tst
/-
  Every Extensions, by the program and by the document; the lists are written over and grown.
-/
namespace Go.Proofs.Tst
open Go Go.Vc
theorem natsV_ints (l : List Nat) : natsV l = intsV (l.map fun (p : Nat) => (p : Int)) := by simp [natsV, intsV]
theorem c_law2_lists {L K : List (List Int)} {a b : Value} {h : Heap} (hl : RL h a (L.map intsV)) (hk : RL h b (K.map intsV)) (bL : L.length ≤ 4611686018427387904) (bl' : ∀ l ∈ L, l.length ≤ 4611686018427387904) :
    Con Tryd.prog 34 #[a, b] h fun v h' => h' = h ∧ v = .bool (decide (L = K)) := by
  refine con_law2_lists ?_
  obtain ⟨us, hu, hus⟩ := hl
  obtain ⟨ws, hw, hws⟩ := hk
  rw [List.length_map] at hu hw
  obtain ⟨aa, ac, rfl⟩ := hu.is
  obtain ⟨ba, bc, rfl⟩ := hw.is
  simp -dsimp only [go_sem, ↓reduceIte, reduceCtorEq, Nat.reduceEqDiff, Nat.reduceAdd, Nat.reduceLeDiff, Nat.reduceMul, Int.reduceBEq, Int.reduceBNe, Int.reduceLT, Int.reduceLE, Int.reduceGT, Int.reduceGE]
  refine ⟨fun hne => ?_, fun heq => ?_⟩
  · simp -dsimp only [go_sem, ↓reduceIte, reduceCtorEq, Nat.reduceEqDiff, Nat.reduceAdd, Nat.reduceLeDiff, Nat.reduceMul, Int.reduceBEq, Int.reduceBNe, Int.reduceLT, Int.reduceLE, Int.reduceGT, Int.reduceGE]
    have : L ≠ K := by rintro rfl; simp at hne
    simp [this]
  have heq : L.length = K.length := by have : (L.length : Int) = K.length := by simpa using heq
                                       omega
  simp -dsimp only [go_sem, ↓reduceIte, reduceCtorEq, Nat.reduceEqDiff, Nat.reduceAdd, Nat.reduceLeDiff, Nat.reduceMul, Int.reduceBEq, Int.reduceBNe, Int.reduceLT, Int.reduceLE, Int.reduceGT, Int.reduceGE]
  refine loop_intro (fun i : Nat => [(0, .slice aa L.length ac), (1, .slice ba K.length bc), (5, .int .i64 i)])
    (fun i h' => i ≤ L.length ∧ h' = h ∧ ∀ j, j < i → L[j]? = K[j]?) (fun i => L.length - i) 0 ?_ ?_ ?_
  · simp [Le, find]
  · exact ⟨by omega, rfl, fun j hj => by omega⟩
  rintro i h1 ⟨hi, hh, hinv⟩
  obtain rfl : h = h1 := hh.symm
  simp -dsimp only [go_sem, ↓reduceIte, reduceCtorEq, Nat.reduceEqDiff, Nat.reduceAdd, Nat.reduceLeDiff, Nat.reduceMul, Int.reduceBEq, Int.reduceBNe, Int.reduceLT, Int.reduceLE, Int.reduceGT, Int.reduceGE]
  refine ⟨fun hlt => ?_, fun hge => ?_⟩
  · have hlt : i < L.length := by omega
    have hx : L[i]? = some L[i] := List.getElem?_eq_getElem _
    have hy : K[i]? = some (K[i]'(by omega)) := List.getElem?_eq_getElem _
    have hxm : L[i] ∈ L := List.getElem_mem _
    generalize L[i] = x at hx hxm
    generalize (K[i]'(by omega)) = y at hy
    obtain ⟨u, hu1, hu2⟩ := hus i (intsV x) (by rw [List.getElem?_map, hx]; rfl)
    obtain ⟨w, hw1, hw2⟩ := hws i (intsV y) (by rw [List.getElem?_map, hy]; rfl)
    rw [length_intsV] at hu2 hw2
    simp -dsimp only [go_sem, ↓reduceIte, reduceCtorEq, Nat.reduceEqDiff, Nat.reduceAdd, Nat.reduceLeDiff, Nat.reduceMul, Int.reduceBEq, Int.reduceBNe, Int.reduceLT, Int.reduceLE, Int.reduceGT, Int.reduceGE]
    refine Chk_intro (by omega) (hu.idx (by omega) fun b1 o1 c1 => ?_)
    simp -dsimp only [go_sem, ↓reduceIte, reduceCtorEq, Nat.reduceEqDiff, Nat.reduceAdd, Nat.reduceLeDiff, Nat.reduceMul, Int.reduceBEq, Int.reduceBNe, Int.reduceLT, Int.reduceLE, Int.reduceGT, Int.reduceGE, c1 i _ hu1]
    refine Chk_intro (by omega) (hw.idx (by omega) fun b2 o2 c2 => ?_)
    simp -dsimp only [go_sem, ↓reduceIte, reduceCtorEq, Nat.reduceEqDiff, Nat.reduceAdd, Nat.reduceLeDiff, Nat.reduceMul, Int.reduceBEq, Int.reduceBNe, Int.reduceLT, Int.reduceLE, Int.reduceGT, Int.reduceGE, c2 i _ hw1]
    refine call_of (c_law2_ints hu2 hw2 (bl' x hxm)) ?_
    rintro v h2 ⟨hh, rfl⟩
    obtain rfl : h = h2 := hh.symm
    by_cases hxy : x = y
    · rw [decide_eq_true hxy]
      simp -dsimp only [go_sem, ↓reduceIte, reduceCtorEq, Nat.reduceEqDiff, Nat.reduceAdd, Nat.reduceLeDiff, Nat.reduceMul, Int.reduceBEq, Int.reduceBNe, Int.reduceLT, Int.reduceLE, Int.reduceGT, Int.reduceGE]
      simp -dsimp (disch := omega) only [wrap64]
      refine ⟨i + 1, by omega, by simp [Le, find], by omega, fun j hj => ?_⟩
      by_cases hji : j = i
      · subst hji; rw [hx, hy, hxy]
      · exact hinv j (by omega)
    · rw [decide_eq_false hxy]
      simp -dsimp only [go_sem, ↓reduceIte, reduceCtorEq, Nat.reduceEqDiff, Nat.reduceAdd, Nat.reduceLeDiff, Nat.reduceMul, Int.reduceBEq, Int.reduceBNe, Int.reduceLT, Int.reduceLE, Int.reduceGT, Int.reduceGE]
      have : L ≠ K := by rintro rfl; rw [hx] at hy; exact hxy (by simpa using hy)
      simp [this]
  · simp -dsimp only [go_sem, ↓reduceIte, reduceCtorEq, Nat.reduceEqDiff, Nat.reduceAdd, Nat.reduceLeDiff, Nat.reduceMul, Int.reduceBEq, Int.reduceBNe, Int.reduceLT, Int.reduceLE, Int.reduceGT, Int.reduceGE]
    have : L = K := List.ext_getElem? fun j => by
      by_cases hj : j < i
      · exact hinv j hj
      · rw [List.getElem?_eq_none (by omega), List.getElem?_eq_none (by omega)]
    simp [this]
theorem map_nats (L : List (List Nat)) : L.map natsV = (L.map fun l => l.map fun (p : Nat) => (p : Int)).map intsV := by
  rw [List.map_map]; apply List.map_congr_left; intro l _; exact natsV_ints l
theorem c_lists_nats {L K : List (List Nat)} {a b : Value} {h : Heap} (hl : RL h a (L.map natsV)) (hk : RL h b (K.map natsV)) (he : L = K) (bL : L.length ≤ 4611686018427387904) (bl' : ∀ l ∈ L, l.length ≤ 4611686018427387904) :
    Con Tryd.prog 34 #[a, b] h fun v h' => h' = h ∧ v = .bool true := by
  subst he
  rw [map_nats] at hl hk
  have := c_law2_lists hl hk (by simpa using bL) (by intro l hl; obtain ⟨x, hx, rfl⟩ := List.mem_map.1 hl; simpa using bl' x hx)
  rwa [decide_eq_true rfl] at this
end Go.Proofs.Tst
/-
  The points that lead to one another: the least one of each list, the relation between them, their order.
-/
namespace Go.Proofs.Tst
open Go Go.Vc
section
variable {n : Nat} {M : Nat → Nat → Bool}
def eqvB (n : Nat) (M : Nat → Nat → Bool) (p q : Nat) : Bool := plusM n M p q && plusM n M q p
/-- The least point of a point's list. -/
def ldF (n : Nat) (M : Nat → Nat → Bool) (p : Nat) : Nat := match lf (eqvB n M p) p 0 with | none => p | some q => q
theorem ldF_le {p : Nat} : ldF n M p ≤ p := by
  unfold ldF
  cases h : lf (eqvB n M p) p 0 with
  | none => exact Nat.le_refl _
  | some q => exact Nat.le_of_lt (lf_some h).2.1
theorem ldF_eqv {p : Nat} : ldF n M p = p ∨ (ldF n M p < p ∧ eqvB n M p (ldF n M p) = true) := by
  unfold ldF
  cases h : lf (eqvB n M p) p 0 with
  | none => exact .inl rfl
  | some q => exact .inr (lf_some h).2
theorem ldF_least {p q : Nat} (hq : q < ldF n M p) (h : eqvB n M p q = true) : False := by
  unfold ldF at hq
  cases hl : lf (eqvB n M p) p 0 with
  | none =>
    rw [hl] at hq
    have := lf_none hl q (by omega) hq
    rw [this] at h; simp at h
  | some x =>
    rw [hl] at hq
    have := lf_least hl q (by omega) hq
    rw [this] at h; simp at h
theorem eqvB_trans {p q r : Nat} (hq : q < n) (h1 : eqvB n M p q = true) (h2 : eqvB n M q r = true) : eqvB n M p r = true := by
  unfold eqvB at *
  rw [Bool.and_eq_true] at *
  exact ⟨plus_trans hq h1.1 h2.1, plus_trans hq h2.2 h1.2⟩
theorem ldF_idem {p : Nat} (hp : p < n) : ldF n M (ldF n M p) = ldF n M p := by
  rcases ldF_eqv (n := n) (M := M) (p := p) with h | ⟨h1, h2⟩
  · rw [h, h]
  · rcases ldF_eqv (n := n) (M := M) (p := ldF n M p) with h | ⟨h3, h4⟩
    · exact h
    · exact (ldF_least h3 (eqvB_trans (by omega) h2 h4)).elim
/-- A list's points, of those below k. -/
def memb (F : Nat → Nat) (r k : Nat) : List Nat := (List.range k).filter fun p => F p == r
theorem memb_succ {F : Nat → Nat} {r k : Nat} : memb F r (k + 1) = if F k = r then memb F r k ++ [k] else memb F r k := by
  unfold memb
  rw [List.range_succ, List.filter_append]
  by_cases h : F k = r <;> simp [h]
theorem memb_len {F : Nat → Nat} {r k : Nat} : (memb F r k).length ≤ k := by
  have := List.length_filter_le (fun p => F p == r) (List.range k)
  simpa [memb] using this
/-- Which list leads to which, told of their least points. -/
def smM (n : Nat) (M : Nat → Nat → Bool) (F : Nat → Nat) (x y : Nat) : Bool :=
  (List.range n).any fun p => (List.range n).any fun q => M p q && (F p != F q) && F p == x && F q == y
theorem smM_true {F : Nat → Nat} {x y : Nat} : smM n M F x y = true ↔ ∃ p, p < n ∧ ∃ q, q < n ∧ M p q = true ∧ F p ≠ F q ∧ F p = x ∧ F q = y := by
  simp only [smM, List.any_eq_true, List.mem_range, Bool.and_eq_true, bne_iff_ne, ne_eq, beq_iff_eq, and_assoc]
/-- The least points, in the order of what leads to what. -/
def seqGo (n : Nat) (S : Nat → Nat → Bool) (F : Nat → Nat) : Nat → List Nat → List Nat
  | 0, _ => []
  | k + 1, l => match lf (fun p => F p == p && freeB n S l.contains p) n 0 with
    | none => []
    | some p => p :: seqGo n S F k (l ++ [p])
def partsR (n : Nat) (M : Nat → Nat → Bool) : List Nat := seqGo n (smM n M (ldF n M)) (ldF n M) n []
def partsS (n : Nat) (M : Nat → Nat → Bool) : List (List Nat) := (partsR n M).map fun r => memb (ldF n M) r n
/-- So far, and what follows. -/
def SeqI (n : Nat) (S : Nat → Nat → Bool) (F : Nat → Nat) (l : List Nat) : Prop := l.Nodup ∧ (∀ x ∈ l, x < n ∧ F x = x) ∧ l ++ seqGo n S F (n - l.length) l = seqGo n S F n []
theorem SeqI.start {S : Nat → Nat → Bool} {F : Nat → Nat} : SeqI n S F [] := ⟨by simp, by simp, rfl⟩
theorem SeqI.len {S : Nat → Nat → Bool} {F : Nat → Nat} {l : List Nat} (h : SeqI n S F l) : l.length ≤ n := nodup_lt h.1 fun x hx => (h.2.1 x hx).1
theorem SeqI.step {S : Nat → Nat → Bool} {F : Nat → Nat} {l : List Nat} {p : Nat} (h : SeqI n S F l) (hp : lf (fun p => F p == p && freeB n S l.contains p) n 0 = some p) : SeqI n S F (l ++ [p]) := by
  obtain ⟨h1, h2, h3⟩ := h
  obtain ⟨-, hpn, hf⟩ := lf_some hp
  simp only [Bool.and_eq_true, beq_iff_eq] at hf
  have hpl : p ∉ l := by have := (freeB_true.1 hf.2).1; simpa using this
  have hnd : (l ++ [p]).Nodup := by
    rw [List.nodup_append]; exact ⟨h1, by simp, fun y hy z hz => by simp at hz; subst hz; rintro rfl; exact hpl hy⟩
  have hlt : ∀ x ∈ l ++ [p], x < n ∧ F x = x := fun x hx => by
    rcases List.mem_append.1 hx with hx | hx
    · exact h2 x hx
    · simp at hx; subst hx; exact ⟨hpn, hf.1⟩
  have hl := nodup_lt hnd fun x hx => (hlt x hx).1
  refine ⟨hnd, hlt, ?_⟩
  rw [List.length_append, List.length_singleton] at hl ⊢
  rw [show n - l.length = (n - (l.length + 1)) + 1 from by omega] at h3
  simp only [seqGo, hp] at h3
  rw [List.append_assoc]; exact h3
theorem SeqI.done {S : Nat → Nat → Bool} {F : Nat → Nat} {l : List Nat} (h : SeqI n S F l) (hp : lf (fun p => F p == p && freeB n S l.contains p) n 0 = none) : l = seqGo n S F n [] := by
  obtain ⟨h1, h2, h3⟩ := h
  cases hk : n - l.length with
  | zero => rw [hk] at h3; simpa [seqGo] using h3
  | succ k => rw [hk] at h3; simp only [seqGo, hp, List.append_nil] at h3; exact h3
theorem parts_len : (partsS n M).length ≤ n := by
  have key : ∀ (k : Nat) (l : List Nat), (seqGo n (smM n M (ldF n M)) (ldF n M) k l).length ≤ k := by
    intro k
    induction k with
    | zero => intro l; simp [seqGo]
    | succ k ih =>
      intro l
      simp only [seqGo]
      split
      · simp
      · simp only [List.length_cons]; have := ih (l ++ [‹Nat›]); omega
  simpa [partsS, partsR] using key n []
end
end Go.Proofs.Tst
namespace Go.Proofs.Tst
open Go Go.Vc
theorem ref1_Wide {n : Nat} {M : Nat → Nat → Bool} {rv : Value} {lo hi : Nat} {h : Heap} (hr : RefAt h lo hi rv n M) (k : Nat) (hk : k ≤ 256) :
    Con Tryd.prog 90 #[rv, .int .i64 k] h fun v h' => Fr 0 0 h h' ∧ RefAt h' h.size h'.size v (max k n) (inN n M) := by
  refine con_ref1_Wide ?_
  obtain ⟨hn, s, R, rfl, t⟩ := hr
  obtain ⟨sa, sc, rfl⟩ := t.own.is
  have hcl : clampN (max k n : Nat) = max k n := by unfold clampN; omega
  have p0 : Fr 0 0 h h := .refl _ _ _
  simp -dsimp only [go_sem, ↓reduceIte, reduceCtorEq, Nat.reduceEqDiff, Nat.reduceAdd, Nat.reduceLeDiff, Nat.reduceMul, Int.reduceBEq, Int.reduceBNe, Int.reduceLT, Int.reduceLE, Int.reduceGT, Int.reduceGE]
  intro b2 h2 n2
  have n2_a := n2.at_
  have n2_z := n2.size
  replace p0 := p0.fresh (n2.fr (lo := 0) (hi := 0)) (by omega)
  have r2 := n2.row
  simp -dsimp only [go_sem, ↓reduceIte, reduceCtorEq, Nat.reduceEqDiff, Nat.reduceAdd, Nat.reduceLeDiff, Nat.reduceMul, Int.reduceBEq, Int.reduceBNe, Int.reduceLT, Int.reduceLE, Int.reduceGT, Int.reduceGE, r2.cell]
  intro b4 h4 n4
  have n4_a := n4.at_
  have n4_z := n4.size
  replace p0 := p0.fresh (n4.fr (lo := 0) (hi := 0)) (by omega)
  replace r2 := r2.fr (n4.fr (lo := 0) (hi := 0)) (by omega)
  have r4 := n4.row
  simp -dsimp only [go_sem, ↓reduceIte, reduceCtorEq, Nat.reduceEqDiff, Nat.reduceAdd, Nat.reduceLeDiff, Nat.reduceMul, Int.reduceBEq, Int.reduceBNe, Int.reduceLT, Int.reduceLE, Int.reduceGT, Int.reduceGE, r2.cell, r4.cell]
  refine If_joint (fun m : Int => [(1, .int .i64 m), (2, .pointer (some ⟨b2, 0, none⟩)), (4, .pointer (some ⟨b4, 0, none⟩))]) (fun m h' => h' = h4 ∧ m = (max k n : Nat)) (fun hgt => ?_) (fun hle => ?_) ?_
  · simp -dsimp only [go_sem, ↓reduceIte, reduceCtorEq, Nat.reduceEqDiff, Nat.reduceAdd, Nat.reduceLeDiff, Nat.reduceMul, Int.reduceBEq, Int.reduceBNe, Int.reduceLT, Int.reduceLE, Int.reduceGT, Int.reduceGE, r2.cell, r4.cell]
    exact ⟨(n : Nat), by simp [Le, find], by omega⟩
  · simp -dsimp only [go_sem, ↓reduceIte, reduceCtorEq, Nat.reduceEqDiff, Nat.reduceAdd, Nat.reduceLeDiff, Nat.reduceMul, Int.reduceBEq, Int.reduceBNe, Int.reduceLT, Int.reduceLE, Int.reduceGT, Int.reduceGE, r2.cell, r4.cell]
    exact ⟨(k : Nat), by simp [Le, find], by omega⟩
  rintro m h5 ⟨rfl, rfl⟩ e ⟨e1, e2, e4, -⟩
  simp -dsimp only [go_sem, ↓reduceIte, reduceCtorEq, Nat.reduceEqDiff, Nat.reduceAdd, Nat.reduceLeDiff, Nat.reduceMul, Int.reduceBEq, Int.reduceBNe, Int.reduceLT, Int.reduceLE, Int.reduceGT, Int.reduceGE, e1, e2, e4, r2.cell, r4.cell]
  refine call_of (ref1_New (max k n : Nat) h5) ?_
  rintro v h6 ⟨f6, t6⟩
  rw [hcl] at t6
  obtain ⟨hmx, z, Z, rfl, t6⟩ := t6
  obtain ⟨za, zc, rfl⟩ := t6.own.is
  have t6_a := t6.own.at_
  have f6_z := f6.size
  replace p0 := p0.fresh f6 (by omega)
  replace r2 := r2.fr f6 (by omega)
  replace r4 := r4.fr f6 (by omega)
  simp -dsimp only [go_sem, ↓reduceIte, reduceCtorEq, Nat.reduceEqDiff, Nat.reduceAdd, Nat.reduceLeDiff, Nat.reduceMul, Int.reduceBEq, Int.reduceBNe, Int.reduceLT, Int.reduceLE, Int.reduceGT, Int.reduceGE, e2, e4, r2.cell, r4.cell]
  intro b7 h7 n7
  have n7_a := n7.at_
  have n7_z := n7.size
  replace p0 := p0.fresh (n7.fr (lo := 0) (hi := 0)) (by omega)
  replace r2 := r2.fr (n7.fr (lo := 0) (hi := 0)) (by omega)
  replace r4 := r4.fr (n7.fr (lo := 0) (hi := 0)) (by omega)
  replace t6 := t6.fr (n7.fr (lo := 0) (hi := 0)) (by omega)
  have r7 := n7.row
  simp -dsimp only [go_sem, ↓reduceIte, reduceCtorEq, Nat.reduceEqDiff, Nat.reduceAdd, Nat.reduceLeDiff, Nat.reduceMul, Int.reduceBEq, Int.reduceBNe, Int.reduceLT, Int.reduceLE, Int.reduceGT, Int.reduceGE, e2, e4, r2.cell, r4.cell, r7.cell]
  refine Chk_intro (r7.wr (by first | (simp; done) | (simp; omega))) fun h8 s8 => ?_
  have s8_z := s8.size
  replace p0 := p0.fresh s8.fr (by omega)
  replace r2 := r2.fr s8.fr (by omega)
  replace r4 := r4.fr s8.fr (by omega)
  replace t6 := t6.fr s8.fr (by omega)
  replace r7 := s8.row r7
  try simp only [cl_int, cl_bool, cl_slice, cl_ptr, putAt_one, List.set_cons_zero, List.set_cons_succ, ivec_set, brow_upd] at r7
  simp -dsimp only [go_sem, ↓reduceIte, reduceCtorEq, Nat.reduceEqDiff, Nat.reduceAdd, Nat.reduceLeDiff, Nat.reduceMul, Int.reduceBEq, Int.reduceBNe, Int.reduceLT, Int.reduceLE, Int.reduceGT, Int.reduceGE, e2, e4, r2.cell, r4.cell, r7.cell]
  refine loop_intro (fun p : Nat => [(2, .pointer (some ⟨b2, 0, none⟩)), (4, .pointer (some ⟨b4, 0, none⟩)), (5, .pointer (some ⟨b7, 0, none⟩)), (6, .int .i64 p)]) (fun p h' => p ≤ n ∧ Fr 0 0 h h' ∧ h8.size ≤ h'.size ∧ Rw h' b2 [.int .i64 n, .slice sa n sc] ∧ Rw h' b4 [.int .i64 0, .slice none 0 0] ∧ Rw h' b7 [.int .i64 (max k n : Nat), .slice za (max k n) zc] ∧ Tab h' h5.size h6.size (.slice za (max k n) zc) (max k n) (max k n) Z (mixM p 0 n (M) (fun _ _ => false))) (fun p => n - p) 0 ?_ ?_ ?_
  · simp [Le, find]
  · exact ⟨by omega, p0, by omega, r2, r4, r7, t6.congr fun i j _ _ => by rw [mixM_zero]⟩
  rintro p hP ⟨hp, p0, yP, r2, r4, r7, t6⟩
  have p0_z := p0.size
  have r2_l := r2.lt
  have r4_l := r4.lt
  have r7_l := r7.lt
  simp -dsimp only [go_sem, ↓reduceIte, reduceCtorEq, Nat.reduceEqDiff, Nat.reduceAdd, Nat.reduceLeDiff, Nat.reduceMul, Int.reduceBEq, Int.reduceBNe, Int.reduceLT, Int.reduceLE, Int.reduceGT, Int.reduceGE, r2.cell, r4.cell, r7.cell]
  refine ⟨fun hlt1 => ?_, fun hge1 => ?_⟩
  · have hlt1 : p < n := by omega
    simp -dsimp only [go_sem, ↓reduceIte, reduceCtorEq, Nat.reduceEqDiff, Nat.reduceAdd, Nat.reduceLeDiff, Nat.reduceMul, Int.reduceBEq, Int.reduceBNe, Int.reduceLT, Int.reduceLE, Int.reduceGT, Int.reduceGE, r2.cell, r4.cell, r7.cell]
    refine loop_intro (fun q : Nat => [(2, .pointer (some ⟨b2, 0, none⟩)), (4, .pointer (some ⟨b4, 0, none⟩)), (5, .pointer (some ⟨b7, 0, none⟩)), (6, .int .i64 p), (7, .int .i64 q)]) (fun q h' => q ≤ n ∧ Fr 0 0 h h' ∧ h8.size ≤ h'.size ∧ Rw h' b2 [.int .i64 n, .slice sa n sc] ∧ Rw h' b4 [.int .i64 0, .slice none 0 0] ∧ Rw h' b7 [.int .i64 (max k n : Nat), .slice za (max k n) zc] ∧ Tab h' h5.size h6.size (.slice za (max k n) zc) (max k n) (max k n) Z (mixM p q n (M) (fun _ _ => false))) (fun q => n - q) 0 ?_ ?_ ?_
    · simp [Le, find]
    · exact ⟨by omega, p0, by omega, r2, r4, r7, t6⟩
    rintro q hQ ⟨hq, p0, yQ, r2, r4, r7, t6⟩
    have p0_z := p0.size
    have r2_l := r2.lt
    have r4_l := r4.lt
    have r7_l := r7.lt
    simp -dsimp only [go_sem, ↓reduceIte, reduceCtorEq, Nat.reduceEqDiff, Nat.reduceAdd, Nat.reduceLeDiff, Nat.reduceMul, Int.reduceBEq, Int.reduceBNe, Int.reduceLT, Int.reduceLE, Int.reduceGT, Int.reduceGE, r2.cell, r4.cell, r7.cell]
    refine ⟨fun hlt2 => ?_, fun hge2 => ?_⟩
    · have hlt2 : q < n := by omega
      have tp := t.fr p0 (by omega)
      simp -dsimp only [go_sem, ↓reduceIte, reduceCtorEq, Nat.reduceEqDiff, Nat.reduceAdd, Nat.reduceLeDiff, Nat.reduceMul, Int.reduceBEq, Int.reduceBNe, Int.reduceLT, Int.reduceLE, Int.reduceGT, Int.reduceGE, r2.cell, r4.cell, r7.cell]
      refine Chk_intro (by omega) (t6.idx (p := p) (by omega) fun b9 o9 c9 => ?_)
      simp -dsimp only [go_sem, ↓reduceIte, reduceCtorEq, Nat.reduceEqDiff, Nat.reduceAdd, Nat.reduceLeDiff, Nat.reduceMul, Int.reduceBEq, Int.reduceBNe, Int.reduceLT, Int.reduceLE, Int.reduceGT, Int.reduceGE, c9, r2.cell, r4.cell, r7.cell]
      refine Chk_intro (by omega) (tp.idx hlt1 fun b10 o10 c10 => ?_)
      simp -dsimp only [go_sem, ↓reduceIte, reduceCtorEq, Nat.reduceEqDiff, Nat.reduceAdd, Nat.reduceLeDiff, Nat.reduceMul, Int.reduceBEq, Int.reduceBNe, Int.reduceLT, Int.reduceLE, Int.reduceGT, Int.reduceGE, c10, r2.cell, r4.cell, r7.cell]
      refine Chk_intro (by omega) ?_
      simp -dsimp only [go_sem, ↓reduceIte, reduceCtorEq, Nat.reduceEqDiff, Nat.reduceAdd, Nat.reduceLeDiff, Nat.reduceMul, Int.reduceBEq, Int.reduceBNe, Int.reduceLT, Int.reduceLE, Int.reduceGT, Int.reduceGE, tp.cell hlt1 hlt2, r2.cell, r4.cell, r7.cell]
      refine Chk_intro (by omega) ?_
      simp -dsimp only [go_sem, ↓reduceIte, reduceCtorEq, Nat.reduceEqDiff, Nat.reduceAdd, Nat.reduceLeDiff, Nat.reduceMul, Int.reduceBEq, Int.reduceBNe, Int.reduceLT, Int.reduceLE, Int.reduceGT, Int.reduceGE, r2.cell, r4.cell, r7.cell]
      refine Chk_intro (t6.wr (by omega) (by omega)) fun h9 s9 => ?_
      have s9_z := s9.size
      have w_row := t6.row p (by omega)
      have t_new := t6.set (p := p) (q := q) (by omega) s9
      replace p0 := p0.fresh s9.fr (by omega)
      replace r2 := r2.fr s9.fr (by omega)
      replace r4 := r4.fr s9.fr (by omega)
      replace r7 := r7.fr s9.fr (by omega)
      simp -dsimp only [go_sem, ↓reduceIte, reduceCtorEq, Nat.reduceEqDiff, Nat.reduceAdd, Nat.reduceLeDiff, Nat.reduceMul, Int.reduceBEq, Int.reduceBNe, Int.reduceLT, Int.reduceLE, Int.reduceGT, Int.reduceGE, r2.cell, r4.cell, r7.cell]
      simp -dsimp (disch := omega) only [wrap64]
      exact ⟨q + 1, by omega, by simp [Le, find], by omega, p0, by omega, r2, r4, r7, t_new.congr fun i j hi hj => mixM_set (rfl)⟩
    · have hqn : q = n := by omega
      simp -dsimp only [go_sem, ↓reduceIte, reduceCtorEq, Nat.reduceEqDiff, Nat.reduceAdd, Nat.reduceLeDiff, Nat.reduceMul, Int.reduceBEq, Int.reduceBNe, Int.reduceLT, Int.reduceLE, Int.reduceGT, Int.reduceGE, r2.cell, r4.cell, r7.cell]
      simp -dsimp (disch := omega) only [wrap64]
      exact ⟨p + 1, by omega, by simp [Le, find], by omega, p0, by omega, r2, r4, r7, t6.congr fun i j _ _ => by rw [hqn]; exact mixM_next⟩
  have hpn : p = n := by omega
  simp -dsimp only [go_sem, ↓reduceIte, reduceCtorEq, Nat.reduceEqDiff, Nat.reduceAdd, Nat.reduceLeDiff, Nat.reduceMul, Int.reduceBEq, Int.reduceBNe, Int.reduceLT, Int.reduceLE, Int.reduceGT, Int.reduceGE, r2.cell, r4.cell, r7.cell]
  refine Chk_intro (r4.wr (by first | (simp; done) | (simp; omega))) fun h9 s9 => ?_
  have s9_z := s9.size
  replace p0 := p0.fresh s9.fr (by omega)
  replace r2 := r2.fr s9.fr (by omega)
  replace r7 := r7.fr s9.fr (by omega)
  replace t6 := t6.fr s9.fr (by omega)
  replace r4 := s9.row r4
  try simp only [cl_int, cl_bool, cl_slice, cl_ptr, putAt_one, List.set_cons_zero, List.set_cons_succ, ivec_set, brow_upd] at r4
  simp -dsimp only [go_sem, ↓reduceIte, reduceCtorEq, Nat.reduceEqDiff, Nat.reduceAdd, Nat.reduceLeDiff, Nat.reduceMul, Int.reduceBEq, Int.reduceBNe, Int.reduceLT, Int.reduceLE, Int.reduceGT, Int.reduceGE, r2.cell, r4.cell, r7.cell]
  refine ⟨p0, hmx, _, Z, rfl, ((t6.mono (by omega) (by omega)).congr fun i j hi hj => ?_)⟩
  rw [hpn]
  by_cases hij : i < n ∧ j < n
  · rw [mixM_end hij.1 hij.2, inN_in hij.1 hij.2]
  · rw [inN_out hij]; unfold mixM; rw [if_neg (by omega)]
end Go.Proofs.Tst
