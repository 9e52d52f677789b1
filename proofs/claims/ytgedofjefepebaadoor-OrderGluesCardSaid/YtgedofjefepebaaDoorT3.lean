/-
  Contracts of functions that the law reaches: what each returns and what it leaves in memory. Conditions stand in each.
-/
import Derived.Test.YtgedofjefepebaaDoorT2
set_option linter.all false
set_option maxRecDepth 2000
namespace Go.Proofs.Tst
open Go Go.Vc
/-- The order that is made unit by unit. -/
def glueGo (n : Nat) (F : Nat → Nat) (S : Nat → Int) (N : Nat → Nat → Bool) : Nat → List Nat → Option (List Nat)
  | 0, l => some l
  | k + 1, l => if n ≤ l.length then some l else match lf (fun p => F p == p && freeB n N l.contains p) n 0 with
    | none => none
    | some p => glueGo n F S N k (if S p ≥ 0 then l ++ [p] ++ [(S p).toNat] else l ++ [p])
/-- A list, or a cycle. -/
def orCyc (o : Option (List Nat)) : Except Int (List Nat) := match o with | none => .error 3 | some l => .ok l
/-- What Glue tells: a list, or an error's number. -/
def glueS (n : Nat) (M : Nat → Nat → Bool) (l : List (Int × Int)) : Except Int (List Nat) :=
  match glueFS n l with
  | none => .error 1
  | some (F, S) => orCyc (glueGo n F S (glueM n M F S) n [])
/-- What a function hands back that tells a list, or an error's number. -/
def ResL (h : Heap) (lo : Nat) (v : Value) (o : Except Int (List Nat)) : Prop :=
  match o with
  | .ok l => ∃ s, v = .tuple #[s, .int .i64 0] ∧ Holder 1 h s l.length (natsV l) lo
  | .error e => v = .tuple #[.slice none 0 0, .int .i64 e]
theorem glueGo_end {n : Nat} {F : Nat → Nat} {S : Nat → Int} {N : Nat → Nat → Bool} {k : Nat} {l : List Nat} (h : n ≤ l.length) : glueGo n F S N k l = some l := by
  cases k with
  | zero => rfl
  | succ k => simp [glueGo, h]

set_option maxHeartbeats 1600000 in
theorem ref2_Glue {n : Nat} {M : Nat → Nat → Bool} {rv lv : Value} {l : List (Int × Int)} {lo hi : Nat} {h : Heap} (hr : RefAt h lo hi rv n M) (hl : Rd 2 h lv l.length (pairsV l)) (hb : l.length ≤ 4611686018427387904) :
    Con Tryd.prog 24 #[rv, lv] h fun v h' => Fr 0 0 h h' ∧ ResL h' h.size v (glueS n M l) := by
  refine con_ref2_Glue ?_
  obtain ⟨hn, s, R, rfl, t⟩ := hr
  obtain ⟨sa, sc, rfl⟩ := t.own.is
  obtain ⟨la, lc, rfl⟩ := hl.is
  have p0 : Fr 0 0 h h := .refl _ _ _
  simp -dsimp only [go_sem, ↓reduceIte, reduceCtorEq, Nat.reduceEqDiff, Nat.reduceAdd, Nat.reduceLeDiff, Nat.reduceMul, Int.reduceBEq, Int.reduceBNe, Int.reduceLT, Int.reduceLE, Int.reduceGT, Int.reduceGE]
  intro b1 h1 n1
  have n1_a := n1.at_
  have n1_z := n1.size
  replace p0 := p0.fresh (n1.fr (lo := 0) (hi := 0)) (by omega)
  have r1 := n1.row
  simp -dsimp only [go_sem, ↓reduceIte, reduceCtorEq, Nat.reduceEqDiff, Nat.reduceAdd, Nat.reduceLeDiff, Nat.reduceMul, Int.reduceBEq, Int.reduceBNe, Int.reduceLT, Int.reduceLE, Int.reduceGT, Int.reduceGE, r1.cell]
  refine Chk_intro (by omega) ?_
  intro bo h2 n2
  have n2_a := n2.at_
  have n2_z := n2.size
  replace p0 := p0.fresh (n2.fr (lo := 0) (hi := 0)) (by omega)
  replace r1 := r1.fr (n2.fr (lo := 0) (hi := 0)) (by omega)
  have ro := n2.row
  rw [zeros_one, Int.toNat_natCast, ivec_rep] at ro
  simp -dsimp only [go_sem, ↓reduceIte, reduceCtorEq, Nat.reduceEqDiff, Nat.reduceAdd, Nat.reduceLeDiff, Nat.reduceMul, Int.reduceBEq, Int.reduceBNe, Int.reduceLT, Int.reduceLE, Int.reduceGT, Int.reduceGE, r1.cell, ro.cell]
  refine Chk_intro (by omega) ?_
  intro bx h3 n3
  have n3_a := n3.at_
  have n3_z := n3.size
  replace p0 := p0.fresh (n3.fr (lo := 0) (hi := 0)) (by omega)
  replace r1 := r1.fr (n3.fr (lo := 0) (hi := 0)) (by omega)
  replace ro := ro.fr (n3.fr (lo := 0) (hi := 0)) (by omega)
  have rx := n3.row
  rw [zeros_one, Int.toNat_natCast, ivec_rep] at rx
  simp -dsimp only [go_sem, ↓reduceIte, reduceCtorEq, Nat.reduceEqDiff, Nat.reduceAdd, Nat.reduceLeDiff, Nat.reduceMul, Int.reduceBEq, Int.reduceBNe, Int.reduceLT, Int.reduceLE, Int.reduceGT, Int.reduceGE, r1.cell, ro.cell, rx.cell]
  refine loop_intro (fun i : Nat => [(1, .slice la l.length lc), (2, .pointer (some ⟨b1, 0, none⟩)), (6, .slice (some ⟨bo, 0, none⟩) n n), (7, .slice (some ⟨bx, 0, none⟩) n n), (8, .int .i64 i)])
    (fun i h' => i ≤ n ∧ Fr 0 0 h h' ∧ h3.size ≤ h'.size ∧ Rw h' b1 [.int .i64 n, .slice sa n sc] ∧ Rw h' bo (ivec n fun p => if p < i then (p : Int) else 0) ∧ Rw h' bx (ivec n fun p => if p < i then -1 else 0)) (fun i => n - i) 0 ?_ ?_ ?_
  · simp [Le, find]
  · exact ⟨by omega, p0, by omega, r1, by simpa using ro, by simpa using rx⟩
  rintro i h4 ⟨hi, p0, y4, r1, ro, rx⟩
  have p0_z := p0.size
  have r1_l := r1.lt
  have ro_l := ro.lt
  have rx_l := rx.lt
  simp -dsimp only [go_sem, ↓reduceIte, reduceCtorEq, Nat.reduceEqDiff, Nat.reduceAdd, Nat.reduceLeDiff, Nat.reduceMul, Int.reduceBEq, Int.reduceBNe, Int.reduceLT, Int.reduceLE, Int.reduceGT, Int.reduceGE, r1.cell, ro.cell, rx.cell]
  refine ⟨fun hlt => ?_, fun hge => ?_⟩
  · have hlt : i < n := by omega
    simp -dsimp only [go_sem, ↓reduceIte, reduceCtorEq, Nat.reduceEqDiff, Nat.reduceAdd, Nat.reduceLeDiff, Nat.reduceMul, Int.reduceBEq, Int.reduceBNe, Int.reduceLT, Int.reduceLE, Int.reduceGT, Int.reduceGE, r1.cell, ro.cell, rx.cell]
    refine Chk_intro (by omega) ?_
    simp -dsimp only [go_sem, ↓reduceIte, reduceCtorEq, Nat.reduceEqDiff, Nat.reduceAdd, Nat.reduceLeDiff, Nat.reduceMul, Int.reduceBEq, Int.reduceBNe, Int.reduceLT, Int.reduceLE, Int.reduceGT, Int.reduceGE, r1.cell, ro.cell, rx.cell]
    refine Chk_intro (ro.wr (by first | (simp; done) | (simp; omega))) fun h5 s5 => ?_
    have s5_z := s5.size
    replace p0 := p0.fresh s5.fr (by omega)
    replace r1 := r1.fr s5.fr (by omega)
    replace rx := rx.fr s5.fr (by omega)
    replace ro := s5.row ro
    try simp only [cl_int, cl_bool, cl_slice, cl_ptr, putAt_one, List.set_cons_zero, List.set_cons_succ, ivec_set, brow_upd] at ro
    simp -dsimp only [go_sem, ↓reduceIte, reduceCtorEq, Nat.reduceEqDiff, Nat.reduceAdd, Nat.reduceLeDiff, Nat.reduceMul, Int.reduceBEq, Int.reduceBNe, Int.reduceLT, Int.reduceLE, Int.reduceGT, Int.reduceGE, r1.cell, ro.cell, rx.cell]
    refine Chk_intro (by omega) ?_
    simp -dsimp only [go_sem, ↓reduceIte, reduceCtorEq, Nat.reduceEqDiff, Nat.reduceAdd, Nat.reduceLeDiff, Nat.reduceMul, Int.reduceBEq, Int.reduceBNe, Int.reduceLT, Int.reduceLE, Int.reduceGT, Int.reduceGE, r1.cell, ro.cell, rx.cell]
    refine Chk_intro (rx.wr (by first | (simp; done) | (simp; omega))) fun h6 s6 => ?_
    have s6_z := s6.size
    replace p0 := p0.fresh s6.fr (by omega)
    replace r1 := r1.fr s6.fr (by omega)
    replace ro := ro.fr s6.fr (by omega)
    replace rx := s6.row rx
    try simp only [cl_int, cl_bool, cl_slice, cl_ptr, putAt_one, List.set_cons_zero, List.set_cons_succ, ivec_set, brow_upd] at rx
    simp -dsimp only [go_sem, ↓reduceIte, reduceCtorEq, Nat.reduceEqDiff, Nat.reduceAdd, Nat.reduceLeDiff, Nat.reduceMul, Int.reduceBEq, Int.reduceBNe, Int.reduceLT, Int.reduceLE, Int.reduceGT, Int.reduceGE, r1.cell, ro.cell, rx.cell]
    simp -dsimp (disch := omega) only [wrap64]
    refine ⟨i + 1, by omega, by simp [Le, find], by omega, p0, by omega, r1, ?_, ?_⟩
    · rw [ivec_congr fun p hp => ?_]; exact ro
      by_cases h : p = i
      · subst h; rw [upd_same, if_pos (by omega)]
      · rw [upd_ne _ _ h]; congr 1; simp; omega
    · rw [ivec_congr fun p hp => ?_]; exact rx
      by_cases h : p = i
      · subst h; rw [upd_same, if_pos (by omega)]
      · rw [upd_ne _ _ h]; congr 1; simp; omega
  obtain rfl : n = i := by omega
  replace ro : Rw h4 bo (ivec n fun p => ((id p : Nat) : Int)) := by rw [ivec_congr fun p hp => ?_]; exact ro; simp [hp]
  replace rx : Rw h4 bx (ivec n fun _ => -1) := by rw [ivec_congr fun p hp => ?_]; exact rx; simp [hp]
  have a3 := p0.size
  simp -dsimp only [go_sem, ↓reduceIte, reduceCtorEq, Nat.reduceEqDiff, Nat.reduceAdd, Nat.reduceLeDiff, Nat.reduceMul, Int.reduceBEq, Int.reduceBNe, Int.reduceLT, Int.reduceLE, Int.reduceGT, Int.reduceGE, r1.cell, ro.cell, rx.cell]
  refine Chk_intro (by omega) ?_
  intro bu h5 n5
  have n5_a := n5.at_
  have n5_z := n5.size
  replace p0 := p0.fresh (n5.fr (lo := 0) (hi := 0)) (by omega)
  replace r1 := r1.fr (n5.fr (lo := 0) (hi := 0)) (by omega)
  replace ro := ro.fr (n5.fr (lo := 0) (hi := 0)) (by omega)
  replace rx := rx.fr (n5.fr (lo := 0) (hi := 0)) (by omega)
  have ru := n5.row
  rw [zeros_one, Int.toNat_natCast, brow_false] at ru
  simp -dsimp only [go_sem, ↓reduceIte, reduceCtorEq, Nat.reduceEqDiff, Nat.reduceAdd, Nat.reduceLeDiff, Nat.reduceMul, Int.reduceBEq, Int.reduceBNe, Int.reduceLT, Int.reduceLE, Int.reduceGT, Int.reduceGE, r1.cell, ro.cell, rx.cell, ru.cell]
  refine loop_intro (fun i : Nat => [(1, .slice la l.length lc), (2, .pointer (some ⟨b1, 0, none⟩)), (6, .slice (some ⟨bo, 0, none⟩) n n), (7, .slice (some ⟨bx, 0, none⟩) n n), (9, .slice (some ⟨bu, 0, none⟩) n n), (10, .int .i64 i)])
    (fun i h' => i ≤ l.length ∧ Fr 0 0 h h' ∧ h5.size ≤ h'.size ∧ Rw h' b1 [.int .i64 n, .slice sa n sc] ∧ ∃ (U : Nat → Bool) (F : Nat → Nat) (S : Nat → Int), Rw h' bo (ivec n fun p => (F p : Int)) ∧ Rw h' bx (ivec n S) ∧ Rw h' bu (brow n U) ∧ GluI n U F S ∧ glueIn n (l.drop i) U F S = glueFS n l) (fun i => l.length - i) 0 ?_ ?_ ?_
  · simp [Le, find]
  · exact ⟨by omega, p0, by omega, r1, _, _, _, ro, rx, ru, .start n, rfl⟩
  rintro i h6 ⟨hi, p0, y6, r1, U, F, S, ro, rx, ru, hG, hgl⟩
  have p0_z := p0.size
  have r1_l := r1.lt
  have ro_l := ro.lt
  have rx_l := rx.lt
  have ru_l := ru.lt
  simp -dsimp only [go_sem, ↓reduceIte, reduceCtorEq, Nat.reduceEqDiff, Nat.reduceAdd, Nat.reduceLeDiff, Nat.reduceMul, Int.reduceBEq, Int.reduceBNe, Int.reduceLT, Int.reduceLE, Int.reduceGT, Int.reduceGE, r1.cell, ro.cell, rx.cell, ru.cell]
  refine ⟨fun hlt => ?_, fun hge => ?_⟩
  · have hlt : i < l.length := by omega
    have hp : l[i]? = some l[i] := by simp [hlt]
    rw [List.drop_eq_getElem_cons hlt] at hgl
    generalize l[i] = p at hp hgl
    obtain ⟨a, b⟩ := p
    have bad : badP n U (a, b) → glueFS n l = none := fun hb => by rw [← hgl]; simp [glueIn, hb]
    have fin : glueFS n l = none → glueS n M l = .error 1 := fun hb => by simp [glueS, hb]
    simp -dsimp only [go_sem, ↓reduceIte, reduceCtorEq, Nat.reduceEqDiff, Nat.reduceAdd, Nat.reduceLeDiff, Nat.reduceMul, Int.reduceBEq, Int.reduceBNe, Int.reduceLT, Int.reduceLE, Int.reduceGT, Int.reduceGE, r1.cell, ro.cell, rx.cell, ru.cell]
    refine Chk_intro (by omega) ((hl.fr p0).pair hp fun b7 o7 c1 c2 => ?_)
    simp -dsimp only [go_sem, ↓reduceIte, reduceCtorEq, Nat.reduceEqDiff, Nat.reduceAdd, Nat.reduceLeDiff, Nat.reduceMul, Int.reduceBEq, Int.reduceBNe, Int.reduceLT, Int.reduceLE, Int.reduceGT, Int.reduceGE, c1, r1.cell, ro.cell, rx.cell, ru.cell]
    refine Chk_intro (by omega) ((hl.fr p0).pair hp fun b8 o8 c3 c4 => ?_)
    simp -dsimp only [go_sem, ↓reduceIte, reduceCtorEq, Nat.reduceEqDiff, Nat.reduceAdd, Nat.reduceLeDiff, Nat.reduceMul, Int.reduceBEq, Int.reduceBNe, Int.reduceLT, Int.reduceLE, Int.reduceGT, Int.reduceGE, c4, r1.cell, ro.cell, rx.cell, ru.cell]
    by_cases g1 : a < 0
    · simp -dsimp only [go_sem, ↓reduceIte, reduceCtorEq, Nat.reduceEqDiff, Nat.reduceAdd, Nat.reduceLeDiff, Nat.reduceMul, Int.reduceBEq, Int.reduceBNe, Int.reduceLT, Int.reduceLE, Int.reduceGT, Int.reduceGE, g1, decide_true, r1.cell, ro.cell, rx.cell, ru.cell]
      exact ⟨p0, by rw [fin (bad (.inl g1))]; rfl⟩
    by_cases g2 : a ≥ (n : Int)
    · simp -dsimp only [go_sem, ↓reduceIte, reduceCtorEq, Nat.reduceEqDiff, Nat.reduceAdd, Nat.reduceLeDiff, Nat.reduceMul, Int.reduceBEq, Int.reduceBNe, Int.reduceLT, Int.reduceLE, Int.reduceGT, Int.reduceGE, g1, g2, decide_true, decide_false, r1.cell, ro.cell, rx.cell, ru.cell]
      exact ⟨p0, by rw [fin (bad (.inr (.inl g2)))]; rfl⟩
    by_cases g3 : b < 0
    · simp -dsimp only [go_sem, ↓reduceIte, reduceCtorEq, Nat.reduceEqDiff, Nat.reduceAdd, Nat.reduceLeDiff, Nat.reduceMul, Int.reduceBEq, Int.reduceBNe, Int.reduceLT, Int.reduceLE, Int.reduceGT, Int.reduceGE, g1, g2, g3, decide_true, decide_false, r1.cell, ro.cell, rx.cell, ru.cell]
      exact ⟨p0, by rw [fin (bad (.inr (.inr (.inl g3))))]; rfl⟩
    by_cases g4 : b ≥ (n : Int)
    · simp -dsimp only [go_sem, ↓reduceIte, reduceCtorEq, Nat.reduceEqDiff, Nat.reduceAdd, Nat.reduceLeDiff, Nat.reduceMul, Int.reduceBEq, Int.reduceBNe, Int.reduceLT, Int.reduceLE, Int.reduceGT, Int.reduceGE, g1, g2, g3, g4, decide_true, decide_false, r1.cell, ro.cell, rx.cell, ru.cell]
      exact ⟨p0, by rw [fin (bad (.inr (.inr (.inr (.inl g4)))))]; rfl⟩
    obtain ⟨x, rfl⟩ : ∃ x : Nat, a = x := ⟨a.toNat, by omega⟩
    obtain ⟨y, rfl⟩ : ∃ y : Nat, b = y := ⟨b.toNat, by omega⟩
    have hx : x < n := by omega
    have hy : y < n := by omega
    by_cases g5 : x = y
    · subst g5
      simp -dsimp only [go_sem, ↓reduceIte, reduceCtorEq, Nat.reduceEqDiff, Nat.reduceAdd, Nat.reduceLeDiff, Nat.reduceMul, Int.reduceBEq, Int.reduceBNe, Int.reduceLT, Int.reduceLE, Int.reduceGT, Int.reduceGE, g1, g2, g3, g4, decide_true, decide_false, beq_self_eq_true, r1.cell, ro.cell, rx.cell, ru.cell]
      exact ⟨p0, by rw [fin (bad (.inr (.inr (.inr (.inr (.inl rfl))))))]; rfl⟩
    have g5' : ((x : Int) == (y : Int)) = false := by simp; omega
    simp -dsimp only [go_sem, ↓reduceIte, reduceCtorEq, Nat.reduceEqDiff, Nat.reduceAdd, Nat.reduceLeDiff, Nat.reduceMul, Int.reduceBEq, Int.reduceBNe, Int.reduceLT, Int.reduceLE, Int.reduceGT, Int.reduceGE, g1, g2, g3, g4, g5', decide_true, decide_false, decide_eq_false, r1.cell, ro.cell, rx.cell, ru.cell]
    refine Chk_intro (by omega) ?_
    simp -dsimp only [go_sem, ↓reduceIte, reduceCtorEq, Nat.reduceEqDiff, Nat.reduceAdd, Nat.reduceLeDiff, Nat.reduceMul, Int.reduceBEq, Int.reduceBNe, Int.reduceLT, Int.reduceLE, Int.reduceGT, Int.reduceGE, brow_get hx, r1.cell, ro.cell, rx.cell, ru.cell]
    by_cases g6 : U x = true
    · simp -dsimp only [go_sem, ↓reduceIte, reduceCtorEq, Nat.reduceEqDiff, Nat.reduceAdd, Nat.reduceLeDiff, Nat.reduceMul, Int.reduceBEq, Int.reduceBNe, Int.reduceLT, Int.reduceLE, Int.reduceGT, Int.reduceGE, g6, g1, g2, g3, g4, g5', decide_true, decide_false, r1.cell, ro.cell, rx.cell, ru.cell]
      exact ⟨p0, by rw [fin (bad (.inr (.inr (.inr (.inr (.inr (.inl (by simpa using g6))))))))]; rfl⟩
    replace g6 : U x = false := Bool.eq_false_iff.2 g6
    simp -dsimp only [go_sem, ↓reduceIte, reduceCtorEq, Nat.reduceEqDiff, Nat.reduceAdd, Nat.reduceLeDiff, Nat.reduceMul, Int.reduceBEq, Int.reduceBNe, Int.reduceLT, Int.reduceLE, Int.reduceGT, Int.reduceGE, g6, g1, g2, g3, g4, g5', decide_true, decide_false, r1.cell, ro.cell, rx.cell, ru.cell]
    refine Chk_intro (by omega) ?_
    simp -dsimp only [go_sem, ↓reduceIte, reduceCtorEq, Nat.reduceEqDiff, Nat.reduceAdd, Nat.reduceLeDiff, Nat.reduceMul, Int.reduceBEq, Int.reduceBNe, Int.reduceLT, Int.reduceLE, Int.reduceGT, Int.reduceGE, brow_get hy, g6, r1.cell, ro.cell, rx.cell, ru.cell]
    by_cases g7 : U y = true
    · simp -dsimp only [go_sem, ↓reduceIte, reduceCtorEq, Nat.reduceEqDiff, Nat.reduceAdd, Nat.reduceLeDiff, Nat.reduceMul, Int.reduceBEq, Int.reduceBNe, Int.reduceLT, Int.reduceLE, Int.reduceGT, Int.reduceGE, g7, g1, g2, g3, g4, g5', decide_true, decide_false, r1.cell, ro.cell, rx.cell, ru.cell]
      exact ⟨p0, by rw [fin (bad (.inr (.inr (.inr (.inr (.inr (.inr (by simpa using g7))))))))]; rfl⟩
    replace g7 : U y = false := Bool.eq_false_iff.2 g7
    simp -dsimp only [go_sem, ↓reduceIte, reduceCtorEq, Nat.reduceEqDiff, Nat.reduceAdd, Nat.reduceLeDiff, Nat.reduceMul, Int.reduceBEq, Int.reduceBNe, Int.reduceLT, Int.reduceLE, Int.reduceGT, Int.reduceGE, g7, g6, r1.cell, ro.cell, rx.cell, ru.cell]
    have nb : ¬ badP n U ((x : Int), (y : Int)) := by
      simp [badP, g6, g7]; omega
    refine Chk_intro (by omega) ?_
    simp -dsimp only [go_sem, ↓reduceIte, reduceCtorEq, Nat.reduceEqDiff, Nat.reduceAdd, Nat.reduceLeDiff, Nat.reduceMul, Int.reduceBEq, Int.reduceBNe, Int.reduceLT, Int.reduceLE, Int.reduceGT, Int.reduceGE, r1.cell, ro.cell, rx.cell, ru.cell]
    refine Chk_intro (ru.wr (by first | (simp; done) | (simp; omega))) fun h7 s7 => ?_
    have s7_z := s7.size
    replace p0 := p0.fresh s7.fr (by omega)
    replace r1 := r1.fr s7.fr (by omega)
    replace ro := ro.fr s7.fr (by omega)
    replace rx := rx.fr s7.fr (by omega)
    replace ru := s7.row ru
    try simp only [cl_int, cl_bool, cl_slice, cl_ptr, putAt_one, List.set_cons_zero, List.set_cons_succ, ivec_set, brow_upd] at ru
    simp -dsimp only [go_sem, ↓reduceIte, reduceCtorEq, Nat.reduceEqDiff, Nat.reduceAdd, Nat.reduceLeDiff, Nat.reduceMul, Int.reduceBEq, Int.reduceBNe, Int.reduceLT, Int.reduceLE, Int.reduceGT, Int.reduceGE, r1.cell, ro.cell, rx.cell, ru.cell]
    refine Chk_intro (by omega) ?_
    simp -dsimp only [go_sem, ↓reduceIte, reduceCtorEq, Nat.reduceEqDiff, Nat.reduceAdd, Nat.reduceLeDiff, Nat.reduceMul, Int.reduceBEq, Int.reduceBNe, Int.reduceLT, Int.reduceLE, Int.reduceGT, Int.reduceGE, r1.cell, ro.cell, rx.cell, ru.cell]
    refine Chk_intro (ru.wr (by first | (simp; done) | (simp; omega))) fun h8 s8 => ?_
    have s8_z := s8.size
    replace p0 := p0.fresh s8.fr (by omega)
    replace r1 := r1.fr s8.fr (by omega)
    replace ro := ro.fr s8.fr (by omega)
    replace rx := rx.fr s8.fr (by omega)
    replace ru := s8.row ru
    try simp only [cl_int, cl_bool, cl_slice, cl_ptr, putAt_one, List.set_cons_zero, List.set_cons_succ, ivec_set, brow_upd] at ru
    simp -dsimp only [go_sem, ↓reduceIte, reduceCtorEq, Nat.reduceEqDiff, Nat.reduceAdd, Nat.reduceLeDiff, Nat.reduceMul, Int.reduceBEq, Int.reduceBNe, Int.reduceLT, Int.reduceLE, Int.reduceGT, Int.reduceGE, r1.cell, ro.cell, rx.cell, ru.cell]
    refine Chk_intro (by omega) ?_
    simp -dsimp only [go_sem, ↓reduceIte, reduceCtorEq, Nat.reduceEqDiff, Nat.reduceAdd, Nat.reduceLeDiff, Nat.reduceMul, Int.reduceBEq, Int.reduceBNe, Int.reduceLT, Int.reduceLE, Int.reduceGT, Int.reduceGE, r1.cell, ro.cell, rx.cell, ru.cell]
    refine Chk_intro (ro.wr (by first | (simp; done) | (simp; omega))) fun h9 s9 => ?_
    have s9_z := s9.size
    replace p0 := p0.fresh s9.fr (by omega)
    replace r1 := r1.fr s9.fr (by omega)
    replace rx := rx.fr s9.fr (by omega)
    replace ru := ru.fr s9.fr (by omega)
    replace ro := s9.row ro
    try simp only [cl_int, cl_bool, cl_slice, cl_ptr, putAt_one, List.set_cons_zero, List.set_cons_succ, ivec_set, brow_upd] at ro
    simp -dsimp only [go_sem, ↓reduceIte, reduceCtorEq, Nat.reduceEqDiff, Nat.reduceAdd, Nat.reduceLeDiff, Nat.reduceMul, Int.reduceBEq, Int.reduceBNe, Int.reduceLT, Int.reduceLE, Int.reduceGT, Int.reduceGE, r1.cell, ro.cell, rx.cell, ru.cell]
    refine Chk_intro (by omega) ?_
    simp -dsimp only [go_sem, ↓reduceIte, reduceCtorEq, Nat.reduceEqDiff, Nat.reduceAdd, Nat.reduceLeDiff, Nat.reduceMul, Int.reduceBEq, Int.reduceBNe, Int.reduceLT, Int.reduceLE, Int.reduceGT, Int.reduceGE, r1.cell, ro.cell, rx.cell, ru.cell]
    refine Chk_intro (rx.wr (by first | (simp; done) | (simp; omega))) fun h10 s10 => ?_
    have s10_z := s10.size
    replace p0 := p0.fresh s10.fr (by omega)
    replace r1 := r1.fr s10.fr (by omega)
    replace ro := ro.fr s10.fr (by omega)
    replace ru := ru.fr s10.fr (by omega)
    replace rx := s10.row rx
    try simp only [cl_int, cl_bool, cl_slice, cl_ptr, putAt_one, List.set_cons_zero, List.set_cons_succ, ivec_set, brow_upd] at rx
    simp -dsimp only [go_sem, ↓reduceIte, reduceCtorEq, Nat.reduceEqDiff, Nat.reduceAdd, Nat.reduceLeDiff, Nat.reduceMul, Int.reduceBEq, Int.reduceBNe, Int.reduceLT, Int.reduceLE, Int.reduceGT, Int.reduceGE, r1.cell, ro.cell, rx.cell, ru.cell]
    simp -dsimp (disch := omega) only [wrap64]
    simp only [glueIn, if_neg nb, Int.toNat_natCast] at hgl
    refine ⟨i + 1, by omega, by simp [Le, find], by omega, p0, by omega, r1, upd (upd U x true) y true, upd F y x, upd S x (y : Int), ?_, rx, ru, hG.step hx hy g5 g6 g7, hgl⟩
    rw [ivec_congr fun p hp => ?_]; exact ro
    unfold upd; split <;> rfl
  have hil : i = l.length := by omega
  subst hil
  rw [List.drop_length] at hgl
  simp only [glueIn] at hgl
  simp -dsimp only [go_sem, ↓reduceIte, reduceCtorEq, Nat.reduceEqDiff, Nat.reduceAdd, Nat.reduceLeDiff, Nat.reduceMul, Int.reduceBEq, Int.reduceBNe, Int.reduceLT, Int.reduceLE, Int.reduceGT, Int.reduceGE, r1.cell, ro.cell, rx.cell, ru.cell]
  refine call_of (ref1_New n h6) ?_
  rintro v h7 ⟨f7, t7⟩
  have f7_z := f7.size
  replace p0 := p0.fresh f7 (by omega)
  replace r1 := r1.fr f7 (by omega)
  replace ro := ro.fr f7 (by omega)
  replace rx := rx.fr f7 (by omega)
  replace ru := ru.fr f7 (by omega)
  have hcl : clampN n = n := by unfold clampN; omega
  rw [hcl] at t7
  obtain ⟨-, z, Z, rfl, t7⟩ := t7
  obtain ⟨za, zc, rfl⟩ := t7.own.is
  have t7_b := t7.own.at_
  simp -dsimp only [go_sem, ↓reduceIte, reduceCtorEq, Nat.reduceEqDiff, Nat.reduceAdd, Nat.reduceLeDiff, Nat.reduceMul, Int.reduceBEq, Int.reduceBNe, Int.reduceLT, Int.reduceLE, Int.reduceGT, Int.reduceGE, r1.cell, ro.cell, rx.cell, ru.cell]
  intro b8 h8 n8
  have n8_a := n8.at_
  have n8_z := n8.size
  replace p0 := p0.fresh (n8.fr (lo := 0) (hi := 0)) (by omega)
  replace r1 := r1.fr (n8.fr (lo := 0) (hi := 0)) (by omega)
  replace ro := ro.fr (n8.fr (lo := 0) (hi := 0)) (by omega)
  replace rx := rx.fr (n8.fr (lo := 0) (hi := 0)) (by omega)
  replace ru := ru.fr (n8.fr (lo := 0) (hi := 0)) (by omega)
  replace t7 := t7.fr (n8.fr (lo := 0) (hi := 0)) (by omega)
  have r8 := n8.row
  simp -dsimp only [go_sem, ↓reduceIte, reduceCtorEq, Nat.reduceEqDiff, Nat.reduceAdd, Nat.reduceLeDiff, Nat.reduceMul, Int.reduceBEq, Int.reduceBNe, Int.reduceLT, Int.reduceLE, Int.reduceGT, Int.reduceGE, r1.cell, ro.cell, rx.cell, ru.cell, r8.cell]
  refine Chk_intro (r8.wr (by first | (simp; done) | (simp; omega))) fun h9 s9 => ?_
  have s9_z := s9.size
  replace p0 := p0.fresh s9.fr (by omega)
  replace r1 := r1.fr s9.fr (by omega)
  replace ro := ro.fr s9.fr (by omega)
  replace rx := rx.fr s9.fr (by omega)
  replace ru := ru.fr s9.fr (by omega)
  replace t7 := t7.fr s9.fr (by omega)
  replace r8 := s9.row r8
  try simp only [cl_int, cl_bool, cl_slice, cl_ptr, putAt_one, List.set_cons_zero, List.set_cons_succ, ivec_set, brow_upd] at r8
  simp -dsimp only [go_sem, ↓reduceIte, reduceCtorEq, Nat.reduceEqDiff, Nat.reduceAdd, Nat.reduceLeDiff, Nat.reduceMul, Int.reduceBEq, Int.reduceBNe, Int.reduceLT, Int.reduceLE, Int.reduceGT, Int.reduceGE] at r8
  simp -dsimp only [go_sem, ↓reduceIte, reduceCtorEq, Nat.reduceEqDiff, Nat.reduceAdd, Nat.reduceLeDiff, Nat.reduceMul, Int.reduceBEq, Int.reduceBNe, Int.reduceLT, Int.reduceLE, Int.reduceGT, Int.reduceGE, r1.cell, ro.cell, rx.cell, ru.cell, r8.cell]
  -- the relation between the units
  refine loop_intro (fun p : Nat => [(2, .pointer (some ⟨b1, 0, none⟩)), (6, .slice (some ⟨bo, 0, none⟩) n n), (7, .slice (some ⟨bx, 0, none⟩) n n), (13, .pointer (some ⟨b8, 0, none⟩)), (14, .int .i64 p)])
    (fun p h' => p ≤ n ∧ Fr 0 0 h h' ∧ h9.size ≤ h'.size ∧ Rw h' b1 [.int .i64 n, .slice sa n sc] ∧ Rw h' bo (ivec n fun p => (F p : Int)) ∧ Rw h' bx (ivec n S) ∧ Rw h' b8 [.int .i64 n, .slice za n zc] ∧ ∃ N, Tab h' h6.size h7.size (.slice za n zc) n n Z N ∧ ∀ x y, N x y = true ↔ ∃ p', p' < p ∧ ∃ q, q < n ∧ M p' q = true ∧ S p' ≠ (q : Int) ∧ F p' = x ∧ F q = y) (fun p => n - p) 0 ?_ ?_ ?_
  · simp [Le, find]
  · exact ⟨by omega, p0, by omega, r1, ro, rx, r8, _, t7, by simp⟩
  rintro p h10 ⟨hp, p0, y10, r1, ro, rx, r8, N, t10, hN⟩
  have p0_z := p0.size
  have r1_l := r1.lt
  have ro_l := ro.lt
  have rx_l := rx.lt
  have r8_l := r8.lt
  simp -dsimp only [go_sem, ↓reduceIte, reduceCtorEq, Nat.reduceEqDiff, Nat.reduceAdd, Nat.reduceLeDiff, Nat.reduceMul, Int.reduceBEq, Int.reduceBNe, Int.reduceLT, Int.reduceLE, Int.reduceGT, Int.reduceGE, r1.cell, ro.cell, rx.cell, r8.cell]
  refine ⟨fun hlt => ?_, fun hge => ?_⟩
  · have hlt : p < n := by omega
    simp -dsimp only [go_sem, ↓reduceIte, reduceCtorEq, Nat.reduceEqDiff, Nat.reduceAdd, Nat.reduceLeDiff, Nat.reduceMul, Int.reduceBEq, Int.reduceBNe, Int.reduceLT, Int.reduceLE, Int.reduceGT, Int.reduceGE, r1.cell, ro.cell, rx.cell, r8.cell]
    refine loop_intro (fun q : Nat => [(2, .pointer (some ⟨b1, 0, none⟩)), (6, .slice (some ⟨bo, 0, none⟩) n n), (7, .slice (some ⟨bx, 0, none⟩) n n), (13, .pointer (some ⟨b8, 0, none⟩)), (14, .int .i64 p), (15, .int .i64 q)])
      (fun q h' => q ≤ n ∧ Fr 0 0 h h' ∧ h9.size ≤ h'.size ∧ Rw h' b1 [.int .i64 n, .slice sa n sc] ∧ Rw h' bo (ivec n fun p => (F p : Int)) ∧ Rw h' bx (ivec n S) ∧ Rw h' b8 [.int .i64 n, .slice za n zc] ∧ ∃ N, Tab h' h6.size h7.size (.slice za n zc) n n Z N ∧ ∀ x y, N x y = true ↔ ((∃ p', p' < p ∧ ∃ q, q < n ∧ M p' q = true ∧ S p' ≠ (q : Int) ∧ F p' = x ∧ F q = y) ∨ ∃ q', q' < q ∧ M p q' = true ∧ S p ≠ (q' : Int) ∧ F p = x ∧ F q' = y)) (fun q => n - q) 0 ?_ ?_ ?_
    · simp [Le, find]
    · exact ⟨by omega, p0, by omega, r1, ro, rx, r8, _, t10, by simpa using hN⟩
    rintro q h11 ⟨hq, p0, y11, r1, ro, rx, r8, N, t11, hN⟩
    have p0_z := p0.size
    have r1_l := r1.lt
    have ro_l := ro.lt
    have rx_l := rx.lt
    have r8_l := r8.lt
    simp -dsimp only [go_sem, ↓reduceIte, reduceCtorEq, Nat.reduceEqDiff, Nat.reduceAdd, Nat.reduceLeDiff, Nat.reduceMul, Int.reduceBEq, Int.reduceBNe, Int.reduceLT, Int.reduceLE, Int.reduceGT, Int.reduceGE, r1.cell, ro.cell, rx.cell, r8.cell]
    refine ⟨fun hlt2 => ?_, fun hge2 => ?_⟩
    · have hlt2 : q < n := by omega
      have t := t.fr p0 (by omega)
      have stay : ¬ (M p q = true ∧ S p ≠ (q : Int)) → ∀ x y, N x y = true ↔ ((∃ p', p' < p ∧ ∃ q, q < n ∧ M p' q = true ∧ S p' ≠ (q : Int) ∧ F p' = x ∧ F q = y) ∨ ∃ q', q' < q + 1 ∧ M p q' = true ∧ S p ≠ (q' : Int) ∧ F p = x ∧ F q' = y) := fun hno x y => by
        rw [hN]
        refine or_congr_right ⟨fun ⟨q', h1, h2⟩ => ⟨q', by omega, h2⟩, fun ⟨q', h1, h2, h3, h4⟩ => ⟨q', ?_, h2, h3, h4⟩⟩
        by_cases hqq : q' = q
        · subst hqq; exact absurd ⟨h2, h3⟩ hno
        · omega
      simp -dsimp only [go_sem, ↓reduceIte, reduceCtorEq, Nat.reduceEqDiff, Nat.reduceAdd, Nat.reduceLeDiff, Nat.reduceMul, Int.reduceBEq, Int.reduceBNe, Int.reduceLT, Int.reduceLE, Int.reduceGT, Int.reduceGE, r1.cell, ro.cell, rx.cell, r8.cell]
      refine Chk_intro (by omega) (t.idx hlt fun b3 o3 c3 => ?_)
      simp -dsimp only [go_sem, ↓reduceIte, reduceCtorEq, Nat.reduceEqDiff, Nat.reduceAdd, Nat.reduceLeDiff, Nat.reduceMul, Int.reduceBEq, Int.reduceBNe, Int.reduceLT, Int.reduceLE, Int.reduceGT, Int.reduceGE, c3, r1.cell, ro.cell, rx.cell, r8.cell]
      refine Chk_intro (by omega) ?_
      simp -dsimp only [go_sem, ↓reduceIte, reduceCtorEq, Nat.reduceEqDiff, Nat.reduceAdd, Nat.reduceLeDiff, Nat.reduceMul, Int.reduceBEq, Int.reduceBNe, Int.reduceLT, Int.reduceLE, Int.reduceGT, Int.reduceGE, t.cell hlt hlt2, r1.cell, ro.cell, rx.cell, r8.cell]
      cases hm : M p q with
      | false =>
        simp -dsimp only [go_sem, ↓reduceIte, reduceCtorEq, Nat.reduceEqDiff, Nat.reduceAdd, Nat.reduceLeDiff, Nat.reduceMul, Int.reduceBEq, Int.reduceBNe, Int.reduceLT, Int.reduceLE, Int.reduceGT, Int.reduceGE, r1.cell, ro.cell, rx.cell, r8.cell]
        simp -dsimp (disch := omega) only [wrap64]
        exact ⟨q + 1, by omega, by simp [Le, find], by omega, p0, by omega, r1, ro, rx, r8, N, t11, stay (by simp [hm])⟩
      | true =>
        simp -dsimp only [go_sem, ↓reduceIte, reduceCtorEq, Nat.reduceEqDiff, Nat.reduceAdd, Nat.reduceLeDiff, Nat.reduceMul, Int.reduceBEq, Int.reduceBNe, Int.reduceLT, Int.reduceLE, Int.reduceGT, Int.reduceGE, r1.cell, ro.cell, rx.cell, r8.cell]
        refine Chk_intro (by omega) ?_
        simp -dsimp only [go_sem, ↓reduceIte, reduceCtorEq, Nat.reduceEqDiff, Nat.reduceAdd, Nat.reduceLeDiff, Nat.reduceMul, Int.reduceBEq, Int.reduceBNe, Int.reduceLT, Int.reduceLE, Int.reduceGT, Int.reduceGE, ivec_get hlt, r1.cell, ro.cell, rx.cell, r8.cell]
        cases hs : (S p == (q : Int)) with
        | true =>
          simp -dsimp only [go_sem, ↓reduceIte, reduceCtorEq, Nat.reduceEqDiff, Nat.reduceAdd, Nat.reduceLeDiff, Nat.reduceMul, Int.reduceBEq, Int.reduceBNe, Int.reduceLT, Int.reduceLE, Int.reduceGT, Int.reduceGE, r1.cell, ro.cell, rx.cell, r8.cell]
          simp -dsimp (disch := omega) only [wrap64]
          exact ⟨q + 1, by omega, by simp [Le, find], by omega, p0, by omega, r1, ro, rx, r8, N, t11, stay (by simp at hs; simp [hs])⟩
        | false =>
          have g1 := hG.lt p hlt
          have g2 := hG.lt q hlt2
          simp -dsimp only [go_sem, ↓reduceIte, reduceCtorEq, Nat.reduceEqDiff, Nat.reduceAdd, Nat.reduceLeDiff, Nat.reduceMul, Int.reduceBEq, Int.reduceBNe, Int.reduceLT, Int.reduceLE, Int.reduceGT, Int.reduceGE, r1.cell, ro.cell, rx.cell, r8.cell]
          refine Chk_intro (by omega) ?_
          simp -dsimp only [go_sem, ↓reduceIte, reduceCtorEq, Nat.reduceEqDiff, Nat.reduceAdd, Nat.reduceLeDiff, Nat.reduceMul, Int.reduceBEq, Int.reduceBNe, Int.reduceLT, Int.reduceLE, Int.reduceGT, Int.reduceGE, ivec_get hlt, r1.cell, ro.cell, rx.cell, r8.cell]
          refine Chk_intro (by omega) (t11.idx g1 fun b4 o4 c4 => ?_)
          simp -dsimp only [go_sem, ↓reduceIte, reduceCtorEq, Nat.reduceEqDiff, Nat.reduceAdd, Nat.reduceLeDiff, Nat.reduceMul, Int.reduceBEq, Int.reduceBNe, Int.reduceLT, Int.reduceLE, Int.reduceGT, Int.reduceGE, c4, r1.cell, ro.cell, rx.cell, r8.cell]
          refine Chk_intro (by omega) ?_
          simp -dsimp only [go_sem, ↓reduceIte, reduceCtorEq, Nat.reduceEqDiff, Nat.reduceAdd, Nat.reduceLeDiff, Nat.reduceMul, Int.reduceBEq, Int.reduceBNe, Int.reduceLT, Int.reduceLE, Int.reduceGT, Int.reduceGE, ivec_get hlt2, r1.cell, ro.cell, rx.cell, r8.cell]
          refine Chk_intro (by omega) ?_
          simp -dsimp only [go_sem, ↓reduceIte, reduceCtorEq, Nat.reduceEqDiff, Nat.reduceAdd, Nat.reduceLeDiff, Nat.reduceMul, Int.reduceBEq, Int.reduceBNe, Int.reduceLT, Int.reduceLE, Int.reduceGT, Int.reduceGE, r1.cell, ro.cell, rx.cell, r8.cell]
          refine Chk_intro (t11.wr g1 g2) fun h12 s12 => ?_
          have s12_z := s12.size
          have w1 := t11.row (F p) g1
          have t12 := t11.set g1 s12
          have s12.fr_z := s12.fr.size
          replace p0 := p0.fresh s12.fr (by omega)
          replace r1 := r1.fr s12.fr (by omega)
          replace ro := ro.fr s12.fr (by omega)
          replace rx := rx.fr s12.fr (by omega)
          replace r8 := r8.fr s12.fr (by omega)
          simp -dsimp only [go_sem, ↓reduceIte, reduceCtorEq, Nat.reduceEqDiff, Nat.reduceAdd, Nat.reduceLeDiff, Nat.reduceMul, Int.reduceBEq, Int.reduceBNe, Int.reduceLT, Int.reduceLE, Int.reduceGT, Int.reduceGE, r1.cell, ro.cell, rx.cell, r8.cell]
          simp -dsimp (disch := omega) only [wrap64]
          refine ⟨q + 1, by omega, by simp [Le, find], by omega, p0, by omega, r1, ro, rx, r8, _, t12, fun x y => ?_⟩
          by_cases hxy : x = F p ∧ y = F q
          · rw [if_pos hxy]
            simp only [true_iff]
            exact .inr ⟨q, by omega, hm, by simpa using hs, hxy.1.symm, hxy.2.symm⟩
          · rw [if_neg hxy, hN]
            refine or_congr_right ⟨fun ⟨q', h1, h2⟩ => ⟨q', by omega, h2⟩, fun ⟨q', h1, h2, h3, h4, h5⟩ => ⟨q', ?_, h2, h3, h4, h5⟩⟩
            by_cases hqq : q' = q
            · subst hqq; exact absurd ⟨h4.symm, h5.symm⟩ hxy
            · omega
    · have hqn : q = n := by omega
      subst hqn
      simp -dsimp only [go_sem, ↓reduceIte, reduceCtorEq, Nat.reduceEqDiff, Nat.reduceAdd, Nat.reduceLeDiff, Nat.reduceMul, Int.reduceBEq, Int.reduceBNe, Int.reduceLT, Int.reduceLE, Int.reduceGT, Int.reduceGE, r1.cell, ro.cell, rx.cell, r8.cell]
      simp -dsimp (disch := omega) only [wrap64]
      refine ⟨p + 1, by omega, by simp [Le, find], by omega, p0, by omega, r1, ro, rx, r8, N, t11, fun x y => ?_⟩
      rw [hN]
      constructor
      · rintro (⟨p', h1, h2⟩ | ⟨q', h1, h2⟩)
        · exact ⟨p', by omega, h2⟩
        · exact ⟨p, by omega, q', h1, h2⟩
      · rintro ⟨p', h1, q', h2⟩
        by_cases hpp : p' = p
        · subst hpp; exact .inr ⟨q', h2⟩
        · exact .inl ⟨p', by omega, q', h2⟩
  obtain rfl : n = p := by omega
  have t10 := t10.congr (M' := glueM n M F S) fun x y hx hy => Bool.eq_iff_iff.2 (by rw [hN, glueM_true])
  have hS : glueS n M l = orCyc (glueGo n F S (glueM n M F S) n []) := by simp only [glueS, ← hgl]
  clear hN
  generalize glueM n M F S = G at hS t10
  have a10 := p0.size
  simp -dsimp only [go_sem, ↓reduceIte, reduceCtorEq, Nat.reduceEqDiff, Nat.reduceAdd, Nat.reduceLeDiff, Nat.reduceMul, Int.reduceBEq, Int.reduceBNe, Int.reduceLT, Int.reduceLE, Int.reduceGT, Int.reduceGE, r1.cell, ro.cell, rx.cell, r8.cell]
  refine Chk_intro (by omega) ?_
  intro bd h11 n11
  have n11_a := n11.at_
  have n11_z := n11.size
  replace p0 := p0.fresh (n11.fr (lo := 0) (hi := 0)) (by omega)
  replace r1 := r1.fr (n11.fr (lo := 0) (hi := 0)) (by omega)
  replace ro := ro.fr (n11.fr (lo := 0) (hi := 0)) (by omega)
  replace rx := rx.fr (n11.fr (lo := 0) (hi := 0)) (by omega)
  replace r8 := r8.fr (n11.fr (lo := 0) (hi := 0)) (by omega)
  replace t10 := t10.fr (n11.fr (lo := 0) (hi := 0)) (by omega)
  have rd := n11.row
  rw [zeros_one, Int.toNat_natCast, brow_false] at rd
  simp -dsimp only [go_sem, ↓reduceIte, reduceCtorEq, Nat.reduceEqDiff, Nat.reduceAdd, Nat.reduceLeDiff, Nat.reduceMul, Int.reduceBEq, Int.reduceBNe, Int.reduceLT, Int.reduceLE, Int.reduceGT, Int.reduceGE, r1.cell, ro.cell, rx.cell, r8.cell, rd.cell]
  refine loop_intro (fun s : Value × Nat => [(2, .pointer (some ⟨b1, 0, none⟩)), (6, .slice (some ⟨bo, 0, none⟩) n n), (7, .slice (some ⟨bx, 0, none⟩) n n), (13, .pointer (some ⟨b8, 0, none⟩)), (16, .slice (some ⟨bd, 0, none⟩) n n), (17, s.1)])
    (fun s h' => Fr 0 0 h h' ∧ h11.size ≤ h'.size ∧ Rw h' b1 [.int .i64 n, .slice sa n sc] ∧ Rw h' bo (ivec n fun p => (F p : Int)) ∧ Rw h' bx (ivec n S) ∧ Rw h' b8 [.int .i64 n, .slice za n zc] ∧ Tab h' h6.size h7.size (.slice za n zc) n n Z G ∧ ∃ m : List Nat, m.length = s.2 ∧ m.length ≤ n + 1 ∧ Rw h' bd (brow n m.contains) ∧ Holder 1 h' s.1 m.length (natsV m) h11.size ∧ ∃ k, n ≤ m.length + k ∧ glueGo n F S G k m = glueGo n F S G n []) (fun s => n - s.2) (.slice none 0 0, 0) ?_ ?_ ?_
  · simp [Le, find]
  · exact ⟨p0, by omega, r1, ro, rx, r8, t10, [], rfl, by simp, rd, .none _ _ _, n, by simp, rfl⟩
  rintro ⟨lv, i⟩ h12 ⟨p0, y12, r1, ro, rx, r8, t12, m, hmi, hmn, rd, ol, k, hk, hgo⟩
  dsimp only at hmi ol ⊢
  subst hmi
  have p0_z := p0.size
  have r1_l := r1.lt
  have ro_l := ro.lt
  have rx_l := rx.lt
  have r8_l := r8.lt
  have rd_l := rd.lt
  have ol_l := ol.top
  obtain ⟨va, vc, rfl⟩ := ol.is
  simp -dsimp only [go_sem, ↓reduceIte, reduceCtorEq, Nat.reduceEqDiff, Nat.reduceAdd, Nat.reduceLeDiff, Nat.reduceMul, Int.reduceBEq, Int.reduceBNe, Int.reduceLT, Int.reduceLE, Int.reduceGT, Int.reduceGE, r1.cell, ro.cell, rx.cell, r8.cell, rd.cell]
  refine ⟨fun hlt => ?_, fun hge => ?_⟩
  · have hlt : m.length < n := by omega
    simp -dsimp only [go_sem, ↓reduceIte, reduceCtorEq, Nat.reduceEqDiff, Nat.reduceAdd, Nat.reduceLeDiff, Nat.reduceMul, Int.reduceBEq, Int.reduceBNe, Int.reduceLT, Int.reduceLE, Int.reduceGT, Int.reduceGE, r1.cell, ro.cell, rx.cell, r8.cell, rd.cell]
    rw [wrap64 (by omega) (by omega)]
    refine loop_intro (fun q : Nat => [(2, .pointer (some ⟨b1, 0, none⟩)), (6, .slice (some ⟨bo, 0, none⟩) n n), (7, .slice (some ⟨bx, 0, none⟩) n n), (13, .pointer (some ⟨b8, 0, none⟩)), (16, .slice (some ⟨bd, 0, none⟩) n n), (17, .slice va m.length vc), (18, .int .i64 (nx (lf (fun p => F p == p && freeB n G m.contains p) n q))), (19, .int .i64 ((q : Int) - 1))])
      (fun q h' => q ≤ n ∧ Fr 0 0 h12 h') (fun q => q) n ?_ ?_ ?_
    · simp [Le, find, lf_end, nx]
    · exact ⟨by omega, .refl _ _ _⟩
    rintro q h13 ⟨hq, p13⟩
    have p13_z := p13.size
    replace p0 := p0.fresh p13 (by omega)
    replace r1 := r1.fr p13 (by omega)
    replace ro := ro.fr p13 (by omega)
    replace rx := rx.fr p13 (by omega)
    replace r8 := r8.fr p13 (by omega)
    replace rd := rd.fr p13 (by omega)
    replace ol := ol.fr p13 (by have := ol.at_; omega)
    replace t12 := t12.fr p13 (by omega)
    simp -dsimp only [go_sem, ↓reduceIte, reduceCtorEq, Nat.reduceEqDiff, Nat.reduceAdd, Nat.reduceLeDiff, Nat.reduceMul, Int.reduceBEq, Int.reduceBNe, Int.reduceLT, Int.reduceLE, Int.reduceGT, Int.reduceGE, r1.cell, ro.cell, rx.cell, r8.cell, rd.cell]
    refine ⟨fun hq0 => ?_, fun hq0 => ?_⟩
    · obtain ⟨x, rfl⟩ : ∃ x, q = x + 1 := ⟨q - 1, by omega⟩
      have hx : x < n := by omega
      rw [show ((x + 1 : Nat) : Int) - 1 = (x : Int) from by omega]
      simp -dsimp only [go_sem, ↓reduceIte, reduceCtorEq, Nat.reduceEqDiff, Nat.reduceAdd, Nat.reduceLeDiff, Nat.reduceMul, Int.reduceBEq, Int.reduceBNe, Int.reduceLT, Int.reduceLE, Int.reduceGT, Int.reduceGE, r1.cell, ro.cell, rx.cell, r8.cell, rd.cell]
      refine Chk_intro (by omega) ?_
      simp -dsimp only [go_sem, ↓reduceIte, reduceCtorEq, Nat.reduceEqDiff, Nat.reduceAdd, Nat.reduceLeDiff, Nat.reduceMul, Int.reduceBEq, Int.reduceBNe, Int.reduceLT, Int.reduceLE, Int.reduceGT, Int.reduceGE, ivec_get hx, r1.cell, ro.cell, rx.cell, r8.cell, rd.cell]
      cases hF : ((F x : Int) == (x : Int)) with
      | false =>
        have hF' : (F x == x) = false := by simp at hF ⊢; omega
        simp -dsimp only [go_sem, ↓reduceIte, reduceCtorEq, Nat.reduceEqDiff, Nat.reduceAdd, Nat.reduceLeDiff, Nat.reduceMul, Int.reduceBEq, Int.reduceBNe, Int.reduceLT, Int.reduceLE, Int.reduceGT, Int.reduceGE, r1.cell, ro.cell, rx.cell, r8.cell, rd.cell]
        simp -dsimp (disch := omega) only [wrap64]
        exact ⟨x, by omega, by simp [Le, find, lf_step _ hx, hF', nx], by omega, p13⟩
      | true =>
        have hF' : (F x == x) = true := by simp at hF ⊢; omega
        simp -dsimp only [go_sem, ↓reduceIte, reduceCtorEq, Nat.reduceEqDiff, Nat.reduceAdd, Nat.reduceLeDiff, Nat.reduceMul, Int.reduceBEq, Int.reduceBNe, Int.reduceLT, Int.reduceLE, Int.reduceGT, Int.reduceGE, r1.cell, ro.cell, rx.cell, r8.cell, rd.cell]
        refine call_of (ref2_free (n := n) (M := G) (D := m.contains) (lo := h6.size) (hi := h7.size) ⟨hn, _, _, rfl, t12⟩ (rd.rd (by simp)) hx) ?_
        rintro v h14 ⟨f14, rfl⟩
        simp -dsimp only [go_sem, ↓reduceIte, reduceCtorEq, Nat.reduceEqDiff, Nat.reduceAdd, Nat.reduceLeDiff, Nat.reduceMul, Int.reduceBEq, Int.reduceBNe, Int.reduceLT, Int.reduceLE, Int.reduceGT, Int.reduceGE, r1.cell, ro.cell, rx.cell, r8.cell, rd.cell]
        refine ⟨fun hf => ?_, fun hf => ?_⟩
        · simp -dsimp only [go_sem, ↓reduceIte, reduceCtorEq, Nat.reduceEqDiff, Nat.reduceAdd, Nat.reduceLeDiff, Nat.reduceMul, Int.reduceBEq, Int.reduceBNe, Int.reduceLT, Int.reduceLE, Int.reduceGT, Int.reduceGE, r1.cell, ro.cell, rx.cell, r8.cell, rd.cell]
          simp -dsimp (disch := omega) only [wrap64]
          exact ⟨x, by omega, by simp [Le, find, lf_step _ hx, hF', hf, nx], by omega, p13.trans f14⟩
        · simp -dsimp only [go_sem, ↓reduceIte, reduceCtorEq, Nat.reduceEqDiff, Nat.reduceAdd, Nat.reduceLeDiff, Nat.reduceMul, Int.reduceBEq, Int.reduceBNe, Int.reduceLT, Int.reduceLE, Int.reduceGT, Int.reduceGE, r1.cell, ro.cell, rx.cell, r8.cell, rd.cell]
          simp -dsimp (disch := omega) only [wrap64]
          exact ⟨x, by omega, by simp [Le, find, lf_step _ hx, hF', hf, nx], by omega, p13.trans f14⟩
    · obtain rfl : q = 0 := by omega
      obtain ⟨k, rfl⟩ : ∃ k', k = k' + 1 := ⟨k - 1, by omega⟩
      simp only [glueGo, if_neg (show ¬ n ≤ m.length by omega)] at hgo
      cases hx : lf (fun p => F p == p && freeB n G m.contains p) n 0 with
      | none =>
        rw [hx] at hgo
        dsimp only at hgo
        simp -dsimp only [go_sem, ↓reduceIte, reduceCtorEq, Nat.reduceEqDiff, Nat.reduceAdd, Nat.reduceLeDiff, Nat.reduceMul, Int.reduceBEq, Int.reduceBNe, Int.reduceLT, Int.reduceLE, Int.reduceGT, Int.reduceGE, r1.cell, ro.cell, rx.cell, r8.cell, rd.cell]
        exact ⟨p0, by rw [hS, ← hgo]; rfl⟩
      | some x =>
        rw [hx] at hgo
        dsimp only at hgo
        obtain ⟨_, hxn, hfx⟩ := lf_some hx
        simp -dsimp only [go_sem, ↓reduceIte, reduceCtorEq, Nat.reduceEqDiff, Nat.reduceAdd, Nat.reduceLeDiff, Nat.reduceMul, Int.reduceBEq, Int.reduceBNe, Int.reduceLT, Int.reduceLE, Int.reduceGT, Int.reduceGE, r1.cell, ro.cell, rx.cell, r8.cell, rd.cell]
        refine Chk_intro (by omega) ?_
        simp -dsimp only [go_sem, ↓reduceIte, reduceCtorEq, Nat.reduceEqDiff, Nat.reduceAdd, Nat.reduceLeDiff, Nat.reduceMul, Int.reduceBEq, Int.reduceBNe, Int.reduceLT, Int.reduceLE, Int.reduceGT, Int.reduceGE, r1.cell, ro.cell, rx.cell, r8.cell, rd.cell]
        refine Chk_intro (rd.wr (by first | (simp; done) | (simp; omega))) fun h14 s14 => ?_
        have s14_z := s14.size
        replace p0 := p0.fresh s14.fr (by omega)
        replace r1 := r1.fr s14.fr (by omega)
        replace ro := ro.fr s14.fr (by omega)
        replace rx := rx.fr s14.fr (by omega)
        replace r8 := r8.fr s14.fr (by omega)
        replace ol := ol.fr s14.fr (by have := ol.at_; omega)
        replace t12 := t12.fr s14.fr (by omega)
        replace rd := s14.row rd
        try simp only [cl_int, cl_bool, cl_slice, cl_ptr, putAt_one, List.set_cons_zero, List.set_cons_succ, ivec_set, brow_upd] at rd
        simp -dsimp only [go_sem, ↓reduceIte, reduceCtorEq, Nat.reduceEqDiff, Nat.reduceAdd, Nat.reduceLeDiff, Nat.reduceMul, Int.reduceBEq, Int.reduceBNe, Int.reduceLT, Int.reduceLE, Int.reduceGT, Int.reduceGE, nx_some, r1.cell, ro.cell, rx.cell, r8.cell, rd.cell]
        intro b15 h15 n15
        have n15_a := n15.at_
        have n15_z := n15.size
        replace p0 := p0.fresh (n15.fr (lo := 0) (hi := 0)) (by omega)
        replace r1 := r1.fr (n15.fr (lo := 0) (hi := 0)) (by omega)
        replace ro := ro.fr (n15.fr (lo := 0) (hi := 0)) (by omega)
        replace rx := rx.fr (n15.fr (lo := 0) (hi := 0)) (by omega)
        replace r8 := r8.fr (n15.fr (lo := 0) (hi := 0)) (by omega)
        replace rd := rd.fr (n15.fr (lo := 0) (hi := 0)) (by omega)
        replace ol := ol.fr (n15.fr (lo := 0) (hi := 0)) (by have := ol.at_; omega)
        replace t12 := t12.fr (n15.fr (lo := 0) (hi := 0)) (by omega)
        simp -dsimp only [go_sem, ↓reduceIte, reduceCtorEq, Nat.reduceEqDiff, Nat.reduceAdd, Nat.reduceLeDiff, Nat.reduceMul, Int.reduceBEq, Int.reduceBNe, Int.reduceLT, Int.reduceLE, Int.reduceGT, Int.reduceGE, n15.row.cell, r1.cell, ro.cell, rx.cell, r8.cell, rd.cell]
        refine ol.append (by omega) rfl (by omega) (by simp) (by omega) fun v16 h16 o_new f16 e_app => ?_
        have f16_z := f16.size
        have o_at := ol.at_
        replace p0 := p0.fresh f16 (by omega)
        replace r1 := r1.fr f16 (by omega)
        replace ro := ro.fr f16 (by omega)
        replace rx := rx.fr f16 (by omega)
        replace r8 := r8.fr f16 (by omega)
        replace rd := rd.fr f16 (by omega)
        replace t12 := t12.fr f16 (by omega)
        clear o_at e_app
        replace ol := o_new
        have ol_l := ol.top
        simp -dsimp only [go_sem, ↓reduceIte, reduceCtorEq, Nat.reduceEqDiff, Nat.reduceAdd, Nat.reduceLeDiff, Nat.reduceMul, Int.reduceBEq, Int.reduceBNe, Int.reduceLT, Int.reduceLE, Int.reduceGT, Int.reduceGE, nx_some, r1.cell, ro.cell, rx.cell, r8.cell, rd.cell]
        refine Chk_intro (by omega) ?_
        simp -dsimp only [go_sem, ↓reduceIte, reduceCtorEq, Nat.reduceEqDiff, Nat.reduceAdd, Nat.reduceLeDiff, Nat.reduceMul, Int.reduceBEq, Int.reduceBNe, Int.reduceLT, Int.reduceLE, Int.reduceGT, Int.reduceGE, ivec_get hxn, r1.cell, ro.cell, rx.cell, r8.cell, rd.cell]
        have e1 : upd m.contains x true = (m ++ [x]).contains := by
          funext j; unfold upd; by_cases hj : j = x <;> simp [hj]
        rw [e1] at rd
        have ol2 : Holder 1 h16 v16 (m ++ [x]).length (natsV (m ++ [x])) h11.size := by simpa [natsV] using ol
        have ol2_l := ol2.top
        have hml : (m ++ [x]).length = m.length + 1 := by simp
        rcases hG.snd x hxn with hs | ⟨y, hy, hs, hyx, hyF, hxF⟩
        · rw [hs, if_neg (by decide)] at hgo
          simp -dsimp only [go_sem, ↓reduceIte, reduceCtorEq, Nat.reduceEqDiff, Nat.reduceAdd, Nat.reduceLeDiff, Nat.reduceMul, Int.reduceBEq, Int.reduceBNe, Int.reduceLT, Int.reduceLE, Int.reduceGT, Int.reduceGE, hs, r1.cell, ro.cell, rx.cell, r8.cell, rd.cell]
          exact ⟨(v16, (m ++ [x]).length), by dsimp only; omega, by simp [Le, find], p0, by omega, r1, ro, rx, r8, t12, m ++ [x], rfl, by omega, rd, ol2, k, by omega, hgo⟩
        · rw [hs, if_pos (by omega), Int.toNat_natCast] at hgo
          obtain ⟨wa, wc, rfl⟩ := ol2.is
          simp -dsimp only [go_sem, ↓reduceIte, reduceCtorEq, Nat.reduceEqDiff, Nat.reduceAdd, Nat.reduceLeDiff, Nat.reduceMul, Int.reduceBEq, Int.reduceBNe, Int.reduceLT, Int.reduceLE, Int.reduceGT, Int.reduceGE, hs, r1.cell, ro.cell, rx.cell, r8.cell, rd.cell]
          refine Chk_intro (by omega) ?_
          simp -dsimp only [go_sem, ↓reduceIte, reduceCtorEq, Nat.reduceEqDiff, Nat.reduceAdd, Nat.reduceLeDiff, Nat.reduceMul, Int.reduceBEq, Int.reduceBNe, Int.reduceLT, Int.reduceLE, Int.reduceGT, Int.reduceGE, ivec_get hxn, hs, r1.cell, ro.cell, rx.cell, r8.cell, rd.cell]
          refine Chk_intro (by omega) ?_
          simp -dsimp only [go_sem, ↓reduceIte, reduceCtorEq, Nat.reduceEqDiff, Nat.reduceAdd, Nat.reduceLeDiff, Nat.reduceMul, Int.reduceBEq, Int.reduceBNe, Int.reduceLT, Int.reduceLE, Int.reduceGT, Int.reduceGE, r1.cell, ro.cell, rx.cell, r8.cell, rd.cell]
          refine Chk_intro (rd.wr (by first | (simp; done) | (simp; omega))) fun h17 s17 => ?_
          have s17_z := s17.size
          replace p0 := p0.fresh s17.fr (by omega)
          replace r1 := r1.fr s17.fr (by omega)
          replace ro := ro.fr s17.fr (by omega)
          replace rx := rx.fr s17.fr (by omega)
          replace r8 := r8.fr s17.fr (by omega)
          replace t12 := t12.fr s17.fr (by omega)
          replace ol2 := ol2.fr s17.fr (by have := ol2.at_; omega)
          replace rd := s17.row rd
          try simp only [cl_int, cl_bool, cl_slice, cl_ptr, putAt_one, List.set_cons_zero, List.set_cons_succ, ivec_set, brow_upd] at rd
          simp -dsimp only [go_sem, ↓reduceIte, reduceCtorEq, Nat.reduceEqDiff, Nat.reduceAdd, Nat.reduceLeDiff, Nat.reduceMul, Int.reduceBEq, Int.reduceBNe, Int.reduceLT, Int.reduceLE, Int.reduceGT, Int.reduceGE, r1.cell, ro.cell, rx.cell, r8.cell, rd.cell]
          refine Chk_intro (by omega) ?_
          simp -dsimp only [go_sem, ↓reduceIte, reduceCtorEq, Nat.reduceEqDiff, Nat.reduceAdd, Nat.reduceLeDiff, Nat.reduceMul, Int.reduceBEq, Int.reduceBNe, Int.reduceLT, Int.reduceLE, Int.reduceGT, Int.reduceGE, ivec_get hxn, hs, r1.cell, ro.cell, rx.cell, r8.cell, rd.cell]
          intro b18 h18 n18
          have n18_a := n18.at_
          have n18_z := n18.size
          replace p0 := p0.fresh (n18.fr (lo := 0) (hi := 0)) (by omega)
          replace r1 := r1.fr (n18.fr (lo := 0) (hi := 0)) (by omega)
          replace ro := ro.fr (n18.fr (lo := 0) (hi := 0)) (by omega)
          replace rx := rx.fr (n18.fr (lo := 0) (hi := 0)) (by omega)
          replace r8 := r8.fr (n18.fr (lo := 0) (hi := 0)) (by omega)
          replace rd := rd.fr (n18.fr (lo := 0) (hi := 0)) (by omega)
          replace t12 := t12.fr (n18.fr (lo := 0) (hi := 0)) (by omega)
          replace ol2 := ol2.fr (n18.fr (lo := 0) (hi := 0)) (by have := ol2.at_; omega)
          simp -dsimp only [go_sem, ↓reduceIte, reduceCtorEq, Nat.reduceEqDiff, Nat.reduceAdd, Nat.reduceLeDiff, Nat.reduceMul, Int.reduceBEq, Int.reduceBNe, Int.reduceLT, Int.reduceLE, Int.reduceGT, Int.reduceGE, n18.row.cell, r1.cell, ro.cell, rx.cell, r8.cell, rd.cell]
          refine ol2.append (by omega) rfl (by omega) (by simp) (by omega) fun v19 h19 o_new f19 e_app => ?_
          have f19_z := f19.size
          have o_at := ol2.at_
          replace p0 := p0.fresh f19 (by omega)
          replace r1 := r1.fr f19 (by omega)
          replace ro := ro.fr f19 (by omega)
          replace rx := rx.fr f19 (by omega)
          replace r8 := r8.fr f19 (by omega)
          replace rd := rd.fr f19 (by omega)
          replace t12 := t12.fr f19 (by omega)
          clear o_at e_app
          replace ol2 := o_new
          have ol2_l := ol2.top
          simp -dsimp only [go_sem, ↓reduceIte, reduceCtorEq, Nat.reduceEqDiff, Nat.reduceAdd, Nat.reduceLeDiff, Nat.reduceMul, Int.reduceBEq, Int.reduceBNe, Int.reduceLT, Int.reduceLE, Int.reduceGT, Int.reduceGE, r1.cell, ro.cell, rx.cell, r8.cell, rd.cell]
          have e2 : upd (m ++ [x]).contains y true = (m ++ [x] ++ [y]).contains := by
            funext j; unfold upd; by_cases hj : j = y <;> simp [hj]
          rw [e2] at rd
          have hml2 : (m ++ [x] ++ [y]).length = m.length + 2 := by simp
          refine ⟨(v19, (m ++ [x] ++ [y]).length), by dsimp only; omega, by simp [Le, find], p0, by omega, r1, ro, rx, r8, t12, m ++ [x] ++ [y], rfl, by omega, rd, ?_, k, by omega, hgo⟩
          rw [natsV_append, List.length_append]; exact ol2
  · simp -dsimp only [go_sem, ↓reduceIte, reduceCtorEq, Nat.reduceEqDiff, Nat.reduceAdd, Nat.reduceLeDiff, Nat.reduceMul, Int.reduceBEq, Int.reduceBNe, Int.reduceLT, Int.reduceLE, Int.reduceGT, Int.reduceGE, r1.cell, ro.cell, rx.cell, r8.cell, rd.cell]
    refine ⟨p0, ?_⟩
    rw [hS, ← hgo, glueGo_end (by omega)]
    exact ⟨_, rfl, ol.lower (by omega)⟩
end Go.Proofs.Tst
namespace Go.Proofs.Tst
open Go Go.Vc
/-- How many points that are not done must come ahead of p. -/
def cnt (n : Nat) (M : Nat → Nat → Bool) (D : Nat → Bool) (p : Nat) : Nat := (List.range n).countP fun a => M a p && !D a
theorem cnt_zero {n : Nat} {M : Nat → Nat → Bool} {D : Nat → Bool} {p : Nat} : freeB n M D p = (!D p && cnt n M D p == 0) := by
  unfold freeB cnt
  congr 1
  rw [Bool.eq_iff_iff]
  simp only [List.all_eq_true, List.mem_range, beq_iff_eq, List.countP_eq_zero]
  refine forall_congr' fun a => forall_congr' fun _ => ?_
  cases M a p <;> cases D a <;> simp
theorem cnt_le (n : Nat) (M : Nat → Nat → Bool) (D : Nat → Bool) (p : Nat) : cnt n M D p ≤ n := by
  unfold cnt; refine Nat.le_trans List.countP_le_length (by simp)
/-- Counts in cells. -/
def cntV (n : Nat) (c : Nat → Nat) : List Value := (List.range n).map fun (p : Nat) => Value.int .i64 (c p : Int)
@[simp] theorem length_cntV (n : Nat) (c : Nat → Nat) : (cntV n c).length = n := by simp [cntV]
theorem cntV_get {n : Nat} {c : Nat → Nat} {p : Nat} (hp : p < n) : (cntV n c)[p]? = some (.int .i64 (c p : Int)) := by simp [cntV, hp]
theorem cntV_congr {n : Nat} {c d : Nat → Nat} (h : ∀ p, p < n → c p = d p) : cntV n c = cntV n d := by
  unfold cntV; apply List.map_congr_left; intro i hi; rw [h i (List.mem_range.1 hi)]
theorem cntV_set {n : Nat} {c : Nat → Nat} {p x : Nat} : (cntV n c).set p (.int .i64 (x : Int)) = cntV n fun q => if q = p then x else c q := by
  apply List.ext_getElem?; intro k
  by_cases hk : k < n
  · rw [cntV_get hk, List.getElem?_set]
    by_cases hj : p = k
    · subst hj; simp [hk]
    · rw [if_neg hj, cntV_get hk, if_neg (fun h => hj h.symm)]
  · rw [List.getElem?_eq_none (by simp; omega), List.getElem?_eq_none (by simp; omega)]

/-- The blocks of a chooser. -/
structure ChB where
  (bn bw bb bp ww bk pw : Nat)
  B : Nat → Value
/-- What a chooser keeps, its points D placed. -/
structure Chs (h : Heap) (lo hi : Nat) (c : ChB) (n : Nat) (M : Nat → Nat → Bool) (D : Nat → Bool) : Prop where
  rn : Rw h c.bn [.int .i64 n]
  rw_ : Rw h c.bw [.slice (some ⟨c.ww, 0, none⟩) n n]
  rb : Rw h c.bb [.slice (some ⟨c.bk, 0, none⟩) n n]
  rp : Rw h c.bp [.slice (some ⟨c.pw, 0, none⟩) n n]
  waits : Rw h c.ww (cntV n (cnt n M D))
  placed : Rw h c.pw (brow n D)
  behind : Rw h c.bk ((List.range n).map c.B)
  beh : ∀ p, p < n → Holder 1 h (c.B p) (rest (M p) n 0).length (natsV (rest (M p) n 0)) lo ∧ bl (c.B p) ≠ c.ww ∧ bl (c.B p) ≠ c.pw ∧ bh (c.B p) ≤ hi
  at_ : lo ≤ c.bn ∧ c.bn < hi ∧ lo ≤ c.bw ∧ c.bw < hi ∧ lo ≤ c.bb ∧ c.bb < hi ∧ lo ≤ c.bp ∧ c.bp < hi ∧ lo ≤ c.ww ∧ c.ww < hi ∧ lo ≤ c.pw ∧ c.pw < hi ∧ lo ≤ c.bk ∧ c.bk < hi
  ne : c.ww ≠ c.pw ∧ c.ww ≠ c.bn ∧ c.ww ≠ c.bw ∧ c.ww ≠ c.bb ∧ c.ww ≠ c.bp ∧ c.ww ≠ c.bk ∧ c.pw ≠ c.bn ∧ c.pw ≠ c.bw ∧ c.pw ≠ c.bb ∧ c.pw ≠ c.bp ∧ c.pw ≠ c.bk
  small : n ≤ 256
theorem Chs.fr {h h' : Heap} {lo hi l r n : Nat} {c : ChB} {M : Nat → Nat → Bool} {D : Nat → Bool} (t : Chs h lo hi c n M D) (f : Fr l r h h') (hd : hi ≤ l ∨ r ≤ lo ∨ r ≤ l) : Chs h' lo hi c n M D := by
  have a := t.at_
  refine ⟨t.rn.fr f (by omega), t.rw_.fr f (by omega), t.rb.fr f (by omega), t.rp.fr f (by omega), t.waits.fr f (by omega), t.placed.fr f (by omega), t.behind.fr f (by omega), fun p hp => ?_, a, t.ne, t.small⟩
  obtain ⟨h1, h2, h3, h4⟩ := t.beh p hp
  have := h1.at_
  exact ⟨h1.fr f (by omega), h2, h3, h4⟩
def ChB.next (c : ChB) : Value := .func (.func 103) #[] #[.pointer (some ⟨c.bn, 0, none⟩), .pointer (some ⟨c.bp, 0, none⟩), .pointer (some ⟨c.bw, 0, none⟩)]
def ChB.place (c : ChB) : Value := .func (.func 104) #[] #[.pointer (some ⟨c.bp, 0, none⟩), .pointer (some ⟨c.bb, 0, none⟩), .pointer (some ⟨c.bw, 0, none⟩)]

theorem chooser_next {h : Heap} {lo hi n : Nat} {c : ChB} {M : Nat → Nat → Bool} {D : Nat → Bool} (t : Chs h lo hi c n M D) {q : Nat} (hq : q ≤ n) :
    Con Tryd.prog 103 #[.int .i64 q, .pointer (some ⟨c.bn, 0, none⟩), .pointer (some ⟨c.bp, 0, none⟩), .pointer (some ⟨c.bw, 0, none⟩)] h fun v h' => h' = h ∧ v = .int .i64 (nx (lf (freeB n M D) n q)) := by
  refine con_order_chooser_1 ?_
  have hs := t.small
  simp -dsimp only [go_sem, ↓reduceIte, reduceCtorEq, Nat.reduceEqDiff, Nat.reduceAdd, Nat.reduceLeDiff, Nat.reduceMul, Int.reduceBEq, Int.reduceBNe, Int.reduceLT, Int.reduceLE, Int.reduceGT, Int.reduceGE]
  refine loop_intro (fun i : Nat => [(1, .pointer (some ⟨c.bn, 0, none⟩)), (2, .pointer (some ⟨c.bp, 0, none⟩)), (3, .pointer (some ⟨c.bw, 0, none⟩)), (6, .int .i64 i)])
    (fun i h' => h' = h ∧ i ≤ n ∧ lf (freeB n M D) n q = lf (freeB n M D) n i) (fun i => n - i) q ?_ ?_ ?_
  · simp [Le, find]
  · exact ⟨rfl, hq, rfl⟩
  rintro i h1 ⟨rfl, hi', hlf⟩
  simp -dsimp only [go_sem, ↓reduceIte, reduceCtorEq, Nat.reduceEqDiff, Nat.reduceAdd, Nat.reduceLeDiff, Nat.reduceMul, Int.reduceBEq, Int.reduceBNe, Int.reduceLT, Int.reduceLE, Int.reduceGT, Int.reduceGE, t.rn.cell]
  refine ⟨fun hlt => ?_, fun hge => ?_⟩
  · have hlt : i < n := by omega
    simp -dsimp only [go_sem, ↓reduceIte, reduceCtorEq, Nat.reduceEqDiff, Nat.reduceAdd, Nat.reduceLeDiff, Nat.reduceMul, Int.reduceBEq, Int.reduceBNe, Int.reduceLT, Int.reduceLE, Int.reduceGT, Int.reduceGE, t.rp.cell]
    refine Chk_intro (by omega) ?_
    simp -dsimp only [go_sem, ↓reduceIte, reduceCtorEq, Nat.reduceEqDiff, Nat.reduceAdd, Nat.reduceLeDiff, Nat.reduceMul, Int.reduceBEq, Int.reduceBNe, Int.reduceLT, Int.reduceLE, Int.reduceGT, Int.reduceGE, t.placed.cell, brow_get hlt]
    cases hD : D i with
    | true =>
      simp -dsimp only [go_sem, ↓reduceIte, reduceCtorEq, Nat.reduceEqDiff, Nat.reduceAdd, Nat.reduceLeDiff, Nat.reduceMul, Int.reduceBEq, Int.reduceBNe, Int.reduceLT, Int.reduceLE, Int.reduceGT, Int.reduceGE]
      simp -dsimp (disch := omega) only [wrap64]
      exact ⟨i + 1, by omega, by simp [Le, find], by omega, by rw [hlf, lf_step _ hlt]; simp [freeB, hD]⟩
    | false =>
      simp -dsimp only [go_sem, ↓reduceIte, reduceCtorEq, Nat.reduceEqDiff, Nat.reduceAdd, Nat.reduceLeDiff, Nat.reduceMul, Int.reduceBEq, Int.reduceBNe, Int.reduceLT, Int.reduceLE, Int.reduceGT, Int.reduceGE, t.rw_.cell]
      refine Chk_intro (by omega) ?_
      simp -dsimp only [go_sem, ↓reduceIte, reduceCtorEq, Nat.reduceEqDiff, Nat.reduceAdd, Nat.reduceLeDiff, Nat.reduceMul, Int.reduceBEq, Int.reduceBNe, Int.reduceLT, Int.reduceLE, Int.reduceGT, Int.reduceGE, t.waits.cell, cntV_get hlt]
      refine ⟨fun h0 => ?_, fun h0 => ?_⟩
      · simp -dsimp only [go_sem, ↓reduceIte, reduceCtorEq, Nat.reduceEqDiff, Nat.reduceAdd, Nat.reduceLeDiff, Nat.reduceMul, Int.reduceBEq, Int.reduceBNe, Int.reduceLT, Int.reduceLE, Int.reduceGT, Int.reduceGE]
        have : freeB n M D i = true := by rw [cnt_zero, hD]; simpa using h0
        rw [hlf, lf_step _ hlt, if_pos this]; rfl
      · simp -dsimp only [go_sem, ↓reduceIte, reduceCtorEq, Nat.reduceEqDiff, Nat.reduceAdd, Nat.reduceLeDiff, Nat.reduceMul, Int.reduceBEq, Int.reduceBNe, Int.reduceLT, Int.reduceLE, Int.reduceGT, Int.reduceGE]
        simp -dsimp (disch := omega) only [wrap64]
        have : freeB n M D i = false := by rw [cnt_zero, hD]; simpa using h0
        exact ⟨i + 1, by omega, by simp [Le, find], by omega, by rw [hlf, lf_step _ hlt, if_neg (by rw [this]; simp)]⟩
  · simp -dsimp only [go_sem, ↓reduceIte, reduceCtorEq, Nat.reduceEqDiff, Nat.reduceAdd, Nat.reduceLeDiff, Nat.reduceMul, Int.reduceBEq, Int.reduceBNe, Int.reduceLT, Int.reduceLE, Int.reduceGT, Int.reduceGE]
    have : i = n := by omega
    rw [hlf, lf_end _ (by omega)]; rfl
end Go.Proofs.Tst
namespace Go.Proofs.Tst
open Go Go.Vc
theorem countP_upd {f g : Nat → Bool} {p : Nat} : ∀ (n : Nat), (∀ a, a ≠ p → f a = g a) → (List.range n).countP f + (if p < n then (g p).toNat else 0) = (List.range n).countP g + (if p < n then (f p).toNat else 0)
  | 0, _ => by simp
  | n + 1, h => by
    have ih := countP_upd n h
    rw [List.range_succ, List.countP_append, List.countP_append]
    by_cases hp : p = n
    · subst hp
      simp only [Nat.lt_irrefl, if_false, Nat.lt_succ_self, if_true] at ih ⊢
      rw [List.countP_singleton, List.countP_singleton]
      cases f p <;> cases g p <;> simp only [Bool.toNat_true, Bool.toNat_false, if_true, if_false, Bool.false_eq_true] <;> omega
    · have : f n = g n := h n (fun h => hp h.symm)
      have e : (p < n + 1) = (p < n) := by simp; omega
      simp only [e, List.countP_cons, List.countP_nil, this]
      omega
theorem cnt_upd {n : Nat} {M : Nat → Nat → Bool} {D : Nat → Bool} {p q : Nat} {b : Bool} (hp : p < n) (hD : D p = !b) :
    cnt n M (fun k => if k = p then b else D k) q + (M p q && b).toNat = cnt n M D q + (M p q && !b).toNat := by
  unfold cnt
  have := countP_upd (f := fun a => M a q && !(if a = p then b else D a)) (g := fun a => M a q && !D a) (p := p) n (fun a ha => by simp [ha])
  simp only [hp, if_true, hD, Bool.not_not] at this
  exact this

theorem chooser_place {h : Heap} {lo hi n : Nat} {c : ChB} {M : Nat → Nat → Bool} {D : Nat → Bool} (t : Chs h lo hi c n M D) {p : Nat} (hp : p < n) (b : Bool) (hD : D p = !b) :
    Con Tryd.prog 104 #[.int .i64 p, .bool b, .pointer (some ⟨c.bp, 0, none⟩), .pointer (some ⟨c.bb, 0, none⟩), .pointer (some ⟨c.bw, 0, none⟩)] h
      fun v h' => Fr lo hi h h' ∧ h'.size = h.size ∧ Chs h' lo hi c n M (fun k => if k = p then b else D k) := by
  refine con_order_chooser_2 ?_
  have hs := t.small
  have hne := t.ne
  have hat := t.at_
  simp -dsimp only [go_sem, ↓reduceIte, reduceCtorEq, Nat.reduceEqDiff, Nat.reduceAdd, Nat.reduceLeDiff, Nat.reduceMul, Int.reduceBEq, Int.reduceBNe, Int.reduceLT, Int.reduceLE, Int.reduceGT, Int.reduceGE, t.rp.cell]
  refine Chk_intro (by omega) ?_
  simp -dsimp only [go_sem, ↓reduceIte, reduceCtorEq, Nat.reduceEqDiff, Nat.reduceAdd, Nat.reduceLeDiff, Nat.reduceMul, Int.reduceBEq, Int.reduceBNe, Int.reduceLT, Int.reduceLE, Int.reduceGT, Int.reduceGE]
  refine Chk_intro (t.placed.wr (by simp; omega)) fun h1 s1 => ?_
  have z1 := s1.size
  have rp1 := s1.row t.placed
  rw [cl_bool, putAt_one, brow_set] at rp1
  have rn1 := s1.rw t.rn (by omega); have rw1 := s1.rw t.rw_ (by omega); have rb1 := s1.rw t.rb (by omega); have rpp1 := s1.rw t.rp (by omega); have wt1 := s1.rw t.waits (by omega); have bk1 := s1.rw t.behind (by omega)
  have beh1 : ∀ p, p < n → Holder 1 h1 (c.B p) (rest (M p) n 0).length (natsV (rest (M p) n 0)) lo := fun p hp => (t.beh p hp).1.fr s1.fr (by
    have := (t.beh p hp).1.at_; have := (t.beh p hp).2; omega)
  simp -dsimp only [go_sem, ↓reduceIte, reduceCtorEq, Nat.reduceEqDiff, Nat.reduceAdd, Nat.reduceLeDiff, Nat.reduceMul, Int.reduceBEq, Int.reduceBNe, Int.reduceLT, Int.reduceLE, Int.reduceGT, Int.reduceGE, rb1.cell]
  refine Chk_intro (by omega) ?_
  have hBp : ((List.range n).map c.B)[p]? = some (c.B p) := by simp [hp]
  have hB1 := (beh1 p hp)
  obtain ⟨ba, bc, hBv⟩ := hB1.is
  rw [hBv] at hBp hB1
  have hB2 := (t.beh p hp).2
  rw [hBv] at hB2
  simp -dsimp only [go_sem, ↓reduceIte, reduceCtorEq, Nat.reduceEqDiff, Nat.reduceAdd, Nat.reduceLeDiff, Nat.reduceMul, Int.reduceBEq, Int.reduceBNe, Int.reduceLT, Int.reduceLE, Int.reduceGT, Int.reduceGE, bk1.cell, hBp]
  have hLn := length_rest_le (M p) n 0
  refine loop_intro (fun j : Nat => [(1, .bool b), (4, .pointer (some ⟨c.bw, 0, none⟩)), (16, .slice ba (rest (M p) n 0).length bc), (17, .int .i64 (rest (M p) n 0).length), (18, .int .i64 j)])
    (fun j h' => j ≤ (rest (M p) n 0).length ∧ Fr c.ww (c.ww + 1) h1 h' ∧ h'.size = h1.size ∧ Rw h' c.ww (cntV n fun q => if q ∈ (rest (M p) n 0).take j then cnt n M (fun k => if k = p then b else D k) q else cnt n M D q)) (fun j => (rest (M p) n 0).length - j) 0 ?_ ?_ ?_
  · simp [Le, find]
  · exact ⟨by omega, .refl _ _ _, rfl, by simpa using wt1⟩
  rintro j h2 ⟨hj, f2, z2, wt2⟩
  have rw2 := rw1.fr f2 (by omega)
  simp -dsimp only [go_sem, ↓reduceIte, reduceCtorEq, Nat.reduceEqDiff, Nat.reduceAdd, Nat.reduceLeDiff, Nat.reduceMul, Int.reduceBEq, Int.reduceBNe, Int.reduceLT, Int.reduceLE, Int.reduceGT, Int.reduceGE]
  refine ⟨fun hlt => ?_, fun hge => ?_⟩
  · have hlt : j < (rest (M p) n 0).length := by omega
    have hq : (rest (M p) n 0)[j]? = some (rest (M p) n 0)[j] := by simp
    have htk : (rest (M p) n 0).take (j + 1) = (rest (M p) n 0).take j ++ [(rest (M p) n 0)[j]] := by rw [List.take_succ_eq_append_getElem hlt]
    have hmem : (rest (M p) n 0)[j] ∈ rest (M p) n 0 := List.getElem_mem _
    have hnot : (rest (M p) n 0)[j] ∉ (rest (M p) n 0).take j := by
      have hnd : (rest (M p) n 0).Nodup := by unfold rest; exact List.Nodup.sublist List.filter_sublist (List.nodup_range')
      have : ((rest (M p) n 0).take (j + 1)).Nodup := hnd.sublist (List.take_sublist _ _)
      rw [htk, List.nodup_append] at this
      exact fun hm => this.2.2 _ hm _ (by simp) rfl
    generalize (rest (M p) n 0)[j] = q at hq htk hmem hnot
    obtain ⟨_, hqn, hMq⟩ := mem_rest.1 hmem
    have hcu := cnt_upd (q := q) (M := M) hp hD
    rw [hMq] at hcu
    have hc1 := cnt_le n M D q
    have hc2 := cnt_le n M (fun k => if k = p then b else D k) q
    have hrd : Rd 1 h2 (.slice ba (rest (M p) n 0).length bc) (rest (M p) n 0).length (natsV (rest (M p) n 0)) := (hB1.fr f2 (by have := hB1.at_; omega)).rd
    have fin : ∀ h3, Sto h2 h3 c.ww q [.int .i64 ((cnt n M (fun k => if k = p then b else D k) q : Nat) : Int)] → Fr c.ww (c.ww + 1) h1 h3 ∧ h3.size = h1.size ∧ Rw h3 c.ww (cntV n fun x => if x ∈ (rest (M p) n 0).take (j + 1) then cnt n M (fun k => if k = p then b else D k) x else cnt n M D x) := fun h3 s3 => by
      refine ⟨f2.trans s3.fr, by have := s3.size; omega, ?_⟩
      have r := s3.row wt2
      rw [putAt_one, cntV_set] at r
      rw [cntV_congr (fun x hx => ?_)]
      · exact r
      · rw [htk]
        by_cases hxq : x = q
        · subst hxq; simp
        · simp [hxq]
    simp -dsimp only [go_sem, ↓reduceIte, reduceCtorEq, Nat.reduceEqDiff, Nat.reduceAdd, Nat.reduceLeDiff, Nat.reduceMul, Int.reduceBEq, Int.reduceBNe, Int.reduceLT, Int.reduceLE, Int.reduceGT, Int.reduceGE]
    refine Chk_intro (by omega) (hrd.idx (by omega) fun b5 o5 c5 => ?_)
    simp -dsimp only [go_sem, ↓reduceIte, reduceCtorEq, Nat.reduceEqDiff, Nat.reduceAdd, Nat.reduceLeDiff, Nat.reduceMul, Int.reduceBEq, Int.reduceBNe, Int.reduceLT, Int.reduceLE, Int.reduceGT, Int.reduceGE, c5 j _ (natsV_get hq)]
    cases b with
    | true =>
      refine ⟨fun _ => ?_, fun h => absurd rfl h⟩
      simp -dsimp only [go_sem, ↓reduceIte, reduceCtorEq, Nat.reduceEqDiff, Nat.reduceAdd, Nat.reduceLeDiff, Nat.reduceMul, Int.reduceBEq, Int.reduceBNe, Int.reduceLT, Int.reduceLE, Int.reduceGT, Int.reduceGE, rw2.cell]
      refine Chk_intro (by omega) ?_
      simp -dsimp only [go_sem, ↓reduceIte, reduceCtorEq, Nat.reduceEqDiff, Nat.reduceAdd, Nat.reduceLeDiff, Nat.reduceMul, Int.reduceBEq, Int.reduceBNe, Int.reduceLT, Int.reduceLE, Int.reduceGT, Int.reduceGE, wt2.cell, cntV_get hqn, hnot]
      refine Chk_intro (by omega) ?_
      simp -dsimp only [go_sem, ↓reduceIte, reduceCtorEq, Nat.reduceEqDiff, Nat.reduceAdd, Nat.reduceLeDiff, Nat.reduceMul, Int.reduceBEq, Int.reduceBNe, Int.reduceLT, Int.reduceLE, Int.reduceGT, Int.reduceGE]
      refine Chk_intro (wt2.wr (by simp; omega)) fun h3 s3 => ?_
      rw [cl_int, wrap64 (by omega) (by omega), show ((cnt n M D q : Nat) : Int) - 1 = ((cnt n M (fun k => if k = p then true else D k) q : Nat) : Int) from by simp only [Bool.true_and, Bool.not_true, Bool.not_false, Bool.toNat_true, Bool.toNat_false] at hcu; omega] at s3
      simp -dsimp only [go_sem, ↓reduceIte, reduceCtorEq, Nat.reduceEqDiff, Nat.reduceAdd, Nat.reduceLeDiff, Nat.reduceMul, Int.reduceBEq, Int.reduceBNe, Int.reduceLT, Int.reduceLE, Int.reduceGT, Int.reduceGE]
      simp -dsimp (disch := omega) only [wrap64]
      exact ⟨j + 1, by omega, by simp [Le, find], by omega, fin h3 s3⟩
    | false =>
      refine ⟨fun h => absurd h (by decide), fun _ => ?_⟩
      simp -dsimp only [go_sem, ↓reduceIte, reduceCtorEq, Nat.reduceEqDiff, Nat.reduceAdd, Nat.reduceLeDiff, Nat.reduceMul, Int.reduceBEq, Int.reduceBNe, Int.reduceLT, Int.reduceLE, Int.reduceGT, Int.reduceGE, rw2.cell]
      refine Chk_intro (by omega) ?_
      simp -dsimp only [go_sem, ↓reduceIte, reduceCtorEq, Nat.reduceEqDiff, Nat.reduceAdd, Nat.reduceLeDiff, Nat.reduceMul, Int.reduceBEq, Int.reduceBNe, Int.reduceLT, Int.reduceLE, Int.reduceGT, Int.reduceGE, wt2.cell, cntV_get hqn, hnot]
      refine Chk_intro (by omega) ?_
      simp -dsimp only [go_sem, ↓reduceIte, reduceCtorEq, Nat.reduceEqDiff, Nat.reduceAdd, Nat.reduceLeDiff, Nat.reduceMul, Int.reduceBEq, Int.reduceBNe, Int.reduceLT, Int.reduceLE, Int.reduceGT, Int.reduceGE]
      refine Chk_intro (wt2.wr (by simp; omega)) fun h3 s3 => ?_
      rw [cl_int, wrap64 (by omega) (by omega), show ((cnt n M D q : Nat) : Int) + 1 = ((cnt n M (fun k => if k = p then false else D k) q : Nat) : Int) from by simp only [Bool.true_and, Bool.not_true, Bool.not_false, Bool.toNat_true, Bool.toNat_false] at hcu; omega] at s3
      simp -dsimp only [go_sem, ↓reduceIte, reduceCtorEq, Nat.reduceEqDiff, Nat.reduceAdd, Nat.reduceLeDiff, Nat.reduceMul, Int.reduceBEq, Int.reduceBNe, Int.reduceLT, Int.reduceLE, Int.reduceGT, Int.reduceGE]
      simp -dsimp (disch := omega) only [wrap64]
      exact ⟨j + 1, by omega, by simp [Le, find], by omega, fin h3 s3⟩
  · have : j = (rest (M p) n 0).length := by omega
    subst this
    simp -dsimp only [go_sem, ↓reduceIte, reduceCtorEq, Nat.reduceEqDiff, Nat.reduceAdd, Nat.reduceLeDiff, Nat.reduceMul, Int.reduceBEq, Int.reduceBNe, Int.reduceLT, Int.reduceLE, Int.reduceGT, Int.reduceGE]
    refine ⟨(s1.fr.mono (by omega)).trans (f2.mono (by omega)), by omega, rn1.fr f2 (by omega), rw2, rb1.fr f2 (by omega), rpp1.fr f2 (by omega), ?_, rp1.fr f2 (by omega), bk1.fr f2 (by omega), fun x hx => ?_, hat, hne, hs⟩
    · rw [cntV_congr (fun x hx => ?_)]
      · exact wt2
      · rw [List.take_length]
        have hcu := cnt_upd (q := x) (M := M) hp hD
        by_cases hx' : M p x = true
        · rw [if_pos (mem_rest.2 ⟨by omega, hx, hx'⟩)]
        · rw [if_neg (fun h => hx' (mem_rest.1 h).2.2)]
          have : M p x = false := by simpa using hx'
          rw [this] at hcu; simpa using hcu
    · obtain ⟨g1, g2, g3, g4⟩ := t.beh x hx
      exact ⟨(beh1 x hx).fr f2 (by have := g1.at_; omega), g2, g3, g4⟩
end Go.Proofs.Tst
namespace Go.Proofs.Tst
open Go Go.Vc
theorem order_chooser {n : Nat} {M : Nat → Nat → Bool} {p : Value} {lo hi : Nat} {h : Heap} (hr : ProgAt h lo hi p n M) (ht : TabAt h) :
    Con Tryd.prog 73 #[p] h fun v h' => Fr 0 0 h h' ∧ ∃ c : ChB, v = .tuple #[c.next, c.place] ∧ Chs h' h.size h'.size c n M fun _ => false := by
  refine con_order_chooser ?_
  have hn := hr.1
  simp -dsimp only [go_sem, ↓reduceIte, reduceCtorEq, Nat.reduceEqDiff, Nat.reduceAdd, Nat.reduceLeDiff, Nat.reduceMul, Int.reduceBEq, Int.reduceBNe, Int.reduceLT, Int.reduceLE, Int.reduceGT, Int.reduceGE]
  refine call_of (rel_Len hr) ?_
  rintro v h0 ⟨rfl, rfl⟩
  simp -dsimp only [go_sem, ↓reduceIte, reduceCtorEq, Nat.reduceEqDiff, Nat.reduceAdd, Nat.reduceLeDiff, Nat.reduceMul, Int.reduceBEq, Int.reduceBNe, Int.reduceLT, Int.reduceLE, Int.reduceGT, Int.reduceGE]
  intro bn h1 n1
  simp -dsimp only [go_sem, ↓reduceIte, reduceCtorEq, Nat.reduceEqDiff, Nat.reduceAdd, Nat.reduceLeDiff, Nat.reduceMul, Int.reduceBEq, Int.reduceBNe, Int.reduceLT, Int.reduceLE, Int.reduceGT, Int.reduceGE]
  refine ⟨n1.row.wr (by simp), fun h2 s2 => ?_⟩
  have rn2 := s2.row n1.row
  simp -dsimp only [go_sem, ↓reduceIte, reduceCtorEq, Nat.reduceEqDiff, Nat.reduceAdd, Nat.reduceLeDiff, Nat.reduceMul, Int.reduceBEq, Int.reduceBNe, Int.reduceLT, Int.reduceLE, Int.reduceGT, Int.reduceGE] at rn2
  have a1 := n1.at_; have z1 := n1.size; have z2 := s2.size
  have p2 : Fr 0 0 h0 h2 := (n1.fr (lo := 0) (hi := 0)).fresh s2.fr (by omega)
  simp -dsimp only [go_sem, ↓reduceIte, reduceCtorEq, Nat.reduceEqDiff, Nat.reduceAdd, Nat.reduceLeDiff, Nat.reduceMul, Int.reduceBEq, Int.reduceBNe, Int.reduceLT, Int.reduceLE, Int.reduceGT, Int.reduceGE, rn2.cell]
  refine Chk_intro (by omega) ?_
  intro ww h3 n3
  simp -dsimp only [go_sem, ↓reduceIte, reduceCtorEq, Nat.reduceEqDiff, Nat.reduceAdd, Nat.reduceLeDiff, Nat.reduceMul, Int.reduceBEq, Int.reduceBNe, Int.reduceLT, Int.reduceLE, Int.reduceGT, Int.reduceGE]
  intro bw h4 n4
  simp -dsimp only [go_sem, ↓reduceIte, reduceCtorEq, Nat.reduceEqDiff, Nat.reduceAdd, Nat.reduceLeDiff, Nat.reduceMul, Int.reduceBEq, Int.reduceBNe, Int.reduceLT, Int.reduceLE, Int.reduceGT, Int.reduceGE]
  refine ⟨n4.row.wr (by simp), fun h5 s5 => ?_⟩
  have a3 := n3.at_; have z3 := n3.size; have a4 := n4.at_; have z4 := n4.size; have z5 := s5.size
  have rw5 := s5.row n4.row
  have rw_w5 := s5.rw (n4.rw n3.row) (by omega)
  have rn5 := s5.rw (n4.rw (n3.rw rn2)) (by omega)
  have p5 : Fr 0 0 h0 h5 := ((p2.trans n3.fr).trans n4.fr).fresh s5.fr (by omega)
  simp -dsimp only [go_sem, ↓reduceIte, reduceCtorEq, Nat.reduceEqDiff, Nat.reduceAdd, Nat.reduceLeDiff, Nat.reduceMul, Int.reduceBEq, Int.reduceBNe, Int.reduceLT, Int.reduceLE, Int.reduceGT, Int.reduceGE] at rw5
  simp -dsimp only [go_sem, ↓reduceIte, reduceCtorEq, Nat.reduceEqDiff, Nat.reduceAdd, Nat.reduceLeDiff, Nat.reduceMul, Int.reduceBEq, Int.reduceBNe, Int.reduceLT, Int.reduceLE, Int.reduceGT, Int.reduceGE, rn5.cell]
  refine Chk_intro (by omega) ?_
  intro bk h6 n6
  simp -dsimp only [go_sem, ↓reduceIte, reduceCtorEq, Nat.reduceEqDiff, Nat.reduceAdd, Nat.reduceLeDiff, Nat.reduceMul, Int.reduceBEq, Int.reduceBNe, Int.reduceLT, Int.reduceLE, Int.reduceGT, Int.reduceGE]
  intro bb h7 n7
  simp -dsimp only [go_sem, ↓reduceIte, reduceCtorEq, Nat.reduceEqDiff, Nat.reduceAdd, Nat.reduceLeDiff, Nat.reduceMul, Int.reduceBEq, Int.reduceBNe, Int.reduceLT, Int.reduceLE, Int.reduceGT, Int.reduceGE]
  refine ⟨n7.row.wr (by simp), fun h8 s8 => ?_⟩
  have a6 := n6.at_; have z6 := n6.size; have a7 := n7.at_; have z7 := n7.size; have z8 := s8.size
  have rb8 := s8.row n7.row
  have rk8 := s8.rw (n7.rw n6.row) (by omega)
  have rw8 := s8.rw (n7.rw (n6.rw rw5)) (by omega)
  have rww8 := s8.rw (n7.rw (n6.rw rw_w5)) (by omega)
  have rn8 := s8.rw (n7.rw (n6.rw rn5)) (by omega)
  have p8 : Fr 0 0 h0 h8 := ((p5.trans n6.fr).trans n7.fr).fresh s8.fr (by omega)
  simp -dsimp only [go_sem, ↓reduceIte, reduceCtorEq, Nat.reduceEqDiff, Nat.reduceAdd, Nat.reduceLeDiff, Nat.reduceMul, Int.reduceBEq, Int.reduceBNe, Int.reduceLT, Int.reduceLE, Int.reduceGT, Int.reduceGE] at rb8
  rw [zeros_one, Int.toNat_natCast] at rk8 rww8
  simp -dsimp only [go_sem, ↓reduceIte, reduceCtorEq, Nat.reduceEqDiff, Nat.reduceAdd, Nat.reduceLeDiff, Nat.reduceMul, Int.reduceBEq, Int.reduceBNe, Int.reduceLT, Int.reduceLE, Int.reduceGT, Int.reduceGE]
  refine call_of (rel_Pairs (hr.fr p8 (by omega)) (ht.fr p8 (by omega))) ?_
  rintro v h9 ⟨p9, o9⟩
  obtain ⟨pa, pc, rfl⟩ := o9.is
  have y9 := p9.size
  have w9 := o9.at_
  simp -dsimp only [go_sem, ↓reduceIte, reduceCtorEq, Nat.reduceEqDiff, Nat.reduceAdd, Nat.reduceLeDiff, Nat.reduceMul, Int.reduceBEq, Int.reduceBNe, Int.reduceLT, Int.reduceLE, Int.reduceGT, Int.reduceGE]
  -- the pairs, one by one
  refine loop_intro (fun j : Nat => [(4, .pointer (some ⟨bn, 0, none⟩)), (5, .pointer (some ⟨bw, 0, none⟩)), (6, .pointer (some ⟨bb, 0, none⟩)), (17, .slice pa (pairsOf n M).length pc), (18, .int .i64 (pairsOf n M).length), (19, .int .i64 j)])
    (fun j h' => j ≤ (pairsOf n M).length ∧ Fr 0 0 h0 h' ∧ h9.size ≤ h'.size ∧ Rw h' bn [.int .i64 n] ∧ Rw h' bw [.slice (some ⟨ww, 0, none⟩) n n] ∧ Rw h' bb [.slice (some ⟨bk, 0, none⟩) n n] ∧
      Holder 2 h' (.slice pa (pairsOf n M).length pc) (pairsOf n M).length (pairsV (pairsOf n M)) h8.size ∧
      Rw h' ww (cntV n fun q => ((pairsOf n M).take j).countP fun p => p.2 == (q : Int)) ∧
      ∃ B : Nat → Value, Rw h' bk ((List.range n).map B) ∧ (∀ a, a < n → Holder 1 h' (B a) ((((pairsOf n M).take j).filter fun p => p.1 == (a : Int)).map (fun p => p.2.toNat)).length (natsV ((((pairsOf n M).take j).filter fun p => p.1 == (a : Int)).map (fun p => p.2.toNat))) h9.size) ∧
        ∀ a b, a < n → b < n → a ≠ b → bh (B a) = 0 ∨ bl (B a) ≠ bl (B b))
    (fun j => (pairsOf n M).length - j) 0 ?_ ?_ ?_
  · simp [Le, find]
  · refine ⟨by omega, p8.trans p9, by omega, rn8.fr p9 (by omega), rw8.fr p9 (by omega), rb8.fr p9 (by omega), o9, ?_, fun _ => .slice none 0 0, ?_, fun a ha => Holder.none _ _ _, fun a b ha hb hab => .inl rfl⟩
    · have := rww8.fr p9 (by omega)
      have e : List.replicate n (Value.int .i64 0) = cntV n fun q => ((pairsOf n M).take 0).countP fun p => p.2 == (q : Int) := by
        apply List.ext_getElem?; intro k
        by_cases hk : k < n
        · rw [cntV_get hk]; simp [hk]
        · rw [List.getElem?_eq_none (by simp; omega), List.getElem?_eq_none (by simp; omega)]
      rw [e] at this; exact this
    · have := rk8.fr p9 (by omega)
      have e : List.replicate n (Value.slice none 0 0) = (List.range n).map fun _ => Value.slice none 0 0 := by
        apply List.ext_getElem?; intro k
        by_cases hk : k < n
        · simp [hk]
        · simp [hk]
      rw [e] at this; exact this
  rintro j h10 ⟨hj, p10, y10, rn, rw', rb, od, rww, B, rk, hB, hBB⟩
  simp -dsimp only [go_sem, ↓reduceIte, reduceCtorEq, Nat.reduceEqDiff, Nat.reduceAdd, Nat.reduceLeDiff, Nat.reduceMul, Int.reduceBEq, Int.reduceBNe, Int.reduceLT, Int.reduceLE, Int.reduceGT, Int.reduceGE]
  refine ⟨fun hlt => ?_, fun hge => ?_⟩
  · have hlt : j < (pairsOf n M).length := by omega
    have hq : (pairsOf n M)[j]? = some (pairsOf n M)[j] := by simp
    have htk : (pairsOf n M).take (j + 1) = (pairsOf n M).take j ++ [(pairsOf n M)[j]] := by rw [List.take_succ_eq_append_getElem hlt]
    have hmem : (pairsOf n M)[j] ∈ pairsOf n M := List.getElem_mem _
    generalize (pairsOf n M)[j] = q at hq htk hmem
    obtain ⟨a, b, ha, hb, hm, rfl⟩ := mem_pairsOf.1 hmem
    have hpl := length_pairsTo_le n M n
    have g3 : n * n ≤ 256 * 256 := Nat.mul_le_mul (by omega) (by omega)
    have g4 : (pairsOf n M).length ≤ n * n := hpl
    have k1 := rn.lt; have k2 := rw'.lt; have k3 := rb.lt; have k4 := rww.lt; have k5 := rk.lt
    simp -dsimp only [go_sem, ↓reduceIte, reduceCtorEq, Nat.reduceEqDiff, Nat.reduceAdd, Nat.reduceLeDiff, Nat.reduceMul, Int.reduceBEq, Int.reduceBNe, Int.reduceLT, Int.reduceLE, Int.reduceGT, Int.reduceGE]
    refine Chk_intro (by omega) (od.rd.pair hq fun b6 o6 c6 c7 => ?_)
    simp -dsimp only [go_sem, ↓reduceIte, reduceCtorEq, Nat.reduceEqDiff, Nat.reduceAdd, Nat.reduceLeDiff, Nat.reduceMul, Int.reduceBEq, Int.reduceBNe, Int.reduceLT, Int.reduceLE, Int.reduceGT, Int.reduceGE, c6, c7]
    intro b11 h11 n11
    simp -dsimp only [go_sem, ↓reduceIte, reduceCtorEq, Nat.reduceEqDiff, Nat.reduceAdd, Nat.reduceLeDiff, Nat.reduceMul, Int.reduceBEq, Int.reduceBNe, Int.reduceLT, Int.reduceLE, Int.reduceGT, Int.reduceGE]
    refine ⟨n11.row.wr (by simp), fun h12 s12 => ?_⟩
    have a11 := n11.at_; have z11 := n11.size; have z12 := s12.size
    have r12 := s12.row n11.row
    simp -dsimp only [go_sem, ↓reduceIte, reduceCtorEq, Nat.reduceEqDiff, Nat.reduceAdd, Nat.reduceLeDiff, Nat.reduceMul, Int.reduceBEq, Int.reduceBNe, Int.reduceLT, Int.reduceLE, Int.reduceGT, Int.reduceGE] at r12
    have f12 : Fr 0 0 h10 h12 := (n11.fr (lo := 0) (hi := 0)).fresh s12.fr (by omega)
    have rww12 := rww.fr f12 (by omega)
    have rw12 := rw'.fr f12 (by omega)
    simp -dsimp only [go_sem, ↓reduceIte, reduceCtorEq, Nat.reduceEqDiff, Nat.reduceAdd, Nat.reduceLeDiff, Nat.reduceMul, Int.reduceBEq, Int.reduceBNe, Int.reduceLT, Int.reduceLE, Int.reduceGT, Int.reduceGE, rw12.cell, r12.cell]
    refine Chk_intro (by omega) ?_
    simp -dsimp only [go_sem, ↓reduceIte, reduceCtorEq, Nat.reduceEqDiff, Nat.reduceAdd, Nat.reduceLeDiff, Nat.reduceMul, Int.reduceBEq, Int.reduceBNe, Int.reduceLT, Int.reduceLE, Int.reduceGT, Int.reduceGE, rww12.cell, cntV_get hb]
    refine Chk_intro (by omega) ?_
    simp -dsimp only [go_sem, ↓reduceIte, reduceCtorEq, Nat.reduceEqDiff, Nat.reduceAdd, Nat.reduceLeDiff, Nat.reduceMul, Int.reduceBEq, Int.reduceBNe, Int.reduceLT, Int.reduceLE, Int.reduceGT, Int.reduceGE]
    have hcl : (((pairsOf n M).take j).countP fun p => p.2 == (b : Int)) ≤ j := Nat.le_trans List.countP_le_length (by simp; omega)
    refine Chk_intro (rww12.wr (by simp; omega)) fun h13 s13 => ?_
    have r13 := s13.row rww12
    rw [cl_int, wrap64 (by omega) (by omega), putAt_one, show (((((pairsOf n M).take j).countP fun p => p.2 == (b : Int)) : Nat) : Int) + 1 = ((((pairsOf n M).take j).countP (fun p => p.2 == (b : Int)) + 1 : Nat) : Int) from by omega, cntV_set] at r13
    have z13 := s13.size
    have rb13 := s13.rw (rb.fr f12 (by omega)) (by omega)
    have rp13 := s13.rw r12 (by omega)
    have rk13 := s13.rw (rk.fr f12 (by omega)) (by omega)
    have hBa : ((List.range n).map B)[a]? = some (B a) := by simp [ha]
    simp -dsimp only [go_sem, ↓reduceIte, reduceCtorEq, Nat.reduceEqDiff, Nat.reduceAdd, Nat.reduceLeDiff, Nat.reduceMul, Int.reduceBEq, Int.reduceBNe, Int.reduceLT, Int.reduceLE, Int.reduceGT, Int.reduceGE, rb13.cell, rp13.cell]
    refine Chk_intro (by omega) ?_
    simp -dsimp only [go_sem, ↓reduceIte, reduceCtorEq, Nat.reduceEqDiff, Nat.reduceAdd, Nat.reduceLeDiff, Nat.reduceMul, Int.reduceBEq, Int.reduceBNe, Int.reduceLT, Int.reduceLE, Int.reduceGT, Int.reduceGE, rk13.cell, hBa, rp13.cell]
    intro b14 h14 n14
    have a14 := n14.at_; have z14 := n14.size
    have wa := (hB a ha).at_
    have hBf : ∀ x, x < n → Holder 1 h14 (B x) ((((pairsOf n M).take j).filter fun p => p.1 == (x : Int)).map (fun p => p.2.toNat)).length (natsV ((((pairsOf n M).take j).filter fun p => p.1 == (x : Int)).map (fun p => p.2.toNat))) h9.size := fun x hx =>
      (((hB x hx).fr f12 (by omega)).fr s13.fr (by have := (hB x hx).at_; omega)).fr (n14.fr (lo := 0) (hi := 0)) (by omega)
    have hfl : ((((pairsOf n M).take j).filter fun p => p.1 == (a : Int)).map (fun p => p.2.toNat)).length ≤ j := by
      rw [List.length_map]; exact Nat.le_trans (List.length_filter_le _ _) (by simp; omega)
    have hBh := hBf a ha
    obtain ⟨ba, bc, hBv⟩ := hBh.is
    rw [hBv] at hBh hBa wa
    simp -dsimp only [go_sem, ↓reduceIte, reduceCtorEq, Nat.reduceEqDiff, Nat.reduceAdd, Nat.reduceLeDiff, Nat.reduceMul, Int.reduceBEq, Int.reduceBNe, Int.reduceLT, Int.reduceLE, Int.reduceGT, Int.reduceGE, hBv, n14.row.cell]
    refine hBh.append (by omega) rfl (by omega) (by simp) (by omega) fun v15 h15 o15 f15 e15 => ?_
    have y15 := f15.size
    have w15 := o15.at_
    have rb15 := (n14.rw rb13).fr f15 (by omega)
    have rp15 := (n14.rw rp13).fr f15 (by omega)
    have rk15 := (n14.rw rk13).fr f15 (by omega)
    obtain ⟨va, vc, rfl⟩ := o15.is
    simp -dsimp only [go_sem, ↓reduceIte, reduceCtorEq, Nat.reduceEqDiff, Nat.reduceAdd, Nat.reduceLeDiff, Nat.reduceMul, Int.reduceBEq, Int.reduceBNe, Int.reduceLT, Int.reduceLE, Int.reduceGT, Int.reduceGE, rb15.cell, rp15.cell, rk15.cell, hBa, hBv]
    refine Chk_intro (by omega) ?_
    simp -dsimp only [go_sem, ↓reduceIte, reduceCtorEq, Nat.reduceEqDiff, Nat.reduceAdd, Nat.reduceLeDiff, Nat.reduceMul, Int.reduceBEq, Int.reduceBNe, Int.reduceLT, Int.reduceLE, Int.reduceGT, Int.reduceGE]
    refine Chk_intro (rk15.wr (by simp; omega)) fun h16 s16 => ?_
    have z16 := s16.size
    have rk16 := s16.row rk15
    simp -dsimp only [go_sem, ↓reduceIte, reduceCtorEq, Nat.reduceEqDiff, Nat.reduceAdd, Nat.reduceLeDiff, Nat.reduceMul, Int.reduceBEq, Int.reduceBNe, Int.reduceLT, Int.reduceLE, Int.reduceGT, Int.reduceGE]
    simp -dsimp (disch := omega) only [wrap64]
    have q15 : Fr 0 0 h0 h15 := (((p10.trans f12).fresh s13.fr (by omega)).trans n14.fr).fresh f15 (by omega)
    have q16 := q15.fresh s16.fr (by omega)
    have step : ∀ {x c}, Rw h12 x c → x ≠ ww → x ≠ bk → (x < bl (.slice ba ((((pairsOf n M).take j).filter fun p => p.1 == (a : Int)).map (fun p => p.2.toNat)).length bc) ∨ bh (.slice ba ((((pairsOf n M).take j).filter fun p => p.1 == (a : Int)).map (fun p => p.2.toNat)).length bc) ≤ x) → Rw h16 x c := fun r h1 h2 h3 =>
      s16.rw ((n14.rw (s13.rw r h1)).fr f15 h3) h2
    refine ⟨j + 1, by omega, by simp [Le, find], by omega, q16, by omega, step (rn.fr f12 (by omega)) (by omega) (by omega) (by omega), step (rw12) (by omega) (by omega) (by omega), step (rb.fr f12 (by omega)) (by omega) (by omega) (by omega), ?_, ?_, fun x => if x = a then .slice va (((((pairsOf n M).take j).filter fun p => p.1 == (a : Int)).map (fun p => p.2.toNat)).length + 1) vc else B x, ?_, ?_, ?_⟩
    · exact ((((od.fr f12 (by omega)).fr s13.fr (by omega)).fr (n14.fr (lo := 0) (hi := 0)) (by omega)).fr f15 (by omega)).fr s16.fr (by omega)
    · have := s16.rw ((n14.rw r13).fr f15 (by omega)) (show ww ≠ bk by omega)
      rw [cntV_congr (fun x hx => ?_)]
      · exact this
      · rw [htk, List.countP_append, List.countP_singleton]
        by_cases hxb : x = b
        · subst hxb; simp
        · have : ((b : Int) == (x : Int)) = false := by simp; omega
          simp [hxb, this]
    · rw [cl_slice, putAt_one] at rk16
      have e : ((List.range n).map B).set a (.slice va (((((pairsOf n M).take j).filter fun p => p.1 == (a : Int)).map (fun p => p.2.toNat)).length + 1) vc) = (List.range n).map fun x => if x = a then .slice va (((((pairsOf n M).take j).filter fun p => p.1 == (a : Int)).map (fun p => p.2.toNat)).length + 1) vc else B x := by
        apply List.ext_getElem?; intro k
        rw [List.getElem?_set]
        by_cases hka : a = k
        · subst hka; simp [ha]
        · rw [if_neg hka]
          by_cases hk : k < n
          · simp [hk, Ne.symm hka]
          · simp [hk]
      rw [e] at rk16; exact rk16
    · intro x hx
      rw [htk, List.filter_append, List.map_append, natsV_append]
      by_cases hxa : x = a
      · subst hxa
        have := o15.fr s16.fr (by omega)
        have hnb : natsV [b] = [.int .i64 (b : Int)] := rfl
        simpa [hnb] using this
      · have hne : ((a : Int) == (x : Int)) = false := by simp; omega
        have hx1 := (hBf x hx)
        have hx2 := (hB x hx).at_
        have hx3 := hBB a x ha hx (Ne.symm hxa)
        rw [hBv] at hx3
        have := (hx1.fr f15 (by omega)).fr s16.fr (by omega)
        simpa [hxa, hne, natsV] using this
    · intro x y hx hy hxy
      have hx2 := (hB x hx).at_
      have hy2 := (hB y hy).at_
      by_cases hxa : x = a
      · subst hxa
        have hx3 := hBB x y ha hy hxy
        have hx4 := hBB y x hy ha (Ne.symm hxy)
        rw [hBv] at hx3 hx4
        simp only [if_true, if_neg (Ne.symm hxy)]
        omega
      · by_cases hya : y = a
        · subst hya
          have hx3 := hBB x y hx ha hxy
          rw [hBv] at hx3
          simp only [if_true, if_neg hxy]
          omega
        · simp only [if_neg hxa, if_neg hya]
          exact hBB x y hx hy hxy
  · have hjl : j = (pairsOf n M).length := by omega
    subst hjl
    rw [List.take_length] at hB rww
    simp -dsimp only [go_sem, ↓reduceIte, reduceCtorEq, Nat.reduceEqDiff, Nat.reduceAdd, Nat.reduceLeDiff, Nat.reduceMul, Int.reduceBEq, Int.reduceBNe, Int.reduceLT, Int.reduceLE, Int.reduceGT, Int.reduceGE, rn.cell]
    refine Chk_intro (by omega) ?_
    intro pw h11 n11
    simp -dsimp only [go_sem, ↓reduceIte, reduceCtorEq, Nat.reduceEqDiff, Nat.reduceAdd, Nat.reduceLeDiff, Nat.reduceMul, Int.reduceBEq, Int.reduceBNe, Int.reduceLT, Int.reduceLE, Int.reduceGT, Int.reduceGE]
    intro bp h12 n12
    simp -dsimp only [go_sem, ↓reduceIte, reduceCtorEq, Nat.reduceEqDiff, Nat.reduceAdd, Nat.reduceLeDiff, Nat.reduceMul, Int.reduceBEq, Int.reduceBNe, Int.reduceLT, Int.reduceLE, Int.reduceGT, Int.reduceGE]
    refine ⟨n12.row.wr (by simp), fun h13 s13 => ?_⟩
    have a11 := n11.at_; have z11 := n11.size; have a12 := n12.at_; have z12 := n12.size; have z13 := s13.size
    have rp := s13.row n12.row
    have rpw := s13.rw (n12.rw n11.row) (by omega)
    rw [zeros_one, Int.toNat_natCast, brow_false] at rpw
    simp -dsimp only [go_sem, ↓reduceIte, reduceCtorEq, Nat.reduceEqDiff, Nat.reduceAdd, Nat.reduceLeDiff, Nat.reduceMul, Int.reduceBEq, Int.reduceBNe, Int.reduceLT, Int.reduceLE, Int.reduceGT, Int.reduceGE] at rp
    simp -dsimp only [go_sem, ↓reduceIte, reduceCtorEq, Nat.reduceEqDiff, Nat.reduceAdd, Nat.reduceLeDiff, Nat.reduceMul, Int.reduceBEq, Int.reduceBNe, Int.reduceLT, Int.reduceLE, Int.reduceGT, Int.reduceGE]
    have k1 := rn.lt; have k2 := rw'.lt; have k3 := rb.lt; have k4 := rww.lt; have k5 := rk.lt
    have y10' := p10.size
    have f13 : Fr 0 0 h10 h13 := ((n11.fr (lo := 0) (hi := 0)).trans n12.fr).fresh s13.fr (by omega)
    refine ⟨p10.trans f13, ⟨bn, bw, bb, bp, ww, bk, pw, B⟩, rfl, rn.fr f13 (by omega), rw'.fr f13 (by omega), rb.fr f13 (by omega), rp, ?_, rpw, rk.fr f13 (by omega), fun x hx => ?_, by dsimp only; omega, by dsimp only; omega, hn⟩
    · have := rww.fr f13 (by omega)
      rw [cntV_congr (fun x hx => ?_)]
      · exact this
      · unfold cnt pairsOf
        rw [pairsTo_waits n M x hx n]
        simp
    · have hb := hB x hx
      unfold pairsOf at hb
      rw [pairsTo_behind, if_pos hx] at hb
      have wb := hb.at_
      dsimp only
      exact ⟨(hb.fr f13 (by omega)).lower (by omega), by omega, by omega, by omega⟩
end Go.Proofs.Tst
