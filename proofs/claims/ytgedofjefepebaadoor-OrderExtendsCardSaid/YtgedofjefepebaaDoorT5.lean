/-
  Contracts of functions that the law reaches: what each returns and what it leaves in memory. Conditions stand in each.
-/
import Derived.Test.YtgedofjefepebaaDoorT4
set_option linter.all false
set_option maxRecDepth 2000
namespace Go.Proofs.Tst
open Go Go.Vc
/-- The order that is made unit by unit. -/
def glueGo (n : Nat) (F : Nat → Nat) (S : Nat → Int) (N : Nat → Nat → Bool) : Nat → List Nat → Option (List Nat)
  | 0, l => some l
  | k + 1, l => if n ≤ l.length then some l else match lf (fun p => F p == p && freeB n N l.contains p) n 0 with
    | none => none
    | some p => glueGo n F S N k (if S p ≥ 0 then l ++ [p] ++ [(S p).toNat] else l ++ [p])
/-- A list, or a cycle. -/
def orCyc (o : Option (List Nat)) : Except Int (List Nat) := match o with | none => .error 3 | some l => .ok l
/-- What Glue tells: a list, or an error's number. -/
def glueS (n : Nat) (M : Nat → Nat → Bool) (l : List (Int × Int)) : Except Int (List Nat) :=
  match glueFS n l with
  | none => .error 1
  | some (F, S) => orCyc (glueGo n F S (glueM n M F S) n [])
/-- What a function hands back that tells a list, or an error's number. -/
def ResL (h : Heap) (lo : Nat) (v : Value) (o : Except Int (List Nat)) : Prop :=
  match o with
  | .ok l => ∃ s, v = .tuple #[s, .int .i64 0] ∧ Holder 1 h s l.length (natsV l) lo
  | .error e => v = .tuple #[.slice none 0 0, .int .i64 e]
theorem glueGo_end {n : Nat} {F : Nat → Nat} {S : Nat → Int} {N : Nat → Nat → Bool} {k : Nat} {l : List Nat} (h : n ≤ l.length) : glueGo n F S N k l = some l := by
  cases k with
  | zero => rfl
  | succ k => simp [glueGo, h]

set_option maxHeartbeats 1600000 in
theorem ref2_Glue {n : Nat} {M : Nat → Nat → Bool} {rv lv : Value} {l : List (Int × Int)} {lo hi : Nat} {h : Heap} (hr : RefAt h lo hi rv n M) (hl : Rd 2 h lv l.length (pairsV l)) (hb : l.length ≤ 4611686018427387904) :
    Con Tryd.prog 24 #[rv, lv] h fun v h' => Fr 0 0 h h' ∧ ResL h' h.size v (glueS n M l) := by
  refine con_ref2_Glue ?_
  obtain ⟨hn, s, R, rfl, t⟩ := hr
  obtain ⟨sa, sc, rfl⟩ := t.own.is
  obtain ⟨la, lc, rfl⟩ := hl.is
  have p0 : Fr 0 0 h h := .refl _ _ _
  simp -dsimp only [go_sem, ↓reduceIte, reduceCtorEq, Nat.reduceEqDiff, Nat.reduceAdd, Nat.reduceLeDiff, Nat.reduceMul, Int.reduceBEq, Int.reduceBNe, Int.reduceLT, Int.reduceLE, Int.reduceGT, Int.reduceGE]
  intro b1 h1 n1
  have n1_a := n1.at_
  have n1_z := n1.size
  replace p0 := p0.fresh (n1.fr (lo := 0) (hi := 0)) (by omega)
  have r1 := n1.row
  simp -dsimp only [go_sem, ↓reduceIte, reduceCtorEq, Nat.reduceEqDiff, Nat.reduceAdd, Nat.reduceLeDiff, Nat.reduceMul, Int.reduceBEq, Int.reduceBNe, Int.reduceLT, Int.reduceLE, Int.reduceGT, Int.reduceGE, r1.cell]
  refine Chk_intro (by omega) ?_
  intro bo h2 n2
  have n2_a := n2.at_
  have n2_z := n2.size
  replace p0 := p0.fresh (n2.fr (lo := 0) (hi := 0)) (by omega)
  replace r1 := r1.fr (n2.fr (lo := 0) (hi := 0)) (by omega)
  have ro := n2.row
  rw [zeros_one, Int.toNat_natCast, ivec_rep] at ro
  simp -dsimp only [go_sem, ↓reduceIte, reduceCtorEq, Nat.reduceEqDiff, Nat.reduceAdd, Nat.reduceLeDiff, Nat.reduceMul, Int.reduceBEq, Int.reduceBNe, Int.reduceLT, Int.reduceLE, Int.reduceGT, Int.reduceGE, r1.cell, ro.cell]
  refine Chk_intro (by omega) ?_
  intro bx h3 n3
  have n3_a := n3.at_
  have n3_z := n3.size
  replace p0 := p0.fresh (n3.fr (lo := 0) (hi := 0)) (by omega)
  replace r1 := r1.fr (n3.fr (lo := 0) (hi := 0)) (by omega)
  replace ro := ro.fr (n3.fr (lo := 0) (hi := 0)) (by omega)
  have rx := n3.row
  rw [zeros_one, Int.toNat_natCast, ivec_rep] at rx
  simp -dsimp only [go_sem, ↓reduceIte, reduceCtorEq, Nat.reduceEqDiff, Nat.reduceAdd, Nat.reduceLeDiff, Nat.reduceMul, Int.reduceBEq, Int.reduceBNe, Int.reduceLT, Int.reduceLE, Int.reduceGT, Int.reduceGE, r1.cell, ro.cell, rx.cell]
  refine loop_intro (fun i : Nat => [(1, .slice la l.length lc), (2, .pointer (some ⟨b1, 0, none⟩)), (6, .slice (some ⟨bo, 0, none⟩) n n), (7, .slice (some ⟨bx, 0, none⟩) n n), (8, .int .i64 i)])
    (fun i h' => i ≤ n ∧ Fr 0 0 h h' ∧ h3.size ≤ h'.size ∧ Rw h' b1 [.int .i64 n, .slice sa n sc] ∧ Rw h' bo (ivec n fun p => if p < i then (p : Int) else 0) ∧ Rw h' bx (ivec n fun p => if p < i then -1 else 0)) (fun i => n - i) 0 ?_ ?_ ?_
  · simp [Le, find]
  · exact ⟨by omega, p0, by omega, r1, by simpa using ro, by simpa using rx⟩
  rintro i h4 ⟨hi, p0, y4, r1, ro, rx⟩
  have p0_z := p0.size
  have r1_l := r1.lt
  have ro_l := ro.lt
  have rx_l := rx.lt
  simp -dsimp only [go_sem, ↓reduceIte, reduceCtorEq, Nat.reduceEqDiff, Nat.reduceAdd, Nat.reduceLeDiff, Nat.reduceMul, Int.reduceBEq, Int.reduceBNe, Int.reduceLT, Int.reduceLE, Int.reduceGT, Int.reduceGE, r1.cell, ro.cell, rx.cell]
  refine ⟨fun hlt => ?_, fun hge => ?_⟩
  · have hlt : i < n := by omega
    simp -dsimp only [go_sem, ↓reduceIte, reduceCtorEq, Nat.reduceEqDiff, Nat.reduceAdd, Nat.reduceLeDiff, Nat.reduceMul, Int.reduceBEq, Int.reduceBNe, Int.reduceLT, Int.reduceLE, Int.reduceGT, Int.reduceGE, r1.cell, ro.cell, rx.cell]
    refine Chk_intro (by omega) ?_
    simp -dsimp only [go_sem, ↓reduceIte, reduceCtorEq, Nat.reduceEqDiff, Nat.reduceAdd, Nat.reduceLeDiff, Nat.reduceMul, Int.reduceBEq, Int.reduceBNe, Int.reduceLT, Int.reduceLE, Int.reduceGT, Int.reduceGE, r1.cell, ro.cell, rx.cell]
    refine Chk_intro (ro.wr (by first | (simp; done) | (simp; omega))) fun h5 s5 => ?_
    have s5_z := s5.size
    replace p0 := p0.fresh s5.fr (by omega)
    replace r1 := r1.fr s5.fr (by omega)
    replace rx := rx.fr s5.fr (by omega)
    replace ro := s5.row ro
    try simp only [cl_int, cl_bool, cl_slice, cl_ptr, putAt_one, List.set_cons_zero, List.set_cons_succ, ivec_set, brow_upd] at ro
    simp -dsimp only [go_sem, ↓reduceIte, reduceCtorEq, Nat.reduceEqDiff, Nat.reduceAdd, Nat.reduceLeDiff, Nat.reduceMul, Int.reduceBEq, Int.reduceBNe, Int.reduceLT, Int.reduceLE, Int.reduceGT, Int.reduceGE, r1.cell, ro.cell, rx.cell]
    refine Chk_intro (by omega) ?_
    simp -dsimp only [go_sem, ↓reduceIte, reduceCtorEq, Nat.reduceEqDiff, Nat.reduceAdd, Nat.reduceLeDiff, Nat.reduceMul, Int.reduceBEq, Int.reduceBNe, Int.reduceLT, Int.reduceLE, Int.reduceGT, Int.reduceGE, r1.cell, ro.cell, rx.cell]
    refine Chk_intro (rx.wr (by first | (simp; done) | (simp; omega))) fun h6 s6 => ?_
    have s6_z := s6.size
    replace p0 := p0.fresh s6.fr (by omega)
    replace r1 := r1.fr s6.fr (by omega)
    replace ro := ro.fr s6.fr (by omega)
    replace rx := s6.row rx
    try simp only [cl_int, cl_bool, cl_slice, cl_ptr, putAt_one, List.set_cons_zero, List.set_cons_succ, ivec_set, brow_upd] at rx
    simp -dsimp only [go_sem, ↓reduceIte, reduceCtorEq, Nat.reduceEqDiff, Nat.reduceAdd, Nat.reduceLeDiff, Nat.reduceMul, Int.reduceBEq, Int.reduceBNe, Int.reduceLT, Int.reduceLE, Int.reduceGT, Int.reduceGE, r1.cell, ro.cell, rx.cell]
    simp -dsimp (disch := omega) only [wrap64]
    refine ⟨i + 1, by omega, by simp [Le, find], by omega, p0, by omega, r1, ?_, ?_⟩
    · rw [ivec_congr fun p hp => ?_]; exact ro
      by_cases h : p = i
      · subst h; rw [upd_same, if_pos (by omega)]
      · rw [upd_ne _ _ h]; congr 1; simp; omega
    · rw [ivec_congr fun p hp => ?_]; exact rx
      by_cases h : p = i
      · subst h; rw [upd_same, if_pos (by omega)]
      · rw [upd_ne _ _ h]; congr 1; simp; omega
  obtain rfl : n = i := by omega
  replace ro : Rw h4 bo (ivec n fun p => ((id p : Nat) : Int)) := by rw [ivec_congr fun p hp => ?_]; exact ro; simp [hp]
  replace rx : Rw h4 bx (ivec n fun _ => -1) := by rw [ivec_congr fun p hp => ?_]; exact rx; simp [hp]
  have a3 := p0.size
  simp -dsimp only [go_sem, ↓reduceIte, reduceCtorEq, Nat.reduceEqDiff, Nat.reduceAdd, Nat.reduceLeDiff, Nat.reduceMul, Int.reduceBEq, Int.reduceBNe, Int.reduceLT, Int.reduceLE, Int.reduceGT, Int.reduceGE, r1.cell, ro.cell, rx.cell]
  refine Chk_intro (by omega) ?_
  intro bu h5 n5
  have n5_a := n5.at_
  have n5_z := n5.size
  replace p0 := p0.fresh (n5.fr (lo := 0) (hi := 0)) (by omega)
  replace r1 := r1.fr (n5.fr (lo := 0) (hi := 0)) (by omega)
  replace ro := ro.fr (n5.fr (lo := 0) (hi := 0)) (by omega)
  replace rx := rx.fr (n5.fr (lo := 0) (hi := 0)) (by omega)
  have ru := n5.row
  rw [zeros_one, Int.toNat_natCast, brow_false] at ru
  simp -dsimp only [go_sem, ↓reduceIte, reduceCtorEq, Nat.reduceEqDiff, Nat.reduceAdd, Nat.reduceLeDiff, Nat.reduceMul, Int.reduceBEq, Int.reduceBNe, Int.reduceLT, Int.reduceLE, Int.reduceGT, Int.reduceGE, r1.cell, ro.cell, rx.cell, ru.cell]
  refine loop_intro (fun i : Nat => [(1, .slice la l.length lc), (2, .pointer (some ⟨b1, 0, none⟩)), (6, .slice (some ⟨bo, 0, none⟩) n n), (7, .slice (some ⟨bx, 0, none⟩) n n), (9, .slice (some ⟨bu, 0, none⟩) n n), (10, .int .i64 i)])
    (fun i h' => i ≤ l.length ∧ Fr 0 0 h h' ∧ h5.size ≤ h'.size ∧ Rw h' b1 [.int .i64 n, .slice sa n sc] ∧ ∃ (U : Nat → Bool) (F : Nat → Nat) (S : Nat → Int), Rw h' bo (ivec n fun p => (F p : Int)) ∧ Rw h' bx (ivec n S) ∧ Rw h' bu (brow n U) ∧ GluI n U F S ∧ glueIn n (l.drop i) U F S = glueFS n l) (fun i => l.length - i) 0 ?_ ?_ ?_
  · simp [Le, find]
  · exact ⟨by omega, p0, by omega, r1, _, _, _, ro, rx, ru, .start n, rfl⟩
  rintro i h6 ⟨hi, p0, y6, r1, U, F, S, ro, rx, ru, hG, hgl⟩
  have p0_z := p0.size
  have r1_l := r1.lt
  have ro_l := ro.lt
  have rx_l := rx.lt
  have ru_l := ru.lt
  simp -dsimp only [go_sem, ↓reduceIte, reduceCtorEq, Nat.reduceEqDiff, Nat.reduceAdd, Nat.reduceLeDiff, Nat.reduceMul, Int.reduceBEq, Int.reduceBNe, Int.reduceLT, Int.reduceLE, Int.reduceGT, Int.reduceGE, r1.cell, ro.cell, rx.cell, ru.cell]
  refine ⟨fun hlt => ?_, fun hge => ?_⟩
  · have hlt : i < l.length := by omega
    have hp : l[i]? = some l[i] := by simp [hlt]
    rw [List.drop_eq_getElem_cons hlt] at hgl
    generalize l[i] = p at hp hgl
    obtain ⟨a, b⟩ := p
    have bad : badP n U (a, b) → glueFS n l = none := fun hb => by rw [← hgl]; simp [glueIn, hb]
    have fin : glueFS n l = none → glueS n M l = .error 1 := fun hb => by simp [glueS, hb]
    simp -dsimp only [go_sem, ↓reduceIte, reduceCtorEq, Nat.reduceEqDiff, Nat.reduceAdd, Nat.reduceLeDiff, Nat.reduceMul, Int.reduceBEq, Int.reduceBNe, Int.reduceLT, Int.reduceLE, Int.reduceGT, Int.reduceGE, r1.cell, ro.cell, rx.cell, ru.cell]
    refine Chk_intro (by omega) ((hl.fr p0).pair hp fun b7 o7 c1 c2 => ?_)
    simp -dsimp only [go_sem, ↓reduceIte, reduceCtorEq, Nat.reduceEqDiff, Nat.reduceAdd, Nat.reduceLeDiff, Nat.reduceMul, Int.reduceBEq, Int.reduceBNe, Int.reduceLT, Int.reduceLE, Int.reduceGT, Int.reduceGE, c1, r1.cell, ro.cell, rx.cell, ru.cell]
    refine Chk_intro (by omega) ((hl.fr p0).pair hp fun b8 o8 c3 c4 => ?_)
    simp -dsimp only [go_sem, ↓reduceIte, reduceCtorEq, Nat.reduceEqDiff, Nat.reduceAdd, Nat.reduceLeDiff, Nat.reduceMul, Int.reduceBEq, Int.reduceBNe, Int.reduceLT, Int.reduceLE, Int.reduceGT, Int.reduceGE, c4, r1.cell, ro.cell, rx.cell, ru.cell]
    by_cases g1 : a < 0
    · simp -dsimp only [go_sem, ↓reduceIte, reduceCtorEq, Nat.reduceEqDiff, Nat.reduceAdd, Nat.reduceLeDiff, Nat.reduceMul, Int.reduceBEq, Int.reduceBNe, Int.reduceLT, Int.reduceLE, Int.reduceGT, Int.reduceGE, g1, decide_true, r1.cell, ro.cell, rx.cell, ru.cell]
      exact ⟨p0, by rw [fin (bad (.inl g1))]; rfl⟩
    by_cases g2 : a ≥ (n : Int)
    · simp -dsimp only [go_sem, ↓reduceIte, reduceCtorEq, Nat.reduceEqDiff, Nat.reduceAdd, Nat.reduceLeDiff, Nat.reduceMul, Int.reduceBEq, Int.reduceBNe, Int.reduceLT, Int.reduceLE, Int.reduceGT, Int.reduceGE, g1, g2, decide_true, decide_false, r1.cell, ro.cell, rx.cell, ru.cell]
      exact ⟨p0, by rw [fin (bad (.inr (.inl g2)))]; rfl⟩
    by_cases g3 : b < 0
    · simp -dsimp only [go_sem, ↓reduceIte, reduceCtorEq, Nat.reduceEqDiff, Nat.reduceAdd, Nat.reduceLeDiff, Nat.reduceMul, Int.reduceBEq, Int.reduceBNe, Int.reduceLT, Int.reduceLE, Int.reduceGT, Int.reduceGE, g1, g2, g3, decide_true, decide_false, r1.cell, ro.cell, rx.cell, ru.cell]
      exact ⟨p0, by rw [fin (bad (.inr (.inr (.inl g3))))]; rfl⟩
    by_cases g4 : b ≥ (n : Int)
    · simp -dsimp only [go_sem, ↓reduceIte, reduceCtorEq, Nat.reduceEqDiff, Nat.reduceAdd, Nat.reduceLeDiff, Nat.reduceMul, Int.reduceBEq, Int.reduceBNe, Int.reduceLT, Int.reduceLE, Int.reduceGT, Int.reduceGE, g1, g2, g3, g4, decide_true, decide_false, r1.cell, ro.cell, rx.cell, ru.cell]
      exact ⟨p0, by rw [fin (bad (.inr (.inr (.inr (.inl g4)))))]; rfl⟩
    obtain ⟨x, rfl⟩ : ∃ x : Nat, a = x := ⟨a.toNat, by omega⟩
    obtain ⟨y, rfl⟩ : ∃ y : Nat, b = y := ⟨b.toNat, by omega⟩
    have hx : x < n := by omega
    have hy : y < n := by omega
    by_cases g5 : x = y
    · subst g5
      simp -dsimp only [go_sem, ↓reduceIte, reduceCtorEq, Nat.reduceEqDiff, Nat.reduceAdd, Nat.reduceLeDiff, Nat.reduceMul, Int.reduceBEq, Int.reduceBNe, Int.reduceLT, Int.reduceLE, Int.reduceGT, Int.reduceGE, g1, g2, g3, g4, decide_true, decide_false, beq_self_eq_true, r1.cell, ro.cell, rx.cell, ru.cell]
      exact ⟨p0, by rw [fin (bad (.inr (.inr (.inr (.inr (.inl rfl))))))]; rfl⟩
    have g5' : ((x : Int) == (y : Int)) = false := by simp; omega
    simp -dsimp only [go_sem, ↓reduceIte, reduceCtorEq, Nat.reduceEqDiff, Nat.reduceAdd, Nat.reduceLeDiff, Nat.reduceMul, Int.reduceBEq, Int.reduceBNe, Int.reduceLT, Int.reduceLE, Int.reduceGT, Int.reduceGE, g1, g2, g3, g4, g5', decide_true, decide_false, decide_eq_false, r1.cell, ro.cell, rx.cell, ru.cell]
    refine Chk_intro (by omega) ?_
    simp -dsimp only [go_sem, ↓reduceIte, reduceCtorEq, Nat.reduceEqDiff, Nat.reduceAdd, Nat.reduceLeDiff, Nat.reduceMul, Int.reduceBEq, Int.reduceBNe, Int.reduceLT, Int.reduceLE, Int.reduceGT, Int.reduceGE, brow_get hx, r1.cell, ro.cell, rx.cell, ru.cell]
    by_cases g6 : U x = true
    · simp -dsimp only [go_sem, ↓reduceIte, reduceCtorEq, Nat.reduceEqDiff, Nat.reduceAdd, Nat.reduceLeDiff, Nat.reduceMul, Int.reduceBEq, Int.reduceBNe, Int.reduceLT, Int.reduceLE, Int.reduceGT, Int.reduceGE, g6, g1, g2, g3, g4, g5', decide_true, decide_false, r1.cell, ro.cell, rx.cell, ru.cell]
      exact ⟨p0, by rw [fin (bad (.inr (.inr (.inr (.inr (.inr (.inl (by simpa using g6))))))))]; rfl⟩
    replace g6 : U x = false := Bool.eq_false_iff.2 g6
    simp -dsimp only [go_sem, ↓reduceIte, reduceCtorEq, Nat.reduceEqDiff, Nat.reduceAdd, Nat.reduceLeDiff, Nat.reduceMul, Int.reduceBEq, Int.reduceBNe, Int.reduceLT, Int.reduceLE, Int.reduceGT, Int.reduceGE, g6, g1, g2, g3, g4, g5', decide_true, decide_false, r1.cell, ro.cell, rx.cell, ru.cell]
    refine Chk_intro (by omega) ?_
    simp -dsimp only [go_sem, ↓reduceIte, reduceCtorEq, Nat.reduceEqDiff, Nat.reduceAdd, Nat.reduceLeDiff, Nat.reduceMul, Int.reduceBEq, Int.reduceBNe, Int.reduceLT, Int.reduceLE, Int.reduceGT, Int.reduceGE, brow_get hy, g6, r1.cell, ro.cell, rx.cell, ru.cell]
    by_cases g7 : U y = true
    · simp -dsimp only [go_sem, ↓reduceIte, reduceCtorEq, Nat.reduceEqDiff, Nat.reduceAdd, Nat.reduceLeDiff, Nat.reduceMul, Int.reduceBEq, Int.reduceBNe, Int.reduceLT, Int.reduceLE, Int.reduceGT, Int.reduceGE, g7, g1, g2, g3, g4, g5', decide_true, decide_false, r1.cell, ro.cell, rx.cell, ru.cell]
      exact ⟨p0, by rw [fin (bad (.inr (.inr (.inr (.inr (.inr (.inr (by simpa using g7))))))))]; rfl⟩
    replace g7 : U y = false := Bool.eq_false_iff.2 g7
    simp -dsimp only [go_sem, ↓reduceIte, reduceCtorEq, Nat.reduceEqDiff, Nat.reduceAdd, Nat.reduceLeDiff, Nat.reduceMul, Int.reduceBEq, Int.reduceBNe, Int.reduceLT, Int.reduceLE, Int.reduceGT, Int.reduceGE, g7, g6, r1.cell, ro.cell, rx.cell, ru.cell]
    have nb : ¬ badP n U ((x : Int), (y : Int)) := by
      simp [badP, g6, g7]; omega
    refine Chk_intro (by omega) ?_
    simp -dsimp only [go_sem, ↓reduceIte, reduceCtorEq, Nat.reduceEqDiff, Nat.reduceAdd, Nat.reduceLeDiff, Nat.reduceMul, Int.reduceBEq, Int.reduceBNe, Int.reduceLT, Int.reduceLE, Int.reduceGT, Int.reduceGE, r1.cell, ro.cell, rx.cell, ru.cell]
    refine Chk_intro (ru.wr (by first | (simp; done) | (simp; omega))) fun h7 s7 => ?_
    have s7_z := s7.size
    replace p0 := p0.fresh s7.fr (by omega)
    replace r1 := r1.fr s7.fr (by omega)
    replace ro := ro.fr s7.fr (by omega)
    replace rx := rx.fr s7.fr (by omega)
    replace ru := s7.row ru
    try simp only [cl_int, cl_bool, cl_slice, cl_ptr, putAt_one, List.set_cons_zero, List.set_cons_succ, ivec_set, brow_upd] at ru
    simp -dsimp only [go_sem, ↓reduceIte, reduceCtorEq, Nat.reduceEqDiff, Nat.reduceAdd, Nat.reduceLeDiff, Nat.reduceMul, Int.reduceBEq, Int.reduceBNe, Int.reduceLT, Int.reduceLE, Int.reduceGT, Int.reduceGE, r1.cell, ro.cell, rx.cell, ru.cell]
    refine Chk_intro (by omega) ?_
    simp -dsimp only [go_sem, ↓reduceIte, reduceCtorEq, Nat.reduceEqDiff, Nat.reduceAdd, Nat.reduceLeDiff, Nat.reduceMul, Int.reduceBEq, Int.reduceBNe, Int.reduceLT, Int.reduceLE, Int.reduceGT, Int.reduceGE, r1.cell, ro.cell, rx.cell, ru.cell]
    refine Chk_intro (ru.wr (by first | (simp; done) | (simp; omega))) fun h8 s8 => ?_
    have s8_z := s8.size
    replace p0 := p0.fresh s8.fr (by omega)
    replace r1 := r1.fr s8.fr (by omega)
    replace ro := ro.fr s8.fr (by omega)
    replace rx := rx.fr s8.fr (by omega)
    replace ru := s8.row ru
    try simp only [cl_int, cl_bool, cl_slice, cl_ptr, putAt_one, List.set_cons_zero, List.set_cons_succ, ivec_set, brow_upd] at ru
    simp -dsimp only [go_sem, ↓reduceIte, reduceCtorEq, Nat.reduceEqDiff, Nat.reduceAdd, Nat.reduceLeDiff, Nat.reduceMul, Int.reduceBEq, Int.reduceBNe, Int.reduceLT, Int.reduceLE, Int.reduceGT, Int.reduceGE, r1.cell, ro.cell, rx.cell, ru.cell]
    refine Chk_intro (by omega) ?_
    simp -dsimp only [go_sem, ↓reduceIte, reduceCtorEq, Nat.reduceEqDiff, Nat.reduceAdd, Nat.reduceLeDiff, Nat.reduceMul, Int.reduceBEq, Int.reduceBNe, Int.reduceLT, Int.reduceLE, Int.reduceGT, Int.reduceGE, r1.cell, ro.cell, rx.cell, ru.cell]
    refine Chk_intro (ro.wr (by first | (simp; done) | (simp; omega))) fun h9 s9 => ?_
    have s9_z := s9.size
    replace p0 := p0.fresh s9.fr (by omega)
    replace r1 := r1.fr s9.fr (by omega)
    replace rx := rx.fr s9.fr (by omega)
    replace ru := ru.fr s9.fr (by omega)
    replace ro := s9.row ro
    try simp only [cl_int, cl_bool, cl_slice, cl_ptr, putAt_one, List.set_cons_zero, List.set_cons_succ, ivec_set, brow_upd] at ro
    simp -dsimp only [go_sem, ↓reduceIte, reduceCtorEq, Nat.reduceEqDiff, Nat.reduceAdd, Nat.reduceLeDiff, Nat.reduceMul, Int.reduceBEq, Int.reduceBNe, Int.reduceLT, Int.reduceLE, Int.reduceGT, Int.reduceGE, r1.cell, ro.cell, rx.cell, ru.cell]
    refine Chk_intro (by omega) ?_
    simp -dsimp only [go_sem, ↓reduceIte, reduceCtorEq, Nat.reduceEqDiff, Nat.reduceAdd, Nat.reduceLeDiff, Nat.reduceMul, Int.reduceBEq, Int.reduceBNe, Int.reduceLT, Int.reduceLE, Int.reduceGT, Int.reduceGE, r1.cell, ro.cell, rx.cell, ru.cell]
    refine Chk_intro (rx.wr (by first | (simp; done) | (simp; omega))) fun h10 s10 => ?_
    have s10_z := s10.size
    replace p0 := p0.fresh s10.fr (by omega)
    replace r1 := r1.fr s10.fr (by omega)
    replace ro := ro.fr s10.fr (by omega)
    replace ru := ru.fr s10.fr (by omega)
    replace rx := s10.row rx
    try simp only [cl_int, cl_bool, cl_slice, cl_ptr, putAt_one, List.set_cons_zero, List.set_cons_succ, ivec_set, brow_upd] at rx
    simp -dsimp only [go_sem, ↓reduceIte, reduceCtorEq, Nat.reduceEqDiff, Nat.reduceAdd, Nat.reduceLeDiff, Nat.reduceMul, Int.reduceBEq, Int.reduceBNe, Int.reduceLT, Int.reduceLE, Int.reduceGT, Int.reduceGE, r1.cell, ro.cell, rx.cell, ru.cell]
    simp -dsimp (disch := omega) only [wrap64]
    simp only [glueIn, if_neg nb, Int.toNat_natCast] at hgl
    refine ⟨i + 1, by omega, by simp [Le, find], by omega, p0, by omega, r1, upd (upd U x true) y true, upd F y x, upd S x (y : Int), ?_, rx, ru, hG.step hx hy g5 g6 g7, hgl⟩
    rw [ivec_congr fun p hp => ?_]; exact ro
    unfold upd; split <;> rfl
  have hil : i = l.length := by omega
  subst hil
  rw [List.drop_length] at hgl
  simp only [glueIn] at hgl
  simp -dsimp only [go_sem, ↓reduceIte, reduceCtorEq, Nat.reduceEqDiff, Nat.reduceAdd, Nat.reduceLeDiff, Nat.reduceMul, Int.reduceBEq, Int.reduceBNe, Int.reduceLT, Int.reduceLE, Int.reduceGT, Int.reduceGE, r1.cell, ro.cell, rx.cell, ru.cell]
  refine call_of (ref1_New n h6) ?_
  rintro v h7 ⟨f7, t7⟩
  have f7_z := f7.size
  replace p0 := p0.fresh f7 (by omega)
  replace r1 := r1.fr f7 (by omega)
  replace ro := ro.fr f7 (by omega)
  replace rx := rx.fr f7 (by omega)
  replace ru := ru.fr f7 (by omega)
  have hcl : clampN n = n := by unfold clampN; omega
  rw [hcl] at t7
  obtain ⟨-, z, Z, rfl, t7⟩ := t7
  obtain ⟨za, zc, rfl⟩ := t7.own.is
  have t7_b := t7.own.at_
  simp -dsimp only [go_sem, ↓reduceIte, reduceCtorEq, Nat.reduceEqDiff, Nat.reduceAdd, Nat.reduceLeDiff, Nat.reduceMul, Int.reduceBEq, Int.reduceBNe, Int.reduceLT, Int.reduceLE, Int.reduceGT, Int.reduceGE, r1.cell, ro.cell, rx.cell, ru.cell]
  intro b8 h8 n8
  have n8_a := n8.at_
  have n8_z := n8.size
  replace p0 := p0.fresh (n8.fr (lo := 0) (hi := 0)) (by omega)
  replace r1 := r1.fr (n8.fr (lo := 0) (hi := 0)) (by omega)
  replace ro := ro.fr (n8.fr (lo := 0) (hi := 0)) (by omega)
  replace rx := rx.fr (n8.fr (lo := 0) (hi := 0)) (by omega)
  replace ru := ru.fr (n8.fr (lo := 0) (hi := 0)) (by omega)
  replace t7 := t7.fr (n8.fr (lo := 0) (hi := 0)) (by omega)
  have r8 := n8.row
  simp -dsimp only [go_sem, ↓reduceIte, reduceCtorEq, Nat.reduceEqDiff, Nat.reduceAdd, Nat.reduceLeDiff, Nat.reduceMul, Int.reduceBEq, Int.reduceBNe, Int.reduceLT, Int.reduceLE, Int.reduceGT, Int.reduceGE, r1.cell, ro.cell, rx.cell, ru.cell, r8.cell]
  refine Chk_intro (r8.wr (by first | (simp; done) | (simp; omega))) fun h9 s9 => ?_
  have s9_z := s9.size
  replace p0 := p0.fresh s9.fr (by omega)
  replace r1 := r1.fr s9.fr (by omega)
  replace ro := ro.fr s9.fr (by omega)
  replace rx := rx.fr s9.fr (by omega)
  replace ru := ru.fr s9.fr (by omega)
  replace t7 := t7.fr s9.fr (by omega)
  replace r8 := s9.row r8
  try simp only [cl_int, cl_bool, cl_slice, cl_ptr, putAt_one, List.set_cons_zero, List.set_cons_succ, ivec_set, brow_upd] at r8
  simp -dsimp only [go_sem, ↓reduceIte, reduceCtorEq, Nat.reduceEqDiff, Nat.reduceAdd, Nat.reduceLeDiff, Nat.reduceMul, Int.reduceBEq, Int.reduceBNe, Int.reduceLT, Int.reduceLE, Int.reduceGT, Int.reduceGE] at r8
  simp -dsimp only [go_sem, ↓reduceIte, reduceCtorEq, Nat.reduceEqDiff, Nat.reduceAdd, Nat.reduceLeDiff, Nat.reduceMul, Int.reduceBEq, Int.reduceBNe, Int.reduceLT, Int.reduceLE, Int.reduceGT, Int.reduceGE, r1.cell, ro.cell, rx.cell, ru.cell, r8.cell]
  -- the relation between the units
  refine loop_intro (fun p : Nat => [(2, .pointer (some ⟨b1, 0, none⟩)), (6, .slice (some ⟨bo, 0, none⟩) n n), (7, .slice (some ⟨bx, 0, none⟩) n n), (13, .pointer (some ⟨b8, 0, none⟩)), (14, .int .i64 p)])
    (fun p h' => p ≤ n ∧ Fr 0 0 h h' ∧ h9.size ≤ h'.size ∧ Rw h' b1 [.int .i64 n, .slice sa n sc] ∧ Rw h' bo (ivec n fun p => (F p : Int)) ∧ Rw h' bx (ivec n S) ∧ Rw h' b8 [.int .i64 n, .slice za n zc] ∧ ∃ N, Tab h' h6.size h7.size (.slice za n zc) n n Z N ∧ ∀ x y, N x y = true ↔ ∃ p', p' < p ∧ ∃ q, q < n ∧ M p' q = true ∧ S p' ≠ (q : Int) ∧ F p' = x ∧ F q = y) (fun p => n - p) 0 ?_ ?_ ?_
  · simp [Le, find]
  · exact ⟨by omega, p0, by omega, r1, ro, rx, r8, _, t7, by simp⟩
  rintro p h10 ⟨hp, p0, y10, r1, ro, rx, r8, N, t10, hN⟩
  have p0_z := p0.size
  have r1_l := r1.lt
  have ro_l := ro.lt
  have rx_l := rx.lt
  have r8_l := r8.lt
  simp -dsimp only [go_sem, ↓reduceIte, reduceCtorEq, Nat.reduceEqDiff, Nat.reduceAdd, Nat.reduceLeDiff, Nat.reduceMul, Int.reduceBEq, Int.reduceBNe, Int.reduceLT, Int.reduceLE, Int.reduceGT, Int.reduceGE, r1.cell, ro.cell, rx.cell, r8.cell]
  refine ⟨fun hlt => ?_, fun hge => ?_⟩
  · have hlt : p < n := by omega
    simp -dsimp only [go_sem, ↓reduceIte, reduceCtorEq, Nat.reduceEqDiff, Nat.reduceAdd, Nat.reduceLeDiff, Nat.reduceMul, Int.reduceBEq, Int.reduceBNe, Int.reduceLT, Int.reduceLE, Int.reduceGT, Int.reduceGE, r1.cell, ro.cell, rx.cell, r8.cell]
    refine loop_intro (fun q : Nat => [(2, .pointer (some ⟨b1, 0, none⟩)), (6, .slice (some ⟨bo, 0, none⟩) n n), (7, .slice (some ⟨bx, 0, none⟩) n n), (13, .pointer (some ⟨b8, 0, none⟩)), (14, .int .i64 p), (15, .int .i64 q)])
      (fun q h' => q ≤ n ∧ Fr 0 0 h h' ∧ h9.size ≤ h'.size ∧ Rw h' b1 [.int .i64 n, .slice sa n sc] ∧ Rw h' bo (ivec n fun p => (F p : Int)) ∧ Rw h' bx (ivec n S) ∧ Rw h' b8 [.int .i64 n, .slice za n zc] ∧ ∃ N, Tab h' h6.size h7.size (.slice za n zc) n n Z N ∧ ∀ x y, N x y = true ↔ ((∃ p', p' < p ∧ ∃ q, q < n ∧ M p' q = true ∧ S p' ≠ (q : Int) ∧ F p' = x ∧ F q = y) ∨ ∃ q', q' < q ∧ M p q' = true ∧ S p ≠ (q' : Int) ∧ F p = x ∧ F q' = y)) (fun q => n - q) 0 ?_ ?_ ?_
    · simp [Le, find]
    · exact ⟨by omega, p0, by omega, r1, ro, rx, r8, _, t10, by simpa using hN⟩
    rintro q h11 ⟨hq, p0, y11, r1, ro, rx, r8, N, t11, hN⟩
    have p0_z := p0.size
    have r1_l := r1.lt
    have ro_l := ro.lt
    have rx_l := rx.lt
    have r8_l := r8.lt
    simp -dsimp only [go_sem, ↓reduceIte, reduceCtorEq, Nat.reduceEqDiff, Nat.reduceAdd, Nat.reduceLeDiff, Nat.reduceMul, Int.reduceBEq, Int.reduceBNe, Int.reduceLT, Int.reduceLE, Int.reduceGT, Int.reduceGE, r1.cell, ro.cell, rx.cell, r8.cell]
    refine ⟨fun hlt2 => ?_, fun hge2 => ?_⟩
    · have hlt2 : q < n := by omega
      have t := t.fr p0 (by omega)
      have stay : ¬ (M p q = true ∧ S p ≠ (q : Int)) → ∀ x y, N x y = true ↔ ((∃ p', p' < p ∧ ∃ q, q < n ∧ M p' q = true ∧ S p' ≠ (q : Int) ∧ F p' = x ∧ F q = y) ∨ ∃ q', q' < q + 1 ∧ M p q' = true ∧ S p ≠ (q' : Int) ∧ F p = x ∧ F q' = y) := fun hno x y => by
        rw [hN]
        refine or_congr_right ⟨fun ⟨q', h1, h2⟩ => ⟨q', by omega, h2⟩, fun ⟨q', h1, h2, h3, h4⟩ => ⟨q', ?_, h2, h3, h4⟩⟩
        by_cases hqq : q' = q
        · subst hqq; exact absurd ⟨h2, h3⟩ hno
        · omega
      simp -dsimp only [go_sem, ↓reduceIte, reduceCtorEq, Nat.reduceEqDiff, Nat.reduceAdd, Nat.reduceLeDiff, Nat.reduceMul, Int.reduceBEq, Int.reduceBNe, Int.reduceLT, Int.reduceLE, Int.reduceGT, Int.reduceGE, r1.cell, ro.cell, rx.cell, r8.cell]
      refine Chk_intro (by omega) (t.idx hlt fun b3 o3 c3 => ?_)
      simp -dsimp only [go_sem, ↓reduceIte, reduceCtorEq, Nat.reduceEqDiff, Nat.reduceAdd, Nat.reduceLeDiff, Nat.reduceMul, Int.reduceBEq, Int.reduceBNe, Int.reduceLT, Int.reduceLE, Int.reduceGT, Int.reduceGE, c3, r1.cell, ro.cell, rx.cell, r8.cell]
      refine Chk_intro (by omega) ?_
      simp -dsimp only [go_sem, ↓reduceIte, reduceCtorEq, Nat.reduceEqDiff, Nat.reduceAdd, Nat.reduceLeDiff, Nat.reduceMul, Int.reduceBEq, Int.reduceBNe, Int.reduceLT, Int.reduceLE, Int.reduceGT, Int.reduceGE, t.cell hlt hlt2, r1.cell, ro.cell, rx.cell, r8.cell]
      cases hm : M p q with
      | false =>
        simp -dsimp only [go_sem, ↓reduceIte, reduceCtorEq, Nat.reduceEqDiff, Nat.reduceAdd, Nat.reduceLeDiff, Nat.reduceMul, Int.reduceBEq, Int.reduceBNe, Int.reduceLT, Int.reduceLE, Int.reduceGT, Int.reduceGE, r1.cell, ro.cell, rx.cell, r8.cell]
        simp -dsimp (disch := omega) only [wrap64]
        exact ⟨q + 1, by omega, by simp [Le, find], by omega, p0, by omega, r1, ro, rx, r8, N, t11, stay (by simp [hm])⟩
      | true =>
        simp -dsimp only [go_sem, ↓reduceIte, reduceCtorEq, Nat.reduceEqDiff, Nat.reduceAdd, Nat.reduceLeDiff, Nat.reduceMul, Int.reduceBEq, Int.reduceBNe, Int.reduceLT, Int.reduceLE, Int.reduceGT, Int.reduceGE, r1.cell, ro.cell, rx.cell, r8.cell]
        refine Chk_intro (by omega) ?_
        simp -dsimp only [go_sem, ↓reduceIte, reduceCtorEq, Nat.reduceEqDiff, Nat.reduceAdd, Nat.reduceLeDiff, Nat.reduceMul, Int.reduceBEq, Int.reduceBNe, Int.reduceLT, Int.reduceLE, Int.reduceGT, Int.reduceGE, ivec_get hlt, r1.cell, ro.cell, rx.cell, r8.cell]
        cases hs : (S p == (q : Int)) with
        | true =>
          simp -dsimp only [go_sem, ↓reduceIte, reduceCtorEq, Nat.reduceEqDiff, Nat.reduceAdd, Nat.reduceLeDiff, Nat.reduceMul, Int.reduceBEq, Int.reduceBNe, Int.reduceLT, Int.reduceLE, Int.reduceGT, Int.reduceGE, r1.cell, ro.cell, rx.cell, r8.cell]
          simp -dsimp (disch := omega) only [wrap64]
          exact ⟨q + 1, by omega, by simp [Le, find], by omega, p0, by omega, r1, ro, rx, r8, N, t11, stay (by simp at hs; simp [hs])⟩
        | false =>
          have g1 := hG.lt p hlt
          have g2 := hG.lt q hlt2
          simp -dsimp only [go_sem, ↓reduceIte, reduceCtorEq, Nat.reduceEqDiff, Nat.reduceAdd, Nat.reduceLeDiff, Nat.reduceMul, Int.reduceBEq, Int.reduceBNe, Int.reduceLT, Int.reduceLE, Int.reduceGT, Int.reduceGE, r1.cell, ro.cell, rx.cell, r8.cell]
          refine Chk_intro (by omega) ?_
          simp -dsimp only [go_sem, ↓reduceIte, reduceCtorEq, Nat.reduceEqDiff, Nat.reduceAdd, Nat.reduceLeDiff, Nat.reduceMul, Int.reduceBEq, Int.reduceBNe, Int.reduceLT, Int.reduceLE, Int.reduceGT, Int.reduceGE, ivec_get hlt, r1.cell, ro.cell, rx.cell, r8.cell]
          refine Chk_intro (by omega) (t11.idx g1 fun b4 o4 c4 => ?_)
          simp -dsimp only [go_sem, ↓reduceIte, reduceCtorEq, Nat.reduceEqDiff, Nat.reduceAdd, Nat.reduceLeDiff, Nat.reduceMul, Int.reduceBEq, Int.reduceBNe, Int.reduceLT, Int.reduceLE, Int.reduceGT, Int.reduceGE, c4, r1.cell, ro.cell, rx.cell, r8.cell]
          refine Chk_intro (by omega) ?_
          simp -dsimp only [go_sem, ↓reduceIte, reduceCtorEq, Nat.reduceEqDiff, Nat.reduceAdd, Nat.reduceLeDiff, Nat.reduceMul, Int.reduceBEq, Int.reduceBNe, Int.reduceLT, Int.reduceLE, Int.reduceGT, Int.reduceGE, ivec_get hlt2, r1.cell, ro.cell, rx.cell, r8.cell]
          refine Chk_intro (by omega) ?_
          simp -dsimp only [go_sem, ↓reduceIte, reduceCtorEq, Nat.reduceEqDiff, Nat.reduceAdd, Nat.reduceLeDiff, Nat.reduceMul, Int.reduceBEq, Int.reduceBNe, Int.reduceLT, Int.reduceLE, Int.reduceGT, Int.reduceGE, r1.cell, ro.cell, rx.cell, r8.cell]
          refine Chk_intro (t11.wr g1 g2) fun h12 s12 => ?_
          have s12_z := s12.size
          have w1 := t11.row (F p) g1
          have t12 := t11.set g1 s12
          have s12.fr_z := s12.fr.size
          replace p0 := p0.fresh s12.fr (by omega)
          replace r1 := r1.fr s12.fr (by omega)
          replace ro := ro.fr s12.fr (by omega)
          replace rx := rx.fr s12.fr (by omega)
          replace r8 := r8.fr s12.fr (by omega)
          simp -dsimp only [go_sem, ↓reduceIte, reduceCtorEq, Nat.reduceEqDiff, Nat.reduceAdd, Nat.reduceLeDiff, Nat.reduceMul, Int.reduceBEq, Int.reduceBNe, Int.reduceLT, Int.reduceLE, Int.reduceGT, Int.reduceGE, r1.cell, ro.cell, rx.cell, r8.cell]
          simp -dsimp (disch := omega) only [wrap64]
          refine ⟨q + 1, by omega, by simp [Le, find], by omega, p0, by omega, r1, ro, rx, r8, _, t12, fun x y => ?_⟩
          by_cases hxy : x = F p ∧ y = F q
          · rw [if_pos hxy]
            simp only [true_iff]
            exact .inr ⟨q, by omega, hm, by simpa using hs, hxy.1.symm, hxy.2.symm⟩
          · rw [if_neg hxy, hN]
            refine or_congr_right ⟨fun ⟨q', h1, h2⟩ => ⟨q', by omega, h2⟩, fun ⟨q', h1, h2, h3, h4, h5⟩ => ⟨q', ?_, h2, h3, h4, h5⟩⟩
            by_cases hqq : q' = q
            · subst hqq; exact absurd ⟨h4.symm, h5.symm⟩ hxy
            · omega
    · have hqn : q = n := by omega
      subst hqn
      simp -dsimp only [go_sem, ↓reduceIte, reduceCtorEq, Nat.reduceEqDiff, Nat.reduceAdd, Nat.reduceLeDiff, Nat.reduceMul, Int.reduceBEq, Int.reduceBNe, Int.reduceLT, Int.reduceLE, Int.reduceGT, Int.reduceGE, r1.cell, ro.cell, rx.cell, r8.cell]
      simp -dsimp (disch := omega) only [wrap64]
      refine ⟨p + 1, by omega, by simp [Le, find], by omega, p0, by omega, r1, ro, rx, r8, N, t11, fun x y => ?_⟩
      rw [hN]
      constructor
      · rintro (⟨p', h1, h2⟩ | ⟨q', h1, h2⟩)
        · exact ⟨p', by omega, h2⟩
        · exact ⟨p, by omega, q', h1, h2⟩
      · rintro ⟨p', h1, q', h2⟩
        by_cases hpp : p' = p
        · subst hpp; exact .inr ⟨q', h2⟩
        · exact .inl ⟨p', by omega, q', h2⟩
  obtain rfl : n = p := by omega
  have t10 := t10.congr (M' := glueM n M F S) fun x y hx hy => Bool.eq_iff_iff.2 (by rw [hN, glueM_true])
  have hS : glueS n M l = orCyc (glueGo n F S (glueM n M F S) n []) := by simp only [glueS, ← hgl]
  clear hN
  generalize glueM n M F S = G at hS t10
  have a10 := p0.size
  simp -dsimp only [go_sem, ↓reduceIte, reduceCtorEq, Nat.reduceEqDiff, Nat.reduceAdd, Nat.reduceLeDiff, Nat.reduceMul, Int.reduceBEq, Int.reduceBNe, Int.reduceLT, Int.reduceLE, Int.reduceGT, Int.reduceGE, r1.cell, ro.cell, rx.cell, r8.cell]
  refine Chk_intro (by omega) ?_
  intro bd h11 n11
  have n11_a := n11.at_
  have n11_z := n11.size
  replace p0 := p0.fresh (n11.fr (lo := 0) (hi := 0)) (by omega)
  replace r1 := r1.fr (n11.fr (lo := 0) (hi := 0)) (by omega)
  replace ro := ro.fr (n11.fr (lo := 0) (hi := 0)) (by omega)
  replace rx := rx.fr (n11.fr (lo := 0) (hi := 0)) (by omega)
  replace r8 := r8.fr (n11.fr (lo := 0) (hi := 0)) (by omega)
  replace t10 := t10.fr (n11.fr (lo := 0) (hi := 0)) (by omega)
  have rd := n11.row
  rw [zeros_one, Int.toNat_natCast, brow_false] at rd
  simp -dsimp only [go_sem, ↓reduceIte, reduceCtorEq, Nat.reduceEqDiff, Nat.reduceAdd, Nat.reduceLeDiff, Nat.reduceMul, Int.reduceBEq, Int.reduceBNe, Int.reduceLT, Int.reduceLE, Int.reduceGT, Int.reduceGE, r1.cell, ro.cell, rx.cell, r8.cell, rd.cell]
  refine loop_intro (fun s : Value × Nat => [(2, .pointer (some ⟨b1, 0, none⟩)), (6, .slice (some ⟨bo, 0, none⟩) n n), (7, .slice (some ⟨bx, 0, none⟩) n n), (13, .pointer (some ⟨b8, 0, none⟩)), (16, .slice (some ⟨bd, 0, none⟩) n n), (17, s.1)])
    (fun s h' => Fr 0 0 h h' ∧ h11.size ≤ h'.size ∧ Rw h' b1 [.int .i64 n, .slice sa n sc] ∧ Rw h' bo (ivec n fun p => (F p : Int)) ∧ Rw h' bx (ivec n S) ∧ Rw h' b8 [.int .i64 n, .slice za n zc] ∧ Tab h' h6.size h7.size (.slice za n zc) n n Z G ∧ ∃ m : List Nat, m.length = s.2 ∧ m.length ≤ n + 1 ∧ Rw h' bd (brow n m.contains) ∧ Holder 1 h' s.1 m.length (natsV m) h11.size ∧ ∃ k, n ≤ m.length + k ∧ glueGo n F S G k m = glueGo n F S G n []) (fun s => n - s.2) (.slice none 0 0, 0) ?_ ?_ ?_
  · simp [Le, find]
  · exact ⟨p0, by omega, r1, ro, rx, r8, t10, [], rfl, by simp, rd, .none _ _ _, n, by simp, rfl⟩
  rintro ⟨lv, i⟩ h12 ⟨p0, y12, r1, ro, rx, r8, t12, m, hmi, hmn, rd, ol, k, hk, hgo⟩
  dsimp only at hmi ol ⊢
  subst hmi
  have p0_z := p0.size
  have r1_l := r1.lt
  have ro_l := ro.lt
  have rx_l := rx.lt
  have r8_l := r8.lt
  have rd_l := rd.lt
  have ol_l := ol.top
  obtain ⟨va, vc, rfl⟩ := ol.is
  simp -dsimp only [go_sem, ↓reduceIte, reduceCtorEq, Nat.reduceEqDiff, Nat.reduceAdd, Nat.reduceLeDiff, Nat.reduceMul, Int.reduceBEq, Int.reduceBNe, Int.reduceLT, Int.reduceLE, Int.reduceGT, Int.reduceGE, r1.cell, ro.cell, rx.cell, r8.cell, rd.cell]
  refine ⟨fun hlt => ?_, fun hge => ?_⟩
  · have hlt : m.length < n := by omega
    simp -dsimp only [go_sem, ↓reduceIte, reduceCtorEq, Nat.reduceEqDiff, Nat.reduceAdd, Nat.reduceLeDiff, Nat.reduceMul, Int.reduceBEq, Int.reduceBNe, Int.reduceLT, Int.reduceLE, Int.reduceGT, Int.reduceGE, r1.cell, ro.cell, rx.cell, r8.cell, rd.cell]
    rw [wrap64 (by omega) (by omega)]
    refine loop_intro (fun q : Nat => [(2, .pointer (some ⟨b1, 0, none⟩)), (6, .slice (some ⟨bo, 0, none⟩) n n), (7, .slice (some ⟨bx, 0, none⟩) n n), (13, .pointer (some ⟨b8, 0, none⟩)), (16, .slice (some ⟨bd, 0, none⟩) n n), (17, .slice va m.length vc), (18, .int .i64 (nx (lf (fun p => F p == p && freeB n G m.contains p) n q))), (19, .int .i64 ((q : Int) - 1))])
      (fun q h' => q ≤ n ∧ Fr 0 0 h12 h') (fun q => q) n ?_ ?_ ?_
    · simp [Le, find, lf_end, nx]
    · exact ⟨by omega, .refl _ _ _⟩
    rintro q h13 ⟨hq, p13⟩
    have p13_z := p13.size
    replace p0 := p0.fresh p13 (by omega)
    replace r1 := r1.fr p13 (by omega)
    replace ro := ro.fr p13 (by omega)
    replace rx := rx.fr p13 (by omega)
    replace r8 := r8.fr p13 (by omega)
    replace rd := rd.fr p13 (by omega)
    replace ol := ol.fr p13 (by have := ol.at_; omega)
    replace t12 := t12.fr p13 (by omega)
    simp -dsimp only [go_sem, ↓reduceIte, reduceCtorEq, Nat.reduceEqDiff, Nat.reduceAdd, Nat.reduceLeDiff, Nat.reduceMul, Int.reduceBEq, Int.reduceBNe, Int.reduceLT, Int.reduceLE, Int.reduceGT, Int.reduceGE, r1.cell, ro.cell, rx.cell, r8.cell, rd.cell]
    refine ⟨fun hq0 => ?_, fun hq0 => ?_⟩
    · obtain ⟨x, rfl⟩ : ∃ x, q = x + 1 := ⟨q - 1, by omega⟩
      have hx : x < n := by omega
      rw [show ((x + 1 : Nat) : Int) - 1 = (x : Int) from by omega]
      simp -dsimp only [go_sem, ↓reduceIte, reduceCtorEq, Nat.reduceEqDiff, Nat.reduceAdd, Nat.reduceLeDiff, Nat.reduceMul, Int.reduceBEq, Int.reduceBNe, Int.reduceLT, Int.reduceLE, Int.reduceGT, Int.reduceGE, r1.cell, ro.cell, rx.cell, r8.cell, rd.cell]
      refine Chk_intro (by omega) ?_
      simp -dsimp only [go_sem, ↓reduceIte, reduceCtorEq, Nat.reduceEqDiff, Nat.reduceAdd, Nat.reduceLeDiff, Nat.reduceMul, Int.reduceBEq, Int.reduceBNe, Int.reduceLT, Int.reduceLE, Int.reduceGT, Int.reduceGE, ivec_get hx, r1.cell, ro.cell, rx.cell, r8.cell, rd.cell]
      cases hF : ((F x : Int) == (x : Int)) with
      | false =>
        have hF' : (F x == x) = false := by simp at hF ⊢; omega
        simp -dsimp only [go_sem, ↓reduceIte, reduceCtorEq, Nat.reduceEqDiff, Nat.reduceAdd, Nat.reduceLeDiff, Nat.reduceMul, Int.reduceBEq, Int.reduceBNe, Int.reduceLT, Int.reduceLE, Int.reduceGT, Int.reduceGE, r1.cell, ro.cell, rx.cell, r8.cell, rd.cell]
        simp -dsimp (disch := omega) only [wrap64]
        exact ⟨x, by omega, by simp [Le, find, lf_step _ hx, hF', nx], by omega, p13⟩
      | true =>
        have hF' : (F x == x) = true := by simp at hF ⊢; omega
        simp -dsimp only [go_sem, ↓reduceIte, reduceCtorEq, Nat.reduceEqDiff, Nat.reduceAdd, Nat.reduceLeDiff, Nat.reduceMul, Int.reduceBEq, Int.reduceBNe, Int.reduceLT, Int.reduceLE, Int.reduceGT, Int.reduceGE, r1.cell, ro.cell, rx.cell, r8.cell, rd.cell]
        refine call_of (ref2_free (n := n) (M := G) (D := m.contains) (lo := h6.size) (hi := h7.size) ⟨hn, _, _, rfl, t12⟩ (rd.rd (by simp)) hx) ?_
        rintro v h14 ⟨f14, rfl⟩
        simp -dsimp only [go_sem, ↓reduceIte, reduceCtorEq, Nat.reduceEqDiff, Nat.reduceAdd, Nat.reduceLeDiff, Nat.reduceMul, Int.reduceBEq, Int.reduceBNe, Int.reduceLT, Int.reduceLE, Int.reduceGT, Int.reduceGE, r1.cell, ro.cell, rx.cell, r8.cell, rd.cell]
        refine ⟨fun hf => ?_, fun hf => ?_⟩
        · simp -dsimp only [go_sem, ↓reduceIte, reduceCtorEq, Nat.reduceEqDiff, Nat.reduceAdd, Nat.reduceLeDiff, Nat.reduceMul, Int.reduceBEq, Int.reduceBNe, Int.reduceLT, Int.reduceLE, Int.reduceGT, Int.reduceGE, r1.cell, ro.cell, rx.cell, r8.cell, rd.cell]
          simp -dsimp (disch := omega) only [wrap64]
          exact ⟨x, by omega, by simp [Le, find, lf_step _ hx, hF', hf, nx], by omega, p13.trans f14⟩
        · simp -dsimp only [go_sem, ↓reduceIte, reduceCtorEq, Nat.reduceEqDiff, Nat.reduceAdd, Nat.reduceLeDiff, Nat.reduceMul, Int.reduceBEq, Int.reduceBNe, Int.reduceLT, Int.reduceLE, Int.reduceGT, Int.reduceGE, r1.cell, ro.cell, rx.cell, r8.cell, rd.cell]
          simp -dsimp (disch := omega) only [wrap64]
          exact ⟨x, by omega, by simp [Le, find, lf_step _ hx, hF', hf, nx], by omega, p13.trans f14⟩
    · obtain rfl : q = 0 := by omega
      obtain ⟨k, rfl⟩ : ∃ k', k = k' + 1 := ⟨k - 1, by omega⟩
      simp only [glueGo, if_neg (show ¬ n ≤ m.length by omega)] at hgo
      cases hx : lf (fun p => F p == p && freeB n G m.contains p) n 0 with
      | none =>
        rw [hx] at hgo
        dsimp only at hgo
        simp -dsimp only [go_sem, ↓reduceIte, reduceCtorEq, Nat.reduceEqDiff, Nat.reduceAdd, Nat.reduceLeDiff, Nat.reduceMul, Int.reduceBEq, Int.reduceBNe, Int.reduceLT, Int.reduceLE, Int.reduceGT, Int.reduceGE, r1.cell, ro.cell, rx.cell, r8.cell, rd.cell]
        exact ⟨p0, by rw [hS, ← hgo]; rfl⟩
      | some x =>
        rw [hx] at hgo
        dsimp only at hgo
        obtain ⟨_, hxn, hfx⟩ := lf_some hx
        simp -dsimp only [go_sem, ↓reduceIte, reduceCtorEq, Nat.reduceEqDiff, Nat.reduceAdd, Nat.reduceLeDiff, Nat.reduceMul, Int.reduceBEq, Int.reduceBNe, Int.reduceLT, Int.reduceLE, Int.reduceGT, Int.reduceGE, r1.cell, ro.cell, rx.cell, r8.cell, rd.cell]
        refine Chk_intro (by omega) ?_
        simp -dsimp only [go_sem, ↓reduceIte, reduceCtorEq, Nat.reduceEqDiff, Nat.reduceAdd, Nat.reduceLeDiff, Nat.reduceMul, Int.reduceBEq, Int.reduceBNe, Int.reduceLT, Int.reduceLE, Int.reduceGT, Int.reduceGE, r1.cell, ro.cell, rx.cell, r8.cell, rd.cell]
        refine Chk_intro (rd.wr (by first | (simp; done) | (simp; omega))) fun h14 s14 => ?_
        have s14_z := s14.size
        replace p0 := p0.fresh s14.fr (by omega)
        replace r1 := r1.fr s14.fr (by omega)
        replace ro := ro.fr s14.fr (by omega)
        replace rx := rx.fr s14.fr (by omega)
        replace r8 := r8.fr s14.fr (by omega)
        replace ol := ol.fr s14.fr (by have := ol.at_; omega)
        replace t12 := t12.fr s14.fr (by omega)
        replace rd := s14.row rd
        try simp only [cl_int, cl_bool, cl_slice, cl_ptr, putAt_one, List.set_cons_zero, List.set_cons_succ, ivec_set, brow_upd] at rd
        simp -dsimp only [go_sem, ↓reduceIte, reduceCtorEq, Nat.reduceEqDiff, Nat.reduceAdd, Nat.reduceLeDiff, Nat.reduceMul, Int.reduceBEq, Int.reduceBNe, Int.reduceLT, Int.reduceLE, Int.reduceGT, Int.reduceGE, nx_some, r1.cell, ro.cell, rx.cell, r8.cell, rd.cell]
        intro b15 h15 n15
        have n15_a := n15.at_
        have n15_z := n15.size
        replace p0 := p0.fresh (n15.fr (lo := 0) (hi := 0)) (by omega)
        replace r1 := r1.fr (n15.fr (lo := 0) (hi := 0)) (by omega)
        replace ro := ro.fr (n15.fr (lo := 0) (hi := 0)) (by omega)
        replace rx := rx.fr (n15.fr (lo := 0) (hi := 0)) (by omega)
        replace r8 := r8.fr (n15.fr (lo := 0) (hi := 0)) (by omega)
        replace rd := rd.fr (n15.fr (lo := 0) (hi := 0)) (by omega)
        replace ol := ol.fr (n15.fr (lo := 0) (hi := 0)) (by have := ol.at_; omega)
        replace t12 := t12.fr (n15.fr (lo := 0) (hi := 0)) (by omega)
        simp -dsimp only [go_sem, ↓reduceIte, reduceCtorEq, Nat.reduceEqDiff, Nat.reduceAdd, Nat.reduceLeDiff, Nat.reduceMul, Int.reduceBEq, Int.reduceBNe, Int.reduceLT, Int.reduceLE, Int.reduceGT, Int.reduceGE, n15.row.cell, r1.cell, ro.cell, rx.cell, r8.cell, rd.cell]
        refine ol.append (by omega) rfl (by omega) (by simp) (by omega) fun v16 h16 o_new f16 e_app => ?_
        have f16_z := f16.size
        have o_at := ol.at_
        replace p0 := p0.fresh f16 (by omega)
        replace r1 := r1.fr f16 (by omega)
        replace ro := ro.fr f16 (by omega)
        replace rx := rx.fr f16 (by omega)
        replace r8 := r8.fr f16 (by omega)
        replace rd := rd.fr f16 (by omega)
        replace t12 := t12.fr f16 (by omega)
        clear o_at e_app
        replace ol := o_new
        have ol_l := ol.top
        simp -dsimp only [go_sem, ↓reduceIte, reduceCtorEq, Nat.reduceEqDiff, Nat.reduceAdd, Nat.reduceLeDiff, Nat.reduceMul, Int.reduceBEq, Int.reduceBNe, Int.reduceLT, Int.reduceLE, Int.reduceGT, Int.reduceGE, nx_some, r1.cell, ro.cell, rx.cell, r8.cell, rd.cell]
        refine Chk_intro (by omega) ?_
        simp -dsimp only [go_sem, ↓reduceIte, reduceCtorEq, Nat.reduceEqDiff, Nat.reduceAdd, Nat.reduceLeDiff, Nat.reduceMul, Int.reduceBEq, Int.reduceBNe, Int.reduceLT, Int.reduceLE, Int.reduceGT, Int.reduceGE, ivec_get hxn, r1.cell, ro.cell, rx.cell, r8.cell, rd.cell]
        have e1 : upd m.contains x true = (m ++ [x]).contains := by
          funext j; unfold upd; by_cases hj : j = x <;> simp [hj]
        rw [e1] at rd
        have ol2 : Holder 1 h16 v16 (m ++ [x]).length (natsV (m ++ [x])) h11.size := by simpa [natsV] using ol
        have ol2_l := ol2.top
        have hml : (m ++ [x]).length = m.length + 1 := by simp
        rcases hG.snd x hxn with hs | ⟨y, hy, hs, hyx, hyF, hxF⟩
        · rw [hs, if_neg (by decide)] at hgo
          simp -dsimp only [go_sem, ↓reduceIte, reduceCtorEq, Nat.reduceEqDiff, Nat.reduceAdd, Nat.reduceLeDiff, Nat.reduceMul, Int.reduceBEq, Int.reduceBNe, Int.reduceLT, Int.reduceLE, Int.reduceGT, Int.reduceGE, hs, r1.cell, ro.cell, rx.cell, r8.cell, rd.cell]
          exact ⟨(v16, (m ++ [x]).length), by dsimp only; omega, by simp [Le, find], p0, by omega, r1, ro, rx, r8, t12, m ++ [x], rfl, by omega, rd, ol2, k, by omega, hgo⟩
        · rw [hs, if_pos (by omega), Int.toNat_natCast] at hgo
          obtain ⟨wa, wc, rfl⟩ := ol2.is
          simp -dsimp only [go_sem, ↓reduceIte, reduceCtorEq, Nat.reduceEqDiff, Nat.reduceAdd, Nat.reduceLeDiff, Nat.reduceMul, Int.reduceBEq, Int.reduceBNe, Int.reduceLT, Int.reduceLE, Int.reduceGT, Int.reduceGE, hs, r1.cell, ro.cell, rx.cell, r8.cell, rd.cell]
          refine Chk_intro (by omega) ?_
          simp -dsimp only [go_sem, ↓reduceIte, reduceCtorEq, Nat.reduceEqDiff, Nat.reduceAdd, Nat.reduceLeDiff, Nat.reduceMul, Int.reduceBEq, Int.reduceBNe, Int.reduceLT, Int.reduceLE, Int.reduceGT, Int.reduceGE, ivec_get hxn, hs, r1.cell, ro.cell, rx.cell, r8.cell, rd.cell]
          refine Chk_intro (by omega) ?_
          simp -dsimp only [go_sem, ↓reduceIte, reduceCtorEq, Nat.reduceEqDiff, Nat.reduceAdd, Nat.reduceLeDiff, Nat.reduceMul, Int.reduceBEq, Int.reduceBNe, Int.reduceLT, Int.reduceLE, Int.reduceGT, Int.reduceGE, r1.cell, ro.cell, rx.cell, r8.cell, rd.cell]
          refine Chk_intro (rd.wr (by first | (simp; done) | (simp; omega))) fun h17 s17 => ?_
          have s17_z := s17.size
          replace p0 := p0.fresh s17.fr (by omega)
          replace r1 := r1.fr s17.fr (by omega)
          replace ro := ro.fr s17.fr (by omega)
          replace rx := rx.fr s17.fr (by omega)
          replace r8 := r8.fr s17.fr (by omega)
          replace t12 := t12.fr s17.fr (by omega)
          replace ol2 := ol2.fr s17.fr (by have := ol2.at_; omega)
          replace rd := s17.row rd
          try simp only [cl_int, cl_bool, cl_slice, cl_ptr, putAt_one, List.set_cons_zero, List.set_cons_succ, ivec_set, brow_upd] at rd
          simp -dsimp only [go_sem, ↓reduceIte, reduceCtorEq, Nat.reduceEqDiff, Nat.reduceAdd, Nat.reduceLeDiff, Nat.reduceMul, Int.reduceBEq, Int.reduceBNe, Int.reduceLT, Int.reduceLE, Int.reduceGT, Int.reduceGE, r1.cell, ro.cell, rx.cell, r8.cell, rd.cell]
          refine Chk_intro (by omega) ?_
          simp -dsimp only [go_sem, ↓reduceIte, reduceCtorEq, Nat.reduceEqDiff, Nat.reduceAdd, Nat.reduceLeDiff, Nat.reduceMul, Int.reduceBEq, Int.reduceBNe, Int.reduceLT, Int.reduceLE, Int.reduceGT, Int.reduceGE, ivec_get hxn, hs, r1.cell, ro.cell, rx.cell, r8.cell, rd.cell]
          intro b18 h18 n18
          have n18_a := n18.at_
          have n18_z := n18.size
          replace p0 := p0.fresh (n18.fr (lo := 0) (hi := 0)) (by omega)
          replace r1 := r1.fr (n18.fr (lo := 0) (hi := 0)) (by omega)
          replace ro := ro.fr (n18.fr (lo := 0) (hi := 0)) (by omega)
          replace rx := rx.fr (n18.fr (lo := 0) (hi := 0)) (by omega)
          replace r8 := r8.fr (n18.fr (lo := 0) (hi := 0)) (by omega)
          replace rd := rd.fr (n18.fr (lo := 0) (hi := 0)) (by omega)
          replace t12 := t12.fr (n18.fr (lo := 0) (hi := 0)) (by omega)
          replace ol2 := ol2.fr (n18.fr (lo := 0) (hi := 0)) (by have := ol2.at_; omega)
          simp -dsimp only [go_sem, ↓reduceIte, reduceCtorEq, Nat.reduceEqDiff, Nat.reduceAdd, Nat.reduceLeDiff, Nat.reduceMul, Int.reduceBEq, Int.reduceBNe, Int.reduceLT, Int.reduceLE, Int.reduceGT, Int.reduceGE, n18.row.cell, r1.cell, ro.cell, rx.cell, r8.cell, rd.cell]
          refine ol2.append (by omega) rfl (by omega) (by simp) (by omega) fun v19 h19 o_new f19 e_app => ?_
          have f19_z := f19.size
          have o_at := ol2.at_
          replace p0 := p0.fresh f19 (by omega)
          replace r1 := r1.fr f19 (by omega)
          replace ro := ro.fr f19 (by omega)
          replace rx := rx.fr f19 (by omega)
          replace r8 := r8.fr f19 (by omega)
          replace rd := rd.fr f19 (by omega)
          replace t12 := t12.fr f19 (by omega)
          clear o_at e_app
          replace ol2 := o_new
          have ol2_l := ol2.top
          simp -dsimp only [go_sem, ↓reduceIte, reduceCtorEq, Nat.reduceEqDiff, Nat.reduceAdd, Nat.reduceLeDiff, Nat.reduceMul, Int.reduceBEq, Int.reduceBNe, Int.reduceLT, Int.reduceLE, Int.reduceGT, Int.reduceGE, r1.cell, ro.cell, rx.cell, r8.cell, rd.cell]
          have e2 : upd (m ++ [x]).contains y true = (m ++ [x] ++ [y]).contains := by
            funext j; unfold upd; by_cases hj : j = y <;> simp [hj]
          rw [e2] at rd
          have hml2 : (m ++ [x] ++ [y]).length = m.length + 2 := by simp
          refine ⟨(v19, (m ++ [x] ++ [y]).length), by dsimp only; omega, by simp [Le, find], p0, by omega, r1, ro, rx, r8, t12, m ++ [x] ++ [y], rfl, by omega, rd, ?_, k, by omega, hgo⟩
          rw [natsV_append, List.length_append]; exact ol2
  · simp -dsimp only [go_sem, ↓reduceIte, reduceCtorEq, Nat.reduceEqDiff, Nat.reduceAdd, Nat.reduceLeDiff, Nat.reduceMul, Int.reduceBEq, Int.reduceBNe, Int.reduceLT, Int.reduceLE, Int.reduceGT, Int.reduceGE, r1.cell, ro.cell, rx.cell, r8.cell, rd.cell]
    refine ⟨p0, ?_⟩
    rw [hS, ← hgo, glueGo_end (by omega)]
    exact ⟨_, rfl, ol.lower (by omega)⟩
end Go.Proofs.Tst
namespace Go.Proofs.Tst
open Go Go.Vc
theorem order_Sort {n : Nat} {M : Nat → Nat → Bool} {p : Value} {lo hi : Nat} {h : Heap} (hr : ProgAt h lo hi p n M) (ht : TabAt h) :
    Con Tryd.prog 20 #[p] h fun v h' => Fr 0 0 h h' ∧ ListOr h' h.size 3 v (sortS n M) := by
  refine con_order_Sort ?_
  have hn := hr.1
  simp -dsimp only [go_sem, ↓reduceIte, reduceCtorEq, Nat.reduceEqDiff, Nat.reduceAdd, Nat.reduceLeDiff, Nat.reduceMul, Int.reduceBEq, Int.reduceBNe, Int.reduceLT, Int.reduceLE, Int.reduceGT, Int.reduceGE]
  refine call_of (order_chooser hr ht) ?_
  rintro v h1 ⟨p1, c, rfl, t1⟩
  have y1 := p1.size
  simp -dsimp only [go_sem, ↓reduceIte, reduceCtorEq, Nat.reduceEqDiff, Nat.reduceAdd, Nat.reduceLeDiff, Nat.reduceMul, Int.reduceBEq, Int.reduceBNe, Int.reduceLT, Int.reduceLE, Int.reduceGT, Int.reduceGE]
  refine call_of (rel_Len (hr.fr p1 (by omega))) ?_
  rintro v h2 ⟨rfl, rfl⟩
  simp -dsimp only [go_sem, ↓reduceIte, reduceCtorEq, Nat.reduceEqDiff, Nat.reduceAdd, Nat.reduceLeDiff, Nat.reduceMul, Int.reduceBEq, Int.reduceBNe, Int.reduceLT, Int.reduceLE, Int.reduceGT, Int.reduceGE]
  refine loop_intro (fun s : Nat × Value => [(4, c.next), (5, c.place), (6, s.2), (14, .int .i64 n), (15, .int .i64 s.1)])
    (fun s h' => s.1 ≤ n ∧ Fr 0 0 h h' ∧ h2.size ≤ h'.size ∧ ∃ l : List Nat, l.length = s.1 ∧ Chs h' h.size h2.size c n M l.contains ∧ Holder 1 h' s.2 s.1 (natsV l) h2.size ∧ sortGo n M (n - s.1) l = sortS n M)
    (fun s => n - s.1) (0, .slice none 0 0) ?_ ?_ ?_
  · simp [Le, find]
  · exact ⟨by omega, p1, by omega, [], rfl, t1, .none _ _ _, rfl⟩
  rintro ⟨i, lv⟩ h3 ⟨hi, p3, y3, l, hl, t3, ol, hgo⟩
  dsimp only at hi p3 y3 hl t3 ol hgo ⊢
  simp -dsimp only [go_sem, ↓reduceIte, reduceCtorEq, Nat.reduceEqDiff, Nat.reduceAdd, Nat.reduceLeDiff, Nat.reduceMul, Int.reduceBEq, Int.reduceBNe, Int.reduceLT, Int.reduceLE, Int.reduceGT, Int.reduceGE]
  refine ⟨fun hlt => ?_, fun hge => ?_⟩
  · have hlt : i < n := by omega
    simp -dsimp only [go_sem, ↓reduceIte, reduceCtorEq, Nat.reduceEqDiff, Nat.reduceAdd, Nat.reduceLeDiff, Nat.reduceMul, Int.reduceBEq, Int.reduceBNe, Int.reduceLT, Int.reduceLE, Int.reduceGT, Int.reduceGE, ChB.next]
    refine call_of (chooser_next (q := 0) t3 (by omega)) ?_
    rintro v h4 ⟨rfl, rfl⟩
    have hk : n - i = (n - (i + 1)) + 1 := by omega
    rw [hk] at hgo
    cases hx : lf (freeB n M l.contains) n 0 with
    | none =>
      simp only [sortGo, hx] at hgo
      simp -dsimp only [go_sem, ↓reduceIte, reduceCtorEq, Nat.reduceEqDiff, Nat.reduceAdd, Nat.reduceLeDiff, Nat.reduceMul, Int.reduceBEq, Int.reduceBNe, Int.reduceLT, Int.reduceLE, Int.reduceGT, Int.reduceGE, nx_none]
      exact ⟨p3, by rw [← hgo]; rfl⟩
    | some x =>
      simp only [sortGo, hx] at hgo
      obtain ⟨_, hxn, hfx⟩ := lf_some hx
      have hDx : l.contains x = false := (freeB_true.1 hfx).1
      simp -dsimp only [go_sem, ↓reduceIte, reduceCtorEq, Nat.reduceEqDiff, Nat.reduceAdd, Nat.reduceLeDiff, Nat.reduceMul, Int.reduceBEq, Int.reduceBNe, Int.reduceLT, Int.reduceLE, Int.reduceGT, Int.reduceGE, nx_some, ChB.place]
      refine call_of (chooser_place t3 hxn true (by simpa using hDx)) ?_
      rintro v h5 ⟨f5, z5, t5⟩
      obtain ⟨la, lc, rfl⟩ := ol.is
      simp -dsimp only [go_sem, ↓reduceIte, reduceCtorEq, Nat.reduceEqDiff, Nat.reduceAdd, Nat.reduceLeDiff, Nat.reduceMul, Int.reduceBEq, Int.reduceBNe, Int.reduceLT, Int.reduceLE, Int.reduceGT, Int.reduceGE, nx_some]
      intro b6 h6 n6
      have a6 := n6.at_; have z6 := n6.size
      have w0 := ol.at_
      simp -dsimp only [go_sem, ↓reduceIte, reduceCtorEq, Nat.reduceEqDiff, Nat.reduceAdd, Nat.reduceLeDiff, Nat.reduceMul, Int.reduceBEq, Int.reduceBNe, Int.reduceLT, Int.reduceLE, Int.reduceGT, Int.reduceGE, nx_some, n6.row.cell]
      have o6 := (ol.fr f5 (by omega)).fr (n6.fr (lo := 0) (hi := 0)) (by omega)
      have p6 : Fr 0 0 h h6 := (p3.fresh f5 (by omega)).trans n6.fr
      refine o6.append (by omega) rfl (by omega) (by simp) (by omega) fun v7 h7 o7 f7 e7 => ?_
      have y7 := f7.size
      simp -dsimp only [go_sem, ↓reduceIte, reduceCtorEq, Nat.reduceEqDiff, Nat.reduceAdd, Nat.reduceLeDiff, Nat.reduceMul, Int.reduceBEq, Int.reduceBNe, Int.reduceLT, Int.reduceLE, Int.reduceGT, Int.reduceGE]
      simp -dsimp (disch := omega) only [wrap64]
      refine ⟨(i + 1, v7), by dsimp only; omega, by simp [Le, find, ChB.next, ChB.place], by dsimp only; omega, p6.fresh f7 (by omega), by omega, l ++ [x], by simp [hl], ?_, by rw [natsV_append]; exact o7, hgo⟩
      have t7 := (t5.fr (n6.fr (lo := 0) (hi := 0)) (by omega)).fr f7 (by omega)
      have e : (fun k => if k = x then true else l.contains k) = (l ++ [x]).contains := by
        funext k; by_cases hk : k = x <;> simp [hk]
      rw [e] at t7; exact t7
  · have hin : i = n := by omega
    subst hin
    simp -dsimp only [go_sem, ↓reduceIte, reduceCtorEq, Nat.reduceEqDiff, Nat.reduceAdd, Nat.reduceLeDiff, Nat.reduceMul, Int.reduceBEq, Int.reduceBNe, Int.reduceLT, Int.reduceLE, Int.reduceGT, Int.reduceGE]
    rw [Nat.sub_self] at hgo
    refine ⟨p3, ?_⟩
    rw [← hgo]
    simp only [sortGo, ListOr]
    rw [← hl] at ol
    exact ⟨_, rfl, ol.lower (by omega)⟩
end Go.Proofs.Tst
