/-
  Contracts of functions that the law reaches: what each returns and what it leaves in memory. Conditions stand in each.
-/
import Derived.Test.YtgedofjefepebaaDoorT2
set_option linter.all false
set_option maxRecDepth 2000
namespace Go.Proofs.Tst
open Go Go.Vc
/-- Is each pair of one relation a pair of another? -/
def WithinP (n : Nat) (M : Nat → Nat → Bool) (m : Nat) (N : Nat → Nat → Bool) : Prop := ∀ a, a < n → ∀ b, b < n → M a b = true → a < m ∧ b < m ∧ N a b = true
instance (n : Nat) (M : Nat → Nat → Bool) (m : Nat) (N : Nat → Nat → Bool) : Decidable (WithinP n M m N) := by unfold WithinP; infer_instance

theorem rel_Within {n m : Nat} {M N : Nat → Nat → Bool} {p q : Value} {lo hi lo' hi' : Nat} {h : Heap} (hr : ProgAt h lo hi p n M) (hs : ProgAt h lo' hi' q m N) (ht : TabAt h) :
    Con Tryd.prog 42 #[p, q] h fun v h' => Fr 0 0 h h' ∧ v = .bool (decide (WithinP n M m N)) := by
  refine con_rel_Within (fun v h1 h2 x ⟨f, o⟩ => ⟨x.fr f (Nat.le_refl _), o⟩) ?_
  obtain ⟨hn, pb, rb, R, W, rfl, t⟩ := hr
  have hs0 := hs
  obtain ⟨hm, pb', rb', R', W', rfl, t'⟩ := hs
  simp -dsimp only [go_sem, ↓reduceIte, reduceCtorEq, Nat.reduceEqDiff, Nat.reduceAdd, Nat.reduceLeDiff, Nat.reduceMul, Int.reduceBEq, Int.reduceBNe, Int.reduceLT, Int.reduceLE, Int.reduceGT, Int.reduceGE]
  intro b3 h1 n1
  simp -dsimp only [go_sem, ↓reduceIte, reduceCtorEq, Nat.reduceEqDiff, Nat.reduceAdd, Nat.reduceLeDiff, Nat.reduceMul, Int.reduceBEq, Int.reduceBNe, Int.reduceLT, Int.reduceLE, Int.reduceGT, Int.reduceGE]
  intro b4 h2 n2
  have a1 := n1.at_; have z1 := n1.size; have a2 := n2.at_; have z2 := n2.size
  have r3 := n2.rw n1.row
  have r4 := n2.row
  have p2 : Fr 0 0 h h2 := (n1.fr (lo := 0) (hi := 0)).trans n2.fr
  have t2 := t.fr p2 (by omega)
  simp -dsimp only [go_sem, ↓reduceIte, reduceCtorEq, Nat.reduceEqDiff, Nat.reduceAdd, Nat.reduceLeDiff, Nat.reduceMul, Int.reduceBEq, Int.reduceBNe, Int.reduceLT, Int.reduceLE, Int.reduceGT, Int.reduceGE, t2.ptr.cell]
  refine loop_intro (fun i : Nat => [(3, .pointer (some ⟨b3, 0, none⟩)), (4, .pointer (some ⟨b4, 0, none⟩)), (11, .slice (some ⟨rb, 0, none⟩) n n), (12, .int .i64 n), (13, .int .i64 i)])
    (fun i h' => i ≤ n ∧ Fr 0 0 h h' ∧ h2.size ≤ h'.size ∧ Rw h' b3 [.pointer (some ⟨pb', 0, none⟩)] ∧ Rw h' b4 [.bool false] ∧ ∀ a, a < i → ∀ b, b < n → M a b = true → a < m ∧ b < m ∧ N a b = true) (fun i => n - i) 0 ?_ ?_ ?_
  · simp [Le, find]
  · exact ⟨by omega, p2, by omega, r3, r4, fun a ha => by omega⟩
  rintro i h3 ⟨hi1, p3, y3, r3, r4, hw⟩
  have t3 := t.fr p3 (by omega)
  simp -dsimp only [go_sem, ↓reduceIte, reduceCtorEq, Nat.reduceEqDiff, Nat.reduceAdd, Nat.reduceLeDiff, Nat.reduceMul, Int.reduceBEq, Int.reduceBNe, Int.reduceLT, Int.reduceLE, Int.reduceGT, Int.reduceGE]
  refine ⟨fun hlt => ?_, fun hge => ?_⟩
  · have hlt : i < n := by omega
    simp -dsimp only [go_sem, ↓reduceIte, reduceCtorEq, Nat.reduceEqDiff, Nat.reduceAdd, Nat.reduceLeDiff, Nat.reduceMul, Int.reduceBEq, Int.reduceBNe, Int.reduceLT, Int.reduceLE, Int.reduceGT, Int.reduceGE]
    refine Chk_intro (by omega) ?_
    simp -dsimp only [go_sem, ↓reduceIte, reduceCtorEq, Nat.reduceEqDiff, Nat.reduceAdd, Nat.reduceLeDiff, Nat.reduceMul, Int.reduceBEq, Int.reduceBNe, Int.reduceLT, Int.reduceLE, Int.reduceGT, Int.reduceGE, t3.rowsGet hlt]
    intro b5 h4 n4
    have a4 := n4.at_; have z4 := n4.size
    simp -dsimp only [go_sem, ↓reduceIte, reduceCtorEq, Nat.reduceEqDiff, Nat.reduceAdd, Nat.reduceLeDiff, Nat.reduceMul, Int.reduceBEq, Int.reduceBNe, Int.reduceLT, Int.reduceLE, Int.reduceGT, Int.reduceGE]
    refine ⟨n4.row.wr (by simp), fun h5 s5 => ?_⟩
    have r5 := s5.row n4.row
    have z5 := s5.size
    have k3 := r3.lt; have k4 := r4.lt
    have r35 := s5.rw (n4.rw r3) (by omega)
    have r45 := s5.rw (n4.rw r4) (by omega)
    have p5 := (p3.trans n4.fr).fresh s5.fr (by have := p3.size; omega)
    simp -dsimp only [go_sem, ↓reduceIte, reduceCtorEq, Nat.reduceEqDiff, Nat.reduceAdd, Nat.reduceLeDiff, Nat.reduceMul, Int.reduceBEq, Int.reduceBNe, Int.reduceLT, Int.reduceLE, Int.reduceGT, Int.reduceGE] at r5
    simp -dsimp only [go_sem, ↓reduceIte, reduceCtorEq, Nat.reduceEqDiff, Nat.reduceAdd, Nat.reduceLeDiff, Nat.reduceMul, Int.reduceBEq, Int.reduceBNe, Int.reduceLT, Int.reduceLE, Int.reduceGT, Int.reduceGE]
    refine call_of (rel_points _ _ _ h5) ?_
    rintro v h6 ⟨p6, rfl, c6, z6⟩
    simp -dsimp only [go_sem, ↓reduceIte, reduceCtorEq, Nat.reduceEqDiff, Nat.reduceAdd, Nat.reduceLeDiff, Nat.reduceMul, Int.reduceBEq, Int.reduceBNe, Int.reduceLT, Int.reduceLE, Int.reduceGT, Int.reduceGE]
    refine ⟨rfl, ?_⟩
    have rd6 := (ptab_rd (t.fr p5 (by omega)) hlt).fr p6
    have hbits := (t.row i hlt).2.2.2.2.2
    have y5 := p5.size; have y6 := p6.size
    refine ⟨_, RowC h5.size (.slice (some ⟨R i, 0, none⟩) (nw n) (nw n)) (nw n) (W i),
      fun d h' => Fr 0 0 h h' ∧ h2.size ≤ h'.size ∧ Rw h' b3 [.pointer (some ⟨pb', 0, none⟩)] ∧ Rw h' b4 [.bool false] ∧ Rw h' b5 [.int .i64 i] ∧ ∀ b ∈ (rest (M i) n 0).take d, i < m ∧ b < m ∧ N i b = true,
      fun x h' => x = .ret ∧ Fr 0 0 h h' ∧ Rw h' b4 [.bool false] ∧ ¬ WithinP n M m N, points_1 (fun j => (hbits j).1) (by unfold nw; omega), ?_, ?_, ?_, ?_, ?_, ?_, ?_, ?_, ?_⟩
    · intro x hx; obtain ⟨q, _, rfl⟩ := List.mem_map.1 hx; rfl
    · exact fun h1 h2 x ⟨c1, c2, c3⟩ => ⟨x.cell c1, x.rd c2, x.tab c3⟩
    · rintro d h1 h2 x ⟨q1, q2, q3, q4, q5, q6⟩
      exact ⟨x.fr q1 (by omega), Nat.le_trans q2 x.size, x.rw q3, x.rw q4, x.rw q5, q6⟩
    · rintro x h1 h2 x' ⟨e, q1, q2, q3⟩
      exact ⟨e, x'.fr q1 (by omega), x'.rw q2, q3⟩
    · exact ⟨p5.trans p6, by omega, r35.fr p6 (by omega), r45.fr p6 (by omega), r5.fr p6 (by omega), by simp⟩
    · exact ⟨c6, rd6, ht.fr (p5.trans p6) (by omega)⟩
    · rintro d x h7 hs7 hx ⟨q1, q2, q3, q4, q5, q6⟩ hC7
      rw [rest_bits hbits, List.getElem?_map, Option.map_eq_some_iff] at hx
      obtain ⟨b, hb, rfl⟩ := hx
      have hbm := mem_rest.1 (List.mem_of_getElem? hb)
      simp only [zipE]
      simp -dsimp only [go_sem, ↓reduceIte, reduceCtorEq, Nat.reduceEqDiff, Nat.reduceAdd, Nat.reduceLeDiff, Nat.reduceMul, Int.reduceBEq, Int.reduceBNe, Int.reduceLT, Int.reduceLE, Int.reduceGT, Int.reduceGE]
      intro h7' x7
      have q1 := x7.fr q1 (by omega)
      have q3 := x7.rw q3; have q4 := x7.rw q4; have q5 := x7.rw q5
      simp -dsimp only [go_sem, ↓reduceIte, reduceCtorEq, Nat.reduceEqDiff, Nat.reduceAdd, Nat.reduceLeDiff, Nat.reduceMul, Int.reduceBEq, Int.reduceBNe, Int.reduceLT, Int.reduceLE, Int.reduceGT, Int.reduceGE, q3.cell, q5.cell]
      refine call_of (rel_Has (hs0.fr q1 (by omega)) _ _) ?_
      rintro v h8 ⟨rfl, rfl⟩
      simp only [Int.toNat_natCast]
      cases hh : (inR m i && inR m b && N i b) with
      | true =>
        have hh' := hh
        simp only [Bool.and_eq_true, inR, decide_eq_true_eq] at hh'
        simp -dsimp only [go_sem, ↓reduceIte, reduceCtorEq, Nat.reduceEqDiff, Nat.reduceAdd, Nat.reduceLeDiff, Nat.reduceMul, Int.reduceBEq, Int.reduceBNe, Int.reduceLT, Int.reduceLE, Int.reduceGT, Int.reduceGE, hh]
        refine ⟨⟨q1, Nat.le_trans q2 x7.size, q3, q4, q5, fun y hy => ?_⟩, x7.cell hC7.1, x7.rd hC7.2.1, x7.tab hC7.2.2⟩
        rw [List.take_add_one, hb, Option.toList_some] at hy
        rcases List.mem_append.1 hy with hy | hy
        · exact q6 y hy
        · simp at hy; subst hy; exact ⟨by omega, by omega, hh'.2⟩
      | false =>
        simp -dsimp only [go_sem, ↓reduceIte, reduceCtorEq, Nat.reduceEqDiff, Nat.reduceAdd, Nat.reduceLeDiff, Nat.reduceMul, Int.reduceBEq, Int.reduceBNe, Int.reduceLT, Int.reduceLE, Int.reduceGT, Int.reduceGE, hh]
        refine ⟨q4.wr (by simp), fun h9 s9 => ?_⟩
        have r9 := s9.row q4
        simp -dsimp only [go_sem, ↓reduceIte, reduceCtorEq, Nat.reduceEqDiff, Nat.reduceAdd, Nat.reduceLeDiff, Nat.reduceMul, Int.reduceBEq, Int.reduceBNe, Int.reduceLT, Int.reduceLE, Int.reduceGT, Int.reduceGE] at r9
        simp -dsimp only [go_sem, ↓reduceIte, reduceCtorEq, Nat.reduceEqDiff, Nat.reduceAdd, Nat.reduceLeDiff, Nat.reduceMul, Int.reduceBEq, Int.reduceBNe, Int.reduceLT, Int.reduceLE, Int.reduceGT, Int.reduceGE]
        refine ⟨rfl, q1.fresh s9.fr (by omega), r9, fun hW => ?_⟩
        obtain ⟨g1, g2, g3⟩ := hW i hlt b hbm.2.1 hbm.2.2
        simp [inR, g1, g2, g3] at hh
    · rintro h7 hs7 ⟨q1, q2, q3, q4, q5, q6⟩ hC7
      rw [rest_bits hbits, List.length_map, List.take_length] at q6
      simp -dsimp only [go_sem, ↓reduceIte, reduceCtorEq, Nat.reduceEqDiff, Nat.reduceAdd, Nat.reduceLeDiff, Nat.reduceMul, Int.reduceBEq, Int.reduceBNe, Int.reduceLT, Int.reduceLE, Int.reduceGT, Int.reduceGE]
      simp -dsimp (disch := omega) only [wrap64]
      refine ⟨i + 1, by omega, by simp [Le, find], by omega, q1, q2, q3, q4, fun a ha b hb hM => ?_⟩
      by_cases hai : a = i
      · subst hai; exact q6 b (mem_rest.2 ⟨by omega, hb, hM⟩)
      · exact hw a (by omega) b hb hM
    · rintro x h7 hs7 ⟨rfl, q1, q2, q3⟩
      refine ⟨by simp, ?_⟩
      simp -dsimp only [go_sem, ↓reduceIte, reduceCtorEq, Nat.reduceEqDiff, Nat.reduceAdd, Nat.reduceLeDiff, Nat.reduceMul, Int.reduceBEq, Int.reduceBNe, Int.reduceLT, Int.reduceLE, Int.reduceGT, Int.reduceGE, q2.cell]
      exact ⟨q1, by rw [decide_eq_false q3]⟩
  · have : i = n := by omega
    subst this
    simp -dsimp only [go_sem, ↓reduceIte, reduceCtorEq, Nat.reduceEqDiff, Nat.reduceAdd, Nat.reduceLeDiff, Nat.reduceMul, Int.reduceBEq, Int.reduceBNe, Int.reduceLT, Int.reduceLE, Int.reduceGT, Int.reduceGE]
    refine ⟨r4.wr (by simp), fun h4 s4 => ?_⟩
    have r9 := s4.row r4
    simp -dsimp only [go_sem, ↓reduceIte, reduceCtorEq, Nat.reduceEqDiff, Nat.reduceAdd, Nat.reduceLeDiff, Nat.reduceMul, Int.reduceBEq, Int.reduceBNe, Int.reduceLT, Int.reduceLE, Int.reduceGT, Int.reduceGE] at r9
    simp -dsimp only [go_sem, ↓reduceIte, reduceCtorEq, Nat.reduceEqDiff, Nat.reduceAdd, Nat.reduceLeDiff, Nat.reduceMul, Int.reduceBEq, Int.reduceBNe, Int.reduceLT, Int.reduceLE, Int.reduceGT, Int.reduceGE, r9.cell]
    exact ⟨p3.fresh s4.fr (by omega), by rw [decide_eq_true]; exact fun a ha => hw a ha⟩
end Go.Proofs.Tst
namespace Go.Proofs.Tst
open Go Go.Vc
theorem rel_Equal {n m : Nat} {M N : Nat → Nat → Bool} {p q : Value} {lo hi lo' hi' : Nat} {h : Heap} (hr : ProgAt h lo hi p n M) (hs : ProgAt h lo' hi' q m N) (ht : TabAt h) :
    Con Tryd.prog 22 #[p, q] h fun v h' => Fr 0 0 h h' ∧ v = .bool (decide (n = m ∧ WithinP n M m N ∧ WithinP m N n M)) := by
  refine con_rel_Equal ?_
  have hr0 := hr; have hs0 := hs
  obtain ⟨hn, pb, rb, R, W, rfl, t⟩ := hr
  obtain ⟨hm, pb', rb', R', W', rfl, t'⟩ := hs
  simp -dsimp only [go_sem, ↓reduceIte, reduceCtorEq, Nat.reduceEqDiff, Nat.reduceAdd, Nat.reduceLeDiff, Nat.reduceMul, Int.reduceBEq, Int.reduceBNe, Int.reduceLT, Int.reduceLE, Int.reduceGT, Int.reduceGE, t.ptr.cell, t'.ptr.cell]
  cases hnm : ((n : Int) == (m : Int)) with
  | false =>
    simp -dsimp only [go_sem, ↓reduceIte, reduceCtorEq, Nat.reduceEqDiff, Nat.reduceAdd, Nat.reduceLeDiff, Nat.reduceMul, Int.reduceBEq, Int.reduceBNe, Int.reduceLT, Int.reduceLE, Int.reduceGT, Int.reduceGE, hnm]
    exact ⟨.refl _ _ _, by rw [decide_eq_false]; rintro ⟨rfl, _⟩; simp at hnm⟩
  | true =>
    simp -dsimp only [go_sem, ↓reduceIte, reduceCtorEq, Nat.reduceEqDiff, Nat.reduceAdd, Nat.reduceLeDiff, Nat.reduceMul, Int.reduceBEq, Int.reduceBNe, Int.reduceLT, Int.reduceLE, Int.reduceGT, Int.reduceGE, hnm]
    refine call_of (rel_Within hr0 hs0 ht) ?_
    rintro v h1 ⟨p1, rfl⟩
    simp -dsimp only [go_sem, ↓reduceIte, reduceCtorEq, Nat.reduceEqDiff, Nat.reduceAdd, Nat.reduceLeDiff, Nat.reduceMul, Int.reduceBEq, Int.reduceBNe, Int.reduceLT, Int.reduceLE, Int.reduceGT, Int.reduceGE, hnm, (t.ptr.fr p1 (by omega)).cell, (t'.ptr.fr p1 (by omega)).cell]
    by_cases hw : WithinP n M m N
    · simp -dsimp only [go_sem, ↓reduceIte, reduceCtorEq, Nat.reduceEqDiff, Nat.reduceAdd, Nat.reduceLeDiff, Nat.reduceMul, Int.reduceBEq, Int.reduceBNe, Int.reduceLT, Int.reduceLE, Int.reduceGT, Int.reduceGE, hw, decide_true]
      refine call_of (rel_Within (hs0.fr p1 (by omega)) (hr0.fr p1 (by omega)) (ht.fr p1 (by omega))) ?_
      rintro v h2 ⟨p2, rfl⟩
      have p12 := p1.trans p2
      simp -dsimp only [go_sem, ↓reduceIte, reduceCtorEq, Nat.reduceEqDiff, Nat.reduceAdd, Nat.reduceLeDiff, Nat.reduceMul, Int.reduceBEq, Int.reduceBNe, Int.reduceLT, Int.reduceLE, Int.reduceGT, Int.reduceGE, hnm, hw, (t.ptr.fr p12 (by omega)).cell, (t'.ptr.fr p12 (by omega)).cell]
      have hnm : n = m := by have := hnm; simp at this; omega
      subst hnm
      exact ⟨p12, by simp [hw]⟩
    · simp -dsimp only [go_sem, ↓reduceIte, reduceCtorEq, Nat.reduceEqDiff, Nat.reduceAdd, Nat.reduceLeDiff, Nat.reduceMul, Int.reduceBEq, Int.reduceBNe, Int.reduceLT, Int.reduceLE, Int.reduceGT, Int.reduceGE, hw, decide_false]
      exact ⟨p1, by simp [hw]⟩
end Go.Proofs.Tst
namespace Go.Proofs.Tst
open Go Go.Vc
/-- One row is joined into another (which may be the same). -/
theorem row_join {w v b b' : Nat} {W V : Nat → Nat} {ov : Value} {h : Heap} (hx : Rw h b (wrow w W)) (hy : Rw h b' (wrow v V)) (ho : Rd 1 h ov 1 [.slice (some ⟨b', 0, none⟩) v v]) (hW : ∀ i, W i < 2 ^ 64) (hV : ∀ i, V i < 2 ^ 64) (hw : w ≤ 1024) (hv : v ≤ 1024) :
    Con Tryd.prog 77 #[.slice (some ⟨b, 0, none⟩) w w, ov] h fun _ h' => Fr b (b + 1) h h' ∧ h'.size = h.size ∧ Rw h' b (wrow w fun i => if i < v then W i ||| V i else W i) := by
  refine con_rel_row_join ?_
  obtain ⟨oa, oc, rfl⟩ := ho.is
  simp -dsimp only [go_sem, ↓reduceIte, reduceCtorEq, Nat.reduceEqDiff, Nat.reduceAdd, Nat.reduceLeDiff, Nat.reduceMul, Int.reduceBEq, Int.reduceBNe, Int.reduceLT, Int.reduceLE, Int.reduceGT, Int.reduceGE]
  refine loop_intro (fun i : Nat => [(0, .slice (some ⟨b, 0, none⟩) w w), (7, .slice oa 1 oc), (8, .int .i64 1), (9, .int .i64 i)])
    (fun i h' => (i = 0 ∧ h' = h) ∨ (i = 1 ∧ Fr b (b + 1) h h' ∧ h'.size = h.size ∧ Rw h' b (wrow w fun i => if i < v then W i ||| V i else W i))) (fun i => 1 - i) 0 ?_ ?_ ?_
  · simp [Le, find]
  · exact .inl ⟨rfl, rfl⟩
  rintro i h1 (⟨rfl, rfl⟩ | ⟨rfl, hf, hz, hr⟩)
  · simp -dsimp only [go_sem, ↓reduceIte, reduceCtorEq, Nat.reduceEqDiff, Nat.reduceAdd, Nat.reduceLeDiff, Nat.reduceMul, Int.reduceBEq, Int.reduceBNe, Int.reduceLT, Int.reduceLE, Int.reduceGT, Int.reduceGE]
    refine ⟨fun _ => ?_, fun h => absurd (by omega) h⟩
    simp -dsimp only [go_sem, ↓reduceIte, reduceCtorEq, Nat.reduceEqDiff, Nat.reduceAdd, Nat.reduceLeDiff, Nat.reduceMul, Int.reduceBEq, Int.reduceBNe, Int.reduceLT, Int.reduceLE, Int.reduceGT, Int.reduceGE]
    refine Chk_intro (by omega) (ho.idx (by omega) fun b1 o1 c1 => ?_)
    have c1 : hcell h1 b1 o1 = some (.slice (some ⟨b', 0, none⟩) v v) := c1 0 _ rfl
    simp -dsimp only [go_sem, ↓reduceIte, reduceCtorEq, Nat.reduceEqDiff, Nat.reduceAdd, Nat.reduceLeDiff, Nat.reduceMul, Int.reduceBEq, Int.reduceBNe, Int.reduceLT, Int.reduceLE, Int.reduceGT, Int.reduceGE, c1]
    have hm : (if (v : Int) < (w : Int) then (v : Int) else (w : Int)) = ((min w v : Nat) : Int) := by split <;> omega
    rw [hm]
    refine loop_intro (fun i : Nat => [(0, .slice (some ⟨b, 0, none⟩) w w), (5, .slice (some ⟨b', 0, none⟩) v v), (7, .slice oa 1 oc), (8, .int .i64 1), (9, .int .i64 (0 : Nat)), (17, .int .i64 (min w v : Nat)), (18, .int .i64 i)])
      (fun i h' => i ≤ min w v ∧ Fr b (b + 1) h1 h' ∧ h'.size = h1.size ∧ Rw h' b (wrow w fun k => if k < i then W k ||| V k else W k)) (fun i => min w v - i) 0 ?_ ?_ ?_
    · simp [Le, find]
    · exact ⟨by omega, .refl _ _ _, rfl, by simpa using hx⟩
    rintro i h2 ⟨hi, f2, z2, r2⟩
    simp -dsimp only [go_sem, ↓reduceIte, reduceCtorEq, Nat.reduceEqDiff, Nat.reduceAdd, Nat.reduceLeDiff, Nat.reduceMul, Int.reduceBEq, Int.reduceBNe, Int.reduceLT, Int.reduceLE, Int.reduceGT, Int.reduceGE]
    refine ⟨fun hlt => ?_, fun hge => ?_⟩
    · have hlt : i < min w v := by omega
      have hy2 : hcell h2 b' i = some (.int .u64 (V i : Int)) := by
        by_cases hb : b' = b
        · subst hb
          obtain ⟨e1, e2⟩ := wrow_inj (hx.inj hy)
          rw [r2.cell, wrow_get (by omega), if_neg (by omega), e2 i (by omega)]
        · rw [(hy.fr f2 (by omega)).cell, wrow_get (by omega)]
      simp -dsimp only [go_sem, ↓reduceIte, reduceCtorEq, Nat.reduceEqDiff, Nat.reduceAdd, Nat.reduceLeDiff, Nat.reduceMul, Int.reduceBEq, Int.reduceBNe, Int.reduceLT, Int.reduceLE, Int.reduceGT, Int.reduceGE]
      refine Chk_intro (by omega) ?_
      simp -dsimp only [go_sem, ↓reduceIte, reduceCtorEq, Nat.reduceEqDiff, Nat.reduceAdd, Nat.reduceLeDiff, Nat.reduceMul, Int.reduceBEq, Int.reduceBNe, Int.reduceLT, Int.reduceLE, Int.reduceGT, Int.reduceGE, r2.cell, wrow_get (show i < w by omega)]
      refine Chk_intro (by omega) ?_
      simp -dsimp only [go_sem, ↓reduceIte, reduceCtorEq, Nat.reduceEqDiff, Nat.reduceAdd, Nat.reduceLeDiff, Nat.reduceMul, Int.reduceBEq, Int.reduceBNe, Int.reduceLT, Int.reduceLE, Int.reduceGT, Int.reduceGE, hy2, Nat.lt_irrefl]
      rw [or64 (hW i) (hV i)]
      refine Chk_intro (by omega) ?_
      simp -dsimp only [go_sem, ↓reduceIte, reduceCtorEq, Nat.reduceEqDiff, Nat.reduceAdd, Nat.reduceLeDiff, Nat.reduceMul, Int.reduceBEq, Int.reduceBNe, Int.reduceLT, Int.reduceLE, Int.reduceGT, Int.reduceGE]
      refine Chk_intro (r2.wr (by simp; omega)) fun h3 s3 => ?_
      have r3 := s3.row r2
      have z3 := s3.size
      rw [cl_int, putAt_one, wrow_upd] at r3
      simp -dsimp only [go_sem, ↓reduceIte, reduceCtorEq, Nat.reduceEqDiff, Nat.reduceAdd, Nat.reduceLeDiff, Nat.reduceMul, Int.reduceBEq, Int.reduceBNe, Int.reduceLT, Int.reduceLE, Int.reduceGT, Int.reduceGE]
      simp -dsimp (disch := omega) only [wrap64]
      refine ⟨i + 1, by omega, by simp [Le, find], by omega, f2.trans s3.fr, by omega, ?_⟩
      rw [wrow_congr fun k hk => ?_]; exact r3
      unfold upd
      dsimp only
      by_cases hki : k = i
      · subst hki; simp
      · rw [if_neg hki]
        by_cases h1 : k < i
        · rw [if_pos h1, if_pos (by omega)]
        · rw [if_neg h1, if_neg (by omega)]
    · have : i = min w v := by omega
      subst this
      simp -dsimp only [go_sem, ↓reduceIte, reduceCtorEq, Nat.reduceEqDiff, Nat.reduceAdd, Nat.reduceLeDiff, Nat.reduceMul, Int.reduceBEq, Int.reduceBNe, Int.reduceLT, Int.reduceLE, Int.reduceGT, Int.reduceGE]
      simp -dsimp (disch := omega) only [wrap64]
      refine ⟨1, by omega, by simp [Le, find], .inr ⟨rfl, f2, z2, ?_⟩⟩
      rw [wrow_congr fun k hk => ?_]; exact r2
      by_cases h1 : k < v
      · rw [if_pos h1, if_pos (by omega)]
      · rw [if_neg h1, if_neg (by omega)]
  · simp -dsimp only [go_sem, ↓reduceIte, reduceCtorEq, Nat.reduceEqDiff, Nat.reduceAdd, Nat.reduceLeDiff, Nat.reduceMul, Int.reduceBEq, Int.reduceBNe, Int.reduceLT, Int.reduceLE, Int.reduceGT, Int.reduceGE]
    refine ⟨fun h => absurd h (by omega), fun _ => ?_⟩
    simp -dsimp only [go_sem, ↓reduceIte, reduceCtorEq, Nat.reduceEqDiff, Nat.reduceAdd, Nat.reduceLeDiff, Nat.reduceMul, Int.reduceBEq, Int.reduceBNe, Int.reduceLT, Int.reduceLE, Int.reduceGT, Int.reduceGE]
    exact ⟨hf, hz, hr⟩
theorem rel_wide {n : Nat} {M : Nat → Nat → Bool} {p : Value} {lo hi : Nat} {h : Heap} (hr : ProgAt h lo hi p n M) (k : Nat) (hk : k ≤ 256) :
    Con Tryd.prog 88 #[p, .int .i64 k] h fun v h' => Fr 0 0 h h' ∧ ProgAt h' h.size h'.size v (max k n) (inN n M) := by
  refine con_rel_Rel_wide ?_
  obtain ⟨hn, pb, rb, R, W, rfl, t⟩ := hr
  have hm : (if (n : Int) > (k : Int) then (n : Int) else (k : Int)) = ((max k n : Nat) : Int) := by split <;> omega
  have hcl : clampN (max k n : Nat) = max k n := by unfold clampN; omega
  simp -dsimp only [go_sem, ↓reduceIte, reduceCtorEq, Nat.reduceEqDiff, Nat.reduceAdd, Nat.reduceLeDiff, Nat.reduceMul, Int.reduceBEq, Int.reduceBNe, Int.reduceLT, Int.reduceLE, Int.reduceGT, Int.reduceGE, t.ptr.cell]
  rw [hm]
  refine call_of (rel_New _ h) ?_
  rintro v1 h1 ⟨p1, t1⟩
  rw [hcl] at t1
  obtain ⟨hx, pb1, rb1, R1, W1, rfl, t1⟩ := t1
  have t2 := t.fr p1 (by omega)
  simp -dsimp only [go_sem, ↓reduceIte, reduceCtorEq, Nat.reduceEqDiff, Nat.reduceAdd, Nat.reduceLeDiff, Nat.reduceMul, Int.reduceBEq, Int.reduceBNe, Int.reduceLT, Int.reduceLE, Int.reduceGT, Int.reduceGE, t2.ptr.cell]
  have at1 := t1.at_
  refine loop_intro (fun a : Nat => [(5, .pointer (some ⟨pb1, 0, none⟩)), (18, .slice (some ⟨rb, 0, none⟩) n n), (19, .int .i64 n), (20, .int .i64 a)])
    (fun a h' => a ≤ n ∧ Fr 0 0 h h' ∧ h1.size ≤ h'.size ∧ ∃ W, PTab h' h.size h1.size pb1 rb1 (max k n) R1 W fun i j => decide (i < a) && decide (j < n) && M i j) (fun a => n - a) 0 ?_ ?_ ?_
  · simp [Le, find]
  · exact ⟨by omega, p1, by omega, _, t1.congr fun i j _ _ => by simp⟩
  rintro a h2 ⟨ha, p0, y2, W2, t3⟩
  have p0_z := p0.size
  have t4 := t.fr p0 (by omega)
  simp -dsimp only [go_sem, ↓reduceIte, reduceCtorEq, Nat.reduceEqDiff, Nat.reduceAdd, Nat.reduceLeDiff, Nat.reduceMul, Int.reduceBEq, Int.reduceBNe, Int.reduceLT, Int.reduceLE, Int.reduceGT, Int.reduceGE]
  refine ⟨fun hlt => ?_, fun hge => ?_⟩
  · have hlt : a < n := by omega
    simp -dsimp only [go_sem, ↓reduceIte, reduceCtorEq, Nat.reduceEqDiff, Nat.reduceAdd, Nat.reduceLeDiff, Nat.reduceMul, Int.reduceBEq, Int.reduceBNe, Int.reduceLT, Int.reduceLE, Int.reduceGT, Int.reduceGE]
    refine Chk_intro (by omega) ?_
    simp -dsimp only [go_sem, ↓reduceIte, reduceCtorEq, Nat.reduceEqDiff, Nat.reduceAdd, Nat.reduceLeDiff, Nat.reduceMul, Int.reduceBEq, Int.reduceBNe, Int.reduceLT, Int.reduceLE, Int.reduceGT, Int.reduceGE, t4.rowsGet hlt, t3.ptr.cell]
    refine Chk_intro (by omega) ?_
    simp -dsimp only [go_sem, ↓reduceIte, reduceCtorEq, Nat.reduceEqDiff, Nat.reduceAdd, Nat.reduceLeDiff, Nat.reduceMul, Int.reduceBEq, Int.reduceBNe, Int.reduceLT, Int.reduceLE, Int.reduceGT, Int.reduceGE, t3.rowsGet (show a < max k n by omega)]
    intro b5 h5 n5
    have n5_a := n5.at_
    have n5_z := n5.size
    replace p0 := p0.fresh (n5.fr (lo := 0) (hi := 0)) (by omega)
    replace t3 := t3.fr (n5.fr (lo := 0) (hi := 0)) (by omega)
    have r5 := n5.row
    obtain ⟨g1, g2, g3, g4, g5, g6⟩ := t3.row a (by omega)
    obtain ⟨f1, f2, f3, f4, f5, f6⟩ := (t.fr p0 (by omega)).row a hlt
    simp -dsimp only [go_sem, ↓reduceIte, reduceCtorEq, Nat.reduceEqDiff, Nat.reduceAdd, Nat.reduceLeDiff, Nat.reduceMul, Int.reduceBEq, Int.reduceBNe, Int.reduceLT, Int.reduceLE, Int.reduceGT, Int.reduceGE, r5.cell]
    refine call_of (row_join g1 f1 (r5.rd rfl) (fun j => (g6 j).1) (fun j => (f6 j).1) (by unfold nw; omega) (by unfold nw; omega)) ?_
    rintro _ h6 ⟨q6, z6, r6⟩
    have t6 := t3.updRow (by omega) q6 r6 (g6.or f6 (by omega))
    have q6_z := q6.size
    replace p0 := p0.fresh q6 (by omega)
    simp -dsimp only [go_sem, ↓reduceIte, reduceCtorEq, Nat.reduceEqDiff, Nat.reduceAdd, Nat.reduceLeDiff, Nat.reduceMul, Int.reduceBEq, Int.reduceBNe, Int.reduceLT, Int.reduceLE, Int.reduceGT, Int.reduceGE]
    simp -dsimp (disch := omega) only [wrap64]
    refine ⟨a + 1, by omega, by simp [Le, find], by omega, p0, by omega, _, t6.congr fun i j hi hj => ?_⟩
    by_cases hia : i = a
    · subst hia
      rw [upd_same]; simp
    · rw [upd_ne _ _ hia]
      have : (i < a + 1) = (i < a) := by simp; omega
      simp [this]
  · have : a = n := by omega
    subst this
    simp -dsimp only [go_sem, ↓reduceIte, reduceCtorEq, Nat.reduceEqDiff, Nat.reduceAdd, Nat.reduceLeDiff, Nat.reduceMul, Int.reduceBEq, Int.reduceBNe, Int.reduceLT, Int.reduceLE, Int.reduceGT, Int.reduceGE]
    exact ⟨p0, hx, _, _, _, _, rfl, (t3.mono' y2).congr fun i j _ _ => rfl⟩
end Go.Proofs.Tst
namespace Go.Proofs.Tst
open Go Go.Vc
theorem rel_Copy {n : Nat} {M : Nat → Nat → Bool} {p : Value} {lo hi : Nat} {h : Heap} (hr : ProgAt h lo hi p n M) :
    Con Tryd.prog 56 #[p] h fun v h' => Fr 0 0 h h' ∧ ProgAt h' h.size h'.size v n (inN n M) := by
  refine con_rel_Rel_Copy ?_
  simp -dsimp only [go_sem, ↓reduceIte, reduceCtorEq, Nat.reduceEqDiff, Nat.reduceAdd, Nat.reduceLeDiff, Nat.reduceMul, Int.reduceBEq, Int.reduceBNe, Int.reduceLT, Int.reduceLE, Int.reduceGT, Int.reduceGE]
  refine call_of (rel_wide hr 0 (by omega)) ?_
  rintro v h1 ⟨p1, t1⟩
  simp -dsimp only [go_sem, ↓reduceIte, reduceCtorEq, Nat.reduceEqDiff, Nat.reduceAdd, Nat.reduceLeDiff, Nat.reduceMul, Int.reduceBEq, Int.reduceBNe, Int.reduceLT, Int.reduceLE, Int.reduceGT, Int.reduceGE]
  exact ⟨p1, by rwa [Nat.zero_max] at t1⟩
theorem rel_Irreflexive {n : Nat} {M : Nat → Nat → Bool} {p : Value} {lo hi : Nat} {h : Heap} (hr : ProgAt h lo hi p n M) :
    Con Tryd.prog 46 #[p] h fun v h' => h' = h ∧ v = .bool (irrB n M) := by
  refine con_rel_Irreflexive ?_
  obtain ⟨hn, pb, rb, R, W, rfl, t⟩ := hr
  simp -dsimp only [go_sem, ↓reduceIte, reduceCtorEq, Nat.reduceEqDiff, Nat.reduceAdd, Nat.reduceLeDiff, Nat.reduceMul, Int.reduceBEq, Int.reduceBNe, Int.reduceLT, Int.reduceLE, Int.reduceGT, Int.reduceGE, t.ptr.cell]
  refine loop_intro (fun a : Nat => [(8, .slice (some ⟨rb, 0, none⟩) n n), (9, .int .i64 n), (10, .int .i64 a)])
    (fun a h' => h' = h ∧ a ≤ n ∧ ∀ i, i < a → M i i = false) (fun a => n - a) 0 ?_ ?_ ?_
  · simp [Le, find]
  · exact ⟨rfl, by omega, by omega⟩
  rintro a _ ⟨rfl, ha, hinv⟩
  simp -dsimp only [go_sem, ↓reduceIte, reduceCtorEq, Nat.reduceEqDiff, Nat.reduceAdd, Nat.reduceLeDiff, Nat.reduceMul, Int.reduceBEq, Int.reduceBNe, Int.reduceLT, Int.reduceLE, Int.reduceGT, Int.reduceGE]
  refine ⟨fun hlt => ?_, fun hge => ?_⟩
  · have hlt : a < n := by omega
    obtain ⟨g1, g2, g3, g4, g5, g6⟩ := t.row a hlt
    simp -dsimp only [go_sem, ↓reduceIte, reduceCtorEq, Nat.reduceEqDiff, Nat.reduceAdd, Nat.reduceLeDiff, Nat.reduceMul, Int.reduceBEq, Int.reduceBNe, Int.reduceLT, Int.reduceLE, Int.reduceGT, Int.reduceGE]
    refine Chk_intro (by omega) ?_
    simp -dsimp only [go_sem, ↓reduceIte, reduceCtorEq, Nat.reduceEqDiff, Nat.reduceAdd, Nat.reduceLeDiff, Nat.reduceMul, Int.reduceBEq, Int.reduceBNe, Int.reduceLT, Int.reduceLE, Int.reduceGT, Int.reduceGE, t.rowsGet hlt]
    refine call_of (row_has (p := a) (ptab_rd t hlt) (by unfold nw; omega) (g6 _).1 (by omega)) ?_
    rintro v h1 ⟨rfl, rfl⟩
    rw [g6.get hlt]
    cases hm : M a a with
    | true =>
      simp -dsimp only [go_sem, ↓reduceIte, reduceCtorEq, Nat.reduceEqDiff, Nat.reduceAdd, Nat.reduceLeDiff, Nat.reduceMul, Int.reduceBEq, Int.reduceBNe, Int.reduceLT, Int.reduceLE, Int.reduceGT, Int.reduceGE]
      have : irrB n M = false := by
        rw [Bool.eq_false_iff]; intro h'
        have := List.all_eq_true.1 h' a (List.mem_range.2 hlt)
        simp [hm] at this
      rw [this]
    | false =>
      simp -dsimp only [go_sem, ↓reduceIte, reduceCtorEq, Nat.reduceEqDiff, Nat.reduceAdd, Nat.reduceLeDiff, Nat.reduceMul, Int.reduceBEq, Int.reduceBNe, Int.reduceLT, Int.reduceLE, Int.reduceGT, Int.reduceGE]
      simp -dsimp (disch := omega) only [wrap64]
      refine ⟨a + 1, by omega, by simp [Le, find], by omega, fun i hi => ?_⟩
      by_cases hia : i = a
      · subst hia; exact hm
      · exact hinv i (by omega)
  · have : a = n := by omega
    subst this
    simp -dsimp only [go_sem, ↓reduceIte, reduceCtorEq, Nat.reduceEqDiff, Nat.reduceAdd, Nat.reduceLeDiff, Nat.reduceMul, Int.reduceBEq, Int.reduceBNe, Int.reduceLT, Int.reduceLE, Int.reduceGT, Int.reduceGE]
    have : irrB a M = true := List.all_eq_true.2 fun i hi => by rw [hinv i (List.mem_range.1 hi)]; rfl
    rw [this]
theorem rel_Plus {n : Nat} {M : Nat → Nat → Bool} {p : Value} {lo hi : Nat} {h : Heap} (hr : ProgAt h lo hi p n M) :
    Con Tryd.prog 30 #[p] h fun v h' => Fr 0 0 h h' ∧ ProgAt h' h.size h'.size v n (plusM n M) := by
  refine con_rel_Plus ?_
  simp -dsimp only [go_sem, ↓reduceIte, reduceCtorEq, Nat.reduceEqDiff, Nat.reduceAdd, Nat.reduceLeDiff, Nat.reduceMul, Int.reduceBEq, Int.reduceBNe, Int.reduceLT, Int.reduceLE, Int.reduceGT, Int.reduceGE]
  refine call_of (rel_Copy hr) ?_
  rintro v1 h1 ⟨p1, hn, pb1, rb1, R1, W1, rfl, t1⟩
  have at1 := t1.at_
  simp -dsimp only [go_sem, ↓reduceIte, reduceCtorEq, Nat.reduceEqDiff, Nat.reduceAdd, Nat.reduceLeDiff, Nat.reduceMul, Int.reduceBEq, Int.reduceBNe, Int.reduceLT, Int.reduceLE, Int.reduceGT, Int.reduceGE, t1.ptr.cell]
  refine loop_intro (fun k : Nat => [(3, .pointer (some ⟨pb1, 0, none⟩)), (11, .int .i64 n), (12, .int .i64 k)])
    (fun k h' => k ≤ n ∧ Fr 0 0 h h' ∧ h1.size ≤ h'.size ∧ ∃ W, PTab h' h.size h1.size pb1 rb1 n R1 W (warM n M k)) (fun k => n - k) 0 ?_ ?_ ?_
  · simp [Le, find]
  · exact ⟨by omega, p1, by omega, _, t1.congr fun i j hi hj => inN_in hi hj⟩
  rintro k h2 ⟨hk, p0, y2, W2, t2⟩
  simp -dsimp only [go_sem, ↓reduceIte, reduceCtorEq, Nat.reduceEqDiff, Nat.reduceAdd, Nat.reduceLeDiff, Nat.reduceMul, Int.reduceBEq, Int.reduceBNe, Int.reduceLT, Int.reduceLE, Int.reduceGT, Int.reduceGE]
  refine ⟨fun hlt => ?_, fun hge => ?_⟩
  · have hlt : k < n := by omega
    simp -dsimp only [go_sem, ↓reduceIte, reduceCtorEq, Nat.reduceEqDiff, Nat.reduceAdd, Nat.reduceLeDiff, Nat.reduceMul, Int.reduceBEq, Int.reduceBNe, Int.reduceLT, Int.reduceLE, Int.reduceGT, Int.reduceGE, t2.ptr.cell]
    refine loop_intro (fun a : Nat => [(3, .pointer (some ⟨pb1, 0, none⟩)), (4, .int .i64 k), (11, .int .i64 n), (12, .int .i64 k), (18, .int .i64 n), (19, .int .i64 a)])
      (fun a h' => a ≤ n ∧ Fr 0 0 h h' ∧ h1.size ≤ h'.size ∧ ∃ W, PTab h' h.size h1.size pb1 rb1 n R1 W fun i j => if i < a then warM n M (k + 1) i j else warM n M k i j) (fun a => n - a) 0 ?_ ?_ ?_
    · simp [Le, find]
    · exact ⟨by omega, p0, by omega, _, t2.congr fun i j hi hj => by simp⟩
    rintro a h3 ⟨ha, p0, y3, W3, t3⟩
    have p0_z := p0.size
    simp -dsimp only [go_sem, ↓reduceIte, reduceCtorEq, Nat.reduceEqDiff, Nat.reduceAdd, Nat.reduceLeDiff, Nat.reduceMul, Int.reduceBEq, Int.reduceBNe, Int.reduceLT, Int.reduceLE, Int.reduceGT, Int.reduceGE]
    refine ⟨fun hlt2 => ?_, fun hge2 => ?_⟩
    · have hlt2 : a < n := by omega
      obtain ⟨g1, g2, g3, g4, g5, g6⟩ := t3.row a hlt2
      obtain ⟨f1, f2, f3, f4, f5, f6⟩ := t3.row k hlt
      simp -dsimp only [go_sem, ↓reduceIte, reduceCtorEq, Nat.reduceEqDiff, Nat.reduceAdd, Nat.reduceLeDiff, Nat.reduceMul, Int.reduceBEq, Int.reduceBNe, Int.reduceLT, Int.reduceLE, Int.reduceGT, Int.reduceGE, t3.ptr.cell]
      refine Chk_intro (by omega) ?_
      simp -dsimp only [go_sem, ↓reduceIte, reduceCtorEq, Nat.reduceEqDiff, Nat.reduceAdd, Nat.reduceLeDiff, Nat.reduceMul, Int.reduceBEq, Int.reduceBNe, Int.reduceLT, Int.reduceLE, Int.reduceGT, Int.reduceGE, t3.rowsGet hlt2]
      refine call_of (row_has (p := k) (ptab_rd t3 hlt2) (by unfold nw; omega) (g6 _).1 (by omega)) ?_
      rintro v h4 ⟨rfl, rfl⟩
      rw [g6.get hlt]
      simp only [Nat.lt_irrefl, if_false]
      cases hm : warM n M k a k with
      | true =>
        simp -dsimp only [go_sem, ↓reduceIte, reduceCtorEq, Nat.reduceEqDiff, Nat.reduceAdd, Nat.reduceLeDiff, Nat.reduceMul, Int.reduceBEq, Int.reduceBNe, Int.reduceLT, Int.reduceLE, Int.reduceGT, Int.reduceGE, t3.ptr.cell]
        refine Chk_intro (by omega) ?_
        simp -dsimp only [go_sem, ↓reduceIte, reduceCtorEq, Nat.reduceEqDiff, Nat.reduceAdd, Nat.reduceLeDiff, Nat.reduceMul, Int.reduceBEq, Int.reduceBNe, Int.reduceLT, Int.reduceLE, Int.reduceGT, Int.reduceGE, t3.rowsGet hlt2, t3.ptr.cell]
        refine Chk_intro (by omega) ?_
        simp -dsimp only [go_sem, ↓reduceIte, reduceCtorEq, Nat.reduceEqDiff, Nat.reduceAdd, Nat.reduceLeDiff, Nat.reduceMul, Int.reduceBEq, Int.reduceBNe, Int.reduceLT, Int.reduceLE, Int.reduceGT, Int.reduceGE, t3.rowsGet hlt]
        intro b5 h5 n5
        have n5_a := n5.at_
        have n5_z := n5.size
        replace p0 := p0.fresh (n5.fr (lo := 0) (hi := 0)) (by omega)
        replace t3 := t3.fr (n5.fr (lo := 0) (hi := 0)) (by omega)
        have r5 := n5.row
        obtain ⟨g1, g2, g3, g4, g5, g6⟩ := t3.row a hlt2
        obtain ⟨f1, f2, f3, f4, f5, f6⟩ := t3.row k hlt
        simp -dsimp only [go_sem, ↓reduceIte, reduceCtorEq, Nat.reduceEqDiff, Nat.reduceAdd, Nat.reduceLeDiff, Nat.reduceMul, Int.reduceBEq, Int.reduceBNe, Int.reduceLT, Int.reduceLE, Int.reduceGT, Int.reduceGE, t3.rowsGet hlt, t3.rowsGet hlt2, t3.ptr.cell, r5.cell]
        refine call_of (row_join g1 f1 (r5.rd rfl) (fun j => (g6 j).1) (fun j => (f6 j).1) (by unfold nw; omega) (by unfold nw; omega)) ?_
        rintro _ h6 ⟨q6, z6, r6⟩
        have t6 := t3.updRow hlt2 q6 r6 (g6.or f6 (by omega))
        have q6_z := q6.size
        replace p0 := p0.fresh q6 (by omega)
        simp -dsimp only [go_sem, ↓reduceIte, reduceCtorEq, Nat.reduceEqDiff, Nat.reduceAdd, Nat.reduceLeDiff, Nat.reduceMul, Int.reduceBEq, Int.reduceBNe, Int.reduceLT, Int.reduceLE, Int.reduceGT, Int.reduceGE, t6.ptr.cell, t6.rowsGet hlt, t6.rowsGet hlt2]
        simp -dsimp (disch := omega) only [wrap64]
        refine ⟨a + 1, by omega, by simp [Le, find], by omega, p0, by omega, _, t6.congr fun i j hi hj => ?_⟩
        by_cases hia : i = a
        · subst hia
          have e : (if k < i then warM n M (k + 1) k j else warM n M k k j) = warM n M k k j := by split <;> simp [warM_self]
          rw [upd_same, if_pos (Nat.lt_succ_self _)]
          simp only [Nat.lt_irrefl, if_false, e, hj, decide_true, Bool.true_and]
          simp only [warM, hm, Bool.true_and]
        · rw [upd_ne _ _ hia]
          have : (i < a + 1) = (i < a) := by simp; omega
          simp [this]
      | false =>
        simp -dsimp only [go_sem, ↓reduceIte, reduceCtorEq, Nat.reduceEqDiff, Nat.reduceAdd, Nat.reduceLeDiff, Nat.reduceMul, Int.reduceBEq, Int.reduceBNe, Int.reduceLT, Int.reduceLE, Int.reduceGT, Int.reduceGE]
        simp -dsimp (disch := omega) only [wrap64]
        refine ⟨a + 1, by omega, by simp [Le, find], by omega, p0, by omega, _, t3.congr fun i j hi hj => ?_⟩
        by_cases hia : i = a
        · subst hia
          simp [warM, hm]
        · have : (i < a + 1) = (i < a) := by simp; omega
          simp [this]
    · have : a = n := by omega
      subst this
      simp -dsimp only [go_sem, ↓reduceIte, reduceCtorEq, Nat.reduceEqDiff, Nat.reduceAdd, Nat.reduceLeDiff, Nat.reduceMul, Int.reduceBEq, Int.reduceBNe, Int.reduceLT, Int.reduceLE, Int.reduceGT, Int.reduceGE]
      simp -dsimp (disch := omega) only [wrap64]
      exact ⟨k + 1, by omega, by simp [Le, find], by omega, p0, by omega, _, t3.congr fun i j hi hj => by simp [hi]⟩
  · have : k = n := by omega
    subst this
    simp -dsimp only [go_sem, ↓reduceIte, reduceCtorEq, Nat.reduceEqDiff, Nat.reduceAdd, Nat.reduceLeDiff, Nat.reduceMul, Int.reduceBEq, Int.reduceBNe, Int.reduceLT, Int.reduceLE, Int.reduceGT, Int.reduceGE]
    exact ⟨p0, hn, _, _, _, _, rfl, t2.mono' y2⟩
end Go.Proofs.Tst
/-
  order.Extensions: the lists are those of extGo, in their order.
-/
namespace Go.Proofs.Tst
open Go Go.Vc
end Go.Proofs.Tst
/-
  The document's own Extensions.
-/
namespace Go.Proofs.Tst
open Go Go.Vc
end Go.Proofs.Tst
/-
  Lists of lists that are written over, row by row; rows that are grown behind one's back.
-/
namespace Go.Vc
open Go
def mv (k : Nat) : Value := .int .i64 (-1 - (k : Int))
def rowM (k c : Nat) (l : List Value) : List Value := List.replicate (min c l.length) (mv k) ++ l.drop c
def mrk (L : List (List Value)) (i j : Nat) : List (List Value) := L.mapIdx fun k l => if k < i then rowM k l.length l else if k = i then rowM k j l else l
@[simp] theorem rowM_len {k c : Nat} {l : List Value} : (rowM k c l).length = l.length := by unfold rowM; simp; omega
theorem rowM_zero {k : Nat} {l : List Value} : rowM k 0 l = l := by simp [rowM]
theorem rowM_set {k j : Nat} {l : List Value} (hj : j < l.length) : (rowM k j l).set j (mv k) = rowM k (j + 1) l := by
  apply List.ext_getElem?
  intro x
  unfold rowM
  rw [Nat.min_eq_left (by omega), Nat.min_eq_left (by omega)]
  by_cases hx : x < j
  · rw [List.getElem?_set_ne (by omega), List.getElem?_append_left (by simpa using hx), List.getElem?_append_left (by simp; omega)]
    simp [hx, show x < j + 1 from by omega]
  · by_cases hxj : x = j
    · subst hxj
      rw [List.getElem?_set_self (by simp; omega), List.getElem?_append_left (by simp)]
      simp
    · rw [List.getElem?_set_ne (fun h => hxj h.symm), List.getElem?_append_right (by simp; omega), List.getElem?_append_right (by simp; omega)]
      simp only [List.length_replicate, List.getElem?_drop]
      congr 1; omega
theorem rowM_get {k j x : Nat} {l : List Value} (hj : x < j) (hx : x < l.length) : (rowM k j l)[x]? = some (mv k) := by
  unfold rowM
  rw [List.getElem?_append_left (by simp; omega), List.getElem?_replicate, if_pos (by omega)]
theorem mrk_get {L : List (List Value)} {i j k : Nat} : (mrk L i j)[k]? = (L[k]?).map fun l => if k < i then rowM k l.length l else if k = i then rowM k j l else l := by
  unfold mrk; rw [List.getElem?_mapIdx]
@[simp] theorem mrk_len {L : List (List Value)} {i j : Nat} : (mrk L i j).length = L.length := by simp [mrk]
theorem mrk_zero {L : List (List Value)} : mrk L 0 0 = L := by
  apply List.ext_getElem?; intro k
  rw [mrk_get]
  by_cases hk : k = 0
  · subst hk; cases L[0]? <;> simp [rowM_zero]
  · cases L[k]? <;> simp [hk]
theorem mrk_at {L : List (List Value)} {i j : Nat} {l : List Value} (hi : L[i]? = some l) : (mrk L i j)[i]? = some (rowM i j l) := by
  rw [mrk_get, hi]; simp
theorem mrk_set {L : List (List Value)} {i j : Nat} {l : List Value} (hi : L[i]? = some l) : (mrk L i j).set i (rowM i (j + 1) l) = mrk L i (j + 1) := by
  have hil := (List.getElem?_eq_some_iff.1 hi).1
  apply List.ext_getElem?; intro k
  by_cases hk : k = i
  · subst hk
    rw [List.getElem?_set_self (by simpa using hil), mrk_at hi]
  · rw [List.getElem?_set_ne (fun h => hk h.symm), mrk_get, mrk_get]
    simp [hk]
theorem mrk_set' {L : List (List Value)} {i j : Nat} {l : List Value} (hi : L[i]? = some l) : (mrk L i j).set i (rowM i j l) = mrk L i j := by
  have hil := (List.getElem?_eq_some_iff.1 hi).1
  apply List.ext_getElem?; intro k
  by_cases hk : k = i
  · subst hk
    rw [List.getElem?_set_self (by simpa using hil), mrk_at hi]
  · rw [List.getElem?_set_ne (fun h => hk h.symm)]
theorem mrk_next {L : List (List Value)} {i : Nat} {l : List Value} (hi : L[i]? = some l) : mrk L i l.length = mrk L (i + 1) 0 := by
  apply List.ext_getElem?; intro k
  rw [mrk_get, mrk_get]
  by_cases hk : k = i
  · subst hk; rw [hi]; simp
  · by_cases hk1 : k < i
    · simp [hk1, show k < i + 1 from by omega]
    · have : ¬ k < i + 1 := by omega
      by_cases hk2 : k = i + 1
      · subst hk2; cases L[i + 1]? <;> simp [rowM_zero, show ¬ i + 1 < i from by omega]
      · simp [hk, hk1, this, hk2]
theorem mrk_end {L : List (List Value)} {k : Nat} {l : List Value} (hk : L[k]? = some l) : (mrk L L.length 0)[k]? = some (rowM k l.length l) := by
  rw [mrk_get, hk]; simp [(List.getElem?_eq_some_iff.1 hk).1]
/-- A store behind what it holds. -/
theorem Holder.beyond {h h' : Heap} {b n c j : Nat} {xs : List Value} {x : Value} {lo : Nat} (w : Holder 1 h (.slice (some ⟨b, 0, Option.none⟩) n c) n xs lo) (hj : n ≤ j) (s : Sto h h' b j [x]) : Holder 1 h' (.slice (some ⟨b, 0, Option.none⟩) n c) n xs lo := by
  have hl := w.1
  obtain ⟨_, ⟨h1, _⟩ | ⟨b', c', rest, h1, h2, h3, h4⟩⟩ := w
  · simp at h1
  cases h1
  refine ⟨hl, .inr ⟨b, c, rest.set (j - n) x, rfl, ?_, by simpa using h3, h4⟩⟩
  have := s.row h2
  rw [putAt_one, List.set_append_right _ _ (by omega)] at this
  rwa [show j - xs.length = j - n from by omega] at this
/-- What is appended to, and what it was. -/
theorem Holder.appendOld {bytes : Nat} {zero : List Value} {h : Heap} {a : Option Addr} {n c : Nat} {xs new : List Value} {m lo : Nat} {K : Value → Heap → Prop} {d : Dep K}
    (w : Holder 1 h (.slice a n c) n xs lo) (hz : zero.length = 1) (hlo : lo ≤ h.size) (hm : new.length = m * 1) (hbig : (n + m) * 2 * bytes ≤ 281474976710656)
    (hK : ∀ v' h', Holder 1 h' v' (n + m) (xs ++ new) lo → Holder 1 h' (.slice a n c) n xs lo → Fr (bl (.slice a n c)) (bh (.slice a n c)) h h' → bl v' = bl (.slice a n c) ∧ h'.size = h.size ∨ bl v' = h.size ∧ h'.size = h.size + 1 ∨ bh v' = 0 ∧ h' = h → K v' h') :
    appB 1 bytes zero h a n c new m K d := by
  have hlen := w.1
  have w0 := w
  refine ⟨fun hfit => ?_, fun hfit => ⟨hbig, ?_⟩⟩
  · obtain ⟨_, ⟨h1, rfl⟩ | ⟨b, c', rest, h1, h2, h3, h4⟩⟩ := w
    · cases h1
      have hm0 : m = 0 := by omega
      subst hm0
      refine ⟨rfl, hK _ _ ⟨by simp at hm hlen; simp [hm, hlen], .inl ⟨rfl, rfl⟩⟩ w0 (.refl _ _ _) (.inr (.inr ⟨rfl, rfl⟩))⟩
    · cases h1
      simp only [Nat.zero_add]
      refine ⟨h2.wr (by simp [hlen]; omega), fun h' st => ?_⟩
      have := st.row h2
      rw [← hlen, ← List.take_append_drop (m * 1) rest, ← List.append_assoc, putAt_mid _ _ _ _ (by simp [hm]; omega)] at this
      refine hK _ _ ⟨by simp [hlen, hm, Nat.add_mul], .inr ⟨b, _, rest.drop (m * 1), rfl, ?_, by simp; omega, h4⟩⟩ ⟨hlen, .inr ⟨b, _, new ++ rest.drop (m * 1), rfl, ?_, by simp; omega, h4⟩⟩ st.fr (.inl ⟨rfl, st.size⟩)
      · simpa using this
      · simpa using this
  · have hold : ∃ old : List Value, old = xs ∧ (old = [] ∧ a = Option.none ∧ n = 0 ∨ ∃ b o, a = some ⟨b, o, Option.none⟩ ∧ old.length = n * 1 ∧ ∀ j v, old[j]? = some v → hcell h b (o + j) = some v) := by
      refine ⟨xs, rfl, ?_⟩
      obtain ⟨_, ⟨h1, rfl⟩ | ⟨b, c', rest, h1, h2, h3, h4⟩⟩ := w
      · cases h1; exact .inl ⟨by simpa using hlen, rfl, rfl⟩
      · cases h1
        refine .inr ⟨b, 0, rfl, hlen, fun j v hj => ?_⟩
        rw [h2.cell, Nat.zero_add, List.getElem?_append_left (List.getElem?_eq_some_iff.1 hj).1, hj]
    obtain ⟨old, rfl, hold⟩ := hold
    refine ⟨old, hold, fun c' b' h' hc' nw => ?_⟩
    refine hK _ _ ⟨by simp [hlen, hm, Nat.add_mul], .inr ⟨b', c', zeros zero (c' - (n + m)), rfl, nw.row, ?_, by rw [nw.at_]; exact hlo⟩⟩ (w0.fr (nw.fr (lo := 0) (hi := 0)) (by omega)) nw.fr (.inr (.inl ⟨nw.at_, nw.size⟩))
    rw [length_zeros, hz, ← Nat.add_mul]; congr 1; omega
/-- Grown, and the last one stored: what was there stays. -/
theorem grown {h8 h9 h10 : Heap} {u : Value} {b n m j c : Nat} {xs ys : List Value} {x : Value} {lo : Nat} (h0 : 0 < lo) (hlo : lo ≤ h8.size) (o : Holder 1 h9 (.slice (some ⟨b, 0, none⟩) m c) m ys lo) (w : Holder 1 h9 u n xs lo) (hj : n ≤ j)
    (f : Fr (bl u) (bh u) h8 h9) (e : b = bl u ∧ h9.size = h8.size ∨ b = h8.size ∧ h9.size = h8.size + 1 ∨ b + 1 = 0 ∧ h9 = h8) (s : Sto h9 h10 b j [x]) (hw : bh u ≤ h8.size) : Holder 1 h10 u n xs lo ∧ Fr (bl u) (bh u) h8 h10 := by
  have hb : lo ≤ b := by
    have := o.at_
    simp only [bl, bh] at this; omega
  have hu := bh_bl u
  have hf : Fr (bl u) (bh u) h8 h10 := f.freshIn s.fr (by omega)
  refine ⟨?_, hf⟩
  rcases e with ⟨e, -⟩ | ⟨e, -⟩ | ⟨e, -⟩
  · obtain ⟨_, ⟨h1, _⟩ | ⟨b', c', rest, h1, h2, h3, h4⟩⟩ := id w
    · subst h1; simp [bl] at e; omega
    · subst h1
      obtain rfl : b = b' := e
      exact w.beyond hj s
  · exact w.fr s.fr (by omega)
  · omega
end Go.Vc
namespace Go.Proofs.Tst
open Go Go.Vc
/-- The order that is made unit by unit. -/
def glueGo (n : Nat) (F : Nat → Nat) (S : Nat → Int) (N : Nat → Nat → Bool) : Nat → List Nat → Option (List Nat)
  | 0, l => some l
  | k + 1, l => if n ≤ l.length then some l else match lf (fun p => F p == p && freeB n N l.contains p) n 0 with
    | none => none
    | some p => glueGo n F S N k (if S p ≥ 0 then l ++ [p] ++ [(S p).toNat] else l ++ [p])
/-- A list, or a cycle. -/
def orCyc (o : Option (List Nat)) : Except Int (List Nat) := match o with | none => .error 3 | some l => .ok l
/-- What Glue tells: a list, or an error's number. -/
def glueS (n : Nat) (M : Nat → Nat → Bool) (l : List (Int × Int)) : Except Int (List Nat) :=
  match glueFS n l with
  | none => .error 1
  | some (F, S) => orCyc (glueGo n F S (glueM n M F S) n [])
/-- What a function hands back that tells a list, or an error's number. -/
def ResL (h : Heap) (lo : Nat) (v : Value) (o : Except Int (List Nat)) : Prop :=
  match o with
  | .ok l => ∃ s, v = .tuple #[s, .int .i64 0] ∧ Holder 1 h s l.length (natsV l) lo
  | .error e => v = .tuple #[.slice none 0 0, .int .i64 e]
theorem glueGo_end {n : Nat} {F : Nat → Nat} {S : Nat → Int} {N : Nat → Nat → Bool} {k : Nat} {l : List Nat} (h : n ≤ l.length) : glueGo n F S N k l = some l := by
  cases k with
  | zero => rfl
  | succ k => simp [glueGo, h]

end Go.Proofs.Tst
namespace Go.Proofs.Tst
open Go Go.Vc
theorem order_Sort {n : Nat} {M : Nat → Nat → Bool} {p : Value} {lo hi : Nat} {h : Heap} (hr : ProgAt h lo hi p n M) (ht : TabAt h) :
    Con Tryd.prog 20 #[p] h fun v h' => Fr 0 0 h h' ∧ ListOr h' h.size 3 v (sortS n M) := by
  refine con_order_Sort ?_
  have hn := hr.1
  simp -dsimp only [go_sem, ↓reduceIte, reduceCtorEq, Nat.reduceEqDiff, Nat.reduceAdd, Nat.reduceLeDiff, Nat.reduceMul, Int.reduceBEq, Int.reduceBNe, Int.reduceLT, Int.reduceLE, Int.reduceGT, Int.reduceGE]
  refine call_of (order_chooser hr ht) ?_
  rintro v h1 ⟨p1, c, rfl, t1⟩
  have y1 := p1.size
  simp -dsimp only [go_sem, ↓reduceIte, reduceCtorEq, Nat.reduceEqDiff, Nat.reduceAdd, Nat.reduceLeDiff, Nat.reduceMul, Int.reduceBEq, Int.reduceBNe, Int.reduceLT, Int.reduceLE, Int.reduceGT, Int.reduceGE]
  refine call_of (rel_Len (hr.fr p1 (by omega))) ?_
  rintro v h2 ⟨rfl, rfl⟩
  simp -dsimp only [go_sem, ↓reduceIte, reduceCtorEq, Nat.reduceEqDiff, Nat.reduceAdd, Nat.reduceLeDiff, Nat.reduceMul, Int.reduceBEq, Int.reduceBNe, Int.reduceLT, Int.reduceLE, Int.reduceGT, Int.reduceGE]
  refine loop_intro (fun s : Nat × Value => [(4, c.next), (5, c.place), (6, s.2), (14, .int .i64 n), (15, .int .i64 s.1)])
    (fun s h' => s.1 ≤ n ∧ Fr 0 0 h h' ∧ h2.size ≤ h'.size ∧ ∃ l : List Nat, l.length = s.1 ∧ Chs h' h.size h2.size c n M l.contains ∧ Holder 1 h' s.2 s.1 (natsV l) h2.size ∧ sortGo n M (n - s.1) l = sortS n M)
    (fun s => n - s.1) (0, .slice none 0 0) ?_ ?_ ?_
  · simp [Le, find]
  · exact ⟨by omega, p1, by omega, [], rfl, t1, .none _ _ _, rfl⟩
  rintro ⟨i, lv⟩ h3 ⟨hi, p3, y3, l, hl, t3, ol, hgo⟩
  dsimp only at hi p3 y3 hl t3 ol hgo ⊢
  simp -dsimp only [go_sem, ↓reduceIte, reduceCtorEq, Nat.reduceEqDiff, Nat.reduceAdd, Nat.reduceLeDiff, Nat.reduceMul, Int.reduceBEq, Int.reduceBNe, Int.reduceLT, Int.reduceLE, Int.reduceGT, Int.reduceGE]
  refine ⟨fun hlt => ?_, fun hge => ?_⟩
  · have hlt : i < n := by omega
    simp -dsimp only [go_sem, ↓reduceIte, reduceCtorEq, Nat.reduceEqDiff, Nat.reduceAdd, Nat.reduceLeDiff, Nat.reduceMul, Int.reduceBEq, Int.reduceBNe, Int.reduceLT, Int.reduceLE, Int.reduceGT, Int.reduceGE, ChB.next]
    refine call_of (chooser_next (q := 0) t3 (by omega)) ?_
    rintro v h4 ⟨rfl, rfl⟩
    have hk : n - i = (n - (i + 1)) + 1 := by omega
    rw [hk] at hgo
    cases hx : lf (freeB n M l.contains) n 0 with
    | none =>
      simp only [sortGo, hx] at hgo
      simp -dsimp only [go_sem, ↓reduceIte, reduceCtorEq, Nat.reduceEqDiff, Nat.reduceAdd, Nat.reduceLeDiff, Nat.reduceMul, Int.reduceBEq, Int.reduceBNe, Int.reduceLT, Int.reduceLE, Int.reduceGT, Int.reduceGE, nx_none]
      exact ⟨p3, by rw [← hgo]; rfl⟩
    | some x =>
      simp only [sortGo, hx] at hgo
      obtain ⟨_, hxn, hfx⟩ := lf_some hx
      have hDx : l.contains x = false := (freeB_true.1 hfx).1
      simp -dsimp only [go_sem, ↓reduceIte, reduceCtorEq, Nat.reduceEqDiff, Nat.reduceAdd, Nat.reduceLeDiff, Nat.reduceMul, Int.reduceBEq, Int.reduceBNe, Int.reduceLT, Int.reduceLE, Int.reduceGT, Int.reduceGE, nx_some, ChB.place]
      refine call_of (chooser_place t3 hxn true (by simpa using hDx)) ?_
      rintro v h5 ⟨f5, z5, t5⟩
      obtain ⟨la, lc, rfl⟩ := ol.is
      simp -dsimp only [go_sem, ↓reduceIte, reduceCtorEq, Nat.reduceEqDiff, Nat.reduceAdd, Nat.reduceLeDiff, Nat.reduceMul, Int.reduceBEq, Int.reduceBNe, Int.reduceLT, Int.reduceLE, Int.reduceGT, Int.reduceGE, nx_some]
      intro b6 h6 n6
      have a6 := n6.at_; have z6 := n6.size
      have w0 := ol.at_
      simp -dsimp only [go_sem, ↓reduceIte, reduceCtorEq, Nat.reduceEqDiff, Nat.reduceAdd, Nat.reduceLeDiff, Nat.reduceMul, Int.reduceBEq, Int.reduceBNe, Int.reduceLT, Int.reduceLE, Int.reduceGT, Int.reduceGE, nx_some, n6.row.cell]
      have o6 := (ol.fr f5 (by omega)).fr (n6.fr (lo := 0) (hi := 0)) (by omega)
      have p6 : Fr 0 0 h h6 := (p3.fresh f5 (by omega)).trans n6.fr
      refine o6.append (by omega) rfl (by omega) (by simp) (by omega) fun v7 h7 o7 f7 e7 => ?_
      have y7 := f7.size
      simp -dsimp only [go_sem, ↓reduceIte, reduceCtorEq, Nat.reduceEqDiff, Nat.reduceAdd, Nat.reduceLeDiff, Nat.reduceMul, Int.reduceBEq, Int.reduceBNe, Int.reduceLT, Int.reduceLE, Int.reduceGT, Int.reduceGE]
      simp -dsimp (disch := omega) only [wrap64]
      refine ⟨(i + 1, v7), by dsimp only; omega, by simp [Le, find, ChB.next, ChB.place], by dsimp only; omega, p6.fresh f7 (by omega), by omega, l ++ [x], by simp [hl], ?_, by rw [natsV_append]; exact o7, hgo⟩
      have t7 := (t5.fr (n6.fr (lo := 0) (hi := 0)) (by omega)).fr f7 (by omega)
      have e : (fun k => if k = x then true else l.contains k) = (l ++ [x]).contains := by
        funext k; by_cases hk : k = x <;> simp [hk]
      rw [e] at t7; exact t7
  · have hin : i = n := by omega
    subst hin
    simp -dsimp only [go_sem, ↓reduceIte, reduceCtorEq, Nat.reduceEqDiff, Nat.reduceAdd, Nat.reduceLeDiff, Nat.reduceMul, Int.reduceBEq, Int.reduceBNe, Int.reduceLT, Int.reduceLE, Int.reduceGT, Int.reduceGE]
    rw [Nat.sub_self] at hgo
    refine ⟨p3, ?_⟩
    rw [← hgo]
    simp only [sortGo, ListOr]
    rw [← hl] at ol
    exact ⟨_, rfl, ol.lower (by omega)⟩
end Go.Proofs.Tst
