/-
  Contracts of functions that the law reaches: what each returns and what it leaves in memory. Conditions stand in each.
-/
import Derived.Test.YtgedofjefepebaaDoorT1
set_option linter.all false
set_option maxRecDepth 2000
namespace Go.Proofs.Tst
open Go Go.Vc
theorem rel_points (a : Option Addr) (n c : Nat) (h : Heap) : Con Tryd.prog 81 #[.slice a n c] h fun v h' => Fr 0 0 h h' ∧ v = .func (.func 105) #[] #[.pointer (some ⟨h.size, 0, none⟩)] ∧ hcell h' h.size 0 = some (.slice a n c) ∧ h'.size = h.size + 1 := by
  refine con_rel_row_points ?_
  simp -dsimp only [go_sem, ↓reduceIte, reduceCtorEq, Nat.reduceEqDiff, Nat.reduceAdd, Nat.reduceLeDiff, Nat.reduceMul, Int.reduceBEq, Int.reduceBNe, Int.reduceLT, Int.reduceLE, Int.reduceGT, Int.reduceGE]
  intro b h1 n1
  have r1 := n1.row
  have a1 := n1.at_
  subst a1
  simp -dsimp only [go_sem, ↓reduceIte, reduceCtorEq, Nat.reduceEqDiff, Nat.reduceAdd, Nat.reduceLeDiff, Nat.reduceMul, Int.reduceBEq, Int.reduceBNe, Int.reduceLT, Int.reduceLE, Int.reduceGT, Int.reduceGE]
  exact ⟨n1.fr, by rw [r1.cell]; rfl, n1.size⟩

theorem rel_Pairs {n : Nat} {M : Nat → Nat → Bool} {p : Value} {lo hi : Nat} {h : Heap} (hr : ProgAt h lo hi p n M) (ht : TabAt h) :
    Con Tryd.prog 53 #[p] h fun v h' => Fr 0 0 h h' ∧ Holder 2 h' v (pairsOf n M).length (pairsV (pairsOf n M)) h.size := by
  refine con_rel_Rel_Pairs (fun v h1 h2 x ⟨f, o⟩ => ⟨x.fr f (Nat.le_refl _), x.holder o⟩) ?_
  have hr0 := hr
  obtain ⟨hn, pb, rb, R, W, rfl, t⟩ := hr
  simp -dsimp only [go_sem, ↓reduceIte, reduceCtorEq, Nat.reduceEqDiff, Nat.reduceAdd, Nat.reduceLeDiff, Nat.reduceMul, Int.reduceBEq, Int.reduceBNe, Int.reduceLT, Int.reduceLE, Int.reduceGT, Int.reduceGE]
  intro b3 h1 n3
  have z3 := n3.size; have a3 := n3.at_
  have p1 : Fr 0 0 h h1 := n3.fr
  have t1 := t.fr p1 (by omega)
  simp -dsimp only [go_sem, ↓reduceIte, reduceCtorEq, Nat.reduceEqDiff, Nat.reduceAdd, Nat.reduceLeDiff, Nat.reduceMul, Int.reduceBEq, Int.reduceBNe, Int.reduceLT, Int.reduceLE, Int.reduceGT, Int.reduceGE, t1.ptr.cell]
  refine loop_intro (fun i : Nat => [(2, .slice none 0 0), (3, .pointer (some ⟨b3, 0, none⟩)), (10, .slice (some ⟨rb, 0, none⟩) n n), (11, .int .i64 n), (12, .int .i64 i)])
    (fun i h' => i ≤ n ∧ Fr 0 0 h h' ∧ ∃ sv, Rw h' b3 [sv] ∧ Holder 2 h' sv (pairsTo n M i).length (pairsV (pairsTo n M i)) (b3 + 1)) (fun i => n - i) 0 ?_ ?_ ?_
  · simp [Le, find]
  · exact ⟨by omega, p1, _, n3.row, .none _ _ _⟩
  rintro i h2 ⟨hi', p2, sv, r3, o2⟩
  have t2 := t.fr p2 (by omega)
  simp -dsimp only [go_sem, ↓reduceIte, reduceCtorEq, Nat.reduceEqDiff, Nat.reduceAdd, Nat.reduceLeDiff, Nat.reduceMul, Int.reduceBEq, Int.reduceBNe, Int.reduceLT, Int.reduceLE, Int.reduceGT, Int.reduceGE]
  refine ⟨fun hlt => ?_, fun hge => ?_⟩
  · have hlt : i < n := by omega
    simp -dsimp only [go_sem, ↓reduceIte, reduceCtorEq, Nat.reduceEqDiff, Nat.reduceAdd, Nat.reduceLeDiff, Nat.reduceMul, Int.reduceBEq, Int.reduceBNe, Int.reduceLT, Int.reduceLE, Int.reduceGT, Int.reduceGE]
    refine Chk_intro (by omega) ?_
    simp -dsimp only [go_sem, ↓reduceIte, reduceCtorEq, Nat.reduceEqDiff, Nat.reduceAdd, Nat.reduceLeDiff, Nat.reduceMul, Int.reduceBEq, Int.reduceBNe, Int.reduceLT, Int.reduceLE, Int.reduceGT, Int.reduceGE, t2.rowsGet hlt]
    intro b4 h4 n4
    have a4 := n4.at_; have z4 := n4.size
    have p4 := p2.trans n4.fr
    simp -dsimp only [go_sem, ↓reduceIte, reduceCtorEq, Nat.reduceEqDiff, Nat.reduceAdd, Nat.reduceLeDiff, Nat.reduceMul, Int.reduceBEq, Int.reduceBNe, Int.reduceLT, Int.reduceLE, Int.reduceGT, Int.reduceGE]
    refine ⟨n4.row.wr (by simp), fun h5 s5 => ?_⟩
    have r45 := s5.row n4.row
    have z5 := s5.size
    have k3 := r3.lt
    have r35 := s5.rw (n4.rw r3) (by omega)
    have w2 := o2.at_
    have o5 := (o2.fr (n4.fr (lo := 0) (hi := 0)) (by omega)).fr s5.fr (by omega)
    have y2 := p2.size
    have p5 := p4.fresh s5.fr (by omega)
    simp -dsimp only [go_sem, ↓reduceIte, reduceCtorEq, Nat.reduceEqDiff, Nat.reduceAdd, Nat.reduceLeDiff, Nat.reduceMul, Int.reduceBEq, Int.reduceBNe, Int.reduceLT, Int.reduceLE, Int.reduceGT, Int.reduceGE] at r45
    simp -dsimp only [go_sem, ↓reduceIte, reduceCtorEq, Nat.reduceEqDiff, Nat.reduceAdd, Nat.reduceLeDiff, Nat.reduceMul, Int.reduceBEq, Int.reduceBNe, Int.reduceLT, Int.reduceLE, Int.reduceGT, Int.reduceGE]
    refine call_of (rel_points _ _ _ h5) ?_
    rintro v h6 ⟨p6, rfl, c6, z6⟩
    simp -dsimp only [go_sem, ↓reduceIte, reduceCtorEq, Nat.reduceEqDiff, Nat.reduceAdd, Nat.reduceLeDiff, Nat.reduceMul, Int.reduceBEq, Int.reduceBNe, Int.reduceLT, Int.reduceLE, Int.reduceGT, Int.reduceGE]
    refine ⟨rfl, ?_⟩
    have t5 := t.fr p5 (by omega)
    have rd6 := (ptab_rd t5 hlt).fr p6
    have hbits := (t.row i hlt).2.2.2.2.2
    refine ⟨_, RowC h5.size (.slice (some ⟨R i, 0, none⟩) (nw n) (nw n)) (nw n) (W i),
      fun d h' => Fr 0 0 h h' ∧ Rw h' b4 [.int .i64 i] ∧ ∃ sv, Rw h' b3 [sv] ∧ bl sv ≠ b4 ∧ bl sv ≠ h5.size ∧ Holder 2 h' sv ((pairsTo n M i).length + d) (pairsV (pairsTo n M i ++ ((rest (M i) n 0).take d).map fun (b : Nat) => ((i : Int), (b : Int)))) (b3 + 1),
      fun _ _ => False, points_1 (fun j => (hbits j).1) (by unfold nw; omega), ?_, ?_, ?_, ?_, ?_, ?_, ?_, ?_, ?_⟩
    · intro x hx; obtain ⟨q, _, rfl⟩ := List.mem_map.1 hx; rfl
    · exact fun h1 h2 x ⟨c1, c2, c3⟩ => ⟨x.cell c1, x.rd c2, x.tab c3⟩
    · rintro d h1 h2 x ⟨q1, q2, sv', q3, q4, q4', q5⟩
      exact ⟨x.fr q1 (by have := p5.size; have := p6.size; omega), x.rw q2, sv', x.rw q3, q4, q4', x.holder q5⟩
    · exact fun _ _ _ _ h => h
    · exact ⟨p5.trans p6, r45.fr p6 (by omega), sv, r35.fr p6 (by omega), by omega, by omega, by simpa using o5.fr p6 (by omega)⟩
    · exact ⟨c6, rd6, (ht.fr (p5.trans p6) (by omega))⟩
    · rintro d x h7 hs7 hx ⟨q1, q2, sv7, q3, q4, q4', q5⟩ hC7
      rw [rest_bits hbits, List.getElem?_map, Option.map_eq_some_iff] at hx
      obtain ⟨q, hq, rfl⟩ := hx
      simp only [zipE]
      simp -dsimp only [go_sem, ↓reduceIte, reduceCtorEq, Nat.reduceEqDiff, Nat.reduceAdd, Nat.reduceLeDiff, Nat.reduceMul, Int.reduceBEq, Int.reduceBNe, Int.reduceLT, Int.reduceLE, Int.reduceGT, Int.reduceGE]
      intro h7' x7
      have q1 := x7.fr q1 (by have := p5.size; have := p6.size; omega)
      have q2 := x7.rw q2
      have q3 := x7.rw q3
      have q5 := x7.holder q5
      have hC7 : RowC h5.size (.slice (some ⟨R i, 0, none⟩) (nw n) (nw n)) (nw n) (W i) h7' := ⟨x7.cell hC7.1, x7.rd hC7.2.1, x7.tab hC7.2.2⟩
      obtain ⟨sa, sc, rfl⟩ := q5.is
      simp -dsimp only [go_sem, ↓reduceIte, reduceCtorEq, Nat.reduceEqDiff, Nat.reduceAdd, Nat.reduceLeDiff, Nat.reduceMul, Int.reduceBEq, Int.reduceBNe, Int.reduceLT, Int.reduceLE, Int.reduceGT, Int.reduceGE, q3.cell, q2.cell]
      intro b8 h8 n8
      have z8 := n8.size; have a8 := n8.at_
      simp -dsimp only [go_sem, ↓reduceIte, reduceCtorEq, Nat.reduceEqDiff, Nat.reduceAdd, Nat.reduceLeDiff, Nat.reduceMul, Int.reduceBEq, Int.reduceBNe, Int.reduceLT, Int.reduceLE, Int.reduceGT, Int.reduceGE, n8.row.cell]
      have hd := (List.getElem?_eq_some_iff.1 hq).1
      have g1 := length_rest_le (M i) n 0
      have g2 := length_pairsTo_le n M i
      have g3 : i * n ≤ 256 * 256 := Nat.mul_le_mul (by omega) (by omega)
      have w7 := q5.at_
      have k7 := q3.lt; have k7' := q2.lt
      have y7 := x7.size; have y5 := p5.size; have y6 := p6.size
      refine (q5.fr (n8.fr (lo := 0) (hi := 0)) (by omega)).append (by omega) rfl (by omega) (by simp) (by omega) fun v9 h9 o9 f9 e9 => ?_
      obtain ⟨va, vc, rfl⟩ := o9.is
      have w9 := o9.at_
      have y9 := f9.size
      simp -dsimp only [go_sem, ↓reduceIte, reduceCtorEq, Nat.reduceEqDiff, Nat.reduceAdd, Nat.reduceLeDiff, Nat.reduceMul, Int.reduceBEq, Int.reduceBNe, Int.reduceLT, Int.reduceLE, Int.reduceGT, Int.reduceGE]
      have r9 := (n8.rw q3).fr f9 (by omega)
      refine ⟨r9.wr (by simp), fun h10 s10 => ?_⟩
      have r10 := s10.row r9
      have y10 := s10.size
      simp -dsimp only [go_sem, ↓reduceIte, reduceCtorEq, Nat.reduceEqDiff, Nat.reduceAdd, Nat.reduceLeDiff, Nat.reduceMul, Int.reduceBEq, Int.reduceBNe, Int.reduceLT, Int.reduceLE, Int.reduceGT, Int.reduceGE] at r10
      simp -dsimp only [go_sem, ↓reduceIte, reduceCtorEq, Nat.reduceEqDiff, Nat.reduceAdd, Nat.reduceLeDiff, Nat.reduceMul, Int.reduceBEq, Int.reduceBNe, Int.reduceLT, Int.reduceLE, Int.reduceGT, Int.reduceGE]
      have p10 : Fr 0 0 h h10 := ((q1.trans n8.fr).fresh f9 (by omega)).fresh s10.fr (by omega)
      have hh : Fr b3 (b3 + 1) h9 h10 := s10.fr
      refine ⟨⟨p10, ((n8.rw q2).fr f9 (by omega)).fr s10.fr (by omega), _, r10, by omega, by omega, ?_⟩, ?_⟩
      · have := o9.fr s10.fr (by omega)
        rw [List.take_add_one, hq, Option.toList_some, List.map_append, ← List.append_assoc, pairsV_append]
        exact this
      · have hsz : h5.size < h6.size := by omega
        refine ⟨?_, ?_, ht.fr p10 (by omega)⟩
        · refine s10.fr.keep (f9.keep ((n8.fr (lo := 0) (hi := 0)).keep hC7.1 (by omega)) (by omega)) (by omega)
        · exact (ptab_rd (t.fr p10 (by omega)) hlt)
    · rintro h7 hs7 ⟨q1, q2, sv7, q3, q4, q4', q5⟩ hC7
      rw [rest_bits hbits, List.length_map, List.take_length] at q5
      simp -dsimp only [go_sem, ↓reduceIte, reduceCtorEq, Nat.reduceEqDiff, Nat.reduceAdd, Nat.reduceLeDiff, Nat.reduceMul, Int.reduceBEq, Int.reduceBNe, Int.reduceLT, Int.reduceLE, Int.reduceGT, Int.reduceGE]
      simp -dsimp (disch := omega) only [wrap64]
      exact ⟨i + 1, by omega, by simp [Le, find], by omega, q1, sv7, q3, by rw [pairsTo_succ, List.length_append, List.length_map]; exact q5⟩
    · exact fun _ _ _ h => h.elim
  · have : i = n := by omega
    subst this
    simp -dsimp only [go_sem, ↓reduceIte, reduceCtorEq, Nat.reduceEqDiff, Nat.reduceAdd, Nat.reduceLeDiff, Nat.reduceMul, Int.reduceBEq, Int.reduceBNe, Int.reduceLT, Int.reduceLE, Int.reduceGT, Int.reduceGE, r3.cell]
    have := n3.size
    exact ⟨p2, o2.lower (by omega)⟩
end Go.Proofs.Tst
namespace Go.Proofs.Tst
open Go Go.Vc
theorem rel_Len {n : Nat} {M : Nat → Nat → Bool} {p : Value} {lo hi : Nat} {h : Heap} (hr : ProgAt h lo hi p n M) :
    Con Tryd.prog 51 #[p] h fun v h' => h' = h ∧ v = .int .i64 n := by
  refine con_rel_Rel_Len ?_
  obtain ⟨hn, pb, rb, R, W, rfl, t⟩ := hr
  simp -dsimp only [go_sem, ↓reduceIte, reduceCtorEq, Nat.reduceEqDiff, Nat.reduceAdd, Nat.reduceLeDiff, Nat.reduceMul, Int.reduceBEq, Int.reduceBNe, Int.reduceLT, Int.reduceLE, Int.reduceGT, Int.reduceGE, t.ptr.cell]

theorem rel_Has {n : Nat} {M : Nat → Nat → Bool} {p : Value} {lo hi : Nat} {h : Heap} (hr : ProgAt h lo hi p n M) (a b : Int) :
    Con Tryd.prog 31 #[p, .int .i64 a, .int .i64 b] h fun v h' => h' = h ∧ v = .bool (inR n a && inR n b && M a.toNat b.toNat) := by
  refine con_rel_Rel_Has ?_
  have hr0 := hr
  obtain ⟨hn, pb, rb, R, W, rfl, t⟩ := hr
  simp -dsimp only [go_sem, ↓reduceIte, reduceCtorEq, Nat.reduceEqDiff, Nat.reduceAdd, Nat.reduceLeDiff, Nat.reduceMul, Int.reduceBEq, Int.reduceBNe, Int.reduceLT, Int.reduceLE, Int.reduceGT, Int.reduceGE]
  refine call_of (rel_inside hr0 a b) ?_
  rintro v h1 ⟨rfl, rfl⟩
  simp -dsimp only [go_sem, ↓reduceIte, reduceCtorEq, Nat.reduceEqDiff, Nat.reduceAdd, Nat.reduceLeDiff, Nat.reduceMul, Int.reduceBEq, Int.reduceBNe, Int.reduceLT, Int.reduceLE, Int.reduceGT, Int.reduceGE]
  by_cases hin : (inR n a && inR n b) = true
  · have hin' := hin
    simp only [Bool.and_eq_true, inR, decide_eq_true_eq] at hin'
    obtain ⟨x, rfl⟩ : ∃ x : Nat, a = x := ⟨a.toNat, by omega⟩
    obtain ⟨y, rfl⟩ : ∃ y : Nat, b = y := ⟨b.toNat, by omega⟩
    have hx : x < n := by omega
    have hy : y < n := by omega
    obtain ⟨hrw, _, _, hnp, hnr, hbits⟩ := t.row x hx
    rw [hin]
    simp -dsimp only [go_sem, ↓reduceIte, reduceCtorEq, Nat.reduceEqDiff, Nat.reduceAdd, Nat.reduceLeDiff, Nat.reduceMul, Int.reduceBEq, Int.reduceBNe, Int.reduceLT, Int.reduceLE, Int.reduceGT, Int.reduceGE, t.ptr.cell]
    refine Chk_intro (by omega) ?_
    simp -dsimp only [go_sem, ↓reduceIte, reduceCtorEq, Nat.reduceEqDiff, Nat.reduceAdd, Nat.reduceLeDiff, Nat.reduceMul, Int.reduceBEq, Int.reduceBNe, Int.reduceLT, Int.reduceLE, Int.reduceGT, Int.reduceGE, t.rowsGet hx]
    refine call_of (row_has (p := y) (ptab_rd t hx) (by unfold nw; omega) (hbits _).1 (by omega)) ?_
    rintro v h2 ⟨rfl, rfl⟩
    rw [hbits.get hy]
    simp -dsimp only [go_sem, ↓reduceIte, reduceCtorEq, Nat.reduceEqDiff, Nat.reduceAdd, Nat.reduceLeDiff, Nat.reduceMul, Int.reduceBEq, Int.reduceBNe, Int.reduceLT, Int.reduceLE, Int.reduceGT, Int.reduceGE]
    simp
  · have hin : (inR n a && inR n b) = false := by simpa using hin
    rw [hin]
    simp -dsimp only [go_sem, ↓reduceIte, reduceCtorEq, Nat.reduceEqDiff, Nat.reduceAdd, Nat.reduceLeDiff, Nat.reduceMul, Int.reduceBEq, Int.reduceBNe, Int.reduceLT, Int.reduceLE, Int.reduceGT, Int.reduceGE]
    simp

end Go.Proofs.Tst
namespace Go.Proofs.Tst
open Go Go.Vc
/-- Is each pair of one relation a pair of another? -/
def WithinP (n : Nat) (M : Nat → Nat → Bool) (m : Nat) (N : Nat → Nat → Bool) : Prop := ∀ a, a < n → ∀ b, b < n → M a b = true → a < m ∧ b < m ∧ N a b = true
instance (n : Nat) (M : Nat → Nat → Bool) (m : Nat) (N : Nat → Nat → Bool) : Decidable (WithinP n M m N) := by unfold WithinP; infer_instance

theorem rel_Within {n m : Nat} {M N : Nat → Nat → Bool} {p q : Value} {lo hi lo' hi' : Nat} {h : Heap} (hr : ProgAt h lo hi p n M) (hs : ProgAt h lo' hi' q m N) (ht : TabAt h) :
    Con Tryd.prog 42 #[p, q] h fun v h' => Fr 0 0 h h' ∧ v = .bool (decide (WithinP n M m N)) := by
  refine con_rel_Within (fun v h1 h2 x ⟨f, o⟩ => ⟨x.fr f (Nat.le_refl _), o⟩) ?_
  obtain ⟨hn, pb, rb, R, W, rfl, t⟩ := hr
  have hs0 := hs
  obtain ⟨hm, pb', rb', R', W', rfl, t'⟩ := hs
  simp -dsimp only [go_sem, ↓reduceIte, reduceCtorEq, Nat.reduceEqDiff, Nat.reduceAdd, Nat.reduceLeDiff, Nat.reduceMul, Int.reduceBEq, Int.reduceBNe, Int.reduceLT, Int.reduceLE, Int.reduceGT, Int.reduceGE]
  intro b3 h1 n1
  simp -dsimp only [go_sem, ↓reduceIte, reduceCtorEq, Nat.reduceEqDiff, Nat.reduceAdd, Nat.reduceLeDiff, Nat.reduceMul, Int.reduceBEq, Int.reduceBNe, Int.reduceLT, Int.reduceLE, Int.reduceGT, Int.reduceGE]
  intro b4 h2 n2
  have a1 := n1.at_; have z1 := n1.size; have a2 := n2.at_; have z2 := n2.size
  have r3 := n2.rw n1.row
  have r4 := n2.row
  have p2 : Fr 0 0 h h2 := (n1.fr (lo := 0) (hi := 0)).trans n2.fr
  have t2 := t.fr p2 (by omega)
  simp -dsimp only [go_sem, ↓reduceIte, reduceCtorEq, Nat.reduceEqDiff, Nat.reduceAdd, Nat.reduceLeDiff, Nat.reduceMul, Int.reduceBEq, Int.reduceBNe, Int.reduceLT, Int.reduceLE, Int.reduceGT, Int.reduceGE, t2.ptr.cell]
  refine loop_intro (fun i : Nat => [(3, .pointer (some ⟨b3, 0, none⟩)), (4, .pointer (some ⟨b4, 0, none⟩)), (11, .slice (some ⟨rb, 0, none⟩) n n), (12, .int .i64 n), (13, .int .i64 i)])
    (fun i h' => i ≤ n ∧ Fr 0 0 h h' ∧ h2.size ≤ h'.size ∧ Rw h' b3 [.pointer (some ⟨pb', 0, none⟩)] ∧ Rw h' b4 [.bool false] ∧ ∀ a, a < i → ∀ b, b < n → M a b = true → a < m ∧ b < m ∧ N a b = true) (fun i => n - i) 0 ?_ ?_ ?_
  · simp [Le, find]
  · exact ⟨by omega, p2, by omega, r3, r4, fun a ha => by omega⟩
  rintro i h3 ⟨hi1, p3, y3, r3, r4, hw⟩
  have t3 := t.fr p3 (by omega)
  simp -dsimp only [go_sem, ↓reduceIte, reduceCtorEq, Nat.reduceEqDiff, Nat.reduceAdd, Nat.reduceLeDiff, Nat.reduceMul, Int.reduceBEq, Int.reduceBNe, Int.reduceLT, Int.reduceLE, Int.reduceGT, Int.reduceGE]
  refine ⟨fun hlt => ?_, fun hge => ?_⟩
  · have hlt : i < n := by omega
    simp -dsimp only [go_sem, ↓reduceIte, reduceCtorEq, Nat.reduceEqDiff, Nat.reduceAdd, Nat.reduceLeDiff, Nat.reduceMul, Int.reduceBEq, Int.reduceBNe, Int.reduceLT, Int.reduceLE, Int.reduceGT, Int.reduceGE]
    refine Chk_intro (by omega) ?_
    simp -dsimp only [go_sem, ↓reduceIte, reduceCtorEq, Nat.reduceEqDiff, Nat.reduceAdd, Nat.reduceLeDiff, Nat.reduceMul, Int.reduceBEq, Int.reduceBNe, Int.reduceLT, Int.reduceLE, Int.reduceGT, Int.reduceGE, t3.rowsGet hlt]
    intro b5 h4 n4
    have a4 := n4.at_; have z4 := n4.size
    simp -dsimp only [go_sem, ↓reduceIte, reduceCtorEq, Nat.reduceEqDiff, Nat.reduceAdd, Nat.reduceLeDiff, Nat.reduceMul, Int.reduceBEq, Int.reduceBNe, Int.reduceLT, Int.reduceLE, Int.reduceGT, Int.reduceGE]
    refine ⟨n4.row.wr (by simp), fun h5 s5 => ?_⟩
    have r5 := s5.row n4.row
    have z5 := s5.size
    have k3 := r3.lt; have k4 := r4.lt
    have r35 := s5.rw (n4.rw r3) (by omega)
    have r45 := s5.rw (n4.rw r4) (by omega)
    have p5 := (p3.trans n4.fr).fresh s5.fr (by have := p3.size; omega)
    simp -dsimp only [go_sem, ↓reduceIte, reduceCtorEq, Nat.reduceEqDiff, Nat.reduceAdd, Nat.reduceLeDiff, Nat.reduceMul, Int.reduceBEq, Int.reduceBNe, Int.reduceLT, Int.reduceLE, Int.reduceGT, Int.reduceGE] at r5
    simp -dsimp only [go_sem, ↓reduceIte, reduceCtorEq, Nat.reduceEqDiff, Nat.reduceAdd, Nat.reduceLeDiff, Nat.reduceMul, Int.reduceBEq, Int.reduceBNe, Int.reduceLT, Int.reduceLE, Int.reduceGT, Int.reduceGE]
    refine call_of (rel_points _ _ _ h5) ?_
    rintro v h6 ⟨p6, rfl, c6, z6⟩
    simp -dsimp only [go_sem, ↓reduceIte, reduceCtorEq, Nat.reduceEqDiff, Nat.reduceAdd, Nat.reduceLeDiff, Nat.reduceMul, Int.reduceBEq, Int.reduceBNe, Int.reduceLT, Int.reduceLE, Int.reduceGT, Int.reduceGE]
    refine ⟨rfl, ?_⟩
    have rd6 := (ptab_rd (t.fr p5 (by omega)) hlt).fr p6
    have hbits := (t.row i hlt).2.2.2.2.2
    have y5 := p5.size; have y6 := p6.size
    refine ⟨_, RowC h5.size (.slice (some ⟨R i, 0, none⟩) (nw n) (nw n)) (nw n) (W i),
      fun d h' => Fr 0 0 h h' ∧ h2.size ≤ h'.size ∧ Rw h' b3 [.pointer (some ⟨pb', 0, none⟩)] ∧ Rw h' b4 [.bool false] ∧ Rw h' b5 [.int .i64 i] ∧ ∀ b ∈ (rest (M i) n 0).take d, i < m ∧ b < m ∧ N i b = true,
      fun x h' => x = .ret ∧ Fr 0 0 h h' ∧ Rw h' b4 [.bool false] ∧ ¬ WithinP n M m N, points_1 (fun j => (hbits j).1) (by unfold nw; omega), ?_, ?_, ?_, ?_, ?_, ?_, ?_, ?_, ?_⟩
    · intro x hx; obtain ⟨q, _, rfl⟩ := List.mem_map.1 hx; rfl
    · exact fun h1 h2 x ⟨c1, c2, c3⟩ => ⟨x.cell c1, x.rd c2, x.tab c3⟩
    · rintro d h1 h2 x ⟨q1, q2, q3, q4, q5, q6⟩
      exact ⟨x.fr q1 (by omega), Nat.le_trans q2 x.size, x.rw q3, x.rw q4, x.rw q5, q6⟩
    · rintro x h1 h2 x' ⟨e, q1, q2, q3⟩
      exact ⟨e, x'.fr q1 (by omega), x'.rw q2, q3⟩
    · exact ⟨p5.trans p6, by omega, r35.fr p6 (by omega), r45.fr p6 (by omega), r5.fr p6 (by omega), by simp⟩
    · exact ⟨c6, rd6, ht.fr (p5.trans p6) (by omega)⟩
    · rintro d x h7 hs7 hx ⟨q1, q2, q3, q4, q5, q6⟩ hC7
      rw [rest_bits hbits, List.getElem?_map, Option.map_eq_some_iff] at hx
      obtain ⟨b, hb, rfl⟩ := hx
      have hbm := mem_rest.1 (List.mem_of_getElem? hb)
      simp only [zipE]
      simp -dsimp only [go_sem, ↓reduceIte, reduceCtorEq, Nat.reduceEqDiff, Nat.reduceAdd, Nat.reduceLeDiff, Nat.reduceMul, Int.reduceBEq, Int.reduceBNe, Int.reduceLT, Int.reduceLE, Int.reduceGT, Int.reduceGE]
      intro h7' x7
      have q1 := x7.fr q1 (by omega)
      have q3 := x7.rw q3; have q4 := x7.rw q4; have q5 := x7.rw q5
      simp -dsimp only [go_sem, ↓reduceIte, reduceCtorEq, Nat.reduceEqDiff, Nat.reduceAdd, Nat.reduceLeDiff, Nat.reduceMul, Int.reduceBEq, Int.reduceBNe, Int.reduceLT, Int.reduceLE, Int.reduceGT, Int.reduceGE, q3.cell, q5.cell]
      refine call_of (rel_Has (hs0.fr q1 (by omega)) _ _) ?_
      rintro v h8 ⟨rfl, rfl⟩
      simp only [Int.toNat_natCast]
      cases hh : (inR m i && inR m b && N i b) with
      | true =>
        have hh' := hh
        simp only [Bool.and_eq_true, inR, decide_eq_true_eq] at hh'
        simp -dsimp only [go_sem, ↓reduceIte, reduceCtorEq, Nat.reduceEqDiff, Nat.reduceAdd, Nat.reduceLeDiff, Nat.reduceMul, Int.reduceBEq, Int.reduceBNe, Int.reduceLT, Int.reduceLE, Int.reduceGT, Int.reduceGE, hh]
        refine ⟨⟨q1, Nat.le_trans q2 x7.size, q3, q4, q5, fun y hy => ?_⟩, x7.cell hC7.1, x7.rd hC7.2.1, x7.tab hC7.2.2⟩
        rw [List.take_add_one, hb, Option.toList_some] at hy
        rcases List.mem_append.1 hy with hy | hy
        · exact q6 y hy
        · simp at hy; subst hy; exact ⟨by omega, by omega, hh'.2⟩
      | false =>
        simp -dsimp only [go_sem, ↓reduceIte, reduceCtorEq, Nat.reduceEqDiff, Nat.reduceAdd, Nat.reduceLeDiff, Nat.reduceMul, Int.reduceBEq, Int.reduceBNe, Int.reduceLT, Int.reduceLE, Int.reduceGT, Int.reduceGE, hh]
        refine ⟨q4.wr (by simp), fun h9 s9 => ?_⟩
        have r9 := s9.row q4
        simp -dsimp only [go_sem, ↓reduceIte, reduceCtorEq, Nat.reduceEqDiff, Nat.reduceAdd, Nat.reduceLeDiff, Nat.reduceMul, Int.reduceBEq, Int.reduceBNe, Int.reduceLT, Int.reduceLE, Int.reduceGT, Int.reduceGE] at r9
        simp -dsimp only [go_sem, ↓reduceIte, reduceCtorEq, Nat.reduceEqDiff, Nat.reduceAdd, Nat.reduceLeDiff, Nat.reduceMul, Int.reduceBEq, Int.reduceBNe, Int.reduceLT, Int.reduceLE, Int.reduceGT, Int.reduceGE]
        refine ⟨rfl, q1.fresh s9.fr (by omega), r9, fun hW => ?_⟩
        obtain ⟨g1, g2, g3⟩ := hW i hlt b hbm.2.1 hbm.2.2
        simp [inR, g1, g2, g3] at hh
    · rintro h7 hs7 ⟨q1, q2, q3, q4, q5, q6⟩ hC7
      rw [rest_bits hbits, List.length_map, List.take_length] at q6
      simp -dsimp only [go_sem, ↓reduceIte, reduceCtorEq, Nat.reduceEqDiff, Nat.reduceAdd, Nat.reduceLeDiff, Nat.reduceMul, Int.reduceBEq, Int.reduceBNe, Int.reduceLT, Int.reduceLE, Int.reduceGT, Int.reduceGE]
      simp -dsimp (disch := omega) only [wrap64]
      refine ⟨i + 1, by omega, by simp [Le, find], by omega, q1, q2, q3, q4, fun a ha b hb hM => ?_⟩
      by_cases hai : a = i
      · subst hai; exact q6 b (mem_rest.2 ⟨by omega, hb, hM⟩)
      · exact hw a (by omega) b hb hM
    · rintro x h7 hs7 ⟨rfl, q1, q2, q3⟩
      refine ⟨by simp, ?_⟩
      simp -dsimp only [go_sem, ↓reduceIte, reduceCtorEq, Nat.reduceEqDiff, Nat.reduceAdd, Nat.reduceLeDiff, Nat.reduceMul, Int.reduceBEq, Int.reduceBNe, Int.reduceLT, Int.reduceLE, Int.reduceGT, Int.reduceGE, q2.cell]
      exact ⟨q1, by rw [decide_eq_false q3]⟩
  · have : i = n := by omega
    subst this
    simp -dsimp only [go_sem, ↓reduceIte, reduceCtorEq, Nat.reduceEqDiff, Nat.reduceAdd, Nat.reduceLeDiff, Nat.reduceMul, Int.reduceBEq, Int.reduceBNe, Int.reduceLT, Int.reduceLE, Int.reduceGT, Int.reduceGE]
    refine ⟨r4.wr (by simp), fun h4 s4 => ?_⟩
    have r9 := s4.row r4
    simp -dsimp only [go_sem, ↓reduceIte, reduceCtorEq, Nat.reduceEqDiff, Nat.reduceAdd, Nat.reduceLeDiff, Nat.reduceMul, Int.reduceBEq, Int.reduceBNe, Int.reduceLT, Int.reduceLE, Int.reduceGT, Int.reduceGE] at r9
    simp -dsimp only [go_sem, ↓reduceIte, reduceCtorEq, Nat.reduceEqDiff, Nat.reduceAdd, Nat.reduceLeDiff, Nat.reduceMul, Int.reduceBEq, Int.reduceBNe, Int.reduceLT, Int.reduceLE, Int.reduceGT, Int.reduceGE, r9.cell]
    exact ⟨p3.fresh s4.fr (by omega), by rw [decide_eq_true]; exact fun a ha => hw a ha⟩
end Go.Proofs.Tst
namespace Go.Proofs.Tst
open Go Go.Vc
theorem rel_Equal {n m : Nat} {M N : Nat → Nat → Bool} {p q : Value} {lo hi lo' hi' : Nat} {h : Heap} (hr : ProgAt h lo hi p n M) (hs : ProgAt h lo' hi' q m N) (ht : TabAt h) :
    Con Tryd.prog 22 #[p, q] h fun v h' => Fr 0 0 h h' ∧ v = .bool (decide (n = m ∧ WithinP n M m N ∧ WithinP m N n M)) := by
  refine con_rel_Equal ?_
  have hr0 := hr; have hs0 := hs
  obtain ⟨hn, pb, rb, R, W, rfl, t⟩ := hr
  obtain ⟨hm, pb', rb', R', W', rfl, t'⟩ := hs
  simp -dsimp only [go_sem, ↓reduceIte, reduceCtorEq, Nat.reduceEqDiff, Nat.reduceAdd, Nat.reduceLeDiff, Nat.reduceMul, Int.reduceBEq, Int.reduceBNe, Int.reduceLT, Int.reduceLE, Int.reduceGT, Int.reduceGE, t.ptr.cell, t'.ptr.cell]
  cases hnm : ((n : Int) == (m : Int)) with
  | false =>
    simp -dsimp only [go_sem, ↓reduceIte, reduceCtorEq, Nat.reduceEqDiff, Nat.reduceAdd, Nat.reduceLeDiff, Nat.reduceMul, Int.reduceBEq, Int.reduceBNe, Int.reduceLT, Int.reduceLE, Int.reduceGT, Int.reduceGE, hnm]
    exact ⟨.refl _ _ _, by rw [decide_eq_false]; rintro ⟨rfl, _⟩; simp at hnm⟩
  | true =>
    simp -dsimp only [go_sem, ↓reduceIte, reduceCtorEq, Nat.reduceEqDiff, Nat.reduceAdd, Nat.reduceLeDiff, Nat.reduceMul, Int.reduceBEq, Int.reduceBNe, Int.reduceLT, Int.reduceLE, Int.reduceGT, Int.reduceGE, hnm]
    refine call_of (rel_Within hr0 hs0 ht) ?_
    rintro v h1 ⟨p1, rfl⟩
    simp -dsimp only [go_sem, ↓reduceIte, reduceCtorEq, Nat.reduceEqDiff, Nat.reduceAdd, Nat.reduceLeDiff, Nat.reduceMul, Int.reduceBEq, Int.reduceBNe, Int.reduceLT, Int.reduceLE, Int.reduceGT, Int.reduceGE, hnm, (t.ptr.fr p1 (by omega)).cell, (t'.ptr.fr p1 (by omega)).cell]
    by_cases hw : WithinP n M m N
    · simp -dsimp only [go_sem, ↓reduceIte, reduceCtorEq, Nat.reduceEqDiff, Nat.reduceAdd, Nat.reduceLeDiff, Nat.reduceMul, Int.reduceBEq, Int.reduceBNe, Int.reduceLT, Int.reduceLE, Int.reduceGT, Int.reduceGE, hw, decide_true]
      refine call_of (rel_Within (hs0.fr p1 (by omega)) (hr0.fr p1 (by omega)) (ht.fr p1 (by omega))) ?_
      rintro v h2 ⟨p2, rfl⟩
      have p12 := p1.trans p2
      simp -dsimp only [go_sem, ↓reduceIte, reduceCtorEq, Nat.reduceEqDiff, Nat.reduceAdd, Nat.reduceLeDiff, Nat.reduceMul, Int.reduceBEq, Int.reduceBNe, Int.reduceLT, Int.reduceLE, Int.reduceGT, Int.reduceGE, hnm, hw, (t.ptr.fr p12 (by omega)).cell, (t'.ptr.fr p12 (by omega)).cell]
      have hnm : n = m := by have := hnm; simp at this; omega
      subst hnm
      exact ⟨p12, by simp [hw]⟩
    · simp -dsimp only [go_sem, ↓reduceIte, reduceCtorEq, Nat.reduceEqDiff, Nat.reduceAdd, Nat.reduceLeDiff, Nat.reduceMul, Int.reduceBEq, Int.reduceBNe, Int.reduceLT, Int.reduceLE, Int.reduceGT, Int.reduceGE, hw, decide_false]
      exact ⟨p1, by simp [hw]⟩
end Go.Proofs.Tst
namespace Go.Proofs.Tst
open Go Go.Vc
/-- One row is joined into another (which may be the same). -/
theorem row_join {w v b b' : Nat} {W V : Nat → Nat} {ov : Value} {h : Heap} (hx : Rw h b (wrow w W)) (hy : Rw h b' (wrow v V)) (ho : Rd 1 h ov 1 [.slice (some ⟨b', 0, none⟩) v v]) (hW : ∀ i, W i < 2 ^ 64) (hV : ∀ i, V i < 2 ^ 64) (hw : w ≤ 1024) (hv : v ≤ 1024) :
    Con Tryd.prog 77 #[.slice (some ⟨b, 0, none⟩) w w, ov] h fun _ h' => Fr b (b + 1) h h' ∧ h'.size = h.size ∧ Rw h' b (wrow w fun i => if i < v then W i ||| V i else W i) := by
  refine con_rel_row_join ?_
  obtain ⟨oa, oc, rfl⟩ := ho.is
  simp -dsimp only [go_sem, ↓reduceIte, reduceCtorEq, Nat.reduceEqDiff, Nat.reduceAdd, Nat.reduceLeDiff, Nat.reduceMul, Int.reduceBEq, Int.reduceBNe, Int.reduceLT, Int.reduceLE, Int.reduceGT, Int.reduceGE]
  refine loop_intro (fun i : Nat => [(0, .slice (some ⟨b, 0, none⟩) w w), (7, .slice oa 1 oc), (8, .int .i64 1), (9, .int .i64 i)])
    (fun i h' => (i = 0 ∧ h' = h) ∨ (i = 1 ∧ Fr b (b + 1) h h' ∧ h'.size = h.size ∧ Rw h' b (wrow w fun i => if i < v then W i ||| V i else W i))) (fun i => 1 - i) 0 ?_ ?_ ?_
  · simp [Le, find]
  · exact .inl ⟨rfl, rfl⟩
  rintro i h1 (⟨rfl, rfl⟩ | ⟨rfl, hf, hz, hr⟩)
  · simp -dsimp only [go_sem, ↓reduceIte, reduceCtorEq, Nat.reduceEqDiff, Nat.reduceAdd, Nat.reduceLeDiff, Nat.reduceMul, Int.reduceBEq, Int.reduceBNe, Int.reduceLT, Int.reduceLE, Int.reduceGT, Int.reduceGE]
    refine ⟨fun _ => ?_, fun h => absurd (by omega) h⟩
    simp -dsimp only [go_sem, ↓reduceIte, reduceCtorEq, Nat.reduceEqDiff, Nat.reduceAdd, Nat.reduceLeDiff, Nat.reduceMul, Int.reduceBEq, Int.reduceBNe, Int.reduceLT, Int.reduceLE, Int.reduceGT, Int.reduceGE]
    refine Chk_intro (by omega) (ho.idx (by omega) fun b1 o1 c1 => ?_)
    have c1 : hcell h1 b1 o1 = some (.slice (some ⟨b', 0, none⟩) v v) := c1 0 _ rfl
    simp -dsimp only [go_sem, ↓reduceIte, reduceCtorEq, Nat.reduceEqDiff, Nat.reduceAdd, Nat.reduceLeDiff, Nat.reduceMul, Int.reduceBEq, Int.reduceBNe, Int.reduceLT, Int.reduceLE, Int.reduceGT, Int.reduceGE, c1]
    have hm : (if (v : Int) < (w : Int) then (v : Int) else (w : Int)) = ((min w v : Nat) : Int) := by split <;> omega
    rw [hm]
    refine loop_intro (fun i : Nat => [(0, .slice (some ⟨b, 0, none⟩) w w), (5, .slice (some ⟨b', 0, none⟩) v v), (7, .slice oa 1 oc), (8, .int .i64 1), (9, .int .i64 (0 : Nat)), (17, .int .i64 (min w v : Nat)), (18, .int .i64 i)])
      (fun i h' => i ≤ min w v ∧ Fr b (b + 1) h1 h' ∧ h'.size = h1.size ∧ Rw h' b (wrow w fun k => if k < i then W k ||| V k else W k)) (fun i => min w v - i) 0 ?_ ?_ ?_
    · simp [Le, find]
    · exact ⟨by omega, .refl _ _ _, rfl, by simpa using hx⟩
    rintro i h2 ⟨hi, f2, z2, r2⟩
    simp -dsimp only [go_sem, ↓reduceIte, reduceCtorEq, Nat.reduceEqDiff, Nat.reduceAdd, Nat.reduceLeDiff, Nat.reduceMul, Int.reduceBEq, Int.reduceBNe, Int.reduceLT, Int.reduceLE, Int.reduceGT, Int.reduceGE]
    refine ⟨fun hlt => ?_, fun hge => ?_⟩
    · have hlt : i < min w v := by omega
      have hy2 : hcell h2 b' i = some (.int .u64 (V i : Int)) := by
        by_cases hb : b' = b
        · subst hb
          obtain ⟨e1, e2⟩ := wrow_inj (hx.inj hy)
          rw [r2.cell, wrow_get (by omega), if_neg (by omega), e2 i (by omega)]
        · rw [(hy.fr f2 (by omega)).cell, wrow_get (by omega)]
      simp -dsimp only [go_sem, ↓reduceIte, reduceCtorEq, Nat.reduceEqDiff, Nat.reduceAdd, Nat.reduceLeDiff, Nat.reduceMul, Int.reduceBEq, Int.reduceBNe, Int.reduceLT, Int.reduceLE, Int.reduceGT, Int.reduceGE]
      refine Chk_intro (by omega) ?_
      simp -dsimp only [go_sem, ↓reduceIte, reduceCtorEq, Nat.reduceEqDiff, Nat.reduceAdd, Nat.reduceLeDiff, Nat.reduceMul, Int.reduceBEq, Int.reduceBNe, Int.reduceLT, Int.reduceLE, Int.reduceGT, Int.reduceGE, r2.cell, wrow_get (show i < w by omega)]
      refine Chk_intro (by omega) ?_
      simp -dsimp only [go_sem, ↓reduceIte, reduceCtorEq, Nat.reduceEqDiff, Nat.reduceAdd, Nat.reduceLeDiff, Nat.reduceMul, Int.reduceBEq, Int.reduceBNe, Int.reduceLT, Int.reduceLE, Int.reduceGT, Int.reduceGE, hy2, Nat.lt_irrefl]
      rw [or64 (hW i) (hV i)]
      refine Chk_intro (by omega) ?_
      simp -dsimp only [go_sem, ↓reduceIte, reduceCtorEq, Nat.reduceEqDiff, Nat.reduceAdd, Nat.reduceLeDiff, Nat.reduceMul, Int.reduceBEq, Int.reduceBNe, Int.reduceLT, Int.reduceLE, Int.reduceGT, Int.reduceGE]
      refine Chk_intro (r2.wr (by simp; omega)) fun h3 s3 => ?_
      have r3 := s3.row r2
      have z3 := s3.size
      rw [cl_int, putAt_one, wrow_upd] at r3
      simp -dsimp only [go_sem, ↓reduceIte, reduceCtorEq, Nat.reduceEqDiff, Nat.reduceAdd, Nat.reduceLeDiff, Nat.reduceMul, Int.reduceBEq, Int.reduceBNe, Int.reduceLT, Int.reduceLE, Int.reduceGT, Int.reduceGE]
      simp -dsimp (disch := omega) only [wrap64]
      refine ⟨i + 1, by omega, by simp [Le, find], by omega, f2.trans s3.fr, by omega, ?_⟩
      rw [wrow_congr fun k hk => ?_]; exact r3
      unfold upd
      dsimp only
      by_cases hki : k = i
      · subst hki; simp
      · rw [if_neg hki]
        by_cases h1 : k < i
        · rw [if_pos h1, if_pos (by omega)]
        · rw [if_neg h1, if_neg (by omega)]
    · have : i = min w v := by omega
      subst this
      simp -dsimp only [go_sem, ↓reduceIte, reduceCtorEq, Nat.reduceEqDiff, Nat.reduceAdd, Nat.reduceLeDiff, Nat.reduceMul, Int.reduceBEq, Int.reduceBNe, Int.reduceLT, Int.reduceLE, Int.reduceGT, Int.reduceGE]
      simp -dsimp (disch := omega) only [wrap64]
      refine ⟨1, by omega, by simp [Le, find], .inr ⟨rfl, f2, z2, ?_⟩⟩
      rw [wrow_congr fun k hk => ?_]; exact r2
      by_cases h1 : k < v
      · rw [if_pos h1, if_pos (by omega)]
      · rw [if_neg h1, if_neg (by omega)]
  · simp -dsimp only [go_sem, ↓reduceIte, reduceCtorEq, Nat.reduceEqDiff, Nat.reduceAdd, Nat.reduceLeDiff, Nat.reduceMul, Int.reduceBEq, Int.reduceBNe, Int.reduceLT, Int.reduceLE, Int.reduceGT, Int.reduceGE]
    refine ⟨fun h => absurd h (by omega), fun _ => ?_⟩
    simp -dsimp only [go_sem, ↓reduceIte, reduceCtorEq, Nat.reduceEqDiff, Nat.reduceAdd, Nat.reduceLeDiff, Nat.reduceMul, Int.reduceBEq, Int.reduceBNe, Int.reduceLT, Int.reduceLE, Int.reduceGT, Int.reduceGE]
    exact ⟨hf, hz, hr⟩
theorem row_set {w p b : Nat} {W : Nat → Nat} {h : Heap} (hx : Rw h b (wrow w W)) (hp : p / 64 < w) (hW : ∀ i, W i < 2 ^ 64) (hw : w ≤ 1024) :
    Con Tryd.prog 82 #[.slice (some ⟨b, 0, none⟩) w w, .int .i64 p] h fun _ h' => Fr b (b + 1) h h' ∧ h'.size = h.size ∧ Rw h' b (wrow w fun j => if j = p / 64 then W (p / 64) ||| 2 ^ (p % 64) else W j) := by
  refine con_rel_row_set ?_
  have e64 : IntKind.u64.wrap (1 * 2 ^ min (p % 64) 64) = ((2 ^ (p % 64) : Nat) : Int) := shl64 (p % 64) (by omega)
  simp -dsimp only [go_sem, ↓reduceIte, reduceCtorEq, Nat.reduceEqDiff, Nat.reduceAdd, Nat.reduceLeDiff, Nat.reduceMul, Int.reduceBEq, Int.reduceBNe, Int.reduceLT, Int.reduceLE, Int.reduceGT, Int.reduceGE]
  rw [tdiv64]
  refine Chk_intro (by decide) ?_
  rw [wrap64 (by omega) (by omega)]
  simp -dsimp only [go_sem, ↓reduceIte, reduceCtorEq, Nat.reduceEqDiff, Nat.reduceAdd, Nat.reduceLeDiff, Nat.reduceMul, Int.reduceBEq, Int.reduceBNe, Int.reduceLT, Int.reduceLE, Int.reduceGT, Int.reduceGE]
  refine Chk_intro (by omega) ?_
  simp -dsimp only [go_sem, ↓reduceIte, reduceCtorEq, Nat.reduceEqDiff, Nat.reduceAdd, Nat.reduceLeDiff, Nat.reduceMul, Int.reduceBEq, Int.reduceBNe, Int.reduceLT, Int.reduceLE, Int.reduceGT, Int.reduceGE, hx.cell, wrow_get hp]
  rw [tmod64]
  refine Chk_intro (by decide) ?_
  simp -dsimp only [go_sem, ↓reduceIte, reduceCtorEq, Nat.reduceEqDiff, Nat.reduceAdd, Nat.reduceLeDiff, Nat.reduceMul, Int.reduceBEq, Int.reduceBNe, Int.reduceLT, Int.reduceLE, Int.reduceGT, Int.reduceGE]
  rw [e64, or64 (hW _) (Nat.pow_lt_pow_right (by decide) (by omega))]
  refine Chk_intro (by omega) ?_
  simp -dsimp only [go_sem, ↓reduceIte, reduceCtorEq, Nat.reduceEqDiff, Nat.reduceAdd, Nat.reduceLeDiff, Nat.reduceMul, Int.reduceBEq, Int.reduceBNe, Int.reduceLT, Int.reduceLE, Int.reduceGT, Int.reduceGE]
  refine Chk_intro (hx.wr (by simp; omega)) fun h1 s1 => ?_
  have r1 := s1.row hx
  rw [cl_int, putAt_one, wrow_set] at r1
  simp -dsimp only [go_sem, ↓reduceIte, reduceCtorEq, Nat.reduceEqDiff, Nat.reduceAdd, Nat.reduceLeDiff, Nat.reduceMul, Int.reduceBEq, Int.reduceBNe, Int.reduceLT, Int.reduceLE, Int.reduceGT, Int.reduceGE]
  exact ⟨s1.fr, s1.size, r1⟩

theorem rel_wide {n : Nat} {M : Nat → Nat → Bool} {p : Value} {lo hi : Nat} {h : Heap} (hr : ProgAt h lo hi p n M) (k : Nat) (hk : k ≤ 256) :
    Con Tryd.prog 88 #[p, .int .i64 k] h fun v h' => Fr 0 0 h h' ∧ ProgAt h' h.size h'.size v (max k n) (inN n M) := by
  refine con_rel_Rel_wide ?_
  obtain ⟨hn, pb, rb, R, W, rfl, t⟩ := hr
  have hm : (if (n : Int) > (k : Int) then (n : Int) else (k : Int)) = ((max k n : Nat) : Int) := by split <;> omega
  have hcl : clampN (max k n : Nat) = max k n := by unfold clampN; omega
  simp -dsimp only [go_sem, ↓reduceIte, reduceCtorEq, Nat.reduceEqDiff, Nat.reduceAdd, Nat.reduceLeDiff, Nat.reduceMul, Int.reduceBEq, Int.reduceBNe, Int.reduceLT, Int.reduceLE, Int.reduceGT, Int.reduceGE, t.ptr.cell]
  rw [hm]
  refine call_of (rel_New _ h) ?_
  rintro v1 h1 ⟨p1, t1⟩
  rw [hcl] at t1
  obtain ⟨hx, pb1, rb1, R1, W1, rfl, t1⟩ := t1
  have t2 := t.fr p1 (by omega)
  simp -dsimp only [go_sem, ↓reduceIte, reduceCtorEq, Nat.reduceEqDiff, Nat.reduceAdd, Nat.reduceLeDiff, Nat.reduceMul, Int.reduceBEq, Int.reduceBNe, Int.reduceLT, Int.reduceLE, Int.reduceGT, Int.reduceGE, t2.ptr.cell]
  have at1 := t1.at_
  refine loop_intro (fun a : Nat => [(5, .pointer (some ⟨pb1, 0, none⟩)), (18, .slice (some ⟨rb, 0, none⟩) n n), (19, .int .i64 n), (20, .int .i64 a)])
    (fun a h' => a ≤ n ∧ Fr 0 0 h h' ∧ h1.size ≤ h'.size ∧ ∃ W, PTab h' h.size h1.size pb1 rb1 (max k n) R1 W fun i j => decide (i < a) && decide (j < n) && M i j) (fun a => n - a) 0 ?_ ?_ ?_
  · simp [Le, find]
  · exact ⟨by omega, p1, by omega, _, t1.congr fun i j _ _ => by simp⟩
  rintro a h2 ⟨ha, p0, y2, W2, t3⟩
  have p0_z := p0.size
  have t4 := t.fr p0 (by omega)
  simp -dsimp only [go_sem, ↓reduceIte, reduceCtorEq, Nat.reduceEqDiff, Nat.reduceAdd, Nat.reduceLeDiff, Nat.reduceMul, Int.reduceBEq, Int.reduceBNe, Int.reduceLT, Int.reduceLE, Int.reduceGT, Int.reduceGE]
  refine ⟨fun hlt => ?_, fun hge => ?_⟩
  · have hlt : a < n := by omega
    simp -dsimp only [go_sem, ↓reduceIte, reduceCtorEq, Nat.reduceEqDiff, Nat.reduceAdd, Nat.reduceLeDiff, Nat.reduceMul, Int.reduceBEq, Int.reduceBNe, Int.reduceLT, Int.reduceLE, Int.reduceGT, Int.reduceGE]
    refine Chk_intro (by omega) ?_
    simp -dsimp only [go_sem, ↓reduceIte, reduceCtorEq, Nat.reduceEqDiff, Nat.reduceAdd, Nat.reduceLeDiff, Nat.reduceMul, Int.reduceBEq, Int.reduceBNe, Int.reduceLT, Int.reduceLE, Int.reduceGT, Int.reduceGE, t4.rowsGet hlt, t3.ptr.cell]
    refine Chk_intro (by omega) ?_
    simp -dsimp only [go_sem, ↓reduceIte, reduceCtorEq, Nat.reduceEqDiff, Nat.reduceAdd, Nat.reduceLeDiff, Nat.reduceMul, Int.reduceBEq, Int.reduceBNe, Int.reduceLT, Int.reduceLE, Int.reduceGT, Int.reduceGE, t3.rowsGet (show a < max k n by omega)]
    intro b5 h5 n5
    have n5_a := n5.at_
    have n5_z := n5.size
    replace p0 := p0.fresh (n5.fr (lo := 0) (hi := 0)) (by omega)
    replace t3 := t3.fr (n5.fr (lo := 0) (hi := 0)) (by omega)
    have r5 := n5.row
    obtain ⟨g1, g2, g3, g4, g5, g6⟩ := t3.row a (by omega)
    obtain ⟨f1, f2, f3, f4, f5, f6⟩ := (t.fr p0 (by omega)).row a hlt
    simp -dsimp only [go_sem, ↓reduceIte, reduceCtorEq, Nat.reduceEqDiff, Nat.reduceAdd, Nat.reduceLeDiff, Nat.reduceMul, Int.reduceBEq, Int.reduceBNe, Int.reduceLT, Int.reduceLE, Int.reduceGT, Int.reduceGE, r5.cell]
    refine call_of (row_join g1 f1 (r5.rd rfl) (fun j => (g6 j).1) (fun j => (f6 j).1) (by unfold nw; omega) (by unfold nw; omega)) ?_
    rintro _ h6 ⟨q6, z6, r6⟩
    have t6 := t3.updRow (by omega) q6 r6 (g6.or f6 (by omega))
    have q6_z := q6.size
    replace p0 := p0.fresh q6 (by omega)
    simp -dsimp only [go_sem, ↓reduceIte, reduceCtorEq, Nat.reduceEqDiff, Nat.reduceAdd, Nat.reduceLeDiff, Nat.reduceMul, Int.reduceBEq, Int.reduceBNe, Int.reduceLT, Int.reduceLE, Int.reduceGT, Int.reduceGE]
    simp -dsimp (disch := omega) only [wrap64]
    refine ⟨a + 1, by omega, by simp [Le, find], by omega, p0, by omega, _, t6.congr fun i j hi hj => ?_⟩
    by_cases hia : i = a
    · subst hia
      rw [upd_same]; simp
    · rw [upd_ne _ _ hia]
      have : (i < a + 1) = (i < a) := by simp; omega
      simp [this]
  · have : a = n := by omega
    subst this
    simp -dsimp only [go_sem, ↓reduceIte, reduceCtorEq, Nat.reduceEqDiff, Nat.reduceAdd, Nat.reduceLeDiff, Nat.reduceMul, Int.reduceBEq, Int.reduceBNe, Int.reduceLT, Int.reduceLE, Int.reduceGT, Int.reduceGE]
    exact ⟨p0, hx, _, _, _, _, rfl, (t3.mono' y2).congr fun i j _ _ => rfl⟩
end Go.Proofs.Tst
/-
  How far it is to a point; a least cycle.
-/
namespace Go.Vc
def lay (n : Nat) (M : Nat → Nat → Bool) (p : Nat) (F : Nat → Nat) (k i : Nat) : Bool := if k = 0 then M i p else (List.range n).any fun j => M i j && F j == k
/-- How many steps it takes to come to p, k at the most; 0: not known. -/
def farK (n : Nat) (M : Nat → Nat → Bool) (p : Nat) : Nat → Nat → Nat
  | 0, _ => 0
  | k + 1, i => if farK n M p k i ≠ 0 then farK n M p k i else if lay n M p (farK n M p k) k i = true then k + 1 else 0
def farS (n : Nat) (M : Nat → Nat → Bool) (p : Nat) : Nat → Nat := farK n M p n
section
variable {n : Nat} {M : Nat → Nat → Bool} {p : Nat}
theorem lay_zero {F : Nat → Nat} {i : Nat} : lay n M p F 0 i = M i p := by simp [lay]
theorem lay_succ {F : Nat → Nat} {k i : Nat} : lay n M p F (k + 1) i = true ↔ ∃ j, j < n ∧ M i j = true ∧ F j = k + 1 := by
  simp [lay, List.any_eq_true]
theorem farK_le : ∀ k i, farK n M p k i ≤ k
  | 0, _ => Nat.le_refl _
  | k + 1, i => by
    have := farK_le k i
    simp only [farK]
    split
    · omega
    · split <;> omega
theorem farK_keep {k i : Nat} (h : farK n M p k i ≠ 0) : farK n M p (k + 1) i = farK n M p k i := by simp only [farK]; rw [if_pos h]
theorem farK_new {k i : Nat} (h : farK n M p k i = 0) : farK n M p (k + 1) i = if lay n M p (farK n M p k) k i = true then k + 1 else 0 := by
  simp only [farK]; rw [if_neg (by omega)]
theorem farK_step : ∀ {k i m : Nat}, farK n M p k i = m + 1 → (m = 0 → M i p = true) ∧ (0 < m → ∃ j, j < n ∧ M i j = true ∧ farK n M p k j = m)
  | 0, i, m, h => by simp [farK] at h
  | k + 1, i, m, h => by
    by_cases h0 : farK n M p k i = 0
    · rw [farK_new h0] at h
      split at h
      · rename_i hl
        have hkm : k = m := by omega
        subst hkm
        cases k with
        | zero => exact ⟨fun _ => by rwa [lay_zero] at hl, fun h => by omega⟩
        | succ k =>
          refine ⟨fun h => by omega, fun _ => ?_⟩
          obtain ⟨j, hj, hm, hf⟩ := lay_succ.1 hl
          exact ⟨j, hj, hm, by rw [farK_keep (by omega), hf]⟩
      · omega
    · rw [farK_keep h0] at h
      obtain ⟨h1, h2⟩ := farK_step h
      refine ⟨h1, fun hm => ?_⟩
      obtain ⟨j, hj, hM, hf⟩ := h2 hm
      exact ⟨j, hj, hM, by rw [farK_keep (by omega), hf]⟩
/-- Where nothing more is found, nothing is found any more. -/
theorem farK_stable {k : Nat} (h : ∀ i, i < n → farK n M p (k + 1) i ≠ k + 1) : ∀ d i, i < n → farK n M p (k + d) i = farK n M p k i
  | 0, _, _ => rfl
  | d + 1, i, hi => by
    have ih := farK_stable h d
    rw [show k + (d + 1) = k + d + 1 by omega]
    by_cases h0 : farK n M p (k + d) i = 0
    · rw [farK_new h0, ← ih i hi, h0, if_neg]
      intro hl
      cases d with
      | zero =>
        have := h i hi
        rw [farK_new h0, if_pos hl] at this
        exact this rfl
      | succ d =>
        rw [show k + (d + 1) = (k + d) + 1 by omega] at hl
        obtain ⟨j, hj, hm, hf⟩ := lay_succ.1 hl
        rw [show k + d + 1 = k + (d + 1) by omega, ih j hj] at hf
        have := farK_le (n := n) (M := M) (p := p) k j
        omega
    · rw [farK_keep h0, ih i hi]
/-- How many are known. -/
def known (n : Nat) (M : Nat → Nat → Bool) (p k : Nat) : Nat := (List.range n).countP fun i => farK n M p k i != 0
theorem known_le (k : Nat) : known n M p k ≤ n := by unfold known; exact Nat.le_trans List.countP_le_length (by simp)
theorem countP_lt {f g : Nat → Bool} : ∀ (m x : Nat), x < m → (∀ i, f i = true → g i = true) → f x = false → g x = true → (List.range m).countP f < (List.range m).countP g
  | 0, x, h, _, _, _ => by omega
  | m + 1, x, h, hfg, h1, h2 => by
    rw [List.range_succ, List.countP_append, List.countP_append, List.countP_singleton, List.countP_singleton]
    have hmono : ∀ k, (List.range k).countP f ≤ (List.range k).countP g := fun k => List.countP_mono_left fun i _ hi => hfg i hi
    by_cases hx : x = m
    · subst hx
      rw [h1, h2]; have := hmono x; simp; omega
    · have := countP_lt m x (by omega) hfg h1 h2
      have h3 : (if f m = true then 1 else 0) ≤ (if g m = true then 1 else 0) := by
        by_cases hf : f m = true
        · rw [if_pos hf, if_pos (hfg m hf)]; exact Nat.le_refl _
        · rw [if_neg hf]; omega
      omega
theorem known_grows {k i : Nat} (hi : i < n) (h : farK n M p (k + 1) i = k + 1) : known n M p k < known n M p (k + 1) := by
  refine countP_lt n i hi (fun j hj => ?_) ?_ ?_
  · have : farK n M p k j ≠ 0 := by simpa using hj
    simpa [farK_keep this] using hj
  · apply Classical.byContradiction; intro h0
    have h0 : farK n M p k i ≠ 0 := by simpa using h0
    rw [farK_keep h0] at h
    have := farK_le (n := n) (M := M) (p := p) k i
    omega
  · simp [h]
theorem layer_prev {k i : Nat} (hi : i < n) (h : farK n M p (k + 2) i = k + 2) : ∃ j, j < n ∧ farK n M p (k + 1) j = k + 1 := by
  obtain ⟨j, hj, hm, hf⟩ := (farK_step h).2 (by omega)
  refine ⟨j, hj, ?_⟩
  by_cases h0 : farK n M p (k + 1) j = 0
  · rw [farK_new h0] at hf; split at hf <;> omega
  · rw [farK_keep h0] at hf; exact hf
theorem known_ge : ∀ {k i : Nat}, i < n → farK n M p (k + 1) i = k + 1 → k + 1 ≤ known n M p (k + 1)
  | 0, i, hi, h => by have := known_grows hi h; omega
  | k + 1, i, hi, h => by
    obtain ⟨j, hj, hf⟩ := layer_prev hi h
    have := known_ge hj hf
    have := known_grows hi h
    omega
theorem farK_all {k : Nat} (h : ∀ i, i < n → farK n M p (k + 1) i ≠ k + 1) {i : Nat} (hi : i < n) : farK n M p k i = farS n M p i := by
  have hn : ∀ i, i < n → farK n M p (n + 1) i ≠ n + 1 := fun i hi h => by
    have := known_ge hi h; have := known_le (n := n) (M := M) (p := p) (n + 1); omega
  unfold farS
  rcases Nat.le_total k n with hk | hk
  · obtain ⟨d, rfl⟩ : ∃ d, n = k + d := ⟨n - k, by omega⟩
    exact (farK_stable h d i hi).symm
  · obtain ⟨d, hd⟩ : ∃ d, k = n + d := ⟨k - n, by omega⟩
    rw [hd]; exact farK_stable hn d i hi
theorem farS_step {i m : Nat} (h : farS n M p i = m + 1) : (m = 0 → M i p = true) ∧ (0 < m → ∃ j, j < n ∧ M i j = true ∧ farS n M p j = m) := farK_step h
theorem farS_le (i : Nat) : farS n M p i ≤ n := farK_le n i
end
/-- The way from a point, so many steps. -/
def cycGo (n : Nat) (M : Nat → Nat → Bool) (F : Nat → Nat) : Nat → Nat → List Nat
  | 0, _ => []
  | k + 1, a => match lf (fun q => M a q && F q == k + 1) n 0 with
    | none => []
    | some q => q :: cycGo n M F k q
def shortS (n : Nat) (M : Nat → Nat → Bool) (p : Nat) : List Nat := p :: cycGo n M (farS n M p) (farS n M p p - 1) p
/-- The least cycle, if there is any. -/
def cycS (n : Nat) (M : Nat → Nat → Bool) : List Nat := match lf (fun p => plusM n M p p) n 0 with
  | none => []
  | some p => shortS n M p
theorem lf_none {f : Nat → Bool} {n q : Nat} (h : lf f n q = none) : ∀ x, q ≤ x → x < n → f x = false := fun x h1 h2 => by
  unfold lf at h
  have := List.find?_eq_none.1 h x (List.mem_range'_1.2 ⟨h1, by omega⟩)
  simpa using this
theorem lf_least {f : Nat → Bool} {n q x : Nat} (h : lf f n q = some x) : ∀ y, q ≤ y → y < x → f y = false := by
  obtain ⟨h1, h2, _⟩ := lf_some h
  intro y hy hyx
  have hr : ∀ d q, n - q = d → lf f n q = some x → ∀ y, q ≤ y → y < x → f y = false := by
    intro d
    induction d with
    | zero => intro q hq h'; rw [lf_end f (by omega)] at h'; cases h'
    | succ d ih =>
      intro q hq h' y hy hyx
      rw [lf_step f (by omega)] at h'
      cases hf : f q with
      | true => rw [if_pos hf] at h'; cases h'; omega
      | false =>
        rw [if_neg (by simp [hf])] at h'
        by_cases hyq : y = q
        · subst hyq; exact hf
        · exact ih (q + 1) (by omega) h' y (by omega) hyx
  exact hr _ q rfl h y hy hyx
theorem lf_is {f : Nat → Bool} {n q x : Nat} (h1 : q ≤ x) (h2 : x < n) (h3 : f x = true) (h4 : ∀ y, q ≤ y → y < x → f y = false) : lf f n q = some x := by
  cases h : lf f n q with
  | none => have := lf_none h x h1 h2; rw [this] at h3; cases h3
  | some y =>
    obtain ⟨g1, g2, g3⟩ := lf_some h
    by_cases hyx : y < x
    · have := h4 y g1 hyx; rw [this] at g3; cases g3
    · by_cases hxy : x < y
      · have := lf_least h x h1 hxy; rw [this] at h3; cases h3
      · congr 1; omega
theorem nodup_lt {n : Nat} {l : List Nat} (hd : l.Nodup) (hl : ∀ x ∈ l, x < n) : l.length ≤ n := by
  have h : ∀ (l m : List Nat), l.Nodup → (∀ x ∈ l, x ∈ m) → l.length ≤ m.length := by
    intro l
    induction l with
    | nil => intro m _ _; simp
    | cons x l ih =>
      intro m hd hs
      have hx := hs x (by simp)
      have hd' := List.nodup_cons.1 hd
      have := ih (m.erase x) hd'.2 fun y hy => (List.mem_erase_of_ne (by rintro rfl; exact hd'.1 hy)).2 (hs y (by simp [hy]))
      rw [List.length_erase_of_mem hx] at this
      have := List.length_pos_of_mem hx
      simp; omega
  have := h l (List.range n) hd fun x hx => List.mem_range.2 (hl x hx)
  simpa using this
theorem rest_before {f : Nat → Bool} {n d s y : Nat} (hs : (rest f n 0)[d]? = some s) (hy : y < s) (hf : f y = true) : y ∈ (rest f n 0).take d := by
  have hsm := mem_rest.1 (List.mem_of_getElem? hs)
  have hm : y ∈ rest f n 0 := mem_rest.2 ⟨by omega, by omega, hf⟩
  have hp : (rest f n 0).Pairwise (· < ·) := by unfold rest; exact List.Pairwise.sublist List.filter_sublist (List.pairwise_lt_range')
  obtain ⟨e, he, hye⟩ := List.getElem_of_mem hm
  obtain ⟨hd, hsd⟩ := List.getElem?_eq_some_iff.1 hs
  have hed : e < d := by
    apply Classical.byContradiction; intro hh
    by_cases h1 : e = d
    · subst h1; omega
    · have := (List.pairwise_iff_getElem.1 hp) d e hd he (by omega)
      omega
  exact List.mem_iff_getElem.2 ⟨e, by simp; omega, by simp [hye]⟩
end Go.Vc
/-
  The closure is the least transitive relation over a relation; ways.
-/
namespace Go.Vc
section
variable {n : Nat} {M : Nat → Nat → Bool}
theorem warM_self (n : Nat) (M : Nat → Nat → Bool) (k j : Nat) : warM n M (k + 1) k j = warM n M k k j := by
  simp only [warM]; cases warM n M k k j <;> simp
theorem warM_mono {k i j : Nat} (h : warM n M k i j = true) : warM n M (k + 1) i j = true := by simp only [warM, h, Bool.true_or]
theorem warM_sub : ∀ (k : Nat) {i j : Nat}, M i j = true → warM n M k i j = true
  | 0, _, _, h => h
  | k + 1, _, _, h => warM_mono (warM_sub k h)
theorem warM_succ {k i j : Nat} : warM n M (k + 1) i j = true ↔ warM n M k i j = true ∨ (warM n M k i k = true ∧ warM n M k k j = true) := by
  simp [warM]
theorem warM_trans : ∀ (k : Nat) {i x j : Nat}, x < k → warM n M k i x = true → warM n M k x j = true → warM n M k i j = true
  | 0, _, _, _, h, _, _ => by omega
  | k + 1, i, x, j, hx, h1, h2 => by
    rw [warM_succ] at h1 h2 ⊢
    by_cases hxk : x = k
    · subst hxk
      refine .inr ⟨?_, ?_⟩
      · rcases h1 with h | ⟨h, _⟩ <;> exact h
      · rcases h2 with h | ⟨_, h⟩ <;> exact h
    · have hx' : x < k := by omega
      rcases h1 with h1 | ⟨h1, h1'⟩ <;> rcases h2 with h2 | ⟨h2, h2'⟩
      · exact .inl (warM_trans k hx' h1 h2)
      · exact .inr ⟨warM_trans k hx' h1 h2, h2'⟩
      · exact .inr ⟨h1, warM_trans k hx' h1' h2⟩
      · exact .inr ⟨h1, h2'⟩
theorem plus_sub {i j : Nat} (h : M i j = true) : plusM n M i j = true := warM_sub n h
theorem plus_trans {i x j : Nat} (hx : x < n) (h1 : plusM n M i x = true) (h2 : plusM n M x j = true) : plusM n M i j = true := warM_trans n hx h1 h2
/-- It is the least one. -/
theorem plus_least {N : Nat → Nat → Prop} (hM : ∀ i j, i < n → j < n → M i j = true → N i j) (ht : ∀ i x j, i < n → x < n → j < n → N i x → N x j → N i j) {i j : Nat} (hi : i < n) (hj : j < n) (h : plusM n M i j = true) : N i j := by
  have all : ∀ k, k ≤ n → ∀ i j, i < n → j < n → warM n M k i j = true → N i j := by
    intro k
    induction k with
    | zero => exact fun _ i j hi hj h => hM i j hi hj h
    | succ k ih =>
      intro hk i j hi hj h
      rcases warM_succ.1 h with h | ⟨h1, h2⟩
      · exact ih (by omega) i j hi hj h
      · exact ht i k j hi (by omega) hj (ih (by omega) i k hi (by omega) h1) (ih (by omega) k j (by omega) hj h2)
  exact all n (Nat.le_refl _) i j hi hj h
/-- A way of so many steps. -/
inductive Way (n : Nat) (M : Nat → Nat → Bool) : Nat → Nat → Nat → Prop
  | one {i j : Nat} : M i j = true → Way n M 1 i j
  | more {k i x j : Nat} : x < n → M i x = true → Way n M k x j → Way n M (k + 1) i j
theorem Way.app {k m i x j : Nat} (hx : x < n) (h : Way n M k i x) (h' : Way n M m x j) : Way n M (k + m) i j := by
  induction h with
  | one h => rw [Nat.add_comm]; exact .more hx h h'
  | more hy hm _ ih => rw [Nat.add_right_comm]; exact .more hy hm (ih hx h')
theorem plus_way {i j : Nat} (hi : i < n) (hj : j < n) (h : plusM n M i j = true) : ∃ k, Way n M k i j :=
  plus_least (N := fun i j => ∃ k, Way n M k i j) (fun i j _ _ h => ⟨1, .one h⟩) (fun i x j _ hx _ ⟨k, h1⟩ ⟨m, h2⟩ => ⟨k + m, h1.app hx h2⟩) hi hj h
variable {p : Nat}
theorem farK_mono {k m i : Nat} (hk : k ≤ m) (h : farK n M p k i ≠ 0) : farK n M p m i = farK n M p k i := by
  obtain ⟨d, rfl⟩ : ∃ d, m = k + d := ⟨m - k, by omega⟩
  induction d with
  | zero => rfl
  | succ d ih =>
    have := ih (by omega)
    rw [show k + (d + 1) = k + d + 1 by omega, farK_keep (by omega), this]
theorem farK_at : ∀ {k i v : Nat}, farK n M p k i = v → v ≠ 0 → farK n M p v i = v
  | 0, i, v, h, hv => by simp [farK] at h; omega
  | k + 1, i, v, h, hv => by
    by_cases h0 : farK n M p k i = 0
    · have h' := h
      rw [farK_new h0] at h'
      split at h'
      · subst h'; exact h
      · omega
    · rw [farK_keep h0] at h; exact farK_at h hv
theorem way_far {k i p : Nat} (h : Way n M k i p) : ∃ m, farK n M p m i ≠ 0 := by
  induction h with
  | one h => exact ⟨1, by rw [farK_new rfl, lay_zero, if_pos h]; omega⟩
  | @more k i x j hx h _ ih =>
    obtain ⟨m, hm⟩ := ih
    have hv := farK_at rfl hm
    obtain ⟨v, hv'⟩ : ∃ v, farK n M j m x = v + 1 := ⟨farK n M j m x - 1, by omega⟩
    rw [hv'] at hv
    refine ⟨v + 2, ?_⟩
    by_cases h0 : farK n M j (v + 1) i = 0
    · rw [farK_new h0, if_pos (lay_succ.2 ⟨x, hx, h, hv⟩)]; omega
    · rw [farK_keep h0]; exact h0
theorem farS_of {k i : Nat} (hi : i < n) (h : farK n M p k i ≠ 0) : farS n M p i ≠ 0 := by
  have hn : ∀ i, i < n → farK n M p (n + 1) i ≠ n + 1 := fun i hi h => by
    have := known_ge hi h; have := known_le (n := n) (M := M) (p := p) (n + 1); omega
  unfold farS
  rcases Nat.le_total k n with hk | hk
  · rw [farK_mono hk h]; exact h
  · obtain ⟨d, hd⟩ : ∃ d, k = n + d := ⟨k - n, by omega⟩
    rw [hd, farK_stable hn d i hi] at h; exact h
theorem plus_far {i : Nat} (hi : i < n) (hp : p < n) (h : plusM n M i p = true) : farS n M p i ≠ 0 := by
  obtain ⟨k, hw⟩ := plus_way hi hp h
  obtain ⟨m, hm⟩ := way_far hw
  exact farS_of hi hm
end
theorem cycGo_len {n : Nat} {M : Nat → Nat → Bool} {F : Nat → Nat} : ∀ (k a : Nat), (cycGo n M F k a).length ≤ k
  | 0, _ => Nat.le_refl _
  | k + 1, a => by
    simp only [cycGo]
    split
    · simp
    · rename_i q _; have := cycGo_len (n := n) (M := M) (F := F) k q; simp; omega
theorem shortS_len {n : Nat} {M : Nat → Nat → Bool} {p : Nat} : (shortS n M p).length ≤ n + 1 := by
  have := cycGo_len (n := n) (M := M) (F := farS n M p) (farS n M p p - 1) p
  have := farS_le (n := n) (M := M) (p := p) p
  simp only [shortS, List.length_cons]; omega
theorem cycS_len {n : Nat} {M : Nat → Nat → Bool} : (cycS n M).length ≤ n + 1 := by
  unfold cycS
  split
  · simp
  · exact shortS_len
end Go.Vc
namespace Go.Proofs.Tst
open Go Go.Vc
theorem rel_Copy {n : Nat} {M : Nat → Nat → Bool} {p : Value} {lo hi : Nat} {h : Heap} (hr : ProgAt h lo hi p n M) :
    Con Tryd.prog 56 #[p] h fun v h' => Fr 0 0 h h' ∧ ProgAt h' h.size h'.size v n (inN n M) := by
  refine con_rel_Rel_Copy ?_
  simp -dsimp only [go_sem, ↓reduceIte, reduceCtorEq, Nat.reduceEqDiff, Nat.reduceAdd, Nat.reduceLeDiff, Nat.reduceMul, Int.reduceBEq, Int.reduceBNe, Int.reduceLT, Int.reduceLE, Int.reduceGT, Int.reduceGE]
  refine call_of (rel_wide hr 0 (by omega)) ?_
  rintro v h1 ⟨p1, t1⟩
  simp -dsimp only [go_sem, ↓reduceIte, reduceCtorEq, Nat.reduceEqDiff, Nat.reduceAdd, Nat.reduceLeDiff, Nat.reduceMul, Int.reduceBEq, Int.reduceBNe, Int.reduceLT, Int.reduceLE, Int.reduceGT, Int.reduceGE]
  exact ⟨p1, by rwa [Nat.zero_max] at t1⟩
theorem rel_Irreflexive {n : Nat} {M : Nat → Nat → Bool} {p : Value} {lo hi : Nat} {h : Heap} (hr : ProgAt h lo hi p n M) :
    Con Tryd.prog 46 #[p] h fun v h' => h' = h ∧ v = .bool (irrB n M) := by
  refine con_rel_Irreflexive ?_
  obtain ⟨hn, pb, rb, R, W, rfl, t⟩ := hr
  simp -dsimp only [go_sem, ↓reduceIte, reduceCtorEq, Nat.reduceEqDiff, Nat.reduceAdd, Nat.reduceLeDiff, Nat.reduceMul, Int.reduceBEq, Int.reduceBNe, Int.reduceLT, Int.reduceLE, Int.reduceGT, Int.reduceGE, t.ptr.cell]
  refine loop_intro (fun a : Nat => [(8, .slice (some ⟨rb, 0, none⟩) n n), (9, .int .i64 n), (10, .int .i64 a)])
    (fun a h' => h' = h ∧ a ≤ n ∧ ∀ i, i < a → M i i = false) (fun a => n - a) 0 ?_ ?_ ?_
  · simp [Le, find]
  · exact ⟨rfl, by omega, by omega⟩
  rintro a _ ⟨rfl, ha, hinv⟩
  simp -dsimp only [go_sem, ↓reduceIte, reduceCtorEq, Nat.reduceEqDiff, Nat.reduceAdd, Nat.reduceLeDiff, Nat.reduceMul, Int.reduceBEq, Int.reduceBNe, Int.reduceLT, Int.reduceLE, Int.reduceGT, Int.reduceGE]
  refine ⟨fun hlt => ?_, fun hge => ?_⟩
  · have hlt : a < n := by omega
    obtain ⟨g1, g2, g3, g4, g5, g6⟩ := t.row a hlt
    simp -dsimp only [go_sem, ↓reduceIte, reduceCtorEq, Nat.reduceEqDiff, Nat.reduceAdd, Nat.reduceLeDiff, Nat.reduceMul, Int.reduceBEq, Int.reduceBNe, Int.reduceLT, Int.reduceLE, Int.reduceGT, Int.reduceGE]
    refine Chk_intro (by omega) ?_
    simp -dsimp only [go_sem, ↓reduceIte, reduceCtorEq, Nat.reduceEqDiff, Nat.reduceAdd, Nat.reduceLeDiff, Nat.reduceMul, Int.reduceBEq, Int.reduceBNe, Int.reduceLT, Int.reduceLE, Int.reduceGT, Int.reduceGE, t.rowsGet hlt]
    refine call_of (row_has (p := a) (ptab_rd t hlt) (by unfold nw; omega) (g6 _).1 (by omega)) ?_
    rintro v h1 ⟨rfl, rfl⟩
    rw [g6.get hlt]
    cases hm : M a a with
    | true =>
      simp -dsimp only [go_sem, ↓reduceIte, reduceCtorEq, Nat.reduceEqDiff, Nat.reduceAdd, Nat.reduceLeDiff, Nat.reduceMul, Int.reduceBEq, Int.reduceBNe, Int.reduceLT, Int.reduceLE, Int.reduceGT, Int.reduceGE]
      have : irrB n M = false := by
        rw [Bool.eq_false_iff]; intro h'
        have := List.all_eq_true.1 h' a (List.mem_range.2 hlt)
        simp [hm] at this
      rw [this]
    | false =>
      simp -dsimp only [go_sem, ↓reduceIte, reduceCtorEq, Nat.reduceEqDiff, Nat.reduceAdd, Nat.reduceLeDiff, Nat.reduceMul, Int.reduceBEq, Int.reduceBNe, Int.reduceLT, Int.reduceLE, Int.reduceGT, Int.reduceGE]
      simp -dsimp (disch := omega) only [wrap64]
      refine ⟨a + 1, by omega, by simp [Le, find], by omega, fun i hi => ?_⟩
      by_cases hia : i = a
      · subst hia; exact hm
      · exact hinv i (by omega)
  · have : a = n := by omega
    subst this
    simp -dsimp only [go_sem, ↓reduceIte, reduceCtorEq, Nat.reduceEqDiff, Nat.reduceAdd, Nat.reduceLeDiff, Nat.reduceMul, Int.reduceBEq, Int.reduceBNe, Int.reduceLT, Int.reduceLE, Int.reduceGT, Int.reduceGE]
    have : irrB a M = true := List.all_eq_true.2 fun i hi => by rw [hinv i (List.mem_range.1 hi)]; rfl
    rw [this]
theorem rel_Plus {n : Nat} {M : Nat → Nat → Bool} {p : Value} {lo hi : Nat} {h : Heap} (hr : ProgAt h lo hi p n M) :
    Con Tryd.prog 30 #[p] h fun v h' => Fr 0 0 h h' ∧ ProgAt h' h.size h'.size v n (plusM n M) := by
  refine con_rel_Plus ?_
  simp -dsimp only [go_sem, ↓reduceIte, reduceCtorEq, Nat.reduceEqDiff, Nat.reduceAdd, Nat.reduceLeDiff, Nat.reduceMul, Int.reduceBEq, Int.reduceBNe, Int.reduceLT, Int.reduceLE, Int.reduceGT, Int.reduceGE]
  refine call_of (rel_Copy hr) ?_
  rintro v1 h1 ⟨p1, hn, pb1, rb1, R1, W1, rfl, t1⟩
  have at1 := t1.at_
  simp -dsimp only [go_sem, ↓reduceIte, reduceCtorEq, Nat.reduceEqDiff, Nat.reduceAdd, Nat.reduceLeDiff, Nat.reduceMul, Int.reduceBEq, Int.reduceBNe, Int.reduceLT, Int.reduceLE, Int.reduceGT, Int.reduceGE, t1.ptr.cell]
  refine loop_intro (fun k : Nat => [(3, .pointer (some ⟨pb1, 0, none⟩)), (11, .int .i64 n), (12, .int .i64 k)])
    (fun k h' => k ≤ n ∧ Fr 0 0 h h' ∧ h1.size ≤ h'.size ∧ ∃ W, PTab h' h.size h1.size pb1 rb1 n R1 W (warM n M k)) (fun k => n - k) 0 ?_ ?_ ?_
  · simp [Le, find]
  · exact ⟨by omega, p1, by omega, _, t1.congr fun i j hi hj => inN_in hi hj⟩
  rintro k h2 ⟨hk, p0, y2, W2, t2⟩
  simp -dsimp only [go_sem, ↓reduceIte, reduceCtorEq, Nat.reduceEqDiff, Nat.reduceAdd, Nat.reduceLeDiff, Nat.reduceMul, Int.reduceBEq, Int.reduceBNe, Int.reduceLT, Int.reduceLE, Int.reduceGT, Int.reduceGE]
  refine ⟨fun hlt => ?_, fun hge => ?_⟩
  · have hlt : k < n := by omega
    simp -dsimp only [go_sem, ↓reduceIte, reduceCtorEq, Nat.reduceEqDiff, Nat.reduceAdd, Nat.reduceLeDiff, Nat.reduceMul, Int.reduceBEq, Int.reduceBNe, Int.reduceLT, Int.reduceLE, Int.reduceGT, Int.reduceGE, t2.ptr.cell]
    refine loop_intro (fun a : Nat => [(3, .pointer (some ⟨pb1, 0, none⟩)), (4, .int .i64 k), (11, .int .i64 n), (12, .int .i64 k), (18, .int .i64 n), (19, .int .i64 a)])
      (fun a h' => a ≤ n ∧ Fr 0 0 h h' ∧ h1.size ≤ h'.size ∧ ∃ W, PTab h' h.size h1.size pb1 rb1 n R1 W fun i j => if i < a then warM n M (k + 1) i j else warM n M k i j) (fun a => n - a) 0 ?_ ?_ ?_
    · simp [Le, find]
    · exact ⟨by omega, p0, by omega, _, t2.congr fun i j hi hj => by simp⟩
    rintro a h3 ⟨ha, p0, y3, W3, t3⟩
    have p0_z := p0.size
    simp -dsimp only [go_sem, ↓reduceIte, reduceCtorEq, Nat.reduceEqDiff, Nat.reduceAdd, Nat.reduceLeDiff, Nat.reduceMul, Int.reduceBEq, Int.reduceBNe, Int.reduceLT, Int.reduceLE, Int.reduceGT, Int.reduceGE]
    refine ⟨fun hlt2 => ?_, fun hge2 => ?_⟩
    · have hlt2 : a < n := by omega
      obtain ⟨g1, g2, g3, g4, g5, g6⟩ := t3.row a hlt2
      obtain ⟨f1, f2, f3, f4, f5, f6⟩ := t3.row k hlt
      simp -dsimp only [go_sem, ↓reduceIte, reduceCtorEq, Nat.reduceEqDiff, Nat.reduceAdd, Nat.reduceLeDiff, Nat.reduceMul, Int.reduceBEq, Int.reduceBNe, Int.reduceLT, Int.reduceLE, Int.reduceGT, Int.reduceGE, t3.ptr.cell]
      refine Chk_intro (by omega) ?_
      simp -dsimp only [go_sem, ↓reduceIte, reduceCtorEq, Nat.reduceEqDiff, Nat.reduceAdd, Nat.reduceLeDiff, Nat.reduceMul, Int.reduceBEq, Int.reduceBNe, Int.reduceLT, Int.reduceLE, Int.reduceGT, Int.reduceGE, t3.rowsGet hlt2]
      refine call_of (row_has (p := k) (ptab_rd t3 hlt2) (by unfold nw; omega) (g6 _).1 (by omega)) ?_
      rintro v h4 ⟨rfl, rfl⟩
      rw [g6.get hlt]
      simp only [Nat.lt_irrefl, if_false]
      cases hm : warM n M k a k with
      | true =>
        simp -dsimp only [go_sem, ↓reduceIte, reduceCtorEq, Nat.reduceEqDiff, Nat.reduceAdd, Nat.reduceLeDiff, Nat.reduceMul, Int.reduceBEq, Int.reduceBNe, Int.reduceLT, Int.reduceLE, Int.reduceGT, Int.reduceGE, t3.ptr.cell]
        refine Chk_intro (by omega) ?_
        simp -dsimp only [go_sem, ↓reduceIte, reduceCtorEq, Nat.reduceEqDiff, Nat.reduceAdd, Nat.reduceLeDiff, Nat.reduceMul, Int.reduceBEq, Int.reduceBNe, Int.reduceLT, Int.reduceLE, Int.reduceGT, Int.reduceGE, t3.rowsGet hlt2, t3.ptr.cell]
        refine Chk_intro (by omega) ?_
        simp -dsimp only [go_sem, ↓reduceIte, reduceCtorEq, Nat.reduceEqDiff, Nat.reduceAdd, Nat.reduceLeDiff, Nat.reduceMul, Int.reduceBEq, Int.reduceBNe, Int.reduceLT, Int.reduceLE, Int.reduceGT, Int.reduceGE, t3.rowsGet hlt]
        intro b5 h5 n5
        have n5_a := n5.at_
        have n5_z := n5.size
        replace p0 := p0.fresh (n5.fr (lo := 0) (hi := 0)) (by omega)
        replace t3 := t3.fr (n5.fr (lo := 0) (hi := 0)) (by omega)
        have r5 := n5.row
        obtain ⟨g1, g2, g3, g4, g5, g6⟩ := t3.row a hlt2
        obtain ⟨f1, f2, f3, f4, f5, f6⟩ := t3.row k hlt
        simp -dsimp only [go_sem, ↓reduceIte, reduceCtorEq, Nat.reduceEqDiff, Nat.reduceAdd, Nat.reduceLeDiff, Nat.reduceMul, Int.reduceBEq, Int.reduceBNe, Int.reduceLT, Int.reduceLE, Int.reduceGT, Int.reduceGE, t3.rowsGet hlt, t3.rowsGet hlt2, t3.ptr.cell, r5.cell]
        refine call_of (row_join g1 f1 (r5.rd rfl) (fun j => (g6 j).1) (fun j => (f6 j).1) (by unfold nw; omega) (by unfold nw; omega)) ?_
        rintro _ h6 ⟨q6, z6, r6⟩
        have t6 := t3.updRow hlt2 q6 r6 (g6.or f6 (by omega))
        have q6_z := q6.size
        replace p0 := p0.fresh q6 (by omega)
        simp -dsimp only [go_sem, ↓reduceIte, reduceCtorEq, Nat.reduceEqDiff, Nat.reduceAdd, Nat.reduceLeDiff, Nat.reduceMul, Int.reduceBEq, Int.reduceBNe, Int.reduceLT, Int.reduceLE, Int.reduceGT, Int.reduceGE, t6.ptr.cell, t6.rowsGet hlt, t6.rowsGet hlt2]
        simp -dsimp (disch := omega) only [wrap64]
        refine ⟨a + 1, by omega, by simp [Le, find], by omega, p0, by omega, _, t6.congr fun i j hi hj => ?_⟩
        by_cases hia : i = a
        · subst hia
          have e : (if k < i then warM n M (k + 1) k j else warM n M k k j) = warM n M k k j := by split <;> simp [warM_self]
          rw [upd_same, if_pos (Nat.lt_succ_self _)]
          simp only [Nat.lt_irrefl, if_false, e, hj, decide_true, Bool.true_and]
          simp only [warM, hm, Bool.true_and]
        · rw [upd_ne _ _ hia]
          have : (i < a + 1) = (i < a) := by simp; omega
          simp [this]
      | false =>
        simp -dsimp only [go_sem, ↓reduceIte, reduceCtorEq, Nat.reduceEqDiff, Nat.reduceAdd, Nat.reduceLeDiff, Nat.reduceMul, Int.reduceBEq, Int.reduceBNe, Int.reduceLT, Int.reduceLE, Int.reduceGT, Int.reduceGE]
        simp -dsimp (disch := omega) only [wrap64]
        refine ⟨a + 1, by omega, by simp [Le, find], by omega, p0, by omega, _, t3.congr fun i j hi hj => ?_⟩
        by_cases hia : i = a
        · subst hia
          simp [warM, hm]
        · have : (i < a + 1) = (i < a) := by simp; omega
          simp [this]
    · have : a = n := by omega
      subst this
      simp -dsimp only [go_sem, ↓reduceIte, reduceCtorEq, Nat.reduceEqDiff, Nat.reduceAdd, Nat.reduceLeDiff, Nat.reduceMul, Int.reduceBEq, Int.reduceBNe, Int.reduceLT, Int.reduceLE, Int.reduceGT, Int.reduceGE]
      simp -dsimp (disch := omega) only [wrap64]
      exact ⟨k + 1, by omega, by simp [Le, find], by omega, p0, by omega, _, t3.congr fun i j hi hj => by simp [hi]⟩
  · have : k = n := by omega
    subst this
    simp -dsimp only [go_sem, ↓reduceIte, reduceCtorEq, Nat.reduceEqDiff, Nat.reduceAdd, Nat.reduceLeDiff, Nat.reduceMul, Int.reduceBEq, Int.reduceBNe, Int.reduceLT, Int.reduceLE, Int.reduceGT, Int.reduceGE]
    exact ⟨p0, hn, _, _, _, _, rfl, t2.mono' y2⟩
theorem rel_Acyclic {n : Nat} {M : Nat → Nat → Bool} {p : Value} {lo hi : Nat} {h : Heap} (hr : ProgAt h lo hi p n M) :
    Con Tryd.prog 45 #[p] h fun v h' => Fr 0 0 h h' ∧ v = .bool (irrB n (plusM n M)) := by
  refine con_rel_Acyclic ?_
  simp -dsimp only [go_sem, ↓reduceIte, reduceCtorEq, Nat.reduceEqDiff, Nat.reduceAdd, Nat.reduceLeDiff, Nat.reduceMul, Int.reduceBEq, Int.reduceBNe, Int.reduceLT, Int.reduceLE, Int.reduceGT, Int.reduceGE]
  refine call_of (rel_Plus hr) ?_
  rintro v1 h1 ⟨p1, t1⟩
  simp -dsimp only [go_sem, ↓reduceIte, reduceCtorEq, Nat.reduceEqDiff, Nat.reduceAdd, Nat.reduceLeDiff, Nat.reduceMul, Int.reduceBEq, Int.reduceBNe, Int.reduceLT, Int.reduceLE, Int.reduceGT, Int.reduceGE]
  refine call_of (rel_Irreflexive t1) ?_
  rintro v2 h2 ⟨rfl, rfl⟩
  simp -dsimp only [go_sem, ↓reduceIte, reduceCtorEq, Nat.reduceEqDiff, Nat.reduceAdd, Nat.reduceLeDiff, Nat.reduceMul, Int.reduceBEq, Int.reduceBNe, Int.reduceLT, Int.reduceLE, Int.reduceGT, Int.reduceGE]
  exact p1
theorem rel_Opt {n : Nat} {M : Nat → Nat → Bool} {p : Value} {lo hi : Nat} {h : Heap} (hr : ProgAt h lo hi p n M) :
    Con Tryd.prog 44 #[p] h fun v h' => Fr 0 0 h h' ∧ ProgAt h' h.size h'.size v n (optM M) := by
  refine con_rel_Opt ?_
  simp -dsimp only [go_sem, ↓reduceIte, reduceCtorEq, Nat.reduceEqDiff, Nat.reduceAdd, Nat.reduceLeDiff, Nat.reduceMul, Int.reduceBEq, Int.reduceBNe, Int.reduceLT, Int.reduceLE, Int.reduceGT, Int.reduceGE]
  refine call_of (rel_Copy hr) ?_
  rintro v1 h1 ⟨p1, hn, pb1, rb1, R1, W1, rfl, t1⟩
  have at1 := t1.at_
  simp -dsimp only [go_sem, ↓reduceIte, reduceCtorEq, Nat.reduceEqDiff, Nat.reduceAdd, Nat.reduceLeDiff, Nat.reduceMul, Int.reduceBEq, Int.reduceBNe, Int.reduceLT, Int.reduceLE, Int.reduceGT, Int.reduceGE, t1.ptr.cell]
  refine loop_intro (fun k : Nat => [(3, .pointer (some ⟨pb1, 0, none⟩)), (10, .int .i64 n), (11, .int .i64 k)])
    (fun k h' => k ≤ n ∧ Fr 0 0 h h' ∧ h1.size ≤ h'.size ∧ ∃ W, PTab h' h.size h1.size pb1 rb1 n R1 W fun i j => M i j || (decide (i < k) && i == j)) (fun k => n - k) 0 ?_ ?_ ?_
  · simp [Le, find]
  · exact ⟨by omega, p1, by omega, _, t1.congr fun i j hi hj => by simp [inN_in hi hj]⟩
  rintro a h2 ⟨ha, p0, y2, W2, t3⟩
  have p0_z := p0.size
  simp -dsimp only [go_sem, ↓reduceIte, reduceCtorEq, Nat.reduceEqDiff, Nat.reduceAdd, Nat.reduceLeDiff, Nat.reduceMul, Int.reduceBEq, Int.reduceBNe, Int.reduceLT, Int.reduceLE, Int.reduceGT, Int.reduceGE]
  refine ⟨fun hlt => ?_, fun hge => ?_⟩
  · have hlt : a < n := by omega
    obtain ⟨g1, g2, g3, g4, g5, g6⟩ := t3.row a hlt
    simp -dsimp only [go_sem, ↓reduceIte, reduceCtorEq, Nat.reduceEqDiff, Nat.reduceAdd, Nat.reduceLeDiff, Nat.reduceMul, Int.reduceBEq, Int.reduceBNe, Int.reduceLT, Int.reduceLE, Int.reduceGT, Int.reduceGE, t3.ptr.cell]
    refine Chk_intro (by omega) ?_
    simp -dsimp only [go_sem, ↓reduceIte, reduceCtorEq, Nat.reduceEqDiff, Nat.reduceAdd, Nat.reduceLeDiff, Nat.reduceMul, Int.reduceBEq, Int.reduceBNe, Int.reduceLT, Int.reduceLE, Int.reduceGT, Int.reduceGE, t3.rowsGet hlt]
    refine call_of (row_set (p := a) g1 (by unfold nw; omega) (fun j => (g6 j).1) (by unfold nw; omega)) ?_
    rintro _ h6 ⟨q6, z6, r6⟩
    have t6 := t3.updRow hlt q6 r6 (g6.set hlt)
    have q6_z := q6.size
    replace p0 := p0.fresh q6 (by omega)
    simp -dsimp only [go_sem, ↓reduceIte, reduceCtorEq, Nat.reduceEqDiff, Nat.reduceAdd, Nat.reduceLeDiff, Nat.reduceMul, Int.reduceBEq, Int.reduceBNe, Int.reduceLT, Int.reduceLE, Int.reduceGT, Int.reduceGE]
    simp -dsimp (disch := omega) only [wrap64]
    refine ⟨a + 1, by omega, by simp [Le, find], by omega, p0, by omega, _, t6.congr fun i j hi hj => ?_⟩
    by_cases hia : i = a
    · subst hia
      rw [upd_same]
      by_cases hji : j = i
      · subst hji; simp
      · have : (i == j) = false := by simp; omega
        simp [hji, this]
    · rw [upd_ne _ _ hia]
      have : (i < a + 1) = (i < a) := by simp; omega
      simp [this]
  · have : a = n := by omega
    subst this
    simp -dsimp only [go_sem, ↓reduceIte, reduceCtorEq, Nat.reduceEqDiff, Nat.reduceAdd, Nat.reduceLeDiff, Nat.reduceMul, Int.reduceBEq, Int.reduceBNe, Int.reduceLT, Int.reduceLE, Int.reduceGT, Int.reduceGE]
    exact ⟨p0, hn, _, _, _, _, rfl, (t3.mono' y2).congr fun i j hi _ => by simp [optM, hi]⟩
theorem rel_Star {n : Nat} {M : Nat → Nat → Bool} {p : Value} {lo hi : Nat} {h : Heap} (hr : ProgAt h lo hi p n M) :
    Con Tryd.prog 43 #[p] h fun v h' => Fr 0 0 h h' ∧ ProgAt h' h.size h'.size v n (optM (plusM n M)) := by
  refine con_rel_Star ?_
  simp -dsimp only [go_sem, ↓reduceIte, reduceCtorEq, Nat.reduceEqDiff, Nat.reduceAdd, Nat.reduceLeDiff, Nat.reduceMul, Int.reduceBEq, Int.reduceBNe, Int.reduceLT, Int.reduceLE, Int.reduceGT, Int.reduceGE]
  refine call_of (rel_Plus hr) ?_
  rintro v1 h1 ⟨p1, t1⟩
  have := p1.size
  simp -dsimp only [go_sem, ↓reduceIte, reduceCtorEq, Nat.reduceEqDiff, Nat.reduceAdd, Nat.reduceLeDiff, Nat.reduceMul, Int.reduceBEq, Int.reduceBNe, Int.reduceLT, Int.reduceLE, Int.reduceGT, Int.reduceGE]
  refine call_of (rel_Opt t1) ?_
  rintro v2 h2 ⟨p2, t2⟩
  simp -dsimp only [go_sem, ↓reduceIte, reduceCtorEq, Nat.reduceEqDiff, Nat.reduceAdd, Nat.reduceLeDiff, Nat.reduceMul, Int.reduceBEq, Int.reduceBNe, Int.reduceLT, Int.reduceLE, Int.reduceGT, Int.reduceGE]
  exact ⟨p1.trans p2, t2.mono this (Nat.le_refl _)⟩
end Go.Proofs.Tst
namespace Go.Proofs.Tst
open Go Go.Vc
/-- A range over a function that yields numbers. -/
theorem iter_intro {P : Program} {asg body : GC} {Q : Post} {e : Env} {h : Heap} {kk : Nat} {gf : FuncId} {lb : Array Value} {l : List Nat} {C : Heap → Prop} (hit : Iter P gf lb (l.map fun (p : Nat) => [Value.int .i64 (p : Int)]) C)
    (cext : ∀ h1 h2, Ext h.size h1 h2 → C h1 → C h2) (h0C : C h)
    (J : Nat → Heap → Prop) (X : GX → Heap → Prop) (keep : ∀ d h', J d h' → C h')
    (jext : ∀ i h1 h2, Ext h.size h1 h2 → J i h1 → J i h2) (xext : ∀ x h1 h2, Ext h.size h1 h2 → X x h1 → X x h2) (h0 : J 0 h)
    (step : ∀ d q h1, h.size ≤ h1.size → l[d]? = some q → J d h1 →
      vc P none asg (thenQ (fun e2 h2 => ∀ h2', Ext h.size h2 h2' → vc P none body (roundQ (fun h3 => J (d + 1) h3) X) e2 h2') (fun _ _ _ => False)) ((kk, .int .i64 (q : Int)) :: e) h1)
    (fin : ∀ h', h.size ≤ h'.size → J l.length h' → Q .normal e h')
    (esc : ∀ x h', h.size ≤ h'.size → X x h' → x ≠ .normal ∧ Q x e h') :
    ∃ (xs : List (List Value)) (C : Heap → Prop) (I : Nat → Heap → Prop) (X : GX → Heap → Prop),
      Iter P gf lb xs C ∧ (∀ x ∈ xs, x.length = [kk].length) ∧
      (∀ h1 h2, Ext h.size h1 h2 → C h1 → C h2) ∧ (∀ i h1 h2, Ext h.size h1 h2 → I i h1 → I i h2) ∧ (∀ x h1 h2, Ext h.size h1 h2 → X x h1 → X x h2) ∧
      I 0 h ∧ C h ∧
      (∀ i x h1, h.size ≤ h1.size → xs[i]? = some x → I i h1 → C h1 → vc P none asg (thenQ (fun e2 h2 => ∀ h2', Ext h.size h2 h2' → vc P none body (roundQ (fun h3 => I (i + 1) h3 ∧ C h3) X) e2 h2') (fun _ _ _ => False)) (zipE [kk] x e) h1) ∧
      (∀ h', h.size ≤ h'.size → I xs.length h' → C h' → Q .normal e h') ∧
      (∀ x h', h.size ≤ h'.size → X x h' → x ≠ .normal ∧ Q x e h') := by
  refine ⟨_, C, J, X, hit, ?_, cext, jext, xext, h0, h0C, ?_, ?_, esc⟩
  · intro x hx; obtain ⟨q, _, rfl⟩ := List.mem_map.1 hx; rfl
  · rintro d x h1 hs hx hJ hC
    rw [List.getElem?_map, Option.map_eq_some_iff] at hx
    obtain ⟨q, hq, rfl⟩ := hx
    refine vc_mono (fun x e2 h2 h3 => ?_) (step d q h1 hs hq hJ)
    cases x with
    | normal =>
      intro h2' x'
      refine vc_mono (fun x e4 h4 h5 => ?_) (h3 h2' x')
      cases x with
      | normal => exact ⟨h5, keep _ _ h5⟩
      | ret => exact h5
      | exit j => exact h5
    | ret => exact h3
    | exit j => exact h3
  · intro h' hs hJ hC
    rw [List.length_map] at hJ
    exact fin h' hs hJ
/-- A range over the points of a row. -/
theorem points_intro {P' : Program} {asg body : GC} {Q : Post} {e : Env} {h : Heap} {kk bk n : Nat} {xv : Value} {W : Nat → Nat} {f : Nat → Bool} (hP : P' = Tryd.prog) (hb : Bits n W f) (hn : n ≤ 256) (h0C : RowC bk xv (nw n) W h)
    (J : Nat → Heap → Prop) (X : GX → Heap → Prop) (keep : ∀ d h', J d h' → RowC bk xv (nw n) W h')
    (jext : ∀ i h1 h2, Ext h.size h1 h2 → J i h1 → J i h2) (xext : ∀ x h1 h2, Ext h.size h1 h2 → X x h1 → X x h2) (h0 : J 0 h)
    (step : ∀ d q h1, h.size ≤ h1.size → (rest f n 0)[d]? = some q → q < n → f q = true → J d h1 →
      vc P' none asg (thenQ (fun e2 h2 => ∀ h2', Ext h.size h2 h2' → vc P' none body (roundQ (fun h3 => J (d + 1) h3) X) e2 h2') (fun _ _ _ => False)) ((kk, .int .i64 (q : Int)) :: e) h1)
    (fin : ∀ h', h.size ≤ h'.size → J (rest f n 0).length h' → Q .normal e h')
    (esc : ∀ x h', h.size ≤ h'.size → X x h' → x ≠ .normal ∧ Q x e h') :
    ∃ (xs : List (List Value)) (C : Heap → Prop) (I : Nat → Heap → Prop) (X : GX → Heap → Prop),
      Iter P' 105 #[.pointer (some ⟨bk, 0, none⟩)] xs C ∧ (∀ x ∈ xs, x.length = [kk].length) ∧
      (∀ h1 h2, Ext h.size h1 h2 → C h1 → C h2) ∧ (∀ i h1 h2, Ext h.size h1 h2 → I i h1 → I i h2) ∧ (∀ x h1 h2, Ext h.size h1 h2 → X x h1 → X x h2) ∧
      I 0 h ∧ C h ∧
      (∀ i x h1, h.size ≤ h1.size → xs[i]? = some x → I i h1 → C h1 → vc P' none asg (thenQ (fun e2 h2 => ∀ h2', Ext h.size h2 h2' → vc P' none body (roundQ (fun h3 => I (i + 1) h3 ∧ C h3) X) e2 h2') (fun _ _ _ => False)) (zipE [kk] x e) h1) ∧
      (∀ h', h.size ≤ h'.size → I xs.length h' → C h' → Q .normal e h') ∧
      (∀ x h', h.size ≤ h'.size → X x h' → x ≠ .normal ∧ Q x e h') := by
  subst hP
  have hit := points_1 (b := bk) (xv := xv) (w := nw n) (W := W) (fun j => (hb j).1) (by unfold nw; omega)
  rw [rest_bits hb] at hit
  exact iter_intro hit (fun h1 h2 x ⟨c1, c2, c3⟩ => ⟨x.cell c1, x.rd c2, x.tab c3⟩) h0C J X keep jext xext h0
    (fun d q h1 hs hq hJ => have hm := mem_rest.1 (List.mem_of_getElem? hq); step d q h1 hs hq hm.2.1 hm.2.2 hJ) fin esc

theorem rel_Inverse {n : Nat} {M : Nat → Nat → Bool} {p : Value} {lo hi : Nat} {h : Heap} (hr : ProgAt h lo hi p n M) (ht : TabAt h) :
    Con Tryd.prog 38 #[p] h fun v h' => Fr 0 0 h h' ∧ ProgAt h' h.size h'.size v n (invM M) := by
  refine con_rel_Inverse (fun v h1 h2 x ⟨f, o⟩ => ⟨x.fr f (Nat.le_refl _), (o.ext x).mono (Nat.le_refl _) x.size⟩) ?_
  obtain ⟨hn, pb, rb, R, W, rfl, t⟩ := hr
  have hcl : clampN n = n := by unfold clampN; omega
  simp -dsimp only [go_sem, ↓reduceIte, reduceCtorEq, Nat.reduceEqDiff, Nat.reduceAdd, Nat.reduceLeDiff, Nat.reduceMul, Int.reduceBEq, Int.reduceBNe, Int.reduceLT, Int.reduceLE, Int.reduceGT, Int.reduceGE, t.ptr.cell]
  refine call_of (rel_New n h) ?_
  rintro v1 h1 ⟨p0, t1⟩
  rw [hcl] at t1
  obtain ⟨-, pb1, rb1, R1, W1, rfl, t1⟩ := t1
  have at1 := t1.at_
  have h1_z := p0.size
  simp -dsimp only [go_sem, ↓reduceIte, reduceCtorEq, Nat.reduceEqDiff, Nat.reduceAdd, Nat.reduceLeDiff, Nat.reduceMul, Int.reduceBEq, Int.reduceBNe, Int.reduceLT, Int.reduceLE, Int.reduceGT, Int.reduceGE]
  intro b2 h2 n2
  have n2_a := n2.at_
  have n2_z := n2.size
  replace p0 := p0.fresh (n2.fr (lo := 0) (hi := 0)) (by omega)
  replace t1 := t1.fr (n2.fr (lo := 0) (hi := 0)) (by omega)
  have r2 := n2.row
  simp -dsimp only [go_sem, ↓reduceIte, reduceCtorEq, Nat.reduceEqDiff, Nat.reduceAdd, Nat.reduceLeDiff, Nat.reduceMul, Int.reduceBEq, Int.reduceBNe, Int.reduceLT, Int.reduceLE, Int.reduceGT, Int.reduceGE, r2.cell]
  refine Chk_intro (r2.wr (by first | (simp; done) | (simp; omega))) fun h3 s3 => ?_
  have s3_z := s3.size
  replace p0 := p0.fresh s3.fr (by omega)
  replace t1 := t1.fr s3.fr (by omega)
  replace r2 := s3.row r2
  try simp only [cl_int, cl_bool, cl_slice, cl_ptr, putAt_one, List.set_cons_zero, List.set_cons_succ, ivec_set, brow_upd] at r2
  have t3 := t.fr p0 (by omega)
  simp -dsimp only [go_sem, ↓reduceIte, reduceCtorEq, Nat.reduceEqDiff, Nat.reduceAdd, Nat.reduceLeDiff, Nat.reduceMul, Int.reduceBEq, Int.reduceBNe, Int.reduceLT, Int.reduceLE, Int.reduceGT, Int.reduceGE, t3.ptr.cell, r2.cell]
  refine loop_intro (fun a : Nat => [(3, .pointer (some ⟨b2, 0, none⟩)), (15, .slice (some ⟨rb, 0, none⟩) n n), (16, .int .i64 n), (17, .int .i64 a)])
    (fun a h' => a ≤ n ∧ Fr 0 0 h h' ∧ h3.size ≤ h'.size ∧ Rw h' b2 [.pointer (some ⟨pb1, 0, none⟩)] ∧ ∃ W, PTab h' h.size h1.size pb1 rb1 n R1 W fun i j => decide (j < a) && M j i) (fun a => n - a) 0 ?_ ?_ ?_
  · simp [Le, find]
  · exact ⟨by omega, p0, by omega, r2, _, t1.congr fun i j _ _ => by simp⟩
  rintro a h4 ⟨ha, p0, y4, r2, W4, t4⟩
  have p0_z := p0.size
  have r2_l := r2.lt
  simp -dsimp only [go_sem, ↓reduceIte, reduceCtorEq, Nat.reduceEqDiff, Nat.reduceAdd, Nat.reduceLeDiff, Nat.reduceMul, Int.reduceBEq, Int.reduceBNe, Int.reduceLT, Int.reduceLE, Int.reduceGT, Int.reduceGE, r2.cell]
  refine ⟨fun hlt => ?_, fun hge => ?_⟩
  · have hlt : a < n := by omega
    simp -dsimp only [go_sem, ↓reduceIte, reduceCtorEq, Nat.reduceEqDiff, Nat.reduceAdd, Nat.reduceLeDiff, Nat.reduceMul, Int.reduceBEq, Int.reduceBNe, Int.reduceLT, Int.reduceLE, Int.reduceGT, Int.reduceGE, r2.cell]
    refine Chk_intro (by omega) ?_
    simp -dsimp only [go_sem, ↓reduceIte, reduceCtorEq, Nat.reduceEqDiff, Nat.reduceAdd, Nat.reduceLeDiff, Nat.reduceMul, Int.reduceBEq, Int.reduceBNe, Int.reduceLT, Int.reduceLE, Int.reduceGT, Int.reduceGE, (t.fr p0 (by omega)).rowsGet hlt, r2.cell]
    intro b5 h5 n5
    have n5_a := n5.at_
    have n5_z := n5.size
    replace p0 := p0.fresh (n5.fr (lo := 0) (hi := 0)) (by omega)
    replace r2 := r2.fr (n5.fr (lo := 0) (hi := 0)) (by omega)
    replace t4 := t4.fr (n5.fr (lo := 0) (hi := 0)) (by omega)
    have r5 := n5.row
    simp -dsimp only [go_sem, ↓reduceIte, reduceCtorEq, Nat.reduceEqDiff, Nat.reduceAdd, Nat.reduceLeDiff, Nat.reduceMul, Int.reduceBEq, Int.reduceBNe, Int.reduceLT, Int.reduceLE, Int.reduceGT, Int.reduceGE, r2.cell, r5.cell]
    refine Chk_intro (r5.wr (by first | (simp; done) | (simp; omega))) fun h6 s6 => ?_
    have s6_z := s6.size
    replace p0 := p0.fresh s6.fr (by omega)
    replace r2 := r2.fr s6.fr (by omega)
    replace t4 := t4.fr s6.fr (by omega)
    replace r5 := s6.row r5
    try simp only [cl_int, cl_bool, cl_slice, cl_ptr, putAt_one, List.set_cons_zero, List.set_cons_succ, ivec_set, brow_upd] at r5
    simp -dsimp only [go_sem, ↓reduceIte, reduceCtorEq, Nat.reduceEqDiff, Nat.reduceAdd, Nat.reduceLeDiff, Nat.reduceMul, Int.reduceBEq, Int.reduceBNe, Int.reduceLT, Int.reduceLE, Int.reduceGT, Int.reduceGE, r2.cell, r5.cell]
    refine call_of (rel_points _ _ _ h6) ?_
    rintro v h7 ⟨f7, rfl, c7, z7⟩
    have f7_z := f7.size
    replace p0 := p0.fresh f7 (by omega)
    replace r2 := r2.fr f7 (by omega)
    replace t4 := t4.fr f7 (by omega)
    replace r5 := r5.fr f7 (by omega)
    simp -dsimp only [go_sem, ↓reduceIte, reduceCtorEq, Nat.reduceEqDiff, Nat.reduceAdd, Nat.reduceLeDiff, Nat.reduceMul, Int.reduceBEq, Int.reduceBNe, Int.reduceLT, Int.reduceLE, Int.reduceGT, Int.reduceGE, r2.cell, r5.cell]
    have hbits := (t.row a hlt).2.2.2.2.2
    refine ⟨rfl, points_intro rfl hbits hn ⟨c7, ptab_rd (t.fr p0 (by omega)) hlt, ht.fr p0 (by omega)⟩
      (fun d h' => Fr 0 0 h h' ∧ h7.size ≤ h'.size ∧ Rw h' b2 [.pointer (some ⟨pb1, 0, none⟩)] ∧ Rw h' b5 [.int .i64 a] ∧ hcell h' h6.size 0 = some (.slice (some ⟨R a, 0, none⟩) (nw n) (nw n)) ∧ ∃ W, PTab h' h.size h1.size pb1 rb1 n R1 W fun i j => (decide (j < a) && M j i) || (j == a && ((rest (M a) n 0).take d).contains i))
      (fun _ _ => False) ?_ ?_ ?_ ?_ ?_ ?_ ?_⟩
    · rintro d h' ⟨q0, -, -, -, q1, -⟩
      exact ⟨q1, ptab_rd (t.fr q0 (by omega)) hlt, ht.fr q0 (by omega)⟩
    · rintro d h8 h9 x ⟨q0, q1, q2, q3, q4, W', q5⟩
      exact ⟨q0.ext x (by omega), Nat.le_trans q1 x.size, q2.ext x, q3.ext x, x.cell q4, W', q5.ext x⟩
    · exact fun _ _ _ _ h => h
    · exact ⟨p0, Nat.le_refl _, r2, r5, c7, _, t4.congr fun i j _ _ => by simp⟩
    · rintro d q h8 z8 hq hqn hqf ⟨p0, y8, r2, r5, c8, W8, t8⟩
      have p0_z := p0.size
      have r2_l := r2.lt
      have r5_l := r5.lt
      simp -dsimp only [go_sem, ↓reduceIte, reduceCtorEq, Nat.reduceEqDiff, Nat.reduceAdd, Nat.reduceLeDiff, Nat.reduceMul, Int.reduceBEq, Int.reduceBNe, Int.reduceLT, Int.reduceLE, Int.reduceGT, Int.reduceGE, r2.cell, r5.cell]
      intro h9 x9
      have x9_z := x9.size
      replace p0 := p0.ext x9 (by omega)
      replace r2 := r2.ext x9
      replace r5 := r5.ext x9
      replace t8 := t8.ext x9
      have c8 := x9.cell c8
      obtain ⟨g1, g2, g3, g4, g5, g6⟩ := t8.row q hqn
      simp -dsimp only [go_sem, ↓reduceIte, reduceCtorEq, Nat.reduceEqDiff, Nat.reduceAdd, Nat.reduceLeDiff, Nat.reduceMul, Int.reduceBEq, Int.reduceBNe, Int.reduceLT, Int.reduceLE, Int.reduceGT, Int.reduceGE, t8.ptr.cell, r2.cell, r5.cell]
      refine Chk_intro (by omega) ?_
      simp -dsimp only [go_sem, ↓reduceIte, reduceCtorEq, Nat.reduceEqDiff, Nat.reduceAdd, Nat.reduceLeDiff, Nat.reduceMul, Int.reduceBEq, Int.reduceBNe, Int.reduceLT, Int.reduceLE, Int.reduceGT, Int.reduceGE, t8.rowsGet hqn, r2.cell, r5.cell]
      refine call_of (row_set (p := a) g1 (by unfold nw; omega) (fun j => (g6 j).1) (by unfold nw; omega)) ?_
      rintro _ h10 ⟨f10, z10, r10⟩
      have t10 := t8.updRow hqn f10 r10 (g6.set hlt)
      have f10_z := f10.size
      replace p0 := p0.fresh f10 (by omega)
      replace r2 := r2.fr f10 (by omega)
      replace r5 := r5.fr f10 (by omega)
      simp -dsimp only [go_sem, ↓reduceIte, reduceCtorEq, Nat.reduceEqDiff, Nat.reduceAdd, Nat.reduceLeDiff, Nat.reduceMul, Int.reduceBEq, Int.reduceBNe, Int.reduceLT, Int.reduceLE, Int.reduceGT, Int.reduceGE, t10.ptr.cell, t10.rowsGet hqn, r2.cell, r5.cell]
      refine ⟨p0, by omega, r2, r5, f10.keep c8 (by omega), _, t10.congr fun i j hi hj => ?_⟩
      rw [List.take_add_one, hq, Option.toList_some, List.contains_append]
      by_cases hiq : i = q
      · subst hiq
        rw [upd_same]
        by_cases hja : j = a
        · subst hja; simp
        · have e : (j == a) = false := by simpa using hja
          simp [hja, e]
      · rw [upd_ne _ _ hiq]; simp [hiq]
    · rintro h8 z8 ⟨p0, y8, r2, r5, c8, W8, t8⟩
      simp -dsimp only [go_sem, ↓reduceIte, reduceCtorEq, Nat.reduceEqDiff, Nat.reduceAdd, Nat.reduceLeDiff, Nat.reduceMul, Int.reduceBEq, Int.reduceBNe, Int.reduceLT, Int.reduceLE, Int.reduceGT, Int.reduceGE, r2.cell, r5.cell]
      simp -dsimp (disch := omega) only [wrap64]
      refine ⟨a + 1, by omega, by simp [Le, find], by omega, p0, by omega, r2, _, t8.congr fun i j hi hj => ?_⟩
      rw [List.take_length]
      by_cases hja : j = a
      · subst hja
        cases hm : M j i with
        | true => simp [mem_rest, hm, hi]
        | false => simp [mem_rest, hm]
      · have : (j < a + 1) = (j < a) := by simp; omega
        simp [this, hja]
    · exact fun _ _ _ h => h.elim
  · have : a = n := by omega
    subst this
    simp -dsimp only [go_sem, ↓reduceIte, reduceCtorEq, Nat.reduceEqDiff, Nat.reduceAdd, Nat.reduceLeDiff, Nat.reduceMul, Int.reduceBEq, Int.reduceBNe, Int.reduceLT, Int.reduceLE, Int.reduceGT, Int.reduceGE, r2.cell]
    exact ⟨p0, hn, _, _, _, _, rfl, (t4.mono' (by omega)).congr fun i j hi hj => by simp [invM, hj]⟩
end Go.Proofs.Tst
