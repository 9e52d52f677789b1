/-
  Contracts of functions that the law reaches: what each returns and what it leaves in memory. Conditions stand in each.
-/
import Derived.Test.YtgedofjefepebaaDoorT1
set_option linter.all false
set_option maxRecDepth 2000
namespace Go.Proofs.Tst
open Go Go.Vc
theorem rel_Len {n : Nat} {M : Nat → Nat → Bool} {p : Value} {lo hi : Nat} {h : Heap} (hr : ProgAt h lo hi p n M) :
    Con Tryd.prog 51 #[p] h fun v h' => h' = h ∧ v = .int .i64 n := by
  refine con_rel_Rel_Len ?_
  obtain ⟨hn, pb, rb, R, W, rfl, t⟩ := hr
  simp -dsimp only [go_sem, ↓reduceIte, reduceCtorEq, Nat.reduceEqDiff, Nat.reduceAdd, Nat.reduceLeDiff, Nat.reduceMul, Int.reduceBEq, Int.reduceBNe, Int.reduceLT, Int.reduceLE, Int.reduceGT, Int.reduceGE, t.ptr.cell]

theorem rel_Has {n : Nat} {M : Nat → Nat → Bool} {p : Value} {lo hi : Nat} {h : Heap} (hr : ProgAt h lo hi p n M) (a b : Int) :
    Con Tryd.prog 31 #[p, .int .i64 a, .int .i64 b] h fun v h' => h' = h ∧ v = .bool (inR n a && inR n b && M a.toNat b.toNat) := by
  refine con_rel_Rel_Has ?_
  have hr0 := hr
  obtain ⟨hn, pb, rb, R, W, rfl, t⟩ := hr
  simp -dsimp only [go_sem, ↓reduceIte, reduceCtorEq, Nat.reduceEqDiff, Nat.reduceAdd, Nat.reduceLeDiff, Nat.reduceMul, Int.reduceBEq, Int.reduceBNe, Int.reduceLT, Int.reduceLE, Int.reduceGT, Int.reduceGE]
  refine call_of (rel_inside hr0 a b) ?_
  rintro v h1 ⟨rfl, rfl⟩
  simp -dsimp only [go_sem, ↓reduceIte, reduceCtorEq, Nat.reduceEqDiff, Nat.reduceAdd, Nat.reduceLeDiff, Nat.reduceMul, Int.reduceBEq, Int.reduceBNe, Int.reduceLT, Int.reduceLE, Int.reduceGT, Int.reduceGE]
  by_cases hin : (inR n a && inR n b) = true
  · have hin' := hin
    simp only [Bool.and_eq_true, inR, decide_eq_true_eq] at hin'
    obtain ⟨x, rfl⟩ : ∃ x : Nat, a = x := ⟨a.toNat, by omega⟩
    obtain ⟨y, rfl⟩ : ∃ y : Nat, b = y := ⟨b.toNat, by omega⟩
    have hx : x < n := by omega
    have hy : y < n := by omega
    obtain ⟨hrw, _, _, hnp, hnr, hbits⟩ := t.row x hx
    rw [hin]
    simp -dsimp only [go_sem, ↓reduceIte, reduceCtorEq, Nat.reduceEqDiff, Nat.reduceAdd, Nat.reduceLeDiff, Nat.reduceMul, Int.reduceBEq, Int.reduceBNe, Int.reduceLT, Int.reduceLE, Int.reduceGT, Int.reduceGE, t.ptr.cell]
    refine Chk_intro (by omega) ?_
    simp -dsimp only [go_sem, ↓reduceIte, reduceCtorEq, Nat.reduceEqDiff, Nat.reduceAdd, Nat.reduceLeDiff, Nat.reduceMul, Int.reduceBEq, Int.reduceBNe, Int.reduceLT, Int.reduceLE, Int.reduceGT, Int.reduceGE, t.rowsGet hx]
    refine call_of (row_has (p := y) (ptab_rd t hx) (by unfold nw; omega) (hbits _).1 (by omega)) ?_
    rintro v h2 ⟨rfl, rfl⟩
    rw [hbits.get hy]
    simp -dsimp only [go_sem, ↓reduceIte, reduceCtorEq, Nat.reduceEqDiff, Nat.reduceAdd, Nat.reduceLeDiff, Nat.reduceMul, Int.reduceBEq, Int.reduceBNe, Int.reduceLT, Int.reduceLE, Int.reduceGT, Int.reduceGE]
    simp
  · have hin : (inR n a && inR n b) = false := by simpa using hin
    rw [hin]
    simp -dsimp only [go_sem, ↓reduceIte, reduceCtorEq, Nat.reduceEqDiff, Nat.reduceAdd, Nat.reduceLeDiff, Nat.reduceMul, Int.reduceBEq, Int.reduceBNe, Int.reduceLT, Int.reduceLE, Int.reduceGT, Int.reduceGE]
    simp

theorem order_Linear {n : Nat} {M : Nat → Nat → Bool} {rv lv : Value} {l : List Int} {lo hi : Nat} {h : Heap} (hr : ProgAt h lo hi rv n M) (ht : TabAt h) (hl : Rd 1 h lv l.length (intsV l)) (hb : l.length ≤ 4611686018427387904) :
    Con Tryd.prog 16 #[rv, lv] h fun v h' => Fr 0 0 h h' ∧ v = .bool (decide (LinP n M l)) := by
  refine con_order_Linear ?_
  have hn := hr.1
  obtain ⟨la, lc, rfl⟩ := hl.is
  simp -dsimp only [go_sem, ↓reduceIte, reduceCtorEq, Nat.reduceEqDiff, Nat.reduceAdd, Nat.reduceLeDiff, Nat.reduceMul, Int.reduceBEq, Int.reduceBNe, Int.reduceLT, Int.reduceLE, Int.reduceGT, Int.reduceGE]
  refine call_of (rel_Len hr) ?_
  rintro v h1 ⟨rfl, rfl⟩
  simp -dsimp only [go_sem, ↓reduceIte, reduceCtorEq, Nat.reduceEqDiff, Nat.reduceAdd, Nat.reduceLeDiff, Nat.reduceMul, Int.reduceBEq, Int.reduceBNe, Int.reduceLT, Int.reduceLE, Int.reduceGT, Int.reduceGE]
  refine ⟨fun hne => ?_, fun heq => ?_⟩
  · simp -dsimp only [go_sem, ↓reduceIte, reduceCtorEq, Nat.reduceEqDiff, Nat.reduceAdd, Nat.reduceLeDiff, Nat.reduceMul, Int.reduceBEq, Int.reduceBNe, Int.reduceLT, Int.reduceLE, Int.reduceGT, Int.reduceGE]
    exact ⟨.refl _ _ _, by rw [decide_eq_false]; rintro ⟨hh, _⟩; simp [hh] at hne⟩
  have heq : l.length = n := by have : (l.length : Int) = n := by simpa using heq
                                omega
  simp -dsimp only [go_sem, ↓reduceIte, reduceCtorEq, Nat.reduceEqDiff, Nat.reduceAdd, Nat.reduceLeDiff, Nat.reduceMul, Int.reduceBEq, Int.reduceBNe, Int.reduceLT, Int.reduceLE, Int.reduceGT, Int.reduceGE]
  rw [heq] at hl ⊢
  refine Chk_intro (by omega) ?_
  intro b2 h2 n2
  have r2 := n2.row
  rw [zeros_one, Int.toNat_natCast, placeV_nil] at r2
  have p2 : Fr 0 0 h1 h2 := n2.fr
  have z2 := n2.size; have a2 := n2.at_
  simp -dsimp only [go_sem, ↓reduceIte, reduceCtorEq, Nat.reduceEqDiff, Nat.reduceAdd, Nat.reduceLeDiff, Nat.reduceMul, Int.reduceBEq, Int.reduceBNe, Int.reduceLT, Int.reduceLE, Int.reduceGT, Int.reduceGE]
  refine loop_intro (fun i : Nat => [(0, rv), (1, .slice la n lc), (5, .slice (some ⟨b2, 0, none⟩) n n), (18, .slice la n lc), (19, .int .i64 n), (20, .int .i64 i)])
    (fun i h' => i ≤ n ∧ Fr 0 0 h1 h' ∧ Rw h' b2 (placeV n (l.take i)) ∧ (∀ x ∈ l.take i, 0 ≤ x ∧ x < (n : Int)) ∧ (l.take i).Nodup) (fun i => n - i) 0 ?_ ?_ ?_
  · simp [Le, find]
  · exact ⟨by omega, p2, r2, by simp, by simp⟩
  rintro i h3 ⟨hi, p3, r23, hin, hnd⟩
  have k2 := r23.lt
  simp -dsimp only [go_sem, ↓reduceIte, reduceCtorEq, Nat.reduceEqDiff, Nat.reduceAdd, Nat.reduceLeDiff, Nat.reduceMul, Int.reduceBEq, Int.reduceBNe, Int.reduceLT, Int.reduceLE, Int.reduceGT, Int.reduceGE]
  refine ⟨fun hlt => ?_, fun hge => ?_⟩
  · have hlt : i < n := by omega
    have hx : l[i]? = some l[i] := by simp
    have htk : l.take (i + 1) = l.take i ++ [l[i]] := by rw [List.take_succ_eq_append_getElem (by omega)]
    have hmem : l[i] ∈ l := List.getElem_mem _
    generalize l[i] = x at hx htk hmem
    simp -dsimp only [go_sem, ↓reduceIte, reduceCtorEq, Nat.reduceEqDiff, Nat.reduceAdd, Nat.reduceLeDiff, Nat.reduceMul, Int.reduceBEq, Int.reduceBNe, Int.reduceLT, Int.reduceLE, Int.reduceGT, Int.reduceGE]
    refine Chk_intro (by omega) ((hl.fr p3).idx (by omega) fun b3 o3 c3 => ?_)
    have c3 := c3 i _ (intsV_get hx)
    have bad : ¬ (0 ≤ x ∧ x < (n : Int)) → ¬ LinP n M l := fun hb hP => hb (hP.2.1 x hmem)
    by_cases hA : x < 0
    · simp -dsimp only [go_sem, ↓reduceIte, reduceCtorEq, Nat.reduceEqDiff, Nat.reduceAdd, Nat.reduceLeDiff, Nat.reduceMul, Int.reduceBEq, Int.reduceBNe, Int.reduceLT, Int.reduceLE, Int.reduceGT, Int.reduceGE, c3, hA, decide_true]
      exact ⟨p3, by rw [decide_eq_false (bad (by omega))]⟩
    by_cases hB : x ≥ (n : Int)
    · simp -dsimp only [go_sem, ↓reduceIte, reduceCtorEq, Nat.reduceEqDiff, Nat.reduceAdd, Nat.reduceLeDiff, Nat.reduceMul, Int.reduceBEq, Int.reduceBNe, Int.reduceLT, Int.reduceLE, Int.reduceGT, Int.reduceGE, c3, hA, hB, decide_true, decide_false]
      exact ⟨p3, by rw [decide_eq_false (bad (by omega))]⟩
    obtain ⟨p, rfl⟩ : ∃ p : Nat, x = p := ⟨x.toNat, by omega⟩
    have hp : p < n := by omega
    simp -dsimp only [go_sem, ↓reduceIte, reduceCtorEq, Nat.reduceEqDiff, Nat.reduceAdd, Nat.reduceLeDiff, Nat.reduceMul, Int.reduceBEq, Int.reduceBNe, Int.reduceLT, Int.reduceLE, Int.reduceGT, Int.reduceGE, c3, hA, hB, decide_false]
    refine Chk_intro (by omega) ?_
    simp -dsimp only [go_sem, ↓reduceIte, reduceCtorEq, Nat.reduceEqDiff, Nat.reduceAdd, Nat.reduceLeDiff, Nat.reduceMul, Int.reduceBEq, Int.reduceBNe, Int.reduceLT, Int.reduceLE, Int.reduceGT, Int.reduceGE, r23.cell, placeV_get hp, hA, hB, decide_false]
    by_cases hm : (p : Int) ∈ l.take i
    · have : ¬ LinP n M l := by
        rintro ⟨_, _, hnd, _⟩
        have : (l.take (i + 1)).Nodup := hnd.sublist (List.take_sublist _ _)
        rw [htk, List.nodup_append] at this
        exact this.2.2 p hm p (by simp) rfl
      simp -dsimp only [go_sem, ↓reduceIte, reduceCtorEq, Nat.reduceEqDiff, Nat.reduceAdd, Nat.reduceLeDiff, Nat.reduceMul, Int.reduceBEq, Int.reduceBNe, Int.reduceLT, Int.reduceLE, Int.reduceGT, Int.reduceGE, hm, hA, hB, decide_false]
      refine ⟨fun _ => ?_, fun h => absurd (by simp; omega) h⟩
      simp -dsimp only [go_sem, ↓reduceIte, reduceCtorEq, Nat.reduceEqDiff, Nat.reduceAdd, Nat.reduceLeDiff, Nat.reduceMul, Int.reduceBEq, Int.reduceBNe, Int.reduceLT, Int.reduceLE, Int.reduceGT, Int.reduceGE]
      exact ⟨p3, by rw [decide_eq_false this]⟩
    · simp -dsimp only [go_sem, ↓reduceIte, reduceCtorEq, Nat.reduceEqDiff, Nat.reduceAdd, Nat.reduceLeDiff, Nat.reduceMul, Int.reduceBEq, Int.reduceBNe, Int.reduceLT, Int.reduceLE, Int.reduceGT, Int.reduceGE, hm, hA, hB, decide_false]
      refine Chk_intro (by omega) ?_
      simp -dsimp only [go_sem, ↓reduceIte, reduceCtorEq, Nat.reduceEqDiff, Nat.reduceAdd, Nat.reduceLeDiff, Nat.reduceMul, Int.reduceBEq, Int.reduceBNe, Int.reduceLT, Int.reduceLE, Int.reduceGT, Int.reduceGE]
      refine Chk_intro (r23.wr (by simp [length_placeV]; omega)) fun h4 s4 => ?_
      have r24 := s4.row r23
      rw [wrap64 (by omega) (by omega), cl_int, putAt_one, show ((i : Int) + 1) = (((l.take i).length + 1 : Nat) : Int) from by rw [List.length_take]; omega, placeV_put hp hm, ← htk] at r24
      simp -dsimp only [go_sem, ↓reduceIte, reduceCtorEq, Nat.reduceEqDiff, Nat.reduceAdd, Nat.reduceLeDiff, Nat.reduceMul, Int.reduceBEq, Int.reduceBNe, Int.reduceLT, Int.reduceLE, Int.reduceGT, Int.reduceGE]
      simp -dsimp (disch := omega) only [wrap64]
      refine ⟨i + 1, by omega, by simp [Le, find], by omega, p3.fresh s4.fr (by omega), r24, ?_, ?_⟩
      · rw [htk]; intro y hy
        rcases List.mem_append.1 hy with hy | hy
        · exact hin y hy
        · simp at hy; omega
      · rw [htk, List.nodup_append]
        exact ⟨hnd, by simp, fun y hy z hz => by simp at hz; subst hz; rintro rfl; exact hm hy⟩
  · have hin' : i = l.length := by omega
    rw [hin', List.take_length] at r23 hin hnd
    simp -dsimp only [go_sem, ↓reduceIte, reduceCtorEq, Nat.reduceEqDiff, Nat.reduceAdd, Nat.reduceLeDiff, Nat.reduceMul, Int.reduceBEq, Int.reduceBNe, Int.reduceLT, Int.reduceLE, Int.reduceGT, Int.reduceGE]
    refine call_of (rel_Pairs (hr.fr p3 (by omega)) (ht.fr p3 (by omega))) ?_
    rintro v h4 ⟨p4, o4⟩
    have r24 := r23.fr p4 (by omega)
    have q4 := p3.trans p4
    obtain ⟨pa, pc, rfl⟩ := o4.is
    have rd4 := o4.rd
    simp -dsimp only [go_sem, ↓reduceIte, reduceCtorEq, Nat.reduceEqDiff, Nat.reduceAdd, Nat.reduceLeDiff, Nat.reduceMul, Int.reduceBEq, Int.reduceBNe, Int.reduceLT, Int.reduceLE, Int.reduceGT, Int.reduceGE]
    refine loop_intro (fun j : Nat => [(5, .slice (some ⟨b2, 0, none⟩) n n), (47, .slice pa (pairsOf n M).length pc), (48, .int .i64 (pairsOf n M).length), (49, .int .i64 j)])
      (fun j h' => j ≤ (pairsOf n M).length ∧ Fr 0 0 h4 h' ∧ ∀ p ∈ (pairsOf n M).take j, l.idxOf p.1 < l.idxOf p.2) (fun j => (pairsOf n M).length - j) 0 ?_ ?_ ?_
    · simp [Le, find]
    · exact ⟨by omega, .refl _ _ _, by simp⟩
    rintro j h5 ⟨hj, p5, hord⟩
    have r25 := r24.fr p5 (by omega)
    have rd5 := rd4.fr p5
    simp -dsimp only [go_sem, ↓reduceIte, reduceCtorEq, Nat.reduceEqDiff, Nat.reduceAdd, Nat.reduceLeDiff, Nat.reduceMul, Int.reduceBEq, Int.reduceBNe, Int.reduceLT, Int.reduceLE, Int.reduceGT, Int.reduceGE]
    refine ⟨fun hlt => ?_, fun hge => ?_⟩
    · have hlt : j < (pairsOf n M).length := by omega
      have hq : (pairsOf n M)[j]? = some (pairsOf n M)[j] := by simp
      have htk : (pairsOf n M).take (j + 1) = (pairsOf n M).take j ++ [(pairsOf n M)[j]] := by rw [List.take_succ_eq_append_getElem hlt]
      have hmem : (pairsOf n M)[j] ∈ pairsOf n M := List.getElem_mem _
      generalize (pairsOf n M)[j] = q at hq htk hmem
      obtain ⟨a, b, ha, hb', hm, rfl⟩ := mem_pairsOf.1 hmem
      simp -dsimp only [go_sem, ↓reduceIte, reduceCtorEq, Nat.reduceEqDiff, Nat.reduceAdd, Nat.reduceLeDiff, Nat.reduceMul, Int.reduceBEq, Int.reduceBNe, Int.reduceLT, Int.reduceLE, Int.reduceGT, Int.reduceGE]
      refine Chk_intro (by omega) (rd5.pair hq fun b6 o6 c6 c7 => ?_)
      simp -dsimp only [go_sem, ↓reduceIte, reduceCtorEq, Nat.reduceEqDiff, Nat.reduceAdd, Nat.reduceLeDiff, Nat.reduceMul, Int.reduceBEq, Int.reduceBNe, Int.reduceLT, Int.reduceLE, Int.reduceGT, Int.reduceGE, c6, c7]
      intro b7 h7 n7
      simp -dsimp only [go_sem, ↓reduceIte, reduceCtorEq, Nat.reduceEqDiff, Nat.reduceAdd, Nat.reduceLeDiff, Nat.reduceMul, Int.reduceBEq, Int.reduceBNe, Int.reduceLT, Int.reduceLE, Int.reduceGT, Int.reduceGE]
      refine ⟨n7.row.wr (by simp), fun h8 s8 => ?_⟩
      have r8 := s8.row n7.row
      have k7 := n7.at_; have k5 := r25.lt
      have r28 := s8.rw (n7.rw r25) (by omega)
      have p8 := (p5.trans n7.fr).fresh s8.fr (by have := p5.size; omega)
      simp -dsimp only [go_sem, ↓reduceIte, reduceCtorEq, Nat.reduceEqDiff, Nat.reduceAdd, Nat.reduceLeDiff, Nat.reduceMul, Int.reduceBEq, Int.reduceBNe, Int.reduceLT, Int.reduceLE, Int.reduceGT, Int.reduceGE] at r8
      simp -dsimp only [go_sem, ↓reduceIte, reduceCtorEq, Nat.reduceEqDiff, Nat.reduceAdd, Nat.reduceLeDiff, Nat.reduceMul, Int.reduceBEq, Int.reduceBNe, Int.reduceLT, Int.reduceLE, Int.reduceGT, Int.reduceGE, r8.cell]
      refine Chk_intro (by omega) ?_
      simp -dsimp only [go_sem, ↓reduceIte, reduceCtorEq, Nat.reduceEqDiff, Nat.reduceAdd, Nat.reduceLeDiff, Nat.reduceMul, Int.reduceBEq, Int.reduceBNe, Int.reduceLT, Int.reduceLE, Int.reduceGT, Int.reduceGE, r28.cell, placeV_get ha, r8.cell]
      refine Chk_intro (by omega) ?_
      simp -dsimp only [go_sem, ↓reduceIte, reduceCtorEq, Nat.reduceEqDiff, Nat.reduceAdd, Nat.reduceLeDiff, Nat.reduceMul, Int.reduceBEq, Int.reduceBNe, Int.reduceLT, Int.reduceLE, Int.reduceGT, Int.reduceGE, r28.cell, placeV_get hb', nodup_all heq hin hnd ha, nodup_all heq hin hnd hb']
      refine ⟨fun hge => ?_, fun hlt3 => ?_⟩
      · simp -dsimp only [go_sem, ↓reduceIte, reduceCtorEq, Nat.reduceEqDiff, Nat.reduceAdd, Nat.reduceLeDiff, Nat.reduceMul, Int.reduceBEq, Int.reduceBNe, Int.reduceLT, Int.reduceLE, Int.reduceGT, Int.reduceGE]
        exact ⟨q4.trans p8, by rw [decide_eq_false]; rintro ⟨_, _, _, h⟩; have := h a ha b hb' hm; omega⟩
      · have hpl := length_pairsTo_le n M n
        have g3 : n * n ≤ 256 * 256 := Nat.mul_le_mul (by omega) (by omega)
        have g4 : (pairsOf n M).length ≤ n * n := hpl
        simp -dsimp only [go_sem, ↓reduceIte, reduceCtorEq, Nat.reduceEqDiff, Nat.reduceAdd, Nat.reduceLeDiff, Nat.reduceMul, Int.reduceBEq, Int.reduceBNe, Int.reduceLT, Int.reduceLE, Int.reduceGT, Int.reduceGE]
        simp -dsimp (disch := omega) only [wrap64]
        refine ⟨j + 1, by omega, by simp [Le, find], by omega, p8, fun x hx => ?_⟩
        rw [htk] at hx
        rcases List.mem_append.1 hx with hx | hx
        · exact hord x hx
        · simp at hx; subst hx; dsimp only; omega
    · have : j = (pairsOf n M).length := by omega
      subst this
      rw [List.take_length] at hord
      simp -dsimp only [go_sem, ↓reduceIte, reduceCtorEq, Nat.reduceEqDiff, Nat.reduceAdd, Nat.reduceLeDiff, Nat.reduceMul, Int.reduceBEq, Int.reduceBNe, Int.reduceLT, Int.reduceLE, Int.reduceGT, Int.reduceGE]
      exact ⟨q4.trans p5, by rw [decide_eq_true]; exact ⟨heq, hin, hnd, fun a ha b hb hm => hord _ (mem_pairsOf.2 ⟨a, b, ha, hb, hm, rfl⟩)⟩⟩
end Go.Proofs.Tst
namespace Go.Proofs.Tst
open Go Go.Vc
/-- Is each pair of one relation a pair of another? -/
def WithinP (n : Nat) (M : Nat → Nat → Bool) (m : Nat) (N : Nat → Nat → Bool) : Prop := ∀ a, a < n → ∀ b, b < n → M a b = true → a < m ∧ b < m ∧ N a b = true
instance (n : Nat) (M : Nat → Nat → Bool) (m : Nat) (N : Nat → Nat → Bool) : Decidable (WithinP n M m N) := by unfold WithinP; infer_instance

theorem rel_Within {n m : Nat} {M N : Nat → Nat → Bool} {p q : Value} {lo hi lo' hi' : Nat} {h : Heap} (hr : ProgAt h lo hi p n M) (hs : ProgAt h lo' hi' q m N) (ht : TabAt h) :
    Con Tryd.prog 42 #[p, q] h fun v h' => Fr 0 0 h h' ∧ v = .bool (decide (WithinP n M m N)) := by
  refine con_rel_Within (fun v h1 h2 x ⟨f, o⟩ => ⟨x.fr f (Nat.le_refl _), o⟩) ?_
  obtain ⟨hn, pb, rb, R, W, rfl, t⟩ := hr
  have hs0 := hs
  obtain ⟨hm, pb', rb', R', W', rfl, t'⟩ := hs
  simp -dsimp only [go_sem, ↓reduceIte, reduceCtorEq, Nat.reduceEqDiff, Nat.reduceAdd, Nat.reduceLeDiff, Nat.reduceMul, Int.reduceBEq, Int.reduceBNe, Int.reduceLT, Int.reduceLE, Int.reduceGT, Int.reduceGE]
  intro b3 h1 n1
  simp -dsimp only [go_sem, ↓reduceIte, reduceCtorEq, Nat.reduceEqDiff, Nat.reduceAdd, Nat.reduceLeDiff, Nat.reduceMul, Int.reduceBEq, Int.reduceBNe, Int.reduceLT, Int.reduceLE, Int.reduceGT, Int.reduceGE]
  intro b4 h2 n2
  have a1 := n1.at_; have z1 := n1.size; have a2 := n2.at_; have z2 := n2.size
  have r3 := n2.rw n1.row
  have r4 := n2.row
  have p2 : Fr 0 0 h h2 := (n1.fr (lo := 0) (hi := 0)).trans n2.fr
  have t2 := t.fr p2 (by omega)
  simp -dsimp only [go_sem, ↓reduceIte, reduceCtorEq, Nat.reduceEqDiff, Nat.reduceAdd, Nat.reduceLeDiff, Nat.reduceMul, Int.reduceBEq, Int.reduceBNe, Int.reduceLT, Int.reduceLE, Int.reduceGT, Int.reduceGE, t2.ptr.cell]
  refine loop_intro (fun i : Nat => [(3, .pointer (some ⟨b3, 0, none⟩)), (4, .pointer (some ⟨b4, 0, none⟩)), (11, .slice (some ⟨rb, 0, none⟩) n n), (12, .int .i64 n), (13, .int .i64 i)])
    (fun i h' => i ≤ n ∧ Fr 0 0 h h' ∧ h2.size ≤ h'.size ∧ Rw h' b3 [.pointer (some ⟨pb', 0, none⟩)] ∧ Rw h' b4 [.bool false] ∧ ∀ a, a < i → ∀ b, b < n → M a b = true → a < m ∧ b < m ∧ N a b = true) (fun i => n - i) 0 ?_ ?_ ?_
  · simp [Le, find]
  · exact ⟨by omega, p2, by omega, r3, r4, fun a ha => by omega⟩
  rintro i h3 ⟨hi1, p3, y3, r3, r4, hw⟩
  have t3 := t.fr p3 (by omega)
  simp -dsimp only [go_sem, ↓reduceIte, reduceCtorEq, Nat.reduceEqDiff, Nat.reduceAdd, Nat.reduceLeDiff, Nat.reduceMul, Int.reduceBEq, Int.reduceBNe, Int.reduceLT, Int.reduceLE, Int.reduceGT, Int.reduceGE]
  refine ⟨fun hlt => ?_, fun hge => ?_⟩
  · have hlt : i < n := by omega
    simp -dsimp only [go_sem, ↓reduceIte, reduceCtorEq, Nat.reduceEqDiff, Nat.reduceAdd, Nat.reduceLeDiff, Nat.reduceMul, Int.reduceBEq, Int.reduceBNe, Int.reduceLT, Int.reduceLE, Int.reduceGT, Int.reduceGE]
    refine Chk_intro (by omega) ?_
    simp -dsimp only [go_sem, ↓reduceIte, reduceCtorEq, Nat.reduceEqDiff, Nat.reduceAdd, Nat.reduceLeDiff, Nat.reduceMul, Int.reduceBEq, Int.reduceBNe, Int.reduceLT, Int.reduceLE, Int.reduceGT, Int.reduceGE, t3.rowsGet hlt]
    intro b5 h4 n4
    have a4 := n4.at_; have z4 := n4.size
    simp -dsimp only [go_sem, ↓reduceIte, reduceCtorEq, Nat.reduceEqDiff, Nat.reduceAdd, Nat.reduceLeDiff, Nat.reduceMul, Int.reduceBEq, Int.reduceBNe, Int.reduceLT, Int.reduceLE, Int.reduceGT, Int.reduceGE]
    refine ⟨n4.row.wr (by simp), fun h5 s5 => ?_⟩
    have r5 := s5.row n4.row
    have z5 := s5.size
    have k3 := r3.lt; have k4 := r4.lt
    have r35 := s5.rw (n4.rw r3) (by omega)
    have r45 := s5.rw (n4.rw r4) (by omega)
    have p5 := (p3.trans n4.fr).fresh s5.fr (by have := p3.size; omega)
    simp -dsimp only [go_sem, ↓reduceIte, reduceCtorEq, Nat.reduceEqDiff, Nat.reduceAdd, Nat.reduceLeDiff, Nat.reduceMul, Int.reduceBEq, Int.reduceBNe, Int.reduceLT, Int.reduceLE, Int.reduceGT, Int.reduceGE] at r5
    simp -dsimp only [go_sem, ↓reduceIte, reduceCtorEq, Nat.reduceEqDiff, Nat.reduceAdd, Nat.reduceLeDiff, Nat.reduceMul, Int.reduceBEq, Int.reduceBNe, Int.reduceLT, Int.reduceLE, Int.reduceGT, Int.reduceGE]
    refine call_of (rel_points _ _ _ h5) ?_
    rintro v h6 ⟨p6, rfl, c6, z6⟩
    simp -dsimp only [go_sem, ↓reduceIte, reduceCtorEq, Nat.reduceEqDiff, Nat.reduceAdd, Nat.reduceLeDiff, Nat.reduceMul, Int.reduceBEq, Int.reduceBNe, Int.reduceLT, Int.reduceLE, Int.reduceGT, Int.reduceGE]
    refine ⟨rfl, ?_⟩
    have rd6 := (ptab_rd (t.fr p5 (by omega)) hlt).fr p6
    have hbits := (t.row i hlt).2.2.2.2.2
    have y5 := p5.size; have y6 := p6.size
    refine ⟨_, RowC h5.size (.slice (some ⟨R i, 0, none⟩) (nw n) (nw n)) (nw n) (W i),
      fun d h' => Fr 0 0 h h' ∧ h2.size ≤ h'.size ∧ Rw h' b3 [.pointer (some ⟨pb', 0, none⟩)] ∧ Rw h' b4 [.bool false] ∧ Rw h' b5 [.int .i64 i] ∧ ∀ b ∈ (rest (M i) n 0).take d, i < m ∧ b < m ∧ N i b = true,
      fun x h' => x = .ret ∧ Fr 0 0 h h' ∧ Rw h' b4 [.bool false] ∧ ¬ WithinP n M m N, points_1 (fun j => (hbits j).1) (by unfold nw; omega), ?_, ?_, ?_, ?_, ?_, ?_, ?_, ?_, ?_⟩
    · intro x hx; obtain ⟨q, _, rfl⟩ := List.mem_map.1 hx; rfl
    · exact fun h1 h2 x ⟨c1, c2, c3⟩ => ⟨x.cell c1, x.rd c2, x.tab c3⟩
    · rintro d h1 h2 x ⟨q1, q2, q3, q4, q5, q6⟩
      exact ⟨x.fr q1 (by omega), Nat.le_trans q2 x.size, x.rw q3, x.rw q4, x.rw q5, q6⟩
    · rintro x h1 h2 x' ⟨e, q1, q2, q3⟩
      exact ⟨e, x'.fr q1 (by omega), x'.rw q2, q3⟩
    · exact ⟨p5.trans p6, by omega, r35.fr p6 (by omega), r45.fr p6 (by omega), r5.fr p6 (by omega), by simp⟩
    · exact ⟨c6, rd6, ht.fr (p5.trans p6) (by omega)⟩
    · rintro d x h7 hs7 hx ⟨q1, q2, q3, q4, q5, q6⟩ hC7
      rw [rest_bits hbits, List.getElem?_map, Option.map_eq_some_iff] at hx
      obtain ⟨b, hb, rfl⟩ := hx
      have hbm := mem_rest.1 (List.mem_of_getElem? hb)
      simp only [zipE]
      simp -dsimp only [go_sem, ↓reduceIte, reduceCtorEq, Nat.reduceEqDiff, Nat.reduceAdd, Nat.reduceLeDiff, Nat.reduceMul, Int.reduceBEq, Int.reduceBNe, Int.reduceLT, Int.reduceLE, Int.reduceGT, Int.reduceGE]
      intro h7' x7
      have q1 := x7.fr q1 (by omega)
      have q3 := x7.rw q3; have q4 := x7.rw q4; have q5 := x7.rw q5
      simp -dsimp only [go_sem, ↓reduceIte, reduceCtorEq, Nat.reduceEqDiff, Nat.reduceAdd, Nat.reduceLeDiff, Nat.reduceMul, Int.reduceBEq, Int.reduceBNe, Int.reduceLT, Int.reduceLE, Int.reduceGT, Int.reduceGE, q3.cell, q5.cell]
      refine call_of (rel_Has (hs0.fr q1 (by omega)) _ _) ?_
      rintro v h8 ⟨rfl, rfl⟩
      simp only [Int.toNat_natCast]
      cases hh : (inR m i && inR m b && N i b) with
      | true =>
        have hh' := hh
        simp only [Bool.and_eq_true, inR, decide_eq_true_eq] at hh'
        simp -dsimp only [go_sem, ↓reduceIte, reduceCtorEq, Nat.reduceEqDiff, Nat.reduceAdd, Nat.reduceLeDiff, Nat.reduceMul, Int.reduceBEq, Int.reduceBNe, Int.reduceLT, Int.reduceLE, Int.reduceGT, Int.reduceGE, hh]
        refine ⟨⟨q1, Nat.le_trans q2 x7.size, q3, q4, q5, fun y hy => ?_⟩, x7.cell hC7.1, x7.rd hC7.2.1, x7.tab hC7.2.2⟩
        rw [List.take_add_one, hb, Option.toList_some] at hy
        rcases List.mem_append.1 hy with hy | hy
        · exact q6 y hy
        · simp at hy; subst hy; exact ⟨by omega, by omega, hh'.2⟩
      | false =>
        simp -dsimp only [go_sem, ↓reduceIte, reduceCtorEq, Nat.reduceEqDiff, Nat.reduceAdd, Nat.reduceLeDiff, Nat.reduceMul, Int.reduceBEq, Int.reduceBNe, Int.reduceLT, Int.reduceLE, Int.reduceGT, Int.reduceGE, hh]
        refine ⟨q4.wr (by simp), fun h9 s9 => ?_⟩
        have r9 := s9.row q4
        simp -dsimp only [go_sem, ↓reduceIte, reduceCtorEq, Nat.reduceEqDiff, Nat.reduceAdd, Nat.reduceLeDiff, Nat.reduceMul, Int.reduceBEq, Int.reduceBNe, Int.reduceLT, Int.reduceLE, Int.reduceGT, Int.reduceGE] at r9
        simp -dsimp only [go_sem, ↓reduceIte, reduceCtorEq, Nat.reduceEqDiff, Nat.reduceAdd, Nat.reduceLeDiff, Nat.reduceMul, Int.reduceBEq, Int.reduceBNe, Int.reduceLT, Int.reduceLE, Int.reduceGT, Int.reduceGE]
        refine ⟨rfl, q1.fresh s9.fr (by omega), r9, fun hW => ?_⟩
        obtain ⟨g1, g2, g3⟩ := hW i hlt b hbm.2.1 hbm.2.2
        simp [inR, g1, g2, g3] at hh
    · rintro h7 hs7 ⟨q1, q2, q3, q4, q5, q6⟩ hC7
      rw [rest_bits hbits, List.length_map, List.take_length] at q6
      simp -dsimp only [go_sem, ↓reduceIte, reduceCtorEq, Nat.reduceEqDiff, Nat.reduceAdd, Nat.reduceLeDiff, Nat.reduceMul, Int.reduceBEq, Int.reduceBNe, Int.reduceLT, Int.reduceLE, Int.reduceGT, Int.reduceGE]
      simp -dsimp (disch := omega) only [wrap64]
      refine ⟨i + 1, by omega, by simp [Le, find], by omega, q1, q2, q3, q4, fun a ha b hb hM => ?_⟩
      by_cases hai : a = i
      · subst hai; exact q6 b (mem_rest.2 ⟨by omega, hb, hM⟩)
      · exact hw a (by omega) b hb hM
    · rintro x h7 hs7 ⟨rfl, q1, q2, q3⟩
      refine ⟨by simp, ?_⟩
      simp -dsimp only [go_sem, ↓reduceIte, reduceCtorEq, Nat.reduceEqDiff, Nat.reduceAdd, Nat.reduceLeDiff, Nat.reduceMul, Int.reduceBEq, Int.reduceBNe, Int.reduceLT, Int.reduceLE, Int.reduceGT, Int.reduceGE, q2.cell]
      exact ⟨q1, by rw [decide_eq_false q3]⟩
  · have : i = n := by omega
    subst this
    simp -dsimp only [go_sem, ↓reduceIte, reduceCtorEq, Nat.reduceEqDiff, Nat.reduceAdd, Nat.reduceLeDiff, Nat.reduceMul, Int.reduceBEq, Int.reduceBNe, Int.reduceLT, Int.reduceLE, Int.reduceGT, Int.reduceGE]
    refine ⟨r4.wr (by simp), fun h4 s4 => ?_⟩
    have r9 := s4.row r4
    simp -dsimp only [go_sem, ↓reduceIte, reduceCtorEq, Nat.reduceEqDiff, Nat.reduceAdd, Nat.reduceLeDiff, Nat.reduceMul, Int.reduceBEq, Int.reduceBNe, Int.reduceLT, Int.reduceLE, Int.reduceGT, Int.reduceGE] at r9
    simp -dsimp only [go_sem, ↓reduceIte, reduceCtorEq, Nat.reduceEqDiff, Nat.reduceAdd, Nat.reduceLeDiff, Nat.reduceMul, Int.reduceBEq, Int.reduceBNe, Int.reduceLT, Int.reduceLE, Int.reduceGT, Int.reduceGE, r9.cell]
    exact ⟨p3.fresh s4.fr (by omega), by rw [decide_eq_true]; exact fun a ha => hw a ha⟩
end Go.Proofs.Tst
namespace Go.Proofs.Tst
open Go Go.Vc
theorem rel_Equal {n m : Nat} {M N : Nat → Nat → Bool} {p q : Value} {lo hi lo' hi' : Nat} {h : Heap} (hr : ProgAt h lo hi p n M) (hs : ProgAt h lo' hi' q m N) (ht : TabAt h) :
    Con Tryd.prog 22 #[p, q] h fun v h' => Fr 0 0 h h' ∧ v = .bool (decide (n = m ∧ WithinP n M m N ∧ WithinP m N n M)) := by
  refine con_rel_Equal ?_
  have hr0 := hr; have hs0 := hs
  obtain ⟨hn, pb, rb, R, W, rfl, t⟩ := hr
  obtain ⟨hm, pb', rb', R', W', rfl, t'⟩ := hs
  simp -dsimp only [go_sem, ↓reduceIte, reduceCtorEq, Nat.reduceEqDiff, Nat.reduceAdd, Nat.reduceLeDiff, Nat.reduceMul, Int.reduceBEq, Int.reduceBNe, Int.reduceLT, Int.reduceLE, Int.reduceGT, Int.reduceGE, t.ptr.cell, t'.ptr.cell]
  cases hnm : ((n : Int) == (m : Int)) with
  | false =>
    simp -dsimp only [go_sem, ↓reduceIte, reduceCtorEq, Nat.reduceEqDiff, Nat.reduceAdd, Nat.reduceLeDiff, Nat.reduceMul, Int.reduceBEq, Int.reduceBNe, Int.reduceLT, Int.reduceLE, Int.reduceGT, Int.reduceGE, hnm]
    exact ⟨.refl _ _ _, by rw [decide_eq_false]; rintro ⟨rfl, _⟩; simp at hnm⟩
  | true =>
    simp -dsimp only [go_sem, ↓reduceIte, reduceCtorEq, Nat.reduceEqDiff, Nat.reduceAdd, Nat.reduceLeDiff, Nat.reduceMul, Int.reduceBEq, Int.reduceBNe, Int.reduceLT, Int.reduceLE, Int.reduceGT, Int.reduceGE, hnm]
    refine call_of (rel_Within hr0 hs0 ht) ?_
    rintro v h1 ⟨p1, rfl⟩
    simp -dsimp only [go_sem, ↓reduceIte, reduceCtorEq, Nat.reduceEqDiff, Nat.reduceAdd, Nat.reduceLeDiff, Nat.reduceMul, Int.reduceBEq, Int.reduceBNe, Int.reduceLT, Int.reduceLE, Int.reduceGT, Int.reduceGE, hnm, (t.ptr.fr p1 (by omega)).cell, (t'.ptr.fr p1 (by omega)).cell]
    by_cases hw : WithinP n M m N
    · simp -dsimp only [go_sem, ↓reduceIte, reduceCtorEq, Nat.reduceEqDiff, Nat.reduceAdd, Nat.reduceLeDiff, Nat.reduceMul, Int.reduceBEq, Int.reduceBNe, Int.reduceLT, Int.reduceLE, Int.reduceGT, Int.reduceGE, hw, decide_true]
      refine call_of (rel_Within (hs0.fr p1 (by omega)) (hr0.fr p1 (by omega)) (ht.fr p1 (by omega))) ?_
      rintro v h2 ⟨p2, rfl⟩
      have p12 := p1.trans p2
      simp -dsimp only [go_sem, ↓reduceIte, reduceCtorEq, Nat.reduceEqDiff, Nat.reduceAdd, Nat.reduceLeDiff, Nat.reduceMul, Int.reduceBEq, Int.reduceBNe, Int.reduceLT, Int.reduceLE, Int.reduceGT, Int.reduceGE, hnm, hw, (t.ptr.fr p12 (by omega)).cell, (t'.ptr.fr p12 (by omega)).cell]
      have hnm : n = m := by have := hnm; simp at this; omega
      subst hnm
      exact ⟨p12, by simp [hw]⟩
    · simp -dsimp only [go_sem, ↓reduceIte, reduceCtorEq, Nat.reduceEqDiff, Nat.reduceAdd, Nat.reduceLeDiff, Nat.reduceMul, Int.reduceBEq, Int.reduceBNe, Int.reduceLT, Int.reduceLE, Int.reduceGT, Int.reduceGE, hw, decide_false]
      exact ⟨p1, by simp [hw]⟩
end Go.Proofs.Tst
/-
  The points that lead to one another: the least one of each list, the relation between them, their order.
-/
namespace Go.Proofs.Tst
open Go Go.Vc
section
variable {n : Nat} {M : Nat → Nat → Bool}
def eqvB (n : Nat) (M : Nat → Nat → Bool) (p q : Nat) : Bool := plusM n M p q && plusM n M q p
/-- The least point of a point's list. -/
def ldF (n : Nat) (M : Nat → Nat → Bool) (p : Nat) : Nat := match lf (eqvB n M p) p 0 with | none => p | some q => q
theorem ldF_le {p : Nat} : ldF n M p ≤ p := by
  unfold ldF
  cases h : lf (eqvB n M p) p 0 with
  | none => exact Nat.le_refl _
  | some q => exact Nat.le_of_lt (lf_some h).2.1
theorem ldF_eqv {p : Nat} : ldF n M p = p ∨ (ldF n M p < p ∧ eqvB n M p (ldF n M p) = true) := by
  unfold ldF
  cases h : lf (eqvB n M p) p 0 with
  | none => exact .inl rfl
  | some q => exact .inr (lf_some h).2
theorem ldF_least {p q : Nat} (hq : q < ldF n M p) (h : eqvB n M p q = true) : False := by
  unfold ldF at hq
  cases hl : lf (eqvB n M p) p 0 with
  | none =>
    rw [hl] at hq
    have := lf_none hl q (by omega) hq
    rw [this] at h; simp at h
  | some x =>
    rw [hl] at hq
    have := lf_least hl q (by omega) hq
    rw [this] at h; simp at h
theorem eqvB_trans {p q r : Nat} (hq : q < n) (h1 : eqvB n M p q = true) (h2 : eqvB n M q r = true) : eqvB n M p r = true := by
  unfold eqvB at *
  rw [Bool.and_eq_true] at *
  exact ⟨plus_trans hq h1.1 h2.1, plus_trans hq h2.2 h1.2⟩
theorem eqvB_symm {p q : Nat} (h : eqvB n M p q = true) : eqvB n M q p = true := by
  unfold eqvB at *; rw [Bool.and_eq_true] at *; exact ⟨h.2, h.1⟩
theorem ldF_idem {p : Nat} (hp : p < n) : ldF n M (ldF n M p) = ldF n M p := by
  rcases ldF_eqv (n := n) (M := M) (p := p) with h | ⟨h1, h2⟩
  · rw [h, h]
  · rcases ldF_eqv (n := n) (M := M) (p := ldF n M p) with h | ⟨h3, h4⟩
    · exact h
    · exact (ldF_least h3 (eqvB_trans (by omega) h2 h4)).elim
/-- A list's points, of those below k. -/
def memb (F : Nat → Nat) (r k : Nat) : List Nat := (List.range k).filter fun p => F p == r
theorem memb_succ {F : Nat → Nat} {r k : Nat} : memb F r (k + 1) = if F k = r then memb F r k ++ [k] else memb F r k := by
  unfold memb
  rw [List.range_succ, List.filter_append]
  by_cases h : F k = r <;> simp [h]
theorem memb_len {F : Nat → Nat} {r k : Nat} : (memb F r k).length ≤ k := by
  have := List.length_filter_le (fun p => F p == r) (List.range k)
  simpa [memb] using this
/-- Which list leads to which, told of their least points. -/
def smM (n : Nat) (M : Nat → Nat → Bool) (F : Nat → Nat) (x y : Nat) : Bool :=
  (List.range n).any fun p => (List.range n).any fun q => M p q && (F p != F q) && F p == x && F q == y
theorem smM_true {F : Nat → Nat} {x y : Nat} : smM n M F x y = true ↔ ∃ p, p < n ∧ ∃ q, q < n ∧ M p q = true ∧ F p ≠ F q ∧ F p = x ∧ F q = y := by
  simp only [smM, List.any_eq_true, List.mem_range, Bool.and_eq_true, bne_iff_ne, ne_eq, beq_iff_eq, and_assoc]
/-- The least points, in the order of what leads to what. -/
def seqGo (n : Nat) (S : Nat → Nat → Bool) (F : Nat → Nat) : Nat → List Nat → List Nat
  | 0, _ => []
  | k + 1, l => match lf (fun p => F p == p && freeB n S l.contains p) n 0 with
    | none => []
    | some p => p :: seqGo n S F k (l ++ [p])
def partsR (n : Nat) (M : Nat → Nat → Bool) : List Nat := seqGo n (smM n M (ldF n M)) (ldF n M) n []
def partsS (n : Nat) (M : Nat → Nat → Bool) : List (List Nat) := (partsR n M).map fun r => memb (ldF n M) r n
/-- So far, and what follows. -/
def SeqI (n : Nat) (S : Nat → Nat → Bool) (F : Nat → Nat) (l : List Nat) : Prop := l.Nodup ∧ (∀ x ∈ l, x < n ∧ F x = x) ∧ l ++ seqGo n S F (n - l.length) l = seqGo n S F n []
theorem SeqI.start {S : Nat → Nat → Bool} {F : Nat → Nat} : SeqI n S F [] := ⟨by simp, by simp, rfl⟩
theorem SeqI.len {S : Nat → Nat → Bool} {F : Nat → Nat} {l : List Nat} (h : SeqI n S F l) : l.length ≤ n := nodup_lt h.1 fun x hx => (h.2.1 x hx).1
theorem SeqI.step {S : Nat → Nat → Bool} {F : Nat → Nat} {l : List Nat} {p : Nat} (h : SeqI n S F l) (hp : lf (fun p => F p == p && freeB n S l.contains p) n 0 = some p) : SeqI n S F (l ++ [p]) := by
  obtain ⟨h1, h2, h3⟩ := h
  obtain ⟨-, hpn, hf⟩ := lf_some hp
  simp only [Bool.and_eq_true, beq_iff_eq] at hf
  have hpl : p ∉ l := by have := (freeB_true.1 hf.2).1; simpa using this
  have hnd : (l ++ [p]).Nodup := by
    rw [List.nodup_append]; exact ⟨h1, by simp, fun y hy z hz => by simp at hz; subst hz; rintro rfl; exact hpl hy⟩
  have hlt : ∀ x ∈ l ++ [p], x < n ∧ F x = x := fun x hx => by
    rcases List.mem_append.1 hx with hx | hx
    · exact h2 x hx
    · simp at hx; subst hx; exact ⟨hpn, hf.1⟩
  have hl := nodup_lt hnd fun x hx => (hlt x hx).1
  refine ⟨hnd, hlt, ?_⟩
  rw [List.length_append, List.length_singleton] at hl ⊢
  rw [show n - l.length = (n - (l.length + 1)) + 1 from by omega] at h3
  simp only [seqGo, hp] at h3
  rw [List.append_assoc]; exact h3
theorem SeqI.done {S : Nat → Nat → Bool} {F : Nat → Nat} {l : List Nat} (h : SeqI n S F l) (hp : lf (fun p => F p == p && freeB n S l.contains p) n 0 = none) : l = seqGo n S F n [] := by
  obtain ⟨h1, h2, h3⟩ := h
  cases hk : n - l.length with
  | zero => rw [hk] at h3; simpa [seqGo] using h3
  | succ k => rw [hk] at h3; simp only [seqGo, hp, List.append_nil] at h3; exact h3
theorem parts_len : (partsS n M).length ≤ n := by
  have key : ∀ (k : Nat) (l : List Nat), (seqGo n (smM n M (ldF n M)) (ldF n M) k l).length ≤ k := by
    intro k
    induction k with
    | zero => intro l; simp [seqGo]
    | succ k ih =>
      intro l
      simp only [seqGo]
      split
      · simp
      · simp only [List.length_cons]; have := ih (l ++ [‹Nat›]); omega
  simpa [partsS, partsR] using key n []
end
end Go.Proofs.Tst
/-
  Lists of lists in memory: a slice of slices, each owned, none in the block of the slice itself.
-/
namespace Go.Vc
open Go
/-- Two slices' blocks are apart. -/
def Off (v w : Value) : Prop := bh v = 0 ∨ bh w = 0 ∨ bl v ≠ bl w
theorem Off.symm {v w : Value} (h : Off v w) : Off w v := by unfold Off at *; omega
theorem bh_bl (v : Value) : (bh v = 0 ∧ bl v = 0) ∨ bh v = bl v + 1 := by unfold bh bl; split <;> simp
structure LL (h : Heap) (v : Value) (vs : List Value) (L : List (List Value)) (lo : Nat) : Prop where
  own : Holder 1 h v L.length vs lo
  at_ : ∀ (i : Nat) (w : Value) (l : List Value), vs[i]? = some w → L[i]? = some l → Holder 1 h w l.length l lo
  off : ∀ w, w ∈ vs → Off w v
theorem LL.len {h : Heap} {v : Value} {vs : List Value} {L : List (List Value)} {lo : Nat} (t : LL h v vs L lo) : vs.length = L.length := by
  have := t.own.1; omega
theorem LL.get {h : Heap} {v : Value} {vs : List Value} {L : List (List Value)} {lo : Nat} (t : LL h v vs L lo) {w : Value} (hw : w ∈ vs) : ∃ (i : Nat) (l : List Value), vs[i]? = some w ∧ L[i]? = some l ∧ Holder 1 h w l.length l lo := by
  obtain ⟨i, hi, rfl⟩ := List.mem_iff_getElem.1 hw
  have hl : i < L.length := by rw [← t.len]; exact hi
  have h1 : vs[i]? = some vs[i] := List.getElem?_eq_getElem hi
  have h2 : L[i]? = some L[i] := List.getElem?_eq_getElem hl
  exact ⟨i, _, h1, h2, t.at_ i _ _ h1 h2⟩
theorem LL.nil {h : Heap} {lo : Nat} : LL h (.slice none 0 0) [] [] lo :=
  ⟨.none _ _ _, fun _ _ _ h => by simp at h, fun _ h => by simp at h⟩
theorem LL.lower {h : Heap} {v : Value} {vs : List Value} {L : List (List Value)} {lo lo' : Nat} (t : LL h v vs L lo) (hl : lo' ≤ lo) : LL h v vs L lo' :=
  ⟨t.own.lower hl, fun i w l h1 h2 => (t.at_ i w l h1 h2).lower hl, t.off⟩
/-- All of it lies outside. -/
def Away (l r : Nat) (v : Value) (vs : List Value) : Prop := ∀ w, w = v ∨ w ∈ vs → bh w ≤ l ∨ r ≤ bl w ∨ r ≤ l
theorem LL.fr {h h' : Heap} {v : Value} {vs : List Value} {L : List (List Value)} {lo l r : Nat} (t : LL h v vs L lo) (f : Fr l r h h') (ha : Away l r v vs) : LL h' v vs L lo :=
  ⟨t.own.fr f (ha v (.inl rfl)), fun i w x h1 h2 => (t.at_ i w x h1 h2).fr f (ha w (.inr (List.mem_of_getElem? h1))), t.off⟩
theorem Away.none {v : Value} {vs : List Value} {l r : Nat} (h : r ≤ l) : Away l r v vs := fun _ _ => .inr (.inr h)
/-- What lies below, or is new, is away from what is owned. -/
theorem LL.below {h : Heap} {v : Value} {vs : List Value} {L : List (List Value)} {lo l r : Nat} (t : LL h v vs L lo) (hr : r ≤ lo) : Away l r v vs := fun w hw => by
  rcases hw with rfl | hw
  · have := t.own.at_; omega
  · obtain ⟨i, x, -, -, o⟩ := t.get hw
    have := o.at_; omega
theorem LL.top {h : Heap} {v : Value} {vs : List Value} {L : List (List Value)} {lo : Nat} (t : LL h v vs L lo) : ∀ w, w = v ∨ w ∈ vs → bh w ≤ h.size := fun w hw => by
  rcases hw with rfl | hw
  · exact t.own.top
  · obtain ⟨i, x, -, -, o⟩ := t.get hw; exact o.top
/-- A slice's own block is apart from another's. -/
theorem Off.away {v w : Value} (h : Off w v) : bh w ≤ bl v ∨ bh v ≤ bl w ∨ bh v ≤ bl v := by
  have := bh_bl v; have := bh_bl w; unfold Off at h; omega
/-- What was apart from it is apart from what it has grown to. -/
theorem Off.app {h h' : Heap} {v v' w : Value} {lo n : Nat} {xs : List Value} (hx : Off w v) (ht : bh w ≤ h.size) (h0 : 0 < lo) (o : Holder 1 h' v' n xs lo)
    (e : bl v' = bl v ∧ h'.size = h.size ∨ bl v' = h.size ∧ h'.size = h.size + 1 ∨ bh v' = 0 ∧ h' = h) : Off w v' := by
  have := bh_bl w; have := bh_bl v; have := bh_bl v'; have := o.at_
  unfold Off at *
  rcases e with ⟨e, -⟩ | ⟨e, -⟩ | ⟨e, -⟩ <;> omega
end Go.Vc
namespace Go.Vc
open Go
theorem Holder.blk {s : Nat} {h : Heap} {v : Value} {n : Nat} {xs : List Value} {lo : Nat} (w : Holder s h v n xs lo) (hn : 0 < n) : ∃ b c rest, v = .slice (some ⟨b, 0, Option.none⟩) n c ∧ Rw h b (xs ++ rest) ∧ rest.length + n * s = c * s ∧ lo ≤ b := by
  obtain ⟨_, ⟨rfl, h0⟩ | h1⟩ := w
  · omega
  · exact h1
/-- One element of its block is stored. -/
theorem Holder.set {h h' : Heap} {b n c j : Nat} {xs : List Value} {x : Value} {lo : Nat} (w : Holder 1 h (.slice (some ⟨b, 0, Option.none⟩) n c) n xs lo) (hj : j < n) (s : Sto h h' b j [x]) : Holder 1 h' (.slice (some ⟨b, 0, Option.none⟩) n c) n (xs.set j x) lo := by
  have hl := w.1
  obtain ⟨b', c', rest, h1, h2, h3, h4⟩ := w.blk (by omega)
  cases h1
  refine ⟨by simpa using hl, .inr ⟨b, c, rest, rfl, ?_, h3, h4⟩⟩
  have := s.row h2
  rwa [putAt_one, List.set_append_left _ _ (by omega)] at this
/-- One of the lists is turned. -/
theorem LL.put {h h' : Heap} {v w : Value} {us : List Value} {L : List (List Value)} {l : List Value} {lo i : Nat} (t : LL h v us L lo) (hi : us[i]? = some w) (o : Holder 1 h' w l.length l lo) (f : Fr (bl w) (bh w) h h')
    (hp : us.Pairwise Off) : LL h' v us (L.set i l) lo := by
  have hl : i < us.length := (List.getElem?_eq_some_iff.1 hi).1
  have hw := t.off w (List.mem_of_getElem? hi)
  have key : ∀ j x, j ≠ i → us[j]? = some x → Off x w := fun j x hj hx => by
    obtain ⟨hjl, rfl⟩ := List.getElem?_eq_some_iff.1 hx
    obtain ⟨hil, rfl⟩ := List.getElem?_eq_some_iff.1 hi
    rw [List.pairwise_iff_getElem] at hp
    rcases Nat.lt_or_gt_of_ne hj with h | h
    · exact hp j i hjl hil h
    · exact (hp i j hil hjl h).symm
  refine ⟨by rw [List.length_set]; exact t.own.fr f hw.symm.away, fun j x y hx hy => ?_, t.off⟩
  by_cases hj : j = i
  · subst hj
    rw [hi] at hx; cases hx
    rw [List.getElem?_set_self (by rw [← t.len]; exact hl)] at hy; cases hy
    exact o
  · rw [List.getElem?_set_ne (fun h => hj h.symm)] at hy
    exact (t.at_ j x y hx hy).fr f (key j x hj hx).away
/-- What can be read of a list of lists. -/
def RL (h : Heap) (v : Value) (L : List (List Value)) : Prop := ∃ us, Rd 1 h v L.length us ∧ ∀ (i : Nat) (l : List Value), L[i]? = some l → ∃ w, us[i]? = some w ∧ Rd 1 h w l.length l
theorem RL.fr {h h' : Heap} {v : Value} {L : List (List Value)} (t : RL h v L) (f : Fr 0 0 h h') : RL h' v L := by
  obtain ⟨us, h1, h2⟩ := t
  exact ⟨us, h1.fr f, fun i l hl => by obtain ⟨w, h3, h4⟩ := h2 i l hl; exact ⟨w, h3, h4.fr f⟩⟩
end Go.Vc
namespace Go.Proofs.Tst
open Go Go.Vc
end Go.Proofs.Tst
namespace Go.Proofs.Tst
open Go Go.Vc
end Go.Proofs.Tst
namespace Go.Proofs.Tst
open Go Go.Vc
end Go.Proofs.Tst
namespace Go.Proofs.Tst
open Go Go.Vc
end Go.Proofs.Tst
/-
  The document's own Components and Reduction.
-/
namespace Go.Proofs.Tst
open Go Go.Vc
end Go.Proofs.Tst
namespace Go.Proofs.Tst
open Go Go.Vc
/-- One row is joined into another (which may be the same). -/
theorem row_join {w v b b' : Nat} {W V : Nat → Nat} {ov : Value} {h : Heap} (hx : Rw h b (wrow w W)) (hy : Rw h b' (wrow v V)) (ho : Rd 1 h ov 1 [.slice (some ⟨b', 0, none⟩) v v]) (hW : ∀ i, W i < 2 ^ 64) (hV : ∀ i, V i < 2 ^ 64) (hw : w ≤ 1024) (hv : v ≤ 1024) :
    Con Tryd.prog 77 #[.slice (some ⟨b, 0, none⟩) w w, ov] h fun _ h' => Fr b (b + 1) h h' ∧ h'.size = h.size ∧ Rw h' b (wrow w fun i => if i < v then W i ||| V i else W i) := by
  refine con_rel_row_join ?_
  obtain ⟨oa, oc, rfl⟩ := ho.is
  simp -dsimp only [go_sem, ↓reduceIte, reduceCtorEq, Nat.reduceEqDiff, Nat.reduceAdd, Nat.reduceLeDiff, Nat.reduceMul, Int.reduceBEq, Int.reduceBNe, Int.reduceLT, Int.reduceLE, Int.reduceGT, Int.reduceGE]
  refine loop_intro (fun i : Nat => [(0, .slice (some ⟨b, 0, none⟩) w w), (7, .slice oa 1 oc), (8, .int .i64 1), (9, .int .i64 i)])
    (fun i h' => (i = 0 ∧ h' = h) ∨ (i = 1 ∧ Fr b (b + 1) h h' ∧ h'.size = h.size ∧ Rw h' b (wrow w fun i => if i < v then W i ||| V i else W i))) (fun i => 1 - i) 0 ?_ ?_ ?_
  · simp [Le, find]
  · exact .inl ⟨rfl, rfl⟩
  rintro i h1 (⟨rfl, rfl⟩ | ⟨rfl, hf, hz, hr⟩)
  · simp -dsimp only [go_sem, ↓reduceIte, reduceCtorEq, Nat.reduceEqDiff, Nat.reduceAdd, Nat.reduceLeDiff, Nat.reduceMul, Int.reduceBEq, Int.reduceBNe, Int.reduceLT, Int.reduceLE, Int.reduceGT, Int.reduceGE]
    refine ⟨fun _ => ?_, fun h => absurd (by omega) h⟩
    simp -dsimp only [go_sem, ↓reduceIte, reduceCtorEq, Nat.reduceEqDiff, Nat.reduceAdd, Nat.reduceLeDiff, Nat.reduceMul, Int.reduceBEq, Int.reduceBNe, Int.reduceLT, Int.reduceLE, Int.reduceGT, Int.reduceGE]
    refine Chk_intro (by omega) (ho.idx (by omega) fun b1 o1 c1 => ?_)
    have c1 : hcell h1 b1 o1 = some (.slice (some ⟨b', 0, none⟩) v v) := c1 0 _ rfl
    simp -dsimp only [go_sem, ↓reduceIte, reduceCtorEq, Nat.reduceEqDiff, Nat.reduceAdd, Nat.reduceLeDiff, Nat.reduceMul, Int.reduceBEq, Int.reduceBNe, Int.reduceLT, Int.reduceLE, Int.reduceGT, Int.reduceGE, c1]
    have hm : (if (v : Int) < (w : Int) then (v : Int) else (w : Int)) = ((min w v : Nat) : Int) := by split <;> omega
    rw [hm]
    refine loop_intro (fun i : Nat => [(0, .slice (some ⟨b, 0, none⟩) w w), (5, .slice (some ⟨b', 0, none⟩) v v), (7, .slice oa 1 oc), (8, .int .i64 1), (9, .int .i64 (0 : Nat)), (17, .int .i64 (min w v : Nat)), (18, .int .i64 i)])
      (fun i h' => i ≤ min w v ∧ Fr b (b + 1) h1 h' ∧ h'.size = h1.size ∧ Rw h' b (wrow w fun k => if k < i then W k ||| V k else W k)) (fun i => min w v - i) 0 ?_ ?_ ?_
    · simp [Le, find]
    · exact ⟨by omega, .refl _ _ _, rfl, by simpa using hx⟩
    rintro i h2 ⟨hi, f2, z2, r2⟩
    simp -dsimp only [go_sem, ↓reduceIte, reduceCtorEq, Nat.reduceEqDiff, Nat.reduceAdd, Nat.reduceLeDiff, Nat.reduceMul, Int.reduceBEq, Int.reduceBNe, Int.reduceLT, Int.reduceLE, Int.reduceGT, Int.reduceGE]
    refine ⟨fun hlt => ?_, fun hge => ?_⟩
    · have hlt : i < min w v := by omega
      have hy2 : hcell h2 b' i = some (.int .u64 (V i : Int)) := by
        by_cases hb : b' = b
        · subst hb
          obtain ⟨e1, e2⟩ := wrow_inj (hx.inj hy)
          rw [r2.cell, wrow_get (by omega), if_neg (by omega), e2 i (by omega)]
        · rw [(hy.fr f2 (by omega)).cell, wrow_get (by omega)]
      simp -dsimp only [go_sem, ↓reduceIte, reduceCtorEq, Nat.reduceEqDiff, Nat.reduceAdd, Nat.reduceLeDiff, Nat.reduceMul, Int.reduceBEq, Int.reduceBNe, Int.reduceLT, Int.reduceLE, Int.reduceGT, Int.reduceGE]
      refine Chk_intro (by omega) ?_
      simp -dsimp only [go_sem, ↓reduceIte, reduceCtorEq, Nat.reduceEqDiff, Nat.reduceAdd, Nat.reduceLeDiff, Nat.reduceMul, Int.reduceBEq, Int.reduceBNe, Int.reduceLT, Int.reduceLE, Int.reduceGT, Int.reduceGE, r2.cell, wrow_get (show i < w by omega)]
      refine Chk_intro (by omega) ?_
      simp -dsimp only [go_sem, ↓reduceIte, reduceCtorEq, Nat.reduceEqDiff, Nat.reduceAdd, Nat.reduceLeDiff, Nat.reduceMul, Int.reduceBEq, Int.reduceBNe, Int.reduceLT, Int.reduceLE, Int.reduceGT, Int.reduceGE, hy2, Nat.lt_irrefl]
      rw [or64 (hW i) (hV i)]
      refine Chk_intro (by omega) ?_
      simp -dsimp only [go_sem, ↓reduceIte, reduceCtorEq, Nat.reduceEqDiff, Nat.reduceAdd, Nat.reduceLeDiff, Nat.reduceMul, Int.reduceBEq, Int.reduceBNe, Int.reduceLT, Int.reduceLE, Int.reduceGT, Int.reduceGE]
      refine Chk_intro (r2.wr (by simp; omega)) fun h3 s3 => ?_
      have r3 := s3.row r2
      have z3 := s3.size
      rw [cl_int, putAt_one, wrow_upd] at r3
      simp -dsimp only [go_sem, ↓reduceIte, reduceCtorEq, Nat.reduceEqDiff, Nat.reduceAdd, Nat.reduceLeDiff, Nat.reduceMul, Int.reduceBEq, Int.reduceBNe, Int.reduceLT, Int.reduceLE, Int.reduceGT, Int.reduceGE]
      simp -dsimp (disch := omega) only [wrap64]
      refine ⟨i + 1, by omega, by simp [Le, find], by omega, f2.trans s3.fr, by omega, ?_⟩
      rw [wrow_congr fun k hk => ?_]; exact r3
      unfold upd
      dsimp only
      by_cases hki : k = i
      · subst hki; simp
      · rw [if_neg hki]
        by_cases h1 : k < i
        · rw [if_pos h1, if_pos (by omega)]
        · rw [if_neg h1, if_neg (by omega)]
    · have : i = min w v := by omega
      subst this
      simp -dsimp only [go_sem, ↓reduceIte, reduceCtorEq, Nat.reduceEqDiff, Nat.reduceAdd, Nat.reduceLeDiff, Nat.reduceMul, Int.reduceBEq, Int.reduceBNe, Int.reduceLT, Int.reduceLE, Int.reduceGT, Int.reduceGE]
      simp -dsimp (disch := omega) only [wrap64]
      refine ⟨1, by omega, by simp [Le, find], .inr ⟨rfl, f2, z2, ?_⟩⟩
      rw [wrow_congr fun k hk => ?_]; exact r2
      by_cases h1 : k < v
      · rw [if_pos h1, if_pos (by omega)]
      · rw [if_neg h1, if_neg (by omega)]
  · simp -dsimp only [go_sem, ↓reduceIte, reduceCtorEq, Nat.reduceEqDiff, Nat.reduceAdd, Nat.reduceLeDiff, Nat.reduceMul, Int.reduceBEq, Int.reduceBNe, Int.reduceLT, Int.reduceLE, Int.reduceGT, Int.reduceGE]
    refine ⟨fun h => absurd h (by omega), fun _ => ?_⟩
    simp -dsimp only [go_sem, ↓reduceIte, reduceCtorEq, Nat.reduceEqDiff, Nat.reduceAdd, Nat.reduceLeDiff, Nat.reduceMul, Int.reduceBEq, Int.reduceBNe, Int.reduceLT, Int.reduceLE, Int.reduceGT, Int.reduceGE]
    exact ⟨hf, hz, hr⟩
theorem rel_wide {n : Nat} {M : Nat → Nat → Bool} {p : Value} {lo hi : Nat} {h : Heap} (hr : ProgAt h lo hi p n M) (k : Nat) (hk : k ≤ 256) :
    Con Tryd.prog 88 #[p, .int .i64 k] h fun v h' => Fr 0 0 h h' ∧ ProgAt h' h.size h'.size v (max k n) (inN n M) := by
  refine con_rel_Rel_wide ?_
  obtain ⟨hn, pb, rb, R, W, rfl, t⟩ := hr
  have hm : (if (n : Int) > (k : Int) then (n : Int) else (k : Int)) = ((max k n : Nat) : Int) := by split <;> omega
  have hcl : clampN (max k n : Nat) = max k n := by unfold clampN; omega
  simp -dsimp only [go_sem, ↓reduceIte, reduceCtorEq, Nat.reduceEqDiff, Nat.reduceAdd, Nat.reduceLeDiff, Nat.reduceMul, Int.reduceBEq, Int.reduceBNe, Int.reduceLT, Int.reduceLE, Int.reduceGT, Int.reduceGE, t.ptr.cell]
  rw [hm]
  refine call_of (rel_New _ h) ?_
  rintro v1 h1 ⟨p1, t1⟩
  rw [hcl] at t1
  obtain ⟨hx, pb1, rb1, R1, W1, rfl, t1⟩ := t1
  have t2 := t.fr p1 (by omega)
  simp -dsimp only [go_sem, ↓reduceIte, reduceCtorEq, Nat.reduceEqDiff, Nat.reduceAdd, Nat.reduceLeDiff, Nat.reduceMul, Int.reduceBEq, Int.reduceBNe, Int.reduceLT, Int.reduceLE, Int.reduceGT, Int.reduceGE, t2.ptr.cell]
  have at1 := t1.at_
  refine loop_intro (fun a : Nat => [(5, .pointer (some ⟨pb1, 0, none⟩)), (18, .slice (some ⟨rb, 0, none⟩) n n), (19, .int .i64 n), (20, .int .i64 a)])
    (fun a h' => a ≤ n ∧ Fr 0 0 h h' ∧ h1.size ≤ h'.size ∧ ∃ W, PTab h' h.size h1.size pb1 rb1 (max k n) R1 W fun i j => decide (i < a) && decide (j < n) && M i j) (fun a => n - a) 0 ?_ ?_ ?_
  · simp [Le, find]
  · exact ⟨by omega, p1, by omega, _, t1.congr fun i j _ _ => by simp⟩
  rintro a h2 ⟨ha, p0, y2, W2, t3⟩
  have p0_z := p0.size
  have t4 := t.fr p0 (by omega)
  simp -dsimp only [go_sem, ↓reduceIte, reduceCtorEq, Nat.reduceEqDiff, Nat.reduceAdd, Nat.reduceLeDiff, Nat.reduceMul, Int.reduceBEq, Int.reduceBNe, Int.reduceLT, Int.reduceLE, Int.reduceGT, Int.reduceGE]
  refine ⟨fun hlt => ?_, fun hge => ?_⟩
  · have hlt : a < n := by omega
    simp -dsimp only [go_sem, ↓reduceIte, reduceCtorEq, Nat.reduceEqDiff, Nat.reduceAdd, Nat.reduceLeDiff, Nat.reduceMul, Int.reduceBEq, Int.reduceBNe, Int.reduceLT, Int.reduceLE, Int.reduceGT, Int.reduceGE]
    refine Chk_intro (by omega) ?_
    simp -dsimp only [go_sem, ↓reduceIte, reduceCtorEq, Nat.reduceEqDiff, Nat.reduceAdd, Nat.reduceLeDiff, Nat.reduceMul, Int.reduceBEq, Int.reduceBNe, Int.reduceLT, Int.reduceLE, Int.reduceGT, Int.reduceGE, t4.rowsGet hlt, t3.ptr.cell]
    refine Chk_intro (by omega) ?_
    simp -dsimp only [go_sem, ↓reduceIte, reduceCtorEq, Nat.reduceEqDiff, Nat.reduceAdd, Nat.reduceLeDiff, Nat.reduceMul, Int.reduceBEq, Int.reduceBNe, Int.reduceLT, Int.reduceLE, Int.reduceGT, Int.reduceGE, t3.rowsGet (show a < max k n by omega)]
    intro b5 h5 n5
    have n5_a := n5.at_
    have n5_z := n5.size
    replace p0 := p0.fresh (n5.fr (lo := 0) (hi := 0)) (by omega)
    replace t3 := t3.fr (n5.fr (lo := 0) (hi := 0)) (by omega)
    have r5 := n5.row
    obtain ⟨g1, g2, g3, g4, g5, g6⟩ := t3.row a (by omega)
    obtain ⟨f1, f2, f3, f4, f5, f6⟩ := (t.fr p0 (by omega)).row a hlt
    simp -dsimp only [go_sem, ↓reduceIte, reduceCtorEq, Nat.reduceEqDiff, Nat.reduceAdd, Nat.reduceLeDiff, Nat.reduceMul, Int.reduceBEq, Int.reduceBNe, Int.reduceLT, Int.reduceLE, Int.reduceGT, Int.reduceGE, r5.cell]
    refine call_of (row_join g1 f1 (r5.rd rfl) (fun j => (g6 j).1) (fun j => (f6 j).1) (by unfold nw; omega) (by unfold nw; omega)) ?_
    rintro _ h6 ⟨q6, z6, r6⟩
    have t6 := t3.updRow (by omega) q6 r6 (g6.or f6 (by omega))
    have q6_z := q6.size
    replace p0 := p0.fresh q6 (by omega)
    simp -dsimp only [go_sem, ↓reduceIte, reduceCtorEq, Nat.reduceEqDiff, Nat.reduceAdd, Nat.reduceLeDiff, Nat.reduceMul, Int.reduceBEq, Int.reduceBNe, Int.reduceLT, Int.reduceLE, Int.reduceGT, Int.reduceGE]
    simp -dsimp (disch := omega) only [wrap64]
    refine ⟨a + 1, by omega, by simp [Le, find], by omega, p0, by omega, _, t6.congr fun i j hi hj => ?_⟩
    by_cases hia : i = a
    · subst hia
      rw [upd_same]; simp
    · rw [upd_ne _ _ hia]
      have : (i < a + 1) = (i < a) := by simp; omega
      simp [this]
  · have : a = n := by omega
    subst this
    simp -dsimp only [go_sem, ↓reduceIte, reduceCtorEq, Nat.reduceEqDiff, Nat.reduceAdd, Nat.reduceLeDiff, Nat.reduceMul, Int.reduceBEq, Int.reduceBNe, Int.reduceLT, Int.reduceLE, Int.reduceGT, Int.reduceGE]
    exact ⟨p0, hx, _, _, _, _, rfl, (t3.mono' y2).congr fun i j _ _ => rfl⟩
end Go.Proofs.Tst
namespace Go.Proofs.Tst
open Go Go.Vc
theorem rel_Copy {n : Nat} {M : Nat → Nat → Bool} {p : Value} {lo hi : Nat} {h : Heap} (hr : ProgAt h lo hi p n M) :
    Con Tryd.prog 56 #[p] h fun v h' => Fr 0 0 h h' ∧ ProgAt h' h.size h'.size v n (inN n M) := by
  refine con_rel_Rel_Copy ?_
  simp -dsimp only [go_sem, ↓reduceIte, reduceCtorEq, Nat.reduceEqDiff, Nat.reduceAdd, Nat.reduceLeDiff, Nat.reduceMul, Int.reduceBEq, Int.reduceBNe, Int.reduceLT, Int.reduceLE, Int.reduceGT, Int.reduceGE]
  refine call_of (rel_wide hr 0 (by omega)) ?_
  rintro v h1 ⟨p1, t1⟩
  simp -dsimp only [go_sem, ↓reduceIte, reduceCtorEq, Nat.reduceEqDiff, Nat.reduceAdd, Nat.reduceLeDiff, Nat.reduceMul, Int.reduceBEq, Int.reduceBNe, Int.reduceLT, Int.reduceLE, Int.reduceGT, Int.reduceGE]
  exact ⟨p1, by rwa [Nat.zero_max] at t1⟩
theorem rel_Irreflexive {n : Nat} {M : Nat → Nat → Bool} {p : Value} {lo hi : Nat} {h : Heap} (hr : ProgAt h lo hi p n M) :
    Con Tryd.prog 46 #[p] h fun v h' => h' = h ∧ v = .bool (irrB n M) := by
  refine con_rel_Irreflexive ?_
  obtain ⟨hn, pb, rb, R, W, rfl, t⟩ := hr
  simp -dsimp only [go_sem, ↓reduceIte, reduceCtorEq, Nat.reduceEqDiff, Nat.reduceAdd, Nat.reduceLeDiff, Nat.reduceMul, Int.reduceBEq, Int.reduceBNe, Int.reduceLT, Int.reduceLE, Int.reduceGT, Int.reduceGE, t.ptr.cell]
  refine loop_intro (fun a : Nat => [(8, .slice (some ⟨rb, 0, none⟩) n n), (9, .int .i64 n), (10, .int .i64 a)])
    (fun a h' => h' = h ∧ a ≤ n ∧ ∀ i, i < a → M i i = false) (fun a => n - a) 0 ?_ ?_ ?_
  · simp [Le, find]
  · exact ⟨rfl, by omega, by omega⟩
  rintro a _ ⟨rfl, ha, hinv⟩
  simp -dsimp only [go_sem, ↓reduceIte, reduceCtorEq, Nat.reduceEqDiff, Nat.reduceAdd, Nat.reduceLeDiff, Nat.reduceMul, Int.reduceBEq, Int.reduceBNe, Int.reduceLT, Int.reduceLE, Int.reduceGT, Int.reduceGE]
  refine ⟨fun hlt => ?_, fun hge => ?_⟩
  · have hlt : a < n := by omega
    obtain ⟨g1, g2, g3, g4, g5, g6⟩ := t.row a hlt
    simp -dsimp only [go_sem, ↓reduceIte, reduceCtorEq, Nat.reduceEqDiff, Nat.reduceAdd, Nat.reduceLeDiff, Nat.reduceMul, Int.reduceBEq, Int.reduceBNe, Int.reduceLT, Int.reduceLE, Int.reduceGT, Int.reduceGE]
    refine Chk_intro (by omega) ?_
    simp -dsimp only [go_sem, ↓reduceIte, reduceCtorEq, Nat.reduceEqDiff, Nat.reduceAdd, Nat.reduceLeDiff, Nat.reduceMul, Int.reduceBEq, Int.reduceBNe, Int.reduceLT, Int.reduceLE, Int.reduceGT, Int.reduceGE, t.rowsGet hlt]
    refine call_of (row_has (p := a) (ptab_rd t hlt) (by unfold nw; omega) (g6 _).1 (by omega)) ?_
    rintro v h1 ⟨rfl, rfl⟩
    rw [g6.get hlt]
    cases hm : M a a with
    | true =>
      simp -dsimp only [go_sem, ↓reduceIte, reduceCtorEq, Nat.reduceEqDiff, Nat.reduceAdd, Nat.reduceLeDiff, Nat.reduceMul, Int.reduceBEq, Int.reduceBNe, Int.reduceLT, Int.reduceLE, Int.reduceGT, Int.reduceGE]
      have : irrB n M = false := by
        rw [Bool.eq_false_iff]; intro h'
        have := List.all_eq_true.1 h' a (List.mem_range.2 hlt)
        simp [hm] at this
      rw [this]
    | false =>
      simp -dsimp only [go_sem, ↓reduceIte, reduceCtorEq, Nat.reduceEqDiff, Nat.reduceAdd, Nat.reduceLeDiff, Nat.reduceMul, Int.reduceBEq, Int.reduceBNe, Int.reduceLT, Int.reduceLE, Int.reduceGT, Int.reduceGE]
      simp -dsimp (disch := omega) only [wrap64]
      refine ⟨a + 1, by omega, by simp [Le, find], by omega, fun i hi => ?_⟩
      by_cases hia : i = a
      · subst hia; exact hm
      · exact hinv i (by omega)
  · have : a = n := by omega
    subst this
    simp -dsimp only [go_sem, ↓reduceIte, reduceCtorEq, Nat.reduceEqDiff, Nat.reduceAdd, Nat.reduceLeDiff, Nat.reduceMul, Int.reduceBEq, Int.reduceBNe, Int.reduceLT, Int.reduceLE, Int.reduceGT, Int.reduceGE]
    have : irrB a M = true := List.all_eq_true.2 fun i hi => by rw [hinv i (List.mem_range.1 hi)]; rfl
    rw [this]
theorem rel_Plus {n : Nat} {M : Nat → Nat → Bool} {p : Value} {lo hi : Nat} {h : Heap} (hr : ProgAt h lo hi p n M) :
    Con Tryd.prog 30 #[p] h fun v h' => Fr 0 0 h h' ∧ ProgAt h' h.size h'.size v n (plusM n M) := by
  refine con_rel_Plus ?_
  simp -dsimp only [go_sem, ↓reduceIte, reduceCtorEq, Nat.reduceEqDiff, Nat.reduceAdd, Nat.reduceLeDiff, Nat.reduceMul, Int.reduceBEq, Int.reduceBNe, Int.reduceLT, Int.reduceLE, Int.reduceGT, Int.reduceGE]
  refine call_of (rel_Copy hr) ?_
  rintro v1 h1 ⟨p1, hn, pb1, rb1, R1, W1, rfl, t1⟩
  have at1 := t1.at_
  simp -dsimp only [go_sem, ↓reduceIte, reduceCtorEq, Nat.reduceEqDiff, Nat.reduceAdd, Nat.reduceLeDiff, Nat.reduceMul, Int.reduceBEq, Int.reduceBNe, Int.reduceLT, Int.reduceLE, Int.reduceGT, Int.reduceGE, t1.ptr.cell]
  refine loop_intro (fun k : Nat => [(3, .pointer (some ⟨pb1, 0, none⟩)), (11, .int .i64 n), (12, .int .i64 k)])
    (fun k h' => k ≤ n ∧ Fr 0 0 h h' ∧ h1.size ≤ h'.size ∧ ∃ W, PTab h' h.size h1.size pb1 rb1 n R1 W (warM n M k)) (fun k => n - k) 0 ?_ ?_ ?_
  · simp [Le, find]
  · exact ⟨by omega, p1, by omega, _, t1.congr fun i j hi hj => inN_in hi hj⟩
  rintro k h2 ⟨hk, p0, y2, W2, t2⟩
  simp -dsimp only [go_sem, ↓reduceIte, reduceCtorEq, Nat.reduceEqDiff, Nat.reduceAdd, Nat.reduceLeDiff, Nat.reduceMul, Int.reduceBEq, Int.reduceBNe, Int.reduceLT, Int.reduceLE, Int.reduceGT, Int.reduceGE]
  refine ⟨fun hlt => ?_, fun hge => ?_⟩
  · have hlt : k < n := by omega
    simp -dsimp only [go_sem, ↓reduceIte, reduceCtorEq, Nat.reduceEqDiff, Nat.reduceAdd, Nat.reduceLeDiff, Nat.reduceMul, Int.reduceBEq, Int.reduceBNe, Int.reduceLT, Int.reduceLE, Int.reduceGT, Int.reduceGE, t2.ptr.cell]
    refine loop_intro (fun a : Nat => [(3, .pointer (some ⟨pb1, 0, none⟩)), (4, .int .i64 k), (11, .int .i64 n), (12, .int .i64 k), (18, .int .i64 n), (19, .int .i64 a)])
      (fun a h' => a ≤ n ∧ Fr 0 0 h h' ∧ h1.size ≤ h'.size ∧ ∃ W, PTab h' h.size h1.size pb1 rb1 n R1 W fun i j => if i < a then warM n M (k + 1) i j else warM n M k i j) (fun a => n - a) 0 ?_ ?_ ?_
    · simp [Le, find]
    · exact ⟨by omega, p0, by omega, _, t2.congr fun i j hi hj => by simp⟩
    rintro a h3 ⟨ha, p0, y3, W3, t3⟩
    have p0_z := p0.size
    simp -dsimp only [go_sem, ↓reduceIte, reduceCtorEq, Nat.reduceEqDiff, Nat.reduceAdd, Nat.reduceLeDiff, Nat.reduceMul, Int.reduceBEq, Int.reduceBNe, Int.reduceLT, Int.reduceLE, Int.reduceGT, Int.reduceGE]
    refine ⟨fun hlt2 => ?_, fun hge2 => ?_⟩
    · have hlt2 : a < n := by omega
      obtain ⟨g1, g2, g3, g4, g5, g6⟩ := t3.row a hlt2
      obtain ⟨f1, f2, f3, f4, f5, f6⟩ := t3.row k hlt
      simp -dsimp only [go_sem, ↓reduceIte, reduceCtorEq, Nat.reduceEqDiff, Nat.reduceAdd, Nat.reduceLeDiff, Nat.reduceMul, Int.reduceBEq, Int.reduceBNe, Int.reduceLT, Int.reduceLE, Int.reduceGT, Int.reduceGE, t3.ptr.cell]
      refine Chk_intro (by omega) ?_
      simp -dsimp only [go_sem, ↓reduceIte, reduceCtorEq, Nat.reduceEqDiff, Nat.reduceAdd, Nat.reduceLeDiff, Nat.reduceMul, Int.reduceBEq, Int.reduceBNe, Int.reduceLT, Int.reduceLE, Int.reduceGT, Int.reduceGE, t3.rowsGet hlt2]
      refine call_of (row_has (p := k) (ptab_rd t3 hlt2) (by unfold nw; omega) (g6 _).1 (by omega)) ?_
      rintro v h4 ⟨rfl, rfl⟩
      rw [g6.get hlt]
      simp only [Nat.lt_irrefl, if_false]
      cases hm : warM n M k a k with
      | true =>
        simp -dsimp only [go_sem, ↓reduceIte, reduceCtorEq, Nat.reduceEqDiff, Nat.reduceAdd, Nat.reduceLeDiff, Nat.reduceMul, Int.reduceBEq, Int.reduceBNe, Int.reduceLT, Int.reduceLE, Int.reduceGT, Int.reduceGE, t3.ptr.cell]
        refine Chk_intro (by omega) ?_
        simp -dsimp only [go_sem, ↓reduceIte, reduceCtorEq, Nat.reduceEqDiff, Nat.reduceAdd, Nat.reduceLeDiff, Nat.reduceMul, Int.reduceBEq, Int.reduceBNe, Int.reduceLT, Int.reduceLE, Int.reduceGT, Int.reduceGE, t3.rowsGet hlt2, t3.ptr.cell]
        refine Chk_intro (by omega) ?_
        simp -dsimp only [go_sem, ↓reduceIte, reduceCtorEq, Nat.reduceEqDiff, Nat.reduceAdd, Nat.reduceLeDiff, Nat.reduceMul, Int.reduceBEq, Int.reduceBNe, Int.reduceLT, Int.reduceLE, Int.reduceGT, Int.reduceGE, t3.rowsGet hlt]
        intro b5 h5 n5
        have n5_a := n5.at_
        have n5_z := n5.size
        replace p0 := p0.fresh (n5.fr (lo := 0) (hi := 0)) (by omega)
        replace t3 := t3.fr (n5.fr (lo := 0) (hi := 0)) (by omega)
        have r5 := n5.row
        obtain ⟨g1, g2, g3, g4, g5, g6⟩ := t3.row a hlt2
        obtain ⟨f1, f2, f3, f4, f5, f6⟩ := t3.row k hlt
        simp -dsimp only [go_sem, ↓reduceIte, reduceCtorEq, Nat.reduceEqDiff, Nat.reduceAdd, Nat.reduceLeDiff, Nat.reduceMul, Int.reduceBEq, Int.reduceBNe, Int.reduceLT, Int.reduceLE, Int.reduceGT, Int.reduceGE, t3.rowsGet hlt, t3.rowsGet hlt2, t3.ptr.cell, r5.cell]
        refine call_of (row_join g1 f1 (r5.rd rfl) (fun j => (g6 j).1) (fun j => (f6 j).1) (by unfold nw; omega) (by unfold nw; omega)) ?_
        rintro _ h6 ⟨q6, z6, r6⟩
        have t6 := t3.updRow hlt2 q6 r6 (g6.or f6 (by omega))
        have q6_z := q6.size
        replace p0 := p0.fresh q6 (by omega)
        simp -dsimp only [go_sem, ↓reduceIte, reduceCtorEq, Nat.reduceEqDiff, Nat.reduceAdd, Nat.reduceLeDiff, Nat.reduceMul, Int.reduceBEq, Int.reduceBNe, Int.reduceLT, Int.reduceLE, Int.reduceGT, Int.reduceGE, t6.ptr.cell, t6.rowsGet hlt, t6.rowsGet hlt2]
        simp -dsimp (disch := omega) only [wrap64]
        refine ⟨a + 1, by omega, by simp [Le, find], by omega, p0, by omega, _, t6.congr fun i j hi hj => ?_⟩
        by_cases hia : i = a
        · subst hia
          have e : (if k < i then warM n M (k + 1) k j else warM n M k k j) = warM n M k k j := by split <;> simp [warM_self]
          rw [upd_same, if_pos (Nat.lt_succ_self _)]
          simp only [Nat.lt_irrefl, if_false, e, hj, decide_true, Bool.true_and]
          simp only [warM, hm, Bool.true_and]
        · rw [upd_ne _ _ hia]
          have : (i < a + 1) = (i < a) := by simp; omega
          simp [this]
      | false =>
        simp -dsimp only [go_sem, ↓reduceIte, reduceCtorEq, Nat.reduceEqDiff, Nat.reduceAdd, Nat.reduceLeDiff, Nat.reduceMul, Int.reduceBEq, Int.reduceBNe, Int.reduceLT, Int.reduceLE, Int.reduceGT, Int.reduceGE]
        simp -dsimp (disch := omega) only [wrap64]
        refine ⟨a + 1, by omega, by simp [Le, find], by omega, p0, by omega, _, t3.congr fun i j hi hj => ?_⟩
        by_cases hia : i = a
        · subst hia
          simp [warM, hm]
        · have : (i < a + 1) = (i < a) := by simp; omega
          simp [this]
    · have : a = n := by omega
      subst this
      simp -dsimp only [go_sem, ↓reduceIte, reduceCtorEq, Nat.reduceEqDiff, Nat.reduceAdd, Nat.reduceLeDiff, Nat.reduceMul, Int.reduceBEq, Int.reduceBNe, Int.reduceLT, Int.reduceLE, Int.reduceGT, Int.reduceGE]
      simp -dsimp (disch := omega) only [wrap64]
      exact ⟨k + 1, by omega, by simp [Le, find], by omega, p0, by omega, _, t3.congr fun i j hi hj => by simp [hi]⟩
  · have : k = n := by omega
    subst this
    simp -dsimp only [go_sem, ↓reduceIte, reduceCtorEq, Nat.reduceEqDiff, Nat.reduceAdd, Nat.reduceLeDiff, Nat.reduceMul, Int.reduceBEq, Int.reduceBNe, Int.reduceLT, Int.reduceLE, Int.reduceGT, Int.reduceGE]
    exact ⟨p0, hn, _, _, _, _, rfl, t2.mono' y2⟩
theorem rel_Acyclic {n : Nat} {M : Nat → Nat → Bool} {p : Value} {lo hi : Nat} {h : Heap} (hr : ProgAt h lo hi p n M) :
    Con Tryd.prog 45 #[p] h fun v h' => Fr 0 0 h h' ∧ v = .bool (irrB n (plusM n M)) := by
  refine con_rel_Acyclic ?_
  simp -dsimp only [go_sem, ↓reduceIte, reduceCtorEq, Nat.reduceEqDiff, Nat.reduceAdd, Nat.reduceLeDiff, Nat.reduceMul, Int.reduceBEq, Int.reduceBNe, Int.reduceLT, Int.reduceLE, Int.reduceGT, Int.reduceGE]
  refine call_of (rel_Plus hr) ?_
  rintro v1 h1 ⟨p1, t1⟩
  simp -dsimp only [go_sem, ↓reduceIte, reduceCtorEq, Nat.reduceEqDiff, Nat.reduceAdd, Nat.reduceLeDiff, Nat.reduceMul, Int.reduceBEq, Int.reduceBNe, Int.reduceLT, Int.reduceLE, Int.reduceGT, Int.reduceGE]
  refine call_of (rel_Irreflexive t1) ?_
  rintro v2 h2 ⟨rfl, rfl⟩
  simp -dsimp only [go_sem, ↓reduceIte, reduceCtorEq, Nat.reduceEqDiff, Nat.reduceAdd, Nat.reduceLeDiff, Nat.reduceMul, Int.reduceBEq, Int.reduceBNe, Int.reduceLT, Int.reduceLE, Int.reduceGT, Int.reduceGE]
  exact p1
end Go.Proofs.Tst
namespace Go.Proofs.Tst
open Go Go.Vc
/-- A range over a function that yields numbers. -/
theorem iter_intro {P : Program} {asg body : GC} {Q : Post} {e : Env} {h : Heap} {kk : Nat} {gf : FuncId} {lb : Array Value} {l : List Nat} {C : Heap → Prop} (hit : Iter P gf lb (l.map fun (p : Nat) => [Value.int .i64 (p : Int)]) C)
    (cext : ∀ h1 h2, Ext h.size h1 h2 → C h1 → C h2) (h0C : C h)
    (J : Nat → Heap → Prop) (X : GX → Heap → Prop) (keep : ∀ d h', J d h' → C h')
    (jext : ∀ i h1 h2, Ext h.size h1 h2 → J i h1 → J i h2) (xext : ∀ x h1 h2, Ext h.size h1 h2 → X x h1 → X x h2) (h0 : J 0 h)
    (step : ∀ d q h1, h.size ≤ h1.size → l[d]? = some q → J d h1 →
      vc P none asg (thenQ (fun e2 h2 => ∀ h2', Ext h.size h2 h2' → vc P none body (roundQ (fun h3 => J (d + 1) h3) X) e2 h2') (fun _ _ _ => False)) ((kk, .int .i64 (q : Int)) :: e) h1)
    (fin : ∀ h', h.size ≤ h'.size → J l.length h' → Q .normal e h')
    (esc : ∀ x h', h.size ≤ h'.size → X x h' → x ≠ .normal ∧ Q x e h') :
    ∃ (xs : List (List Value)) (C : Heap → Prop) (I : Nat → Heap → Prop) (X : GX → Heap → Prop),
      Iter P gf lb xs C ∧ (∀ x ∈ xs, x.length = [kk].length) ∧
      (∀ h1 h2, Ext h.size h1 h2 → C h1 → C h2) ∧ (∀ i h1 h2, Ext h.size h1 h2 → I i h1 → I i h2) ∧ (∀ x h1 h2, Ext h.size h1 h2 → X x h1 → X x h2) ∧
      I 0 h ∧ C h ∧
      (∀ i x h1, h.size ≤ h1.size → xs[i]? = some x → I i h1 → C h1 → vc P none asg (thenQ (fun e2 h2 => ∀ h2', Ext h.size h2 h2' → vc P none body (roundQ (fun h3 => I (i + 1) h3 ∧ C h3) X) e2 h2') (fun _ _ _ => False)) (zipE [kk] x e) h1) ∧
      (∀ h', h.size ≤ h'.size → I xs.length h' → C h' → Q .normal e h') ∧
      (∀ x h', h.size ≤ h'.size → X x h' → x ≠ .normal ∧ Q x e h') := by
  refine ⟨_, C, J, X, hit, ?_, cext, jext, xext, h0, h0C, ?_, ?_, esc⟩
  · intro x hx; obtain ⟨q, _, rfl⟩ := List.mem_map.1 hx; rfl
  · rintro d x h1 hs hx hJ hC
    rw [List.getElem?_map, Option.map_eq_some_iff] at hx
    obtain ⟨q, hq, rfl⟩ := hx
    refine vc_mono (fun x e2 h2 h3 => ?_) (step d q h1 hs hq hJ)
    cases x with
    | normal =>
      intro h2' x'
      refine vc_mono (fun x e4 h4 h5 => ?_) (h3 h2' x')
      cases x with
      | normal => exact ⟨h5, keep _ _ h5⟩
      | ret => exact h5
      | exit j => exact h5
    | ret => exact h3
    | exit j => exact h3
  · intro h' hs hJ hC
    rw [List.length_map] at hJ
    exact fin h' hs hJ
/-- A range over the points of a row. -/
theorem points_intro {P' : Program} {asg body : GC} {Q : Post} {e : Env} {h : Heap} {kk bk n : Nat} {xv : Value} {W : Nat → Nat} {f : Nat → Bool} (hP : P' = Tryd.prog) (hb : Bits n W f) (hn : n ≤ 256) (h0C : RowC bk xv (nw n) W h)
    (J : Nat → Heap → Prop) (X : GX → Heap → Prop) (keep : ∀ d h', J d h' → RowC bk xv (nw n) W h')
    (jext : ∀ i h1 h2, Ext h.size h1 h2 → J i h1 → J i h2) (xext : ∀ x h1 h2, Ext h.size h1 h2 → X x h1 → X x h2) (h0 : J 0 h)
    (step : ∀ d q h1, h.size ≤ h1.size → (rest f n 0)[d]? = some q → q < n → f q = true → J d h1 →
      vc P' none asg (thenQ (fun e2 h2 => ∀ h2', Ext h.size h2 h2' → vc P' none body (roundQ (fun h3 => J (d + 1) h3) X) e2 h2') (fun _ _ _ => False)) ((kk, .int .i64 (q : Int)) :: e) h1)
    (fin : ∀ h', h.size ≤ h'.size → J (rest f n 0).length h' → Q .normal e h')
    (esc : ∀ x h', h.size ≤ h'.size → X x h' → x ≠ .normal ∧ Q x e h') :
    ∃ (xs : List (List Value)) (C : Heap → Prop) (I : Nat → Heap → Prop) (X : GX → Heap → Prop),
      Iter P' 105 #[.pointer (some ⟨bk, 0, none⟩)] xs C ∧ (∀ x ∈ xs, x.length = [kk].length) ∧
      (∀ h1 h2, Ext h.size h1 h2 → C h1 → C h2) ∧ (∀ i h1 h2, Ext h.size h1 h2 → I i h1 → I i h2) ∧ (∀ x h1 h2, Ext h.size h1 h2 → X x h1 → X x h2) ∧
      I 0 h ∧ C h ∧
      (∀ i x h1, h.size ≤ h1.size → xs[i]? = some x → I i h1 → C h1 → vc P' none asg (thenQ (fun e2 h2 => ∀ h2', Ext h.size h2 h2' → vc P' none body (roundQ (fun h3 => I (i + 1) h3 ∧ C h3) X) e2 h2') (fun _ _ _ => False)) (zipE [kk] x e) h1) ∧
      (∀ h', h.size ≤ h'.size → I xs.length h' → C h' → Q .normal e h') ∧
      (∀ x h', h.size ≤ h'.size → X x h' → x ≠ .normal ∧ Q x e h') := by
  subst hP
  have hit := points_1 (b := bk) (xv := xv) (w := nw n) (W := W) (fun j => (hb j).1) (by unfold nw; omega)
  rw [rest_bits hb] at hit
  exact iter_intro hit (fun h1 h2 x ⟨c1, c2, c3⟩ => ⟨x.cell c1, x.rd c2, x.tab c3⟩) h0C J X keep jext xext h0
    (fun d q h1 hs hq hJ => have hm := mem_rest.1 (List.mem_of_getElem? hq); step d q h1 hs hq hm.2.1 hm.2.2 hJ) fin esc

end Go.Proofs.Tst
namespace Go.Proofs.Tst
open Go Go.Vc
set_option maxHeartbeats 800000 in
theorem rel_Comp {n m : Nat} {M N : Nat → Nat → Bool} {p q : Value} {lo hi lo' hi' : Nat} {h : Heap} (hr : ProgAt h lo hi p n M) (hs : ProgAt h lo' hi' q m N) (ht : TabAt h) :
    Con Tryd.prog 37 #[p, q] h fun v h' => Fr 0 0 h h' ∧ ProgAt h' h.size h'.size v (max n m) (compM n M m N) := by
  refine con_rel_Comp (fun v h1 h2 x ⟨f, o⟩ => ⟨x.fr f (Nat.le_refl _), (o.ext x).mono (Nat.le_refl _) x.size⟩) ?_
  obtain ⟨hn, pb, rb, R, W, rfl, t⟩ := hr
  obtain ⟨hm, pb', rb', R', W', rfl, t'⟩ := hs
  have hmx : (if (m : Int) > (n : Int) then (m : Int) else (n : Int)) = ((max n m : Nat) : Int) := by split <;> omega
  have hcl : clampN (max n m : Nat) = max n m := by unfold clampN; omega
  have p0 : Fr 0 0 h h := .refl _ _ _
  simp -dsimp only [go_sem, ↓reduceIte, reduceCtorEq, Nat.reduceEqDiff, Nat.reduceAdd, Nat.reduceLeDiff, Nat.reduceMul, Int.reduceBEq, Int.reduceBNe, Int.reduceLT, Int.reduceLE, Int.reduceGT, Int.reduceGE]
  intro b1 h1 n1
  have n1_a := n1.at_
  have n1_z := n1.size
  replace p0 := p0.fresh (n1.fr (lo := 0) (hi := 0)) (by omega)
  have r1 := n1.row
  have tp := t.fr p0 (by omega)
  have tq := t'.fr p0 (by omega)
  simp -dsimp only [go_sem, ↓reduceIte, reduceCtorEq, Nat.reduceEqDiff, Nat.reduceAdd, Nat.reduceLeDiff, Nat.reduceMul, Int.reduceBEq, Int.reduceBNe, Int.reduceLT, Int.reduceLE, Int.reduceGT, Int.reduceGE, tp.ptr.cell, tq.ptr.cell, r1.cell]
  rw [hmx]
  refine rvc_joint (fun b2 : Nat => [(0, .pointer (some ⟨pb, 0, none⟩)), (3, .pointer (some ⟨b1, 0, none⟩)), (4, .pointer none), (5, .pointer (some ⟨b2, 0, none⟩))])
    (fun b2 h' => Fr 0 0 h h' ∧ Rw h' b1 [.pointer (some ⟨pb', 0, none⟩)] ∧ b1 < b2 ∧ ∃ pb1 rb1 R1 W1 lo1 hi1, h1.size ≤ lo1 ∧ hi1 ≤ h'.size ∧ (b2 < lo1 ∨ hi1 ≤ b2) ∧ Rw h' b2 [.pointer (some ⟨pb1, 0, none⟩)] ∧ PTab h' lo1 hi1 pb1 rb1 (max n m) R1 W1 fun _ _ => false) ?_ ?_
  · simp -dsimp only [go_sem, ↓reduceIte, reduceCtorEq, Nat.reduceEqDiff, Nat.reduceAdd, Nat.reduceLeDiff, Nat.reduceMul, Int.reduceBEq, Int.reduceBNe, Int.reduceLT, Int.reduceLE, Int.reduceGT, Int.reduceGE, r_two, r1.cell]
    refine ⟨?_, ?_⟩
    · refine call_of (rel_New _ h1) ?_
      rintro v h2 ⟨f2, t2⟩
      rw [hcl] at t2
      obtain ⟨-, pb1, rb1, R1, W1, rfl, t2⟩ := t2
      have f2_z := f2.size
      replace p0 := p0.fresh f2 (by omega)
      replace r1 := r1.fr f2 (by omega)
      have tp := t.fr p0 (by omega)
      have tq := t'.fr p0 (by omega)
      simp -dsimp only [go_sem, ↓reduceIte, reduceCtorEq, Nat.reduceEqDiff, Nat.reduceAdd, Nat.reduceLeDiff, Nat.reduceMul, Int.reduceBEq, Int.reduceBNe, Int.reduceLT, Int.reduceLE, Int.reduceGT, Int.reduceGE, tp.ptr.cell, tq.ptr.cell, r1.cell]
      intro b3 h3 n3
      have n3_a := n3.at_
      have n3_z := n3.size
      replace p0 := p0.fresh (n3.fr (lo := 0) (hi := 0)) (by omega)
      replace r1 := r1.fr (n3.fr (lo := 0) (hi := 0)) (by omega)
      replace t2 := t2.fr (n3.fr (lo := 0) (hi := 0)) (by omega)
      have r3 := n3.row
      simp -dsimp only [go_sem, ↓reduceIte, reduceCtorEq, Nat.reduceEqDiff, Nat.reduceAdd, Nat.reduceLeDiff, Nat.reduceMul, Int.reduceBEq, Int.reduceBNe, Int.reduceLT, Int.reduceLE, Int.reduceGT, Int.reduceGE, r1.cell, r3.cell]
      refine Chk_intro (r3.wr (by first | (simp; done) | (simp; omega))) fun h4 s4 => ?_
      have s4_z := s4.size
      replace p0 := p0.fresh s4.fr (by omega)
      replace r1 := r1.fr s4.fr (by omega)
      replace t2 := t2.fr s4.fr (by omega)
      replace r3 := s4.row r3
      try simp only [cl_int, cl_bool, cl_slice, cl_ptr, putAt_one, List.set_cons_zero, List.set_cons_succ, ivec_set, brow_upd] at r3
      simp -dsimp only [go_sem, ↓reduceIte, reduceCtorEq, Nat.reduceEqDiff, Nat.reduceAdd, Nat.reduceLeDiff, Nat.reduceMul, Int.reduceBEq, Int.reduceBNe, Int.reduceLT, Int.reduceLE, Int.reduceGT, Int.reduceGE, r1.cell, r3.cell]
      exact ⟨b3, by simp [Le, find], p0, r1, by omega, _, _, _, _, _, _, Nat.le_refl _, by omega, .inr (by omega), r3, t2⟩
    · intro b3 h3 n3
      have n3_a := n3.at_
      have n3_z := n3.size
      replace p0 := p0.fresh (n3.fr (lo := 0) (hi := 0)) (by omega)
      replace r1 := r1.fr (n3.fr (lo := 0) (hi := 0)) (by omega)
      have r3 := n3.row
      simp -dsimp only [go_sem, ↓reduceIte, reduceCtorEq, Nat.reduceEqDiff, Nat.reduceAdd, Nat.reduceLeDiff, Nat.reduceMul, Int.reduceBEq, Int.reduceBNe, Int.reduceLT, Int.reduceLE, Int.reduceGT, Int.reduceGE, r1.cell, r3.cell]
      refine call_of (rel_New _ h3) ?_
      rintro v h2 ⟨f2, t2⟩
      rw [hcl] at t2
      obtain ⟨-, pb1, rb1, R1, W1, rfl, t2⟩ := t2
      have f2_z := f2.size
      replace p0 := p0.fresh f2 (by omega)
      replace r1 := r1.fr f2 (by omega)
      replace r3 := r3.fr f2 (by omega)
      have tp := t.fr p0 (by omega)
      have tq := t'.fr p0 (by omega)
      simp -dsimp only [go_sem, ↓reduceIte, reduceCtorEq, Nat.reduceEqDiff, Nat.reduceAdd, Nat.reduceLeDiff, Nat.reduceMul, Int.reduceBEq, Int.reduceBNe, Int.reduceLT, Int.reduceLE, Int.reduceGT, Int.reduceGE, tp.ptr.cell, tq.ptr.cell, r1.cell, r3.cell]
      refine Chk_intro (r3.wr (by first | (simp; done) | (simp; omega))) fun h4 s4 => ?_
      have s4_z := s4.size
      replace p0 := p0.fresh s4.fr (by omega)
      replace r1 := r1.fr s4.fr (by omega)
      replace t2 := t2.fr s4.fr (by omega)
      replace r3 := s4.row r3
      try simp only [cl_int, cl_bool, cl_slice, cl_ptr, putAt_one, List.set_cons_zero, List.set_cons_succ, ivec_set, brow_upd] at r3
      simp -dsimp only [go_sem, ↓reduceIte, reduceCtorEq, Nat.reduceEqDiff, Nat.reduceAdd, Nat.reduceLeDiff, Nat.reduceMul, Int.reduceBEq, Int.reduceBNe, Int.reduceLT, Int.reduceLE, Int.reduceGT, Int.reduceGE, r1.cell, r3.cell]
      exact ⟨b3, by simp [Le, find], p0, r1, by omega, _, _, _, _, h3.size, h2.size, by omega, by omega, .inl (by omega), r3, t2⟩
  rintro b2 h2 ⟨p0, r1, hb12, pb1, rb1, R1, W1, lo1, hi1, hlo, hhi, hb2, r2, t2⟩ e ⟨e0, e3, e4, e5, -⟩
  have p0_z := p0.size
  have r1_l := r1.lt
  have r2_l := r2.lt
  have at2 := t2.at_
  have tp := t.fr p0 (by omega)
  simp -dsimp only [go_sem, ↓reduceIte, reduceCtorEq, Nat.reduceEqDiff, Nat.reduceAdd, Nat.reduceLeDiff, Nat.reduceMul, Int.reduceBEq, Int.reduceBNe, Int.reduceLT, Int.reduceLE, Int.reduceGT, Int.reduceGE, e0, e3, e4, e5, tp.ptr.cell, r1.cell, r2.cell]
  refine loop_intro (fun a : Nat => [(3, .pointer (some ⟨b1, 0, none⟩)), (5, .pointer (some ⟨b2, 0, none⟩)), (22, .slice (some ⟨rb, 0, none⟩) n n), (23, .int .i64 n), (24, .int .i64 a)])
    (fun a h' => a ≤ n ∧ Fr 0 0 h h' ∧ h2.size ≤ h'.size ∧ Rw h' b1 [.pointer (some ⟨pb', 0, none⟩)] ∧ Rw h' b2 [.pointer (some ⟨pb1, 0, none⟩)] ∧ ∃ W, PTab h' lo1 hi1 pb1 rb1 (max n m) R1 W fun i j => decide (i < a) && compM n M m N i j) (fun a => n - a) 0 ?_ ?_ ?_
  · simp [Le, find]
  · exact ⟨by omega, p0, by omega, r1, r2, _, t2.congr fun i j _ _ => by simp⟩
  rintro a h4 ⟨ha, p0, y4, r1, r2, W4, t4⟩
  have p0_z := p0.size
  have r1_l := r1.lt
  have r2_l := r2.lt
  simp -dsimp only [go_sem, ↓reduceIte, reduceCtorEq, Nat.reduceEqDiff, Nat.reduceAdd, Nat.reduceLeDiff, Nat.reduceMul, Int.reduceBEq, Int.reduceBNe, Int.reduceLT, Int.reduceLE, Int.reduceGT, Int.reduceGE, r1.cell, r2.cell]
  refine ⟨fun hlt => ?_, fun hge => ?_⟩
  · have hlt : a < n := by omega
    simp -dsimp only [go_sem, ↓reduceIte, reduceCtorEq, Nat.reduceEqDiff, Nat.reduceAdd, Nat.reduceLeDiff, Nat.reduceMul, Int.reduceBEq, Int.reduceBNe, Int.reduceLT, Int.reduceLE, Int.reduceGT, Int.reduceGE, r1.cell, r2.cell]
    refine Chk_intro (by omega) ?_
    simp -dsimp only [go_sem, ↓reduceIte, reduceCtorEq, Nat.reduceEqDiff, Nat.reduceAdd, Nat.reduceLeDiff, Nat.reduceMul, Int.reduceBEq, Int.reduceBNe, Int.reduceLT, Int.reduceLE, Int.reduceGT, Int.reduceGE, (t.fr p0 (by omega)).rowsGet hlt, r1.cell, r2.cell]
    intro b5 h5 n5
    have n5_a := n5.at_
    have n5_z := n5.size
    replace p0 := p0.fresh (n5.fr (lo := 0) (hi := 0)) (by omega)
    replace r1 := r1.fr (n5.fr (lo := 0) (hi := 0)) (by omega)
    replace r2 := r2.fr (n5.fr (lo := 0) (hi := 0)) (by omega)
    replace t4 := t4.fr (n5.fr (lo := 0) (hi := 0)) (by omega)
    have r5 := n5.row
    simp -dsimp only [go_sem, ↓reduceIte, reduceCtorEq, Nat.reduceEqDiff, Nat.reduceAdd, Nat.reduceLeDiff, Nat.reduceMul, Int.reduceBEq, Int.reduceBNe, Int.reduceLT, Int.reduceLE, Int.reduceGT, Int.reduceGE, r1.cell, r2.cell, r5.cell]
    refine Chk_intro (r5.wr (by first | (simp; done) | (simp; omega))) fun h6 s6 => ?_
    have s6_z := s6.size
    replace p0 := p0.fresh s6.fr (by omega)
    replace r1 := r1.fr s6.fr (by omega)
    replace r2 := r2.fr s6.fr (by omega)
    replace t4 := t4.fr s6.fr (by omega)
    replace r5 := s6.row r5
    try simp only [cl_int, cl_bool, cl_slice, cl_ptr, putAt_one, List.set_cons_zero, List.set_cons_succ, ivec_set, brow_upd] at r5
    simp -dsimp only [go_sem, ↓reduceIte, reduceCtorEq, Nat.reduceEqDiff, Nat.reduceAdd, Nat.reduceLeDiff, Nat.reduceMul, Int.reduceBEq, Int.reduceBNe, Int.reduceLT, Int.reduceLE, Int.reduceGT, Int.reduceGE, r1.cell, r2.cell, r5.cell]
    refine call_of (rel_points _ _ _ h6) ?_
    rintro v h7 ⟨f7, rfl, c7, z7⟩
    have f7_z := f7.size
    replace p0 := p0.fresh f7 (by omega)
    replace r1 := r1.fr f7 (by omega)
    replace r2 := r2.fr f7 (by omega)
    replace t4 := t4.fr f7 (by omega)
    replace r5 := r5.fr f7 (by omega)
    simp -dsimp only [go_sem, ↓reduceIte, reduceCtorEq, Nat.reduceEqDiff, Nat.reduceAdd, Nat.reduceLeDiff, Nat.reduceMul, Int.reduceBEq, Int.reduceBNe, Int.reduceLT, Int.reduceLE, Int.reduceGT, Int.reduceGE, r1.cell, r2.cell, r5.cell]
    have hbits := (t.row a hlt).2.2.2.2.2
    refine ⟨rfl, points_intro rfl hbits hn ⟨c7, ptab_rd (t.fr p0 (by omega)) hlt, ht.fr p0 (by omega)⟩
      (fun d h' => Fr 0 0 h h' ∧ h7.size ≤ h'.size ∧ Rw h' b1 [.pointer (some ⟨pb', 0, none⟩)] ∧ Rw h' b2 [.pointer (some ⟨pb1, 0, none⟩)] ∧ Rw h' b5 [.int .i64 a] ∧ hcell h' h6.size 0 = some (.slice (some ⟨R a, 0, none⟩) (nw n) (nw n)) ∧
        ∃ W, PTab h' lo1 hi1 pb1 rb1 (max n m) R1 W fun i j => (decide (i < a) && compM n M m N i j) || (i == a && ((rest (M a) n 0).take d).any fun q => inN m N q j))
      (fun _ _ => False) ?_ ?_ ?_ ?_ ?_ ?_ ?_⟩
    · rintro d h' ⟨q0, -, -, -, -, q1, -⟩
      exact ⟨q1, ptab_rd (t.fr q0 (by omega)) hlt, ht.fr q0 (by omega)⟩
    · rintro d h8 h9 x ⟨q0, q1, q2, q3, q3', q4, W', q5⟩
      exact ⟨q0.ext x (by omega), Nat.le_trans q1 x.size, q2.ext x, q3.ext x, q3'.ext x, x.cell q4, W', q5.ext x⟩
    · exact fun _ _ _ _ h => h
    · exact ⟨p0, Nat.le_refl _, r1, r2, r5, c7, _, t4.congr fun i j _ _ => by simp⟩
    · rintro d q h8 z8 hq hqn hqf ⟨p0, y8, r1, r2, r5, c8, W8, t8⟩
      have p0_z := p0.size
      have r1_l := r1.lt
      have r2_l := r2.lt
      have r5_l := r5.lt
      simp -dsimp only [go_sem, ↓reduceIte, reduceCtorEq, Nat.reduceEqDiff, Nat.reduceAdd, Nat.reduceLeDiff, Nat.reduceMul, Int.reduceBEq, Int.reduceBNe, Int.reduceLT, Int.reduceLE, Int.reduceGT, Int.reduceGE, r1.cell, r2.cell, r5.cell]
      intro h9 x9
      have x9_z := x9.size
      replace p0 := p0.ext x9 (by omega)
      replace r1 := r1.ext x9
      replace r2 := r2.ext x9
      replace r5 := r5.ext x9
      replace t8 := t8.ext x9
      have c8 := x9.cell c8
      have tq := t'.fr p0 (by omega)
      simp -dsimp only [go_sem, ↓reduceIte, reduceCtorEq, Nat.reduceEqDiff, Nat.reduceAdd, Nat.reduceLeDiff, Nat.reduceMul, Int.reduceBEq, Int.reduceBNe, Int.reduceLT, Int.reduceLE, Int.reduceGT, Int.reduceGE, tq.ptr.cell, r1.cell, r2.cell, r5.cell]
      refine ⟨fun hqm => ?_, fun hqm => ?_⟩
      · have hqm : q < m := by omega
        obtain ⟨g1, g2, g3, g4, g5, g6⟩ := t8.row a (by omega)
        simp -dsimp only [go_sem, ↓reduceIte, reduceCtorEq, Nat.reduceEqDiff, Nat.reduceAdd, Nat.reduceLeDiff, Nat.reduceMul, Int.reduceBEq, Int.reduceBNe, Int.reduceLT, Int.reduceLE, Int.reduceGT, Int.reduceGE, tq.ptr.cell, t8.ptr.cell, r1.cell, r2.cell, r5.cell]
        refine Chk_intro (by omega) ?_
        simp -dsimp only [go_sem, ↓reduceIte, reduceCtorEq, Nat.reduceEqDiff, Nat.reduceAdd, Nat.reduceLeDiff, Nat.reduceMul, Int.reduceBEq, Int.reduceBNe, Int.reduceLT, Int.reduceLE, Int.reduceGT, Int.reduceGE, t8.rowsGet (show a < max n m by omega), tq.ptr.cell, r1.cell, r2.cell, r5.cell]
        refine Chk_intro (by omega) ?_
        simp -dsimp only [go_sem, ↓reduceIte, reduceCtorEq, Nat.reduceEqDiff, Nat.reduceAdd, Nat.reduceLeDiff, Nat.reduceMul, Int.reduceBEq, Int.reduceBNe, Int.reduceLT, Int.reduceLE, Int.reduceGT, Int.reduceGE, tq.rowsGet hqm, r1.cell, r2.cell, r5.cell]
        intro b10 h10 n10
        have n10_a := n10.at_
        have n10_z := n10.size
        replace p0 := p0.fresh (n10.fr (lo := 0) (hi := 0)) (by omega)
        replace r1 := r1.fr (n10.fr (lo := 0) (hi := 0)) (by omega)
        replace r2 := r2.fr (n10.fr (lo := 0) (hi := 0)) (by omega)
        replace r5 := r5.fr (n10.fr (lo := 0) (hi := 0)) (by omega)
        replace t8 := t8.fr (n10.fr (lo := 0) (hi := 0)) (by omega)
        have r10 := n10.row
        obtain ⟨g1, g2, g3, g4, g5, g6⟩ := t8.row a (by omega)
        have tq := t'.fr p0 (by omega)
        obtain ⟨f1, f2, f3, f4, f5, f6⟩ := tq.row q hqm
        simp -dsimp only [go_sem, ↓reduceIte, reduceCtorEq, Nat.reduceEqDiff, Nat.reduceAdd, Nat.reduceLeDiff, Nat.reduceMul, Int.reduceBEq, Int.reduceBNe, Int.reduceLT, Int.reduceLE, Int.reduceGT, Int.reduceGE, tq.ptr.cell, t8.ptr.cell, t8.rowsGet (show a < max n m by omega), tq.rowsGet hqm, r1.cell, r2.cell, r5.cell, r10.cell]
        refine call_of (row_join g1 f1 (r10.rd rfl) (fun j => (g6 j).1) (fun j => (f6 j).1) (by unfold nw; omega) (by unfold nw; omega)) ?_
        rintro _ h11 ⟨f11, z11, r11⟩
        have t11 := t8.updRow (by omega) f11 r11 (g6.or f6 (by omega))
        have c10 := (n10.fr (lo := 0) (hi := 0)).keep c8 (by omega)
        have f11_z := f11.size
        replace p0 := p0.fresh f11 (by omega)
        replace r1 := r1.fr f11 (by omega)
        replace r2 := r2.fr f11 (by omega)
        replace r5 := r5.fr f11 (by omega)
        have tq := t'.fr p0 (by omega)
        simp -dsimp only [go_sem, ↓reduceIte, reduceCtorEq, Nat.reduceEqDiff, Nat.reduceAdd, Nat.reduceLeDiff, Nat.reduceMul, Int.reduceBEq, Int.reduceBNe, Int.reduceLT, Int.reduceLE, Int.reduceGT, Int.reduceGE, t11.ptr.cell, t11.rowsGet (show a < max n m by omega), tq.ptr.cell, tq.rowsGet hqm, r1.cell, r2.cell, r5.cell]
        refine ⟨p0, by omega, r1, r2, r5, f11.keep c10 (by omega), _, t11.congr fun i j hi hj => ?_⟩
        rw [List.take_add_one, hq, Option.toList_some, List.any_append]
        by_cases hia : i = a
        · subst hia
          rw [upd_same]
          simp [inN, hqm]
        · rw [upd_ne _ _ hia]
          have e : (i == a) = false := by simpa using hia
          simp [e]
      · simp -dsimp only [go_sem, ↓reduceIte, reduceCtorEq, Nat.reduceEqDiff, Nat.reduceAdd, Nat.reduceLeDiff, Nat.reduceMul, Int.reduceBEq, Int.reduceBNe, Int.reduceLT, Int.reduceLE, Int.reduceGT, Int.reduceGE, r1.cell, r2.cell, r5.cell]
        refine ⟨p0, by omega, r1, r2, r5, c8, _, t8.congr fun i j hi hj => ?_⟩
        rw [List.take_add_one, hq, Option.toList_some, List.any_append]
        have : inN m N q j = false := inN_out (by omega)
        simp [this]
    · rintro h8 z8 ⟨p0, y8, r1, r2, r5, c8, W8, t8⟩
      simp -dsimp only [go_sem, ↓reduceIte, reduceCtorEq, Nat.reduceEqDiff, Nat.reduceAdd, Nat.reduceLeDiff, Nat.reduceMul, Int.reduceBEq, Int.reduceBNe, Int.reduceLT, Int.reduceLE, Int.reduceGT, Int.reduceGE, r1.cell, r2.cell, r5.cell]
      simp -dsimp (disch := omega) only [wrap64]
      refine ⟨a + 1, by omega, by simp [Le, find], by omega, p0, by omega, r1, r2, _, t8.congr fun i j hi hj => ?_⟩
      rw [List.take_length]
      by_cases hia : i = a
      · subst hia
        have : (rest (M i) n 0).any (fun q => inN m N q j) = compM n M m N i j := by
          rw [Bool.eq_iff_iff, compM_true, List.any_eq_true]
          constructor
          · rintro ⟨k, hk, h1⟩
            have := mem_rest.1 hk
            exact ⟨k, inN_true.2 ⟨hlt, this.2.1, this.2.2⟩, h1⟩
          · rintro ⟨k, h1, h2⟩
            have := inN_true.1 h1
            exact ⟨k, mem_rest.2 ⟨by omega, this.2.1, this.2.2⟩, h2⟩
        simp [this]
      · have e : (i == a) = false := by simpa using hia
        have : (i < a + 1) = (i < a) := by simp; omega
        simp [this, e]
    · exact fun _ _ _ h => h.elim
  · have : a = n := by omega
    subst this
    simp -dsimp only [go_sem, ↓reduceIte, reduceCtorEq, Nat.reduceEqDiff, Nat.reduceAdd, Nat.reduceLeDiff, Nat.reduceMul, Int.reduceBEq, Int.reduceBNe, Int.reduceLT, Int.reduceLE, Int.reduceGT, Int.reduceGE, r1.cell, r2.cell]
    refine ⟨p0, by omega, _, _, _, _, rfl, ((t4.mono' (hi' := h4.size) (by omega)).lower (by omega)).congr fun i j hi hj => ?_⟩
    by_cases hia : i < a
    · simp [hia]
    · have : compM a M m N i j = false := by
        rw [Bool.eq_false_iff]; intro h'
        obtain ⟨k, h1, _⟩ := compM_true.1 h'
        exact hia (inN_true.1 h1).1
      simp [this]
end Go.Proofs.Tst
