/-
  Contracts of functions that the law reaches: what each returns and what it leaves in memory. Conditions stand in each.
-/
import Derived.Test.YtgedofjefepebaaDoorT1
set_option linter.all false
set_option maxRecDepth 2000
namespace Go.Proofs.Tst
open Go Go.Vc
theorem countP_upd {f g : Nat → Bool} {p : Nat} : ∀ (n : Nat), (∀ a, a ≠ p → f a = g a) → (List.range n).countP f + (if p < n then (g p).toNat else 0) = (List.range n).countP g + (if p < n then (f p).toNat else 0)
  | 0, _ => by simp
  | n + 1, h => by
    have ih := countP_upd n h
    rw [List.range_succ, List.countP_append, List.countP_append]
    by_cases hp : p = n
    · subst hp
      simp only [Nat.lt_irrefl, if_false, Nat.lt_succ_self, if_true] at ih ⊢
      rw [List.countP_singleton, List.countP_singleton]
      cases f p <;> cases g p <;> simp only [Bool.toNat_true, Bool.toNat_false, if_true, if_false, Bool.false_eq_true] <;> omega
    · have : f n = g n := h n (fun h => hp h.symm)
      have e : (p < n + 1) = (p < n) := by simp; omega
      simp only [e, List.countP_cons, List.countP_nil, this]
      omega
theorem cnt_upd {n : Nat} {M : Nat → Nat → Bool} {D : Nat → Bool} {p q : Nat} {b : Bool} (hp : p < n) (hD : D p = !b) :
    cnt n M (fun k => if k = p then b else D k) q + (M p q && b).toNat = cnt n M D q + (M p q && !b).toNat := by
  unfold cnt
  have := countP_upd (f := fun a => M a q && !(if a = p then b else D a)) (g := fun a => M a q && !D a) (p := p) n (fun a ha => by simp [ha])
  simp only [hp, if_true, hD, Bool.not_not] at this
  exact this

theorem chooser_place {h : Heap} {lo hi n : Nat} {c : ChB} {M : Nat → Nat → Bool} {D : Nat → Bool} (t : Chs h lo hi c n M D) {p : Nat} (hp : p < n) (b : Bool) (hD : D p = !b) :
    Con Tryd.prog 104 #[.int .i64 p, .bool b, .pointer (some ⟨c.bp, 0, none⟩), .pointer (some ⟨c.bb, 0, none⟩), .pointer (some ⟨c.bw, 0, none⟩)] h
      fun v h' => Fr lo hi h h' ∧ h'.size = h.size ∧ Chs h' lo hi c n M (fun k => if k = p then b else D k) := by
  refine con_order_chooser_2 ?_
  have hs := t.small
  have hne := t.ne
  have hat := t.at_
  simp -dsimp only [go_sem, ↓reduceIte, reduceCtorEq, Nat.reduceEqDiff, Nat.reduceAdd, Nat.reduceLeDiff, Nat.reduceMul, Int.reduceBEq, Int.reduceBNe, Int.reduceLT, Int.reduceLE, Int.reduceGT, Int.reduceGE, t.rp.cell]
  refine Chk_intro (by omega) ?_
  simp -dsimp only [go_sem, ↓reduceIte, reduceCtorEq, Nat.reduceEqDiff, Nat.reduceAdd, Nat.reduceLeDiff, Nat.reduceMul, Int.reduceBEq, Int.reduceBNe, Int.reduceLT, Int.reduceLE, Int.reduceGT, Int.reduceGE]
  refine Chk_intro (t.placed.wr (by simp; omega)) fun h1 s1 => ?_
  have z1 := s1.size
  have rp1 := s1.row t.placed
  rw [cl_bool, putAt_one, brow_set] at rp1
  have rn1 := s1.rw t.rn (by omega); have rw1 := s1.rw t.rw_ (by omega); have rb1 := s1.rw t.rb (by omega); have rpp1 := s1.rw t.rp (by omega); have wt1 := s1.rw t.waits (by omega); have bk1 := s1.rw t.behind (by omega)
  have beh1 : ∀ p, p < n → Holder 1 h1 (c.B p) (rest (M p) n 0).length (natsV (rest (M p) n 0)) lo := fun p hp => (t.beh p hp).1.fr s1.fr (by
    have := (t.beh p hp).1.at_; have := (t.beh p hp).2; omega)
  simp -dsimp only [go_sem, ↓reduceIte, reduceCtorEq, Nat.reduceEqDiff, Nat.reduceAdd, Nat.reduceLeDiff, Nat.reduceMul, Int.reduceBEq, Int.reduceBNe, Int.reduceLT, Int.reduceLE, Int.reduceGT, Int.reduceGE, rb1.cell]
  refine Chk_intro (by omega) ?_
  have hBp : ((List.range n).map c.B)[p]? = some (c.B p) := by simp [hp]
  have hB1 := (beh1 p hp)
  obtain ⟨ba, bc, hBv⟩ := hB1.is
  rw [hBv] at hBp hB1
  have hB2 := (t.beh p hp).2
  rw [hBv] at hB2
  simp -dsimp only [go_sem, ↓reduceIte, reduceCtorEq, Nat.reduceEqDiff, Nat.reduceAdd, Nat.reduceLeDiff, Nat.reduceMul, Int.reduceBEq, Int.reduceBNe, Int.reduceLT, Int.reduceLE, Int.reduceGT, Int.reduceGE, bk1.cell, hBp]
  have hLn := length_rest_le (M p) n 0
  refine loop_intro (fun j : Nat => [(1, .bool b), (4, .pointer (some ⟨c.bw, 0, none⟩)), (16, .slice ba (rest (M p) n 0).length bc), (17, .int .i64 (rest (M p) n 0).length), (18, .int .i64 j)])
    (fun j h' => j ≤ (rest (M p) n 0).length ∧ Fr c.ww (c.ww + 1) h1 h' ∧ h'.size = h1.size ∧ Rw h' c.ww (cntV n fun q => if q ∈ (rest (M p) n 0).take j then cnt n M (fun k => if k = p then b else D k) q else cnt n M D q)) (fun j => (rest (M p) n 0).length - j) 0 ?_ ?_ ?_
  · simp [Le, find]
  · exact ⟨by omega, .refl _ _ _, rfl, by simpa using wt1⟩
  rintro j h2 ⟨hj, f2, z2, wt2⟩
  have rw2 := rw1.fr f2 (by omega)
  simp -dsimp only [go_sem, ↓reduceIte, reduceCtorEq, Nat.reduceEqDiff, Nat.reduceAdd, Nat.reduceLeDiff, Nat.reduceMul, Int.reduceBEq, Int.reduceBNe, Int.reduceLT, Int.reduceLE, Int.reduceGT, Int.reduceGE]
  refine ⟨fun hlt => ?_, fun hge => ?_⟩
  · have hlt : j < (rest (M p) n 0).length := by omega
    have hq : (rest (M p) n 0)[j]? = some (rest (M p) n 0)[j] := by simp
    have htk : (rest (M p) n 0).take (j + 1) = (rest (M p) n 0).take j ++ [(rest (M p) n 0)[j]] := by rw [List.take_succ_eq_append_getElem hlt]
    have hmem : (rest (M p) n 0)[j] ∈ rest (M p) n 0 := List.getElem_mem _
    have hnot : (rest (M p) n 0)[j] ∉ (rest (M p) n 0).take j := by
      have hnd : (rest (M p) n 0).Nodup := by unfold rest; exact List.Nodup.sublist List.filter_sublist (List.nodup_range')
      have : ((rest (M p) n 0).take (j + 1)).Nodup := hnd.sublist (List.take_sublist _ _)
      rw [htk, List.nodup_append] at this
      exact fun hm => this.2.2 _ hm _ (by simp) rfl
    generalize (rest (M p) n 0)[j] = q at hq htk hmem hnot
    obtain ⟨_, hqn, hMq⟩ := mem_rest.1 hmem
    have hcu := cnt_upd (q := q) (M := M) hp hD
    rw [hMq] at hcu
    have hc1 := cnt_le n M D q
    have hc2 := cnt_le n M (fun k => if k = p then b else D k) q
    have hrd : Rd 1 h2 (.slice ba (rest (M p) n 0).length bc) (rest (M p) n 0).length (natsV (rest (M p) n 0)) := (hB1.fr f2 (by have := hB1.at_; omega)).rd
    have fin : ∀ h3, Sto h2 h3 c.ww q [.int .i64 ((cnt n M (fun k => if k = p then b else D k) q : Nat) : Int)] → Fr c.ww (c.ww + 1) h1 h3 ∧ h3.size = h1.size ∧ Rw h3 c.ww (cntV n fun x => if x ∈ (rest (M p) n 0).take (j + 1) then cnt n M (fun k => if k = p then b else D k) x else cnt n M D x) := fun h3 s3 => by
      refine ⟨f2.trans s3.fr, by have := s3.size; omega, ?_⟩
      have r := s3.row wt2
      rw [putAt_one, cntV_set] at r
      rw [cntV_congr (fun x hx => ?_)]
      · exact r
      · rw [htk]
        by_cases hxq : x = q
        · subst hxq; simp
        · simp [hxq]
    simp -dsimp only [go_sem, ↓reduceIte, reduceCtorEq, Nat.reduceEqDiff, Nat.reduceAdd, Nat.reduceLeDiff, Nat.reduceMul, Int.reduceBEq, Int.reduceBNe, Int.reduceLT, Int.reduceLE, Int.reduceGT, Int.reduceGE]
    refine Chk_intro (by omega) (hrd.idx (by omega) fun b5 o5 c5 => ?_)
    simp -dsimp only [go_sem, ↓reduceIte, reduceCtorEq, Nat.reduceEqDiff, Nat.reduceAdd, Nat.reduceLeDiff, Nat.reduceMul, Int.reduceBEq, Int.reduceBNe, Int.reduceLT, Int.reduceLE, Int.reduceGT, Int.reduceGE, c5 j _ (natsV_get hq)]
    cases b with
    | true =>
      refine ⟨fun _ => ?_, fun h => absurd rfl h⟩
      simp -dsimp only [go_sem, ↓reduceIte, reduceCtorEq, Nat.reduceEqDiff, Nat.reduceAdd, Nat.reduceLeDiff, Nat.reduceMul, Int.reduceBEq, Int.reduceBNe, Int.reduceLT, Int.reduceLE, Int.reduceGT, Int.reduceGE, rw2.cell]
      refine Chk_intro (by omega) ?_
      simp -dsimp only [go_sem, ↓reduceIte, reduceCtorEq, Nat.reduceEqDiff, Nat.reduceAdd, Nat.reduceLeDiff, Nat.reduceMul, Int.reduceBEq, Int.reduceBNe, Int.reduceLT, Int.reduceLE, Int.reduceGT, Int.reduceGE, wt2.cell, cntV_get hqn, hnot]
      refine Chk_intro (by omega) ?_
      simp -dsimp only [go_sem, ↓reduceIte, reduceCtorEq, Nat.reduceEqDiff, Nat.reduceAdd, Nat.reduceLeDiff, Nat.reduceMul, Int.reduceBEq, Int.reduceBNe, Int.reduceLT, Int.reduceLE, Int.reduceGT, Int.reduceGE]
      refine Chk_intro (wt2.wr (by simp; omega)) fun h3 s3 => ?_
      rw [cl_int, wrap64 (by omega) (by omega), show ((cnt n M D q : Nat) : Int) - 1 = ((cnt n M (fun k => if k = p then true else D k) q : Nat) : Int) from by simp only [Bool.true_and, Bool.not_true, Bool.not_false, Bool.toNat_true, Bool.toNat_false] at hcu; omega] at s3
      simp -dsimp only [go_sem, ↓reduceIte, reduceCtorEq, Nat.reduceEqDiff, Nat.reduceAdd, Nat.reduceLeDiff, Nat.reduceMul, Int.reduceBEq, Int.reduceBNe, Int.reduceLT, Int.reduceLE, Int.reduceGT, Int.reduceGE]
      simp -dsimp (disch := omega) only [wrap64]
      exact ⟨j + 1, by omega, by simp [Le, find], by omega, fin h3 s3⟩
    | false =>
      refine ⟨fun h => absurd h (by decide), fun _ => ?_⟩
      simp -dsimp only [go_sem, ↓reduceIte, reduceCtorEq, Nat.reduceEqDiff, Nat.reduceAdd, Nat.reduceLeDiff, Nat.reduceMul, Int.reduceBEq, Int.reduceBNe, Int.reduceLT, Int.reduceLE, Int.reduceGT, Int.reduceGE, rw2.cell]
      refine Chk_intro (by omega) ?_
      simp -dsimp only [go_sem, ↓reduceIte, reduceCtorEq, Nat.reduceEqDiff, Nat.reduceAdd, Nat.reduceLeDiff, Nat.reduceMul, Int.reduceBEq, Int.reduceBNe, Int.reduceLT, Int.reduceLE, Int.reduceGT, Int.reduceGE, wt2.cell, cntV_get hqn, hnot]
      refine Chk_intro (by omega) ?_
      simp -dsimp only [go_sem, ↓reduceIte, reduceCtorEq, Nat.reduceEqDiff, Nat.reduceAdd, Nat.reduceLeDiff, Nat.reduceMul, Int.reduceBEq, Int.reduceBNe, Int.reduceLT, Int.reduceLE, Int.reduceGT, Int.reduceGE]
      refine Chk_intro (wt2.wr (by simp; omega)) fun h3 s3 => ?_
      rw [cl_int, wrap64 (by omega) (by omega), show ((cnt n M D q : Nat) : Int) + 1 = ((cnt n M (fun k => if k = p then false else D k) q : Nat) : Int) from by simp only [Bool.true_and, Bool.not_true, Bool.not_false, Bool.toNat_true, Bool.toNat_false] at hcu; omega] at s3
      simp -dsimp only [go_sem, ↓reduceIte, reduceCtorEq, Nat.reduceEqDiff, Nat.reduceAdd, Nat.reduceLeDiff, Nat.reduceMul, Int.reduceBEq, Int.reduceBNe, Int.reduceLT, Int.reduceLE, Int.reduceGT, Int.reduceGE]
      simp -dsimp (disch := omega) only [wrap64]
      exact ⟨j + 1, by omega, by simp [Le, find], by omega, fin h3 s3⟩
  · have : j = (rest (M p) n 0).length := by omega
    subst this
    simp -dsimp only [go_sem, ↓reduceIte, reduceCtorEq, Nat.reduceEqDiff, Nat.reduceAdd, Nat.reduceLeDiff, Nat.reduceMul, Int.reduceBEq, Int.reduceBNe, Int.reduceLT, Int.reduceLE, Int.reduceGT, Int.reduceGE]
    refine ⟨(s1.fr.mono (by omega)).trans (f2.mono (by omega)), by omega, rn1.fr f2 (by omega), rw2, rb1.fr f2 (by omega), rpp1.fr f2 (by omega), ?_, rp1.fr f2 (by omega), bk1.fr f2 (by omega), fun x hx => ?_, hat, hne, hs⟩
    · rw [cntV_congr (fun x hx => ?_)]
      · exact wt2
      · rw [List.take_length]
        have hcu := cnt_upd (q := x) (M := M) hp hD
        by_cases hx' : M p x = true
        · rw [if_pos (mem_rest.2 ⟨by omega, hx, hx'⟩)]
        · rw [if_neg (fun h => hx' (mem_rest.1 h).2.2)]
          have : M p x = false := by simpa using hx'
          rw [this] at hcu; simpa using hcu
    · obtain ⟨g1, g2, g3, g4⟩ := t.beh x hx
      exact ⟨(beh1 x hx).fr f2 (by have := g1.at_; omega), g2, g3, g4⟩
end Go.Proofs.Tst
namespace Go.Proofs.Tst
open Go Go.Vc
theorem order_chooser {n : Nat} {M : Nat → Nat → Bool} {p : Value} {lo hi : Nat} {h : Heap} (hr : ProgAt h lo hi p n M) (ht : TabAt h) :
    Con Tryd.prog 73 #[p] h fun v h' => Fr 0 0 h h' ∧ ∃ c : ChB, v = .tuple #[c.next, c.place] ∧ Chs h' h.size h'.size c n M fun _ => false := by
  refine con_order_chooser ?_
  have hn := hr.1
  simp -dsimp only [go_sem, ↓reduceIte, reduceCtorEq, Nat.reduceEqDiff, Nat.reduceAdd, Nat.reduceLeDiff, Nat.reduceMul, Int.reduceBEq, Int.reduceBNe, Int.reduceLT, Int.reduceLE, Int.reduceGT, Int.reduceGE]
  refine call_of (rel_Len hr) ?_
  rintro v h0 ⟨rfl, rfl⟩
  simp -dsimp only [go_sem, ↓reduceIte, reduceCtorEq, Nat.reduceEqDiff, Nat.reduceAdd, Nat.reduceLeDiff, Nat.reduceMul, Int.reduceBEq, Int.reduceBNe, Int.reduceLT, Int.reduceLE, Int.reduceGT, Int.reduceGE]
  intro bn h1 n1
  simp -dsimp only [go_sem, ↓reduceIte, reduceCtorEq, Nat.reduceEqDiff, Nat.reduceAdd, Nat.reduceLeDiff, Nat.reduceMul, Int.reduceBEq, Int.reduceBNe, Int.reduceLT, Int.reduceLE, Int.reduceGT, Int.reduceGE]
  refine ⟨n1.row.wr (by simp), fun h2 s2 => ?_⟩
  have rn2 := s2.row n1.row
  simp -dsimp only [go_sem, ↓reduceIte, reduceCtorEq, Nat.reduceEqDiff, Nat.reduceAdd, Nat.reduceLeDiff, Nat.reduceMul, Int.reduceBEq, Int.reduceBNe, Int.reduceLT, Int.reduceLE, Int.reduceGT, Int.reduceGE] at rn2
  have a1 := n1.at_; have z1 := n1.size; have z2 := s2.size
  have p2 : Fr 0 0 h0 h2 := (n1.fr (lo := 0) (hi := 0)).fresh s2.fr (by omega)
  simp -dsimp only [go_sem, ↓reduceIte, reduceCtorEq, Nat.reduceEqDiff, Nat.reduceAdd, Nat.reduceLeDiff, Nat.reduceMul, Int.reduceBEq, Int.reduceBNe, Int.reduceLT, Int.reduceLE, Int.reduceGT, Int.reduceGE, rn2.cell]
  refine Chk_intro (by omega) ?_
  intro ww h3 n3
  simp -dsimp only [go_sem, ↓reduceIte, reduceCtorEq, Nat.reduceEqDiff, Nat.reduceAdd, Nat.reduceLeDiff, Nat.reduceMul, Int.reduceBEq, Int.reduceBNe, Int.reduceLT, Int.reduceLE, Int.reduceGT, Int.reduceGE]
  intro bw h4 n4
  simp -dsimp only [go_sem, ↓reduceIte, reduceCtorEq, Nat.reduceEqDiff, Nat.reduceAdd, Nat.reduceLeDiff, Nat.reduceMul, Int.reduceBEq, Int.reduceBNe, Int.reduceLT, Int.reduceLE, Int.reduceGT, Int.reduceGE]
  refine ⟨n4.row.wr (by simp), fun h5 s5 => ?_⟩
  have a3 := n3.at_; have z3 := n3.size; have a4 := n4.at_; have z4 := n4.size; have z5 := s5.size
  have rw5 := s5.row n4.row
  have rw_w5 := s5.rw (n4.rw n3.row) (by omega)
  have rn5 := s5.rw (n4.rw (n3.rw rn2)) (by omega)
  have p5 : Fr 0 0 h0 h5 := ((p2.trans n3.fr).trans n4.fr).fresh s5.fr (by omega)
  simp -dsimp only [go_sem, ↓reduceIte, reduceCtorEq, Nat.reduceEqDiff, Nat.reduceAdd, Nat.reduceLeDiff, Nat.reduceMul, Int.reduceBEq, Int.reduceBNe, Int.reduceLT, Int.reduceLE, Int.reduceGT, Int.reduceGE] at rw5
  simp -dsimp only [go_sem, ↓reduceIte, reduceCtorEq, Nat.reduceEqDiff, Nat.reduceAdd, Nat.reduceLeDiff, Nat.reduceMul, Int.reduceBEq, Int.reduceBNe, Int.reduceLT, Int.reduceLE, Int.reduceGT, Int.reduceGE, rn5.cell]
  refine Chk_intro (by omega) ?_
  intro bk h6 n6
  simp -dsimp only [go_sem, ↓reduceIte, reduceCtorEq, Nat.reduceEqDiff, Nat.reduceAdd, Nat.reduceLeDiff, Nat.reduceMul, Int.reduceBEq, Int.reduceBNe, Int.reduceLT, Int.reduceLE, Int.reduceGT, Int.reduceGE]
  intro bb h7 n7
  simp -dsimp only [go_sem, ↓reduceIte, reduceCtorEq, Nat.reduceEqDiff, Nat.reduceAdd, Nat.reduceLeDiff, Nat.reduceMul, Int.reduceBEq, Int.reduceBNe, Int.reduceLT, Int.reduceLE, Int.reduceGT, Int.reduceGE]
  refine ⟨n7.row.wr (by simp), fun h8 s8 => ?_⟩
  have a6 := n6.at_; have z6 := n6.size; have a7 := n7.at_; have z7 := n7.size; have z8 := s8.size
  have rb8 := s8.row n7.row
  have rk8 := s8.rw (n7.rw n6.row) (by omega)
  have rw8 := s8.rw (n7.rw (n6.rw rw5)) (by omega)
  have rww8 := s8.rw (n7.rw (n6.rw rw_w5)) (by omega)
  have rn8 := s8.rw (n7.rw (n6.rw rn5)) (by omega)
  have p8 : Fr 0 0 h0 h8 := ((p5.trans n6.fr).trans n7.fr).fresh s8.fr (by omega)
  simp -dsimp only [go_sem, ↓reduceIte, reduceCtorEq, Nat.reduceEqDiff, Nat.reduceAdd, Nat.reduceLeDiff, Nat.reduceMul, Int.reduceBEq, Int.reduceBNe, Int.reduceLT, Int.reduceLE, Int.reduceGT, Int.reduceGE] at rb8
  rw [zeros_one, Int.toNat_natCast] at rk8 rww8
  simp -dsimp only [go_sem, ↓reduceIte, reduceCtorEq, Nat.reduceEqDiff, Nat.reduceAdd, Nat.reduceLeDiff, Nat.reduceMul, Int.reduceBEq, Int.reduceBNe, Int.reduceLT, Int.reduceLE, Int.reduceGT, Int.reduceGE]
  refine call_of (rel_Pairs (hr.fr p8 (by omega)) (ht.fr p8 (by omega))) ?_
  rintro v h9 ⟨p9, o9⟩
  obtain ⟨pa, pc, rfl⟩ := o9.is
  have y9 := p9.size
  have w9 := o9.at_
  simp -dsimp only [go_sem, ↓reduceIte, reduceCtorEq, Nat.reduceEqDiff, Nat.reduceAdd, Nat.reduceLeDiff, Nat.reduceMul, Int.reduceBEq, Int.reduceBNe, Int.reduceLT, Int.reduceLE, Int.reduceGT, Int.reduceGE]
  -- the pairs, one by one
  refine loop_intro (fun j : Nat => [(4, .pointer (some ⟨bn, 0, none⟩)), (5, .pointer (some ⟨bw, 0, none⟩)), (6, .pointer (some ⟨bb, 0, none⟩)), (17, .slice pa (pairsOf n M).length pc), (18, .int .i64 (pairsOf n M).length), (19, .int .i64 j)])
    (fun j h' => j ≤ (pairsOf n M).length ∧ Fr 0 0 h0 h' ∧ h9.size ≤ h'.size ∧ Rw h' bn [.int .i64 n] ∧ Rw h' bw [.slice (some ⟨ww, 0, none⟩) n n] ∧ Rw h' bb [.slice (some ⟨bk, 0, none⟩) n n] ∧
      Holder 2 h' (.slice pa (pairsOf n M).length pc) (pairsOf n M).length (pairsV (pairsOf n M)) h8.size ∧
      Rw h' ww (cntV n fun q => ((pairsOf n M).take j).countP fun p => p.2 == (q : Int)) ∧
      ∃ B : Nat → Value, Rw h' bk ((List.range n).map B) ∧ (∀ a, a < n → Holder 1 h' (B a) ((((pairsOf n M).take j).filter fun p => p.1 == (a : Int)).map (fun p => p.2.toNat)).length (natsV ((((pairsOf n M).take j).filter fun p => p.1 == (a : Int)).map (fun p => p.2.toNat))) h9.size) ∧
        ∀ a b, a < n → b < n → a ≠ b → bh (B a) = 0 ∨ bl (B a) ≠ bl (B b))
    (fun j => (pairsOf n M).length - j) 0 ?_ ?_ ?_
  · simp [Le, find]
  · refine ⟨by omega, p8.trans p9, by omega, rn8.fr p9 (by omega), rw8.fr p9 (by omega), rb8.fr p9 (by omega), o9, ?_, fun _ => .slice none 0 0, ?_, fun a ha => Holder.none _ _ _, fun a b ha hb hab => .inl rfl⟩
    · have := rww8.fr p9 (by omega)
      have e : List.replicate n (Value.int .i64 0) = cntV n fun q => ((pairsOf n M).take 0).countP fun p => p.2 == (q : Int) := by
        apply List.ext_getElem?; intro k
        by_cases hk : k < n
        · rw [cntV_get hk]; simp [hk]
        · rw [List.getElem?_eq_none (by simp; omega), List.getElem?_eq_none (by simp; omega)]
      rw [e] at this; exact this
    · have := rk8.fr p9 (by omega)
      have e : List.replicate n (Value.slice none 0 0) = (List.range n).map fun _ => Value.slice none 0 0 := by
        apply List.ext_getElem?; intro k
        by_cases hk : k < n
        · simp [hk]
        · simp [hk]
      rw [e] at this; exact this
  rintro j h10 ⟨hj, p10, y10, rn, rw', rb, od, rww, B, rk, hB, hBB⟩
  simp -dsimp only [go_sem, ↓reduceIte, reduceCtorEq, Nat.reduceEqDiff, Nat.reduceAdd, Nat.reduceLeDiff, Nat.reduceMul, Int.reduceBEq, Int.reduceBNe, Int.reduceLT, Int.reduceLE, Int.reduceGT, Int.reduceGE]
  refine ⟨fun hlt => ?_, fun hge => ?_⟩
  · have hlt : j < (pairsOf n M).length := by omega
    have hq : (pairsOf n M)[j]? = some (pairsOf n M)[j] := by simp
    have htk : (pairsOf n M).take (j + 1) = (pairsOf n M).take j ++ [(pairsOf n M)[j]] := by rw [List.take_succ_eq_append_getElem hlt]
    have hmem : (pairsOf n M)[j] ∈ pairsOf n M := List.getElem_mem _
    generalize (pairsOf n M)[j] = q at hq htk hmem
    obtain ⟨a, b, ha, hb, hm, rfl⟩ := mem_pairsOf.1 hmem
    have hpl := length_pairsTo_le n M n
    have g3 : n * n ≤ 256 * 256 := Nat.mul_le_mul (by omega) (by omega)
    have g4 : (pairsOf n M).length ≤ n * n := hpl
    have k1 := rn.lt; have k2 := rw'.lt; have k3 := rb.lt; have k4 := rww.lt; have k5 := rk.lt
    simp -dsimp only [go_sem, ↓reduceIte, reduceCtorEq, Nat.reduceEqDiff, Nat.reduceAdd, Nat.reduceLeDiff, Nat.reduceMul, Int.reduceBEq, Int.reduceBNe, Int.reduceLT, Int.reduceLE, Int.reduceGT, Int.reduceGE]
    refine Chk_intro (by omega) (od.rd.pair hq fun b6 o6 c6 c7 => ?_)
    simp -dsimp only [go_sem, ↓reduceIte, reduceCtorEq, Nat.reduceEqDiff, Nat.reduceAdd, Nat.reduceLeDiff, Nat.reduceMul, Int.reduceBEq, Int.reduceBNe, Int.reduceLT, Int.reduceLE, Int.reduceGT, Int.reduceGE, c6, c7]
    intro b11 h11 n11
    simp -dsimp only [go_sem, ↓reduceIte, reduceCtorEq, Nat.reduceEqDiff, Nat.reduceAdd, Nat.reduceLeDiff, Nat.reduceMul, Int.reduceBEq, Int.reduceBNe, Int.reduceLT, Int.reduceLE, Int.reduceGT, Int.reduceGE]
    refine ⟨n11.row.wr (by simp), fun h12 s12 => ?_⟩
    have a11 := n11.at_; have z11 := n11.size; have z12 := s12.size
    have r12 := s12.row n11.row
    simp -dsimp only [go_sem, ↓reduceIte, reduceCtorEq, Nat.reduceEqDiff, Nat.reduceAdd, Nat.reduceLeDiff, Nat.reduceMul, Int.reduceBEq, Int.reduceBNe, Int.reduceLT, Int.reduceLE, Int.reduceGT, Int.reduceGE] at r12
    have f12 : Fr 0 0 h10 h12 := (n11.fr (lo := 0) (hi := 0)).fresh s12.fr (by omega)
    have rww12 := rww.fr f12 (by omega)
    have rw12 := rw'.fr f12 (by omega)
    simp -dsimp only [go_sem, ↓reduceIte, reduceCtorEq, Nat.reduceEqDiff, Nat.reduceAdd, Nat.reduceLeDiff, Nat.reduceMul, Int.reduceBEq, Int.reduceBNe, Int.reduceLT, Int.reduceLE, Int.reduceGT, Int.reduceGE, rw12.cell, r12.cell]
    refine Chk_intro (by omega) ?_
    simp -dsimp only [go_sem, ↓reduceIte, reduceCtorEq, Nat.reduceEqDiff, Nat.reduceAdd, Nat.reduceLeDiff, Nat.reduceMul, Int.reduceBEq, Int.reduceBNe, Int.reduceLT, Int.reduceLE, Int.reduceGT, Int.reduceGE, rww12.cell, cntV_get hb]
    refine Chk_intro (by omega) ?_
    simp -dsimp only [go_sem, ↓reduceIte, reduceCtorEq, Nat.reduceEqDiff, Nat.reduceAdd, Nat.reduceLeDiff, Nat.reduceMul, Int.reduceBEq, Int.reduceBNe, Int.reduceLT, Int.reduceLE, Int.reduceGT, Int.reduceGE]
    have hcl : (((pairsOf n M).take j).countP fun p => p.2 == (b : Int)) ≤ j := Nat.le_trans List.countP_le_length (by simp; omega)
    refine Chk_intro (rww12.wr (by simp; omega)) fun h13 s13 => ?_
    have r13 := s13.row rww12
    rw [cl_int, wrap64 (by omega) (by omega), putAt_one, show (((((pairsOf n M).take j).countP fun p => p.2 == (b : Int)) : Nat) : Int) + 1 = ((((pairsOf n M).take j).countP (fun p => p.2 == (b : Int)) + 1 : Nat) : Int) from by omega, cntV_set] at r13
    have z13 := s13.size
    have rb13 := s13.rw (rb.fr f12 (by omega)) (by omega)
    have rp13 := s13.rw r12 (by omega)
    have rk13 := s13.rw (rk.fr f12 (by omega)) (by omega)
    have hBa : ((List.range n).map B)[a]? = some (B a) := by simp [ha]
    simp -dsimp only [go_sem, ↓reduceIte, reduceCtorEq, Nat.reduceEqDiff, Nat.reduceAdd, Nat.reduceLeDiff, Nat.reduceMul, Int.reduceBEq, Int.reduceBNe, Int.reduceLT, Int.reduceLE, Int.reduceGT, Int.reduceGE, rb13.cell, rp13.cell]
    refine Chk_intro (by omega) ?_
    simp -dsimp only [go_sem, ↓reduceIte, reduceCtorEq, Nat.reduceEqDiff, Nat.reduceAdd, Nat.reduceLeDiff, Nat.reduceMul, Int.reduceBEq, Int.reduceBNe, Int.reduceLT, Int.reduceLE, Int.reduceGT, Int.reduceGE, rk13.cell, hBa, rp13.cell]
    intro b14 h14 n14
    have a14 := n14.at_; have z14 := n14.size
    have wa := (hB a ha).at_
    have hBf : ∀ x, x < n → Holder 1 h14 (B x) ((((pairsOf n M).take j).filter fun p => p.1 == (x : Int)).map (fun p => p.2.toNat)).length (natsV ((((pairsOf n M).take j).filter fun p => p.1 == (x : Int)).map (fun p => p.2.toNat))) h9.size := fun x hx =>
      (((hB x hx).fr f12 (by omega)).fr s13.fr (by have := (hB x hx).at_; omega)).fr (n14.fr (lo := 0) (hi := 0)) (by omega)
    have hfl : ((((pairsOf n M).take j).filter fun p => p.1 == (a : Int)).map (fun p => p.2.toNat)).length ≤ j := by
      rw [List.length_map]; exact Nat.le_trans (List.length_filter_le _ _) (by simp; omega)
    have hBh := hBf a ha
    obtain ⟨ba, bc, hBv⟩ := hBh.is
    rw [hBv] at hBh hBa wa
    simp -dsimp only [go_sem, ↓reduceIte, reduceCtorEq, Nat.reduceEqDiff, Nat.reduceAdd, Nat.reduceLeDiff, Nat.reduceMul, Int.reduceBEq, Int.reduceBNe, Int.reduceLT, Int.reduceLE, Int.reduceGT, Int.reduceGE, hBv, n14.row.cell]
    refine hBh.append (by omega) rfl (by omega) (by simp) (by omega) fun v15 h15 o15 f15 e15 => ?_
    have y15 := f15.size
    have w15 := o15.at_
    have rb15 := (n14.rw rb13).fr f15 (by omega)
    have rp15 := (n14.rw rp13).fr f15 (by omega)
    have rk15 := (n14.rw rk13).fr f15 (by omega)
    obtain ⟨va, vc, rfl⟩ := o15.is
    simp -dsimp only [go_sem, ↓reduceIte, reduceCtorEq, Nat.reduceEqDiff, Nat.reduceAdd, Nat.reduceLeDiff, Nat.reduceMul, Int.reduceBEq, Int.reduceBNe, Int.reduceLT, Int.reduceLE, Int.reduceGT, Int.reduceGE, rb15.cell, rp15.cell, rk15.cell, hBa, hBv]
    refine Chk_intro (by omega) ?_
    simp -dsimp only [go_sem, ↓reduceIte, reduceCtorEq, Nat.reduceEqDiff, Nat.reduceAdd, Nat.reduceLeDiff, Nat.reduceMul, Int.reduceBEq, Int.reduceBNe, Int.reduceLT, Int.reduceLE, Int.reduceGT, Int.reduceGE]
    refine Chk_intro (rk15.wr (by simp; omega)) fun h16 s16 => ?_
    have z16 := s16.size
    have rk16 := s16.row rk15
    simp -dsimp only [go_sem, ↓reduceIte, reduceCtorEq, Nat.reduceEqDiff, Nat.reduceAdd, Nat.reduceLeDiff, Nat.reduceMul, Int.reduceBEq, Int.reduceBNe, Int.reduceLT, Int.reduceLE, Int.reduceGT, Int.reduceGE]
    simp -dsimp (disch := omega) only [wrap64]
    have q15 : Fr 0 0 h0 h15 := (((p10.trans f12).fresh s13.fr (by omega)).trans n14.fr).fresh f15 (by omega)
    have q16 := q15.fresh s16.fr (by omega)
    have step : ∀ {x c}, Rw h12 x c → x ≠ ww → x ≠ bk → (x < bl (.slice ba ((((pairsOf n M).take j).filter fun p => p.1 == (a : Int)).map (fun p => p.2.toNat)).length bc) ∨ bh (.slice ba ((((pairsOf n M).take j).filter fun p => p.1 == (a : Int)).map (fun p => p.2.toNat)).length bc) ≤ x) → Rw h16 x c := fun r h1 h2 h3 =>
      s16.rw ((n14.rw (s13.rw r h1)).fr f15 h3) h2
    refine ⟨j + 1, by omega, by simp [Le, find], by omega, q16, by omega, step (rn.fr f12 (by omega)) (by omega) (by omega) (by omega), step (rw12) (by omega) (by omega) (by omega), step (rb.fr f12 (by omega)) (by omega) (by omega) (by omega), ?_, ?_, fun x => if x = a then .slice va (((((pairsOf n M).take j).filter fun p => p.1 == (a : Int)).map (fun p => p.2.toNat)).length + 1) vc else B x, ?_, ?_, ?_⟩
    · exact ((((od.fr f12 (by omega)).fr s13.fr (by omega)).fr (n14.fr (lo := 0) (hi := 0)) (by omega)).fr f15 (by omega)).fr s16.fr (by omega)
    · have := s16.rw ((n14.rw r13).fr f15 (by omega)) (show ww ≠ bk by omega)
      rw [cntV_congr (fun x hx => ?_)]
      · exact this
      · rw [htk, List.countP_append, List.countP_singleton]
        by_cases hxb : x = b
        · subst hxb; simp
        · have : ((b : Int) == (x : Int)) = false := by simp; omega
          simp [hxb, this]
    · rw [cl_slice, putAt_one] at rk16
      have e : ((List.range n).map B).set a (.slice va (((((pairsOf n M).take j).filter fun p => p.1 == (a : Int)).map (fun p => p.2.toNat)).length + 1) vc) = (List.range n).map fun x => if x = a then .slice va (((((pairsOf n M).take j).filter fun p => p.1 == (a : Int)).map (fun p => p.2.toNat)).length + 1) vc else B x := by
        apply List.ext_getElem?; intro k
        rw [List.getElem?_set]
        by_cases hka : a = k
        · subst hka; simp [ha]
        · rw [if_neg hka]
          by_cases hk : k < n
          · simp [hk, Ne.symm hka]
          · simp [hk]
      rw [e] at rk16; exact rk16
    · intro x hx
      rw [htk, List.filter_append, List.map_append, natsV_append]
      by_cases hxa : x = a
      · subst hxa
        have := o15.fr s16.fr (by omega)
        have hnb : natsV [b] = [.int .i64 (b : Int)] := rfl
        simpa [hnb] using this
      · have hne : ((a : Int) == (x : Int)) = false := by simp; omega
        have hx1 := (hBf x hx)
        have hx2 := (hB x hx).at_
        have hx3 := hBB a x ha hx (Ne.symm hxa)
        rw [hBv] at hx3
        have := (hx1.fr f15 (by omega)).fr s16.fr (by omega)
        simpa [hxa, hne, natsV] using this
    · intro x y hx hy hxy
      have hx2 := (hB x hx).at_
      have hy2 := (hB y hy).at_
      by_cases hxa : x = a
      · subst hxa
        have hx3 := hBB x y ha hy hxy
        have hx4 := hBB y x hy ha (Ne.symm hxy)
        rw [hBv] at hx3 hx4
        simp only [if_true, if_neg (Ne.symm hxy)]
        omega
      · by_cases hya : y = a
        · subst hya
          have hx3 := hBB x y hx ha hxy
          rw [hBv] at hx3
          simp only [if_true, if_neg hxy]
          omega
        · simp only [if_neg hxa, if_neg hya]
          exact hBB x y hx hy hxy
  · have hjl : j = (pairsOf n M).length := by omega
    subst hjl
    rw [List.take_length] at hB rww
    simp -dsimp only [go_sem, ↓reduceIte, reduceCtorEq, Nat.reduceEqDiff, Nat.reduceAdd, Nat.reduceLeDiff, Nat.reduceMul, Int.reduceBEq, Int.reduceBNe, Int.reduceLT, Int.reduceLE, Int.reduceGT, Int.reduceGE, rn.cell]
    refine Chk_intro (by omega) ?_
    intro pw h11 n11
    simp -dsimp only [go_sem, ↓reduceIte, reduceCtorEq, Nat.reduceEqDiff, Nat.reduceAdd, Nat.reduceLeDiff, Nat.reduceMul, Int.reduceBEq, Int.reduceBNe, Int.reduceLT, Int.reduceLE, Int.reduceGT, Int.reduceGE]
    intro bp h12 n12
    simp -dsimp only [go_sem, ↓reduceIte, reduceCtorEq, Nat.reduceEqDiff, Nat.reduceAdd, Nat.reduceLeDiff, Nat.reduceMul, Int.reduceBEq, Int.reduceBNe, Int.reduceLT, Int.reduceLE, Int.reduceGT, Int.reduceGE]
    refine ⟨n12.row.wr (by simp), fun h13 s13 => ?_⟩
    have a11 := n11.at_; have z11 := n11.size; have a12 := n12.at_; have z12 := n12.size; have z13 := s13.size
    have rp := s13.row n12.row
    have rpw := s13.rw (n12.rw n11.row) (by omega)
    rw [zeros_one, Int.toNat_natCast, brow_false] at rpw
    simp -dsimp only [go_sem, ↓reduceIte, reduceCtorEq, Nat.reduceEqDiff, Nat.reduceAdd, Nat.reduceLeDiff, Nat.reduceMul, Int.reduceBEq, Int.reduceBNe, Int.reduceLT, Int.reduceLE, Int.reduceGT, Int.reduceGE] at rp
    simp -dsimp only [go_sem, ↓reduceIte, reduceCtorEq, Nat.reduceEqDiff, Nat.reduceAdd, Nat.reduceLeDiff, Nat.reduceMul, Int.reduceBEq, Int.reduceBNe, Int.reduceLT, Int.reduceLE, Int.reduceGT, Int.reduceGE]
    have k1 := rn.lt; have k2 := rw'.lt; have k3 := rb.lt; have k4 := rww.lt; have k5 := rk.lt
    have y10' := p10.size
    have f13 : Fr 0 0 h10 h13 := ((n11.fr (lo := 0) (hi := 0)).trans n12.fr).fresh s13.fr (by omega)
    refine ⟨p10.trans f13, ⟨bn, bw, bb, bp, ww, bk, pw, B⟩, rfl, rn.fr f13 (by omega), rw'.fr f13 (by omega), rb.fr f13 (by omega), rp, ?_, rpw, rk.fr f13 (by omega), fun x hx => ?_, by dsimp only; omega, by dsimp only; omega, hn⟩
    · have := rww.fr f13 (by omega)
      rw [cntV_congr (fun x hx => ?_)]
      · exact this
      · unfold cnt pairsOf
        rw [pairsTo_waits n M x hx n]
        simp
    · have hb := hB x hx
      unfold pairsOf at hb
      rw [pairsTo_behind, if_pos hx] at hb
      have wb := hb.at_
      dsimp only
      exact ⟨(hb.fr f13 (by omega)).lower (by omega), by omega, by omega, by omega⟩
end Go.Proofs.Tst
namespace Go.Proofs.Tst
open Go Go.Vc
theorem order_Sort {n : Nat} {M : Nat → Nat → Bool} {p : Value} {lo hi : Nat} {h : Heap} (hr : ProgAt h lo hi p n M) (ht : TabAt h) :
    Con Tryd.prog 20 #[p] h fun v h' => Fr 0 0 h h' ∧ ListOr h' h.size 3 v (sortS n M) := by
  refine con_order_Sort ?_
  have hn := hr.1
  simp -dsimp only [go_sem, ↓reduceIte, reduceCtorEq, Nat.reduceEqDiff, Nat.reduceAdd, Nat.reduceLeDiff, Nat.reduceMul, Int.reduceBEq, Int.reduceBNe, Int.reduceLT, Int.reduceLE, Int.reduceGT, Int.reduceGE]
  refine call_of (order_chooser hr ht) ?_
  rintro v h1 ⟨p1, c, rfl, t1⟩
  have y1 := p1.size
  simp -dsimp only [go_sem, ↓reduceIte, reduceCtorEq, Nat.reduceEqDiff, Nat.reduceAdd, Nat.reduceLeDiff, Nat.reduceMul, Int.reduceBEq, Int.reduceBNe, Int.reduceLT, Int.reduceLE, Int.reduceGT, Int.reduceGE]
  refine call_of (rel_Len (hr.fr p1 (by omega))) ?_
  rintro v h2 ⟨rfl, rfl⟩
  simp -dsimp only [go_sem, ↓reduceIte, reduceCtorEq, Nat.reduceEqDiff, Nat.reduceAdd, Nat.reduceLeDiff, Nat.reduceMul, Int.reduceBEq, Int.reduceBNe, Int.reduceLT, Int.reduceLE, Int.reduceGT, Int.reduceGE]
  refine loop_intro (fun s : Nat × Value => [(4, c.next), (5, c.place), (6, s.2), (14, .int .i64 n), (15, .int .i64 s.1)])
    (fun s h' => s.1 ≤ n ∧ Fr 0 0 h h' ∧ h2.size ≤ h'.size ∧ ∃ l : List Nat, l.length = s.1 ∧ Chs h' h.size h2.size c n M l.contains ∧ Holder 1 h' s.2 s.1 (natsV l) h2.size ∧ sortGo n M (n - s.1) l = sortS n M)
    (fun s => n - s.1) (0, .slice none 0 0) ?_ ?_ ?_
  · simp [Le, find]
  · exact ⟨by omega, p1, by omega, [], rfl, t1, .none _ _ _, rfl⟩
  rintro ⟨i, lv⟩ h3 ⟨hi, p3, y3, l, hl, t3, ol, hgo⟩
  dsimp only at hi p3 y3 hl t3 ol hgo ⊢
  simp -dsimp only [go_sem, ↓reduceIte, reduceCtorEq, Nat.reduceEqDiff, Nat.reduceAdd, Nat.reduceLeDiff, Nat.reduceMul, Int.reduceBEq, Int.reduceBNe, Int.reduceLT, Int.reduceLE, Int.reduceGT, Int.reduceGE]
  refine ⟨fun hlt => ?_, fun hge => ?_⟩
  · have hlt : i < n := by omega
    simp -dsimp only [go_sem, ↓reduceIte, reduceCtorEq, Nat.reduceEqDiff, Nat.reduceAdd, Nat.reduceLeDiff, Nat.reduceMul, Int.reduceBEq, Int.reduceBNe, Int.reduceLT, Int.reduceLE, Int.reduceGT, Int.reduceGE, ChB.next]
    refine call_of (chooser_next (q := 0) t3 (by omega)) ?_
    rintro v h4 ⟨rfl, rfl⟩
    have hk : n - i = (n - (i + 1)) + 1 := by omega
    rw [hk] at hgo
    cases hx : lf (freeB n M l.contains) n 0 with
    | none =>
      simp only [sortGo, hx] at hgo
      simp -dsimp only [go_sem, ↓reduceIte, reduceCtorEq, Nat.reduceEqDiff, Nat.reduceAdd, Nat.reduceLeDiff, Nat.reduceMul, Int.reduceBEq, Int.reduceBNe, Int.reduceLT, Int.reduceLE, Int.reduceGT, Int.reduceGE, nx_none]
      exact ⟨p3, by rw [← hgo]; rfl⟩
    | some x =>
      simp only [sortGo, hx] at hgo
      obtain ⟨_, hxn, hfx⟩ := lf_some hx
      have hDx : l.contains x = false := (freeB_true.1 hfx).1
      simp -dsimp only [go_sem, ↓reduceIte, reduceCtorEq, Nat.reduceEqDiff, Nat.reduceAdd, Nat.reduceLeDiff, Nat.reduceMul, Int.reduceBEq, Int.reduceBNe, Int.reduceLT, Int.reduceLE, Int.reduceGT, Int.reduceGE, nx_some, ChB.place]
      refine call_of (chooser_place t3 hxn true (by simpa using hDx)) ?_
      rintro v h5 ⟨f5, z5, t5⟩
      obtain ⟨la, lc, rfl⟩ := ol.is
      simp -dsimp only [go_sem, ↓reduceIte, reduceCtorEq, Nat.reduceEqDiff, Nat.reduceAdd, Nat.reduceLeDiff, Nat.reduceMul, Int.reduceBEq, Int.reduceBNe, Int.reduceLT, Int.reduceLE, Int.reduceGT, Int.reduceGE, nx_some]
      intro b6 h6 n6
      have a6 := n6.at_; have z6 := n6.size
      have w0 := ol.at_
      simp -dsimp only [go_sem, ↓reduceIte, reduceCtorEq, Nat.reduceEqDiff, Nat.reduceAdd, Nat.reduceLeDiff, Nat.reduceMul, Int.reduceBEq, Int.reduceBNe, Int.reduceLT, Int.reduceLE, Int.reduceGT, Int.reduceGE, nx_some, n6.row.cell]
      have o6 := (ol.fr f5 (by omega)).fr (n6.fr (lo := 0) (hi := 0)) (by omega)
      have p6 : Fr 0 0 h h6 := (p3.fresh f5 (by omega)).trans n6.fr
      refine o6.append (by omega) rfl (by omega) (by simp) (by omega) fun v7 h7 o7 f7 e7 => ?_
      have y7 := f7.size
      simp -dsimp only [go_sem, ↓reduceIte, reduceCtorEq, Nat.reduceEqDiff, Nat.reduceAdd, Nat.reduceLeDiff, Nat.reduceMul, Int.reduceBEq, Int.reduceBNe, Int.reduceLT, Int.reduceLE, Int.reduceGT, Int.reduceGE]
      simp -dsimp (disch := omega) only [wrap64]
      refine ⟨(i + 1, v7), by dsimp only; omega, by simp [Le, find, ChB.next, ChB.place], by dsimp only; omega, p6.fresh f7 (by omega), by omega, l ++ [x], by simp [hl], ?_, by rw [natsV_append]; exact o7, hgo⟩
      have t7 := (t5.fr (n6.fr (lo := 0) (hi := 0)) (by omega)).fr f7 (by omega)
      have e : (fun k => if k = x then true else l.contains k) = (l ++ [x]).contains := by
        funext k; by_cases hk : k = x <;> simp [hk]
      rw [e] at t7; exact t7
  · have hin : i = n := by omega
    subst hin
    simp -dsimp only [go_sem, ↓reduceIte, reduceCtorEq, Nat.reduceEqDiff, Nat.reduceAdd, Nat.reduceLeDiff, Nat.reduceMul, Int.reduceBEq, Int.reduceBNe, Int.reduceLT, Int.reduceLE, Int.reduceGT, Int.reduceGE]
    rw [Nat.sub_self] at hgo
    refine ⟨p3, ?_⟩
    rw [← hgo]
    simp only [sortGo, ListOr]
    rw [← hl] at ol
    exact ⟨_, rfl, ol.lower (by omega)⟩
end Go.Proofs.Tst
namespace Go.Proofs.Tst
open Go Go.Vc
set_option maxHeartbeats 1600000 in
theorem order_Glue {n : Nat} {M : Nat → Nat → Bool} {rv lv : Value} {l : List (Int × Int)} {lo hi : Nat} {h : Heap} (hr : ProgAt h lo hi rv n M) (ht : TabAt h) (hl : Rd 2 h lv l.length (pairsV l)) (hb : l.length ≤ 4611686018427387904) :
    Con Tryd.prog 25 #[rv, lv] h fun v h' => Fr 0 0 h h' ∧ ResL h' h.size v (glueS n M l) := by
  refine con_order_Glue ?_
  have hn := hr.1
  obtain ⟨la, lc, rfl⟩ := hl.is
  have p0 : Fr 0 0 h h := .refl _ _ _
  simp -dsimp only [go_sem, ↓reduceIte, reduceCtorEq, Nat.reduceEqDiff, Nat.reduceAdd, Nat.reduceLeDiff, Nat.reduceMul, Int.reduceBEq, Int.reduceBNe, Int.reduceLT, Int.reduceLE, Int.reduceGT, Int.reduceGE]
  refine call_of (rel_Len hr) ?_
  rintro v h1 ⟨rfl, rfl⟩
  simp -dsimp only [go_sem, ↓reduceIte, reduceCtorEq, Nat.reduceEqDiff, Nat.reduceAdd, Nat.reduceLeDiff, Nat.reduceMul, Int.reduceBEq, Int.reduceBNe, Int.reduceLT, Int.reduceLE, Int.reduceGT, Int.reduceGE]
  refine Chk_intro (by omega) ?_
  intro bo h2 n2
  have n2_a := n2.at_
  have n2_z := n2.size
  replace p0 := p0.fresh (n2.fr (lo := 0) (hi := 0)) (by omega)
  have ro := n2.row
  rw [zeros_one, Int.toNat_natCast, ivec_rep] at ro
  simp -dsimp only [go_sem, ↓reduceIte, reduceCtorEq, Nat.reduceEqDiff, Nat.reduceAdd, Nat.reduceLeDiff, Nat.reduceMul, Int.reduceBEq, Int.reduceBNe, Int.reduceLT, Int.reduceLE, Int.reduceGT, Int.reduceGE, ro.cell]
  refine Chk_intro (by omega) ?_
  intro bx h3 n3
  have n3_a := n3.at_
  have n3_z := n3.size
  replace p0 := p0.fresh (n3.fr (lo := 0) (hi := 0)) (by omega)
  replace ro := ro.fr (n3.fr (lo := 0) (hi := 0)) (by omega)
  have rx := n3.row
  rw [zeros_one, Int.toNat_natCast, ivec_rep] at rx
  simp -dsimp only [go_sem, ↓reduceIte, reduceCtorEq, Nat.reduceEqDiff, Nat.reduceAdd, Nat.reduceLeDiff, Nat.reduceMul, Int.reduceBEq, Int.reduceBNe, Int.reduceLT, Int.reduceLE, Int.reduceGT, Int.reduceGE, ro.cell, rx.cell]
  refine loop_intro (fun i : Nat => [(0, rv), (1, .slice la l.length lc), (6, .int .i64 n), (7, .slice (some ⟨bo, 0, none⟩) n n), (8, .slice (some ⟨bx, 0, none⟩) n n), (27, .int .i64 n), (28, .int .i64 i)])
    (fun i h' => i ≤ n ∧ Fr 0 0 h1 h' ∧ h3.size ≤ h'.size ∧ Rw h' bo (ivec n fun p => if p < i then (p : Int) else 0) ∧ Rw h' bx (ivec n fun p => if p < i then -1 else 0)) (fun i => n - i) 0 ?_ ?_ ?_
  · simp [Le, find]
  · exact ⟨by omega, p0, by omega, by simpa using ro, by simpa using rx⟩
  rintro i h4 ⟨hi, p0, y4, ro, rx⟩
  have p0_z := p0.size
  have ro_l := ro.lt
  have rx_l := rx.lt
  simp -dsimp only [go_sem, ↓reduceIte, reduceCtorEq, Nat.reduceEqDiff, Nat.reduceAdd, Nat.reduceLeDiff, Nat.reduceMul, Int.reduceBEq, Int.reduceBNe, Int.reduceLT, Int.reduceLE, Int.reduceGT, Int.reduceGE, ro.cell, rx.cell]
  refine ⟨fun hlt => ?_, fun hge => ?_⟩
  · have hlt : i < n := by omega
    simp -dsimp only [go_sem, ↓reduceIte, reduceCtorEq, Nat.reduceEqDiff, Nat.reduceAdd, Nat.reduceLeDiff, Nat.reduceMul, Int.reduceBEq, Int.reduceBNe, Int.reduceLT, Int.reduceLE, Int.reduceGT, Int.reduceGE, ro.cell, rx.cell]
    refine Chk_intro (by omega) ?_
    simp -dsimp only [go_sem, ↓reduceIte, reduceCtorEq, Nat.reduceEqDiff, Nat.reduceAdd, Nat.reduceLeDiff, Nat.reduceMul, Int.reduceBEq, Int.reduceBNe, Int.reduceLT, Int.reduceLE, Int.reduceGT, Int.reduceGE, ro.cell, rx.cell]
    refine Chk_intro (ro.wr (by first | (simp; done) | (simp; omega))) fun h5 s5 => ?_
    have s5_z := s5.size
    replace p0 := p0.fresh s5.fr (by omega)
    replace rx := rx.fr s5.fr (by omega)
    replace ro := s5.row ro
    try simp only [cl_int, cl_bool, cl_slice, cl_ptr, putAt_one, List.set_cons_zero, List.set_cons_succ, ivec_set, brow_upd] at ro
    simp -dsimp only [go_sem, ↓reduceIte, reduceCtorEq, Nat.reduceEqDiff, Nat.reduceAdd, Nat.reduceLeDiff, Nat.reduceMul, Int.reduceBEq, Int.reduceBNe, Int.reduceLT, Int.reduceLE, Int.reduceGT, Int.reduceGE, ro.cell, rx.cell]
    refine Chk_intro (by omega) ?_
    simp -dsimp only [go_sem, ↓reduceIte, reduceCtorEq, Nat.reduceEqDiff, Nat.reduceAdd, Nat.reduceLeDiff, Nat.reduceMul, Int.reduceBEq, Int.reduceBNe, Int.reduceLT, Int.reduceLE, Int.reduceGT, Int.reduceGE, ro.cell, rx.cell]
    refine Chk_intro (rx.wr (by first | (simp; done) | (simp; omega))) fun h6 s6 => ?_
    have s6_z := s6.size
    replace p0 := p0.fresh s6.fr (by omega)
    replace ro := ro.fr s6.fr (by omega)
    replace rx := s6.row rx
    try simp only [cl_int, cl_bool, cl_slice, cl_ptr, putAt_one, List.set_cons_zero, List.set_cons_succ, ivec_set, brow_upd] at rx
    simp -dsimp only [go_sem, ↓reduceIte, reduceCtorEq, Nat.reduceEqDiff, Nat.reduceAdd, Nat.reduceLeDiff, Nat.reduceMul, Int.reduceBEq, Int.reduceBNe, Int.reduceLT, Int.reduceLE, Int.reduceGT, Int.reduceGE, ro.cell, rx.cell]
    simp -dsimp (disch := omega) only [wrap64]
    refine ⟨i + 1, by omega, by simp [Le, find], by omega, p0, by omega, ?_, ?_⟩
    · rw [ivec_congr fun p hp => ?_]; exact ro
      by_cases h : p = i
      · subst h; rw [upd_same, if_pos (by omega)]
      · rw [upd_ne _ _ h]; congr 1; simp; omega
    · rw [ivec_congr fun p hp => ?_]; exact rx
      by_cases h : p = i
      · subst h; rw [upd_same, if_pos (by omega)]
      · rw [upd_ne _ _ h]; congr 1; simp; omega
  obtain rfl : n = i := by omega
  replace ro : Rw h4 bo (ivec n fun p => ((id p : Nat) : Int)) := by rw [ivec_congr fun p hp => ?_]; exact ro; simp [hp]
  replace rx : Rw h4 bx (ivec n fun _ => -1) := by rw [ivec_congr fun p hp => ?_]; exact rx; simp [hp]
  have a3 := p0.size
  simp -dsimp only [go_sem, ↓reduceIte, reduceCtorEq, Nat.reduceEqDiff, Nat.reduceAdd, Nat.reduceLeDiff, Nat.reduceMul, Int.reduceBEq, Int.reduceBNe, Int.reduceLT, Int.reduceLE, Int.reduceGT, Int.reduceGE, ro.cell, rx.cell]
  refine Chk_intro (by omega) ?_
  intro bu h5 n5
  have n5_a := n5.at_
  have n5_z := n5.size
  replace p0 := p0.fresh (n5.fr (lo := 0) (hi := 0)) (by omega)
  replace ro := ro.fr (n5.fr (lo := 0) (hi := 0)) (by omega)
  replace rx := rx.fr (n5.fr (lo := 0) (hi := 0)) (by omega)
  have ru := n5.row
  rw [zeros_one, Int.toNat_natCast, brow_false] at ru
  simp -dsimp only [go_sem, ↓reduceIte, reduceCtorEq, Nat.reduceEqDiff, Nat.reduceAdd, Nat.reduceLeDiff, Nat.reduceMul, Int.reduceBEq, Int.reduceBNe, Int.reduceLT, Int.reduceLE, Int.reduceGT, Int.reduceGE, ro.cell, rx.cell, ru.cell]
  refine loop_intro (fun i : Nat => [(0, rv), (6, .int .i64 n), (7, .slice (some ⟨bo, 0, none⟩) n n), (8, .slice (some ⟨bx, 0, none⟩) n n), (10, .slice (some ⟨bu, 0, none⟩) n n), (41, .slice la l.length lc), (42, .int .i64 l.length), (43, .int .i64 i)])
    (fun i h' => i ≤ l.length ∧ Fr 0 0 h1 h' ∧ h5.size ≤ h'.size ∧ ∃ (U : Nat → Bool) (F : Nat → Nat) (S : Nat → Int), Rw h' bo (ivec n fun p => (F p : Int)) ∧ Rw h' bx (ivec n S) ∧ Rw h' bu (brow n U) ∧ GluI n U F S ∧ glueIn n (l.drop i) U F S = glueFS n l) (fun i => l.length - i) 0 ?_ ?_ ?_
  · simp [Le, find]
  · exact ⟨by omega, p0, by omega, _, _, _, ro, rx, ru, .start n, rfl⟩
  rintro i h6 ⟨hi, p0, y6, U, F, S, ro, rx, ru, hG, hgl⟩
  have p0_z := p0.size
  have ro_l := ro.lt
  have rx_l := rx.lt
  have ru_l := ru.lt
  simp -dsimp only [go_sem, ↓reduceIte, reduceCtorEq, Nat.reduceEqDiff, Nat.reduceAdd, Nat.reduceLeDiff, Nat.reduceMul, Int.reduceBEq, Int.reduceBNe, Int.reduceLT, Int.reduceLE, Int.reduceGT, Int.reduceGE, ro.cell, rx.cell, ru.cell]
  refine ⟨fun hlt => ?_, fun hge => ?_⟩
  · have hlt : i < l.length := by omega
    have hp : l[i]? = some l[i] := by simp [hlt]
    rw [List.drop_eq_getElem_cons hlt] at hgl
    generalize l[i] = p at hp hgl
    obtain ⟨a, b⟩ := p
    have bad : badP n U (a, b) → glueFS n l = none := fun hb => by rw [← hgl]; simp [glueIn, hb]
    have fin : glueFS n l = none → glueS n M l = .error 1 := fun hb => by simp [glueS, hb]
    simp -dsimp only [go_sem, ↓reduceIte, reduceCtorEq, Nat.reduceEqDiff, Nat.reduceAdd, Nat.reduceLeDiff, Nat.reduceMul, Int.reduceBEq, Int.reduceBNe, Int.reduceLT, Int.reduceLE, Int.reduceGT, Int.reduceGE, ro.cell, rx.cell, ru.cell]
    refine Chk_intro (by omega) ((hl.fr p0).pair hp fun b7 o7 c1 c2 => ?_)
    simp -dsimp only [go_sem, ↓reduceIte, reduceCtorEq, Nat.reduceEqDiff, Nat.reduceAdd, Nat.reduceLeDiff, Nat.reduceMul, Int.reduceBEq, Int.reduceBNe, Int.reduceLT, Int.reduceLE, Int.reduceGT, Int.reduceGE, c1, c2, ro.cell, rx.cell, ru.cell]
    intro b8 h8 n8
    have n8_a := n8.at_
    have n8_z := n8.size
    replace p0 := p0.fresh (n8.fr (lo := 0) (hi := 0)) (by omega)
    replace ro := ro.fr (n8.fr (lo := 0) (hi := 0)) (by omega)
    replace rx := rx.fr (n8.fr (lo := 0) (hi := 0)) (by omega)
    replace ru := ru.fr (n8.fr (lo := 0) (hi := 0)) (by omega)
    have r8 := n8.row
    simp -dsimp only [go_sem, ↓reduceIte, reduceCtorEq, Nat.reduceEqDiff, Nat.reduceAdd, Nat.reduceLeDiff, Nat.reduceMul, Int.reduceBEq, Int.reduceBNe, Int.reduceLT, Int.reduceLE, Int.reduceGT, Int.reduceGE, ro.cell, rx.cell, ru.cell, r8.cell]
    refine Chk_intro (r8.wr (by first | (simp; done) | (simp; omega))) fun h9 s9 => ?_
    have s9_z := s9.size
    replace p0 := p0.fresh s9.fr (by omega)
    replace ro := ro.fr s9.fr (by omega)
    replace rx := rx.fr s9.fr (by omega)
    replace ru := ru.fr s9.fr (by omega)
    replace r8 := s9.row r8
    try simp only [cl_int, cl_bool, cl_slice, cl_ptr, putAt_one, List.set_cons_zero, List.set_cons_succ, ivec_set, brow_upd] at r8
    simp -dsimp only [go_sem, ↓reduceIte, reduceCtorEq, Nat.reduceEqDiff, Nat.reduceAdd, Nat.reduceLeDiff, Nat.reduceMul, Int.reduceBEq, Int.reduceBNe, Int.reduceLT, Int.reduceLE, Int.reduceGT, Int.reduceGE] at r8
    by_cases g1 : a < 0
    · simp -dsimp only [go_sem, ↓reduceIte, reduceCtorEq, Nat.reduceEqDiff, Nat.reduceAdd, Nat.reduceLeDiff, Nat.reduceMul, Int.reduceBEq, Int.reduceBNe, Int.reduceLT, Int.reduceLE, Int.reduceGT, Int.reduceGE, g1, decide_true, ro.cell, rx.cell, ru.cell, r8.cell]
      exact ⟨p0, by rw [fin (bad (.inl g1))]; rfl⟩
    by_cases g2 : a ≥ (n : Int)
    · simp -dsimp only [go_sem, ↓reduceIte, reduceCtorEq, Nat.reduceEqDiff, Nat.reduceAdd, Nat.reduceLeDiff, Nat.reduceMul, Int.reduceBEq, Int.reduceBNe, Int.reduceLT, Int.reduceLE, Int.reduceGT, Int.reduceGE, g1, g2, decide_true, decide_false, ro.cell, rx.cell, ru.cell, r8.cell]
      exact ⟨p0, by rw [fin (bad (.inr (.inl g2)))]; rfl⟩
    by_cases g3 : b < 0
    · simp -dsimp only [go_sem, ↓reduceIte, reduceCtorEq, Nat.reduceEqDiff, Nat.reduceAdd, Nat.reduceLeDiff, Nat.reduceMul, Int.reduceBEq, Int.reduceBNe, Int.reduceLT, Int.reduceLE, Int.reduceGT, Int.reduceGE, g1, g2, g3, decide_true, decide_false, ro.cell, rx.cell, ru.cell, r8.cell]
      exact ⟨p0, by rw [fin (bad (.inr (.inr (.inl g3))))]; rfl⟩
    by_cases g4 : b ≥ (n : Int)
    · simp -dsimp only [go_sem, ↓reduceIte, reduceCtorEq, Nat.reduceEqDiff, Nat.reduceAdd, Nat.reduceLeDiff, Nat.reduceMul, Int.reduceBEq, Int.reduceBNe, Int.reduceLT, Int.reduceLE, Int.reduceGT, Int.reduceGE, g1, g2, g3, g4, decide_true, decide_false, ro.cell, rx.cell, ru.cell, r8.cell]
      exact ⟨p0, by rw [fin (bad (.inr (.inr (.inr (.inl g4)))))]; rfl⟩
    obtain ⟨x, rfl⟩ : ∃ x : Nat, a = x := ⟨a.toNat, by omega⟩
    obtain ⟨y, rfl⟩ : ∃ y : Nat, b = y := ⟨b.toNat, by omega⟩
    have hx : x < n := by omega
    have hy : y < n := by omega
    by_cases g5 : x = y
    · subst g5
      simp -dsimp only [go_sem, ↓reduceIte, reduceCtorEq, Nat.reduceEqDiff, Nat.reduceAdd, Nat.reduceLeDiff, Nat.reduceMul, Int.reduceBEq, Int.reduceBNe, Int.reduceLT, Int.reduceLE, Int.reduceGT, Int.reduceGE, g1, g2, g3, g4, decide_true, decide_false, beq_self_eq_true, ro.cell, rx.cell, ru.cell, r8.cell]
      exact ⟨p0, by rw [fin (bad (.inr (.inr (.inr (.inr (.inl rfl))))))]; rfl⟩
    have g5' : ((x : Int) == (y : Int)) = false := by simp; omega
    simp -dsimp only [go_sem, ↓reduceIte, reduceCtorEq, Nat.reduceEqDiff, Nat.reduceAdd, Nat.reduceLeDiff, Nat.reduceMul, Int.reduceBEq, Int.reduceBNe, Int.reduceLT, Int.reduceLE, Int.reduceGT, Int.reduceGE, g1, g2, g3, g4, g5', decide_true, decide_false, decide_eq_false, ro.cell, rx.cell, ru.cell, r8.cell]
    refine Chk_intro (by omega) ?_
    simp -dsimp only [go_sem, ↓reduceIte, reduceCtorEq, Nat.reduceEqDiff, Nat.reduceAdd, Nat.reduceLeDiff, Nat.reduceMul, Int.reduceBEq, Int.reduceBNe, Int.reduceLT, Int.reduceLE, Int.reduceGT, Int.reduceGE, brow_get hx, ro.cell, rx.cell, ru.cell, r8.cell]
    by_cases g6 : U x = true
    · simp -dsimp only [go_sem, ↓reduceIte, reduceCtorEq, Nat.reduceEqDiff, Nat.reduceAdd, Nat.reduceLeDiff, Nat.reduceMul, Int.reduceBEq, Int.reduceBNe, Int.reduceLT, Int.reduceLE, Int.reduceGT, Int.reduceGE, g6, g1, g2, g3, g4, g5', decide_true, decide_false, ro.cell, rx.cell, ru.cell, r8.cell]
      exact ⟨p0, by rw [fin (bad (.inr (.inr (.inr (.inr (.inr (.inl (by simpa using g6))))))))]; rfl⟩
    replace g6 : U x = false := Bool.eq_false_iff.2 g6
    simp -dsimp only [go_sem, ↓reduceIte, reduceCtorEq, Nat.reduceEqDiff, Nat.reduceAdd, Nat.reduceLeDiff, Nat.reduceMul, Int.reduceBEq, Int.reduceBNe, Int.reduceLT, Int.reduceLE, Int.reduceGT, Int.reduceGE, g6, g1, g2, g3, g4, g5', decide_true, decide_false, ro.cell, rx.cell, ru.cell, r8.cell]
    refine Chk_intro (by omega) ?_
    simp -dsimp only [go_sem, ↓reduceIte, reduceCtorEq, Nat.reduceEqDiff, Nat.reduceAdd, Nat.reduceLeDiff, Nat.reduceMul, Int.reduceBEq, Int.reduceBNe, Int.reduceLT, Int.reduceLE, Int.reduceGT, Int.reduceGE, brow_get hy, g6, ro.cell, rx.cell, ru.cell, r8.cell]
    by_cases g7 : U y = true
    · simp -dsimp only [go_sem, ↓reduceIte, reduceCtorEq, Nat.reduceEqDiff, Nat.reduceAdd, Nat.reduceLeDiff, Nat.reduceMul, Int.reduceBEq, Int.reduceBNe, Int.reduceLT, Int.reduceLE, Int.reduceGT, Int.reduceGE, g7, g1, g2, g3, g4, g5', decide_true, decide_false, ro.cell, rx.cell, ru.cell, r8.cell]
      exact ⟨p0, by rw [fin (bad (.inr (.inr (.inr (.inr (.inr (.inr (by simpa using g7))))))))]; rfl⟩
    replace g7 : U y = false := Bool.eq_false_iff.2 g7
    simp -dsimp only [go_sem, ↓reduceIte, reduceCtorEq, Nat.reduceEqDiff, Nat.reduceAdd, Nat.reduceLeDiff, Nat.reduceMul, Int.reduceBEq, Int.reduceBNe, Int.reduceLT, Int.reduceLE, Int.reduceGT, Int.reduceGE, g7, g6, ro.cell, rx.cell, ru.cell, r8.cell]
    have nb : ¬ badP n U ((x : Int), (y : Int)) := by
      simp [badP, g6, g7]; omega
    refine Chk_intro (by omega) ?_
    simp -dsimp only [go_sem, ↓reduceIte, reduceCtorEq, Nat.reduceEqDiff, Nat.reduceAdd, Nat.reduceLeDiff, Nat.reduceMul, Int.reduceBEq, Int.reduceBNe, Int.reduceLT, Int.reduceLE, Int.reduceGT, Int.reduceGE, ro.cell, rx.cell, ru.cell, r8.cell]
    refine Chk_intro (ru.wr (by first | (simp; done) | (simp; omega))) fun h10 s10 => ?_
    have s10_z := s10.size
    replace p0 := p0.fresh s10.fr (by omega)
    replace ro := ro.fr s10.fr (by omega)
    replace rx := rx.fr s10.fr (by omega)
    replace r8 := r8.fr s10.fr (by omega)
    replace ru := s10.row ru
    try simp only [cl_int, cl_bool, cl_slice, cl_ptr, putAt_one, List.set_cons_zero, List.set_cons_succ, ivec_set, brow_upd] at ru
    simp -dsimp only [go_sem, ↓reduceIte, reduceCtorEq, Nat.reduceEqDiff, Nat.reduceAdd, Nat.reduceLeDiff, Nat.reduceMul, Int.reduceBEq, Int.reduceBNe, Int.reduceLT, Int.reduceLE, Int.reduceGT, Int.reduceGE, ro.cell, rx.cell, ru.cell, r8.cell]
    refine Chk_intro (by omega) ?_
    simp -dsimp only [go_sem, ↓reduceIte, reduceCtorEq, Nat.reduceEqDiff, Nat.reduceAdd, Nat.reduceLeDiff, Nat.reduceMul, Int.reduceBEq, Int.reduceBNe, Int.reduceLT, Int.reduceLE, Int.reduceGT, Int.reduceGE, ro.cell, rx.cell, ru.cell, r8.cell]
    refine Chk_intro (ru.wr (by first | (simp; done) | (simp; omega))) fun h11 s11 => ?_
    have s11_z := s11.size
    replace p0 := p0.fresh s11.fr (by omega)
    replace ro := ro.fr s11.fr (by omega)
    replace rx := rx.fr s11.fr (by omega)
    replace r8 := r8.fr s11.fr (by omega)
    replace ru := s11.row ru
    try simp only [cl_int, cl_bool, cl_slice, cl_ptr, putAt_one, List.set_cons_zero, List.set_cons_succ, ivec_set, brow_upd] at ru
    simp -dsimp only [go_sem, ↓reduceIte, reduceCtorEq, Nat.reduceEqDiff, Nat.reduceAdd, Nat.reduceLeDiff, Nat.reduceMul, Int.reduceBEq, Int.reduceBNe, Int.reduceLT, Int.reduceLE, Int.reduceGT, Int.reduceGE, ro.cell, rx.cell, ru.cell, r8.cell]
    refine Chk_intro (by omega) ?_
    simp -dsimp only [go_sem, ↓reduceIte, reduceCtorEq, Nat.reduceEqDiff, Nat.reduceAdd, Nat.reduceLeDiff, Nat.reduceMul, Int.reduceBEq, Int.reduceBNe, Int.reduceLT, Int.reduceLE, Int.reduceGT, Int.reduceGE, ro.cell, rx.cell, ru.cell, r8.cell]
    refine Chk_intro (ro.wr (by first | (simp; done) | (simp; omega))) fun h12 s12 => ?_
    have s12_z := s12.size
    replace p0 := p0.fresh s12.fr (by omega)
    replace rx := rx.fr s12.fr (by omega)
    replace ru := ru.fr s12.fr (by omega)
    replace r8 := r8.fr s12.fr (by omega)
    replace ro := s12.row ro
    try simp only [cl_int, cl_bool, cl_slice, cl_ptr, putAt_one, List.set_cons_zero, List.set_cons_succ, ivec_set, brow_upd] at ro
    simp -dsimp only [go_sem, ↓reduceIte, reduceCtorEq, Nat.reduceEqDiff, Nat.reduceAdd, Nat.reduceLeDiff, Nat.reduceMul, Int.reduceBEq, Int.reduceBNe, Int.reduceLT, Int.reduceLE, Int.reduceGT, Int.reduceGE, ro.cell, rx.cell, ru.cell, r8.cell]
    refine Chk_intro (by omega) ?_
    simp -dsimp only [go_sem, ↓reduceIte, reduceCtorEq, Nat.reduceEqDiff, Nat.reduceAdd, Nat.reduceLeDiff, Nat.reduceMul, Int.reduceBEq, Int.reduceBNe, Int.reduceLT, Int.reduceLE, Int.reduceGT, Int.reduceGE, ro.cell, rx.cell, ru.cell, r8.cell]
    refine Chk_intro (rx.wr (by first | (simp; done) | (simp; omega))) fun h13 s13 => ?_
    have s13_z := s13.size
    replace p0 := p0.fresh s13.fr (by omega)
    replace ro := ro.fr s13.fr (by omega)
    replace ru := ru.fr s13.fr (by omega)
    replace r8 := r8.fr s13.fr (by omega)
    replace rx := s13.row rx
    try simp only [cl_int, cl_bool, cl_slice, cl_ptr, putAt_one, List.set_cons_zero, List.set_cons_succ, ivec_set, brow_upd] at rx
    simp -dsimp only [go_sem, ↓reduceIte, reduceCtorEq, Nat.reduceEqDiff, Nat.reduceAdd, Nat.reduceLeDiff, Nat.reduceMul, Int.reduceBEq, Int.reduceBNe, Int.reduceLT, Int.reduceLE, Int.reduceGT, Int.reduceGE, ro.cell, rx.cell, ru.cell, r8.cell]
    simp -dsimp (disch := omega) only [wrap64]
    simp only [glueIn, if_neg nb, Int.toNat_natCast] at hgl
    refine ⟨i + 1, by omega, by simp [Le, find], by omega, p0, by omega, upd (upd U x true) y true, upd F y x, upd S x (y : Int), ?_, rx, ru, hG.step hx hy g5 g6 g7, hgl⟩
    rw [ivec_congr fun p hp => ?_]; exact ro
    unfold upd; split <;> rfl
  have hil : i = l.length := by omega
  subst hil
  rw [List.drop_length] at hgl
  simp only [glueIn] at hgl
  have y1 := p0.size
  simp -dsimp only [go_sem, ↓reduceIte, reduceCtorEq, Nat.reduceEqDiff, Nat.reduceAdd, Nat.reduceLeDiff, Nat.reduceMul, Int.reduceBEq, Int.reduceBNe, Int.reduceLT, Int.reduceLE, Int.reduceGT, Int.reduceGE, ro.cell, rx.cell, ru.cell]
  refine call_of (rel_New n h6) ?_
  rintro v7 h7 ⟨f7, t7⟩
  have f7_z := f7.size
  replace p0 := p0.fresh f7 (by omega)
  replace ro := ro.fr f7 (by omega)
  replace rx := rx.fr f7 (by omega)
  replace ru := ru.fr f7 (by omega)
  have hcl : clampN n = n := by unfold clampN; omega
  rw [hcl] at t7
  simp -dsimp only [go_sem, ↓reduceIte, reduceCtorEq, Nat.reduceEqDiff, Nat.reduceAdd, Nat.reduceLeDiff, Nat.reduceMul, Int.reduceBEq, Int.reduceBNe, Int.reduceLT, Int.reduceLE, Int.reduceGT, Int.reduceGE, ro.cell, rx.cell, ru.cell]
  refine call_of (rel_Pairs (hr.fr p0 (by omega)) (ht.fr p0 (by omega))) ?_
  rintro v h8 ⟨f8, o8⟩
  have f8_z := f8.size
  replace p0 := p0.fresh f8 (by omega)
  replace ro := ro.fr f8 (by omega)
  replace rx := rx.fr f8 (by omega)
  replace ru := ru.fr f8 (by omega)
  replace t7 := t7.fr f8 (by omega)
  obtain ⟨pa, pc, rfl⟩ := o8.is
  have g3 : n * n ≤ 256 * 256 := Nat.mul_le_mul (by omega) (by omega)
  have g4 : (pairsOf n M).length ≤ n * n := length_pairsTo_le n M n
  simp -dsimp only [go_sem, ↓reduceIte, reduceCtorEq, Nat.reduceEqDiff, Nat.reduceAdd, Nat.reduceLeDiff, Nat.reduceMul, Int.reduceBEq, Int.reduceBNe, Int.reduceLT, Int.reduceLE, Int.reduceGT, Int.reduceGE, ro.cell, rx.cell, ru.cell]
  refine loop_intro (fun j : Nat => [(6, .int .i64 n), (7, .slice (some ⟨bo, 0, none⟩) n n), (8, .slice (some ⟨bx, 0, none⟩) n n), (13, v7), (112, .slice pa (pairsOf n M).length pc), (113, .int .i64 (pairsOf n M).length), (114, .int .i64 j)])
    (fun j h' => j ≤ (pairsOf n M).length ∧ Fr 0 0 h1 h' ∧ h8.size ≤ h'.size ∧ Rw h' bo (ivec n fun p => (F p : Int)) ∧ Rw h' bx (ivec n S) ∧ Holder 2 h' (.slice pa (pairsOf n M).length pc) (pairsOf n M).length (pairsV (pairsOf n M)) h7.size ∧
      ∃ N, ProgAt h' h6.size h7.size v7 n N ∧ ∀ x y, N x y = true ↔ ∃ p : Nat × Nat, ((p.1 : Int), (p.2 : Int)) ∈ (pairsOf n M).take j ∧ S p.1 ≠ (p.2 : Int) ∧ F p.1 = x ∧ F p.2 = y) (fun j => (pairsOf n M).length - j) 0 ?_ ?_ ?_
  · simp [Le, find]
  · exact ⟨by omega, p0, by omega, ro, rx, o8, _, t7, by simp⟩
  rintro j h9 ⟨hj, p0, y9, ro, rx, o8, N, t9, hN⟩
  have p0_z := p0.size
  have ro_l := ro.lt
  have rx_l := rx.lt
  have o8_l := o8.top
  simp -dsimp only [go_sem, ↓reduceIte, reduceCtorEq, Nat.reduceEqDiff, Nat.reduceAdd, Nat.reduceLeDiff, Nat.reduceMul, Int.reduceBEq, Int.reduceBNe, Int.reduceLT, Int.reduceLE, Int.reduceGT, Int.reduceGE, ro.cell, rx.cell]
  refine ⟨fun hlt => ?_, fun hge => ?_⟩
  · have hlt : j < (pairsOf n M).length := by omega
    have hq : (pairsOf n M)[j]? = some (pairsOf n M)[j] := by simp
    have htk : (pairsOf n M).take (j + 1) = (pairsOf n M).take j ++ [(pairsOf n M)[j]] := by rw [List.take_succ_eq_append_getElem hlt]
    have hmem : (pairsOf n M)[j] ∈ pairsOf n M := List.getElem_mem _
    generalize (pairsOf n M)[j] = q at hq htk hmem
    obtain ⟨a, b, ha, hb', hm, rfl⟩ := mem_pairsOf.1 hmem
    simp -dsimp only [go_sem, ↓reduceIte, reduceCtorEq, Nat.reduceEqDiff, Nat.reduceAdd, Nat.reduceLeDiff, Nat.reduceMul, Int.reduceBEq, Int.reduceBNe, Int.reduceLT, Int.reduceLE, Int.reduceGT, Int.reduceGE, ro.cell, rx.cell]
    refine Chk_intro (by omega) (o8.rd.pair hq fun b6 o6 c6 c7 => ?_)
    simp -dsimp only [go_sem, ↓reduceIte, reduceCtorEq, Nat.reduceEqDiff, Nat.reduceAdd, Nat.reduceLeDiff, Nat.reduceMul, Int.reduceBEq, Int.reduceBNe, Int.reduceLT, Int.reduceLE, Int.reduceGT, Int.reduceGE, c6, c7, ro.cell, rx.cell]
    intro b10 h10 n10
    have n10_a := n10.at_
    have n10_z := n10.size
    replace p0 := p0.fresh (n10.fr (lo := 0) (hi := 0)) (by omega)
    replace ro := ro.fr (n10.fr (lo := 0) (hi := 0)) (by omega)
    replace rx := rx.fr (n10.fr (lo := 0) (hi := 0)) (by omega)
    replace o8 := o8.fr (n10.fr (lo := 0) (hi := 0)) (by have := o8.at_; omega)
    replace t9 := t9.fr (n10.fr (lo := 0) (hi := 0)) (by omega)
    have r10 := n10.row
    simp -dsimp only [go_sem, ↓reduceIte, reduceCtorEq, Nat.reduceEqDiff, Nat.reduceAdd, Nat.reduceLeDiff, Nat.reduceMul, Int.reduceBEq, Int.reduceBNe, Int.reduceLT, Int.reduceLE, Int.reduceGT, Int.reduceGE, ro.cell, rx.cell, r10.cell]
    refine Chk_intro (r10.wr (by first | (simp; done) | (simp; omega))) fun h11 s11 => ?_
    have s11_z := s11.size
    replace p0 := p0.fresh s11.fr (by omega)
    replace ro := ro.fr s11.fr (by omega)
    replace rx := rx.fr s11.fr (by omega)
    replace o8 := o8.fr s11.fr (by have := o8.at_; omega)
    replace t9 := t9.fr s11.fr (by omega)
    replace r10 := s11.row r10
    try simp only [cl_int, cl_bool, cl_slice, cl_ptr, putAt_one, List.set_cons_zero, List.set_cons_succ, ivec_set, brow_upd] at r10
    simp -dsimp only [go_sem, ↓reduceIte, reduceCtorEq, Nat.reduceEqDiff, Nat.reduceAdd, Nat.reduceLeDiff, Nat.reduceMul, Int.reduceBEq, Int.reduceBNe, Int.reduceLT, Int.reduceLE, Int.reduceGT, Int.reduceGE] at r10
    simp -dsimp only [go_sem, ↓reduceIte, reduceCtorEq, Nat.reduceEqDiff, Nat.reduceAdd, Nat.reduceLeDiff, Nat.reduceMul, Int.reduceBEq, Int.reduceBNe, Int.reduceLT, Int.reduceLE, Int.reduceGT, Int.reduceGE, ro.cell, rx.cell, r10.cell]
    refine Chk_intro (by omega) ?_
    simp -dsimp only [go_sem, ↓reduceIte, reduceCtorEq, Nat.reduceEqDiff, Nat.reduceAdd, Nat.reduceLeDiff, Nat.reduceMul, Int.reduceBEq, Int.reduceBNe, Int.reduceLT, Int.reduceLE, Int.reduceGT, Int.reduceGE, ivec_get ha, ro.cell, rx.cell, r10.cell]
    refine ⟨fun hne => ?_, fun heq => ?_⟩
    · have hFa := hG.lt a ha
      have hFb := hG.lt b hb'
      simp -dsimp only [go_sem, ↓reduceIte, reduceCtorEq, Nat.reduceEqDiff, Nat.reduceAdd, Nat.reduceLeDiff, Nat.reduceMul, Int.reduceBEq, Int.reduceBNe, Int.reduceLT, Int.reduceLE, Int.reduceGT, Int.reduceGE, ro.cell, rx.cell, r10.cell]
      refine Chk_intro (by omega) ?_
      simp -dsimp only [go_sem, ↓reduceIte, reduceCtorEq, Nat.reduceEqDiff, Nat.reduceAdd, Nat.reduceLeDiff, Nat.reduceMul, Int.reduceBEq, Int.reduceBNe, Int.reduceLT, Int.reduceLE, Int.reduceGT, Int.reduceGE, ivec_get ha, ro.cell, rx.cell, r10.cell]
      refine Chk_intro (by omega) ?_
      simp -dsimp only [go_sem, ↓reduceIte, reduceCtorEq, Nat.reduceEqDiff, Nat.reduceAdd, Nat.reduceLeDiff, Nat.reduceMul, Int.reduceBEq, Int.reduceBNe, Int.reduceLT, Int.reduceLE, Int.reduceGT, Int.reduceGE, ivec_get hb', ro.cell, rx.cell, r10.cell]
      refine call_of (rel_Put t9 (F a) (F b) true) ?_
      rintro v12 h12 ⟨f12, z12, rfl, t12⟩
      have f12_z := f12.size
      replace p0 := p0.fresh f12 (by omega)
      replace ro := ro.fr f12 (by omega)
      replace rx := rx.fr f12 (by omega)
      replace o8 := o8.fr f12 (by have := o8.at_; omega)
      replace r10 := r10.fr f12 (by omega)
      simp -dsimp only [go_sem, ↓reduceIte, reduceCtorEq, Nat.reduceEqDiff, Nat.reduceAdd, Nat.reduceLeDiff, Nat.reduceMul, Int.reduceBEq, Int.reduceBNe, Int.reduceLT, Int.reduceLE, Int.reduceGT, Int.reduceGE, ro.cell, rx.cell, r10.cell]
      simp -dsimp (disch := omega) only [wrap64]
      refine ⟨j + 1, by omega, by simp [Le, find], by omega, p0, by omega, ro, rx, o8, _, t12, fun x y => ?_⟩
      have e : (inR n (F a) && inR n (F b)) = true := by simp [inR]; omega
      simp only [putM, e, Bool.true_and]
      rw [htk]
      by_cases hxy : x = F a ∧ y = F b
      · obtain ⟨rfl, rfl⟩ := hxy
        simp only [beq_self_eq_true, Bool.and_self, if_true, true_iff]
        exact ⟨(a, b), by simp, by simpa using hne, rfl, rfl⟩
      · have : ((F a : Int) == (x : Int) && (F b : Int) == (y : Int)) = false := by
          rw [Bool.eq_false_iff]; intro h; apply hxy; simp at h; omega
        rw [this]
        simp only [Bool.false_eq_true, if_false]
        rw [hN]
        refine exists_congr fun p => ?_
        simp only [List.mem_append, List.mem_singleton, Prod.mk.injEq]
        constructor
        · rintro ⟨h1, h2⟩; exact ⟨.inl h1, h2⟩
        · rintro ⟨h1 | ⟨h1, h1'⟩, h2, h3, h4⟩
          · exact ⟨h1, h2, h3, h4⟩
          · have e1 : p.1 = a := by omega
            have e2 : p.2 = b := by omega
            rw [e1] at h3; rw [e2] at h4
            exact absurd ⟨h3.symm, h4.symm⟩ hxy
    · simp -dsimp only [go_sem, ↓reduceIte, reduceCtorEq, Nat.reduceEqDiff, Nat.reduceAdd, Nat.reduceLeDiff, Nat.reduceMul, Int.reduceBEq, Int.reduceBNe, Int.reduceLT, Int.reduceLE, Int.reduceGT, Int.reduceGE, ro.cell, rx.cell, r10.cell]
      simp -dsimp (disch := omega) only [wrap64]
      refine ⟨j + 1, by omega, by simp [Le, find], by omega, p0, by omega, ro, rx, o8, N, t9, fun x y => ?_⟩
      rw [htk, hN]
      refine exists_congr fun p => ?_
      simp only [List.mem_append, List.mem_singleton, Prod.mk.injEq]
      constructor
      · rintro ⟨h1, h2⟩; exact ⟨.inl h1, h2⟩
      · rintro ⟨h1 | ⟨h1, h1'⟩, h2, h3, h4⟩
        · exact ⟨h1, h2, h3, h4⟩
        · have e1 : p.1 = a := by omega
          have e2 : p.2 = b := by omega
          rw [e1, e2] at h2
          exact absurd h2 (by simpa using heq)
  have hjl : j = (pairsOf n M).length := by omega
  subst hjl
  rw [List.take_length] at hN
  have t9 := t9.congr (M' := glueM n M F S) fun x y hx hy => Bool.eq_iff_iff.2 (by
    rw [hN, glueM_true]
    constructor
    · rintro ⟨⟨p, q⟩, h1, h2, h3, h4⟩
      obtain ⟨a, b, ha, hb, hm, he⟩ := mem_pairsOf.1 h1
      simp only [Prod.mk.injEq] at he
      have e1 : p = a := by omega
      have e2 : q = b := by omega
      subst e1 e2
      exact ⟨p, ha, q, hb, hm, h2, h3, h4⟩
    · rintro ⟨p, hp, q, hq, hm, h2, h3, h4⟩
      exact ⟨(p, q), mem_pairsOf.2 ⟨p, q, hp, hq, hm, rfl⟩, h2, h3, h4⟩)
  have hS : glueS n M l = orCyc (glueGo n F S (glueM n M F S) n []) := by simp only [glueS, ← hgl]
  clear hN
  generalize glueM n M F S = G at hS t9
  simp -dsimp only [go_sem, ↓reduceIte, reduceCtorEq, Nat.reduceEqDiff, Nat.reduceAdd, Nat.reduceLeDiff, Nat.reduceMul, Int.reduceBEq, Int.reduceBNe, Int.reduceLT, Int.reduceLE, Int.reduceGT, Int.reduceGE, ro.cell, rx.cell]
  refine call_of (order_chooser t9 (ht.fr p0 (by omega))) ?_
  rintro v h10 ⟨f10, c, rfl, t10⟩
  have f10_z := f10.size
  replace p0 := p0.fresh f10 (by omega)
  replace ro := ro.fr f10 (by omega)
  replace rx := rx.fr f10 (by omega)
  replace o8 := o8.fr f10 (by have := o8.at_; omega)
  replace t9 := t9.fr f10 (by omega)
  have y10 := p0.size
  simp -dsimp only [go_sem, ↓reduceIte, reduceCtorEq, Nat.reduceEqDiff, Nat.reduceAdd, Nat.reduceLeDiff, Nat.reduceMul, Int.reduceBEq, Int.reduceBNe, Int.reduceLT, Int.reduceLE, Int.reduceGT, Int.reduceGE, ro.cell, rx.cell]
  refine loop_intro (fun s : Value × Nat => [(6, .int .i64 n), (7, .slice (some ⟨bo, 0, none⟩) n n), (8, .slice (some ⟨bx, 0, none⟩) n n), (16, c.next), (17, c.place), (18, s.1)])
    (fun s h' => Fr 0 0 h1 h' ∧ h10.size ≤ h'.size ∧ Rw h' bo (ivec n fun p => (F p : Int)) ∧ Rw h' bx (ivec n S) ∧ ∃ m : List Nat, m.length = s.2 ∧ m.length ≤ n + 1 ∧ Chs h' h9.size h10.size c n G m.contains ∧ Holder 1 h' s.1 m.length (natsV m) h10.size ∧ (∀ q, q < n → F q ≠ q → m.contains q = m.contains (F q)) ∧ ∃ k, n ≤ m.length + k ∧ glueGo n F S G k m = glueGo n F S G n []) (fun s => n - s.2) (.slice none 0 0, 0) ?_ ?_ ?_
  · simp [Le, find]
  · exact ⟨p0, by omega, ro, rx, [], rfl, by simp, t10, .none _ _ _, by simp, n, by simp, rfl⟩
  rintro ⟨lv, i⟩ h12 ⟨p0, y12, ro, rx, m, hmi, hmn, t12, ol, hpt, k, hk, hgo⟩
  dsimp only at hmi ol ⊢
  subst hmi
  have p0_z := p0.size
  have ro_l := ro.lt
  have rx_l := rx.lt
  have ol_l := ol.top
  obtain ⟨va, vc, rfl⟩ := ol.is
  simp -dsimp only [go_sem, ↓reduceIte, reduceCtorEq, Nat.reduceEqDiff, Nat.reduceAdd, Nat.reduceLeDiff, Nat.reduceMul, Int.reduceBEq, Int.reduceBNe, Int.reduceLT, Int.reduceLE, Int.reduceGT, Int.reduceGE, ro.cell, rx.cell]
  refine ⟨fun hlt => ?_, fun hge => ?_⟩
  · have hlt : m.length < n := by omega
    simp -dsimp only [go_sem, ↓reduceIte, reduceCtorEq, Nat.reduceEqDiff, Nat.reduceAdd, Nat.reduceLeDiff, Nat.reduceMul, Int.reduceBEq, Int.reduceBNe, Int.reduceLT, Int.reduceLE, Int.reduceGT, Int.reduceGE, ChB.next, ro.cell, rx.cell]
    refine call_of (chooser_next (q := 0) t12 (by omega)) ?_
    rintro v h13 ⟨rfl, rfl⟩
    simp -dsimp only [go_sem, ↓reduceIte, reduceCtorEq, Nat.reduceEqDiff, Nat.reduceAdd, Nat.reduceLeDiff, Nat.reduceMul, Int.reduceBEq, Int.reduceBNe, Int.reduceLT, Int.reduceLE, Int.reduceGT, Int.reduceGE, ro.cell, rx.cell]
    refine loop_intro (fun q : Nat => [(6, .int .i64 n), (7, .slice (some ⟨bo, 0, none⟩) n n), (8, .slice (some ⟨bx, 0, none⟩) n n), (16, c.next), (17, c.place), (18, .slice va m.length vc), (19, .int .i64 (nx (lf (freeB n G m.contains) n q)))])
      (fun q h' => q ≤ n ∧ h' = h13 ∧ lf (fun p => F p == p && freeB n G m.contains p) n 0 = lf (fun p => F p == p && freeB n G m.contains p) n q) (fun q => n - q) 0 ?_ ?_ ?_
    · simp [Le, find, ChB.next, ChB.place]
    · exact ⟨by omega, rfl, rfl⟩
    rintro q _ ⟨hq, rfl, hlf⟩
    obtain ⟨hl0, hl1⟩ := lf_and (freeB n G m.contains) (fun p => F p == p) n (n - q) q rfl
    -- what is found
    have step : ∀ x, x < n → lf (fun p => F p == p && freeB n G m.contains p) n 0 = some x → freeB n G m.contains x = true → F x = x → ∃ k', k = k' + 1 ∧ glueGo n F S G k' (if S x ≥ 0 then m ++ [x] ++ [(S x).toNat] else m ++ [x]) = glueGo n F S G n [] := fun x hxn hx hfx hFx => by
      obtain ⟨k, rfl⟩ : ∃ k', k = k' + 1 := ⟨k - 1, by omega⟩
      simp only [glueGo, if_neg (show ¬ n ≤ m.length by omega), hx] at hgo
      exact ⟨k, rfl, hgo⟩
    cases hx : lf (freeB n G m.contains) n q with
    | none =>
      have hx' := hl0 hx
      rw [← hlf] at hx'
      simp -dsimp only [go_sem, ↓reduceIte, reduceCtorEq, Nat.reduceEqDiff, Nat.reduceAdd, Nat.reduceLeDiff, Nat.reduceMul, Int.reduceBEq, Int.reduceBNe, Int.reduceLT, Int.reduceLE, Int.reduceGT, Int.reduceGE, hx, ro.cell, rx.cell]
      obtain ⟨k, rfl⟩ : ∃ k', k = k' + 1 := ⟨k - 1, by omega⟩
      simp only [glueGo, if_neg (show ¬ n ≤ m.length by omega), hx'] at hgo
      exact ⟨p0, by rw [hS, ← hgo]; rfl⟩
    | some x =>
      obtain ⟨hqx, hxn, hfx⟩ := lf_some hx
      obtain ⟨hl2, hl3⟩ := hl1 x hx
      simp -dsimp only [go_sem, ↓reduceIte, reduceCtorEq, Nat.reduceEqDiff, Nat.reduceAdd, Nat.reduceLeDiff, Nat.reduceMul, Int.reduceBEq, Int.reduceBNe, Int.reduceLT, Int.reduceLE, Int.reduceGT, Int.reduceGE, hx, ro.cell, rx.cell]
      refine Chk_intro (by omega) ?_
      simp -dsimp only [go_sem, ↓reduceIte, reduceCtorEq, Nat.reduceEqDiff, Nat.reduceAdd, Nat.reduceLeDiff, Nat.reduceMul, Int.reduceBEq, Int.reduceBNe, Int.reduceLT, Int.reduceLE, Int.reduceGT, Int.reduceGE, ivec_get hxn, ro.cell, rx.cell]
      refine ⟨fun hne => ?_, fun heq => ?_⟩
      · have hF : (F x == x) = false := by simp at hne ⊢; omega
        simp -dsimp only [go_sem, ↓reduceIte, reduceCtorEq, Nat.reduceEqDiff, Nat.reduceAdd, Nat.reduceLeDiff, Nat.reduceMul, Int.reduceBEq, Int.reduceBNe, Int.reduceLT, Int.reduceLE, Int.reduceGT, Int.reduceGE, ro.cell, rx.cell]
        rw [wrap64 (by omega) (by omega)]
        simp -dsimp only [go_sem, ↓reduceIte, reduceCtorEq, Nat.reduceEqDiff, Nat.reduceAdd, Nat.reduceLeDiff, Nat.reduceMul, Int.reduceBEq, Int.reduceBNe, Int.reduceLT, Int.reduceLE, Int.reduceGT, Int.reduceGE, ChB.next, ro.cell, rx.cell]
        refine call_of (chooser_next (q := x + 1) t12 (by omega)) ?_
        rintro v h14 ⟨rfl, rfl⟩
        simp -dsimp only [go_sem, ↓reduceIte, reduceCtorEq, Nat.reduceEqDiff, Nat.reduceAdd, Nat.reduceLeDiff, Nat.reduceMul, Int.reduceBEq, Int.reduceBNe, Int.reduceLT, Int.reduceLE, Int.reduceGT, Int.reduceGE, ro.cell, rx.cell]
        exact ⟨x + 1, by omega, by simp [Le, find, ChB.next, ChB.place], by omega, hlf.trans (hl3 hF)⟩
      · have hFx : F x = x := by simp at heq; omega
        obtain ⟨k', hk', hgo'⟩ := step x hxn (hlf.trans (hl2 (by simp [hFx]))) hfx hFx
        have hDx : m.contains x = false := (freeB_true.1 hfx).1
        simp -dsimp only [go_sem, ↓reduceIte, reduceCtorEq, Nat.reduceEqDiff, Nat.reduceAdd, Nat.reduceLeDiff, Nat.reduceMul, Int.reduceBEq, Int.reduceBNe, Int.reduceLT, Int.reduceLE, Int.reduceGT, Int.reduceGE, ChB.place, ro.cell, rx.cell]
        refine call_of (chooser_place t12 hxn true (by simpa using hDx)) ?_
        rintro v h14 ⟨f14, z14, t14⟩
        have f14_z := f14.size
        replace p0 := p0.fresh f14 (by omega)
        replace ro := ro.fr f14 (by omega)
        replace rx := rx.fr f14 (by omega)
        replace ol := ol.fr f14 (by have := ol.at_; omega)
        simp -dsimp only [go_sem, ↓reduceIte, reduceCtorEq, Nat.reduceEqDiff, Nat.reduceAdd, Nat.reduceLeDiff, Nat.reduceMul, Int.reduceBEq, Int.reduceBNe, Int.reduceLT, Int.reduceLE, Int.reduceGT, Int.reduceGE, ro.cell, rx.cell]
        intro b15 h15 n15
        have n15_a := n15.at_
        have n15_z := n15.size
        replace p0 := p0.fresh (n15.fr (lo := 0) (hi := 0)) (by omega)
        replace ro := ro.fr (n15.fr (lo := 0) (hi := 0)) (by omega)
        replace rx := rx.fr (n15.fr (lo := 0) (hi := 0)) (by omega)
        replace ol := ol.fr (n15.fr (lo := 0) (hi := 0)) (by have := ol.at_; omega)
        replace t14 := t14.fr (n15.fr (lo := 0) (hi := 0)) (by omega)
        simp -dsimp only [go_sem, ↓reduceIte, reduceCtorEq, Nat.reduceEqDiff, Nat.reduceAdd, Nat.reduceLeDiff, Nat.reduceMul, Int.reduceBEq, Int.reduceBNe, Int.reduceLT, Int.reduceLE, Int.reduceGT, Int.reduceGE, n15.row.cell, ro.cell, rx.cell]
        refine ol.append (by omega) rfl (by omega) (by simp) (by omega) fun v16 h16 o_new f16 e_app => ?_
        have f16_z := f16.size
        have o_at := ol.at_
        replace p0 := p0.fresh f16 (by omega)
        replace ro := ro.fr f16 (by omega)
        replace rx := rx.fr f16 (by omega)
        replace t14 := t14.fr f16 (by omega)
        clear o_at e_app
        replace ol := o_new
        have ol_l := ol.top
        simp -dsimp only [go_sem, ↓reduceIte, reduceCtorEq, Nat.reduceEqDiff, Nat.reduceAdd, Nat.reduceLeDiff, Nat.reduceMul, Int.reduceBEq, Int.reduceBNe, Int.reduceLT, Int.reduceLE, Int.reduceGT, Int.reduceGE, ro.cell, rx.cell]
        refine Chk_intro (by omega) ?_
        simp -dsimp only [go_sem, ↓reduceIte, reduceCtorEq, Nat.reduceEqDiff, Nat.reduceAdd, Nat.reduceLeDiff, Nat.reduceMul, Int.reduceBEq, Int.reduceBNe, Int.reduceLT, Int.reduceLE, Int.reduceGT, Int.reduceGE, ivec_get hxn, ro.cell, rx.cell]
        have e1 : (fun k => if k = x then true else m.contains k) = (m ++ [x]).contains := by
          funext j; by_cases hj : j = x <;> simp [hj]
        rw [e1] at t14
        have ol2 : Holder 1 h16 v16 (m ++ [x]).length (natsV (m ++ [x])) h10.size := by simpa [natsV] using ol
        have ol2_l := ol2.top
        have hml : (m ++ [x]).length = m.length + 1 := by simp
        have hpt' := hG.keep hxn hpt hFx
        rcases hG.snd x hxn with hs | ⟨y, hy, hs, hyx, hyF, hxF⟩
        · rw [hs, if_neg (by decide)] at hgo'
          rw [hs, if_neg (by decide)] at hpt'
          simp -dsimp only [go_sem, ↓reduceIte, reduceCtorEq, Nat.reduceEqDiff, Nat.reduceAdd, Nat.reduceLeDiff, Nat.reduceMul, Int.reduceBEq, Int.reduceBNe, Int.reduceLT, Int.reduceLE, Int.reduceGT, Int.reduceGE, hs, ro.cell, rx.cell]
          exact ⟨(v16, (m ++ [x]).length), by dsimp only; omega, by simp [Le, find, ChB.next, ChB.place], p0, by omega, ro, rx, m ++ [x], rfl, by omega, t14, ol2, hpt', k', by omega, hgo'⟩
        · rw [hs, if_pos (by omega), Int.toNat_natCast] at hgo'
          rw [hs, if_pos (by omega), Int.toNat_natCast] at hpt'
          obtain ⟨wa, wc, rfl⟩ := ol2.is
          have hDy : (m ++ [x]).contains y = false := by
            have := hpt y hy (by omega)
            rw [hyF, hDx] at this
            simp only [List.contains_append, this, List.contains_cons, List.contains_nil, Bool.or_false, Bool.false_or, beq_eq_false_iff_ne, ne_eq]
            exact hyx
          simp -dsimp only [go_sem, ↓reduceIte, reduceCtorEq, Nat.reduceEqDiff, Nat.reduceAdd, Nat.reduceLeDiff, Nat.reduceMul, Int.reduceBEq, Int.reduceBNe, Int.reduceLT, Int.reduceLE, Int.reduceGT, Int.reduceGE, hs, ChB.place, ro.cell, rx.cell]
          refine call_of (chooser_place t14 hy true (by simpa using hDy)) ?_
          rintro v h17 ⟨f17, z17, t17⟩
          have f17_z := f17.size
          replace p0 := p0.fresh f17 (by omega)
          replace ro := ro.fr f17 (by omega)
          replace rx := rx.fr f17 (by omega)
          replace ol2 := ol2.fr f17 (by have := ol2.at_; omega)
          simp -dsimp only [go_sem, ↓reduceIte, reduceCtorEq, Nat.reduceEqDiff, Nat.reduceAdd, Nat.reduceLeDiff, Nat.reduceMul, Int.reduceBEq, Int.reduceBNe, Int.reduceLT, Int.reduceLE, Int.reduceGT, Int.reduceGE, ro.cell, rx.cell]
          intro b18 h18 n18
          have n18_a := n18.at_
          have n18_z := n18.size
          replace p0 := p0.fresh (n18.fr (lo := 0) (hi := 0)) (by omega)
          replace ro := ro.fr (n18.fr (lo := 0) (hi := 0)) (by omega)
          replace rx := rx.fr (n18.fr (lo := 0) (hi := 0)) (by omega)
          replace ol2 := ol2.fr (n18.fr (lo := 0) (hi := 0)) (by have := ol2.at_; omega)
          replace t17 := t17.fr (n18.fr (lo := 0) (hi := 0)) (by omega)
          simp -dsimp only [go_sem, ↓reduceIte, reduceCtorEq, Nat.reduceEqDiff, Nat.reduceAdd, Nat.reduceLeDiff, Nat.reduceMul, Int.reduceBEq, Int.reduceBNe, Int.reduceLT, Int.reduceLE, Int.reduceGT, Int.reduceGE, n18.row.cell, ro.cell, rx.cell]
          refine ol2.append (by omega) rfl (by omega) (by simp) (by omega) fun v19 h19 o_new f19 e_app => ?_
          have f19_z := f19.size
          have o_at := ol2.at_
          replace p0 := p0.fresh f19 (by omega)
          replace ro := ro.fr f19 (by omega)
          replace rx := rx.fr f19 (by omega)
          replace t17 := t17.fr f19 (by omega)
          clear o_at e_app
          replace ol2 := o_new
          have ol2_l := ol2.top
          simp -dsimp only [go_sem, ↓reduceIte, reduceCtorEq, Nat.reduceEqDiff, Nat.reduceAdd, Nat.reduceLeDiff, Nat.reduceMul, Int.reduceBEq, Int.reduceBNe, Int.reduceLT, Int.reduceLE, Int.reduceGT, Int.reduceGE, ro.cell, rx.cell]
          have e2 : (fun k => if k = y then true else (m ++ [x]).contains k) = (m ++ [x] ++ [y]).contains := by
            funext j; by_cases hj : j = y <;> simp [hj]
          rw [e2] at t17
          have hml2 : (m ++ [x] ++ [y]).length = m.length + 2 := by simp
          refine ⟨(v19, (m ++ [x] ++ [y]).length), by dsimp only; omega, by simp [Le, find, ChB.next, ChB.place], p0, by omega, ro, rx, m ++ [x] ++ [y], rfl, by omega, t17, ?_, hpt', k', by omega, hgo'⟩
          rw [natsV_append, List.length_append]; first | exact ol2 | (rw [hs] at ol2; exact ol2)
  · simp -dsimp only [go_sem, ↓reduceIte, reduceCtorEq, Nat.reduceEqDiff, Nat.reduceAdd, Nat.reduceLeDiff, Nat.reduceMul, Int.reduceBEq, Int.reduceBNe, Int.reduceLT, Int.reduceLE, Int.reduceGT, Int.reduceGE, ro.cell, rx.cell]
    refine ⟨p0, ?_⟩
    rw [hS, ← hgo, glueGo_end (by omega)]
    exact ⟨_, rfl, ol.lower (by omega)⟩
end Go.Proofs.Tst
/-
  How far it is to a point; a least cycle.
-/
namespace Go.Vc
def lay (n : Nat) (M : Nat → Nat → Bool) (p : Nat) (F : Nat → Nat) (k i : Nat) : Bool := if k = 0 then M i p else (List.range n).any fun j => M i j && F j == k
/-- How many steps it takes to come to p, k at the most; 0: not known. -/
def farK (n : Nat) (M : Nat → Nat → Bool) (p : Nat) : Nat → Nat → Nat
  | 0, _ => 0
  | k + 1, i => if farK n M p k i ≠ 0 then farK n M p k i else if lay n M p (farK n M p k) k i = true then k + 1 else 0
section
variable {n : Nat} {M : Nat → Nat → Bool} {p : Nat}
theorem lay_succ {F : Nat → Nat} {k i : Nat} : lay n M p F (k + 1) i = true ↔ ∃ j, j < n ∧ M i j = true ∧ F j = k + 1 := by
  simp [lay, List.any_eq_true]
/-- How many are known. -/
def known (n : Nat) (M : Nat → Nat → Bool) (p k : Nat) : Nat := (List.range n).countP fun i => farK n M p k i != 0
theorem countP_lt {f g : Nat → Bool} : ∀ (m x : Nat), x < m → (∀ i, f i = true → g i = true) → f x = false → g x = true → (List.range m).countP f < (List.range m).countP g
  | 0, x, h, _, _, _ => by omega
  | m + 1, x, h, hfg, h1, h2 => by
    rw [List.range_succ, List.countP_append, List.countP_append, List.countP_singleton, List.countP_singleton]
    have hmono : ∀ k, (List.range k).countP f ≤ (List.range k).countP g := fun k => List.countP_mono_left fun i _ hi => hfg i hi
    by_cases hx : x = m
    · subst hx
      rw [h1, h2]; have := hmono x; simp; omega
    · have := countP_lt m x (by omega) hfg h1 h2
      have h3 : (if f m = true then 1 else 0) ≤ (if g m = true then 1 else 0) := by
        by_cases hf : f m = true
        · rw [if_pos hf, if_pos (hfg m hf)]; exact Nat.le_refl _
        · rw [if_neg hf]; omega
      omega
end
theorem lf_none {f : Nat → Bool} {n q : Nat} (h : lf f n q = none) : ∀ x, q ≤ x → x < n → f x = false := fun x h1 h2 => by
  unfold lf at h
  have := List.find?_eq_none.1 h x (List.mem_range'_1.2 ⟨h1, by omega⟩)
  simpa using this
theorem lf_least {f : Nat → Bool} {n q x : Nat} (h : lf f n q = some x) : ∀ y, q ≤ y → y < x → f y = false := by
  obtain ⟨h1, h2, _⟩ := lf_some h
  intro y hy hyx
  have hr : ∀ d q, n - q = d → lf f n q = some x → ∀ y, q ≤ y → y < x → f y = false := by
    intro d
    induction d with
    | zero => intro q hq h'; rw [lf_end f (by omega)] at h'; cases h'
    | succ d ih =>
      intro q hq h' y hy hyx
      rw [lf_step f (by omega)] at h'
      cases hf : f q with
      | true => rw [if_pos hf] at h'; cases h'; omega
      | false =>
        rw [if_neg (by simp [hf])] at h'
        by_cases hyq : y = q
        · subst hyq; exact hf
        · exact ih (q + 1) (by omega) h' y (by omega) hyx
  exact hr _ q rfl h y hy hyx
theorem nodup_lt {n : Nat} {l : List Nat} (hd : l.Nodup) (hl : ∀ x ∈ l, x < n) : l.length ≤ n := by
  have h : ∀ (l m : List Nat), l.Nodup → (∀ x ∈ l, x ∈ m) → l.length ≤ m.length := by
    intro l
    induction l with
    | nil => intro m _ _; simp
    | cons x l ih =>
      intro m hd hs
      have hx := hs x (by simp)
      have hd' := List.nodup_cons.1 hd
      have := ih (m.erase x) hd'.2 fun y hy => (List.mem_erase_of_ne (by rintro rfl; exact hd'.1 hy)).2 (hs y (by simp [hy]))
      rw [List.length_erase_of_mem hx] at this
      have := List.length_pos_of_mem hx
      simp; omega
  have := h l (List.range n) hd fun x hx => List.mem_range.2 (hl x hx)
  simpa using this
end Go.Vc
/-
  The closure is the least transitive relation over a relation; ways.
-/
namespace Go.Vc
section
variable {n : Nat} {M : Nat → Nat → Bool}
theorem warM_self (n : Nat) (M : Nat → Nat → Bool) (k j : Nat) : warM n M (k + 1) k j = warM n M k k j := by
  simp only [warM]; cases warM n M k k j <;> simp
theorem warM_mono {k i j : Nat} (h : warM n M k i j = true) : warM n M (k + 1) i j = true := by simp only [warM, h, Bool.true_or]
theorem warM_sub : ∀ (k : Nat) {i j : Nat}, M i j = true → warM n M k i j = true
  | 0, _, _, h => h
  | k + 1, _, _, h => warM_mono (warM_sub k h)
theorem warM_succ {k i j : Nat} : warM n M (k + 1) i j = true ↔ warM n M k i j = true ∨ (warM n M k i k = true ∧ warM n M k k j = true) := by
  simp [warM]
theorem warM_trans : ∀ (k : Nat) {i x j : Nat}, x < k → warM n M k i x = true → warM n M k x j = true → warM n M k i j = true
  | 0, _, _, _, h, _, _ => by omega
  | k + 1, i, x, j, hx, h1, h2 => by
    rw [warM_succ] at h1 h2 ⊢
    by_cases hxk : x = k
    · subst hxk
      refine .inr ⟨?_, ?_⟩
      · rcases h1 with h | ⟨h, _⟩ <;> exact h
      · rcases h2 with h | ⟨_, h⟩ <;> exact h
    · have hx' : x < k := by omega
      rcases h1 with h1 | ⟨h1, h1'⟩ <;> rcases h2 with h2 | ⟨h2, h2'⟩
      · exact .inl (warM_trans k hx' h1 h2)
      · exact .inr ⟨warM_trans k hx' h1 h2, h2'⟩
      · exact .inr ⟨h1, warM_trans k hx' h1' h2⟩
      · exact .inr ⟨h1, h2'⟩
theorem plus_sub {i j : Nat} (h : M i j = true) : plusM n M i j = true := warM_sub n h
theorem plus_trans {i x j : Nat} (hx : x < n) (h1 : plusM n M i x = true) (h2 : plusM n M x j = true) : plusM n M i j = true := warM_trans n hx h1 h2
/-- It is the least one. -/
theorem plus_least {N : Nat → Nat → Prop} (hM : ∀ i j, i < n → j < n → M i j = true → N i j) (ht : ∀ i x j, i < n → x < n → j < n → N i x → N x j → N i j) {i j : Nat} (hi : i < n) (hj : j < n) (h : plusM n M i j = true) : N i j := by
  have all : ∀ k, k ≤ n → ∀ i j, i < n → j < n → warM n M k i j = true → N i j := by
    intro k
    induction k with
    | zero => exact fun _ i j hi hj h => hM i j hi hj h
    | succ k ih =>
      intro hk i j hi hj h
      rcases warM_succ.1 h with h | ⟨h1, h2⟩
      · exact ih (by omega) i j hi hj h
      · exact ht i k j hi (by omega) hj (ih (by omega) i k hi (by omega) h1) (ih (by omega) k j (by omega) hj h2)
  exact all n (Nat.le_refl _) i j hi hj h
/-- A way of so many steps. -/
inductive Way (n : Nat) (M : Nat → Nat → Bool) : Nat → Nat → Nat → Prop
  | one {i j : Nat} : M i j = true → Way n M 1 i j
  | more {k i x j : Nat} : x < n → M i x = true → Way n M k x j → Way n M (k + 1) i j
theorem Way.app {k m i x j : Nat} (hx : x < n) (h : Way n M k i x) (h' : Way n M m x j) : Way n M (k + m) i j := by
  induction h with
  | one h => rw [Nat.add_comm]; exact .more hx h h'
  | more hy hm _ ih => rw [Nat.add_right_comm]; exact .more hy hm (ih hx h')
variable {p : Nat}
end
end Go.Vc
/-
  A least cycle is one; numbers that rise, round by round.
-/
namespace Go.Vc
section
variable {n : Nat} {M : Nat → Nat → Bool} {p : Nat}
end
/-- Without a cycle a way has fewer steps than there are points. -/
theorem way_short {n : Nat} {M : Nat → Nat → Bool} (ha : ∀ i, i < n → plusM n M i i = false) {k i j : Nat} (hi : i < n) (hj : j < n) (h : Way n M k i j) : k ≤ (List.range n).countP fun x => plusM n M i x := by
  induction h with
  | @one i j h =>
    rw [Nat.succ_le_iff]
    exact List.countP_pos_iff.2 ⟨j, List.mem_range.2 hj, plus_sub h⟩
  | @more k i x j hx h hw ih =>
    have := ih hx hj
    have := countP_lt (f := fun y => plusM n M x y) (g := fun y => plusM n M i y) n x hx (fun y hy => plus_trans hx (plus_sub h) hy) (ha x hx) (plus_sub h)
    omega
theorem no_way {n : Nat} {M : Nat → Nat → Bool} (ha : ∀ i, i < n → plusM n M i i = false) {i j : Nat} (hi : i < n) (hj : j < n) (h : Way n M n i j) : False := by
  have := way_short ha hi hj h
  have h2 := countP_lt (f := fun y => plusM n M i y) (g := fun _ => true) n i hi (fun _ _ => rfl) (ha i hi) rfl
  simp at h2
  omega
theorem Way.end {n : Nat} {M : Nat → Nat → Bool} {k a i j : Nat} (h : Way n M k a i) (hi : i < n) (hm : M i j = true) : Way n M (k + 1) a j := h.app hi (.one hm)

/-- Is there a way of so many steps to a point? -/
def WayTo (n : Nat) (M : Nat → Nat → Bool) (r i : Nat) : Prop := r = 0 ∨ ∃ a, a < n ∧ Way n M r a i
/-- The numbers within a round. -/
structure Num (n : Nat) (M : Nat → Nat → Bool) (r p : Nat) (N : Nat → Nat) : Prop where
  top : ∀ i, i < n → N i ≤ r
  new : ∀ i, i < n → p ≤ i → N i < r
  up : ∀ a b, a < n → b < n → M a b = true → N b ≠ 0 → N a ≠ 0 ∧ N a < N b
  old : ∀ i, i < n → N i = 0 ∨ N i = r → WayTo n M (r - 1) i
  done : ∀ i, i < p → N i = 0 → WayTo n M r i
section
variable {n : Nat} {M : Nat → Nat → Bool} {r p : Nat} {N : Nat → Nat}
theorem Num.start : Num n M 1 0 fun _ => 0 :=
  ⟨fun _ _ => by omega, fun _ _ _ => by omega, fun _ _ _ _ _ h => absurd rfl h, fun _ _ _ => .inl rfl, fun i h => by omega⟩
theorem Num.next (h : Num n M r n N) : Num n M (r + 1) 0 N :=
  ⟨fun i hi => by have := h.top i hi; omega, fun i hi _ => by have := h.top i hi; omega, h.up, fun i hi hN => by
    rcases hN with hN | hN
    · exact h.done i hi hN
    · have := h.top i hi; omega, fun i hi => by omega⟩
theorem Num.all (h : Num n M (n + 1) 0 N) (ha : ∀ i, i < n → plusM n M i i = false) {a b : Nat} (h1 : a < n) (h2 : b < n) (hm : M a b = true) : N a ≠ 0 ∧ N a < N b := by
  have hb : N b ≠ 0 := by
    intro h0
    rcases h.old b h2 (.inl h0) with h3 | ⟨c, hc, hw⟩
    · omega
    · exact no_way ha hc h2 hw
  exact h.up a b h1 h2 hm hb
end
end Go.Vc
