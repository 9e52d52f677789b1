/-
  Contracts of functions that the law reaches: what each returns and what it leaves in memory. Conditions stand in each.
-/
import Derived.Test.YtgedofjefepebaaDoorT6
set_option linter.all false
set_option maxRecDepth 2000
namespace Go.Proofs.Tst
open Go Go.Vc
/-- What is kept of a: the pairs that b has, or has not. -/
def keepM (n : Nat) (M : Nat → Nat → Bool) (m : Nat) (N : Nat → Nat → Bool) (has : Bool) (i j : Nat) : Bool := inN n M i j && (inN m N i j == has)
set_option maxHeartbeats 800000 in
theorem rel_keep {n m : Nat} {M N : Nat → Nat → Bool} {p q : Value} {lo hi lo' hi' : Nat} {h : Heap} (hr : ProgAt h lo hi p n M) (hs : ProgAt h lo' hi' q m N) (ht : TabAt h) (has : Bool) :
    Con Tryd.prog 83 #[p, q, .bool has] h fun v h' => Fr 0 0 h h' ∧ ProgAt h' h.size h'.size v (max n m) (keepM n M m N has) := by
  refine con_rel_keep (fun v h1 h2 x ⟨f, o⟩ => ⟨x.fr f (Nat.le_refl _), (o.ext x).mono (Nat.le_refl _) x.size⟩) ?_
  have hr0 := hr; have hs0 := hs
  obtain ⟨hn, pb, rb, R, W, rfl, t⟩ := hr
  obtain ⟨hm, pb', rb', R', W', rfl, t'⟩ := hs
  have p0 : Fr 0 0 h h := .refl _ _ _
  simp -dsimp only [go_sem, ↓reduceIte, reduceCtorEq, Nat.reduceEqDiff, Nat.reduceAdd, Nat.reduceLeDiff, Nat.reduceMul, Int.reduceBEq, Int.reduceBNe, Int.reduceLT, Int.reduceLE, Int.reduceGT, Int.reduceGE]
  intro b1 h1 n1
  have n1_a := n1.at_
  have n1_z := n1.size
  replace p0 := p0.fresh (n1.fr (lo := 0) (hi := 0)) (by omega)
  have r1 := n1.row
  simp -dsimp only [go_sem, ↓reduceIte, reduceCtorEq, Nat.reduceEqDiff, Nat.reduceAdd, Nat.reduceLeDiff, Nat.reduceMul, Int.reduceBEq, Int.reduceBNe, Int.reduceLT, Int.reduceLE, Int.reduceGT, Int.reduceGE, r1.cell]
  intro b2 h2 n2
  have n2_a := n2.at_
  have n2_z := n2.size
  replace p0 := p0.fresh (n2.fr (lo := 0) (hi := 0)) (by omega)
  replace r1 := r1.fr (n2.fr (lo := 0) (hi := 0)) (by omega)
  have r2 := n2.row
  have tq := t'.fr p0 (by omega)
  simp -dsimp only [go_sem, ↓reduceIte, reduceCtorEq, Nat.reduceEqDiff, Nat.reduceAdd, Nat.reduceLeDiff, Nat.reduceMul, Int.reduceBEq, Int.reduceBNe, Int.reduceLT, Int.reduceLE, Int.reduceGT, Int.reduceGE, tq.ptr.cell, r1.cell, r2.cell]
  refine call_of (rel_wide (hr0.fr p0 (by omega)) m hm) ?_
  rintro v3 h3 ⟨f3, hk, pb3, rb3, R3, W3, rfl, t3⟩
  rw [Nat.max_comm] at hk t3
  have f3_z := f3.size
  replace p0 := p0.fresh f3 (by omega)
  replace r1 := r1.fr f3 (by omega)
  replace r2 := r2.fr f3 (by omega)
  simp -dsimp only [go_sem, ↓reduceIte, reduceCtorEq, Nat.reduceEqDiff, Nat.reduceAdd, Nat.reduceLeDiff, Nat.reduceMul, Int.reduceBEq, Int.reduceBNe, Int.reduceLT, Int.reduceLE, Int.reduceGT, Int.reduceGE, r1.cell, r2.cell]
  intro b4 h4 n4
  have n4_a := n4.at_
  have n4_z := n4.size
  replace p0 := p0.fresh (n4.fr (lo := 0) (hi := 0)) (by omega)
  replace r1 := r1.fr (n4.fr (lo := 0) (hi := 0)) (by omega)
  replace r2 := r2.fr (n4.fr (lo := 0) (hi := 0)) (by omega)
  replace t3 := t3.fr (n4.fr (lo := 0) (hi := 0)) (by omega)
  have r4 := n4.row
  simp -dsimp only [go_sem, ↓reduceIte, reduceCtorEq, Nat.reduceEqDiff, Nat.reduceAdd, Nat.reduceLeDiff, Nat.reduceMul, Int.reduceBEq, Int.reduceBNe, Int.reduceLT, Int.reduceLE, Int.reduceGT, Int.reduceGE, r1.cell, r2.cell, r4.cell]
  refine Chk_intro (r4.wr (by first | (simp; done) | (simp; omega))) fun h5 s5 => ?_
  have s5_z := s5.size
  replace p0 := p0.fresh s5.fr (by omega)
  replace r1 := r1.fr s5.fr (by omega)
  replace r2 := r2.fr s5.fr (by omega)
  replace t3 := t3.fr s5.fr (by omega)
  replace r4 := s5.row r4
  try simp only [cl_int, cl_bool, cl_slice, cl_ptr, putAt_one, List.set_cons_zero, List.set_cons_succ, ivec_set, brow_upd] at r4
  have at3 := t3.at_
  simp -dsimp only [go_sem, ↓reduceIte, reduceCtorEq, Nat.reduceEqDiff, Nat.reduceAdd, Nat.reduceLeDiff, Nat.reduceMul, Int.reduceBEq, Int.reduceBNe, Int.reduceLT, Int.reduceLE, Int.reduceGT, Int.reduceGE, t3.ptr.cell, r1.cell, r2.cell, r4.cell]
  refine loop_intro (fun a : Nat => [(4, .pointer (some ⟨b1, 0, none⟩)), (5, .pointer (some ⟨b2, 0, none⟩)), (7, .pointer (some ⟨b4, 0, none⟩)), (20, .slice (some ⟨rb3, 0, none⟩) (max n m) (max n m)), (21, .int .i64 (max n m : Nat)), (22, .int .i64 a)])
    (fun a h' => a ≤ max n m ∧ Fr 0 0 h h' ∧ h5.size ≤ h'.size ∧ Rw h' b1 [.pointer (some ⟨pb', 0, none⟩)] ∧ Rw h' b2 [.bool has] ∧ Rw h' b4 [.pointer (some ⟨pb3, 0, none⟩)] ∧ ∃ W, PTab h' h2.size h3.size pb3 rb3 (max n m) R3 W fun i j => inN n M i j && (decide (a ≤ i) || (inN m N i j == has))) (fun a => max n m - a) 0 ?_ ?_ ?_
  · simp [Le, find]
  · exact ⟨by omega, p0, by omega, r1, r2, r4, _, t3.congr fun i j _ _ => by simp⟩
  rintro a h6 ⟨ha, p0, y6, r1, r2, r4, W6, t6⟩
  have p0_z := p0.size
  have r1_l := r1.lt
  have r2_l := r2.lt
  have r4_l := r4.lt
  simp -dsimp only [go_sem, ↓reduceIte, reduceCtorEq, Nat.reduceEqDiff, Nat.reduceAdd, Nat.reduceLeDiff, Nat.reduceMul, Int.reduceBEq, Int.reduceBNe, Int.reduceLT, Int.reduceLE, Int.reduceGT, Int.reduceGE, r1.cell, r2.cell, r4.cell]
  refine ⟨fun hlt => ?_, fun hge => ?_⟩
  · have hlt : a < max n m := by omega
    simp -dsimp only [go_sem, ↓reduceIte, reduceCtorEq, Nat.reduceEqDiff, Nat.reduceAdd, Nat.reduceLeDiff, Nat.reduceMul, Int.reduceBEq, Int.reduceBNe, Int.reduceLT, Int.reduceLE, Int.reduceGT, Int.reduceGE, r1.cell, r2.cell, r4.cell]
    refine Chk_intro (by omega) ?_
    simp -dsimp only [go_sem, ↓reduceIte, reduceCtorEq, Nat.reduceEqDiff, Nat.reduceAdd, Nat.reduceLeDiff, Nat.reduceMul, Int.reduceBEq, Int.reduceBNe, Int.reduceLT, Int.reduceLE, Int.reduceGT, Int.reduceGE, t6.rowsGet hlt, r1.cell, r2.cell, r4.cell]
    intro b7 h7 n7
    have n7_a := n7.at_
    have n7_z := n7.size
    replace p0 := p0.fresh (n7.fr (lo := 0) (hi := 0)) (by omega)
    replace r1 := r1.fr (n7.fr (lo := 0) (hi := 0)) (by omega)
    replace r2 := r2.fr (n7.fr (lo := 0) (hi := 0)) (by omega)
    replace r4 := r4.fr (n7.fr (lo := 0) (hi := 0)) (by omega)
    replace t6 := t6.fr (n7.fr (lo := 0) (hi := 0)) (by omega)
    have r7 := n7.row
    simp -dsimp only [go_sem, ↓reduceIte, reduceCtorEq, Nat.reduceEqDiff, Nat.reduceAdd, Nat.reduceLeDiff, Nat.reduceMul, Int.reduceBEq, Int.reduceBNe, Int.reduceLT, Int.reduceLE, Int.reduceGT, Int.reduceGE, r1.cell, r2.cell, r4.cell, r7.cell]
    refine Chk_intro (r7.wr (by first | (simp; done) | (simp; omega))) fun h8 s8 => ?_
    have s8_z := s8.size
    replace p0 := p0.fresh s8.fr (by omega)
    replace r1 := r1.fr s8.fr (by omega)
    replace r2 := r2.fr s8.fr (by omega)
    replace r4 := r4.fr s8.fr (by omega)
    replace t6 := t6.fr s8.fr (by omega)
    replace r7 := s8.row r7
    try simp only [cl_int, cl_bool, cl_slice, cl_ptr, putAt_one, List.set_cons_zero, List.set_cons_succ, ivec_set, brow_upd] at r7
    simp -dsimp only [go_sem, ↓reduceIte, reduceCtorEq, Nat.reduceEqDiff, Nat.reduceAdd, Nat.reduceLeDiff, Nat.reduceMul, Int.reduceBEq, Int.reduceBNe, Int.reduceLT, Int.reduceLE, Int.reduceGT, Int.reduceGE, r1.cell, r2.cell, r4.cell, r7.cell]
    refine call_of (rel_points _ _ _ h8) ?_
    rintro v h9 ⟨f9, rfl, c9, z9⟩
    have f9_z := f9.size
    replace p0 := p0.fresh f9 (by omega)
    replace r1 := r1.fr f9 (by omega)
    replace r2 := r2.fr f9 (by omega)
    replace r4 := r4.fr f9 (by omega)
    replace t6 := t6.fr f9 (by omega)
    replace r7 := r7.fr f9 (by omega)
    simp -dsimp only [go_sem, ↓reduceIte, reduceCtorEq, Nat.reduceEqDiff, Nat.reduceAdd, Nat.reduceLeDiff, Nat.reduceMul, Int.reduceBEq, Int.reduceBNe, Int.reduceLT, Int.reduceLE, Int.reduceGT, Int.reduceGE, r1.cell, r2.cell, r4.cell, r7.cell]
    have hbits := (t6.row a hlt).2.2.2.2.2
    have hit := points_1 (b := h8.size) (xv := .slice (some ⟨R3 a, 0, none⟩) (nw (max n m)) (nw (max n m))) (w := nw (max n m)) (W := W6 a) (fun j => (hbits j).1) (by unfold nw; omega)
    rw [rest_bits hbits] at hit
    have hL := length_rest_le (fun j => inN n M a j && (decide (a ≤ a) || (inN m N a j == has))) (max n m) 0
    have hC : RowC h8.size (.slice (some ⟨R3 a, 0, none⟩) (nw (max n m)) (nw (max n m))) (nw (max n m)) (W6 a) h9 := ⟨c9, ptab_rd t6 hlt, ht.fr p0 (by omega)⟩
    refine call_of (slices_Collect hit (fun B g1 g2 _ x ⟨c1, c2, c3⟩ => ⟨x.cell c1, x.rd c2, x.tab c3⟩) (fun g f => ⟨f.keep hC.1 (by omega), hC.2.1.fr f, hC.2.2.fr f (by omega)⟩) (by omega)) ?_
    rintro sv h10 ⟨f10, o10⟩
    clear hit hC
    have hrow : (rest (fun j => inN n M a j && (decide (a ≤ a) || (inN m N a j == has))) (max n m) 0) = rest (fun j => inN n M a j) (max n m) 0 := rest_congr fun j _ _ => by simp
    rw [hrow] at o10 hL
    have f10_z := f10.size
    replace p0 := p0.fresh f10 (by omega)
    replace r1 := r1.fr f10 (by omega)
    replace r2 := r2.fr f10 (by omega)
    replace r4 := r4.fr f10 (by omega)
    replace t6 := t6.fr f10 (by omega)
    replace r7 := r7.fr f10 (by omega)
    obtain ⟨va, vc, rfl⟩ := o10.is
    have o10_l := o10.top
    simp -dsimp only [go_sem, ↓reduceIte, reduceCtorEq, Nat.reduceEqDiff, Nat.reduceAdd, Nat.reduceLeDiff, Nat.reduceMul, Int.reduceBEq, Int.reduceBNe, Int.reduceLT, Int.reduceLE, Int.reduceGT, Int.reduceGE, r1.cell, r2.cell, r4.cell, r7.cell]
    refine call_of (slices_Values) ?_
    rintro v h11 ⟨f11, rfl, r11, z11⟩
    have f11_z := f11.size
    replace p0 := p0.fresh f11 (by omega)
    replace r1 := r1.fr f11 (by omega)
    replace r2 := r2.fr f11 (by omega)
    replace r4 := r4.fr f11 (by omega)
    replace t6 := t6.fr f11 (by omega)
    replace r7 := r7.fr f11 (by omega)
    replace o10 := o10.fr f11 (by have := o10.at_; omega)
    simp -dsimp only [go_sem, ↓reduceIte, reduceCtorEq, Nat.reduceEqDiff, Nat.reduceAdd, Nat.reduceLeDiff, Nat.reduceMul, Int.reduceBEq, Int.reduceBNe, Int.reduceLT, Int.reduceLE, Int.reduceGT, Int.reduceGE, r1.cell, r2.cell, r4.cell, r7.cell, r11.cell]
    refine ⟨rfl, iter_intro (values_1 (l := rest (fun j => inN n M a j) (max n m) 0) (by omega)) (fun g1 g2 x ⟨c1, c2⟩ => ⟨c1.ext x, c2.ext x⟩) ⟨r11, o10.rd⟩
      (fun d h' => Fr 0 0 h h' ∧ h11.size ≤ h'.size ∧ Rw h' b1 [.pointer (some ⟨pb', 0, none⟩)] ∧ Rw h' b2 [.bool has] ∧ Rw h' b4 [.pointer (some ⟨pb3, 0, none⟩)] ∧ Rw h' b7 [.int .i64 a] ∧ Rw h' h10.size [.slice va (rest (fun j => inN n M a j) (max n m) 0).length vc] ∧ Holder 1 h' (.slice va (rest (fun j => inN n M a j) (max n m) 0).length vc) (rest (fun j => inN n M a j) (max n m) 0).length (natsV (rest (fun j => inN n M a j) (max n m) 0)) h9.size ∧
        ∃ W, PTab h' h2.size h3.size pb3 rb3 (max n m) R3 W fun i j => inN n M i j && (decide (a + 1 ≤ i) || (inN m N i j == has) || (i == a && !((rest (fun j => inN n M a j) (max n m) 0).take d).contains j)))
      (fun _ _ => False) ?_ ?_ ?_ ?_ ?_ ?_ ?_⟩
    · rintro d h' ⟨-, -, -, -, -, -, q1, q2, -⟩; exact ⟨q1, q2.rd⟩
    · rintro d g1 g2 x ⟨q0, q1, q2, q3, q4, q5, q6, q7, W', q8⟩
      exact ⟨q0.ext x (by omega), Nat.le_trans q1 x.size, q2.ext x, q3.ext x, q4.ext x, q5.ext x, q6.ext x, q7.ext x, W', q8.ext x⟩
    · exact fun _ _ _ _ h => h
    · refine ⟨p0, Nat.le_refl _, r1, r2, r4, r7, r11, o10, _, t6.congr fun i j _ _ => ?_⟩
      by_cases hia : i = a
      · subst hia; simp
      · have e : (i == a) = false := by simpa using hia
        have e2 : (a ≤ i) = (a + 1 ≤ i) := by simp; omega
        simp [e, e2]
    · rintro d q h12 z12 hq ⟨p0, y12, r1, r2, r4, r7, r11, o10, W12, t12⟩
      have hqm := mem_rest.1 (List.mem_of_getElem? hq)
      have p0_z := p0.size
      have r1_l := r1.lt
      have r2_l := r2.lt
      have r4_l := r4.lt
      have r7_l := r7.lt
      have r11_l := r11.lt
      have o10_l := o10.top
      simp -dsimp only [go_sem, ↓reduceIte, reduceCtorEq, Nat.reduceEqDiff, Nat.reduceAdd, Nat.reduceLeDiff, Nat.reduceMul, Int.reduceBEq, Int.reduceBNe, Int.reduceLT, Int.reduceLE, Int.reduceGT, Int.reduceGE, r1.cell, r2.cell, r4.cell, r7.cell, r11.cell]
      intro h13 x13
      have x13_z := x13.size
      replace p0 := p0.ext x13 (by omega)
      replace r1 := r1.ext x13
      replace r2 := r2.ext x13
      replace r4 := r4.ext x13
      replace r7 := r7.ext x13
      replace r11 := r11.ext x13
      replace o10 := o10.ext x13
      replace t12 := t12.ext x13
      simp -dsimp only [go_sem, ↓reduceIte, reduceCtorEq, Nat.reduceEqDiff, Nat.reduceAdd, Nat.reduceLeDiff, Nat.reduceMul, Int.reduceBEq, Int.reduceBNe, Int.reduceLT, Int.reduceLE, Int.reduceGT, Int.reduceGE, r1.cell, r2.cell, r4.cell, r7.cell, r11.cell]
      refine call_of (rel_Has (hs0.fr p0 (by omega)) a q) ?_
      rintro v h14 ⟨rfl, rfl⟩
      have hh : (inR m a && inR m q && N (a : Int).toNat (q : Int).toNat) = inN m N a q := by
        simp [inN, inR]
      rw [hh]
      simp -dsimp only [go_sem, ↓reduceIte, reduceCtorEq, Nat.reduceEqDiff, Nat.reduceAdd, Nat.reduceLeDiff, Nat.reduceMul, Int.reduceBEq, Int.reduceBNe, Int.reduceLT, Int.reduceLE, Int.reduceGT, Int.reduceGE, r1.cell, r2.cell, r4.cell, r7.cell, r11.cell]
      have hfree : ∀ j, j < max n m → ((rest (fun j => inN n M a j) (max n m) 0).take (d + 1)).contains j = (((rest (fun j => inN n M a j) (max n m) 0).take d).contains j || j == q) := fun j hj => by
        rw [List.take_add_one, hq, Option.toList_some, List.contains_append, List.contains_cons, List.contains_nil, Bool.or_false]
      cases hb : (inN m N a q != has) with
      | true =>
        have hb' : (inN m N a q == has) = false := by simpa [bne] using hb
        simp -dsimp only [go_sem, ↓reduceIte, reduceCtorEq, Nat.reduceEqDiff, Nat.reduceAdd, Nat.reduceLeDiff, Nat.reduceMul, Int.reduceBEq, Int.reduceBNe, Int.reduceLT, Int.reduceLE, Int.reduceGT, Int.reduceGE, r1.cell, r2.cell, r4.cell, r7.cell, r11.cell]
        refine call_of (rel_PutT hk t12 a q false) ?_
        rintro v15 h15 ⟨f15, z15, rfl, W15, t15⟩
        have f15_z := f15.size
        replace p0 := p0.fresh f15 (by omega)
        replace r1 := r1.fr f15 (by omega)
        replace r2 := r2.fr f15 (by omega)
        replace r4 := r4.fr f15 (by omega)
        replace r7 := r7.fr f15 (by omega)
        replace r11 := r11.fr f15 (by omega)
        replace o10 := o10.fr f15 (by have := o10.at_; omega)
        simp -dsimp only [go_sem, ↓reduceIte, reduceCtorEq, Nat.reduceEqDiff, Nat.reduceAdd, Nat.reduceLeDiff, Nat.reduceMul, Int.reduceBEq, Int.reduceBNe, Int.reduceLT, Int.reduceLE, Int.reduceGT, Int.reduceGE, r1.cell, r2.cell, r4.cell, r7.cell, r11.cell]
        refine ⟨p0, by omega, r1, r2, r4, r7, r11, o10, _, t15.congr fun i j hi hj => ?_⟩
        simp only [putM]
        have e1 : (inR (max n m : Nat) a && inR (max n m : Nat) q) = true := by simp [inR]; omega
        rw [e1, hfree j hj]
        by_cases hia : i = a
        · subst hia
          by_cases hjq : j = q
          · subst hjq; simp [hb']
          · have e2 : (j == q) = false := by simpa using hjq
            have e3 : ((q : Int) == (j : Int)) = false := by simp; omega
            simp [e2, e3]
        · have e : (i == a) = false := by simpa using hia
          have e3 : ((a : Int) == (i : Int)) = false := by simp; omega
          simp [e, e3]
      | false =>
        have hb' : (inN m N a q == has) = true := by simpa [bne] using hb
        simp -dsimp only [go_sem, ↓reduceIte, reduceCtorEq, Nat.reduceEqDiff, Nat.reduceAdd, Nat.reduceLeDiff, Nat.reduceMul, Int.reduceBEq, Int.reduceBNe, Int.reduceLT, Int.reduceLE, Int.reduceGT, Int.reduceGE, r1.cell, r2.cell, r4.cell, r7.cell, r11.cell]
        refine ⟨p0, by omega, r1, r2, r4, r7, r11, o10, _, t12.congr fun i j hi hj => ?_⟩
        rw [hfree j hj]
        by_cases hia : i = a
        · subst hia
          by_cases hjq : j = q
          · subst hjq; simp [hb']
          · have e2 : (j == q) = false := by simpa using hjq
            simp [e2]
        · have e : (i == a) = false := by simpa using hia
          simp [e]
    · rintro h12 z12 ⟨p0, y12, r1, r2, r4, r7, r11, o10, W12, t12⟩
      simp -dsimp only [go_sem, ↓reduceIte, reduceCtorEq, Nat.reduceEqDiff, Nat.reduceAdd, Nat.reduceLeDiff, Nat.reduceMul, Int.reduceBEq, Int.reduceBNe, Int.reduceLT, Int.reduceLE, Int.reduceGT, Int.reduceGE, r1.cell, r2.cell, r4.cell, r7.cell, r11.cell]
      simp -dsimp (disch := omega) only [wrap64]
      refine ⟨a + 1, by omega, by simp [Le, find], by omega, p0, by omega, r1, r2, r4, _, t12.congr fun i j hi hj => ?_⟩
      rw [List.take_length]
      by_cases hia : i = a
      · subst hia
        cases hM : inN n M i j with
        | false => simp
        | true =>
          have : (rest (fun j => inN n M i j) (max n m) 0).contains j = true := by
            rw [List.contains_iff_mem]; exact mem_rest.2 ⟨by omega, hj, hM⟩
          have e : ¬ i + 1 ≤ i := by omega
          rw [this]; simp [e]
      · have e : (i == a) = false := by simpa using hia
        simp [e]
    · exact fun _ _ _ h => h.elim
  · have : a = max n m := by omega
    subst this
    simp -dsimp only [go_sem, ↓reduceIte, reduceCtorEq, Nat.reduceEqDiff, Nat.reduceAdd, Nat.reduceLeDiff, Nat.reduceMul, Int.reduceBEq, Int.reduceBNe, Int.reduceLT, Int.reduceLE, Int.reduceGT, Int.reduceGE, r1.cell, r2.cell, r4.cell]
    refine ⟨p0, hk, _, _, _, _, rfl, ((t6.mono' (hi' := h6.size) (by omega)).lower (by omega)).congr fun i j hi hj => ?_⟩
    have : ¬ max n m ≤ i := by omega
    simp [keepM, this]
end Go.Proofs.Tst
namespace Go.Proofs.Tst
open Go Go.Vc
theorem rel_Minus {n m : Nat} {M N : Nat → Nat → Bool} {p q : Value} {lo hi lo' hi' : Nat} {h : Heap} (hr : ProgAt h lo hi p n M) (hs : ProgAt h lo' hi' q m N) (ht : TabAt h) :
    Con Tryd.prog 40 #[p, q] h fun v h' => Fr 0 0 h h' ∧ ProgAt h' h.size h'.size v (max n m) (minusM n M m N) := by
  refine con_rel_Minus ?_
  simp -dsimp only [go_sem, ↓reduceIte, reduceCtorEq, Nat.reduceEqDiff, Nat.reduceAdd, Nat.reduceLeDiff, Nat.reduceMul, Int.reduceBEq, Int.reduceBNe, Int.reduceLT, Int.reduceLE, Int.reduceGT, Int.reduceGE]
  refine call_of (rel_keep hr hs ht false) ?_
  rintro v h1 ⟨p1, t1⟩
  simp -dsimp only [go_sem, ↓reduceIte, reduceCtorEq, Nat.reduceEqDiff, Nat.reduceAdd, Nat.reduceLeDiff, Nat.reduceMul, Int.reduceBEq, Int.reduceBNe, Int.reduceLT, Int.reduceLE, Int.reduceGT, Int.reduceGE]
  exact ⟨p1, t1.congr fun i j _ _ => by unfold keepM minusM; cases inN m N i j <;> simp⟩
/-- Relations that are joined. -/
def RelsAt (h : Heap) (L : List (Value × Nat × (Nat → Nat → Bool))) : Prop := ∀ x ∈ L, ∃ lo hi, ProgAt h lo hi x.1 x.2.1 x.2.2
theorem RelsAt.fr {h h' : Heap} {L : List (Value × Nat × (Nat → Nat → Bool))} (r : RelsAt h L) (f : Fr 0 0 h h') : RelsAt h' L := fun x hx => by
  obtain ⟨lo, hi, t⟩ := r x hx; exact ⟨lo, hi, t.fr f (by omega)⟩
end Go.Proofs.Tst
/-
  Reduction, by the program and by the document.
-/
namespace Go.Proofs.Tst
open Go Go.Vc
def redM (n : Nat) (M : Nat → Nat → Bool) : Nat → Nat → Bool := minusM n (plusM n M) n (compM n (plusM n M) n (plusM n M))
theorem ref2_Reduction {n : Nat} {M : Nat → Nat → Bool} {rv : Value} {lo hi : Nat} {h : Heap} (hr : RefAt h lo hi rv n M) :
    Con Tryd.prog 49 #[rv] h fun v h' => Fr 0 0 h h' ∧ ∃ w, if irrB n (plusM n M) = true then v = .tuple #[w, .int .i64 0] ∧ RefAt h' h.size h'.size w n (redM n M) else v = .tuple #[w, .int .i64 3] ∧ RefAt h' h.size h'.size w 0 fun _ _ => false := by
  refine con_ref2_Reduction ?_
  have hr0 := hr
  obtain ⟨hn, s, R, rfl, t⟩ := hr
  obtain ⟨sa, sc, rfl⟩ := t.own.is
  have p0 : Fr 0 0 h h := .refl _ _ _
  simp -dsimp only [go_sem, ↓reduceIte, reduceCtorEq, Nat.reduceEqDiff, Nat.reduceAdd, Nat.reduceLeDiff, Nat.reduceMul, Int.reduceBEq, Int.reduceBNe, Int.reduceLT, Int.reduceLE, Int.reduceGT, Int.reduceGE]
  intro b1 h1 n1
  have n1_a := n1.at_
  have n1_z := n1.size
  replace p0 := p0.fresh (n1.fr (lo := 0) (hi := 0)) (by omega)
  have r1 := n1.row
  simp -dsimp only [go_sem, ↓reduceIte, reduceCtorEq, Nat.reduceEqDiff, Nat.reduceAdd, Nat.reduceLeDiff, Nat.reduceMul, Int.reduceBEq, Int.reduceBNe, Int.reduceLT, Int.reduceLE, Int.reduceGT, Int.reduceGE, r1.cell]
  intro b2 h2 n2
  have n2_a := n2.at_
  have n2_z := n2.size
  replace p0 := p0.fresh (n2.fr (lo := 0) (hi := 0)) (by omega)
  replace r1 := r1.fr (n2.fr (lo := 0) (hi := 0)) (by omega)
  have r2 := n2.row
  simp -dsimp only [go_sem, ↓reduceIte, reduceCtorEq, Nat.reduceEqDiff, Nat.reduceAdd, Nat.reduceLeDiff, Nat.reduceMul, Int.reduceBEq, Int.reduceBNe, Int.reduceLT, Int.reduceLE, Int.reduceGT, Int.reduceGE, r1.cell, r2.cell]
  refine call_of (ref1_Plus (hr0.fr p0 (by omega))) ?_
  rintro v h3 ⟨f3, tc⟩
  have f3_z := f3.size
  replace p0 := p0.fresh f3 (by omega)
  replace r1 := r1.fr f3 (by omega)
  replace r2 := r2.fr f3 (by omega)
  have tc2 := tc
  obtain ⟨-, cs, cR, rfl, tc2⟩ := tc2
  obtain ⟨ca, cc, rfl⟩ := tc2.own.is
  simp -dsimp only [go_sem, ↓reduceIte, reduceCtorEq, Nat.reduceEqDiff, Nat.reduceAdd, Nat.reduceLeDiff, Nat.reduceMul, Int.reduceBEq, Int.reduceBNe, Int.reduceLT, Int.reduceLE, Int.reduceGT, Int.reduceGE, r1.cell, r2.cell]
  intro b4 h4 n4
  have n4_a := n4.at_
  have n4_z := n4.size
  replace p0 := p0.fresh (n4.fr (lo := 0) (hi := 0)) (by omega)
  replace r1 := r1.fr (n4.fr (lo := 0) (hi := 0)) (by omega)
  replace r2 := r2.fr (n4.fr (lo := 0) (hi := 0)) (by omega)
  replace tc := tc.fr (n4.fr (lo := 0) (hi := 0)) (by omega)
  have r4 := n4.row
  simp -dsimp only [go_sem, ↓reduceIte, reduceCtorEq, Nat.reduceEqDiff, Nat.reduceAdd, Nat.reduceLeDiff, Nat.reduceMul, Int.reduceBEq, Int.reduceBNe, Int.reduceLT, Int.reduceLE, Int.reduceGT, Int.reduceGE, r1.cell, r2.cell, r4.cell]
  refine Chk_intro (r4.wr (by first | (simp; done) | (simp; omega))) fun h5 s5 => ?_
  have s5_z := s5.size
  replace p0 := p0.fresh s5.fr (by omega)
  replace r1 := r1.fr s5.fr (by omega)
  replace r2 := r2.fr s5.fr (by omega)
  replace tc := tc.fr s5.fr (by omega)
  replace r4 := s5.row r4
  try simp only [cl_int, cl_bool, cl_slice, cl_ptr, putAt_one, List.set_cons_zero, List.set_cons_succ, ivec_set, brow_upd] at r4
  simp -dsimp only [go_sem, ↓reduceIte, reduceCtorEq, Nat.reduceEqDiff, Nat.reduceAdd, Nat.reduceLeDiff, Nat.reduceMul, Int.reduceBEq, Int.reduceBNe, Int.reduceLT, Int.reduceLE, Int.reduceGT, Int.reduceGE] at r4
  simp -dsimp only [go_sem, ↓reduceIte, reduceCtorEq, Nat.reduceEqDiff, Nat.reduceAdd, Nat.reduceLeDiff, Nat.reduceMul, Int.reduceBEq, Int.reduceBNe, Int.reduceLT, Int.reduceLE, Int.reduceGT, Int.reduceGE, r1.cell, r2.cell, r4.cell]
  refine call_of (ref1_Irreflexive tc) ?_
  rintro v h6 ⟨f6, rfl⟩
  have f6_z := f6.size
  replace p0 := p0.fresh f6 (by omega)
  replace r1 := r1.fr f6 (by omega)
  replace r2 := r2.fr f6 (by omega)
  replace tc := tc.fr f6 (by omega)
  replace r4 := r4.fr f6 (by omega)
  cases hI : irrB n (plusM n M) with
  | false =>
    simp -dsimp only [go_sem, ↓reduceIte, reduceCtorEq, Nat.reduceEqDiff, Nat.reduceAdd, Nat.reduceLeDiff, Nat.reduceMul, Int.reduceBEq, Int.reduceBNe, Int.reduceLT, Int.reduceLE, Int.reduceGT, Int.reduceGE, r1.cell, r2.cell, r4.cell]
    refine call_of (ref1_New 0 h6) ?_
    rintro v h7 ⟨f7, t7⟩
    have f7_z := f7.size
    replace p0 := p0.fresh f7 (by omega)
    replace r1 := r1.fr f7 (by omega)
    replace r2 := r2.fr f7 (by omega)
    replace tc := tc.fr f7 (by omega)
    replace r4 := r4.fr f7 (by omega)
    have hcl : clampN 0 = 0 := by decide
    rw [hcl] at t7
    have t72 := t7
    obtain ⟨-, zs, zR, rfl, t72⟩ := t72
    obtain ⟨za, zc, rfl⟩ := t72.own.is
    simp -dsimp only [go_sem, ↓reduceIte, reduceCtorEq, Nat.reduceEqDiff, Nat.reduceAdd, Nat.reduceLeDiff, Nat.reduceMul, Int.reduceBEq, Int.reduceBNe, Int.reduceLT, Int.reduceLE, Int.reduceGT, Int.reduceGE, r1.cell, r2.cell, r4.cell]
    refine Chk_intro (r2.wr (by first | (simp; done) | (simp; omega))) fun h8 s8 => ?_
    have s8_z := s8.size
    replace p0 := p0.fresh s8.fr (by omega)
    replace r1 := r1.fr s8.fr (by omega)
    replace tc := tc.fr s8.fr (by omega)
    replace r4 := r4.fr s8.fr (by omega)
    replace t7 := t7.fr s8.fr (by omega)
    replace r2 := s8.row r2
    try simp only [cl_int, cl_bool, cl_slice, cl_ptr, putAt_one, List.set_cons_zero, List.set_cons_succ, ivec_set, brow_upd] at r2
    simp -dsimp only [go_sem, ↓reduceIte, reduceCtorEq, Nat.reduceEqDiff, Nat.reduceAdd, Nat.reduceLeDiff, Nat.reduceMul, Int.reduceBEq, Int.reduceBNe, Int.reduceLT, Int.reduceLE, Int.reduceGT, Int.reduceGE] at r2
    simp -dsimp only [go_sem, ↓reduceIte, reduceCtorEq, Nat.reduceEqDiff, Nat.reduceAdd, Nat.reduceLeDiff, Nat.reduceMul, Int.reduceBEq, Int.reduceBNe, Int.reduceLT, Int.reduceLE, Int.reduceGT, Int.reduceGE, r1.cell, r2.cell, r4.cell]
    refine ⟨p0, .agg #[.int .i64 0, .slice za 0 zc], ?_⟩
    exact ⟨rfl, t7.mono (by omega) (by omega)⟩
  | true =>
    simp -dsimp only [go_sem, ↓reduceIte, reduceCtorEq, Nat.reduceEqDiff, Nat.reduceAdd, Nat.reduceLeDiff, Nat.reduceMul, Int.reduceBEq, Int.reduceBNe, Int.reduceLT, Int.reduceLE, Int.reduceGT, Int.reduceGE, r1.cell, r2.cell, r4.cell]
    refine call_of (ref1_Comp tc tc) ?_
    rintro v h7 ⟨f7, t7⟩
    have f7_z := f7.size
    replace p0 := p0.fresh f7 (by omega)
    replace r1 := r1.fr f7 (by omega)
    replace r2 := r2.fr f7 (by omega)
    replace tc := tc.fr f7 (by omega)
    replace r4 := r4.fr f7 (by omega)
    rw [Nat.max_self] at t7
    simp -dsimp only [go_sem, ↓reduceIte, reduceCtorEq, Nat.reduceEqDiff, Nat.reduceAdd, Nat.reduceLeDiff, Nat.reduceMul, Int.reduceBEq, Int.reduceBNe, Int.reduceLT, Int.reduceLE, Int.reduceGT, Int.reduceGE, r1.cell, r2.cell, r4.cell]
    refine call_of (ref1_Minus tc t7) ?_
    rintro v h8 ⟨f8, t8⟩
    have f8_z := f8.size
    replace p0 := p0.fresh f8 (by omega)
    replace r1 := r1.fr f8 (by omega)
    replace r2 := r2.fr f8 (by omega)
    replace tc := tc.fr f8 (by omega)
    replace r4 := r4.fr f8 (by omega)
    replace t7 := t7.fr f8 (by omega)
    rw [Nat.max_self] at t8
    have t82 := t8
    obtain ⟨-, zs, zR, rfl, t82⟩ := t82
    obtain ⟨za, zc, rfl⟩ := t82.own.is
    simp -dsimp only [go_sem, ↓reduceIte, reduceCtorEq, Nat.reduceEqDiff, Nat.reduceAdd, Nat.reduceLeDiff, Nat.reduceMul, Int.reduceBEq, Int.reduceBNe, Int.reduceLT, Int.reduceLE, Int.reduceGT, Int.reduceGE, r1.cell, r2.cell, r4.cell]
    refine Chk_intro (r2.wr (by first | (simp; done) | (simp; omega))) fun h9 s9 => ?_
    have s9_z := s9.size
    replace p0 := p0.fresh s9.fr (by omega)
    replace r1 := r1.fr s9.fr (by omega)
    replace tc := tc.fr s9.fr (by omega)
    replace r4 := r4.fr s9.fr (by omega)
    replace t7 := t7.fr s9.fr (by omega)
    replace t8 := t8.fr s9.fr (by omega)
    replace r2 := s9.row r2
    try simp only [cl_int, cl_bool, cl_slice, cl_ptr, putAt_one, List.set_cons_zero, List.set_cons_succ, ivec_set, brow_upd] at r2
    simp -dsimp only [go_sem, ↓reduceIte, reduceCtorEq, Nat.reduceEqDiff, Nat.reduceAdd, Nat.reduceLeDiff, Nat.reduceMul, Int.reduceBEq, Int.reduceBNe, Int.reduceLT, Int.reduceLE, Int.reduceGT, Int.reduceGE] at r2
    simp -dsimp only [go_sem, ↓reduceIte, reduceCtorEq, Nat.reduceEqDiff, Nat.reduceAdd, Nat.reduceLeDiff, Nat.reduceMul, Int.reduceBEq, Int.reduceBNe, Int.reduceLT, Int.reduceLE, Int.reduceGT, Int.reduceGE, r1.cell, r2.cell, r4.cell]
    have t9 : RefAt h9 h.size h9.size _ n (redM n M) := t8.mono (by omega) (by omega)
    refine ⟨p0, .agg #[.int .i64 n, .slice za n zc], ?_⟩
    exact ⟨rfl, t9⟩
theorem order_Reduction {n : Nat} {M : Nat → Nat → Bool} {pv : Value} {lo hi : Nat} {h : Heap} (hr : ProgAt h lo hi pv n M) (ht : TabAt h) :
    Con Tryd.prog 50 #[pv] h fun v h' => Fr 0 0 h h' ∧ if irrB n (plusM n M) = true then ∃ b, v = .tuple #[.pointer (some ⟨b, 0, none⟩), .int .i64 0] ∧ ProgAt h' h.size h'.size (.pointer (some ⟨b, 0, none⟩)) n (redM n M) else v = .tuple #[.pointer none, .int .i64 3] := by
  refine con_order_Reduction ?_
  have p0 : Fr 0 0 h h := .refl _ _ _
  simp -dsimp only [go_sem, ↓reduceIte, reduceCtorEq, Nat.reduceEqDiff, Nat.reduceAdd, Nat.reduceLeDiff, Nat.reduceMul, Int.reduceBEq, Int.reduceBNe, Int.reduceLT, Int.reduceLE, Int.reduceGT, Int.reduceGE]
  refine call_of (rel_Plus hr) ?_
  rintro v h1 ⟨f1, t1⟩
  have f1_z := f1.size
  replace p0 := p0.fresh f1 (by omega)
  simp -dsimp only [go_sem, ↓reduceIte, reduceCtorEq, Nat.reduceEqDiff, Nat.reduceAdd, Nat.reduceLeDiff, Nat.reduceMul, Int.reduceBEq, Int.reduceBNe, Int.reduceLT, Int.reduceLE, Int.reduceGT, Int.reduceGE]
  refine call_of (rel_Irreflexive t1) ?_
  rintro v h2 ⟨rfl, rfl⟩
  cases hI : irrB n (plusM n M) with
  | false =>
    simp -dsimp only [go_sem, ↓reduceIte, reduceCtorEq, Nat.reduceEqDiff, Nat.reduceAdd, Nat.reduceLeDiff, Nat.reduceMul, Int.reduceBEq, Int.reduceBNe, Int.reduceLT, Int.reduceLE, Int.reduceGT, Int.reduceGE]
    exact p0
  | true =>
    simp -dsimp only [go_sem, ↓reduceIte, reduceCtorEq, Nat.reduceEqDiff, Nat.reduceAdd, Nat.reduceLeDiff, Nat.reduceMul, Int.reduceBEq, Int.reduceBNe, Int.reduceLT, Int.reduceLE, Int.reduceGT, Int.reduceGE]
    refine call_of (rel_Comp t1 t1 (ht.fr p0 (by omega))) ?_
    rintro v h3 ⟨f3, t3⟩
    have f3_z := f3.size
    replace p0 := p0.fresh f3 (by omega)
    replace t1 := t1.fr f3 (by omega)
    rw [Nat.max_self] at t3
    simp -dsimp only [go_sem, ↓reduceIte, reduceCtorEq, Nat.reduceEqDiff, Nat.reduceAdd, Nat.reduceLeDiff, Nat.reduceMul, Int.reduceBEq, Int.reduceBNe, Int.reduceLT, Int.reduceLE, Int.reduceGT, Int.reduceGE]
    refine call_of (rel_Minus t1 t3 (ht.fr p0 (by omega))) ?_
    rintro v h4 ⟨f4, t4⟩
    have f4_z := f4.size
    replace p0 := p0.fresh f4 (by omega)
    replace t1 := t1.fr f4 (by omega)
    replace t3 := t3.fr f4 (by omega)
    rw [Nat.max_self] at t4
    obtain ⟨-, b4, rb, R, W, rfl, -⟩ := id t4
    simp -dsimp only [go_sem, ↓reduceIte, reduceCtorEq, Nat.reduceEqDiff, Nat.reduceAdd, Nat.reduceLeDiff, Nat.reduceMul, Int.reduceBEq, Int.reduceBNe, Int.reduceLT, Int.reduceLE, Int.reduceGT, Int.reduceGE]
    refine ⟨p0, ?_⟩
    exact ⟨b4, rfl, t4.mono (by omega) (by omega)⟩
end Go.Proofs.Tst
/-
  order.Components.
-/
namespace Go.Proofs.Tst
open Go Go.Vc
theorem loop_joint {P : Program} {y : Option Nat} {c : GC} {Q : Post} {K : Env → Heap → Prop} {k : Nat} {e : Env} {h : Heap} {α : Type} (E : α → Env) (I : α → Heap → Prop)
    (h1 : loopVC (vc P y c) (blockQ k (thenQ (fun e h => ∃ s, Le (E s) e ∧ I s h) Q)) e h) (h2 : ∀ s h, I s h → ∀ e, Le (E s) e → K e h) : loopVC (vc P y c) (blockQ k (thenQ K Q)) e h :=
  vc_mono (c := .loop c) (Q := blockQ k (thenQ (fun e h => ∃ s, Le (E s) e ∧ I s h) Q)) (Q' := blockQ k (thenQ K Q)) (fun x e h hq => by
    have key : thenQ (fun e h => ∃ s, Le (E s) e ∧ I s h) Q .normal e h → thenQ K Q .normal e h := fun ⟨s, hl, hi⟩ => h2 s h hi e hl
    cases x with
    | normal => exact key hq
    | ret => exact hq
    | exit j =>
      by_cases hj : j = k
      · simp only [blockQ, hj, if_true] at hq ⊢; exact key hq
      · simp only [blockQ, hj, if_false] at hq ⊢; exact hq) h1
/-- A table of lists in the making. -/
structure Mem (h : Heap) (n : Nat) (F : Nat → Nat) (i : Nat) (B : Nat → Value) (lo : Nat) : Prop where
  own : ∀ r, r < n → Holder 1 h (B r) (memb F r i).length (natsV (memb F r i)) lo
  off : ∀ a b, a < n → b < n → a ≠ b → Off (B a) (B b)
  nil : ∀ r, r < n → memb F r i = [] → B r = .slice none 0 0
theorem Mem.fr {h h' : Heap} {n i lo l r : Nat} {F : Nat → Nat} {B : Nat → Value} (m : Mem h n F i B lo) (f : Fr l r h h') (ha : ∀ x, x < n → bh (B x) ≤ l ∨ r ≤ bl (B x) ∨ r ≤ l) : Mem h' n F i B lo :=
  ⟨fun x hx => (m.own x hx).fr f (ha x hx), m.off, m.nil⟩
theorem brow_set' {n : Nat} {B : Nat → Value} {a : Nat} {v : Value} : ((List.range n).map B).set a v = (List.range n).map (upd B a v) := by
  apply List.ext_getElem?; intro k
  rw [List.getElem?_set]
  by_cases hka : a = k
  · subst hka
    by_cases hk : a < n
    · simp [hk, upd]
    · simp [hk]
  · rw [if_neg hka]
    by_cases hk : k < n
    · simp [hk, upd, Ne.symm hka]
    · simp [hk]
set_option maxHeartbeats 4000000 in
theorem order_Components {n : Nat} {M : Nat → Nat → Bool} {pv : Value} {lo hi : Nat} {h : Heap} (hr : ProgAt h lo hi pv n M) (ht : TabAt h) :
    Con Tryd.prog 47 #[pv] h fun v h' => Fr 0 0 h h' ∧ ∃ us, LL h' v us ((partsS n M).map natsV) h.size ∧ us.Pairwise Off := by
  refine con_order_Components ?_
  have hn := hr.1
  have hz : 0 < h.size := hcell_lt (ht 0 0 rfl)
  have p0 : Fr 0 0 h h := .refl _ _ _
  simp -dsimp only [go_sem, ↓reduceIte, reduceCtorEq, Nat.reduceEqDiff, Nat.reduceAdd, Nat.reduceLeDiff, Nat.reduceMul, Int.reduceBEq, Int.reduceBNe, Int.reduceLT, Int.reduceLE, Int.reduceGT, Int.reduceGE]
  refine call_of (rel_Len hr) ?_
  rintro v h1 ⟨hh, rfl⟩
  obtain rfl : h = h1 := hh.symm
  simp -dsimp only [go_sem, ↓reduceIte, reduceCtorEq, Nat.reduceEqDiff, Nat.reduceAdd, Nat.reduceLeDiff, Nat.reduceMul, Int.reduceBEq, Int.reduceBNe, Int.reduceLT, Int.reduceLE, Int.reduceGT, Int.reduceGE]
  refine call_of (rel_Plus hr) ?_
  rintro cv h2 ⟨f2, tc⟩
  have f2_z := f2.size
  replace p0 := p0.fresh f2 (by omega)
  simp -dsimp only [go_sem, ↓reduceIte, reduceCtorEq, Nat.reduceEqDiff, Nat.reduceAdd, Nat.reduceLeDiff, Nat.reduceMul, Int.reduceBEq, Int.reduceBNe, Int.reduceLT, Int.reduceLE, Int.reduceGT, Int.reduceGE]
  refine Chk_intro (by omega) ?_
  intro bo h3 n3
  have n3_a := n3.at_
  have n3_z := n3.size
  replace p0 := p0.fresh (n3.fr (lo := 0) (hi := 0)) (by omega)
  replace tc := tc.fr (n3.fr (lo := 0) (hi := 0)) (by omega)
  have ro := n3.row
  rw [zeros_one, Int.toNat_natCast, ivec_rep] at ro
  simp -dsimp only [go_sem, ↓reduceIte, reduceCtorEq, Nat.reduceEqDiff, Nat.reduceAdd, Nat.reduceLeDiff, Nat.reduceMul, Int.reduceBEq, Int.reduceBNe, Int.reduceLT, Int.reduceLE, Int.reduceGT, Int.reduceGE, ro.cell]
  refine Chk_intro (by omega) ?_
  intro bk h4 n4
  have n4_a := n4.at_
  have n4_z := n4.size
  replace p0 := p0.fresh (n4.fr (lo := 0) (hi := 0)) (by omega)
  replace tc := tc.fr (n4.fr (lo := 0) (hi := 0)) (by omega)
  replace ro := ro.fr (n4.fr (lo := 0) (hi := 0)) (by omega)
  have rk := n4.row
  rw [zeros_one, Int.toNat_natCast] at rk
  have e4 : List.replicate n (Value.slice none 0 0) = (List.range n).map fun _ => Value.slice none 0 0 := by
    apply List.ext_getElem?; intro k
    by_cases hk : k < n
    · simp [hk]
    · simp [hk]
  rw [e4] at rk
  simp -dsimp only [go_sem, ↓reduceIte, reduceCtorEq, Nat.reduceEqDiff, Nat.reduceAdd, Nat.reduceLeDiff, Nat.reduceMul, Int.reduceBEq, Int.reduceBNe, Int.reduceLT, Int.reduceLE, Int.reduceGT, Int.reduceGE, ro.cell, rk.cell]
  have hF : ∃ F, F = ldF n M := ⟨_, rfl⟩
  obtain ⟨F, hF⟩ := hF
  have hlt : ∀ p, p < n → F p < n := fun p hp => by rw [hF]; exact Nat.lt_of_le_of_lt ldF_le hp
  have k4 : h.size ≤ h2.size ∧ h2.size ≤ bo ∧ bo < bk ∧ bk < h4.size := by omega
  refine loop_intro (fun i : Nat => [(0, pv), (3, .int .i64 n), (4, cv), (5, .slice (some ⟨bo, 0, none⟩) n n), (6, .slice (some ⟨bk, 0, none⟩) n n), (26, .int .i64 n), (27, .int .i64 i)])
    (fun i h' => i ≤ n ∧ Fr 0 0 h h' ∧ h4.size ≤ h'.size ∧ ProgAt h' h.size h2.size cv n (plusM n M) ∧ Rw h' bo (ivec n fun p => if p < i then (F p : Int) else 0) ∧ ∃ B : Nat → Value, Rw h' bk ((List.range n).map B) ∧ Mem h' n F i B h4.size) (fun i => n - i) 0 ?_ ?_ ?_
  · simp [Le, find]
  · exact ⟨by omega, p0, by omega, tc, by simpa using ro, _, rk, fun _ _ => .none _ _ _, fun _ _ _ _ _ => .inl rfl, fun _ _ _ => rfl⟩
  clear p0 tc ro rk
  rintro i h5 ⟨hi, p0, y5, tc, ro, B, rk, mB⟩
  have p0_z := p0.size
  have ro_l := ro.lt
  have rk_l := rk.lt
  simp -dsimp only [go_sem, ↓reduceIte, reduceCtorEq, Nat.reduceEqDiff, Nat.reduceAdd, Nat.reduceLeDiff, Nat.reduceMul, Int.reduceBEq, Int.reduceBNe, Int.reduceLT, Int.reduceLE, Int.reduceGT, Int.reduceGE, ro.cell, rk.cell]
  refine ⟨fun hlt1 => ?_, fun hge1 => ?_⟩
  · have hlt1 : i < n := by omega
    simp -dsimp only [go_sem, ↓reduceIte, reduceCtorEq, Nat.reduceEqDiff, Nat.reduceAdd, Nat.reduceLeDiff, Nat.reduceMul, Int.reduceBEq, Int.reduceBNe, Int.reduceLT, Int.reduceLE, Int.reduceGT, Int.reduceGE, ro.cell, rk.cell]
    refine Chk_intro (by omega) ?_
    simp -dsimp only [go_sem, ↓reduceIte, reduceCtorEq, Nat.reduceEqDiff, Nat.reduceAdd, Nat.reduceLeDiff, Nat.reduceMul, Int.reduceBEq, Int.reduceBNe, Int.reduceLT, Int.reduceLE, Int.reduceGT, Int.reduceGE, ro.cell, rk.cell]
    have mB_a : ∀ x, x < n → (bl (B x) = 0 ∧ bh (B x) = 0) ∨ (h4.size ≤ bl (B x) ∧ bh (B x) = bl (B x) + 1 ∧ bl (B x) < h5.size) := fun x hx => (mB.own x hx).at_
    refine Chk_intro (ro.wr (by first | (simp; done) | (simp; omega))) fun h6 s6 => ?_
    have s6_z := s6.size
    replace p0 := p0.fresh s6.fr (by omega)
    replace rk := rk.fr s6.fr (by omega)
    replace tc := tc.fr s6.fr (by omega)
    replace ro := s6.row ro
    try simp only [cl_int, cl_bool, cl_slice, cl_ptr, putAt_one, List.set_cons_zero, List.set_cons_succ, ivec_set, brow_upd] at ro
    replace mB := mB.fr s6.fr (fun x hx => by have := mB_a x hx; omega)
    simp -dsimp only [go_sem, ↓reduceIte, reduceCtorEq, Nat.reduceEqDiff, Nat.reduceAdd, Nat.reduceLeDiff, Nat.reduceMul, Int.reduceBEq, Int.reduceBNe, Int.reduceLT, Int.reduceLE, Int.reduceGT, Int.reduceGE, ro.cell, rk.cell]
    refine loop_joint (fun _ : Unit => [(0, pv), (3, .int .i64 n), (4, cv), (5, .slice (some ⟨bo, 0, none⟩) n n), (6, .slice (some ⟨bk, 0, none⟩) n n), (7, .int .i64 i), (26, .int .i64 n), (27, .int .i64 i)])
      (fun _ h' => Fr bo (bo + 1) h6 h' ∧ h'.size = h6.size ∧ Rw h' bo (ivec n (upd (fun p => if p < i then (F p : Int) else 0) i (F i : Int)))) ?_ ?_
    · refine loop_intro (fun q : Nat => [(0, pv), (3, .int .i64 n), (4, cv), (5, .slice (some ⟨bo, 0, none⟩) n n), (6, .slice (some ⟨bk, 0, none⟩) n n), (7, .int .i64 i), (26, .int .i64 n), (27, .int .i64 i), (34, .int .i64 i), (35, .int .i64 q)])
        (fun q h' => q ≤ i ∧ h' = h6 ∧ lf (eqvB n M i) i 0 = lf (eqvB n M i) i q) (fun q => i - q) 0 ?_ ?_ ?_
      · simp [Le, find]
      · exact ⟨by omega, rfl, rfl⟩
      rintro q h7 ⟨hq, hh, hlf⟩
      obtain rfl : h6 = h7 := hh.symm
      simp -dsimp only [go_sem, ↓reduceIte, reduceCtorEq, Nat.reduceEqDiff, Nat.reduceAdd, Nat.reduceLeDiff, Nat.reduceMul, Int.reduceBEq, Int.reduceBNe, Int.reduceLT, Int.reduceLE, Int.reduceGT, Int.reduceGE, ro.cell, rk.cell]
      refine ⟨fun hlt2 => ?_, fun hge2 => ?_⟩
      · have hlt2 : q < i := by omega
        have hst := lf_step (eqvB n M i) hlt2
        simp -dsimp only [go_sem, ↓reduceIte, reduceCtorEq, Nat.reduceEqDiff, Nat.reduceAdd, Nat.reduceLeDiff, Nat.reduceMul, Int.reduceBEq, Int.reduceBNe, Int.reduceLT, Int.reduceLE, Int.reduceGT, Int.reduceGE, ro.cell, rk.cell]
        refine call_of (rel_Has tc i q) ?_
        rintro v h8 ⟨hh, rfl⟩
        obtain rfl : h6 = h8 := hh.symm
        have eH : (inR n (i : Int) && inR n (q : Int) && plusM n M ((i : Int).toNat) ((q : Int).toNat)) = plusM n M i q := by simp [inR, hlt1, show q < n from by omega]
        rw [eH]
        have skip : eqvB n M i q = false → lf (eqvB n M i) i 0 = lf (eqvB n M i) i (q + 1) := fun h => by rw [hlf, hst, h]; rfl
        cases hc1 : plusM n M i q with
        | false =>
          simp -dsimp only [go_sem, ↓reduceIte, reduceCtorEq, Nat.reduceEqDiff, Nat.reduceAdd, Nat.reduceLeDiff, Nat.reduceMul, Int.reduceBEq, Int.reduceBNe, Int.reduceLT, Int.reduceLE, Int.reduceGT, Int.reduceGE, ro.cell, rk.cell]
          simp -dsimp (disch := omega) only [wrap64]
          exact ⟨q + 1, by omega, by simp [Le, find], by omega, skip (by simp [eqvB, hc1])⟩
        | true =>
          simp -dsimp only [go_sem, ↓reduceIte, reduceCtorEq, Nat.reduceEqDiff, Nat.reduceAdd, Nat.reduceLeDiff, Nat.reduceMul, Int.reduceBEq, Int.reduceBNe, Int.reduceLT, Int.reduceLE, Int.reduceGT, Int.reduceGE, ro.cell, rk.cell]
          refine call_of (rel_Has tc q i) ?_
          rintro v h9 ⟨hh, rfl⟩
          obtain rfl : h6 = h9 := hh.symm
          have eH : (inR n (q : Int) && inR n (i : Int) && plusM n M ((q : Int).toNat) ((i : Int).toNat)) = plusM n M q i := by simp [inR, hlt1, show q < n from by omega]
          rw [eH]
          cases hc2 : plusM n M q i with
          | false =>
            simp -dsimp only [go_sem, ↓reduceIte, reduceCtorEq, Nat.reduceEqDiff, Nat.reduceAdd, Nat.reduceLeDiff, Nat.reduceMul, Int.reduceBEq, Int.reduceBNe, Int.reduceLT, Int.reduceLE, Int.reduceGT, Int.reduceGE, ro.cell, rk.cell]
            simp -dsimp (disch := omega) only [wrap64]
            exact ⟨q + 1, by omega, by simp [Le, find], by omega, skip (by simp [eqvB, hc2])⟩
          | true =>
            have hx : F i = q := by rw [hF, ldF, hlf, hst, if_pos (by simp [eqvB, hc1, hc2])]
            simp -dsimp only [go_sem, ↓reduceIte, reduceCtorEq, Nat.reduceEqDiff, Nat.reduceAdd, Nat.reduceLeDiff, Nat.reduceMul, Int.reduceBEq, Int.reduceBNe, Int.reduceLT, Int.reduceLE, Int.reduceGT, Int.reduceGE, ro.cell, rk.cell]
            refine Chk_intro (by omega) ?_
            simp -dsimp only [go_sem, ↓reduceIte, reduceCtorEq, Nat.reduceEqDiff, Nat.reduceAdd, Nat.reduceLeDiff, Nat.reduceMul, Int.reduceBEq, Int.reduceBNe, Int.reduceLT, Int.reduceLE, Int.reduceGT, Int.reduceGE, ro.cell, rk.cell]
            refine Chk_intro (ro.wr (by simp; omega)) fun h10 s10 => ?_
            have r10 := s10.row ro
            rw [cl_int, putAt_one, ivec_set] at r10
            simp -dsimp only [go_sem, ↓reduceIte, reduceCtorEq, Nat.reduceEqDiff, Nat.reduceAdd, Nat.reduceLeDiff, Nat.reduceMul, Int.reduceBEq, Int.reduceBNe, Int.reduceLT, Int.reduceLE, Int.reduceGT, Int.reduceGE, ro.cell, rk.cell]
            refine ⟨(), by simp [Le, find], s10.fr, s10.size, ?_⟩
            rw [ivec_congr fun p hp => ?_]; exact r10
            rw [hx]; unfold upd; split <;> rfl
      · have hqi : q = i := by omega
        subst hqi
        rw [lf_end _ (Nat.le_refl _)] at hlf
        have hx : F q = q := by rw [hF, ldF, hlf]
        simp -dsimp only [go_sem, ↓reduceIte, reduceCtorEq, Nat.reduceEqDiff, Nat.reduceAdd, Nat.reduceLeDiff, Nat.reduceMul, Int.reduceBEq, Int.reduceBNe, Int.reduceLT, Int.reduceLE, Int.reduceGT, Int.reduceGE, ro.cell, rk.cell]
        exact ⟨(), by simp [Le, find], .refl _ _ _, by rw [hx]; exact ro⟩
    rintro ⟨⟩ h7 ⟨f7, z7, ro7⟩ e ⟨e0, e3, e4, e5, e6, e7, e26, e27, -⟩
    have ro6 := ro
    have f7_z := f7.size
    replace p0 := p0.fresh f7 (by omega)
    replace rk := rk.fr f7 (by omega)
    replace tc := tc.fr f7 (by omega)
    replace ro : Rw h7 bo (ivec n fun p => if p < i + 1 then (F p : Int) else 0) := by
      rw [ivec_congr fun p hp => ?_]; exact ro7
      by_cases h : p = i
      · subst h; rw [upd_same, if_pos (by omega)]
      · rw [upd_ne _ _ h]
        have : (p < i + 1) = (p < i) := by simp; omega
        simp only [this]
    replace mB := mB.fr f7 (fun x hx => by have := mB_a x hx; omega)
    have hFi := hlt i hlt1
    have cro : ∀ h', Rw h' bo (ivec n fun p => if p < i + 1 then (F p : Int) else 0) → hcell h' bo i = some (.int .i64 (F i)) := fun h' r => by rw [r.cell, ivec_get hlt1, if_pos (by omega)]
    simp -dsimp only [go_sem, ↓reduceIte, reduceCtorEq, Nat.reduceEqDiff, Nat.reduceAdd, Nat.reduceLeDiff, Nat.reduceMul, Int.reduceBEq, Int.reduceBNe, Int.reduceLT, Int.reduceLE, Int.reduceGT, Int.reduceGE, e0, e3, e4, e5, e6, e7, e26, e27, rk.cell, ro.cell]
    refine Chk_intro (by omega) ?_
    have hB := mB.own (F i) hFi
    have hB_a := hB.at_
    obtain ⟨wa, wc, hBv⟩ := hB.is
    have hg : ((List.range n).map B)[F i]? = some (.slice wa (memb F (F i) i).length wc) := by rw [← hBv]; simp [hFi]
    have hml := memb_len (F := F) (r := F i) (k := i)
    rw [hBv] at hB hB_a
    simp -dsimp only [go_sem, ↓reduceIte, reduceCtorEq, Nat.reduceEqDiff, Nat.reduceAdd, Nat.reduceLeDiff, Nat.reduceMul, Int.reduceBEq, Int.reduceBNe, Int.reduceLT, Int.reduceLE, Int.reduceGT, Int.reduceGE, cro _ ro, e0, e3, e4, e5, e6, e7, e26, e27, rk.cell, ro.cell]
    refine Chk_intro (by omega) ?_
    simp -dsimp only [go_sem, ↓reduceIte, reduceCtorEq, Nat.reduceEqDiff, Nat.reduceAdd, Nat.reduceLeDiff, Nat.reduceMul, Int.reduceBEq, Int.reduceBNe, Int.reduceLT, Int.reduceLE, Int.reduceGT, Int.reduceGE, cro _ ro, e0, e3, e4, e5, e6, e7, e26, e27, rk.cell, ro.cell]
    refine Chk_intro (by omega) ?_
    simp -dsimp only [go_sem, ↓reduceIte, reduceCtorEq, Nat.reduceEqDiff, Nat.reduceAdd, Nat.reduceLeDiff, Nat.reduceMul, Int.reduceBEq, Int.reduceBNe, Int.reduceLT, Int.reduceLE, Int.reduceGT, Int.reduceGE, cro _ ro, hg, e0, e3, e4, e5, e6, e7, e26, e27, rk.cell, ro.cell]
    intro b8 h8 n8
    have n8_a := n8.at_; have n8_z := n8.size
    have mB_a7 : ∀ x, x < n → (bl (B x) = 0 ∧ bh (B x) = 0) ∨ (h4.size ≤ bl (B x) ∧ bh (B x) = bl (B x) + 1 ∧ bl (B x) < h7.size) := fun x hx => (mB.own x hx).at_
    have p8 := p0.trans (n8.fr (lo := 0) (hi := 0))
    have ro8 := n8.rw ro
    have rk8 := n8.rw rk
    have tc8 := tc.fr (n8.fr (lo := 0) (hi := 0)) (by omega)
    have mB8 := mB.fr (n8.fr (lo := 0) (hi := 0)) (fun x hx => by omega)
    have hB8 := hB.fr (n8.fr (lo := 0) (hi := 0)) (by omega)
    simp -dsimp only [go_sem, ↓reduceIte, reduceCtorEq, Nat.reduceEqDiff, Nat.reduceAdd, Nat.reduceLeDiff, Nat.reduceMul, Int.reduceBEq, Int.reduceBNe, Int.reduceLT, Int.reduceLE, Int.reduceGT, Int.reduceGE, cro _ ro8, hg, n8.row.cell, e0, e3, e4, e5, e6, e7, e26, e27, rk.cell, ro.cell]
    refine hB8.append (by omega) rfl (by omega) (by simp) (by omega) fun v9 h9 o9 f9 e9 => ?_
    have f9_z := f9.size
    have p9 := p8.fresh f9 (by omega)
    have ro9 := ro8.fr f9 (by omega)
    have rk9 := rk8.fr f9 (by omega)
    have tc9 := tc8.fr f9 (by omega)
    have o9_a := o9.at_
    obtain ⟨va, vc, rfl⟩ := o9.is
    simp -dsimp only [go_sem, ↓reduceIte, reduceCtorEq, Nat.reduceEqDiff, Nat.reduceAdd, Nat.reduceLeDiff, Nat.reduceMul, Int.reduceBEq, Int.reduceBNe, Int.reduceLT, Int.reduceLE, Int.reduceGT, Int.reduceGE, cro _ ro9, rk9.cell, hg, e0, e3, e4, e5, e6, e7, e26, e27, rk.cell, ro.cell]
    refine Chk_intro (by omega) ?_
    simp -dsimp only [go_sem, ↓reduceIte, reduceCtorEq, Nat.reduceEqDiff, Nat.reduceAdd, Nat.reduceLeDiff, Nat.reduceMul, Int.reduceBEq, Int.reduceBNe, Int.reduceLT, Int.reduceLE, Int.reduceGT, Int.reduceGE, e0, e3, e4, e5, e6, e7, e26, e27, rk.cell, ro.cell]
    refine Chk_intro (rk9.wr (by simp; omega)) fun h10 s10 => ?_
    have s10_z := s10.size
    have r10 := s10.row rk9
    rw [cl_slice, putAt_one, brow_set'] at r10
    simp -dsimp only [go_sem, ↓reduceIte, reduceCtorEq, Nat.reduceEqDiff, Nat.reduceAdd, Nat.reduceLeDiff, Nat.reduceMul, Int.reduceBEq, Int.reduceBNe, Int.reduceLT, Int.reduceLE, Int.reduceGT, Int.reduceGE, e0, e3, e4, e5, e6, e7, e26, e27, rk.cell, ro.cell]
    simp -dsimp (disch := omega) only [wrap64]
    refine ⟨i + 1, by omega, by simp [Le, find], by omega, p9.fresh s10.fr (by omega), by omega, tc9.fr s10.fr (by omega), s10.rw ro9 (by omega), _, r10, ?_, ?_, ?_⟩
    · intro r hr'
      rw [memb_succ]
      by_cases hrF : r = F i
      · subst hrF
        rw [if_pos rfl, upd_same, List.length_append, natsV_append]
        exact o9.fr s10.fr (by omega)
      · rw [if_neg (fun h => hrF h.symm), upd_ne _ _ hrF]
        have hx1 := mB8.own r hr'
        have hx2 := mB_a7 r hr'
        have hx3 := mB.off r (F i) hr' hFi hrF
        rw [hBv] at hx3
        have hx4 := bh_bl (.slice wa (memb F (F i) i).length wc)
        unfold Off at hx3
        exact (hx1.fr f9 (by omega)).fr s10.fr (by omega)
    · have key : ∀ r, r < n → r ≠ F i → Off (B r) (.slice va ((memb F (F i) i).length + 1) vc) := fun r hr' hrF => by
        have hx3 := mB.off r (F i) hr' hFi hrF
        rw [hBv] at hx3
        exact Off.app hx3 (mB8.own r hr').top (show 0 < h4.size by omega) o9 e9
      intro a b ha hb hab
      by_cases h1 : a = F i
      · subst h1
        rw [upd_same, upd_ne _ _ (Ne.symm hab)]
        exact (key b hb (Ne.symm hab)).symm
      · by_cases h2 : b = F i
        · subst h2
          rw [upd_same, upd_ne _ _ hab]
          exact key a ha hab
        · rw [upd_ne _ _ h1, upd_ne _ _ h2]
          exact mB.off a b ha hb hab
    · intro r hr' hm
      rw [memb_succ] at hm
      by_cases hrF : F i = r
      · rw [if_pos hrF] at hm; simp at hm
      · rw [if_neg hrF] at hm
        rw [upd_ne _ _ (fun h => hrF h.symm)]
        exact mB.nil r hr' hm
  have hin : i = n := by omega
  subst hin
  replace ro : Rw h5 bo (ivec i fun p => (F p : Int)) := by rw [ivec_congr fun p hp => ?_]; exact ro; simp [hp]
  have tl := mB.own
  have mT : ∀ x, x < i → (bl (B x) = 0 ∧ bh (B x) = 0) ∨ (h4.size ≤ bl (B x) ∧ bh (B x) = bl (B x) + 1 ∧ bl (B x) < h5.size) := fun x hx => (mB.own x hx).at_
  have p05 := p0
  have rk5 := rk
  clear p0 tc rk
  have p0 : Fr 0 0 h5 h5 := .refl _ _ _
  simp -dsimp only [go_sem, ↓reduceIte, reduceCtorEq, Nat.reduceEqDiff, Nat.reduceAdd, Nat.reduceLeDiff, Nat.reduceMul, Int.reduceBEq, Int.reduceBNe, Int.reduceLT, Int.reduceLE, Int.reduceGT, Int.reduceGE, ro.cell]
  refine call_of (rel_New i h5) ?_
  rintro v7 h7 ⟨f7, t7⟩
  have f7_z := f7.size
  replace ro := ro.fr f7 (by omega)
  replace p0 := p0.fresh f7 (by omega)
  have hcl : clampN i = i := by unfold clampN; omega
  rw [hcl] at t7
  simp -dsimp only [go_sem, ↓reduceIte, reduceCtorEq, Nat.reduceEqDiff, Nat.reduceAdd, Nat.reduceLeDiff, Nat.reduceMul, Int.reduceBEq, Int.reduceBNe, Int.reduceLT, Int.reduceLE, Int.reduceGT, Int.reduceGE, ro.cell]
  refine call_of (rel_Pairs (hr.fr (p05.trans p0) (by omega)) (ht.fr (p05.trans p0) (by omega))) ?_
  rintro v h8 ⟨f8, o8⟩
  have f8_z := f8.size
  replace ro := ro.fr f8 (by omega)
  replace p0 := p0.fresh f8 (by omega)
  replace t7 := t7.fr f8 (by omega)
  obtain ⟨pa, pc, rfl⟩ := o8.is
  have g3 : i * i ≤ 256 * 256 := Nat.mul_le_mul (by omega) (by omega)
  have g4 : (pairsOf i M).length ≤ i * i := length_pairsTo_le i M i
  have k8 : h5.size ≤ h7.size ∧ h7.size ≤ h8.size ∧ bo < h5.size := by omega
  simp -dsimp only [go_sem, ↓reduceIte, reduceCtorEq, Nat.reduceEqDiff, Nat.reduceAdd, Nat.reduceLeDiff, Nat.reduceMul, Int.reduceBEq, Int.reduceBNe, Int.reduceLT, Int.reduceLE, Int.reduceGT, Int.reduceGE, ro.cell]
  refine loop_intro (fun j : Nat => [(5, .slice (some ⟨bo, 0, none⟩) i i), (6, .slice (some ⟨bk, 0, none⟩) i i), (9, v7), (73, .slice pa (pairsOf i M).length pc), (74, .int .i64 (pairsOf i M).length), (75, .int .i64 j)])
    (fun j h' => j ≤ (pairsOf i M).length ∧ Fr 0 0 h5 h' ∧ h8.size ≤ h'.size ∧ Rw h' bo (ivec i fun p => (F p : Int)) ∧ Holder 2 h' (.slice pa (pairsOf i M).length pc) (pairsOf i M).length (pairsV (pairsOf i M)) h7.size ∧
      ∃ N, ProgAt h' h5.size h7.size v7 i N ∧ ∀ x y, N x y = true ↔ ∃ p : Nat × Nat, ((p.1 : Int), (p.2 : Int)) ∈ (pairsOf i M).take j ∧ F p.1 ≠ F p.2 ∧ F p.1 = x ∧ F p.2 = y) (fun j => (pairsOf i M).length - j) 0 ?_ ?_ ?_
  · simp [Le, find]
  · exact ⟨by omega, p0, by omega, ro, o8, _, t7, by simp⟩
  clear p0 ro o8 t7
  rintro j h9 ⟨hj, p0, y9, ro, o8, N, t9, hN⟩
  have p0_z := p0.size
  have ro_l := ro.lt
  have o8_l := o8.top
  simp -dsimp only [go_sem, ↓reduceIte, reduceCtorEq, Nat.reduceEqDiff, Nat.reduceAdd, Nat.reduceLeDiff, Nat.reduceMul, Int.reduceBEq, Int.reduceBNe, Int.reduceLT, Int.reduceLE, Int.reduceGT, Int.reduceGE, ro.cell]
  refine ⟨fun hlt2 => ?_, fun hge2 => ?_⟩
  · have hlt2 : j < (pairsOf i M).length := by omega
    have hq : (pairsOf i M)[j]? = some (pairsOf i M)[j] := by simp
    have htk : (pairsOf i M).take (j + 1) = (pairsOf i M).take j ++ [(pairsOf i M)[j]] := by rw [List.take_succ_eq_append_getElem hlt2]
    have hmem : (pairsOf i M)[j] ∈ pairsOf i M := List.getElem_mem _
    generalize (pairsOf i M)[j] = q at hq htk hmem
    obtain ⟨a, b, ha, hb', hm, rfl⟩ := mem_pairsOf.1 hmem
    simp -dsimp only [go_sem, ↓reduceIte, reduceCtorEq, Nat.reduceEqDiff, Nat.reduceAdd, Nat.reduceLeDiff, Nat.reduceMul, Int.reduceBEq, Int.reduceBNe, Int.reduceLT, Int.reduceLE, Int.reduceGT, Int.reduceGE, ro.cell]
    refine Chk_intro (by omega) (o8.rd.pair hq fun b6 o6 c6 c7 => ?_)
    simp -dsimp only [go_sem, ↓reduceIte, reduceCtorEq, Nat.reduceEqDiff, Nat.reduceAdd, Nat.reduceLeDiff, Nat.reduceMul, Int.reduceBEq, Int.reduceBNe, Int.reduceLT, Int.reduceLE, Int.reduceGT, Int.reduceGE, c6, c7, ro.cell]
    intro b10 h10 n10
    have n10_a := n10.at_
    have n10_z := n10.size
    replace p0 := p0.fresh (n10.fr (lo := 0) (hi := 0)) (by omega)
    replace ro := ro.fr (n10.fr (lo := 0) (hi := 0)) (by omega)
    replace o8 := o8.fr (n10.fr (lo := 0) (hi := 0)) (by have := o8.at_; omega)
    replace t9 := t9.fr (n10.fr (lo := 0) (hi := 0)) (by omega)
    have r10 := n10.row
    simp -dsimp only [go_sem, ↓reduceIte, reduceCtorEq, Nat.reduceEqDiff, Nat.reduceAdd, Nat.reduceLeDiff, Nat.reduceMul, Int.reduceBEq, Int.reduceBNe, Int.reduceLT, Int.reduceLE, Int.reduceGT, Int.reduceGE, ro.cell, r10.cell]
    refine Chk_intro (r10.wr (by first | (simp; done) | (simp; omega))) fun h11 s11 => ?_
    have s11_z := s11.size
    replace p0 := p0.fresh s11.fr (by omega)
    replace ro := ro.fr s11.fr (by omega)
    replace o8 := o8.fr s11.fr (by have := o8.at_; omega)
    replace t9 := t9.fr s11.fr (by omega)
    replace r10 := s11.row r10
    try simp only [cl_int, cl_bool, cl_slice, cl_ptr, putAt_one, List.set_cons_zero, List.set_cons_succ, ivec_set, brow_upd] at r10
    simp -dsimp only [go_sem, ↓reduceIte, reduceCtorEq, Nat.reduceEqDiff, Nat.reduceAdd, Nat.reduceLeDiff, Nat.reduceMul, Int.reduceBEq, Int.reduceBNe, Int.reduceLT, Int.reduceLE, Int.reduceGT, Int.reduceGE] at r10
    simp -dsimp only [go_sem, ↓reduceIte, reduceCtorEq, Nat.reduceEqDiff, Nat.reduceAdd, Nat.reduceLeDiff, Nat.reduceMul, Int.reduceBEq, Int.reduceBNe, Int.reduceLT, Int.reduceLE, Int.reduceGT, Int.reduceGE, ro.cell, r10.cell]
    refine Chk_intro (by omega) ?_
    simp -dsimp only [go_sem, ↓reduceIte, reduceCtorEq, Nat.reduceEqDiff, Nat.reduceAdd, Nat.reduceLeDiff, Nat.reduceMul, Int.reduceBEq, Int.reduceBNe, Int.reduceLT, Int.reduceLE, Int.reduceGT, Int.reduceGE, ivec_get ha, ro.cell, r10.cell]
    refine Chk_intro (by omega) ?_
    simp -dsimp only [go_sem, ↓reduceIte, reduceCtorEq, Nat.reduceEqDiff, Nat.reduceAdd, Nat.reduceLeDiff, Nat.reduceMul, Int.reduceBEq, Int.reduceBNe, Int.reduceLT, Int.reduceLE, Int.reduceGT, Int.reduceGE, ivec_get hb', ro.cell, r10.cell]
    refine ⟨fun hne => ?_, fun heq => ?_⟩
    · have hFa := hlt a ha
      have hFb := hlt b hb'
      have hne : F a ≠ F b := by intro h; rw [h] at hne; simp at hne
      simp -dsimp only [go_sem, ↓reduceIte, reduceCtorEq, Nat.reduceEqDiff, Nat.reduceAdd, Nat.reduceLeDiff, Nat.reduceMul, Int.reduceBEq, Int.reduceBNe, Int.reduceLT, Int.reduceLE, Int.reduceGT, Int.reduceGE, ro.cell, r10.cell]
      refine call_of (rel_Put t9 (F a) (F b) true) ?_
      rintro v12 h12 ⟨f12, z12, rfl, t12⟩
      have f12_z := f12.size
      replace p0 := p0.fresh f12 (by omega)
      replace ro := ro.fr f12 (by omega)
      replace o8 := o8.fr f12 (by have := o8.at_; omega)
      replace r10 := r10.fr f12 (by omega)
      simp -dsimp only [go_sem, ↓reduceIte, reduceCtorEq, Nat.reduceEqDiff, Nat.reduceAdd, Nat.reduceLeDiff, Nat.reduceMul, Int.reduceBEq, Int.reduceBNe, Int.reduceLT, Int.reduceLE, Int.reduceGT, Int.reduceGE, ro.cell, r10.cell]
      simp -dsimp (disch := omega) only [wrap64]
      refine ⟨j + 1, by omega, by simp [Le, find], by omega, p0, by omega, ro, o8, _, t12, fun x y => ?_⟩
      have e : (inR i (F a) && inR i (F b)) = true := by simp [inR]; omega
      simp only [putM, e, Bool.true_and]
      rw [htk]
      by_cases hxy : x = F a ∧ y = F b
      · obtain ⟨rfl, rfl⟩ := hxy
        simp only [beq_self_eq_true, Bool.and_self, if_true, true_iff]
        exact ⟨(a, b), by simp, hne, rfl, rfl⟩
      · have : ((F a : Int) == (x : Int) && (F b : Int) == (y : Int)) = false := by
          rw [Bool.eq_false_iff]; intro h; apply hxy; simp at h; omega
        rw [this]
        simp only [Bool.false_eq_true, if_false]
        rw [hN]
        refine exists_congr fun p => ?_
        simp only [List.mem_append, List.mem_singleton, Prod.mk.injEq]
        constructor
        · rintro ⟨h1, h2⟩; exact ⟨.inl h1, h2⟩
        · rintro ⟨h1 | ⟨h1, h1'⟩, h2, h3, h4⟩
          · exact ⟨h1, h2, h3, h4⟩
          · have e1 : p.1 = a := by omega
            have e2 : p.2 = b := by omega
            rw [e1] at h3; rw [e2] at h4
            exact absurd ⟨h3.symm, h4.symm⟩ hxy
    · have heq : F a = F b := by
        apply Classical.byContradiction; intro h
        exact heq (by simp; omega)
      simp -dsimp only [go_sem, ↓reduceIte, reduceCtorEq, Nat.reduceEqDiff, Nat.reduceAdd, Nat.reduceLeDiff, Nat.reduceMul, Int.reduceBEq, Int.reduceBNe, Int.reduceLT, Int.reduceLE, Int.reduceGT, Int.reduceGE, ro.cell, r10.cell]
      simp -dsimp (disch := omega) only [wrap64]
      refine ⟨j + 1, by omega, by simp [Le, find], by omega, p0, by omega, ro, o8, N, t9, fun x y => ?_⟩
      rw [htk, hN]
      refine exists_congr fun p => ?_
      simp only [List.mem_append, List.mem_singleton, Prod.mk.injEq]
      constructor
      · rintro ⟨h1, h2⟩; exact ⟨.inl h1, h2⟩
      · rintro ⟨h1 | ⟨h1, h1'⟩, h2, h3, h4⟩
        · exact ⟨h1, h2, h3, h4⟩
        · have e1 : p.1 = a := by omega
          have e2 : p.2 = b := by omega
          rw [e1, e2] at h2
          exact absurd heq h2
  have hjl : j = (pairsOf i M).length := by omega
  subst hjl
  rw [List.take_length] at hN
  have t9 := t9.congr (M' := smM i M F) fun x y hx hy => Bool.eq_iff_iff.2 (by
    rw [hN, smM_true]
    constructor
    · rintro ⟨⟨p, q⟩, h1, h2, h3, h4⟩
      obtain ⟨a, b, ha, hb, hm, he⟩ := mem_pairsOf.1 h1
      simp only [Prod.mk.injEq] at he
      have e1 : p = a := by omega
      have e2 : q = b := by omega
      subst e1 e2
      exact ⟨p, ha, q, hb, hm, h2, h3, h4⟩
    · rintro ⟨p, hp, q, hq, hm, h2, h3, h4⟩
      exact ⟨(p, q), mem_pairsOf.2 ⟨p, q, hp, hq, hm, rfl⟩, h2, h3, h4⟩)
  clear hN
  have hSe : partsS i M = (seqGo i (smM i M F) F i []).map fun r => memb F r i := by rw [partsS, partsR, ← hF]
  have hS : ∃ S, S = smM i M F := ⟨_, rfl⟩
  obtain ⟨S, hS⟩ := hS
  rw [← hS] at t9 hSe
  have hSF : ∀ x y, S x y = true → x < i ∧ F x = x := fun x y h => by
    rw [hS, smM_true] at h
    obtain ⟨p, hp, q, hq, -, -, rfl, -⟩ := h
    exact ⟨hlt p hp, by rw [hF]; exact ldF_idem hp⟩
  have hSF2 : ∀ x y, S x y = true → F y = y := fun x y h => by
    rw [hS, smM_true] at h
    obtain ⟨p, hp, q, hq, -, -, -, rfl⟩ := h
    rw [hF]; exact ldF_idem hq
  simp -dsimp only [go_sem, ↓reduceIte, reduceCtorEq, Nat.reduceEqDiff, Nat.reduceAdd, Nat.reduceLeDiff, Nat.reduceMul, Int.reduceBEq, Int.reduceBNe, Int.reduceLT, Int.reduceLE, Int.reduceGT, Int.reduceGE]
  refine call_of (order_chooser t9 (ht.fr (p05.trans p0) (by omega))) ?_
  rintro v h10 ⟨f10, c, rfl, t10⟩
  have f10_z := f10.size
  replace p0 := p0.fresh f10 (by omega)
  simp -dsimp only [go_sem, ↓reduceIte, reduceCtorEq, Nat.reduceEqDiff, Nat.reduceAdd, Nat.reduceLeDiff, Nat.reduceMul, Int.reduceBEq, Int.reduceBNe, Int.reduceLT, Int.reduceLE, Int.reduceGT, Int.reduceGE, ChB.next]
  refine call_of (chooser_next (q := 0) t10 (by omega)) ?_
  rintro v h11 ⟨hh, rfl⟩
  obtain rfl : h10 = h11 := hh.symm
  simp -dsimp only [go_sem, ↓reduceIte, reduceCtorEq, Nat.reduceEqDiff, Nat.reduceAdd, Nat.reduceLeDiff, Nat.reduceMul, Int.reduceBEq, Int.reduceBNe, Int.reduceLT, Int.reduceLE, Int.reduceGT, Int.reduceGE]
  have k10 : h8.size ≤ h9.size ∧ h9.size ≤ h10.size := by omega
  refine loop_intro (fun s : Value × List Nat × (Nat → Bool) => [(6, .slice (some ⟨bk, 0, none⟩) i i), (14, c.next), (15, c.place), (16, s.1), (17, .int .i64 (nx (lf (freeB i S s.2.2) i 0)))])
    (fun s h' => Fr 0 0 h5 h' ∧ h10.size ≤ h'.size ∧ Chs h' h9.size h10.size c i S s.2.2 ∧ Holder 1 h' s.1 s.2.1.length (s.2.1.map B) h10.size ∧ SeqI i S F s.2.1 ∧ ∀ r, r < i → F r = r → s.2.2 r = s.2.1.contains r)
    (fun s => (List.range i).countP fun x => !s.2.2 x) (.slice none 0 0, [], fun _ => false) ?_ ?_ ?_
  · simp [Le, find, ChB.next]
  · exact ⟨p0, by omega, t10, .none _ _ _, .start, fun _ _ _ => by simp⟩
  clear p0 t10
  rintro ⟨ov, l, D⟩ h11 ⟨p0, y11, t11, oo, hl, hD⟩
  dsimp only at t11 oo hl hD ⊢
  have p0_z := p0.size
  have oo_l := oo.top
  have hll := hl.len
  have oo_a := oo.at_
  have mB1 : Mem h11 i F i B h4.size := mB.fr p0 (fun x hx => by omega)
  have rk1 : Rw h11 bk ((List.range i).map B) := rk5.fr p0 (by omega)
  have hfree : ∀ x, x < i → F x = x → freeB i S D x = freeB i S l.contains x := fun x hx hFx => by
    rw [Bool.eq_iff_iff, freeB_true, freeB_true, hD x hx hFx]
    refine and_congr_right fun _ => forall_congr' fun a => forall_congr' fun ha => ?_
    constructor
    · intro h hm; rw [← hD a ha (hSF a x hm).2]; exact h hm
    · intro h hm; rw [hD a ha (hSF a x hm).2]; exact h hm
  cases hx : lf (freeB i S D) i 0 with
  | none =>
    have hd : lf (fun p => F p == p && freeB i S l.contains p) i 0 = none := by
      cases hy : lf (fun p => F p == p && freeB i S l.contains p) i 0 with
      | none => rfl
      | some x =>
        obtain ⟨-, hxi, hf⟩ := lf_some hy
        simp only [Bool.and_eq_true, beq_iff_eq] at hf
        have := lf_none hx x (by omega) hxi
        rw [hfree x hxi hf.1, hf.2] at this; simp at this
    have hdone := hl.done hd
    simp -dsimp only [go_sem, ↓reduceIte, reduceCtorEq, Nat.reduceEqDiff, Nat.reduceAdd, Nat.reduceLeDiff, Nat.reduceMul, Int.reduceBEq, Int.reduceBNe, Int.reduceLT, Int.reduceLE, Int.reduceGT, Int.reduceGE, nx_none, hx]
    refine ⟨p05.trans p0, l.map B, ⟨?_, ?_, ?_⟩, ?_⟩
    · rw [hSe, ← hdone]; simp only [List.length_map]; exact oo.lower (by omega)
    · intro k w x hw hx
      rw [hSe, ← hdone] at hx
      simp only [List.getElem?_map, Option.map_eq_some_iff] at hw hx
      obtain ⟨r, hr1, rfl⟩ := hw
      obtain ⟨_, ⟨r', hr2, rfl⟩, rfl⟩ := hx
      rw [hr1] at hr2; cases hr2
      rw [length_natsV]
      exact (mB1.own r (hl.2.1 r (List.mem_of_getElem? hr1)).1).lower (by omega)
    · intro w hw
      obtain ⟨r, hr1, rfl⟩ := List.mem_map.1 hw
      have := mT r (hl.2.1 r hr1).1
      unfold Off; omega
    · rw [List.pairwise_map]
      refine hl.1.imp_of_mem fun {a b} ha hb hab => mB.off a b (hl.2.1 a ha).1 (hl.2.1 b hb).1 hab
  | some x =>
    obtain ⟨-, hxi, hfx⟩ := lf_some hx
    have hDx := (freeB_true.1 hfx).1
    have hgx : ((List.range i).map B)[x]? = some (B x) := by simp [hxi]
    have hmu : (List.range i).countP (fun y => !(if y = x then true else D y)) < (List.range i).countP fun y => !D y :=
      countP_lt (f := fun y => !(if y = x then true else D y)) (g := fun y => !D y) i x hxi (fun y hy => by by_cases h : y = x <;> simp_all) (by simp) (by simp [hDx])
    simp -dsimp only [go_sem, ↓reduceIte, reduceCtorEq, Nat.reduceEqDiff, Nat.reduceAdd, Nat.reduceLeDiff, Nat.reduceMul, Int.reduceBEq, Int.reduceBNe, Int.reduceLT, Int.reduceLE, Int.reduceGT, Int.reduceGE, nx_some, hx]
    simp -dsimp only [go_sem, ↓reduceIte, reduceCtorEq, Nat.reduceEqDiff, Nat.reduceAdd, Nat.reduceLeDiff, Nat.reduceMul, Int.reduceBEq, Int.reduceBNe, Int.reduceLT, Int.reduceLE, Int.reduceGT, Int.reduceGE, ChB.place]
    refine call_of (chooser_place t11 hxi true (by simpa using hDx)) ?_
    rintro v h12 ⟨f12, z12, t12⟩
    have oo_b := oo.at_
    have f12_z := f12.size
    replace p0 := p0.fresh f12 (by omega)
    replace oo := oo.fr f12 (by have := oo.at_; omega)
    simp -dsimp only [go_sem, ↓reduceIte, reduceCtorEq, Nat.reduceEqDiff, Nat.reduceAdd, Nat.reduceLeDiff, Nat.reduceMul, Int.reduceBEq, Int.reduceBNe, Int.reduceLT, Int.reduceLE, Int.reduceGT, Int.reduceGE]
    refine Chk_intro (by omega) ?_
    have rk2 : Rw h12 bk ((List.range i).map B) := rk5.fr p0 (by omega)
    have mB2 : Mem h12 i F i B h4.size := mB.fr p0 (fun x hx => by omega)
    by_cases hFx : F x = x
    · have hstep : lf (fun p => F p == p && freeB i S l.contains p) i 0 = some x := by
        refine lf_is (by omega) hxi (by simp only [hFx, beq_self_eq_true, Bool.true_and]; rw [← hfree x hxi hFx]; exact hfx) fun y _ hy => ?_
        by_cases hFy : F y = y
        · rw [← hfree y (by omega) hFy, lf_least hx y (by omega) hy, Bool.and_false]
        · simp [hFy]
      have hl2 := hl.step hstep
      have hxm : x ∈ memb F x i := by simp [memb, hxi, hFx]
      have hml : 0 < (memb F x i).length := List.length_pos_of_mem hxm
      obtain ⟨bb, bc, brest, hBv, -, -, -⟩ := (mB2.own x hxi).blk hml
      rw [hBv] at hgx
      obtain ⟨oa, oc, rfl⟩ := oo.is
      simp -dsimp only [go_sem, ↓reduceIte, reduceCtorEq, Nat.reduceEqDiff, Nat.reduceAdd, Nat.reduceLeDiff, Nat.reduceMul, Int.reduceBEq, Int.reduceBNe, Int.reduceLT, Int.reduceLE, Int.reduceGT, Int.reduceGE, rk2.cell, hgx]
      refine Chk_intro (by omega) ?_
      simp -dsimp only [go_sem, ↓reduceIte, reduceCtorEq, Nat.reduceEqDiff, Nat.reduceAdd, Nat.reduceLeDiff, Nat.reduceMul, Int.reduceBEq, Int.reduceBNe, Int.reduceLT, Int.reduceLE, Int.reduceGT, Int.reduceGE, rk2.cell, hgx]
      intro b13 h13 n13
      have n13_a := n13.at_
      have n13_z := n13.size
      replace p0 := p0.fresh (n13.fr (lo := 0) (hi := 0)) (by omega)
      replace oo := oo.fr (n13.fr (lo := 0) (hi := 0)) (by have := oo.at_; omega)
      replace t12 := t12.fr (n13.fr (lo := 0) (hi := 0)) (by omega)
      have r13 := n13.row
      simp -dsimp only [go_sem, ↓reduceIte, reduceCtorEq, Nat.reduceEqDiff, Nat.reduceAdd, Nat.reduceLeDiff, Nat.reduceMul, Int.reduceBEq, Int.reduceBNe, Int.reduceLT, Int.reduceLE, Int.reduceGT, Int.reduceGE, r13.cell]
      refine oo.append (by omega) rfl (by omega) (by simp) (by omega) fun v14 h14 o_new f14 e_app => ?_
      have f14_z := f14.size
      have o_at := oo.at_
      replace p0 := p0.fresh f14 (by omega)
      replace t12 := t12.fr f14 (by omega)
      replace r13 := r13.fr f14 (by omega)
      clear o_at e_app
      replace oo := o_new
      have oo_l := oo.top
      simp -dsimp only [go_sem, ↓reduceIte, reduceCtorEq, Nat.reduceEqDiff, Nat.reduceAdd, Nat.reduceLeDiff, Nat.reduceMul, Int.reduceBEq, Int.reduceBNe, Int.reduceLT, Int.reduceLE, Int.reduceGT, Int.reduceGE, ChB.next, r13.cell]
      refine call_of (chooser_next (q := 0) t12 (by omega)) ?_
      rintro v h15 ⟨hh, rfl⟩
      obtain rfl : h14 = h15 := hh.symm
      simp -dsimp only [go_sem, ↓reduceIte, reduceCtorEq, Nat.reduceEqDiff, Nat.reduceAdd, Nat.reduceLeDiff, Nat.reduceMul, Int.reduceBEq, Int.reduceBNe, Int.reduceLT, Int.reduceLE, Int.reduceGT, Int.reduceGE, r13.cell]
      refine ⟨(v14, l ++ [x], fun y => if y = x then true else D y), by dsimp only; exact hmu, by simp [Le, find, ChB.next, ChB.place], p0, by omega, t12, ?_, hl2, ?_⟩
      · dsimp only
        rw [List.length_append, List.map_append, List.map_singleton, hBv]; exact oo
      · intro r hr' hFr
        dsimp only
        by_cases hrx : r = x
        · simp [hrx]
        · simp [hrx, hD r hr' hFr]
    · have hmn : memb F x i = [] := by
        refine List.filter_eq_nil_iff.2 fun p hp h => ?_
        have hp := List.mem_range.1 hp
        have h : F p = x := by simpa using h
        apply hFx
        rw [← h, hF]; exact ldF_idem hp
      have hBv := mB2.nil x hxi hmn
      rw [hBv] at hgx
      simp -dsimp only [go_sem, ↓reduceIte, reduceCtorEq, Nat.reduceEqDiff, Nat.reduceAdd, Nat.reduceLeDiff, Nat.reduceMul, Int.reduceBEq, Int.reduceBNe, Int.reduceLT, Int.reduceLE, Int.reduceGT, Int.reduceGE, rk2.cell, hgx]
      simp -dsimp only [go_sem, ↓reduceIte, reduceCtorEq, Nat.reduceEqDiff, Nat.reduceAdd, Nat.reduceLeDiff, Nat.reduceMul, Int.reduceBEq, Int.reduceBNe, Int.reduceLT, Int.reduceLE, Int.reduceGT, Int.reduceGE, ChB.next]
      refine call_of (chooser_next (q := 0) t12 (by omega)) ?_
      rintro v h15 ⟨hh, rfl⟩
      obtain rfl : h12 = h15 := hh.symm
      simp -dsimp only [go_sem, ↓reduceIte, reduceCtorEq, Nat.reduceEqDiff, Nat.reduceAdd, Nat.reduceLeDiff, Nat.reduceMul, Int.reduceBEq, Int.reduceBNe, Int.reduceLT, Int.reduceLE, Int.reduceGT, Int.reduceGE]
      refine ⟨(ov, l, fun y => if y = x then true else D y), by dsimp only; exact hmu, by simp [Le, find, ChB.next, ChB.place], p0, by omega, t12, oo, hl, ?_⟩
      intro r hr' hFr
      dsimp only
      by_cases hrx : r = x
      · subst hrx; exact absurd hFr hFx
      · simp [hrx, hD r hr' hFr]
end Go.Proofs.Tst
/-
  The document's own Pairs.
-/
namespace Go.Proofs.Tst
open Go Go.Vc
def upto (f : Nat → Bool) (i j : Nat) : List (Int × Int) := ((List.range j).filter f).map fun (b : Nat) => ((i : Int), (b : Int))
theorem upto_zero {f : Nat → Bool} {i : Nat} : upto f i 0 = [] := rfl
theorem upto_succ {f : Nat → Bool} {i j : Nat} : upto f i (j + 1) = if f j = true then upto f i j ++ [((i : Int), (j : Int))] else upto f i j := by
  unfold upto
  rw [List.range_succ, List.filter_append, List.map_append]
  by_cases h : f j = true <;> simp [h]
theorem upto_len {f : Nat → Bool} {i j : Nat} : (upto f i j).length ≤ j := by
  unfold upto; rw [List.length_map]; exact Nat.le_trans (List.length_filter_le _ _) (by simp)
theorem upto_end {f : Nat → Bool} {i n : Nat} : upto f i n = (rest f n 0).map fun (b : Nat) => ((i : Int), (b : Int)) := by
  unfold upto rest; rw [Nat.sub_zero, List.range_eq_range']
theorem ref1_Pairs {n : Nat} {M : Nat → Nat → Bool} {rv : Value} {lo hi : Nat} {h : Heap} (hr : RefAt h lo hi rv n M) :
    Con Tryd.prog 54 #[rv] h fun v h' => Fr 0 0 h h' ∧ Holder 2 h' v (pairsOf n M).length (pairsV (pairsOf n M)) h.size := by
  refine con_ref1_Pairs ?_
  obtain ⟨hn, s, R, rfl, t⟩ := hr
  obtain ⟨sa, sc, rfl⟩ := t.own.is
  have p0 : Fr 0 0 h h := .refl _ _ _
  simp -dsimp only [go_sem, ↓reduceIte, reduceCtorEq, Nat.reduceEqDiff, Nat.reduceAdd, Nat.reduceLeDiff, Nat.reduceMul, Int.reduceBEq, Int.reduceBNe, Int.reduceLT, Int.reduceLE, Int.reduceGT, Int.reduceGE]
  intro b1 h1 n1
  have n1_a := n1.at_
  have n1_z := n1.size
  replace p0 := p0.fresh (n1.fr (lo := 0) (hi := 0)) (by omega)
  have r1 := n1.row
  simp -dsimp only [go_sem, ↓reduceIte, reduceCtorEq, Nat.reduceEqDiff, Nat.reduceAdd, Nat.reduceLeDiff, Nat.reduceMul, Int.reduceBEq, Int.reduceBNe, Int.reduceLT, Int.reduceLE, Int.reduceGT, Int.reduceGE, r1.cell]
  refine loop_intro (fun s : Nat × Value => [(1, .pointer (some ⟨b1, 0, none⟩)), (3, s.2), (4, .int .i64 s.1)])
    (fun s h' => s.1 ≤ n ∧ Fr 0 0 h h' ∧ h1.size ≤ h'.size ∧ Rw h' b1 [.int .i64 n, .slice sa n sc] ∧ Holder 2 h' s.2 (pairsTo n M s.1).length (pairsV (pairsTo n M s.1)) h1.size) (fun s => n - s.1) (0, .slice none 0 0) ?_ ?_ ?_
  · simp [Le, find]
  · exact ⟨by omega, p0, by omega, r1, .none _ _ _⟩
  rintro ⟨i, ov⟩ h2 ⟨hi, p0, y2, r1, oo⟩
  dsimp only at hi oo ⊢
  have p0_z := p0.size
  have r1_l := r1.lt
  have oo_l := oo.top
  simp -dsimp only [go_sem, ↓reduceIte, reduceCtorEq, Nat.reduceEqDiff, Nat.reduceAdd, Nat.reduceLeDiff, Nat.reduceMul, Int.reduceBEq, Int.reduceBNe, Int.reduceLT, Int.reduceLE, Int.reduceGT, Int.reduceGE, r1.cell]
  refine ⟨fun hlt => ?_, fun hge => ?_⟩
  · have hlt : i < n := by omega
    have g4 := length_pairsTo_le n M i
    have g3 : i * n ≤ 256 * 256 := Nat.mul_le_mul (by omega) (by omega)
    have k1 : b1 < h1.size := by omega
    simp -dsimp only [go_sem, ↓reduceIte, reduceCtorEq, Nat.reduceEqDiff, Nat.reduceAdd, Nat.reduceLeDiff, Nat.reduceMul, Int.reduceBEq, Int.reduceBNe, Int.reduceLT, Int.reduceLE, Int.reduceGT, Int.reduceGE, r1.cell]
    refine loop_intro (fun s : Nat × Value => [(1, .pointer (some ⟨b1, 0, none⟩)), (3, s.2), (4, .int .i64 i), (5, .int .i64 s.1)])
      (fun s h' => s.1 ≤ n ∧ Fr 0 0 h h' ∧ h1.size ≤ h'.size ∧ Rw h' b1 [.int .i64 n, .slice sa n sc] ∧ Holder 2 h' s.2 (pairsTo n M i ++ upto (M i) i s.1).length (pairsV (pairsTo n M i ++ upto (M i) i s.1)) h1.size) (fun s => n - s.1) (0, ov) ?_ ?_ ?_
    · simp [Le, find]
    · exact ⟨by omega, p0, by omega, r1, by simpa [upto_zero] using oo⟩
    rintro ⟨j, ov⟩ h3 ⟨hj, p0, y3, r1, oo⟩
    dsimp only at hj oo ⊢
    have p0_z := p0.size
    have r1_l := r1.lt
    have oo_l := oo.top
    have hul := upto_len (f := M i) (i := i) (j := j)
    have hal : (pairsTo n M i ++ upto (M i) i j).length = (pairsTo n M i).length + (upto (M i) i j).length := List.length_append
    obtain ⟨oa, oc, rfl⟩ := oo.is
    simp -dsimp only [go_sem, ↓reduceIte, reduceCtorEq, Nat.reduceEqDiff, Nat.reduceAdd, Nat.reduceLeDiff, Nat.reduceMul, Int.reduceBEq, Int.reduceBNe, Int.reduceLT, Int.reduceLE, Int.reduceGT, Int.reduceGE, r1.cell]
    refine ⟨fun hlt2 => ?_, fun hge2 => ?_⟩
    · have hlt2 : j < n := by omega
      have t := t.fr p0 (by omega)
      simp -dsimp only [go_sem, ↓reduceIte, reduceCtorEq, Nat.reduceEqDiff, Nat.reduceAdd, Nat.reduceLeDiff, Nat.reduceMul, Int.reduceBEq, Int.reduceBNe, Int.reduceLT, Int.reduceLE, Int.reduceGT, Int.reduceGE, r1.cell]
      refine Chk_intro (by omega) (t.idx hlt fun b4 o4 c4 => ?_)
      simp -dsimp only [go_sem, ↓reduceIte, reduceCtorEq, Nat.reduceEqDiff, Nat.reduceAdd, Nat.reduceLeDiff, Nat.reduceMul, Int.reduceBEq, Int.reduceBNe, Int.reduceLT, Int.reduceLE, Int.reduceGT, Int.reduceGE, c4, r1.cell]
      refine Chk_intro (by omega) ?_
      simp -dsimp only [go_sem, ↓reduceIte, reduceCtorEq, Nat.reduceEqDiff, Nat.reduceAdd, Nat.reduceLeDiff, Nat.reduceMul, Int.reduceBEq, Int.reduceBNe, Int.reduceLT, Int.reduceLE, Int.reduceGT, Int.reduceGE, t.cell hlt hlt2, r1.cell]
      cases hm : M i j with
      | false =>
        have eu : upto (M i) i (j + 1) = upto (M i) i j := by rw [upto_succ, if_neg (by simp [hm])]
        simp -dsimp only [go_sem, ↓reduceIte, reduceCtorEq, Nat.reduceEqDiff, Nat.reduceAdd, Nat.reduceLeDiff, Nat.reduceMul, Int.reduceBEq, Int.reduceBNe, Int.reduceLT, Int.reduceLE, Int.reduceGT, Int.reduceGE, r1.cell]
        simp -dsimp (disch := omega) only [wrap64]
        exact ⟨(j + 1, .slice oa (pairsTo n M i ++ upto (M i) i j).length oc), by first | omega | (dsimp only; omega), by simp [Le, find], by first | omega | (dsimp only; omega), p0, by omega, r1, by dsimp only; rw [eu]; exact oo⟩
      | true =>
        have eu : upto (M i) i (j + 1) = upto (M i) i j ++ [((i : Int), (j : Int))] := by rw [upto_succ, if_pos hm]
        simp -dsimp only [go_sem, ↓reduceIte, reduceCtorEq, Nat.reduceEqDiff, Nat.reduceAdd, Nat.reduceLeDiff, Nat.reduceMul, Int.reduceBEq, Int.reduceBNe, Int.reduceLT, Int.reduceLE, Int.reduceGT, Int.reduceGE, r1.cell]
        intro b5 h5 n5
        have n5_a := n5.at_
        have n5_z := n5.size
        replace p0 := p0.fresh (n5.fr (lo := 0) (hi := 0)) (by omega)
        replace r1 := r1.fr (n5.fr (lo := 0) (hi := 0)) (by omega)
        replace oo := oo.fr (n5.fr (lo := 0) (hi := 0)) (by have := oo.at_; omega)
        have r5 := n5.row
        simp -dsimp only [go_sem, ↓reduceIte, reduceCtorEq, Nat.reduceEqDiff, Nat.reduceAdd, Nat.reduceLeDiff, Nat.reduceMul, Int.reduceBEq, Int.reduceBNe, Int.reduceLT, Int.reduceLE, Int.reduceGT, Int.reduceGE, r1.cell, r5.cell]
        refine oo.append (by omega) rfl (by omega) (by simp) (by omega) fun v6 h6 o_new f6 e_app => ?_
        have f6_z := f6.size
        have o_at := oo.at_
        replace p0 := p0.fresh f6 (by omega)
        replace r1 := r1.fr f6 (by omega)
        replace r5 := r5.fr f6 (by omega)
        clear o_at e_app
        replace oo := o_new
        have oo_l := oo.top
        simp -dsimp only [go_sem, ↓reduceIte, reduceCtorEq, Nat.reduceEqDiff, Nat.reduceAdd, Nat.reduceLeDiff, Nat.reduceMul, Int.reduceBEq, Int.reduceBNe, Int.reduceLT, Int.reduceLE, Int.reduceGT, Int.reduceGE, r1.cell, r5.cell]
        simp -dsimp (disch := omega) only [wrap64]
        exact ⟨(j + 1, v6), by first | omega | (dsimp only; omega), by simp [Le, find], by first | omega | (dsimp only; omega), p0, by omega, r1, by dsimp only; rw [eu, ← List.append_assoc, pairsV_append, List.length_append]; exact oo⟩
    · have hjn : j = n := by omega
      subst hjn
      have eu : pairsTo j M i ++ upto (M i) i j = pairsTo j M (i + 1) := by rw [pairsTo_succ, upto_end]
      rw [eu] at oo ⊢
      simp -dsimp only [go_sem, ↓reduceIte, reduceCtorEq, Nat.reduceEqDiff, Nat.reduceAdd, Nat.reduceLeDiff, Nat.reduceMul, Int.reduceBEq, Int.reduceBNe, Int.reduceLT, Int.reduceLE, Int.reduceGT, Int.reduceGE, r1.cell]
      simp -dsimp (disch := omega) only [wrap64]
      exact ⟨(i + 1, .slice oa (pairsTo j M (i + 1)).length oc), by first | omega | (dsimp only; omega), by simp [Le, find], by first | omega | (dsimp only; omega), p0, by omega, r1, oo⟩
  · have hin : i = n := by omega
    subst hin
    simp -dsimp only [go_sem, ↓reduceIte, reduceCtorEq, Nat.reduceEqDiff, Nat.reduceAdd, Nat.reduceLeDiff, Nat.reduceMul, Int.reduceBEq, Int.reduceBNe, Int.reduceLT, Int.reduceLE, Int.reduceGT, Int.reduceGE, r1.cell]
    exact ⟨p0, oo.lower (by omega)⟩
end Go.Proofs.Tst
/-
  How many bits a word has: the library's way of adding them up.
-/
namespace Go.Vc
end Go.Vc
namespace Go.Proofs.Tst
open Go Go.Vc
end Go.Proofs.Tst
namespace Go.Proofs.Tst
open Go Go.Vc
end Go.Proofs.Tst
namespace Go.Proofs.Tst
open Go Go.Vc
/-- The points of a round. -/
def LayL (n : Nat) (M : Nat → Nat → Bool) (p k : Nat) (L : List Nat) : Prop := (k = 0 ∧ L = [p]) ∨ (0 < k ∧ ∀ i, i ∈ L ↔ i < n ∧ farK n M p k i = k)
theorem LayL.lay {n : Nat} {M : Nat → Nat → Bool} {p k : Nat} {L : List Nat} (h : LayL n M p k L) (i : Nat) : L.any (fun q => M i q) = lay n M p (farK n M p k) k i := by
  rcases h with ⟨rfl, rfl⟩ | ⟨hk, h⟩
  · simp [Go.Vc.lay]
  · obtain ⟨k, rfl⟩ : ∃ k', k = k' + 1 := ⟨k - 1, by omega⟩
    rw [Bool.eq_iff_iff, lay_succ, List.any_eq_true]
    exact ⟨fun ⟨q, hq, hm⟩ => ⟨q, ((h q).1 hq).1, hm, ((h q).1 hq).2⟩, fun ⟨q, hq, hm, hf⟩ => ⟨q, (h q).2 ⟨hq, hf⟩, hm⟩⟩
theorem LayL.lt {n : Nat} {M : Nat → Nat → Bool} {p k : Nat} {L : List Nat} (hp : p < n) (h : LayL n M p k L) {q : Nat} (hq : q ∈ L) : q < n := by
  rcases h with ⟨rfl, rfl⟩ | ⟨hk, h⟩
  · simp at hq; omega
  · exact ((h q).1 hq).1

end Go.Proofs.Tst
namespace Go.Proofs.Tst
open Go Go.Vc
end Go.Proofs.Tst
namespace Go.Proofs.Tst
open Go Go.Vc
end Go.Proofs.Tst
namespace Go.Proofs.Tst
open Go Go.Vc
end Go.Proofs.Tst
/-
  The laws of sets of pairs.
-/
namespace Go.Proofs.Tst
open Go Go.Vc
theorem eqP {n m : Nat} {M N : Nat → Nat → Bool} (h : n = m) (he : ∀ i j, i < n → j < n → (M i j = true ↔ N i j = true)) : decide (n = m ∧ WithinP n M m N ∧ WithinP m N n M) = true := by
  subst h
  exact decide_eq_true ⟨rfl, fun a ha b hb hm => ⟨ha, hb, (he a b ha hb).1 hm⟩, fun a ha b hb hm => ⟨ha, hb, (he a b ha hb).2 hm⟩⟩
section
variable {k : Nat} {A B C : Nat → Nat → Bool} {i j : Nat}
end
end Go.Proofs.Tst
