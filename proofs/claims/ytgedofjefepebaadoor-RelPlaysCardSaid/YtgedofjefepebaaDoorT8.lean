/-
  Contracts of functions that the law reaches: what each returns and what it leaves in memory. Conditions stand in each.
-/
import Derived.Test.YtgedofjefepebaaDoorT7
set_option linter.all false
set_option maxRecDepth 2000
namespace Go.Proofs.Tst
open Go Go.Vc
theorem putM_same {n : Nat} {M : Nat → Nat → Bool} {a b : Int} {put : Bool} (h : (inR n a && inR n b && (M a.toNat b.toNat != put)) = false) {i j : Nat} : M i j = putM n M a b put i j := by
  unfold putM
  split
  · rename_i hc
    simp only [Bool.and_eq_true, beq_iff_eq] at hc
    obtain ⟨⟨⟨h1, h2⟩, rfl⟩, rfl⟩ := hc
    rw [h1, h2] at h
    simpa using h
  · rfl
theorem ref1_Put {n : Nat} {M : Nat → Nat → Bool} {rv : Value} {lo hi : Nat} {h : Heap} (hr : RefAt h lo hi rv n M) (a b : Int) (put : Bool) (hh : hi ≤ h.size) :
    Con Tryd.prog 65 #[rv, .int .i64 a, .int .i64 b, .bool put] h fun v h' => Fr 0 0 h h' ∧ ∃ w lo' hi', v = .tuple #[w, .bool (inR n a && inR n b && (M a.toNat b.toNat != put))] ∧ RefAt h' lo' hi' w n (putM n M a b put) ∧ (lo' = lo ∧ hi' = hi ∨ h.size ≤ lo' ∧ hi' ≤ h'.size) := by
  refine con_ref1_Put ?_
  have hr0 := hr
  obtain ⟨hn, s, R, rfl, t⟩ := hr
  obtain ⟨sa, sc, rfl⟩ := t.own.is
  have p0 : Fr 0 0 h h := .refl _ _ _
  simp -dsimp only [go_sem, ↓reduceIte, reduceCtorEq, Nat.reduceEqDiff, Nat.reduceAdd, Nat.reduceLeDiff, Nat.reduceMul, Int.reduceBEq, Int.reduceBNe, Int.reduceLT, Int.reduceLE, Int.reduceGT, Int.reduceGE]
  intro b1 h1 n1
  have n1_a := n1.at_
  have n1_z := n1.size
  replace p0 := p0.fresh (n1.fr (lo := 0) (hi := 0)) (by omega)
  have r1 := n1.row
  simp -dsimp only [go_sem, ↓reduceIte, reduceCtorEq, Nat.reduceEqDiff, Nat.reduceAdd, Nat.reduceLeDiff, Nat.reduceMul, Int.reduceBEq, Int.reduceBNe, Int.reduceLT, Int.reduceLE, Int.reduceGT, Int.reduceGE, r1.cell]
  intro b2 h2 n2
  have n2_a := n2.at_
  have n2_z := n2.size
  replace p0 := p0.fresh (n2.fr (lo := 0) (hi := 0)) (by omega)
  replace r1 := r1.fr (n2.fr (lo := 0) (hi := 0)) (by omega)
  have r2 := n2.row
  simp -dsimp only [go_sem, ↓reduceIte, reduceCtorEq, Nat.reduceEqDiff, Nat.reduceAdd, Nat.reduceLeDiff, Nat.reduceMul, Int.reduceBEq, Int.reduceBNe, Int.reduceLT, Int.reduceLE, Int.reduceGT, Int.reduceGE, r1.cell, r2.cell]
  refine call_of (ref1_in n a _ h2) ?_
  rintro v h3 ⟨f3, rfl⟩
  have f3_z := f3.size
  replace p0 := p0.fresh f3 (by omega)
  replace r1 := r1.fr f3 (by omega)
  replace r2 := r2.fr f3 (by omega)
  cases ha : inR n a with
  | false =>
    have t3 := (hr0.fr p0 (by omega)).congr (M' := putM n M a b put) fun i j _ _ => putM_same (by simp [ha])
    simp -dsimp only [go_sem, ↓reduceIte, reduceCtorEq, Nat.reduceEqDiff, Nat.reduceAdd, Nat.reduceLeDiff, Nat.reduceMul, Int.reduceBEq, Int.reduceBNe, Int.reduceLT, Int.reduceLE, Int.reduceGT, Int.reduceGE, r1.cell, r2.cell]
    refine Chk_intro (r2.wr (by first | (simp; done) | (simp; omega))) fun h4 s4 => ?_
    have s4_z := s4.size
    replace p0 := p0.fresh s4.fr (by omega)
    replace r1 := r1.fr s4.fr (by omega)
    replace r2 := s4.row r2
    try simp only [cl_int, cl_bool, cl_slice, cl_ptr, putAt_one, List.set_cons_zero, List.set_cons_succ, ivec_set, brow_upd] at r2
    simp -dsimp only [go_sem, ↓reduceIte, reduceCtorEq, Nat.reduceEqDiff, Nat.reduceAdd, Nat.reduceLeDiff, Nat.reduceMul, Int.reduceBEq, Int.reduceBNe, Int.reduceLT, Int.reduceLE, Int.reduceGT, Int.reduceGE] at r2
    simp -dsimp only [go_sem, ↓reduceIte, reduceCtorEq, Nat.reduceEqDiff, Nat.reduceAdd, Nat.reduceLeDiff, Nat.reduceMul, Int.reduceBEq, Int.reduceBNe, Int.reduceLT, Int.reduceLE, Int.reduceGT, Int.reduceGE, r1.cell, r2.cell]
    exact ⟨p0, _, _, _, rfl, t3.fr s4.fr (by omega), .inl ⟨rfl, rfl⟩⟩
  | true =>
    have p0_z := p0.size
    have r1_l := r1.lt
    have r2_l := r2.lt
    simp -dsimp only [go_sem, ↓reduceIte, reduceCtorEq, Nat.reduceEqDiff, Nat.reduceAdd, Nat.reduceLeDiff, Nat.reduceMul, Int.reduceBEq, Int.reduceBNe, Int.reduceLT, Int.reduceLE, Int.reduceGT, Int.reduceGE, r1.cell, r2.cell]
    refine call_of (ref1_in n b _ h3) ?_
    rintro v h4 ⟨f4, rfl⟩
    have f4_z := f4.size
    replace p0 := p0.fresh f4 (by omega)
    replace r1 := r1.fr f4 (by omega)
    replace r2 := r2.fr f4 (by omega)
    cases hb : inR n b with
    | false =>
      have t3 := (hr0.fr p0 (by omega)).congr (M' := putM n M a b put) fun i j _ _ => putM_same (by simp [hb])
      simp -dsimp only [go_sem, ↓reduceIte, reduceCtorEq, Nat.reduceEqDiff, Nat.reduceAdd, Nat.reduceLeDiff, Nat.reduceMul, Int.reduceBEq, Int.reduceBNe, Int.reduceLT, Int.reduceLE, Int.reduceGT, Int.reduceGE, r1.cell, r2.cell]
      refine Chk_intro (r2.wr (by first | (simp; done) | (simp; omega))) fun h5 s5 => ?_
      have s5_z := s5.size
      replace p0 := p0.fresh s5.fr (by omega)
      replace r1 := r1.fr s5.fr (by omega)
      replace r2 := s5.row r2
      try simp only [cl_int, cl_bool, cl_slice, cl_ptr, putAt_one, List.set_cons_zero, List.set_cons_succ, ivec_set, brow_upd] at r2
      simp -dsimp only [go_sem, ↓reduceIte, reduceCtorEq, Nat.reduceEqDiff, Nat.reduceAdd, Nat.reduceLeDiff, Nat.reduceMul, Int.reduceBEq, Int.reduceBNe, Int.reduceLT, Int.reduceLE, Int.reduceGT, Int.reduceGE] at r2
      simp -dsimp only [go_sem, ↓reduceIte, reduceCtorEq, Nat.reduceEqDiff, Nat.reduceAdd, Nat.reduceLeDiff, Nat.reduceMul, Int.reduceBEq, Int.reduceBNe, Int.reduceLT, Int.reduceLE, Int.reduceGT, Int.reduceGE, r1.cell, r2.cell]
      exact ⟨p0, _, _, _, rfl, t3.fr s5.fr (by omega), .inl ⟨rfl, rfl⟩⟩
    | true =>
      have p0_z := p0.size
      have r1_l := r1.lt
      have r2_l := r2.lt
      obtain ⟨x, rfl⟩ : ∃ x : Nat, a = x := ⟨a.toNat, by simp [inR] at ha; omega⟩
      obtain ⟨y, rfl⟩ : ∃ y : Nat, b = y := ⟨b.toNat, by simp [inR] at hb; omega⟩
      have hx : x < n := by simpa [inR] using ha
      have hy : y < n := by simpa [inR] using hb
      have tt := t.fr p0 (by omega)
      simp -dsimp only [go_sem, ↓reduceIte, reduceCtorEq, Nat.reduceEqDiff, Nat.reduceAdd, Nat.reduceLeDiff, Nat.reduceMul, Int.reduceBEq, Int.reduceBNe, Int.reduceLT, Int.reduceLE, Int.reduceGT, Int.reduceGE, r1.cell, r2.cell]
      refine Chk_intro (by omega) (tt.idx hx fun b5 o5 c5 => ?_)
      simp -dsimp only [go_sem, ↓reduceIte, reduceCtorEq, Nat.reduceEqDiff, Nat.reduceAdd, Nat.reduceLeDiff, Nat.reduceMul, Int.reduceBEq, Int.reduceBNe, Int.reduceLT, Int.reduceLE, Int.reduceGT, Int.reduceGE, c5, r1.cell, r2.cell]
      refine Chk_intro (by omega) ?_
      simp -dsimp only [go_sem, ↓reduceIte, reduceCtorEq, Nat.reduceEqDiff, Nat.reduceAdd, Nat.reduceLeDiff, Nat.reduceMul, Int.reduceBEq, Int.reduceBNe, Int.reduceLT, Int.reduceLE, Int.reduceGT, Int.reduceGE, tt.cell hx hy, r1.cell, r2.cell]
      refine ⟨fun heq => ?_, fun hneq => ?_⟩
      · have hne : (M x y != put) = false := by simp at heq; simp [heq]
        have t3 := (hr0.fr p0 (by omega)).congr (M' := putM n M x y put) fun i j _ _ => putM_same (by simpa [ha, hb] using hne)
        simp -dsimp only [go_sem, ↓reduceIte, reduceCtorEq, Nat.reduceEqDiff, Nat.reduceAdd, Nat.reduceLeDiff, Nat.reduceMul, Int.reduceBEq, Int.reduceBNe, Int.reduceLT, Int.reduceLE, Int.reduceGT, Int.reduceGE, r1.cell, r2.cell]
        refine Chk_intro (r2.wr (by first | (simp; done) | (simp; omega))) fun h5 s5 => ?_
        have s5_z := s5.size
        replace p0 := p0.fresh s5.fr (by omega)
        replace r1 := r1.fr s5.fr (by omega)
        replace r2 := s5.row r2
        try simp only [cl_int, cl_bool, cl_slice, cl_ptr, putAt_one, List.set_cons_zero, List.set_cons_succ, ivec_set, brow_upd] at r2
        try simp -dsimp only [go_sem, ↓reduceIte, reduceCtorEq, Nat.reduceEqDiff, Nat.reduceAdd, Nat.reduceLeDiff, Nat.reduceMul, Int.reduceBEq, Int.reduceBNe, Int.reduceLT, Int.reduceLE, Int.reduceGT, Int.reduceGE] at r2
        simp -dsimp only [go_sem, ↓reduceIte, reduceCtorEq, Nat.reduceEqDiff, Nat.reduceAdd, Nat.reduceLeDiff, Nat.reduceMul, Int.reduceBEq, Int.reduceBNe, Int.reduceLT, Int.reduceLE, Int.reduceGT, Int.reduceGE, r1.cell, r2.cell]
        simp only [Int.toNat_natCast, hne]
        exact ⟨p0, _, _, _, rfl, t3.fr s5.fr (by omega), .inl ⟨rfl, rfl⟩⟩
      · have hne : (M x y != put) = true := by simp at hneq; simp [hneq]
        simp -dsimp only [go_sem, ↓reduceIte, reduceCtorEq, Nat.reduceEqDiff, Nat.reduceAdd, Nat.reduceLeDiff, Nat.reduceMul, Int.reduceBEq, Int.reduceBNe, Int.reduceLT, Int.reduceLE, Int.reduceGT, Int.reduceGE, r1.cell, r2.cell]
        refine call_of (ref1_Wide (hr0.fr p0 (by omega)) n (by omega)) ?_
        rintro v h5 ⟨f5, t5⟩
        have f5_z := f5.size
        replace p0 := p0.fresh f5 (by omega)
        replace r1 := r1.fr f5 (by omega)
        replace r2 := r2.fr f5 (by omega)
        rw [Nat.max_self] at t5
        have t6 := t5.congr (M' := M) fun i j hi hj => inN_in hi hj
        clear t5
        obtain ⟨-, z, Z, rfl, t5⟩ := t6
        obtain ⟨za, zc, rfl⟩ := t5.own.is
        have t5_b := t5.own.at_
        simp -dsimp only [go_sem, ↓reduceIte, reduceCtorEq, Nat.reduceEqDiff, Nat.reduceAdd, Nat.reduceLeDiff, Nat.reduceMul, Int.reduceBEq, Int.reduceBNe, Int.reduceLT, Int.reduceLE, Int.reduceGT, Int.reduceGE, r1.cell, r2.cell]
        intro b6 h6 n6
        have n6_a := n6.at_
        have n6_z := n6.size
        replace p0 := p0.fresh (n6.fr (lo := 0) (hi := 0)) (by omega)
        replace r1 := r1.fr (n6.fr (lo := 0) (hi := 0)) (by omega)
        replace r2 := r2.fr (n6.fr (lo := 0) (hi := 0)) (by omega)
        replace t5 := t5.fr (n6.fr (lo := 0) (hi := 0)) (by omega)
        have r6 := n6.row
        simp -dsimp only [go_sem, ↓reduceIte, reduceCtorEq, Nat.reduceEqDiff, Nat.reduceAdd, Nat.reduceLeDiff, Nat.reduceMul, Int.reduceBEq, Int.reduceBNe, Int.reduceLT, Int.reduceLE, Int.reduceGT, Int.reduceGE, r1.cell, r2.cell, r6.cell]
        refine Chk_intro (r6.wr (by first | (simp; done) | (simp; omega))) fun h7 s7 => ?_
        have s7_z := s7.size
        replace p0 := p0.fresh s7.fr (by omega)
        replace r1 := r1.fr s7.fr (by omega)
        replace r2 := r2.fr s7.fr (by omega)
        replace t5 := t5.fr s7.fr (by omega)
        replace r6 := s7.row r6
        try simp only [cl_int, cl_bool, cl_slice, cl_ptr, putAt_one, List.set_cons_zero, List.set_cons_succ, ivec_set, brow_upd] at r6
        simp -dsimp only [go_sem, ↓reduceIte, reduceCtorEq, Nat.reduceEqDiff, Nat.reduceAdd, Nat.reduceLeDiff, Nat.reduceMul, Int.reduceBEq, Int.reduceBNe, Int.reduceLT, Int.reduceLE, Int.reduceGT, Int.reduceGE] at r6
        simp -dsimp only [go_sem, ↓reduceIte, reduceCtorEq, Nat.reduceEqDiff, Nat.reduceAdd, Nat.reduceLeDiff, Nat.reduceMul, Int.reduceBEq, Int.reduceBNe, Int.reduceLT, Int.reduceLE, Int.reduceGT, Int.reduceGE, r1.cell, r2.cell, r6.cell]
        refine Chk_intro (by omega) (t5.idx hx fun b8 o8 c8 => ?_)
        simp -dsimp only [go_sem, ↓reduceIte, reduceCtorEq, Nat.reduceEqDiff, Nat.reduceAdd, Nat.reduceLeDiff, Nat.reduceMul, Int.reduceBEq, Int.reduceBNe, Int.reduceLT, Int.reduceLE, Int.reduceGT, Int.reduceGE, c8, r1.cell, r2.cell, r6.cell]
        refine Chk_intro (by omega) ?_
        simp -dsimp only [go_sem, ↓reduceIte, reduceCtorEq, Nat.reduceEqDiff, Nat.reduceAdd, Nat.reduceLeDiff, Nat.reduceMul, Int.reduceBEq, Int.reduceBNe, Int.reduceLT, Int.reduceLE, Int.reduceGT, Int.reduceGE, r1.cell, r2.cell, r6.cell]
        refine Chk_intro (t5.wr hx hy) fun h8 s8 => ?_
        have s8_z := s8.size
        have w1 := t5.row x hx
        have t8 := t5.set hx s8
        have s8.fr_z := s8.fr.size
        replace p0 := p0.fresh s8.fr (by omega)
        replace r1 := r1.fr s8.fr (by omega)
        replace r2 := r2.fr s8.fr (by omega)
        replace r6 := r6.fr s8.fr (by omega)
        simp -dsimp only [go_sem, ↓reduceIte, reduceCtorEq, Nat.reduceEqDiff, Nat.reduceAdd, Nat.reduceLeDiff, Nat.reduceMul, Int.reduceBEq, Int.reduceBNe, Int.reduceLT, Int.reduceLE, Int.reduceGT, Int.reduceGE, r1.cell, r2.cell, r6.cell]
        refine Chk_intro (r2.wr (by first | (simp; done) | (simp; omega))) fun h9 s9 => ?_
        have s9_z := s9.size
        replace p0 := p0.fresh s9.fr (by omega)
        replace r1 := r1.fr s9.fr (by omega)
        replace r6 := r6.fr s9.fr (by omega)
        replace t8 := t8.fr s9.fr (by omega)
        replace r2 := s9.row r2
        try simp only [cl_int, cl_bool, cl_slice, cl_ptr, putAt_one, List.set_cons_zero, List.set_cons_succ, ivec_set, brow_upd] at r2
        simp -dsimp only [go_sem, ↓reduceIte, reduceCtorEq, Nat.reduceEqDiff, Nat.reduceAdd, Nat.reduceLeDiff, Nat.reduceMul, Int.reduceBEq, Int.reduceBNe, Int.reduceLT, Int.reduceLE, Int.reduceGT, Int.reduceGE] at r2
        simp -dsimp only [go_sem, ↓reduceIte, reduceCtorEq, Nat.reduceEqDiff, Nat.reduceAdd, Nat.reduceLeDiff, Nat.reduceMul, Int.reduceBEq, Int.reduceBNe, Int.reduceLT, Int.reduceLE, Int.reduceGT, Int.reduceGE, r1.cell, r2.cell, r6.cell]
        simp only [Int.toNat_natCast, hne]
        refine ⟨p0, _, h4.size, h5.size, rfl, ⟨hn, _, Z, rfl, t8.congr fun i j _ _ => ?_⟩, .inr ⟨by omega, by omega⟩⟩
        unfold putM
        rw [ha, hb]
        by_cases hij : i = x ∧ j = y
        · obtain ⟨rfl, rfl⟩ := hij; simp
        · rw [if_neg hij, if_neg]
          simp only [Bool.and_eq_true, beq_iff_eq, true_and]
          rintro ⟨h1, h2⟩; exact hij ⟨by omega, by omega⟩
end Go.Proofs.Tst
/-
  The document's own far and Cycle.
-/
namespace Go.Proofs.Tst
open Go Go.Vc
def enc (v : Nat) : Int := if v = 0 then -1 else (v : Int)
def anyC (n : Nat) (M : Nat → Nat → Bool) (p k i j : Nat) : Bool := (List.range j).any fun x => M i x && (if k = 0 then x == p else farK n M p k x == k)
theorem lay_any {n : Nat} {M : Nat → Nat → Bool} {p k i : Nat} (hp : p < n) : lay n M p (farK n M p k) k i = anyC n M p k i n := by
  unfold lay anyC
  by_cases hk : k = 0
  · subst hk
    rw [if_pos rfl, Bool.eq_iff_iff]
    simp only [if_true, List.any_eq_true, List.mem_range, Bool.and_eq_true, beq_iff_eq]
    exact ⟨fun h => ⟨p, hp, h, rfl⟩, by rintro ⟨x, -, h, rfl⟩; exact h⟩
  · simp only [if_neg hk]
theorem anyC_mono {n : Nat} {M : Nat → Nat → Bool} {p k i j m : Nat} (hj : j ≤ m) (h : anyC n M p k i j = true) : anyC n M p k i m = true := by
  unfold anyC at *
  rw [List.any_eq_true] at *
  obtain ⟨x, hx, h⟩ := h
  exact ⟨x, List.mem_range.2 (by have := List.mem_range.1 hx; omega), h⟩
theorem anyC_succ {n : Nat} {M : Nat → Nat → Bool} {p k i j : Nat} : anyC n M p k i (j + 1) = (anyC n M p k i j || (M i j && (if k = 0 then j == p else farK n M p k j == k))) := by
  unfold anyC; rw [List.range_succ, List.any_append]; simp
/-- What is known of a point in the midst of its round. -/
def curF (n : Nat) (M : Nat → Nat → Bool) (p k i j : Nat) : Nat := if farK n M p k i ≠ 0 then farK n M p k i else if anyC n M p k i j = true then k + 1 else 0
theorem curF_zero {n : Nat} {M : Nat → Nat → Bool} {p k i : Nat} : curF n M p k i 0 = farK n M p k i := by
  unfold curF anyC; split
  · rfl
  · simp; omega
theorem curF_end {n : Nat} {M : Nat → Nat → Bool} {p k i j : Nat} (hp : p < n) (h : curF n M p k i j ≠ 0 ∨ j = n) (hj : j ≤ n) : curF n M p k i j = farK n M p (k + 1) i := by
  simp only [farK, lay_any hp]
  unfold curF at *
  split
  · rfl
  · rename_i h0
    rw [if_neg h0] at h
    by_cases ha : anyC n M p k i j = true
    · rw [if_pos ha, if_pos (anyC_mono hj ha)]
    · rw [if_neg ha] at h ⊢
      have : j = n := by simpa using h
      subst this
      rw [if_neg ha]
theorem farK_eq {n : Nat} {M : Nat → Nat → Bool} {p k j : Nat} (hk : k ≠ 0) : (farK n M p (k + 1) j = k) ↔ farK n M p k j = k := by
  constructor
  · intro h
    by_cases h0 : farK n M p k j = 0
    · rw [farK_new h0] at h; split at h <;> omega
    · rwa [farK_keep h0] at h
  · intro h
    rw [farK_keep (by omega)]; exact h
theorem enc_eq {v k : Nat} (hk : k ≠ 0) : (enc v == (k : Int)) = decide (v = k) := by
  unfold enc
  rw [Bool.eq_iff_iff]
  by_cases h : v = 0
  · simp only [h, if_true, beq_iff_eq, decide_eq_true_eq]; omega
  · simp only [if_neg h, beq_iff_eq, decide_eq_true_eq]; omega
set_option maxHeartbeats 1000000 in
theorem ref1_far {n p : Nat} {M : Nat → Nat → Bool} {rv : Value} {lo hi : Nat} {h : Heap} (hr : RefAt h lo hi rv n M) (hp : p < n) :
    Con Tryd.prog 110 #[rv, .int .i64 p] h fun v h' => Fr 0 0 h h' ∧ ∃ b, v = .slice (some ⟨b, 0, none⟩) n n ∧ Rw h' b (ivec n fun i => enc (farS n M p i)) ∧ h.size ≤ b := by
  refine con_ref1_far ?_
  obtain ⟨hn, s, R, rfl, t⟩ := hr
  obtain ⟨sa, sc, rfl⟩ := t.own.is
  have p0 : Fr 0 0 h h := .refl _ _ _
  simp -dsimp only [go_sem, ↓reduceIte, reduceCtorEq, Nat.reduceEqDiff, Nat.reduceAdd, Nat.reduceLeDiff, Nat.reduceMul, Int.reduceBEq, Int.reduceBNe, Int.reduceLT, Int.reduceLE, Int.reduceGT, Int.reduceGE]
  intro b1 h1 n1
  have n1_a := n1.at_
  have n1_z := n1.size
  replace p0 := p0.fresh (n1.fr (lo := 0) (hi := 0)) (by omega)
  have r1 := n1.row
  simp -dsimp only [go_sem, ↓reduceIte, reduceCtorEq, Nat.reduceEqDiff, Nat.reduceAdd, Nat.reduceLeDiff, Nat.reduceMul, Int.reduceBEq, Int.reduceBNe, Int.reduceLT, Int.reduceLE, Int.reduceGT, Int.reduceGE, r1.cell]
  refine Chk_intro (by omega) ?_
  intro b2 h2 n2
  have n2_a := n2.at_
  have n2_z := n2.size
  replace p0 := p0.fresh (n2.fr (lo := 0) (hi := 0)) (by omega)
  replace r1 := r1.fr (n2.fr (lo := 0) (hi := 0)) (by omega)
  have r2 := n2.row
  rw [zeros_one, Int.toNat_natCast, ivec_rep] at r2
  simp -dsimp only [go_sem, ↓reduceIte, reduceCtorEq, Nat.reduceEqDiff, Nat.reduceAdd, Nat.reduceLeDiff, Nat.reduceMul, Int.reduceBEq, Int.reduceBNe, Int.reduceLT, Int.reduceLE, Int.reduceGT, Int.reduceGE, r1.cell, r2.cell]
  have k2 : h.size ≤ b1 ∧ b1 < b2 ∧ b2 < h2.size := by omega
  refine loop_intro (fun i : Nat => [(1, .int .i64 p), (2, .pointer (some ⟨b1, 0, none⟩)), (5, .slice (some ⟨b2, 0, none⟩) n n), (6, .int .i64 i)])
    (fun i h' => i ≤ n ∧ Fr 0 0 h h' ∧ h2.size ≤ h'.size ∧ Rw h' b1 [.int .i64 n, .slice sa n sc] ∧ Rw h' b2 (ivec n fun x => if x < i then -1 else 0)) (fun i => n - i) 0 ?_ ?_ ?_
  · simp [Le, find]
  · exact ⟨by omega, p0, by omega, r1, by simpa using r2⟩
  rintro i h3 ⟨hi, p0, y3, r1, r2⟩
  have p0_z := p0.size
  have r1_l := r1.lt
  have r2_l := r2.lt
  simp -dsimp only [go_sem, ↓reduceIte, reduceCtorEq, Nat.reduceEqDiff, Nat.reduceAdd, Nat.reduceLeDiff, Nat.reduceMul, Int.reduceBEq, Int.reduceBNe, Int.reduceLT, Int.reduceLE, Int.reduceGT, Int.reduceGE, r1.cell, r2.cell]
  refine ⟨fun hlt => ?_, fun hge => ?_⟩
  · have hlt : i < n := by omega
    simp -dsimp only [go_sem, ↓reduceIte, reduceCtorEq, Nat.reduceEqDiff, Nat.reduceAdd, Nat.reduceLeDiff, Nat.reduceMul, Int.reduceBEq, Int.reduceBNe, Int.reduceLT, Int.reduceLE, Int.reduceGT, Int.reduceGE, r1.cell, r2.cell]
    refine Chk_intro (by omega) ?_
    simp -dsimp only [go_sem, ↓reduceIte, reduceCtorEq, Nat.reduceEqDiff, Nat.reduceAdd, Nat.reduceLeDiff, Nat.reduceMul, Int.reduceBEq, Int.reduceBNe, Int.reduceLT, Int.reduceLE, Int.reduceGT, Int.reduceGE, r1.cell, r2.cell]
    refine Chk_intro (r2.wr (by first | (simp; done) | (simp; omega))) fun h4 s4 => ?_
    have s4_z := s4.size
    replace p0 := p0.fresh s4.fr (by omega)
    replace r1 := r1.fr s4.fr (by omega)
    replace r2 := s4.row r2
    try simp only [cl_int, cl_bool, cl_slice, cl_ptr, putAt_one, List.set_cons_zero, List.set_cons_succ, ivec_set, brow_upd] at r2
    simp -dsimp only [go_sem, ↓reduceIte, reduceCtorEq, Nat.reduceEqDiff, Nat.reduceAdd, Nat.reduceLeDiff, Nat.reduceMul, Int.reduceBEq, Int.reduceBNe, Int.reduceLT, Int.reduceLE, Int.reduceGT, Int.reduceGE, r1.cell, r2.cell]
    simp -dsimp (disch := omega) only [wrap64]
    refine ⟨i + 1, by omega, by simp [Le, find], by omega, p0, by omega, r1, ?_⟩
    rw [ivec_congr fun x hx => ?_]; exact r2
    by_cases h : x = i
    · subst h; rw [upd_same, if_pos (by omega)]
    · rw [upd_ne _ _ h]; congr 1; simp; omega
  have hin : n = i := by omega
  subst hin
  replace r2 : Rw h3 b2 (ivec n fun x => enc (farK n M p 0 x)) := by rw [ivec_congr fun x hx => ?_]; exact r2; simp [hx, farK, enc]
  simp -dsimp only [go_sem, ↓reduceIte, reduceCtorEq, Nat.reduceEqDiff, Nat.reduceAdd, Nat.reduceLeDiff, Nat.reduceMul, Int.reduceBEq, Int.reduceBNe, Int.reduceLT, Int.reduceLE, Int.reduceGT, Int.reduceGE, r1.cell, r2.cell]
  refine loop_intro (fun k : Nat => [(1, .int .i64 p), (2, .pointer (some ⟨b1, 0, none⟩)), (5, .slice (some ⟨b2, 0, none⟩) n n), (7, .int .i64 ((k : Int) + 1))])
    (fun k h' => k ≤ n ∧ Fr 0 0 h h' ∧ h2.size ≤ h'.size ∧ Rw h' b1 [.int .i64 n, .slice sa n sc] ∧ Rw h' b2 (ivec n fun x => enc (farK n M p k x))) (fun k => n - k) 0 ?_ ?_ ?_
  · simp [Le, find]
  · exact ⟨by omega, p0, by omega, r1, r2⟩
  rintro k h4 ⟨hk, p0, y4, r1, r2⟩
  have p0_z := p0.size
  have r1_l := r1.lt
  have r2_l := r2.lt
  simp -dsimp only [go_sem, ↓reduceIte, reduceCtorEq, Nat.reduceEqDiff, Nat.reduceAdd, Nat.reduceLeDiff, Nat.reduceMul, Int.reduceBEq, Int.reduceBNe, Int.reduceLT, Int.reduceLE, Int.reduceGT, Int.reduceGE, r1.cell, r2.cell]
  refine ⟨fun hlt => ?_, fun hge => ?_⟩
  · have hlt : k < n := by omega
    simp -dsimp only [go_sem, ↓reduceIte, reduceCtorEq, Nat.reduceEqDiff, Nat.reduceAdd, Nat.reduceLeDiff, Nat.reduceMul, Int.reduceBEq, Int.reduceBNe, Int.reduceLT, Int.reduceLE, Int.reduceGT, Int.reduceGE, r1.cell, r2.cell]
    refine loop_intro (fun i : Nat => [(1, .int .i64 p), (2, .pointer (some ⟨b1, 0, none⟩)), (5, .slice (some ⟨b2, 0, none⟩) n n), (7, .int .i64 ((k : Int) + 1)), (8, .int .i64 i)])
      (fun i h' => i ≤ n ∧ Fr 0 0 h h' ∧ h2.size ≤ h'.size ∧ Rw h' b1 [.int .i64 n, .slice sa n sc] ∧ Rw h' b2 (ivec n fun x => enc (if x < i then farK n M p (k + 1) x else farK n M p k x))) (fun i => n - i) 0 ?_ ?_ ?_
    · simp [Le, find]
    · exact ⟨by omega, p0, by omega, r1, by simpa using r2⟩
    rintro i h5 ⟨hi, p0, y5, r1, r2⟩
    have p0_z := p0.size
    have r1_l := r1.lt
    have r2_l := r2.lt
    simp -dsimp only [go_sem, ↓reduceIte, reduceCtorEq, Nat.reduceEqDiff, Nat.reduceAdd, Nat.reduceLeDiff, Nat.reduceMul, Int.reduceBEq, Int.reduceBNe, Int.reduceLT, Int.reduceLE, Int.reduceGT, Int.reduceGE, r1.cell, r2.cell]
    refine ⟨fun hlt1 => ?_, fun hge1 => ?_⟩
    · have hlt1 : i < n := by omega
      simp -dsimp only [go_sem, ↓reduceIte, reduceCtorEq, Nat.reduceEqDiff, Nat.reduceAdd, Nat.reduceLeDiff, Nat.reduceMul, Int.reduceBEq, Int.reduceBNe, Int.reduceLT, Int.reduceLE, Int.reduceGT, Int.reduceGE, r1.cell, r2.cell]
      refine loop_intro (fun j : Nat => [(1, .int .i64 p), (2, .pointer (some ⟨b1, 0, none⟩)), (5, .slice (some ⟨b2, 0, none⟩) n n), (7, .int .i64 ((k : Int) + 1)), (8, .int .i64 i), (9, .int .i64 j)])
        (fun j h' => j ≤ n ∧ Fr 0 0 h h' ∧ h2.size ≤ h'.size ∧ Rw h' b1 [.int .i64 n, .slice sa n sc] ∧ Rw h' b2 (ivec n fun x => enc (if x < i then farK n M p (k + 1) x else if x = i then curF n M p k i j else farK n M p k x))) (fun j => n - j) 0 ?_ ?_ ?_
      · simp [Le, find]
      · refine ⟨by omega, p0, by omega, r1, ?_⟩
        rw [ivec_congr fun x hx => ?_]; exact r2
        rw [curF_zero]
        by_cases h : x = i
        · subst h; simp
        · simp [h]
      rintro j h6 ⟨hj, p0, y6, r1, r2⟩
      have p0_z := p0.size
      have r1_l := r1.lt
      have r2_l := r2.lt
      have next : (curF n M p k i j ≠ 0 ∨ j = n) → Rw h6 b2 (ivec n fun x => enc (if x < i + 1 then farK n M p (k + 1) x else farK n M p k x)) := fun hc => by
        rw [ivec_congr fun x hx => ?_]; exact r2
        by_cases h : x = i
        · subst h; rw [if_pos (by omega), if_neg (by omega), if_pos rfl, curF_end hp hc hj]
        · have : (x < i + 1) = (x < i) := by simp; omega
          simp only [this, if_neg h]
      simp -dsimp only [go_sem, ↓reduceIte, reduceCtorEq, Nat.reduceEqDiff, Nat.reduceAdd, Nat.reduceLeDiff, Nat.reduceMul, Int.reduceBEq, Int.reduceBNe, Int.reduceLT, Int.reduceLE, Int.reduceGT, Int.reduceGE, r1.cell, r2.cell]
      refine Chk_intro (by omega) ?_
      have ci : (ivec n fun x => enc (if x < i then farK n M p (k + 1) x else if x = i then curF n M p k i j else farK n M p k x))[i]? = some (.int .i64 (enc (curF n M p k i j))) := by
        rw [ivec_get hlt1, if_neg (by omega), if_pos rfl]
      by_cases hc : curF n M p k i j = 0
      · have e1 : enc (curF n M p k i j) < 0 := by rw [hc]; decide
        simp -dsimp only [go_sem, ↓reduceIte, reduceCtorEq, Nat.reduceEqDiff, Nat.reduceAdd, Nat.reduceLeDiff, Nat.reduceMul, Int.reduceBEq, Int.reduceBNe, Int.reduceLT, Int.reduceLE, Int.reduceGT, Int.reduceGE, ci, e1, decide_true, r1.cell, r2.cell]
        refine ⟨fun hlt2 => ?_, fun hge2 => ?_⟩
        · have hlt2 : j < n := by omega
          have hf0 : farK n M p k i = 0 := by
            unfold curF at hc; split at hc
            · rename_i h; exact absurd hc h
            · rename_i h; omega
          have ha0 : anyC n M p k i j = false := by
            unfold curF at hc; rw [if_neg (by omega)] at hc
            rw [Bool.eq_false_iff]; intro h; rw [if_pos h] at hc; omega
          have stay : (M i j && (if k = 0 then j == p else farK n M p k j == k)) = false → curF n M p k i (j + 1) = curF n M p k i j := fun h => by
            unfold curF; rw [anyC_succ, h, Bool.or_false]
          have found : (M i j && (if k = 0 then j == p else farK n M p k j == k)) = true → curF n M p k i (j + 1) = k + 1 := fun h => by
            unfold curF; rw [anyC_succ, h, Bool.or_true, if_neg (by omega), if_pos rfl]
          have tt := t.fr p0 (by omega)
          have same : curF n M p k i (j + 1) = curF n M p k i j → Rw h6 b2 (ivec n fun x => enc (if x < i then farK n M p (k + 1) x else if x = i then curF n M p k i (j + 1) else farK n M p k x)) := fun h => by rw [h]; exact r2
          have upto : curF n M p k i (j + 1) = k + 1 → ∀ h', Rw h' b2 (ivec n (upd (fun x => enc (if x < i then farK n M p (k + 1) x else if x = i then curF n M p k i j else farK n M p k x)) i ((k : Int) + 1))) → Rw h' b2 (ivec n fun x => enc (if x < i then farK n M p (k + 1) x else if x = i then curF n M p k i (j + 1) else farK n M p k x)) := fun h h' r => by
            rw [ivec_congr fun x hx => ?_]; exact r
            by_cases hxi : x = i
            · subst hxi; rw [upd_same, if_neg (by omega), if_pos rfl, h]; simp [enc]
            · rw [upd_ne _ _ hxi]; simp only [if_neg hxi]
          simp -dsimp only [go_sem, ↓reduceIte, reduceCtorEq, Nat.reduceEqDiff, Nat.reduceAdd, Nat.reduceLeDiff, Nat.reduceMul, Int.reduceBEq, Int.reduceBNe, Int.reduceLT, Int.reduceLE, Int.reduceGT, Int.reduceGE, e1, decide_true, r1.cell, r2.cell]
          refine Chk_intro (by omega) (tt.idx hlt1 fun b7 o7 c7 => ?_)
          simp -dsimp only [go_sem, ↓reduceIte, reduceCtorEq, Nat.reduceEqDiff, Nat.reduceAdd, Nat.reduceLeDiff, Nat.reduceMul, Int.reduceBEq, Int.reduceBNe, Int.reduceLT, Int.reduceLE, Int.reduceGT, Int.reduceGE, c7, r1.cell, r2.cell]
          refine Chk_intro (by omega) ?_
          simp -dsimp only [go_sem, ↓reduceIte, reduceCtorEq, Nat.reduceEqDiff, Nat.reduceAdd, Nat.reduceLeDiff, Nat.reduceMul, Int.reduceBEq, Int.reduceBNe, Int.reduceLT, Int.reduceLE, Int.reduceGT, Int.reduceGE, tt.cell hlt1 hlt2, r1.cell, r2.cell]
          cases hm : M i j with
          | false =>
            simp -dsimp only [go_sem, ↓reduceIte, reduceCtorEq, Nat.reduceEqDiff, Nat.reduceAdd, Nat.reduceLeDiff, Nat.reduceMul, Int.reduceBEq, Int.reduceBNe, Int.reduceLT, Int.reduceLE, Int.reduceGT, Int.reduceGE, r1.cell, r2.cell]
            simp -dsimp (disch := omega) only [wrap64]
            exact ⟨j + 1, by omega, by simp [Le, find], by omega, p0, by omega, r1, same (stay (by simp [hm]))⟩
          | true =>
            rw [hm, Bool.true_and] at stay found
            by_cases hk0 : k = 0
            · have e2 : (((k : Int) + 1) == 1) = true := by simp [hk0]
              have e4 : ¬ ((k : Int) + 1 > 1) := by omega
              rw [if_pos hk0] at stay found
              by_cases hjp : j = p
              · have e3 : ((j : Int) == (p : Int)) = true := by simp [hjp]
                simp -dsimp only [go_sem, ↓reduceIte, reduceCtorEq, Nat.reduceEqDiff, Nat.reduceAdd, Nat.reduceLeDiff, Nat.reduceMul, Int.reduceBEq, Int.reduceBNe, Int.reduceLT, Int.reduceLE, Int.reduceGT, Int.reduceGE, e2, e3, r1.cell, r2.cell]
                refine Chk_intro (by omega) ?_
                simp -dsimp only [go_sem, ↓reduceIte, reduceCtorEq, Nat.reduceEqDiff, Nat.reduceAdd, Nat.reduceLeDiff, Nat.reduceMul, Int.reduceBEq, Int.reduceBNe, Int.reduceLT, Int.reduceLE, Int.reduceGT, Int.reduceGE, e2, e3, r1.cell, r2.cell]
                refine Chk_intro (r2.wr (by first | (simp; done) | (simp; omega))) fun h8 s8 => ?_
                have s8_z := s8.size
                replace p0 := p0.fresh s8.fr (by omega)
                replace r1 := r1.fr s8.fr (by omega)
                replace r2 := s8.row r2
                try simp only [cl_int, cl_bool, cl_slice, cl_ptr, putAt_one, List.set_cons_zero, List.set_cons_succ, ivec_set, brow_upd] at r2
                simp -dsimp only [go_sem, ↓reduceIte, reduceCtorEq, Nat.reduceEqDiff, Nat.reduceAdd, Nat.reduceLeDiff, Nat.reduceMul, Int.reduceBEq, Int.reduceBNe, Int.reduceLT, Int.reduceLE, Int.reduceGT, Int.reduceGE, r1.cell, r2.cell]
                simp -dsimp (disch := omega) only [wrap64]
                exact ⟨j + 1, by omega, by simp [Le, find], by omega, p0, by omega, r1, upto (found (by simp [hjp])) _ r2⟩
              · have e3 : ((j : Int) == (p : Int)) = false := by simp; omega
                simp -dsimp only [go_sem, ↓reduceIte, reduceCtorEq, Nat.reduceEqDiff, Nat.reduceAdd, Nat.reduceLeDiff, Nat.reduceMul, Int.reduceBEq, Int.reduceBNe, Int.reduceLT, Int.reduceLE, Int.reduceGT, Int.reduceGE, e2, e3, e4, decide_false, r1.cell, r2.cell]
                simp -dsimp (disch := omega) only [wrap64]
                exact ⟨j + 1, by omega, by simp [Le, find], by omega, p0, by omega, r1, same (stay (by simp [hjp]))⟩
            · have e2 : (((k : Int) + 1) == 1) = false := by simp; omega
              have e4 : ((k : Int) + 1 > 1) := by omega
              rw [if_neg hk0] at stay found
              have cj : (ivec n fun x => enc (if x < i then farK n M p (k + 1) x else if x = i then curF n M p k i j else farK n M p k x))[j]? = some (.int .i64 (enc (if j < i then farK n M p (k + 1) j else if j = i then curF n M p k i j else farK n M p k j))) := ivec_get hlt2
              have e5 : (enc (if j < i then farK n M p (k + 1) j else if j = i then curF n M p k i j else farK n M p k j) == (k : Int)) = (farK n M p k j == k) := by
                rw [enc_eq hk0, Bool.eq_iff_iff]
                simp only [decide_eq_true_eq, beq_iff_eq]
                by_cases h1 : j < i
                · rw [if_pos h1, farK_eq hk0]
                · rw [if_neg h1]
                  by_cases h2 : j = i
                  · subst h2; rw [if_pos rfl, hc, hf0]
                  · rw [if_neg h2]
              have e6 : IntKind.i64.wrap ((k : Int) + 1 - 1) = (k : Int) := by rw [wrap64 (by omega) (by omega)]; omega
              simp -dsimp only [go_sem, ↓reduceIte, reduceCtorEq, Nat.reduceEqDiff, Nat.reduceAdd, Nat.reduceLeDiff, Nat.reduceMul, Int.reduceBEq, Int.reduceBNe, Int.reduceLT, Int.reduceLE, Int.reduceGT, Int.reduceGE, e2, e4, decide_true, r1.cell, r2.cell]
              refine Chk_intro (by omega) ?_
              cases hfj : (farK n M p k j == k) with
              | true =>
                simp -dsimp only [go_sem, ↓reduceIte, reduceCtorEq, Nat.reduceEqDiff, Nat.reduceAdd, Nat.reduceLeDiff, Nat.reduceMul, Int.reduceBEq, Int.reduceBNe, Int.reduceLT, Int.reduceLE, Int.reduceGT, Int.reduceGE, cj, e6, e5, hfj, e2, e4, decide_true, r1.cell, r2.cell]
                refine Chk_intro (by omega) ?_
                simp -dsimp only [go_sem, ↓reduceIte, reduceCtorEq, Nat.reduceEqDiff, Nat.reduceAdd, Nat.reduceLeDiff, Nat.reduceMul, Int.reduceBEq, Int.reduceBNe, Int.reduceLT, Int.reduceLE, Int.reduceGT, Int.reduceGE, cj, e6, e5, hfj, e2, e4, decide_true, r1.cell, r2.cell]
                refine Chk_intro (r2.wr (by first | (simp; done) | (simp; omega))) fun h8 s8 => ?_
                have s8_z := s8.size
                replace p0 := p0.fresh s8.fr (by omega)
                replace r1 := r1.fr s8.fr (by omega)
                replace r2 := s8.row r2
                try simp only [cl_int, cl_bool, cl_slice, cl_ptr, putAt_one, List.set_cons_zero, List.set_cons_succ, ivec_set, brow_upd] at r2
                simp -dsimp only [go_sem, ↓reduceIte, reduceCtorEq, Nat.reduceEqDiff, Nat.reduceAdd, Nat.reduceLeDiff, Nat.reduceMul, Int.reduceBEq, Int.reduceBNe, Int.reduceLT, Int.reduceLE, Int.reduceGT, Int.reduceGE, r1.cell, r2.cell]
                simp -dsimp (disch := omega) only [wrap64]
                exact ⟨j + 1, by omega, by simp [Le, find], by omega, p0, by omega, r1, upto (found hfj) _ r2⟩
              | false =>
                simp -dsimp only [go_sem, ↓reduceIte, reduceCtorEq, Nat.reduceEqDiff, Nat.reduceAdd, Nat.reduceLeDiff, Nat.reduceMul, Int.reduceBEq, Int.reduceBNe, Int.reduceLT, Int.reduceLE, Int.reduceGT, Int.reduceGE, cj, e6, e5, hfj, e2, e4, decide_true, r1.cell, r2.cell]
                simp -dsimp (disch := omega) only [wrap64]
                exact ⟨j + 1, by omega, by simp [Le, find], by omega, p0, by omega, r1, same (stay hfj)⟩
        · have hjn : j = n := by omega
          simp -dsimp only [go_sem, ↓reduceIte, reduceCtorEq, Nat.reduceEqDiff, Nat.reduceAdd, Nat.reduceLeDiff, Nat.reduceMul, Int.reduceBEq, Int.reduceBNe, Int.reduceLT, Int.reduceLE, Int.reduceGT, Int.reduceGE, e1, decide_true, r1.cell, r2.cell]
          simp -dsimp (disch := omega) only [wrap64]
          exact ⟨i + 1, by omega, by simp [Le, find], by omega, p0, by omega, r1, next (.inr hjn)⟩
      · have e1 : ¬ enc (curF n M p k i j) < 0 := by unfold enc; rw [if_neg hc]; omega
        simp -dsimp only [go_sem, ↓reduceIte, reduceCtorEq, Nat.reduceEqDiff, Nat.reduceAdd, Nat.reduceLeDiff, Nat.reduceMul, Int.reduceBEq, Int.reduceBNe, Int.reduceLT, Int.reduceLE, Int.reduceGT, Int.reduceGE, ci, e1, decide_false, r1.cell, r2.cell]
        simp -dsimp (disch := omega) only [wrap64]
        exact ⟨i + 1, by omega, by simp [Le, find], by omega, p0, by omega, r1, next (.inl hc)⟩
    · have hin : i = n := by omega
      subst hin
      simp -dsimp only [go_sem, ↓reduceIte, reduceCtorEq, Nat.reduceEqDiff, Nat.reduceAdd, Nat.reduceLeDiff, Nat.reduceMul, Int.reduceBEq, Int.reduceBNe, Int.reduceLT, Int.reduceLE, Int.reduceGT, Int.reduceGE, r1.cell, r2.cell]
      simp -dsimp (disch := omega) only [wrap64]
      refine ⟨k + 1, by omega, by simp [Le, find], by omega, p0, by omega, r1, ?_⟩
      rw [ivec_congr fun x hx => ?_]; exact r2
      rw [if_pos hx]
  · have hkn : k = n := by omega
    subst hkn
    simp -dsimp only [go_sem, ↓reduceIte, reduceCtorEq, Nat.reduceEqDiff, Nat.reduceAdd, Nat.reduceLeDiff, Nat.reduceMul, Int.reduceBEq, Int.reduceBNe, Int.reduceLT, Int.reduceLE, Int.reduceGT, Int.reduceGE, r1.cell, r2.cell]
    exact ⟨p0, b2, rfl, r2, by omega⟩
set_option maxHeartbeats 1000000 in
theorem ref1_Cycle {n : Nat} {M : Nat → Nat → Bool} {rv : Value} {lo hi : Nat} {h : Heap} (hr : RefAt h lo hi rv n M) :
    Con Tryd.prog 100 #[rv] h fun v h' => Fr 0 0 h h' ∧ Holder 1 h' v (cycS n M).length (natsV (cycS n M)) h.size := by
  refine con_ref1_Cycle ?_
  have hr0 := hr
  obtain ⟨hn, s, R, rfl, t⟩ := hr
  obtain ⟨sa, sc, rfl⟩ := t.own.is
  have p0 : Fr 0 0 h h := .refl _ _ _
  simp -dsimp only [go_sem, ↓reduceIte, reduceCtorEq, Nat.reduceEqDiff, Nat.reduceAdd, Nat.reduceLeDiff, Nat.reduceMul, Int.reduceBEq, Int.reduceBNe, Int.reduceLT, Int.reduceLE, Int.reduceGT, Int.reduceGE]
  intro b1 h1 n1
  have n1_a := n1.at_
  have n1_z := n1.size
  replace p0 := p0.fresh (n1.fr (lo := 0) (hi := 0)) (by omega)
  have r1 := n1.row
  simp -dsimp only [go_sem, ↓reduceIte, reduceCtorEq, Nat.reduceEqDiff, Nat.reduceAdd, Nat.reduceLeDiff, Nat.reduceMul, Int.reduceBEq, Int.reduceBNe, Int.reduceLT, Int.reduceLE, Int.reduceGT, Int.reduceGE, r1.cell]
  refine call_of (ref1_Plus (hr0.fr p0 (by omega))) ?_
  rintro v h2 ⟨f2, -, cs, cR, rfl, tc⟩
  have f2_z := f2.size
  replace p0 := p0.fresh f2 (by omega)
  replace r1 := r1.fr f2 (by omega)
  obtain ⟨ca, cc, rfl⟩ := tc.own.is
  simp -dsimp only [go_sem, ↓reduceIte, reduceCtorEq, Nat.reduceEqDiff, Nat.reduceAdd, Nat.reduceLeDiff, Nat.reduceMul, Int.reduceBEq, Int.reduceBNe, Int.reduceLT, Int.reduceLE, Int.reduceGT, Int.reduceGE, r1.cell]
  intro b3 h3 n3
  have n3_a := n3.at_
  have n3_z := n3.size
  replace p0 := p0.fresh (n3.fr (lo := 0) (hi := 0)) (by omega)
  replace r1 := r1.fr (n3.fr (lo := 0) (hi := 0)) (by omega)
  replace tc := tc.fr (n3.fr (lo := 0) (hi := 0)) (by omega)
  have r3 := n3.row
  simp -dsimp only [go_sem, ↓reduceIte, reduceCtorEq, Nat.reduceEqDiff, Nat.reduceAdd, Nat.reduceLeDiff, Nat.reduceMul, Int.reduceBEq, Int.reduceBNe, Int.reduceLT, Int.reduceLE, Int.reduceGT, Int.reduceGE, r1.cell, r3.cell]
  refine Chk_intro (r3.wr (by first | (simp; done) | (simp; omega))) fun h4 s4 => ?_
  have s4_z := s4.size
  replace p0 := p0.fresh s4.fr (by omega)
  replace r1 := r1.fr s4.fr (by omega)
  replace tc := tc.fr s4.fr (by omega)
  replace r3 := s4.row r3
  try simp only [cl_int, cl_bool, cl_slice, cl_ptr, putAt_one, List.set_cons_zero, List.set_cons_succ, ivec_set, brow_upd] at r3
  simp -dsimp only [go_sem, ↓reduceIte, reduceCtorEq, Nat.reduceEqDiff, Nat.reduceAdd, Nat.reduceLeDiff, Nat.reduceMul, Int.reduceBEq, Int.reduceBNe, Int.reduceLT, Int.reduceLE, Int.reduceGT, Int.reduceGE] at r3
  simp -dsimp only [go_sem, ↓reduceIte, reduceCtorEq, Nat.reduceEqDiff, Nat.reduceAdd, Nat.reduceLeDiff, Nat.reduceMul, Int.reduceBEq, Int.reduceBNe, Int.reduceLT, Int.reduceLE, Int.reduceGT, Int.reduceGE, r1.cell, r3.cell]
  refine loop_intro (fun p : Nat => [(1, .pointer (some ⟨b1, 0, none⟩)), (3, .pointer (some ⟨b3, 0, none⟩)), (4, .int .i64 p)])
    (fun p h' => p ≤ n ∧ h' = h4 ∧ lf (fun p => plusM n M p p) n 0 = lf (fun p => plusM n M p p) n p) (fun p => n - p) 0 ?_ ?_ ?_
  · simp [Le, find]
  · exact ⟨by omega, rfl, rfl⟩
  rintro p h5 ⟨hp, hh, hlf⟩
  obtain rfl : h4 = h5 := hh.symm
  simp -dsimp only [go_sem, ↓reduceIte, reduceCtorEq, Nat.reduceEqDiff, Nat.reduceAdd, Nat.reduceLeDiff, Nat.reduceMul, Int.reduceBEq, Int.reduceBNe, Int.reduceLT, Int.reduceLE, Int.reduceGT, Int.reduceGE, r1.cell, r3.cell]
  refine ⟨fun hlt => ?_, fun hge => ?_⟩
  · have hlt : p < n := by omega
    have hst := lf_step (fun p => plusM n M p p) hlt
    simp -dsimp only [go_sem, ↓reduceIte, reduceCtorEq, Nat.reduceEqDiff, Nat.reduceAdd, Nat.reduceLeDiff, Nat.reduceMul, Int.reduceBEq, Int.reduceBNe, Int.reduceLT, Int.reduceLE, Int.reduceGT, Int.reduceGE, r1.cell, r3.cell]
    refine Chk_intro (by omega) (tc.idx hlt fun b6 o6 c6 => ?_)
    simp -dsimp only [go_sem, ↓reduceIte, reduceCtorEq, Nat.reduceEqDiff, Nat.reduceAdd, Nat.reduceLeDiff, Nat.reduceMul, Int.reduceBEq, Int.reduceBNe, Int.reduceLT, Int.reduceLE, Int.reduceGT, Int.reduceGE, c6, r1.cell, r3.cell]
    refine Chk_intro (by omega) ?_
    simp -dsimp only [go_sem, ↓reduceIte, reduceCtorEq, Nat.reduceEqDiff, Nat.reduceAdd, Nat.reduceLeDiff, Nat.reduceMul, Int.reduceBEq, Int.reduceBNe, Int.reduceLT, Int.reduceLE, Int.reduceGT, Int.reduceGE, tc.cell hlt hlt, r1.cell, r3.cell]
    cases hpp : plusM n M p p with
    | false =>
      simp -dsimp only [go_sem, ↓reduceIte, reduceCtorEq, Nat.reduceEqDiff, Nat.reduceAdd, Nat.reduceLeDiff, Nat.reduceMul, Int.reduceBEq, Int.reduceBNe, Int.reduceLT, Int.reduceLE, Int.reduceGT, Int.reduceGE, r1.cell, r3.cell]
      simp -dsimp (disch := omega) only [wrap64]
      exact ⟨p + 1, by omega, by simp [Le, find], by omega, by rw [hlf, hst, hpp]; rfl⟩
    | true =>
      have hcy : cycS n M = shortS n M p := by unfold cycS; rw [hlf, hst, if_pos hpp]
      rw [hcy]
      have hF0 := plus_far hlt hlt hpp
      have hFl := farS_le (M := M) (p := p) (n := n) p
      have hsl := shortS_len (n := n) (M := M) (p := p)
      simp -dsimp only [go_sem, ↓reduceIte, reduceCtorEq, Nat.reduceEqDiff, Nat.reduceAdd, Nat.reduceLeDiff, Nat.reduceMul, Int.reduceBEq, Int.reduceBNe, Int.reduceLT, Int.reduceLE, Int.reduceGT, Int.reduceGE, r1.cell, r3.cell]
      refine call_of (ref1_far (hr0.fr p0 (by omega)) hlt) ?_
      rintro v h7 ⟨f7, bF, rfl, rF, kF⟩
      have f7_z := f7.size
      replace p0 := p0.fresh f7 (by omega)
      replace r1 := r1.fr f7 (by omega)
      replace tc := tc.fr f7 (by omega)
      replace r3 := r3.fr f7 (by omega)
      have k8 : b1 < h7.size ∧ bF < h7.size := ⟨r1.lt, rF.lt⟩
      simp -dsimp only [go_sem, ↓reduceIte, reduceCtorEq, Nat.reduceEqDiff, Nat.reduceAdd, Nat.reduceLeDiff, Nat.reduceMul, Int.reduceBEq, Int.reduceBNe, Int.reduceLT, Int.reduceLE, Int.reduceGT, Int.reduceGE, r1.cell, r3.cell, rF.cell]
      intro b8 h8 n8
      have n8_a := n8.at_
      have n8_z := n8.size
      replace p0 := p0.fresh (n8.fr (lo := 0) (hi := 0)) (by omega)
      replace r1 := r1.fr (n8.fr (lo := 0) (hi := 0)) (by omega)
      replace tc := tc.fr (n8.fr (lo := 0) (hi := 0)) (by omega)
      replace r3 := r3.fr (n8.fr (lo := 0) (hi := 0)) (by omega)
      replace rF := rF.fr (n8.fr (lo := 0) (hi := 0)) (by omega)
      have r8 := n8.row
      simp -dsimp only [go_sem, ↓reduceIte, reduceCtorEq, Nat.reduceEqDiff, Nat.reduceAdd, Nat.reduceLeDiff, Nat.reduceMul, Int.reduceBEq, Int.reduceBNe, Int.reduceLT, Int.reduceLE, Int.reduceGT, Int.reduceGE, r1.cell, r3.cell, rF.cell, r8.cell]
      refine Chk_intro (by omega) ?_
      have hF : ∃ F, F = farS n M p := ⟨_, rfl⟩
      obtain ⟨F, hF⟩ := hF
      have step : ∀ a k, F a = k + 1 + 1 → ∃ q, lf (fun q => M a q && F q == k + 1) n 0 = some q := fun a k h => by
        rw [hF] at h ⊢
        obtain ⟨j, hj, hM, hf⟩ := (farS_step h).2 (by omega)
        cases hl : lf (fun q => M a q && farS n M p q == k + 1) n 0 with
        | none =>
          have := lf_none hl j (by omega) hj
          simp [hM, hf] at this
        | some q => exact ⟨q, rfl⟩
      have hsh : shortS n M p = p :: cycGo n M F (F p - 1) p := by rw [hF]; rfl
      rw [← hF] at rF hF0 hFl
      rw [hsh] at hsl ⊢
      have eF : enc (F p) = (F p : Int) := by unfold enc; rw [if_neg hF0]
      have eF1 : IntKind.i64.wrap ((F p : Int) - 1) = ((F p - 1 : Nat) : Int) := by rw [wrap64 (by omega) (by omega)]; omega
      simp -dsimp only [go_sem, ↓reduceIte, reduceCtorEq, Nat.reduceEqDiff, Nat.reduceAdd, Nat.reduceLeDiff, Nat.reduceMul, Int.reduceBEq, Int.reduceBNe, Int.reduceLT, Int.reduceLE, Int.reduceGT, Int.reduceGE, ivec_get hlt, eF, eF1, r1.cell, r3.cell, rF.cell, r8.cell]
      have oo : Holder 1 h8 (.slice (some ⟨b8, 0, none⟩) 1 1) ([p] : List Nat).length (natsV [p]) h7.size := ⟨rfl, .inr ⟨b8, 1, [], rfl, r8, rfl, by omega⟩⟩
      refine loop_intro (fun s : Nat × Nat × Value => [(1, .pointer (some ⟨b1, 0, none⟩)), (5, .slice (some ⟨bF, 0, none⟩) n n), (6, s.2.2), (7, .int .i64 s.2.1), (8, .int .i64 s.1)])
        (fun s h' => Fr 0 0 h h' ∧ h8.size ≤ h'.size ∧ Rw h' b1 [.int .i64 n, .slice sa n sc] ∧ Rw h' bF (ivec n fun i => enc (F i)) ∧ s.2.1 < n ∧ F s.2.1 = s.1 + 1 ∧ ∃ out : List Nat, Holder 1 h' s.2.2 out.length (natsV out) h7.size ∧ out ++ cycGo n M F s.1 s.2.1 = p :: cycGo n M F (F p - 1) p) (fun s => s.1) (F p - 1, p, .slice (some ⟨b8, 0, none⟩) 1 1) ?_ ?_ ?_
      · simp [Le, find]
      · exact ⟨p0, by omega, r1, rF, hlt, by dsimp only; omega, [p], oo, rfl⟩
      clear oo
      rintro ⟨k, a, ov⟩ h9 ⟨p0, y9, r1, rF, ha, hFa, out, oo, hout⟩
      dsimp only at ha hFa oo hout ⊢
      have p0_z := p0.size
      have r1_l := r1.lt
      have rF_l := rF.lt
      have oo_l := oo.top
      obtain ⟨va, vc, rfl⟩ := oo.is
      have hFa_le : F a ≤ n := by rw [hF]; exact farS_le a
      have hol : out.length ≤ n + 1 := by
        have := congrArg List.length hout
        rw [List.length_append] at this; omega
      simp -dsimp only [go_sem, ↓reduceIte, reduceCtorEq, Nat.reduceEqDiff, Nat.reduceAdd, Nat.reduceLeDiff, Nat.reduceMul, Int.reduceBEq, Int.reduceBNe, Int.reduceLT, Int.reduceLE, Int.reduceGT, Int.reduceGE, r1.cell, rF.cell]
      refine ⟨fun hk => ?_, fun hk => ?_⟩
      · obtain ⟨k, rfl⟩ : ∃ x, k = x + 1 := ⟨k - 1, by omega⟩
        obtain ⟨q, hq⟩ := step a k hFa
        obtain ⟨-, hqn, hqf⟩ := lf_some hq
        simp only [Bool.and_eq_true, beq_iff_eq] at hqf
        simp -dsimp only [go_sem, ↓reduceIte, reduceCtorEq, Nat.reduceEqDiff, Nat.reduceAdd, Nat.reduceLeDiff, Nat.reduceMul, Int.reduceBEq, Int.reduceBNe, Int.reduceLT, Int.reduceLE, Int.reduceGT, Int.reduceGE, r1.cell, rF.cell]
        rw [wrap64 (by omega) (by omega)]
        refine loop_intro (fun z : Nat => [(1, .pointer (some ⟨b1, 0, none⟩)), (5, .slice (some ⟨bF, 0, none⟩) n n), (6, .slice va out.length vc), (7, .int .i64 a), (8, .int .i64 (k + 1 : Nat)), (9, .int .i64 (nx (lf (fun q => M a q && F q == k + 1) n z))), (10, .int .i64 ((z : Int) - 1))])
          (fun z h' => z ≤ n ∧ h' = h9) (fun z => z) n ?_ ?_ ?_
        · simp [Le, find, lf_end, nx]
        · exact ⟨by omega, rfl⟩
        rintro z h10 ⟨hz, hh⟩
        obtain rfl : h9 = h10 := hh.symm
        simp -dsimp only [go_sem, ↓reduceIte, reduceCtorEq, Nat.reduceEqDiff, Nat.reduceAdd, Nat.reduceLeDiff, Nat.reduceMul, Int.reduceBEq, Int.reduceBNe, Int.reduceLT, Int.reduceLE, Int.reduceGT, Int.reduceGE, r1.cell, rF.cell]
        refine ⟨fun hz0 => ?_, fun hz0 => ?_⟩
        · obtain ⟨x, rfl⟩ : ∃ x, z = x + 1 := ⟨z - 1, by omega⟩
          have hst2 := lf_step (fun q => M a q && F q == k + 1) (show x < n by omega)
          have ex : ((x + 1 : Nat) : Int) - 1 = (x : Int) := by omega
          have tt := t.fr p0 (by omega)
          simp -dsimp only [go_sem, ↓reduceIte, reduceCtorEq, Nat.reduceEqDiff, Nat.reduceAdd, Nat.reduceLeDiff, Nat.reduceMul, Int.reduceBEq, Int.reduceBNe, Int.reduceLT, Int.reduceLE, Int.reduceGT, Int.reduceGE, ex, r1.cell, rF.cell]
          refine Chk_intro (by omega) (tt.idx ha fun b11 o11 c11 => ?_)
          simp -dsimp only [go_sem, ↓reduceIte, reduceCtorEq, Nat.reduceEqDiff, Nat.reduceAdd, Nat.reduceLeDiff, Nat.reduceMul, Int.reduceBEq, Int.reduceBNe, Int.reduceLT, Int.reduceLE, Int.reduceGT, Int.reduceGE, c11, ex, r1.cell, rF.cell]
          refine Chk_intro (by omega) ?_
          simp -dsimp only [go_sem, ↓reduceIte, reduceCtorEq, Nat.reduceEqDiff, Nat.reduceAdd, Nat.reduceLeDiff, Nat.reduceMul, Int.reduceBEq, Int.reduceBNe, Int.reduceLT, Int.reduceLE, Int.reduceGT, Int.reduceGE, tt.cell ha (show x < n by omega), ex, r1.cell, rF.cell]
          cases hm : M a x with
          | false =>
            simp -dsimp only [go_sem, ↓reduceIte, reduceCtorEq, Nat.reduceEqDiff, Nat.reduceAdd, Nat.reduceLeDiff, Nat.reduceMul, Int.reduceBEq, Int.reduceBNe, Int.reduceLT, Int.reduceLE, Int.reduceGT, Int.reduceGE, ex, r1.cell, rF.cell]
            simp -dsimp (disch := omega) only [wrap64]
            exact ⟨x, by omega, by simp [Le, find, hst2, hm, nx], by omega⟩
          | true =>
            simp -dsimp only [go_sem, ↓reduceIte, reduceCtorEq, Nat.reduceEqDiff, Nat.reduceAdd, Nat.reduceLeDiff, Nat.reduceMul, Int.reduceBEq, Int.reduceBNe, Int.reduceLT, Int.reduceLE, Int.reduceGT, Int.reduceGE, ex, r1.cell, rF.cell]
            refine Chk_intro (by omega) ?_
            have e5 : (enc (F x) == ((k + 1 : Nat) : Int)) = decide (F x = k + 1) := enc_eq (by omega)
            by_cases hfx : F x = k + 1
            · rw [decide_eq_true hfx] at e5
              simp -dsimp only [go_sem, ↓reduceIte, reduceCtorEq, Nat.reduceEqDiff, Nat.reduceAdd, Nat.reduceLeDiff, Nat.reduceMul, Int.reduceBEq, Int.reduceBNe, Int.reduceLT, Int.reduceLE, Int.reduceGT, Int.reduceGE, ivec_get (show x < n by omega), ex, e5, r1.cell, rF.cell]
              simp -dsimp (disch := omega) only [wrap64]
              exact ⟨x, by omega, by simp [Le, find, hst2, hm, hfx, nx], by omega⟩
            · rw [decide_eq_false hfx] at e5
              simp -dsimp only [go_sem, ↓reduceIte, reduceCtorEq, Nat.reduceEqDiff, Nat.reduceAdd, Nat.reduceLeDiff, Nat.reduceMul, Int.reduceBEq, Int.reduceBNe, Int.reduceLT, Int.reduceLE, Int.reduceGT, Int.reduceGE, ivec_get (show x < n by omega), ex, e5, r1.cell, rF.cell]
              simp -dsimp (disch := omega) only [wrap64]
              exact ⟨x, by omega, by simp [Le, find, hst2, hm, hfx, nx], by omega⟩
        · have hz : z = 0 := by omega
          subst hz
          simp only [cycGo, hq] at hout
          simp -dsimp only [go_sem, ↓reduceIte, reduceCtorEq, Nat.reduceEqDiff, Nat.reduceAdd, Nat.reduceLeDiff, Nat.reduceMul, Int.reduceBEq, Int.reduceBNe, Int.reduceLT, Int.reduceLE, Int.reduceGT, Int.reduceGE, hq, nx_some, r1.cell, rF.cell]
          intro b12 h12 n12
          have n12_a := n12.at_
          have n12_z := n12.size
          replace p0 := p0.fresh (n12.fr (lo := 0) (hi := 0)) (by omega)
          replace r1 := r1.fr (n12.fr (lo := 0) (hi := 0)) (by omega)
          replace rF := rF.fr (n12.fr (lo := 0) (hi := 0)) (by omega)
          replace oo := oo.fr (n12.fr (lo := 0) (hi := 0)) (by have := oo.at_; omega)
          have r12 := n12.row
          simp -dsimp only [go_sem, ↓reduceIte, reduceCtorEq, Nat.reduceEqDiff, Nat.reduceAdd, Nat.reduceLeDiff, Nat.reduceMul, Int.reduceBEq, Int.reduceBNe, Int.reduceLT, Int.reduceLE, Int.reduceGT, Int.reduceGE, hq, nx_some, r1.cell, rF.cell, r12.cell]
          refine oo.append (by omega) rfl (by omega) (by simp) (by omega) fun v13 h13 o_new f13 e_app => ?_
          have f13_z := f13.size
          have o_at := oo.at_
          replace p0 := p0.fresh f13 (by omega)
          replace r1 := r1.fr f13 (by omega)
          replace rF := rF.fr f13 (by omega)
          replace r12 := r12.fr f13 (by omega)
          clear o_at e_app
          replace oo := o_new
          have oo_l := oo.top
          simp -dsimp only [go_sem, ↓reduceIte, reduceCtorEq, Nat.reduceEqDiff, Nat.reduceAdd, Nat.reduceLeDiff, Nat.reduceMul, Int.reduceBEq, Int.reduceBNe, Int.reduceLT, Int.reduceLE, Int.reduceGT, Int.reduceGE, r1.cell, rF.cell, r12.cell]
          have ek : IntKind.i64.wrap (((k + 1 : Nat) : Int) - 1) = (k : Int) := by rw [wrap64 (by omega) (by omega)]; omega
          rw [ek]
          exact ⟨(k, q, v13), by dsimp only; omega, by simp [Le, find, hq, nx], p0, by omega, r1, rF, hqn, hqf.2, out ++ [q], by dsimp only; rw [natsV_append, List.length_append]; exact oo, by dsimp only; rw [List.append_assoc]; exact hout⟩
      · have hk : k = 0 := by omega
        subst hk
        simp only [cycGo, List.append_nil] at hout
        have hl : out.length = (cycGo n M F (F p - 1) p).length + 1 := by rw [hout]; rfl
        simp -dsimp only [go_sem, ↓reduceIte, reduceCtorEq, Nat.reduceEqDiff, Nat.reduceAdd, Nat.reduceLeDiff, Nat.reduceMul, Int.reduceBEq, Int.reduceBNe, Int.reduceLT, Int.reduceLE, Int.reduceGT, Int.reduceGE, r1.cell, rF.cell]
        rw [← hl, ← hout]
        exact ⟨p0, oo.lower (by omega)⟩
  · have hpn : p = n := by omega
    subst hpn
    rw [lf_end _ (Nat.le_refl _)] at hlf
    have hcy : cycS p M = [] := by unfold cycS; rw [hlf]
    rw [hcy]
    simp -dsimp only [go_sem, ↓reduceIte, reduceCtorEq, Nat.reduceEqDiff, Nat.reduceAdd, Nat.reduceLeDiff, Nat.reduceMul, Int.reduceBEq, Int.reduceBNe, Int.reduceLT, Int.reduceLE, Int.reduceGT, Int.reduceGE, r1.cell, r3.cell]
    exact ⟨p0, .none _ _ _⟩
end Go.Proofs.Tst
/-
  The document's own Pairs.
-/
namespace Go.Proofs.Tst
open Go Go.Vc
def upto (f : Nat → Bool) (i j : Nat) : List (Int × Int) := ((List.range j).filter f).map fun (b : Nat) => ((i : Int), (b : Int))
theorem upto_zero {f : Nat → Bool} {i : Nat} : upto f i 0 = [] := rfl
theorem upto_succ {f : Nat → Bool} {i j : Nat} : upto f i (j + 1) = if f j = true then upto f i j ++ [((i : Int), (j : Int))] else upto f i j := by
  unfold upto
  rw [List.range_succ, List.filter_append, List.map_append]
  by_cases h : f j = true <;> simp [h]
theorem upto_len {f : Nat → Bool} {i j : Nat} : (upto f i j).length ≤ j := by
  unfold upto; rw [List.length_map]; exact Nat.le_trans (List.length_filter_le _ _) (by simp)
theorem upto_end {f : Nat → Bool} {i n : Nat} : upto f i n = (rest f n 0).map fun (b : Nat) => ((i : Int), (b : Int)) := by
  unfold upto rest; rw [Nat.sub_zero, List.range_eq_range']
theorem ref1_Pairs {n : Nat} {M : Nat → Nat → Bool} {rv : Value} {lo hi : Nat} {h : Heap} (hr : RefAt h lo hi rv n M) :
    Con Tryd.prog 54 #[rv] h fun v h' => Fr 0 0 h h' ∧ Holder 2 h' v (pairsOf n M).length (pairsV (pairsOf n M)) h.size := by
  refine con_ref1_Pairs ?_
  obtain ⟨hn, s, R, rfl, t⟩ := hr
  obtain ⟨sa, sc, rfl⟩ := t.own.is
  have p0 : Fr 0 0 h h := .refl _ _ _
  simp -dsimp only [go_sem, ↓reduceIte, reduceCtorEq, Nat.reduceEqDiff, Nat.reduceAdd, Nat.reduceLeDiff, Nat.reduceMul, Int.reduceBEq, Int.reduceBNe, Int.reduceLT, Int.reduceLE, Int.reduceGT, Int.reduceGE]
  intro b1 h1 n1
  have n1_a := n1.at_
  have n1_z := n1.size
  replace p0 := p0.fresh (n1.fr (lo := 0) (hi := 0)) (by omega)
  have r1 := n1.row
  simp -dsimp only [go_sem, ↓reduceIte, reduceCtorEq, Nat.reduceEqDiff, Nat.reduceAdd, Nat.reduceLeDiff, Nat.reduceMul, Int.reduceBEq, Int.reduceBNe, Int.reduceLT, Int.reduceLE, Int.reduceGT, Int.reduceGE, r1.cell]
  refine loop_intro (fun s : Nat × Value => [(1, .pointer (some ⟨b1, 0, none⟩)), (3, s.2), (4, .int .i64 s.1)])
    (fun s h' => s.1 ≤ n ∧ Fr 0 0 h h' ∧ h1.size ≤ h'.size ∧ Rw h' b1 [.int .i64 n, .slice sa n sc] ∧ Holder 2 h' s.2 (pairsTo n M s.1).length (pairsV (pairsTo n M s.1)) h1.size) (fun s => n - s.1) (0, .slice none 0 0) ?_ ?_ ?_
  · simp [Le, find]
  · exact ⟨by omega, p0, by omega, r1, .none _ _ _⟩
  rintro ⟨i, ov⟩ h2 ⟨hi, p0, y2, r1, oo⟩
  dsimp only at hi oo ⊢
  have p0_z := p0.size
  have r1_l := r1.lt
  have oo_l := oo.top
  simp -dsimp only [go_sem, ↓reduceIte, reduceCtorEq, Nat.reduceEqDiff, Nat.reduceAdd, Nat.reduceLeDiff, Nat.reduceMul, Int.reduceBEq, Int.reduceBNe, Int.reduceLT, Int.reduceLE, Int.reduceGT, Int.reduceGE, r1.cell]
  refine ⟨fun hlt => ?_, fun hge => ?_⟩
  · have hlt : i < n := by omega
    have g4 := length_pairsTo_le n M i
    have g3 : i * n ≤ 256 * 256 := Nat.mul_le_mul (by omega) (by omega)
    have k1 : b1 < h1.size := by omega
    simp -dsimp only [go_sem, ↓reduceIte, reduceCtorEq, Nat.reduceEqDiff, Nat.reduceAdd, Nat.reduceLeDiff, Nat.reduceMul, Int.reduceBEq, Int.reduceBNe, Int.reduceLT, Int.reduceLE, Int.reduceGT, Int.reduceGE, r1.cell]
    refine loop_intro (fun s : Nat × Value => [(1, .pointer (some ⟨b1, 0, none⟩)), (3, s.2), (4, .int .i64 i), (5, .int .i64 s.1)])
      (fun s h' => s.1 ≤ n ∧ Fr 0 0 h h' ∧ h1.size ≤ h'.size ∧ Rw h' b1 [.int .i64 n, .slice sa n sc] ∧ Holder 2 h' s.2 (pairsTo n M i ++ upto (M i) i s.1).length (pairsV (pairsTo n M i ++ upto (M i) i s.1)) h1.size) (fun s => n - s.1) (0, ov) ?_ ?_ ?_
    · simp [Le, find]
    · exact ⟨by omega, p0, by omega, r1, by simpa [upto_zero] using oo⟩
    rintro ⟨j, ov⟩ h3 ⟨hj, p0, y3, r1, oo⟩
    dsimp only at hj oo ⊢
    have p0_z := p0.size
    have r1_l := r1.lt
    have oo_l := oo.top
    have hul := upto_len (f := M i) (i := i) (j := j)
    have hal : (pairsTo n M i ++ upto (M i) i j).length = (pairsTo n M i).length + (upto (M i) i j).length := List.length_append
    obtain ⟨oa, oc, rfl⟩ := oo.is
    simp -dsimp only [go_sem, ↓reduceIte, reduceCtorEq, Nat.reduceEqDiff, Nat.reduceAdd, Nat.reduceLeDiff, Nat.reduceMul, Int.reduceBEq, Int.reduceBNe, Int.reduceLT, Int.reduceLE, Int.reduceGT, Int.reduceGE, r1.cell]
    refine ⟨fun hlt2 => ?_, fun hge2 => ?_⟩
    · have hlt2 : j < n := by omega
      have t := t.fr p0 (by omega)
      simp -dsimp only [go_sem, ↓reduceIte, reduceCtorEq, Nat.reduceEqDiff, Nat.reduceAdd, Nat.reduceLeDiff, Nat.reduceMul, Int.reduceBEq, Int.reduceBNe, Int.reduceLT, Int.reduceLE, Int.reduceGT, Int.reduceGE, r1.cell]
      refine Chk_intro (by omega) (t.idx hlt fun b4 o4 c4 => ?_)
      simp -dsimp only [go_sem, ↓reduceIte, reduceCtorEq, Nat.reduceEqDiff, Nat.reduceAdd, Nat.reduceLeDiff, Nat.reduceMul, Int.reduceBEq, Int.reduceBNe, Int.reduceLT, Int.reduceLE, Int.reduceGT, Int.reduceGE, c4, r1.cell]
      refine Chk_intro (by omega) ?_
      simp -dsimp only [go_sem, ↓reduceIte, reduceCtorEq, Nat.reduceEqDiff, Nat.reduceAdd, Nat.reduceLeDiff, Nat.reduceMul, Int.reduceBEq, Int.reduceBNe, Int.reduceLT, Int.reduceLE, Int.reduceGT, Int.reduceGE, t.cell hlt hlt2, r1.cell]
      cases hm : M i j with
      | false =>
        have eu : upto (M i) i (j + 1) = upto (M i) i j := by rw [upto_succ, if_neg (by simp [hm])]
        simp -dsimp only [go_sem, ↓reduceIte, reduceCtorEq, Nat.reduceEqDiff, Nat.reduceAdd, Nat.reduceLeDiff, Nat.reduceMul, Int.reduceBEq, Int.reduceBNe, Int.reduceLT, Int.reduceLE, Int.reduceGT, Int.reduceGE, r1.cell]
        simp -dsimp (disch := omega) only [wrap64]
        exact ⟨(j + 1, .slice oa (pairsTo n M i ++ upto (M i) i j).length oc), by first | omega | (dsimp only; omega), by simp [Le, find], by first | omega | (dsimp only; omega), p0, by omega, r1, by dsimp only; rw [eu]; exact oo⟩
      | true =>
        have eu : upto (M i) i (j + 1) = upto (M i) i j ++ [((i : Int), (j : Int))] := by rw [upto_succ, if_pos hm]
        simp -dsimp only [go_sem, ↓reduceIte, reduceCtorEq, Nat.reduceEqDiff, Nat.reduceAdd, Nat.reduceLeDiff, Nat.reduceMul, Int.reduceBEq, Int.reduceBNe, Int.reduceLT, Int.reduceLE, Int.reduceGT, Int.reduceGE, r1.cell]
        intro b5 h5 n5
        have n5_a := n5.at_
        have n5_z := n5.size
        replace p0 := p0.fresh (n5.fr (lo := 0) (hi := 0)) (by omega)
        replace r1 := r1.fr (n5.fr (lo := 0) (hi := 0)) (by omega)
        replace oo := oo.fr (n5.fr (lo := 0) (hi := 0)) (by have := oo.at_; omega)
        have r5 := n5.row
        simp -dsimp only [go_sem, ↓reduceIte, reduceCtorEq, Nat.reduceEqDiff, Nat.reduceAdd, Nat.reduceLeDiff, Nat.reduceMul, Int.reduceBEq, Int.reduceBNe, Int.reduceLT, Int.reduceLE, Int.reduceGT, Int.reduceGE, r1.cell, r5.cell]
        refine oo.append (by omega) rfl (by omega) (by simp) (by omega) fun v6 h6 o_new f6 e_app => ?_
        have f6_z := f6.size
        have o_at := oo.at_
        replace p0 := p0.fresh f6 (by omega)
        replace r1 := r1.fr f6 (by omega)
        replace r5 := r5.fr f6 (by omega)
        clear o_at e_app
        replace oo := o_new
        have oo_l := oo.top
        simp -dsimp only [go_sem, ↓reduceIte, reduceCtorEq, Nat.reduceEqDiff, Nat.reduceAdd, Nat.reduceLeDiff, Nat.reduceMul, Int.reduceBEq, Int.reduceBNe, Int.reduceLT, Int.reduceLE, Int.reduceGT, Int.reduceGE, r1.cell, r5.cell]
        simp -dsimp (disch := omega) only [wrap64]
        exact ⟨(j + 1, v6), by first | omega | (dsimp only; omega), by simp [Le, find], by first | omega | (dsimp only; omega), p0, by omega, r1, by dsimp only; rw [eu, ← List.append_assoc, pairsV_append, List.length_append]; exact oo⟩
    · have hjn : j = n := by omega
      subst hjn
      have eu : pairsTo j M i ++ upto (M i) i j = pairsTo j M (i + 1) := by rw [pairsTo_succ, upto_end]
      rw [eu] at oo ⊢
      simp -dsimp only [go_sem, ↓reduceIte, reduceCtorEq, Nat.reduceEqDiff, Nat.reduceAdd, Nat.reduceLeDiff, Nat.reduceMul, Int.reduceBEq, Int.reduceBNe, Int.reduceLT, Int.reduceLE, Int.reduceGT, Int.reduceGE, r1.cell]
      simp -dsimp (disch := omega) only [wrap64]
      exact ⟨(i + 1, .slice oa (pairsTo j M (i + 1)).length oc), by first | omega | (dsimp only; omega), by simp [Le, find], by first | omega | (dsimp only; omega), p0, by omega, r1, oo⟩
  · have hin : i = n := by omega
    subst hin
    simp -dsimp only [go_sem, ↓reduceIte, reduceCtorEq, Nat.reduceEqDiff, Nat.reduceAdd, Nat.reduceLeDiff, Nat.reduceMul, Int.reduceBEq, Int.reduceBNe, Int.reduceLT, Int.reduceLE, Int.reduceGT, Int.reduceGE, r1.cell]
    exact ⟨p0, oo.lower (by omega)⟩
end Go.Proofs.Tst
/-
  Lists of lists in memory: a slice of slices, each owned, none in the block of the slice itself.
-/
namespace Go.Vc
open Go
/-- Two slices' blocks are apart. -/
def Off (v w : Value) : Prop := bh v = 0 ∨ bh w = 0 ∨ bl v ≠ bl w
theorem Off.symm {v w : Value} (h : Off v w) : Off w v := by unfold Off at *; omega
theorem bh_bl (v : Value) : (bh v = 0 ∧ bl v = 0) ∨ bh v = bl v + 1 := by unfold bh bl; split <;> simp
structure LL (h : Heap) (v : Value) (vs : List Value) (L : List (List Value)) (lo : Nat) : Prop where
  own : Holder 1 h v L.length vs lo
  at_ : ∀ (i : Nat) (w : Value) (l : List Value), vs[i]? = some w → L[i]? = some l → Holder 1 h w l.length l lo
  off : ∀ w, w ∈ vs → Off w v
theorem LL.len {h : Heap} {v : Value} {vs : List Value} {L : List (List Value)} {lo : Nat} (t : LL h v vs L lo) : vs.length = L.length := by
  have := t.own.1; omega
theorem LL.get {h : Heap} {v : Value} {vs : List Value} {L : List (List Value)} {lo : Nat} (t : LL h v vs L lo) {w : Value} (hw : w ∈ vs) : ∃ (i : Nat) (l : List Value), vs[i]? = some w ∧ L[i]? = some l ∧ Holder 1 h w l.length l lo := by
  obtain ⟨i, hi, rfl⟩ := List.mem_iff_getElem.1 hw
  have hl : i < L.length := by rw [← t.len]; exact hi
  have h1 : vs[i]? = some vs[i] := List.getElem?_eq_getElem hi
  have h2 : L[i]? = some L[i] := List.getElem?_eq_getElem hl
  exact ⟨i, _, h1, h2, t.at_ i _ _ h1 h2⟩
theorem LL.nil {h : Heap} {lo : Nat} : LL h (.slice none 0 0) [] [] lo :=
  ⟨.none _ _ _, fun _ _ _ h => by simp at h, fun _ h => by simp at h⟩
theorem LL.lower {h : Heap} {v : Value} {vs : List Value} {L : List (List Value)} {lo lo' : Nat} (t : LL h v vs L lo) (hl : lo' ≤ lo) : LL h v vs L lo' :=
  ⟨t.own.lower hl, fun i w l h1 h2 => (t.at_ i w l h1 h2).lower hl, t.off⟩
/-- All of it lies outside. -/
def Away (l r : Nat) (v : Value) (vs : List Value) : Prop := ∀ w, w = v ∨ w ∈ vs → bh w ≤ l ∨ r ≤ bl w ∨ r ≤ l
theorem LL.fr {h h' : Heap} {v : Value} {vs : List Value} {L : List (List Value)} {lo l r : Nat} (t : LL h v vs L lo) (f : Fr l r h h') (ha : Away l r v vs) : LL h' v vs L lo :=
  ⟨t.own.fr f (ha v (.inl rfl)), fun i w x h1 h2 => (t.at_ i w x h1 h2).fr f (ha w (.inr (List.mem_of_getElem? h1))), t.off⟩
theorem Away.none {v : Value} {vs : List Value} {l r : Nat} (h : r ≤ l) : Away l r v vs := fun _ _ => .inr (.inr h)
/-- What lies below, or is new, is away from what is owned. -/
theorem LL.below {h : Heap} {v : Value} {vs : List Value} {L : List (List Value)} {lo l r : Nat} (t : LL h v vs L lo) (hr : r ≤ lo) : Away l r v vs := fun w hw => by
  rcases hw with rfl | hw
  · have := t.own.at_; omega
  · obtain ⟨i, x, -, -, o⟩ := t.get hw
    have := o.at_; omega
theorem LL.top {h : Heap} {v : Value} {vs : List Value} {L : List (List Value)} {lo : Nat} (t : LL h v vs L lo) : ∀ w, w = v ∨ w ∈ vs → bh w ≤ h.size := fun w hw => by
  rcases hw with rfl | hw
  · exact t.own.top
  · obtain ⟨i, x, -, -, o⟩ := t.get hw; exact o.top
/-- A slice's own block is apart from another's. -/
theorem Off.away {v w : Value} (h : Off w v) : bh w ≤ bl v ∨ bh v ≤ bl w ∨ bh v ≤ bl v := by
  have := bh_bl v; have := bh_bl w; unfold Off at h; omega
/-- What was apart from it is apart from what it has grown to. -/
theorem Off.app {h h' : Heap} {v v' w : Value} {lo n : Nat} {xs : List Value} (hx : Off w v) (ht : bh w ≤ h.size) (h0 : 0 < lo) (o : Holder 1 h' v' n xs lo)
    (e : bl v' = bl v ∧ h'.size = h.size ∨ bl v' = h.size ∧ h'.size = h.size + 1 ∨ bh v' = 0 ∧ h' = h) : Off w v' := by
  have := bh_bl w; have := bh_bl v; have := bh_bl v'; have := o.at_
  unfold Off at *
  rcases e with ⟨e, -⟩ | ⟨e, -⟩ | ⟨e, -⟩ <;> omega
end Go.Vc
namespace Go.Vc
open Go
theorem Holder.blk {s : Nat} {h : Heap} {v : Value} {n : Nat} {xs : List Value} {lo : Nat} (w : Holder s h v n xs lo) (hn : 0 < n) : ∃ b c rest, v = .slice (some ⟨b, 0, Option.none⟩) n c ∧ Rw h b (xs ++ rest) ∧ rest.length + n * s = c * s ∧ lo ≤ b := by
  obtain ⟨_, ⟨rfl, h0⟩ | h1⟩ := w
  · omega
  · exact h1
/-- One element of its block is stored. -/
theorem Holder.set {h h' : Heap} {b n c j : Nat} {xs : List Value} {x : Value} {lo : Nat} (w : Holder 1 h (.slice (some ⟨b, 0, Option.none⟩) n c) n xs lo) (hj : j < n) (s : Sto h h' b j [x]) : Holder 1 h' (.slice (some ⟨b, 0, Option.none⟩) n c) n (xs.set j x) lo := by
  have hl := w.1
  obtain ⟨b', c', rest, h1, h2, h3, h4⟩ := w.blk (by omega)
  cases h1
  refine ⟨by simpa using hl, .inr ⟨b, c, rest, rfl, ?_, h3, h4⟩⟩
  have := s.row h2
  rwa [putAt_one, List.set_append_left _ _ (by omega)] at this
theorem Holder.wrAt {h : Heap} {b n c j : Nat} {xs : List Value} {lo : Nat} (w : Holder 1 h (.slice (some ⟨b, 0, Option.none⟩) n c) n xs lo) (hj : j < n) : Wr h b j 1 := by
  have hl := w.1
  obtain ⟨b', c', rest, h1, h2, h3, h4⟩ := w.blk (by omega)
  cases h1
  exact h2.wr (by simp; omega)
/-- One of the lists is turned. -/
theorem LL.put {h h' : Heap} {v w : Value} {us : List Value} {L : List (List Value)} {l : List Value} {lo i : Nat} (t : LL h v us L lo) (hi : us[i]? = some w) (o : Holder 1 h' w l.length l lo) (f : Fr (bl w) (bh w) h h')
    (hp : us.Pairwise Off) : LL h' v us (L.set i l) lo := by
  have hl : i < us.length := (List.getElem?_eq_some_iff.1 hi).1
  have hw := t.off w (List.mem_of_getElem? hi)
  have key : ∀ j x, j ≠ i → us[j]? = some x → Off x w := fun j x hj hx => by
    obtain ⟨hjl, rfl⟩ := List.getElem?_eq_some_iff.1 hx
    obtain ⟨hil, rfl⟩ := List.getElem?_eq_some_iff.1 hi
    rw [List.pairwise_iff_getElem] at hp
    rcases Nat.lt_or_gt_of_ne hj with h | h
    · exact hp j i hjl hil h
    · exact (hp i j hil hjl h).symm
  refine ⟨by rw [List.length_set]; exact t.own.fr f hw.symm.away, fun j x y hx hy => ?_, t.off⟩
  by_cases hj : j = i
  · subst hj
    rw [hi] at hx; cases hx
    rw [List.getElem?_set_self (by rw [← t.len]; exact hl)] at hy; cases hy
    exact o
  · rw [List.getElem?_set_ne (fun h => hj h.symm)] at hy
    exact (t.at_ j x y hx hy).fr f (key j x hj hx).away
/-- What can be read of a list of lists. -/
def RL (h : Heap) (v : Value) (L : List (List Value)) : Prop := ∃ us, Rd 1 h v L.length us ∧ ∀ (i : Nat) (l : List Value), L[i]? = some l → ∃ w, us[i]? = some w ∧ Rd 1 h w l.length l
theorem RL.fr {h h' : Heap} {v : Value} {L : List (List Value)} (t : RL h v L) (f : Fr 0 0 h h') : RL h' v L := by
  obtain ⟨us, h1, h2⟩ := t
  exact ⟨us, h1.fr f, fun i l hl => by obtain ⟨w, h3, h4⟩ := h2 i l hl; exact ⟨w, h3, h4.fr f⟩⟩
end Go.Vc
