/-
  Contracts of functions that the law reaches: what each returns and what it leaves in memory. Conditions stand in each.
-/
import Derived.Test.YtgedofjefepebaaDoorT7
set_option linter.all false
set_option maxRecDepth 2000
namespace Go.Proofs.Tst
open Go Go.Vc
theorem c_law1_RelCycles {n : Int} {xv : Value} {x : List (Int × Int)} {h : Heap} (ht : TabAt h) (hx : Rd 2 h xv x.length (pairsV x)) (bx : x.length ≤ 8796093022208) :
    Con Tryd.prog 5 #[.int .i64 n, xv] h fun v h' => Fr 0 0 h h' ∧ v = .bool true := by
  refine con_law1_RelCycles ?_
  have hcl : clampN n ≤ 256 := by unfold clampN; omega
  have p0 : Fr 0 0 h h := .refl _ _ _
  simp -dsimp only [go_sem, ↓reduceIte, reduceCtorEq, Nat.reduceEqDiff, Nat.reduceAdd, Nat.reduceLeDiff, Nat.reduceMul, Int.reduceBEq, Int.reduceBNe, Int.reduceLT, Int.reduceLE, Int.reduceGT, Int.reduceGE]
  refine call_of (rel_Of n _ x h hx (by omega)) ?_
  rintro av h1 ⟨f1, ta⟩
  have f1_z := f1.size
  replace p0 := p0.fresh f1 (by omega)
  generalize hM : ofM (clampN n) x = M at ta
  generalize clampN n = k at ta hcl
  have hr := ta
  obtain ⟨-, pb, rb, R, W, rfl, -⟩ := hr
  simp -dsimp only [go_sem, ↓reduceIte, reduceCtorEq, Nat.reduceEqDiff, Nat.reduceAdd, Nat.reduceLeDiff, Nat.reduceMul, Int.reduceBEq, Int.reduceBNe, Int.reduceLT, Int.reduceLE, Int.reduceGT, Int.reduceGE]
  refine call_of (c_law1_lives (ht.fr p0 (by omega))) ?_
  rintro v h2 ⟨f2, rfl⟩
  have f2_z := f2.size
  replace p0 := p0.fresh f2 (by omega)
  replace ta := ta.fr f2 (by omega)
  simp -dsimp only [go_sem, ↓reduceIte, reduceCtorEq, Nat.reduceEqDiff, Nat.reduceAdd, Nat.reduceLeDiff, Nat.reduceMul, Int.reduceBEq, Int.reduceBNe, Int.reduceLT, Int.reduceLE, Int.reduceGT, Int.reduceGE]
  refine call_of (rel_Cycle ta (ht.fr p0 (by omega))) ?_
  rintro lv h3 ⟨f3, ol⟩
  have hlen := cycS_len (n := k) (M := M)
  have hnil := fun h => cycS_nil (n := k) (M := M) h
  have hcy := fun h => cycS_is (n := k) (M := M) h
  generalize cycS k M = l at ol hlen hnil hcy
  obtain ⟨la, lc, rfl⟩ := ol.is
  have ol_l := ol.top
  have f3_z := f3.size
  replace p0 := p0.fresh f3 (by omega)
  replace ta := ta.fr f3 (by omega)
  simp -dsimp only [go_sem, ↓reduceIte, reduceCtorEq, Nat.reduceEqDiff, Nat.reduceAdd, Nat.reduceLeDiff, Nat.reduceMul, Int.reduceBEq, Int.reduceBNe, Int.reduceLT, Int.reduceLE, Int.reduceGT, Int.reduceGE]
  refine ⟨fun h0 => ?_, fun h0 => ?_⟩
  · have hl : l = [] := by have : l.length = 0 := by simpa using h0
                           exact List.eq_nil_of_length_eq_zero this
    simp -dsimp only [go_sem, ↓reduceIte, reduceCtorEq, Nat.reduceEqDiff, Nat.reduceAdd, Nat.reduceLeDiff, Nat.reduceMul, Int.reduceBEq, Int.reduceBNe, Int.reduceLT, Int.reduceLE, Int.reduceGT, Int.reduceGE]
    refine call_of (c_law1_rises ta (ht.fr p0 (by omega)) (hnil hl)) ?_
    rintro v h4 ⟨f4, rfl⟩
    have f4_z := f4.size
    replace p0 := p0.fresh f4 (by omega)
    replace ta := ta.fr f4 (by omega)
    replace ol := ol.fr f4 (by have := ol.at_; omega)
    simp -dsimp only [go_sem, ↓reduceIte, reduceCtorEq, Nat.reduceEqDiff, Nat.reduceAdd, Nat.reduceLeDiff, Nat.reduceMul, Int.reduceBEq, Int.reduceBNe, Int.reduceLT, Int.reduceLE, Int.reduceGT, Int.reduceGE]
    exact p0
  have hlp : 0 < l.length := by
    have : ¬ l.length = 0 := by simpa using h0
    omega
  obtain ⟨p, hp, hp0, hpp, hleast, hstep, hdist⟩ := hcy (by rintro rfl; simp at hlp)
  simp -dsimp only [go_sem, ↓reduceIte, reduceCtorEq, Nat.reduceEqDiff, Nat.reduceAdd, Nat.reduceLeDiff, Nat.reduceMul, Int.reduceBEq, Int.reduceBNe, Int.reduceLT, Int.reduceLE, Int.reduceGT, Int.reduceGE]
  refine call_of (rel_Plus ta) ?_
  rintro pv h4 ⟨f4, tp⟩
  have f4_z := f4.size
  replace p0 := p0.fresh f4 (by omega)
  replace ta := ta.fr f4 (by omega)
  replace ol := ol.fr f4 (by have := ol.at_; omega)
  simp -dsimp only [go_sem, ↓reduceIte, reduceCtorEq, Nat.reduceEqDiff, Nat.reduceAdd, Nat.reduceLeDiff, Nat.reduceMul, Int.reduceBEq, Int.reduceBNe, Int.reduceLT, Int.reduceLE, Int.reduceGT, Int.reduceGE]
  refine loop_intro (fun i : Nat => [(5, .pointer (some ⟨pb, 0, none⟩)), (6, .slice la l.length lc), (7, pv), (8, .int .i64 i)])
    (fun i h' => h' = h4 ∧ i ≤ l.length) (fun i => l.length - i) 0 ?_ ?_ ?_
  · simp [Le, find]
  · exact ⟨rfl, by omega⟩
  rintro i h5 ⟨hh, hi⟩
  obtain rfl : h4 = h5 := hh.symm
  simp -dsimp only [go_sem, ↓reduceIte, reduceCtorEq, Nat.reduceEqDiff, Nat.reduceAdd, Nat.reduceLeDiff, Nat.reduceMul, Int.reduceBEq, Int.reduceBNe, Int.reduceLT, Int.reduceLE, Int.reduceGT, Int.reduceGE]
  refine ⟨fun hlt => ?_, fun hge => ?_⟩
  · have hil : i < l.length := by omega
    have hx : l[i]? = some l[i] := by simp [hil]
    generalize l[i] = x at hx
    obtain ⟨hxk, hpx, hnx, hlast⟩ := hstep i x hx
    simp -dsimp only [go_sem, ↓reduceIte, reduceCtorEq, Nat.reduceEqDiff, Nat.reduceAdd, Nat.reduceLeDiff, Nat.reduceMul, Int.reduceBEq, Int.reduceBNe, Int.reduceLT, Int.reduceLE, Int.reduceGT, Int.reduceGE]
    refine Chk_intro (by omega) (ol.rd.idx (by omega) fun b6 o6 c6 => ?_)
    have c6 := c6 0 _ (natsV_get hp0)
    rw [Nat.add_zero] at c6
    simp -dsimp only [go_sem, ↓reduceIte, reduceCtorEq, Nat.reduceEqDiff, Nat.reduceAdd, Nat.reduceLeDiff, Nat.reduceMul, Int.reduceBEq, Int.reduceBNe, Int.reduceLT, Int.reduceLE, Int.reduceGT, Int.reduceGE, c6, Int.toNat_zero, Nat.add_zero]
    simp -dsimp (disch := omega) only [wrap64]
    refine If_joint (fun y : Nat => [(5, .pointer (some ⟨pb, 0, none⟩)), (6, .slice la l.length lc), (7, pv), (8, .int .i64 i), (9, .int .i64 y)]) (fun y h' => h' = h4 ∧ y < k ∧ M x y = true) ?_ ?_ ?_
    · intro hy
      have hy : i + 1 < l.length := by omega
      have hx2 : l[i + 1]? = some l[i + 1] := by simp [hy]
      have hm2 := hnx _ hx2
      have hy2 := (hstep _ _ hx2).1
      generalize l[i + 1] = y at hx2 hm2 hy2
      simp -dsimp only [go_sem, ↓reduceIte, reduceCtorEq, Nat.reduceEqDiff, Nat.reduceAdd, Nat.reduceLeDiff, Nat.reduceMul, Int.reduceBEq, Int.reduceBNe, Int.reduceLT, Int.reduceLE, Int.reduceGT, Int.reduceGE]
      simp -dsimp (disch := omega) only [wrap64]
      refine Chk_intro (by omega) (ol.rd.idx (by omega) fun b7 o7 c7 => ?_)
      have e7 : (IntKind.i64.wrap ((i : Int) + 1)).toNat = i + 1 := by rw [wrap64 (by omega) (by omega)]; omega
      simp -dsimp only [go_sem, ↓reduceIte, reduceCtorEq, Nat.reduceEqDiff, Nat.reduceAdd, Nat.reduceLeDiff, Nat.reduceMul, Int.reduceBEq, Int.reduceBNe, Int.reduceLT, Int.reduceLE, Int.reduceGT, Int.reduceGE, e7, c7 _ _ (natsV_get hx2)]
      exact ⟨y, by simp [Le, find], by omega, hm2⟩
    · intro hy
      have hy : i + 1 = l.length := by omega
      simp -dsimp only [go_sem, ↓reduceIte, reduceCtorEq, Nat.reduceEqDiff, Nat.reduceAdd, Nat.reduceLeDiff, Nat.reduceMul, Int.reduceBEq, Int.reduceBNe, Int.reduceLT, Int.reduceLE, Int.reduceGT, Int.reduceGE]
      exact ⟨p, by simp [Le, find], hp, hlast hy⟩
    rintro y h5 ⟨hh, hyk, hmy⟩ e ⟨e5, e6, e7, e8, e9, -⟩
    obtain rfl : h4 = h5 := hh.symm
    simp -dsimp only [go_sem, ↓reduceIte, reduceCtorEq, Nat.reduceEqDiff, Nat.reduceAdd, Nat.reduceLeDiff, Nat.reduceMul, Int.reduceBEq, Int.reduceBNe, Int.reduceLT, Int.reduceLE, Int.reduceGT, Int.reduceGE, e5, e6, e7, e8, e9]
    refine Chk_intro (by omega) (ol.rd.idx (by omega) fun b8 o8 c8 => ?_)
    simp -dsimp only [go_sem, ↓reduceIte, reduceCtorEq, Nat.reduceEqDiff, Nat.reduceAdd, Nat.reduceLeDiff, Nat.reduceMul, Int.reduceBEq, Int.reduceBNe, Int.reduceLT, Int.reduceLE, Int.reduceGT, Int.reduceGE, e5, e6, e7, e8, e9, c8 _ _ (natsV_get hx)]
    refine call_of (rel_Has ta x y) ?_
    rintro v h5 ⟨hh, rfl⟩
    obtain rfl : h4 = h5 := hh.symm
    have eH : (inR k (x : Int) && inR k (y : Int) && M ((x : Int).toNat) ((y : Int).toNat)) = true := by simp [inR, hxk, hyk, hmy]
    rw [eH]
    simp -dsimp only [go_sem, ↓reduceIte, reduceCtorEq, Nat.reduceEqDiff, Nat.reduceAdd, Nat.reduceLeDiff, Nat.reduceMul, Int.reduceBEq, Int.reduceBNe, Int.reduceLT, Int.reduceLE, Int.reduceGT, Int.reduceGE, e5, e6, e7, e8, e9]
    refine Chk_intro (by omega) (ol.rd.idx (by omega) fun b9 o9 c9 => ?_)
    simp -dsimp only [go_sem, ↓reduceIte, reduceCtorEq, Nat.reduceEqDiff, Nat.reduceAdd, Nat.reduceLeDiff, Nat.reduceMul, Int.reduceBEq, Int.reduceBNe, Int.reduceLT, Int.reduceLE, Int.reduceGT, Int.reduceGE, e5, e6, e7, e8, e9, c9 _ _ (natsV_get hx)]
    refine Chk_intro (by omega) (ol.rd.idx (by omega) fun b10 o10 c10 => ?_)
    have c10 := c10 0 _ (natsV_get hp0)
    rw [Nat.add_zero] at c10
    have e11 : ¬ (x : Int) < (p : Int) := by omega
    simp -dsimp only [go_sem, ↓reduceIte, reduceCtorEq, Nat.reduceEqDiff, Nat.reduceAdd, Nat.reduceLeDiff, Nat.reduceMul, Int.reduceBEq, Int.reduceBNe, Int.reduceLT, Int.reduceLE, Int.reduceGT, Int.reduceGE, e5, e6, e7, e8, e9, c10, Int.toNat_zero, Nat.add_zero, e11]
    refine loop_intro (fun j : Nat => [(5, .pointer (some ⟨pb, 0, none⟩)), (6, .slice la l.length lc), (7, pv), (8, .int .i64 i), (10, .int .i64 j)])
      (fun j h' => h' = h4 ∧ j ≤ i) (fun j => i - j) 0 ?_ ?_ ?_
    · simp [Le, find]
    · exact ⟨rfl, by omega⟩
    rintro j h5 ⟨hh, hj⟩
    obtain rfl : h4 = h5 := hh.symm
    simp -dsimp only [go_sem, ↓reduceIte, reduceCtorEq, Nat.reduceEqDiff, Nat.reduceAdd, Nat.reduceLeDiff, Nat.reduceMul, Int.reduceBEq, Int.reduceBNe, Int.reduceLT, Int.reduceLE, Int.reduceGT, Int.reduceGE]
    refine ⟨fun hlt1 => ?_, fun hge1 => ?_⟩
    · have hji : j < i := by omega
      have hz : l[j]? = some (l[j]'(by omega)) := by simp [show j < l.length by omega]
      generalize (l[j]'(by omega)) = z at hz
      have hzx : ((z : Int) == (x : Int)) = false := by
        have : z ≠ x := by rintro rfl; have := hdist j i z hz hx; omega
        rw [beq_eq_false_iff_ne]; omega
      simp -dsimp only [go_sem, ↓reduceIte, reduceCtorEq, Nat.reduceEqDiff, Nat.reduceAdd, Nat.reduceLeDiff, Nat.reduceMul, Int.reduceBEq, Int.reduceBNe, Int.reduceLT, Int.reduceLE, Int.reduceGT, Int.reduceGE]
      refine Chk_intro (by omega) (ol.rd.idx (by omega) fun b12 o12 c12 => ?_)
      simp -dsimp only [go_sem, ↓reduceIte, reduceCtorEq, Nat.reduceEqDiff, Nat.reduceAdd, Nat.reduceLeDiff, Nat.reduceMul, Int.reduceBEq, Int.reduceBNe, Int.reduceLT, Int.reduceLE, Int.reduceGT, Int.reduceGE, c12 _ _ (natsV_get hz)]
      refine Chk_intro (by omega) (ol.rd.idx (by omega) fun b13 o13 c13 => ?_)
      simp -dsimp only [go_sem, ↓reduceIte, reduceCtorEq, Nat.reduceEqDiff, Nat.reduceAdd, Nat.reduceLeDiff, Nat.reduceMul, Int.reduceBEq, Int.reduceBNe, Int.reduceLT, Int.reduceLE, Int.reduceGT, Int.reduceGE, c13 _ _ (natsV_get hx)]
      rw [hzx]
      simp -dsimp only [go_sem, ↓reduceIte, reduceCtorEq, Nat.reduceEqDiff, Nat.reduceAdd, Nat.reduceLeDiff, Nat.reduceMul, Int.reduceBEq, Int.reduceBNe, Int.reduceLT, Int.reduceLE, Int.reduceGT, Int.reduceGE]
      simp -dsimp (disch := omega) only [wrap64]
      exact ⟨j + 1, by omega, by simp [Le, find], by omega⟩
    · simp -dsimp only [go_sem, ↓reduceIte, reduceCtorEq, Nat.reduceEqDiff, Nat.reduceAdd, Nat.reduceLeDiff, Nat.reduceMul, Int.reduceBEq, Int.reduceBNe, Int.reduceLT, Int.reduceLE, Int.reduceGT, Int.reduceGE]
      simp -dsimp (disch := omega) only [wrap64]
      exact ⟨i + 1, by omega, by simp [Le, find], by omega⟩
  · simp -dsimp only [go_sem, ↓reduceIte, reduceCtorEq, Nat.reduceEqDiff, Nat.reduceAdd, Nat.reduceLeDiff, Nat.reduceMul, Int.reduceBEq, Int.reduceBNe, Int.reduceLT, Int.reduceLE, Int.reduceGT, Int.reduceGE]
    refine loop_intro (fun q : Nat => [(6, .slice la l.length lc), (7, pv), (11, .int .i64 q)])
      (fun q h' => h' = h4 ∧ q ≤ p) (fun q => p - q) 0 ?_ ?_ ?_
    · simp [Le, find]
    · exact ⟨rfl, by omega⟩
    rintro q h5 ⟨hh, hq⟩
    obtain rfl : h4 = h5 := hh.symm
    simp -dsimp only [go_sem, ↓reduceIte, reduceCtorEq, Nat.reduceEqDiff, Nat.reduceAdd, Nat.reduceLeDiff, Nat.reduceMul, Int.reduceBEq, Int.reduceBNe, Int.reduceLT, Int.reduceLE, Int.reduceGT, Int.reduceGE]
    refine Chk_intro (by omega) (ol.rd.idx (by omega) fun b9 o9 c9 => ?_)
    have c9 := c9 0 _ (natsV_get hp0)
    rw [Nat.add_zero] at c9
    simp -dsimp only [go_sem, ↓reduceIte, reduceCtorEq, Nat.reduceEqDiff, Nat.reduceAdd, Nat.reduceLeDiff, Nat.reduceMul, Int.reduceBEq, Int.reduceBNe, Int.reduceLT, Int.reduceLE, Int.reduceGT, Int.reduceGE, c9, Int.toNat_zero, Nat.add_zero]
    refine ⟨fun hlt1 => ?_, fun hge1 => ?_⟩
    · have hqp : q < p := by omega
      simp -dsimp only [go_sem, ↓reduceIte, reduceCtorEq, Nat.reduceEqDiff, Nat.reduceAdd, Nat.reduceLeDiff, Nat.reduceMul, Int.reduceBEq, Int.reduceBNe, Int.reduceLT, Int.reduceLE, Int.reduceGT, Int.reduceGE]
      refine call_of (rel_Has tp q q) ?_
      rintro v h5 ⟨hh, rfl⟩
      obtain rfl : h4 = h5 := hh.symm
      have e9 : (inR k (q : Int) && inR k (q : Int) && plusM k M ((q : Int).toNat) ((q : Int).toNat)) = false := by simp [hleast q hqp]
      rw [e9]
      simp -dsimp only [go_sem, ↓reduceIte, reduceCtorEq, Nat.reduceEqDiff, Nat.reduceAdd, Nat.reduceLeDiff, Nat.reduceMul, Int.reduceBEq, Int.reduceBNe, Int.reduceLT, Int.reduceLE, Int.reduceGT, Int.reduceGE]
      simp -dsimp (disch := omega) only [wrap64]
      exact ⟨q + 1, by omega, by simp [Le, find], by omega⟩
    · simp -dsimp only [go_sem, ↓reduceIte, reduceCtorEq, Nat.reduceEqDiff, Nat.reduceAdd, Nat.reduceLeDiff, Nat.reduceMul, Int.reduceBEq, Int.reduceBNe, Int.reduceLT, Int.reduceLE, Int.reduceGT, Int.reduceGE]
      refine Chk_intro (by omega) (ol.rd.idx (by omega) fun b10 o10 c10 => ?_)
      have c10 := c10 0 _ (natsV_get hp0)
      rw [Nat.add_zero] at c10
      simp -dsimp only [go_sem, ↓reduceIte, reduceCtorEq, Nat.reduceEqDiff, Nat.reduceAdd, Nat.reduceLeDiff, Nat.reduceMul, Int.reduceBEq, Int.reduceBNe, Int.reduceLT, Int.reduceLE, Int.reduceGT, Int.reduceGE, c10, Int.toNat_zero, Nat.add_zero]
      refine Chk_intro (by omega) (ol.rd.idx (by omega) fun b11 o11 c11 => ?_)
      have c11 := c11 0 _ (natsV_get hp0)
      rw [Nat.add_zero] at c11
      simp -dsimp only [go_sem, ↓reduceIte, reduceCtorEq, Nat.reduceEqDiff, Nat.reduceAdd, Nat.reduceLeDiff, Nat.reduceMul, Int.reduceBEq, Int.reduceBNe, Int.reduceLT, Int.reduceLE, Int.reduceGT, Int.reduceGE, c11, Int.toNat_zero, Nat.add_zero]
      refine call_of (rel_Has tp p p) ?_
      rintro v h5 ⟨hh, rfl⟩
      obtain rfl : h4 = h5 := hh.symm
      have e9 : (inR k (p : Int) && inR k (p : Int) && plusM k M ((p : Int).toNat) ((p : Int).toNat)) = true := by simp [inR, hp, hpp]
      rw [e9]
      simp -dsimp only [go_sem, ↓reduceIte, reduceCtorEq, Nat.reduceEqDiff, Nat.reduceAdd, Nat.reduceLeDiff, Nat.reduceMul, Int.reduceBEq, Int.reduceBNe, Int.reduceLT, Int.reduceLE, Int.reduceGT, Int.reduceGE]
      exact p0
end Go.Proofs.Tst
/-
  The laws of sets of pairs.
-/
namespace Go.Proofs.Tst
open Go Go.Vc
theorem eqP {n m : Nat} {M N : Nat → Nat → Bool} (h : n = m) (he : ∀ i j, i < n → j < n → (M i j = true ↔ N i j = true)) : decide (n = m ∧ WithinP n M m N ∧ WithinP m N n M) = true := by
  subst h
  exact decide_eq_true ⟨rfl, fun a ha b hb hm => ⟨ha, hb, (he a b ha hb).1 hm⟩, fun a ha b hb hm => ⟨ha, hb, (he a b ha hb).2 hm⟩⟩
theorem inP {n m : Nat} {M N : Nat → Nat → Bool} (h : n = m) (he : ∀ i j, i < n → j < n → M i j = true → N i j = true) : decide (WithinP n M m N) = true := by
  subst h
  exact decide_eq_true fun a ha b hb hm => ⟨ha, hb, he a b ha hb hm⟩
section
variable {k : Nat} {A B C : Nat → Nat → Bool} {i j : Nat}
theorem rl_comp : compM k (compM k A k B) k C i j = true ↔ compM k A k (compM k B k C) i j = true := by
  simp only [compM_true, inN_true]
  constructor
  · rintro ⟨y, ⟨hi, hy, x, ⟨-, hx, ha⟩, -, -, hb⟩, -, hj, hc⟩
    exact ⟨x, ⟨hi, hx, ha⟩, hx, hj, y, ⟨hx, hy, hb⟩, hy, hj, hc⟩
  · rintro ⟨x, ⟨hi, hx, ha⟩, -, hj, y, ⟨-, hy, hb⟩, -, -, hc⟩
    exact ⟨y, ⟨hi, hy, x, ⟨hi, hx, ha⟩, hx, hy, hb⟩, hy, hj, hc⟩
theorem rl_inv : invM (compM k A k B) i j = true ↔ compM k (invM B) k (invM A) i j = true := by
  simp only [invM, compM_true, inN_true]
  constructor
  · rintro ⟨x, ⟨hj, hx, ha⟩, -, hi, hb⟩; exact ⟨x, ⟨hi, hx, hb⟩, hx, hj, ha⟩
  · rintro ⟨x, ⟨hi, hx, hb⟩, -, hj, ha⟩; exact ⟨x, ⟨hj, hx, ha⟩, hx, hi, hb⟩
theorem any2 {v w : Value} : anyM [(v, k, A), (w, k, B)] i j = true ↔ (i < k ∧ j < k ∧ A i j = true) ∨ (i < k ∧ j < k ∧ B i j = true) := by
  simp only [anyM, List.any_cons, List.any_nil, Bool.or_false, Bool.or_eq_true, inN_true]
theorem rl_dist {v w v' w' : Value} : compM k A k (anyM [(v, k, B), (w, k, C)]) i j = true ↔ anyM [(v', k, compM k A k B), (w', k, compM k A k C)] i j = true := by
  simp only [any2, compM_true, inN_true]
  constructor
  · rintro ⟨x, ⟨hi, hx, ha⟩, -, hj, h | h⟩
    · exact .inl ⟨hi, hj, x, ⟨hi, hx, ha⟩, h⟩
    · exact .inr ⟨hi, hj, x, ⟨hi, hx, ha⟩, h⟩
  · rintro (⟨hi, hj, x, ⟨-, hx, ha⟩, h⟩ | ⟨hi, hj, x, ⟨-, hx, ha⟩, h⟩)
    · exact ⟨x, ⟨hi, hx, ha⟩, hx, hj, .inl h⟩
    · exact ⟨x, ⟨hi, hx, ha⟩, hx, hj, .inr h⟩
theorem rl_cut {v w : Value} (hi : i < k) (hj : j < k) : anyM [(v, k, minusM k A k B), (w, k, interM k A k B)] i j = true ↔ A i j = true := by
  simp only [any2, minusM, interM, Bool.and_eq_true, Bool.not_eq_true', inN_in hi hj]
  cases B i j <;> simp [hi, hj]
theorem rl_pp (hi : i < k) (hj : j < k) : plusM k (plusM k A) i j = true ↔ plusM k A i j = true :=
  ⟨plus_least (N := fun i j => plusM k A i j = true) (fun _ _ _ _ h => h) (fun _ _ _ _ hx _ h1 h2 => plus_trans hx h1 h2) hi hj, plus_sub⟩
theorem rl_trans (h : compM k (plusM k A) k (plusM k A) i j = true) : plusM k A i j = true := by
  simp only [compM_true, inN_true] at h
  obtain ⟨x, ⟨-, hx, h1⟩, -, -, h2⟩ := h
  exact plus_trans hx h1 h2
theorem rl_rec {v w : Value} (hi : i < k) (hj : j < k) : plusM k A i j = true ↔ anyM [(v, k, A), (w, k, compM k A k (plusM k A))] i j = true := by
  simp only [any2, compM_true, inN_true]
  constructor
  · intro h
    have := plus_least (n := k) (M := A) (N := fun i j => A i j = true ∨ ∃ x, x < k ∧ A i x = true ∧ plusM k A x j = true) (fun _ _ _ _ h => .inl h) (fun i x j _ hx _ h1 h2 => by
      have h2' : plusM k A x j = true := by
        rcases h2 with h2 | ⟨y, hy, h2, h3⟩
        · exact plus_sub h2
        · exact plus_trans hy (plus_sub h2) h3
      rcases h1 with h1 | ⟨y, hy, h1, h3⟩
      · exact .inr ⟨x, hx, h1, h2'⟩
      · exact .inr ⟨y, hy, h1, plus_trans hx h3 h2'⟩) hi hj h
    rcases this with h | ⟨x, hx, h1, h2⟩
    · exact .inl ⟨hi, hj, h⟩
    · exact .inr ⟨hi, hj, x, ⟨hi, hx, h1⟩, hx, hj, h2⟩
  · rintro (⟨-, -, h⟩ | ⟨-, -, x, ⟨-, hx, h1⟩, -, -, h2⟩)
    · exact plus_sub h
    · exact plus_trans hx (plus_sub h1) h2
theorem rl_pinv (hi : i < k) (hj : j < k) : plusM k (invM A) i j = true ↔ invM (plusM k A) i j = true :=
  ⟨plus_least (N := fun i j => plusM k A j i = true) (fun _ _ _ _ h => plus_sub h) (fun _ _ _ _ hx _ h1 h2 => plus_trans hx h2 h1) hi hj,
   fun h => plus_least (n := k) (M := A) (N := fun j i => plusM k (invM A) i j = true) (fun _ _ _ _ h => plus_sub (M := invM A) h) (fun _ _ _ _ hx _ h1 h2 => plus_trans hx h2 h1) hj hi h⟩
theorem rl_icomm : interM k A k B i j = true ↔ interM k B k A i j = true := by
  simp only [interM, Bool.and_eq_true]; exact And.comm
theorem rl_ucomm {v w v' w' : Value} : anyM [(v, k, A), (w, k, B)] i j = true ↔ anyM [(v', k, B), (w', k, A)] i j = true := by
  simp only [any2]; exact Or.comm
theorem rl_acyc {v w : Value} (h : irrB k (plusM k A) = false) : irrB k (plusM k (anyM [(v, k, A), (w, k, B)])) = false := by
  unfold irrB at h ⊢
  rw [List.all_eq_false] at h ⊢
  obtain ⟨x, hx, h⟩ := h
  have hxk := List.mem_range.1 hx
  refine ⟨x, hx, ?_⟩
  simp only [Bool.not_eq_true', Bool.not_eq_false] at h ⊢
  exact plus_least (N := fun i j => plusM k (anyM [(v, k, A), (w, k, B)]) i j = true) (fun i j hi hj h => plus_sub (any2.2 (.inl ⟨hi, hj, h⟩))) (fun _ _ _ _ hx _ h1 h2 => plus_trans hx h1 h2) hxk hxk h
theorem maxN2 {v w : Value} : maxN [(v, k, A), (w, k, B)] = k := by simp [maxN]
end
theorem progPtr {h : Heap} {lo hi : Nat} {p : Value} {n : Nat} {M : Nat → Nat → Bool} (t : ProgAt h lo hi p n M) : ∃ pb, p = .pointer (some ⟨pb, 0, none⟩) := by
  obtain ⟨-, pb, rb, R, W, rfl, -⟩ := t; exact ⟨pb, rfl⟩
theorem rels2 {h : Heap} {v w : Value} {k : Nat} {A B : Nat → Nat → Bool} {lo hi lo' hi' : Nat} (t : ProgAt h lo hi v k A) (u : ProgAt h lo' hi' w k B) : RelsAt h [(v, k, A), (w, k, B)] := fun x hx => by
  rcases List.mem_cons.1 hx with rfl | hx
  · exact ⟨_, _, t⟩
  rcases List.mem_cons.1 hx with rfl | hx
  · exact ⟨_, _, u⟩
  · simp at hx
set_option maxHeartbeats 4000000 in
theorem c_law1_RelLaws {n : Int} {xv yv zv : Value} {x y z : List (Int × Int)} {h : Heap} (ht : TabAt h) (hx : Rd 2 h xv x.length (pairsV x)) (hy : Rd 2 h yv y.length (pairsV y)) (hz : Rd 2 h zv z.length (pairsV z)) (bx : x.length ≤ 8796093022208) (bY : y.length ≤ 8796093022208) (bz : z.length ≤ 8796093022208) :
    Con Tryd.prog 8 #[.int .i64 n, xv, yv, zv] h fun v h' => Fr 0 0 h h' ∧ v = .bool true := by
  refine con_law1_RelLaws ?_
  have p0 : Fr 0 0 h h := .refl _ _ _
  simp -dsimp only [go_sem, ↓reduceIte, reduceCtorEq, Nat.reduceEqDiff, Nat.reduceAdd, Nat.reduceLeDiff, Nat.reduceMul, Int.reduceBEq, Int.reduceBNe, Int.reduceLT, Int.reduceLE, Int.reduceGT, Int.reduceGE]
  refine call_of (rel_Of n _ x h hx (by omega)) ?_
  rintro av ha ⟨fa, ta⟩
  have fa_z := fa.size
  replace p0 := p0.fresh fa (by omega)
  simp -dsimp only [go_sem, ↓reduceIte, reduceCtorEq, Nat.reduceEqDiff, Nat.reduceAdd, Nat.reduceLeDiff, Nat.reduceMul, Int.reduceBEq, Int.reduceBNe, Int.reduceLT, Int.reduceLE, Int.reduceGT, Int.reduceGE]
  refine call_of (rel_Of n _ y ha (hy.fr p0) (by omega)) ?_
  rintro bv hb ⟨fb, tb⟩
  have fb_z := fb.size
  replace p0 := p0.fresh fb (by omega)
  replace ta := ta.fr fb (by omega)
  simp -dsimp only [go_sem, ↓reduceIte, reduceCtorEq, Nat.reduceEqDiff, Nat.reduceAdd, Nat.reduceLeDiff, Nat.reduceMul, Int.reduceBEq, Int.reduceBNe, Int.reduceLT, Int.reduceLE, Int.reduceGT, Int.reduceGE]
  refine call_of (rel_Of n _ z hb (hz.fr p0) (by omega)) ?_
  rintro cv hc ⟨fc, tc⟩
  have fc_z := fc.size
  replace p0 := p0.fresh fc (by omega)
  replace ta := ta.fr fc (by omega)
  replace tb := tb.fr fc (by omega)
  generalize ofM (clampN n) x = A at ta
  generalize ofM (clampN n) y = B at tb
  generalize ofM (clampN n) z = C at tc
  generalize clampN n = k at ta tb tc
  have ta' := ta; have tb' := tb; have tc' := tc
  obtain ⟨-, pa, ra, R, W, rfl, -⟩ := ta'
  obtain ⟨-, pb, rb, R, W, rfl, -⟩ := tb'
  obtain ⟨-, pc, rc, R, W, rfl, -⟩ := tc'
  simp -dsimp only [go_sem, ↓reduceIte, reduceCtorEq, Nat.reduceEqDiff, Nat.reduceAdd, Nat.reduceLeDiff, Nat.reduceMul, Int.reduceBEq, Int.reduceBNe, Int.reduceLT, Int.reduceLE, Int.reduceGT, Int.reduceGE]
  refine call_of (c_law1_lives (ht.fr p0 (by omega))) ?_
  rintro v hl ⟨fl, rfl⟩
  have fl_z := fl.size
  replace p0 := p0.fresh fl (by omega)
  replace ta := ta.fr fl (by omega)
  replace tb := tb.fr fl (by omega)
  replace tc := tc.fr fl (by omega)
  simp -dsimp only [go_sem, ↓reduceIte, reduceCtorEq, Nat.reduceEqDiff, Nat.reduceAdd, Nat.reduceLeDiff, Nat.reduceMul, Int.reduceBEq, Int.reduceBNe, Int.reduceLT, Int.reduceLE, Int.reduceGT, Int.reduceGE]
  refine call_of (rel_Plus ta) ?_
  rintro pv hp ⟨fp, tp⟩
  obtain ⟨qp, rfl⟩ := progPtr tp
  have fp_z := fp.size
  replace p0 := p0.fresh fp (by omega)
  replace ta := ta.fr fp (by omega)
  replace tb := tb.fr fp (by omega)
  replace tc := tc.fr fp (by omega)
  simp -dsimp only [go_sem, ↓reduceIte, reduceCtorEq, Nat.reduceEqDiff, Nat.reduceAdd, Nat.reduceLeDiff, Nat.reduceMul, Int.reduceBEq, Int.reduceBNe, Int.reduceLT, Int.reduceLE, Int.reduceGT, Int.reduceGE]
  refine call_of (rel_Comp ta tb (ht.fr p0 (by omega))) ?_
  rintro v1 h1 ⟨f1, t1⟩
  rw [Nat.max_self] at t1
  obtain ⟨q1, rfl⟩ := progPtr t1
  have f1_z := f1.size
  replace p0 := p0.fresh f1 (by omega)
  replace ta := ta.fr f1 (by omega)
  replace tb := tb.fr f1 (by omega)
  replace tc := tc.fr f1 (by omega)
  replace tp := tp.fr f1 (by omega)
  simp -dsimp only [go_sem, ↓reduceIte, reduceCtorEq, Nat.reduceEqDiff, Nat.reduceAdd, Nat.reduceLeDiff, Nat.reduceMul, Int.reduceBEq, Int.reduceBNe, Int.reduceLT, Int.reduceLE, Int.reduceGT, Int.reduceGE]
  refine call_of (rel_Comp t1 tc (ht.fr p0 (by omega))) ?_
  rintro v2 h2 ⟨f2, t2⟩
  rw [Nat.max_self] at t2
  obtain ⟨q2, rfl⟩ := progPtr t2
  have f2_z := f2.size
  replace p0 := p0.fresh f2 (by omega)
  replace ta := ta.fr f2 (by omega)
  replace tb := tb.fr f2 (by omega)
  replace tc := tc.fr f2 (by omega)
  replace tp := tp.fr f2 (by omega)
  simp -dsimp only [go_sem, ↓reduceIte, reduceCtorEq, Nat.reduceEqDiff, Nat.reduceAdd, Nat.reduceLeDiff, Nat.reduceMul, Int.reduceBEq, Int.reduceBNe, Int.reduceLT, Int.reduceLE, Int.reduceGT, Int.reduceGE]
  refine call_of (rel_Comp tb tc (ht.fr p0 (by omega))) ?_
  rintro v3 h3 ⟨f3, t3⟩
  rw [Nat.max_self] at t3
  obtain ⟨q3, rfl⟩ := progPtr t3
  have f3_z := f3.size
  replace p0 := p0.fresh f3 (by omega)
  replace ta := ta.fr f3 (by omega)
  replace tb := tb.fr f3 (by omega)
  replace tc := tc.fr f3 (by omega)
  replace tp := tp.fr f3 (by omega)
  replace t2 := t2.fr f3 (by omega)
  simp -dsimp only [go_sem, ↓reduceIte, reduceCtorEq, Nat.reduceEqDiff, Nat.reduceAdd, Nat.reduceLeDiff, Nat.reduceMul, Int.reduceBEq, Int.reduceBNe, Int.reduceLT, Int.reduceLE, Int.reduceGT, Int.reduceGE]
  refine call_of (rel_Comp ta t3 (ht.fr p0 (by omega))) ?_
  rintro v4 h4 ⟨f4, t4⟩
  rw [Nat.max_self] at t4
  obtain ⟨q4, rfl⟩ := progPtr t4
  have f4_z := f4.size
  replace p0 := p0.fresh f4 (by omega)
  replace ta := ta.fr f4 (by omega)
  replace tb := tb.fr f4 (by omega)
  replace tc := tc.fr f4 (by omega)
  replace tp := tp.fr f4 (by omega)
  replace t2 := t2.fr f4 (by omega)
  simp -dsimp only [go_sem, ↓reduceIte, reduceCtorEq, Nat.reduceEqDiff, Nat.reduceAdd, Nat.reduceLeDiff, Nat.reduceMul, Int.reduceBEq, Int.reduceBNe, Int.reduceLT, Int.reduceLE, Int.reduceGT, Int.reduceGE]
  refine call_of (rel_Equal t2 t4 (ht.fr p0 (by omega))) ?_
  rintro v5 h5 ⟨f5, rfl⟩
  rw [eqP (M := (compM k (compM k A k B) k C)) (N := (compM k A k (compM k B k C))) rfl fun i j hi hj => rl_comp]
  have f5_z := f5.size
  replace p0 := p0.fresh f5 (by omega)
  replace ta := ta.fr f5 (by omega)
  replace tb := tb.fr f5 (by omega)
  replace tc := tc.fr f5 (by omega)
  replace tp := tp.fr f5 (by omega)
  simp -dsimp only [go_sem, ↓reduceIte, reduceCtorEq, Nat.reduceEqDiff, Nat.reduceAdd, Nat.reduceLeDiff, Nat.reduceMul, Int.reduceBEq, Int.reduceBNe, Int.reduceLT, Int.reduceLE, Int.reduceGT, Int.reduceGE]
  clear t2 t4
  refine call_of (rel_Comp ta tb (ht.fr p0 (by omega))) ?_
  rintro v6 h6 ⟨f6, t6⟩
  rw [Nat.max_self] at t6
  obtain ⟨q6, rfl⟩ := progPtr t6
  have f6_z := f6.size
  replace p0 := p0.fresh f6 (by omega)
  replace ta := ta.fr f6 (by omega)
  replace tb := tb.fr f6 (by omega)
  replace tc := tc.fr f6 (by omega)
  replace tp := tp.fr f6 (by omega)
  simp -dsimp only [go_sem, ↓reduceIte, reduceCtorEq, Nat.reduceEqDiff, Nat.reduceAdd, Nat.reduceLeDiff, Nat.reduceMul, Int.reduceBEq, Int.reduceBNe, Int.reduceLT, Int.reduceLE, Int.reduceGT, Int.reduceGE]
  refine call_of (rel_Inverse t6 (ht.fr p0 (by omega))) ?_
  rintro v7 h7 ⟨f7, t7⟩
  obtain ⟨q7, rfl⟩ := progPtr t7
  have f7_z := f7.size
  replace p0 := p0.fresh f7 (by omega)
  replace ta := ta.fr f7 (by omega)
  replace tb := tb.fr f7 (by omega)
  replace tc := tc.fr f7 (by omega)
  replace tp := tp.fr f7 (by omega)
  simp -dsimp only [go_sem, ↓reduceIte, reduceCtorEq, Nat.reduceEqDiff, Nat.reduceAdd, Nat.reduceLeDiff, Nat.reduceMul, Int.reduceBEq, Int.reduceBNe, Int.reduceLT, Int.reduceLE, Int.reduceGT, Int.reduceGE]
  refine call_of (rel_Inverse tb (ht.fr p0 (by omega))) ?_
  rintro v8 h8 ⟨f8, t8⟩
  obtain ⟨q8, rfl⟩ := progPtr t8
  have f8_z := f8.size
  replace p0 := p0.fresh f8 (by omega)
  replace ta := ta.fr f8 (by omega)
  replace tb := tb.fr f8 (by omega)
  replace tc := tc.fr f8 (by omega)
  replace tp := tp.fr f8 (by omega)
  replace t7 := t7.fr f8 (by omega)
  simp -dsimp only [go_sem, ↓reduceIte, reduceCtorEq, Nat.reduceEqDiff, Nat.reduceAdd, Nat.reduceLeDiff, Nat.reduceMul, Int.reduceBEq, Int.reduceBNe, Int.reduceLT, Int.reduceLE, Int.reduceGT, Int.reduceGE]
  refine call_of (rel_Inverse ta (ht.fr p0 (by omega))) ?_
  rintro v9 h9 ⟨f9, t9⟩
  obtain ⟨q9, rfl⟩ := progPtr t9
  have f9_z := f9.size
  replace p0 := p0.fresh f9 (by omega)
  replace ta := ta.fr f9 (by omega)
  replace tb := tb.fr f9 (by omega)
  replace tc := tc.fr f9 (by omega)
  replace tp := tp.fr f9 (by omega)
  replace t7 := t7.fr f9 (by omega)
  replace t8 := t8.fr f9 (by omega)
  simp -dsimp only [go_sem, ↓reduceIte, reduceCtorEq, Nat.reduceEqDiff, Nat.reduceAdd, Nat.reduceLeDiff, Nat.reduceMul, Int.reduceBEq, Int.reduceBNe, Int.reduceLT, Int.reduceLE, Int.reduceGT, Int.reduceGE]
  refine call_of (rel_Comp t8 t9 (ht.fr p0 (by omega))) ?_
  rintro v10 h10 ⟨f10, t10⟩
  rw [Nat.max_self] at t10
  obtain ⟨q10, rfl⟩ := progPtr t10
  have f10_z := f10.size
  replace p0 := p0.fresh f10 (by omega)
  replace ta := ta.fr f10 (by omega)
  replace tb := tb.fr f10 (by omega)
  replace tc := tc.fr f10 (by omega)
  replace tp := tp.fr f10 (by omega)
  replace t7 := t7.fr f10 (by omega)
  simp -dsimp only [go_sem, ↓reduceIte, reduceCtorEq, Nat.reduceEqDiff, Nat.reduceAdd, Nat.reduceLeDiff, Nat.reduceMul, Int.reduceBEq, Int.reduceBNe, Int.reduceLT, Int.reduceLE, Int.reduceGT, Int.reduceGE]
  refine call_of (rel_Equal t7 t10 (ht.fr p0 (by omega))) ?_
  rintro v11 h11 ⟨f11, rfl⟩
  rw [eqP (M := (invM (compM k A k B))) (N := (compM k (invM B) k (invM A))) rfl fun i j hi hj => rl_inv]
  have f11_z := f11.size
  replace p0 := p0.fresh f11 (by omega)
  replace ta := ta.fr f11 (by omega)
  replace tb := tb.fr f11 (by omega)
  replace tc := tc.fr f11 (by omega)
  replace tp := tp.fr f11 (by omega)
  simp -dsimp only [go_sem, ↓reduceIte, reduceCtorEq, Nat.reduceEqDiff, Nat.reduceAdd, Nat.reduceLeDiff, Nat.reduceMul, Int.reduceBEq, Int.reduceBNe, Int.reduceLT, Int.reduceLE, Int.reduceGT, Int.reduceGE]
  clear t7 t10
  refine call_of (rel_Inverse ta (ht.fr p0 (by omega))) ?_
  rintro v12 h12 ⟨f12, t12⟩
  obtain ⟨q12, rfl⟩ := progPtr t12
  have f12_z := f12.size
  replace p0 := p0.fresh f12 (by omega)
  replace ta := ta.fr f12 (by omega)
  replace tb := tb.fr f12 (by omega)
  replace tc := tc.fr f12 (by omega)
  replace tp := tp.fr f12 (by omega)
  simp -dsimp only [go_sem, ↓reduceIte, reduceCtorEq, Nat.reduceEqDiff, Nat.reduceAdd, Nat.reduceLeDiff, Nat.reduceMul, Int.reduceBEq, Int.reduceBNe, Int.reduceLT, Int.reduceLE, Int.reduceGT, Int.reduceGE]
  refine call_of (rel_Inverse t12 (ht.fr p0 (by omega))) ?_
  rintro v13 h13 ⟨f13, t13⟩
  obtain ⟨q13, rfl⟩ := progPtr t13
  have f13_z := f13.size
  replace p0 := p0.fresh f13 (by omega)
  replace ta := ta.fr f13 (by omega)
  replace tb := tb.fr f13 (by omega)
  replace tc := tc.fr f13 (by omega)
  replace tp := tp.fr f13 (by omega)
  simp -dsimp only [go_sem, ↓reduceIte, reduceCtorEq, Nat.reduceEqDiff, Nat.reduceAdd, Nat.reduceLeDiff, Nat.reduceMul, Int.reduceBEq, Int.reduceBNe, Int.reduceLT, Int.reduceLE, Int.reduceGT, Int.reduceGE]
  refine call_of (rel_Equal t13 ta (ht.fr p0 (by omega))) ?_
  rintro v14 h14 ⟨f14, rfl⟩
  rw [eqP (M := (invM (invM A))) (N := A) rfl fun i j hi hj => Iff.rfl]
  have f14_z := f14.size
  replace p0 := p0.fresh f14 (by omega)
  replace ta := ta.fr f14 (by omega)
  replace tb := tb.fr f14 (by omega)
  replace tc := tc.fr f14 (by omega)
  replace tp := tp.fr f14 (by omega)
  simp -dsimp only [go_sem, ↓reduceIte, reduceCtorEq, Nat.reduceEqDiff, Nat.reduceAdd, Nat.reduceLeDiff, Nat.reduceMul, Int.reduceBEq, Int.reduceBNe, Int.reduceLT, Int.reduceLE, Int.reduceGT, Int.reduceGE]
  clear t13
  intro b16 h16 n16
  have n16_a := n16.at_
  have n16_z := n16.size
  replace p0 := p0.fresh (n16.fr (lo := 0) (hi := 0)) (by omega)
  replace ta := ta.fr (n16.fr (lo := 0) (hi := 0)) (by omega)
  replace tb := tb.fr (n16.fr (lo := 0) (hi := 0)) (by omega)
  replace tc := tc.fr (n16.fr (lo := 0) (hi := 0)) (by omega)
  replace tp := tp.fr (n16.fr (lo := 0) (hi := 0)) (by omega)
  have r16 := n16.row
  simp -dsimp only [go_sem, ↓reduceIte, reduceCtorEq, Nat.reduceEqDiff, Nat.reduceAdd, Nat.reduceLeDiff, Nat.reduceMul, Int.reduceBEq, Int.reduceBNe, Int.reduceLT, Int.reduceLE, Int.reduceGT, Int.reduceGE, r16.cell]
  refine call_of (rel_Union (L := [((.pointer (some ⟨pb, 0, none⟩)), k, B), ((.pointer (some ⟨pc, 0, none⟩)), k, C)]) (r16.rd rfl) (rels2 tb tc) (show 2 ≤ 65536 by decide)) ?_
  rintro v15 h15 ⟨f15, t15⟩
  rw [maxN2] at t15
  obtain ⟨q15, rfl⟩ := progPtr t15
  have f15_z := f15.size
  replace p0 := p0.fresh f15 (by omega)
  replace ta := ta.fr f15 (by omega)
  replace tb := tb.fr f15 (by omega)
  replace tc := tc.fr f15 (by omega)
  replace tp := tp.fr f15 (by omega)
  simp -dsimp only [go_sem, ↓reduceIte, reduceCtorEq, Nat.reduceEqDiff, Nat.reduceAdd, Nat.reduceLeDiff, Nat.reduceMul, Int.reduceBEq, Int.reduceBNe, Int.reduceLT, Int.reduceLE, Int.reduceGT, Int.reduceGE]
  refine call_of (rel_Comp ta t15 (ht.fr p0 (by omega))) ?_
  rintro v17 h17 ⟨f17, t17⟩
  rw [Nat.max_self] at t17
  obtain ⟨q17, rfl⟩ := progPtr t17
  have f17_z := f17.size
  replace p0 := p0.fresh f17 (by omega)
  replace ta := ta.fr f17 (by omega)
  replace tb := tb.fr f17 (by omega)
  replace tc := tc.fr f17 (by omega)
  replace tp := tp.fr f17 (by omega)
  simp -dsimp only [go_sem, ↓reduceIte, reduceCtorEq, Nat.reduceEqDiff, Nat.reduceAdd, Nat.reduceLeDiff, Nat.reduceMul, Int.reduceBEq, Int.reduceBNe, Int.reduceLT, Int.reduceLE, Int.reduceGT, Int.reduceGE]
  refine call_of (rel_Comp ta tb (ht.fr p0 (by omega))) ?_
  rintro v18 h18 ⟨f18, t18⟩
  rw [Nat.max_self] at t18
  obtain ⟨q18, rfl⟩ := progPtr t18
  have f18_z := f18.size
  replace p0 := p0.fresh f18 (by omega)
  replace ta := ta.fr f18 (by omega)
  replace tb := tb.fr f18 (by omega)
  replace tc := tc.fr f18 (by omega)
  replace tp := tp.fr f18 (by omega)
  replace t17 := t17.fr f18 (by omega)
  simp -dsimp only [go_sem, ↓reduceIte, reduceCtorEq, Nat.reduceEqDiff, Nat.reduceAdd, Nat.reduceLeDiff, Nat.reduceMul, Int.reduceBEq, Int.reduceBNe, Int.reduceLT, Int.reduceLE, Int.reduceGT, Int.reduceGE]
  refine call_of (rel_Comp ta tc (ht.fr p0 (by omega))) ?_
  rintro v19 h19 ⟨f19, t19⟩
  rw [Nat.max_self] at t19
  obtain ⟨q19, rfl⟩ := progPtr t19
  have f19_z := f19.size
  replace p0 := p0.fresh f19 (by omega)
  replace ta := ta.fr f19 (by omega)
  replace tb := tb.fr f19 (by omega)
  replace tc := tc.fr f19 (by omega)
  replace tp := tp.fr f19 (by omega)
  replace t17 := t17.fr f19 (by omega)
  replace t18 := t18.fr f19 (by omega)
  simp -dsimp only [go_sem, ↓reduceIte, reduceCtorEq, Nat.reduceEqDiff, Nat.reduceAdd, Nat.reduceLeDiff, Nat.reduceMul, Int.reduceBEq, Int.reduceBNe, Int.reduceLT, Int.reduceLE, Int.reduceGT, Int.reduceGE]
  intro b21 h21 n21
  have n21_a := n21.at_
  have n21_z := n21.size
  replace p0 := p0.fresh (n21.fr (lo := 0) (hi := 0)) (by omega)
  replace ta := ta.fr (n21.fr (lo := 0) (hi := 0)) (by omega)
  replace tb := tb.fr (n21.fr (lo := 0) (hi := 0)) (by omega)
  replace tc := tc.fr (n21.fr (lo := 0) (hi := 0)) (by omega)
  replace tp := tp.fr (n21.fr (lo := 0) (hi := 0)) (by omega)
  replace t17 := t17.fr (n21.fr (lo := 0) (hi := 0)) (by omega)
  replace t18 := t18.fr (n21.fr (lo := 0) (hi := 0)) (by omega)
  replace t19 := t19.fr (n21.fr (lo := 0) (hi := 0)) (by omega)
  have r21 := n21.row
  simp -dsimp only [go_sem, ↓reduceIte, reduceCtorEq, Nat.reduceEqDiff, Nat.reduceAdd, Nat.reduceLeDiff, Nat.reduceMul, Int.reduceBEq, Int.reduceBNe, Int.reduceLT, Int.reduceLE, Int.reduceGT, Int.reduceGE, r21.cell]
  refine call_of (rel_Union (L := [((.pointer (some ⟨q18, 0, none⟩)), k, (compM k A k B)), ((.pointer (some ⟨q19, 0, none⟩)), k, (compM k A k C))]) (r21.rd rfl) (rels2 t18 t19) (show 2 ≤ 65536 by decide)) ?_
  rintro v20 h20 ⟨f20, t20⟩
  rw [maxN2] at t20
  obtain ⟨q20, rfl⟩ := progPtr t20
  have f20_z := f20.size
  replace p0 := p0.fresh f20 (by omega)
  replace ta := ta.fr f20 (by omega)
  replace tb := tb.fr f20 (by omega)
  replace tc := tc.fr f20 (by omega)
  replace tp := tp.fr f20 (by omega)
  replace t17 := t17.fr f20 (by omega)
  simp -dsimp only [go_sem, ↓reduceIte, reduceCtorEq, Nat.reduceEqDiff, Nat.reduceAdd, Nat.reduceLeDiff, Nat.reduceMul, Int.reduceBEq, Int.reduceBNe, Int.reduceLT, Int.reduceLE, Int.reduceGT, Int.reduceGE]
  refine call_of (rel_Equal t17 t20 (ht.fr p0 (by omega))) ?_
  rintro v22 h22 ⟨f22, rfl⟩
  rw [eqP (M := (compM k A k (anyM [((.pointer (some ⟨pb, 0, none⟩)), k, B), ((.pointer (some ⟨pc, 0, none⟩)), k, C)]))) (N := (anyM [((.pointer (some ⟨q18, 0, none⟩)), k, (compM k A k B)), ((.pointer (some ⟨q19, 0, none⟩)), k, (compM k A k C))])) rfl fun i j hi hj => rl_dist]
  have f22_z := f22.size
  replace p0 := p0.fresh f22 (by omega)
  replace ta := ta.fr f22 (by omega)
  replace tb := tb.fr f22 (by omega)
  replace tc := tc.fr f22 (by omega)
  replace tp := tp.fr f22 (by omega)
  simp -dsimp only [go_sem, ↓reduceIte, reduceCtorEq, Nat.reduceEqDiff, Nat.reduceAdd, Nat.reduceLeDiff, Nat.reduceMul, Int.reduceBEq, Int.reduceBNe, Int.reduceLT, Int.reduceLE, Int.reduceGT, Int.reduceGE]
  clear t17 t20
  refine call_of (rel_Minus ta tb (ht.fr p0 (by omega))) ?_
  rintro v23 h23 ⟨f23, t23⟩
  rw [Nat.max_self] at t23
  obtain ⟨q23, rfl⟩ := progPtr t23
  have f23_z := f23.size
  replace p0 := p0.fresh f23 (by omega)
  replace ta := ta.fr f23 (by omega)
  replace tb := tb.fr f23 (by omega)
  replace tc := tc.fr f23 (by omega)
  replace tp := tp.fr f23 (by omega)
  simp -dsimp only [go_sem, ↓reduceIte, reduceCtorEq, Nat.reduceEqDiff, Nat.reduceAdd, Nat.reduceLeDiff, Nat.reduceMul, Int.reduceBEq, Int.reduceBNe, Int.reduceLT, Int.reduceLE, Int.reduceGT, Int.reduceGE]
  refine call_of (rel_Inter ta tb (ht.fr p0 (by omega))) ?_
  rintro v24 h24 ⟨f24, t24⟩
  rw [Nat.max_self] at t24
  obtain ⟨q24, rfl⟩ := progPtr t24
  have f24_z := f24.size
  replace p0 := p0.fresh f24 (by omega)
  replace ta := ta.fr f24 (by omega)
  replace tb := tb.fr f24 (by omega)
  replace tc := tc.fr f24 (by omega)
  replace tp := tp.fr f24 (by omega)
  replace t23 := t23.fr f24 (by omega)
  simp -dsimp only [go_sem, ↓reduceIte, reduceCtorEq, Nat.reduceEqDiff, Nat.reduceAdd, Nat.reduceLeDiff, Nat.reduceMul, Int.reduceBEq, Int.reduceBNe, Int.reduceLT, Int.reduceLE, Int.reduceGT, Int.reduceGE]
  intro b26 h26 n26
  have n26_a := n26.at_
  have n26_z := n26.size
  replace p0 := p0.fresh (n26.fr (lo := 0) (hi := 0)) (by omega)
  replace ta := ta.fr (n26.fr (lo := 0) (hi := 0)) (by omega)
  replace tb := tb.fr (n26.fr (lo := 0) (hi := 0)) (by omega)
  replace tc := tc.fr (n26.fr (lo := 0) (hi := 0)) (by omega)
  replace tp := tp.fr (n26.fr (lo := 0) (hi := 0)) (by omega)
  replace t23 := t23.fr (n26.fr (lo := 0) (hi := 0)) (by omega)
  replace t24 := t24.fr (n26.fr (lo := 0) (hi := 0)) (by omega)
  have r26 := n26.row
  simp -dsimp only [go_sem, ↓reduceIte, reduceCtorEq, Nat.reduceEqDiff, Nat.reduceAdd, Nat.reduceLeDiff, Nat.reduceMul, Int.reduceBEq, Int.reduceBNe, Int.reduceLT, Int.reduceLE, Int.reduceGT, Int.reduceGE, r26.cell]
  refine call_of (rel_Union (L := [((.pointer (some ⟨q23, 0, none⟩)), k, (minusM k A k B)), ((.pointer (some ⟨q24, 0, none⟩)), k, (interM k A k B))]) (r26.rd rfl) (rels2 t23 t24) (show 2 ≤ 65536 by decide)) ?_
  rintro v25 h25 ⟨f25, t25⟩
  rw [maxN2] at t25
  obtain ⟨q25, rfl⟩ := progPtr t25
  have f25_z := f25.size
  replace p0 := p0.fresh f25 (by omega)
  replace ta := ta.fr f25 (by omega)
  replace tb := tb.fr f25 (by omega)
  replace tc := tc.fr f25 (by omega)
  replace tp := tp.fr f25 (by omega)
  simp -dsimp only [go_sem, ↓reduceIte, reduceCtorEq, Nat.reduceEqDiff, Nat.reduceAdd, Nat.reduceLeDiff, Nat.reduceMul, Int.reduceBEq, Int.reduceBNe, Int.reduceLT, Int.reduceLE, Int.reduceGT, Int.reduceGE]
  refine call_of (rel_Equal t25 ta (ht.fr p0 (by omega))) ?_
  rintro v27 h27 ⟨f27, rfl⟩
  rw [eqP (M := (anyM [((.pointer (some ⟨q23, 0, none⟩)), k, (minusM k A k B)), ((.pointer (some ⟨q24, 0, none⟩)), k, (interM k A k B))])) (N := A) rfl fun i j hi hj => rl_cut hi hj]
  have f27_z := f27.size
  replace p0 := p0.fresh f27 (by omega)
  replace ta := ta.fr f27 (by omega)
  replace tb := tb.fr f27 (by omega)
  replace tc := tc.fr f27 (by omega)
  replace tp := tp.fr f27 (by omega)
  simp -dsimp only [go_sem, ↓reduceIte, reduceCtorEq, Nat.reduceEqDiff, Nat.reduceAdd, Nat.reduceLeDiff, Nat.reduceMul, Int.reduceBEq, Int.reduceBNe, Int.reduceLT, Int.reduceLE, Int.reduceGT, Int.reduceGE]
  clear t25
  refine call_of (rel_Plus tp) ?_
  rintro v28 h28 ⟨f28, t28⟩
  obtain ⟨q28, rfl⟩ := progPtr t28
  have f28_z := f28.size
  replace p0 := p0.fresh f28 (by omega)
  replace ta := ta.fr f28 (by omega)
  replace tb := tb.fr f28 (by omega)
  replace tc := tc.fr f28 (by omega)
  replace tp := tp.fr f28 (by omega)
  simp -dsimp only [go_sem, ↓reduceIte, reduceCtorEq, Nat.reduceEqDiff, Nat.reduceAdd, Nat.reduceLeDiff, Nat.reduceMul, Int.reduceBEq, Int.reduceBNe, Int.reduceLT, Int.reduceLE, Int.reduceGT, Int.reduceGE]
  refine call_of (rel_Equal t28 tp (ht.fr p0 (by omega))) ?_
  rintro v29 h29 ⟨f29, rfl⟩
  rw [eqP (M := (plusM k (plusM k A))) (N := (plusM k A)) rfl fun i j hi hj => rl_pp hi hj]
  have f29_z := f29.size
  replace p0 := p0.fresh f29 (by omega)
  replace ta := ta.fr f29 (by omega)
  replace tb := tb.fr f29 (by omega)
  replace tc := tc.fr f29 (by omega)
  replace tp := tp.fr f29 (by omega)
  simp -dsimp only [go_sem, ↓reduceIte, reduceCtorEq, Nat.reduceEqDiff, Nat.reduceAdd, Nat.reduceLeDiff, Nat.reduceMul, Int.reduceBEq, Int.reduceBNe, Int.reduceLT, Int.reduceLE, Int.reduceGT, Int.reduceGE]
  clear t28
  refine call_of (rel_Comp tp tp (ht.fr p0 (by omega))) ?_
  rintro v30 h30 ⟨f30, t30⟩
  rw [Nat.max_self] at t30
  obtain ⟨q30, rfl⟩ := progPtr t30
  have f30_z := f30.size
  replace p0 := p0.fresh f30 (by omega)
  replace ta := ta.fr f30 (by omega)
  replace tb := tb.fr f30 (by omega)
  replace tc := tc.fr f30 (by omega)
  replace tp := tp.fr f30 (by omega)
  simp -dsimp only [go_sem, ↓reduceIte, reduceCtorEq, Nat.reduceEqDiff, Nat.reduceAdd, Nat.reduceLeDiff, Nat.reduceMul, Int.reduceBEq, Int.reduceBNe, Int.reduceLT, Int.reduceLE, Int.reduceGT, Int.reduceGE]
  refine call_of (rel_Within t30 tp (ht.fr p0 (by omega))) ?_
  rintro v31 h31 ⟨f31, rfl⟩
  rw [inP rfl fun i j hi hj => rl_trans]
  have f31_z := f31.size
  replace p0 := p0.fresh f31 (by omega)
  replace ta := ta.fr f31 (by omega)
  replace tb := tb.fr f31 (by omega)
  replace tc := tc.fr f31 (by omega)
  replace tp := tp.fr f31 (by omega)
  simp -dsimp only [go_sem, ↓reduceIte, reduceCtorEq, Nat.reduceEqDiff, Nat.reduceAdd, Nat.reduceLeDiff, Nat.reduceMul, Int.reduceBEq, Int.reduceBNe, Int.reduceLT, Int.reduceLE, Int.reduceGT, Int.reduceGE]
  clear t30
  refine call_of (rel_Within ta tp (ht.fr p0 (by omega))) ?_
  rintro v32 h32 ⟨f32, rfl⟩
  rw [inP rfl fun i j hi hj => plus_sub]
  have f32_z := f32.size
  replace p0 := p0.fresh f32 (by omega)
  replace ta := ta.fr f32 (by omega)
  replace tb := tb.fr f32 (by omega)
  replace tc := tc.fr f32 (by omega)
  replace tp := tp.fr f32 (by omega)
  simp -dsimp only [go_sem, ↓reduceIte, reduceCtorEq, Nat.reduceEqDiff, Nat.reduceAdd, Nat.reduceLeDiff, Nat.reduceMul, Int.reduceBEq, Int.reduceBNe, Int.reduceLT, Int.reduceLE, Int.reduceGT, Int.reduceGE]
  refine call_of (rel_Comp ta tp (ht.fr p0 (by omega))) ?_
  rintro v33 h33 ⟨f33, t33⟩
  rw [Nat.max_self] at t33
  obtain ⟨q33, rfl⟩ := progPtr t33
  have f33_z := f33.size
  replace p0 := p0.fresh f33 (by omega)
  replace ta := ta.fr f33 (by omega)
  replace tb := tb.fr f33 (by omega)
  replace tc := tc.fr f33 (by omega)
  replace tp := tp.fr f33 (by omega)
  simp -dsimp only [go_sem, ↓reduceIte, reduceCtorEq, Nat.reduceEqDiff, Nat.reduceAdd, Nat.reduceLeDiff, Nat.reduceMul, Int.reduceBEq, Int.reduceBNe, Int.reduceLT, Int.reduceLE, Int.reduceGT, Int.reduceGE]
  intro b35 h35 n35
  have n35_a := n35.at_
  have n35_z := n35.size
  replace p0 := p0.fresh (n35.fr (lo := 0) (hi := 0)) (by omega)
  replace ta := ta.fr (n35.fr (lo := 0) (hi := 0)) (by omega)
  replace tb := tb.fr (n35.fr (lo := 0) (hi := 0)) (by omega)
  replace tc := tc.fr (n35.fr (lo := 0) (hi := 0)) (by omega)
  replace tp := tp.fr (n35.fr (lo := 0) (hi := 0)) (by omega)
  replace t33 := t33.fr (n35.fr (lo := 0) (hi := 0)) (by omega)
  have r35 := n35.row
  simp -dsimp only [go_sem, ↓reduceIte, reduceCtorEq, Nat.reduceEqDiff, Nat.reduceAdd, Nat.reduceLeDiff, Nat.reduceMul, Int.reduceBEq, Int.reduceBNe, Int.reduceLT, Int.reduceLE, Int.reduceGT, Int.reduceGE, r35.cell]
  refine call_of (rel_Union (L := [((.pointer (some ⟨pa, 0, none⟩)), k, A), ((.pointer (some ⟨q33, 0, none⟩)), k, (compM k A k (plusM k A)))]) (r35.rd rfl) (rels2 ta t33) (show 2 ≤ 65536 by decide)) ?_
  rintro v34 h34 ⟨f34, t34⟩
  rw [maxN2] at t34
  obtain ⟨q34, rfl⟩ := progPtr t34
  have f34_z := f34.size
  replace p0 := p0.fresh f34 (by omega)
  replace ta := ta.fr f34 (by omega)
  replace tb := tb.fr f34 (by omega)
  replace tc := tc.fr f34 (by omega)
  replace tp := tp.fr f34 (by omega)
  simp -dsimp only [go_sem, ↓reduceIte, reduceCtorEq, Nat.reduceEqDiff, Nat.reduceAdd, Nat.reduceLeDiff, Nat.reduceMul, Int.reduceBEq, Int.reduceBNe, Int.reduceLT, Int.reduceLE, Int.reduceGT, Int.reduceGE]
  refine call_of (rel_Equal tp t34 (ht.fr p0 (by omega))) ?_
  rintro v36 h36 ⟨f36, rfl⟩
  rw [eqP (M := (plusM k A)) (N := (anyM [((.pointer (some ⟨pa, 0, none⟩)), k, A), ((.pointer (some ⟨q33, 0, none⟩)), k, (compM k A k (plusM k A)))])) rfl fun i j hi hj => rl_rec hi hj]
  have f36_z := f36.size
  replace p0 := p0.fresh f36 (by omega)
  replace ta := ta.fr f36 (by omega)
  replace tb := tb.fr f36 (by omega)
  replace tc := tc.fr f36 (by omega)
  replace tp := tp.fr f36 (by omega)
  simp -dsimp only [go_sem, ↓reduceIte, reduceCtorEq, Nat.reduceEqDiff, Nat.reduceAdd, Nat.reduceLeDiff, Nat.reduceMul, Int.reduceBEq, Int.reduceBNe, Int.reduceLT, Int.reduceLE, Int.reduceGT, Int.reduceGE]
  clear t34
  refine call_of (rel_Inverse ta (ht.fr p0 (by omega))) ?_
  rintro v37 h37 ⟨f37, t37⟩
  obtain ⟨q37, rfl⟩ := progPtr t37
  have f37_z := f37.size
  replace p0 := p0.fresh f37 (by omega)
  replace ta := ta.fr f37 (by omega)
  replace tb := tb.fr f37 (by omega)
  replace tc := tc.fr f37 (by omega)
  replace tp := tp.fr f37 (by omega)
  simp -dsimp only [go_sem, ↓reduceIte, reduceCtorEq, Nat.reduceEqDiff, Nat.reduceAdd, Nat.reduceLeDiff, Nat.reduceMul, Int.reduceBEq, Int.reduceBNe, Int.reduceLT, Int.reduceLE, Int.reduceGT, Int.reduceGE]
  refine call_of (rel_Plus t37) ?_
  rintro v38 h38 ⟨f38, t38⟩
  obtain ⟨q38, rfl⟩ := progPtr t38
  have f38_z := f38.size
  replace p0 := p0.fresh f38 (by omega)
  replace ta := ta.fr f38 (by omega)
  replace tb := tb.fr f38 (by omega)
  replace tc := tc.fr f38 (by omega)
  replace tp := tp.fr f38 (by omega)
  simp -dsimp only [go_sem, ↓reduceIte, reduceCtorEq, Nat.reduceEqDiff, Nat.reduceAdd, Nat.reduceLeDiff, Nat.reduceMul, Int.reduceBEq, Int.reduceBNe, Int.reduceLT, Int.reduceLE, Int.reduceGT, Int.reduceGE]
  refine call_of (rel_Inverse tp (ht.fr p0 (by omega))) ?_
  rintro v39 h39 ⟨f39, t39⟩
  obtain ⟨q39, rfl⟩ := progPtr t39
  have f39_z := f39.size
  replace p0 := p0.fresh f39 (by omega)
  replace ta := ta.fr f39 (by omega)
  replace tb := tb.fr f39 (by omega)
  replace tc := tc.fr f39 (by omega)
  replace tp := tp.fr f39 (by omega)
  replace t38 := t38.fr f39 (by omega)
  simp -dsimp only [go_sem, ↓reduceIte, reduceCtorEq, Nat.reduceEqDiff, Nat.reduceAdd, Nat.reduceLeDiff, Nat.reduceMul, Int.reduceBEq, Int.reduceBNe, Int.reduceLT, Int.reduceLE, Int.reduceGT, Int.reduceGE]
  refine call_of (rel_Equal t38 t39 (ht.fr p0 (by omega))) ?_
  rintro v40 h40 ⟨f40, rfl⟩
  rw [eqP (M := (plusM k (invM A))) (N := (invM (plusM k A))) rfl fun i j hi hj => rl_pinv hi hj]
  have f40_z := f40.size
  replace p0 := p0.fresh f40 (by omega)
  replace ta := ta.fr f40 (by omega)
  replace tb := tb.fr f40 (by omega)
  replace tc := tc.fr f40 (by omega)
  replace tp := tp.fr f40 (by omega)
  simp -dsimp only [go_sem, ↓reduceIte, reduceCtorEq, Nat.reduceEqDiff, Nat.reduceAdd, Nat.reduceLeDiff, Nat.reduceMul, Int.reduceBEq, Int.reduceBNe, Int.reduceLT, Int.reduceLE, Int.reduceGT, Int.reduceGE]
  clear t38 t39
  refine call_of (rel_Star ta) ?_
  rintro v41 h41 ⟨f41, t41⟩
  obtain ⟨q41, rfl⟩ := progPtr t41
  have f41_z := f41.size
  replace p0 := p0.fresh f41 (by omega)
  replace ta := ta.fr f41 (by omega)
  replace tb := tb.fr f41 (by omega)
  replace tc := tc.fr f41 (by omega)
  replace tp := tp.fr f41 (by omega)
  simp -dsimp only [go_sem, ↓reduceIte, reduceCtorEq, Nat.reduceEqDiff, Nat.reduceAdd, Nat.reduceLeDiff, Nat.reduceMul, Int.reduceBEq, Int.reduceBNe, Int.reduceLT, Int.reduceLE, Int.reduceGT, Int.reduceGE]
  refine call_of (rel_Opt tp) ?_
  rintro v42 h42 ⟨f42, t42⟩
  obtain ⟨q42, rfl⟩ := progPtr t42
  have f42_z := f42.size
  replace p0 := p0.fresh f42 (by omega)
  replace ta := ta.fr f42 (by omega)
  replace tb := tb.fr f42 (by omega)
  replace tc := tc.fr f42 (by omega)
  replace tp := tp.fr f42 (by omega)
  replace t41 := t41.fr f42 (by omega)
  simp -dsimp only [go_sem, ↓reduceIte, reduceCtorEq, Nat.reduceEqDiff, Nat.reduceAdd, Nat.reduceLeDiff, Nat.reduceMul, Int.reduceBEq, Int.reduceBNe, Int.reduceLT, Int.reduceLE, Int.reduceGT, Int.reduceGE]
  refine call_of (rel_Equal t41 t42 (ht.fr p0 (by omega))) ?_
  rintro v43 h43 ⟨f43, rfl⟩
  rw [eqP (M := (optM (plusM k A))) (N := (optM (plusM k A))) rfl fun i j hi hj => Iff.rfl]
  have f43_z := f43.size
  replace p0 := p0.fresh f43 (by omega)
  replace ta := ta.fr f43 (by omega)
  replace tb := tb.fr f43 (by omega)
  replace tc := tc.fr f43 (by omega)
  replace tp := tp.fr f43 (by omega)
  simp -dsimp only [go_sem, ↓reduceIte, reduceCtorEq, Nat.reduceEqDiff, Nat.reduceAdd, Nat.reduceLeDiff, Nat.reduceMul, Int.reduceBEq, Int.reduceBNe, Int.reduceLT, Int.reduceLE, Int.reduceGT, Int.reduceGE]
  clear t41 t42
  refine call_of (rel_Inter ta tb (ht.fr p0 (by omega))) ?_
  rintro v44 h44 ⟨f44, t44⟩
  rw [Nat.max_self] at t44
  obtain ⟨q44, rfl⟩ := progPtr t44
  have f44_z := f44.size
  replace p0 := p0.fresh f44 (by omega)
  replace ta := ta.fr f44 (by omega)
  replace tb := tb.fr f44 (by omega)
  replace tc := tc.fr f44 (by omega)
  replace tp := tp.fr f44 (by omega)
  simp -dsimp only [go_sem, ↓reduceIte, reduceCtorEq, Nat.reduceEqDiff, Nat.reduceAdd, Nat.reduceLeDiff, Nat.reduceMul, Int.reduceBEq, Int.reduceBNe, Int.reduceLT, Int.reduceLE, Int.reduceGT, Int.reduceGE]
  refine call_of (rel_Inter tb ta (ht.fr p0 (by omega))) ?_
  rintro v45 h45 ⟨f45, t45⟩
  rw [Nat.max_self] at t45
  obtain ⟨q45, rfl⟩ := progPtr t45
  have f45_z := f45.size
  replace p0 := p0.fresh f45 (by omega)
  replace ta := ta.fr f45 (by omega)
  replace tb := tb.fr f45 (by omega)
  replace tc := tc.fr f45 (by omega)
  replace tp := tp.fr f45 (by omega)
  replace t44 := t44.fr f45 (by omega)
  simp -dsimp only [go_sem, ↓reduceIte, reduceCtorEq, Nat.reduceEqDiff, Nat.reduceAdd, Nat.reduceLeDiff, Nat.reduceMul, Int.reduceBEq, Int.reduceBNe, Int.reduceLT, Int.reduceLE, Int.reduceGT, Int.reduceGE]
  refine call_of (rel_Equal t44 t45 (ht.fr p0 (by omega))) ?_
  rintro v46 h46 ⟨f46, rfl⟩
  rw [eqP (M := (interM k A k B)) (N := (interM k B k A)) rfl fun i j hi hj => rl_icomm]
  have f46_z := f46.size
  replace p0 := p0.fresh f46 (by omega)
  replace ta := ta.fr f46 (by omega)
  replace tb := tb.fr f46 (by omega)
  replace tc := tc.fr f46 (by omega)
  replace tp := tp.fr f46 (by omega)
  simp -dsimp only [go_sem, ↓reduceIte, reduceCtorEq, Nat.reduceEqDiff, Nat.reduceAdd, Nat.reduceLeDiff, Nat.reduceMul, Int.reduceBEq, Int.reduceBNe, Int.reduceLT, Int.reduceLE, Int.reduceGT, Int.reduceGE]
  clear t44 t45
  intro b48 h48 n48
  have n48_a := n48.at_
  have n48_z := n48.size
  replace p0 := p0.fresh (n48.fr (lo := 0) (hi := 0)) (by omega)
  replace ta := ta.fr (n48.fr (lo := 0) (hi := 0)) (by omega)
  replace tb := tb.fr (n48.fr (lo := 0) (hi := 0)) (by omega)
  replace tc := tc.fr (n48.fr (lo := 0) (hi := 0)) (by omega)
  replace tp := tp.fr (n48.fr (lo := 0) (hi := 0)) (by omega)
  have r48 := n48.row
  simp -dsimp only [go_sem, ↓reduceIte, reduceCtorEq, Nat.reduceEqDiff, Nat.reduceAdd, Nat.reduceLeDiff, Nat.reduceMul, Int.reduceBEq, Int.reduceBNe, Int.reduceLT, Int.reduceLE, Int.reduceGT, Int.reduceGE, r48.cell]
  refine call_of (rel_Union (L := [((.pointer (some ⟨pa, 0, none⟩)), k, A), ((.pointer (some ⟨pb, 0, none⟩)), k, B)]) (r48.rd rfl) (rels2 ta tb) (show 2 ≤ 65536 by decide)) ?_
  rintro v47 h47 ⟨f47, t47⟩
  rw [maxN2] at t47
  obtain ⟨q47, rfl⟩ := progPtr t47
  have f47_z := f47.size
  replace p0 := p0.fresh f47 (by omega)
  replace ta := ta.fr f47 (by omega)
  replace tb := tb.fr f47 (by omega)
  replace tc := tc.fr f47 (by omega)
  replace tp := tp.fr f47 (by omega)
  simp -dsimp only [go_sem, ↓reduceIte, reduceCtorEq, Nat.reduceEqDiff, Nat.reduceAdd, Nat.reduceLeDiff, Nat.reduceMul, Int.reduceBEq, Int.reduceBNe, Int.reduceLT, Int.reduceLE, Int.reduceGT, Int.reduceGE]
  intro b50 h50 n50
  have n50_a := n50.at_
  have n50_z := n50.size
  replace p0 := p0.fresh (n50.fr (lo := 0) (hi := 0)) (by omega)
  replace ta := ta.fr (n50.fr (lo := 0) (hi := 0)) (by omega)
  replace tb := tb.fr (n50.fr (lo := 0) (hi := 0)) (by omega)
  replace tc := tc.fr (n50.fr (lo := 0) (hi := 0)) (by omega)
  replace tp := tp.fr (n50.fr (lo := 0) (hi := 0)) (by omega)
  replace t47 := t47.fr (n50.fr (lo := 0) (hi := 0)) (by omega)
  have r50 := n50.row
  simp -dsimp only [go_sem, ↓reduceIte, reduceCtorEq, Nat.reduceEqDiff, Nat.reduceAdd, Nat.reduceLeDiff, Nat.reduceMul, Int.reduceBEq, Int.reduceBNe, Int.reduceLT, Int.reduceLE, Int.reduceGT, Int.reduceGE, r50.cell]
  refine call_of (rel_Union (L := [((.pointer (some ⟨pb, 0, none⟩)), k, B), ((.pointer (some ⟨pa, 0, none⟩)), k, A)]) (r50.rd rfl) (rels2 tb ta) (show 2 ≤ 65536 by decide)) ?_
  rintro v49 h49 ⟨f49, t49⟩
  rw [maxN2] at t49
  obtain ⟨q49, rfl⟩ := progPtr t49
  have f49_z := f49.size
  replace p0 := p0.fresh f49 (by omega)
  replace ta := ta.fr f49 (by omega)
  replace tb := tb.fr f49 (by omega)
  replace tc := tc.fr f49 (by omega)
  replace tp := tp.fr f49 (by omega)
  replace t47 := t47.fr f49 (by omega)
  simp -dsimp only [go_sem, ↓reduceIte, reduceCtorEq, Nat.reduceEqDiff, Nat.reduceAdd, Nat.reduceLeDiff, Nat.reduceMul, Int.reduceBEq, Int.reduceBNe, Int.reduceLT, Int.reduceLE, Int.reduceGT, Int.reduceGE]
  refine call_of (rel_Equal t47 t49 (ht.fr p0 (by omega))) ?_
  rintro v51 h51 ⟨f51, rfl⟩
  rw [eqP (M := (anyM [((.pointer (some ⟨pa, 0, none⟩)), k, A), ((.pointer (some ⟨pb, 0, none⟩)), k, B)])) (N := (anyM [((.pointer (some ⟨pb, 0, none⟩)), k, B), ((.pointer (some ⟨pa, 0, none⟩)), k, A)])) rfl fun i j hi hj => rl_ucomm]
  have f51_z := f51.size
  replace p0 := p0.fresh f51 (by omega)
  replace ta := ta.fr f51 (by omega)
  replace tb := tb.fr f51 (by omega)
  replace tc := tc.fr f51 (by omega)
  replace tp := tp.fr f51 (by omega)
  simp -dsimp only [go_sem, ↓reduceIte, reduceCtorEq, Nat.reduceEqDiff, Nat.reduceAdd, Nat.reduceLeDiff, Nat.reduceMul, Int.reduceBEq, Int.reduceBNe, Int.reduceLT, Int.reduceLE, Int.reduceGT, Int.reduceGE]
  clear t47 t49
  refine call_of (rel_Acyclic ta) ?_
  rintro v hq ⟨fq, rfl⟩
  have fq_z := fq.size
  replace p0 := p0.fresh fq (by omega)
  replace ta := ta.fr fq (by omega)
  replace tb := tb.fr fq (by omega)
  replace tc := tc.fr fq (by omega)
  replace tp := tp.fr fq (by omega)
  cases hI : irrB k (plusM k A) with
  | true =>
    simp -dsimp only [go_sem, ↓reduceIte, reduceCtorEq, Nat.reduceEqDiff, Nat.reduceAdd, Nat.reduceLeDiff, Nat.reduceMul, Int.reduceBEq, Int.reduceBNe, Int.reduceLT, Int.reduceLE, Int.reduceGT, Int.reduceGE]
    refine call_of (rel_Acyclic ta) ?_
    rintro v hr ⟨fr, rfl⟩
    have fr_z := fr.size
    replace p0 := p0.fresh fr (by omega)
    replace ta := ta.fr fr (by omega)
    replace tb := tb.fr fr (by omega)
    replace tc := tc.fr fr (by omega)
    replace tp := tp.fr fr (by omega)
    simp -dsimp only [go_sem, ↓reduceIte, reduceCtorEq, Nat.reduceEqDiff, Nat.reduceAdd, Nat.reduceLeDiff, Nat.reduceMul, Int.reduceBEq, Int.reduceBNe, Int.reduceLT, Int.reduceLE, Int.reduceGT, Int.reduceGE]
    refine call_of (rel_Irreflexive tp) ?_
    rintro v hs ⟨rfl, rfl⟩
    rw [hI]
    simp -dsimp only [go_sem, ↓reduceIte, reduceCtorEq, Nat.reduceEqDiff, Nat.reduceAdd, Nat.reduceLeDiff, Nat.reduceMul, Int.reduceBEq, Int.reduceBNe, Int.reduceLT, Int.reduceLE, Int.reduceGT, Int.reduceGE]
    exact p0
  | false =>
    simp -dsimp only [go_sem, ↓reduceIte, reduceCtorEq, Nat.reduceEqDiff, Nat.reduceAdd, Nat.reduceLeDiff, Nat.reduceMul, Int.reduceBEq, Int.reduceBNe, Int.reduceLT, Int.reduceLE, Int.reduceGT, Int.reduceGE]
    intro b' h' n'
    have n'_a := n'.at_
    have n'_z := n'.size
    replace p0 := p0.fresh (n'.fr (lo := 0) (hi := 0)) (by omega)
    replace ta := ta.fr (n'.fr (lo := 0) (hi := 0)) (by omega)
    replace tb := tb.fr (n'.fr (lo := 0) (hi := 0)) (by omega)
    replace tc := tc.fr (n'.fr (lo := 0) (hi := 0)) (by omega)
    replace tp := tp.fr (n'.fr (lo := 0) (hi := 0)) (by omega)
    have r' := n'.row
    simp -dsimp only [go_sem, ↓reduceIte, reduceCtorEq, Nat.reduceEqDiff, Nat.reduceAdd, Nat.reduceLeDiff, Nat.reduceMul, Int.reduceBEq, Int.reduceBNe, Int.reduceLT, Int.reduceLE, Int.reduceGT, Int.reduceGE, r'.cell]
    refine call_of (rel_Union (L := [(.pointer (some ⟨pa, 0, none⟩), k, A), (.pointer (some ⟨pb, 0, none⟩), k, B)]) (r'.rd rfl) (rels2 ta tb) (show 2 ≤ 65536 by decide)) ?_
    rintro v' hu ⟨fu, tu⟩
    rw [maxN2] at tu
    have fu_z := fu.size
    replace p0 := p0.fresh fu (by omega)
    replace ta := ta.fr fu (by omega)
    replace tb := tb.fr fu (by omega)
    replace tc := tc.fr fu (by omega)
    replace tp := tp.fr fu (by omega)
    simp -dsimp only [go_sem, ↓reduceIte, reduceCtorEq, Nat.reduceEqDiff, Nat.reduceAdd, Nat.reduceLeDiff, Nat.reduceMul, Int.reduceBEq, Int.reduceBNe, Int.reduceLT, Int.reduceLE, Int.reduceGT, Int.reduceGE]
    refine call_of (rel_Acyclic tu) ?_
    rintro v hv ⟨fv, rfl⟩
    rw [rl_acyc hI]
    have fv_z := fv.size
    replace p0 := p0.fresh fv (by omega)
    replace ta := ta.fr fv (by omega)
    replace tb := tb.fr fv (by omega)
    replace tc := tc.fr fv (by omega)
    replace tp := tp.fr fv (by omega)
    simp -dsimp only [go_sem, ↓reduceIte, reduceCtorEq, Nat.reduceEqDiff, Nat.reduceAdd, Nat.reduceLeDiff, Nat.reduceMul, Int.reduceBEq, Int.reduceBNe, Int.reduceLT, Int.reduceLE, Int.reduceGT, Int.reduceGE]
    refine call_of (rel_Acyclic ta) ?_
    rintro v hr ⟨fr, rfl⟩
    have fr_z := fr.size
    replace p0 := p0.fresh fr (by omega)
    replace ta := ta.fr fr (by omega)
    replace tb := tb.fr fr (by omega)
    replace tc := tc.fr fr (by omega)
    replace tp := tp.fr fr (by omega)
    simp -dsimp only [go_sem, ↓reduceIte, reduceCtorEq, Nat.reduceEqDiff, Nat.reduceAdd, Nat.reduceLeDiff, Nat.reduceMul, Int.reduceBEq, Int.reduceBNe, Int.reduceLT, Int.reduceLE, Int.reduceGT, Int.reduceGE]
    refine call_of (rel_Irreflexive tp) ?_
    rintro v hs ⟨rfl, rfl⟩
    rw [hI]
    simp -dsimp only [go_sem, ↓reduceIte, reduceCtorEq, Nat.reduceEqDiff, Nat.reduceAdd, Nat.reduceLeDiff, Nat.reduceMul, Int.reduceBEq, Int.reduceBNe, Int.reduceLT, Int.reduceLE, Int.reduceGT, Int.reduceGE]
    exact p0
end Go.Proofs.Tst
