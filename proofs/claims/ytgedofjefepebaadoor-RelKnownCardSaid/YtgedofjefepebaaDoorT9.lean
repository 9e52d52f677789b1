/-
  Contracts of functions that the law reaches: what each returns and what it leaves in memory. Conditions stand in each.
-/
import Derived.Test.YtgedofjefepebaaDoorT8
set_option linter.all false
set_option maxRecDepth 2000
/-
  Chapter 1's examples.
-/
namespace Go.Proofs.Tst
open Go Go.Vc
theorem brow_bools {n : Nat} {f : Nat → Bool} : brow n f = boolsV ((List.range n).map f) := by simp [brow, boolsV]
theorem c_law1_truths {l m : List Bool} {a b : Value} {h : Heap} (hl : Rd 1 h a l.length (boolsV l)) (hm : Rd 1 h b m.length (boolsV m)) (hb : l.length ≤ 4611686018427387904) :
    Con Tryd.prog 61 #[a, b] h fun v h' => h' = h ∧ v = .bool (decide (l = m)) := by
  refine con_law1_truths ?_
  obtain ⟨aa, ac, rfl⟩ := hl.is
  obtain ⟨ba, bc, rfl⟩ := hm.is
  simp -dsimp only [go_sem, ↓reduceIte, reduceCtorEq, Nat.reduceEqDiff, Nat.reduceAdd, Nat.reduceLeDiff, Nat.reduceMul, Int.reduceBEq, Int.reduceBNe, Int.reduceLT, Int.reduceLE, Int.reduceGT, Int.reduceGE]
  refine ⟨fun hne => ?_, fun heq => ?_⟩
  · simp -dsimp only [go_sem, ↓reduceIte, reduceCtorEq, Nat.reduceEqDiff, Nat.reduceAdd, Nat.reduceLeDiff, Nat.reduceMul, Int.reduceBEq, Int.reduceBNe, Int.reduceLT, Int.reduceLE, Int.reduceGT, Int.reduceGE]
    have : l ≠ m := by rintro rfl; simp at hne
    simp [this]
  have heq : l.length = m.length := by have : (l.length : Int) = m.length := by simpa using heq
                                       omega
  simp -dsimp only [go_sem, ↓reduceIte, reduceCtorEq, Nat.reduceEqDiff, Nat.reduceAdd, Nat.reduceLeDiff, Nat.reduceMul, Int.reduceBEq, Int.reduceBNe, Int.reduceLT, Int.reduceLE, Int.reduceGT, Int.reduceGE]
  refine loop_intro (fun i : Nat => [(0, .slice aa l.length ac), (1, .slice ba m.length bc), (5, .int .i64 i)])
    (fun i h' => i ≤ l.length ∧ h' = h ∧ ∀ j, j < i → l[j]? = m[j]?) (fun i => l.length - i) 0 ?_ ?_ ?_
  · simp [Le, find]
  · exact ⟨by omega, rfl, fun j hj => by omega⟩
  rintro i _ ⟨hi, rfl, hinv⟩
  simp -dsimp only [go_sem, ↓reduceIte, reduceCtorEq, Nat.reduceEqDiff, Nat.reduceAdd, Nat.reduceLeDiff, Nat.reduceMul, Int.reduceBEq, Int.reduceBNe, Int.reduceLT, Int.reduceLE, Int.reduceGT, Int.reduceGE]
  refine ⟨fun hlt => ?_, fun hge => ?_⟩
  · have hlt : i < l.length := by omega
    have hx : l[i]? = some l[i] := List.getElem?_eq_getElem _
    have hy : m[i]? = some (m[i]'(by omega)) := List.getElem?_eq_getElem _
    generalize l[i] = x at hx
    generalize (m[i]'(by omega)) = y at hy
    simp -dsimp only [go_sem, ↓reduceIte, reduceCtorEq, Nat.reduceEqDiff, Nat.reduceAdd, Nat.reduceLeDiff, Nat.reduceMul, Int.reduceBEq, Int.reduceBNe, Int.reduceLT, Int.reduceLE, Int.reduceGT, Int.reduceGE]
    refine Chk_intro (by omega) (hl.idx (by omega) fun b1 o1 c1 => ?_)
    simp -dsimp only [go_sem, ↓reduceIte, reduceCtorEq, Nat.reduceEqDiff, Nat.reduceAdd, Nat.reduceLeDiff, Nat.reduceMul, Int.reduceBEq, Int.reduceBNe, Int.reduceLT, Int.reduceLE, Int.reduceGT, Int.reduceGE, c1 i _ (boolsV_get hx)]
    refine Chk_intro (by omega) (hm.idx (by omega) fun b2 o2 c2 => ?_)
    simp -dsimp only [go_sem, ↓reduceIte, reduceCtorEq, Nat.reduceEqDiff, Nat.reduceAdd, Nat.reduceLeDiff, Nat.reduceMul, Int.reduceBEq, Int.reduceBNe, Int.reduceLT, Int.reduceLE, Int.reduceGT, Int.reduceGE, c2 i _ (boolsV_get hy)]
    refine ⟨fun hne => ?_, fun he => ?_⟩
    · simp -dsimp only [go_sem, ↓reduceIte, reduceCtorEq, Nat.reduceEqDiff, Nat.reduceAdd, Nat.reduceLeDiff, Nat.reduceMul, Int.reduceBEq, Int.reduceBNe, Int.reduceLT, Int.reduceLE, Int.reduceGT, Int.reduceGE]
      have : l ≠ m := by rintro rfl; rw [hx] at hy; cases hy; simp at hne
      simp [this]
    · simp -dsimp only [go_sem, ↓reduceIte, reduceCtorEq, Nat.reduceEqDiff, Nat.reduceAdd, Nat.reduceLeDiff, Nat.reduceMul, Int.reduceBEq, Int.reduceBNe, Int.reduceLT, Int.reduceLE, Int.reduceGT, Int.reduceGE]
      simp -dsimp (disch := omega) only [wrap64]
      refine ⟨i + 1, by omega, by simp [Le, find], by omega, fun j hj => ?_⟩
      by_cases hji : j = i
      · subst hji
        rw [hx, hy]
        simpa using he
      · exact hinv j (by omega)
  · simp -dsimp only [go_sem, ↓reduceIte, reduceCtorEq, Nat.reduceEqDiff, Nat.reduceAdd, Nat.reduceLeDiff, Nat.reduceMul, Int.reduceBEq, Int.reduceBNe, Int.reduceLT, Int.reduceLE, Int.reduceGT, Int.reduceGE]
    have : l = m := List.ext_getElem? fun j => by
      by_cases hj : j < i
      · exact hinv j hj
      · rw [List.getElem?_eq_none (by omega), List.getElem?_eq_none (by omega)]
    simp [this]
theorem rels2' {h : Heap} {v w : Value} {k m : Nat} {A B : Nat → Nat → Bool} {lo hi lo' hi' : Nat} (t : ProgAt h lo hi v k A) (u : ProgAt h lo' hi' w m B) : RelsAt h [(v, k, A), (w, m, B)] := fun x hx => by
  rcases List.mem_cons.1 hx with rfl | hx
  · exact ⟨_, _, t⟩
  rcases List.mem_cons.1 hx with rfl | hx
  · exact ⟨_, _, u⟩
  · simp at hx
def M5 : Nat → Nat → Bool := putM 4 (ofM 4 exL) 0 1 true
def M6 : Nat → Nat → Bool := putM 4 M5 3 4 true
def M7 : Nat → Nat → Bool := putM 4 M6 3 3 true
def M8 : Nat → Nat → Bool := putM 4 M7 3 3 false
theorem k9_1 : pairsOf 4 (ofM 4 exL) = [(0, 1), (1, 2), (2, 0), (2, 3)] := by decide +kernel
theorem k9_2 : (inR ((4 : Nat) : Int) (0 : Int) && inR ((4 : Nat) : Int) (1 : Int) && ((ofM 4 exL) (Int.toNat (0 : Int)) (Int.toNat (1 : Int)) != true)) = false := by decide +kernel
theorem k9_3 : (inR ((4 : Nat) : Int) (3 : Int) && inR ((4 : Nat) : Int) (4 : Int) && (M5 (Int.toNat (3 : Int)) (Int.toNat (4 : Int)) != true)) = false := by decide +kernel
theorem k9_4 : (inR ((4 : Nat) : Int) (3 : Int) && inR ((4 : Nat) : Int) (3 : Int) && (M6 (Int.toNat (3 : Int)) (Int.toNat (3 : Int)) != true)) = true := by decide +kernel
theorem k9_5 : (inR ((4 : Nat) : Int) (3 : Int) && inR ((4 : Nat) : Int) (3 : Int) && (M7 (Int.toNat (3 : Int)) (Int.toNat (3 : Int)) != false)) = true := by decide +kernel
theorem k9_6 : pairsOf (clampN 3) (optM (plusM (clampN 3) (fun _ _ => false))) = [(0, 0), (1, 1), (2, 2)] := by decide +kernel
theorem k9_7 : (pairsOf 4 (optM M8)).length = 8 := by decide +kernel
theorem k9_8 : pairsOf (max 4 4) (compM 4 M8 4 M8) = [(0, 2), (1, 0), (1, 3), (2, 1)] := by decide +kernel
theorem k9_9 : pairsOf 4 (invM M8) = [(0, 2), (1, 0), (2, 1), (3, 2)] := by decide +kernel
theorem k9_10 : pairsOf 4 (cutM M8 [true, false, true] [false, true, true, true]) = [(0, 1), (2, 3)] := by decide +kernel
theorem k9_11 : ((List.range 4).map (imgB 4 M8 [false, false, true])) = [true, false, false, true] := by decide +kernel
theorem k9_12 : ((List.range 4).map (imgB 4 M8 [])) = [false, false, false, false] := by decide +kernel
theorem k9_13 : pairsOf (clampN 3) (idM [true, false, true, true]) = [(0, 0), (2, 2)] := by decide +kernel
set_option maxHeartbeats 4000000 in
theorem c_law1_RelKnown {h : Heap} (ht : TabAt h) : Con Tryd.prog 11 #[] h fun v h' => Fr 0 0 h h' ∧ v = .bool true := by
  refine con_law1_RelKnown ?_
  have p0 : Fr 0 0 h h := .refl _ _ _
  simp -dsimp only [go_sem, ↓reduceIte, reduceCtorEq, Nat.reduceEqDiff, Nat.reduceAdd, Nat.reduceLeDiff, Nat.reduceMul, Int.reduceBEq, Int.reduceBNe, Int.reduceLT, Int.reduceLE, Int.reduceGT, Int.reduceGE]
  refine call_of (c_law1_example h) ?_
  rintro v1 h1 ⟨f1, t1⟩
  obtain ⟨q1, rfl⟩ := progPtr t1
  have f1_z := f1.size
  replace p0 := p0.fresh f1 (by omega)
  simp -dsimp only [go_sem, ↓reduceIte, reduceCtorEq, Nat.reduceEqDiff, Nat.reduceAdd, Nat.reduceLeDiff, Nat.reduceMul, Int.reduceBEq, Int.reduceBNe, Int.reduceLT, Int.reduceLE, Int.reduceGT, Int.reduceGE]
  refine call_of (c_law1_lives (ht.fr p0 (by omega))) ?_
  rintro v h0 ⟨f0, rfl⟩
  have f0_z := f0.size
  replace p0 := p0.fresh f0 (by omega)
  replace t1 := t1.fr f0 (by omega)
  simp -dsimp only [go_sem, ↓reduceIte, reduceCtorEq, Nat.reduceEqDiff, Nat.reduceAdd, Nat.reduceLeDiff, Nat.reduceMul, Int.reduceBEq, Int.reduceBNe, Int.reduceLT, Int.reduceLE, Int.reduceGT, Int.reduceGE]
  refine call_of (rel_Pairs t1 (ht.fr p0 (by omega))) ?_
  rintro v2 h2 ⟨f2, o2⟩
  rw [k9_1] at o2
  have f2_z := f2.size
  replace p0 := p0.fresh f2 (by omega)
  replace t1 := t1.fr f2 (by omega)
  simp -dsimp only [go_sem, ↓reduceIte, reduceCtorEq, Nat.reduceEqDiff, Nat.reduceAdd, Nat.reduceLeDiff, Nat.reduceMul, Int.reduceBEq, Int.reduceBNe, Int.reduceLT, Int.reduceLE, Int.reduceGT, Int.reduceGE]
  intro b3 h3 n3
  have n3_a := n3.at_
  have n3_z := n3.size
  replace p0 := p0.fresh (n3.fr (lo := 0) (hi := 0)) (by omega)
  replace t1 := t1.fr (n3.fr (lo := 0) (hi := 0)) (by omega)
  replace o2 := o2.fr (n3.fr (lo := 0) (hi := 0)) (by have := o2.at_; omega)
  have r3 := n3.row
  simp -dsimp only [go_sem, ↓reduceIte, reduceCtorEq, Nat.reduceEqDiff, Nat.reduceAdd, Nat.reduceLeDiff, Nat.reduceMul, Int.reduceBEq, Int.reduceBNe, Int.reduceLT, Int.reduceLE, Int.reduceGT, Int.reduceGE, r3.cell]
  refine call_of (c_law1_pairs (l := [(0, 1), (1, 2), (2, 0), (2, 3)]) (m := [(0, 1), (1, 2), (2, 0), (2, 3)]) o2.rd (r3.rd rfl) (by decide)) ?_
  rintro v h4 ⟨rfl, rfl⟩
  simp -dsimp only [go_sem, ↓reduceIte, reduceCtorEq, Nat.reduceEqDiff, Nat.reduceAdd, Nat.reduceLeDiff, Nat.reduceMul, Int.reduceBEq, Int.reduceBNe, Int.reduceLT, Int.reduceLE, Int.reduceGT, Int.reduceGE]
  refine call_of (rel_Put t1 0 1 true) ?_
  rintro v5 h5 ⟨f5, z5, rfl, t5⟩
  have f5_z := f5.size
  replace p0 := p0.fresh f5 (by omega)
  rw [k9_2]
  simp -dsimp only [go_sem, ↓reduceIte, reduceCtorEq, Nat.reduceEqDiff, Nat.reduceAdd, Nat.reduceLeDiff, Nat.reduceMul, Int.reduceBEq, Int.reduceBNe, Int.reduceLT, Int.reduceLE, Int.reduceGT, Int.reduceGE]
  change ProgAt h5 _ _ _ 4 M5 at t5
  refine call_of (rel_Put t5 3 4 true) ?_
  rintro v6 h6 ⟨f6, z6, rfl, t6⟩
  have f6_z := f6.size
  replace p0 := p0.fresh f6 (by omega)
  rw [k9_3]
  simp -dsimp only [go_sem, ↓reduceIte, reduceCtorEq, Nat.reduceEqDiff, Nat.reduceAdd, Nat.reduceLeDiff, Nat.reduceMul, Int.reduceBEq, Int.reduceBNe, Int.reduceLT, Int.reduceLE, Int.reduceGT, Int.reduceGE]
  change ProgAt h6 _ _ _ 4 M6 at t6
  refine call_of (rel_Put t6 3 3 true) ?_
  rintro v7 h7 ⟨f7, z7, rfl, t7⟩
  have f7_z := f7.size
  replace p0 := p0.fresh f7 (by omega)
  rw [k9_4]
  simp -dsimp only [go_sem, ↓reduceIte, reduceCtorEq, Nat.reduceEqDiff, Nat.reduceAdd, Nat.reduceLeDiff, Nat.reduceMul, Int.reduceBEq, Int.reduceBNe, Int.reduceLT, Int.reduceLE, Int.reduceGT, Int.reduceGE]
  change ProgAt h7 _ _ _ 4 M7 at t7
  refine call_of (rel_Put t7 3 3 false) ?_
  rintro v8 h8 ⟨f8, z8, rfl, t8⟩
  have f8_z := f8.size
  replace p0 := p0.fresh f8 (by omega)
  rw [k9_5]
  simp -dsimp only [go_sem, ↓reduceIte, reduceCtorEq, Nat.reduceEqDiff, Nat.reduceAdd, Nat.reduceLeDiff, Nat.reduceMul, Int.reduceBEq, Int.reduceBNe, Int.reduceLT, Int.reduceLE, Int.reduceGT, Int.reduceGE]
  change ProgAt h8 _ _ _ 4 M8 at t8
  refine call_of (rel_New 3 _) ?_
  rintro v9 h9 ⟨f9, t9⟩
  obtain ⟨q9, rfl⟩ := progPtr t9
  have f9_z := f9.size
  replace p0 := p0.fresh f9 (by omega)
  replace t8 := t8.fr f9 (by omega)
  simp -dsimp only [go_sem, ↓reduceIte, reduceCtorEq, Nat.reduceEqDiff, Nat.reduceAdd, Nat.reduceLeDiff, Nat.reduceMul, Int.reduceBEq, Int.reduceBNe, Int.reduceLT, Int.reduceLE, Int.reduceGT, Int.reduceGE]
  refine call_of (rel_Star t9) ?_
  rintro v10 h10 ⟨f10, t10⟩
  obtain ⟨q10, rfl⟩ := progPtr t10
  have f10_z := f10.size
  replace p0 := p0.fresh f10 (by omega)
  replace t8 := t8.fr f10 (by omega)
  simp -dsimp only [go_sem, ↓reduceIte, reduceCtorEq, Nat.reduceEqDiff, Nat.reduceAdd, Nat.reduceLeDiff, Nat.reduceMul, Int.reduceBEq, Int.reduceBNe, Int.reduceLT, Int.reduceLE, Int.reduceGT, Int.reduceGE]
  refine call_of (rel_Opt t8) ?_
  rintro v11 h11 ⟨f11, t11⟩
  obtain ⟨q11, rfl⟩ := progPtr t11
  have f11_z := f11.size
  replace p0 := p0.fresh f11 (by omega)
  replace t8 := t8.fr f11 (by omega)
  replace t10 := t10.fr f11 (by omega)
  simp -dsimp only [go_sem, ↓reduceIte, reduceCtorEq, Nat.reduceEqDiff, Nat.reduceAdd, Nat.reduceLeDiff, Nat.reduceMul, Int.reduceBEq, Int.reduceBNe, Int.reduceLT, Int.reduceLE, Int.reduceGT, Int.reduceGE]
  refine call_of (rel_Comp t8 t8 (ht.fr p0 (by omega))) ?_
  rintro v12 h12 ⟨f12, t12⟩
  obtain ⟨q12, rfl⟩ := progPtr t12
  have f12_z := f12.size
  replace p0 := p0.fresh f12 (by omega)
  replace t8 := t8.fr f12 (by omega)
  replace t10 := t10.fr f12 (by omega)
  replace t11 := t11.fr f12 (by omega)
  simp -dsimp only [go_sem, ↓reduceIte, reduceCtorEq, Nat.reduceEqDiff, Nat.reduceAdd, Nat.reduceLeDiff, Nat.reduceMul, Int.reduceBEq, Int.reduceBNe, Int.reduceLT, Int.reduceLE, Int.reduceGT, Int.reduceGE]
  refine call_of (rel_Inverse t8 (ht.fr p0 (by omega))) ?_
  rintro v13 h13 ⟨f13, t13⟩
  obtain ⟨q13, rfl⟩ := progPtr t13
  have f13_z := f13.size
  replace p0 := p0.fresh f13 (by omega)
  replace t8 := t8.fr f13 (by omega)
  replace t10 := t10.fr f13 (by omega)
  replace t11 := t11.fr f13 (by omega)
  replace t12 := t12.fr f13 (by omega)
  simp -dsimp only [go_sem, ↓reduceIte, reduceCtorEq, Nat.reduceEqDiff, Nat.reduceAdd, Nat.reduceLeDiff, Nat.reduceMul, Int.reduceBEq, Int.reduceBNe, Int.reduceLT, Int.reduceLE, Int.reduceGT, Int.reduceGE]
  intro b14 h14 n14
  have n14_a := n14.at_
  have n14_z := n14.size
  replace p0 := p0.fresh (n14.fr (lo := 0) (hi := 0)) (by omega)
  replace t8 := t8.fr (n14.fr (lo := 0) (hi := 0)) (by omega)
  replace t10 := t10.fr (n14.fr (lo := 0) (hi := 0)) (by omega)
  replace t11 := t11.fr (n14.fr (lo := 0) (hi := 0)) (by omega)
  replace t12 := t12.fr (n14.fr (lo := 0) (hi := 0)) (by omega)
  replace t13 := t13.fr (n14.fr (lo := 0) (hi := 0)) (by omega)
  have r14 := n14.row
  simp -dsimp only [go_sem, ↓reduceIte, reduceCtorEq, Nat.reduceEqDiff, Nat.reduceAdd, Nat.reduceLeDiff, Nat.reduceMul, Int.reduceBEq, Int.reduceBNe, Int.reduceLT, Int.reduceLE, Int.reduceGT, Int.reduceGE, r14.cell]
  intro b15 h15 n15
  have n15_a := n15.at_
  have n15_z := n15.size
  replace p0 := p0.fresh (n15.fr (lo := 0) (hi := 0)) (by omega)
  replace t8 := t8.fr (n15.fr (lo := 0) (hi := 0)) (by omega)
  replace t10 := t10.fr (n15.fr (lo := 0) (hi := 0)) (by omega)
  replace t11 := t11.fr (n15.fr (lo := 0) (hi := 0)) (by omega)
  replace t12 := t12.fr (n15.fr (lo := 0) (hi := 0)) (by omega)
  replace t13 := t13.fr (n15.fr (lo := 0) (hi := 0)) (by omega)
  replace r14 := r14.fr (n15.fr (lo := 0) (hi := 0)) (by omega)
  have r15 := n15.row
  simp -dsimp only [go_sem, ↓reduceIte, reduceCtorEq, Nat.reduceEqDiff, Nat.reduceAdd, Nat.reduceLeDiff, Nat.reduceMul, Int.reduceBEq, Int.reduceBNe, Int.reduceLT, Int.reduceLE, Int.reduceGT, Int.reduceGE, r14.cell, r15.cell]
  refine call_of (rel_Cut (rs := [true, false, true]) (cs := [false, true, true, true]) t8 (ht.fr p0 (by omega)) (r14.rd rfl) (r15.rd rfl) (by decide) (by decide)) ?_
  rintro v16 h16 ⟨f16, t16⟩
  obtain ⟨q16, rfl⟩ := progPtr t16
  have f16_z := f16.size
  replace p0 := p0.fresh f16 (by omega)
  replace t8 := t8.fr f16 (by omega)
  replace t10 := t10.fr f16 (by omega)
  replace t11 := t11.fr f16 (by omega)
  replace t12 := t12.fr f16 (by omega)
  replace t13 := t13.fr f16 (by omega)
  simp -dsimp only [go_sem, ↓reduceIte, reduceCtorEq, Nat.reduceEqDiff, Nat.reduceAdd, Nat.reduceLeDiff, Nat.reduceMul, Int.reduceBEq, Int.reduceBNe, Int.reduceLT, Int.reduceLE, Int.reduceGT, Int.reduceGE]
  refine call_of (rel_Pairs t10 (ht.fr p0 (by omega))) ?_
  rintro v17 h17 ⟨f17, o17⟩
  rw [k9_6] at o17
  have f17_z := f17.size
  replace p0 := p0.fresh f17 (by omega)
  replace t8 := t8.fr f17 (by omega)
  replace t10 := t10.fr f17 (by omega)
  replace t11 := t11.fr f17 (by omega)
  replace t12 := t12.fr f17 (by omega)
  replace t13 := t13.fr f17 (by omega)
  replace t16 := t16.fr f17 (by omega)
  simp -dsimp only [go_sem, ↓reduceIte, reduceCtorEq, Nat.reduceEqDiff, Nat.reduceAdd, Nat.reduceLeDiff, Nat.reduceMul, Int.reduceBEq, Int.reduceBNe, Int.reduceLT, Int.reduceLE, Int.reduceGT, Int.reduceGE]
  intro b18 h18 n18
  have n18_a := n18.at_
  have n18_z := n18.size
  replace p0 := p0.fresh (n18.fr (lo := 0) (hi := 0)) (by omega)
  replace t8 := t8.fr (n18.fr (lo := 0) (hi := 0)) (by omega)
  replace t10 := t10.fr (n18.fr (lo := 0) (hi := 0)) (by omega)
  replace t11 := t11.fr (n18.fr (lo := 0) (hi := 0)) (by omega)
  replace t12 := t12.fr (n18.fr (lo := 0) (hi := 0)) (by omega)
  replace t13 := t13.fr (n18.fr (lo := 0) (hi := 0)) (by omega)
  replace t16 := t16.fr (n18.fr (lo := 0) (hi := 0)) (by omega)
  replace o17 := o17.fr (n18.fr (lo := 0) (hi := 0)) (by have := o17.at_; omega)
  have r18 := n18.row
  simp -dsimp only [go_sem, ↓reduceIte, reduceCtorEq, Nat.reduceEqDiff, Nat.reduceAdd, Nat.reduceLeDiff, Nat.reduceMul, Int.reduceBEq, Int.reduceBNe, Int.reduceLT, Int.reduceLE, Int.reduceGT, Int.reduceGE, r18.cell]
  refine call_of (c_law1_pairs (l := [(0, 0), (1, 1), (2, 2)]) (m := [(0, 0), (1, 1), (2, 2)]) o17.rd (r18.rd rfl) (by decide)) ?_
  rintro v h19 ⟨rfl, rfl⟩
  simp -dsimp only [go_sem, ↓reduceIte, reduceCtorEq, Nat.reduceEqDiff, Nat.reduceAdd, Nat.reduceLeDiff, Nat.reduceMul, Int.reduceBEq, Int.reduceBNe, Int.reduceLT, Int.reduceLE, Int.reduceGT, Int.reduceGE]
  refine call_of (rel_Size t11) ?_
  rintro v h20 ⟨rfl, rfl⟩
  rw [k9_7]
  simp -dsimp only [go_sem, ↓reduceIte, reduceCtorEq, Nat.reduceEqDiff, Nat.reduceAdd, Nat.reduceLeDiff, Nat.reduceMul, Int.reduceBEq, Int.reduceBNe, Int.reduceLT, Int.reduceLE, Int.reduceGT, Int.reduceGE, Int.cast_ofNat_Int]
  refine call_of (rel_Pairs t12 (ht.fr p0 (by omega))) ?_
  rintro v21 h21 ⟨f21, o21⟩
  rw [k9_8] at o21
  have f21_z := f21.size
  replace p0 := p0.fresh f21 (by omega)
  replace t8 := t8.fr f21 (by omega)
  replace t10 := t10.fr f21 (by omega)
  replace t11 := t11.fr f21 (by omega)
  replace t12 := t12.fr f21 (by omega)
  replace t13 := t13.fr f21 (by omega)
  replace t16 := t16.fr f21 (by omega)
  simp -dsimp only [go_sem, ↓reduceIte, reduceCtorEq, Nat.reduceEqDiff, Nat.reduceAdd, Nat.reduceLeDiff, Nat.reduceMul, Int.reduceBEq, Int.reduceBNe, Int.reduceLT, Int.reduceLE, Int.reduceGT, Int.reduceGE]
  intro b22 h22 n22
  have n22_a := n22.at_
  have n22_z := n22.size
  replace p0 := p0.fresh (n22.fr (lo := 0) (hi := 0)) (by omega)
  replace t8 := t8.fr (n22.fr (lo := 0) (hi := 0)) (by omega)
  replace t10 := t10.fr (n22.fr (lo := 0) (hi := 0)) (by omega)
  replace t11 := t11.fr (n22.fr (lo := 0) (hi := 0)) (by omega)
  replace t12 := t12.fr (n22.fr (lo := 0) (hi := 0)) (by omega)
  replace t13 := t13.fr (n22.fr (lo := 0) (hi := 0)) (by omega)
  replace t16 := t16.fr (n22.fr (lo := 0) (hi := 0)) (by omega)
  replace o21 := o21.fr (n22.fr (lo := 0) (hi := 0)) (by have := o21.at_; omega)
  have r22 := n22.row
  simp -dsimp only [go_sem, ↓reduceIte, reduceCtorEq, Nat.reduceEqDiff, Nat.reduceAdd, Nat.reduceLeDiff, Nat.reduceMul, Int.reduceBEq, Int.reduceBNe, Int.reduceLT, Int.reduceLE, Int.reduceGT, Int.reduceGE, r22.cell]
  refine call_of (c_law1_pairs (l := [(0, 2), (1, 0), (1, 3), (2, 1)]) (m := [(0, 2), (1, 0), (1, 3), (2, 1)]) o21.rd (r22.rd rfl) (by decide)) ?_
  rintro v h23 ⟨rfl, rfl⟩
  simp -dsimp only [go_sem, ↓reduceIte, reduceCtorEq, Nat.reduceEqDiff, Nat.reduceAdd, Nat.reduceLeDiff, Nat.reduceMul, Int.reduceBEq, Int.reduceBNe, Int.reduceLT, Int.reduceLE, Int.reduceGT, Int.reduceGE]
  refine call_of (rel_Pairs t13 (ht.fr p0 (by omega))) ?_
  rintro v24 h24 ⟨f24, o24⟩
  rw [k9_9] at o24
  have f24_z := f24.size
  replace p0 := p0.fresh f24 (by omega)
  replace t8 := t8.fr f24 (by omega)
  replace t10 := t10.fr f24 (by omega)
  replace t11 := t11.fr f24 (by omega)
  replace t12 := t12.fr f24 (by omega)
  replace t13 := t13.fr f24 (by omega)
  replace t16 := t16.fr f24 (by omega)
  simp -dsimp only [go_sem, ↓reduceIte, reduceCtorEq, Nat.reduceEqDiff, Nat.reduceAdd, Nat.reduceLeDiff, Nat.reduceMul, Int.reduceBEq, Int.reduceBNe, Int.reduceLT, Int.reduceLE, Int.reduceGT, Int.reduceGE]
  intro b25 h25 n25
  have n25_a := n25.at_
  have n25_z := n25.size
  replace p0 := p0.fresh (n25.fr (lo := 0) (hi := 0)) (by omega)
  replace t8 := t8.fr (n25.fr (lo := 0) (hi := 0)) (by omega)
  replace t10 := t10.fr (n25.fr (lo := 0) (hi := 0)) (by omega)
  replace t11 := t11.fr (n25.fr (lo := 0) (hi := 0)) (by omega)
  replace t12 := t12.fr (n25.fr (lo := 0) (hi := 0)) (by omega)
  replace t13 := t13.fr (n25.fr (lo := 0) (hi := 0)) (by omega)
  replace t16 := t16.fr (n25.fr (lo := 0) (hi := 0)) (by omega)
  replace o24 := o24.fr (n25.fr (lo := 0) (hi := 0)) (by have := o24.at_; omega)
  have r25 := n25.row
  simp -dsimp only [go_sem, ↓reduceIte, reduceCtorEq, Nat.reduceEqDiff, Nat.reduceAdd, Nat.reduceLeDiff, Nat.reduceMul, Int.reduceBEq, Int.reduceBNe, Int.reduceLT, Int.reduceLE, Int.reduceGT, Int.reduceGE, r25.cell]
  refine call_of (c_law1_pairs (l := [(0, 2), (1, 0), (2, 1), (3, 2)]) (m := [(0, 2), (1, 0), (2, 1), (3, 2)]) o24.rd (r25.rd rfl) (by decide)) ?_
  rintro v h26 ⟨rfl, rfl⟩
  simp -dsimp only [go_sem, ↓reduceIte, reduceCtorEq, Nat.reduceEqDiff, Nat.reduceAdd, Nat.reduceLeDiff, Nat.reduceMul, Int.reduceBEq, Int.reduceBNe, Int.reduceLT, Int.reduceLE, Int.reduceGT, Int.reduceGE]
  refine call_of (rel_Pairs t16 (ht.fr p0 (by omega))) ?_
  rintro v27 h27 ⟨f27, o27⟩
  rw [k9_10] at o27
  have f27_z := f27.size
  replace p0 := p0.fresh f27 (by omega)
  replace t8 := t8.fr f27 (by omega)
  replace t10 := t10.fr f27 (by omega)
  replace t11 := t11.fr f27 (by omega)
  replace t12 := t12.fr f27 (by omega)
  replace t13 := t13.fr f27 (by omega)
  replace t16 := t16.fr f27 (by omega)
  simp -dsimp only [go_sem, ↓reduceIte, reduceCtorEq, Nat.reduceEqDiff, Nat.reduceAdd, Nat.reduceLeDiff, Nat.reduceMul, Int.reduceBEq, Int.reduceBNe, Int.reduceLT, Int.reduceLE, Int.reduceGT, Int.reduceGE]
  intro b28 h28 n28
  have n28_a := n28.at_
  have n28_z := n28.size
  replace p0 := p0.fresh (n28.fr (lo := 0) (hi := 0)) (by omega)
  replace t8 := t8.fr (n28.fr (lo := 0) (hi := 0)) (by omega)
  replace t10 := t10.fr (n28.fr (lo := 0) (hi := 0)) (by omega)
  replace t11 := t11.fr (n28.fr (lo := 0) (hi := 0)) (by omega)
  replace t12 := t12.fr (n28.fr (lo := 0) (hi := 0)) (by omega)
  replace t13 := t13.fr (n28.fr (lo := 0) (hi := 0)) (by omega)
  replace t16 := t16.fr (n28.fr (lo := 0) (hi := 0)) (by omega)
  replace o27 := o27.fr (n28.fr (lo := 0) (hi := 0)) (by have := o27.at_; omega)
  have r28 := n28.row
  simp -dsimp only [go_sem, ↓reduceIte, reduceCtorEq, Nat.reduceEqDiff, Nat.reduceAdd, Nat.reduceLeDiff, Nat.reduceMul, Int.reduceBEq, Int.reduceBNe, Int.reduceLT, Int.reduceLE, Int.reduceGT, Int.reduceGE, r28.cell]
  refine call_of (c_law1_pairs (l := [(0, 1), (2, 3)]) (m := [(0, 1), (2, 3)]) o27.rd (r28.rd rfl) (by decide)) ?_
  rintro v h29 ⟨rfl, rfl⟩
  simp -dsimp only [go_sem, ↓reduceIte, reduceCtorEq, Nat.reduceEqDiff, Nat.reduceAdd, Nat.reduceLeDiff, Nat.reduceMul, Int.reduceBEq, Int.reduceBNe, Int.reduceLT, Int.reduceLE, Int.reduceGT, Int.reduceGE]
  have rr : ∀ h1 h2, Fr 0 0 h1 h2 → True := fun _ _ _ => trivial
  refine rvc_joint (fun _ : Unit => [(1, (.pointer (some ⟨q1, 0, none⟩))), (133, .bool false)]) (fun _ h' => Fr 0 0 h h' ∧ ∃ lo hi, ProgAt h' lo hi (.pointer (some ⟨q1, 0, none⟩)) 4 M8) ?_ ?_
  · simp -dsimp only [go_sem, ↓reduceIte, reduceCtorEq, Nat.reduceEqDiff, Nat.reduceAdd, Nat.reduceLeDiff, Nat.reduceMul, Int.reduceBEq, Int.reduceBNe, Int.reduceLT, Int.reduceLE, Int.reduceGT, Int.reduceGE, r_two]
    refine ⟨?_, ?_⟩
    · intro b ga na
      have na_a := na.at_
      have na_z := na.size
      replace p0 := p0.fresh (na.fr (lo := 0) (hi := 0)) (by omega)
      replace t8 := t8.fr (na.fr (lo := 0) (hi := 0)) (by omega)
      have ra := na.row
      simp -dsimp only [go_sem, ↓reduceIte, reduceCtorEq, Nat.reduceEqDiff, Nat.reduceAdd, Nat.reduceLeDiff, Nat.reduceMul, Int.reduceBEq, Int.reduceBNe, Int.reduceLT, Int.reduceLE, Int.reduceGT, Int.reduceGE, r_two, ra.cell]
      refine ⟨?_, ?_⟩
      · refine call_of (rel_Image (rs := [false, false, true]) t8 (ht.fr p0 (by omega)) (ra.rd rfl) (by decide)) ?_
        rintro v30 h30 ⟨f30, o30⟩
        rw [brow_bools, k9_11] at o30
        have f30_z := f30.size
        replace p0 := p0.fresh f30 (by omega)
        replace t8 := t8.fr f30 (by omega)
        replace ra := ra.fr f30 (by omega)
        simp -dsimp only [go_sem, ↓reduceIte, reduceCtorEq, Nat.reduceEqDiff, Nat.reduceAdd, Nat.reduceLeDiff, Nat.reduceMul, Int.reduceBEq, Int.reduceBNe, Int.reduceLT, Int.reduceLE, Int.reduceGT, Int.reduceGE, ra.cell]
        intro c gb nb
        have nb_a := nb.at_
        have nb_z := nb.size
        replace p0 := p0.fresh (nb.fr (lo := 0) (hi := 0)) (by omega)
        replace t8 := t8.fr (nb.fr (lo := 0) (hi := 0)) (by omega)
        replace ra := ra.fr (nb.fr (lo := 0) (hi := 0)) (by omega)
        replace o30 := o30.fr (nb.fr (lo := 0) (hi := 0)) (by have := o30.at_; omega)
        have rb := nb.row
        simp -dsimp only [go_sem, ↓reduceIte, reduceCtorEq, Nat.reduceEqDiff, Nat.reduceAdd, Nat.reduceLeDiff, Nat.reduceMul, Int.reduceBEq, Int.reduceBNe, Int.reduceLT, Int.reduceLE, Int.reduceGT, Int.reduceGE, ra.cell, rb.cell]
        refine call_of (c_law1_truths (l := [true, false, false, true]) (m := [true, false, false, true]) o30.rd (rb.rd rfl) (by decide)) ?_
        rintro v h' ⟨rfl, rfl⟩
        simp -dsimp only [go_sem, ↓reduceIte, reduceCtorEq, Nat.reduceEqDiff, Nat.reduceAdd, Nat.reduceLeDiff, Nat.reduceMul, Int.reduceBEq, Int.reduceBNe, Int.reduceLT, Int.reduceLE, Int.reduceGT, Int.reduceGE, r_two]
        refine ⟨?_, ?_⟩
        · refine call_of (rel_Image (rs := []) t8 (ht.fr p0 (by omega)) (Holder.none 1 _ 0).rd (by decide)) ?_
          rintro v31 h31 ⟨f31, o31⟩
          rw [brow_bools, k9_12] at o31
          have f31_z := f31.size
          replace p0 := p0.fresh f31 (by omega)
          replace t8 := t8.fr f31 (by omega)
          simp -dsimp only [go_sem, ↓reduceIte, reduceCtorEq, Nat.reduceEqDiff, Nat.reduceAdd, Nat.reduceLeDiff, Nat.reduceMul, Int.reduceBEq, Int.reduceBNe, Int.reduceLT, Int.reduceLE, Int.reduceGT, Int.reduceGE]
          refine Chk_intro (by decide) ?_
          intro c31 g31 n31
          have n31_a := n31.at_
          have n31_z := n31.size
          replace p0 := p0.fresh (n31.fr (lo := 0) (hi := 0)) (by omega)
          replace t8 := t8.fr (n31.fr (lo := 0) (hi := 0)) (by omega)
          replace o31 := o31.fr (n31.fr (lo := 0) (hi := 0)) (by have := o31.at_; omega)
          have r31 := n31.row
          rw [zeros_one] at r31
          simp -dsimp only [go_sem, ↓reduceIte, reduceCtorEq, Nat.reduceEqDiff, Nat.reduceAdd, Nat.reduceLeDiff, Nat.reduceMul, Int.reduceBEq, Int.reduceBNe, Int.reduceLT, Int.reduceLE, Int.reduceGT, Int.reduceGE, r31.cell]
          refine call_of (c_law1_truths (l := [false, false, false, false]) (m := [false, false, false, false]) o31.rd (r31.rd rfl) (by decide)) ?_
          rintro v h' ⟨rfl, rfl⟩
          simp -dsimp only [go_sem, ↓reduceIte, reduceCtorEq, Nat.reduceEqDiff, Nat.reduceAdd, Nat.reduceLeDiff, Nat.reduceMul, Int.reduceBEq, Int.reduceBNe, Int.reduceLT, Int.reduceLE, Int.reduceGT, Int.reduceGE, r31.cell]
          exact ⟨(), by simp [Le, find], p0, _, _, t8⟩
        · refine Chk_intro (by decide) ?_
          intro c32 g32 n32
          have n32_a := n32.at_
          have n32_z := n32.size
          replace p0 := p0.fresh (n32.fr (lo := 0) (hi := 0)) (by omega)
          replace t8 := t8.fr (n32.fr (lo := 0) (hi := 0)) (by omega)
          have r32 := n32.row
          rw [zeros_one] at r32
          simp -dsimp only [go_sem, ↓reduceIte, reduceCtorEq, Nat.reduceEqDiff, Nat.reduceAdd, Nat.reduceLeDiff, Nat.reduceMul, Int.reduceBEq, Int.reduceBNe, Int.reduceLT, Int.reduceLE, Int.reduceGT, Int.reduceGE, r32.cell]
          refine call_of (rel_Image (rs := []) t8 (ht.fr p0 (by omega)) (Holder.none 1 _ 0).rd (by decide)) ?_
          rintro v32 h32 ⟨f32, o32⟩
          rw [brow_bools, k9_12] at o32
          have f32_z := f32.size
          replace p0 := p0.fresh f32 (by omega)
          replace t8 := t8.fr f32 (by omega)
          replace r32 := r32.fr f32 (by omega)
          simp -dsimp only [go_sem, ↓reduceIte, reduceCtorEq, Nat.reduceEqDiff, Nat.reduceAdd, Nat.reduceLeDiff, Nat.reduceMul, Int.reduceBEq, Int.reduceBNe, Int.reduceLT, Int.reduceLE, Int.reduceGT, Int.reduceGE, r32.cell]
          refine call_of (c_law1_truths (l := [false, false, false, false]) (m := [false, false, false, false]) o32.rd (r32.rd rfl) (by decide)) ?_
          rintro v h' ⟨rfl, rfl⟩
          simp -dsimp only [go_sem, ↓reduceIte, reduceCtorEq, Nat.reduceEqDiff, Nat.reduceAdd, Nat.reduceLeDiff, Nat.reduceMul, Int.reduceBEq, Int.reduceBNe, Int.reduceLT, Int.reduceLE, Int.reduceGT, Int.reduceGE, r32.cell]
          exact ⟨(), by simp [Le, find], p0, _, _, t8⟩
      · intro c gb nb
        have nb_a := nb.at_
        have nb_z := nb.size
        replace p0 := p0.fresh (nb.fr (lo := 0) (hi := 0)) (by omega)
        replace t8 := t8.fr (nb.fr (lo := 0) (hi := 0)) (by omega)
        replace ra := ra.fr (nb.fr (lo := 0) (hi := 0)) (by omega)
        have rb := nb.row
        simp -dsimp only [go_sem, ↓reduceIte, reduceCtorEq, Nat.reduceEqDiff, Nat.reduceAdd, Nat.reduceLeDiff, Nat.reduceMul, Int.reduceBEq, Int.reduceBNe, Int.reduceLT, Int.reduceLE, Int.reduceGT, Int.reduceGE, ra.cell, rb.cell]
        refine call_of (rel_Image (rs := [false, false, true]) t8 (ht.fr p0 (by omega)) (ra.rd rfl) (by decide)) ?_
        rintro v33 h33 ⟨f33, o33⟩
        rw [brow_bools, k9_11] at o33
        have f33_z := f33.size
        replace p0 := p0.fresh f33 (by omega)
        replace t8 := t8.fr f33 (by omega)
        replace ra := ra.fr f33 (by omega)
        replace rb := rb.fr f33 (by omega)
        simp -dsimp only [go_sem, ↓reduceIte, reduceCtorEq, Nat.reduceEqDiff, Nat.reduceAdd, Nat.reduceLeDiff, Nat.reduceMul, Int.reduceBEq, Int.reduceBNe, Int.reduceLT, Int.reduceLE, Int.reduceGT, Int.reduceGE, ra.cell, rb.cell]
        refine call_of (c_law1_truths (l := [true, false, false, true]) (m := [true, false, false, true]) o33.rd (rb.rd rfl) (by decide)) ?_
        rintro v h' ⟨rfl, rfl⟩
        simp -dsimp only [go_sem, ↓reduceIte, reduceCtorEq, Nat.reduceEqDiff, Nat.reduceAdd, Nat.reduceLeDiff, Nat.reduceMul, Int.reduceBEq, Int.reduceBNe, Int.reduceLT, Int.reduceLE, Int.reduceGT, Int.reduceGE, r_two]
        refine ⟨?_, ?_⟩
        · refine call_of (rel_Image (rs := []) t8 (ht.fr p0 (by omega)) (Holder.none 1 _ 0).rd (by decide)) ?_
          rintro v34 h34 ⟨f34, o34⟩
          rw [brow_bools, k9_12] at o34
          have f34_z := f34.size
          replace p0 := p0.fresh f34 (by omega)
          replace t8 := t8.fr f34 (by omega)
          simp -dsimp only [go_sem, ↓reduceIte, reduceCtorEq, Nat.reduceEqDiff, Nat.reduceAdd, Nat.reduceLeDiff, Nat.reduceMul, Int.reduceBEq, Int.reduceBNe, Int.reduceLT, Int.reduceLE, Int.reduceGT, Int.reduceGE]
          refine Chk_intro (by decide) ?_
          intro c34 g34 n34
          have n34_a := n34.at_
          have n34_z := n34.size
          replace p0 := p0.fresh (n34.fr (lo := 0) (hi := 0)) (by omega)
          replace t8 := t8.fr (n34.fr (lo := 0) (hi := 0)) (by omega)
          replace o34 := o34.fr (n34.fr (lo := 0) (hi := 0)) (by have := o34.at_; omega)
          have r34 := n34.row
          rw [zeros_one] at r34
          simp -dsimp only [go_sem, ↓reduceIte, reduceCtorEq, Nat.reduceEqDiff, Nat.reduceAdd, Nat.reduceLeDiff, Nat.reduceMul, Int.reduceBEq, Int.reduceBNe, Int.reduceLT, Int.reduceLE, Int.reduceGT, Int.reduceGE, r34.cell]
          refine call_of (c_law1_truths (l := [false, false, false, false]) (m := [false, false, false, false]) o34.rd (r34.rd rfl) (by decide)) ?_
          rintro v h' ⟨rfl, rfl⟩
          simp -dsimp only [go_sem, ↓reduceIte, reduceCtorEq, Nat.reduceEqDiff, Nat.reduceAdd, Nat.reduceLeDiff, Nat.reduceMul, Int.reduceBEq, Int.reduceBNe, Int.reduceLT, Int.reduceLE, Int.reduceGT, Int.reduceGE, r34.cell]
          exact ⟨(), by simp [Le, find], p0, _, _, t8⟩
        · refine Chk_intro (by decide) ?_
          intro c35 g35 n35
          have n35_a := n35.at_
          have n35_z := n35.size
          replace p0 := p0.fresh (n35.fr (lo := 0) (hi := 0)) (by omega)
          replace t8 := t8.fr (n35.fr (lo := 0) (hi := 0)) (by omega)
          have r35 := n35.row
          rw [zeros_one] at r35
          simp -dsimp only [go_sem, ↓reduceIte, reduceCtorEq, Nat.reduceEqDiff, Nat.reduceAdd, Nat.reduceLeDiff, Nat.reduceMul, Int.reduceBEq, Int.reduceBNe, Int.reduceLT, Int.reduceLE, Int.reduceGT, Int.reduceGE, r35.cell]
          refine call_of (rel_Image (rs := []) t8 (ht.fr p0 (by omega)) (Holder.none 1 _ 0).rd (by decide)) ?_
          rintro v35 h35 ⟨f35, o35⟩
          rw [brow_bools, k9_12] at o35
          have f35_z := f35.size
          replace p0 := p0.fresh f35 (by omega)
          replace t8 := t8.fr f35 (by omega)
          replace r35 := r35.fr f35 (by omega)
          simp -dsimp only [go_sem, ↓reduceIte, reduceCtorEq, Nat.reduceEqDiff, Nat.reduceAdd, Nat.reduceLeDiff, Nat.reduceMul, Int.reduceBEq, Int.reduceBNe, Int.reduceLT, Int.reduceLE, Int.reduceGT, Int.reduceGE, r35.cell]
          refine call_of (c_law1_truths (l := [false, false, false, false]) (m := [false, false, false, false]) o35.rd (r35.rd rfl) (by decide)) ?_
          rintro v h' ⟨rfl, rfl⟩
          simp -dsimp only [go_sem, ↓reduceIte, reduceCtorEq, Nat.reduceEqDiff, Nat.reduceAdd, Nat.reduceLeDiff, Nat.reduceMul, Int.reduceBEq, Int.reduceBNe, Int.reduceLT, Int.reduceLE, Int.reduceGT, Int.reduceGE, r35.cell]
          exact ⟨(), by simp [Le, find], p0, _, _, t8⟩
    · intro c gb nb
      have nb_a := nb.at_
      have nb_z := nb.size
      replace p0 := p0.fresh (nb.fr (lo := 0) (hi := 0)) (by omega)
      replace t8 := t8.fr (nb.fr (lo := 0) (hi := 0)) (by omega)
      have rb := nb.row
      simp -dsimp only [go_sem, ↓reduceIte, reduceCtorEq, Nat.reduceEqDiff, Nat.reduceAdd, Nat.reduceLeDiff, Nat.reduceMul, Int.reduceBEq, Int.reduceBNe, Int.reduceLT, Int.reduceLE, Int.reduceGT, Int.reduceGE, rb.cell]
      intro b ga na
      have na_a := na.at_
      have na_z := na.size
      replace p0 := p0.fresh (na.fr (lo := 0) (hi := 0)) (by omega)
      replace t8 := t8.fr (na.fr (lo := 0) (hi := 0)) (by omega)
      replace rb := rb.fr (na.fr (lo := 0) (hi := 0)) (by omega)
      have ra := na.row
      simp -dsimp only [go_sem, ↓reduceIte, reduceCtorEq, Nat.reduceEqDiff, Nat.reduceAdd, Nat.reduceLeDiff, Nat.reduceMul, Int.reduceBEq, Int.reduceBNe, Int.reduceLT, Int.reduceLE, Int.reduceGT, Int.reduceGE, rb.cell, ra.cell]
      refine call_of (rel_Image (rs := [false, false, true]) t8 (ht.fr p0 (by omega)) (ra.rd rfl) (by decide)) ?_
      rintro v36 h36 ⟨f36, o36⟩
      rw [brow_bools, k9_11] at o36
      have f36_z := f36.size
      replace p0 := p0.fresh f36 (by omega)
      replace t8 := t8.fr f36 (by omega)
      replace rb := rb.fr f36 (by omega)
      replace ra := ra.fr f36 (by omega)
      simp -dsimp only [go_sem, ↓reduceIte, reduceCtorEq, Nat.reduceEqDiff, Nat.reduceAdd, Nat.reduceLeDiff, Nat.reduceMul, Int.reduceBEq, Int.reduceBNe, Int.reduceLT, Int.reduceLE, Int.reduceGT, Int.reduceGE, rb.cell, ra.cell]
      refine call_of (c_law1_truths (l := [true, false, false, true]) (m := [true, false, false, true]) o36.rd (rb.rd rfl) (by decide)) ?_
      rintro v h' ⟨rfl, rfl⟩
      simp -dsimp only [go_sem, ↓reduceIte, reduceCtorEq, Nat.reduceEqDiff, Nat.reduceAdd, Nat.reduceLeDiff, Nat.reduceMul, Int.reduceBEq, Int.reduceBNe, Int.reduceLT, Int.reduceLE, Int.reduceGT, Int.reduceGE, r_two]
      refine ⟨?_, ?_⟩
      · refine call_of (rel_Image (rs := []) t8 (ht.fr p0 (by omega)) (Holder.none 1 _ 0).rd (by decide)) ?_
        rintro v37 h37 ⟨f37, o37⟩
        rw [brow_bools, k9_12] at o37
        have f37_z := f37.size
        replace p0 := p0.fresh f37 (by omega)
        replace t8 := t8.fr f37 (by omega)
        simp -dsimp only [go_sem, ↓reduceIte, reduceCtorEq, Nat.reduceEqDiff, Nat.reduceAdd, Nat.reduceLeDiff, Nat.reduceMul, Int.reduceBEq, Int.reduceBNe, Int.reduceLT, Int.reduceLE, Int.reduceGT, Int.reduceGE]
        refine Chk_intro (by decide) ?_
        intro c37 g37 n37
        have n37_a := n37.at_
        have n37_z := n37.size
        replace p0 := p0.fresh (n37.fr (lo := 0) (hi := 0)) (by omega)
        replace t8 := t8.fr (n37.fr (lo := 0) (hi := 0)) (by omega)
        replace o37 := o37.fr (n37.fr (lo := 0) (hi := 0)) (by have := o37.at_; omega)
        have r37 := n37.row
        rw [zeros_one] at r37
        simp -dsimp only [go_sem, ↓reduceIte, reduceCtorEq, Nat.reduceEqDiff, Nat.reduceAdd, Nat.reduceLeDiff, Nat.reduceMul, Int.reduceBEq, Int.reduceBNe, Int.reduceLT, Int.reduceLE, Int.reduceGT, Int.reduceGE, r37.cell]
        refine call_of (c_law1_truths (l := [false, false, false, false]) (m := [false, false, false, false]) o37.rd (r37.rd rfl) (by decide)) ?_
        rintro v h' ⟨rfl, rfl⟩
        simp -dsimp only [go_sem, ↓reduceIte, reduceCtorEq, Nat.reduceEqDiff, Nat.reduceAdd, Nat.reduceLeDiff, Nat.reduceMul, Int.reduceBEq, Int.reduceBNe, Int.reduceLT, Int.reduceLE, Int.reduceGT, Int.reduceGE, r37.cell]
        exact ⟨(), by simp [Le, find], p0, _, _, t8⟩
      · refine Chk_intro (by decide) ?_
        intro c38 g38 n38
        have n38_a := n38.at_
        have n38_z := n38.size
        replace p0 := p0.fresh (n38.fr (lo := 0) (hi := 0)) (by omega)
        replace t8 := t8.fr (n38.fr (lo := 0) (hi := 0)) (by omega)
        have r38 := n38.row
        rw [zeros_one] at r38
        simp -dsimp only [go_sem, ↓reduceIte, reduceCtorEq, Nat.reduceEqDiff, Nat.reduceAdd, Nat.reduceLeDiff, Nat.reduceMul, Int.reduceBEq, Int.reduceBNe, Int.reduceLT, Int.reduceLE, Int.reduceGT, Int.reduceGE, r38.cell]
        refine call_of (rel_Image (rs := []) t8 (ht.fr p0 (by omega)) (Holder.none 1 _ 0).rd (by decide)) ?_
        rintro v38 h38 ⟨f38, o38⟩
        rw [brow_bools, k9_12] at o38
        have f38_z := f38.size
        replace p0 := p0.fresh f38 (by omega)
        replace t8 := t8.fr f38 (by omega)
        replace r38 := r38.fr f38 (by omega)
        simp -dsimp only [go_sem, ↓reduceIte, reduceCtorEq, Nat.reduceEqDiff, Nat.reduceAdd, Nat.reduceLeDiff, Nat.reduceMul, Int.reduceBEq, Int.reduceBNe, Int.reduceLT, Int.reduceLE, Int.reduceGT, Int.reduceGE, r38.cell]
        refine call_of (c_law1_truths (l := [false, false, false, false]) (m := [false, false, false, false]) o38.rd (r38.rd rfl) (by decide)) ?_
        rintro v h' ⟨rfl, rfl⟩
        simp -dsimp only [go_sem, ↓reduceIte, reduceCtorEq, Nat.reduceEqDiff, Nat.reduceAdd, Nat.reduceLeDiff, Nat.reduceMul, Int.reduceBEq, Int.reduceBNe, Int.reduceLT, Int.reduceLE, Int.reduceGT, Int.reduceGE, r38.cell]
        exact ⟨(), by simp [Le, find], p0, _, _, t8⟩
  rintro ⟨⟩ hj ⟨p0, lo, hi, t8⟩ e ⟨e1, e2, -⟩
  have p0_z := p0.size
  simp -dsimp only [go_sem, ↓reduceIte, reduceCtorEq, Nat.reduceEqDiff, Nat.reduceAdd, Nat.reduceLeDiff, Nat.reduceMul, Int.reduceBEq, Int.reduceBNe, Int.reduceLT, Int.reduceLE, Int.reduceGT, Int.reduceGE, e1, e2]
  refine call_of (rel_Union (L := []) (Holder.none 1 _ 0).rd (fun x hx => by simp at hx) (show 0 ≤ 65536 by decide)) ?_
  rintro v39 h39 ⟨f39, t39⟩
  obtain ⟨q39, rfl⟩ := progPtr t39
  have f39_z := f39.size
  replace p0 := p0.fresh f39 (by omega)
  replace t8 := t8.fr f39 (by omega)
  simp -dsimp only [go_sem, ↓reduceIte, reduceCtorEq, Nat.reduceEqDiff, Nat.reduceAdd, Nat.reduceLeDiff, Nat.reduceMul, Int.reduceBEq, Int.reduceBNe, Int.reduceLT, Int.reduceLE, Int.reduceGT, Int.reduceGE]
  refine call_of (rel_New 2 _) ?_
  rintro v40 h40 ⟨f40, t40⟩
  obtain ⟨q40, rfl⟩ := progPtr t40
  have f40_z := f40.size
  replace p0 := p0.fresh f40 (by omega)
  replace t8 := t8.fr f40 (by omega)
  replace t39 := t39.fr f40 (by omega)
  simp -dsimp only [go_sem, ↓reduceIte, reduceCtorEq, Nat.reduceEqDiff, Nat.reduceAdd, Nat.reduceLeDiff, Nat.reduceMul, Int.reduceBEq, Int.reduceBNe, Int.reduceLT, Int.reduceLE, Int.reduceGT, Int.reduceGE]
  intro b41 h41 n41
  have n41_a := n41.at_
  have n41_z := n41.size
  replace p0 := p0.fresh (n41.fr (lo := 0) (hi := 0)) (by omega)
  replace t8 := t8.fr (n41.fr (lo := 0) (hi := 0)) (by omega)
  replace t39 := t39.fr (n41.fr (lo := 0) (hi := 0)) (by omega)
  replace t40 := t40.fr (n41.fr (lo := 0) (hi := 0)) (by omega)
  have r41 := n41.row
  simp -dsimp only [go_sem, ↓reduceIte, reduceCtorEq, Nat.reduceEqDiff, Nat.reduceAdd, Nat.reduceLeDiff, Nat.reduceMul, Int.reduceBEq, Int.reduceBNe, Int.reduceLT, Int.reduceLE, Int.reduceGT, Int.reduceGE, r41.cell]
  refine call_of (rel_Union (L := [((.pointer (some ⟨q40, 0, none⟩)), clampN 2, fun _ _ => false), ((.pointer (some ⟨q1, 0, none⟩)), 4, M8)]) (r41.rd rfl) (rels2' t40 t8) (show 2 ≤ 65536 by decide)) ?_
  rintro v42 h42 ⟨f42, t42⟩
  obtain ⟨q42, rfl⟩ := progPtr t42
  have f42_z := f42.size
  replace p0 := p0.fresh f42 (by omega)
  replace t8 := t8.fr f42 (by omega)
  replace t39 := t39.fr f42 (by omega)
  simp -dsimp only [go_sem, ↓reduceIte, reduceCtorEq, Nat.reduceEqDiff, Nat.reduceAdd, Nat.reduceLeDiff, Nat.reduceMul, Int.reduceBEq, Int.reduceBNe, Int.reduceLT, Int.reduceLE, Int.reduceGT, Int.reduceGE]
  refine call_of (rel_New 2 _) ?_
  rintro v43 h43 ⟨f43, t43⟩
  obtain ⟨q43, rfl⟩ := progPtr t43
  have f43_z := f43.size
  replace p0 := p0.fresh f43 (by omega)
  replace t8 := t8.fr f43 (by omega)
  replace t39 := t39.fr f43 (by omega)
  replace t42 := t42.fr f43 (by omega)
  simp -dsimp only [go_sem, ↓reduceIte, reduceCtorEq, Nat.reduceEqDiff, Nat.reduceAdd, Nat.reduceLeDiff, Nat.reduceMul, Int.reduceBEq, Int.reduceBNe, Int.reduceLT, Int.reduceLE, Int.reduceGT, Int.reduceGE]
  refine call_of (rel_Inter t43 t8 (ht.fr p0 (by omega))) ?_
  rintro v44 h44 ⟨f44, t44⟩
  obtain ⟨q44, rfl⟩ := progPtr t44
  have f44_z := f44.size
  replace p0 := p0.fresh f44 (by omega)
  replace t8 := t8.fr f44 (by omega)
  replace t39 := t39.fr f44 (by omega)
  replace t42 := t42.fr f44 (by omega)
  simp -dsimp only [go_sem, ↓reduceIte, reduceCtorEq, Nat.reduceEqDiff, Nat.reduceAdd, Nat.reduceLeDiff, Nat.reduceMul, Int.reduceBEq, Int.reduceBNe, Int.reduceLT, Int.reduceLE, Int.reduceGT, Int.reduceGE]
  refine call_of (rel_New 9 _) ?_
  rintro v45 h45 ⟨f45, t45⟩
  obtain ⟨q45, rfl⟩ := progPtr t45
  have f45_z := f45.size
  replace p0 := p0.fresh f45 (by omega)
  replace t8 := t8.fr f45 (by omega)
  replace t39 := t39.fr f45 (by omega)
  replace t42 := t42.fr f45 (by omega)
  replace t44 := t44.fr f45 (by omega)
  simp -dsimp only [go_sem, ↓reduceIte, reduceCtorEq, Nat.reduceEqDiff, Nat.reduceAdd, Nat.reduceLeDiff, Nat.reduceMul, Int.reduceBEq, Int.reduceBNe, Int.reduceLT, Int.reduceLE, Int.reduceGT, Int.reduceGE]
  refine call_of (rel_Minus t8 t45 (ht.fr p0 (by omega))) ?_
  rintro v46 h46 ⟨f46, t46⟩
  obtain ⟨q46, rfl⟩ := progPtr t46
  have f46_z := f46.size
  replace p0 := p0.fresh f46 (by omega)
  replace t8 := t8.fr f46 (by omega)
  replace t39 := t39.fr f46 (by omega)
  replace t42 := t42.fr f46 (by omega)
  replace t44 := t44.fr f46 (by omega)
  simp -dsimp only [go_sem, ↓reduceIte, reduceCtorEq, Nat.reduceEqDiff, Nat.reduceAdd, Nat.reduceLeDiff, Nat.reduceMul, Int.reduceBEq, Int.reduceBNe, Int.reduceLT, Int.reduceLE, Int.reduceGT, Int.reduceGE]
  refine call_of (rel_New 1000 _) ?_
  rintro v47 h47 ⟨f47, t47⟩
  obtain ⟨q47, rfl⟩ := progPtr t47
  have f47_z := f47.size
  replace p0 := p0.fresh f47 (by omega)
  replace t8 := t8.fr f47 (by omega)
  replace t39 := t39.fr f47 (by omega)
  replace t42 := t42.fr f47 (by omega)
  replace t44 := t44.fr f47 (by omega)
  replace t46 := t46.fr f47 (by omega)
  simp -dsimp only [go_sem, ↓reduceIte, reduceCtorEq, Nat.reduceEqDiff, Nat.reduceAdd, Nat.reduceLeDiff, Nat.reduceMul, Int.reduceBEq, Int.reduceBNe, Int.reduceLT, Int.reduceLE, Int.reduceGT, Int.reduceGE]
  intro b48 h48 n48
  have n48_a := n48.at_
  have n48_z := n48.size
  replace p0 := p0.fresh (n48.fr (lo := 0) (hi := 0)) (by omega)
  replace t8 := t8.fr (n48.fr (lo := 0) (hi := 0)) (by omega)
  replace t39 := t39.fr (n48.fr (lo := 0) (hi := 0)) (by omega)
  replace t42 := t42.fr (n48.fr (lo := 0) (hi := 0)) (by omega)
  replace t44 := t44.fr (n48.fr (lo := 0) (hi := 0)) (by omega)
  replace t46 := t46.fr (n48.fr (lo := 0) (hi := 0)) (by omega)
  replace t47 := t47.fr (n48.fr (lo := 0) (hi := 0)) (by omega)
  have r48 := n48.row
  simp -dsimp only [go_sem, ↓reduceIte, reduceCtorEq, Nat.reduceEqDiff, Nat.reduceAdd, Nat.reduceLeDiff, Nat.reduceMul, Int.reduceBEq, Int.reduceBNe, Int.reduceLT, Int.reduceLE, Int.reduceGT, Int.reduceGE, r48.cell]
  refine call_of (rel_Ident 3 (l := [true, false, true, true]) (r48.rd rfl) (by decide)) ?_
  rintro v49 h49 ⟨f49, t49⟩
  obtain ⟨q49, rfl⟩ := progPtr t49
  have f49_z := f49.size
  replace p0 := p0.fresh f49 (by omega)
  replace t8 := t8.fr f49 (by omega)
  replace t39 := t39.fr f49 (by omega)
  replace t42 := t42.fr f49 (by omega)
  replace t44 := t44.fr f49 (by omega)
  replace t46 := t46.fr f49 (by omega)
  replace t47 := t47.fr f49 (by omega)
  simp -dsimp only [go_sem, ↓reduceIte, reduceCtorEq, Nat.reduceEqDiff, Nat.reduceAdd, Nat.reduceLeDiff, Nat.reduceMul, Int.reduceBEq, Int.reduceBNe, Int.reduceLT, Int.reduceLE, Int.reduceGT, Int.reduceGE]
  refine call_of (rel_New (-3) _) ?_
  rintro v50 h50 ⟨f50, t50⟩
  obtain ⟨q50, rfl⟩ := progPtr t50
  have f50_z := f50.size
  replace p0 := p0.fresh f50 (by omega)
  replace t8 := t8.fr f50 (by omega)
  replace t39 := t39.fr f50 (by omega)
  replace t42 := t42.fr f50 (by omega)
  replace t44 := t44.fr f50 (by omega)
  replace t46 := t46.fr f50 (by omega)
  replace t47 := t47.fr f50 (by omega)
  replace t49 := t49.fr f50 (by omega)
  simp -dsimp only [go_sem, ↓reduceIte, reduceCtorEq, Nat.reduceEqDiff, Nat.reduceAdd, Nat.reduceLeDiff, Nat.reduceMul, Int.reduceBEq, Int.reduceBNe, Int.reduceLT, Int.reduceLE, Int.reduceGT, Int.reduceGE]
  refine call_of (rel_Len t39) ?_
  rintro v h51 ⟨rfl, rfl⟩
  rw [show (maxN []) = 0 from by decide]
  simp -dsimp only [go_sem, ↓reduceIte, reduceCtorEq, Nat.reduceEqDiff, Nat.reduceAdd, Nat.reduceLeDiff, Nat.reduceMul, Int.reduceBEq, Int.reduceBNe, Int.reduceLT, Int.reduceLE, Int.reduceGT, Int.reduceGE, Int.cast_ofNat_Int]
  refine call_of (rel_Len t42) ?_
  rintro v h52 ⟨rfl, rfl⟩
  have e52 : (maxN [((.pointer (some ⟨q40, 0, none⟩)), clampN 2, fun _ _ => false), ((.pointer (some ⟨q1, 0, none⟩)), 4, M8)]) = 4 := rfl
  rw [e52]
  simp -dsimp only [go_sem, ↓reduceIte, reduceCtorEq, Nat.reduceEqDiff, Nat.reduceAdd, Nat.reduceLeDiff, Nat.reduceMul, Int.reduceBEq, Int.reduceBNe, Int.reduceLT, Int.reduceLE, Int.reduceGT, Int.reduceGE, Int.cast_ofNat_Int]
  refine call_of (rel_Len t44) ?_
  rintro v h53 ⟨rfl, rfl⟩
  rw [show (max (clampN 2) 4) = 4 from by decide]
  simp -dsimp only [go_sem, ↓reduceIte, reduceCtorEq, Nat.reduceEqDiff, Nat.reduceAdd, Nat.reduceLeDiff, Nat.reduceMul, Int.reduceBEq, Int.reduceBNe, Int.reduceLT, Int.reduceLE, Int.reduceGT, Int.reduceGE, Int.cast_ofNat_Int]
  refine call_of (rel_Len t46) ?_
  rintro v h54 ⟨rfl, rfl⟩
  rw [show (max 4 (clampN 9)) = 9 from by decide]
  simp -dsimp only [go_sem, ↓reduceIte, reduceCtorEq, Nat.reduceEqDiff, Nat.reduceAdd, Nat.reduceLeDiff, Nat.reduceMul, Int.reduceBEq, Int.reduceBNe, Int.reduceLT, Int.reduceLE, Int.reduceGT, Int.reduceGE, Int.cast_ofNat_Int]
  refine call_of (rel_Len t50) ?_
  rintro v h55 ⟨rfl, rfl⟩
  rw [show (clampN (-3)) = 0 from by decide]
  simp -dsimp only [go_sem, ↓reduceIte, reduceCtorEq, Nat.reduceEqDiff, Nat.reduceAdd, Nat.reduceLeDiff, Nat.reduceMul, Int.reduceBEq, Int.reduceBNe, Int.reduceLT, Int.reduceLE, Int.reduceGT, Int.reduceGE, Int.cast_ofNat_Int]
  refine call_of (rel_Len t47) ?_
  rintro v h56 ⟨rfl, rfl⟩
  rw [show (clampN 1000) = 256 from by decide]
  simp -dsimp only [go_sem, ↓reduceIte, reduceCtorEq, Nat.reduceEqDiff, Nat.reduceAdd, Nat.reduceLeDiff, Nat.reduceMul, Int.reduceBEq, Int.reduceBNe, Int.reduceLT, Int.reduceLE, Int.reduceGT, Int.reduceGE, Int.cast_ofNat_Int]
  refine call_of (rel_Pairs t49 (ht.fr p0 (by omega))) ?_
  rintro v57 h57 ⟨f57, o57⟩
  rw [k9_13] at o57
  have f57_z := f57.size
  replace p0 := p0.fresh f57 (by omega)
  replace t8 := t8.fr f57 (by omega)
  replace t39 := t39.fr f57 (by omega)
  replace t42 := t42.fr f57 (by omega)
  replace t44 := t44.fr f57 (by omega)
  replace t46 := t46.fr f57 (by omega)
  replace t47 := t47.fr f57 (by omega)
  replace t49 := t49.fr f57 (by omega)
  replace t50 := t50.fr f57 (by omega)
  simp -dsimp only [go_sem, ↓reduceIte, reduceCtorEq, Nat.reduceEqDiff, Nat.reduceAdd, Nat.reduceLeDiff, Nat.reduceMul, Int.reduceBEq, Int.reduceBNe, Int.reduceLT, Int.reduceLE, Int.reduceGT, Int.reduceGE]
  intro b58 h58 n58
  have n58_a := n58.at_
  have n58_z := n58.size
  replace p0 := p0.fresh (n58.fr (lo := 0) (hi := 0)) (by omega)
  replace t8 := t8.fr (n58.fr (lo := 0) (hi := 0)) (by omega)
  replace t39 := t39.fr (n58.fr (lo := 0) (hi := 0)) (by omega)
  replace t42 := t42.fr (n58.fr (lo := 0) (hi := 0)) (by omega)
  replace t44 := t44.fr (n58.fr (lo := 0) (hi := 0)) (by omega)
  replace t46 := t46.fr (n58.fr (lo := 0) (hi := 0)) (by omega)
  replace t47 := t47.fr (n58.fr (lo := 0) (hi := 0)) (by omega)
  replace t49 := t49.fr (n58.fr (lo := 0) (hi := 0)) (by omega)
  replace t50 := t50.fr (n58.fr (lo := 0) (hi := 0)) (by omega)
  replace o57 := o57.fr (n58.fr (lo := 0) (hi := 0)) (by have := o57.at_; omega)
  have r58 := n58.row
  simp -dsimp only [go_sem, ↓reduceIte, reduceCtorEq, Nat.reduceEqDiff, Nat.reduceAdd, Nat.reduceLeDiff, Nat.reduceMul, Int.reduceBEq, Int.reduceBNe, Int.reduceLT, Int.reduceLE, Int.reduceGT, Int.reduceGE, r58.cell]
  refine call_of (c_law1_pairs (l := [(0, 0), (2, 2)]) (m := [(0, 0), (2, 2)]) o57.rd (r58.rd rfl) (by decide)) ?_
  rintro v h59 ⟨rfl, rfl⟩
  simp -dsimp only [go_sem, ↓reduceIte, reduceCtorEq, Nat.reduceEqDiff, Nat.reduceAdd, Nat.reduceLeDiff, Nat.reduceMul, Int.reduceBEq, Int.reduceBNe, Int.reduceLT, Int.reduceLE, Int.reduceGT, Int.reduceGE]
  refine call_of (rel_New 2 _) ?_
  rintro v60 h60 ⟨f60, t60⟩
  obtain ⟨q60, rfl⟩ := progPtr t60
  have f60_z := f60.size
  replace p0 := p0.fresh f60 (by omega)
  replace t8 := t8.fr f60 (by omega)
  replace t39 := t39.fr f60 (by omega)
  replace t42 := t42.fr f60 (by omega)
  replace t44 := t44.fr f60 (by omega)
  replace t46 := t46.fr f60 (by omega)
  replace t47 := t47.fr f60 (by omega)
  replace t49 := t49.fr f60 (by omega)
  replace t50 := t50.fr f60 (by omega)
  simp -dsimp only [go_sem, ↓reduceIte, reduceCtorEq, Nat.reduceEqDiff, Nat.reduceAdd, Nat.reduceLeDiff, Nat.reduceMul, Int.reduceBEq, Int.reduceBNe, Int.reduceLT, Int.reduceLE, Int.reduceGT, Int.reduceGE]
  refine call_of (rel_New 3 _) ?_
  rintro v61 h61 ⟨f61, t61⟩
  obtain ⟨q61, rfl⟩ := progPtr t61
  have f61_z := f61.size
  replace p0 := p0.fresh f61 (by omega)
  replace t8 := t8.fr f61 (by omega)
  replace t39 := t39.fr f61 (by omega)
  replace t42 := t42.fr f61 (by omega)
  replace t44 := t44.fr f61 (by omega)
  replace t46 := t46.fr f61 (by omega)
  replace t47 := t47.fr f61 (by omega)
  replace t49 := t49.fr f61 (by omega)
  replace t50 := t50.fr f61 (by omega)
  replace t60 := t60.fr f61 (by omega)
  simp -dsimp only [go_sem, ↓reduceIte, reduceCtorEq, Nat.reduceEqDiff, Nat.reduceAdd, Nat.reduceLeDiff, Nat.reduceMul, Int.reduceBEq, Int.reduceBNe, Int.reduceLT, Int.reduceLE, Int.reduceGT, Int.reduceGE]
  refine call_of (rel_Equal t60 t61 (ht.fr p0 (by omega))) ?_
  rintro v h62 ⟨f62, rfl⟩
  rw [show decide (clampN 2 = clampN 3 ∧ WithinP (clampN 2) (fun _ _ => false) (clampN 3) (fun _ _ => false) ∧ WithinP (clampN 3) (fun _ _ => false) (clampN 2) (fun _ _ => false)) = false from decide_eq_false fun hh => absurd hh.1 (by decide)]
  have f62_z := f62.size
  replace p0 := p0.fresh f62 (by omega)
  replace t8 := t8.fr f62 (by omega)
  replace t39 := t39.fr f62 (by omega)
  replace t42 := t42.fr f62 (by omega)
  replace t44 := t44.fr f62 (by omega)
  replace t46 := t46.fr f62 (by omega)
  replace t47 := t47.fr f62 (by omega)
  replace t49 := t49.fr f62 (by omega)
  replace t50 := t50.fr f62 (by omega)
  simp -dsimp only [go_sem, ↓reduceIte, reduceCtorEq, Nat.reduceEqDiff, Nat.reduceAdd, Nat.reduceLeDiff, Nat.reduceMul, Int.reduceBEq, Int.reduceBNe, Int.reduceLT, Int.reduceLE, Int.reduceGT, Int.reduceGE]
  refine call_of (rel_New 3 _) ?_
  rintro v63 h63 ⟨f63, t63⟩
  obtain ⟨q63, rfl⟩ := progPtr t63
  have f63_z := f63.size
  replace p0 := p0.fresh f63 (by omega)
  replace t8 := t8.fr f63 (by omega)
  replace t39 := t39.fr f63 (by omega)
  replace t42 := t42.fr f63 (by omega)
  replace t44 := t44.fr f63 (by omega)
  replace t46 := t46.fr f63 (by omega)
  replace t47 := t47.fr f63 (by omega)
  replace t49 := t49.fr f63 (by omega)
  replace t50 := t50.fr f63 (by omega)
  simp -dsimp only [go_sem, ↓reduceIte, reduceCtorEq, Nat.reduceEqDiff, Nat.reduceAdd, Nat.reduceLeDiff, Nat.reduceMul, Int.reduceBEq, Int.reduceBNe, Int.reduceLT, Int.reduceLE, Int.reduceGT, Int.reduceGE]
  refine call_of (rel_New 2 _) ?_
  rintro v64 h64 ⟨f64, t64⟩
  obtain ⟨q64, rfl⟩ := progPtr t64
  have f64_z := f64.size
  replace p0 := p0.fresh f64 (by omega)
  replace t8 := t8.fr f64 (by omega)
  replace t39 := t39.fr f64 (by omega)
  replace t42 := t42.fr f64 (by omega)
  replace t44 := t44.fr f64 (by omega)
  replace t46 := t46.fr f64 (by omega)
  replace t47 := t47.fr f64 (by omega)
  replace t49 := t49.fr f64 (by omega)
  replace t50 := t50.fr f64 (by omega)
  replace t63 := t63.fr f64 (by omega)
  simp -dsimp only [go_sem, ↓reduceIte, reduceCtorEq, Nat.reduceEqDiff, Nat.reduceAdd, Nat.reduceLeDiff, Nat.reduceMul, Int.reduceBEq, Int.reduceBNe, Int.reduceLT, Int.reduceLE, Int.reduceGT, Int.reduceGE]
  refine call_of (rel_Within t63 t64 (ht.fr p0 (by omega))) ?_
  rintro v h65 ⟨f65, rfl⟩
  rw [show decide (WithinP (clampN 3) (fun _ _ => false) (clampN 2) (fun _ _ => false)) = true from decide_eq_true (by intro a _ b _ hm; simp at hm)]
  have f65_z := f65.size
  replace p0 := p0.fresh f65 (by omega)
  replace t8 := t8.fr f65 (by omega)
  replace t39 := t39.fr f65 (by omega)
  replace t42 := t42.fr f65 (by omega)
  replace t44 := t44.fr f65 (by omega)
  replace t46 := t46.fr f65 (by omega)
  replace t47 := t47.fr f65 (by omega)
  replace t49 := t49.fr f65 (by omega)
  replace t50 := t50.fr f65 (by omega)
  replace t63 := t63.fr f65 (by omega)
  replace t64 := t64.fr f65 (by omega)
  simp -dsimp only [go_sem, ↓reduceIte, reduceCtorEq, Nat.reduceEqDiff, Nat.reduceAdd, Nat.reduceLeDiff, Nat.reduceMul, Int.reduceBEq, Int.reduceBNe, Int.reduceLT, Int.reduceLE, Int.reduceGT, Int.reduceGE]
  exact p0
end Go.Proofs.Tst
/-
  From a contract to a row: what a law's call leaves; how arguments are read.
-/
namespace Go.Vc
open Go Go.RowKit Go.ChangeShapes Go.WideShapes Go.ChangeAt Go.Deep

section
variable {H : Type} {enc : TypeId × Value → H} {P : Program}

theorem trodAll_below (hl : laidOutB P = true) {W W' : World} (hb : Below W.heap.size W W') : ∀ {ts : List TypeId} {vs : List Value} {ds : List (DataW H)} {ps : List MemPlace},
    ts.all (fun t => P.readableRec t && decide (t < P.types.size)) = true → DataW.TrodAll enc P W 0 (fun _ => true) true ts vs ds ps → DataW.TrodAll enc P W' 0 (fun b => decide (b < W.heap.size)) true ts vs ds ps
  | [], _, _, _, _, h => by
    obtain ⟨rfl, rfl, rfl⟩ := trodAll_nil h
    exact rfl
  | t :: ts, _, _, _, hr, h => by
    have hlt := h.lt
    obtain ⟨v, vs, d, ds, p, q, rfl, rfl, rfl, h1, h2⟩ := trodAll_cons h
    simp only [List.all_cons, Bool.and_eq_true, decide_eq_true_eq] at hr
    exact ⟨p, q, Below.trod hl hr.1.1 hr.1.2 h1 hb (fun x hx => hlt x (List.mem_append_left _ hx)), trodAll_below hl hb hr.2 h2, rfl⟩

/-- What a law that answers true leaves. -/
theorem law_post {f : Func} {s : ChangeSpec} {W W' : World} {args : Array Value} {ds gs : List (DataW H)} {before : List MemPlace} {tb : TypeId}
    (hl : laidOutB P = true) (hp : f.params.toList.all (fun t => P.readableRec t && decide (t < P.types.size)) = true) (hv : s.vars = [])
    (hrt : f.resultTypes = #[tb]) (htb : P.underlying tb = some .bool) (hW : DataW.Whole enc P f.params.toList s.vars false W args.toList ds gs before)
    (hb : Below W.heap.size W W') (hfn : s.fn H (ds ++ gs) = { results := [.lit (.bool true)], args := ds }) : s.post enc P f false true false false W args (.bool true) W' := by
  have hW0 := hW
  obtain ⟨p, q, hA, hV, rfl, hz, hn⟩ := hW0
  rw [hv] at hV
  obtain ⟨rfl, rfl⟩ := trodVars_none hV
  refine ⟨ds, [], _, [], p, [], hW, ?_, ?_, ?_, ?_, fun h => by cases h⟩
  · rw [hfn, hrt]; exact trodAll_cons_mk (shut_bool htb true) trodAll_mk0
  · rw [hfn]; exact trodAll_below hl hb hp hA
  · rw [hfn, hv]; exact rfl
  · refine World.keptBut_mono (fun p hp => ⟨hp, ?_⟩) (hb.frame (· ∈ p ++ []))
    rw [List.append_nil] at hp
    exact .inr (.inl hp)

/-- The heap's part of a call that keeps all that was. -/
theorem below_of {w w' : World} (hf : Fr 0 0 w.heap w'.heap) (hl : Like none w w') : Below w.heap.size w w' :=
  ⟨hl.os, hl.tape, hl.output, hl.size, fun k hk => hf.old k hk (.inr (Nat.zero_le _))⟩

/-! ### Arguments -/
theorem cell?_plain {w : World} {a : Addr} {v : Value} (h : w.cell? a = some v) : a.spot = none := by
  unfold World.cell? at h
  split at h
  · split at h
    · cases h
    · rename_i hs; simpa using hs
  · cases h
theorem addr_plain {a : Addr} (h : a.spot = none) : a = ⟨a.block, a.off, none⟩ := by cases a; simp_all
theorem cell?_add {w : World} {a : Addr} (ha : a.spot = none) (j : Nat) : w.cell? (a.add j) = hcell w.heap a.block (a.off + j) := by
  rw [← cell?_heap]
  unfold Addr.add
  split
  · rename_i h; subst h; rw [Nat.add_zero, ← addr_plain ha]
  · rw [← ha]
theorem rd_of {w : World} {s n c : Nat} {a : Addr} {xs : List Value} (hs : 0 < s) (hl : xs.length = n * s) (hc : ∀ j, j < n * s → ∃ v, xs[j]? = some v ∧ w.cell? (a.add j) = some v) : Rd s w.heap (.slice (some a) n c) n xs := by
  refine ⟨hl, _, _, rfl, ?_⟩
  rcases Nat.eq_zero_or_pos n with h0 | h0
  · exact .inl h0
  · have hp : 0 < n * s := Nat.mul_pos h0 hs
    obtain ⟨v, _, hv⟩ := hc 0 hp
    have ha : a.spot = none := cell?_plain (w := w) (a := a) (by simpa [Addr.add] using hv)
    refine .inr ⟨a.block, a.off, by rw [← addr_plain ha], fun j x hj => ?_⟩
    obtain ⟨v, h1, h2⟩ := hc j (by have := (List.getElem?_eq_some_iff.1 hj).1; omega)
    rw [hj] at h1; cases h1
    rw [← cell?_add ha]; exact h2
theorem wf64 {n : Int} (h : (Lit.int .i64 n).wf = true) : -9223372036854775808 ≤ n ∧ n ≤ 9223372036854775807 := by
  simp only [Lit.wf, Bool.and_eq_true, decide_eq_true_eq] at h
  have e1 : IntKind.i64.min = -9223372036854775808 := by decide
  have e2 : IntKind.i64.max = 9223372036854775807 := by decide
  rw [e1, e2] at h; exact h

variable {w : World} {base : Nat} {held : Bool}
/-- A list of integers that came in. -/
theorem arg_ints {r : Reach} {b0 : Nat} {t e : TypeId} {v : Value} {d : DataW H} {ps : List MemPlace} (ht : P.underlying t = some (.slice e)) (he : P.underlying e = some (.int .i64)) (hc : P.cellsOf e = 1) (hby : P.bytesOf e = 8)
    (hval : Value.okWide P w r b0 t v) (hd : DataW.Trod enc P w base (fun _ => true) held t v d ps) (hw : ∀ x ∈ d.weights P t, x ≤ reachBytes) :
    ∃ l : List Int, Rd 1 w.heap v l.length (intsV l) ∧ l.length ≤ 17592186044416 ∧ ∀ x ∈ l, -9223372036854775808 ≤ x ∧ x ≤ 9223372036854775807 := by
  obtain ⟨a, n, c, rfl⟩ := okWide_slice ht hval
  obtain ⟨fuel, hf⟩ := hd
  rcases open_ints ht he hc hf with ⟨h1, h2⟩ | ⟨a', len, cap, zs, h1, _, hlc, _, hz, hx, hcell, hwf⟩
  · have h1 : [Value.slice a n c] = [.slice none 0 0] := h1
    cases h1
    exact ⟨[], ⟨rfl, _, _, rfl, .inl rfl⟩, by simp, by simp⟩
  · have h1 : [Value.slice a n c] = [.slice (some a') len cap] := h1
    cases h1
    simp only [if_true] at hz
    simp only [Prod.mk.injEq] at hx
    obtain ⟨rfl, rfl⟩ := hx
    have hwt := hw _ (by simp only [DataW.weights, ht]; exact List.mem_cons_self ..)
    simp only [lits, List.length_map, List.length_take, List.length_drop, hby] at hwt
    unfold reachBytes at hwt
    refine ⟨zs.take n, ?_, ?_, fun x hx => wf64 (hwf x (List.mem_of_mem_take hx))⟩
    · have hl : (zs.take n).length = n := by simp; omega
      rw [hl]
      refine rd_of (by omega) (by simp; omega) fun j hj => ?_
      have hj : j < zs.length := by omega
      refine ⟨.int .i64 (zs.getD j 0), ?_, hcell j hj⟩
      have : (zs.take n)[j]? = some (zs.getD j 0) := by
        rw [List.getElem?_take_of_lt (by omega)]; simp [hj]
      exact intsV_get this
    · simp; omega

/-- A list of pairs that came in. -/
theorem arg_pairs {r : Reach} {b0 : Nat} {t e : TypeId} {f0 f1 : Field} {v : Value} {d : DataW H} {ps : List MemPlace} (ht : P.underlying t = some (.slice e)) (he : P.underlying e = some (.struct #[f0, f1])) (ce : P.cellsOf e = 2) (hby : P.bytesOf e = 16)
    (o0 : f0.offset = 0) (o1 : f1.offset = 1) (c0 : P.cellsOf f0.type = 1) (c1 : P.cellsOf f1.type = 1) (u0 : P.underlying f0.type = some (.int .i64)) (u1 : P.underlying f1.type = some (.int .i64))
    (hval : Value.okWide P w r b0 t v) (hd : DataW.Trod enc P w base (fun _ => true) held t v d ps) (hw : ∀ x ∈ d.weights P t, x ≤ reachBytes) :
    ∃ l : List (Int × Int), Rd 2 w.heap v l.length (pairsV l) ∧ l.length ≤ 8796093022208 ∧ ∀ x ∈ l, (-9223372036854775808 ≤ x.1 ∧ x.1 ≤ 9223372036854775807) ∧ -9223372036854775808 ≤ x.2 ∧ x.2 ≤ 9223372036854775807 := by
  obtain ⟨a, n, c, rfl⟩ := okWide_slice ht hval
  obtain ⟨fuel, hf⟩ := hd
  rcases open_slice_pairs ht he ce o0 o1 c0 c1 hf with ⟨h1, h2⟩ | ⟨a', len, cap, m, k, V0, V1, D0, D1, P0, P1, h1, _, hlc, _, hm, hx, hcell⟩
  · have h1 : [Value.slice a n c] = [.slice none 0 0] := h1
    cases h1
    exact ⟨[], ⟨rfl, _, _, rfl, .inl rfl⟩, by simp, by simp⟩
  · have h1 : [Value.slice a n c] = [.slice (some a') len cap] := h1
    cases h1
    simp only [if_true] at hm
    subst hm
    simp only [Prod.mk.injEq] at hx
    obtain ⟨rfl, rfl⟩ := hx
    have hwt := hw _ (by simp only [DataW.weights, ht]; exact List.mem_cons_self ..)
    simp only [List.length_map, List.length_range, hby] at hwt
    unfold reachBytes at hwt
    obtain ⟨Z, hZ⟩ := choose_lt (α := Int × Int) (n := m) (p := fun i z => V0 i = .int .i64 z.1 ∧ V1 i = .int .i64 z.2 ∧ (Lit.int .i64 z.1).wf = true ∧ (Lit.int .i64 z.2).wf = true) (fun i hi => by
      obtain ⟨_, _, g1, g2⟩ := hcell i hi
      obtain ⟨x, hx, _, hxw⟩ := DataW.trod_int u0 g1
      obtain ⟨y, hy, _, hyw⟩ := DataW.trod_int u1 g2
      exact ⟨(x, y), by simpa using hx, by simpa using hy, hxw, hyw⟩)
    have hl : ((List.range n).map Z).length = n := by simp
    refine ⟨(List.range n).map Z, ?_, by rw [hl]; omega, fun x hx => ?_⟩
    · rw [hl]
      refine rd_of (by omega) (by simp) fun j hj => ?_
      obtain ⟨i, hij⟩ : ∃ i, j = i * 2 ∨ j = i * 2 + 1 := ⟨j / 2, by omega⟩
      have hi : i < n := by omega
      have hg : ((List.range n).map Z)[i]? = some (Z i) := by simp [hi]
      obtain ⟨g1, g2⟩ := pairsV_get _ _ _ hg
      obtain ⟨h3, h4, _, _⟩ := hcell i (by omega)
      obtain ⟨h5, h6, _, _⟩ := hZ i (by omega)
      rcases hij with rfl | rfl
      · exact ⟨_, g1, by rw [h3, h5]⟩
      · exact ⟨_, g2, by rw [h4, h6]⟩
    · obtain ⟨i, hi, rfl⟩ := List.mem_map.1 hx
      obtain ⟨_, _, h7, h8⟩ := hZ i (by have := List.mem_range.1 hi; omega)
      exact ⟨wf64 h7, wf64 h8⟩
end
end Go.Vc
