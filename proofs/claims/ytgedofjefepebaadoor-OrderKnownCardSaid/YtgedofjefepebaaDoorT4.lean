/-
  Contracts of functions that the law reaches: what each returns and what it leaves in memory. Conditions stand in each.
-/
import Derived.Test.YtgedofjefepebaaDoorT3
set_option linter.all false
set_option maxRecDepth 2000
/-
  Lists compared, cell by cell.
-/
namespace Go.Proofs.Tst
open Go Go.Vc
theorem c_law2_ints {l m : List Int} {a b : Value} {h : Heap} (hl : Rd 1 h a l.length (intsV l)) (hm : Rd 1 h b m.length (intsV m)) (hb : l.length ≤ 4611686018427387904) :
    Con Tryd.prog 18 #[a, b] h fun v h' => h' = h ∧ v = .bool (decide (l = m)) := by
  refine con_law2_ints ?_
  obtain ⟨aa, ac, rfl⟩ := hl.is
  obtain ⟨ba, bc, rfl⟩ := hm.is
  simp -dsimp only [go_sem, ↓reduceIte, reduceCtorEq, Nat.reduceEqDiff, Nat.reduceAdd, Nat.reduceLeDiff, Nat.reduceMul, Int.reduceBEq, Int.reduceBNe, Int.reduceLT, Int.reduceLE, Int.reduceGT, Int.reduceGE]
  refine ⟨fun hne => ?_, fun heq => ?_⟩
  · simp -dsimp only [go_sem, ↓reduceIte, reduceCtorEq, Nat.reduceEqDiff, Nat.reduceAdd, Nat.reduceLeDiff, Nat.reduceMul, Int.reduceBEq, Int.reduceBNe, Int.reduceLT, Int.reduceLE, Int.reduceGT, Int.reduceGE]
    have : l ≠ m := by rintro rfl; simp at hne
    simp [this]
  have heq : l.length = m.length := by have : (l.length : Int) = m.length := by simpa using heq
                                       omega
  simp -dsimp only [go_sem, ↓reduceIte, reduceCtorEq, Nat.reduceEqDiff, Nat.reduceAdd, Nat.reduceLeDiff, Nat.reduceMul, Int.reduceBEq, Int.reduceBNe, Int.reduceLT, Int.reduceLE, Int.reduceGT, Int.reduceGE]
  refine loop_intro (fun i : Nat => [(0, .slice aa l.length ac), (1, .slice ba m.length bc), (5, .int .i64 i)])
    (fun i h' => i ≤ l.length ∧ h' = h ∧ ∀ j, j < i → l[j]? = m[j]?) (fun i => l.length - i) 0 ?_ ?_ ?_
  · simp [Le, find]
  · exact ⟨by omega, rfl, fun j hj => by omega⟩
  rintro i _ ⟨hi, rfl, hinv⟩
  simp -dsimp only [go_sem, ↓reduceIte, reduceCtorEq, Nat.reduceEqDiff, Nat.reduceAdd, Nat.reduceLeDiff, Nat.reduceMul, Int.reduceBEq, Int.reduceBNe, Int.reduceLT, Int.reduceLE, Int.reduceGT, Int.reduceGE]
  refine ⟨fun hlt => ?_, fun hge => ?_⟩
  · have hlt : i < l.length := by omega
    simp -dsimp only [go_sem, ↓reduceIte, reduceCtorEq, Nat.reduceEqDiff, Nat.reduceAdd, Nat.reduceLeDiff, Nat.reduceMul, Int.reduceBEq, Int.reduceBNe, Int.reduceLT, Int.reduceLE, Int.reduceGT, Int.reduceGE]
    refine Chk_intro (by omega) (hl.idx (by omega) fun b1 o1 c1 => ?_)
    simp -dsimp only [go_sem, ↓reduceIte, reduceCtorEq, Nat.reduceEqDiff, Nat.reduceAdd, Nat.reduceLeDiff, Nat.reduceMul, Int.reduceBEq, Int.reduceBNe, Int.reduceLT, Int.reduceLE, Int.reduceGT, Int.reduceGE, c1 i _ (intsV_get (List.getElem?_eq_getElem hlt))]
    refine Chk_intro (by omega) (hm.idx (by omega) fun b2 o2 c2 => ?_)
    simp -dsimp only [go_sem, ↓reduceIte, reduceCtorEq, Nat.reduceEqDiff, Nat.reduceAdd, Nat.reduceLeDiff, Nat.reduceMul, Int.reduceBEq, Int.reduceBNe, Int.reduceLT, Int.reduceLE, Int.reduceGT, Int.reduceGE, c2 i _ (intsV_get (List.getElem?_eq_getElem (show i < m.length by omega)))]
    refine ⟨fun hne => ?_, fun he => ?_⟩
    · simp -dsimp only [go_sem, ↓reduceIte, reduceCtorEq, Nat.reduceEqDiff, Nat.reduceAdd, Nat.reduceLeDiff, Nat.reduceMul, Int.reduceBEq, Int.reduceBNe, Int.reduceLT, Int.reduceLE, Int.reduceGT, Int.reduceGE]
      have : l ≠ m := by rintro rfl; simp at hne
      simp [this]
    · simp -dsimp only [go_sem, ↓reduceIte, reduceCtorEq, Nat.reduceEqDiff, Nat.reduceAdd, Nat.reduceLeDiff, Nat.reduceMul, Int.reduceBEq, Int.reduceBNe, Int.reduceLT, Int.reduceLE, Int.reduceGT, Int.reduceGE]
      simp -dsimp (disch := omega) only [wrap64]
      refine ⟨i + 1, by omega, by simp [Le, find], by omega, fun j hj => ?_⟩
      by_cases hji : j = i
      · subst hji
        rw [List.getElem?_eq_getElem hlt, List.getElem?_eq_getElem (show j < m.length by omega)]
        simpa using he
      · exact hinv j (by omega)
  · simp -dsimp only [go_sem, ↓reduceIte, reduceCtorEq, Nat.reduceEqDiff, Nat.reduceAdd, Nat.reduceLeDiff, Nat.reduceMul, Int.reduceBEq, Int.reduceBNe, Int.reduceLT, Int.reduceLE, Int.reduceGT, Int.reduceGE]
    have : l = m := List.ext_getElem? fun j => by
      by_cases hj : j < i
      · exact hinv j hj
      · rw [List.getElem?_eq_none (by omega), List.getElem?_eq_none (by omega)]
    simp [this]
end Go.Proofs.Tst
namespace Go.Proofs.Tst
open Go Go.Vc
def smallL : List (Int × Int) := [(2, 0), (3, 1)]
def roundL : List (Int × Int) := [(0, 1), (1, 0), (1, 4), (3, 3), (4, 2)]
theorem c_law2_small (h : Heap) : Con Tryd.prog 69 #[] h fun v h' => Fr 0 0 h h' ∧ ProgAt h' h.size h'.size v 4 (ofM 4 smallL) := by
  refine con_law2_small ?_
  have p0 : Fr 0 0 h h := .refl _ _ _
  simp -dsimp only [go_sem, ↓reduceIte, reduceCtorEq, Nat.reduceEqDiff, Nat.reduceAdd, Nat.reduceLeDiff, Nat.reduceMul, Int.reduceBEq, Int.reduceBNe, Int.reduceLT, Int.reduceLE, Int.reduceGT, Int.reduceGE]
  intro b1 h1 n1
  have n1_a := n1.at_
  have n1_z := n1.size
  replace p0 := p0.fresh (n1.fr (lo := 0) (hi := 0)) (by omega)
  have r1 := n1.row
  simp -dsimp only [go_sem, ↓reduceIte, reduceCtorEq, Nat.reduceEqDiff, Nat.reduceAdd, Nat.reduceLeDiff, Nat.reduceMul, Int.reduceBEq, Int.reduceBNe, Int.reduceLT, Int.reduceLE, Int.reduceGT, Int.reduceGE, r1.cell]
  refine call_of (rel_Of 4 _ smallL h1 (r1.rd rfl) (by decide)) ?_
  rintro v h2 ⟨f2, t2⟩
  have f2_z := f2.size
  replace p0 := p0.fresh f2 (by omega)
  replace r1 := r1.fr f2 (by omega)
  simp -dsimp only [go_sem, ↓reduceIte, reduceCtorEq, Nat.reduceEqDiff, Nat.reduceAdd, Nat.reduceLeDiff, Nat.reduceMul, Int.reduceBEq, Int.reduceBNe, Int.reduceLT, Int.reduceLE, Int.reduceGT, Int.reduceGE, r1.cell]
  exact ⟨p0, t2.mono (by omega) (by omega)⟩
theorem c_law2_round (h : Heap) : Con Tryd.prog 70 #[] h fun v h' => Fr 0 0 h h' ∧ ProgAt h' h.size h'.size v 5 (ofM 5 roundL) := by
  refine con_law2_round ?_
  have p0 : Fr 0 0 h h := .refl _ _ _
  simp -dsimp only [go_sem, ↓reduceIte, reduceCtorEq, Nat.reduceEqDiff, Nat.reduceAdd, Nat.reduceLeDiff, Nat.reduceMul, Int.reduceBEq, Int.reduceBNe, Int.reduceLT, Int.reduceLE, Int.reduceGT, Int.reduceGE]
  intro b1 h1 n1
  have n1_a := n1.at_
  have n1_z := n1.size
  replace p0 := p0.fresh (n1.fr (lo := 0) (hi := 0)) (by omega)
  have r1 := n1.row
  simp -dsimp only [go_sem, ↓reduceIte, reduceCtorEq, Nat.reduceEqDiff, Nat.reduceAdd, Nat.reduceLeDiff, Nat.reduceMul, Int.reduceBEq, Int.reduceBNe, Int.reduceLT, Int.reduceLE, Int.reduceGT, Int.reduceGE, r1.cell]
  refine call_of (rel_Of 5 _ roundL h1 (r1.rd rfl) (by decide)) ?_
  rintro v h2 ⟨f2, t2⟩
  have f2_z := f2.size
  replace p0 := p0.fresh f2 (by omega)
  replace r1 := r1.fr f2 (by omega)
  simp -dsimp only [go_sem, ↓reduceIte, reduceCtorEq, Nat.reduceEqDiff, Nat.reduceAdd, Nat.reduceLeDiff, Nat.reduceMul, Int.reduceBEq, Int.reduceBNe, Int.reduceLT, Int.reduceLE, Int.reduceGT, Int.reduceGE, r1.cell]
  exact ⟨p0, t2.mono (by omega) (by omega)⟩
theorem k2_1 : sortS 4 (ofM 4 smallL) = some [2, 0, 3, 1] := by decide
theorem k2_2 : sortS 5 (ofM 5 roundL) = none := by decide
theorem k2_3 : glueS 4 (ofM 4 smallL) [(2, 3)] = .ok [2, 3, 0, 1] := by rfl
theorem k2_4 : LinP 4 (ofM 4 smallL) [2, 0, 3, 1] := by decide
theorem k2_5 : ¬ LinP 4 (ofM 4 smallL) [0, 1, 2, 3] := by decide
theorem c_law2_lives {h : Heap} (ht : TabAt h) : Con Tryd.prog 23 #[] h fun v h' => Fr 0 0 h h' ∧ v = .bool true := by
  refine con_law2_lives ?_
  have p0 : Fr 0 0 h h := .refl _ _ _
  simp -dsimp only [go_sem, ↓reduceIte, reduceCtorEq, Nat.reduceEqDiff, Nat.reduceAdd, Nat.reduceLeDiff, Nat.reduceMul, Int.reduceBEq, Int.reduceBNe, Int.reduceLT, Int.reduceLE, Int.reduceGT, Int.reduceGE]
  refine call_of (c_law2_small h) ?_
  rintro v1 h1 ⟨f1, t1⟩
  have f1_z := f1.size
  replace p0 := p0.fresh f1 (by omega)
  simp -dsimp only [go_sem, ↓reduceIte, reduceCtorEq, Nat.reduceEqDiff, Nat.reduceAdd, Nat.reduceLeDiff, Nat.reduceMul, Int.reduceBEq, Int.reduceBNe, Int.reduceLT, Int.reduceLE, Int.reduceGT, Int.reduceGE]
  refine call_of (order_Sort t1 (ht.fr p0 (by omega))) ?_
  rintro v2 h2 ⟨f2, o2⟩
  rw [k2_1] at o2
  obtain ⟨w2, rfl, o2⟩ := o2
  have f2_z := f2.size
  replace p0 := p0.fresh f2 (by omega)
  simp -dsimp only [go_sem, ↓reduceIte, reduceCtorEq, Nat.reduceEqDiff, Nat.reduceAdd, Nat.reduceLeDiff, Nat.reduceMul, Int.reduceBEq, Int.reduceBNe, Int.reduceLT, Int.reduceLE, Int.reduceGT, Int.reduceGE]
  refine call_of (c_law2_round h2) ?_
  rintro v3 h3 ⟨f3, t3⟩
  have f3_z := f3.size
  replace p0 := p0.fresh f3 (by omega)
  replace o2 := o2.fr f3 (by have := o2.at_; omega)
  simp -dsimp only [go_sem, ↓reduceIte, reduceCtorEq, Nat.reduceEqDiff, Nat.reduceAdd, Nat.reduceLeDiff, Nat.reduceMul, Int.reduceBEq, Int.reduceBNe, Int.reduceLT, Int.reduceLE, Int.reduceGT, Int.reduceGE]
  refine call_of (order_Sort t3 (ht.fr p0 (by omega))) ?_
  rintro v4 h4 ⟨f4, o4⟩
  rw [k2_2] at o4
  simp only [ListOr] at o4
  subst o4
  have f4_z := f4.size
  replace p0 := p0.fresh f4 (by omega)
  replace o2 := o2.fr f4 (by have := o2.at_; omega)
  simp -dsimp only [go_sem, ↓reduceIte, reduceCtorEq, Nat.reduceEqDiff, Nat.reduceAdd, Nat.reduceLeDiff, Nat.reduceMul, Int.reduceBEq, Int.reduceBNe, Int.reduceLT, Int.reduceLE, Int.reduceGT, Int.reduceGE]
  refine call_of (c_law2_small h4) ?_
  rintro v5 h5 ⟨f5, t5⟩
  have f5_z := f5.size
  replace p0 := p0.fresh f5 (by omega)
  replace o2 := o2.fr f5 (by have := o2.at_; omega)
  simp -dsimp only [go_sem, ↓reduceIte, reduceCtorEq, Nat.reduceEqDiff, Nat.reduceAdd, Nat.reduceLeDiff, Nat.reduceMul, Int.reduceBEq, Int.reduceBNe, Int.reduceLT, Int.reduceLE, Int.reduceGT, Int.reduceGE]
  intro b6 h6 n6
  have n6_a := n6.at_
  have n6_z := n6.size
  replace p0 := p0.fresh (n6.fr (lo := 0) (hi := 0)) (by omega)
  replace o2 := o2.fr (n6.fr (lo := 0) (hi := 0)) (by have := o2.at_; omega)
  replace t5 := t5.fr (n6.fr (lo := 0) (hi := 0)) (by omega)
  have r6 := n6.row
  simp -dsimp only [go_sem, ↓reduceIte, reduceCtorEq, Nat.reduceEqDiff, Nat.reduceAdd, Nat.reduceLeDiff, Nat.reduceMul, Int.reduceBEq, Int.reduceBNe, Int.reduceLT, Int.reduceLE, Int.reduceGT, Int.reduceGE, r6.cell]
  refine call_of (order_Glue (l := [(2, 3)]) t5 (ht.fr p0 (by omega)) (r6.rd rfl) (by decide)) ?_
  rintro v7 h7 ⟨f7, o7⟩
  rw [k2_3] at o7
  obtain ⟨w7, rfl, o7⟩ := o7
  have f7_z := f7.size
  replace p0 := p0.fresh f7 (by omega)
  replace o2 := o2.fr f7 (by have := o2.at_; omega)
  simp -dsimp only [go_sem, ↓reduceIte, reduceCtorEq, Nat.reduceEqDiff, Nat.reduceAdd, Nat.reduceLeDiff, Nat.reduceMul, Int.reduceBEq, Int.reduceBNe, Int.reduceLT, Int.reduceLE, Int.reduceGT, Int.reduceGE]
  intro b8 h8 n8
  have n8_a := n8.at_
  have n8_z := n8.size
  replace p0 := p0.fresh (n8.fr (lo := 0) (hi := 0)) (by omega)
  replace o2 := o2.fr (n8.fr (lo := 0) (hi := 0)) (by have := o2.at_; omega)
  replace o7 := o7.fr (n8.fr (lo := 0) (hi := 0)) (by have := o7.at_; omega)
  have r8 := n8.row
  simp -dsimp only [go_sem, ↓reduceIte, reduceCtorEq, Nat.reduceEqDiff, Nat.reduceAdd, Nat.reduceLeDiff, Nat.reduceMul, Int.reduceBEq, Int.reduceBNe, Int.reduceLT, Int.reduceLE, Int.reduceGT, Int.reduceGE, r8.cell]
  refine call_of (c_law2_ints (l := [2, 0, 3, 1]) (m := [2, 0, 3, 1]) o2.rd (r8.rd rfl) (by decide)) ?_
  rintro v h9 ⟨rfl, rfl⟩
  simp -dsimp only [go_sem, ↓reduceIte, reduceCtorEq, Nat.reduceEqDiff, Nat.reduceAdd, Nat.reduceLeDiff, Nat.reduceMul, Int.reduceBEq, Int.reduceBNe, Int.reduceLT, Int.reduceLE, Int.reduceGT, Int.reduceGE, r8.cell]
  intro b10 h10 n10
  have n10_a := n10.at_
  have n10_z := n10.size
  replace p0 := p0.fresh (n10.fr (lo := 0) (hi := 0)) (by omega)
  replace o2 := o2.fr (n10.fr (lo := 0) (hi := 0)) (by have := o2.at_; omega)
  replace o7 := o7.fr (n10.fr (lo := 0) (hi := 0)) (by have := o7.at_; omega)
  replace r8 := r8.fr (n10.fr (lo := 0) (hi := 0)) (by omega)
  have r10 := n10.row
  simp -dsimp only [go_sem, ↓reduceIte, reduceCtorEq, Nat.reduceEqDiff, Nat.reduceAdd, Nat.reduceLeDiff, Nat.reduceMul, Int.reduceBEq, Int.reduceBNe, Int.reduceLT, Int.reduceLE, Int.reduceGT, Int.reduceGE, r8.cell, r10.cell]
  refine call_of (c_law2_ints (l := [2, 3, 0, 1]) (m := [2, 3, 0, 1]) o7.rd (r10.rd rfl) (by decide)) ?_
  rintro v h11 ⟨rfl, rfl⟩
  simp -dsimp only [go_sem, ↓reduceIte, reduceCtorEq, Nat.reduceEqDiff, Nat.reduceAdd, Nat.reduceLeDiff, Nat.reduceMul, Int.reduceBEq, Int.reduceBNe, Int.reduceLT, Int.reduceLE, Int.reduceGT, Int.reduceGE, r8.cell, r10.cell]
  refine call_of (c_law2_small h11) ?_
  rintro v12 h12 ⟨f12, t12⟩
  have f12_z := f12.size
  replace p0 := p0.fresh f12 (by omega)
  replace o2 := o2.fr f12 (by have := o2.at_; omega)
  replace o7 := o7.fr f12 (by have := o7.at_; omega)
  replace r8 := r8.fr f12 (by omega)
  replace r10 := r10.fr f12 (by omega)
  simp -dsimp only [go_sem, ↓reduceIte, reduceCtorEq, Nat.reduceEqDiff, Nat.reduceAdd, Nat.reduceLeDiff, Nat.reduceMul, Int.reduceBEq, Int.reduceBNe, Int.reduceLT, Int.reduceLE, Int.reduceGT, Int.reduceGE, r8.cell, r10.cell]
  refine call_of (order_Linear (l := [2, 0, 3, 1]) t12 (ht.fr p0 (by omega)) o2.rd (by decide)) ?_
  rintro v13 h13 ⟨f13, rfl⟩
  rw [decide_eq_true k2_4]
  have f13_z := f13.size
  replace p0 := p0.fresh f13 (by omega)
  replace o2 := o2.fr f13 (by have := o2.at_; omega)
  replace o7 := o7.fr f13 (by have := o7.at_; omega)
  replace r8 := r8.fr f13 (by omega)
  replace r10 := r10.fr f13 (by omega)
  simp -dsimp only [go_sem, ↓reduceIte, reduceCtorEq, Nat.reduceEqDiff, Nat.reduceAdd, Nat.reduceLeDiff, Nat.reduceMul, Int.reduceBEq, Int.reduceBNe, Int.reduceLT, Int.reduceLE, Int.reduceGT, Int.reduceGE, r8.cell, r10.cell]
  refine call_of (c_law2_small h13) ?_
  rintro v14 h14 ⟨f14, t14⟩
  have f14_z := f14.size
  replace p0 := p0.fresh f14 (by omega)
  replace o2 := o2.fr f14 (by have := o2.at_; omega)
  replace o7 := o7.fr f14 (by have := o7.at_; omega)
  replace r8 := r8.fr f14 (by omega)
  replace r10 := r10.fr f14 (by omega)
  simp -dsimp only [go_sem, ↓reduceIte, reduceCtorEq, Nat.reduceEqDiff, Nat.reduceAdd, Nat.reduceLeDiff, Nat.reduceMul, Int.reduceBEq, Int.reduceBNe, Int.reduceLT, Int.reduceLE, Int.reduceGT, Int.reduceGE, r8.cell, r10.cell]
  intro b15 h15 n15
  have n15_a := n15.at_
  have n15_z := n15.size
  replace p0 := p0.fresh (n15.fr (lo := 0) (hi := 0)) (by omega)
  replace o2 := o2.fr (n15.fr (lo := 0) (hi := 0)) (by have := o2.at_; omega)
  replace o7 := o7.fr (n15.fr (lo := 0) (hi := 0)) (by have := o7.at_; omega)
  replace r8 := r8.fr (n15.fr (lo := 0) (hi := 0)) (by omega)
  replace r10 := r10.fr (n15.fr (lo := 0) (hi := 0)) (by omega)
  replace t14 := t14.fr (n15.fr (lo := 0) (hi := 0)) (by omega)
  have r15 := n15.row
  simp -dsimp only [go_sem, ↓reduceIte, reduceCtorEq, Nat.reduceEqDiff, Nat.reduceAdd, Nat.reduceLeDiff, Nat.reduceMul, Int.reduceBEq, Int.reduceBNe, Int.reduceLT, Int.reduceLE, Int.reduceGT, Int.reduceGE, r8.cell, r10.cell, r15.cell]
  refine call_of (order_Linear (l := [0, 1, 2, 3]) t14 (ht.fr p0 (by omega)) (r15.rd rfl) (by decide)) ?_
  rintro v16 h16 ⟨f16, rfl⟩
  rw [decide_eq_false k2_5]
  have f16_z := f16.size
  replace p0 := p0.fresh f16 (by omega)
  replace o2 := o2.fr f16 (by have := o2.at_; omega)
  replace o7 := o7.fr f16 (by have := o7.at_; omega)
  replace r8 := r8.fr f16 (by omega)
  replace r10 := r10.fr f16 (by omega)
  replace t14 := t14.fr f16 (by omega)
  replace r15 := r15.fr f16 (by omega)
  simp -dsimp only [go_sem, ↓reduceIte, reduceCtorEq, Nat.reduceEqDiff, Nat.reduceAdd, Nat.reduceLeDiff, Nat.reduceMul, Int.reduceBEq, Int.reduceBNe, Int.reduceLT, Int.reduceLE, Int.reduceGT, Int.reduceGE, r8.cell, r10.cell, r15.cell]
  exact p0
end Go.Proofs.Tst
/-
  Every Extensions, by the program and by the document; the lists are written over and grown.
-/
namespace Go.Proofs.Tst
open Go Go.Vc
theorem natsV_ints (l : List Nat) : natsV l = intsV (l.map fun (p : Nat) => (p : Int)) := by simp [natsV, intsV]
theorem c_law2_lists {L K : List (List Int)} {a b : Value} {h : Heap} (hl : RL h a (L.map intsV)) (hk : RL h b (K.map intsV)) (bL : L.length ≤ 4611686018427387904) (bl' : ∀ l ∈ L, l.length ≤ 4611686018427387904) :
    Con Tryd.prog 34 #[a, b] h fun v h' => h' = h ∧ v = .bool (decide (L = K)) := by
  refine con_law2_lists ?_
  obtain ⟨us, hu, hus⟩ := hl
  obtain ⟨ws, hw, hws⟩ := hk
  rw [List.length_map] at hu hw
  obtain ⟨aa, ac, rfl⟩ := hu.is
  obtain ⟨ba, bc, rfl⟩ := hw.is
  simp -dsimp only [go_sem, ↓reduceIte, reduceCtorEq, Nat.reduceEqDiff, Nat.reduceAdd, Nat.reduceLeDiff, Nat.reduceMul, Int.reduceBEq, Int.reduceBNe, Int.reduceLT, Int.reduceLE, Int.reduceGT, Int.reduceGE]
  refine ⟨fun hne => ?_, fun heq => ?_⟩
  · simp -dsimp only [go_sem, ↓reduceIte, reduceCtorEq, Nat.reduceEqDiff, Nat.reduceAdd, Nat.reduceLeDiff, Nat.reduceMul, Int.reduceBEq, Int.reduceBNe, Int.reduceLT, Int.reduceLE, Int.reduceGT, Int.reduceGE]
    have : L ≠ K := by rintro rfl; simp at hne
    simp [this]
  have heq : L.length = K.length := by have : (L.length : Int) = K.length := by simpa using heq
                                       omega
  simp -dsimp only [go_sem, ↓reduceIte, reduceCtorEq, Nat.reduceEqDiff, Nat.reduceAdd, Nat.reduceLeDiff, Nat.reduceMul, Int.reduceBEq, Int.reduceBNe, Int.reduceLT, Int.reduceLE, Int.reduceGT, Int.reduceGE]
  refine loop_intro (fun i : Nat => [(0, .slice aa L.length ac), (1, .slice ba K.length bc), (5, .int .i64 i)])
    (fun i h' => i ≤ L.length ∧ h' = h ∧ ∀ j, j < i → L[j]? = K[j]?) (fun i => L.length - i) 0 ?_ ?_ ?_
  · simp [Le, find]
  · exact ⟨by omega, rfl, fun j hj => by omega⟩
  rintro i h1 ⟨hi, hh, hinv⟩
  obtain rfl : h = h1 := hh.symm
  simp -dsimp only [go_sem, ↓reduceIte, reduceCtorEq, Nat.reduceEqDiff, Nat.reduceAdd, Nat.reduceLeDiff, Nat.reduceMul, Int.reduceBEq, Int.reduceBNe, Int.reduceLT, Int.reduceLE, Int.reduceGT, Int.reduceGE]
  refine ⟨fun hlt => ?_, fun hge => ?_⟩
  · have hlt : i < L.length := by omega
    have hx : L[i]? = some L[i] := List.getElem?_eq_getElem _
    have hy : K[i]? = some (K[i]'(by omega)) := List.getElem?_eq_getElem _
    have hxm : L[i] ∈ L := List.getElem_mem _
    generalize L[i] = x at hx hxm
    generalize (K[i]'(by omega)) = y at hy
    obtain ⟨u, hu1, hu2⟩ := hus i (intsV x) (by rw [List.getElem?_map, hx]; rfl)
    obtain ⟨w, hw1, hw2⟩ := hws i (intsV y) (by rw [List.getElem?_map, hy]; rfl)
    rw [length_intsV] at hu2 hw2
    simp -dsimp only [go_sem, ↓reduceIte, reduceCtorEq, Nat.reduceEqDiff, Nat.reduceAdd, Nat.reduceLeDiff, Nat.reduceMul, Int.reduceBEq, Int.reduceBNe, Int.reduceLT, Int.reduceLE, Int.reduceGT, Int.reduceGE]
    refine Chk_intro (by omega) (hu.idx (by omega) fun b1 o1 c1 => ?_)
    simp -dsimp only [go_sem, ↓reduceIte, reduceCtorEq, Nat.reduceEqDiff, Nat.reduceAdd, Nat.reduceLeDiff, Nat.reduceMul, Int.reduceBEq, Int.reduceBNe, Int.reduceLT, Int.reduceLE, Int.reduceGT, Int.reduceGE, c1 i _ hu1]
    refine Chk_intro (by omega) (hw.idx (by omega) fun b2 o2 c2 => ?_)
    simp -dsimp only [go_sem, ↓reduceIte, reduceCtorEq, Nat.reduceEqDiff, Nat.reduceAdd, Nat.reduceLeDiff, Nat.reduceMul, Int.reduceBEq, Int.reduceBNe, Int.reduceLT, Int.reduceLE, Int.reduceGT, Int.reduceGE, c2 i _ hw1]
    refine call_of (c_law2_ints hu2 hw2 (bl' x hxm)) ?_
    rintro v h2 ⟨hh, rfl⟩
    obtain rfl : h = h2 := hh.symm
    by_cases hxy : x = y
    · rw [decide_eq_true hxy]
      simp -dsimp only [go_sem, ↓reduceIte, reduceCtorEq, Nat.reduceEqDiff, Nat.reduceAdd, Nat.reduceLeDiff, Nat.reduceMul, Int.reduceBEq, Int.reduceBNe, Int.reduceLT, Int.reduceLE, Int.reduceGT, Int.reduceGE]
      simp -dsimp (disch := omega) only [wrap64]
      refine ⟨i + 1, by omega, by simp [Le, find], by omega, fun j hj => ?_⟩
      by_cases hji : j = i
      · subst hji; rw [hx, hy, hxy]
      · exact hinv j (by omega)
    · rw [decide_eq_false hxy]
      simp -dsimp only [go_sem, ↓reduceIte, reduceCtorEq, Nat.reduceEqDiff, Nat.reduceAdd, Nat.reduceLeDiff, Nat.reduceMul, Int.reduceBEq, Int.reduceBNe, Int.reduceLT, Int.reduceLE, Int.reduceGT, Int.reduceGE]
      have : L ≠ K := by rintro rfl; rw [hx] at hy; exact hxy (by simpa using hy)
      simp [this]
  · simp -dsimp only [go_sem, ↓reduceIte, reduceCtorEq, Nat.reduceEqDiff, Nat.reduceAdd, Nat.reduceLeDiff, Nat.reduceMul, Int.reduceBEq, Int.reduceBNe, Int.reduceLT, Int.reduceLE, Int.reduceGT, Int.reduceGE]
    have : L = K := List.ext_getElem? fun j => by
      by_cases hj : j < i
      · exact hinv j hj
      · rw [List.getElem?_eq_none (by omega), List.getElem?_eq_none (by omega)]
    simp [this]
theorem map_nats (L : List (List Nat)) : L.map natsV = (L.map fun l => l.map fun (p : Nat) => (p : Int)).map intsV := by
  rw [List.map_map]; apply List.map_congr_left; intro l _; exact natsV_ints l
theorem c_lists_nats {L K : List (List Nat)} {a b : Value} {h : Heap} (hl : RL h a (L.map natsV)) (hk : RL h b (K.map natsV)) (he : L = K) (bL : L.length ≤ 4611686018427387904) (bl' : ∀ l ∈ L, l.length ≤ 4611686018427387904) :
    Con Tryd.prog 34 #[a, b] h fun v h' => h' = h ∧ v = .bool true := by
  subst he
  rw [map_nats] at hl hk
  have := c_law2_lists hl hk (by simpa using bL) (by intro l hl; obtain ⟨x, hx, rfl⟩ := List.mem_map.1 hl; simpa using bl' x hx)
  rwa [decide_eq_true rfl] at this
end Go.Proofs.Tst
/-
  The points that lead to one another: the least one of each list, the relation between them, their order.
-/
namespace Go.Proofs.Tst
open Go Go.Vc
section
variable {n : Nat} {M : Nat → Nat → Bool}
def eqvB (n : Nat) (M : Nat → Nat → Bool) (p q : Nat) : Bool := plusM n M p q && plusM n M q p
/-- The least point of a point's list. -/
def ldF (n : Nat) (M : Nat → Nat → Bool) (p : Nat) : Nat := match lf (eqvB n M p) p 0 with | none => p | some q => q
theorem ldF_le {p : Nat} : ldF n M p ≤ p := by
  unfold ldF
  cases h : lf (eqvB n M p) p 0 with
  | none => exact Nat.le_refl _
  | some q => exact Nat.le_of_lt (lf_some h).2.1
theorem ldF_eqv {p : Nat} : ldF n M p = p ∨ (ldF n M p < p ∧ eqvB n M p (ldF n M p) = true) := by
  unfold ldF
  cases h : lf (eqvB n M p) p 0 with
  | none => exact .inl rfl
  | some q => exact .inr (lf_some h).2
theorem ldF_least {p q : Nat} (hq : q < ldF n M p) (h : eqvB n M p q = true) : False := by
  unfold ldF at hq
  cases hl : lf (eqvB n M p) p 0 with
  | none =>
    rw [hl] at hq
    have := lf_none hl q (by omega) hq
    rw [this] at h; simp at h
  | some x =>
    rw [hl] at hq
    have := lf_least hl q (by omega) hq
    rw [this] at h; simp at h
theorem eqvB_trans {p q r : Nat} (hq : q < n) (h1 : eqvB n M p q = true) (h2 : eqvB n M q r = true) : eqvB n M p r = true := by
  unfold eqvB at *
  rw [Bool.and_eq_true] at *
  exact ⟨plus_trans hq h1.1 h2.1, plus_trans hq h2.2 h1.2⟩
theorem ldF_idem {p : Nat} (hp : p < n) : ldF n M (ldF n M p) = ldF n M p := by
  rcases ldF_eqv (n := n) (M := M) (p := p) with h | ⟨h1, h2⟩
  · rw [h, h]
  · rcases ldF_eqv (n := n) (M := M) (p := ldF n M p) with h | ⟨h3, h4⟩
    · exact h
    · exact (ldF_least h3 (eqvB_trans (by omega) h2 h4)).elim
/-- A list's points, of those below k. -/
def memb (F : Nat → Nat) (r k : Nat) : List Nat := (List.range k).filter fun p => F p == r
theorem memb_succ {F : Nat → Nat} {r k : Nat} : memb F r (k + 1) = if F k = r then memb F r k ++ [k] else memb F r k := by
  unfold memb
  rw [List.range_succ, List.filter_append]
  by_cases h : F k = r <;> simp [h]
theorem memb_len {F : Nat → Nat} {r k : Nat} : (memb F r k).length ≤ k := by
  have := List.length_filter_le (fun p => F p == r) (List.range k)
  simpa [memb] using this
/-- Which list leads to which, told of their least points. -/
def smM (n : Nat) (M : Nat → Nat → Bool) (F : Nat → Nat) (x y : Nat) : Bool :=
  (List.range n).any fun p => (List.range n).any fun q => M p q && (F p != F q) && F p == x && F q == y
theorem smM_true {F : Nat → Nat} {x y : Nat} : smM n M F x y = true ↔ ∃ p, p < n ∧ ∃ q, q < n ∧ M p q = true ∧ F p ≠ F q ∧ F p = x ∧ F q = y := by
  simp only [smM, List.any_eq_true, List.mem_range, Bool.and_eq_true, bne_iff_ne, ne_eq, beq_iff_eq, and_assoc]
/-- The least points, in the order of what leads to what. -/
def seqGo (n : Nat) (S : Nat → Nat → Bool) (F : Nat → Nat) : Nat → List Nat → List Nat
  | 0, _ => []
  | k + 1, l => match lf (fun p => F p == p && freeB n S l.contains p) n 0 with
    | none => []
    | some p => p :: seqGo n S F k (l ++ [p])
def partsR (n : Nat) (M : Nat → Nat → Bool) : List Nat := seqGo n (smM n M (ldF n M)) (ldF n M) n []
def partsS (n : Nat) (M : Nat → Nat → Bool) : List (List Nat) := (partsR n M).map fun r => memb (ldF n M) r n
/-- So far, and what follows. -/
def SeqI (n : Nat) (S : Nat → Nat → Bool) (F : Nat → Nat) (l : List Nat) : Prop := l.Nodup ∧ (∀ x ∈ l, x < n ∧ F x = x) ∧ l ++ seqGo n S F (n - l.length) l = seqGo n S F n []
theorem SeqI.start {S : Nat → Nat → Bool} {F : Nat → Nat} : SeqI n S F [] := ⟨by simp, by simp, rfl⟩
theorem SeqI.len {S : Nat → Nat → Bool} {F : Nat → Nat} {l : List Nat} (h : SeqI n S F l) : l.length ≤ n := nodup_lt h.1 fun x hx => (h.2.1 x hx).1
theorem SeqI.step {S : Nat → Nat → Bool} {F : Nat → Nat} {l : List Nat} {p : Nat} (h : SeqI n S F l) (hp : lf (fun p => F p == p && freeB n S l.contains p) n 0 = some p) : SeqI n S F (l ++ [p]) := by
  obtain ⟨h1, h2, h3⟩ := h
  obtain ⟨-, hpn, hf⟩ := lf_some hp
  simp only [Bool.and_eq_true, beq_iff_eq] at hf
  have hpl : p ∉ l := by have := (freeB_true.1 hf.2).1; simpa using this
  have hnd : (l ++ [p]).Nodup := by
    rw [List.nodup_append]; exact ⟨h1, by simp, fun y hy z hz => by simp at hz; subst hz; rintro rfl; exact hpl hy⟩
  have hlt : ∀ x ∈ l ++ [p], x < n ∧ F x = x := fun x hx => by
    rcases List.mem_append.1 hx with hx | hx
    · exact h2 x hx
    · simp at hx; subst hx; exact ⟨hpn, hf.1⟩
  have hl := nodup_lt hnd fun x hx => (hlt x hx).1
  refine ⟨hnd, hlt, ?_⟩
  rw [List.length_append, List.length_singleton] at hl ⊢
  rw [show n - l.length = (n - (l.length + 1)) + 1 from by omega] at h3
  simp only [seqGo, hp] at h3
  rw [List.append_assoc]; exact h3
theorem SeqI.done {S : Nat → Nat → Bool} {F : Nat → Nat} {l : List Nat} (h : SeqI n S F l) (hp : lf (fun p => F p == p && freeB n S l.contains p) n 0 = none) : l = seqGo n S F n [] := by
  obtain ⟨h1, h2, h3⟩ := h
  cases hk : n - l.length with
  | zero => rw [hk] at h3; simpa [seqGo] using h3
  | succ k => rw [hk] at h3; simp only [seqGo, hp, List.append_nil] at h3; exact h3
end
end Go.Proofs.Tst
namespace Go.Proofs.Tst
open Go Go.Vc
end Go.Proofs.Tst
namespace Go.Proofs.Tst
open Go Go.Vc
end Go.Proofs.Tst
namespace Go.Proofs.Tst
open Go Go.Vc
end Go.Proofs.Tst
namespace Go.Proofs.Tst
open Go Go.Vc
end Go.Proofs.Tst
/-
  The document's own Components and Reduction.
-/
namespace Go.Proofs.Tst
open Go Go.Vc
end Go.Proofs.Tst
namespace Go.Proofs.Tst
open Go Go.Vc
/-- A range over a function that yields numbers. -/
theorem iter_intro {P : Program} {asg body : GC} {Q : Post} {e : Env} {h : Heap} {kk : Nat} {gf : FuncId} {lb : Array Value} {l : List Nat} {C : Heap → Prop} (hit : Iter P gf lb (l.map fun (p : Nat) => [Value.int .i64 (p : Int)]) C)
    (cext : ∀ h1 h2, Ext h.size h1 h2 → C h1 → C h2) (h0C : C h)
    (J : Nat → Heap → Prop) (X : GX → Heap → Prop) (keep : ∀ d h', J d h' → C h')
    (jext : ∀ i h1 h2, Ext h.size h1 h2 → J i h1 → J i h2) (xext : ∀ x h1 h2, Ext h.size h1 h2 → X x h1 → X x h2) (h0 : J 0 h)
    (step : ∀ d q h1, h.size ≤ h1.size → l[d]? = some q → J d h1 →
      vc P none asg (thenQ (fun e2 h2 => ∀ h2', Ext h.size h2 h2' → vc P none body (roundQ (fun h3 => J (d + 1) h3) X) e2 h2') (fun _ _ _ => False)) ((kk, .int .i64 (q : Int)) :: e) h1)
    (fin : ∀ h', h.size ≤ h'.size → J l.length h' → Q .normal e h')
    (esc : ∀ x h', h.size ≤ h'.size → X x h' → x ≠ .normal ∧ Q x e h') :
    ∃ (xs : List (List Value)) (C : Heap → Prop) (I : Nat → Heap → Prop) (X : GX → Heap → Prop),
      Iter P gf lb xs C ∧ (∀ x ∈ xs, x.length = [kk].length) ∧
      (∀ h1 h2, Ext h.size h1 h2 → C h1 → C h2) ∧ (∀ i h1 h2, Ext h.size h1 h2 → I i h1 → I i h2) ∧ (∀ x h1 h2, Ext h.size h1 h2 → X x h1 → X x h2) ∧
      I 0 h ∧ C h ∧
      (∀ i x h1, h.size ≤ h1.size → xs[i]? = some x → I i h1 → C h1 → vc P none asg (thenQ (fun e2 h2 => ∀ h2', Ext h.size h2 h2' → vc P none body (roundQ (fun h3 => I (i + 1) h3 ∧ C h3) X) e2 h2') (fun _ _ _ => False)) (zipE [kk] x e) h1) ∧
      (∀ h', h.size ≤ h'.size → I xs.length h' → C h' → Q .normal e h') ∧
      (∀ x h', h.size ≤ h'.size → X x h' → x ≠ .normal ∧ Q x e h') := by
  refine ⟨_, C, J, X, hit, ?_, cext, jext, xext, h0, h0C, ?_, ?_, esc⟩
  · intro x hx; obtain ⟨q, _, rfl⟩ := List.mem_map.1 hx; rfl
  · rintro d x h1 hs hx hJ hC
    rw [List.getElem?_map, Option.map_eq_some_iff] at hx
    obtain ⟨q, hq, rfl⟩ := hx
    refine vc_mono (fun x e2 h2 h3 => ?_) (step d q h1 hs hq hJ)
    cases x with
    | normal =>
      intro h2' x'
      refine vc_mono (fun x e4 h4 h5 => ?_) (h3 h2' x')
      cases x with
      | normal => exact ⟨h5, keep _ _ h5⟩
      | ret => exact h5
      | exit j => exact h5
    | ret => exact h3
    | exit j => exact h3
  · intro h' hs hJ hC
    rw [List.length_map] at hJ
    exact fin h' hs hJ
/-- A range over the points of a row. -/
theorem points_intro {P' : Program} {asg body : GC} {Q : Post} {e : Env} {h : Heap} {kk bk n : Nat} {xv : Value} {W : Nat → Nat} {f : Nat → Bool} (hP : P' = Tryd.prog) (hb : Bits n W f) (hn : n ≤ 256) (h0C : RowC bk xv (nw n) W h)
    (J : Nat → Heap → Prop) (X : GX → Heap → Prop) (keep : ∀ d h', J d h' → RowC bk xv (nw n) W h')
    (jext : ∀ i h1 h2, Ext h.size h1 h2 → J i h1 → J i h2) (xext : ∀ x h1 h2, Ext h.size h1 h2 → X x h1 → X x h2) (h0 : J 0 h)
    (step : ∀ d q h1, h.size ≤ h1.size → (rest f n 0)[d]? = some q → q < n → f q = true → J d h1 →
      vc P' none asg (thenQ (fun e2 h2 => ∀ h2', Ext h.size h2 h2' → vc P' none body (roundQ (fun h3 => J (d + 1) h3) X) e2 h2') (fun _ _ _ => False)) ((kk, .int .i64 (q : Int)) :: e) h1)
    (fin : ∀ h', h.size ≤ h'.size → J (rest f n 0).length h' → Q .normal e h')
    (esc : ∀ x h', h.size ≤ h'.size → X x h' → x ≠ .normal ∧ Q x e h') :
    ∃ (xs : List (List Value)) (C : Heap → Prop) (I : Nat → Heap → Prop) (X : GX → Heap → Prop),
      Iter P' 105 #[.pointer (some ⟨bk, 0, none⟩)] xs C ∧ (∀ x ∈ xs, x.length = [kk].length) ∧
      (∀ h1 h2, Ext h.size h1 h2 → C h1 → C h2) ∧ (∀ i h1 h2, Ext h.size h1 h2 → I i h1 → I i h2) ∧ (∀ x h1 h2, Ext h.size h1 h2 → X x h1 → X x h2) ∧
      I 0 h ∧ C h ∧
      (∀ i x h1, h.size ≤ h1.size → xs[i]? = some x → I i h1 → C h1 → vc P' none asg (thenQ (fun e2 h2 => ∀ h2', Ext h.size h2 h2' → vc P' none body (roundQ (fun h3 => I (i + 1) h3 ∧ C h3) X) e2 h2') (fun _ _ _ => False)) (zipE [kk] x e) h1) ∧
      (∀ h', h.size ≤ h'.size → I xs.length h' → C h' → Q .normal e h') ∧
      (∀ x h', h.size ≤ h'.size → X x h' → x ≠ .normal ∧ Q x e h') := by
  subst hP
  have hit := points_1 (b := bk) (xv := xv) (w := nw n) (W := W) (fun j => (hb j).1) (by unfold nw; omega)
  rw [rest_bits hb] at hit
  exact iter_intro hit (fun h1 h2 x ⟨c1, c2, c3⟩ => ⟨x.cell c1, x.rd c2, x.tab c3⟩) h0C J X keep jext xext h0
    (fun d q h1 hs hq hJ => have hm := mem_rest.1 (List.mem_of_getElem? hq); step d q h1 hs hq hm.2.1 hm.2.2 hJ) fin esc

end Go.Proofs.Tst
namespace Go.Proofs.Tst
open Go Go.Vc
set_option maxHeartbeats 800000 in
theorem rel_Comp {n m : Nat} {M N : Nat → Nat → Bool} {p q : Value} {lo hi lo' hi' : Nat} {h : Heap} (hr : ProgAt h lo hi p n M) (hs : ProgAt h lo' hi' q m N) (ht : TabAt h) :
    Con Tryd.prog 37 #[p, q] h fun v h' => Fr 0 0 h h' ∧ ProgAt h' h.size h'.size v (max n m) (compM n M m N) := by
  refine con_rel_Comp (fun v h1 h2 x ⟨f, o⟩ => ⟨x.fr f (Nat.le_refl _), (o.ext x).mono (Nat.le_refl _) x.size⟩) ?_
  obtain ⟨hn, pb, rb, R, W, rfl, t⟩ := hr
  obtain ⟨hm, pb', rb', R', W', rfl, t'⟩ := hs
  have hmx : (if (m : Int) > (n : Int) then (m : Int) else (n : Int)) = ((max n m : Nat) : Int) := by split <;> omega
  have hcl : clampN (max n m : Nat) = max n m := by unfold clampN; omega
  have p0 : Fr 0 0 h h := .refl _ _ _
  simp -dsimp only [go_sem, ↓reduceIte, reduceCtorEq, Nat.reduceEqDiff, Nat.reduceAdd, Nat.reduceLeDiff, Nat.reduceMul, Int.reduceBEq, Int.reduceBNe, Int.reduceLT, Int.reduceLE, Int.reduceGT, Int.reduceGE]
  intro b1 h1 n1
  have n1_a := n1.at_
  have n1_z := n1.size
  replace p0 := p0.fresh (n1.fr (lo := 0) (hi := 0)) (by omega)
  have r1 := n1.row
  have tp := t.fr p0 (by omega)
  have tq := t'.fr p0 (by omega)
  simp -dsimp only [go_sem, ↓reduceIte, reduceCtorEq, Nat.reduceEqDiff, Nat.reduceAdd, Nat.reduceLeDiff, Nat.reduceMul, Int.reduceBEq, Int.reduceBNe, Int.reduceLT, Int.reduceLE, Int.reduceGT, Int.reduceGE, tp.ptr.cell, tq.ptr.cell, r1.cell]
  rw [hmx]
  refine rvc_joint (fun b2 : Nat => [(0, .pointer (some ⟨pb, 0, none⟩)), (3, .pointer (some ⟨b1, 0, none⟩)), (4, .pointer none), (5, .pointer (some ⟨b2, 0, none⟩))])
    (fun b2 h' => Fr 0 0 h h' ∧ Rw h' b1 [.pointer (some ⟨pb', 0, none⟩)] ∧ b1 < b2 ∧ ∃ pb1 rb1 R1 W1 lo1 hi1, h1.size ≤ lo1 ∧ hi1 ≤ h'.size ∧ (b2 < lo1 ∨ hi1 ≤ b2) ∧ Rw h' b2 [.pointer (some ⟨pb1, 0, none⟩)] ∧ PTab h' lo1 hi1 pb1 rb1 (max n m) R1 W1 fun _ _ => false) ?_ ?_
  · simp -dsimp only [go_sem, ↓reduceIte, reduceCtorEq, Nat.reduceEqDiff, Nat.reduceAdd, Nat.reduceLeDiff, Nat.reduceMul, Int.reduceBEq, Int.reduceBNe, Int.reduceLT, Int.reduceLE, Int.reduceGT, Int.reduceGE, r_two, r1.cell]
    refine ⟨?_, ?_⟩
    · refine call_of (rel_New _ h1) ?_
      rintro v h2 ⟨f2, t2⟩
      rw [hcl] at t2
      obtain ⟨-, pb1, rb1, R1, W1, rfl, t2⟩ := t2
      have f2_z := f2.size
      replace p0 := p0.fresh f2 (by omega)
      replace r1 := r1.fr f2 (by omega)
      have tp := t.fr p0 (by omega)
      have tq := t'.fr p0 (by omega)
      simp -dsimp only [go_sem, ↓reduceIte, reduceCtorEq, Nat.reduceEqDiff, Nat.reduceAdd, Nat.reduceLeDiff, Nat.reduceMul, Int.reduceBEq, Int.reduceBNe, Int.reduceLT, Int.reduceLE, Int.reduceGT, Int.reduceGE, tp.ptr.cell, tq.ptr.cell, r1.cell]
      intro b3 h3 n3
      have n3_a := n3.at_
      have n3_z := n3.size
      replace p0 := p0.fresh (n3.fr (lo := 0) (hi := 0)) (by omega)
      replace r1 := r1.fr (n3.fr (lo := 0) (hi := 0)) (by omega)
      replace t2 := t2.fr (n3.fr (lo := 0) (hi := 0)) (by omega)
      have r3 := n3.row
      simp -dsimp only [go_sem, ↓reduceIte, reduceCtorEq, Nat.reduceEqDiff, Nat.reduceAdd, Nat.reduceLeDiff, Nat.reduceMul, Int.reduceBEq, Int.reduceBNe, Int.reduceLT, Int.reduceLE, Int.reduceGT, Int.reduceGE, r1.cell, r3.cell]
      refine Chk_intro (r3.wr (by first | (simp; done) | (simp; omega))) fun h4 s4 => ?_
      have s4_z := s4.size
      replace p0 := p0.fresh s4.fr (by omega)
      replace r1 := r1.fr s4.fr (by omega)
      replace t2 := t2.fr s4.fr (by omega)
      replace r3 := s4.row r3
      try simp only [cl_int, cl_bool, cl_slice, cl_ptr, putAt_one, List.set_cons_zero, List.set_cons_succ, ivec_set, brow_upd] at r3
      simp -dsimp only [go_sem, ↓reduceIte, reduceCtorEq, Nat.reduceEqDiff, Nat.reduceAdd, Nat.reduceLeDiff, Nat.reduceMul, Int.reduceBEq, Int.reduceBNe, Int.reduceLT, Int.reduceLE, Int.reduceGT, Int.reduceGE, r1.cell, r3.cell]
      exact ⟨b3, by simp [Le, find], p0, r1, by omega, _, _, _, _, _, _, Nat.le_refl _, by omega, .inr (by omega), r3, t2⟩
    · intro b3 h3 n3
      have n3_a := n3.at_
      have n3_z := n3.size
      replace p0 := p0.fresh (n3.fr (lo := 0) (hi := 0)) (by omega)
      replace r1 := r1.fr (n3.fr (lo := 0) (hi := 0)) (by omega)
      have r3 := n3.row
      simp -dsimp only [go_sem, ↓reduceIte, reduceCtorEq, Nat.reduceEqDiff, Nat.reduceAdd, Nat.reduceLeDiff, Nat.reduceMul, Int.reduceBEq, Int.reduceBNe, Int.reduceLT, Int.reduceLE, Int.reduceGT, Int.reduceGE, r1.cell, r3.cell]
      refine call_of (rel_New _ h3) ?_
      rintro v h2 ⟨f2, t2⟩
      rw [hcl] at t2
      obtain ⟨-, pb1, rb1, R1, W1, rfl, t2⟩ := t2
      have f2_z := f2.size
      replace p0 := p0.fresh f2 (by omega)
      replace r1 := r1.fr f2 (by omega)
      replace r3 := r3.fr f2 (by omega)
      have tp := t.fr p0 (by omega)
      have tq := t'.fr p0 (by omega)
      simp -dsimp only [go_sem, ↓reduceIte, reduceCtorEq, Nat.reduceEqDiff, Nat.reduceAdd, Nat.reduceLeDiff, Nat.reduceMul, Int.reduceBEq, Int.reduceBNe, Int.reduceLT, Int.reduceLE, Int.reduceGT, Int.reduceGE, tp.ptr.cell, tq.ptr.cell, r1.cell, r3.cell]
      refine Chk_intro (r3.wr (by first | (simp; done) | (simp; omega))) fun h4 s4 => ?_
      have s4_z := s4.size
      replace p0 := p0.fresh s4.fr (by omega)
      replace r1 := r1.fr s4.fr (by omega)
      replace t2 := t2.fr s4.fr (by omega)
      replace r3 := s4.row r3
      try simp only [cl_int, cl_bool, cl_slice, cl_ptr, putAt_one, List.set_cons_zero, List.set_cons_succ, ivec_set, brow_upd] at r3
      simp -dsimp only [go_sem, ↓reduceIte, reduceCtorEq, Nat.reduceEqDiff, Nat.reduceAdd, Nat.reduceLeDiff, Nat.reduceMul, Int.reduceBEq, Int.reduceBNe, Int.reduceLT, Int.reduceLE, Int.reduceGT, Int.reduceGE, r1.cell, r3.cell]
      exact ⟨b3, by simp [Le, find], p0, r1, by omega, _, _, _, _, h3.size, h2.size, by omega, by omega, .inl (by omega), r3, t2⟩
  rintro b2 h2 ⟨p0, r1, hb12, pb1, rb1, R1, W1, lo1, hi1, hlo, hhi, hb2, r2, t2⟩ e ⟨e0, e3, e4, e5, -⟩
  have p0_z := p0.size
  have r1_l := r1.lt
  have r2_l := r2.lt
  have at2 := t2.at_
  have tp := t.fr p0 (by omega)
  simp -dsimp only [go_sem, ↓reduceIte, reduceCtorEq, Nat.reduceEqDiff, Nat.reduceAdd, Nat.reduceLeDiff, Nat.reduceMul, Int.reduceBEq, Int.reduceBNe, Int.reduceLT, Int.reduceLE, Int.reduceGT, Int.reduceGE, e0, e3, e4, e5, tp.ptr.cell, r1.cell, r2.cell]
  refine loop_intro (fun a : Nat => [(3, .pointer (some ⟨b1, 0, none⟩)), (5, .pointer (some ⟨b2, 0, none⟩)), (22, .slice (some ⟨rb, 0, none⟩) n n), (23, .int .i64 n), (24, .int .i64 a)])
    (fun a h' => a ≤ n ∧ Fr 0 0 h h' ∧ h2.size ≤ h'.size ∧ Rw h' b1 [.pointer (some ⟨pb', 0, none⟩)] ∧ Rw h' b2 [.pointer (some ⟨pb1, 0, none⟩)] ∧ ∃ W, PTab h' lo1 hi1 pb1 rb1 (max n m) R1 W fun i j => decide (i < a) && compM n M m N i j) (fun a => n - a) 0 ?_ ?_ ?_
  · simp [Le, find]
  · exact ⟨by omega, p0, by omega, r1, r2, _, t2.congr fun i j _ _ => by simp⟩
  rintro a h4 ⟨ha, p0, y4, r1, r2, W4, t4⟩
  have p0_z := p0.size
  have r1_l := r1.lt
  have r2_l := r2.lt
  simp -dsimp only [go_sem, ↓reduceIte, reduceCtorEq, Nat.reduceEqDiff, Nat.reduceAdd, Nat.reduceLeDiff, Nat.reduceMul, Int.reduceBEq, Int.reduceBNe, Int.reduceLT, Int.reduceLE, Int.reduceGT, Int.reduceGE, r1.cell, r2.cell]
  refine ⟨fun hlt => ?_, fun hge => ?_⟩
  · have hlt : a < n := by omega
    simp -dsimp only [go_sem, ↓reduceIte, reduceCtorEq, Nat.reduceEqDiff, Nat.reduceAdd, Nat.reduceLeDiff, Nat.reduceMul, Int.reduceBEq, Int.reduceBNe, Int.reduceLT, Int.reduceLE, Int.reduceGT, Int.reduceGE, r1.cell, r2.cell]
    refine Chk_intro (by omega) ?_
    simp -dsimp only [go_sem, ↓reduceIte, reduceCtorEq, Nat.reduceEqDiff, Nat.reduceAdd, Nat.reduceLeDiff, Nat.reduceMul, Int.reduceBEq, Int.reduceBNe, Int.reduceLT, Int.reduceLE, Int.reduceGT, Int.reduceGE, (t.fr p0 (by omega)).rowsGet hlt, r1.cell, r2.cell]
    intro b5 h5 n5
    have n5_a := n5.at_
    have n5_z := n5.size
    replace p0 := p0.fresh (n5.fr (lo := 0) (hi := 0)) (by omega)
    replace r1 := r1.fr (n5.fr (lo := 0) (hi := 0)) (by omega)
    replace r2 := r2.fr (n5.fr (lo := 0) (hi := 0)) (by omega)
    replace t4 := t4.fr (n5.fr (lo := 0) (hi := 0)) (by omega)
    have r5 := n5.row
    simp -dsimp only [go_sem, ↓reduceIte, reduceCtorEq, Nat.reduceEqDiff, Nat.reduceAdd, Nat.reduceLeDiff, Nat.reduceMul, Int.reduceBEq, Int.reduceBNe, Int.reduceLT, Int.reduceLE, Int.reduceGT, Int.reduceGE, r1.cell, r2.cell, r5.cell]
    refine Chk_intro (r5.wr (by first | (simp; done) | (simp; omega))) fun h6 s6 => ?_
    have s6_z := s6.size
    replace p0 := p0.fresh s6.fr (by omega)
    replace r1 := r1.fr s6.fr (by omega)
    replace r2 := r2.fr s6.fr (by omega)
    replace t4 := t4.fr s6.fr (by omega)
    replace r5 := s6.row r5
    try simp only [cl_int, cl_bool, cl_slice, cl_ptr, putAt_one, List.set_cons_zero, List.set_cons_succ, ivec_set, brow_upd] at r5
    simp -dsimp only [go_sem, ↓reduceIte, reduceCtorEq, Nat.reduceEqDiff, Nat.reduceAdd, Nat.reduceLeDiff, Nat.reduceMul, Int.reduceBEq, Int.reduceBNe, Int.reduceLT, Int.reduceLE, Int.reduceGT, Int.reduceGE, r1.cell, r2.cell, r5.cell]
    refine call_of (rel_points _ _ _ h6) ?_
    rintro v h7 ⟨f7, rfl, c7, z7⟩
    have f7_z := f7.size
    replace p0 := p0.fresh f7 (by omega)
    replace r1 := r1.fr f7 (by omega)
    replace r2 := r2.fr f7 (by omega)
    replace t4 := t4.fr f7 (by omega)
    replace r5 := r5.fr f7 (by omega)
    simp -dsimp only [go_sem, ↓reduceIte, reduceCtorEq, Nat.reduceEqDiff, Nat.reduceAdd, Nat.reduceLeDiff, Nat.reduceMul, Int.reduceBEq, Int.reduceBNe, Int.reduceLT, Int.reduceLE, Int.reduceGT, Int.reduceGE, r1.cell, r2.cell, r5.cell]
    have hbits := (t.row a hlt).2.2.2.2.2
    refine ⟨rfl, points_intro rfl hbits hn ⟨c7, ptab_rd (t.fr p0 (by omega)) hlt, ht.fr p0 (by omega)⟩
      (fun d h' => Fr 0 0 h h' ∧ h7.size ≤ h'.size ∧ Rw h' b1 [.pointer (some ⟨pb', 0, none⟩)] ∧ Rw h' b2 [.pointer (some ⟨pb1, 0, none⟩)] ∧ Rw h' b5 [.int .i64 a] ∧ hcell h' h6.size 0 = some (.slice (some ⟨R a, 0, none⟩) (nw n) (nw n)) ∧
        ∃ W, PTab h' lo1 hi1 pb1 rb1 (max n m) R1 W fun i j => (decide (i < a) && compM n M m N i j) || (i == a && ((rest (M a) n 0).take d).any fun q => inN m N q j))
      (fun _ _ => False) ?_ ?_ ?_ ?_ ?_ ?_ ?_⟩
    · rintro d h' ⟨q0, -, -, -, -, q1, -⟩
      exact ⟨q1, ptab_rd (t.fr q0 (by omega)) hlt, ht.fr q0 (by omega)⟩
    · rintro d h8 h9 x ⟨q0, q1, q2, q3, q3', q4, W', q5⟩
      exact ⟨q0.ext x (by omega), Nat.le_trans q1 x.size, q2.ext x, q3.ext x, q3'.ext x, x.cell q4, W', q5.ext x⟩
    · exact fun _ _ _ _ h => h
    · exact ⟨p0, Nat.le_refl _, r1, r2, r5, c7, _, t4.congr fun i j _ _ => by simp⟩
    · rintro d q h8 z8 hq hqn hqf ⟨p0, y8, r1, r2, r5, c8, W8, t8⟩
      have p0_z := p0.size
      have r1_l := r1.lt
      have r2_l := r2.lt
      have r5_l := r5.lt
      simp -dsimp only [go_sem, ↓reduceIte, reduceCtorEq, Nat.reduceEqDiff, Nat.reduceAdd, Nat.reduceLeDiff, Nat.reduceMul, Int.reduceBEq, Int.reduceBNe, Int.reduceLT, Int.reduceLE, Int.reduceGT, Int.reduceGE, r1.cell, r2.cell, r5.cell]
      intro h9 x9
      have x9_z := x9.size
      replace p0 := p0.ext x9 (by omega)
      replace r1 := r1.ext x9
      replace r2 := r2.ext x9
      replace r5 := r5.ext x9
      replace t8 := t8.ext x9
      have c8 := x9.cell c8
      have tq := t'.fr p0 (by omega)
      simp -dsimp only [go_sem, ↓reduceIte, reduceCtorEq, Nat.reduceEqDiff, Nat.reduceAdd, Nat.reduceLeDiff, Nat.reduceMul, Int.reduceBEq, Int.reduceBNe, Int.reduceLT, Int.reduceLE, Int.reduceGT, Int.reduceGE, tq.ptr.cell, r1.cell, r2.cell, r5.cell]
      refine ⟨fun hqm => ?_, fun hqm => ?_⟩
      · have hqm : q < m := by omega
        obtain ⟨g1, g2, g3, g4, g5, g6⟩ := t8.row a (by omega)
        simp -dsimp only [go_sem, ↓reduceIte, reduceCtorEq, Nat.reduceEqDiff, Nat.reduceAdd, Nat.reduceLeDiff, Nat.reduceMul, Int.reduceBEq, Int.reduceBNe, Int.reduceLT, Int.reduceLE, Int.reduceGT, Int.reduceGE, tq.ptr.cell, t8.ptr.cell, r1.cell, r2.cell, r5.cell]
        refine Chk_intro (by omega) ?_
        simp -dsimp only [go_sem, ↓reduceIte, reduceCtorEq, Nat.reduceEqDiff, Nat.reduceAdd, Nat.reduceLeDiff, Nat.reduceMul, Int.reduceBEq, Int.reduceBNe, Int.reduceLT, Int.reduceLE, Int.reduceGT, Int.reduceGE, t8.rowsGet (show a < max n m by omega), tq.ptr.cell, r1.cell, r2.cell, r5.cell]
        refine Chk_intro (by omega) ?_
        simp -dsimp only [go_sem, ↓reduceIte, reduceCtorEq, Nat.reduceEqDiff, Nat.reduceAdd, Nat.reduceLeDiff, Nat.reduceMul, Int.reduceBEq, Int.reduceBNe, Int.reduceLT, Int.reduceLE, Int.reduceGT, Int.reduceGE, tq.rowsGet hqm, r1.cell, r2.cell, r5.cell]
        intro b10 h10 n10
        have n10_a := n10.at_
        have n10_z := n10.size
        replace p0 := p0.fresh (n10.fr (lo := 0) (hi := 0)) (by omega)
        replace r1 := r1.fr (n10.fr (lo := 0) (hi := 0)) (by omega)
        replace r2 := r2.fr (n10.fr (lo := 0) (hi := 0)) (by omega)
        replace r5 := r5.fr (n10.fr (lo := 0) (hi := 0)) (by omega)
        replace t8 := t8.fr (n10.fr (lo := 0) (hi := 0)) (by omega)
        have r10 := n10.row
        obtain ⟨g1, g2, g3, g4, g5, g6⟩ := t8.row a (by omega)
        have tq := t'.fr p0 (by omega)
        obtain ⟨f1, f2, f3, f4, f5, f6⟩ := tq.row q hqm
        simp -dsimp only [go_sem, ↓reduceIte, reduceCtorEq, Nat.reduceEqDiff, Nat.reduceAdd, Nat.reduceLeDiff, Nat.reduceMul, Int.reduceBEq, Int.reduceBNe, Int.reduceLT, Int.reduceLE, Int.reduceGT, Int.reduceGE, tq.ptr.cell, t8.ptr.cell, t8.rowsGet (show a < max n m by omega), tq.rowsGet hqm, r1.cell, r2.cell, r5.cell, r10.cell]
        refine call_of (row_join g1 f1 (r10.rd rfl) (fun j => (g6 j).1) (fun j => (f6 j).1) (by unfold nw; omega) (by unfold nw; omega)) ?_
        rintro _ h11 ⟨f11, z11, r11⟩
        have t11 := t8.updRow (by omega) f11 r11 (g6.or f6 (by omega))
        have c10 := (n10.fr (lo := 0) (hi := 0)).keep c8 (by omega)
        have f11_z := f11.size
        replace p0 := p0.fresh f11 (by omega)
        replace r1 := r1.fr f11 (by omega)
        replace r2 := r2.fr f11 (by omega)
        replace r5 := r5.fr f11 (by omega)
        have tq := t'.fr p0 (by omega)
        simp -dsimp only [go_sem, ↓reduceIte, reduceCtorEq, Nat.reduceEqDiff, Nat.reduceAdd, Nat.reduceLeDiff, Nat.reduceMul, Int.reduceBEq, Int.reduceBNe, Int.reduceLT, Int.reduceLE, Int.reduceGT, Int.reduceGE, t11.ptr.cell, t11.rowsGet (show a < max n m by omega), tq.ptr.cell, tq.rowsGet hqm, r1.cell, r2.cell, r5.cell]
        refine ⟨p0, by omega, r1, r2, r5, f11.keep c10 (by omega), _, t11.congr fun i j hi hj => ?_⟩
        rw [List.take_add_one, hq, Option.toList_some, List.any_append]
        by_cases hia : i = a
        · subst hia
          rw [upd_same]
          simp [inN, hqm]
        · rw [upd_ne _ _ hia]
          have e : (i == a) = false := by simpa using hia
          simp [e]
      · simp -dsimp only [go_sem, ↓reduceIte, reduceCtorEq, Nat.reduceEqDiff, Nat.reduceAdd, Nat.reduceLeDiff, Nat.reduceMul, Int.reduceBEq, Int.reduceBNe, Int.reduceLT, Int.reduceLE, Int.reduceGT, Int.reduceGE, r1.cell, r2.cell, r5.cell]
        refine ⟨p0, by omega, r1, r2, r5, c8, _, t8.congr fun i j hi hj => ?_⟩
        rw [List.take_add_one, hq, Option.toList_some, List.any_append]
        have : inN m N q j = false := inN_out (by omega)
        simp [this]
    · rintro h8 z8 ⟨p0, y8, r1, r2, r5, c8, W8, t8⟩
      simp -dsimp only [go_sem, ↓reduceIte, reduceCtorEq, Nat.reduceEqDiff, Nat.reduceAdd, Nat.reduceLeDiff, Nat.reduceMul, Int.reduceBEq, Int.reduceBNe, Int.reduceLT, Int.reduceLE, Int.reduceGT, Int.reduceGE, r1.cell, r2.cell, r5.cell]
      simp -dsimp (disch := omega) only [wrap64]
      refine ⟨a + 1, by omega, by simp [Le, find], by omega, p0, by omega, r1, r2, _, t8.congr fun i j hi hj => ?_⟩
      rw [List.take_length]
      by_cases hia : i = a
      · subst hia
        have : (rest (M i) n 0).any (fun q => inN m N q j) = compM n M m N i j := by
          rw [Bool.eq_iff_iff, compM_true, List.any_eq_true]
          constructor
          · rintro ⟨k, hk, h1⟩
            have := mem_rest.1 hk
            exact ⟨k, inN_true.2 ⟨hlt, this.2.1, this.2.2⟩, h1⟩
          · rintro ⟨k, h1, h2⟩
            have := inN_true.1 h1
            exact ⟨k, mem_rest.2 ⟨by omega, this.2.1, this.2.2⟩, h2⟩
        simp [this]
      · have e : (i == a) = false := by simpa using hia
        have : (i < a + 1) = (i < a) := by simp; omega
        simp [this, e]
    · exact fun _ _ _ h => h.elim
  · have : a = n := by omega
    subst this
    simp -dsimp only [go_sem, ↓reduceIte, reduceCtorEq, Nat.reduceEqDiff, Nat.reduceAdd, Nat.reduceLeDiff, Nat.reduceMul, Int.reduceBEq, Int.reduceBNe, Int.reduceLT, Int.reduceLE, Int.reduceGT, Int.reduceGE, r1.cell, r2.cell]
    refine ⟨p0, by omega, _, _, _, _, rfl, ((t4.mono' (hi' := h4.size) (by omega)).lower (by omega)).congr fun i j hi hj => ?_⟩
    by_cases hia : i < a
    · simp [hia]
    · have : compM a M m N i j = false := by
        rw [Bool.eq_false_iff]; intro h'
        obtain ⟨k, h1, _⟩ := compM_true.1 h'
        exact hia (inN_true.1 h1).1
      simp [this]
end Go.Proofs.Tst
namespace Go.Proofs.Tst
open Go Go.Vc
theorem slices_Values {a : Option Addr} {n c : Nat} {h : Heap} : Con Tryd.prog 107 #[.slice a n c] h fun v h' => Fr 0 0 h h' ∧ v = .func (.func 111) #[] #[.pointer (some ⟨h.size, 0, none⟩)] ∧ Rw h' h.size [.slice a n c] ∧ h'.size = h.size + 1 := by
  refine con_slices_Values ?_
  simp -dsimp only [go_sem, ↓reduceIte, reduceCtorEq, Nat.reduceEqDiff, Nat.reduceAdd, Nat.reduceLeDiff, Nat.reduceMul, Int.reduceBEq, Int.reduceBNe, Int.reduceLT, Int.reduceLE, Int.reduceGT, Int.reduceGE]
  intro b h1 n1
  have r1 := n1.row
  have a1 := n1.at_
  subst a1
  simp -dsimp only [go_sem, ↓reduceIte, reduceCtorEq, Nat.reduceEqDiff, Nat.reduceAdd, Nat.reduceLeDiff, Nat.reduceMul, Int.reduceBEq, Int.reduceBNe, Int.reduceLT, Int.reduceLE, Int.reduceGT, Int.reduceGE]
  exact ⟨n1.fr, r1, n1.size⟩
theorem values_1 {b : Nat} {sv : Value} {l : List Nat} (hl : l.length ≤ 65536) :
    Iter Tryd.prog 111 #[.pointer (some ⟨b, 0, none⟩)] (l.map fun (p : Nat) => [Value.int .i64 (p : Int)]) (fun h => Rw h b [sv] ∧ Rd 1 h sv l.length (natsV l)) := by
  refine ⟨by unfold goodF; rw [Tryd.func111]; rfl, fun lo I X hy h hI hC => ?_⟩
  show ConX (some lo) Tryd.prog 111 #[.func (.yield lo) #[] #[], .pointer (some ⟨b, 0, none⟩)] h _
  refine con_slices_Values_1 ?_
  obtain ⟨sa, sc, rfl⟩ := hC.2.is
  simp -dsimp only [go_sem, ↓reduceIte, reduceCtorEq, Nat.reduceEqDiff, Nat.reduceAdd, Nat.reduceLeDiff, Nat.reduceMul, Int.reduceBEq, Int.reduceBNe, Int.reduceLT, Int.reduceLE, Int.reduceGT, Int.reduceGE, hC.1.cell]
  refine loop_intro (fun i : Nat => [(0, .func (.yield lo) #[] #[]), (5, .slice sa l.length sc), (6, .int .i64 l.length), (7, .int .i64 i)])
    (fun i h' => i ≤ l.length ∧ (Rw h' b [.slice sa l.length sc] ∧ Rd 1 h' (.slice sa l.length sc) l.length (natsV l)) ∧ I i h') (fun i => l.length - i) 0 ?_ ?_ ?_
  · simp [Le, find]
  · exact ⟨by omega, hC, hI⟩
  rintro i h1 ⟨hi, hC1, hI1⟩
  simp -dsimp only [go_sem, ↓reduceIte, reduceCtorEq, Nat.reduceEqDiff, Nat.reduceAdd, Nat.reduceLeDiff, Nat.reduceMul, Int.reduceBEq, Int.reduceBNe, Int.reduceLT, Int.reduceLE, Int.reduceGT, Int.reduceGE]
  refine ⟨fun hlt => ?_, fun hge => ?_⟩
  · have hlt : i < l.length := by omega
    have hq : l[i]? = some l[i] := by simp [hlt]
    generalize l[i] = q at hq
    simp -dsimp only [go_sem, ↓reduceIte, reduceCtorEq, Nat.reduceEqDiff, Nat.reduceAdd, Nat.reduceLeDiff, Nat.reduceMul, Int.reduceBEq, Int.reduceBNe, Int.reduceLT, Int.reduceLE, Int.reduceGT, Int.reduceGE]
    refine Chk_intro (by omega) (hC1.2.idx (by omega) fun b2 o2 c2 => ?_)
    simp -dsimp only [go_sem, ↓reduceIte, reduceCtorEq, Nat.reduceEqDiff, Nat.reduceAdd, Nat.reduceLeDiff, Nat.reduceMul, Int.reduceBEq, Int.reduceBNe, Int.reduceLT, Int.reduceLE, Int.reduceGT, Int.reduceGE, c2 i _ (natsV_get hq)]
    have hdx : (l.map fun (p : Nat) => [Value.int .i64 (p : Int)])[i]? = some [.int .i64 (q : Int)] := by rw [List.getElem?_map, hq]; rfl
    refine yld_of (hy i _ _ hdx hI1 hC1) ?_
    rintro v h4 (⟨rfl, hI4, hC4⟩ | ⟨rfl, hX4⟩)
    · simp -dsimp only [go_sem, ↓reduceIte, reduceCtorEq, Nat.reduceEqDiff, Nat.reduceAdd, Nat.reduceLeDiff, Nat.reduceMul, Int.reduceBEq, Int.reduceBNe, Int.reduceLT, Int.reduceLE, Int.reduceGT, Int.reduceGE]
      simp -dsimp (disch := omega) only [wrap64]
      exact ⟨i + 1, by omega, by simp [Le, find], by omega, hC4, hI4⟩
    · simp -dsimp only [go_sem, ↓reduceIte, reduceCtorEq, Nat.reduceEqDiff, Nat.reduceAdd, Nat.reduceLeDiff, Nat.reduceMul, Int.reduceBEq, Int.reduceBNe, Int.reduceLT, Int.reduceLE, Int.reduceGT, Int.reduceGE]
      exact .inr hX4
  · have : i = l.length := by omega
    subst this
    simp -dsimp only [go_sem, ↓reduceIte, reduceCtorEq, Nat.reduceEqDiff, Nat.reduceAdd, Nat.reduceLeDiff, Nat.reduceMul, Int.reduceBEq, Int.reduceBNe, Int.reduceLT, Int.reduceLE, Int.reduceGT, Int.reduceGE]
    refine .inl ⟨?_, hC1⟩
    rw [List.length_map]
    exact hI1
theorem slices_AppendSeq {gf : FuncId} {lb : Array Value} {l : List Nat} {C : Heap → Prop} {h : Heap} (hit : Iter Tryd.prog gf lb (l.map fun (p : Nat) => [Value.int .i64 (p : Int)]) C)
    (cext : ∀ B h1 h2, h.size ≤ B → Ext B h1 h2 → C h1 → C h2) (cfr : ∀ h', Fr 0 0 h h' → C h') (hl : l.length ≤ 65536) :
    Con Tryd.prog 112 #[.slice none 0 0, .func (.func gf) #[] lb] h fun v h' => Fr 0 0 h h' ∧ Holder 1 h' v l.length (natsV l) h.size := by
  refine con_slices_AppendSeq (fun v h1 h2 x ⟨f, o⟩ => ⟨x.fr f (Nat.le_refl _), o.ext x⟩) ?_
  have p0 : Fr 0 0 h h := .refl _ _ _
  simp -dsimp only [go_sem, ↓reduceIte, reduceCtorEq, Nat.reduceEqDiff, Nat.reduceAdd, Nat.reduceLeDiff, Nat.reduceMul, Int.reduceBEq, Int.reduceBNe, Int.reduceLT, Int.reduceLE, Int.reduceGT, Int.reduceGE]
  intro b1 h1 n1
  have n1_a := n1.at_
  have n1_z := n1.size
  replace p0 := p0.fresh (n1.fr (lo := 0) (hi := 0)) (by omega)
  have r1 := n1.row
  simp -dsimp only [go_sem, ↓reduceIte, reduceCtorEq, Nat.reduceEqDiff, Nat.reduceAdd, Nat.reduceLeDiff, Nat.reduceMul, Int.reduceBEq, Int.reduceBNe, Int.reduceLT, Int.reduceLE, Int.reduceGT, Int.reduceGE, r1.cell]
  refine ⟨rfl, iter_intro hit (fun h2 h3 x => cext _ _ _ (by omega) x) (cfr _ p0)
    (fun d h' => Fr 0 0 h h' ∧ h1.size ≤ h'.size ∧ ∃ sv, Rw h' b1 [sv] ∧ Holder 1 h' sv d (natsV (l.take d)) h1.size) (fun _ _ => False) ?_ ?_ ?_ ?_ ?_ ?_ ?_⟩
  · rintro d h' ⟨q0, -⟩; exact cfr _ q0
  · rintro d h2 h3 x ⟨q0, q1, sv, q2, q3⟩; exact ⟨q0.ext x (by omega), Nat.le_trans q1 x.size, sv, q2.ext x, q3.ext x⟩
  · exact fun _ _ _ _ h => h
  · exact ⟨p0, by omega, _, r1, .none _ _ _⟩
  · rintro d q h2 z2 hq ⟨p0, y2, sv, r1, o2⟩
    have hd := (List.getElem?_eq_some_iff.1 hq).1
    have p0_z := p0.size
    have r1_l := r1.lt
    have o2_l := o2.top
    simp -dsimp only [go_sem, ↓reduceIte, reduceCtorEq, Nat.reduceEqDiff, Nat.reduceAdd, Nat.reduceLeDiff, Nat.reduceMul, Int.reduceBEq, Int.reduceBNe, Int.reduceLT, Int.reduceLE, Int.reduceGT, Int.reduceGE, r1.cell]
    intro h3 x3
    have x3_z := x3.size
    replace p0 := p0.ext x3 (by omega)
    replace r1 := r1.ext x3
    replace o2 := o2.ext x3
    obtain ⟨va, vc, rfl⟩ := o2.is
    simp -dsimp only [go_sem, ↓reduceIte, reduceCtorEq, Nat.reduceEqDiff, Nat.reduceAdd, Nat.reduceLeDiff, Nat.reduceMul, Int.reduceBEq, Int.reduceBNe, Int.reduceLT, Int.reduceLE, Int.reduceGT, Int.reduceGE, r1.cell]
    intro b4 h4 n4
    have n4_a := n4.at_
    have n4_z := n4.size
    replace p0 := p0.fresh (n4.fr (lo := 0) (hi := 0)) (by omega)
    replace r1 := r1.fr (n4.fr (lo := 0) (hi := 0)) (by omega)
    replace o2 := o2.fr (n4.fr (lo := 0) (hi := 0)) (by have := o2.at_; omega)
    simp -dsimp only [go_sem, ↓reduceIte, reduceCtorEq, Nat.reduceEqDiff, Nat.reduceAdd, Nat.reduceLeDiff, Nat.reduceMul, Int.reduceBEq, Int.reduceBNe, Int.reduceLT, Int.reduceLE, Int.reduceGT, Int.reduceGE, n4.row.cell, r1.cell]
    refine o2.append (by omega) rfl (by omega) (by simp) (by omega) fun v5 h5 o_new f5 e_app => ?_
    have f5_z := f5.size
    have o_at := o2.at_
    replace p0 := p0.fresh f5 (by omega)
    replace r1 := r1.fr f5 (by omega)
    clear o_at e_app
    replace o2 := o_new
    have o2_l := o2.top
    obtain ⟨ua, uc, rfl⟩ := o2.is
    simp -dsimp only [go_sem, ↓reduceIte, reduceCtorEq, Nat.reduceEqDiff, Nat.reduceAdd, Nat.reduceLeDiff, Nat.reduceMul, Int.reduceBEq, Int.reduceBNe, Int.reduceLT, Int.reduceLE, Int.reduceGT, Int.reduceGE, r1.cell]
    refine Chk_intro (r1.wr (by simp)) fun h6 s6 => ?_
    have s6_z := s6.size
    have r6 := s6.row r1
    have o6 := o2.fr s6.fr (by have := o2.at_; omega)
    have q6 := p0.fresh s6.fr (by omega)
    simp -dsimp only [go_sem, ↓reduceIte, reduceCtorEq, Nat.reduceEqDiff, Nat.reduceAdd, Nat.reduceLeDiff, Nat.reduceMul, Int.reduceBEq, Int.reduceBNe, Int.reduceLT, Int.reduceLE, Int.reduceGT, Int.reduceGE] at r6
    simp -dsimp only [go_sem, ↓reduceIte, reduceCtorEq, Nat.reduceEqDiff, Nat.reduceAdd, Nat.reduceLeDiff, Nat.reduceMul, Int.reduceBEq, Int.reduceBNe, Int.reduceLT, Int.reduceLE, Int.reduceGT, Int.reduceGE, r1.cell]
    refine ⟨q6, by omega, _, r6, ?_⟩
    rw [List.take_add_one, hq, Option.toList_some, natsV_append]
    exact o6
  · rintro h2 z2 ⟨p0, y2, sv, r1, o2⟩
    rw [List.take_length] at o2
    have p0_z := p0.size
    have r1_l := r1.lt
    have o2_l := o2.top
    simp -dsimp only [go_sem, ↓reduceIte, reduceCtorEq, Nat.reduceEqDiff, Nat.reduceAdd, Nat.reduceLeDiff, Nat.reduceMul, Int.reduceBEq, Int.reduceBNe, Int.reduceLT, Int.reduceLE, Int.reduceGT, Int.reduceGE, r1.cell]
    exact ⟨p0, o2.lower (by omega)⟩
  · exact fun _ _ _ h => h.elim
theorem slices_Collect {gf : FuncId} {lb : Array Value} {l : List Nat} {C : Heap → Prop} {h : Heap} (hit : Iter Tryd.prog gf lb (l.map fun (p : Nat) => [Value.int .i64 (p : Int)]) C)
    (cext : ∀ B h1 h2, h.size ≤ B → Ext B h1 h2 → C h1 → C h2) (cfr : ∀ h', Fr 0 0 h h' → C h') (hl : l.length ≤ 65536) :
    Con Tryd.prog 108 #[.func (.func gf) #[] lb] h fun v h' => Fr 0 0 h h' ∧ Holder 1 h' v l.length (natsV l) h.size := by
  refine con_slices_Collect ?_
  simp -dsimp only [go_sem, ↓reduceIte, reduceCtorEq, Nat.reduceEqDiff, Nat.reduceAdd, Nat.reduceLeDiff, Nat.reduceMul, Int.reduceBEq, Int.reduceBNe, Int.reduceLT, Int.reduceLE, Int.reduceGT, Int.reduceGE]
  refine call_of (slices_AppendSeq hit cext cfr hl) ?_
  rintro v h1 ⟨p1, o1⟩
  simp -dsimp only [go_sem, ↓reduceIte, reduceCtorEq, Nat.reduceEqDiff, Nat.reduceAdd, Nat.reduceLeDiff, Nat.reduceMul, Int.reduceBEq, Int.reduceBNe, Int.reduceLT, Int.reduceLE, Int.reduceGT, Int.reduceGE]
  exact ⟨p1, o1⟩
end Go.Proofs.Tst
namespace Go.Proofs.Tst
open Go Go.Vc
/-- What is kept of a: the pairs that b has, or has not. -/
def keepM (n : Nat) (M : Nat → Nat → Bool) (m : Nat) (N : Nat → Nat → Bool) (has : Bool) (i j : Nat) : Bool := inN n M i j && (inN m N i j == has)
set_option maxHeartbeats 800000 in
theorem rel_keep {n m : Nat} {M N : Nat → Nat → Bool} {p q : Value} {lo hi lo' hi' : Nat} {h : Heap} (hr : ProgAt h lo hi p n M) (hs : ProgAt h lo' hi' q m N) (ht : TabAt h) (has : Bool) :
    Con Tryd.prog 83 #[p, q, .bool has] h fun v h' => Fr 0 0 h h' ∧ ProgAt h' h.size h'.size v (max n m) (keepM n M m N has) := by
  refine con_rel_keep (fun v h1 h2 x ⟨f, o⟩ => ⟨x.fr f (Nat.le_refl _), (o.ext x).mono (Nat.le_refl _) x.size⟩) ?_
  have hr0 := hr; have hs0 := hs
  obtain ⟨hn, pb, rb, R, W, rfl, t⟩ := hr
  obtain ⟨hm, pb', rb', R', W', rfl, t'⟩ := hs
  have p0 : Fr 0 0 h h := .refl _ _ _
  simp -dsimp only [go_sem, ↓reduceIte, reduceCtorEq, Nat.reduceEqDiff, Nat.reduceAdd, Nat.reduceLeDiff, Nat.reduceMul, Int.reduceBEq, Int.reduceBNe, Int.reduceLT, Int.reduceLE, Int.reduceGT, Int.reduceGE]
  intro b1 h1 n1
  have n1_a := n1.at_
  have n1_z := n1.size
  replace p0 := p0.fresh (n1.fr (lo := 0) (hi := 0)) (by omega)
  have r1 := n1.row
  simp -dsimp only [go_sem, ↓reduceIte, reduceCtorEq, Nat.reduceEqDiff, Nat.reduceAdd, Nat.reduceLeDiff, Nat.reduceMul, Int.reduceBEq, Int.reduceBNe, Int.reduceLT, Int.reduceLE, Int.reduceGT, Int.reduceGE, r1.cell]
  intro b2 h2 n2
  have n2_a := n2.at_
  have n2_z := n2.size
  replace p0 := p0.fresh (n2.fr (lo := 0) (hi := 0)) (by omega)
  replace r1 := r1.fr (n2.fr (lo := 0) (hi := 0)) (by omega)
  have r2 := n2.row
  have tq := t'.fr p0 (by omega)
  simp -dsimp only [go_sem, ↓reduceIte, reduceCtorEq, Nat.reduceEqDiff, Nat.reduceAdd, Nat.reduceLeDiff, Nat.reduceMul, Int.reduceBEq, Int.reduceBNe, Int.reduceLT, Int.reduceLE, Int.reduceGT, Int.reduceGE, tq.ptr.cell, r1.cell, r2.cell]
  refine call_of (rel_wide (hr0.fr p0 (by omega)) m hm) ?_
  rintro v3 h3 ⟨f3, hk, pb3, rb3, R3, W3, rfl, t3⟩
  rw [Nat.max_comm] at hk t3
  have f3_z := f3.size
  replace p0 := p0.fresh f3 (by omega)
  replace r1 := r1.fr f3 (by omega)
  replace r2 := r2.fr f3 (by omega)
  simp -dsimp only [go_sem, ↓reduceIte, reduceCtorEq, Nat.reduceEqDiff, Nat.reduceAdd, Nat.reduceLeDiff, Nat.reduceMul, Int.reduceBEq, Int.reduceBNe, Int.reduceLT, Int.reduceLE, Int.reduceGT, Int.reduceGE, r1.cell, r2.cell]
  intro b4 h4 n4
  have n4_a := n4.at_
  have n4_z := n4.size
  replace p0 := p0.fresh (n4.fr (lo := 0) (hi := 0)) (by omega)
  replace r1 := r1.fr (n4.fr (lo := 0) (hi := 0)) (by omega)
  replace r2 := r2.fr (n4.fr (lo := 0) (hi := 0)) (by omega)
  replace t3 := t3.fr (n4.fr (lo := 0) (hi := 0)) (by omega)
  have r4 := n4.row
  simp -dsimp only [go_sem, ↓reduceIte, reduceCtorEq, Nat.reduceEqDiff, Nat.reduceAdd, Nat.reduceLeDiff, Nat.reduceMul, Int.reduceBEq, Int.reduceBNe, Int.reduceLT, Int.reduceLE, Int.reduceGT, Int.reduceGE, r1.cell, r2.cell, r4.cell]
  refine Chk_intro (r4.wr (by first | (simp; done) | (simp; omega))) fun h5 s5 => ?_
  have s5_z := s5.size
  replace p0 := p0.fresh s5.fr (by omega)
  replace r1 := r1.fr s5.fr (by omega)
  replace r2 := r2.fr s5.fr (by omega)
  replace t3 := t3.fr s5.fr (by omega)
  replace r4 := s5.row r4
  try simp only [cl_int, cl_bool, cl_slice, cl_ptr, putAt_one, List.set_cons_zero, List.set_cons_succ, ivec_set, brow_upd] at r4
  have at3 := t3.at_
  simp -dsimp only [go_sem, ↓reduceIte, reduceCtorEq, Nat.reduceEqDiff, Nat.reduceAdd, Nat.reduceLeDiff, Nat.reduceMul, Int.reduceBEq, Int.reduceBNe, Int.reduceLT, Int.reduceLE, Int.reduceGT, Int.reduceGE, t3.ptr.cell, r1.cell, r2.cell, r4.cell]
  refine loop_intro (fun a : Nat => [(4, .pointer (some ⟨b1, 0, none⟩)), (5, .pointer (some ⟨b2, 0, none⟩)), (7, .pointer (some ⟨b4, 0, none⟩)), (20, .slice (some ⟨rb3, 0, none⟩) (max n m) (max n m)), (21, .int .i64 (max n m : Nat)), (22, .int .i64 a)])
    (fun a h' => a ≤ max n m ∧ Fr 0 0 h h' ∧ h5.size ≤ h'.size ∧ Rw h' b1 [.pointer (some ⟨pb', 0, none⟩)] ∧ Rw h' b2 [.bool has] ∧ Rw h' b4 [.pointer (some ⟨pb3, 0, none⟩)] ∧ ∃ W, PTab h' h2.size h3.size pb3 rb3 (max n m) R3 W fun i j => inN n M i j && (decide (a ≤ i) || (inN m N i j == has))) (fun a => max n m - a) 0 ?_ ?_ ?_
  · simp [Le, find]
  · exact ⟨by omega, p0, by omega, r1, r2, r4, _, t3.congr fun i j _ _ => by simp⟩
  rintro a h6 ⟨ha, p0, y6, r1, r2, r4, W6, t6⟩
  have p0_z := p0.size
  have r1_l := r1.lt
  have r2_l := r2.lt
  have r4_l := r4.lt
  simp -dsimp only [go_sem, ↓reduceIte, reduceCtorEq, Nat.reduceEqDiff, Nat.reduceAdd, Nat.reduceLeDiff, Nat.reduceMul, Int.reduceBEq, Int.reduceBNe, Int.reduceLT, Int.reduceLE, Int.reduceGT, Int.reduceGE, r1.cell, r2.cell, r4.cell]
  refine ⟨fun hlt => ?_, fun hge => ?_⟩
  · have hlt : a < max n m := by omega
    simp -dsimp only [go_sem, ↓reduceIte, reduceCtorEq, Nat.reduceEqDiff, Nat.reduceAdd, Nat.reduceLeDiff, Nat.reduceMul, Int.reduceBEq, Int.reduceBNe, Int.reduceLT, Int.reduceLE, Int.reduceGT, Int.reduceGE, r1.cell, r2.cell, r4.cell]
    refine Chk_intro (by omega) ?_
    simp -dsimp only [go_sem, ↓reduceIte, reduceCtorEq, Nat.reduceEqDiff, Nat.reduceAdd, Nat.reduceLeDiff, Nat.reduceMul, Int.reduceBEq, Int.reduceBNe, Int.reduceLT, Int.reduceLE, Int.reduceGT, Int.reduceGE, t6.rowsGet hlt, r1.cell, r2.cell, r4.cell]
    intro b7 h7 n7
    have n7_a := n7.at_
    have n7_z := n7.size
    replace p0 := p0.fresh (n7.fr (lo := 0) (hi := 0)) (by omega)
    replace r1 := r1.fr (n7.fr (lo := 0) (hi := 0)) (by omega)
    replace r2 := r2.fr (n7.fr (lo := 0) (hi := 0)) (by omega)
    replace r4 := r4.fr (n7.fr (lo := 0) (hi := 0)) (by omega)
    replace t6 := t6.fr (n7.fr (lo := 0) (hi := 0)) (by omega)
    have r7 := n7.row
    simp -dsimp only [go_sem, ↓reduceIte, reduceCtorEq, Nat.reduceEqDiff, Nat.reduceAdd, Nat.reduceLeDiff, Nat.reduceMul, Int.reduceBEq, Int.reduceBNe, Int.reduceLT, Int.reduceLE, Int.reduceGT, Int.reduceGE, r1.cell, r2.cell, r4.cell, r7.cell]
    refine Chk_intro (r7.wr (by first | (simp; done) | (simp; omega))) fun h8 s8 => ?_
    have s8_z := s8.size
    replace p0 := p0.fresh s8.fr (by omega)
    replace r1 := r1.fr s8.fr (by omega)
    replace r2 := r2.fr s8.fr (by omega)
    replace r4 := r4.fr s8.fr (by omega)
    replace t6 := t6.fr s8.fr (by omega)
    replace r7 := s8.row r7
    try simp only [cl_int, cl_bool, cl_slice, cl_ptr, putAt_one, List.set_cons_zero, List.set_cons_succ, ivec_set, brow_upd] at r7
    simp -dsimp only [go_sem, ↓reduceIte, reduceCtorEq, Nat.reduceEqDiff, Nat.reduceAdd, Nat.reduceLeDiff, Nat.reduceMul, Int.reduceBEq, Int.reduceBNe, Int.reduceLT, Int.reduceLE, Int.reduceGT, Int.reduceGE, r1.cell, r2.cell, r4.cell, r7.cell]
    refine call_of (rel_points _ _ _ h8) ?_
    rintro v h9 ⟨f9, rfl, c9, z9⟩
    have f9_z := f9.size
    replace p0 := p0.fresh f9 (by omega)
    replace r1 := r1.fr f9 (by omega)
    replace r2 := r2.fr f9 (by omega)
    replace r4 := r4.fr f9 (by omega)
    replace t6 := t6.fr f9 (by omega)
    replace r7 := r7.fr f9 (by omega)
    simp -dsimp only [go_sem, ↓reduceIte, reduceCtorEq, Nat.reduceEqDiff, Nat.reduceAdd, Nat.reduceLeDiff, Nat.reduceMul, Int.reduceBEq, Int.reduceBNe, Int.reduceLT, Int.reduceLE, Int.reduceGT, Int.reduceGE, r1.cell, r2.cell, r4.cell, r7.cell]
    have hbits := (t6.row a hlt).2.2.2.2.2
    have hit := points_1 (b := h8.size) (xv := .slice (some ⟨R3 a, 0, none⟩) (nw (max n m)) (nw (max n m))) (w := nw (max n m)) (W := W6 a) (fun j => (hbits j).1) (by unfold nw; omega)
    rw [rest_bits hbits] at hit
    have hL := length_rest_le (fun j => inN n M a j && (decide (a ≤ a) || (inN m N a j == has))) (max n m) 0
    have hC : RowC h8.size (.slice (some ⟨R3 a, 0, none⟩) (nw (max n m)) (nw (max n m))) (nw (max n m)) (W6 a) h9 := ⟨c9, ptab_rd t6 hlt, ht.fr p0 (by omega)⟩
    refine call_of (slices_Collect hit (fun B g1 g2 _ x ⟨c1, c2, c3⟩ => ⟨x.cell c1, x.rd c2, x.tab c3⟩) (fun g f => ⟨f.keep hC.1 (by omega), hC.2.1.fr f, hC.2.2.fr f (by omega)⟩) (by omega)) ?_
    rintro sv h10 ⟨f10, o10⟩
    clear hit hC
    have hrow : (rest (fun j => inN n M a j && (decide (a ≤ a) || (inN m N a j == has))) (max n m) 0) = rest (fun j => inN n M a j) (max n m) 0 := rest_congr fun j _ _ => by simp
    rw [hrow] at o10 hL
    have f10_z := f10.size
    replace p0 := p0.fresh f10 (by omega)
    replace r1 := r1.fr f10 (by omega)
    replace r2 := r2.fr f10 (by omega)
    replace r4 := r4.fr f10 (by omega)
    replace t6 := t6.fr f10 (by omega)
    replace r7 := r7.fr f10 (by omega)
    obtain ⟨va, vc, rfl⟩ := o10.is
    have o10_l := o10.top
    simp -dsimp only [go_sem, ↓reduceIte, reduceCtorEq, Nat.reduceEqDiff, Nat.reduceAdd, Nat.reduceLeDiff, Nat.reduceMul, Int.reduceBEq, Int.reduceBNe, Int.reduceLT, Int.reduceLE, Int.reduceGT, Int.reduceGE, r1.cell, r2.cell, r4.cell, r7.cell]
    refine call_of (slices_Values) ?_
    rintro v h11 ⟨f11, rfl, r11, z11⟩
    have f11_z := f11.size
    replace p0 := p0.fresh f11 (by omega)
    replace r1 := r1.fr f11 (by omega)
    replace r2 := r2.fr f11 (by omega)
    replace r4 := r4.fr f11 (by omega)
    replace t6 := t6.fr f11 (by omega)
    replace r7 := r7.fr f11 (by omega)
    replace o10 := o10.fr f11 (by have := o10.at_; omega)
    simp -dsimp only [go_sem, ↓reduceIte, reduceCtorEq, Nat.reduceEqDiff, Nat.reduceAdd, Nat.reduceLeDiff, Nat.reduceMul, Int.reduceBEq, Int.reduceBNe, Int.reduceLT, Int.reduceLE, Int.reduceGT, Int.reduceGE, r1.cell, r2.cell, r4.cell, r7.cell, r11.cell]
    refine ⟨rfl, iter_intro (values_1 (l := rest (fun j => inN n M a j) (max n m) 0) (by omega)) (fun g1 g2 x ⟨c1, c2⟩ => ⟨c1.ext x, c2.ext x⟩) ⟨r11, o10.rd⟩
      (fun d h' => Fr 0 0 h h' ∧ h11.size ≤ h'.size ∧ Rw h' b1 [.pointer (some ⟨pb', 0, none⟩)] ∧ Rw h' b2 [.bool has] ∧ Rw h' b4 [.pointer (some ⟨pb3, 0, none⟩)] ∧ Rw h' b7 [.int .i64 a] ∧ Rw h' h10.size [.slice va (rest (fun j => inN n M a j) (max n m) 0).length vc] ∧ Holder 1 h' (.slice va (rest (fun j => inN n M a j) (max n m) 0).length vc) (rest (fun j => inN n M a j) (max n m) 0).length (natsV (rest (fun j => inN n M a j) (max n m) 0)) h9.size ∧
        ∃ W, PTab h' h2.size h3.size pb3 rb3 (max n m) R3 W fun i j => inN n M i j && (decide (a + 1 ≤ i) || (inN m N i j == has) || (i == a && !((rest (fun j => inN n M a j) (max n m) 0).take d).contains j)))
      (fun _ _ => False) ?_ ?_ ?_ ?_ ?_ ?_ ?_⟩
    · rintro d h' ⟨-, -, -, -, -, -, q1, q2, -⟩; exact ⟨q1, q2.rd⟩
    · rintro d g1 g2 x ⟨q0, q1, q2, q3, q4, q5, q6, q7, W', q8⟩
      exact ⟨q0.ext x (by omega), Nat.le_trans q1 x.size, q2.ext x, q3.ext x, q4.ext x, q5.ext x, q6.ext x, q7.ext x, W', q8.ext x⟩
    · exact fun _ _ _ _ h => h
    · refine ⟨p0, Nat.le_refl _, r1, r2, r4, r7, r11, o10, _, t6.congr fun i j _ _ => ?_⟩
      by_cases hia : i = a
      · subst hia; simp
      · have e : (i == a) = false := by simpa using hia
        have e2 : (a ≤ i) = (a + 1 ≤ i) := by simp; omega
        simp [e, e2]
    · rintro d q h12 z12 hq ⟨p0, y12, r1, r2, r4, r7, r11, o10, W12, t12⟩
      have hqm := mem_rest.1 (List.mem_of_getElem? hq)
      have p0_z := p0.size
      have r1_l := r1.lt
      have r2_l := r2.lt
      have r4_l := r4.lt
      have r7_l := r7.lt
      have r11_l := r11.lt
      have o10_l := o10.top
      simp -dsimp only [go_sem, ↓reduceIte, reduceCtorEq, Nat.reduceEqDiff, Nat.reduceAdd, Nat.reduceLeDiff, Nat.reduceMul, Int.reduceBEq, Int.reduceBNe, Int.reduceLT, Int.reduceLE, Int.reduceGT, Int.reduceGE, r1.cell, r2.cell, r4.cell, r7.cell, r11.cell]
      intro h13 x13
      have x13_z := x13.size
      replace p0 := p0.ext x13 (by omega)
      replace r1 := r1.ext x13
      replace r2 := r2.ext x13
      replace r4 := r4.ext x13
      replace r7 := r7.ext x13
      replace r11 := r11.ext x13
      replace o10 := o10.ext x13
      replace t12 := t12.ext x13
      simp -dsimp only [go_sem, ↓reduceIte, reduceCtorEq, Nat.reduceEqDiff, Nat.reduceAdd, Nat.reduceLeDiff, Nat.reduceMul, Int.reduceBEq, Int.reduceBNe, Int.reduceLT, Int.reduceLE, Int.reduceGT, Int.reduceGE, r1.cell, r2.cell, r4.cell, r7.cell, r11.cell]
      refine call_of (rel_Has (hs0.fr p0 (by omega)) a q) ?_
      rintro v h14 ⟨rfl, rfl⟩
      have hh : (inR m a && inR m q && N (a : Int).toNat (q : Int).toNat) = inN m N a q := by
        simp [inN, inR]
      rw [hh]
      simp -dsimp only [go_sem, ↓reduceIte, reduceCtorEq, Nat.reduceEqDiff, Nat.reduceAdd, Nat.reduceLeDiff, Nat.reduceMul, Int.reduceBEq, Int.reduceBNe, Int.reduceLT, Int.reduceLE, Int.reduceGT, Int.reduceGE, r1.cell, r2.cell, r4.cell, r7.cell, r11.cell]
      have hfree : ∀ j, j < max n m → ((rest (fun j => inN n M a j) (max n m) 0).take (d + 1)).contains j = (((rest (fun j => inN n M a j) (max n m) 0).take d).contains j || j == q) := fun j hj => by
        rw [List.take_add_one, hq, Option.toList_some, List.contains_append, List.contains_cons, List.contains_nil, Bool.or_false]
      cases hb : (inN m N a q != has) with
      | true =>
        have hb' : (inN m N a q == has) = false := by simpa [bne] using hb
        simp -dsimp only [go_sem, ↓reduceIte, reduceCtorEq, Nat.reduceEqDiff, Nat.reduceAdd, Nat.reduceLeDiff, Nat.reduceMul, Int.reduceBEq, Int.reduceBNe, Int.reduceLT, Int.reduceLE, Int.reduceGT, Int.reduceGE, r1.cell, r2.cell, r4.cell, r7.cell, r11.cell]
        refine call_of (rel_PutT hk t12 a q false) ?_
        rintro v15 h15 ⟨f15, z15, rfl, W15, t15⟩
        have f15_z := f15.size
        replace p0 := p0.fresh f15 (by omega)
        replace r1 := r1.fr f15 (by omega)
        replace r2 := r2.fr f15 (by omega)
        replace r4 := r4.fr f15 (by omega)
        replace r7 := r7.fr f15 (by omega)
        replace r11 := r11.fr f15 (by omega)
        replace o10 := o10.fr f15 (by have := o10.at_; omega)
        simp -dsimp only [go_sem, ↓reduceIte, reduceCtorEq, Nat.reduceEqDiff, Nat.reduceAdd, Nat.reduceLeDiff, Nat.reduceMul, Int.reduceBEq, Int.reduceBNe, Int.reduceLT, Int.reduceLE, Int.reduceGT, Int.reduceGE, r1.cell, r2.cell, r4.cell, r7.cell, r11.cell]
        refine ⟨p0, by omega, r1, r2, r4, r7, r11, o10, _, t15.congr fun i j hi hj => ?_⟩
        simp only [putM]
        have e1 : (inR (max n m : Nat) a && inR (max n m : Nat) q) = true := by simp [inR]; omega
        rw [e1, hfree j hj]
        by_cases hia : i = a
        · subst hia
          by_cases hjq : j = q
          · subst hjq; simp [hb']
          · have e2 : (j == q) = false := by simpa using hjq
            have e3 : ((q : Int) == (j : Int)) = false := by simp; omega
            simp [e2, e3]
        · have e : (i == a) = false := by simpa using hia
          have e3 : ((a : Int) == (i : Int)) = false := by simp; omega
          simp [e, e3]
      | false =>
        have hb' : (inN m N a q == has) = true := by simpa [bne] using hb
        simp -dsimp only [go_sem, ↓reduceIte, reduceCtorEq, Nat.reduceEqDiff, Nat.reduceAdd, Nat.reduceLeDiff, Nat.reduceMul, Int.reduceBEq, Int.reduceBNe, Int.reduceLT, Int.reduceLE, Int.reduceGT, Int.reduceGE, r1.cell, r2.cell, r4.cell, r7.cell, r11.cell]
        refine ⟨p0, by omega, r1, r2, r4, r7, r11, o10, _, t12.congr fun i j hi hj => ?_⟩
        rw [hfree j hj]
        by_cases hia : i = a
        · subst hia
          by_cases hjq : j = q
          · subst hjq; simp [hb']
          · have e2 : (j == q) = false := by simpa using hjq
            simp [e2]
        · have e : (i == a) = false := by simpa using hia
          simp [e]
    · rintro h12 z12 ⟨p0, y12, r1, r2, r4, r7, r11, o10, W12, t12⟩
      simp -dsimp only [go_sem, ↓reduceIte, reduceCtorEq, Nat.reduceEqDiff, Nat.reduceAdd, Nat.reduceLeDiff, Nat.reduceMul, Int.reduceBEq, Int.reduceBNe, Int.reduceLT, Int.reduceLE, Int.reduceGT, Int.reduceGE, r1.cell, r2.cell, r4.cell, r7.cell, r11.cell]
      simp -dsimp (disch := omega) only [wrap64]
      refine ⟨a + 1, by omega, by simp [Le, find], by omega, p0, by omega, r1, r2, r4, _, t12.congr fun i j hi hj => ?_⟩
      rw [List.take_length]
      by_cases hia : i = a
      · subst hia
        cases hM : inN n M i j with
        | false => simp
        | true =>
          have : (rest (fun j => inN n M i j) (max n m) 0).contains j = true := by
            rw [List.contains_iff_mem]; exact mem_rest.2 ⟨by omega, hj, hM⟩
          have e : ¬ i + 1 ≤ i := by omega
          rw [this]; simp [e]
      · have e : (i == a) = false := by simpa using hia
        simp [e]
    · exact fun _ _ _ h => h.elim
  · have : a = max n m := by omega
    subst this
    simp -dsimp only [go_sem, ↓reduceIte, reduceCtorEq, Nat.reduceEqDiff, Nat.reduceAdd, Nat.reduceLeDiff, Nat.reduceMul, Int.reduceBEq, Int.reduceBNe, Int.reduceLT, Int.reduceLE, Int.reduceGT, Int.reduceGE, r1.cell, r2.cell, r4.cell]
    refine ⟨p0, hk, _, _, _, _, rfl, ((t6.mono' (hi' := h6.size) (by omega)).lower (by omega)).congr fun i j hi hj => ?_⟩
    have : ¬ max n m ≤ i := by omega
    simp [keepM, this]
end Go.Proofs.Tst
namespace Go.Proofs.Tst
open Go Go.Vc
theorem rel_Minus {n m : Nat} {M N : Nat → Nat → Bool} {p q : Value} {lo hi lo' hi' : Nat} {h : Heap} (hr : ProgAt h lo hi p n M) (hs : ProgAt h lo' hi' q m N) (ht : TabAt h) :
    Con Tryd.prog 40 #[p, q] h fun v h' => Fr 0 0 h h' ∧ ProgAt h' h.size h'.size v (max n m) (minusM n M m N) := by
  refine con_rel_Minus ?_
  simp -dsimp only [go_sem, ↓reduceIte, reduceCtorEq, Nat.reduceEqDiff, Nat.reduceAdd, Nat.reduceLeDiff, Nat.reduceMul, Int.reduceBEq, Int.reduceBNe, Int.reduceLT, Int.reduceLE, Int.reduceGT, Int.reduceGE]
  refine call_of (rel_keep hr hs ht false) ?_
  rintro v h1 ⟨p1, t1⟩
  simp -dsimp only [go_sem, ↓reduceIte, reduceCtorEq, Nat.reduceEqDiff, Nat.reduceAdd, Nat.reduceLeDiff, Nat.reduceMul, Int.reduceBEq, Int.reduceBNe, Int.reduceLT, Int.reduceLE, Int.reduceGT, Int.reduceGE]
  exact ⟨p1, t1.congr fun i j _ _ => by unfold keepM minusM; cases inN m N i j <;> simp⟩
/-- Relations that are joined. -/
def RelsAt (h : Heap) (L : List (Value × Nat × (Nat → Nat → Bool))) : Prop := ∀ x ∈ L, ∃ lo hi, ProgAt h lo hi x.1 x.2.1 x.2.2
theorem RelsAt.fr {h h' : Heap} {L : List (Value × Nat × (Nat → Nat → Bool))} (r : RelsAt h L) (f : Fr 0 0 h h') : RelsAt h' L := fun x hx => by
  obtain ⟨lo, hi, t⟩ := r x hx; exact ⟨lo, hi, t.fr f (by omega)⟩
end Go.Proofs.Tst
/-
  Reduction, by the program and by the document.
-/
namespace Go.Proofs.Tst
open Go Go.Vc
def redM (n : Nat) (M : Nat → Nat → Bool) : Nat → Nat → Bool := minusM n (plusM n M) n (compM n (plusM n M) n (plusM n M))
theorem order_Reduction {n : Nat} {M : Nat → Nat → Bool} {pv : Value} {lo hi : Nat} {h : Heap} (hr : ProgAt h lo hi pv n M) (ht : TabAt h) :
    Con Tryd.prog 50 #[pv] h fun v h' => Fr 0 0 h h' ∧ if irrB n (plusM n M) = true then ∃ b, v = .tuple #[.pointer (some ⟨b, 0, none⟩), .int .i64 0] ∧ ProgAt h' h.size h'.size (.pointer (some ⟨b, 0, none⟩)) n (redM n M) else v = .tuple #[.pointer none, .int .i64 3] := by
  refine con_order_Reduction ?_
  have p0 : Fr 0 0 h h := .refl _ _ _
  simp -dsimp only [go_sem, ↓reduceIte, reduceCtorEq, Nat.reduceEqDiff, Nat.reduceAdd, Nat.reduceLeDiff, Nat.reduceMul, Int.reduceBEq, Int.reduceBNe, Int.reduceLT, Int.reduceLE, Int.reduceGT, Int.reduceGE]
  refine call_of (rel_Plus hr) ?_
  rintro v h1 ⟨f1, t1⟩
  have f1_z := f1.size
  replace p0 := p0.fresh f1 (by omega)
  simp -dsimp only [go_sem, ↓reduceIte, reduceCtorEq, Nat.reduceEqDiff, Nat.reduceAdd, Nat.reduceLeDiff, Nat.reduceMul, Int.reduceBEq, Int.reduceBNe, Int.reduceLT, Int.reduceLE, Int.reduceGT, Int.reduceGE]
  refine call_of (rel_Irreflexive t1) ?_
  rintro v h2 ⟨rfl, rfl⟩
  cases hI : irrB n (plusM n M) with
  | false =>
    simp -dsimp only [go_sem, ↓reduceIte, reduceCtorEq, Nat.reduceEqDiff, Nat.reduceAdd, Nat.reduceLeDiff, Nat.reduceMul, Int.reduceBEq, Int.reduceBNe, Int.reduceLT, Int.reduceLE, Int.reduceGT, Int.reduceGE]
    exact p0
  | true =>
    simp -dsimp only [go_sem, ↓reduceIte, reduceCtorEq, Nat.reduceEqDiff, Nat.reduceAdd, Nat.reduceLeDiff, Nat.reduceMul, Int.reduceBEq, Int.reduceBNe, Int.reduceLT, Int.reduceLE, Int.reduceGT, Int.reduceGE]
    refine call_of (rel_Comp t1 t1 (ht.fr p0 (by omega))) ?_
    rintro v h3 ⟨f3, t3⟩
    have f3_z := f3.size
    replace p0 := p0.fresh f3 (by omega)
    replace t1 := t1.fr f3 (by omega)
    rw [Nat.max_self] at t3
    simp -dsimp only [go_sem, ↓reduceIte, reduceCtorEq, Nat.reduceEqDiff, Nat.reduceAdd, Nat.reduceLeDiff, Nat.reduceMul, Int.reduceBEq, Int.reduceBNe, Int.reduceLT, Int.reduceLE, Int.reduceGT, Int.reduceGE]
    refine call_of (rel_Minus t1 t3 (ht.fr p0 (by omega))) ?_
    rintro v h4 ⟨f4, t4⟩
    have f4_z := f4.size
    replace p0 := p0.fresh f4 (by omega)
    replace t1 := t1.fr f4 (by omega)
    replace t3 := t3.fr f4 (by omega)
    rw [Nat.max_self] at t4
    obtain ⟨-, b4, rb, R, W, rfl, -⟩ := id t4
    simp -dsimp only [go_sem, ↓reduceIte, reduceCtorEq, Nat.reduceEqDiff, Nat.reduceAdd, Nat.reduceLeDiff, Nat.reduceMul, Int.reduceBEq, Int.reduceBNe, Int.reduceLT, Int.reduceLE, Int.reduceGT, Int.reduceGE]
    refine ⟨p0, ?_⟩
    exact ⟨b4, rfl, t4.mono (by omega) (by omega)⟩
end Go.Proofs.Tst
