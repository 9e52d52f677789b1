/-
  Contracts of functions that the law reaches: what each returns and what it leaves in memory. Conditions stand in each.
-/
import Derived.Test.YtgedofjefepebaaDoorT2
set_option linter.all false
set_option maxRecDepth 2000
namespace Go.Proofs.Tst
open Go Go.Vc
theorem slices_Values {a : Option Addr} {n c : Nat} {h : Heap} : Con Tryd.prog 107 #[.slice a n c] h fun v h' => Fr 0 0 h h' ∧ v = .func (.func 111) #[] #[.pointer (some ⟨h.size, 0, none⟩)] ∧ Rw h' h.size [.slice a n c] ∧ h'.size = h.size + 1 := by
  refine con_slices_Values ?_
  simp -dsimp only [go_sem, ↓reduceIte, reduceCtorEq, Nat.reduceEqDiff, Nat.reduceAdd, Nat.reduceLeDiff, Nat.reduceMul, Int.reduceBEq, Int.reduceBNe, Int.reduceLT, Int.reduceLE, Int.reduceGT, Int.reduceGE]
  intro b h1 n1
  have r1 := n1.row
  have a1 := n1.at_
  subst a1
  simp -dsimp only [go_sem, ↓reduceIte, reduceCtorEq, Nat.reduceEqDiff, Nat.reduceAdd, Nat.reduceLeDiff, Nat.reduceMul, Int.reduceBEq, Int.reduceBNe, Int.reduceLT, Int.reduceLE, Int.reduceGT, Int.reduceGE]
  exact ⟨n1.fr, r1, n1.size⟩
theorem values_1 {b : Nat} {sv : Value} {l : List Nat} (hl : l.length ≤ 65536) :
    Iter Tryd.prog 111 #[.pointer (some ⟨b, 0, none⟩)] (l.map fun (p : Nat) => [Value.int .i64 (p : Int)]) (fun h => Rw h b [sv] ∧ Rd 1 h sv l.length (natsV l)) := by
  refine ⟨by unfold goodF; rw [Tryd.func111]; rfl, fun lo I X hy h hI hC => ?_⟩
  show ConX (some lo) Tryd.prog 111 #[.func (.yield lo) #[] #[], .pointer (some ⟨b, 0, none⟩)] h _
  refine con_slices_Values_1 ?_
  obtain ⟨sa, sc, rfl⟩ := hC.2.is
  simp -dsimp only [go_sem, ↓reduceIte, reduceCtorEq, Nat.reduceEqDiff, Nat.reduceAdd, Nat.reduceLeDiff, Nat.reduceMul, Int.reduceBEq, Int.reduceBNe, Int.reduceLT, Int.reduceLE, Int.reduceGT, Int.reduceGE, hC.1.cell]
  refine loop_intro (fun i : Nat => [(0, .func (.yield lo) #[] #[]), (5, .slice sa l.length sc), (6, .int .i64 l.length), (7, .int .i64 i)])
    (fun i h' => i ≤ l.length ∧ (Rw h' b [.slice sa l.length sc] ∧ Rd 1 h' (.slice sa l.length sc) l.length (natsV l)) ∧ I i h') (fun i => l.length - i) 0 ?_ ?_ ?_
  · simp [Le, find]
  · exact ⟨by omega, hC, hI⟩
  rintro i h1 ⟨hi, hC1, hI1⟩
  simp -dsimp only [go_sem, ↓reduceIte, reduceCtorEq, Nat.reduceEqDiff, Nat.reduceAdd, Nat.reduceLeDiff, Nat.reduceMul, Int.reduceBEq, Int.reduceBNe, Int.reduceLT, Int.reduceLE, Int.reduceGT, Int.reduceGE]
  refine ⟨fun hlt => ?_, fun hge => ?_⟩
  · have hlt : i < l.length := by omega
    have hq : l[i]? = some l[i] := by simp [hlt]
    generalize l[i] = q at hq
    simp -dsimp only [go_sem, ↓reduceIte, reduceCtorEq, Nat.reduceEqDiff, Nat.reduceAdd, Nat.reduceLeDiff, Nat.reduceMul, Int.reduceBEq, Int.reduceBNe, Int.reduceLT, Int.reduceLE, Int.reduceGT, Int.reduceGE]
    refine Chk_intro (by omega) (hC1.2.idx (by omega) fun b2 o2 c2 => ?_)
    simp -dsimp only [go_sem, ↓reduceIte, reduceCtorEq, Nat.reduceEqDiff, Nat.reduceAdd, Nat.reduceLeDiff, Nat.reduceMul, Int.reduceBEq, Int.reduceBNe, Int.reduceLT, Int.reduceLE, Int.reduceGT, Int.reduceGE, c2 i _ (natsV_get hq)]
    have hdx : (l.map fun (p : Nat) => [Value.int .i64 (p : Int)])[i]? = some [.int .i64 (q : Int)] := by rw [List.getElem?_map, hq]; rfl
    refine yld_of (hy i _ _ hdx hI1 hC1) ?_
    rintro v h4 (⟨rfl, hI4, hC4⟩ | ⟨rfl, hX4⟩)
    · simp -dsimp only [go_sem, ↓reduceIte, reduceCtorEq, Nat.reduceEqDiff, Nat.reduceAdd, Nat.reduceLeDiff, Nat.reduceMul, Int.reduceBEq, Int.reduceBNe, Int.reduceLT, Int.reduceLE, Int.reduceGT, Int.reduceGE]
      simp -dsimp (disch := omega) only [wrap64]
      exact ⟨i + 1, by omega, by simp [Le, find], by omega, hC4, hI4⟩
    · simp -dsimp only [go_sem, ↓reduceIte, reduceCtorEq, Nat.reduceEqDiff, Nat.reduceAdd, Nat.reduceLeDiff, Nat.reduceMul, Int.reduceBEq, Int.reduceBNe, Int.reduceLT, Int.reduceLE, Int.reduceGT, Int.reduceGE]
      exact .inr hX4
  · have : i = l.length := by omega
    subst this
    simp -dsimp only [go_sem, ↓reduceIte, reduceCtorEq, Nat.reduceEqDiff, Nat.reduceAdd, Nat.reduceLeDiff, Nat.reduceMul, Int.reduceBEq, Int.reduceBNe, Int.reduceLT, Int.reduceLE, Int.reduceGT, Int.reduceGE]
    refine .inl ⟨?_, hC1⟩
    rw [List.length_map]
    exact hI1
theorem slices_AppendSeq {gf : FuncId} {lb : Array Value} {l : List Nat} {C : Heap → Prop} {h : Heap} (hit : Iter Tryd.prog gf lb (l.map fun (p : Nat) => [Value.int .i64 (p : Int)]) C)
    (cext : ∀ B h1 h2, h.size ≤ B → Ext B h1 h2 → C h1 → C h2) (cfr : ∀ h', Fr 0 0 h h' → C h') (hl : l.length ≤ 65536) :
    Con Tryd.prog 112 #[.slice none 0 0, .func (.func gf) #[] lb] h fun v h' => Fr 0 0 h h' ∧ Holder 1 h' v l.length (natsV l) h.size := by
  refine con_slices_AppendSeq (fun v h1 h2 x ⟨f, o⟩ => ⟨x.fr f (Nat.le_refl _), o.ext x⟩) ?_
  have p0 : Fr 0 0 h h := .refl _ _ _
  simp -dsimp only [go_sem, ↓reduceIte, reduceCtorEq, Nat.reduceEqDiff, Nat.reduceAdd, Nat.reduceLeDiff, Nat.reduceMul, Int.reduceBEq, Int.reduceBNe, Int.reduceLT, Int.reduceLE, Int.reduceGT, Int.reduceGE]
  intro b1 h1 n1
  have n1_a := n1.at_
  have n1_z := n1.size
  replace p0 := p0.fresh (n1.fr (lo := 0) (hi := 0)) (by omega)
  have r1 := n1.row
  simp -dsimp only [go_sem, ↓reduceIte, reduceCtorEq, Nat.reduceEqDiff, Nat.reduceAdd, Nat.reduceLeDiff, Nat.reduceMul, Int.reduceBEq, Int.reduceBNe, Int.reduceLT, Int.reduceLE, Int.reduceGT, Int.reduceGE, r1.cell]
  refine ⟨rfl, iter_intro hit (fun h2 h3 x => cext _ _ _ (by omega) x) (cfr _ p0)
    (fun d h' => Fr 0 0 h h' ∧ h1.size ≤ h'.size ∧ ∃ sv, Rw h' b1 [sv] ∧ Holder 1 h' sv d (natsV (l.take d)) h1.size) (fun _ _ => False) ?_ ?_ ?_ ?_ ?_ ?_ ?_⟩
  · rintro d h' ⟨q0, -⟩; exact cfr _ q0
  · rintro d h2 h3 x ⟨q0, q1, sv, q2, q3⟩; exact ⟨q0.ext x (by omega), Nat.le_trans q1 x.size, sv, q2.ext x, q3.ext x⟩
  · exact fun _ _ _ _ h => h
  · exact ⟨p0, by omega, _, r1, .none _ _ _⟩
  · rintro d q h2 z2 hq ⟨p0, y2, sv, r1, o2⟩
    have hd := (List.getElem?_eq_some_iff.1 hq).1
    have p0_z := p0.size
    have r1_l := r1.lt
    have o2_l := o2.top
    simp -dsimp only [go_sem, ↓reduceIte, reduceCtorEq, Nat.reduceEqDiff, Nat.reduceAdd, Nat.reduceLeDiff, Nat.reduceMul, Int.reduceBEq, Int.reduceBNe, Int.reduceLT, Int.reduceLE, Int.reduceGT, Int.reduceGE, r1.cell]
    intro h3 x3
    have x3_z := x3.size
    replace p0 := p0.ext x3 (by omega)
    replace r1 := r1.ext x3
    replace o2 := o2.ext x3
    obtain ⟨va, vc, rfl⟩ := o2.is
    simp -dsimp only [go_sem, ↓reduceIte, reduceCtorEq, Nat.reduceEqDiff, Nat.reduceAdd, Nat.reduceLeDiff, Nat.reduceMul, Int.reduceBEq, Int.reduceBNe, Int.reduceLT, Int.reduceLE, Int.reduceGT, Int.reduceGE, r1.cell]
    intro b4 h4 n4
    have n4_a := n4.at_
    have n4_z := n4.size
    replace p0 := p0.fresh (n4.fr (lo := 0) (hi := 0)) (by omega)
    replace r1 := r1.fr (n4.fr (lo := 0) (hi := 0)) (by omega)
    replace o2 := o2.fr (n4.fr (lo := 0) (hi := 0)) (by have := o2.at_; omega)
    simp -dsimp only [go_sem, ↓reduceIte, reduceCtorEq, Nat.reduceEqDiff, Nat.reduceAdd, Nat.reduceLeDiff, Nat.reduceMul, Int.reduceBEq, Int.reduceBNe, Int.reduceLT, Int.reduceLE, Int.reduceGT, Int.reduceGE, n4.row.cell, r1.cell]
    refine o2.append (by omega) rfl (by omega) (by simp) (by omega) fun v5 h5 o_new f5 e_app => ?_
    have f5_z := f5.size
    have o_at := o2.at_
    replace p0 := p0.fresh f5 (by omega)
    replace r1 := r1.fr f5 (by omega)
    clear o_at e_app
    replace o2 := o_new
    have o2_l := o2.top
    obtain ⟨ua, uc, rfl⟩ := o2.is
    simp -dsimp only [go_sem, ↓reduceIte, reduceCtorEq, Nat.reduceEqDiff, Nat.reduceAdd, Nat.reduceLeDiff, Nat.reduceMul, Int.reduceBEq, Int.reduceBNe, Int.reduceLT, Int.reduceLE, Int.reduceGT, Int.reduceGE, r1.cell]
    refine Chk_intro (r1.wr (by simp)) fun h6 s6 => ?_
    have s6_z := s6.size
    have r6 := s6.row r1
    have o6 := o2.fr s6.fr (by have := o2.at_; omega)
    have q6 := p0.fresh s6.fr (by omega)
    simp -dsimp only [go_sem, ↓reduceIte, reduceCtorEq, Nat.reduceEqDiff, Nat.reduceAdd, Nat.reduceLeDiff, Nat.reduceMul, Int.reduceBEq, Int.reduceBNe, Int.reduceLT, Int.reduceLE, Int.reduceGT, Int.reduceGE] at r6
    simp -dsimp only [go_sem, ↓reduceIte, reduceCtorEq, Nat.reduceEqDiff, Nat.reduceAdd, Nat.reduceLeDiff, Nat.reduceMul, Int.reduceBEq, Int.reduceBNe, Int.reduceLT, Int.reduceLE, Int.reduceGT, Int.reduceGE, r1.cell]
    refine ⟨q6, by omega, _, r6, ?_⟩
    rw [List.take_add_one, hq, Option.toList_some, natsV_append]
    exact o6
  · rintro h2 z2 ⟨p0, y2, sv, r1, o2⟩
    rw [List.take_length] at o2
    have p0_z := p0.size
    have r1_l := r1.lt
    have o2_l := o2.top
    simp -dsimp only [go_sem, ↓reduceIte, reduceCtorEq, Nat.reduceEqDiff, Nat.reduceAdd, Nat.reduceLeDiff, Nat.reduceMul, Int.reduceBEq, Int.reduceBNe, Int.reduceLT, Int.reduceLE, Int.reduceGT, Int.reduceGE, r1.cell]
    exact ⟨p0, o2.lower (by omega)⟩
  · exact fun _ _ _ h => h.elim
theorem slices_Collect {gf : FuncId} {lb : Array Value} {l : List Nat} {C : Heap → Prop} {h : Heap} (hit : Iter Tryd.prog gf lb (l.map fun (p : Nat) => [Value.int .i64 (p : Int)]) C)
    (cext : ∀ B h1 h2, h.size ≤ B → Ext B h1 h2 → C h1 → C h2) (cfr : ∀ h', Fr 0 0 h h' → C h') (hl : l.length ≤ 65536) :
    Con Tryd.prog 108 #[.func (.func gf) #[] lb] h fun v h' => Fr 0 0 h h' ∧ Holder 1 h' v l.length (natsV l) h.size := by
  refine con_slices_Collect ?_
  simp -dsimp only [go_sem, ↓reduceIte, reduceCtorEq, Nat.reduceEqDiff, Nat.reduceAdd, Nat.reduceLeDiff, Nat.reduceMul, Int.reduceBEq, Int.reduceBNe, Int.reduceLT, Int.reduceLE, Int.reduceGT, Int.reduceGE]
  refine call_of (slices_AppendSeq hit cext cfr hl) ?_
  rintro v h1 ⟨p1, o1⟩
  simp -dsimp only [go_sem, ↓reduceIte, reduceCtorEq, Nat.reduceEqDiff, Nat.reduceAdd, Nat.reduceLeDiff, Nat.reduceMul, Int.reduceBEq, Int.reduceBNe, Int.reduceLT, Int.reduceLE, Int.reduceGT, Int.reduceGE]
  exact ⟨p1, o1⟩
end Go.Proofs.Tst
namespace Go.Proofs.Tst
open Go Go.Vc
/-- What is kept of a: the pairs that b has, or has not. -/
def keepM (n : Nat) (M : Nat → Nat → Bool) (m : Nat) (N : Nat → Nat → Bool) (has : Bool) (i j : Nat) : Bool := inN n M i j && (inN m N i j == has)
set_option maxHeartbeats 800000 in
theorem rel_keep {n m : Nat} {M N : Nat → Nat → Bool} {p q : Value} {lo hi lo' hi' : Nat} {h : Heap} (hr : ProgAt h lo hi p n M) (hs : ProgAt h lo' hi' q m N) (ht : TabAt h) (has : Bool) :
    Con Tryd.prog 83 #[p, q, .bool has] h fun v h' => Fr 0 0 h h' ∧ ProgAt h' h.size h'.size v (max n m) (keepM n M m N has) := by
  refine con_rel_keep (fun v h1 h2 x ⟨f, o⟩ => ⟨x.fr f (Nat.le_refl _), (o.ext x).mono (Nat.le_refl _) x.size⟩) ?_
  have hr0 := hr; have hs0 := hs
  obtain ⟨hn, pb, rb, R, W, rfl, t⟩ := hr
  obtain ⟨hm, pb', rb', R', W', rfl, t'⟩ := hs
  have p0 : Fr 0 0 h h := .refl _ _ _
  simp -dsimp only [go_sem, ↓reduceIte, reduceCtorEq, Nat.reduceEqDiff, Nat.reduceAdd, Nat.reduceLeDiff, Nat.reduceMul, Int.reduceBEq, Int.reduceBNe, Int.reduceLT, Int.reduceLE, Int.reduceGT, Int.reduceGE]
  intro b1 h1 n1
  have n1_a := n1.at_
  have n1_z := n1.size
  replace p0 := p0.fresh (n1.fr (lo := 0) (hi := 0)) (by omega)
  have r1 := n1.row
  simp -dsimp only [go_sem, ↓reduceIte, reduceCtorEq, Nat.reduceEqDiff, Nat.reduceAdd, Nat.reduceLeDiff, Nat.reduceMul, Int.reduceBEq, Int.reduceBNe, Int.reduceLT, Int.reduceLE, Int.reduceGT, Int.reduceGE, r1.cell]
  intro b2 h2 n2
  have n2_a := n2.at_
  have n2_z := n2.size
  replace p0 := p0.fresh (n2.fr (lo := 0) (hi := 0)) (by omega)
  replace r1 := r1.fr (n2.fr (lo := 0) (hi := 0)) (by omega)
  have r2 := n2.row
  have tq := t'.fr p0 (by omega)
  simp -dsimp only [go_sem, ↓reduceIte, reduceCtorEq, Nat.reduceEqDiff, Nat.reduceAdd, Nat.reduceLeDiff, Nat.reduceMul, Int.reduceBEq, Int.reduceBNe, Int.reduceLT, Int.reduceLE, Int.reduceGT, Int.reduceGE, tq.ptr.cell, r1.cell, r2.cell]
  refine call_of (rel_wide (hr0.fr p0 (by omega)) m hm) ?_
  rintro v3 h3 ⟨f3, hk, pb3, rb3, R3, W3, rfl, t3⟩
  rw [Nat.max_comm] at hk t3
  have f3_z := f3.size
  replace p0 := p0.fresh f3 (by omega)
  replace r1 := r1.fr f3 (by omega)
  replace r2 := r2.fr f3 (by omega)
  simp -dsimp only [go_sem, ↓reduceIte, reduceCtorEq, Nat.reduceEqDiff, Nat.reduceAdd, Nat.reduceLeDiff, Nat.reduceMul, Int.reduceBEq, Int.reduceBNe, Int.reduceLT, Int.reduceLE, Int.reduceGT, Int.reduceGE, r1.cell, r2.cell]
  intro b4 h4 n4
  have n4_a := n4.at_
  have n4_z := n4.size
  replace p0 := p0.fresh (n4.fr (lo := 0) (hi := 0)) (by omega)
  replace r1 := r1.fr (n4.fr (lo := 0) (hi := 0)) (by omega)
  replace r2 := r2.fr (n4.fr (lo := 0) (hi := 0)) (by omega)
  replace t3 := t3.fr (n4.fr (lo := 0) (hi := 0)) (by omega)
  have r4 := n4.row
  simp -dsimp only [go_sem, ↓reduceIte, reduceCtorEq, Nat.reduceEqDiff, Nat.reduceAdd, Nat.reduceLeDiff, Nat.reduceMul, Int.reduceBEq, Int.reduceBNe, Int.reduceLT, Int.reduceLE, Int.reduceGT, Int.reduceGE, r1.cell, r2.cell, r4.cell]
  refine Chk_intro (r4.wr (by first | (simp; done) | (simp; omega))) fun h5 s5 => ?_
  have s5_z := s5.size
  replace p0 := p0.fresh s5.fr (by omega)
  replace r1 := r1.fr s5.fr (by omega)
  replace r2 := r2.fr s5.fr (by omega)
  replace t3 := t3.fr s5.fr (by omega)
  replace r4 := s5.row r4
  try simp only [cl_int, cl_bool, cl_slice, cl_ptr, putAt_one, List.set_cons_zero, List.set_cons_succ, ivec_set, brow_upd] at r4
  have at3 := t3.at_
  simp -dsimp only [go_sem, ↓reduceIte, reduceCtorEq, Nat.reduceEqDiff, Nat.reduceAdd, Nat.reduceLeDiff, Nat.reduceMul, Int.reduceBEq, Int.reduceBNe, Int.reduceLT, Int.reduceLE, Int.reduceGT, Int.reduceGE, t3.ptr.cell, r1.cell, r2.cell, r4.cell]
  refine loop_intro (fun a : Nat => [(4, .pointer (some ⟨b1, 0, none⟩)), (5, .pointer (some ⟨b2, 0, none⟩)), (7, .pointer (some ⟨b4, 0, none⟩)), (20, .slice (some ⟨rb3, 0, none⟩) (max n m) (max n m)), (21, .int .i64 (max n m : Nat)), (22, .int .i64 a)])
    (fun a h' => a ≤ max n m ∧ Fr 0 0 h h' ∧ h5.size ≤ h'.size ∧ Rw h' b1 [.pointer (some ⟨pb', 0, none⟩)] ∧ Rw h' b2 [.bool has] ∧ Rw h' b4 [.pointer (some ⟨pb3, 0, none⟩)] ∧ ∃ W, PTab h' h2.size h3.size pb3 rb3 (max n m) R3 W fun i j => inN n M i j && (decide (a ≤ i) || (inN m N i j == has))) (fun a => max n m - a) 0 ?_ ?_ ?_
  · simp [Le, find]
  · exact ⟨by omega, p0, by omega, r1, r2, r4, _, t3.congr fun i j _ _ => by simp⟩
  rintro a h6 ⟨ha, p0, y6, r1, r2, r4, W6, t6⟩
  have p0_z := p0.size
  have r1_l := r1.lt
  have r2_l := r2.lt
  have r4_l := r4.lt
  simp -dsimp only [go_sem, ↓reduceIte, reduceCtorEq, Nat.reduceEqDiff, Nat.reduceAdd, Nat.reduceLeDiff, Nat.reduceMul, Int.reduceBEq, Int.reduceBNe, Int.reduceLT, Int.reduceLE, Int.reduceGT, Int.reduceGE, r1.cell, r2.cell, r4.cell]
  refine ⟨fun hlt => ?_, fun hge => ?_⟩
  · have hlt : a < max n m := by omega
    simp -dsimp only [go_sem, ↓reduceIte, reduceCtorEq, Nat.reduceEqDiff, Nat.reduceAdd, Nat.reduceLeDiff, Nat.reduceMul, Int.reduceBEq, Int.reduceBNe, Int.reduceLT, Int.reduceLE, Int.reduceGT, Int.reduceGE, r1.cell, r2.cell, r4.cell]
    refine Chk_intro (by omega) ?_
    simp -dsimp only [go_sem, ↓reduceIte, reduceCtorEq, Nat.reduceEqDiff, Nat.reduceAdd, Nat.reduceLeDiff, Nat.reduceMul, Int.reduceBEq, Int.reduceBNe, Int.reduceLT, Int.reduceLE, Int.reduceGT, Int.reduceGE, t6.rowsGet hlt, r1.cell, r2.cell, r4.cell]
    intro b7 h7 n7
    have n7_a := n7.at_
    have n7_z := n7.size
    replace p0 := p0.fresh (n7.fr (lo := 0) (hi := 0)) (by omega)
    replace r1 := r1.fr (n7.fr (lo := 0) (hi := 0)) (by omega)
    replace r2 := r2.fr (n7.fr (lo := 0) (hi := 0)) (by omega)
    replace r4 := r4.fr (n7.fr (lo := 0) (hi := 0)) (by omega)
    replace t6 := t6.fr (n7.fr (lo := 0) (hi := 0)) (by omega)
    have r7 := n7.row
    simp -dsimp only [go_sem, ↓reduceIte, reduceCtorEq, Nat.reduceEqDiff, Nat.reduceAdd, Nat.reduceLeDiff, Nat.reduceMul, Int.reduceBEq, Int.reduceBNe, Int.reduceLT, Int.reduceLE, Int.reduceGT, Int.reduceGE, r1.cell, r2.cell, r4.cell, r7.cell]
    refine Chk_intro (r7.wr (by first | (simp; done) | (simp; omega))) fun h8 s8 => ?_
    have s8_z := s8.size
    replace p0 := p0.fresh s8.fr (by omega)
    replace r1 := r1.fr s8.fr (by omega)
    replace r2 := r2.fr s8.fr (by omega)
    replace r4 := r4.fr s8.fr (by omega)
    replace t6 := t6.fr s8.fr (by omega)
    replace r7 := s8.row r7
    try simp only [cl_int, cl_bool, cl_slice, cl_ptr, putAt_one, List.set_cons_zero, List.set_cons_succ, ivec_set, brow_upd] at r7
    simp -dsimp only [go_sem, ↓reduceIte, reduceCtorEq, Nat.reduceEqDiff, Nat.reduceAdd, Nat.reduceLeDiff, Nat.reduceMul, Int.reduceBEq, Int.reduceBNe, Int.reduceLT, Int.reduceLE, Int.reduceGT, Int.reduceGE, r1.cell, r2.cell, r4.cell, r7.cell]
    refine call_of (rel_points _ _ _ h8) ?_
    rintro v h9 ⟨f9, rfl, c9, z9⟩
    have f9_z := f9.size
    replace p0 := p0.fresh f9 (by omega)
    replace r1 := r1.fr f9 (by omega)
    replace r2 := r2.fr f9 (by omega)
    replace r4 := r4.fr f9 (by omega)
    replace t6 := t6.fr f9 (by omega)
    replace r7 := r7.fr f9 (by omega)
    simp -dsimp only [go_sem, ↓reduceIte, reduceCtorEq, Nat.reduceEqDiff, Nat.reduceAdd, Nat.reduceLeDiff, Nat.reduceMul, Int.reduceBEq, Int.reduceBNe, Int.reduceLT, Int.reduceLE, Int.reduceGT, Int.reduceGE, r1.cell, r2.cell, r4.cell, r7.cell]
    have hbits := (t6.row a hlt).2.2.2.2.2
    have hit := points_1 (b := h8.size) (xv := .slice (some ⟨R3 a, 0, none⟩) (nw (max n m)) (nw (max n m))) (w := nw (max n m)) (W := W6 a) (fun j => (hbits j).1) (by unfold nw; omega)
    rw [rest_bits hbits] at hit
    have hL := length_rest_le (fun j => inN n M a j && (decide (a ≤ a) || (inN m N a j == has))) (max n m) 0
    have hC : RowC h8.size (.slice (some ⟨R3 a, 0, none⟩) (nw (max n m)) (nw (max n m))) (nw (max n m)) (W6 a) h9 := ⟨c9, ptab_rd t6 hlt, ht.fr p0 (by omega)⟩
    refine call_of (slices_Collect hit (fun B g1 g2 _ x ⟨c1, c2, c3⟩ => ⟨x.cell c1, x.rd c2, x.tab c3⟩) (fun g f => ⟨f.keep hC.1 (by omega), hC.2.1.fr f, hC.2.2.fr f (by omega)⟩) (by omega)) ?_
    rintro sv h10 ⟨f10, o10⟩
    clear hit hC
    have hrow : (rest (fun j => inN n M a j && (decide (a ≤ a) || (inN m N a j == has))) (max n m) 0) = rest (fun j => inN n M a j) (max n m) 0 := rest_congr fun j _ _ => by simp
    rw [hrow] at o10 hL
    have f10_z := f10.size
    replace p0 := p0.fresh f10 (by omega)
    replace r1 := r1.fr f10 (by omega)
    replace r2 := r2.fr f10 (by omega)
    replace r4 := r4.fr f10 (by omega)
    replace t6 := t6.fr f10 (by omega)
    replace r7 := r7.fr f10 (by omega)
    obtain ⟨va, vc, rfl⟩ := o10.is
    have o10_l := o10.top
    simp -dsimp only [go_sem, ↓reduceIte, reduceCtorEq, Nat.reduceEqDiff, Nat.reduceAdd, Nat.reduceLeDiff, Nat.reduceMul, Int.reduceBEq, Int.reduceBNe, Int.reduceLT, Int.reduceLE, Int.reduceGT, Int.reduceGE, r1.cell, r2.cell, r4.cell, r7.cell]
    refine call_of (slices_Values) ?_
    rintro v h11 ⟨f11, rfl, r11, z11⟩
    have f11_z := f11.size
    replace p0 := p0.fresh f11 (by omega)
    replace r1 := r1.fr f11 (by omega)
    replace r2 := r2.fr f11 (by omega)
    replace r4 := r4.fr f11 (by omega)
    replace t6 := t6.fr f11 (by omega)
    replace r7 := r7.fr f11 (by omega)
    replace o10 := o10.fr f11 (by have := o10.at_; omega)
    simp -dsimp only [go_sem, ↓reduceIte, reduceCtorEq, Nat.reduceEqDiff, Nat.reduceAdd, Nat.reduceLeDiff, Nat.reduceMul, Int.reduceBEq, Int.reduceBNe, Int.reduceLT, Int.reduceLE, Int.reduceGT, Int.reduceGE, r1.cell, r2.cell, r4.cell, r7.cell, r11.cell]
    refine ⟨rfl, iter_intro (values_1 (l := rest (fun j => inN n M a j) (max n m) 0) (by omega)) (fun g1 g2 x ⟨c1, c2⟩ => ⟨c1.ext x, c2.ext x⟩) ⟨r11, o10.rd⟩
      (fun d h' => Fr 0 0 h h' ∧ h11.size ≤ h'.size ∧ Rw h' b1 [.pointer (some ⟨pb', 0, none⟩)] ∧ Rw h' b2 [.bool has] ∧ Rw h' b4 [.pointer (some ⟨pb3, 0, none⟩)] ∧ Rw h' b7 [.int .i64 a] ∧ Rw h' h10.size [.slice va (rest (fun j => inN n M a j) (max n m) 0).length vc] ∧ Holder 1 h' (.slice va (rest (fun j => inN n M a j) (max n m) 0).length vc) (rest (fun j => inN n M a j) (max n m) 0).length (natsV (rest (fun j => inN n M a j) (max n m) 0)) h9.size ∧
        ∃ W, PTab h' h2.size h3.size pb3 rb3 (max n m) R3 W fun i j => inN n M i j && (decide (a + 1 ≤ i) || (inN m N i j == has) || (i == a && !((rest (fun j => inN n M a j) (max n m) 0).take d).contains j)))
      (fun _ _ => False) ?_ ?_ ?_ ?_ ?_ ?_ ?_⟩
    · rintro d h' ⟨-, -, -, -, -, -, q1, q2, -⟩; exact ⟨q1, q2.rd⟩
    · rintro d g1 g2 x ⟨q0, q1, q2, q3, q4, q5, q6, q7, W', q8⟩
      exact ⟨q0.ext x (by omega), Nat.le_trans q1 x.size, q2.ext x, q3.ext x, q4.ext x, q5.ext x, q6.ext x, q7.ext x, W', q8.ext x⟩
    · exact fun _ _ _ _ h => h
    · refine ⟨p0, Nat.le_refl _, r1, r2, r4, r7, r11, o10, _, t6.congr fun i j _ _ => ?_⟩
      by_cases hia : i = a
      · subst hia; simp
      · have e : (i == a) = false := by simpa using hia
        have e2 : (a ≤ i) = (a + 1 ≤ i) := by simp; omega
        simp [e, e2]
    · rintro d q h12 z12 hq ⟨p0, y12, r1, r2, r4, r7, r11, o10, W12, t12⟩
      have hqm := mem_rest.1 (List.mem_of_getElem? hq)
      have p0_z := p0.size
      have r1_l := r1.lt
      have r2_l := r2.lt
      have r4_l := r4.lt
      have r7_l := r7.lt
      have r11_l := r11.lt
      have o10_l := o10.top
      simp -dsimp only [go_sem, ↓reduceIte, reduceCtorEq, Nat.reduceEqDiff, Nat.reduceAdd, Nat.reduceLeDiff, Nat.reduceMul, Int.reduceBEq, Int.reduceBNe, Int.reduceLT, Int.reduceLE, Int.reduceGT, Int.reduceGE, r1.cell, r2.cell, r4.cell, r7.cell, r11.cell]
      intro h13 x13
      have x13_z := x13.size
      replace p0 := p0.ext x13 (by omega)
      replace r1 := r1.ext x13
      replace r2 := r2.ext x13
      replace r4 := r4.ext x13
      replace r7 := r7.ext x13
      replace r11 := r11.ext x13
      replace o10 := o10.ext x13
      replace t12 := t12.ext x13
      simp -dsimp only [go_sem, ↓reduceIte, reduceCtorEq, Nat.reduceEqDiff, Nat.reduceAdd, Nat.reduceLeDiff, Nat.reduceMul, Int.reduceBEq, Int.reduceBNe, Int.reduceLT, Int.reduceLE, Int.reduceGT, Int.reduceGE, r1.cell, r2.cell, r4.cell, r7.cell, r11.cell]
      refine call_of (rel_Has (hs0.fr p0 (by omega)) a q) ?_
      rintro v h14 ⟨rfl, rfl⟩
      have hh : (inR m a && inR m q && N (a : Int).toNat (q : Int).toNat) = inN m N a q := by
        simp [inN, inR]
      rw [hh]
      simp -dsimp only [go_sem, ↓reduceIte, reduceCtorEq, Nat.reduceEqDiff, Nat.reduceAdd, Nat.reduceLeDiff, Nat.reduceMul, Int.reduceBEq, Int.reduceBNe, Int.reduceLT, Int.reduceLE, Int.reduceGT, Int.reduceGE, r1.cell, r2.cell, r4.cell, r7.cell, r11.cell]
      have hfree : ∀ j, j < max n m → ((rest (fun j => inN n M a j) (max n m) 0).take (d + 1)).contains j = (((rest (fun j => inN n M a j) (max n m) 0).take d).contains j || j == q) := fun j hj => by
        rw [List.take_add_one, hq, Option.toList_some, List.contains_append, List.contains_cons, List.contains_nil, Bool.or_false]
      cases hb : (inN m N a q != has) with
      | true =>
        have hb' : (inN m N a q == has) = false := by simpa [bne] using hb
        simp -dsimp only [go_sem, ↓reduceIte, reduceCtorEq, Nat.reduceEqDiff, Nat.reduceAdd, Nat.reduceLeDiff, Nat.reduceMul, Int.reduceBEq, Int.reduceBNe, Int.reduceLT, Int.reduceLE, Int.reduceGT, Int.reduceGE, r1.cell, r2.cell, r4.cell, r7.cell, r11.cell]
        refine call_of (rel_PutT hk t12 a q false) ?_
        rintro v15 h15 ⟨f15, z15, rfl, W15, t15⟩
        have f15_z := f15.size
        replace p0 := p0.fresh f15 (by omega)
        replace r1 := r1.fr f15 (by omega)
        replace r2 := r2.fr f15 (by omega)
        replace r4 := r4.fr f15 (by omega)
        replace r7 := r7.fr f15 (by omega)
        replace r11 := r11.fr f15 (by omega)
        replace o10 := o10.fr f15 (by have := o10.at_; omega)
        simp -dsimp only [go_sem, ↓reduceIte, reduceCtorEq, Nat.reduceEqDiff, Nat.reduceAdd, Nat.reduceLeDiff, Nat.reduceMul, Int.reduceBEq, Int.reduceBNe, Int.reduceLT, Int.reduceLE, Int.reduceGT, Int.reduceGE, r1.cell, r2.cell, r4.cell, r7.cell, r11.cell]
        refine ⟨p0, by omega, r1, r2, r4, r7, r11, o10, _, t15.congr fun i j hi hj => ?_⟩
        simp only [putM]
        have e1 : (inR (max n m : Nat) a && inR (max n m : Nat) q) = true := by simp [inR]; omega
        rw [e1, hfree j hj]
        by_cases hia : i = a
        · subst hia
          by_cases hjq : j = q
          · subst hjq; simp [hb']
          · have e2 : (j == q) = false := by simpa using hjq
            have e3 : ((q : Int) == (j : Int)) = false := by simp; omega
            simp [e2, e3]
        · have e : (i == a) = false := by simpa using hia
          have e3 : ((a : Int) == (i : Int)) = false := by simp; omega
          simp [e, e3]
      | false =>
        have hb' : (inN m N a q == has) = true := by simpa [bne] using hb
        simp -dsimp only [go_sem, ↓reduceIte, reduceCtorEq, Nat.reduceEqDiff, Nat.reduceAdd, Nat.reduceLeDiff, Nat.reduceMul, Int.reduceBEq, Int.reduceBNe, Int.reduceLT, Int.reduceLE, Int.reduceGT, Int.reduceGE, r1.cell, r2.cell, r4.cell, r7.cell, r11.cell]
        refine ⟨p0, by omega, r1, r2, r4, r7, r11, o10, _, t12.congr fun i j hi hj => ?_⟩
        rw [hfree j hj]
        by_cases hia : i = a
        · subst hia
          by_cases hjq : j = q
          · subst hjq; simp [hb']
          · have e2 : (j == q) = false := by simpa using hjq
            simp [e2]
        · have e : (i == a) = false := by simpa using hia
          simp [e]
    · rintro h12 z12 ⟨p0, y12, r1, r2, r4, r7, r11, o10, W12, t12⟩
      simp -dsimp only [go_sem, ↓reduceIte, reduceCtorEq, Nat.reduceEqDiff, Nat.reduceAdd, Nat.reduceLeDiff, Nat.reduceMul, Int.reduceBEq, Int.reduceBNe, Int.reduceLT, Int.reduceLE, Int.reduceGT, Int.reduceGE, r1.cell, r2.cell, r4.cell, r7.cell, r11.cell]
      simp -dsimp (disch := omega) only [wrap64]
      refine ⟨a + 1, by omega, by simp [Le, find], by omega, p0, by omega, r1, r2, r4, _, t12.congr fun i j hi hj => ?_⟩
      rw [List.take_length]
      by_cases hia : i = a
      · subst hia
        cases hM : inN n M i j with
        | false => simp
        | true =>
          have : (rest (fun j => inN n M i j) (max n m) 0).contains j = true := by
            rw [List.contains_iff_mem]; exact mem_rest.2 ⟨by omega, hj, hM⟩
          have e : ¬ i + 1 ≤ i := by omega
          rw [this]; simp [e]
      · have e : (i == a) = false := by simpa using hia
        simp [e]
    · exact fun _ _ _ h => h.elim
  · have : a = max n m := by omega
    subst this
    simp -dsimp only [go_sem, ↓reduceIte, reduceCtorEq, Nat.reduceEqDiff, Nat.reduceAdd, Nat.reduceLeDiff, Nat.reduceMul, Int.reduceBEq, Int.reduceBNe, Int.reduceLT, Int.reduceLE, Int.reduceGT, Int.reduceGE, r1.cell, r2.cell, r4.cell]
    refine ⟨p0, hk, _, _, _, _, rfl, ((t6.mono' (hi' := h6.size) (by omega)).lower (by omega)).congr fun i j hi hj => ?_⟩
    have : ¬ max n m ≤ i := by omega
    simp [keepM, this]
end Go.Proofs.Tst
namespace Go.Proofs.Tst
open Go Go.Vc
theorem rel_Minus {n m : Nat} {M N : Nat → Nat → Bool} {p q : Value} {lo hi lo' hi' : Nat} {h : Heap} (hr : ProgAt h lo hi p n M) (hs : ProgAt h lo' hi' q m N) (ht : TabAt h) :
    Con Tryd.prog 40 #[p, q] h fun v h' => Fr 0 0 h h' ∧ ProgAt h' h.size h'.size v (max n m) (minusM n M m N) := by
  refine con_rel_Minus ?_
  simp -dsimp only [go_sem, ↓reduceIte, reduceCtorEq, Nat.reduceEqDiff, Nat.reduceAdd, Nat.reduceLeDiff, Nat.reduceMul, Int.reduceBEq, Int.reduceBNe, Int.reduceLT, Int.reduceLE, Int.reduceGT, Int.reduceGE]
  refine call_of (rel_keep hr hs ht false) ?_
  rintro v h1 ⟨p1, t1⟩
  simp -dsimp only [go_sem, ↓reduceIte, reduceCtorEq, Nat.reduceEqDiff, Nat.reduceAdd, Nat.reduceLeDiff, Nat.reduceMul, Int.reduceBEq, Int.reduceBNe, Int.reduceLT, Int.reduceLE, Int.reduceGT, Int.reduceGE]
  exact ⟨p1, t1.congr fun i j _ _ => by unfold keepM minusM; cases inN m N i j <;> simp⟩
/-- Relations that are joined. -/
def RelsAt (h : Heap) (L : List (Value × Nat × (Nat → Nat → Bool))) : Prop := ∀ x ∈ L, ∃ lo hi, ProgAt h lo hi x.1 x.2.1 x.2.2
theorem RelsAt.fr {h h' : Heap} {L : List (Value × Nat × (Nat → Nat → Bool))} (r : RelsAt h L) (f : Fr 0 0 h h') : RelsAt h' L := fun x hx => by
  obtain ⟨lo, hi, t⟩ := r x hx; exact ⟨lo, hi, t.fr f (by omega)⟩
end Go.Proofs.Tst
/-
  Reduction, by the program and by the document.
-/
namespace Go.Proofs.Tst
open Go Go.Vc
def redM (n : Nat) (M : Nat → Nat → Bool) : Nat → Nat → Bool := minusM n (plusM n M) n (compM n (plusM n M) n (plusM n M))
theorem order_Reduction {n : Nat} {M : Nat → Nat → Bool} {pv : Value} {lo hi : Nat} {h : Heap} (hr : ProgAt h lo hi pv n M) (ht : TabAt h) :
    Con Tryd.prog 50 #[pv] h fun v h' => Fr 0 0 h h' ∧ if irrB n (plusM n M) = true then ∃ b, v = .tuple #[.pointer (some ⟨b, 0, none⟩), .int .i64 0] ∧ ProgAt h' h.size h'.size (.pointer (some ⟨b, 0, none⟩)) n (redM n M) else v = .tuple #[.pointer none, .int .i64 3] := by
  refine con_order_Reduction ?_
  have p0 : Fr 0 0 h h := .refl _ _ _
  simp -dsimp only [go_sem, ↓reduceIte, reduceCtorEq, Nat.reduceEqDiff, Nat.reduceAdd, Nat.reduceLeDiff, Nat.reduceMul, Int.reduceBEq, Int.reduceBNe, Int.reduceLT, Int.reduceLE, Int.reduceGT, Int.reduceGE]
  refine call_of (rel_Plus hr) ?_
  rintro v h1 ⟨f1, t1⟩
  have f1_z := f1.size
  replace p0 := p0.fresh f1 (by omega)
  simp -dsimp only [go_sem, ↓reduceIte, reduceCtorEq, Nat.reduceEqDiff, Nat.reduceAdd, Nat.reduceLeDiff, Nat.reduceMul, Int.reduceBEq, Int.reduceBNe, Int.reduceLT, Int.reduceLE, Int.reduceGT, Int.reduceGE]
  refine call_of (rel_Irreflexive t1) ?_
  rintro v h2 ⟨rfl, rfl⟩
  cases hI : irrB n (plusM n M) with
  | false =>
    simp -dsimp only [go_sem, ↓reduceIte, reduceCtorEq, Nat.reduceEqDiff, Nat.reduceAdd, Nat.reduceLeDiff, Nat.reduceMul, Int.reduceBEq, Int.reduceBNe, Int.reduceLT, Int.reduceLE, Int.reduceGT, Int.reduceGE]
    exact p0
  | true =>
    simp -dsimp only [go_sem, ↓reduceIte, reduceCtorEq, Nat.reduceEqDiff, Nat.reduceAdd, Nat.reduceLeDiff, Nat.reduceMul, Int.reduceBEq, Int.reduceBNe, Int.reduceLT, Int.reduceLE, Int.reduceGT, Int.reduceGE]
    refine call_of (rel_Comp t1 t1 (ht.fr p0 (by omega))) ?_
    rintro v h3 ⟨f3, t3⟩
    have f3_z := f3.size
    replace p0 := p0.fresh f3 (by omega)
    replace t1 := t1.fr f3 (by omega)
    rw [Nat.max_self] at t3
    simp -dsimp only [go_sem, ↓reduceIte, reduceCtorEq, Nat.reduceEqDiff, Nat.reduceAdd, Nat.reduceLeDiff, Nat.reduceMul, Int.reduceBEq, Int.reduceBNe, Int.reduceLT, Int.reduceLE, Int.reduceGT, Int.reduceGE]
    refine call_of (rel_Minus t1 t3 (ht.fr p0 (by omega))) ?_
    rintro v h4 ⟨f4, t4⟩
    have f4_z := f4.size
    replace p0 := p0.fresh f4 (by omega)
    replace t1 := t1.fr f4 (by omega)
    replace t3 := t3.fr f4 (by omega)
    rw [Nat.max_self] at t4
    obtain ⟨-, b4, rb, R, W, rfl, -⟩ := id t4
    simp -dsimp only [go_sem, ↓reduceIte, reduceCtorEq, Nat.reduceEqDiff, Nat.reduceAdd, Nat.reduceLeDiff, Nat.reduceMul, Int.reduceBEq, Int.reduceBNe, Int.reduceLT, Int.reduceLE, Int.reduceGT, Int.reduceGE]
    refine ⟨p0, ?_⟩
    exact ⟨b4, rfl, t4.mono (by omega) (by omega)⟩
end Go.Proofs.Tst
namespace Go.Proofs.Tst
open Go Go.Vc
/-- The order that is made unit by unit. -/
def glueGo (n : Nat) (F : Nat → Nat) (S : Nat → Int) (N : Nat → Nat → Bool) : Nat → List Nat → Option (List Nat)
  | 0, l => some l
  | k + 1, l => if n ≤ l.length then some l else match lf (fun p => F p == p && freeB n N l.contains p) n 0 with
    | none => none
    | some p => glueGo n F S N k (if S p ≥ 0 then l ++ [p] ++ [(S p).toNat] else l ++ [p])
/-- A list, or a cycle. -/
def orCyc (o : Option (List Nat)) : Except Int (List Nat) := match o with | none => .error 3 | some l => .ok l
/-- What Glue tells: a list, or an error's number. -/
def glueS (n : Nat) (M : Nat → Nat → Bool) (l : List (Int × Int)) : Except Int (List Nat) :=
  match glueFS n l with
  | none => .error 1
  | some (F, S) => orCyc (glueGo n F S (glueM n M F S) n [])
/-- What a function hands back that tells a list, or an error's number. -/
def ResL (h : Heap) (lo : Nat) (v : Value) (o : Except Int (List Nat)) : Prop :=
  match o with
  | .ok l => ∃ s, v = .tuple #[s, .int .i64 0] ∧ Holder 1 h s l.length (natsV l) lo
  | .error e => v = .tuple #[.slice none 0 0, .int .i64 e]
theorem glueGo_end {n : Nat} {F : Nat → Nat} {S : Nat → Int} {N : Nat → Nat → Bool} {k : Nat} {l : List Nat} (h : n ≤ l.length) : glueGo n F S N k l = some l := by
  cases k with
  | zero => rfl
  | succ k => simp [glueGo, h]

end Go.Proofs.Tst
namespace Go.Proofs.Tst
open Go Go.Vc
/-- How many points that are not done must come ahead of p. -/
def cnt (n : Nat) (M : Nat → Nat → Bool) (D : Nat → Bool) (p : Nat) : Nat := (List.range n).countP fun a => M a p && !D a
theorem cnt_zero {n : Nat} {M : Nat → Nat → Bool} {D : Nat → Bool} {p : Nat} : freeB n M D p = (!D p && cnt n M D p == 0) := by
  unfold freeB cnt
  congr 1
  rw [Bool.eq_iff_iff]
  simp only [List.all_eq_true, List.mem_range, beq_iff_eq, List.countP_eq_zero]
  refine forall_congr' fun a => forall_congr' fun _ => ?_
  cases M a p <;> cases D a <;> simp
theorem cnt_le (n : Nat) (M : Nat → Nat → Bool) (D : Nat → Bool) (p : Nat) : cnt n M D p ≤ n := by
  unfold cnt; refine Nat.le_trans List.countP_le_length (by simp)
/-- Counts in cells. -/
def cntV (n : Nat) (c : Nat → Nat) : List Value := (List.range n).map fun (p : Nat) => Value.int .i64 (c p : Int)
@[simp] theorem length_cntV (n : Nat) (c : Nat → Nat) : (cntV n c).length = n := by simp [cntV]
theorem cntV_get {n : Nat} {c : Nat → Nat} {p : Nat} (hp : p < n) : (cntV n c)[p]? = some (.int .i64 (c p : Int)) := by simp [cntV, hp]
theorem cntV_congr {n : Nat} {c d : Nat → Nat} (h : ∀ p, p < n → c p = d p) : cntV n c = cntV n d := by
  unfold cntV; apply List.map_congr_left; intro i hi; rw [h i (List.mem_range.1 hi)]
theorem cntV_set {n : Nat} {c : Nat → Nat} {p x : Nat} : (cntV n c).set p (.int .i64 (x : Int)) = cntV n fun q => if q = p then x else c q := by
  apply List.ext_getElem?; intro k
  by_cases hk : k < n
  · rw [cntV_get hk, List.getElem?_set]
    by_cases hj : p = k
    · subst hj; simp [hk]
    · rw [if_neg hj, cntV_get hk, if_neg (fun h => hj h.symm)]
  · rw [List.getElem?_eq_none (by simp; omega), List.getElem?_eq_none (by simp; omega)]

/-- The blocks of a chooser. -/
structure ChB where
  (bn bw bb bp ww bk pw : Nat)
  B : Nat → Value
/-- What a chooser keeps, its points D placed. -/
structure Chs (h : Heap) (lo hi : Nat) (c : ChB) (n : Nat) (M : Nat → Nat → Bool) (D : Nat → Bool) : Prop where
  rn : Rw h c.bn [.int .i64 n]
  rw_ : Rw h c.bw [.slice (some ⟨c.ww, 0, none⟩) n n]
  rb : Rw h c.bb [.slice (some ⟨c.bk, 0, none⟩) n n]
  rp : Rw h c.bp [.slice (some ⟨c.pw, 0, none⟩) n n]
  waits : Rw h c.ww (cntV n (cnt n M D))
  placed : Rw h c.pw (brow n D)
  behind : Rw h c.bk ((List.range n).map c.B)
  beh : ∀ p, p < n → Holder 1 h (c.B p) (rest (M p) n 0).length (natsV (rest (M p) n 0)) lo ∧ bl (c.B p) ≠ c.ww ∧ bl (c.B p) ≠ c.pw ∧ bh (c.B p) ≤ hi
  at_ : lo ≤ c.bn ∧ c.bn < hi ∧ lo ≤ c.bw ∧ c.bw < hi ∧ lo ≤ c.bb ∧ c.bb < hi ∧ lo ≤ c.bp ∧ c.bp < hi ∧ lo ≤ c.ww ∧ c.ww < hi ∧ lo ≤ c.pw ∧ c.pw < hi ∧ lo ≤ c.bk ∧ c.bk < hi
  ne : c.ww ≠ c.pw ∧ c.ww ≠ c.bn ∧ c.ww ≠ c.bw ∧ c.ww ≠ c.bb ∧ c.ww ≠ c.bp ∧ c.ww ≠ c.bk ∧ c.pw ≠ c.bn ∧ c.pw ≠ c.bw ∧ c.pw ≠ c.bb ∧ c.pw ≠ c.bp ∧ c.pw ≠ c.bk
  small : n ≤ 256
theorem Chs.fr {h h' : Heap} {lo hi l r n : Nat} {c : ChB} {M : Nat → Nat → Bool} {D : Nat → Bool} (t : Chs h lo hi c n M D) (f : Fr l r h h') (hd : hi ≤ l ∨ r ≤ lo ∨ r ≤ l) : Chs h' lo hi c n M D := by
  have a := t.at_
  refine ⟨t.rn.fr f (by omega), t.rw_.fr f (by omega), t.rb.fr f (by omega), t.rp.fr f (by omega), t.waits.fr f (by omega), t.placed.fr f (by omega), t.behind.fr f (by omega), fun p hp => ?_, a, t.ne, t.small⟩
  obtain ⟨h1, h2, h3, h4⟩ := t.beh p hp
  have := h1.at_
  exact ⟨h1.fr f (by omega), h2, h3, h4⟩
def ChB.next (c : ChB) : Value := .func (.func 103) #[] #[.pointer (some ⟨c.bn, 0, none⟩), .pointer (some ⟨c.bp, 0, none⟩), .pointer (some ⟨c.bw, 0, none⟩)]
def ChB.place (c : ChB) : Value := .func (.func 104) #[] #[.pointer (some ⟨c.bp, 0, none⟩), .pointer (some ⟨c.bb, 0, none⟩), .pointer (some ⟨c.bw, 0, none⟩)]

theorem chooser_next {h : Heap} {lo hi n : Nat} {c : ChB} {M : Nat → Nat → Bool} {D : Nat → Bool} (t : Chs h lo hi c n M D) {q : Nat} (hq : q ≤ n) :
    Con Tryd.prog 103 #[.int .i64 q, .pointer (some ⟨c.bn, 0, none⟩), .pointer (some ⟨c.bp, 0, none⟩), .pointer (some ⟨c.bw, 0, none⟩)] h fun v h' => h' = h ∧ v = .int .i64 (nx (lf (freeB n M D) n q)) := by
  refine con_order_chooser_1 ?_
  have hs := t.small
  simp -dsimp only [go_sem, ↓reduceIte, reduceCtorEq, Nat.reduceEqDiff, Nat.reduceAdd, Nat.reduceLeDiff, Nat.reduceMul, Int.reduceBEq, Int.reduceBNe, Int.reduceLT, Int.reduceLE, Int.reduceGT, Int.reduceGE]
  refine loop_intro (fun i : Nat => [(1, .pointer (some ⟨c.bn, 0, none⟩)), (2, .pointer (some ⟨c.bp, 0, none⟩)), (3, .pointer (some ⟨c.bw, 0, none⟩)), (6, .int .i64 i)])
    (fun i h' => h' = h ∧ i ≤ n ∧ lf (freeB n M D) n q = lf (freeB n M D) n i) (fun i => n - i) q ?_ ?_ ?_
  · simp [Le, find]
  · exact ⟨rfl, hq, rfl⟩
  rintro i h1 ⟨rfl, hi', hlf⟩
  simp -dsimp only [go_sem, ↓reduceIte, reduceCtorEq, Nat.reduceEqDiff, Nat.reduceAdd, Nat.reduceLeDiff, Nat.reduceMul, Int.reduceBEq, Int.reduceBNe, Int.reduceLT, Int.reduceLE, Int.reduceGT, Int.reduceGE, t.rn.cell]
  refine ⟨fun hlt => ?_, fun hge => ?_⟩
  · have hlt : i < n := by omega
    simp -dsimp only [go_sem, ↓reduceIte, reduceCtorEq, Nat.reduceEqDiff, Nat.reduceAdd, Nat.reduceLeDiff, Nat.reduceMul, Int.reduceBEq, Int.reduceBNe, Int.reduceLT, Int.reduceLE, Int.reduceGT, Int.reduceGE, t.rp.cell]
    refine Chk_intro (by omega) ?_
    simp -dsimp only [go_sem, ↓reduceIte, reduceCtorEq, Nat.reduceEqDiff, Nat.reduceAdd, Nat.reduceLeDiff, Nat.reduceMul, Int.reduceBEq, Int.reduceBNe, Int.reduceLT, Int.reduceLE, Int.reduceGT, Int.reduceGE, t.placed.cell, brow_get hlt]
    cases hD : D i with
    | true =>
      simp -dsimp only [go_sem, ↓reduceIte, reduceCtorEq, Nat.reduceEqDiff, Nat.reduceAdd, Nat.reduceLeDiff, Nat.reduceMul, Int.reduceBEq, Int.reduceBNe, Int.reduceLT, Int.reduceLE, Int.reduceGT, Int.reduceGE]
      simp -dsimp (disch := omega) only [wrap64]
      exact ⟨i + 1, by omega, by simp [Le, find], by omega, by rw [hlf, lf_step _ hlt]; simp [freeB, hD]⟩
    | false =>
      simp -dsimp only [go_sem, ↓reduceIte, reduceCtorEq, Nat.reduceEqDiff, Nat.reduceAdd, Nat.reduceLeDiff, Nat.reduceMul, Int.reduceBEq, Int.reduceBNe, Int.reduceLT, Int.reduceLE, Int.reduceGT, Int.reduceGE, t.rw_.cell]
      refine Chk_intro (by omega) ?_
      simp -dsimp only [go_sem, ↓reduceIte, reduceCtorEq, Nat.reduceEqDiff, Nat.reduceAdd, Nat.reduceLeDiff, Nat.reduceMul, Int.reduceBEq, Int.reduceBNe, Int.reduceLT, Int.reduceLE, Int.reduceGT, Int.reduceGE, t.waits.cell, cntV_get hlt]
      refine ⟨fun h0 => ?_, fun h0 => ?_⟩
      · simp -dsimp only [go_sem, ↓reduceIte, reduceCtorEq, Nat.reduceEqDiff, Nat.reduceAdd, Nat.reduceLeDiff, Nat.reduceMul, Int.reduceBEq, Int.reduceBNe, Int.reduceLT, Int.reduceLE, Int.reduceGT, Int.reduceGE]
        have : freeB n M D i = true := by rw [cnt_zero, hD]; simpa using h0
        rw [hlf, lf_step _ hlt, if_pos this]; rfl
      · simp -dsimp only [go_sem, ↓reduceIte, reduceCtorEq, Nat.reduceEqDiff, Nat.reduceAdd, Nat.reduceLeDiff, Nat.reduceMul, Int.reduceBEq, Int.reduceBNe, Int.reduceLT, Int.reduceLE, Int.reduceGT, Int.reduceGE]
        simp -dsimp (disch := omega) only [wrap64]
        have : freeB n M D i = false := by rw [cnt_zero, hD]; simpa using h0
        exact ⟨i + 1, by omega, by simp [Le, find], by omega, by rw [hlf, lf_step _ hlt, if_neg (by rw [this]; simp)]⟩
  · simp -dsimp only [go_sem, ↓reduceIte, reduceCtorEq, Nat.reduceEqDiff, Nat.reduceAdd, Nat.reduceLeDiff, Nat.reduceMul, Int.reduceBEq, Int.reduceBNe, Int.reduceLT, Int.reduceLE, Int.reduceGT, Int.reduceGE]
    have : i = n := by omega
    rw [hlf, lf_end _ (by omega)]; rfl
end Go.Proofs.Tst
namespace Go.Proofs.Tst
open Go Go.Vc
theorem countP_upd {f g : Nat → Bool} {p : Nat} : ∀ (n : Nat), (∀ a, a ≠ p → f a = g a) → (List.range n).countP f + (if p < n then (g p).toNat else 0) = (List.range n).countP g + (if p < n then (f p).toNat else 0)
  | 0, _ => by simp
  | n + 1, h => by
    have ih := countP_upd n h
    rw [List.range_succ, List.countP_append, List.countP_append]
    by_cases hp : p = n
    · subst hp
      simp only [Nat.lt_irrefl, if_false, Nat.lt_succ_self, if_true] at ih ⊢
      rw [List.countP_singleton, List.countP_singleton]
      cases f p <;> cases g p <;> simp only [Bool.toNat_true, Bool.toNat_false, if_true, if_false, Bool.false_eq_true] <;> omega
    · have : f n = g n := h n (fun h => hp h.symm)
      have e : (p < n + 1) = (p < n) := by simp; omega
      simp only [e, List.countP_cons, List.countP_nil, this]
      omega
theorem cnt_upd {n : Nat} {M : Nat → Nat → Bool} {D : Nat → Bool} {p q : Nat} {b : Bool} (hp : p < n) (hD : D p = !b) :
    cnt n M (fun k => if k = p then b else D k) q + (M p q && b).toNat = cnt n M D q + (M p q && !b).toNat := by
  unfold cnt
  have := countP_upd (f := fun a => M a q && !(if a = p then b else D a)) (g := fun a => M a q && !D a) (p := p) n (fun a ha => by simp [ha])
  simp only [hp, if_true, hD, Bool.not_not] at this
  exact this

theorem chooser_place {h : Heap} {lo hi n : Nat} {c : ChB} {M : Nat → Nat → Bool} {D : Nat → Bool} (t : Chs h lo hi c n M D) {p : Nat} (hp : p < n) (b : Bool) (hD : D p = !b) :
    Con Tryd.prog 104 #[.int .i64 p, .bool b, .pointer (some ⟨c.bp, 0, none⟩), .pointer (some ⟨c.bb, 0, none⟩), .pointer (some ⟨c.bw, 0, none⟩)] h
      fun v h' => Fr lo hi h h' ∧ h'.size = h.size ∧ Chs h' lo hi c n M (fun k => if k = p then b else D k) := by
  refine con_order_chooser_2 ?_
  have hs := t.small
  have hne := t.ne
  have hat := t.at_
  simp -dsimp only [go_sem, ↓reduceIte, reduceCtorEq, Nat.reduceEqDiff, Nat.reduceAdd, Nat.reduceLeDiff, Nat.reduceMul, Int.reduceBEq, Int.reduceBNe, Int.reduceLT, Int.reduceLE, Int.reduceGT, Int.reduceGE, t.rp.cell]
  refine Chk_intro (by omega) ?_
  simp -dsimp only [go_sem, ↓reduceIte, reduceCtorEq, Nat.reduceEqDiff, Nat.reduceAdd, Nat.reduceLeDiff, Nat.reduceMul, Int.reduceBEq, Int.reduceBNe, Int.reduceLT, Int.reduceLE, Int.reduceGT, Int.reduceGE]
  refine Chk_intro (t.placed.wr (by simp; omega)) fun h1 s1 => ?_
  have z1 := s1.size
  have rp1 := s1.row t.placed
  rw [cl_bool, putAt_one, brow_set] at rp1
  have rn1 := s1.rw t.rn (by omega); have rw1 := s1.rw t.rw_ (by omega); have rb1 := s1.rw t.rb (by omega); have rpp1 := s1.rw t.rp (by omega); have wt1 := s1.rw t.waits (by omega); have bk1 := s1.rw t.behind (by omega)
  have beh1 : ∀ p, p < n → Holder 1 h1 (c.B p) (rest (M p) n 0).length (natsV (rest (M p) n 0)) lo := fun p hp => (t.beh p hp).1.fr s1.fr (by
    have := (t.beh p hp).1.at_; have := (t.beh p hp).2; omega)
  simp -dsimp only [go_sem, ↓reduceIte, reduceCtorEq, Nat.reduceEqDiff, Nat.reduceAdd, Nat.reduceLeDiff, Nat.reduceMul, Int.reduceBEq, Int.reduceBNe, Int.reduceLT, Int.reduceLE, Int.reduceGT, Int.reduceGE, rb1.cell]
  refine Chk_intro (by omega) ?_
  have hBp : ((List.range n).map c.B)[p]? = some (c.B p) := by simp [hp]
  have hB1 := (beh1 p hp)
  obtain ⟨ba, bc, hBv⟩ := hB1.is
  rw [hBv] at hBp hB1
  have hB2 := (t.beh p hp).2
  rw [hBv] at hB2
  simp -dsimp only [go_sem, ↓reduceIte, reduceCtorEq, Nat.reduceEqDiff, Nat.reduceAdd, Nat.reduceLeDiff, Nat.reduceMul, Int.reduceBEq, Int.reduceBNe, Int.reduceLT, Int.reduceLE, Int.reduceGT, Int.reduceGE, bk1.cell, hBp]
  have hLn := length_rest_le (M p) n 0
  refine loop_intro (fun j : Nat => [(1, .bool b), (4, .pointer (some ⟨c.bw, 0, none⟩)), (16, .slice ba (rest (M p) n 0).length bc), (17, .int .i64 (rest (M p) n 0).length), (18, .int .i64 j)])
    (fun j h' => j ≤ (rest (M p) n 0).length ∧ Fr c.ww (c.ww + 1) h1 h' ∧ h'.size = h1.size ∧ Rw h' c.ww (cntV n fun q => if q ∈ (rest (M p) n 0).take j then cnt n M (fun k => if k = p then b else D k) q else cnt n M D q)) (fun j => (rest (M p) n 0).length - j) 0 ?_ ?_ ?_
  · simp [Le, find]
  · exact ⟨by omega, .refl _ _ _, rfl, by simpa using wt1⟩
  rintro j h2 ⟨hj, f2, z2, wt2⟩
  have rw2 := rw1.fr f2 (by omega)
  simp -dsimp only [go_sem, ↓reduceIte, reduceCtorEq, Nat.reduceEqDiff, Nat.reduceAdd, Nat.reduceLeDiff, Nat.reduceMul, Int.reduceBEq, Int.reduceBNe, Int.reduceLT, Int.reduceLE, Int.reduceGT, Int.reduceGE]
  refine ⟨fun hlt => ?_, fun hge => ?_⟩
  · have hlt : j < (rest (M p) n 0).length := by omega
    have hq : (rest (M p) n 0)[j]? = some (rest (M p) n 0)[j] := by simp
    have htk : (rest (M p) n 0).take (j + 1) = (rest (M p) n 0).take j ++ [(rest (M p) n 0)[j]] := by rw [List.take_succ_eq_append_getElem hlt]
    have hmem : (rest (M p) n 0)[j] ∈ rest (M p) n 0 := List.getElem_mem _
    have hnot : (rest (M p) n 0)[j] ∉ (rest (M p) n 0).take j := by
      have hnd : (rest (M p) n 0).Nodup := by unfold rest; exact List.Nodup.sublist List.filter_sublist (List.nodup_range')
      have : ((rest (M p) n 0).take (j + 1)).Nodup := hnd.sublist (List.take_sublist _ _)
      rw [htk, List.nodup_append] at this
      exact fun hm => this.2.2 _ hm _ (by simp) rfl
    generalize (rest (M p) n 0)[j] = q at hq htk hmem hnot
    obtain ⟨_, hqn, hMq⟩ := mem_rest.1 hmem
    have hcu := cnt_upd (q := q) (M := M) hp hD
    rw [hMq] at hcu
    have hc1 := cnt_le n M D q
    have hc2 := cnt_le n M (fun k => if k = p then b else D k) q
    have hrd : Rd 1 h2 (.slice ba (rest (M p) n 0).length bc) (rest (M p) n 0).length (natsV (rest (M p) n 0)) := (hB1.fr f2 (by have := hB1.at_; omega)).rd
    have fin : ∀ h3, Sto h2 h3 c.ww q [.int .i64 ((cnt n M (fun k => if k = p then b else D k) q : Nat) : Int)] → Fr c.ww (c.ww + 1) h1 h3 ∧ h3.size = h1.size ∧ Rw h3 c.ww (cntV n fun x => if x ∈ (rest (M p) n 0).take (j + 1) then cnt n M (fun k => if k = p then b else D k) x else cnt n M D x) := fun h3 s3 => by
      refine ⟨f2.trans s3.fr, by have := s3.size; omega, ?_⟩
      have r := s3.row wt2
      rw [putAt_one, cntV_set] at r
      rw [cntV_congr (fun x hx => ?_)]
      · exact r
      · rw [htk]
        by_cases hxq : x = q
        · subst hxq; simp
        · simp [hxq]
    simp -dsimp only [go_sem, ↓reduceIte, reduceCtorEq, Nat.reduceEqDiff, Nat.reduceAdd, Nat.reduceLeDiff, Nat.reduceMul, Int.reduceBEq, Int.reduceBNe, Int.reduceLT, Int.reduceLE, Int.reduceGT, Int.reduceGE]
    refine Chk_intro (by omega) (hrd.idx (by omega) fun b5 o5 c5 => ?_)
    simp -dsimp only [go_sem, ↓reduceIte, reduceCtorEq, Nat.reduceEqDiff, Nat.reduceAdd, Nat.reduceLeDiff, Nat.reduceMul, Int.reduceBEq, Int.reduceBNe, Int.reduceLT, Int.reduceLE, Int.reduceGT, Int.reduceGE, c5 j _ (natsV_get hq)]
    cases b with
    | true =>
      refine ⟨fun _ => ?_, fun h => absurd rfl h⟩
      simp -dsimp only [go_sem, ↓reduceIte, reduceCtorEq, Nat.reduceEqDiff, Nat.reduceAdd, Nat.reduceLeDiff, Nat.reduceMul, Int.reduceBEq, Int.reduceBNe, Int.reduceLT, Int.reduceLE, Int.reduceGT, Int.reduceGE, rw2.cell]
      refine Chk_intro (by omega) ?_
      simp -dsimp only [go_sem, ↓reduceIte, reduceCtorEq, Nat.reduceEqDiff, Nat.reduceAdd, Nat.reduceLeDiff, Nat.reduceMul, Int.reduceBEq, Int.reduceBNe, Int.reduceLT, Int.reduceLE, Int.reduceGT, Int.reduceGE, wt2.cell, cntV_get hqn, hnot]
      refine Chk_intro (by omega) ?_
      simp -dsimp only [go_sem, ↓reduceIte, reduceCtorEq, Nat.reduceEqDiff, Nat.reduceAdd, Nat.reduceLeDiff, Nat.reduceMul, Int.reduceBEq, Int.reduceBNe, Int.reduceLT, Int.reduceLE, Int.reduceGT, Int.reduceGE]
      refine Chk_intro (wt2.wr (by simp; omega)) fun h3 s3 => ?_
      rw [cl_int, wrap64 (by omega) (by omega), show ((cnt n M D q : Nat) : Int) - 1 = ((cnt n M (fun k => if k = p then true else D k) q : Nat) : Int) from by simp only [Bool.true_and, Bool.not_true, Bool.not_false, Bool.toNat_true, Bool.toNat_false] at hcu; omega] at s3
      simp -dsimp only [go_sem, ↓reduceIte, reduceCtorEq, Nat.reduceEqDiff, Nat.reduceAdd, Nat.reduceLeDiff, Nat.reduceMul, Int.reduceBEq, Int.reduceBNe, Int.reduceLT, Int.reduceLE, Int.reduceGT, Int.reduceGE]
      simp -dsimp (disch := omega) only [wrap64]
      exact ⟨j + 1, by omega, by simp [Le, find], by omega, fin h3 s3⟩
    | false =>
      refine ⟨fun h => absurd h (by decide), fun _ => ?_⟩
      simp -dsimp only [go_sem, ↓reduceIte, reduceCtorEq, Nat.reduceEqDiff, Nat.reduceAdd, Nat.reduceLeDiff, Nat.reduceMul, Int.reduceBEq, Int.reduceBNe, Int.reduceLT, Int.reduceLE, Int.reduceGT, Int.reduceGE, rw2.cell]
      refine Chk_intro (by omega) ?_
      simp -dsimp only [go_sem, ↓reduceIte, reduceCtorEq, Nat.reduceEqDiff, Nat.reduceAdd, Nat.reduceLeDiff, Nat.reduceMul, Int.reduceBEq, Int.reduceBNe, Int.reduceLT, Int.reduceLE, Int.reduceGT, Int.reduceGE, wt2.cell, cntV_get hqn, hnot]
      refine Chk_intro (by omega) ?_
      simp -dsimp only [go_sem, ↓reduceIte, reduceCtorEq, Nat.reduceEqDiff, Nat.reduceAdd, Nat.reduceLeDiff, Nat.reduceMul, Int.reduceBEq, Int.reduceBNe, Int.reduceLT, Int.reduceLE, Int.reduceGT, Int.reduceGE]
      refine Chk_intro (wt2.wr (by simp; omega)) fun h3 s3 => ?_
      rw [cl_int, wrap64 (by omega) (by omega), show ((cnt n M D q : Nat) : Int) + 1 = ((cnt n M (fun k => if k = p then false else D k) q : Nat) : Int) from by simp only [Bool.true_and, Bool.not_true, Bool.not_false, Bool.toNat_true, Bool.toNat_false] at hcu; omega] at s3
      simp -dsimp only [go_sem, ↓reduceIte, reduceCtorEq, Nat.reduceEqDiff, Nat.reduceAdd, Nat.reduceLeDiff, Nat.reduceMul, Int.reduceBEq, Int.reduceBNe, Int.reduceLT, Int.reduceLE, Int.reduceGT, Int.reduceGE]
      simp -dsimp (disch := omega) only [wrap64]
      exact ⟨j + 1, by omega, by simp [Le, find], by omega, fin h3 s3⟩
  · have : j = (rest (M p) n 0).length := by omega
    subst this
    simp -dsimp only [go_sem, ↓reduceIte, reduceCtorEq, Nat.reduceEqDiff, Nat.reduceAdd, Nat.reduceLeDiff, Nat.reduceMul, Int.reduceBEq, Int.reduceBNe, Int.reduceLT, Int.reduceLE, Int.reduceGT, Int.reduceGE]
    refine ⟨(s1.fr.mono (by omega)).trans (f2.mono (by omega)), by omega, rn1.fr f2 (by omega), rw2, rb1.fr f2 (by omega), rpp1.fr f2 (by omega), ?_, rp1.fr f2 (by omega), bk1.fr f2 (by omega), fun x hx => ?_, hat, hne, hs⟩
    · rw [cntV_congr (fun x hx => ?_)]
      · exact wt2
      · rw [List.take_length]
        have hcu := cnt_upd (q := x) (M := M) hp hD
        by_cases hx' : M p x = true
        · rw [if_pos (mem_rest.2 ⟨by omega, hx, hx'⟩)]
        · rw [if_neg (fun h => hx' (mem_rest.1 h).2.2)]
          have : M p x = false := by simpa using hx'
          rw [this] at hcu; simpa using hcu
    · obtain ⟨g1, g2, g3, g4⟩ := t.beh x hx
      exact ⟨(beh1 x hx).fr f2 (by have := g1.at_; omega), g2, g3, g4⟩
end Go.Proofs.Tst
namespace Go.Proofs.Tst
open Go Go.Vc
theorem order_chooser {n : Nat} {M : Nat → Nat → Bool} {p : Value} {lo hi : Nat} {h : Heap} (hr : ProgAt h lo hi p n M) (ht : TabAt h) :
    Con Tryd.prog 73 #[p] h fun v h' => Fr 0 0 h h' ∧ ∃ c : ChB, v = .tuple #[c.next, c.place] ∧ Chs h' h.size h'.size c n M fun _ => false := by
  refine con_order_chooser ?_
  have hn := hr.1
  simp -dsimp only [go_sem, ↓reduceIte, reduceCtorEq, Nat.reduceEqDiff, Nat.reduceAdd, Nat.reduceLeDiff, Nat.reduceMul, Int.reduceBEq, Int.reduceBNe, Int.reduceLT, Int.reduceLE, Int.reduceGT, Int.reduceGE]
  refine call_of (rel_Len hr) ?_
  rintro v h0 ⟨rfl, rfl⟩
  simp -dsimp only [go_sem, ↓reduceIte, reduceCtorEq, Nat.reduceEqDiff, Nat.reduceAdd, Nat.reduceLeDiff, Nat.reduceMul, Int.reduceBEq, Int.reduceBNe, Int.reduceLT, Int.reduceLE, Int.reduceGT, Int.reduceGE]
  intro bn h1 n1
  simp -dsimp only [go_sem, ↓reduceIte, reduceCtorEq, Nat.reduceEqDiff, Nat.reduceAdd, Nat.reduceLeDiff, Nat.reduceMul, Int.reduceBEq, Int.reduceBNe, Int.reduceLT, Int.reduceLE, Int.reduceGT, Int.reduceGE]
  refine ⟨n1.row.wr (by simp), fun h2 s2 => ?_⟩
  have rn2 := s2.row n1.row
  simp -dsimp only [go_sem, ↓reduceIte, reduceCtorEq, Nat.reduceEqDiff, Nat.reduceAdd, Nat.reduceLeDiff, Nat.reduceMul, Int.reduceBEq, Int.reduceBNe, Int.reduceLT, Int.reduceLE, Int.reduceGT, Int.reduceGE] at rn2
  have a1 := n1.at_; have z1 := n1.size; have z2 := s2.size
  have p2 : Fr 0 0 h0 h2 := (n1.fr (lo := 0) (hi := 0)).fresh s2.fr (by omega)
  simp -dsimp only [go_sem, ↓reduceIte, reduceCtorEq, Nat.reduceEqDiff, Nat.reduceAdd, Nat.reduceLeDiff, Nat.reduceMul, Int.reduceBEq, Int.reduceBNe, Int.reduceLT, Int.reduceLE, Int.reduceGT, Int.reduceGE, rn2.cell]
  refine Chk_intro (by omega) ?_
  intro ww h3 n3
  simp -dsimp only [go_sem, ↓reduceIte, reduceCtorEq, Nat.reduceEqDiff, Nat.reduceAdd, Nat.reduceLeDiff, Nat.reduceMul, Int.reduceBEq, Int.reduceBNe, Int.reduceLT, Int.reduceLE, Int.reduceGT, Int.reduceGE]
  intro bw h4 n4
  simp -dsimp only [go_sem, ↓reduceIte, reduceCtorEq, Nat.reduceEqDiff, Nat.reduceAdd, Nat.reduceLeDiff, Nat.reduceMul, Int.reduceBEq, Int.reduceBNe, Int.reduceLT, Int.reduceLE, Int.reduceGT, Int.reduceGE]
  refine ⟨n4.row.wr (by simp), fun h5 s5 => ?_⟩
  have a3 := n3.at_; have z3 := n3.size; have a4 := n4.at_; have z4 := n4.size; have z5 := s5.size
  have rw5 := s5.row n4.row
  have rw_w5 := s5.rw (n4.rw n3.row) (by omega)
  have rn5 := s5.rw (n4.rw (n3.rw rn2)) (by omega)
  have p5 : Fr 0 0 h0 h5 := ((p2.trans n3.fr).trans n4.fr).fresh s5.fr (by omega)
  simp -dsimp only [go_sem, ↓reduceIte, reduceCtorEq, Nat.reduceEqDiff, Nat.reduceAdd, Nat.reduceLeDiff, Nat.reduceMul, Int.reduceBEq, Int.reduceBNe, Int.reduceLT, Int.reduceLE, Int.reduceGT, Int.reduceGE] at rw5
  simp -dsimp only [go_sem, ↓reduceIte, reduceCtorEq, Nat.reduceEqDiff, Nat.reduceAdd, Nat.reduceLeDiff, Nat.reduceMul, Int.reduceBEq, Int.reduceBNe, Int.reduceLT, Int.reduceLE, Int.reduceGT, Int.reduceGE, rn5.cell]
  refine Chk_intro (by omega) ?_
  intro bk h6 n6
  simp -dsimp only [go_sem, ↓reduceIte, reduceCtorEq, Nat.reduceEqDiff, Nat.reduceAdd, Nat.reduceLeDiff, Nat.reduceMul, Int.reduceBEq, Int.reduceBNe, Int.reduceLT, Int.reduceLE, Int.reduceGT, Int.reduceGE]
  intro bb h7 n7
  simp -dsimp only [go_sem, ↓reduceIte, reduceCtorEq, Nat.reduceEqDiff, Nat.reduceAdd, Nat.reduceLeDiff, Nat.reduceMul, Int.reduceBEq, Int.reduceBNe, Int.reduceLT, Int.reduceLE, Int.reduceGT, Int.reduceGE]
  refine ⟨n7.row.wr (by simp), fun h8 s8 => ?_⟩
  have a6 := n6.at_; have z6 := n6.size; have a7 := n7.at_; have z7 := n7.size; have z8 := s8.size
  have rb8 := s8.row n7.row
  have rk8 := s8.rw (n7.rw n6.row) (by omega)
  have rw8 := s8.rw (n7.rw (n6.rw rw5)) (by omega)
  have rww8 := s8.rw (n7.rw (n6.rw rw_w5)) (by omega)
  have rn8 := s8.rw (n7.rw (n6.rw rn5)) (by omega)
  have p8 : Fr 0 0 h0 h8 := ((p5.trans n6.fr).trans n7.fr).fresh s8.fr (by omega)
  simp -dsimp only [go_sem, ↓reduceIte, reduceCtorEq, Nat.reduceEqDiff, Nat.reduceAdd, Nat.reduceLeDiff, Nat.reduceMul, Int.reduceBEq, Int.reduceBNe, Int.reduceLT, Int.reduceLE, Int.reduceGT, Int.reduceGE] at rb8
  rw [zeros_one, Int.toNat_natCast] at rk8 rww8
  simp -dsimp only [go_sem, ↓reduceIte, reduceCtorEq, Nat.reduceEqDiff, Nat.reduceAdd, Nat.reduceLeDiff, Nat.reduceMul, Int.reduceBEq, Int.reduceBNe, Int.reduceLT, Int.reduceLE, Int.reduceGT, Int.reduceGE]
  refine call_of (rel_Pairs (hr.fr p8 (by omega)) (ht.fr p8 (by omega))) ?_
  rintro v h9 ⟨p9, o9⟩
  obtain ⟨pa, pc, rfl⟩ := o9.is
  have y9 := p9.size
  have w9 := o9.at_
  simp -dsimp only [go_sem, ↓reduceIte, reduceCtorEq, Nat.reduceEqDiff, Nat.reduceAdd, Nat.reduceLeDiff, Nat.reduceMul, Int.reduceBEq, Int.reduceBNe, Int.reduceLT, Int.reduceLE, Int.reduceGT, Int.reduceGE]
  -- the pairs, one by one
  refine loop_intro (fun j : Nat => [(4, .pointer (some ⟨bn, 0, none⟩)), (5, .pointer (some ⟨bw, 0, none⟩)), (6, .pointer (some ⟨bb, 0, none⟩)), (17, .slice pa (pairsOf n M).length pc), (18, .int .i64 (pairsOf n M).length), (19, .int .i64 j)])
    (fun j h' => j ≤ (pairsOf n M).length ∧ Fr 0 0 h0 h' ∧ h9.size ≤ h'.size ∧ Rw h' bn [.int .i64 n] ∧ Rw h' bw [.slice (some ⟨ww, 0, none⟩) n n] ∧ Rw h' bb [.slice (some ⟨bk, 0, none⟩) n n] ∧
      Holder 2 h' (.slice pa (pairsOf n M).length pc) (pairsOf n M).length (pairsV (pairsOf n M)) h8.size ∧
      Rw h' ww (cntV n fun q => ((pairsOf n M).take j).countP fun p => p.2 == (q : Int)) ∧
      ∃ B : Nat → Value, Rw h' bk ((List.range n).map B) ∧ (∀ a, a < n → Holder 1 h' (B a) ((((pairsOf n M).take j).filter fun p => p.1 == (a : Int)).map (fun p => p.2.toNat)).length (natsV ((((pairsOf n M).take j).filter fun p => p.1 == (a : Int)).map (fun p => p.2.toNat))) h9.size) ∧
        ∀ a b, a < n → b < n → a ≠ b → bh (B a) = 0 ∨ bl (B a) ≠ bl (B b))
    (fun j => (pairsOf n M).length - j) 0 ?_ ?_ ?_
  · simp [Le, find]
  · refine ⟨by omega, p8.trans p9, by omega, rn8.fr p9 (by omega), rw8.fr p9 (by omega), rb8.fr p9 (by omega), o9, ?_, fun _ => .slice none 0 0, ?_, fun a ha => Holder.none _ _ _, fun a b ha hb hab => .inl rfl⟩
    · have := rww8.fr p9 (by omega)
      have e : List.replicate n (Value.int .i64 0) = cntV n fun q => ((pairsOf n M).take 0).countP fun p => p.2 == (q : Int) := by
        apply List.ext_getElem?; intro k
        by_cases hk : k < n
        · rw [cntV_get hk]; simp [hk]
        · rw [List.getElem?_eq_none (by simp; omega), List.getElem?_eq_none (by simp; omega)]
      rw [e] at this; exact this
    · have := rk8.fr p9 (by omega)
      have e : List.replicate n (Value.slice none 0 0) = (List.range n).map fun _ => Value.slice none 0 0 := by
        apply List.ext_getElem?; intro k
        by_cases hk : k < n
        · simp [hk]
        · simp [hk]
      rw [e] at this; exact this
  rintro j h10 ⟨hj, p10, y10, rn, rw', rb, od, rww, B, rk, hB, hBB⟩
  simp -dsimp only [go_sem, ↓reduceIte, reduceCtorEq, Nat.reduceEqDiff, Nat.reduceAdd, Nat.reduceLeDiff, Nat.reduceMul, Int.reduceBEq, Int.reduceBNe, Int.reduceLT, Int.reduceLE, Int.reduceGT, Int.reduceGE]
  refine ⟨fun hlt => ?_, fun hge => ?_⟩
  · have hlt : j < (pairsOf n M).length := by omega
    have hq : (pairsOf n M)[j]? = some (pairsOf n M)[j] := by simp
    have htk : (pairsOf n M).take (j + 1) = (pairsOf n M).take j ++ [(pairsOf n M)[j]] := by rw [List.take_succ_eq_append_getElem hlt]
    have hmem : (pairsOf n M)[j] ∈ pairsOf n M := List.getElem_mem _
    generalize (pairsOf n M)[j] = q at hq htk hmem
    obtain ⟨a, b, ha, hb, hm, rfl⟩ := mem_pairsOf.1 hmem
    have hpl := length_pairsTo_le n M n
    have g3 : n * n ≤ 256 * 256 := Nat.mul_le_mul (by omega) (by omega)
    have g4 : (pairsOf n M).length ≤ n * n := hpl
    have k1 := rn.lt; have k2 := rw'.lt; have k3 := rb.lt; have k4 := rww.lt; have k5 := rk.lt
    simp -dsimp only [go_sem, ↓reduceIte, reduceCtorEq, Nat.reduceEqDiff, Nat.reduceAdd, Nat.reduceLeDiff, Nat.reduceMul, Int.reduceBEq, Int.reduceBNe, Int.reduceLT, Int.reduceLE, Int.reduceGT, Int.reduceGE]
    refine Chk_intro (by omega) (od.rd.pair hq fun b6 o6 c6 c7 => ?_)
    simp -dsimp only [go_sem, ↓reduceIte, reduceCtorEq, Nat.reduceEqDiff, Nat.reduceAdd, Nat.reduceLeDiff, Nat.reduceMul, Int.reduceBEq, Int.reduceBNe, Int.reduceLT, Int.reduceLE, Int.reduceGT, Int.reduceGE, c6, c7]
    intro b11 h11 n11
    simp -dsimp only [go_sem, ↓reduceIte, reduceCtorEq, Nat.reduceEqDiff, Nat.reduceAdd, Nat.reduceLeDiff, Nat.reduceMul, Int.reduceBEq, Int.reduceBNe, Int.reduceLT, Int.reduceLE, Int.reduceGT, Int.reduceGE]
    refine ⟨n11.row.wr (by simp), fun h12 s12 => ?_⟩
    have a11 := n11.at_; have z11 := n11.size; have z12 := s12.size
    have r12 := s12.row n11.row
    simp -dsimp only [go_sem, ↓reduceIte, reduceCtorEq, Nat.reduceEqDiff, Nat.reduceAdd, Nat.reduceLeDiff, Nat.reduceMul, Int.reduceBEq, Int.reduceBNe, Int.reduceLT, Int.reduceLE, Int.reduceGT, Int.reduceGE] at r12
    have f12 : Fr 0 0 h10 h12 := (n11.fr (lo := 0) (hi := 0)).fresh s12.fr (by omega)
    have rww12 := rww.fr f12 (by omega)
    have rw12 := rw'.fr f12 (by omega)
    simp -dsimp only [go_sem, ↓reduceIte, reduceCtorEq, Nat.reduceEqDiff, Nat.reduceAdd, Nat.reduceLeDiff, Nat.reduceMul, Int.reduceBEq, Int.reduceBNe, Int.reduceLT, Int.reduceLE, Int.reduceGT, Int.reduceGE, rw12.cell, r12.cell]
    refine Chk_intro (by omega) ?_
    simp -dsimp only [go_sem, ↓reduceIte, reduceCtorEq, Nat.reduceEqDiff, Nat.reduceAdd, Nat.reduceLeDiff, Nat.reduceMul, Int.reduceBEq, Int.reduceBNe, Int.reduceLT, Int.reduceLE, Int.reduceGT, Int.reduceGE, rww12.cell, cntV_get hb]
    refine Chk_intro (by omega) ?_
    simp -dsimp only [go_sem, ↓reduceIte, reduceCtorEq, Nat.reduceEqDiff, Nat.reduceAdd, Nat.reduceLeDiff, Nat.reduceMul, Int.reduceBEq, Int.reduceBNe, Int.reduceLT, Int.reduceLE, Int.reduceGT, Int.reduceGE]
    have hcl : (((pairsOf n M).take j).countP fun p => p.2 == (b : Int)) ≤ j := Nat.le_trans List.countP_le_length (by simp; omega)
    refine Chk_intro (rww12.wr (by simp; omega)) fun h13 s13 => ?_
    have r13 := s13.row rww12
    rw [cl_int, wrap64 (by omega) (by omega), putAt_one, show (((((pairsOf n M).take j).countP fun p => p.2 == (b : Int)) : Nat) : Int) + 1 = ((((pairsOf n M).take j).countP (fun p => p.2 == (b : Int)) + 1 : Nat) : Int) from by omega, cntV_set] at r13
    have z13 := s13.size
    have rb13 := s13.rw (rb.fr f12 (by omega)) (by omega)
    have rp13 := s13.rw r12 (by omega)
    have rk13 := s13.rw (rk.fr f12 (by omega)) (by omega)
    have hBa : ((List.range n).map B)[a]? = some (B a) := by simp [ha]
    simp -dsimp only [go_sem, ↓reduceIte, reduceCtorEq, Nat.reduceEqDiff, Nat.reduceAdd, Nat.reduceLeDiff, Nat.reduceMul, Int.reduceBEq, Int.reduceBNe, Int.reduceLT, Int.reduceLE, Int.reduceGT, Int.reduceGE, rb13.cell, rp13.cell]
    refine Chk_intro (by omega) ?_
    simp -dsimp only [go_sem, ↓reduceIte, reduceCtorEq, Nat.reduceEqDiff, Nat.reduceAdd, Nat.reduceLeDiff, Nat.reduceMul, Int.reduceBEq, Int.reduceBNe, Int.reduceLT, Int.reduceLE, Int.reduceGT, Int.reduceGE, rk13.cell, hBa, rp13.cell]
    intro b14 h14 n14
    have a14 := n14.at_; have z14 := n14.size
    have wa := (hB a ha).at_
    have hBf : ∀ x, x < n → Holder 1 h14 (B x) ((((pairsOf n M).take j).filter fun p => p.1 == (x : Int)).map (fun p => p.2.toNat)).length (natsV ((((pairsOf n M).take j).filter fun p => p.1 == (x : Int)).map (fun p => p.2.toNat))) h9.size := fun x hx =>
      (((hB x hx).fr f12 (by omega)).fr s13.fr (by have := (hB x hx).at_; omega)).fr (n14.fr (lo := 0) (hi := 0)) (by omega)
    have hfl : ((((pairsOf n M).take j).filter fun p => p.1 == (a : Int)).map (fun p => p.2.toNat)).length ≤ j := by
      rw [List.length_map]; exact Nat.le_trans (List.length_filter_le _ _) (by simp; omega)
    have hBh := hBf a ha
    obtain ⟨ba, bc, hBv⟩ := hBh.is
    rw [hBv] at hBh hBa wa
    simp -dsimp only [go_sem, ↓reduceIte, reduceCtorEq, Nat.reduceEqDiff, Nat.reduceAdd, Nat.reduceLeDiff, Nat.reduceMul, Int.reduceBEq, Int.reduceBNe, Int.reduceLT, Int.reduceLE, Int.reduceGT, Int.reduceGE, hBv, n14.row.cell]
    refine hBh.append (by omega) rfl (by omega) (by simp) (by omega) fun v15 h15 o15 f15 e15 => ?_
    have y15 := f15.size
    have w15 := o15.at_
    have rb15 := (n14.rw rb13).fr f15 (by omega)
    have rp15 := (n14.rw rp13).fr f15 (by omega)
    have rk15 := (n14.rw rk13).fr f15 (by omega)
    obtain ⟨va, vc, rfl⟩ := o15.is
    simp -dsimp only [go_sem, ↓reduceIte, reduceCtorEq, Nat.reduceEqDiff, Nat.reduceAdd, Nat.reduceLeDiff, Nat.reduceMul, Int.reduceBEq, Int.reduceBNe, Int.reduceLT, Int.reduceLE, Int.reduceGT, Int.reduceGE, rb15.cell, rp15.cell, rk15.cell, hBa, hBv]
    refine Chk_intro (by omega) ?_
    simp -dsimp only [go_sem, ↓reduceIte, reduceCtorEq, Nat.reduceEqDiff, Nat.reduceAdd, Nat.reduceLeDiff, Nat.reduceMul, Int.reduceBEq, Int.reduceBNe, Int.reduceLT, Int.reduceLE, Int.reduceGT, Int.reduceGE]
    refine Chk_intro (rk15.wr (by simp; omega)) fun h16 s16 => ?_
    have z16 := s16.size
    have rk16 := s16.row rk15
    simp -dsimp only [go_sem, ↓reduceIte, reduceCtorEq, Nat.reduceEqDiff, Nat.reduceAdd, Nat.reduceLeDiff, Nat.reduceMul, Int.reduceBEq, Int.reduceBNe, Int.reduceLT, Int.reduceLE, Int.reduceGT, Int.reduceGE]
    simp -dsimp (disch := omega) only [wrap64]
    have q15 : Fr 0 0 h0 h15 := (((p10.trans f12).fresh s13.fr (by omega)).trans n14.fr).fresh f15 (by omega)
    have q16 := q15.fresh s16.fr (by omega)
    have step : ∀ {x c}, Rw h12 x c → x ≠ ww → x ≠ bk → (x < bl (.slice ba ((((pairsOf n M).take j).filter fun p => p.1 == (a : Int)).map (fun p => p.2.toNat)).length bc) ∨ bh (.slice ba ((((pairsOf n M).take j).filter fun p => p.1 == (a : Int)).map (fun p => p.2.toNat)).length bc) ≤ x) → Rw h16 x c := fun r h1 h2 h3 =>
      s16.rw ((n14.rw (s13.rw r h1)).fr f15 h3) h2
    refine ⟨j + 1, by omega, by simp [Le, find], by omega, q16, by omega, step (rn.fr f12 (by omega)) (by omega) (by omega) (by omega), step (rw12) (by omega) (by omega) (by omega), step (rb.fr f12 (by omega)) (by omega) (by omega) (by omega), ?_, ?_, fun x => if x = a then .slice va (((((pairsOf n M).take j).filter fun p => p.1 == (a : Int)).map (fun p => p.2.toNat)).length + 1) vc else B x, ?_, ?_, ?_⟩
    · exact ((((od.fr f12 (by omega)).fr s13.fr (by omega)).fr (n14.fr (lo := 0) (hi := 0)) (by omega)).fr f15 (by omega)).fr s16.fr (by omega)
    · have := s16.rw ((n14.rw r13).fr f15 (by omega)) (show ww ≠ bk by omega)
      rw [cntV_congr (fun x hx => ?_)]
      · exact this
      · rw [htk, List.countP_append, List.countP_singleton]
        by_cases hxb : x = b
        · subst hxb; simp
        · have : ((b : Int) == (x : Int)) = false := by simp; omega
          simp [hxb, this]
    · rw [cl_slice, putAt_one] at rk16
      have e : ((List.range n).map B).set a (.slice va (((((pairsOf n M).take j).filter fun p => p.1 == (a : Int)).map (fun p => p.2.toNat)).length + 1) vc) = (List.range n).map fun x => if x = a then .slice va (((((pairsOf n M).take j).filter fun p => p.1 == (a : Int)).map (fun p => p.2.toNat)).length + 1) vc else B x := by
        apply List.ext_getElem?; intro k
        rw [List.getElem?_set]
        by_cases hka : a = k
        · subst hka; simp [ha]
        · rw [if_neg hka]
          by_cases hk : k < n
          · simp [hk, Ne.symm hka]
          · simp [hk]
      rw [e] at rk16; exact rk16
    · intro x hx
      rw [htk, List.filter_append, List.map_append, natsV_append]
      by_cases hxa : x = a
      · subst hxa
        have := o15.fr s16.fr (by omega)
        have hnb : natsV [b] = [.int .i64 (b : Int)] := rfl
        simpa [hnb] using this
      · have hne : ((a : Int) == (x : Int)) = false := by simp; omega
        have hx1 := (hBf x hx)
        have hx2 := (hB x hx).at_
        have hx3 := hBB a x ha hx (Ne.symm hxa)
        rw [hBv] at hx3
        have := (hx1.fr f15 (by omega)).fr s16.fr (by omega)
        simpa [hxa, hne, natsV] using this
    · intro x y hx hy hxy
      have hx2 := (hB x hx).at_
      have hy2 := (hB y hy).at_
      by_cases hxa : x = a
      · subst hxa
        have hx3 := hBB x y ha hy hxy
        have hx4 := hBB y x hy ha (Ne.symm hxy)
        rw [hBv] at hx3 hx4
        simp only [if_true, if_neg (Ne.symm hxy)]
        omega
      · by_cases hya : y = a
        · subst hya
          have hx3 := hBB x y hx ha hxy
          rw [hBv] at hx3
          simp only [if_true, if_neg hxy]
          omega
        · simp only [if_neg hxa, if_neg hya]
          exact hBB x y hx hy hxy
  · have hjl : j = (pairsOf n M).length := by omega
    subst hjl
    rw [List.take_length] at hB rww
    simp -dsimp only [go_sem, ↓reduceIte, reduceCtorEq, Nat.reduceEqDiff, Nat.reduceAdd, Nat.reduceLeDiff, Nat.reduceMul, Int.reduceBEq, Int.reduceBNe, Int.reduceLT, Int.reduceLE, Int.reduceGT, Int.reduceGE, rn.cell]
    refine Chk_intro (by omega) ?_
    intro pw h11 n11
    simp -dsimp only [go_sem, ↓reduceIte, reduceCtorEq, Nat.reduceEqDiff, Nat.reduceAdd, Nat.reduceLeDiff, Nat.reduceMul, Int.reduceBEq, Int.reduceBNe, Int.reduceLT, Int.reduceLE, Int.reduceGT, Int.reduceGE]
    intro bp h12 n12
    simp -dsimp only [go_sem, ↓reduceIte, reduceCtorEq, Nat.reduceEqDiff, Nat.reduceAdd, Nat.reduceLeDiff, Nat.reduceMul, Int.reduceBEq, Int.reduceBNe, Int.reduceLT, Int.reduceLE, Int.reduceGT, Int.reduceGE]
    refine ⟨n12.row.wr (by simp), fun h13 s13 => ?_⟩
    have a11 := n11.at_; have z11 := n11.size; have a12 := n12.at_; have z12 := n12.size; have z13 := s13.size
    have rp := s13.row n12.row
    have rpw := s13.rw (n12.rw n11.row) (by omega)
    rw [zeros_one, Int.toNat_natCast, brow_false] at rpw
    simp -dsimp only [go_sem, ↓reduceIte, reduceCtorEq, Nat.reduceEqDiff, Nat.reduceAdd, Nat.reduceLeDiff, Nat.reduceMul, Int.reduceBEq, Int.reduceBNe, Int.reduceLT, Int.reduceLE, Int.reduceGT, Int.reduceGE] at rp
    simp -dsimp only [go_sem, ↓reduceIte, reduceCtorEq, Nat.reduceEqDiff, Nat.reduceAdd, Nat.reduceLeDiff, Nat.reduceMul, Int.reduceBEq, Int.reduceBNe, Int.reduceLT, Int.reduceLE, Int.reduceGT, Int.reduceGE]
    have k1 := rn.lt; have k2 := rw'.lt; have k3 := rb.lt; have k4 := rww.lt; have k5 := rk.lt
    have y10' := p10.size
    have f13 : Fr 0 0 h10 h13 := ((n11.fr (lo := 0) (hi := 0)).trans n12.fr).fresh s13.fr (by omega)
    refine ⟨p10.trans f13, ⟨bn, bw, bb, bp, ww, bk, pw, B⟩, rfl, rn.fr f13 (by omega), rw'.fr f13 (by omega), rb.fr f13 (by omega), rp, ?_, rpw, rk.fr f13 (by omega), fun x hx => ?_, by dsimp only; omega, by dsimp only; omega, hn⟩
    · have := rww.fr f13 (by omega)
      rw [cntV_congr (fun x hx => ?_)]
      · exact this
      · unfold cnt pairsOf
        rw [pairsTo_waits n M x hx n]
        simp
    · have hb := hB x hx
      unfold pairsOf at hb
      rw [pairsTo_behind, if_pos hx] at hb
      have wb := hb.at_
      dsimp only
      exact ⟨(hb.fr f13 (by omega)).lower (by omega), by omega, by omega, by omega⟩
end Go.Proofs.Tst
namespace Go.Proofs.Tst
open Go Go.Vc
theorem order_Sort {n : Nat} {M : Nat → Nat → Bool} {p : Value} {lo hi : Nat} {h : Heap} (hr : ProgAt h lo hi p n M) (ht : TabAt h) :
    Con Tryd.prog 20 #[p] h fun v h' => Fr 0 0 h h' ∧ ListOr h' h.size 3 v (sortS n M) := by
  refine con_order_Sort ?_
  have hn := hr.1
  simp -dsimp only [go_sem, ↓reduceIte, reduceCtorEq, Nat.reduceEqDiff, Nat.reduceAdd, Nat.reduceLeDiff, Nat.reduceMul, Int.reduceBEq, Int.reduceBNe, Int.reduceLT, Int.reduceLE, Int.reduceGT, Int.reduceGE]
  refine call_of (order_chooser hr ht) ?_
  rintro v h1 ⟨p1, c, rfl, t1⟩
  have y1 := p1.size
  simp -dsimp only [go_sem, ↓reduceIte, reduceCtorEq, Nat.reduceEqDiff, Nat.reduceAdd, Nat.reduceLeDiff, Nat.reduceMul, Int.reduceBEq, Int.reduceBNe, Int.reduceLT, Int.reduceLE, Int.reduceGT, Int.reduceGE]
  refine call_of (rel_Len (hr.fr p1 (by omega))) ?_
  rintro v h2 ⟨rfl, rfl⟩
  simp -dsimp only [go_sem, ↓reduceIte, reduceCtorEq, Nat.reduceEqDiff, Nat.reduceAdd, Nat.reduceLeDiff, Nat.reduceMul, Int.reduceBEq, Int.reduceBNe, Int.reduceLT, Int.reduceLE, Int.reduceGT, Int.reduceGE]
  refine loop_intro (fun s : Nat × Value => [(4, c.next), (5, c.place), (6, s.2), (14, .int .i64 n), (15, .int .i64 s.1)])
    (fun s h' => s.1 ≤ n ∧ Fr 0 0 h h' ∧ h2.size ≤ h'.size ∧ ∃ l : List Nat, l.length = s.1 ∧ Chs h' h.size h2.size c n M l.contains ∧ Holder 1 h' s.2 s.1 (natsV l) h2.size ∧ sortGo n M (n - s.1) l = sortS n M)
    (fun s => n - s.1) (0, .slice none 0 0) ?_ ?_ ?_
  · simp [Le, find]
  · exact ⟨by omega, p1, by omega, [], rfl, t1, .none _ _ _, rfl⟩
  rintro ⟨i, lv⟩ h3 ⟨hi, p3, y3, l, hl, t3, ol, hgo⟩
  dsimp only at hi p3 y3 hl t3 ol hgo ⊢
  simp -dsimp only [go_sem, ↓reduceIte, reduceCtorEq, Nat.reduceEqDiff, Nat.reduceAdd, Nat.reduceLeDiff, Nat.reduceMul, Int.reduceBEq, Int.reduceBNe, Int.reduceLT, Int.reduceLE, Int.reduceGT, Int.reduceGE]
  refine ⟨fun hlt => ?_, fun hge => ?_⟩
  · have hlt : i < n := by omega
    simp -dsimp only [go_sem, ↓reduceIte, reduceCtorEq, Nat.reduceEqDiff, Nat.reduceAdd, Nat.reduceLeDiff, Nat.reduceMul, Int.reduceBEq, Int.reduceBNe, Int.reduceLT, Int.reduceLE, Int.reduceGT, Int.reduceGE, ChB.next]
    refine call_of (chooser_next (q := 0) t3 (by omega)) ?_
    rintro v h4 ⟨rfl, rfl⟩
    have hk : n - i = (n - (i + 1)) + 1 := by omega
    rw [hk] at hgo
    cases hx : lf (freeB n M l.contains) n 0 with
    | none =>
      simp only [sortGo, hx] at hgo
      simp -dsimp only [go_sem, ↓reduceIte, reduceCtorEq, Nat.reduceEqDiff, Nat.reduceAdd, Nat.reduceLeDiff, Nat.reduceMul, Int.reduceBEq, Int.reduceBNe, Int.reduceLT, Int.reduceLE, Int.reduceGT, Int.reduceGE, nx_none]
      exact ⟨p3, by rw [← hgo]; rfl⟩
    | some x =>
      simp only [sortGo, hx] at hgo
      obtain ⟨_, hxn, hfx⟩ := lf_some hx
      have hDx : l.contains x = false := (freeB_true.1 hfx).1
      simp -dsimp only [go_sem, ↓reduceIte, reduceCtorEq, Nat.reduceEqDiff, Nat.reduceAdd, Nat.reduceLeDiff, Nat.reduceMul, Int.reduceBEq, Int.reduceBNe, Int.reduceLT, Int.reduceLE, Int.reduceGT, Int.reduceGE, nx_some, ChB.place]
      refine call_of (chooser_place t3 hxn true (by simpa using hDx)) ?_
      rintro v h5 ⟨f5, z5, t5⟩
      obtain ⟨la, lc, rfl⟩ := ol.is
      simp -dsimp only [go_sem, ↓reduceIte, reduceCtorEq, Nat.reduceEqDiff, Nat.reduceAdd, Nat.reduceLeDiff, Nat.reduceMul, Int.reduceBEq, Int.reduceBNe, Int.reduceLT, Int.reduceLE, Int.reduceGT, Int.reduceGE, nx_some]
      intro b6 h6 n6
      have a6 := n6.at_; have z6 := n6.size
      have w0 := ol.at_
      simp -dsimp only [go_sem, ↓reduceIte, reduceCtorEq, Nat.reduceEqDiff, Nat.reduceAdd, Nat.reduceLeDiff, Nat.reduceMul, Int.reduceBEq, Int.reduceBNe, Int.reduceLT, Int.reduceLE, Int.reduceGT, Int.reduceGE, nx_some, n6.row.cell]
      have o6 := (ol.fr f5 (by omega)).fr (n6.fr (lo := 0) (hi := 0)) (by omega)
      have p6 : Fr 0 0 h h6 := (p3.fresh f5 (by omega)).trans n6.fr
      refine o6.append (by omega) rfl (by omega) (by simp) (by omega) fun v7 h7 o7 f7 e7 => ?_
      have y7 := f7.size
      simp -dsimp only [go_sem, ↓reduceIte, reduceCtorEq, Nat.reduceEqDiff, Nat.reduceAdd, Nat.reduceLeDiff, Nat.reduceMul, Int.reduceBEq, Int.reduceBNe, Int.reduceLT, Int.reduceLE, Int.reduceGT, Int.reduceGE]
      simp -dsimp (disch := omega) only [wrap64]
      refine ⟨(i + 1, v7), by dsimp only; omega, by simp [Le, find, ChB.next, ChB.place], by dsimp only; omega, p6.fresh f7 (by omega), by omega, l ++ [x], by simp [hl], ?_, by rw [natsV_append]; exact o7, hgo⟩
      have t7 := (t5.fr (n6.fr (lo := 0) (hi := 0)) (by omega)).fr f7 (by omega)
      have e : (fun k => if k = x then true else l.contains k) = (l ++ [x]).contains := by
        funext k; by_cases hk : k = x <;> simp [hk]
      rw [e] at t7; exact t7
  · have hin : i = n := by omega
    subst hin
    simp -dsimp only [go_sem, ↓reduceIte, reduceCtorEq, Nat.reduceEqDiff, Nat.reduceAdd, Nat.reduceLeDiff, Nat.reduceMul, Int.reduceBEq, Int.reduceBNe, Int.reduceLT, Int.reduceLE, Int.reduceGT, Int.reduceGE]
    rw [Nat.sub_self] at hgo
    refine ⟨p3, ?_⟩
    rw [← hgo]
    simp only [sortGo, ListOr]
    rw [← hl] at ol
    exact ⟨_, rfl, ol.lower (by omega)⟩
end Go.Proofs.Tst
