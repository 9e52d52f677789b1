/-
  Contracts of functions that the law reaches: what each returns and what it leaves in memory. Conditions stand in each.
-/
import Derived.Test.YtmilaghhnaoidaaDoorT4
set_option linter.all false
set_option maxRecDepth 2000
/-
  The document's answer: rule 6.
-/
namespace Go.Proofs.Tst
open Go Go.Vc
set_option maxHeartbeats 1000000 in
theorem ref8_rmw {h : Heap} {q : GV} {g : Gr} (t : GrAt h q g) :
    Con Tryd.prog 60 #[.agg (gcells q g).toArray] h fun v h' => Fr 0 0 h h' ∧ v = .int .i64 g.rmwAt := by
  refine con_ref8_rmw ?_
  have p0 : Fr 0 0 h h := .refl _ _ _
  have hfe := t.fits.e
  have hff := t.fits.r
  have hen : g.evs.length = g.n := rfl
  unfold gcells
  simp -dsimp only [go_sem, ↓reduceIte, reduceCtorEq, Nat.reduceEqDiff, Nat.reduceAdd, Nat.reduceLeDiff, Nat.reduceMul, Int.reduceBEq, Int.reduceBNe, Int.reduceLT, Int.reduceLE, Int.reduceGT, Int.reduceGE]
  intro b1 h1 n1
  have n1_a := n1.at_
  have n1_z := n1.size
  replace p0 := p0.fresh (n1.fr (lo := 0) (hi := 0)) (by omega)
  have r1 := n1.row
  simp -dsimp only [go_sem, ↓reduceIte, reduceCtorEq, Nat.reduceEqDiff, Nat.reduceAdd, Nat.reduceLeDiff, Nat.reduceMul, Int.reduceBEq, Int.reduceBNe, Int.reduceLT, Int.reduceLE, Int.reduceGT, Int.reduceGE, r1.cell]
  refine loop_intro (fun i : Nat => [(1, .pointer (some ⟨b1, 0, none⟩)), (3, .int .i64 i)])
    (fun i h' => i ≤ g.rmw.length ∧ Fr 0 0 h h' ∧ Rw h' b1 (gcells q g) ∧ g.rmwAt = Gr.firstBad g.rmwBad (g.rmw.drop i) i) (fun i => g.rmw.length - i) 0 ?_ ?_ ?_
  · simp [Le, find]
  · exact ⟨by omega, p0, r1, rfl⟩
  clear p0 r1
  rintro i h2 ⟨hi, p0, r1, hat⟩
  unfold gcells at r1
  have p0_z := p0.size
  have r1_l := r1.lt
  by_cases hlt : i < g.rmw.length
  · have e1 : ((i : Int) < (g.rmw.length : Int)) := by omega
    obtain ⟨pb, po, hp, hpe⟩ := t.r.pairsAt (by omega)
    have hq : g.rmw[i]? = some g.rmw[i] := by simp [hlt]
    rw [List.drop_eq_getElem_cons hlt] at hat
    generalize g.rmw[i] = pr at hq hat
    obtain ⟨u0, u1⟩ := hpe h2 p0 i _ hq
    simp -dsimp only [go_sem, ↓reduceIte, reduceCtorEq, Nat.reduceEqDiff, Nat.reduceAdd, Nat.reduceLeDiff, Nat.reduceMul, Int.reduceBEq, Int.reduceBNe, Int.reduceLT, Int.reduceLE, Int.reduceGT, Int.reduceGE, hp, e1, u0, u1, r1.cell]
    intro b5 h3 n3
    have n3_a := n3.at_
    have n3_z := n3.size
    replace p0 := p0.fresh (n3.fr (lo := 0) (hi := 0)) (by omega)
    replace r1 := r1.fr (n3.fr (lo := 0) (hi := 0)) (by omega)
    have r5 := n3.row
    simp -dsimp only [go_sem, ↓reduceIte, reduceCtorEq, Nat.reduceEqDiff, Nat.reduceAdd, Nat.reduceLeDiff, Nat.reduceMul, Int.reduceBEq, Int.reduceBNe, Int.reduceLT, Int.reduceLE, Int.reduceGT, Int.reduceGE, r1.cell, r5.cell]
    refine Chk_intro (r5.wr (by first | (simp; done) | (simp; omega))) fun h4 s4 => ?_
    have s4_z := s4.size
    replace p0 := p0.fresh s4.fr (by omega)
    replace r1 := r1.fr s4.fr (by omega)
    replace r5 := s4.row r5
    try simp only [cl_int, cl_bool, cl_slice, cl_ptr, putAt_one, List.set_cons_zero, List.set_cons_succ, ivec_set, brow_upd] at r5
    simp -dsimp only [go_sem, ↓reduceIte, reduceCtorEq, Nat.reduceEqDiff, Nat.reduceAdd, Nat.reduceLeDiff, Nat.reduceMul, Int.reduceBEq, Int.reduceBNe, Int.reduceLT, Int.reduceLE, Int.reduceGT, Int.reduceGE] at r5
    have hbad : g.rmwBad i pr = ((decide (0 < i) && decide (pr.1 ≤ (g.rmw.getD (i - 1) default).1)) || !g.is pr.1 1 || !g.is pr.2 2 || !g.isNext pr.1 pr.2 || !((g.ev pr.1.toNat).loc == (g.ev pr.2.toNat).loc)) := rfl
    have bad : g.rmwBad i pr = true → g.rmwAt = (i : Int) := fun hb => by rw [hat, firstBad_bad hb]
    have good : g.rmwBad i pr = false → g.rmwAt = Gr.firstBad g.rmwBad (g.rmw.drop (i + 1)) (i + 1) := fun hb => by rw [hat, firstBad_ok hb]
    by_cases a0 : i = 0
    · have e2 : ¬ (i : Int) > 0 := by omega
      have b0 : (decide (0 < i) && decide (pr.1 ≤ (g.rmw.getD (i - 1) default).1)) = false := by rw [dec_f (by omega)]; rfl
      obtain ⟨u2, -⟩ := hpe h4 p0 i _ hq
      simp -dsimp only [go_sem, ↓reduceIte, reduceCtorEq, Nat.reduceEqDiff, Nat.reduceAdd, Nat.reduceLeDiff, Nat.reduceMul, Int.reduceBEq, Int.reduceBNe, Int.reduceLT, Int.reduceLE, Int.reduceGT, Int.reduceGE, e2, r1.cell, r5.cell]
      refine call_of (ref8_is (t.fr p0) pr.1 1) ?_
      rintro v5 h5 ⟨f5, rfl⟩
      have f5_z := f5.size
      replace p0 := p0.fresh f5 (by omega)
      replace r1 := r1.fr f5 (by omega)
      replace r5 := r5.fr f5 (by omega)
      replace u2 := f5.keep u2 (by omega)
      cases a4 : g.is pr.1 1
      · simp -dsimp only [go_sem, ↓reduceIte, reduceCtorEq, Nat.reduceEqDiff, Nat.reduceAdd, Nat.reduceLeDiff, Nat.reduceMul, Int.reduceBEq, Int.reduceBNe, Int.reduceLT, Int.reduceLE, Int.reduceGT, Int.reduceGE, e2, r1.cell, r5.cell]
        exact ⟨p0, by rw [bad (by rw [hbad, a4]; simp)]⟩
      simp -dsimp only [go_sem, ↓reduceIte, reduceCtorEq, Nat.reduceEqDiff, Nat.reduceAdd, Nat.reduceLeDiff, Nat.reduceMul, Int.reduceBEq, Int.reduceBNe, Int.reduceLT, Int.reduceLE, Int.reduceGT, Int.reduceGE, e2, r1.cell, r5.cell]
      refine call_of (ref8_is (t.fr p0) pr.2 2) ?_
      rintro v6 h6 ⟨f6, rfl⟩
      have f6_z := f6.size
      replace p0 := p0.fresh f6 (by omega)
      replace r1 := r1.fr f6 (by omega)
      replace r5 := r5.fr f6 (by omega)
      replace u2 := f6.keep u2 (by omega)
      cases a5 : g.is pr.2 2
      · simp -dsimp only [go_sem, ↓reduceIte, reduceCtorEq, Nat.reduceEqDiff, Nat.reduceAdd, Nat.reduceLeDiff, Nat.reduceMul, Int.reduceBEq, Int.reduceBNe, Int.reduceLT, Int.reduceLE, Int.reduceGT, Int.reduceGE, e2, r1.cell, r5.cell]
        exact ⟨p0, by rw [bad (by rw [hbad, a5]; simp)]⟩
      simp -dsimp only [go_sem, ↓reduceIte, reduceCtorEq, Nat.reduceEqDiff, Nat.reduceAdd, Nat.reduceLeDiff, Nat.reduceMul, Int.reduceBEq, Int.reduceBNe, Int.reduceLT, Int.reduceLE, Int.reduceGT, Int.reduceGE, e2, r1.cell, r5.cell]
      refine call_of (ref8_next (t.fr p0) pr.1 pr.2) ?_
      rintro v7 h7 ⟨f7, rfl⟩
      have f7_z := f7.size
      replace p0 := p0.fresh f7 (by omega)
      replace r1 := r1.fr f7 (by omega)
      replace r5 := r5.fr f7 (by omega)
      replace u2 := f7.keep u2 (by omega)
      cases a6 : g.isNext pr.1 pr.2
      · simp -dsimp only [go_sem, ↓reduceIte, reduceCtorEq, Nat.reduceEqDiff, Nat.reduceAdd, Nat.reduceLeDiff, Nat.reduceMul, Int.reduceBEq, Int.reduceBNe, Int.reduceLT, Int.reduceLE, Int.reduceGT, Int.reduceGE, e2, r1.cell, r5.cell]
        exact ⟨p0, by rw [bad (by rw [hbad, a6]; simp)]⟩
      obtain ⟨l1, l2, l3⟩ := is_lt a4
      obtain ⟨m1, m2, m3⟩ := is_lt a5
      obtain ⟨x, hx⟩ := Int.eq_ofNat_of_zero_le l1
      obtain ⟨y, hy⟩ := Int.eq_ofNat_of_zero_le m1
      obtain ⟨pa, pz⟩ := pr
      dsimp only at *
      subst hx hy
      rw [Int.toNat_natCast, Int.toNat_natCast] at hbad
      have hx2 : x < g.n := by omega
      have hy2 : y < g.n := by omega
      obtain ⟨eb, eo, he, hev⟩ := t.evs (by omega)
      obtain ⟨-, -, w2, -⟩ := hev h7 p0 x hx2
      obtain ⟨-, -, z2, -⟩ := hev h7 p0 y hy2
      simp -dsimp only [go_sem, ↓reduceIte, reduceCtorEq, Nat.reduceEqDiff, Nat.reduceAdd, Nat.reduceLeDiff, Nat.reduceMul, Int.reduceBEq, Int.reduceBNe, Int.reduceLT, Int.reduceLE, Int.reduceGT, Int.reduceGE, he, evs_len, e2, r1.cell, r5.cell]
      refine Chk_intro (by omega) ?_
      simp -dsimp only [go_sem, ↓reduceIte, reduceCtorEq, Nat.reduceEqDiff, Nat.reduceAdd, Nat.reduceLeDiff, Nat.reduceMul, Int.reduceBEq, Int.reduceBNe, Int.reduceLT, Int.reduceLE, Int.reduceGT, Int.reduceGE, w2, he, evs_len, e2, r1.cell, r5.cell]
      refine Chk_intro (by omega) ?_
      by_cases a7 : (g.ev x).loc = (g.ev y).loc
      · simp -dsimp only [go_sem, ↓reduceIte, reduceCtorEq, Nat.reduceEqDiff, Nat.reduceAdd, Nat.reduceLeDiff, Nat.reduceMul, Int.reduceBEq, Int.reduceBNe, Int.reduceLT, Int.reduceLE, Int.reduceGT, Int.reduceGE, w2, z2, bne_t a7, r1.cell, r5.cell]
        simp -dsimp (disch := omega) only [wrap64]
        exact ⟨i + 1, by omega, by simp [Le, find], by omega, p0, r1, good (by rw [hbad, a4, a5, a6, beq_t a7, b0]; rfl)⟩
      · simp -dsimp only [go_sem, ↓reduceIte, reduceCtorEq, Nat.reduceEqDiff, Nat.reduceAdd, Nat.reduceLeDiff, Nat.reduceMul, Int.reduceBEq, Int.reduceBNe, Int.reduceLT, Int.reduceLE, Int.reduceGT, Int.reduceGE, w2, z2, bne_f a7, r1.cell, r5.cell]
        exact ⟨p0, by rw [bad (by rw [hbad, beq_f a7]; simp)]⟩
    · have e2 : (i : Int) > 0 := by omega
      have hq2 : g.rmw[i - 1]? = some (g.rmw.getD (i - 1) default) := by simp [show i - 1 < g.rmw.length by omega]
      obtain ⟨v0, v1⟩ := hpe h4 p0 _ _ hq2
      generalize g.rmw.getD (i - 1) default = pv at hq2 v0 v1 hbad
      have hw : IntKind.i64.wrap ((i : Int) - 1) = ((i - 1 : Nat) : Int) := by rw [wrap64 (by omega) (by omega)]; omega
      simp -dsimp only [go_sem, ↓reduceIte, reduceCtorEq, Nat.reduceEqDiff, Nat.reduceAdd, Nat.reduceLeDiff, Nat.reduceMul, Int.reduceBEq, Int.reduceBNe, Int.reduceLT, Int.reduceLE, Int.reduceGT, Int.reduceGE, e2, hp, hw, r1.cell, r5.cell]
      refine Chk_intro (by omega) ?_
      by_cases a1 : pr.1 ≤ pv.1
      · simp -dsimp only [go_sem, ↓reduceIte, reduceCtorEq, Nat.reduceEqDiff, Nat.reduceAdd, Nat.reduceLeDiff, Nat.reduceMul, Int.reduceBEq, Int.reduceBNe, Int.reduceLT, Int.reduceLE, Int.reduceGT, Int.reduceGE, v0, a1, hp, hw, e2, r1.cell, r5.cell]
        exact ⟨p0, by rw [bad (by rw [hbad, dec_t (show 0 < i by omega), dec_t a1]; rfl)]⟩
      · have b0 : (decide (0 < i) && decide (pr.1 ≤ pv.1)) = false := by rw [dec_f a1, Bool.and_false]
        have u2 := v0
        simp -dsimp only [go_sem, ↓reduceIte, reduceCtorEq, Nat.reduceEqDiff, Nat.reduceAdd, Nat.reduceLeDiff, Nat.reduceMul, Int.reduceBEq, Int.reduceBNe, Int.reduceLT, Int.reduceLE, Int.reduceGT, Int.reduceGE, u2, a1, hp, hw, e2, r1.cell, r5.cell]
        clear v0
        rw [← hp]
        refine call_of (ref8_is (t.fr p0) pr.1 1) ?_
        rintro v5 h5 ⟨f5, rfl⟩
        have f5_z := f5.size
        replace p0 := p0.fresh f5 (by omega)
        replace r1 := r1.fr f5 (by omega)
        replace r5 := r5.fr f5 (by omega)
        replace u2 := f5.keep u2 (by omega)
        cases a4 : g.is pr.1 1
        · simp -dsimp only [go_sem, ↓reduceIte, reduceCtorEq, Nat.reduceEqDiff, Nat.reduceAdd, Nat.reduceLeDiff, Nat.reduceMul, Int.reduceBEq, Int.reduceBNe, Int.reduceLT, Int.reduceLE, Int.reduceGT, Int.reduceGE, u2, hw, e2, r1.cell, r5.cell]
          exact ⟨p0, by rw [bad (by rw [hbad, a4]; simp)]⟩
        simp -dsimp only [go_sem, ↓reduceIte, reduceCtorEq, Nat.reduceEqDiff, Nat.reduceAdd, Nat.reduceLeDiff, Nat.reduceMul, Int.reduceBEq, Int.reduceBNe, Int.reduceLT, Int.reduceLE, Int.reduceGT, Int.reduceGE, u2, hw, e2, r1.cell, r5.cell]
        refine call_of (ref8_is (t.fr p0) pr.2 2) ?_
        rintro v6 h6 ⟨f6, rfl⟩
        have f6_z := f6.size
        replace p0 := p0.fresh f6 (by omega)
        replace r1 := r1.fr f6 (by omega)
        replace r5 := r5.fr f6 (by omega)
        replace u2 := f6.keep u2 (by omega)
        cases a5 : g.is pr.2 2
        · simp -dsimp only [go_sem, ↓reduceIte, reduceCtorEq, Nat.reduceEqDiff, Nat.reduceAdd, Nat.reduceLeDiff, Nat.reduceMul, Int.reduceBEq, Int.reduceBNe, Int.reduceLT, Int.reduceLE, Int.reduceGT, Int.reduceGE, u2, hw, e2, r1.cell, r5.cell]
          exact ⟨p0, by rw [bad (by rw [hbad, a5]; simp)]⟩
        simp -dsimp only [go_sem, ↓reduceIte, reduceCtorEq, Nat.reduceEqDiff, Nat.reduceAdd, Nat.reduceLeDiff, Nat.reduceMul, Int.reduceBEq, Int.reduceBNe, Int.reduceLT, Int.reduceLE, Int.reduceGT, Int.reduceGE, u2, hw, e2, r1.cell, r5.cell]
        refine call_of (ref8_next (t.fr p0) pr.1 pr.2) ?_
        rintro v7 h7 ⟨f7, rfl⟩
        have f7_z := f7.size
        replace p0 := p0.fresh f7 (by omega)
        replace r1 := r1.fr f7 (by omega)
        replace r5 := r5.fr f7 (by omega)
        replace u2 := f7.keep u2 (by omega)
        cases a6 : g.isNext pr.1 pr.2
        · simp -dsimp only [go_sem, ↓reduceIte, reduceCtorEq, Nat.reduceEqDiff, Nat.reduceAdd, Nat.reduceLeDiff, Nat.reduceMul, Int.reduceBEq, Int.reduceBNe, Int.reduceLT, Int.reduceLE, Int.reduceGT, Int.reduceGE, u2, hw, e2, r1.cell, r5.cell]
          exact ⟨p0, by rw [bad (by rw [hbad, a6]; simp)]⟩
        obtain ⟨l1, l2, l3⟩ := is_lt a4
        obtain ⟨m1, m2, m3⟩ := is_lt a5
        obtain ⟨x, hx⟩ := Int.eq_ofNat_of_zero_le l1
        obtain ⟨y, hy⟩ := Int.eq_ofNat_of_zero_le m1
        obtain ⟨pa, pz⟩ := pr
        dsimp only at *
        subst hx hy
        rw [Int.toNat_natCast, Int.toNat_natCast] at hbad
        have hx2 : x < g.n := by omega
        have hy2 : y < g.n := by omega
        obtain ⟨eb, eo, he, hev⟩ := t.evs (by omega)
        obtain ⟨-, -, w2, -⟩ := hev h7 p0 x hx2
        obtain ⟨-, -, z2, -⟩ := hev h7 p0 y hy2
        simp -dsimp only [go_sem, ↓reduceIte, reduceCtorEq, Nat.reduceEqDiff, Nat.reduceAdd, Nat.reduceLeDiff, Nat.reduceMul, Int.reduceBEq, Int.reduceBNe, Int.reduceLT, Int.reduceLE, Int.reduceGT, Int.reduceGE, he, evs_len, u2, hw, e2, r1.cell, r5.cell]
        refine Chk_intro (by omega) ?_
        simp -dsimp only [go_sem, ↓reduceIte, reduceCtorEq, Nat.reduceEqDiff, Nat.reduceAdd, Nat.reduceLeDiff, Nat.reduceMul, Int.reduceBEq, Int.reduceBNe, Int.reduceLT, Int.reduceLE, Int.reduceGT, Int.reduceGE, w2, he, evs_len, u2, hw, e2, r1.cell, r5.cell]
        refine Chk_intro (by omega) ?_
        by_cases a7 : (g.ev x).loc = (g.ev y).loc
        · simp -dsimp only [go_sem, ↓reduceIte, reduceCtorEq, Nat.reduceEqDiff, Nat.reduceAdd, Nat.reduceLeDiff, Nat.reduceMul, Int.reduceBEq, Int.reduceBNe, Int.reduceLT, Int.reduceLE, Int.reduceGT, Int.reduceGE, w2, z2, bne_t a7, r1.cell, r5.cell]
          simp -dsimp (disch := omega) only [wrap64]
          exact ⟨i + 1, by omega, by simp [Le, find], by omega, p0, r1, good (by rw [hbad, a4, a5, a6, beq_t a7, b0]; rfl)⟩
        · simp -dsimp only [go_sem, ↓reduceIte, reduceCtorEq, Nat.reduceEqDiff, Nat.reduceAdd, Nat.reduceLeDiff, Nat.reduceMul, Int.reduceBEq, Int.reduceBNe, Int.reduceLT, Int.reduceLE, Int.reduceGT, Int.reduceGE, w2, z2, bne_f a7, r1.cell, r5.cell]
          exact ⟨p0, by rw [bad (by rw [hbad, beq_f a7]; simp)]⟩
  · obtain rfl : i = g.rmw.length := by omega
    rw [List.drop_length] at hat
    simp -dsimp only [go_sem, ↓reduceIte, reduceCtorEq, Nat.reduceEqDiff, Nat.reduceAdd, Nat.reduceLeDiff, Nat.reduceMul, Int.reduceBEq, Int.reduceBNe, Int.reduceLT, Int.reduceLE, Int.reduceGT, Int.reduceGE, Int.lt_irrefl, r1.cell]
    exact ⟨p0, by rw [hat]; rfl⟩
end Go.Proofs.Tst
/-
  The document's answer: rules 7 to 9.
-/
namespace Go.Proofs.Tst
open Go Go.Vc
def kr (which : Int) (k : Int) : Bool := if which = 7 then !(k == 3) else if which = 8 then k == 2 else true
set_option maxHeartbeats 1000000 in
theorem ref8_deps {h : Heap} {q : GV} {g : Gr} (t : GrAt h q g) {la : Option Addr} {lc : Nat} {l : List (Int × Int)} (tl : Rd 2 h (.slice la l.length lc) l.length (pairsV l)) (hl : l.length ≤ 8796093022208) (which : Int) :
    Con Tryd.prog 61 #[.agg (gcells q g).toArray, .slice la l.length lc, .int .i64 which] h fun v h' => Fr 0 0 h h' ∧ v = .int .i64 (g.depAt true l (kr which)) := by
  refine con_ref8_deps ?_
  have p0 : Fr 0 0 h h := .refl _ _ _
  have hen : g.evs.length = g.n := rfl
  unfold gcells
  simp -dsimp only [go_sem, ↓reduceIte, reduceCtorEq, Nat.reduceEqDiff, Nat.reduceAdd, Nat.reduceLeDiff, Nat.reduceMul, Int.reduceBEq, Int.reduceBNe, Int.reduceLT, Int.reduceLE, Int.reduceGT, Int.reduceGE]
  intro b1 h1 n1
  have n1_a := n1.at_
  have n1_z := n1.size
  replace p0 := p0.fresh (n1.fr (lo := 0) (hi := 0)) (by omega)
  have r1 := n1.row
  simp -dsimp only [go_sem, ↓reduceIte, reduceCtorEq, Nat.reduceEqDiff, Nat.reduceAdd, Nat.reduceLeDiff, Nat.reduceMul, Int.reduceBEq, Int.reduceBNe, Int.reduceLT, Int.reduceLE, Int.reduceGT, Int.reduceGE, r1.cell]
  refine loop_intro (fun i : Nat => [(1, .slice la l.length lc), (2, .int .i64 which), (3, .pointer (some ⟨b1, 0, none⟩)), (7, .int .i64 i)])
    (fun i h' => i ≤ l.length ∧ Fr 0 0 h h' ∧ Rw h' b1 (gcells q g) ∧ g.depAt true l (kr which) = Gr.firstBad (g.depBad true l (kr which)) (l.drop i) i) (fun i => l.length - i) 0 ?_ ?_ ?_
  · simp [Le, find]
  · exact ⟨by omega, p0, r1, rfl⟩
  clear p0 r1
  rintro i h2 ⟨hi, p0, r1, hat⟩
  unfold gcells at r1
  have p0_z := p0.size
  have r1_l := r1.lt
  by_cases hlt : i < l.length
  · have e1 : ((i : Int) < (l.length : Int)) := by omega
    obtain ⟨pb, po, hp, hpe⟩ := tl.pairsAt (by omega)
    have hq : l[i]? = some l[i] := by simp [hlt]
    rw [List.drop_eq_getElem_cons hlt] at hat
    generalize l[i] = pr at hq hat
    obtain ⟨u0, u1⟩ := hpe h2 p0 i _ hq
    subst hp
    have hp : True := trivial
    simp -dsimp only [go_sem, ↓reduceIte, reduceCtorEq, Nat.reduceEqDiff, Nat.reduceAdd, Nat.reduceLeDiff, Nat.reduceMul, Int.reduceBEq, Int.reduceBNe, Int.reduceLT, Int.reduceLE, Int.reduceGT, Int.reduceGE, e1, u0, u1, r1.cell]
    intro b5 h3 n3
    have n3_a := n3.at_
    have n3_z := n3.size
    replace p0 := p0.fresh (n3.fr (lo := 0) (hi := 0)) (by omega)
    replace r1 := r1.fr (n3.fr (lo := 0) (hi := 0)) (by omega)
    have r5 := n3.row
    simp -dsimp only [go_sem, ↓reduceIte, reduceCtorEq, Nat.reduceEqDiff, Nat.reduceAdd, Nat.reduceLeDiff, Nat.reduceMul, Int.reduceBEq, Int.reduceBNe, Int.reduceLT, Int.reduceLE, Int.reduceGT, Int.reduceGE, r1.cell, r5.cell]
    refine Chk_intro (r5.wr (by first | (simp; done) | (simp; omega))) fun h4 s4 => ?_
    have s4_z := s4.size
    replace p0 := p0.fresh s4.fr (by omega)
    replace r1 := r1.fr s4.fr (by omega)
    replace r5 := s4.row r5
    try simp only [cl_int, cl_bool, cl_slice, cl_ptr, putAt_one, List.set_cons_zero, List.set_cons_succ, ivec_set, brow_upd] at r5
    simp -dsimp only [go_sem, ↓reduceIte, reduceCtorEq, Nat.reduceEqDiff, Nat.reduceAdd, Nat.reduceLeDiff, Nat.reduceMul, Int.reduceBEq, Int.reduceBNe, Int.reduceLT, Int.reduceLE, Int.reduceGT, Int.reduceGE] at r5
    have hbad : (g.depBad true l (kr which) i pr) = ((decide (0 < i) && (decide (pr.1 < (l.getD (i - 1) default).1) || (pr.1 == (l.getD (i - 1) default).1) && decide (pr.2 ≤ (l.getD (i - 1) default).2))) || !true || !g.is pr.1 1 || !g.before pr.1 pr.2 || !kr which (g.ev pr.2.toNat).kind) := rfl
    have bad : (g.depBad true l (kr which) i pr) = true → g.depAt true l (kr which) = (i : Int) := fun hb => by rw [hat, firstBad_bad hb]
    have good : (g.depBad true l (kr which) i pr) = false → g.depAt true l (kr which) = Gr.firstBad (g.depBad true l (kr which)) (l.drop (i + 1)) (i + 1) := fun hb => by rw [hat, firstBad_ok hb]
    clear hat
    by_cases a0 : i = 0
    · have e2 : ¬ (i : Int) > 0 := by omega
      have b0 : (decide (0 < i) && (decide (pr.1 < (l.getD (i - 1) default).1) || (pr.1 == (l.getD (i - 1) default).1) && decide (pr.2 ≤ (l.getD (i - 1) default).2))) = false := by rw [dec_f (by omega)]; rfl
      obtain ⟨u2, u3⟩ := hpe h4 p0 i _ hq
      simp -dsimp only [go_sem, ↓reduceIte, reduceCtorEq, Nat.reduceEqDiff, Nat.reduceAdd, Nat.reduceLeDiff, Nat.reduceMul, Int.reduceBEq, Int.reduceBNe, Int.reduceLT, Int.reduceLE, Int.reduceGT, Int.reduceGE, e2, r1.cell, r5.cell]
      refine call_of (ref8_is (t.fr p0) pr.1 1) ?_
      rintro v5 h5 ⟨f5, rfl⟩
      have f5_z := f5.size
      replace p0 := p0.fresh f5 (by omega)
      replace r1 := r1.fr f5 (by omega)
      replace r5 := r5.fr f5 (by omega)
      replace u2 := f5.keep u2 (by omega)
      replace u3 := f5.keep u3 (by omega)
      cases a4 : g.is pr.1 1
      · simp -dsimp only [go_sem, ↓reduceIte, reduceCtorEq, Nat.reduceEqDiff, Nat.reduceAdd, Nat.reduceLeDiff, Nat.reduceMul, Int.reduceBEq, Int.reduceBNe, Int.reduceLT, Int.reduceLE, Int.reduceGT, Int.reduceGE, e2, r1.cell, r5.cell]
        exact ⟨p0, by rw [bad (by rw [hbad, a4]; simp)]⟩
      simp -dsimp only [go_sem, ↓reduceIte, reduceCtorEq, Nat.reduceEqDiff, Nat.reduceAdd, Nat.reduceLeDiff, Nat.reduceMul, Int.reduceBEq, Int.reduceBNe, Int.reduceLT, Int.reduceLE, Int.reduceGT, Int.reduceGE, e2, r1.cell, r5.cell]
      refine call_of (ref8_before (t.fr p0) pr.1 pr.2) ?_
      rintro v6 h6 ⟨f6, rfl⟩
      have f6_z := f6.size
      replace p0 := p0.fresh f6 (by omega)
      replace r1 := r1.fr f6 (by omega)
      replace r5 := r5.fr f6 (by omega)
      replace u2 := f6.keep u2 (by omega)
      replace u3 := f6.keep u3 (by omega)
      cases a5 : g.before pr.1 pr.2
      · simp -dsimp only [go_sem, ↓reduceIte, reduceCtorEq, Nat.reduceEqDiff, Nat.reduceAdd, Nat.reduceLeDiff, Nat.reduceMul, Int.reduceBEq, Int.reduceBNe, Int.reduceLT, Int.reduceLE, Int.reduceGT, Int.reduceGE, e2, r1.cell, r5.cell]
        exact ⟨p0, by rw [bad (by rw [hbad, a5]; simp)]⟩
      obtain ⟨m1, m2, m3⟩ := before_lt a5
      obtain ⟨pa, pz⟩ := pr
      dsimp only at *
      obtain ⟨y, hy⟩ := Int.eq_ofNat_of_zero_le (show 0 ≤ pz by omega)
      subst hy
      rw [Int.toNat_natCast] at hbad
      have hy2 : y < g.n := by omega
      obtain ⟨eb, eo, he, hev⟩ := t.evs (by omega)
      obtain ⟨-, z1, -⟩ := hev h6 p0 y hy2
      simp -dsimp only [go_sem, ↓reduceIte, reduceCtorEq, Nat.reduceEqDiff, Nat.reduceAdd, Nat.reduceLeDiff, Nat.reduceMul, Int.reduceBEq, Int.reduceBNe, Int.reduceLT, Int.reduceLE, Int.reduceGT, Int.reduceGE, he, evs_len, e2, r1.cell, r5.cell]
      refine Chk_intro (by omega) ?_
      simp -dsimp only [go_sem, ↓reduceIte, reduceCtorEq, Nat.reduceEqDiff, Nat.reduceAdd, Nat.reduceLeDiff, Nat.reduceMul, Int.reduceBEq, Int.reduceBNe, Int.reduceLT, Int.reduceLE, Int.reduceGT, Int.reduceGE, z1, r1.cell, r5.cell]
      have hbad2 : g.depBad true l (kr which) i (pa, (y : Int)) = !kr which (g.ev y).kind := by rw [hbad, a4, a5, b0]; rfl
      by_cases w7 : which = 7
      · have hkr : kr which (g.ev y).kind = !((g.ev y).kind == 3) := by unfold kr; rw [if_pos w7]
        by_cases k3 : (g.ev y).kind = 3
        · simp -dsimp only [go_sem, ↓reduceIte, reduceCtorEq, Nat.reduceEqDiff, Nat.reduceAdd, Nat.reduceLeDiff, Nat.reduceMul, Int.reduceBEq, Int.reduceBNe, Int.reduceLT, Int.reduceLE, Int.reduceGT, Int.reduceGE, beq_t w7, beq_t k3, r1.cell, r5.cell]
          exact ⟨p0, by rw [bad (by rw [hbad2, hkr, beq_t k3]; rfl)]⟩
        · simp -dsimp only [go_sem, ↓reduceIte, reduceCtorEq, Nat.reduceEqDiff, Nat.reduceAdd, Nat.reduceLeDiff, Nat.reduceMul, Int.reduceBEq, Int.reduceBNe, Int.reduceLT, Int.reduceLE, Int.reduceGT, Int.reduceGE, beq_t w7, beq_f k3, beq_f (show ¬ which = 8 by omega), r1.cell, r5.cell]
          simp -dsimp (disch := omega) only [wrap64]
          exact ⟨i + 1, by omega, by simp [Le, find, hp], by omega, p0, r1, good (by rw [hbad2, hkr, beq_f k3]; rfl)⟩
      · by_cases w8 : which = 8
        · have hkr : kr which (g.ev y).kind = ((g.ev y).kind == 2) := by unfold kr; rw [if_neg w7, if_pos w8]
          by_cases k2 : (g.ev y).kind = 2
          · simp -dsimp only [go_sem, ↓reduceIte, reduceCtorEq, Nat.reduceEqDiff, Nat.reduceAdd, Nat.reduceLeDiff, Nat.reduceMul, Int.reduceBEq, Int.reduceBNe, Int.reduceLT, Int.reduceLE, Int.reduceGT, Int.reduceGE, beq_f w7, beq_t w8, bne_t k2, r1.cell, r5.cell]
            simp -dsimp (disch := omega) only [wrap64]
            exact ⟨i + 1, by omega, by simp [Le, find, hp], by omega, p0, r1, good (by rw [hbad2, hkr, beq_t k2]; rfl)⟩
          · simp -dsimp only [go_sem, ↓reduceIte, reduceCtorEq, Nat.reduceEqDiff, Nat.reduceAdd, Nat.reduceLeDiff, Nat.reduceMul, Int.reduceBEq, Int.reduceBNe, Int.reduceLT, Int.reduceLE, Int.reduceGT, Int.reduceGE, beq_f w7, beq_t w8, bne_f k2, r1.cell, r5.cell]
            exact ⟨p0, by rw [bad (by rw [hbad2, hkr, beq_f k2]; rfl)]⟩
        · have hkr : kr which (g.ev y).kind = true := by unfold kr; rw [if_neg w7, if_neg w8]
          simp -dsimp only [go_sem, ↓reduceIte, reduceCtorEq, Nat.reduceEqDiff, Nat.reduceAdd, Nat.reduceLeDiff, Nat.reduceMul, Int.reduceBEq, Int.reduceBNe, Int.reduceLT, Int.reduceLE, Int.reduceGT, Int.reduceGE, beq_f w7, beq_f w8, r1.cell, r5.cell]
          simp -dsimp (disch := omega) only [wrap64]
          exact ⟨i + 1, by omega, by simp [Le, find, hp], by omega, p0, r1, good (by rw [hbad2, hkr]; rfl)⟩
    · have e2 : (i : Int) > 0 := by omega
      have hq2 : l[i - 1]? = some (l.getD (i - 1) default) := by simp [show i - 1 < l.length by omega]
      obtain ⟨u2, u3⟩ := hpe h4 p0 _ _ hq2
      generalize l.getD (i - 1) default = pv at hq2 u2 u3 hbad
      have hw : IntKind.i64.wrap ((i : Int) - 1) = ((i - 1 : Nat) : Int) := by rw [wrap64 (by omega) (by omega)]; omega
      simp -dsimp only [go_sem, ↓reduceIte, reduceCtorEq, Nat.reduceEqDiff, Nat.reduceAdd, Nat.reduceLeDiff, Nat.reduceMul, Int.reduceBEq, Int.reduceBNe, Int.reduceLT, Int.reduceLE, Int.reduceGT, Int.reduceGE, e2, hw, r1.cell, r5.cell]
      refine Chk_intro (by omega) ?_
      by_cases a1 : pr.1 < pv.1
      · simp -dsimp only [go_sem, ↓reduceIte, reduceCtorEq, Nat.reduceEqDiff, Nat.reduceAdd, Nat.reduceLeDiff, Nat.reduceMul, Int.reduceBEq, Int.reduceBNe, Int.reduceLT, Int.reduceLE, Int.reduceGT, Int.reduceGE, u2, a1, hw, e2, r1.cell, r5.cell]
        exact ⟨p0, by rw [bad (by rw [hbad, dec_t (show 0 < i by omega), dec_t a1]; rfl)]⟩
      · by_cases a2 : pr.1 = pv.1
        · simp -dsimp only [go_sem, ↓reduceIte, reduceCtorEq, Nat.reduceEqDiff, Nat.reduceAdd, Nat.reduceLeDiff, Nat.reduceMul, Int.reduceBEq, Int.reduceBNe, Int.reduceLT, Int.reduceLE, Int.reduceGT, Int.reduceGE, u2, a1, beq_t a2, hw, e2, r1.cell, r5.cell]
          refine Chk_intro (by omega) ?_
          simp -dsimp only [go_sem, ↓reduceIte, reduceCtorEq, Nat.reduceEqDiff, Nat.reduceAdd, Nat.reduceLeDiff, Nat.reduceMul, Int.reduceBEq, Int.reduceBNe, Int.reduceLT, Int.reduceLE, Int.reduceGT, Int.reduceGE, u2, a1, beq_t a2, hw, e2, r1.cell, r5.cell]
          refine Chk_intro (by omega) ?_
          by_cases a3 : pr.2 ≤ pv.2
          · simp -dsimp only [go_sem, ↓reduceIte, reduceCtorEq, Nat.reduceEqDiff, Nat.reduceAdd, Nat.reduceLeDiff, Nat.reduceMul, Int.reduceBEq, Int.reduceBNe, Int.reduceLT, Int.reduceLE, Int.reduceGT, Int.reduceGE, u2, u3, a1, a3, hw, e2, r1.cell, r5.cell]
            exact ⟨p0, by rw [bad (by rw [hbad, dec_t (show 0 < i by omega), beq_t a2, dec_t a3]; simp)]⟩
          · have b0 : (decide (0 < i) && (decide (pr.1 < pv.1) || (pr.1 == pv.1) && decide (pr.2 ≤ pv.2))) = false := by rw [dec_f a1, dec_f a3]; simp
            simp -dsimp only [go_sem, ↓reduceIte, reduceCtorEq, Nat.reduceEqDiff, Nat.reduceAdd, Nat.reduceLeDiff, Nat.reduceMul, Int.reduceBEq, Int.reduceBNe, Int.reduceLT, Int.reduceLE, Int.reduceGT, Int.reduceGE, u2, u3, a1, a3, hw, e2, r1.cell, r5.cell]
            refine call_of (ref8_is (t.fr p0) pr.1 1) ?_
            rintro v5 h5 ⟨f5, rfl⟩
            have f5_z := f5.size
            replace p0 := p0.fresh f5 (by omega)
            replace r1 := r1.fr f5 (by omega)
            replace r5 := r5.fr f5 (by omega)
            replace u2 := f5.keep u2 (by omega)
            replace u3 := f5.keep u3 (by omega)
            cases a4 : g.is pr.1 1
            · simp -dsimp only [go_sem, ↓reduceIte, reduceCtorEq, Nat.reduceEqDiff, Nat.reduceAdd, Nat.reduceLeDiff, Nat.reduceMul, Int.reduceBEq, Int.reduceBNe, Int.reduceLT, Int.reduceLE, Int.reduceGT, Int.reduceGE, u2, u3, hw, e2, a1, a3, r1.cell, r5.cell]
              exact ⟨p0, by rw [bad (by rw [hbad, a4]; simp)]⟩
            simp -dsimp only [go_sem, ↓reduceIte, reduceCtorEq, Nat.reduceEqDiff, Nat.reduceAdd, Nat.reduceLeDiff, Nat.reduceMul, Int.reduceBEq, Int.reduceBNe, Int.reduceLT, Int.reduceLE, Int.reduceGT, Int.reduceGE, u2, u3, hw, e2, a1, a3, r1.cell, r5.cell]
            refine call_of (ref8_before (t.fr p0) pr.1 pr.2) ?_
            rintro v6 h6 ⟨f6, rfl⟩
            have f6_z := f6.size
            replace p0 := p0.fresh f6 (by omega)
            replace r1 := r1.fr f6 (by omega)
            replace r5 := r5.fr f6 (by omega)
            replace u2 := f6.keep u2 (by omega)
            replace u3 := f6.keep u3 (by omega)
            cases a5 : g.before pr.1 pr.2
            · simp -dsimp only [go_sem, ↓reduceIte, reduceCtorEq, Nat.reduceEqDiff, Nat.reduceAdd, Nat.reduceLeDiff, Nat.reduceMul, Int.reduceBEq, Int.reduceBNe, Int.reduceLT, Int.reduceLE, Int.reduceGT, Int.reduceGE, u2, u3, hw, e2, a1, a3, r1.cell, r5.cell]
              exact ⟨p0, by rw [bad (by rw [hbad, a5]; simp)]⟩
            obtain ⟨m1, m2, m3⟩ := before_lt a5
            obtain ⟨pa, pz⟩ := pr
            dsimp only at *
            obtain ⟨y, hy⟩ := Int.eq_ofNat_of_zero_le (show 0 ≤ pz by omega)
            subst hy
            rw [Int.toNat_natCast] at hbad
            have hy2 : y < g.n := by omega
            obtain ⟨eb, eo, he, hev⟩ := t.evs (by omega)
            obtain ⟨-, z1, -⟩ := hev h6 p0 y hy2
            simp -dsimp only [go_sem, ↓reduceIte, reduceCtorEq, Nat.reduceEqDiff, Nat.reduceAdd, Nat.reduceLeDiff, Nat.reduceMul, Int.reduceBEq, Int.reduceBNe, Int.reduceLT, Int.reduceLE, Int.reduceGT, Int.reduceGE, he, evs_len, u2, u3, hw, e2, a1, a3, r1.cell, r5.cell]
            refine Chk_intro (by omega) ?_
            simp -dsimp only [go_sem, ↓reduceIte, reduceCtorEq, Nat.reduceEqDiff, Nat.reduceAdd, Nat.reduceLeDiff, Nat.reduceMul, Int.reduceBEq, Int.reduceBNe, Int.reduceLT, Int.reduceLE, Int.reduceGT, Int.reduceGE, z1, r1.cell, r5.cell]
            have hbad2 : g.depBad true l (kr which) i (pa, (y : Int)) = !kr which (g.ev y).kind := by rw [hbad, a4, a5, b0]; rfl
            by_cases w7 : which = 7
            · have hkr : kr which (g.ev y).kind = !((g.ev y).kind == 3) := by unfold kr; rw [if_pos w7]
              by_cases k3 : (g.ev y).kind = 3
              · simp -dsimp only [go_sem, ↓reduceIte, reduceCtorEq, Nat.reduceEqDiff, Nat.reduceAdd, Nat.reduceLeDiff, Nat.reduceMul, Int.reduceBEq, Int.reduceBNe, Int.reduceLT, Int.reduceLE, Int.reduceGT, Int.reduceGE, beq_t w7, beq_t k3, r1.cell, r5.cell]
                exact ⟨p0, by rw [bad (by rw [hbad2, hkr, beq_t k3]; rfl)]⟩
              · simp -dsimp only [go_sem, ↓reduceIte, reduceCtorEq, Nat.reduceEqDiff, Nat.reduceAdd, Nat.reduceLeDiff, Nat.reduceMul, Int.reduceBEq, Int.reduceBNe, Int.reduceLT, Int.reduceLE, Int.reduceGT, Int.reduceGE, beq_t w7, beq_f k3, beq_f (show ¬ which = 8 by omega), r1.cell, r5.cell]
                simp -dsimp (disch := omega) only [wrap64]
                exact ⟨i + 1, by omega, by simp [Le, find, hp], by omega, p0, r1, good (by rw [hbad2, hkr, beq_f k3]; rfl)⟩
            · by_cases w8 : which = 8
              · have hkr : kr which (g.ev y).kind = ((g.ev y).kind == 2) := by unfold kr; rw [if_neg w7, if_pos w8]
                by_cases k2 : (g.ev y).kind = 2
                · simp -dsimp only [go_sem, ↓reduceIte, reduceCtorEq, Nat.reduceEqDiff, Nat.reduceAdd, Nat.reduceLeDiff, Nat.reduceMul, Int.reduceBEq, Int.reduceBNe, Int.reduceLT, Int.reduceLE, Int.reduceGT, Int.reduceGE, beq_f w7, beq_t w8, bne_t k2, r1.cell, r5.cell]
                  simp -dsimp (disch := omega) only [wrap64]
                  exact ⟨i + 1, by omega, by simp [Le, find, hp], by omega, p0, r1, good (by rw [hbad2, hkr, beq_t k2]; rfl)⟩
                · simp -dsimp only [go_sem, ↓reduceIte, reduceCtorEq, Nat.reduceEqDiff, Nat.reduceAdd, Nat.reduceLeDiff, Nat.reduceMul, Int.reduceBEq, Int.reduceBNe, Int.reduceLT, Int.reduceLE, Int.reduceGT, Int.reduceGE, beq_f w7, beq_t w8, bne_f k2, r1.cell, r5.cell]
                  exact ⟨p0, by rw [bad (by rw [hbad2, hkr, beq_f k2]; rfl)]⟩
              · have hkr : kr which (g.ev y).kind = true := by unfold kr; rw [if_neg w7, if_neg w8]
                simp -dsimp only [go_sem, ↓reduceIte, reduceCtorEq, Nat.reduceEqDiff, Nat.reduceAdd, Nat.reduceLeDiff, Nat.reduceMul, Int.reduceBEq, Int.reduceBNe, Int.reduceLT, Int.reduceLE, Int.reduceGT, Int.reduceGE, beq_f w7, beq_f w8, r1.cell, r5.cell]
                simp -dsimp (disch := omega) only [wrap64]
                exact ⟨i + 1, by omega, by simp [Le, find, hp], by omega, p0, r1, good (by rw [hbad2, hkr]; rfl)⟩
        · have b0 : (decide (0 < i) && (decide (pr.1 < pv.1) || (pr.1 == pv.1) && decide (pr.2 ≤ pv.2))) = false := by rw [dec_f a1, beq_f a2]; simp
          simp -dsimp only [go_sem, ↓reduceIte, reduceCtorEq, Nat.reduceEqDiff, Nat.reduceAdd, Nat.reduceLeDiff, Nat.reduceMul, Int.reduceBEq, Int.reduceBNe, Int.reduceLT, Int.reduceLE, Int.reduceGT, Int.reduceGE, u2, a1, beq_f a2, hw, e2, r1.cell, r5.cell]
          refine Chk_intro (by omega) ?_
          simp -dsimp only [go_sem, ↓reduceIte, reduceCtorEq, Nat.reduceEqDiff, Nat.reduceAdd, Nat.reduceLeDiff, Nat.reduceMul, Int.reduceBEq, Int.reduceBNe, Int.reduceLT, Int.reduceLE, Int.reduceGT, Int.reduceGE, u2, a1, beq_f a2, hw, e2, r1.cell, r5.cell]
          refine call_of (ref8_is (t.fr p0) pr.1 1) ?_
          rintro v5 h5 ⟨f5, rfl⟩
          have f5_z := f5.size
          replace p0 := p0.fresh f5 (by omega)
          replace r1 := r1.fr f5 (by omega)
          replace r5 := r5.fr f5 (by omega)
          replace u2 := f5.keep u2 (by omega)
          replace u3 := f5.keep u3 (by omega)
          cases a4 : g.is pr.1 1
          · simp -dsimp only [go_sem, ↓reduceIte, reduceCtorEq, Nat.reduceEqDiff, Nat.reduceAdd, Nat.reduceLeDiff, Nat.reduceMul, Int.reduceBEq, Int.reduceBNe, Int.reduceLT, Int.reduceLE, Int.reduceGT, Int.reduceGE, u2, hw, e2, a1, beq_f a2, r1.cell, r5.cell]
            exact ⟨p0, by rw [bad (by rw [hbad, a4]; simp)]⟩
          simp -dsimp only [go_sem, ↓reduceIte, reduceCtorEq, Nat.reduceEqDiff, Nat.reduceAdd, Nat.reduceLeDiff, Nat.reduceMul, Int.reduceBEq, Int.reduceBNe, Int.reduceLT, Int.reduceLE, Int.reduceGT, Int.reduceGE, u2, hw, e2, a1, beq_f a2, r1.cell, r5.cell]
          refine call_of (ref8_before (t.fr p0) pr.1 pr.2) ?_
          rintro v6 h6 ⟨f6, rfl⟩
          have f6_z := f6.size
          replace p0 := p0.fresh f6 (by omega)
          replace r1 := r1.fr f6 (by omega)
          replace r5 := r5.fr f6 (by omega)
          replace u2 := f6.keep u2 (by omega)
          replace u3 := f6.keep u3 (by omega)
          cases a5 : g.before pr.1 pr.2
          · simp -dsimp only [go_sem, ↓reduceIte, reduceCtorEq, Nat.reduceEqDiff, Nat.reduceAdd, Nat.reduceLeDiff, Nat.reduceMul, Int.reduceBEq, Int.reduceBNe, Int.reduceLT, Int.reduceLE, Int.reduceGT, Int.reduceGE, u2, hw, e2, a1, beq_f a2, r1.cell, r5.cell]
            exact ⟨p0, by rw [bad (by rw [hbad, a5]; simp)]⟩
          obtain ⟨m1, m2, m3⟩ := before_lt a5
          obtain ⟨pa, pz⟩ := pr
          dsimp only at *
          obtain ⟨y, hy⟩ := Int.eq_ofNat_of_zero_le (show 0 ≤ pz by omega)
          subst hy
          rw [Int.toNat_natCast] at hbad
          have hy2 : y < g.n := by omega
          obtain ⟨eb, eo, he, hev⟩ := t.evs (by omega)
          obtain ⟨-, z1, -⟩ := hev h6 p0 y hy2
          simp -dsimp only [go_sem, ↓reduceIte, reduceCtorEq, Nat.reduceEqDiff, Nat.reduceAdd, Nat.reduceLeDiff, Nat.reduceMul, Int.reduceBEq, Int.reduceBNe, Int.reduceLT, Int.reduceLE, Int.reduceGT, Int.reduceGE, he, evs_len, u2, hw, e2, a1, beq_f a2, r1.cell, r5.cell]
          refine Chk_intro (by omega) ?_
          simp -dsimp only [go_sem, ↓reduceIte, reduceCtorEq, Nat.reduceEqDiff, Nat.reduceAdd, Nat.reduceLeDiff, Nat.reduceMul, Int.reduceBEq, Int.reduceBNe, Int.reduceLT, Int.reduceLE, Int.reduceGT, Int.reduceGE, z1, r1.cell, r5.cell]
          have hbad2 : g.depBad true l (kr which) i (pa, (y : Int)) = !kr which (g.ev y).kind := by rw [hbad, a4, a5, b0]; rfl
          by_cases w7 : which = 7
          · have hkr : kr which (g.ev y).kind = !((g.ev y).kind == 3) := by unfold kr; rw [if_pos w7]
            by_cases k3 : (g.ev y).kind = 3
            · simp -dsimp only [go_sem, ↓reduceIte, reduceCtorEq, Nat.reduceEqDiff, Nat.reduceAdd, Nat.reduceLeDiff, Nat.reduceMul, Int.reduceBEq, Int.reduceBNe, Int.reduceLT, Int.reduceLE, Int.reduceGT, Int.reduceGE, beq_t w7, beq_t k3, r1.cell, r5.cell]
              exact ⟨p0, by rw [bad (by rw [hbad2, hkr, beq_t k3]; rfl)]⟩
            · simp -dsimp only [go_sem, ↓reduceIte, reduceCtorEq, Nat.reduceEqDiff, Nat.reduceAdd, Nat.reduceLeDiff, Nat.reduceMul, Int.reduceBEq, Int.reduceBNe, Int.reduceLT, Int.reduceLE, Int.reduceGT, Int.reduceGE, beq_t w7, beq_f k3, beq_f (show ¬ which = 8 by omega), r1.cell, r5.cell]
              simp -dsimp (disch := omega) only [wrap64]
              exact ⟨i + 1, by omega, by simp [Le, find, hp], by omega, p0, r1, good (by rw [hbad2, hkr, beq_f k3]; rfl)⟩
          · by_cases w8 : which = 8
            · have hkr : kr which (g.ev y).kind = ((g.ev y).kind == 2) := by unfold kr; rw [if_neg w7, if_pos w8]
              by_cases k2 : (g.ev y).kind = 2
              · simp -dsimp only [go_sem, ↓reduceIte, reduceCtorEq, Nat.reduceEqDiff, Nat.reduceAdd, Nat.reduceLeDiff, Nat.reduceMul, Int.reduceBEq, Int.reduceBNe, Int.reduceLT, Int.reduceLE, Int.reduceGT, Int.reduceGE, beq_f w7, beq_t w8, bne_t k2, r1.cell, r5.cell]
                simp -dsimp (disch := omega) only [wrap64]
                exact ⟨i + 1, by omega, by simp [Le, find, hp], by omega, p0, r1, good (by rw [hbad2, hkr, beq_t k2]; rfl)⟩
              · simp -dsimp only [go_sem, ↓reduceIte, reduceCtorEq, Nat.reduceEqDiff, Nat.reduceAdd, Nat.reduceLeDiff, Nat.reduceMul, Int.reduceBEq, Int.reduceBNe, Int.reduceLT, Int.reduceLE, Int.reduceGT, Int.reduceGE, beq_f w7, beq_t w8, bne_f k2, r1.cell, r5.cell]
                exact ⟨p0, by rw [bad (by rw [hbad2, hkr, beq_f k2]; rfl)]⟩
            · have hkr : kr which (g.ev y).kind = true := by unfold kr; rw [if_neg w7, if_neg w8]
              simp -dsimp only [go_sem, ↓reduceIte, reduceCtorEq, Nat.reduceEqDiff, Nat.reduceAdd, Nat.reduceLeDiff, Nat.reduceMul, Int.reduceBEq, Int.reduceBNe, Int.reduceLT, Int.reduceLE, Int.reduceGT, Int.reduceGE, beq_f w7, beq_f w8, r1.cell, r5.cell]
              simp -dsimp (disch := omega) only [wrap64]
              exact ⟨i + 1, by omega, by simp [Le, find, hp], by omega, p0, r1, good (by rw [hbad2, hkr]; rfl)⟩
  · obtain rfl : i = l.length := by omega
    rw [List.drop_length] at hat
    simp -dsimp only [go_sem, ↓reduceIte, reduceCtorEq, Nat.reduceEqDiff, Nat.reduceAdd, Nat.reduceLeDiff, Nat.reduceMul, Int.reduceBEq, Int.reduceBNe, Int.reduceLT, Int.reduceLE, Int.reduceGT, Int.reduceGE, Int.lt_irrefl, r1.cell]
    exact ⟨p0, by rw [hat]; rfl⟩
end Go.Proofs.Tst
/-
  The document's answer: rule 5.
-/
namespace Go.Proofs.Tst
open Go Go.Vc
theorem coFirst_at {g : Gr} {c : Nat} (hc : c < g.lists) (h : ∀ x, x < c → g.coBad x (g.co.getD x []) = false) (hb : g.coBad c (g.co.getD c []) = true) : g.coAt = (c : Int) := by
  have e : g.coFirst = c := by
    unfold Gr.coFirst
    have : (List.range g.lists).find? (fun c => g.coBad c (g.co.getD c [])) = some c := by
      rw [List.find?_range_eq_some]
      exact ⟨hb, List.mem_range.2 hc, fun x hx => by rw [h x hx]; rfl⟩
    rw [this]; rfl
  unfold Gr.coAt
  rw [e, if_pos (.inl hc)]
theorem coFirst_all {g : Gr} (h : ∀ x, x < g.lists → g.coBad x (g.co.getD x []) = false) : g.coAt = if (g.co.length : Int) ≠ g.cells then (g.lists : Int) else -1 := by
  have e : g.coFirst = g.lists := by
    unfold Gr.coFirst
    have : (List.range g.lists).find? (fun c => g.coBad c (g.co.getD c [])) = none := by
      rw [List.find?_eq_none]; intro x hx; rw [List.mem_range] at hx; rw [h x hx]; simp
    rw [this]; rfl
  unfold Gr.coAt
  rw [e]
  simp
theorem coBad_len {g : Gr} {c : Nat} {l : List Int} (h : (l.length == g.writesOf c) = false) : g.coBad c l = true := by rw [coBad_of, h, Bool.and_false]; rfl
theorem coBad_ok {g : Gr} {c : Nat} {l : List Int} (h : coOk g c l = false) : g.coBad c l = true := by rw [coBad_of, h]; rfl
theorem coPre_false {g : Gr} {c : Nat} {l : List Int} {j : Nat} (h : coPre g c l j = false) : coOk g c l = false := by
  cases hc : coOk g c l
  · rfl
  · have : coPre g c l j = true := by
      unfold coOk at hc
      unfold coPre
      simp only [Bool.and_eq_true, List.all_eq_true, decide_eq_true_eq] at hc ⊢
      exact ⟨⟨hc.1.1, fun x hx => hc.1.2 x (List.mem_of_mem_take hx)⟩, hc.2.sublist (List.take_sublist _ _)⟩
    rw [h] at this; cases this
theorem coBad_pre {g : Gr} {c : Nat} {l : List Int} {j : Nat} (h : coPre g c l j = false) : g.coBad c l = true := coBad_ok (coPre_false h)
theorem cntTo_all (g : Gr) (x : Int) : cntTo g g.n x = g.writesOf x := by unfold cntTo Gr.writesOf Gr.n; rw [List.take_length]
theorem contains_take {l : List Int} {i j : Nat} {a : Int} (hj : j < i) (h : l[j]? = some a) : (l.take i).contains a = true := by
  simp only [List.contains_iff_mem]
  exact List.mem_of_getElem? (i := j) (by rw [List.getElem?_take, if_pos hj]; exact h)
theorem not_contains_take {l : List Int} {i : Nat} {a : Int} (h : ∀ j b, j < i → l[j]? = some b → b ≠ a) : (l.take i).contains a = false := by
  rw [← Bool.not_eq_true]
  intro hc
  simp only [List.contains_iff_mem] at hc
  obtain ⟨j, hj⟩ := List.mem_iff_getElem?.1 hc
  rw [List.getElem?_take] at hj
  split at hj
  · rename_i hlt; exact h j a hlt hj rfl
  · cases hj
theorem rl_at {h : Heap} {q : Option Addr} {n c : Nat} {L : List (List Int)} (t : RL h (.slice q n c) (L.map intsV)) : ∀ i, i < L.length → ∃ ob oo, q = some ⟨ob, oo, none⟩ ∧ ∃ la lc, ∀ h', Fr 0 0 h h' →
    hcell h' ob (oo + i) = some (.slice la (L.getD i []).length lc) ∧ Rd 1 h' (.slice la (L.getD i []).length lc) (L.getD i []).length (intsV (L.getD i [])) := by
  obtain ⟨us, h1, h2⟩ := t
  intro i hi
  have hl : (L.map intsV)[i]? = some (intsV (L.getD i [])) := by simp [hi]
  obtain ⟨w, hw, hr⟩ := h2 i _ hl
  rw [length_intsV] at hr
  obtain ⟨la, lc, rfl⟩ := hr.is
  obtain ⟨hlen, a, c', e1, e2⟩ := h1
  cases e1
  rcases e2 with e2 | ⟨ob, oo, rfl, hc⟩
  · rw [List.length_map] at e2; omega
  · exact ⟨ob, oo, rfl, la, lc, fun h' f => ⟨f.keep (hc i _ hw) (by omega), hr.fr f⟩⟩
set_option maxHeartbeats 1000000 in
theorem ref8_co {h : Heap} {q : GV} {g : Gr} (t : GrAt h q g) (hc0 : 0 ≤ g.cells) :
    Con Tryd.prog 59 #[.agg (gcells q g).toArray] h fun v h' => Fr 0 0 h h' ∧ v = .int .i64 g.coAt := by
  refine con_ref8_co ?_
  have p0 : Fr 0 0 h h := .refl _ _ _
  have hfe := t.fits.e
  have hfo := t.fits.o
  have hen : g.evs.length = g.n := rfl
  have hls : (g.lists : Int) ≤ g.cells ∧ g.lists ≤ g.co.length ∧ ((g.lists : Int) = g.cells ∨ g.lists = g.co.length) := by unfold Gr.lists; omega
  have hrl := rl_at t.o
  unfold gcells
  simp -dsimp only [go_sem, ↓reduceIte, reduceCtorEq, Nat.reduceEqDiff, Nat.reduceAdd, Nat.reduceLeDiff, Nat.reduceMul, Int.reduceBEq, Int.reduceBNe, Int.reduceLT, Int.reduceLE, Int.reduceGT, Int.reduceGE]
  intro b1 h1 n1
  have n1_a := n1.at_
  have n1_z := n1.size
  replace p0 := p0.fresh (n1.fr (lo := 0) (hi := 0)) (by omega)
  have r1 := n1.row
  simp -dsimp only [go_sem, ↓reduceIte, reduceCtorEq, Nat.reduceEqDiff, Nat.reduceAdd, Nat.reduceLeDiff, Nat.reduceMul, Int.reduceBEq, Int.reduceBNe, Int.reduceLT, Int.reduceLE, Int.reduceGT, Int.reduceGE, r1.cell]
  refine loop_intro (fun c : Nat => [(1, .pointer (some ⟨b1, 0, none⟩)), (3, .int .i64 c)])
    (fun c h' => c ≤ g.lists ∧ Fr 0 0 h h' ∧ Rw h' b1 (gcells q g) ∧ ∀ x, x < c → g.coBad x (g.co.getD x []) = false) (fun c => g.lists - c) 0 ?_ ?_ ?_
  · simp [Le, find]
  · exact ⟨by omega, p0, r1, fun x hx => by omega⟩
  clear p0 r1
  rintro c h2 ⟨hc, p0, r1, hgood⟩
  unfold gcells at r1
  have p0_z := p0.size
  have r1_l := r1.lt
  by_cases hlt : c < g.lists
  rotate_left
  · obtain rfl : c = g.lists := by omega
    have hall := coFirst_all hgood
    by_cases e3 : (g.co.length : Int) < g.cells
    · have e1 : (g.lists : Int) < g.cells := by omega
      have e2 : ¬ ((g.lists : Int) < (g.co.length : Int)) := by omega
      simp -dsimp only [go_sem, ↓reduceIte, reduceCtorEq, Nat.reduceEqDiff, Nat.reduceAdd, Nat.reduceLeDiff, Nat.reduceMul, Int.reduceBEq, Int.reduceBNe, Int.reduceLT, Int.reduceLE, Int.reduceGT, Int.reduceGE, e1, e2, e3, r1.cell]
      exact ⟨p0, by rw [hall, if_pos (by omega)]; congr 1; omega⟩
    · have e1 : ¬ (g.lists : Int) < g.cells := by omega
      by_cases e4 : (g.co.length : Int) > g.cells
      · simp -dsimp only [go_sem, ↓reduceIte, reduceCtorEq, Nat.reduceEqDiff, Nat.reduceAdd, Nat.reduceLeDiff, Nat.reduceMul, Int.reduceBEq, Int.reduceBNe, Int.reduceLT, Int.reduceLE, Int.reduceGT, Int.reduceGE, e1, e3, e4, r1.cell]
        exact ⟨p0, by rw [hall, if_pos (by omega)]; congr 1; omega⟩
      · simp -dsimp only [go_sem, ↓reduceIte, reduceCtorEq, Nat.reduceEqDiff, Nat.reduceAdd, Nat.reduceLeDiff, Nat.reduceMul, Int.reduceBEq, Int.reduceBNe, Int.reduceLT, Int.reduceLE, Int.reduceGT, Int.reduceGE, e1, e3, e4, r1.cell]
        exact ⟨p0, by rw [hall, if_neg (by omega)]⟩
  have e1 : ((c : Int) < g.cells) := by omega
  have e2 : ((c : Int) < (g.co.length : Int)) := by omega
  obtain ⟨ob, oo, hoe, la, lc, hlist⟩ := hrl c (by omega)
  have hll := t.fits.l (g.co.getD c []) (by have : g.co[c]? = some (g.co.getD c []) := by { simp [show c < g.co.length by omega] }; exact List.mem_of_getElem? this)
  have bad : g.coBad c (g.co.getD c []) = true → g.coAt = (c : Int) := coFirst_at hlt hgood
  have next : g.coBad c (g.co.getD c []) = false → ∀ x, x < c + 1 → g.coBad x (g.co.getD x []) = false := fun hb x hx => by
    by_cases hxc : x = c
    · subst hxc; exact hb
    · exact hgood x (by omega)
  generalize hl : g.co.getD c [] = l at hlist hll bad next
  obtain ⟨l1, l2⟩ := hlist h2 p0
  by_cases hz : l.length = 0
  · have e3 : (l.length : Int) = 0 := by omega
    simp -dsimp only [go_sem, ↓reduceIte, reduceCtorEq, Nat.reduceEqDiff, Nat.reduceAdd, Nat.reduceLeDiff, Nat.reduceMul, Int.reduceBEq, Int.reduceBNe, Int.reduceLT, Int.reduceLE, Int.reduceGT, Int.reduceGE, e1, e2, hoe, l1, beq_t e3, r1.cell]
    exact ⟨p0, by rw [bad (coBad_pre (j := 0) (by rw [coPre_zero]; cases l with | nil => rfl | cons x l => simp at hz))]⟩
  have e3 : ¬ (l.length : Int) = 0 := by omega
  obtain ⟨w0, hw0⟩ : ∃ w0, l[0]? = some w0 := ⟨l[0], by simp [show 0 < l.length by omega]⟩
  have hhd : l.head? = some w0 := by rw [List.head?_eq_getElem?]; exact hw0
  obtain ⟨lb, lo, hle, hlc⟩ : ∃ b o, la = some ⟨b, o, none⟩ ∧ ∀ h', Fr 0 0 h h' → ∀ (i : Nat) (x : Int), l[i]? = some x → hcell h' b (o + i) = some (.int .i64 x) := by
    obtain ⟨hl1, a, c', k1, k2⟩ := l2
    cases k1
    rcases k2 with k2 | ⟨b, o, k3, k4⟩
    · omega
    · refine ⟨b, o, k3, fun h' f i x hx => ?_⟩
      obtain ⟨-, a', c'', m1, m2⟩ := (hlist h' f).2
      cases m1
      rw [k3] at m2
      rcases m2 with m2 | ⟨b', o', m3, m4⟩
      · omega
      · cases m3; exact m4 i _ (intsV_get hx)
  have c0 := hlc h2 p0 0 _ hw0
  rw [Nat.add_zero] at c0
  have e4 : (0 : Int) < (l.length : Int) := by omega
  by_cases hwc : w0 = (c : Int)
  rotate_left
  · simp -dsimp only [go_sem, ↓reduceIte, reduceCtorEq, Nat.reduceEqDiff, Nat.reduceAdd, Nat.reduceLeDiff, Nat.reduceMul, Int.reduceBEq, Int.reduceBNe, Int.reduceLT, Int.reduceLE, Int.reduceGT, Int.reduceGE, e1, e2, hoe, l1, beq_f e3, hle, e4, c0, Int.toNat_zero, Nat.zero_mul, Nat.add_zero, bne_f hwc, r1.cell]
    exact ⟨p0, by rw [bad (coBad_pre (j := 0) (by rw [coPre_zero, hhd]; simpa using hwc))]⟩
  simp -dsimp only [go_sem, ↓reduceIte, reduceCtorEq, Nat.reduceEqDiff, Nat.reduceAdd, Nat.reduceLeDiff, Nat.reduceMul, Int.reduceBEq, Int.reduceBNe, Int.reduceLT, Int.reduceLE, Int.reduceGT, Int.reduceGE, e1, e2, hoe, l1, beq_f e3, hle, e4, c0, Int.toNat_zero, Nat.zero_mul, Nat.add_zero, bne_t hwc, r1.cell]
  refine loop_intro (fun i : Nat => [(1, .pointer (some ⟨b1, 0, none⟩)), (3, .int .i64 c), (4, .slice la l.length lc), (5, .int .i64 (cntTo g i c : Nat)), (6, .int .i64 i)])
    (fun i h' => i ≤ g.n ∧ Fr 0 0 h h' ∧ Rw h' b1 (gcells q g)) (fun i => g.n - i) 0 ?_ ?_ ?_
  · simp [Le, find, cntTo, hle]
  · exact ⟨by omega, p0, r1⟩
  clear l1 l2 c0 p0 r1
  rintro i h2 ⟨hi, p0, r1⟩
  unfold gcells at r1
  have p0_z := p0.size
  have r1_l := r1.lt
  have hcn : cntTo g i c ≤ g.n := Nat.le_trans List.countP_le_length (by rw [List.length_take]; unfold Gr.n; omega)
  by_cases hin : i < g.n
  · have e5 : ((i : Int) < (g.n : Int)) := by omega
    obtain ⟨eb, eo, he, hev⟩ := t.evs (by omega)
    obtain ⟨k0, k1, k2, k3, k4⟩ := hev h2 p0 i hin
    have hsucc := cntTo_succ hin (c : Int)
    by_cases a1 : (g.ev i).kind = 2
    · by_cases a2 : (g.ev i).loc = (c : Int)
      · have hww : IntKind.i64.wrap ((cntTo g i c : Int) + 1) = ((cntTo g i c + 1 : Nat) : Int) := by rw [wrap64 (by omega) (by omega)]; omega
        simp -dsimp only [go_sem, ↓reduceIte, reduceCtorEq, Nat.reduceEqDiff, Nat.reduceAdd, Nat.reduceLeDiff, Nat.reduceMul, Int.reduceBEq, Int.reduceBNe, Int.reduceLT, Int.reduceLE, Int.reduceGT, Int.reduceGE, e5, he, evs_len, r1.cell]
        simp -dsimp only [go_sem, ↓reduceIte, reduceCtorEq, Nat.reduceEqDiff, Nat.reduceAdd, Nat.reduceLeDiff, Nat.reduceMul, Int.reduceBEq, Int.reduceBNe, Int.reduceLT, Int.reduceLE, Int.reduceGT, Int.reduceGE, k1, beq_t a1, he, evs_len, e5, r1.cell]
        simp -dsimp only [go_sem, ↓reduceIte, reduceCtorEq, Nat.reduceEqDiff, Nat.reduceAdd, Nat.reduceLeDiff, Nat.reduceMul, Int.reduceBEq, Int.reduceBNe, Int.reduceLT, Int.reduceLE, Int.reduceGT, Int.reduceGE, k1, k2, beq_t a1, beq_t a2, he, evs_len, hww, r1.cell]
        simp -dsimp (disch := omega) only [wrap64]
        exact ⟨i + 1, by omega, by simp [Le, find, hsucc, a1, a2], by omega, p0, r1⟩
      · simp -dsimp only [go_sem, ↓reduceIte, reduceCtorEq, Nat.reduceEqDiff, Nat.reduceAdd, Nat.reduceLeDiff, Nat.reduceMul, Int.reduceBEq, Int.reduceBNe, Int.reduceLT, Int.reduceLE, Int.reduceGT, Int.reduceGE, e5, he, evs_len, r1.cell]
        simp -dsimp only [go_sem, ↓reduceIte, reduceCtorEq, Nat.reduceEqDiff, Nat.reduceAdd, Nat.reduceLeDiff, Nat.reduceMul, Int.reduceBEq, Int.reduceBNe, Int.reduceLT, Int.reduceLE, Int.reduceGT, Int.reduceGE, k1, beq_t a1, he, evs_len, e5, r1.cell]
        simp -dsimp only [go_sem, ↓reduceIte, reduceCtorEq, Nat.reduceEqDiff, Nat.reduceAdd, Nat.reduceLeDiff, Nat.reduceMul, Int.reduceBEq, Int.reduceBNe, Int.reduceLT, Int.reduceLE, Int.reduceGT, Int.reduceGE, k1, k2, beq_t a1, beq_f a2, he, evs_len, r1.cell]
        simp -dsimp (disch := omega) only [wrap64]
        exact ⟨i + 1, by omega, by simp [Le, find, hsucc, a2], by omega, p0, r1⟩
    · simp -dsimp only [go_sem, ↓reduceIte, reduceCtorEq, Nat.reduceEqDiff, Nat.reduceAdd, Nat.reduceLeDiff, Nat.reduceMul, Int.reduceBEq, Int.reduceBNe, Int.reduceLT, Int.reduceLE, Int.reduceGT, Int.reduceGE, e5, he, evs_len, r1.cell]
      simp -dsimp only [go_sem, ↓reduceIte, reduceCtorEq, Nat.reduceEqDiff, Nat.reduceAdd, Nat.reduceLeDiff, Nat.reduceMul, Int.reduceBEq, Int.reduceBNe, Int.reduceLT, Int.reduceLE, Int.reduceGT, Int.reduceGE, k1, beq_f a1, he, evs_len, r1.cell]
      simp -dsimp (disch := omega) only [wrap64]
      exact ⟨i + 1, by omega, by simp [Le, find, hsucc, a1], by omega, p0, r1⟩
  obtain rfl : i = g.n := by omega
  rw [cntTo_all]
  rw [cntTo_all] at hcn
  by_cases hn : l.length = g.writesOf c
  rotate_left
  · have e5 : ¬ (l.length : Int) = (g.writesOf c : Int) := by omega
    simp -dsimp only [go_sem, ↓reduceIte, reduceCtorEq, Nat.reduceEqDiff, Nat.reduceAdd, Nat.reduceLeDiff, Nat.reduceMul, Int.reduceBEq, Int.reduceBNe, Int.reduceLT, Int.reduceLE, Int.reduceGT, Int.reduceGE, evs_len, Int.lt_irrefl, bne_f e5, r1.cell]
    exact ⟨p0, by rw [bad (coBad_len (by simpa using hn))]⟩
  have e5 : (l.length : Int) = (g.writesOf c : Int) := by omega
  simp -dsimp only [go_sem, ↓reduceIte, reduceCtorEq, Nat.reduceEqDiff, Nat.reduceAdd, Nat.reduceLeDiff, Nat.reduceMul, Int.reduceBEq, Int.reduceBNe, Int.reduceLT, Int.reduceLE, Int.reduceGT, Int.reduceGE, evs_len, Int.lt_irrefl, bne_t e5, r1.cell]
  refine loop_intro (fun i : Nat => [(1, .pointer (some ⟨b1, 0, none⟩)), (3, .int .i64 c), (4, .slice la l.length lc), (7, .int .i64 i)])
    (fun i h' => i ≤ l.length ∧ Fr 0 0 h h' ∧ Rw h' b1 (gcells q g) ∧ coPre g c l i = true) (fun i => l.length - i) 0 ?_ ?_ ?_
  · simp [Le, find, hle]
  · exact ⟨by omega, p0, r1, by rw [coPre_zero, hhd, hwc]; simp⟩
  clear p0 r1
  rintro i h2 ⟨hi, p0, r1, hpre⟩
  unfold gcells at r1
  have p0_z := p0.size
  have r1_l := r1.lt
  by_cases hil : i < l.length
  rotate_left
  · obtain rfl : i = l.length := by omega
    have hok : g.coBad c l = false := by rw [coBad_of, ← coPre_all, hpre]; simpa using hn
    simp -dsimp only [go_sem, ↓reduceIte, reduceCtorEq, Nat.reduceEqDiff, Nat.reduceAdd, Nat.reduceLeDiff, Nat.reduceMul, Int.reduceBEq, Int.reduceBNe, Int.reduceLT, Int.reduceLE, Int.reduceGT, Int.reduceGE, Int.lt_irrefl, r1.cell]
    simp -dsimp (disch := omega) only [wrap64]
    exact ⟨c + 1, by omega, by simp [Le, find], by omega, p0, r1, next hok⟩
  have e6 : ((i : Int) < (l.length : Int)) := by omega
  obtain ⟨w, hq⟩ : ∃ w, l[i]? = some w := ⟨l[i], by simp [hil]⟩
  have cw := hlc h2 p0 i _ hq
  have hsucc := coPre_succ (g := g) (c := c) hq
  rw [hpre, Bool.true_and] at hsucc
  simp -dsimp only [go_sem, ↓reduceIte, reduceCtorEq, Nat.reduceEqDiff, Nat.reduceAdd, Nat.reduceLeDiff, Nat.reduceMul, Int.reduceBEq, Int.reduceBNe, Int.reduceLT, Int.reduceLE, Int.reduceGT, Int.reduceGE, e6, hle, r1.cell]
  simp -dsimp only [go_sem, ↓reduceIte, reduceCtorEq, Nat.reduceEqDiff, Nat.reduceAdd, Nat.reduceLeDiff, Nat.reduceMul, Int.reduceBEq, Int.reduceBNe, Int.reduceLT, Int.reduceLE, Int.reduceGT, Int.reduceGE, cw, r1.cell]
  refine call_of (ref8_is (t.fr p0) w 2) ?_
  rintro v5 h5 ⟨f5, rfl⟩
  have f5_z := f5.size
  replace p0 := p0.fresh f5 (by omega)
  replace r1 := r1.fr f5 (by omega)
  cases a4 : g.is w 2
  · simp -dsimp only [go_sem, ↓reduceIte, reduceCtorEq, Nat.reduceEqDiff, Nat.reduceAdd, Nat.reduceLeDiff, Nat.reduceMul, Int.reduceBEq, Int.reduceBNe, Int.reduceLT, Int.reduceLE, Int.reduceGT, Int.reduceGE, r1.cell]
    exact ⟨p0, by rw [bad (coBad_pre (j := i + 1) (by rw [hsucc]; unfold coGood; rw [a4]; rfl))]⟩
  obtain ⟨m1, m2, m3⟩ := is_lt a4
  obtain ⟨x, rfl⟩ := Int.eq_ofNat_of_zero_le m1
  obtain ⟨eb, eo, he, hev⟩ := t.evs (by omega)
  obtain ⟨w0', w1', w2', w3', w4'⟩ := hev h5 p0 x (by omega)
  have cw := hlc h5 p0 i _ hq
  have e7 : (0 : Int) ≤ (x : Int) ∧ (x : Int) < (g.n : Int) := by omega
  by_cases a5 : (g.ev x).loc = (c : Int)
  rotate_left
  · simp -dsimp only [go_sem, ↓reduceIte, reduceCtorEq, Nat.reduceEqDiff, Nat.reduceAdd, Nat.reduceLeDiff, Nat.reduceMul, Int.reduceBEq, Int.reduceBNe, Int.reduceLT, Int.reduceLE, Int.reduceGT, Int.reduceGE, hle, he, evs_len, e6, r1.cell]
    simp -dsimp only [go_sem, ↓reduceIte, reduceCtorEq, Nat.reduceEqDiff, Nat.reduceAdd, Nat.reduceLeDiff, Nat.reduceMul, Int.reduceBEq, Int.reduceBNe, Int.reduceLT, Int.reduceLE, Int.reduceGT, Int.reduceGE, cw, he, evs_len, hle, e6, r1.cell]
    refine Chk_intro (by omega) ?_
    simp -dsimp only [go_sem, ↓reduceIte, reduceCtorEq, Nat.reduceEqDiff, Nat.reduceAdd, Nat.reduceLeDiff, Nat.reduceMul, Int.reduceBEq, Int.reduceBNe, Int.reduceLT, Int.reduceLE, Int.reduceGT, Int.reduceGE, w2', bne_f a5, r1.cell]
    exact ⟨p0, by rw [bad (coBad_pre (j := i + 1) (by rw [hsucc]; unfold coGood; rw [Int.toNat_natCast, beq_f a5]; simp))]⟩
  have hgood2 : coGood g c (x : Int) = true := by unfold coGood; rw [a4, Int.toNat_natCast, beq_t a5]; rfl
  rw [hgood2, Bool.true_and] at hsucc
  simp -dsimp only [go_sem, ↓reduceIte, reduceCtorEq, Nat.reduceEqDiff, Nat.reduceAdd, Nat.reduceLeDiff, Nat.reduceMul, Int.reduceBEq, Int.reduceBNe, Int.reduceLT, Int.reduceLE, Int.reduceGT, Int.reduceGE, hle, he, evs_len, e6, r1.cell]
  simp -dsimp only [go_sem, ↓reduceIte, reduceCtorEq, Nat.reduceEqDiff, Nat.reduceAdd, Nat.reduceLeDiff, Nat.reduceMul, Int.reduceBEq, Int.reduceBNe, Int.reduceLT, Int.reduceLE, Int.reduceGT, Int.reduceGE, cw, he, evs_len, hle, e6, r1.cell]
  refine Chk_intro (by omega) ?_
  simp -dsimp only [go_sem, ↓reduceIte, reduceCtorEq, Nat.reduceEqDiff, Nat.reduceAdd, Nat.reduceLeDiff, Nat.reduceMul, Int.reduceBEq, Int.reduceBNe, Int.reduceLT, Int.reduceLE, Int.reduceGT, Int.reduceGE, w2', bne_t a5, r1.cell]
  refine loop_intro (fun j : Nat => [(1, .pointer (some ⟨b1, 0, none⟩)), (3, .int .i64 c), (4, .slice la l.length lc), (7, .int .i64 i), (8, .int .i64 j)])
    (fun j h' => j ≤ i ∧ Fr 0 0 h h' ∧ Rw h' b1 (gcells q g) ∧ ∀ k b, k < j → l[k]? = some b → b ≠ (x : Int)) (fun j => i - j) 0 ?_ ?_ ?_
  · simp [Le, find, hle]
  · exact ⟨by omega, p0, r1, fun k b hk => by omega⟩
  clear p0 r1 f5
  rintro j h2 ⟨hj, p0, r1, hno⟩
  unfold gcells at r1
  have p0_z := p0.size
  have r1_l := r1.lt
  by_cases hji : j < i
  · have e8 : ((j : Int) < (i : Int)) := by omega
    obtain ⟨z, hz2⟩ : ∃ z, l[j]? = some z := ⟨l[j], by simp [show j < l.length by omega]⟩
    have cz := hlc h2 p0 j _ hz2
    have cw := hlc h2 p0 i _ hq
    by_cases a6 : z = (x : Int)
    · simp -dsimp only [go_sem, ↓reduceIte, reduceCtorEq, Nat.reduceEqDiff, Nat.reduceAdd, Nat.reduceLeDiff, Nat.reduceMul, Int.reduceBEq, Int.reduceBNe, Int.reduceLT, Int.reduceLE, Int.reduceGT, Int.reduceGE, e8, hle, r1.cell]
      refine Chk_intro (by omega) ?_
      simp -dsimp only [go_sem, ↓reduceIte, reduceCtorEq, Nat.reduceEqDiff, Nat.reduceAdd, Nat.reduceLeDiff, Nat.reduceMul, Int.reduceBEq, Int.reduceBNe, Int.reduceLT, Int.reduceLE, Int.reduceGT, Int.reduceGE, cz, e6, hle, r1.cell]
      simp -dsimp only [go_sem, ↓reduceIte, reduceCtorEq, Nat.reduceEqDiff, Nat.reduceAdd, Nat.reduceLeDiff, Nat.reduceMul, Int.reduceBEq, Int.reduceBNe, Int.reduceLT, Int.reduceLE, Int.reduceGT, Int.reduceGE, cz, cw, beq_t a6, r1.cell]
      exact ⟨p0, by rw [bad (coBad_pre (j := i + 1) (by rw [hsucc, ← a6, contains_take hji hz2]; rfl))]⟩
    · simp -dsimp only [go_sem, ↓reduceIte, reduceCtorEq, Nat.reduceEqDiff, Nat.reduceAdd, Nat.reduceLeDiff, Nat.reduceMul, Int.reduceBEq, Int.reduceBNe, Int.reduceLT, Int.reduceLE, Int.reduceGT, Int.reduceGE, e8, hle, r1.cell]
      refine Chk_intro (by omega) ?_
      simp -dsimp only [go_sem, ↓reduceIte, reduceCtorEq, Nat.reduceEqDiff, Nat.reduceAdd, Nat.reduceLeDiff, Nat.reduceMul, Int.reduceBEq, Int.reduceBNe, Int.reduceLT, Int.reduceLE, Int.reduceGT, Int.reduceGE, cz, e6, hle, r1.cell]
      simp -dsimp only [go_sem, ↓reduceIte, reduceCtorEq, Nat.reduceEqDiff, Nat.reduceAdd, Nat.reduceLeDiff, Nat.reduceMul, Int.reduceBEq, Int.reduceBNe, Int.reduceLT, Int.reduceLE, Int.reduceGT, Int.reduceGE, cz, cw, beq_f a6, r1.cell]
      simp -dsimp (disch := omega) only [wrap64]
      refine ⟨j + 1, by omega, by simp [Le, find, hle], by omega, p0, r1, fun k b hk hb => ?_⟩
      by_cases hkj : k = j
      · subst hkj; rw [hz2] at hb; cases hb; exact a6
      · exact hno k b (by omega) hb
  · obtain rfl : j = i := by omega
    simp -dsimp only [go_sem, ↓reduceIte, reduceCtorEq, Nat.reduceEqDiff, Nat.reduceAdd, Nat.reduceLeDiff, Nat.reduceMul, Int.reduceBEq, Int.reduceBNe, Int.reduceLT, Int.reduceLE, Int.reduceGT, Int.reduceGE, Int.lt_irrefl, r1.cell]
    simp -dsimp (disch := omega) only [wrap64]
    exact ⟨j + 1, by omega, by simp [Le, find, hle], by omega, p0, r1, by rw [hsucc, not_contains_take hno]; rfl⟩
end Go.Proofs.Tst
