/-
  Contracts of functions that the law reaches: what each returns and what it leaves in memory. Conditions stand in each.
-/
import Derived.Test.YtgedofjefepebaaDoorT7
set_option linter.all false
set_option maxRecDepth 2000
/-
  Every Components and Reduction, by the program and by the document.
-/
namespace Go.Proofs.Tst
open Go Go.Vc
set_option maxHeartbeats 2000000 in
theorem c_law2_OrderParts {n : Int} {xv : Value} {x : List (Int × Int)} {h : Heap} (ht : TabAt h) (hx : Rd 2 h xv x.length (pairsV x)) (bx : x.length ≤ 8796093022208) :
    Con Tryd.prog 9 #[.int .i64 n, xv] h fun v h' => Fr 0 0 h h' ∧ v = .bool true := by
  refine con_law2_OrderParts ?_
  have hz : 0 < h.size := hcell_lt (ht 0 0 rfl)
  have hcl : clampN n ≤ 256 := by unfold clampN; omega
  have p0 : Fr 0 0 h h := .refl _ _ _
  simp -dsimp only [go_sem, ↓reduceIte, reduceCtorEq, Nat.reduceEqDiff, Nat.reduceAdd, Nat.reduceLeDiff, Nat.reduceMul, Int.reduceBEq, Int.reduceBNe, Int.reduceLT, Int.reduceLE, Int.reduceGT, Int.reduceGE]
  refine call_of (rel_Of n _ x h hx (by omega)) ?_
  rintro av h2 ⟨f2, ta⟩
  have f2_z := f2.size
  replace p0 := p0.fresh f2 (by omega)
  simp -dsimp only [go_sem, ↓reduceIte, reduceCtorEq, Nat.reduceEqDiff, Nat.reduceAdd, Nat.reduceLeDiff, Nat.reduceMul, Int.reduceBEq, Int.reduceBNe, Int.reduceLT, Int.reduceLE, Int.reduceGT, Int.reduceGE]
  refine call_of (ref1_Of n _ x h2 (hx.fr p0) (by omega)) ?_
  rintro dv h3 ⟨f3, td⟩
  have f3_z := f3.size
  replace p0 := p0.fresh f3 (by omega)
  replace ta := ta.fr f3 (by omega)
  generalize hM : ofM (clampN n) x = M at ta td
  generalize hk : clampN n = k at ta td hcl hM
  have hd := td
  have hr := ta
  obtain ⟨-, ds, dR, rfl, hd⟩ := hd
  obtain ⟨da, dc, rfl⟩ := hd.own.is
  obtain ⟨-, pb, rb, rR, rW, rfl, -⟩ := hr
  simp -dsimp only [go_sem, ↓reduceIte, reduceCtorEq, Nat.reduceEqDiff, Nat.reduceAdd, Nat.reduceLeDiff, Nat.reduceMul, Int.reduceBEq, Int.reduceBNe, Int.reduceLT, Int.reduceLE, Int.reduceGT, Int.reduceGE]
  intro b3 h4 n3
  have n3_a := n3.at_
  have n3_z := n3.size
  replace p0 := p0.fresh (n3.fr (lo := 0) (hi := 0)) (by omega)
  replace ta := ta.fr (n3.fr (lo := 0) (hi := 0)) (by omega)
  replace td := td.fr (n3.fr (lo := 0) (hi := 0)) (by omega)
  have r3 := n3.row
  simp -dsimp only [go_sem, ↓reduceIte, reduceCtorEq, Nat.reduceEqDiff, Nat.reduceAdd, Nat.reduceLeDiff, Nat.reduceMul, Int.reduceBEq, Int.reduceBNe, Int.reduceLT, Int.reduceLE, Int.reduceGT, Int.reduceGE, r3.cell]
  refine Chk_intro (r3.wr (by first | (simp; done) | (simp; omega))) fun h5 s4 => ?_
  have s4_z := s4.size
  replace p0 := p0.fresh s4.fr (by omega)
  replace ta := ta.fr s4.fr (by omega)
  replace td := td.fr s4.fr (by omega)
  replace r3 := s4.row r3
  try simp only [cl_int, cl_bool, cl_slice, cl_ptr, putAt_one, List.set_cons_zero, List.set_cons_succ, ivec_set, brow_upd] at r3
  simp -dsimp only [go_sem, ↓reduceIte, reduceCtorEq, Nat.reduceEqDiff, Nat.reduceAdd, Nat.reduceLeDiff, Nat.reduceMul, Int.reduceBEq, Int.reduceBNe, Int.reduceLT, Int.reduceLE, Int.reduceGT, Int.reduceGE] at r3
  simp -dsimp only [go_sem, ↓reduceIte, reduceCtorEq, Nat.reduceEqDiff, Nat.reduceAdd, Nat.reduceLeDiff, Nat.reduceMul, Int.reduceBEq, Int.reduceBNe, Int.reduceLT, Int.reduceLE, Int.reduceGT, Int.reduceGE, r3.cell]
  refine call_of (order_Components ta (ht.fr p0 (by omega))) ?_
  rintro lv h6 ⟨f6, us, LO, ap⟩
  have f6_z := f6.size
  replace p0 := p0.fresh f6 (by omega)
  replace ta := ta.fr f6 (by omega)
  replace td := td.fr f6 (by omega)
  replace r3 := r3.fr f6 (by omega)
  have k6 : h.size ≤ h2.size ∧ h2.size ≤ h3.size ∧ h3.size ≤ b3 ∧ b3 < h5.size ∧ h5.size ≤ h6.size := by omega
  have aT6 := LO.top
  simp -dsimp only [go_sem, ↓reduceIte, reduceCtorEq, Nat.reduceEqDiff, Nat.reduceAdd, Nat.reduceLeDiff, Nat.reduceMul, Int.reduceBEq, Int.reduceBNe, Int.reduceLT, Int.reduceLE, Int.reduceGT, Int.reduceGE, r3.cell]
  refine call_of (order_Components ta (ht.fr p0 (by omega))) ?_
  rintro bv h7 ⟨f7, bs, LB, -⟩
  have f7_z := f7.size
  replace p0 := p0.fresh f7 (by omega)
  replace ta := ta.fr f7 (by omega)
  replace td := td.fr f7 (by omega)
  replace r3 := r3.fr f7 (by omega)
  replace LO := LO.fr f7 (by first | exact Away.none (Nat.le_refl _) | exact LO.below (by omega) | exact LO.above (by omega) | assumption | exact fun w hw => (by have := aTop w hw; omega))
  simp -dsimp only [go_sem, ↓reduceIte, reduceCtorEq, Nat.reduceEqDiff, Nat.reduceAdd, Nat.reduceLeDiff, Nat.reduceMul, Int.reduceBEq, Int.reduceBNe, Int.reduceLT, Int.reduceLE, Int.reduceGT, Int.reduceGE, r3.cell]
  refine call_of (ref2_Components td) ?_
  rintro wv h8 ⟨f8, ws, LW⟩
  have f8_z := f8.size
  replace p0 := p0.fresh f8 (by omega)
  replace ta := ta.fr f8 (by omega)
  replace td := td.fr f8 (by omega)
  replace r3 := r3.fr f8 (by omega)
  replace LO := LO.fr f8 (by first | exact Away.none (Nat.le_refl _) | exact LO.below (by omega) | exact LO.above (by omega) | assumption | exact fun w hw => (by have := aTop w hw; omega))
  replace LB := LB.fr f8 (by first | exact Away.none (Nat.le_refl _) | exact LB.below (by omega) | exact LB.above (by omega) | assumption | exact fun w hw => (by have := aTop w hw; omega))
  have bS : (partsS k M).length ≤ 65536 := by have := parts_len (n := k) (M := M); omega
  have bE' : ∀ l ∈ partsS k M, l.length ≤ 256 := fun l hl => by
    obtain ⟨r, -, rfl⟩ := List.mem_map.1 hl
    have := memb_len (F := ldF k M) (r := r) (k := k); omega
  have bE : ∀ l ∈ partsS k M, l.length ≤ 4611686018427387904 := fun l hl => by have := bE' l hl; omega
  simp -dsimp only [go_sem, ↓reduceIte, reduceCtorEq, Nat.reduceEqDiff, Nat.reduceAdd, Nat.reduceLeDiff, Nat.reduceMul, Int.reduceBEq, Int.reduceBNe, Int.reduceLT, Int.reduceLE, Int.reduceGT, Int.reduceGE, r3.cell]
  refine call_of (c_lists_nats LO.rl LW.rl rfl (by omega) bE) ?_
  rintro v h9 ⟨hh, rfl⟩
  obtain rfl : h8 = h9 := hh.symm
  simp -dsimp only [go_sem, ↓reduceIte, reduceCtorEq, Nat.reduceEqDiff, Nat.reduceAdd, Nat.reduceLeDiff, Nat.reduceMul, Int.reduceBEq, Int.reduceBNe, Int.reduceLT, Int.reduceLE, Int.reduceGT, Int.reduceGE, r3.cell]
  have aT : ∀ w, w = lv ∨ w ∈ us → bh w ≤ h6.size := fun w hw => by
    have := aT6 w hw; omega
  have LB8 := LB
  have LW8 := LW
  have p08 := p0
  have ta8 := ta
  have td8 := td
  have r38 := r3
  generalize hL : (partsS k M).map natsV = L at LO
  have eL : (partsS k M).length = L.length := by rw [← hL, List.length_map]
  have bLs : ∀ l ∈ L, l.length ≤ 65536 := fun l hl => by
    rw [← hL] at hl
    obtain ⟨y, hy, rfl⟩ := List.mem_map.1 hl
    rw [length_natsV]; have := bE' y hy; omega
  have bLL : L.length ≤ 65536 := by omega
  obtain ⟨la, lc, rfl⟩ := LO.own.is
  have hz0 : 0 < h5.size := by omega
  refine loop_intro (fun i : Nat => [(0, .int .i64 n), (1, xv), (5, .pointer (some ⟨pb, 0, none⟩)), (6, .pointer (some ⟨b3, 0, none⟩)), (8, bv), (9, wv), (7, .slice la L.length lc), (10, .int .i64 i)]) (fun i h' => i ≤ L.length ∧ Fr h5.size h6.size h8 h' ∧ LL h' (.slice la L.length lc) us (mrk L i 0) h5.size) (fun i => L.length - i) 0 ?_ ?_ ?_
  · simp [Le, find]
  · exact ⟨by omega, .refl _ _ _, by rw [mrk_zero]; exact LO⟩
  clear LO
  rintro i g1 ⟨hi, pS, LO⟩
  have pS_z := pS.size
  have LOown := LO.own
  rw [mrk_len] at LOown
  simp -dsimp only [go_sem, ↓reduceIte, reduceCtorEq, Nat.reduceEqDiff, Nat.reduceAdd, Nat.reduceLeDiff, Nat.reduceMul, Int.reduceBEq, Int.reduceBNe, Int.reduceLT, Int.reduceLE, Int.reduceGT, Int.reduceGE]
  refine ⟨fun hlt => ?_, fun hge => ?_⟩
  · have hlt : i < L.length := by omega
    have hul : us.length = L.length := by rw [LO.len, mrk_len]
    have hu : us[i]? = some (us[i]'(by omega)) := List.getElem?_eq_getElem _
    have hmem : (us[i]'(by omega)) ∈ us := List.getElem_mem _
    generalize (us[i]'(by omega)) = u at hu hmem
    have hx : L[i]? = some L[i] := List.getElem?_eq_getElem _
    have hlb := bLs _ (List.getElem_mem hlt)
    generalize L[i] = l at hx hlb
    have ou := LO.at_ i u _ hu (mrk_at hx)
    rw [rowM_len] at ou
    obtain ⟨ua, uc, rfl⟩ := ou.is
    have uT := aT _ (.inr hmem)
    clear ou
    simp -dsimp only [go_sem, ↓reduceIte, reduceCtorEq, Nat.reduceEqDiff, Nat.reduceAdd, Nat.reduceLeDiff, Nat.reduceMul, Int.reduceBEq, Int.reduceBNe, Int.reduceLT, Int.reduceLE, Int.reduceGT, Int.reduceGE]
    refine loop_intro (fun j : Nat => [(0, .int .i64 n), (1, xv), (5, .pointer (some ⟨pb, 0, none⟩)), (6, .pointer (some ⟨b3, 0, none⟩)), (8, bv), (9, wv), (7, .slice la L.length lc), (10, .int .i64 i), (11, .int .i64 j)]) (fun j h' => j ≤ l.length ∧ Fr h5.size h6.size h8 h' ∧ LL h' (.slice la L.length lc) us (mrk L i j) h5.size) (fun j => l.length - j) 0 ?_ ?_ ?_
    · simp [Le, find]
    · exact ⟨by omega, pS, LO⟩
    clear pS_z pS LO LOown
    rintro j g2 ⟨hj, pS, LO⟩
    have pS_z := pS.size
    have LOown := LO.own
    rw [mrk_len] at LOown
    have ou := LO.at_ i _ _ hu (mrk_at hx)
    rw [rowM_len] at ou
    have ou_a := ou.at_
    simp -dsimp only [go_sem, ↓reduceIte, reduceCtorEq, Nat.reduceEqDiff, Nat.reduceAdd, Nat.reduceLeDiff, Nat.reduceMul, Int.reduceBEq, Int.reduceBNe, Int.reduceLT, Int.reduceLE, Int.reduceGT, Int.reduceGE]
    refine Chk_intro (by omega) (LOown.rd.idx (by omega) fun b3 o3 c3 => ?_)
    simp -dsimp only [go_sem, ↓reduceIte, reduceCtorEq, Nat.reduceEqDiff, Nat.reduceAdd, Nat.reduceLeDiff, Nat.reduceMul, Int.reduceBEq, Int.reduceBNe, Int.reduceLT, Int.reduceLE, Int.reduceGT, Int.reduceGE, c3 i _ hu]
    refine ⟨fun hlt2 => ?_, fun hge2 => ?_⟩
    · have hlt2 : j < l.length := by omega
      obtain ⟨b, c', rest, hv, -, -, hb⟩ := ou.blk (by omega)
      cases hv
      simp only [bl, bh] at uT ou_a
      have e1 : IntKind.i64.wrap (-1 - (i : Int)) = -1 - (i : Int) := wrap64 (by omega) (by omega)
      simp -dsimp only [go_sem, ↓reduceIte, reduceCtorEq, Nat.reduceEqDiff, Nat.reduceAdd, Nat.reduceLeDiff, Nat.reduceMul, Int.reduceBEq, Int.reduceBNe, Int.reduceLT, Int.reduceLE, Int.reduceGT, Int.reduceGE, e1]
      refine Chk_intro (by omega) (LOown.rd.idx (by omega) fun b4 o4 c4 => ?_)
      simp -dsimp only [go_sem, ↓reduceIte, reduceCtorEq, Nat.reduceEqDiff, Nat.reduceAdd, Nat.reduceLeDiff, Nat.reduceMul, Int.reduceBEq, Int.reduceBNe, Int.reduceLT, Int.reduceLE, Int.reduceGT, Int.reduceGE, c4 i _ hu, e1]
      refine Chk_intro (by omega) ?_
      simp -dsimp only [go_sem, ↓reduceIte, reduceCtorEq, Nat.reduceEqDiff, Nat.reduceAdd, Nat.reduceLeDiff, Nat.reduceMul, Int.reduceBEq, Int.reduceBNe, Int.reduceLT, Int.reduceLE, Int.reduceGT, Int.reduceGE, e1]
      refine Chk_intro (ou.wrAt hlt2) fun g3 s3 => ?_
      rw [cl_int] at s3
      have os := ou.set hlt2 s3
      have eset : (rowM i j l).set j (.int .i64 (-1 - (i : Int))) = rowM i (j + 1) l := rowM_set hlt2
      rw [eset] at os
      have LO' := LO.put hu (l := rowM i (j + 1) l) (by rw [rowM_len]; exact os) s3.fr ap
      rw [mrk_set hx] at LO'
      simp -dsimp only [go_sem, ↓reduceIte, reduceCtorEq, Nat.reduceEqDiff, Nat.reduceAdd, Nat.reduceLeDiff, Nat.reduceMul, Int.reduceBEq, Int.reduceBNe, Int.reduceLT, Int.reduceLE, Int.reduceGT, Int.reduceGE]
      simp -dsimp (disch := omega) only [wrap64]
      exact ⟨j + 1, by omega, by simp [Le, find], by omega, pS.freshIn s3.fr (by omega), LO'⟩
    · have hjl : j = l.length := by omega
      subst hjl
      simp -dsimp only [go_sem, ↓reduceIte, reduceCtorEq, Nat.reduceEqDiff, Nat.reduceAdd, Nat.reduceLeDiff, Nat.reduceMul, Int.reduceBEq, Int.reduceBNe, Int.reduceLT, Int.reduceLE, Int.reduceGT, Int.reduceGE]
      refine Chk_intro (by omega) (LOown.rd.idx (by omega) fun b4 o4 c4 => ?_)
      simp -dsimp only [go_sem, ↓reduceIte, reduceCtorEq, Nat.reduceEqDiff, Nat.reduceAdd, Nat.reduceLeDiff, Nat.reduceMul, Int.reduceBEq, Int.reduceBNe, Int.reduceLT, Int.reduceLE, Int.reduceGT, Int.reduceGE, c4 i _ hu]
      intro b5 g5 n5
      have n5_z := n5.size
      replace ou := ou.fr (n5.fr (lo := 0) (hi := 0)) (by omega)
      have LO5 := LO.fr (n5.fr (lo := 0) (hi := 0)) (.none (Nat.le_refl _))
      have pS5 := pS.freshIn (n5.fr (lo := 0) (hi := 0)) (by omega)
      simp -dsimp only [go_sem, ↓reduceIte, reduceCtorEq, Nat.reduceEqDiff, Nat.reduceAdd, Nat.reduceLeDiff, Nat.reduceMul, Int.reduceBEq, Int.reduceBNe, Int.reduceLT, Int.reduceLE, Int.reduceGT, Int.reduceGE, n5.row.cell]
      refine withC_of [.int .i64 7, .int .i64 7, .int .i64 7] 0 (fun j x hj => by rw [n5.row.cell, Nat.zero_add]; exact hj) ⟨rfl, Holder.appendOld (m := 3) ou rfl (by omega) rfl (by omega) fun v6 g6 o6 ow6 f6 e6 => ?_⟩
      obtain ⟨b6, c6, rest6, rfl, -, -, hb6⟩ := o6.blk (by omega)
      have e7 : IntKind.i64.wrap (((l.length + 3 : Nat) : Int) - 1) = ((l.length + 2 : Nat) : Int) := by rw [wrap64 (by omega) (by omega)]; omega
      simp -dsimp only [go_sem, ↓reduceIte, reduceCtorEq, Nat.reduceEqDiff, Nat.reduceAdd, Nat.reduceLeDiff, Nat.reduceMul, Int.reduceBEq, Int.reduceBNe, Int.reduceLT, Int.reduceLE, Int.reduceGT, Int.reduceGE, e7]
      refine Chk_intro (by omega) ?_
      simp -dsimp only [go_sem, ↓reduceIte, reduceCtorEq, Nat.reduceEqDiff, Nat.reduceAdd, Nat.reduceLeDiff, Nat.reduceMul, Int.reduceBEq, Int.reduceBNe, Int.reduceLT, Int.reduceLE, Int.reduceGT, Int.reduceGE]
      refine Chk_intro (o6.wrAt (by omega)) fun g7 s7 => ?_
      rw [cl_int] at s7
      obtain ⟨ow7, f7⟩ := grown hz0 (by omega) o6 ow6 (by omega) f6 e6 s7 (by omega)
      have LO' := LO5.put hu (l := rowM i l.length l) (by rw [rowM_len]; exact ow7) f7 ap
      rw [mrk_set' hx, mrk_next hx] at LO'
      simp -dsimp only [go_sem, ↓reduceIte, reduceCtorEq, Nat.reduceEqDiff, Nat.reduceAdd, Nat.reduceLeDiff, Nat.reduceMul, Int.reduceBEq, Int.reduceBNe, Int.reduceLT, Int.reduceLE, Int.reduceGT, Int.reduceGE]
      simp -dsimp (disch := omega) only [wrap64]
      exact ⟨i + 1, by omega, by simp [Le, find], by omega, pS5.freshIn f7 (by omega), LO'⟩
  have hiL : i = L.length := by omega
  subst hiL
  simp -dsimp only [go_sem, ↓reduceIte, reduceCtorEq, Nat.reduceEqDiff, Nat.reduceAdd, Nat.reduceLeDiff, Nat.reduceMul, Int.reduceBEq, Int.reduceBNe, Int.reduceLT, Int.reduceLE, Int.reduceGT, Int.reduceGE]
  refine loop_intro (fun i : Nat => [(0, .int .i64 n), (1, xv), (5, .pointer (some ⟨pb, 0, none⟩)), (6, .pointer (some ⟨b3, 0, none⟩)), (8, bv), (9, wv), (7, .slice la L.length lc), (13, .int .i64 i)]) (fun i h' => i ≤ L.length ∧ h' = g1) (fun i => L.length - i) 0 ?_ ?_ ?_
  · simp [Le, find]
  · exact ⟨by omega, rfl⟩
  rintro i g2 ⟨hi, hh⟩
  obtain rfl : g1 = g2 := hh.symm
  simp -dsimp only [go_sem, ↓reduceIte, reduceCtorEq, Nat.reduceEqDiff, Nat.reduceAdd, Nat.reduceLeDiff, Nat.reduceMul, Int.reduceBEq, Int.reduceBNe, Int.reduceLT, Int.reduceLE, Int.reduceGT, Int.reduceGE]
  refine ⟨fun hlt => ?_, fun hge => ?_⟩
  · have hlt : i < L.length := by omega
    have hul : us.length = L.length := by rw [LO.len, mrk_len]
    have hu : us[i]? = some (us[i]'(by omega)) := List.getElem?_eq_getElem _
    generalize (us[i]'(by omega)) = u at hu
    have hx : L[i]? = some L[i] := List.getElem?_eq_getElem _
    have hlb := bLs _ (List.getElem_mem hlt)
    generalize L[i] = l at hx hlb
    have ou := LO.at_ i u _ hu (mrk_end hx)
    rw [rowM_len] at ou
    obtain ⟨ua, uc, rfl⟩ := ou.is
    have e1 : IntKind.i64.wrap (-1 - (i : Int)) = -1 - (i : Int) := wrap64 (by omega) (by omega)
    simp -dsimp only [go_sem, ↓reduceIte, reduceCtorEq, Nat.reduceEqDiff, Nat.reduceAdd, Nat.reduceLeDiff, Nat.reduceMul, Int.reduceBEq, Int.reduceBNe, Int.reduceLT, Int.reduceLE, Int.reduceGT, Int.reduceGE]
    refine loop_intro (fun j : Nat => [(0, .int .i64 n), (1, xv), (5, .pointer (some ⟨pb, 0, none⟩)), (6, .pointer (some ⟨b3, 0, none⟩)), (8, bv), (9, wv), (7, .slice la L.length lc), (13, .int .i64 i), (14, .int .i64 j)]) (fun j h' => j ≤ l.length ∧ h' = g1) (fun j => l.length - j) 0 ?_ ?_ ?_
    · simp [Le, find]
    · exact ⟨by omega, rfl⟩
    rintro j g3 ⟨hj, hh⟩
    obtain rfl : g1 = g3 := hh.symm
    simp -dsimp only [go_sem, ↓reduceIte, reduceCtorEq, Nat.reduceEqDiff, Nat.reduceAdd, Nat.reduceLeDiff, Nat.reduceMul, Int.reduceBEq, Int.reduceBNe, Int.reduceLT, Int.reduceLE, Int.reduceGT, Int.reduceGE]
    refine Chk_intro (by omega) (LOown.rd.idx (by omega) fun b3 o3 c3 => ?_)
    simp -dsimp only [go_sem, ↓reduceIte, reduceCtorEq, Nat.reduceEqDiff, Nat.reduceAdd, Nat.reduceLeDiff, Nat.reduceMul, Int.reduceBEq, Int.reduceBNe, Int.reduceLT, Int.reduceLE, Int.reduceGT, Int.reduceGE, c3 i _ hu]
    refine ⟨fun hlt2 => ?_, fun hge2 => ?_⟩
    · have hlt2 : j < l.length := by omega
      simp -dsimp only [go_sem, ↓reduceIte, reduceCtorEq, Nat.reduceEqDiff, Nat.reduceAdd, Nat.reduceLeDiff, Nat.reduceMul, Int.reduceBEq, Int.reduceBNe, Int.reduceLT, Int.reduceLE, Int.reduceGT, Int.reduceGE]
      refine Chk_intro (by omega) (LOown.rd.idx (by omega) fun b4 o4 c4 => ?_)
      simp -dsimp only [go_sem, ↓reduceIte, reduceCtorEq, Nat.reduceEqDiff, Nat.reduceAdd, Nat.reduceLeDiff, Nat.reduceMul, Int.reduceBEq, Int.reduceBNe, Int.reduceLT, Int.reduceLE, Int.reduceGT, Int.reduceGE, c4 i _ hu]
      refine Chk_intro (by omega) (ou.rd.idx (by omega) fun b5 o5 c5 => ?_)
      have c5 := c5 j _ (rowM_get hlt2 hlt2)
      rw [mv] at c5
      have e8 : ((-1 - (i : Int)) != (-1 - (i : Int))) = false := by simp
      simp -dsimp only [go_sem, ↓reduceIte, reduceCtorEq, Nat.reduceEqDiff, Nat.reduceAdd, Nat.reduceLeDiff, Nat.reduceMul, Int.reduceBEq, Int.reduceBNe, Int.reduceLT, Int.reduceLE, Int.reduceGT, Int.reduceGE, c5, e1, e8]
      simp -dsimp (disch := omega) only [wrap64]
      exact ⟨j + 1, by omega, by simp [Le, find], by omega⟩
    · simp -dsimp only [go_sem, ↓reduceIte, reduceCtorEq, Nat.reduceEqDiff, Nat.reduceAdd, Nat.reduceLeDiff, Nat.reduceMul, Int.reduceBEq, Int.reduceBNe, Int.reduceLT, Int.reduceLE, Int.reduceGT, Int.reduceGE]
      simp -dsimp (disch := omega) only [wrap64]
      exact ⟨i + 1, by omega, by simp [Le, find], by omega⟩
  have pS_z := pS.size
  simp -dsimp only [go_sem, ↓reduceIte, reduceCtorEq, Nat.reduceEqDiff, Nat.reduceAdd, Nat.reduceLeDiff, Nat.reduceMul, Int.reduceBEq, Int.reduceBNe, Int.reduceLT, Int.reduceLE, Int.reduceGT, Int.reduceGE]
  have p0 := p08.fresh pS (by omega)
  have ta := ta8.fr pS (by omega)
  have td := td8.fr pS (by omega)
  have r3 := r38.fr pS (by omega)
  have LB := LB8.fr pS (LB8.below (by omega))
  have LW := LW8.fr pS (LW8.below (by omega))
  have p0_z := p0.size
  have r3_l := r3.lt
  refine call_of (c_lists_nats LB.rl LW.rl rfl (by omega) bE) ?_
  rintro v g3 ⟨hh, rfl⟩
  obtain rfl : g1 = g3 := hh.symm
  simp -dsimp only [go_sem, ↓reduceIte, reduceCtorEq, Nat.reduceEqDiff, Nat.reduceAdd, Nat.reduceLeDiff, Nat.reduceMul, Int.reduceBEq, Int.reduceBNe, Int.reduceLT, Int.reduceLE, Int.reduceGT, Int.reduceGE, r3.cell]
  refine call_of (ref2_Reduction td) ?_
  rintro v h10 ⟨f10, w10, hw10⟩
  have f10_z := f10.size
  replace p0 := p0.fresh f10 (by omega)
  replace r3 := r3.fr f10 (by omega)
  replace ta := ta.fr f10 (by omega)
  replace td := td.fr f10 (by omega)
  cases hI : irrB k (plusM k M) with
  | false =>
    rw [hI, if_neg (by simp)] at hw10
    obtain ⟨rfl, -, zs, zR, rfl, tz⟩ := hw10
    obtain ⟨za, zc, rfl⟩ := tz.own.is
    simp -dsimp only [go_sem, ↓reduceIte, reduceCtorEq, Nat.reduceEqDiff, Nat.reduceAdd, Nat.reduceLeDiff, Nat.reduceMul, Int.reduceBEq, Int.reduceBNe, Int.reduceLT, Int.reduceLE, Int.reduceGT, Int.reduceGE, r3.cell]
    intro b11 h11 n11
    have n11_a := n11.at_
    have n11_z := n11.size
    replace p0 := p0.fresh (n11.fr (lo := 0) (hi := 0)) (by omega)
    replace r3 := r3.fr (n11.fr (lo := 0) (hi := 0)) (by omega)
    replace ta := ta.fr (n11.fr (lo := 0) (hi := 0)) (by omega)
    replace td := td.fr (n11.fr (lo := 0) (hi := 0)) (by omega)
    have r11 := n11.row
    simp -dsimp only [go_sem, ↓reduceIte, reduceCtorEq, Nat.reduceEqDiff, Nat.reduceAdd, Nat.reduceLeDiff, Nat.reduceMul, Int.reduceBEq, Int.reduceBNe, Int.reduceLT, Int.reduceLE, Int.reduceGT, Int.reduceGE, r3.cell, r11.cell]
    refine Chk_intro (r11.wr (by first | (simp; done) | (simp; omega))) fun h12 s12 => ?_
    have s12_z := s12.size
    replace p0 := p0.fresh s12.fr (by omega)
    replace r3 := r3.fr s12.fr (by omega)
    replace ta := ta.fr s12.fr (by omega)
    replace td := td.fr s12.fr (by omega)
    replace r11 := s12.row r11
    try simp only [cl_int, cl_bool, cl_slice, cl_ptr, putAt_one, List.set_cons_zero, List.set_cons_succ, ivec_set, brow_upd] at r11
    simp -dsimp only [go_sem, ↓reduceIte, reduceCtorEq, Nat.reduceEqDiff, Nat.reduceAdd, Nat.reduceLeDiff, Nat.reduceMul, Int.reduceBEq, Int.reduceBNe, Int.reduceLT, Int.reduceLE, Int.reduceGT, Int.reduceGE] at r11
    simp -dsimp only [go_sem, ↓reduceIte, reduceCtorEq, Nat.reduceEqDiff, Nat.reduceAdd, Nat.reduceLeDiff, Nat.reduceMul, Int.reduceBEq, Int.reduceBNe, Int.reduceLT, Int.reduceLE, Int.reduceGT, Int.reduceGE, r3.cell, r11.cell]
    refine call_of (order_Reduction ta (ht.fr p0 (by omega))) ?_
    rintro v h13 ⟨f13, hw13⟩
    rw [hI, if_neg (by simp)] at hw13
    subst hw13
    have f13_z := f13.size
    replace p0 := p0.fresh f13 (by omega)
    replace r3 := r3.fr f13 (by omega)
    replace ta := ta.fr f13 (by omega)
    replace td := td.fr f13 (by omega)
    replace r11 := r11.fr f13 (by omega)
    simp -dsimp only [go_sem, ↓reduceIte, reduceCtorEq, Nat.reduceEqDiff, Nat.reduceAdd, Nat.reduceLeDiff, Nat.reduceMul, Int.reduceBEq, Int.reduceBNe, Int.reduceLT, Int.reduceLE, Int.reduceGT, Int.reduceGE, r3.cell, r11.cell]
    refine call_of (order_Reduction ta (ht.fr p0 (by omega))) ?_
    rintro v h14 ⟨f14, hw14⟩
    rw [hI, if_neg (by simp)] at hw14
    subst hw14
    have f14_z := f14.size
    replace p0 := p0.fresh f14 (by omega)
    replace r3 := r3.fr f14 (by omega)
    replace ta := ta.fr f14 (by omega)
    replace td := td.fr f14 (by omega)
    replace r11 := r11.fr f14 (by omega)
    simp -dsimp only [go_sem, ↓reduceIte, reduceCtorEq, Nat.reduceEqDiff, Nat.reduceAdd, Nat.reduceLeDiff, Nat.reduceMul, Int.reduceBEq, Int.reduceBNe, Int.reduceLT, Int.reduceLE, Int.reduceGT, Int.reduceGE, r3.cell, r11.cell]
    refine call_of (c_law2_lives (ht.fr p0 (by omega))) ?_
    rintro v h15 ⟨f15, rfl⟩
    have f15_z := f15.size
    replace p0 := p0.fresh f15 (by omega)
    replace r3 := r3.fr f15 (by omega)
    replace ta := ta.fr f15 (by omega)
    replace td := td.fr f15 (by omega)
    replace r11 := r11.fr f15 (by omega)
    simp -dsimp only [go_sem, ↓reduceIte, reduceCtorEq, Nat.reduceEqDiff, Nat.reduceAdd, Nat.reduceLeDiff, Nat.reduceMul, Int.reduceBEq, Int.reduceBNe, Int.reduceLT, Int.reduceLE, Int.reduceGT, Int.reduceGE, r3.cell, r11.cell]
    exact p0
  | true =>
    have p0_z := p0.size
    have r3_l := r3.lt
    rw [hI, if_pos rfl] at hw10
    obtain ⟨rfl, tw⟩ := hw10
    have tw2 := tw
    obtain ⟨-, zs, zR, rfl, tz⟩ := tw2
    obtain ⟨za, zc, rfl⟩ := tz.own.is
    simp -dsimp only [go_sem, ↓reduceIte, reduceCtorEq, Nat.reduceEqDiff, Nat.reduceAdd, Nat.reduceLeDiff, Nat.reduceMul, Int.reduceBEq, Int.reduceBNe, Int.reduceLT, Int.reduceLE, Int.reduceGT, Int.reduceGE, r3.cell]
    intro b11 h11 n11
    have n11_a := n11.at_
    have n11_z := n11.size
    replace p0 := p0.fresh (n11.fr (lo := 0) (hi := 0)) (by omega)
    replace r3 := r3.fr (n11.fr (lo := 0) (hi := 0)) (by omega)
    replace ta := ta.fr (n11.fr (lo := 0) (hi := 0)) (by omega)
    replace td := td.fr (n11.fr (lo := 0) (hi := 0)) (by omega)
    replace tw := tw.fr (n11.fr (lo := 0) (hi := 0)) (by omega)
    have r11 := n11.row
    simp -dsimp only [go_sem, ↓reduceIte, reduceCtorEq, Nat.reduceEqDiff, Nat.reduceAdd, Nat.reduceLeDiff, Nat.reduceMul, Int.reduceBEq, Int.reduceBNe, Int.reduceLT, Int.reduceLE, Int.reduceGT, Int.reduceGE, r3.cell, r11.cell]
    refine Chk_intro (r11.wr (by first | (simp; done) | (simp; omega))) fun h12 s12 => ?_
    have s12_z := s12.size
    replace p0 := p0.fresh s12.fr (by omega)
    replace r3 := r3.fr s12.fr (by omega)
    replace ta := ta.fr s12.fr (by omega)
    replace td := td.fr s12.fr (by omega)
    replace tw := tw.fr s12.fr (by omega)
    replace r11 := s12.row r11
    try simp only [cl_int, cl_bool, cl_slice, cl_ptr, putAt_one, List.set_cons_zero, List.set_cons_succ, ivec_set, brow_upd] at r11
    simp -dsimp only [go_sem, ↓reduceIte, reduceCtorEq, Nat.reduceEqDiff, Nat.reduceAdd, Nat.reduceLeDiff, Nat.reduceMul, Int.reduceBEq, Int.reduceBNe, Int.reduceLT, Int.reduceLE, Int.reduceGT, Int.reduceGE] at r11
    simp -dsimp only [go_sem, ↓reduceIte, reduceCtorEq, Nat.reduceEqDiff, Nat.reduceAdd, Nat.reduceLeDiff, Nat.reduceMul, Int.reduceBEq, Int.reduceBNe, Int.reduceLT, Int.reduceLE, Int.reduceGT, Int.reduceGE, r3.cell, r11.cell]
    refine call_of (order_Reduction ta (ht.fr p0 (by omega))) ?_
    rintro v h13 ⟨f13, hw13⟩
    rw [hI, if_pos rfl] at hw13
    obtain ⟨q13, rfl, t13⟩ := hw13
    have f13_z := f13.size
    replace p0 := p0.fresh f13 (by omega)
    replace r3 := r3.fr f13 (by omega)
    replace ta := ta.fr f13 (by omega)
    replace td := td.fr f13 (by omega)
    replace tw := tw.fr f13 (by omega)
    replace r11 := r11.fr f13 (by omega)
    simp -dsimp only [go_sem, ↓reduceIte, reduceCtorEq, Nat.reduceEqDiff, Nat.reduceAdd, Nat.reduceLeDiff, Nat.reduceMul, Int.reduceBEq, Int.reduceBNe, Int.reduceLT, Int.reduceLE, Int.reduceGT, Int.reduceGE, r3.cell, r11.cell]
    refine call_of (order_Reduction ta (ht.fr p0 (by omega))) ?_
    rintro v h14 ⟨f14, hw14⟩
    rw [hI, if_pos rfl] at hw14
    obtain ⟨q14, rfl, t14⟩ := hw14
    have f14_z := f14.size
    replace p0 := p0.fresh f14 (by omega)
    replace r3 := r3.fr f14 (by omega)
    replace ta := ta.fr f14 (by omega)
    replace td := td.fr f14 (by omega)
    replace tw := tw.fr f14 (by omega)
    replace r11 := r11.fr f14 (by omega)
    replace t13 := t13.fr f14 (by omega)
    simp -dsimp only [go_sem, ↓reduceIte, reduceCtorEq, Nat.reduceEqDiff, Nat.reduceAdd, Nat.reduceLeDiff, Nat.reduceMul, Int.reduceBEq, Int.reduceBNe, Int.reduceLT, Int.reduceLE, Int.reduceGT, Int.reduceGE, r3.cell, r11.cell]
    have k13 : h.size ≤ h12.size ∧ h12.size ≤ h13.size ∧ h13.size ≤ h14.size := by omega
    refine loop_intro (fun i : Nat => [(0, .int .i64 n), (1, xv), (5, .pointer (some ⟨pb, 0, none⟩)), (15, .pointer (some ⟨b11, 0, none⟩)), (17, .pointer (some ⟨q13, 0, none⟩)), (19, .pointer (some ⟨q14, 0, none⟩)), (21, .int .i64 i)])
      (fun i h' => i ≤ k ∧ Fr h13.size h14.size h14 h' ∧ h'.size = h14.size ∧ ∃ N, ProgAt h' h13.size h14.size (.pointer (some ⟨q14, 0, none⟩)) k N) (fun i => k - i) 0 ?_ ?_ ?_
    · simp [Le, find]
    · exact ⟨by omega, .refl _ _ _, rfl, _, t14⟩
    rintro i h15 ⟨hi, f15, z15, N, t15⟩
    have f15_z := f15.size
    replace p0 := p0.fresh f15 (by omega)
    replace r3 := r3.fr f15 (by omega)
    replace ta := ta.fr f15 (by omega)
    replace td := td.fr f15 (by omega)
    replace tw := tw.fr f15 (by omega)
    replace r11 := r11.fr f15 (by omega)
    replace t13 := t13.fr f15 (by omega)
    simp -dsimp only [go_sem, ↓reduceIte, reduceCtorEq, Nat.reduceEqDiff, Nat.reduceAdd, Nat.reduceLeDiff, Nat.reduceMul, Int.reduceBEq, Int.reduceBNe, Int.reduceLT, Int.reduceLE, Int.reduceGT, Int.reduceGE, r3.cell, r11.cell]
    refine call_of (rel_Len t15) ?_
    rintro v h16 ⟨hh, rfl⟩
    obtain rfl : h15 = h16 := hh.symm
    simp -dsimp only [go_sem, ↓reduceIte, reduceCtorEq, Nat.reduceEqDiff, Nat.reduceAdd, Nat.reduceLeDiff, Nat.reduceMul, Int.reduceBEq, Int.reduceBNe, Int.reduceLT, Int.reduceLE, Int.reduceGT, Int.reduceGE, r3.cell, r11.cell]
    refine ⟨fun hlt => ?_, fun hge => ?_⟩
    · have hlt : i < k := by omega
      simp -dsimp only [go_sem, ↓reduceIte, reduceCtorEq, Nat.reduceEqDiff, Nat.reduceAdd, Nat.reduceLeDiff, Nat.reduceMul, Int.reduceBEq, Int.reduceBNe, Int.reduceLT, Int.reduceLE, Int.reduceGT, Int.reduceGE, r3.cell, r11.cell]
      refine call_of (rel_Put t15 i i true) ?_
      rintro v h17 ⟨f17, z17, rfl, t17⟩
      simp -dsimp only [go_sem, ↓reduceIte, reduceCtorEq, Nat.reduceEqDiff, Nat.reduceAdd, Nat.reduceLeDiff, Nat.reduceMul, Int.reduceBEq, Int.reduceBNe, Int.reduceLT, Int.reduceLE, Int.reduceGT, Int.reduceGE, r3.cell, r11.cell]
      simp -dsimp (disch := omega) only [wrap64]
      exact ⟨i + 1, by omega, by simp [Le, find], by omega, f15.trans f17, by omega, _, t17⟩
    simp -dsimp only [go_sem, ↓reduceIte, reduceCtorEq, Nat.reduceEqDiff, Nat.reduceAdd, Nat.reduceLeDiff, Nat.reduceMul, Int.reduceBEq, Int.reduceBNe, Int.reduceLT, Int.reduceLE, Int.reduceGT, Int.reduceGE, r3.cell, r11.cell]
    refine call_of (rel_Len t13) ?_
    rintro v h16 ⟨hh, rfl⟩
    obtain rfl : h15 = h16 := hh.symm
    simp -dsimp only [go_sem, ↓reduceIte, reduceCtorEq, Nat.reduceEqDiff, Nat.reduceAdd, Nat.reduceLeDiff, Nat.reduceMul, Int.reduceBEq, Int.reduceBNe, Int.reduceLT, Int.reduceLE, Int.reduceGT, Int.reduceGE, r3.cell, r11.cell]
    refine call_of (rel_Pairs t13 (ht.fr p0 (by omega))) ?_
    rintro v h17 ⟨f17, o17⟩
    have f17_z := f17.size
    replace p0 := p0.fresh f17 (by omega)
    replace r3 := r3.fr f17 (by omega)
    replace ta := ta.fr f17 (by omega)
    replace td := td.fr f17 (by omega)
    replace tw := tw.fr f17 (by omega)
    replace r11 := r11.fr f17 (by omega)
    replace t13 := t13.fr f17 (by omega)
    simp -dsimp only [go_sem, ↓reduceIte, reduceCtorEq, Nat.reduceEqDiff, Nat.reduceAdd, Nat.reduceLeDiff, Nat.reduceMul, Int.reduceBEq, Int.reduceBNe, Int.reduceLT, Int.reduceLE, Int.reduceGT, Int.reduceGE, r3.cell, r11.cell]
    refine call_of (ref1_Pairs tw) ?_
    rintro v h18 ⟨f18, o18⟩
    have f18_z := f18.size
    replace p0 := p0.fresh f18 (by omega)
    replace r3 := r3.fr f18 (by omega)
    replace ta := ta.fr f18 (by omega)
    replace td := td.fr f18 (by omega)
    replace tw := tw.fr f18 (by omega)
    replace r11 := r11.fr f18 (by omega)
    replace t13 := t13.fr f18 (by omega)
    replace o17 := o17.fr f18 (by have := o17.at_; omega)
    have hpl : (pairsOf k (redM k M)).length ≤ 4611686018427387904 := by
      have g4 : (pairsOf k (redM k M)).length ≤ k * k := length_pairsTo_le k _ k
      have g3 : k * k ≤ 256 * 256 := Nat.mul_le_mul (by omega) (by omega)
      omega
    simp -dsimp only [go_sem, ↓reduceIte, reduceCtorEq, Nat.reduceEqDiff, Nat.reduceAdd, Nat.reduceLeDiff, Nat.reduceMul, Int.reduceBEq, Int.reduceBNe, Int.reduceLT, Int.reduceLE, Int.reduceGT, Int.reduceGE, r3.cell, r11.cell]
    refine call_of (c_law2_same o17.rd o18.rd hpl) ?_
    rintro v h19 ⟨hh, rfl⟩
    obtain rfl : h18 = h19 := hh.symm
    rw [decide_eq_true rfl]
    simp -dsimp only [go_sem, ↓reduceIte, reduceCtorEq, Nat.reduceEqDiff, Nat.reduceAdd, Nat.reduceLeDiff, Nat.reduceMul, Int.reduceBEq, Int.reduceBNe, Int.reduceLT, Int.reduceLE, Int.reduceGT, Int.reduceGE, r3.cell, r11.cell]
    refine call_of (rel_Of n _ x h18 (hx.fr p0) (by omega)) ?_
    rintro r' h20 ⟨f20, tr'⟩
    have f20_z := f20.size
    replace p0 := p0.fresh f20 (by omega)
    replace r3 := r3.fr f20 (by omega)
    replace ta := ta.fr f20 (by omega)
    replace td := td.fr f20 (by omega)
    replace tw := tw.fr f20 (by omega)
    replace r11 := r11.fr f20 (by omega)
    replace t13 := t13.fr f20 (by omega)
    replace o17 := o17.fr f20 (by have := o17.at_; omega)
    replace o18 := o18.fr f20 (by have := o18.at_; omega)
    rw [hk, hM] at tr'
    simp -dsimp only [go_sem, ↓reduceIte, reduceCtorEq, Nat.reduceEqDiff, Nat.reduceAdd, Nat.reduceLeDiff, Nat.reduceMul, Int.reduceBEq, Int.reduceBNe, Int.reduceLT, Int.reduceLE, Int.reduceGT, Int.reduceGE, r3.cell, r11.cell]
    refine call_of (rel_Equal ta tr' (ht.fr p0 (by omega))) ?_
    rintro v h21 ⟨f21, rfl⟩
    rw [eqP rfl fun i j _ _ => Iff.rfl]
    have f21_z := f21.size
    replace p0 := p0.fresh f21 (by omega)
    replace r3 := r3.fr f21 (by omega)
    replace ta := ta.fr f21 (by omega)
    replace td := td.fr f21 (by omega)
    replace tw := tw.fr f21 (by omega)
    replace r11 := r11.fr f21 (by omega)
    replace t13 := t13.fr f21 (by omega)
    replace o17 := o17.fr f21 (by have := o17.at_; omega)
    replace o18 := o18.fr f21 (by have := o18.at_; omega)
    replace tr' := tr'.fr f21 (by omega)
    simp -dsimp only [go_sem, ↓reduceIte, reduceCtorEq, Nat.reduceEqDiff, Nat.reduceAdd, Nat.reduceLeDiff, Nat.reduceMul, Int.reduceBEq, Int.reduceBNe, Int.reduceLT, Int.reduceLE, Int.reduceGT, Int.reduceGE, r3.cell, r11.cell]
    refine call_of (c_law2_lives (ht.fr p0 (by omega))) ?_
    rintro v h22 ⟨f22, rfl⟩
    have f22_z := f22.size
    replace p0 := p0.fresh f22 (by omega)
    replace r3 := r3.fr f22 (by omega)
    replace ta := ta.fr f22 (by omega)
    replace td := td.fr f22 (by omega)
    replace tw := tw.fr f22 (by omega)
    replace r11 := r11.fr f22 (by omega)
    replace t13 := t13.fr f22 (by omega)
    replace o17 := o17.fr f22 (by have := o17.at_; omega)
    replace o18 := o18.fr f22 (by have := o18.at_; omega)
    replace tr' := tr'.fr f22 (by omega)
    simp -dsimp only [go_sem, ↓reduceIte, reduceCtorEq, Nat.reduceEqDiff, Nat.reduceAdd, Nat.reduceLeDiff, Nat.reduceMul, Int.reduceBEq, Int.reduceBNe, Int.reduceLT, Int.reduceLE, Int.reduceGT, Int.reduceGE, r3.cell, r11.cell]
    exact p0
end Go.Proofs.Tst
/-
  From a contract to a row: what a law's call leaves; how arguments are read.
-/
namespace Go.Vc
open Go Go.RowKit Go.ChangeShapes Go.WideShapes Go.ChangeAt Go.Deep
section
variable {H : Type} {enc : TypeId × Value → H} {P : Program}
theorem trodAll_below (hl : laidOutB P = true) {W W' : World} (hb : Below W.heap.size W W') : ∀ {ts : List TypeId} {vs : List Value} {ds : List (DataW H)} {ps : List MemPlace},
    ts.all (fun t => P.readableRec t && decide (t < P.types.size)) = true → DataW.TrodAll enc P W 0 (fun _ => true) true ts vs ds ps → DataW.TrodAll enc P W' 0 (fun b => decide (b < W.heap.size)) true ts vs ds ps
  | [], _, _, _, _, h => by
    obtain ⟨rfl, rfl, rfl⟩ := trodAll_nil h
    exact rfl
  | t :: ts, _, _, _, hr, h => by
    have hlt := h.lt
    obtain ⟨v, vs, d, ds, p, q, rfl, rfl, rfl, h1, h2⟩ := trodAll_cons h
    simp only [List.all_cons, Bool.and_eq_true, decide_eq_true_eq] at hr
    exact ⟨p, q, Below.trod hl hr.1.1 hr.1.2 h1 hb (fun x hx => hlt x (List.mem_append_left _ hx)), trodAll_below hl hb hr.2 h2, rfl⟩

/-- What a law that answers true leaves. -/
theorem law_post {f : Func} {s : ChangeSpec} {W W' : World} {args : Array Value} {ds gs : List (DataW H)} {before : List MemPlace} {tb : TypeId}
    (hl : laidOutB P = true) (hp : f.params.toList.all (fun t => P.readableRec t && decide (t < P.types.size)) = true) (hv : s.vars = [])
    (hrt : f.resultTypes = #[tb]) (htb : P.underlying tb = some .bool) (hW : DataW.Whole enc P f.params.toList s.vars false W args.toList ds gs before)
    (hb : Below W.heap.size W W') (hfn : s.fn H (ds ++ gs) = { results := [.lit (.bool true)], args := ds }) : s.post enc P f false true false false W args (.bool true) W' := by
  have hW0 := hW
  obtain ⟨p, q, hA, hV, rfl, hz, hn⟩ := hW0
  rw [hv] at hV
  obtain ⟨rfl, rfl⟩ := trodVars_none hV
  refine ⟨ds, [], _, [], p, [], hW, ?_, ?_, ?_, ?_, fun h => by cases h⟩
  · rw [hfn, hrt]; exact trodAll_cons_mk (shut_bool htb true) trodAll_mk0
  · rw [hfn]; exact trodAll_below hl hb hp hA
  · rw [hfn, hv]; exact rfl
  · refine World.keptBut_mono (fun p hp => ⟨hp, ?_⟩) (hb.frame (· ∈ p ++ []))
    rw [List.append_nil] at hp
    exact .inr (.inl hp)

/-- The heap's part of a call that keeps all that was. -/
theorem below_of {w w' : World} (hf : Fr 0 0 w.heap w'.heap) (hl : Like none w w') : Below w.heap.size w w' :=
  ⟨hl.os, hl.tape, hl.output, hl.size, fun k hk => hf.old k hk (.inr (Nat.zero_le _))⟩

/-! ### Arguments -/
theorem cell?_plain {w : World} {a : Addr} {v : Value} (h : w.cell? a = some v) : a.spot = none := by
  unfold World.cell? at h
  split at h
  · split at h
    · cases h
    · rename_i hs; simpa using hs
  · cases h
theorem addr_plain {a : Addr} (h : a.spot = none) : a = ⟨a.block, a.off, none⟩ := by cases a; simp_all
theorem cell?_add {w : World} {a : Addr} (ha : a.spot = none) (j : Nat) : w.cell? (a.add j) = hcell w.heap a.block (a.off + j) := by
  rw [← cell?_heap]
  unfold Addr.add
  split
  · rename_i h; subst h; rw [Nat.add_zero, ← addr_plain ha]
  · rw [← ha]
theorem rd_of {w : World} {s n c : Nat} {a : Addr} {xs : List Value} (hs : 0 < s) (hl : xs.length = n * s) (hc : ∀ j, j < n * s → ∃ v, xs[j]? = some v ∧ w.cell? (a.add j) = some v) : Rd s w.heap (.slice (some a) n c) n xs := by
  refine ⟨hl, _, _, rfl, ?_⟩
  rcases Nat.eq_zero_or_pos n with h0 | h0
  · exact .inl h0
  · have hp : 0 < n * s := Nat.mul_pos h0 hs
    obtain ⟨v, _, hv⟩ := hc 0 hp
    have ha : a.spot = none := cell?_plain (w := w) (a := a) (by simpa [Addr.add] using hv)
    refine .inr ⟨a.block, a.off, by rw [← addr_plain ha], fun j x hj => ?_⟩
    obtain ⟨v, h1, h2⟩ := hc j (by have := (List.getElem?_eq_some_iff.1 hj).1; omega)
    rw [hj] at h1; cases h1
    rw [← cell?_add ha]; exact h2
theorem wf64 {n : Int} (h : (Lit.int .i64 n).wf = true) : -9223372036854775808 ≤ n ∧ n ≤ 9223372036854775807 := by
  simp only [Lit.wf, Bool.and_eq_true, decide_eq_true_eq] at h
  have e1 : IntKind.i64.min = -9223372036854775808 := by decide
  have e2 : IntKind.i64.max = 9223372036854775807 := by decide
  rw [e1, e2] at h; exact h

variable {w : World} {base : Nat} {held : Bool}
/-- A list of pairs that came in. -/
theorem arg_pairs {r : Reach} {b0 : Nat} {t e : TypeId} {f0 f1 : Field} {v : Value} {d : DataW H} {ps : List MemPlace} (ht : P.underlying t = some (.slice e)) (he : P.underlying e = some (.struct #[f0, f1])) (ce : P.cellsOf e = 2) (hby : P.bytesOf e = 16)
    (o0 : f0.offset = 0) (o1 : f1.offset = 1) (c0 : P.cellsOf f0.type = 1) (c1 : P.cellsOf f1.type = 1) (u0 : P.underlying f0.type = some (.int .i64)) (u1 : P.underlying f1.type = some (.int .i64))
    (hval : Value.okWide P w r b0 t v) (hd : DataW.Trod enc P w base (fun _ => true) held t v d ps) (hw : ∀ x ∈ d.weights P t, x ≤ reachBytes) :
    ∃ l : List (Int × Int), Rd 2 w.heap v l.length (pairsV l) ∧ l.length ≤ 8796093022208 ∧ ∀ x ∈ l, (-9223372036854775808 ≤ x.1 ∧ x.1 ≤ 9223372036854775807) ∧ -9223372036854775808 ≤ x.2 ∧ x.2 ≤ 9223372036854775807 := by
  obtain ⟨a, n, c, rfl⟩ := okWide_slice ht hval
  obtain ⟨fuel, hf⟩ := hd
  rcases open_slice_pairs ht he ce o0 o1 c0 c1 hf with ⟨h1, h2⟩ | ⟨a', len, cap, m, k, V0, V1, D0, D1, P0, P1, h1, _, hlc, _, hm, hx, hcell⟩
  · have h1 : [Value.slice a n c] = [.slice none 0 0] := h1
    cases h1
    exact ⟨[], ⟨rfl, _, _, rfl, .inl rfl⟩, by simp, by simp⟩
  · have h1 : [Value.slice a n c] = [.slice (some a') len cap] := h1
    cases h1
    simp only [if_true] at hm
    subst hm
    simp only [Prod.mk.injEq] at hx
    obtain ⟨rfl, rfl⟩ := hx
    have hwt := hw _ (by simp only [DataW.weights, ht]; exact List.mem_cons_self ..)
    simp only [List.length_map, List.length_range, hby] at hwt
    unfold reachBytes at hwt
    obtain ⟨Z, hZ⟩ := choose_lt (α := Int × Int) (n := m) (p := fun i z => V0 i = .int .i64 z.1 ∧ V1 i = .int .i64 z.2 ∧ (Lit.int .i64 z.1).wf = true ∧ (Lit.int .i64 z.2).wf = true) (fun i hi => by
      obtain ⟨_, _, g1, g2⟩ := hcell i hi
      obtain ⟨x, hx, _, hxw⟩ := DataW.trod_int u0 g1
      obtain ⟨y, hy, _, hyw⟩ := DataW.trod_int u1 g2
      exact ⟨(x, y), by simpa using hx, by simpa using hy, hxw, hyw⟩)
    have hl : ((List.range n).map Z).length = n := by simp
    refine ⟨(List.range n).map Z, ?_, by rw [hl]; omega, fun x hx => ?_⟩
    · rw [hl]
      refine rd_of (by omega) (by simp) fun j hj => ?_
      obtain ⟨i, hij⟩ : ∃ i, j = i * 2 ∨ j = i * 2 + 1 := ⟨j / 2, by omega⟩
      have hi : i < n := by omega
      have hg : ((List.range n).map Z)[i]? = some (Z i) := by simp [hi]
      obtain ⟨g1, g2⟩ := pairsV_get _ _ _ hg
      obtain ⟨h3, h4, _, _⟩ := hcell i (by omega)
      obtain ⟨h5, h6, _, _⟩ := hZ i (by omega)
      rcases hij with rfl | rfl
      · exact ⟨_, g1, by rw [h3, h5]⟩
      · exact ⟨_, g2, by rw [h4, h6]⟩
    · obtain ⟨i, hi, rfl⟩ := List.mem_map.1 hx
      obtain ⟨_, _, h7, h8⟩ := hZ i (by have := List.mem_range.1 hi; omega)
      exact ⟨wf64 h7, wf64 h8⟩
end
end Go.Vc
