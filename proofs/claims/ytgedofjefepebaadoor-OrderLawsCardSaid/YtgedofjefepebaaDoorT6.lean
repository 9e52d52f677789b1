/-
  Contracts of functions that the law reaches: what each returns and what it leaves in memory. Conditions stand in each.
-/
import Derived.Test.YtgedofjefepebaaDoorT5
set_option linter.all false
set_option maxRecDepth 2000
/-
  OrderLaws.
-/
namespace Go.Proofs.Tst
open Go Go.Vc
theorem Holder_cell {h : Heap} {b n c i : Nat} {xs : List Value} {x : Value} {lo : Nat} (w : Holder 1 h (.slice (some ⟨b, 0, none⟩) n c) n xs lo) (hx : xs[i]? = some x) : hcell h b i = some x := by
  have hi := (List.getElem?_eq_some_iff.1 hx).1
  have hl := w.1
  obtain ⟨b', c', rest, h1, h2, -, -⟩ := w.blk (by omega)
  cases h1
  rw [h2.cell, List.getElem?_append_left hi, hx]
def SortQ (h0 h' : Heap) (n : Nat) (M : Nat → Nat → Bool) (sv : Value) (e : Int) : Prop := (e = 0 ∧ ∃ m, sortS n M = some m ∧ Holder 1 h' sv m.length (natsV m) h0.size) ∨ (e = 3 ∧ sortS n M = none)
theorem SortQ.fr {h0 h h' : Heap} {n : Nat} {M : Nat → Nat → Bool} {sv : Value} {e : Int} (s : SortQ h0 h n M sv e) (f : Fr 0 0 h h') : SortQ h0 h' n M sv e := by
  rcases s with ⟨h1, m, h2, h3⟩ | h
  · exact .inl ⟨h1, m, h2, h3.fr f (by omega)⟩
  · exact .inr h
set_option maxHeartbeats 4000000 in
theorem c_law2_OrderLaws {n : Int} {xv lv : Value} {x ps : List (Int × Int)} {h : Heap} (ht : TabAt h) (hx : Rd 2 h xv x.length (pairsV x)) (hps : Rd 2 h lv ps.length (pairsV ps)) (bx : x.length ≤ 8796093022208) (bp : ps.length ≤ 8796093022208) :
    Con Tryd.prog 10 #[.int .i64 n, xv, lv] h fun v h' => Fr 0 0 h h' ∧ v = .bool true := by
  refine con_law2_OrderLaws ?_
  have hz : 0 < h.size := hcell_lt (ht 0 0 rfl)
  obtain ⟨pa, pc, rfl⟩ := hps.is
  have hM : ∃ M, M = ofM (clampN n) x := ⟨_, rfl⟩
  obtain ⟨M, hM⟩ := hM
  have hk : ∃ k, k = clampN n := ⟨_, rfl⟩
  obtain ⟨k, hk⟩ := hk
  have hk6 : k ≤ 256 := by rw [hk]; unfold clampN; omega
  rw [← hk] at hM
  have p0 : Fr 0 0 h h := .refl _ _ _
  refine w_joint (fun e h' => h' = h ∧ Le [(0, .int .i64 n), (1, xv), (2, .slice pa ps.length pc)] e) ?_ ?_
  · simp -dsimp only [go_sem, ↓reduceIte, reduceCtorEq, Nat.reduceEqDiff, Nat.reduceAdd, Nat.reduceLeDiff, Nat.reduceMul, Int.reduceBEq, Int.reduceBNe, Int.reduceLT, Int.reduceLE, Int.reduceGT, Int.reduceGE]
    simp [Le, find]
  rintro e h0 ⟨hh, e0, e1, e2, -⟩
  obtain rfl : h = h0 := hh.symm
  refine w_joint (fun e h' => Fr 0 0 h h' ∧ ∃ qa lo hi, Le [(2, .slice pa ps.length pc), (7, .pointer (some ⟨qa, 0, none⟩))] e ∧ ProgAt h' lo hi (.pointer (some ⟨qa, 0, none⟩)) k M) ?_ ?_
  · simp -dsimp only [go_sem, ↓reduceIte, reduceCtorEq, Nat.reduceEqDiff, Nat.reduceAdd, Nat.reduceLeDiff, Nat.reduceMul, Int.reduceBEq, Int.reduceBNe, Int.reduceLT, Int.reduceLE, Int.reduceGT, Int.reduceGE, e0, e1, e2]
    refine call_of (rel_Of n _ x h hx (by omega)) ?_
    rintro av h1 ⟨f1, ta⟩
    obtain ⟨qa, rfl⟩ := progPtr ta
    rw [← hk, ← hM] at ta
    simp -dsimp only [go_sem, ↓reduceIte, reduceCtorEq, Nat.reduceEqDiff, Nat.reduceAdd, Nat.reduceLeDiff, Nat.reduceMul, Int.reduceBEq, Int.reduceBNe, Int.reduceLT, Int.reduceLE, Int.reduceGT, Int.reduceGE, e0, e1, e2]
    exact ⟨f1, qa, _, _, by simp [Le, find], ta⟩
  clear p0
  rintro e h1 ⟨p0, qa, lo, hi, ⟨e2, e7, -⟩, ta⟩
  have p0_z := p0.size
  refine w_joint (fun e h' => Fr 0 0 h1 h' ∧ Le [(2, .slice pa ps.length pc), (7, .pointer (some ⟨qa, 0, none⟩))] e) ?_ ?_
  · simp -dsimp only [go_sem, ↓reduceIte, reduceCtorEq, Nat.reduceEqDiff, Nat.reduceAdd, Nat.reduceLeDiff, Nat.reduceMul, Int.reduceBEq, Int.reduceBNe, Int.reduceLT, Int.reduceLE, Int.reduceGT, Int.reduceGE, e2, e7]
    refine call_of (c_law2_lives (ht.fr p0 (by omega))) ?_
    rintro v h2 ⟨f2, rfl⟩
    simp -dsimp only [go_sem, ↓reduceIte, reduceCtorEq, Nat.reduceEqDiff, Nat.reduceAdd, Nat.reduceLeDiff, Nat.reduceMul, Int.reduceBEq, Int.reduceBNe, Int.reduceLT, Int.reduceLE, Int.reduceGT, Int.reduceGE, e2, e7]
    exact ⟨f2, by simp [Le, find, e2, e7]⟩
  rintro e h2 ⟨f2, e2, e7, -⟩
  have f2_z := f2.size
  replace p0 := p0.fresh f2 (by omega)
  replace ta := ta.fr f2 (by omega)
  refine w_joint (fun e h' => Fr 0 0 h2 h' ∧ ∃ sv c, Le [(2, .slice pa ps.length pc), (7, .pointer (some ⟨qa, 0, none⟩)), (8, sv), (9, .int .i64 c)] e ∧ SortQ h2 h' k M sv c) ?_ ?_
  · simp -dsimp only [go_sem, ↓reduceIte, reduceCtorEq, Nat.reduceEqDiff, Nat.reduceAdd, Nat.reduceLeDiff, Nat.reduceMul, Int.reduceBEq, Int.reduceBNe, Int.reduceLT, Int.reduceLE, Int.reduceGT, Int.reduceGE, e2, e7]
    refine call_of (order_Sort ta (ht.fr p0 (by omega))) ?_
    rintro v h3 ⟨f3, o3⟩
    cases hs : sortS k M with
    | none =>
      rw [hs] at o3
      simp only [ListOr] at o3
      subst o3
      simp -dsimp only [go_sem, ↓reduceIte, reduceCtorEq, Nat.reduceEqDiff, Nat.reduceAdd, Nat.reduceLeDiff, Nat.reduceMul, Int.reduceBEq, Int.reduceBNe, Int.reduceLT, Int.reduceLE, Int.reduceGT, Int.reduceGE, e2, e7]
      exact ⟨f3, .slice none 0 0, 3, by simp [Le, find], .inr ⟨rfl, hs⟩⟩
    | some m =>
      rw [hs] at o3
      obtain ⟨sw, rfl, o3⟩ := o3
      simp -dsimp only [go_sem, ↓reduceIte, reduceCtorEq, Nat.reduceEqDiff, Nat.reduceAdd, Nat.reduceLeDiff, Nat.reduceMul, Int.reduceBEq, Int.reduceBNe, Int.reduceLT, Int.reduceLE, Int.reduceGT, Int.reduceGE, e2, e7]
      exact ⟨f3, sw, 0, by simp [Le, find], .inl ⟨rfl, m, hs, o3⟩⟩
  rintro e h3 ⟨f3, sv, c, ⟨e2, e7, e8, e9, -⟩, hq⟩
  have hac := sort_acyc (n := k) (M := M)
  have f3_z := f3.size
  replace p0 := p0.fresh f3 (by omega)
  replace ta := ta.fr f3 (by omega)
  refine w_joint (fun e h' => Fr 0 0 h3 h' ∧ Le [(2, .slice pa ps.length pc), (7, .pointer (some ⟨qa, 0, none⟩)), (8, sv), (9, .int .i64 c)] e) ?_ ?_
  · simp -dsimp only [go_sem, ↓reduceIte, reduceCtorEq, Nat.reduceEqDiff, Nat.reduceAdd, Nat.reduceLeDiff, Nat.reduceMul, Int.reduceBEq, Int.reduceBNe, Int.reduceLT, Int.reduceLE, Int.reduceGT, Int.reduceGE, e2, e7, e8, e9]
    refine call_of (rel_Acyclic ta) ?_
    rintro v h4 ⟨f4, rfl⟩
    have tT4 := ht.fr (p0.trans f4) (by omega)
    rcases hq with ⟨rfl, m, hs, om⟩ | ⟨rfl, hs⟩
    · rw [hs] at hac
      have hI : irrB k (plusM k M) = true := hac.symm
      have em := natsV_ints m
      have eml : m.length = (m.map fun (p : Nat) => (p : Int)).length := by simp
      obtain ⟨m1, m2⟩ := sortGo_some k [] m Pre.nil hs
      have hml : m.length = k := by simpa using m2
      rw [hI]
      simp -dsimp only [go_sem, ↓reduceIte, reduceCtorEq, Nat.reduceEqDiff, Nat.reduceAdd, Nat.reduceLeDiff, Nat.reduceMul, Int.reduceBEq, Int.reduceBNe, Int.reduceLT, Int.reduceLE, Int.reduceGT, Int.reduceGE, e2, e7, e8, e9]
      refine call_of (order_Linear (l := m.map fun (p : Nat) => (p : Int)) (ta.fr f4 (by omega)) tT4 (by rw [← em, ← eml]; exact om.rd.fr f4) (by simp; omega)) ?_
      rintro v h5 ⟨f5, rfl⟩
      rw [decide_eq_true (linP_pre.2 ⟨m1, hml⟩)]
      simp -dsimp only [go_sem, ↓reduceIte, reduceCtorEq, Nat.reduceEqDiff, Nat.reduceAdd, Nat.reduceLeDiff, Nat.reduceMul, Int.reduceBEq, Int.reduceBNe, Int.reduceLT, Int.reduceLE, Int.reduceGT, Int.reduceGE, e2, e7, e8, e9]
      exact ⟨f4.trans f5, by simp [Le, find, e2, e7, e8, e9]⟩
    · rw [hs] at hac
      have hI : irrB k (plusM k M) = false := hac.symm
      rw [hI]
      simp -dsimp only [go_sem, ↓reduceIte, reduceCtorEq, Nat.reduceEqDiff, Nat.reduceAdd, Nat.reduceLeDiff, Nat.reduceMul, Int.reduceBEq, Int.reduceBNe, Int.reduceLT, Int.reduceLE, Int.reduceGT, Int.reduceGE, e2, e7, e8, e9]
      exact ⟨f4, by simp [Le, find, e2, e7, e8, e9]⟩
  rintro e h4 ⟨f4, e2, e7, e8, e9, -⟩
  have hq := hq.fr f4
  have f4_z := f4.size
  replace p0 := p0.fresh f4 (by omega)
  replace ta := ta.fr f4 (by omega)
  refine w_joint (fun e h' => Fr 0 0 h4 h' ∧ ∃ v gv c', v = .tuple #[gv, .int .i64 c'] ∧ Le [(2, .slice pa ps.length pc), (7, .pointer (some ⟨qa, 0, none⟩)), (8, sv), (9, .int .i64 c), (10, gv), (11, .int .i64 c')] e ∧ ResL h' h4.size v (glueS k M ps)) ?_ ?_
  · simp -dsimp only [go_sem, ↓reduceIte, reduceCtorEq, Nat.reduceEqDiff, Nat.reduceAdd, Nat.reduceLeDiff, Nat.reduceMul, Int.reduceBEq, Int.reduceBNe, Int.reduceLT, Int.reduceLE, Int.reduceGT, Int.reduceGE, e2, e7, e8, e9]
    refine call_of (order_Glue ta (ht.fr p0 (by omega)) (hps.fr p0) (by omega)) ?_
    rintro v h5 ⟨f5, o5⟩
    have o5' := o5
    cases hG : glueS k M ps with
    | ok g =>
      rw [hG] at o5
      obtain ⟨gw, rfl, og⟩ := o5
      rw [hG] at o5'
      simp -dsimp only [go_sem, ↓reduceIte, reduceCtorEq, Nat.reduceEqDiff, Nat.reduceAdd, Nat.reduceLeDiff, Nat.reduceMul, Int.reduceBEq, Int.reduceBNe, Int.reduceLT, Int.reduceLE, Int.reduceGT, Int.reduceGE, e2, e7, e8, e9]
      exact ⟨f5, _, gw, 0, rfl, by simp [Le, find], o5'⟩
    | error c' =>
      rw [hG] at o5 o5'
      simp only [ResL] at o5
      subst o5
      simp -dsimp only [go_sem, ↓reduceIte, reduceCtorEq, Nat.reduceEqDiff, Nat.reduceAdd, Nat.reduceLeDiff, Nat.reduceMul, Int.reduceBEq, Int.reduceBNe, Int.reduceLT, Int.reduceLE, Int.reduceGT, Int.reduceGE, e2, e7, e8, e9]
      exact ⟨f5, _, .slice none 0 0, c', rfl, by simp [Le, find], o5'⟩
  rintro e h5 ⟨f5, v, gv, c', rfl, ⟨e2, e7, e8, e9, e10, e11, -⟩, o5⟩
  have hq := hq.fr f5
  have f5_z := f5.size
  replace p0 := p0.fresh f5 (by omega)
  replace ta := ta.fr f5 (by omega)
  refine w_joint (fun e h' => Fr 0 0 h5 h' ∧ Le [(7, .pointer (some ⟨qa, 0, none⟩)), (8, sv), (9, .int .i64 c)] e) ?_ ?_
  · cases hG : glueS k M ps with
    | ok g =>
      rw [hG] at o5
      obtain ⟨gw, hgw, og⟩ := o5
      simp only [Value.tuple.injEq] at hgw
      have hgw1 : gv = gw ∧ c' = 0 := by simpa using hgw
      obtain ⟨rfl, rfl⟩ := hgw1
      obtain ⟨g1, g2, g3⟩ := glue_sound hG
      have eg := natsV_ints g
      have egl : g.length = (g.map fun (p : Nat) => (p : Int)).length := by simp
      simp -dsimp only [go_sem, ↓reduceIte, reduceCtorEq, Nat.reduceEqDiff, Nat.reduceAdd, Nat.reduceLeDiff, Nat.reduceMul, Int.reduceBEq, Int.reduceBNe, Int.reduceLT, Int.reduceLE, Int.reduceGT, Int.reduceGE, e2, e7, e8, e9, e10, e11]
      refine call_of (order_Linear (l := g.map fun (p : Nat) => (p : Int)) ta (ht.fr p0 (by omega)) (by rw [← eg, ← egl]; exact og.rd) (by simp; omega)) ?_
      rintro v h6 ⟨f6, rfl⟩
      rw [decide_eq_true (linP_pre.2 ⟨g1, g2⟩)]
      simp -dsimp only [go_sem, ↓reduceIte, reduceCtorEq, Nat.reduceEqDiff, Nat.reduceAdd, Nat.reduceLeDiff, Nat.reduceMul, Int.reduceBEq, Int.reduceBNe, Int.reduceLT, Int.reduceLE, Int.reduceGT, Int.reduceGE, e2, e7, e8, e9, e10, e11]
      refine call_of (c_law2_together (og.rd.fr f6) ((hps.fr p0).fr f6) (by omega) (by omega)) ?_
      rintro v h7 ⟨hh, bb, rfl, hbb⟩
      obtain rfl : h6 = h7 := hh.symm
      obtain rfl : bb = true := hbb.2 g3
      simp -dsimp only [go_sem, ↓reduceIte, reduceCtorEq, Nat.reduceEqDiff, Nat.reduceAdd, Nat.reduceLeDiff, Nat.reduceMul, Int.reduceBEq, Int.reduceBNe, Int.reduceLT, Int.reduceLE, Int.reduceGT, Int.reduceGE, e2, e7, e8, e9, e10, e11]
      exact ⟨f6, by simp [Le, find, e7, e8, e9]⟩
    | error c2 =>
      rw [hG] at o5
      simp only [ResL, Value.tuple.injEq] at o5
      have hgw1 : gv = .slice none 0 0 ∧ c' = c2 := by simpa using o5
      obtain ⟨rfl, rfl⟩ := hgw1
      have hne : ((c' : Int) == 0) = false := by
        rcases glue_err hG with rfl | ⟨rfl, -⟩ <;> rfl
      simp -dsimp only [go_sem, ↓reduceIte, reduceCtorEq, Nat.reduceEqDiff, Nat.reduceAdd, Nat.reduceLeDiff, Nat.reduceMul, Int.reduceBEq, Int.reduceBNe, Int.reduceLT, Int.reduceLE, Int.reduceGT, Int.reduceGE, e2, e7, e8, e9, e10, e11, hne]
      exact ⟨.refl _ _ _, by simp [Le, find, e7, e8, e9]⟩
  rintro e h6 ⟨f6, e7, e8, e9, -⟩
  have hq := hq.fr f6
  have f6_z := f6.size
  replace p0 := p0.fresh f6 (by omega)
  replace ta := ta.fr f6 (by omega)
  clear o5
  simp -dsimp only [go_sem, ↓reduceIte, reduceCtorEq, Nat.reduceEqDiff, Nat.reduceAdd, Nat.reduceLeDiff, Nat.reduceMul, Int.reduceBEq, Int.reduceBNe, Int.reduceLT, Int.reduceLE, Int.reduceGT, Int.reduceGE, e7, e8, e9]
  refine call_of (order_Components ta (ht.fr p0 (by omega))) ?_
  rintro cv h7 ⟨f7, us, LC, -⟩
  have hq := hq.fr f7
  have f7_z := f7.size
  replace p0 := p0.fresh f7 (by omega)
  replace ta := ta.fr f7 (by omega)
  have hC : ∃ C, C = partsS k M := ⟨_, rfl⟩
  obtain ⟨C, hC⟩ := hC
  have hCl : C.length ≤ k := by rw [hC]; exact parts_len
  rw [← hC] at LC
  have hflat : C.flatten = flatS k M := by rw [hC]; rfl
  obtain ⟨fp1, fp2⟩ := flat_pre (n := k) (M := M)
  have hfl : ∀ a, ((C.take a).flatten).length ≤ k := fun a => by
    have : (C.flatten).length = ((C.take a).flatten).length + ((C.drop a).flatten).length := by rw [← List.length_append, ← List.flatten_append, List.take_append_drop]
    rw [hflat, fp2] at this; omega
  have hrow : ∀ i r, (partsR k M)[i]? = some r → C[i]? = some (memb (ldF k M) r k) := fun i r h => by rw [hC, partsS, List.getElem?_map, h]; rfl
  have hrl : (partsR k M).length = C.length := by rw [hC, partsS, List.length_map]
  have hrep := (partsR_spec (n := k) (M := M)).2
  have elen : (C.map natsV).length = C.length := by simp
  have LCis := LC.own.is
  rw [elen] at LCis
  obtain ⟨ca, cc, rfl⟩ := LCis
  have hul : us.length = C.length := by rw [LC.len, elen]
  have LC7 := LC
  simp -dsimp only [go_sem, ↓reduceIte, reduceCtorEq, Nat.reduceEqDiff, Nat.reduceAdd, Nat.reduceLeDiff, Nat.reduceMul, Int.reduceBEq, Int.reduceBNe, Int.reduceLT, Int.reduceLE, Int.reduceGT, Int.reduceGE]
  refine loop_intro (fun s : Nat × Value => [(7, .pointer (some ⟨qa, 0, none⟩)), (8, sv), (9, .int .i64 c), (12, s.2), (13, .slice ca C.length cc), (14, .int .i64 s.1)])
    (fun s h' => s.1 ≤ C.length ∧ Fr 0 0 h7 h' ∧ Holder 1 h' s.2 ((C.take s.1).flatten).length (natsV (C.take s.1).flatten) h7.size) (fun s => C.length - s.1) (0, .slice none 0 0) ?_ ?_ ?_
  · simp [Le, find]
  · exact ⟨by omega, .refl _ _ _, .none _ _ _⟩
  rintro ⟨a, fv⟩ h8 ⟨ha, f8, oo⟩
  dsimp only at ha oo ⊢
  have f8_z := f8.size
  have LC8 := LC7.fr f8 (.none (Nat.le_refl _))
  have LCown := LC8.own
  rw [elen] at LCown
  have hfa := hfl a
  obtain ⟨fa, fc, rfl⟩ := oo.is
  simp -dsimp only [go_sem, ↓reduceIte, reduceCtorEq, Nat.reduceEqDiff, Nat.reduceAdd, Nat.reduceLeDiff, Nat.reduceMul, Int.reduceBEq, Int.reduceBNe, Int.reduceLT, Int.reduceLE, Int.reduceGT, Int.reduceGE]
  refine ⟨fun hlt => ?_, fun hge => ?_⟩
  · have hlt : a < C.length := by omega
    have hu : us[a]? = some (us[a]'(by omega)) := List.getElem?_eq_getElem _
    generalize (us[a]'(by omega)) = u at hu
    have hxx : C[a]? = some C[a] := List.getElem?_eq_getElem _
    have htk : C.take (a + 1) = C.take a ++ [C[a]] := by rw [List.take_succ_eq_append_getElem hlt]
    generalize C[a] = m at hxx htk
    have hml : m.length ≤ k := by
      have := hfl (a + 1)
      rw [htk, List.flatten_append, List.length_append] at this
      simp at this; omega
    have hmu := LC8.at_ a u (natsV m) hu (by rw [List.getElem?_map, hxx]; rfl)
    rw [length_natsV] at hmu
    obtain ⟨ua, uc, rfl⟩ := hmu.is
    simp -dsimp only [go_sem, ↓reduceIte, reduceCtorEq, Nat.reduceEqDiff, Nat.reduceAdd, Nat.reduceLeDiff, Nat.reduceMul, Int.reduceBEq, Int.reduceBNe, Int.reduceLT, Int.reduceLE, Int.reduceGT, Int.reduceGE]
    refine Chk_intro (by omega) (LCown.rd.idx (by omega) fun b9 o9 c9 => ?_)
    simp -dsimp only [go_sem, ↓reduceIte, reduceCtorEq, Nat.reduceEqDiff, Nat.reduceAdd, Nat.reduceLeDiff, Nat.reduceMul, Int.reduceBEq, Int.reduceBNe, Int.reduceLT, Int.reduceLE, Int.reduceGT, Int.reduceGE, c9 a _ hu]
    have oo_a := oo.at_
    refine oo.appendRd hmu.rd (by omega) rfl (by omega) (oc_nats m) (by omega) fun v10 h10 o10 f10 e10 => ?_
    have ef : (C.take (a + 1)).flatten = (C.take a).flatten ++ m := by rw [htk, List.flatten_append]; simp
    simp -dsimp only [go_sem, ↓reduceIte, reduceCtorEq, Nat.reduceEqDiff, Nat.reduceAdd, Nat.reduceLeDiff, Nat.reduceMul, Int.reduceBEq, Int.reduceBNe, Int.reduceLT, Int.reduceLE, Int.reduceGT, Int.reduceGE]
    simp -dsimp (disch := omega) only [wrap64]
    exact ⟨(a + 1, v10), by first | omega | (dsimp only; omega), by simp [Le, find], by first | omega | (dsimp only; omega), f8.fresh f10 (by omega), by dsimp only; rw [ef, natsV_append, List.length_append]; exact o10⟩
  have hal : a = C.length := by omega
  subst hal
  rw [List.take_length, hflat] at oo ⊢
  rw [fp2] at oo ⊢
  have hq := hq.fr f8
  have f8_z := f8.size
  replace p0 := p0.fresh f8 (by omega)
  replace ta := ta.fr f8 (by omega)
  simp -dsimp only [go_sem, ↓reduceIte, reduceCtorEq, Nat.reduceEqDiff, Nat.reduceAdd, Nat.reduceLeDiff, Nat.reduceMul, Int.reduceBEq, Int.reduceBNe, Int.reduceLT, Int.reduceLE, Int.reduceGT, Int.reduceGE]
  refine call_of (rel_Plus ta) ?_
  rintro pv h9 ⟨f9, tp⟩
  obtain ⟨qp, rfl⟩ := progPtr tp
  have hq := hq.fr f9
  have f9_z := f9.size
  replace p0 := p0.fresh f9 (by omega)
  replace ta := ta.fr f9 (by omega)
  replace oo := oo.fr f9 (by omega)
  have LC9 := LC8.fr f9 (.none (Nat.le_refl _))
  have LCown := LC9.own
  rw [elen] at LCown
  simp -dsimp only [go_sem, ↓reduceIte, reduceCtorEq, Nat.reduceEqDiff, Nat.reduceAdd, Nat.reduceLeDiff, Nat.reduceMul, Int.reduceBEq, Int.reduceBNe, Int.reduceLT, Int.reduceLE, Int.reduceGT, Int.reduceGE]
  refine loop_intro (fun i : Nat => [(7, .pointer (some ⟨qa, 0, none⟩)), (8, sv), (9, .int .i64 c), (12, .slice fa k fc), (13, .slice ca C.length cc), (15, .pointer (some ⟨qp, 0, none⟩)), (16, .int .i64 i)])
    (fun i h' => i ≤ C.length ∧ h' = h9) (fun i => C.length - i) 0 ?_ ?_ ?_
  · simp [Le, find]
  · exact ⟨by omega, rfl⟩
  rintro i h10 ⟨hi, hh⟩
  obtain rfl : h9 = h10 := hh.symm
  simp -dsimp only [go_sem, ↓reduceIte, reduceCtorEq, Nat.reduceEqDiff, Nat.reduceAdd, Nat.reduceLeDiff, Nat.reduceMul, Int.reduceBEq, Int.reduceBNe, Int.reduceLT, Int.reduceLE, Int.reduceGT, Int.reduceGE]
  refine ⟨fun hlt => ?_, fun hge => ?_⟩
  · have hlt : i < C.length := by omega
    obtain ⟨bc, cc', restc, hv, -, -, -⟩ := LCown.blk (by omega)
    cases hv
    have rowF : ∀ i, i < C.length → ∃ (r bu cu : Nat), (partsR k M)[i]? = some r ∧ r < k ∧ ldF k M r = r ∧ hcell h9 bc i = some (.slice (some ⟨bu, 0, none⟩) (memb (ldF k M) r k).length cu) ∧ (∀ (j q : Nat), (memb (ldF k M) r k)[j]? = some q → hcell h9 bu j = some (.int .i64 q)) ∧ (memb (ldF k M) r k)[0]? = some r := fun i hi => by
      have hr : (partsR k M)[i]? = some ((partsR k M)[i]'(by omega)) := List.getElem?_eq_getElem _
      have hrm := (hrep _).1 (List.getElem_mem (show i < (partsR k M).length by omega))
      generalize ((partsR k M)[i]'(by omega)) = r at hr hrm
      have hu : us[i]? = some (us[i]'(by omega)) := List.getElem?_eq_getElem _
      generalize (us[i]'(by omega)) = u at hu
      have hmu := LC9.at_ i u (natsV (memb (ldF k M) r k)) hu (by rw [List.getElem?_map, hrow i r hr]; rfl)
      rw [length_natsV] at hmu
      have h0 := memb_first hrm.1 hrm.2
      have hpos : 0 < (memb (ldF k M) r k).length := (List.getElem?_eq_some_iff.1 h0).1
      obtain ⟨bu, cu, -, rfl, -, -, -⟩ := hmu.blk hpos
      exact ⟨r, bu, cu, hr, hrm.1, hrm.2, Holder_cell LCown hu, fun j q hj => Holder_cell hmu (natsV_get hj), h0⟩
    obtain ⟨r, bu, cu, hr, hrk, hrF, cI, cR, c0⟩ := rowF i hlt
    have c0' := cR 0 r c0
    have hml := memb_len (F := ldF k M) (r := r) (k := k)
    simp -dsimp only [go_sem, ↓reduceIte, reduceCtorEq, Nat.reduceEqDiff, Nat.reduceAdd, Nat.reduceLeDiff, Nat.reduceMul, Int.reduceBEq, Int.reduceBNe, Int.reduceLT, Int.reduceLE, Int.reduceGT, Int.reduceGE]
    refine loop_intro (fun j : Nat => [(7, .pointer (some ⟨qa, 0, none⟩)), (8, sv), (9, .int .i64 c), (12, .slice fa k fc), (13, .slice (some ⟨bc, 0, none⟩) C.length cc), (15, .pointer (some ⟨qp, 0, none⟩)), (16, .int .i64 i), (17, .int .i64 j)])
      (fun j h' => j ≤ (memb (ldF k M) r k).length ∧ h' = h9) (fun j => (memb (ldF k M) r k).length - j) 0 ?_ ?_ ?_
    · simp [Le, find]
    · exact ⟨by omega, rfl⟩
    · rintro j h11 ⟨hj, hh⟩
      obtain rfl : h9 = h11 := hh.symm
      simp -dsimp only [go_sem, ↓reduceIte, reduceCtorEq, Nat.reduceEqDiff, Nat.reduceAdd, Nat.reduceLeDiff, Nat.reduceMul, Int.reduceBEq, Int.reduceBNe, Int.reduceLT, Int.reduceLE, Int.reduceGT, Int.reduceGE]
      refine Chk_intro (by omega) ?_
      simp -dsimp only [go_sem, ↓reduceIte, reduceCtorEq, Nat.reduceEqDiff, Nat.reduceAdd, Nat.reduceLeDiff, Nat.reduceMul, Int.reduceBEq, Int.reduceBNe, Int.reduceLT, Int.reduceLE, Int.reduceGT, Int.reduceGE, cI]
      refine ⟨fun hlt2 => ?_, fun hge2 => ?_⟩
      · have hlt2 : j < (memb (ldF k M) r k).length := by omega
        by_cases hj0 : j = 0
        · have e1 : ¬ ((j : Int) > 0) := by omega
          simp -dsimp only [go_sem, ↓reduceIte, reduceCtorEq, Nat.reduceEqDiff, Nat.reduceAdd, Nat.reduceLeDiff, Nat.reduceMul, Int.reduceBEq, Int.reduceBNe, Int.reduceLT, Int.reduceLE, Int.reduceGT, Int.reduceGE, cI, e1, decide_false]
          simp -dsimp (disch := omega) only [wrap64]
          exact ⟨j + 1, by omega, by simp [Le, find], by omega⟩
        have e1 : ((j : Int) > 0) := by omega
        have hq1 : (memb (ldF k M) r k)[j]? = some (memb (ldF k M) r k)[j] := List.getElem?_eq_getElem _
        have hq0 : (memb (ldF k M) r k)[j - 1]? = some ((memb (ldF k M) r k)[j - 1]'(by omega)) := List.getElem?_eq_getElem _
        have hlt3 : ((memb (ldF k M) r k)[j - 1]'(by omega)) < (memb (ldF k M) r k)[j] := List.pairwise_iff_getElem.1 memb_sorted _ _ _ _ (by omega)
        have hr0 : r < (memb (ldF k M) r k)[j] := by
          obtain ⟨h0, e0⟩ := List.getElem?_eq_some_iff.1 c0
          have := List.pairwise_iff_getElem.1 (memb_sorted (F := ldF k M) (r := r) (k := k)) 0 j h0 hlt2 (by omega)
          rwa [e0] at this
        have hqm := memb_mem.1 (List.getElem_mem hlt2)
        generalize (memb (ldF k M) r k)[j] = q at hq1 hlt3 hr0 hqm
        generalize ((memb (ldF k M) r k)[j - 1]'(by omega)) = q0 at hq0 hlt3
        have cq := cR j q hq1
        have cq0 := cR (j - 1) q0 hq0
        have heqv : eqvB k M q r = true := by
          rcases ldF_eqv (n := k) (M := M) (p := q) with h | ⟨h1, h2⟩
          · rw [hqm.2] at h; omega
          · rwa [hqm.2] at h2
        unfold eqvB at heqv
        rw [Bool.and_eq_true] at heqv
        have eh1 : (inR k (r : Int) && inR k (q : Int) && plusM k M ((r : Int).toNat) ((q : Int).toNat)) = true := by simp [inR, hrk, hqm.1, heqv.2]
        have eh2 : (inR k (q : Int) && inR k (r : Int) && plusM k M ((q : Int).toNat) ((r : Int).toNat)) = true := by simp [inR, hrk, hqm.1, heqv.1]
        have ej : IntKind.i64.wrap ((j : Int) - 1) = ((j - 1 : Nat) : Int) := by rw [wrap64 (by omega) (by omega)]; omega
        have ele : ¬ ((q : Int) ≤ (q0 : Int)) := by omega
        simp -dsimp only [go_sem, ↓reduceIte, reduceCtorEq, Nat.reduceEqDiff, Nat.reduceAdd, Nat.reduceLeDiff, Nat.reduceMul, Int.reduceBEq, Int.reduceBNe, Int.reduceLT, Int.reduceLE, Int.reduceGT, Int.reduceGE, cI, c0', cq, e1, decide_true, Int.toNat_zero]
        repeat (refine Chk_intro (by omega) ?_; simp -dsimp only [go_sem, ↓reduceIte, reduceCtorEq, Nat.reduceEqDiff, Nat.reduceAdd, Nat.reduceLeDiff, Nat.reduceMul, Int.reduceBEq, Int.reduceBNe, Int.reduceLT, Int.reduceLE, Int.reduceGT, Int.reduceGE, cI, c0', cq, e1, decide_true, Int.toNat_zero])
        refine call_of (rel_Has tp r q) ?_
        rintro v h12 ⟨hh, rfl⟩
        obtain rfl : h9 = h12 := hh.symm
        rw [eh1]
        simp -dsimp only [go_sem, ↓reduceIte, reduceCtorEq, Nat.reduceEqDiff, Nat.reduceAdd, Nat.reduceLeDiff, Nat.reduceMul, Int.reduceBEq, Int.reduceBNe, Int.reduceLT, Int.reduceLE, Int.reduceGT, Int.reduceGE, cI, c0', cq, e1, decide_true, Int.toNat_zero]
        repeat (refine Chk_intro (by omega) ?_; simp -dsimp only [go_sem, ↓reduceIte, reduceCtorEq, Nat.reduceEqDiff, Nat.reduceAdd, Nat.reduceLeDiff, Nat.reduceMul, Int.reduceBEq, Int.reduceBNe, Int.reduceLT, Int.reduceLE, Int.reduceGT, Int.reduceGE, cI, c0', cq, e1, decide_true, Int.toNat_zero])
        refine call_of (rel_Has tp q r) ?_
        rintro v h12 ⟨hh, rfl⟩
        obtain rfl : h9 = h12 := hh.symm
        rw [eh2]
        simp -dsimp only [go_sem, ↓reduceIte, reduceCtorEq, Nat.reduceEqDiff, Nat.reduceAdd, Nat.reduceLeDiff, Nat.reduceMul, Int.reduceBEq, Int.reduceBNe, Int.reduceLT, Int.reduceLE, Int.reduceGT, Int.reduceGE, cI, c0', cq, cq0, ej, e1, decide_true, Int.toNat_zero]
        repeat (refine Chk_intro (by omega) ?_; simp -dsimp only [go_sem, ↓reduceIte, reduceCtorEq, Nat.reduceEqDiff, Nat.reduceAdd, Nat.reduceLeDiff, Nat.reduceMul, Int.reduceBEq, Int.reduceBNe, Int.reduceLT, Int.reduceLE, Int.reduceGT, Int.reduceGE, cI, c0', cq, cq0, ej, e1, decide_true, Int.toNat_zero])
        simp -dsimp only [go_sem, ↓reduceIte, reduceCtorEq, Nat.reduceEqDiff, Nat.reduceAdd, Nat.reduceLeDiff, Nat.reduceMul, Int.reduceBEq, Int.reduceBNe, Int.reduceLT, Int.reduceLE, Int.reduceGT, Int.reduceGE, cI, c0', cq, cq0, ej, e1, ele, decide_true, decide_false, Int.toNat_natCast]
        simp -dsimp (disch := omega) only [wrap64]
        exact ⟨j + 1, by omega, by simp [Le, find], by omega⟩
      · have hjl : j = (memb (ldF k M) r k).length := by omega
        simp -dsimp only [go_sem, ↓reduceIte, reduceCtorEq, Nat.reduceEqDiff, Nat.reduceAdd, Nat.reduceLeDiff, Nat.reduceMul, Int.reduceBEq, Int.reduceBNe, Int.reduceLT, Int.reduceLE, Int.reduceGT, Int.reduceGE]
        refine loop_intro (fun q : Nat => [(7, .pointer (some ⟨qa, 0, none⟩)), (8, sv), (9, .int .i64 c), (12, .slice fa k fc), (13, .slice (some ⟨bc, 0, none⟩) C.length cc), (15, .pointer (some ⟨qp, 0, none⟩)), (16, .int .i64 i), (18, .int .i64 q)])
          (fun q h' => q ≤ i ∧ h' = h9) (fun q => i - q) 0 ?_ ?_ ?_
        · simp [Le, find]
        · exact ⟨by omega, rfl⟩
        rintro q h11 ⟨hq', hh⟩
        obtain rfl : h9 = h11 := hh.symm
        simp -dsimp only [go_sem, ↓reduceIte, reduceCtorEq, Nat.reduceEqDiff, Nat.reduceAdd, Nat.reduceLeDiff, Nat.reduceMul, Int.reduceBEq, Int.reduceBNe, Int.reduceLT, Int.reduceLE, Int.reduceGT, Int.reduceGE]
        refine ⟨fun hlt2 => ?_, fun hge2 => ?_⟩
        · have hlt2 : q < i := by omega
          obtain ⟨r2, bu2, cu2, hr2, hrk2, hrF2, cI2, cR2, c02⟩ := rowF q (by omega)
          have c02' := cR2 0 r2 c02
          have hpos2 := (List.getElem?_eq_some_iff.1 c02).1
          have hpos1 := (List.getElem?_eq_some_iff.1 c0).1
          have hb := parts_back hr hr2 hlt2
          have eh : (inR k (r : Int) && inR k (r2 : Int) && plusM k M ((r : Int).toNat) ((r2 : Int).toNat)) = false := by simp [hb]
          simp -dsimp only [go_sem, ↓reduceIte, reduceCtorEq, Nat.reduceEqDiff, Nat.reduceAdd, Nat.reduceLeDiff, Nat.reduceMul, Int.reduceBEq, Int.reduceBNe, Int.reduceLT, Int.reduceLE, Int.reduceGT, Int.reduceGE]
          repeat (refine Chk_intro (by omega) ?_; simp -dsimp only [go_sem, ↓reduceIte, reduceCtorEq, Nat.reduceEqDiff, Nat.reduceAdd, Nat.reduceLeDiff, Nat.reduceMul, Int.reduceBEq, Int.reduceBNe, Int.reduceLT, Int.reduceLE, Int.reduceGT, Int.reduceGE, cI, c0', cI2, c02', Int.toNat_zero])
          refine call_of (rel_Has tp r r2) ?_
          rintro v h12 ⟨hh, rfl⟩
          obtain rfl : h9 = h12 := hh.symm
          rw [eh]
          simp -dsimp only [go_sem, ↓reduceIte, reduceCtorEq, Nat.reduceEqDiff, Nat.reduceAdd, Nat.reduceLeDiff, Nat.reduceMul, Int.reduceBEq, Int.reduceBNe, Int.reduceLT, Int.reduceLE, Int.reduceGT, Int.reduceGE, cI, c0', cI2, c02', Int.toNat_zero]
          simp -dsimp (disch := omega) only [wrap64]
          exact ⟨q + 1, by omega, by simp [Le, find], by omega⟩
        · simp -dsimp only [go_sem, ↓reduceIte, reduceCtorEq, Nat.reduceEqDiff, Nat.reduceAdd, Nat.reduceLeDiff, Nat.reduceMul, Int.reduceBEq, Int.reduceBNe, Int.reduceLT, Int.reduceLE, Int.reduceGT, Int.reduceGE]
          simp -dsimp (disch := omega) only [wrap64]
          exact ⟨i + 1, by omega, by simp [Le, find], by omega⟩
  have hiC : i = C.length := by omega
  simp -dsimp only [go_sem, ↓reduceIte, reduceCtorEq, Nat.reduceEqDiff, Nat.reduceAdd, Nat.reduceLeDiff, Nat.reduceMul, Int.reduceBEq, Int.reduceBNe, Int.reduceLT, Int.reduceLE, Int.reduceGT, Int.reduceGE]
  refine call_of (rel_Len ta) ?_
  rintro v h10 ⟨hh, rfl⟩
  obtain rfl : h9 = h10 := hh.symm
  simp -dsimp only [go_sem, ↓reduceIte, reduceCtorEq, Nat.reduceEqDiff, Nat.reduceAdd, Nat.reduceLeDiff, Nat.reduceMul, Int.reduceBEq, Int.reduceBNe, Int.reduceLT, Int.reduceLE, Int.reduceGT, Int.reduceGE]
  refine call_of (rel_New k _) ?_
  rintro v h11 ⟨f11, t11⟩
  rw [show clampN k = k from by unfold clampN; omega] at t11
  have f11_z := f11.size
  replace p0 := p0.fresh f11 (by omega)
  replace ta := ta.fr f11 (by omega)
  replace tp := tp.fr f11 (by omega)
  have ef := natsV_ints (flatS k M)
  have efl : ((flatS k M).map fun (p : Nat) => (p : Int)).length = k := by simp [fp2]
  simp -dsimp only [go_sem, ↓reduceIte, reduceCtorEq, Nat.reduceEqDiff, Nat.reduceAdd, Nat.reduceLeDiff, Nat.reduceMul, Int.reduceBEq, Int.reduceBNe, Int.reduceLT, Int.reduceLE, Int.reduceGT, Int.reduceGE]
  refine call_of (order_Linear (l := (flatS k M).map fun (p : Nat) => (p : Int)) t11 (ht.fr p0 (by omega)) (by rw [← ef, efl]; exact oo.rd.fr f11) (by omega)) ?_
  rintro v h12 ⟨f12, rfl⟩
  rw [decide_eq_true (linP_pre.2 ⟨fp1, fp2⟩)]
  have f12_z := f12.size
  replace p0 := p0.fresh f12 (by omega)
  replace ta := ta.fr f12 (by omega)
  replace tp := tp.fr f12 (by omega)
  have oo12 := (oo.fr f11 (by omega)).fr f12 (by omega)
  have hq12 := (hq.fr f11).fr f12
  rcases hq12 with ⟨rfl, m, hs, om⟩ | ⟨rfl, hs⟩
  · rw [hs] at hac
    have hI : irrB k (plusM k M) = true := hac.symm
    have hirr := irrB_true.1 hI
    have hfm := flat_sort hs
    have hml : m.length = k := by rw [← hfm]; exact fp2
    rw [hfm] at oo12
    have em := natsV_ints m
    have eml : (m.map fun (p : Nat) => (p : Int)).length = k := by simp [hml]
    simp -dsimp only [go_sem, ↓reduceIte, reduceCtorEq, Nat.reduceEqDiff, Nat.reduceAdd, Nat.reduceLeDiff, Nat.reduceMul, Int.reduceBEq, Int.reduceBNe, Int.reduceLT, Int.reduceLE, Int.reduceGT, Int.reduceGE]
    refine call_of (c_law2_ints (l := m.map fun (p : Nat) => (p : Int)) (m := m.map fun (p : Nat) => (p : Int)) (by rw [← em, eml]; exact oo12.rd) (by rw [← em, eml, ← hml]; exact om.rd) (by omega)) ?_
    rintro v h13 ⟨hh, rfl⟩
    obtain rfl : h12 = h13 := hh.symm
    rw [decide_eq_true rfl]
    simp -dsimp only [go_sem, ↓reduceIte, reduceCtorEq, Nat.reduceEqDiff, Nat.reduceAdd, Nat.reduceLeDiff, Nat.reduceMul, Int.reduceBEq, Int.reduceBNe, Int.reduceLT, Int.reduceLE, Int.reduceGT, Int.reduceGE]
    refine call_of (order_Reduction ta (ht.fr p0 (by omega))) ?_
    rintro v h13 ⟨f13, hw13⟩
    rw [hI, if_pos rfl] at hw13
    obtain ⟨qd, rfl, td⟩ := hw13
    have f13_z := f13.size
    replace p0 := p0.fresh f13 (by omega)
    replace ta := ta.fr f13 (by omega)
    replace tp := tp.fr f13 (by omega)
    simp -dsimp only [go_sem, ↓reduceIte, reduceCtorEq, Nat.reduceEqDiff, Nat.reduceAdd, Nat.reduceLeDiff, Nat.reduceMul, Int.reduceBEq, Int.reduceBNe, Int.reduceLT, Int.reduceLE, Int.reduceGT, Int.reduceGE]
    refine call_of (rel_Plus td) ?_
    rintro v h14 ⟨f14, tpd⟩
    have f14_z := f14.size
    replace p0 := p0.fresh f14 (by omega)
    replace ta := ta.fr f14 (by omega)
    replace tp := tp.fr f14 (by omega)
    replace td := td.fr f14 (by omega)
    simp -dsimp only [go_sem, ↓reduceIte, reduceCtorEq, Nat.reduceEqDiff, Nat.reduceAdd, Nat.reduceLeDiff, Nat.reduceMul, Int.reduceBEq, Int.reduceBNe, Int.reduceLT, Int.reduceLE, Int.reduceGT, Int.reduceGE]
    refine call_of (rel_Equal tpd tp (ht.fr p0 (by omega))) ?_
    rintro v h15 ⟨f15, rfl⟩
    rw [eqP rfl fun i j hi hj => red_plus hirr hi hj]
    have f15_z := f15.size
    replace p0 := p0.fresh f15 (by omega)
    replace ta := ta.fr f15 (by omega)
    replace tp := tp.fr f15 (by omega)
    replace td := td.fr f15 (by omega)
    simp -dsimp only [go_sem, ↓reduceIte, reduceCtorEq, Nat.reduceEqDiff, Nat.reduceAdd, Nat.reduceLeDiff, Nat.reduceMul, Int.reduceBEq, Int.reduceBNe, Int.reduceLT, Int.reduceLE, Int.reduceGT, Int.reduceGE]
    refine call_of (order_Reduction td (ht.fr p0 (by omega))) ?_
    rintro v h16 ⟨f16, hw16⟩
    rw [red_irr hI, if_pos rfl] at hw16
    obtain ⟨q2, rfl, td2⟩ := hw16
    have f16_z := f16.size
    replace p0 := p0.fresh f16 (by omega)
    replace ta := ta.fr f16 (by omega)
    replace tp := tp.fr f16 (by omega)
    replace td := td.fr f16 (by omega)
    simp -dsimp only [go_sem, ↓reduceIte, reduceCtorEq, Nat.reduceEqDiff, Nat.reduceAdd, Nat.reduceLeDiff, Nat.reduceMul, Int.reduceBEq, Int.reduceBNe, Int.reduceLT, Int.reduceLE, Int.reduceGT, Int.reduceGE]
    refine call_of (rel_Equal td2 td (ht.fr p0 (by omega))) ?_
    rintro v h17 ⟨f17, rfl⟩
    rw [eqP rfl fun i j hi hj => red_red hI hi hj]
    have f17_z := f17.size
    replace p0 := p0.fresh f17 (by omega)
    replace ta := ta.fr f17 (by omega)
    replace tp := tp.fr f17 (by omega)
    replace td := td.fr f17 (by omega)
    simp -dsimp only [go_sem, ↓reduceIte, reduceCtorEq, Nat.reduceEqDiff, Nat.reduceAdd, Nat.reduceLeDiff, Nat.reduceMul, Int.reduceBEq, Int.reduceBNe, Int.reduceLT, Int.reduceLE, Int.reduceGT, Int.reduceGE]
    refine call_of (rel_Pairs td (ht.fr p0 (by omega))) ?_
    rintro v h18 ⟨f18, o18⟩
    have f18_z := f18.size
    replace p0 := p0.fresh f18 (by omega)
    replace ta := ta.fr f18 (by omega)
    replace tp := tp.fr f18 (by omega)
    replace td := td.fr f18 (by omega)
    obtain ⟨oa, oc, rfl⟩ := o18.is
    have hP : ∃ P, P = pairsOf k (redM k M) := ⟨_, rfl⟩
    obtain ⟨P, hP⟩ := hP
    rw [← hP] at o18 ⊢
    have p18 := p0; have tp18 := tp; have td18 := td
    simp -dsimp only [go_sem, ↓reduceIte, reduceCtorEq, Nat.reduceEqDiff, Nat.reduceAdd, Nat.reduceLeDiff, Nat.reduceMul, Int.reduceBEq, Int.reduceBNe, Int.reduceLT, Int.reduceLE, Int.reduceGT, Int.reduceGE]
    refine loop_intro (fun j : Nat => [(15, .pointer (some ⟨qp, 0, none⟩)), (19, .pointer (some ⟨qd, 0, none⟩)), (23, .slice oa P.length oc), (24, .int .i64 j)])
      (fun j h' => j ≤ P.length ∧ Fr 0 0 h18 h') (fun j => P.length - j) 0 ?_ ?_ ?_
    · simp [Le, find]
    · exact ⟨by omega, .refl _ _ _⟩
    rintro j h19 ⟨hj, f19⟩
    have f19_z := f19.size
    have tp := tp18.fr f19 (by omega)
    have td := td18.fr f19 (by omega)
    have tT := ht.fr (p18.trans f19) (by omega)
    by_cases h1 : (j : Int) < (P.length : Int)
    · by_cases h2 : (j : Int) < 20
      · have hlt : j < P.length := by omega
        have hpq : P[j]? = some P[j] := List.getElem?_eq_getElem _
        have hmem : P[j] ∈ P := List.getElem_mem _
        generalize P[j] = pq at hpq hmem
        rw [hP] at hmem
        obtain ⟨x', y', hx', hy', hm, rfl⟩ := mem_pairsOf.1 hmem
        simp -dsimp only [go_sem, ↓reduceIte, reduceCtorEq, Nat.reduceEqDiff, Nat.reduceAdd, Nat.reduceLeDiff, Nat.reduceMul, Int.reduceBEq, Int.reduceBNe, Int.reduceLT, Int.reduceLE, Int.reduceGT, Int.reduceGE, h1, h2, decide_true]
        refine call_of (rel_Copy td) ?_
        rintro v h20 ⟨f20, t20⟩
        obtain ⟨q20, rfl⟩ := progPtr t20
        have t20 := t20.congr (M' := redM k M) fun i j hi hj => inN_in hi hj
        have f20_z := f20.size
        have o20 := (o18.rd.fr f19).fr f20
        simp -dsimp only [go_sem, ↓reduceIte, reduceCtorEq, Nat.reduceEqDiff, Nat.reduceAdd, Nat.reduceLeDiff, Nat.reduceMul, Int.reduceBEq, Int.reduceBNe, Int.reduceLT, Int.reduceLE, Int.reduceGT, Int.reduceGE]
        refine Chk_intro (by omega) (o20.pair hpq fun b21 o21 c21 c22 => ?_)
        simp -dsimp only [go_sem, ↓reduceIte, reduceCtorEq, Nat.reduceEqDiff, Nat.reduceAdd, Nat.reduceLeDiff, Nat.reduceMul, Int.reduceBEq, Int.reduceBNe, Int.reduceLT, Int.reduceLE, Int.reduceGT, Int.reduceGE, c21]
        refine Chk_intro (by omega) (o20.pair hpq fun b23 o23 c23 c24 => ?_)
        simp -dsimp only [go_sem, ↓reduceIte, reduceCtorEq, Nat.reduceEqDiff, Nat.reduceAdd, Nat.reduceLeDiff, Nat.reduceMul, Int.reduceBEq, Int.reduceBNe, Int.reduceLT, Int.reduceLE, Int.reduceGT, Int.reduceGE, c24]
        refine call_of (rel_Put t20 x' y' false) ?_
        rintro v h21 ⟨f21, z21, rfl, t21⟩
        have tp21 := (tp.fr f20 (by omega)).fr f21 (by omega)
        have f2021 : Fr 0 0 h19 h21 := f20.fresh f21 (by omega)
        simp -dsimp only [go_sem, ↓reduceIte, reduceCtorEq, Nat.reduceEqDiff, Nat.reduceAdd, Nat.reduceLeDiff, Nat.reduceMul, Int.reduceBEq, Int.reduceBNe, Int.reduceLT, Int.reduceLE, Int.reduceGT, Int.reduceGE]
        refine call_of (rel_Plus t21) ?_
        rintro v h22 ⟨f22, t22⟩
        simp -dsimp only [go_sem, ↓reduceIte, reduceCtorEq, Nat.reduceEqDiff, Nat.reduceAdd, Nat.reduceLeDiff, Nat.reduceMul, Int.reduceBEq, Int.reduceBNe, Int.reduceLT, Int.reduceLE, Int.reduceGT, Int.reduceGE]
        refine call_of (rel_Equal t22 (tp21.fr f22 (by omega)) (tT.fr (f2021.trans f22) (by omega))) ?_
        rintro v h23 ⟨f23, rfl⟩
        rw [decide_eq_false (p := k = k ∧ WithinP k (plusM k (putM k (redM k M) x' y' false)) k (plusM k M) ∧ WithinP k (plusM k M) k (plusM k (putM k (redM k M) x' y' false))) (by
          rintro ⟨-, -, hh⟩
          have := (hh x' hx' y' hy' (((redM_true hx' hy').1 hm).1)).2.2
          rw [red_less hx' hy' hm] at this; simp at this)]
        simp -dsimp only [go_sem, ↓reduceIte, reduceCtorEq, Nat.reduceEqDiff, Nat.reduceAdd, Nat.reduceLeDiff, Nat.reduceMul, Int.reduceBEq, Int.reduceBNe, Int.reduceLT, Int.reduceLE, Int.reduceGT, Int.reduceGE]
        simp -dsimp (disch := omega) only [wrap64]
        exact ⟨j + 1, by omega, by simp [Le, find], by omega, f19.trans ((f2021.trans f22).trans f23)⟩
      · simp -dsimp only [go_sem, ↓reduceIte, reduceCtorEq, Nat.reduceEqDiff, Nat.reduceAdd, Nat.reduceLeDiff, Nat.reduceMul, Int.reduceBEq, Int.reduceBNe, Int.reduceLT, Int.reduceLE, Int.reduceGT, Int.reduceGE, h1, h2, decide_true, decide_false]
        exact p18.trans f19
    · simp -dsimp only [go_sem, ↓reduceIte, reduceCtorEq, Nat.reduceEqDiff, Nat.reduceAdd, Nat.reduceLeDiff, Nat.reduceMul, Int.reduceBEq, Int.reduceBNe, Int.reduceLT, Int.reduceLE, Int.reduceGT, Int.reduceGE, h1, decide_false]
      exact p18.trans f19
  · rw [hs] at hac
    have hI : irrB k (plusM k M) = false := hac.symm
    simp -dsimp only [go_sem, ↓reduceIte, reduceCtorEq, Nat.reduceEqDiff, Nat.reduceAdd, Nat.reduceLeDiff, Nat.reduceMul, Int.reduceBEq, Int.reduceBNe, Int.reduceLT, Int.reduceLE, Int.reduceGT, Int.reduceGE]
    refine call_of (order_Reduction ta (ht.fr p0 (by omega))) ?_
    rintro v h13 ⟨f13, hw13⟩
    rw [hI, if_neg (by simp)] at hw13
    subst hw13
    have f13_z := f13.size
    replace p0 := p0.fresh f13 (by omega)
    replace ta := ta.fr f13 (by omega)
    replace tp := tp.fr f13 (by omega)
    simp -dsimp only [go_sem, ↓reduceIte, reduceCtorEq, Nat.reduceEqDiff, Nat.reduceAdd, Nat.reduceLeDiff, Nat.reduceMul, Int.reduceBEq, Int.reduceBNe, Int.reduceLT, Int.reduceLE, Int.reduceGT, Int.reduceGE]
    exact p0
end Go.Proofs.Tst
/-
  From a contract to a row: what a law's call leaves; how arguments are read.
-/
namespace Go.Vc
open Go Go.RowKit Go.ChangeShapes Go.WideShapes Go.ChangeAt Go.Deep
section
variable {H : Type} {enc : TypeId × Value → H} {P : Program}
theorem trodAll_below (hl : laidOutB P = true) {W W' : World} (hb : Below W.heap.size W W') : ∀ {ts : List TypeId} {vs : List Value} {ds : List (DataW H)} {ps : List MemPlace},
    ts.all (fun t => P.readableRec t && decide (t < P.types.size)) = true → DataW.TrodAll enc P W 0 (fun _ => true) true ts vs ds ps → DataW.TrodAll enc P W' 0 (fun b => decide (b < W.heap.size)) true ts vs ds ps
  | [], _, _, _, _, h => by
    obtain ⟨rfl, rfl, rfl⟩ := trodAll_nil h
    exact rfl
  | t :: ts, _, _, _, hr, h => by
    have hlt := h.lt
    obtain ⟨v, vs, d, ds, p, q, rfl, rfl, rfl, h1, h2⟩ := trodAll_cons h
    simp only [List.all_cons, Bool.and_eq_true, decide_eq_true_eq] at hr
    exact ⟨p, q, Below.trod hl hr.1.1 hr.1.2 h1 hb (fun x hx => hlt x (List.mem_append_left _ hx)), trodAll_below hl hb hr.2 h2, rfl⟩

/-- What a law that answers true leaves. -/
theorem law_post {f : Func} {s : ChangeSpec} {W W' : World} {args : Array Value} {ds gs : List (DataW H)} {before : List MemPlace} {tb : TypeId}
    (hl : laidOutB P = true) (hp : f.params.toList.all (fun t => P.readableRec t && decide (t < P.types.size)) = true) (hv : s.vars = [])
    (hrt : f.resultTypes = #[tb]) (htb : P.underlying tb = some .bool) (hW : DataW.Whole enc P f.params.toList s.vars false W args.toList ds gs before)
    (hb : Below W.heap.size W W') (hfn : s.fn H (ds ++ gs) = { results := [.lit (.bool true)], args := ds }) : s.post enc P f false true false false W args (.bool true) W' := by
  have hW0 := hW
  obtain ⟨p, q, hA, hV, rfl, hz, hn⟩ := hW0
  rw [hv] at hV
  obtain ⟨rfl, rfl⟩ := trodVars_none hV
  refine ⟨ds, [], _, [], p, [], hW, ?_, ?_, ?_, ?_, fun h => by cases h⟩
  · rw [hfn, hrt]; exact trodAll_cons_mk (shut_bool htb true) trodAll_mk0
  · rw [hfn]; exact trodAll_below hl hb hp hA
  · rw [hfn, hv]; exact rfl
  · refine World.keptBut_mono (fun p hp => ⟨hp, ?_⟩) (hb.frame (· ∈ p ++ []))
    rw [List.append_nil] at hp
    exact .inr (.inl hp)

/-- The heap's part of a call that keeps all that was. -/
theorem below_of {w w' : World} (hf : Fr 0 0 w.heap w'.heap) (hl : Like none w w') : Below w.heap.size w w' :=
  ⟨hl.os, hl.tape, hl.output, hl.size, fun k hk => hf.old k hk (.inr (Nat.zero_le _))⟩

/-! ### Arguments -/
theorem cell?_plain {w : World} {a : Addr} {v : Value} (h : w.cell? a = some v) : a.spot = none := by
  unfold World.cell? at h
  split at h
  · split at h
    · cases h
    · rename_i hs; simpa using hs
  · cases h
theorem addr_plain {a : Addr} (h : a.spot = none) : a = ⟨a.block, a.off, none⟩ := by cases a; simp_all
theorem cell?_add {w : World} {a : Addr} (ha : a.spot = none) (j : Nat) : w.cell? (a.add j) = hcell w.heap a.block (a.off + j) := by
  rw [← cell?_heap]
  unfold Addr.add
  split
  · rename_i h; subst h; rw [Nat.add_zero, ← addr_plain ha]
  · rw [← ha]
theorem rd_of {w : World} {s n c : Nat} {a : Addr} {xs : List Value} (hs : 0 < s) (hl : xs.length = n * s) (hc : ∀ j, j < n * s → ∃ v, xs[j]? = some v ∧ w.cell? (a.add j) = some v) : Rd s w.heap (.slice (some a) n c) n xs := by
  refine ⟨hl, _, _, rfl, ?_⟩
  rcases Nat.eq_zero_or_pos n with h0 | h0
  · exact .inl h0
  · have hp : 0 < n * s := Nat.mul_pos h0 hs
    obtain ⟨v, _, hv⟩ := hc 0 hp
    have ha : a.spot = none := cell?_plain (w := w) (a := a) (by simpa [Addr.add] using hv)
    refine .inr ⟨a.block, a.off, by rw [← addr_plain ha], fun j x hj => ?_⟩
    obtain ⟨v, h1, h2⟩ := hc j (by have := (List.getElem?_eq_some_iff.1 hj).1; omega)
    rw [hj] at h1; cases h1
    rw [← cell?_add ha]; exact h2
theorem wf64 {n : Int} (h : (Lit.int .i64 n).wf = true) : -9223372036854775808 ≤ n ∧ n ≤ 9223372036854775807 := by
  simp only [Lit.wf, Bool.and_eq_true, decide_eq_true_eq] at h
  have e1 : IntKind.i64.min = -9223372036854775808 := by decide
  have e2 : IntKind.i64.max = 9223372036854775807 := by decide
  rw [e1, e2] at h; exact h

variable {w : World} {base : Nat} {held : Bool}
/-- A list of pairs that came in. -/
theorem arg_pairs {r : Reach} {b0 : Nat} {t e : TypeId} {f0 f1 : Field} {v : Value} {d : DataW H} {ps : List MemPlace} (ht : P.underlying t = some (.slice e)) (he : P.underlying e = some (.struct #[f0, f1])) (ce : P.cellsOf e = 2) (hby : P.bytesOf e = 16)
    (o0 : f0.offset = 0) (o1 : f1.offset = 1) (c0 : P.cellsOf f0.type = 1) (c1 : P.cellsOf f1.type = 1) (u0 : P.underlying f0.type = some (.int .i64)) (u1 : P.underlying f1.type = some (.int .i64))
    (hval : Value.okWide P w r b0 t v) (hd : DataW.Trod enc P w base (fun _ => true) held t v d ps) (hw : ∀ x ∈ d.weights P t, x ≤ reachBytes) :
    ∃ l : List (Int × Int), Rd 2 w.heap v l.length (pairsV l) ∧ l.length ≤ 8796093022208 ∧ ∀ x ∈ l, (-9223372036854775808 ≤ x.1 ∧ x.1 ≤ 9223372036854775807) ∧ -9223372036854775808 ≤ x.2 ∧ x.2 ≤ 9223372036854775807 := by
  obtain ⟨a, n, c, rfl⟩ := okWide_slice ht hval
  obtain ⟨fuel, hf⟩ := hd
  rcases open_slice_pairs ht he ce o0 o1 c0 c1 hf with ⟨h1, h2⟩ | ⟨a', len, cap, m, k, V0, V1, D0, D1, P0, P1, h1, _, hlc, _, hm, hx, hcell⟩
  · have h1 : [Value.slice a n c] = [.slice none 0 0] := h1
    cases h1
    exact ⟨[], ⟨rfl, _, _, rfl, .inl rfl⟩, by simp, by simp⟩
  · have h1 : [Value.slice a n c] = [.slice (some a') len cap] := h1
    cases h1
    simp only [if_true] at hm
    subst hm
    simp only [Prod.mk.injEq] at hx
    obtain ⟨rfl, rfl⟩ := hx
    have hwt := hw _ (by simp only [DataW.weights, ht]; exact List.mem_cons_self ..)
    simp only [List.length_map, List.length_range, hby] at hwt
    unfold reachBytes at hwt
    obtain ⟨Z, hZ⟩ := choose_lt (α := Int × Int) (n := m) (p := fun i z => V0 i = .int .i64 z.1 ∧ V1 i = .int .i64 z.2 ∧ (Lit.int .i64 z.1).wf = true ∧ (Lit.int .i64 z.2).wf = true) (fun i hi => by
      obtain ⟨_, _, g1, g2⟩ := hcell i hi
      obtain ⟨x, hx, _, hxw⟩ := DataW.trod_int u0 g1
      obtain ⟨y, hy, _, hyw⟩ := DataW.trod_int u1 g2
      exact ⟨(x, y), by simpa using hx, by simpa using hy, hxw, hyw⟩)
    have hl : ((List.range n).map Z).length = n := by simp
    refine ⟨(List.range n).map Z, ?_, by rw [hl]; omega, fun x hx => ?_⟩
    · rw [hl]
      refine rd_of (by omega) (by simp) fun j hj => ?_
      obtain ⟨i, hij⟩ : ∃ i, j = i * 2 ∨ j = i * 2 + 1 := ⟨j / 2, by omega⟩
      have hi : i < n := by omega
      have hg : ((List.range n).map Z)[i]? = some (Z i) := by simp [hi]
      obtain ⟨g1, g2⟩ := pairsV_get _ _ _ hg
      obtain ⟨h3, h4, _, _⟩ := hcell i (by omega)
      obtain ⟨h5, h6, _, _⟩ := hZ i (by omega)
      rcases hij with rfl | rfl
      · exact ⟨_, g1, by rw [h3, h5]⟩
      · exact ⟨_, g2, by rw [h4, h6]⟩
    · obtain ⟨i, hi, rfl⟩ := List.mem_map.1 hx
      obtain ⟨_, _, h7, h8⟩ := hZ i (by have := List.mem_range.1 hi; omega)
      exact ⟨wf64 h7, wf64 h8⟩
end
end Go.Vc
