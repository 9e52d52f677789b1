/-
  Contracts of functions that the law reaches: what each returns and what it leaves in memory. Conditions stand in each.
-/
import Derived.Test.YtgedofjefepebaaDoorT9
set_option linter.all false
set_option maxRecDepth 2000
/-
  A step of a play: what it asks.
-/
namespace Go.Proofs.Tst
open Go Go.Vc
theorem brow_list {n : Nat} {f : Nat → Bool} : ∃ L : List Bool, brow n f = boolsV L ∧ n = L.length := ⟨_, brow_bools, by simp⟩
theorem irrB_iff {n : Nat} {N : Nat → Nat → Bool} : irrB n N = true ↔ ∀ i, i < n → N i i = false := by
  unfold irrB; rw [List.all_eq_true]
  constructor
  · intro h i hi; have := h i (List.mem_range.2 hi); simpa using this
  · intro h i hi; rw [h i (List.mem_range.1 hi)]; rfl
theorem natsV_ints' (l : List Nat) : natsV l = intsV (l.map fun (p : Nat) => (p : Int)) := by simp [natsV, intsV]
theorem cyc_irr {n : Nat} {M : Nat → Nat → Bool} : (cycS n M).length = 0 ↔ irrB n (plusM n M) = true := by
  rw [irrB_iff]
  constructor
  · intro h; exact cycS_nil (List.eq_nil_of_length_eq_zero h)
  · intro h
    have : lf (fun p => plusM n M p p) n 0 = none := by
      cases hl : lf (fun p => plusM n M p p) n 0 with
      | none => rfl
      | some p => obtain ⟨-, hp, hf⟩ := lf_some hl; rw [h p hp] at hf; simp at hf
    unfold cycS; rw [this]; rfl
set_option maxHeartbeats 4000000 in
theorem c_law1_asked {n m : Nat} {A B : Nat → Nat → Bool} {av bv cv dv : Value} {alo ahi blo bhi clo chi dlo dhi : Nat} {x : Stp} {h : Heap} (ht : TabAt h) (hx : x.At h) (ta : ProgAt h alo ahi av n A) (tb : ProgAt h blo bhi bv m B) (tc : RefAt h clo chi cv n A) (td : RefAt h dlo dhi dv m B)
    (ka : ahi ≤ h.size) (kb : bhi ≤ h.size) (kc : chi ≤ h.size) (kd : dhi ≤ h.size) :
    Con Tryd.prog 67 #[.agg x.cells.toArray, av, bv, cv, dv] h fun v h' => Fr 0 0 h h' ∧ v = .bool true := by
  refine con_law1_asked ?_
  obtain ⟨hx1, hx2, hx3, bp, br, bc⟩ := hx
  have hn := ta.1
  have hpl : (pairsOf n A).length ≤ 65536 := by
    have g4 : (pairsOf n A).length ≤ n * n := length_pairsTo_le n _ n
    have g3 : n * n ≤ 256 * 256 := Nat.mul_le_mul (by omega) (by omega)
    omega
  obtain ⟨pa, rfl⟩ := progPtr ta
  obtain ⟨pb, rfl⟩ := progPtr tb
  obtain ⟨-, cs, cR, rfl, tc2⟩ := id tc
  obtain ⟨ca, cc, rfl⟩ := tc2.own.is
  obtain ⟨-, ds, dR, rfl, td2⟩ := id td
  obtain ⟨da, dc, rfl⟩ := td2.own.is
  have p0 : Fr 0 0 h h := .refl _ _ _
  simp -dsimp only [go_sem, ↓reduceIte, reduceCtorEq, Nat.reduceEqDiff, Nat.reduceAdd, Nat.reduceLeDiff, Nat.reduceMul, Int.reduceBEq, Int.reduceBNe, Int.reduceLT, Int.reduceLE, Int.reduceGT, Int.reduceGE]
  intro b5 h1 n5
  have n5_a := n5.at_
  have n5_z := n5.size
  replace p0 := p0.fresh (n5.fr (lo := 0) (hi := 0)) (by omega)
  replace ta := ta.fr (n5.fr (lo := 0) (hi := 0)) (by omega)
  replace tb := tb.fr (n5.fr (lo := 0) (hi := 0)) (by omega)
  replace tc := tc.fr (n5.fr (lo := 0) (hi := 0)) (by omega)
  replace td := td.fr (n5.fr (lo := 0) (hi := 0)) (by omega)
  have r5 := n5.row
  rw [Stp.cells] at r5
  simp -dsimp only [go_sem, ↓reduceIte, reduceCtorEq, Nat.reduceEqDiff, Nat.reduceAdd, Nat.reduceLeDiff, Nat.reduceMul, Int.reduceBEq, Int.reduceBNe, Int.reduceLT, Int.reduceLE, Int.reduceGT, Int.reduceGE, r5.cell]
  intro b8 h2 n8
  have n8_a := n8.at_
  have n8_z := n8.size
  replace p0 := p0.fresh (n8.fr (lo := 0) (hi := 0)) (by omega)
  replace ta := ta.fr (n8.fr (lo := 0) (hi := 0)) (by omega)
  replace tb := tb.fr (n8.fr (lo := 0) (hi := 0)) (by omega)
  replace tc := tc.fr (n8.fr (lo := 0) (hi := 0)) (by omega)
  replace td := td.fr (n8.fr (lo := 0) (hi := 0)) (by omega)
  replace r5 := r5.fr (n8.fr (lo := 0) (hi := 0)) (by omega)
  have r8 := n8.row
  simp -dsimp only [go_sem, ↓reduceIte, reduceCtorEq, Nat.reduceEqDiff, Nat.reduceAdd, Nat.reduceLeDiff, Nat.reduceMul, Int.reduceBEq, Int.reduceBNe, Int.reduceLT, Int.reduceLE, Int.reduceGT, Int.reduceGE, r5.cell, r8.cell]
  intro b9 h3 n9
  have n9_a := n9.at_
  have n9_z := n9.size
  replace p0 := p0.fresh (n9.fr (lo := 0) (hi := 0)) (by omega)
  replace ta := ta.fr (n9.fr (lo := 0) (hi := 0)) (by omega)
  replace tb := tb.fr (n9.fr (lo := 0) (hi := 0)) (by omega)
  replace tc := tc.fr (n9.fr (lo := 0) (hi := 0)) (by omega)
  replace td := td.fr (n9.fr (lo := 0) (hi := 0)) (by omega)
  replace r5 := r5.fr (n9.fr (lo := 0) (hi := 0)) (by omega)
  replace r8 := r8.fr (n9.fr (lo := 0) (hi := 0)) (by omega)
  have r9 := n9.row
  simp -dsimp only [go_sem, ↓reduceIte, reduceCtorEq, Nat.reduceEqDiff, Nat.reduceAdd, Nat.reduceLeDiff, Nat.reduceMul, Int.reduceBEq, Int.reduceBNe, Int.reduceLT, Int.reduceLE, Int.reduceGT, Int.reduceGE, r5.cell, r8.cell, r9.cell]
  refine ⟨fun hk => ?_, fun hk => ?_⟩
  · have p0_z := p0.size
    have r5_l := r5.lt
    have r8_l := r8.lt
    have r9_l := r9.lt
    simp -dsimp only [go_sem, ↓reduceIte, reduceCtorEq, Nat.reduceEqDiff, Nat.reduceAdd, Nat.reduceLeDiff, Nat.reduceMul, Int.reduceBEq, Int.reduceBNe, Int.reduceLT, Int.reduceLE, Int.reduceGT, Int.reduceGE, r5.cell, r8.cell, r9.cell]
    refine call_of (rel_Has ta x.a x.b) ?_
    rintro v h4 ⟨hh, rfl⟩
    obtain rfl : h3 = h4 := hh.symm
    simp -dsimp only [go_sem, ↓reduceIte, reduceCtorEq, Nat.reduceEqDiff, Nat.reduceAdd, Nat.reduceLeDiff, Nat.reduceMul, Int.reduceBEq, Int.reduceBNe, Int.reduceLT, Int.reduceLE, Int.reduceGT, Int.reduceGE, r5.cell, r8.cell, r9.cell]
    refine call_of (ref1_Has tc x.a x.b) ?_
    rintro v h5 ⟨f5, rfl⟩
    have f5_z := f5.size
    replace p0 := p0.fresh f5 (by omega)
    replace r5 := r5.fr f5 (by omega)
    replace r8 := r8.fr f5 (by omega)
    replace r9 := r9.fr f5 (by omega)
    replace ta := ta.fr f5 (by omega)
    replace tb := tb.fr f5 (by omega)
    replace tc := tc.fr f5 (by omega)
    replace td := td.fr f5 (by omega)
    generalize (inR n x.a && inR n x.b && A x.a.toNat x.b.toNat) = bb
    simp -dsimp only [go_sem, ↓reduceIte, reduceCtorEq, Nat.reduceEqDiff, Nat.reduceAdd, Nat.reduceLeDiff, Nat.reduceMul, Int.reduceBEq, Int.reduceBNe, Int.reduceLT, Int.reduceLE, Int.reduceGT, Int.reduceGE, beq_self_eq_true, r5.cell, r8.cell, r9.cell]
    refine call_of (rel_Size ta) ?_
    rintro v h6 ⟨hh, rfl⟩
    obtain rfl : h5 = h6 := hh.symm
    simp -dsimp only [go_sem, ↓reduceIte, reduceCtorEq, Nat.reduceEqDiff, Nat.reduceAdd, Nat.reduceLeDiff, Nat.reduceMul, Int.reduceBEq, Int.reduceBNe, Int.reduceLT, Int.reduceLE, Int.reduceGT, Int.reduceGE, beq_self_eq_true, r5.cell, r8.cell, r9.cell]
    refine call_of (ref1_Pairs tc) ?_
    rintro v h7 ⟨f7, o7⟩
    have f7_z := f7.size
    replace p0 := p0.fresh f7 (by omega)
    replace r5 := r5.fr f7 (by omega)
    replace r8 := r8.fr f7 (by omega)
    replace r9 := r9.fr f7 (by omega)
    replace ta := ta.fr f7 (by omega)
    replace tb := tb.fr f7 (by omega)
    replace tc := tc.fr f7 (by omega)
    replace td := td.fr f7 (by omega)
    obtain ⟨oa, oc, rfl⟩ := o7.is
    simp -dsimp only [go_sem, ↓reduceIte, reduceCtorEq, Nat.reduceEqDiff, Nat.reduceAdd, Nat.reduceLeDiff, Nat.reduceMul, Int.reduceBEq, Int.reduceBNe, Int.reduceLT, Int.reduceLE, Int.reduceGT, Int.reduceGE, beq_self_eq_true, r5.cell, r8.cell, r9.cell]
    refine call_of (rel_Len ta) ?_
    rintro v h8 ⟨hh, rfl⟩
    obtain rfl : h7 = h8 := hh.symm
    simp -dsimp only [go_sem, ↓reduceIte, reduceCtorEq, Nat.reduceEqDiff, Nat.reduceAdd, Nat.reduceLeDiff, Nat.reduceMul, Int.reduceBEq, Int.reduceBNe, Int.reduceLT, Int.reduceLE, Int.reduceGT, Int.reduceGE, beq_self_eq_true, r5.cell, r8.cell, r9.cell]
    exact p0
  simp -dsimp only [go_sem, ↓reduceIte, reduceCtorEq, Nat.reduceEqDiff, Nat.reduceAdd, Nat.reduceLeDiff, Nat.reduceMul, Int.reduceBEq, Int.reduceBNe, Int.reduceLT, Int.reduceLE, Int.reduceGT, Int.reduceGE, r5.cell, r8.cell, r9.cell]
  refine ⟨fun hk => ?_, fun hk => ?_⟩
  · have p0_z := p0.size
    have r5_l := r5.lt
    have r8_l := r8.lt
    have r9_l := r9.lt
    simp -dsimp only [go_sem, ↓reduceIte, reduceCtorEq, Nat.reduceEqDiff, Nat.reduceAdd, Nat.reduceLeDiff, Nat.reduceMul, Int.reduceBEq, Int.reduceBNe, Int.reduceLT, Int.reduceLE, Int.reduceGT, Int.reduceGE, r5.cell, r8.cell, r9.cell]
    obtain ⟨L, hL, hLn⟩ := brow_list (n := n) (f := imgB n A x.rs)
    refine call_of (rel_Image ta (ht.fr p0 (by omega)) (hx2.fr p0) br) ?_
    rintro v1 h4 ⟨f4, o4⟩
    have o4_t := o4.top
    have f4_z := f4.size
    replace p0 := p0.fresh f4 (by omega)
    replace r5 := r5.fr f4 (by omega)
    replace r8 := r8.fr f4 (by omega)
    replace r9 := r9.fr f4 (by omega)
    replace ta := ta.fr f4 (by omega)
    replace tb := tb.fr f4 (by omega)
    replace tc := tc.fr f4 (by omega)
    replace td := td.fr f4 (by omega)
    simp -dsimp only [go_sem, ↓reduceIte, reduceCtorEq, Nat.reduceEqDiff, Nat.reduceAdd, Nat.reduceLeDiff, Nat.reduceMul, Int.reduceBEq, Int.reduceBNe, Int.reduceLT, Int.reduceLE, Int.reduceGT, Int.reduceGE, r5.cell, r8.cell, r9.cell]
    refine call_of (rel_Image ta (ht.fr p0 (by omega)) (hx2.fr p0) br) ?_
    rintro v2 h5 ⟨f5, o5⟩
    have f5_z := f5.size
    replace p0 := p0.fresh f5 (by omega)
    replace r5 := r5.fr f5 (by omega)
    replace r8 := r8.fr f5 (by omega)
    replace r9 := r9.fr f5 (by omega)
    replace ta := ta.fr f5 (by omega)
    replace tb := tb.fr f5 (by omega)
    replace tc := tc.fr f5 (by omega)
    replace td := td.fr f5 (by omega)
    replace o4 := o4.fr f5 (by have := o4.at_; omega)
    simp -dsimp only [go_sem, ↓reduceIte, reduceCtorEq, Nat.reduceEqDiff, Nat.reduceAdd, Nat.reduceLeDiff, Nat.reduceMul, Int.reduceBEq, Int.reduceBNe, Int.reduceLT, Int.reduceLE, Int.reduceGT, Int.reduceGE, r5.cell, r8.cell, r9.cell]
    refine call_of (ref1_Image tc (hx2.fr p0)) ?_
    rintro v3 h6 ⟨f6, o6⟩
    have f6_z := f6.size
    replace p0 := p0.fresh f6 (by omega)
    replace r5 := r5.fr f6 (by omega)
    replace r8 := r8.fr f6 (by omega)
    replace r9 := r9.fr f6 (by omega)
    replace ta := ta.fr f6 (by omega)
    replace tb := tb.fr f6 (by omega)
    replace tc := tc.fr f6 (by omega)
    replace td := td.fr f6 (by omega)
    replace o4 := o4.fr f6 (by have := o4.at_; omega)
    replace o5 := o5.fr f6 (by have := o5.at_; omega)
    rw [hL] at o4 o5 o6
    simp -dsimp only [go_sem, ↓reduceIte, reduceCtorEq, Nat.reduceEqDiff, Nat.reduceAdd, Nat.reduceLeDiff, Nat.reduceMul, Int.reduceBEq, Int.reduceBNe, Int.reduceLT, Int.reduceLE, Int.reduceGT, Int.reduceGE, r5.cell, r8.cell, r9.cell]
    refine call_of (c_law1_truths (l := L) (m := L) (by rw [← hLn]; exact o4.rd) (by rw [← hLn]; exact o6.rd) (by omega)) ?_
    rintro v h7 ⟨hh, rfl⟩
    obtain rfl : h6 = h7 := hh.symm
    rw [decide_eq_true rfl]
    have o4_b := o4.at_
    obtain ⟨la, lc, rfl⟩ := o4.is
    have k4 : h3.size ≤ h4.size ∧ h4.size ≤ h5.size ∧ h5.size ≤ h6.size := by omega
    simp -dsimp only [go_sem, ↓reduceIte, reduceCtorEq, Nat.reduceEqDiff, Nat.reduceAdd, Nat.reduceLeDiff, Nat.reduceMul, Int.reduceBEq, Int.reduceBNe, Int.reduceLT, Int.reduceLE, Int.reduceGT, Int.reduceGE, r5.cell, r8.cell, r9.cell]
    refine loop_intro (fun i : Nat => [(11, .slice la n lc), (12, v2), (13, v3), (14, .bool true), (15, .int .i64 i)])
      (fun i h' => i ≤ n ∧ Fr (bl (.slice la n lc)) (bh (.slice la n lc)) h6 h' ∧ h'.size = h6.size ∧ ∃ K : List Bool, K.length = n ∧ Holder 1 h' (.slice la n lc) n (boolsV K) h3.size) (fun i => n - i) 0 ?_ ?_ ?_
    · simp [Le, find]
    · exact ⟨by omega, .refl _ _ _, rfl, L, hLn.symm, o4⟩
    rintro i h7 ⟨hi, f7, z7, K, hK, oK⟩
    simp -dsimp only [go_sem, ↓reduceIte, reduceCtorEq, Nat.reduceEqDiff, Nat.reduceAdd, Nat.reduceLeDiff, Nat.reduceMul, Int.reduceBEq, Int.reduceBNe, Int.reduceLT, Int.reduceLE, Int.reduceGT, Int.reduceGE, r5.cell, r8.cell, r9.cell]
    refine ⟨fun hlt => ?_, fun hge => ?_⟩
    · have hlt : i < n := by omega
      obtain ⟨bb, cc', rest, hv, hrow, hcap, hlo⟩ := oK.blk (by omega)
      cases hv
      have hg : (boolsV K ++ rest)[i]? = some (.bool (K[i]'(by omega))) := by
        rw [List.getElem?_append_left (by simp; omega), boolsV_get (List.getElem?_eq_getElem (by omega))]
      simp -dsimp only [go_sem, ↓reduceIte, reduceCtorEq, Nat.reduceEqDiff, Nat.reduceAdd, Nat.reduceLeDiff, Nat.reduceMul, Int.reduceBEq, Int.reduceBNe, Int.reduceLT, Int.reduceLE, Int.reduceGT, Int.reduceGE, r5.cell, r8.cell, r9.cell]
      refine Chk_intro (by omega) ?_
      simp -dsimp only [go_sem, ↓reduceIte, reduceCtorEq, Nat.reduceEqDiff, Nat.reduceAdd, Nat.reduceLeDiff, Nat.reduceMul, Int.reduceBEq, Int.reduceBNe, Int.reduceLT, Int.reduceLE, Int.reduceGT, Int.reduceGE, hrow.cell, hg, r5.cell, r8.cell, r9.cell]
      refine Chk_intro (by omega) ?_
      simp -dsimp only [go_sem, ↓reduceIte, reduceCtorEq, Nat.reduceEqDiff, Nat.reduceAdd, Nat.reduceLeDiff, Nat.reduceMul, Int.reduceBEq, Int.reduceBNe, Int.reduceLT, Int.reduceLE, Int.reduceGT, Int.reduceGE, r5.cell, r8.cell, r9.cell]
      refine Chk_intro (oK.wrAt hlt) fun h8 s8 => ?_
      rw [cl_bool] at s8
      have o8 := oK.set hlt s8
      have e8 : (boolsV K).set i (.bool !(K[i]'(by omega))) = boolsV (K.set i !(K[i]'(by omega))) := by simp [boolsV]
      rw [e8] at o8
      simp -dsimp only [go_sem, ↓reduceIte, reduceCtorEq, Nat.reduceEqDiff, Nat.reduceAdd, Nat.reduceLeDiff, Nat.reduceMul, Int.reduceBEq, Int.reduceBNe, Int.reduceLT, Int.reduceLE, Int.reduceGT, Int.reduceGE, r5.cell, r8.cell, r9.cell]
      simp -dsimp (disch := omega) only [wrap64]
      exact ⟨i + 1, by omega, by simp [Le, find], by omega, f7.trans s8.fr, by rw [s8.size]; exact z7, _, by simpa using hK, o8⟩
    · have f7_z := f7.size
      replace p0 := p0.fresh f7 (by omega)
      replace r5 := r5.fr f7 (by omega)
      replace r8 := r8.fr f7 (by omega)
      replace r9 := r9.fr f7 (by omega)
      replace ta := ta.fr f7 (by omega)
      replace tb := tb.fr f7 (by omega)
      replace tc := tc.fr f7 (by omega)
      replace td := td.fr f7 (by omega)
      replace o5 := o5.fr f7 (by have := o5.at_; omega)
      replace o6 := o6.fr f7 (by have := o6.at_; omega)
      simp -dsimp only [go_sem, ↓reduceIte, reduceCtorEq, Nat.reduceEqDiff, Nat.reduceAdd, Nat.reduceLeDiff, Nat.reduceMul, Int.reduceBEq, Int.reduceBNe, Int.reduceLT, Int.reduceLE, Int.reduceGT, Int.reduceGE, r5.cell, r8.cell, r9.cell]
      refine call_of (c_law1_truths (l := L) (m := L) (by rw [← hLn]; exact o5.rd) (by rw [← hLn]; exact o6.rd) (by omega)) ?_
      rintro v h8 ⟨hh, rfl⟩
      obtain rfl : h7 = h8 := hh.symm
      rw [decide_eq_true rfl]
      simp -dsimp only [go_sem, ↓reduceIte, reduceCtorEq, Nat.reduceEqDiff, Nat.reduceAdd, Nat.reduceLeDiff, Nat.reduceMul, Int.reduceBEq, Int.reduceBNe, Int.reduceLT, Int.reduceLE, Int.reduceGT, Int.reduceGE, r5.cell, r8.cell, r9.cell]
      exact p0
  simp -dsimp only [go_sem, ↓reduceIte, reduceCtorEq, Nat.reduceEqDiff, Nat.reduceAdd, Nat.reduceLeDiff, Nat.reduceMul, Int.reduceBEq, Int.reduceBNe, Int.reduceLT, Int.reduceLE, Int.reduceGT, Int.reduceGE, r5.cell, r8.cell, r9.cell]
  refine ⟨fun hk => ?_, fun hk => ?_⟩
  · have p0_z := p0.size
    have r5_l := r5.lt
    have r8_l := r8.lt
    have r9_l := r9.lt
    have hcl := cycS_len (n := n) (M := A)
    have hci := cyc_irr (n := n) (M := A)
    simp -dsimp only [go_sem, ↓reduceIte, reduceCtorEq, Nat.reduceEqDiff, Nat.reduceAdd, Nat.reduceLeDiff, Nat.reduceMul, Int.reduceBEq, Int.reduceBNe, Int.reduceLT, Int.reduceLE, Int.reduceGT, Int.reduceGE, r5.cell, r8.cell, r9.cell]
    refine call_of (rel_Cycle ta (ht.fr p0 (by omega))) ?_
    rintro v1 h4 ⟨f4, o4⟩
    have o4_t := o4.top
    have f4_z := f4.size
    replace p0 := p0.fresh f4 (by omega)
    replace r5 := r5.fr f4 (by omega)
    replace r8 := r8.fr f4 (by omega)
    replace r9 := r9.fr f4 (by omega)
    replace ta := ta.fr f4 (by omega)
    replace tb := tb.fr f4 (by omega)
    replace tc := tc.fr f4 (by omega)
    replace td := td.fr f4 (by omega)
    simp -dsimp only [go_sem, ↓reduceIte, reduceCtorEq, Nat.reduceEqDiff, Nat.reduceAdd, Nat.reduceLeDiff, Nat.reduceMul, Int.reduceBEq, Int.reduceBNe, Int.reduceLT, Int.reduceLE, Int.reduceGT, Int.reduceGE, r5.cell, r8.cell, r9.cell]
    refine call_of (ref1_Cycle tc) ?_
    rintro v2 h5 ⟨f5, o5⟩
    have f5_z := f5.size
    replace p0 := p0.fresh f5 (by omega)
    replace r5 := r5.fr f5 (by omega)
    replace r8 := r8.fr f5 (by omega)
    replace r9 := r9.fr f5 (by omega)
    replace ta := ta.fr f5 (by omega)
    replace tb := tb.fr f5 (by omega)
    replace tc := tc.fr f5 (by omega)
    replace td := td.fr f5 (by omega)
    replace o4 := o4.fr f5 (by have := o4.at_; omega)
    generalize hC : cycS n A = C at o4 o5 hcl hci
    have eC := natsV_ints' C
    have eCl : C.length = (C.map fun (p : Nat) => (p : Int)).length := by simp
    have o4_b := o4.at_
    obtain ⟨la, lc, rfl⟩ := o4.is
    obtain ⟨wa, wc, rfl⟩ := o5.is
    simp -dsimp only [go_sem, ↓reduceIte, reduceCtorEq, Nat.reduceEqDiff, Nat.reduceAdd, Nat.reduceLeDiff, Nat.reduceMul, Int.reduceBEq, Int.reduceBNe, Int.reduceLT, Int.reduceLE, Int.reduceGT, Int.reduceGE, r5.cell, r8.cell, r9.cell]
    refine call_of (c_law1_ints (l := C.map fun (p : Nat) => (p : Int)) (m := C.map fun (p : Nat) => (p : Int)) (by rw [← eC, ← eCl]; exact o4.rd) (by rw [← eC, ← eCl]; exact o5.rd) (by simp; omega)) ?_
    rintro v h6 ⟨hh, rfl⟩
    obtain rfl : h5 = h6 := hh.symm
    rw [decide_eq_true rfl]
    have k4 : h3.size ≤ h4.size ∧ h4.size ≤ h5.size := by omega
    simp -dsimp only [go_sem, ↓reduceIte, reduceCtorEq, Nat.reduceEqDiff, Nat.reduceAdd, Nat.reduceLeDiff, Nat.reduceMul, Int.reduceBEq, Int.reduceBNe, Int.reduceLT, Int.reduceLE, Int.reduceGT, Int.reduceGE, r5.cell, r8.cell, r9.cell]
    refine loop_intro (fun i : Nat => [(1, .pointer (some ⟨pa, 0, none⟩)), (8, .pointer (some ⟨b8, 0, none⟩)), (16, .slice la C.length lc), (17, .slice wa C.length wc), (18, .bool true), (19, .int .i64 i)])
      (fun i h' => i ≤ C.length ∧ Fr (bl (.slice la C.length lc)) (bh (.slice la C.length lc)) h5 h' ∧ h'.size = h5.size ∧ ∃ xs, Holder 1 h' (.slice la C.length lc) C.length xs h3.size) (fun i => C.length - i) 0 ?_ ?_ ?_
    · simp [Le, find]
    · exact ⟨by omega, .refl _ _ _, rfl, _, o4⟩
    rintro i h7 ⟨hi, f7, z7, xs, oK⟩
    simp -dsimp only [go_sem, ↓reduceIte, reduceCtorEq, Nat.reduceEqDiff, Nat.reduceAdd, Nat.reduceLeDiff, Nat.reduceMul, Int.reduceBEq, Int.reduceBNe, Int.reduceLT, Int.reduceLE, Int.reduceGT, Int.reduceGE, r5.cell, r8.cell, r9.cell]
    refine ⟨fun hlt => ?_, fun hge => ?_⟩
    · have hlt : i < C.length := by omega
      obtain ⟨bb, cc', rest, hv, hrow, hcap, hlo⟩ := oK.blk (by omega)
      cases hv
      simp -dsimp only [go_sem, ↓reduceIte, reduceCtorEq, Nat.reduceEqDiff, Nat.reduceAdd, Nat.reduceLeDiff, Nat.reduceMul, Int.reduceBEq, Int.reduceBNe, Int.reduceLT, Int.reduceLE, Int.reduceGT, Int.reduceGE, r5.cell, r8.cell, r9.cell]
      refine Chk_intro (by omega) ?_
      simp -dsimp only [go_sem, ↓reduceIte, reduceCtorEq, Nat.reduceEqDiff, Nat.reduceAdd, Nat.reduceLeDiff, Nat.reduceMul, Int.reduceBEq, Int.reduceBNe, Int.reduceLT, Int.reduceLE, Int.reduceGT, Int.reduceGE, r5.cell, r8.cell, r9.cell]
      refine Chk_intro (oK.wrAt hlt) fun h8 s8 => ?_
      rw [cl_int] at s8
      have o8 := oK.set hlt s8
      simp -dsimp only [go_sem, ↓reduceIte, reduceCtorEq, Nat.reduceEqDiff, Nat.reduceAdd, Nat.reduceLeDiff, Nat.reduceMul, Int.reduceBEq, Int.reduceBNe, Int.reduceLT, Int.reduceLE, Int.reduceGT, Int.reduceGE, r5.cell, r8.cell, r9.cell]
      simp -dsimp (disch := omega) only [wrap64]
      exact ⟨i + 1, by omega, by simp [Le, find], by omega, f7.trans s8.fr, by rw [s8.size]; exact z7, _, o8⟩
    · have f7_z := f7.size
      replace p0 := p0.fresh f7 (by omega)
      replace r5 := r5.fr f7 (by omega)
      replace r8 := r8.fr f7 (by omega)
      replace r9 := r9.fr f7 (by omega)
      replace ta := ta.fr f7 (by omega)
      replace tb := tb.fr f7 (by omega)
      replace tc := tc.fr f7 (by omega)
      replace td := td.fr f7 (by omega)
      replace o5 := o5.fr f7 (by have := o5.at_; omega)
      simp -dsimp only [go_sem, ↓reduceIte, reduceCtorEq, Nat.reduceEqDiff, Nat.reduceAdd, Nat.reduceLeDiff, Nat.reduceMul, Int.reduceBEq, Int.reduceBNe, Int.reduceLT, Int.reduceLE, Int.reduceGT, Int.reduceGE, r5.cell, r8.cell, r9.cell]
      refine call_of (rel_Cycle ta (ht.fr p0 (by omega))) ?_
      rintro v3 h8 ⟨f8, o8⟩
      have f8_z := f8.size
      replace p0 := p0.fresh f8 (by omega)
      replace r5 := r5.fr f8 (by omega)
      replace r8 := r8.fr f8 (by omega)
      replace r9 := r9.fr f8 (by omega)
      replace ta := ta.fr f8 (by omega)
      replace tb := tb.fr f8 (by omega)
      replace tc := tc.fr f8 (by omega)
      replace td := td.fr f8 (by omega)
      replace o5 := o5.fr f8 (by have := o5.at_; omega)
      rw [hC] at o8
      simp -dsimp only [go_sem, ↓reduceIte, reduceCtorEq, Nat.reduceEqDiff, Nat.reduceAdd, Nat.reduceLeDiff, Nat.reduceMul, Int.reduceBEq, Int.reduceBNe, Int.reduceLT, Int.reduceLE, Int.reduceGT, Int.reduceGE, r5.cell, r8.cell, r9.cell]
      refine call_of (c_law1_ints (l := C.map fun (p : Nat) => (p : Int)) (m := C.map fun (p : Nat) => (p : Int)) (by rw [← eC, ← eCl]; exact o8.rd) (by rw [← eC, ← eCl]; exact o5.rd) (by simp; omega)) ?_
      rintro v h9 ⟨hh, rfl⟩
      obtain rfl : h8 = h9 := hh.symm
      rw [decide_eq_true rfl]
      simp -dsimp only [go_sem, ↓reduceIte, reduceCtorEq, Nat.reduceEqDiff, Nat.reduceAdd, Nat.reduceLeDiff, Nat.reduceMul, Int.reduceBEq, Int.reduceBNe, Int.reduceLT, Int.reduceLE, Int.reduceGT, Int.reduceGE, r5.cell, r8.cell, r9.cell]
      refine call_of (rel_Acyclic ta) ?_
      rintro v h10 ⟨f10, rfl⟩
      have f10_z := f10.size
      replace p0 := p0.fresh f10 (by omega)
      replace r5 := r5.fr f10 (by omega)
      replace r8 := r8.fr f10 (by omega)
      replace r9 := r9.fr f10 (by omega)
      replace ta := ta.fr f10 (by omega)
      replace tb := tb.fr f10 (by omega)
      replace tc := tc.fr f10 (by omega)
      replace td := td.fr f10 (by omega)
      replace o5 := o5.fr f10 (by have := o5.at_; omega)
      replace o8 := o8.fr f10 (by have := o8.at_; omega)
      have eb : (irrB n (plusM n A) == ((C.length : Int) == 0)) = true := by
        have : ((C.length : Int) == 0) = decide (C.length = 0) := by rw [Bool.eq_iff_iff]; simp
        rw [this, beq_iff_eq, Bool.eq_iff_iff, ← hci]; simp
      simp -dsimp only [go_sem, ↓reduceIte, reduceCtorEq, Nat.reduceEqDiff, Nat.reduceAdd, Nat.reduceLeDiff, Nat.reduceMul, Int.reduceBEq, Int.reduceBNe, Int.reduceLT, Int.reduceLE, Int.reduceGT, Int.reduceGE, eb, r5.cell, r8.cell, r9.cell]
      refine call_of (rel_Irreflexive ta) ?_
      rintro v h11 ⟨hh, rfl⟩
      obtain rfl : h10 = h11 := hh.symm
      simp -dsimp only [go_sem, ↓reduceIte, reduceCtorEq, Nat.reduceEqDiff, Nat.reduceAdd, Nat.reduceLeDiff, Nat.reduceMul, Int.reduceBEq, Int.reduceBNe, Int.reduceLT, Int.reduceLE, Int.reduceGT, Int.reduceGE, eb, r5.cell, r8.cell, r9.cell]
      refine call_of (ref1_Irreflexive tc) ?_
      rintro v h12 ⟨f12, rfl⟩
      have f12_z := f12.size
      replace p0 := p0.fresh f12 (by omega)
      replace r5 := r5.fr f12 (by omega)
      replace r8 := r8.fr f12 (by omega)
      replace r9 := r9.fr f12 (by omega)
      replace ta := ta.fr f12 (by omega)
      replace tb := tb.fr f12 (by omega)
      replace tc := tc.fr f12 (by omega)
      replace td := td.fr f12 (by omega)
      replace o5 := o5.fr f12 (by have := o5.at_; omega)
      replace o8 := o8.fr f12 (by have := o8.at_; omega)
      simp -dsimp only [go_sem, ↓reduceIte, reduceCtorEq, Nat.reduceEqDiff, Nat.reduceAdd, Nat.reduceLeDiff, Nat.reduceMul, Int.reduceBEq, Int.reduceBNe, Int.reduceLT, Int.reduceLE, Int.reduceGT, Int.reduceGE, eb, beq_self_eq_true, r5.cell, r8.cell, r9.cell]
      exact p0
  simp -dsimp only [go_sem, ↓reduceIte, reduceCtorEq, Nat.reduceEqDiff, Nat.reduceAdd, Nat.reduceLeDiff, Nat.reduceMul, Int.reduceBEq, Int.reduceBNe, Int.reduceLT, Int.reduceLE, Int.reduceGT, Int.reduceGE, r5.cell, r8.cell, r9.cell]
  refine ⟨fun hk => ?_, fun hk => ?_⟩
  · have p0_z := p0.size
    have r5_l := r5.lt
    have r8_l := r8.lt
    have r9_l := r9.lt
    simp -dsimp only [go_sem, ↓reduceIte, reduceCtorEq, Nat.reduceEqDiff, Nat.reduceAdd, Nat.reduceLeDiff, Nat.reduceMul, Int.reduceBEq, Int.reduceBNe, Int.reduceLT, Int.reduceLE, Int.reduceGT, Int.reduceGE, r5.cell, r8.cell, r9.cell]
    refine call_of (rel_Equal ta tb (ht.fr p0 (by omega))) ?_
    rintro v h4 ⟨f4, rfl⟩
    have f4_z := f4.size
    replace p0 := p0.fresh f4 (by omega)
    replace r5 := r5.fr f4 (by omega)
    replace r8 := r8.fr f4 (by omega)
    replace r9 := r9.fr f4 (by omega)
    replace ta := ta.fr f4 (by omega)
    replace tb := tb.fr f4 (by omega)
    replace tc := tc.fr f4 (by omega)
    replace td := td.fr f4 (by omega)
    simp -dsimp only [go_sem, ↓reduceIte, reduceCtorEq, Nat.reduceEqDiff, Nat.reduceAdd, Nat.reduceLeDiff, Nat.reduceMul, Int.reduceBEq, Int.reduceBNe, Int.reduceLT, Int.reduceLE, Int.reduceGT, Int.reduceGE, r5.cell, r8.cell, r9.cell]
    refine call_of (ref1_Equal tc td) ?_
    rintro v h5 ⟨f5, rfl⟩
    have f5_z := f5.size
    replace p0 := p0.fresh f5 (by omega)
    replace r5 := r5.fr f5 (by omega)
    replace r8 := r8.fr f5 (by omega)
    replace r9 := r9.fr f5 (by omega)
    replace ta := ta.fr f5 (by omega)
    replace tb := tb.fr f5 (by omega)
    replace tc := tc.fr f5 (by omega)
    replace td := td.fr f5 (by omega)
    generalize decide (n = m ∧ WithinP n A m B ∧ WithinP m B n A) = bb
    simp -dsimp only [go_sem, ↓reduceIte, reduceCtorEq, Nat.reduceEqDiff, Nat.reduceAdd, Nat.reduceLeDiff, Nat.reduceMul, Int.reduceBEq, Int.reduceBNe, Int.reduceLT, Int.reduceLE, Int.reduceGT, Int.reduceGE, beq_self_eq_true, r5.cell, r8.cell, r9.cell]
    refine call_of (rel_Within ta tb (ht.fr p0 (by omega))) ?_
    rintro v h6 ⟨f6, rfl⟩
    have f6_z := f6.size
    replace p0 := p0.fresh f6 (by omega)
    replace r5 := r5.fr f6 (by omega)
    replace r8 := r8.fr f6 (by omega)
    replace r9 := r9.fr f6 (by omega)
    replace ta := ta.fr f6 (by omega)
    replace tb := tb.fr f6 (by omega)
    replace tc := tc.fr f6 (by omega)
    replace td := td.fr f6 (by omega)
    simp -dsimp only [go_sem, ↓reduceIte, reduceCtorEq, Nat.reduceEqDiff, Nat.reduceAdd, Nat.reduceLeDiff, Nat.reduceMul, Int.reduceBEq, Int.reduceBNe, Int.reduceLT, Int.reduceLE, Int.reduceGT, Int.reduceGE, beq_self_eq_true, r5.cell, r8.cell, r9.cell]
    refine call_of (ref1_Within tc td) ?_
    rintro v h7 ⟨f7, rfl⟩
    have f7_z := f7.size
    replace p0 := p0.fresh f7 (by omega)
    replace r5 := r5.fr f7 (by omega)
    replace r8 := r8.fr f7 (by omega)
    replace r9 := r9.fr f7 (by omega)
    replace ta := ta.fr f7 (by omega)
    replace tb := tb.fr f7 (by omega)
    replace tc := tc.fr f7 (by omega)
    replace td := td.fr f7 (by omega)
    simp -dsimp only [go_sem, ↓reduceIte, reduceCtorEq, Nat.reduceEqDiff, Nat.reduceAdd, Nat.reduceLeDiff, Nat.reduceMul, Int.reduceBEq, Int.reduceBNe, Int.reduceLT, Int.reduceLE, Int.reduceGT, Int.reduceGE, beq_self_eq_true, r5.cell, r8.cell, r9.cell]
    exact p0
  simp -dsimp only [go_sem, ↓reduceIte, reduceCtorEq, Nat.reduceEqDiff, Nat.reduceAdd, Nat.reduceLeDiff, Nat.reduceMul, Int.reduceBEq, Int.reduceBNe, Int.reduceLT, Int.reduceLE, Int.reduceGT, Int.reduceGE, r5.cell, r8.cell, r9.cell]
  refine ⟨fun hk => ?_, fun hk => ?_⟩
  · have p0_z := p0.size
    have r5_l := r5.lt
    have r8_l := r8.lt
    have r9_l := r9.lt
    simp -dsimp only [go_sem, ↓reduceIte, reduceCtorEq, Nat.reduceEqDiff, Nat.reduceAdd, Nat.reduceLeDiff, Nat.reduceMul, Int.reduceBEq, Int.reduceBNe, Int.reduceLT, Int.reduceLE, Int.reduceGT, Int.reduceGE, r5.cell, r8.cell, r9.cell]
    refine call_of (rel_Pairs ta (ht.fr p0 (by omega))) ?_
    rintro v1 h4 ⟨f4, o4⟩
    have o4_t := o4.top
    have f4_z := f4.size
    replace p0 := p0.fresh f4 (by omega)
    replace r5 := r5.fr f4 (by omega)
    replace r8 := r8.fr f4 (by omega)
    replace r9 := r9.fr f4 (by omega)
    replace ta := ta.fr f4 (by omega)
    replace tb := tb.fr f4 (by omega)
    replace tc := tc.fr f4 (by omega)
    replace td := td.fr f4 (by omega)
    simp -dsimp only [go_sem, ↓reduceIte, reduceCtorEq, Nat.reduceEqDiff, Nat.reduceAdd, Nat.reduceLeDiff, Nat.reduceMul, Int.reduceBEq, Int.reduceBNe, Int.reduceLT, Int.reduceLE, Int.reduceGT, Int.reduceGE, r5.cell, r8.cell, r9.cell]
    refine call_of (ref1_Pairs tc) ?_
    rintro v2 h5 ⟨f5, o5⟩
    have f5_z := f5.size
    replace p0 := p0.fresh f5 (by omega)
    replace r5 := r5.fr f5 (by omega)
    replace r8 := r8.fr f5 (by omega)
    replace r9 := r9.fr f5 (by omega)
    replace ta := ta.fr f5 (by omega)
    replace tb := tb.fr f5 (by omega)
    replace tc := tc.fr f5 (by omega)
    replace td := td.fr f5 (by omega)
    replace o4 := o4.fr f5 (by have := o4.at_; omega)
    have hP : ∃ P, P = pairsOf n A := ⟨_, rfl⟩
    obtain ⟨P, hP⟩ := hP
    rw [← hP] at o4 o5 hpl
    have o4_b := o4.at_
    obtain ⟨la, lc, rfl⟩ := o4.is
    obtain ⟨wa, wc, rfl⟩ := o5.is
    simp -dsimp only [go_sem, ↓reduceIte, reduceCtorEq, Nat.reduceEqDiff, Nat.reduceAdd, Nat.reduceLeDiff, Nat.reduceMul, Int.reduceBEq, Int.reduceBNe, Int.reduceLT, Int.reduceLE, Int.reduceGT, Int.reduceGE, r5.cell, r8.cell, r9.cell]
    refine call_of (c_law1_pairs o4.rd o5.rd (by omega)) ?_
    rintro v h6 ⟨hh, rfl⟩
    obtain rfl : h5 = h6 := hh.symm
    rw [decide_eq_true rfl]
    have k4 : h3.size ≤ h4.size ∧ h4.size ≤ h5.size := by omega
    simp -dsimp only [go_sem, ↓reduceIte, reduceCtorEq, Nat.reduceEqDiff, Nat.reduceAdd, Nat.reduceLeDiff, Nat.reduceMul, Int.reduceBEq, Int.reduceBNe, Int.reduceLT, Int.reduceLE, Int.reduceGT, Int.reduceGE, r5.cell, r8.cell, r9.cell]
    refine loop_intro (fun i : Nat => [(1, .pointer (some ⟨pa, 0, none⟩)), (20, .slice la P.length lc), (21, .slice wa P.length wc), (22, .bool true), (23, .int .i64 i)])
      (fun i h' => i ≤ P.length ∧ Fr (bl (.slice la P.length lc)) (bh (.slice la P.length lc)) h5 h' ∧ h'.size = h5.size ∧ ∃ xs, Holder 2 h' (.slice la P.length lc) P.length xs h3.size) (fun i => P.length - i) 0 ?_ ?_ ?_
    · simp [Le, find]
    · exact ⟨by omega, .refl _ _ _, rfl, _, o4⟩
    rintro i h7 ⟨hi, f7, z7, xs, oK⟩
    simp -dsimp only [go_sem, ↓reduceIte, reduceCtorEq, Nat.reduceEqDiff, Nat.reduceAdd, Nat.reduceLeDiff, Nat.reduceMul, Int.reduceBEq, Int.reduceBNe, Int.reduceLT, Int.reduceLE, Int.reduceGT, Int.reduceGE, r5.cell, r8.cell, r9.cell]
    refine ⟨fun hlt => ?_, fun hge => ?_⟩
    · have hlt : i < P.length := by omega
      obtain ⟨bb, cc', rest, hv, hrow, hcap, hlo⟩ := oK.blk (by omega)
      cases hv
      have hxl := oK.1
      simp -dsimp only [go_sem, ↓reduceIte, reduceCtorEq, Nat.reduceEqDiff, Nat.reduceAdd, Nat.reduceLeDiff, Nat.reduceMul, Int.reduceBEq, Int.reduceBNe, Int.reduceLT, Int.reduceLE, Int.reduceGT, Int.reduceGE, r5.cell, r8.cell, r9.cell]
      refine Chk_intro (by omega) ?_
      simp -dsimp only [go_sem, ↓reduceIte, reduceCtorEq, Nat.reduceEqDiff, Nat.reduceAdd, Nat.reduceLeDiff, Nat.reduceMul, Int.reduceBEq, Int.reduceBNe, Int.reduceLT, Int.reduceLE, Int.reduceGT, Int.reduceGE, r5.cell, r8.cell, r9.cell]
      refine Chk_intro (hrow.wr (by simp; omega)) fun h8 s8 => ?_
      obtain ⟨xs2, o8⟩ := oK.putN (by omega) s8
      simp -dsimp only [go_sem, ↓reduceIte, reduceCtorEq, Nat.reduceEqDiff, Nat.reduceAdd, Nat.reduceLeDiff, Nat.reduceMul, Int.reduceBEq, Int.reduceBNe, Int.reduceLT, Int.reduceLE, Int.reduceGT, Int.reduceGE, r5.cell, r8.cell, r9.cell]
      simp -dsimp (disch := omega) only [wrap64]
      exact ⟨i + 1, by omega, by simp [Le, find], by omega, f7.trans s8.fr, by rw [s8.size]; exact z7, xs2, o8⟩
    have f7_z := f7.size
    replace p0 := p0.fresh f7 (by omega)
    replace r5 := r5.fr f7 (by omega)
    replace r8 := r8.fr f7 (by omega)
    replace r9 := r9.fr f7 (by omega)
    replace ta := ta.fr f7 (by omega)
    replace tb := tb.fr f7 (by omega)
    replace tc := tc.fr f7 (by omega)
    replace td := td.fr f7 (by omega)
    replace o5 := o5.fr f7 (by have := o5.at_; omega)
    simp -dsimp only [go_sem, ↓reduceIte, reduceCtorEq, Nat.reduceEqDiff, Nat.reduceAdd, Nat.reduceLeDiff, Nat.reduceMul, Int.reduceBEq, Int.reduceBNe, Int.reduceLT, Int.reduceLE, Int.reduceGT, Int.reduceGE, r5.cell, r8.cell, r9.cell]
    intro b9' h9 n9'
    have n9'_a := n9'.at_
    have n9'_z := n9'.size
    replace p0 := p0.fresh (n9'.fr (lo := 0) (hi := 0)) (by omega)
    replace r5 := r5.fr (n9'.fr (lo := 0) (hi := 0)) (by omega)
    replace r8 := r8.fr (n9'.fr (lo := 0) (hi := 0)) (by omega)
    replace r9 := r9.fr (n9'.fr (lo := 0) (hi := 0)) (by omega)
    replace ta := ta.fr (n9'.fr (lo := 0) (hi := 0)) (by omega)
    replace tb := tb.fr (n9'.fr (lo := 0) (hi := 0)) (by omega)
    replace tc := tc.fr (n9'.fr (lo := 0) (hi := 0)) (by omega)
    replace td := td.fr (n9'.fr (lo := 0) (hi := 0)) (by omega)
    replace o5 := o5.fr (n9'.fr (lo := 0) (hi := 0)) (by have := o5.at_; omega)
    have r9' := n9'.row
    replace oK := oK.fr (n9'.fr (lo := 0) (hi := 0)) (by omega)
    simp -dsimp only [go_sem, ↓reduceIte, reduceCtorEq, Nat.reduceEqDiff, Nat.reduceAdd, Nat.reduceLeDiff, Nat.reduceMul, Int.reduceBEq, Int.reduceBNe, Int.reduceLT, Int.reduceLE, Int.reduceGT, Int.reduceGE, r5.cell, r8.cell, r9.cell, r9'.cell]
    refine withC_of [.int .i64 0, .int .i64 0, .int .i64 0, .int .i64 0, .int .i64 0, .int .i64 0] 0 (fun k y hk => by rw [r9'.cell, Nat.zero_add]; exact hk) ⟨rfl, ?_⟩
    refine oK.append (by omega) rfl (by omega) (by simp) (by omega) fun v10 h10 o10 f10 e10 => ?_
    obtain ⟨va, vc, rfl⟩ := o10.is
    have o5_b := o5.at_
    have f10_z := f10.size
    replace p0 := p0.fresh f10 (by omega)
    replace r5 := r5.fr f10 (by omega)
    replace r8 := r8.fr f10 (by omega)
    replace r9 := r9.fr f10 (by omega)
    replace ta := ta.fr f10 (by omega)
    replace tb := tb.fr f10 (by omega)
    replace tc := tc.fr f10 (by omega)
    replace td := td.fr f10 (by omega)
    replace o5 := o5.fr f10 (by have := o5.at_; omega)
    simp -dsimp only [go_sem, ↓reduceIte, reduceCtorEq, Nat.reduceEqDiff, Nat.reduceAdd, Nat.reduceLeDiff, Nat.reduceMul, Int.reduceBEq, Int.reduceBNe, Int.reduceLT, Int.reduceLE, Int.reduceGT, Int.reduceGE, r5.cell, r8.cell, r9.cell]
    refine call_of (rel_Pairs ta (ht.fr p0 (by omega))) ?_
    rintro v3 h11 ⟨f11, o11⟩
    rw [← hP] at o11
    have f11_z := f11.size
    replace p0 := p0.fresh f11 (by omega)
    replace r5 := r5.fr f11 (by omega)
    replace r8 := r8.fr f11 (by omega)
    replace r9 := r9.fr f11 (by omega)
    replace ta := ta.fr f11 (by omega)
    replace tb := tb.fr f11 (by omega)
    replace tc := tc.fr f11 (by omega)
    replace td := td.fr f11 (by omega)
    replace o5 := o5.fr f11 (by have := o5.at_; omega)
    simp -dsimp only [go_sem, ↓reduceIte, reduceCtorEq, Nat.reduceEqDiff, Nat.reduceAdd, Nat.reduceLeDiff, Nat.reduceMul, Int.reduceBEq, Int.reduceBNe, Int.reduceLT, Int.reduceLE, Int.reduceGT, Int.reduceGE, r5.cell, r8.cell, r9.cell]
    refine call_of (c_law1_pairs o11.rd o5.rd (by omega)) ?_
    rintro v h12 ⟨hh, rfl⟩
    obtain rfl : h11 = h12 := hh.symm
    rw [decide_eq_true rfl]
    have e12 : IntKind.i64.wrap ((P.length : Int) + 3) = ((P.length + 3 : Nat) : Int) := by rw [wrap64 (by omega) (by omega)]; omega
    simp -dsimp only [go_sem, ↓reduceIte, reduceCtorEq, Nat.reduceEqDiff, Nat.reduceAdd, Nat.reduceLeDiff, Nat.reduceMul, Int.reduceBEq, Int.reduceBNe, Int.reduceLT, Int.reduceLE, Int.reduceGT, Int.reduceGE, e12, beq_self_eq_true, r5.cell, r8.cell, r9.cell]
    exact p0
  simp -dsimp only [go_sem, ↓reduceIte, reduceCtorEq, Nat.reduceEqDiff, Nat.reduceAdd, Nat.reduceLeDiff, Nat.reduceMul, Int.reduceBEq, Int.reduceBNe, Int.reduceLT, Int.reduceLE, Int.reduceGT, Int.reduceGE, r5.cell, r8.cell, r9.cell]
  exact p0
end Go.Proofs.Tst
/-
  Four relations through any steps.
-/
namespace Go.Proofs.Tst
open Go Go.Vc
theorem and3 (x : Int) : ∃ s : Nat, s < 4 ∧ IntKind.i64.wrap ((BitVec.ofInt IntKind.i64.bits x &&& BitVec.ofInt IntKind.i64.bits 3).toNat : Int) = (s : Int) := by
  have e3 : (BitVec.ofInt 64 3).toNat = 2 ^ 2 - 1 := by decide
  refine ⟨(BitVec.ofInt 64 x).toNat % 4, Nat.mod_lt _ (by omega), ?_⟩
  show IntKind.i64.wrap ((BitVec.ofInt 64 x &&& BitVec.ofInt 64 3).toNat : Int) = _
  rw [BitVec.toNat_and, e3, Nat.and_two_pow_sub_one_eq_mod, wrap64 (by omega) (by omega)]
def row3 (V : Nat → Value) : List Value := [V 0, V 1, V 2, V 3]
def row4 (N : Nat → Nat) (D : Nat → Value) : List Value := [.int .i64 (N 0), D 0, .int .i64 (N 1), D 1, .int .i64 (N 2), D 2, .int .i64 (N 3), D 3]
theorem four {Q : Nat → Prop} (h0 : Q 0) (h1 : Q 1) (h2 : Q 2) (h3 : Q 3) : ∀ s, s < 4 → Q s := fun s hs => by
  match s, hs with
  | 0, _ => exact h0
  | 1, _ => exact h1
  | 2, _ => exact h2
  | 3, _ => exact h3
theorem row3_get {V : Nat → Value} : ∀ s, s < 4 → (row3 V)[s]? = some (V s) := four rfl rfl rfl rfl
theorem row3_set {V : Nat → Value} {v : Value} : ∀ s, s < 4 → (row3 V).set s v = row3 (upd V s v) := four rfl rfl rfl rfl
theorem row4_n {N : Nat → Nat} {D : Nat → Value} : ∀ s, s < 4 → (row4 N D)[s * 2]? = some (.int .i64 (N s)) := four rfl rfl rfl rfl
theorem row4_d {N : Nat → Nat} {D : Nat → Value} : ∀ s, s < 4 → (row4 N D)[s * 2 + 1]? = some (D s) := four rfl rfl rfl rfl
theorem row4_put {N : Nat → Nat} {D : Nat → Value} {n : Nat} {d : Value} : ∀ s, s < 4 → putAt (row4 N D) (s * 2) [.int .i64 n, d] = row4 (upd N s n) (upd D s d) := four rfl rfl rfl rfl
theorem stp_row {l : List Stp} {i : Nat} {x : Stp} (hx : l[i]? = some x) : ∀ k, k < 10 → (l.flatMap Stp.cells)[i * 10 + k]? = x.cells[k]? := by
  induction l generalizing i with
  | nil => simp at hx
  | cons y l ih =>
    intro k hk
    have hy : y.cells.length = 10 := rfl
    rw [List.flatMap_cons]
    cases i with
    | zero =>
      simp at hx; subst hx
      rw [List.getElem?_append_left (by omega), Nat.zero_mul, Nat.zero_add]
    | succ i =>
      rw [List.getElem?_append_right (by omega), show (i + 1) * 10 + k - y.cells.length = i * 10 + k from by omega]
      exact ih (by simpa using hx) k hk
structure PlayI (h' : Heap) (b3 b4 S c : Nat) (P : Nat → Nat) (N : Nat → Nat) (X : Nat → Nat → Nat → Bool) (V D : Nat → Value) (al ah dl dh : Nat → Nat) : Prop where
  r3 : Rw h' b3 (row3 V)
  r4 : Rw h' b4 (row4 N D)
  v : ∀ i, i < c → V i = .pointer (some ⟨P i, 0, none⟩)
  a : ∀ i, i < c → ProgAt h' (al i) (ah i) (.pointer (some ⟨P i, 0, none⟩)) (N i) (X i)
  d : ∀ i, i < c → RefAt h' (dl i) (dh i) (.agg #[.int .i64 (N i), D i]) (N i) (X i)
  s : ∀ i, i < c → S ≤ al i ∧ ah i ≤ h'.size ∧ S ≤ dl i ∧ dh i ≤ h'.size
  aa : ∀ i j, i < c → j < c → i ≠ j → ah i ≤ al j ∨ ah j ≤ al i
  ad : ∀ i j, i < c → j < c → ah i ≤ dl j ∨ dh j ≤ al i
  k : b3 < S ∧ b4 < S ∧ b3 ≠ b4
  vp : ∀ i, ∃ q, V i = .pointer q
  ds : ∀ i, ∃ a n c, D i = .slice a n c
section
variable {h h' : Heap} {b3 b4 S c : Nat} {P : Nat → Nat} {N : Nat → Nat} {X : Nat → Nat → Nat → Bool} {V D : Nat → Value} {al ah dl dh : Nat → Nat}
theorem PlayI.fr (t : PlayI h b3 b4 S c P N X V D al ah dl dh) (f : Fr 0 0 h h') : PlayI h' b3 b4 S c P N X V D al ah dl dh :=
  ⟨t.r3.fr f (by omega), t.r4.fr f (by omega), t.v, fun i hi => (t.a i hi).fr f (by omega), fun i hi => (t.d i hi).fr f (by omega), fun i hi => by have := t.s i hi; have := f.size; omega, t.aa, t.ad, t.k, t.vp, t.ds⟩
/-- A block of one's own is written. -/
theorem PlayI.own (t : PlayI h b3 b4 S c P N X V D al ah dl dh) {b : Nat} (hb : h.size ≤ b) {h1 : Heap} (n : Fr 0 0 h h1) (f : Fr b (b + 1) h1 h') : PlayI h' b3 b4 S c P N X V D al ah dl dh := t.fr (n.fresh f (by omega))
/-- A new relation, and its table, at a place. -/
theorem PlayI.put (t : PlayI h b3 b4 S c P N X V D al ah dl dh) (hS : S ≤ h.size) {h1 h2 : Heap} {s q n plo phi dlo dhi : Nat} {Y : Nat → Nat → Bool} {a : Option Addr} {z w : Nat} (hs : s < 4) (hc : s < c ∨ s = c) (f : Fr 0 0 h h1)
    (tp : ProgAt h1 plo phi (.pointer (some ⟨q, 0, none⟩)) n Y) (td : RefAt h1 dlo dhi (.agg #[.int .i64 n, .slice a z w]) n Y) (k1 : h.size ≤ plo) (k2 : phi ≤ h1.size)
    (k3 : (∃ i, i < c ∧ dlo = dl i ∧ dhi = dh i) ∨ phi ≤ dlo ∧ dhi ≤ h1.size) (hpl : plo ≤ phi)
    (s1 : Sto h1 h2 b3 s [.pointer (some ⟨q, 0, none⟩)]) (s2 : Sto h2 h' b4 (s * 2) [.int .i64 n, .slice a z w]) :
    PlayI h' b3 b4 S (if s = c then c + 1 else c) (upd P s q) (upd N s n) (upd X s Y) (upd V s (.pointer (some ⟨q, 0, none⟩))) (upd D s (.slice a z w)) (upd al s plo) (upd ah s phi) (upd dl s dlo) (upd dh s dhi) := by
  have t1 := t.fr f
  obtain ⟨ka, kb, kc⟩ := t.k
  have z1 := s1.size; have z2 := s2.size; have zf := f.size
  have hcc : ∀ i, i < (if s = c then c + 1 else c) → i = s ∨ (i ≠ s ∧ i < c) := fun i hi => by split at hi <;> omega
  have hd : S ≤ dlo := by
    rcases k3 with ⟨i, hi, rfl, -⟩ | h
    · exact (t.s i hi).2.2.1
    · omega
  have hd2 : dhi ≤ h1.size := by
    rcases k3 with ⟨i, hi, -, rfl⟩ | h
    · exact (t1.s i hi).2.2.2
    · exact h.2
  refine ⟨?_, ?_, ?_, ?_, ?_, ?_, ?_, ?_, t.k, ?_, ?_⟩
  · have := (s1.row t1.r3)
    rw [putAt_one, row3_set s hs] at this
    exact s2.rw this (by omega)
  · have := s2.row (s1.rw t1.r4 (by omega))
    rwa [row4_put s hs] at this
  · intro i hi
    rcases hcc i hi with rfl | ⟨h1, h2⟩
    · rw [upd_same, upd_same]
    · rw [upd_ne _ _ h1, upd_ne _ _ h1]; exact t.v i h2
  · intro i hi
    rcases hcc i hi with rfl | ⟨h1, h2⟩
    · simp only [upd_same]
      exact (tp.fr s1.fr (by omega)).fr s2.fr (by omega)
    · simp only [upd_ne _ _ h1]
      have := t1.s i h2
      exact ((t1.a i h2).fr s1.fr (by omega)).fr s2.fr (by omega)
  · intro i hi
    rcases hcc i hi with rfl | ⟨h1, h2⟩
    · simp only [upd_same]
      exact (td.fr s1.fr (by omega)).fr s2.fr (by omega)
    · simp only [upd_ne _ _ h1]
      have := t1.s i h2
      exact ((t1.d i h2).fr s1.fr (by omega)).fr s2.fr (by omega)
  · intro i hi
    rcases hcc i hi with rfl | ⟨h1, h2⟩
    · simp only [upd_same]; omega
    · simp only [upd_ne _ _ h1]
      have := t1.s i h2
      omega
  · intro i j hi hj hij
    rcases hcc i hi with rfl | ⟨h1, h2⟩
    · rcases hcc j hj with rfl | ⟨h3, h4⟩
      · exact absurd rfl hij
      · simp only [upd_same, upd_ne _ _ h3]
        have := t.s j h4
        omega
    · rcases hcc j hj with rfl | ⟨h3, h4⟩
      · simp only [upd_same, upd_ne _ _ h1]
        have := t.s i h2
        omega
      · simp only [upd_ne _ _ h1, upd_ne _ _ h3]
        exact t.aa i j h2 h4 hij
  · intro i j hi hj
    rcases hcc i hi with rfl | ⟨h1, h2⟩
    · rcases hcc j hj with rfl | ⟨h3, h4⟩
      · simp only [upd_same]
        rcases k3 with ⟨x, hx, -, rfl⟩ | h
        · have := t.s x hx; omega
        · omega
      · simp only [upd_same, upd_ne _ _ h3]
        have := t.s j h4
        omega
    · rcases hcc j hj with rfl | ⟨h3, h4⟩
      · simp only [upd_same, upd_ne _ _ h1]
        rcases k3 with ⟨x, hx, rfl, rfl⟩ | h
        · exact t.ad i x h2 hx
        · have := t.s i h2; omega
      · simp only [upd_ne _ _ h1, upd_ne _ _ h3]
        exact t.ad i j h2 h4
  · intro i
    by_cases hi : i = s
    · subst hi; exact ⟨_, upd_same _ _ _⟩
    · rw [upd_ne _ _ hi]; exact t.vp i
  · intro i
    by_cases hi : i = s
    · subst hi; exact ⟨_, _, _, upd_same _ _ _⟩
    · rw [upd_ne _ _ hi]; exact t.ds i
theorem PlayI.setV (t : PlayI h b3 b4 S c P N X V D al ah dl dh) {q : Option Addr} (hc : c < 4) (s1 : Sto h h' b3 c [.pointer q]) : PlayI h' b3 b4 S c P N X (upd V c (.pointer q)) D al ah dl dh := by
  obtain ⟨ka, kb, kc⟩ := t.k
  have z1 := s1.size
  refine ⟨?_, s1.rw t.r4 (by omega), fun i hi => by rw [upd_ne _ _ (by omega)]; exact t.v i hi, fun i hi => (t.a i hi).fr s1.fr (by have := t.s i hi; omega), fun i hi => (t.d i hi).fr s1.fr (by have := t.s i hi; omega), fun i hi => by have := t.s i hi; omega, t.aa, t.ad, t.k, fun i => ?_, t.ds⟩
  · have := s1.row t.r3
    rwa [putAt_one, row3_set c hc] at this
  · by_cases hi : i = c
    · subst hi; exact ⟨_, upd_same _ _ _⟩
    · rw [upd_ne _ _ hi]; exact t.vp i
/-- One more relation, whose pointer lies there. -/
theorem PlayI.grow (t : PlayI h b3 b4 S c P N X V D al ah dl dh) (hS : S ≤ h.size) {h1 : Heap} {q n plo phi dlo dhi : Nat} {Y : Nat → Nat → Bool} {a : Option Addr} {z w : Nat} (hs : c < 4) (hV : V c = .pointer (some ⟨q, 0, none⟩)) (f : Fr 0 0 h h1)
    (tp : ProgAt h1 plo phi (.pointer (some ⟨q, 0, none⟩)) n Y) (td : RefAt h1 dlo dhi (.agg #[.int .i64 n, .slice a z w]) n Y) (k1 : S ≤ plo) (k1' : ∀ i, i < c → ah i ≤ plo ∧ dh i ≤ plo) (k2 : phi ≤ h1.size)
    (k3 : (∃ i, i < c ∧ dlo = dl i ∧ dhi = dh i) ∨ phi ≤ dlo ∧ dhi ≤ h1.size) (hpl : plo ≤ phi)
    (s2 : Sto h1 h' b4 (c * 2) [.int .i64 n, .slice a z w]) :
    PlayI h' b3 b4 S (c + 1) (upd P c q) (upd N c n) (upd X c Y) V (upd D c (.slice a z w)) (upd al c plo) (upd ah c phi) (upd dl c dlo) (upd dh c dhi) := by
  have t1 := t.fr f
  obtain ⟨ka, kb, kc⟩ := t.k
  have z2 := s2.size; have zf := f.size
  have hcc : ∀ i, i < c + 1 → i = c ∨ (i ≠ c ∧ i < c) := fun i hi => by omega
  have hd : S ≤ dlo := by
    rcases k3 with ⟨i, hi, rfl, -⟩ | h
    · exact (t.s i hi).2.2.1
    · omega
  have hd2 : dhi ≤ h1.size := by
    rcases k3 with ⟨i, hi, -, rfl⟩ | h
    · exact (t1.s i hi).2.2.2
    · exact h.2
  refine ⟨?_, ?_, ?_, ?_, ?_, ?_, ?_, ?_, t.k, t.vp, ?_⟩
  · exact s2.rw t1.r3 (by omega)
  · have := s2.row t1.r4
    rwa [row4_put c hs] at this
  · intro i hi
    rcases hcc i hi with rfl | ⟨h1, h2⟩
    · rw [upd_same, hV]
    · rw [upd_ne _ _ h1]; exact t.v i h2
  · intro i hi
    rcases hcc i hi with rfl | ⟨h1, h2⟩
    · simp only [upd_same]
      exact tp.fr s2.fr (by omega)
    · simp only [upd_ne _ _ h1]
      have := t1.s i h2
      exact (t1.a i h2).fr s2.fr (by omega)
  · intro i hi
    rcases hcc i hi with rfl | ⟨h1, h2⟩
    · simp only [upd_same]
      exact td.fr s2.fr (by omega)
    · simp only [upd_ne _ _ h1]
      have := t1.s i h2
      exact (t1.d i h2).fr s2.fr (by omega)
  · intro i hi
    rcases hcc i hi with rfl | ⟨h1, h2⟩
    · simp only [upd_same]; omega
    · simp only [upd_ne _ _ h1]
      have := t1.s i h2
      omega
  · intro i j hi hj hij
    rcases hcc i hi with rfl | ⟨h1, h2⟩
    · rcases hcc j hj with rfl | ⟨h3, h4⟩
      · exact absurd rfl hij
      · simp only [upd_same, upd_ne _ _ h3]
        have := t.s j h4; have := k1' j h4
        omega
    · rcases hcc j hj with rfl | ⟨h3, h4⟩
      · simp only [upd_same, upd_ne _ _ h1]
        have := t.s i h2; have := k1' i h2
        omega
      · simp only [upd_ne _ _ h1, upd_ne _ _ h3]
        exact t.aa i j h2 h4 hij
  · intro i j hi hj
    rcases hcc i hi with rfl | ⟨h1, h2⟩
    · rcases hcc j hj with rfl | ⟨h3, h4⟩
      · simp only [upd_same]
        rcases k3 with ⟨x, hx, -, rfl⟩ | h
        · have := t.s x hx; have := k1' x hx; omega
        · omega
      · simp only [upd_same, upd_ne _ _ h3]
        have := t.s j h4; have := k1' j h4
        omega
    · rcases hcc j hj with rfl | ⟨h3, h4⟩
      · simp only [upd_same, upd_ne _ _ h1]
        rcases k3 with ⟨x, hx, rfl, rfl⟩ | h
        · exact t.ad i x h2 hx
        · have := t.s i h2; have := k1' i h2; omega
      · simp only [upd_ne _ _ h1, upd_ne _ _ h3]
        exact t.ad i j h2 h4
  · intro i
    by_cases hi : i = c
    · subst hi; exact ⟨_, _, _, upd_same _ _ _⟩
    · rw [upd_ne _ _ hi]; exact t.ds i
/-- The document's table is exchanged, and the relation is put into. -/
theorem PlayI.turn (t : PlayI h b3 b4 S c P N X V D al ah dl dh) (hS : S ≤ h.size) {h1 h2 : Heap} {s dlo dhi : Nat} {Y : Nat → Nat → Bool} {a : Option Addr} {z w : Nat} (hs : s < 4) (hc : s < c) (f : Fr 0 0 h h1)
    (td : RefAt h1 dlo dhi (.agg #[.int .i64 (N s), .slice a z w]) (N s) Y) (k3 : dlo = dl s ∧ dhi = dh s ∨ h.size ≤ dlo ∧ dhi ≤ h1.size)
    (s2 : Sto h1 h2 b4 (s * 2) [.int .i64 (N s), .slice a z w]) (f2 : Fr (al s) (ah s) h2 h') (z2 : h'.size = h2.size) (tp : ProgAt h' (al s) (ah s) (.pointer (some ⟨P s, 0, none⟩)) (N s) Y) :
    PlayI h' b3 b4 S c P N (upd X s Y) V (upd D s (.slice a z w)) al ah (upd dl s dlo) (upd dh s dhi) := by
  have t1 := t.fr f
  obtain ⟨ka, kb, kc⟩ := t.k
  have z1 := s2.size; have zf := f.size
  have hss := t.s s hc
  have hN : upd N s (N s) = N := by funext i; unfold upd; split <;> simp_all
  refine ⟨?_, ?_, t.v, ?_, ?_, ?_, t.aa, ?_, t.k, t.vp, ?_⟩
  · exact (s2.rw t1.r3 (by omega)).fr f2 (by omega)
  · have := s2.row t1.r4
    rw [row4_put s hs, hN] at this
    exact this.fr f2 (by omega)
  · intro i hi
    by_cases his : i = s
    · subst his; simp only [upd_same]; exact tp
    · simp only [upd_ne _ _ his]
      have := t.s i hi
      have := t.aa i s hi hc his
      exact ((t1.a i hi).fr s2.fr (by omega)).fr f2 (by omega)
  · intro i hi
    by_cases his : i = s
    · subst his; simp only [upd_same]
      have hh := t.ad i i hc hc
      refine (td.fr s2.fr ?_).fr f2 ?_
      · rcases k3 with ⟨rfl, rfl⟩ | h <;> omega
      · rcases k3 with ⟨rfl, rfl⟩ | h <;> omega
    · simp only [upd_ne _ _ his]
      have := t.s i hi
      have := t.ad s i hc hi
      exact ((t1.d i hi).fr s2.fr (by omega)).fr f2 (by omega)
  · intro i hi
    have h0 := t1.s i hi
    by_cases his : i = s
    · subst his; simp only [upd_same]
      rcases k3 with ⟨rfl, rfl⟩ | h <;> omega
    · simp only [upd_ne _ _ his]; omega
  · intro i j hi hj
    by_cases hjs : j = s
    · subst hjs; simp only [upd_same]
      have := t.ad i j hi hj
      have := t.s i hi
      rcases k3 with ⟨rfl, rfl⟩ | h <;> omega
    · simp only [upd_ne _ _ hjs]; exact t.ad i j hi hj
  · intro i
    by_cases hi : i = s
    · subst hi; exact ⟨_, _, _, upd_same _ _ _⟩
    · rw [upd_ne _ _ hi]; exact t.ds i
end
end Go.Proofs.Tst
/-
  All orders that begin with a list, in their order; how they are gone through.
-/
namespace Go.Proofs.Tst
open Go Go.Vc
section
variable {n : Nat} {M : Nat → Nat → Bool}
/-- All orders that begin with l: so many points are still to be placed. -/
def extGo (n : Nat) (M : Nat → Nat → Bool) : Nat → List Nat → List (List Nat)
  | 0, l => [l]
  | k + 1, l => (rest (freeB n M l.contains) n 0).flatMap fun p => extGo n M k (l ++ [p])
def extFrom (n : Nat) (M : Nat → Nat → Bool) (l : List Nat) (q : Nat) : List (List Nat) := (rest (freeB n M l.contains) n q).flatMap fun p => extGo n M (n - l.length - 1) (l ++ [p])
def later (n : Nat) (M : Nat → Nat → Bool) : List Nat → List (List Nat)
  | [] => []
  | p :: r => extFrom n M r.reverse (p + 1) ++ later n M r
/-- A beginning of an order. -/
def Pre (n : Nat) (M : Nat → Nat → Bool) (l : List Nat) : Prop := l.Nodup ∧ (∀ x ∈ l, x < n) ∧ ∀ i x, l[i]? = some x → ∀ a, a < n → M a x = true → a ∈ l.take i
theorem Pre.nil : Pre n M [] := ⟨by simp, by simp, by simp⟩
theorem Pre.len {l : List Nat} (h : Pre n M l) : l.length ≤ n := nodup_lt h.1 h.2.1
/-- Of a whole order: each pair's first stands ahead of its second. -/
theorem Pre.idx {l : List Nat} (h : Pre n M l) {a b : Nat} (ha : a < n) (hb : b ∈ l) (hm : M a b = true) : l.idxOf a < l.idxOf b := by
  have hi : l.idxOf b < l.length := List.idxOf_lt_length_iff.2 hb
  have := h.2.2 (l.idxOf b) b (by rw [List.getElem?_eq_getElem hi, List.getElem_idxOf]) a ha hm
  obtain ⟨j, hj, hja⟩ := List.mem_iff_getElem.1 this
  have hj' : j < l.idxOf b := by rw [List.length_take] at hj; omega
  rw [List.getElem_take] at hja
  subst hja
  rw [h.1.idxOf_getElem]; exact hj'
end
end Go.Proofs.Tst
/-
  The points that lead to one another: the least one of each list, the relation between them, their order.
-/
namespace Go.Proofs.Tst
open Go Go.Vc
section
variable {n : Nat} {M : Nat → Nat → Bool}
/-- A list's points, of those below k. -/
def memb (F : Nat → Nat) (r k : Nat) : List Nat := (List.range k).filter fun p => F p == r
/-- The least points, in the order of what leads to what. -/
def seqGo (n : Nat) (S : Nat → Nat → Bool) (F : Nat → Nat) : Nat → List Nat → List Nat
  | 0, _ => []
  | k + 1, l => match lf (fun p => F p == p && freeB n S l.contains p) n 0 with
    | none => []
    | some p => p :: seqGo n S F k (l ++ [p])
/-- So far, and what follows. -/
def SeqI (n : Nat) (S : Nat → Nat → Bool) (F : Nat → Nat) (l : List Nat) : Prop := l.Nodup ∧ (∀ x ∈ l, x < n ∧ F x = x) ∧ l ++ seqGo n S F (n - l.length) l = seqGo n S F n []
theorem SeqI.len {S : Nat → Nat → Bool} {F : Nat → Nat} {l : List Nat} (h : SeqI n S F l) : l.length ≤ n := nodup_lt h.1 fun x hx => (h.2.1 x hx).1
theorem SeqI.step {S : Nat → Nat → Bool} {F : Nat → Nat} {l : List Nat} {p : Nat} (h : SeqI n S F l) (hp : lf (fun p => F p == p && freeB n S l.contains p) n 0 = some p) : SeqI n S F (l ++ [p]) := by
  obtain ⟨h1, h2, h3⟩ := h
  obtain ⟨-, hpn, hf⟩ := lf_some hp
  simp only [Bool.and_eq_true, beq_iff_eq] at hf
  have hpl : p ∉ l := by have := (freeB_true.1 hf.2).1; simpa using this
  have hnd : (l ++ [p]).Nodup := by
    rw [List.nodup_append]; exact ⟨h1, by simp, fun y hy z hz => by simp at hz; subst hz; rintro rfl; exact hpl hy⟩
  have hlt : ∀ x ∈ l ++ [p], x < n ∧ F x = x := fun x hx => by
    rcases List.mem_append.1 hx with hx | hx
    · exact h2 x hx
    · simp at hx; subst hx; exact ⟨hpn, hf.1⟩
  have hl := nodup_lt hnd fun x hx => (hlt x hx).1
  refine ⟨hnd, hlt, ?_⟩
  rw [List.length_append, List.length_singleton] at hl ⊢
  rw [show n - l.length = (n - (l.length + 1)) + 1 from by omega] at h3
  simp only [seqGo, hp] at h3
  rw [List.append_assoc]; exact h3
theorem SeqI.done {S : Nat → Nat → Bool} {F : Nat → Nat} {l : List Nat} (h : SeqI n S F l) (hp : lf (fun p => F p == p && freeB n S l.contains p) n 0 = none) : l = seqGo n S F n [] := by
  obtain ⟨h1, h2, h3⟩ := h
  cases hk : n - l.length with
  | zero => rw [hk] at h3; simpa [seqGo] using h3
  | succ k => rw [hk] at h3; simp only [seqGo, hp, List.append_nil] at h3; exact h3
end
end Go.Proofs.Tst
/-
  The document's own Components and Reduction.
-/
namespace Go.Proofs.Tst
open Go Go.Vc
end Go.Proofs.Tst
/-
  Reduction, by the program and by the document.
-/
namespace Go.Proofs.Tst
open Go Go.Vc
end Go.Proofs.Tst
namespace Go.Proofs.Tst
open Go Go.Vc
/-- How many points that are not done must come ahead of p. -/
def cnt (n : Nat) (M : Nat → Nat → Bool) (D : Nat → Bool) (p : Nat) : Nat := (List.range n).countP fun a => M a p && !D a
/-- Counts in cells. -/
def cntV (n : Nat) (c : Nat → Nat) : List Value := (List.range n).map fun (p : Nat) => Value.int .i64 (c p : Int)
@[simp] theorem length_cntV (n : Nat) (c : Nat → Nat) : (cntV n c).length = n := by simp [cntV]
/-- The blocks of a chooser. -/
structure ChB where
  (bn bw bb bp ww bk pw : Nat)
  B : Nat → Value
/-- What a chooser keeps, its points D placed. -/
structure Chs (h : Heap) (lo hi : Nat) (c : ChB) (n : Nat) (M : Nat → Nat → Bool) (D : Nat → Bool) : Prop where
  rn : Rw h c.bn [.int .i64 n]
  rw_ : Rw h c.bw [.slice (some ⟨c.ww, 0, none⟩) n n]
  rb : Rw h c.bb [.slice (some ⟨c.bk, 0, none⟩) n n]
  rp : Rw h c.bp [.slice (some ⟨c.pw, 0, none⟩) n n]
  waits : Rw h c.ww (cntV n (cnt n M D))
  placed : Rw h c.pw (brow n D)
  behind : Rw h c.bk ((List.range n).map c.B)
  beh : ∀ p, p < n → Holder 1 h (c.B p) (rest (M p) n 0).length (natsV (rest (M p) n 0)) lo ∧ bl (c.B p) ≠ c.ww ∧ bl (c.B p) ≠ c.pw ∧ bh (c.B p) ≤ hi
  at_ : lo ≤ c.bn ∧ c.bn < hi ∧ lo ≤ c.bw ∧ c.bw < hi ∧ lo ≤ c.bb ∧ c.bb < hi ∧ lo ≤ c.bp ∧ c.bp < hi ∧ lo ≤ c.ww ∧ c.ww < hi ∧ lo ≤ c.pw ∧ c.pw < hi ∧ lo ≤ c.bk ∧ c.bk < hi
  ne : c.ww ≠ c.pw ∧ c.ww ≠ c.bn ∧ c.ww ≠ c.bw ∧ c.ww ≠ c.bb ∧ c.ww ≠ c.bp ∧ c.ww ≠ c.bk ∧ c.pw ≠ c.bn ∧ c.pw ≠ c.bw ∧ c.pw ≠ c.bb ∧ c.pw ≠ c.bp ∧ c.pw ≠ c.bk
  small : n ≤ 256
theorem Chs.fr {h h' : Heap} {lo hi l r n : Nat} {c : ChB} {M : Nat → Nat → Bool} {D : Nat → Bool} (t : Chs h lo hi c n M D) (f : Fr l r h h') (hd : hi ≤ l ∨ r ≤ lo ∨ r ≤ l) : Chs h' lo hi c n M D := by
  have a := t.at_
  refine ⟨t.rn.fr f (by omega), t.rw_.fr f (by omega), t.rb.fr f (by omega), t.rp.fr f (by omega), t.waits.fr f (by omega), t.placed.fr f (by omega), t.behind.fr f (by omega), fun p hp => ?_, a, t.ne, t.small⟩
  obtain ⟨h1, h2, h3, h4⟩ := t.beh p hp
  have := h1.at_
  exact ⟨h1.fr f (by omega), h2, h3, h4⟩
def ChB.next (c : ChB) : Value := .func (.func 103) #[] #[.pointer (some ⟨c.bn, 0, none⟩), .pointer (some ⟨c.bp, 0, none⟩), .pointer (some ⟨c.bw, 0, none⟩)]
def ChB.place (c : ChB) : Value := .func (.func 104) #[] #[.pointer (some ⟨c.bp, 0, none⟩), .pointer (some ⟨c.bb, 0, none⟩), .pointer (some ⟨c.bw, 0, none⟩)]

end Go.Proofs.Tst
namespace Go.Proofs.Tst
open Go Go.Vc
end Go.Proofs.Tst
namespace Go.Proofs.Tst
open Go Go.Vc
end Go.Proofs.Tst
/-
  order.Components.
-/
namespace Go.Proofs.Tst
open Go Go.Vc
theorem loop_joint {P : Program} {y : Option Nat} {c : GC} {Q : Post} {K : Env → Heap → Prop} {k : Nat} {e : Env} {h : Heap} {α : Type} (E : α → Env) (I : α → Heap → Prop)
    (h1 : loopVC (vc P y c) (blockQ k (thenQ (fun e h => ∃ s, Le (E s) e ∧ I s h) Q)) e h) (h2 : ∀ s h, I s h → ∀ e, Le (E s) e → K e h) : loopVC (vc P y c) (blockQ k (thenQ K Q)) e h :=
  vc_mono (c := .loop c) (Q := blockQ k (thenQ (fun e h => ∃ s, Le (E s) e ∧ I s h) Q)) (Q' := blockQ k (thenQ K Q)) (fun x e h hq => by
    have key : thenQ (fun e h => ∃ s, Le (E s) e ∧ I s h) Q .normal e h → thenQ K Q .normal e h := fun ⟨s, hl, hi⟩ => h2 s h hi e hl
    cases x with
    | normal => exact key hq
    | ret => exact hq
    | exit j =>
      by_cases hj : j = k
      · simp only [blockQ, hj, if_true] at hq ⊢; exact key hq
      · simp only [blockQ, hj, if_false] at hq ⊢; exact hq) h1
/-- A table of lists in the making. -/
structure Mem (h : Heap) (n : Nat) (F : Nat → Nat) (i : Nat) (B : Nat → Value) (lo : Nat) : Prop where
  own : ∀ r, r < n → Holder 1 h (B r) (memb F r i).length (natsV (memb F r i)) lo
  off : ∀ a b, a < n → b < n → a ≠ b → Off (B a) (B b)
  nil : ∀ r, r < n → memb F r i = [] → B r = .slice none 0 0
theorem Mem.fr {h h' : Heap} {n i lo l r : Nat} {F : Nat → Nat} {B : Nat → Value} (m : Mem h n F i B lo) (f : Fr l r h h') (ha : ∀ x, x < n → bh (B x) ≤ l ∨ r ≤ bl (B x) ∨ r ≤ l) : Mem h' n F i B lo :=
  ⟨fun x hx => (m.own x hx).fr f (ha x hx), m.off, m.nil⟩
end Go.Proofs.Tst
