/-
  Contracts of functions that the law reaches: what each returns and what it leaves in memory. Conditions stand in each.
-/
import Derived.Test.YtmilaghhnaoidaaDoorT6
set_option linter.all false
set_option maxRecDepth 2000
namespace Go.Proofs.Tst
open Go Go.Vc
theorem ref1_Comp {n m : Nat} {M N : Nat → Nat → Bool} {rv sv : Value} {lo hi lo' hi' : Nat} {h : Heap} (hr : RefAt h lo hi rv n M) (hs : RefAt h lo' hi' sv m N) :
    Con Tryd.prog 101 #[rv, sv] h fun v h' => Fr 0 0 h h' ∧ RefAt h' h.size h'.size v (max n m) (compM n M m N) := by
  refine con_ref1_Comp ?_
  have hr0 := hr; have hs0 := hs
  obtain ⟨hn, s, R, rfl, t⟩ := hr
  obtain ⟨sa, sc, rfl⟩ := t.own.is
  obtain ⟨hm, s', R', rfl, t'⟩ := hs
  obtain ⟨sa', sc', rfl⟩ := t'.own.is
  have hcl : clampN (max n m : Nat) = max n m := by unfold clampN; omega
  have p0 : Fr 0 0 h h := .refl _ _ _
  simp -dsimp only [go_sem]
  intro b2 h2 n2
  have n2_a := n2.at_
  have n2_z := n2.size
  replace p0 := p0.fresh (n2.fr (lo := 0) (hi := 0)) (by omega)
  have r2 := n2.row
  simp -dsimp only [go_sem, r2.cell]
  intro b3 h3 n3
  have n3_a := n3.at_
  have n3_z := n3.size
  replace p0 := p0.fresh (n3.fr (lo := 0) (hi := 0)) (by omega)
  replace r2 := r2.fr (n3.fr (lo := 0) (hi := 0)) (by omega)
  have r3 := n3.row
  simp -dsimp only [go_sem, r2.cell, r3.cell]
  intro b4 h4 n4
  have n4_a := n4.at_
  have n4_z := n4.size
  replace p0 := p0.fresh (n4.fr (lo := 0) (hi := 0)) (by omega)
  replace r2 := r2.fr (n4.fr (lo := 0) (hi := 0)) (by omega)
  replace r3 := r3.fr (n4.fr (lo := 0) (hi := 0)) (by omega)
  have r4 := n4.row
  simp -dsimp only [go_sem, r2.cell, r3.cell, r4.cell]
  refine call_of (ref1_Wide (hr0.fr p0 (by omega)) m hm) ?_
  rw [Nat.max_comm]
  rintro v h6 ⟨f6, hmx, x, X, rfl, tx⟩
  obtain ⟨xa, xc, rfl⟩ := tx.own.is
  have tx_a := tx.own.at_
  have f6_z := f6.size
  replace p0 := p0.fresh f6 (by omega)
  replace r2 := r2.fr f6 (by omega)
  replace r3 := r3.fr f6 (by omega)
  replace r4 := r4.fr f6 (by omega)
  simp -dsimp only [go_sem, r2.cell, r3.cell, r4.cell]
  intro b7 h7 n7
  have n7_a := n7.at_
  have n7_z := n7.size
  replace p0 := p0.fresh (n7.fr (lo := 0) (hi := 0)) (by omega)
  replace r2 := r2.fr (n7.fr (lo := 0) (hi := 0)) (by omega)
  replace r3 := r3.fr (n7.fr (lo := 0) (hi := 0)) (by omega)
  replace r4 := r4.fr (n7.fr (lo := 0) (hi := 0)) (by omega)
  replace tx := tx.fr (n7.fr (lo := 0) (hi := 0)) (by omega)
  have r7 := n7.row
  simp -dsimp only [go_sem, r2.cell, r3.cell, r4.cell, r7.cell]
  refine Chk_intro (r7.wr (by first | (simp; done) | (simp; omega))) fun h8 s8 => ?_
  have s8_z := s8.size
  replace p0 := p0.fresh s8.fr (by omega)
  replace r2 := r2.fr s8.fr (by omega)
  replace r3 := r3.fr s8.fr (by omega)
  replace r4 := r4.fr s8.fr (by omega)
  replace tx := tx.fr s8.fr (by omega)
  replace r7 := s8.row r7
  try simp only [cl_int, cl_bool, cl_slice, cl_ptr, putAt_one, List.set_cons_zero, List.set_cons_succ, ivec_set, brow_upd] at r7
  simp -dsimp only [go_sem, r2.cell, r3.cell, r4.cell, r7.cell]
  refine call_of (ref1_Wide (hs0.fr p0 (by omega)) n hn) ?_
  rintro v h9 ⟨f9, -, y, Y, rfl, ty⟩
  obtain ⟨ya, yc, rfl⟩ := ty.own.is
  have ty_a := ty.own.at_
  have f9_z := f9.size
  replace p0 := p0.fresh f9 (by omega)
  replace r2 := r2.fr f9 (by omega)
  replace r3 := r3.fr f9 (by omega)
  replace r4 := r4.fr f9 (by omega)
  replace tx := tx.fr f9 (by omega)
  replace r7 := r7.fr f9 (by omega)
  simp -dsimp only [go_sem, r2.cell, r3.cell, r4.cell, r7.cell]
  intro b10 h10 n10
  have n10_a := n10.at_
  have n10_z := n10.size
  replace p0 := p0.fresh (n10.fr (lo := 0) (hi := 0)) (by omega)
  replace r2 := r2.fr (n10.fr (lo := 0) (hi := 0)) (by omega)
  replace r3 := r3.fr (n10.fr (lo := 0) (hi := 0)) (by omega)
  replace r4 := r4.fr (n10.fr (lo := 0) (hi := 0)) (by omega)
  replace tx := tx.fr (n10.fr (lo := 0) (hi := 0)) (by omega)
  replace r7 := r7.fr (n10.fr (lo := 0) (hi := 0)) (by omega)
  replace ty := ty.fr (n10.fr (lo := 0) (hi := 0)) (by omega)
  have r10 := n10.row
  simp -dsimp only [go_sem, r2.cell, r3.cell, r4.cell, r7.cell, r10.cell]
  refine Chk_intro (r10.wr (by first | (simp; done) | (simp; omega))) fun h11 s11 => ?_
  have s11_z := s11.size
  replace p0 := p0.fresh s11.fr (by omega)
  replace r2 := r2.fr s11.fr (by omega)
  replace r3 := r3.fr s11.fr (by omega)
  replace r4 := r4.fr s11.fr (by omega)
  replace tx := tx.fr s11.fr (by omega)
  replace r7 := r7.fr s11.fr (by omega)
  replace ty := ty.fr s11.fr (by omega)
  replace r10 := s11.row r10
  try simp only [cl_int, cl_bool, cl_slice, cl_ptr, putAt_one, List.set_cons_zero, List.set_cons_succ, ivec_set, brow_upd] at r10
  simp -dsimp only [go_sem, r2.cell, r3.cell, r4.cell, r7.cell, r10.cell]
  refine call_of (ref1_New (max n m : Nat) h11) ?_
  rintro v h12 ⟨f12, t12⟩
  rw [hcl] at t12
  obtain ⟨-, z, Z, rfl, t12⟩ := t12
  obtain ⟨za, zc, rfl⟩ := t12.own.is
  have t12_a := t12.own.at_
  have f12_z := f12.size
  replace p0 := p0.fresh f12 (by omega)
  replace r2 := r2.fr f12 (by omega)
  replace r3 := r3.fr f12 (by omega)
  replace r4 := r4.fr f12 (by omega)
  replace tx := tx.fr f12 (by omega)
  replace r7 := r7.fr f12 (by omega)
  replace ty := ty.fr f12 (by omega)
  replace r10 := r10.fr f12 (by omega)
  simp -dsimp only [go_sem, r2.cell, r3.cell, r4.cell, r7.cell, r10.cell]
  intro b13 h13 n13
  have n13_a := n13.at_
  have n13_z := n13.size
  replace p0 := p0.fresh (n13.fr (lo := 0) (hi := 0)) (by omega)
  replace r2 := r2.fr (n13.fr (lo := 0) (hi := 0)) (by omega)
  replace r3 := r3.fr (n13.fr (lo := 0) (hi := 0)) (by omega)
  replace r4 := r4.fr (n13.fr (lo := 0) (hi := 0)) (by omega)
  replace tx := tx.fr (n13.fr (lo := 0) (hi := 0)) (by omega)
  replace r7 := r7.fr (n13.fr (lo := 0) (hi := 0)) (by omega)
  replace ty := ty.fr (n13.fr (lo := 0) (hi := 0)) (by omega)
  replace r10 := r10.fr (n13.fr (lo := 0) (hi := 0)) (by omega)
  replace t12 := t12.fr (n13.fr (lo := 0) (hi := 0)) (by omega)
  have r13 := n13.row
  simp -dsimp only [go_sem, r2.cell, r3.cell, r4.cell, r7.cell, r10.cell, r13.cell]
  refine Chk_intro (r13.wr (by first | (simp; done) | (simp; omega))) fun h14 s14 => ?_
  have s14_z := s14.size
  replace p0 := p0.fresh s14.fr (by omega)
  replace r2 := r2.fr s14.fr (by omega)
  replace r3 := r3.fr s14.fr (by omega)
  replace r4 := r4.fr s14.fr (by omega)
  replace tx := tx.fr s14.fr (by omega)
  replace r7 := r7.fr s14.fr (by omega)
  replace ty := ty.fr s14.fr (by omega)
  replace r10 := r10.fr s14.fr (by omega)
  replace t12 := t12.fr s14.fr (by omega)
  replace r13 := s14.row r13
  try simp only [cl_int, cl_bool, cl_slice, cl_ptr, putAt_one, List.set_cons_zero, List.set_cons_succ, ivec_set, brow_upd] at r13
  simp -dsimp only [go_sem, r2.cell, r3.cell, r4.cell, r7.cell, r10.cell, r13.cell]
  have htx := tx; have hty := ty
  have q0 := p0
  -- points, one by one
  refine loop_intro (fun p : Nat => [(4, .pointer (some ⟨b4, 0, none⟩)), (5, .pointer (some ⟨b7, 0, none⟩)), (6, .pointer (some ⟨b10, 0, none⟩)), (7, .pointer (some ⟨b13, 0, none⟩)), (8, .int .i64 p)])
    (fun p h' => p ≤ max n m ∧ Fr 0 0 h h' ∧ h14.size ≤ h'.size ∧ Rw h' b4 [.int .i64 0, .slice none 0 0] ∧ Rw h' b7 [.int .i64 (max n m : Nat), .slice xa (max n m) xc] ∧ Rw h' b10 [.int .i64 (max n m : Nat), .slice ya (max n m) yc] ∧ Rw h' b13 [.int .i64 (max n m : Nat), .slice za (max n m) zc] ∧
      Tab h' h4.size h6.size (.slice xa (max n m) xc) (max n m) (max n m) X (inN n M) ∧ Tab h' h8.size h9.size (.slice ya (max n m) yc) (max n m) (max n m) Y (inN m N) ∧ Tab h' h11.size h12.size (.slice za (max n m) zc) (max n m) (max n m) Z fun i j => decide (i < p) && compM n M m N i j) (fun p => max n m - p) 0 ?_ ?_ ?_
  · simp [Le, find]
  · exact ⟨by omega, p0, by omega, r4, r7, r10, r13, tx, ty, t12.congr fun i j _ _ => by simp⟩
  rintro p hP ⟨hp, p0, yP, r4, r7, r10, r13, tx, ty, t12⟩
  have p0_z := p0.size
  have r4_l := r4.lt
  have r7_l := r7.lt
  have r10_l := r10.lt
  have r13_l := r13.lt
  simp -dsimp only [go_sem, r4.cell, r7.cell, r10.cell, r13.cell]
  refine ⟨fun hlt1 => ?_, fun hge1 => ?_⟩
  · have hlt1 : p < max n m := by omega
    simp -dsimp only [go_sem, r4.cell, r7.cell, r10.cell, r13.cell]
    refine loop_intro (fun q : Nat => [(4, .pointer (some ⟨b4, 0, none⟩)), (5, .pointer (some ⟨b7, 0, none⟩)), (6, .pointer (some ⟨b10, 0, none⟩)), (7, .pointer (some ⟨b13, 0, none⟩)), (8, .int .i64 p), (9, .int .i64 q)])
      (fun q h' => q ≤ max n m ∧ Fr 0 0 h h' ∧ h14.size ≤ h'.size ∧ Rw h' b4 [.int .i64 0, .slice none 0 0] ∧ Rw h' b7 [.int .i64 (max n m : Nat), .slice xa (max n m) xc] ∧ Rw h' b10 [.int .i64 (max n m : Nat), .slice ya (max n m) yc] ∧ Rw h' b13 [.int .i64 (max n m : Nat), .slice za (max n m) zc] ∧
        Tab h' h4.size h6.size (.slice xa (max n m) xc) (max n m) (max n m) X (inN n M) ∧ Tab h' h8.size h9.size (.slice ya (max n m) yc) (max n m) (max n m) Y (inN m N) ∧ Tab h' h11.size h12.size (.slice za (max n m) zc) (max n m) (max n m) Z fun i j => (decide (i < p) && compM n M m N i j) || (i == p && (List.range q).any fun k => inN n M p k && inN m N k j)) (fun q => max n m - q) 0 ?_ ?_ ?_
    · simp [Le, find]
    · exact ⟨by omega, p0, by omega, r4, r7, r10, r13, tx, ty, t12.congr fun i j _ _ => by simp⟩
    rintro q hQ ⟨hq, p0, yQ, r4, r7, r10, r13, tx, ty, t12⟩
    have p0_z := p0.size
    have r4_l := r4.lt
    have r7_l := r7.lt
    have r10_l := r10.lt
    have r13_l := r13.lt
    simp -dsimp only [go_sem, r4.cell, r7.cell, r10.cell, r13.cell]
    refine ⟨fun hlt2 => ?_, fun hge2 => ?_⟩
    · have hlt2 : q < max n m := by omega
      have hstep : ∀ j, (List.range (q + 1)).any (fun k => inN n M p k && inN m N k j) = ((List.range q).any (fun k => inN n M p k && inN m N k j) || (inN n M p q && inN m N q j)) := fun j => by
        rw [List.range_succ, List.any_append]; simp
      simp -dsimp only [go_sem, r4.cell, r7.cell, r10.cell, r13.cell]
      refine loop_intro (fun c : Nat => [(4, .pointer (some ⟨b4, 0, none⟩)), (5, .pointer (some ⟨b7, 0, none⟩)), (6, .pointer (some ⟨b10, 0, none⟩)), (7, .pointer (some ⟨b13, 0, none⟩)), (8, .int .i64 p), (9, .int .i64 q), (10, .int .i64 c)])
        (fun c h' => c ≤ max n m ∧ (inN n M p q = false → c = 0) ∧ Fr 0 0 h h' ∧ h14.size ≤ h'.size ∧ Rw h' b4 [.int .i64 0, .slice none 0 0] ∧ Rw h' b7 [.int .i64 (max n m : Nat), .slice xa (max n m) xc] ∧ Rw h' b10 [.int .i64 (max n m : Nat), .slice ya (max n m) yc] ∧ Rw h' b13 [.int .i64 (max n m : Nat), .slice za (max n m) zc] ∧
          Tab h' h4.size h6.size (.slice xa (max n m) xc) (max n m) (max n m) X (inN n M) ∧ Tab h' h8.size h9.size (.slice ya (max n m) yc) (max n m) (max n m) Y (inN m N) ∧ Tab h' h11.size h12.size (.slice za (max n m) zc) (max n m) (max n m) Z fun i j => (decide (i < p) && compM n M m N i j) || (i == p && ((List.range q).any (fun k => inN n M p k && inN m N k j) || (decide (j < c) && inN m N q j)))) (fun c => max n m - c) 0 ?_ ?_ ?_
      · simp [Le, find]
      · exact ⟨by omega, fun _ => rfl, p0, by omega, r4, r7, r10, r13, tx, ty, t12.congr fun i j _ _ => by simp⟩
      rintro c hC ⟨hc, hc0, p0, yC, r4, r7, r10, r13, tx, ty, t12⟩
      have p0_z := p0.size
      have r4_l := r4.lt
      have r7_l := r7.lt
      have r10_l := r10.lt
      have r13_l := r13.lt
      simp -dsimp only [go_sem, r4.cell, r7.cell, r10.cell, r13.cell]
      refine Chk_intro (by omega) (tx.idx (p := p) (by omega) fun b15 o15 c15 => ?_)
      simp -dsimp only [go_sem, c15, r4.cell, r7.cell, r10.cell, r13.cell]
      refine Chk_intro (by omega) ?_
      simp -dsimp only [go_sem, tx.cell hlt1 hlt2, r4.cell, r7.cell, r10.cell, r13.cell]
      cases hM : inN n M p q with
      | false =>
        have hc0 := hc0 hM
        subst hc0
        simp -dsimp only [go_sem, r4.cell, r7.cell, r10.cell, r13.cell]
        simp -dsimp (disch := omega) only [wrap64]
        refine ⟨q + 1, by omega, by simp [Le, find], by omega, p0, by omega, r4, r7, r10, r13, tx, ty, t12.congr fun i j hi hj => ?_⟩
        rw [hstep, hM]; simp
      | true =>
        simp -dsimp only [go_sem, r4.cell, r7.cell, r10.cell, r13.cell]
        refine ⟨fun hlt3 => ?_, fun hge3 => ?_⟩
        · have hlt3 : c < max n m := by omega
          have hold : ((decide (p < p) && compM n M m N p c) || (true && ((List.range q).any (fun k => inN n M p k && inN m N k c) || (decide (c < c) && inN m N q c)))) = (List.range q).any (fun k => inN n M p k && inN m N k c) := by simp
          have hnew : ∀ (v : Bool), v = ((List.range q).any (fun k => inN n M p k && inN m N k c) || inN m N q c) → ∀ i j, (if i = p ∧ j = c then v else ((decide (i < p) && compM n M m N i j) || (i == p && ((List.range q).any (fun k => inN n M p k && inN m N k j) || (decide (j < c) && inN m N q j))))) = ((decide (i < p) && compM n M m N i j) || (i == p && ((List.range q).any (fun k => inN n M p k && inN m N k j) || (decide (j < c + 1) && inN m N q j)))) := fun v hv i j => by
            by_cases hij : i = p ∧ j = c
            · obtain ⟨rfl, rfl⟩ := hij
              rw [if_pos ⟨rfl, rfl⟩, hv]; simp
            · rw [if_neg hij]
              by_cases hip : i = p
              · have : (j < c + 1) = (j < c) := by simp; omega
                simp [this]
              · have e : (i == p) = false := by simpa using hip
                simp [e]
          simp -dsimp only [go_sem, r4.cell, r7.cell, r10.cell, r13.cell]
          refine Chk_intro (by omega) (t12.idx (p := p) (by omega) fun b16 o16 c16 => ?_)
          simp -dsimp only [go_sem, c16, r4.cell, r7.cell, r10.cell, r13.cell]
          refine Chk_intro (by omega) (t12.idx (p := p) (by omega) fun b17 o17 c17 => ?_)
          simp -dsimp only [go_sem, c17, r4.cell, r7.cell, r10.cell, r13.cell]
          refine Chk_intro (by omega) ?_
          simp -dsimp only [go_sem, t12.cell hlt1 hlt3, r4.cell, r7.cell, r10.cell, r13.cell]
          rw [hold]
          cases hA : (List.range q).any (fun k => inN n M p k && inN m N k c) with
          | true =>
            simp -dsimp only [go_sem, r4.cell, r7.cell, r10.cell, r13.cell]
            refine Chk_intro (by omega) ?_
            simp -dsimp only [go_sem, r4.cell, r7.cell, r10.cell, r13.cell]
            refine Chk_intro (t12.wr hlt1 hlt3) fun h18 s18 => ?_
            have s18_z := s18.size
            have w_row := t12.row p hlt1
            have t13 := t12.set hlt1 s18
            have s18.fr_z := s18.fr.size
            replace p0 := p0.fresh s18.fr (by omega)
            replace r4 := r4.fr s18.fr (by omega)
            replace r7 := r7.fr s18.fr (by omega)
            replace r10 := r10.fr s18.fr (by omega)
            replace r13 := r13.fr s18.fr (by omega)
            replace tx := tx.fr s18.fr (by omega)
            replace ty := ty.fr s18.fr (by omega)
            simp -dsimp only [go_sem, r4.cell, r7.cell, r10.cell, r13.cell]
            simp -dsimp (disch := omega) only [wrap64]
            exact ⟨c + 1, by omega, by simp [Le, find], by omega, by simp, p0, by omega, r4, r7, r10, r13, tx, ty, t13.congr fun i j _ _ => hnew _ (by rw [hA, Bool.true_or]) i j⟩
          | false =>
            simp -dsimp only [go_sem, r4.cell, r7.cell, r10.cell, r13.cell]
            refine Chk_intro (by omega) (ty.idx (p := q) (by omega) fun b18 o18 c18 => ?_)
            simp -dsimp only [go_sem, c18, r4.cell, r7.cell, r10.cell, r13.cell]
            refine Chk_intro (by omega) ?_
            simp -dsimp only [go_sem, ty.cell hlt2 hlt3, r4.cell, r7.cell, r10.cell, r13.cell]
            refine Chk_intro (by omega) ?_
            simp -dsimp only [go_sem, r4.cell, r7.cell, r10.cell, r13.cell]
            refine Chk_intro (t12.wr hlt1 hlt3) fun h18 s18 => ?_
            have s18_z := s18.size
            have w_row := t12.row p hlt1
            have t13 := t12.set hlt1 s18
            have s18.fr_z := s18.fr.size
            replace p0 := p0.fresh s18.fr (by omega)
            replace r4 := r4.fr s18.fr (by omega)
            replace r7 := r7.fr s18.fr (by omega)
            replace r10 := r10.fr s18.fr (by omega)
            replace r13 := r13.fr s18.fr (by omega)
            replace tx := tx.fr s18.fr (by omega)
            replace ty := ty.fr s18.fr (by omega)
            simp -dsimp only [go_sem, r4.cell, r7.cell, r10.cell, r13.cell]
            simp -dsimp (disch := omega) only [wrap64]
            exact ⟨c + 1, by omega, by simp [Le, find], by omega, by simp, p0, by omega, r4, r7, r10, r13, tx, ty, t13.congr fun i j _ _ => hnew _ (by rw [hA, Bool.false_or]) i j⟩
        · have hcn : c = max n m := by omega
          simp -dsimp only [go_sem, r4.cell, r7.cell, r10.cell, r13.cell]
          simp -dsimp (disch := omega) only [wrap64]
          refine ⟨q + 1, by omega, by simp [Le, find], by omega, p0, by omega, r4, r7, r10, r13, tx, ty, t12.congr fun i j hi hj => ?_⟩
          have : j < c := by omega
          rw [hstep, hM]; simp [this]
    · have hqn : q = max n m := by omega
      simp -dsimp only [go_sem, r4.cell, r7.cell, r10.cell, r13.cell]
      simp -dsimp (disch := omega) only [wrap64]
      refine ⟨p + 1, by omega, by simp [Le, find], by omega, p0, by omega, r4, r7, r10, r13, tx, ty, t12.congr fun i j hi hj => ?_⟩
      by_cases hip : i = p
      · subst hip
        have e : (List.range q).any (fun k => inN n M i k && inN m N k j) = compM n M m N i j := by
          rw [Bool.eq_iff_iff, compM_true, List.any_eq_true]
          simp only [List.mem_range, Bool.and_eq_true]
          refine exists_congr fun k => ⟨fun ⟨_, h⟩ => h, fun h => ⟨?_, h⟩⟩
          have := (inN_true.1 h.1).2.1; omega
        rw [e]; simp
      · have e : (i == p) = false := by simpa using hip
        have e4 : (i < p + 1) = (i < p) := by simp; omega
        simp [e, e4]
  · have hpn : p = max n m := by omega
    simp -dsimp only [go_sem, r4.cell, r7.cell, r10.cell, r13.cell]
    refine Chk_intro (r4.wr (by first | (simp; done) | (simp; omega))) fun h15 s15 => ?_
    have s15_z := s15.size
    replace p0 := p0.fresh s15.fr (by omega)
    replace r7 := r7.fr s15.fr (by omega)
    replace r10 := r10.fr s15.fr (by omega)
    replace r13 := r13.fr s15.fr (by omega)
    replace tx := tx.fr s15.fr (by omega)
    replace ty := ty.fr s15.fr (by omega)
    replace t12 := t12.fr s15.fr (by omega)
    replace r4 := s15.row r4
    try simp only [cl_int, cl_bool, cl_slice, cl_ptr, putAt_one, List.set_cons_zero, List.set_cons_succ, ivec_set, brow_upd] at r4
    simp -dsimp only [go_sem, r4.cell, r7.cell, r10.cell, r13.cell]
    refine ⟨p0, hmx, _, Z, rfl, ((t12.mono (by omega) (by omega)).congr fun i j hi hj => ?_)⟩
    have : i < p := by omega
    simp [this]
end Go.Proofs.Tst
/-
  The document's relations of a graph.
-/
namespace Go.Proofs.Tst
open Go Go.Vc
theorem good_loc {g : Gr} (hg : g.good = true) {i : Nat} (hi : i < g.n) : ((g.ev i).kind = 3 ∧ (g.ev i).loc = -1) ∨ ((g.ev i).kind ≠ 3 ∧ 0 ≤ (g.ev i).loc) := by
  obtain ⟨words, hz⟩ := good_check hg
  obtain ⟨hs, h2, h3, -⟩ := check_zero hz
  have hs' := hs
  simp only [Gr.size, Bool.and_eq_true, decide_eq_true_eq] at hs'
  by_cases hc : i < g.cells.toNat
  · have := firstEv_neg _ _ h2 i (by omega) (by omega)
    simp only [Bool.not_eq_false', beq_iff_eq] at this
    rw [this]; unfold Gr.first; dsimp only; omega
  · have := firstEv_neg _ _ h3 i (by omega) (by omega)
    simp only [Bool.not_eq_false'] at this
    unfold Gr.evOk at this
    simp only [Bool.and_eq_true] at this
    obtain ⟨-, h4⟩ := this
    by_cases hk : (g.ev i).kind = 3
    · rw [if_pos hk] at h4
      simp only [Bool.and_eq_true, beq_iff_eq] at h4
      exact .inl ⟨hk, h4.1⟩
    · rw [if_neg hk] at h4
      simp only [Bool.and_eq_true, decide_eq_true_eq] at h4
      exact .inr ⟨hk, h4.1⟩
theorem same_good {g : Gr} (hg : g.good = true) {i j : Nat} (hi : i < g.n) (hj : j < g.n) : relM g 4 i j = (!((g.ev i).kind == 3) && !((g.ev j).kind == 3) && (g.ev i).loc == (g.ev j).loc) := by
  show g.sameM i j = _
  unfold Gr.sameM
  rw [Bool.eq_iff_iff]
  simp only [Bool.and_eq_true, decide_eq_true_eq, beq_iff_eq, Bool.not_eq_true', beq_eq_false_iff_ne]
  have h1 := good_loc hg hi
  have h2 := good_loc hg hj
  omega
set_option maxHeartbeats 1000000 in
theorem ref8_Po {h : Heap} {w : GV} {g : Gr} (t : GrAt h w g) (hn : g.n ≤ 256) :
    Con Tryd.prog 67 #[.agg (gcells w g).toArray] h fun v h' => Fr 0 0 h h' ∧ RefAt h' h.size h'.size v g.n (relM g 0) := by
  refine con_ref8_Po ?_
  have hcl : clampN (g.n : Int) = g.n := by unfold clampN; omega
  have p0 : Fr 0 0 h h := .refl _ _ _
  have be := t.fits.e
  have hen : g.evs.length = g.n := rfl
  unfold gcells
  simp -dsimp only [go_sem]
  intro b1 h1 n1
  have n1_a := n1.at_
  have n1_z := n1.size
  replace p0 := p0.fresh (n1.fr (lo := 0) (hi := 0)) (by omega)
  have r1 := n1.row
  simp -dsimp only [go_sem, r1.cell]
  intro b2 h2 n2
  have n2_a := n2.at_
  have n2_z := n2.size
  replace p0 := p0.fresh (n2.fr (lo := 0) (hi := 0)) (by omega)
  replace r1 := r1.fr (n2.fr (lo := 0) (hi := 0)) (by omega)
  have r2 := n2.row
  simp -dsimp only [go_sem, evs_len, r1.cell, r2.cell]
  refine call_of (ref1_New g.n h2) ?_
  rintro v3 h3 ⟨f3, t3⟩
  rw [hcl] at t3
  obtain ⟨-, z, Z, rfl, t3⟩ := t3
  obtain ⟨za, zc, rfl⟩ := t3.own.is
  have t3_a := t3.own.at_
  have f3_z := f3.size
  replace p0 := p0.fresh f3 (by omega)
  replace r1 := r1.fr f3 (by omega)
  replace r2 := r2.fr f3 (by omega)
  simp -dsimp only [go_sem, r1.cell, r2.cell]
  intro b4 h4 n4
  have n4_a := n4.at_
  have n4_z := n4.size
  replace p0 := p0.fresh (n4.fr (lo := 0) (hi := 0)) (by omega)
  replace r1 := r1.fr (n4.fr (lo := 0) (hi := 0)) (by omega)
  replace r2 := r2.fr (n4.fr (lo := 0) (hi := 0)) (by omega)
  replace t3 := t3.fr (n4.fr (lo := 0) (hi := 0)) (by omega)
  have r4 := n4.row
  simp -dsimp only [go_sem, r1.cell, r2.cell, r4.cell]
  refine Chk_intro (r4.wr (by first | (simp; done) | (simp; omega))) fun h5 s5 => ?_
  have s5_z := s5.size
  replace p0 := p0.fresh s5.fr (by omega)
  replace r1 := r1.fr s5.fr (by omega)
  replace r2 := r2.fr s5.fr (by omega)
  replace t3 := t3.fr s5.fr (by omega)
  replace r4 := s5.row r4
  try simp only [cl_int, cl_bool, cl_slice, cl_ptr, putAt_one, List.set_cons_zero, List.set_cons_succ, ivec_set, brow_upd] at r4
  simp -dsimp only [go_sem, r1.cell, r2.cell, r4.cell]
  refine loop_intro (fun p : Nat => [(1, .pointer (some ⟨b1, 0, none⟩)), (2, .pointer (some ⟨b2, 0, none⟩)), (3, .pointer (some ⟨b4, 0, none⟩)), (4, .int .i64 p)]) (fun p h' => p ≤ (g.n) ∧ Fr 0 0 h h' ∧ h5.size ≤ h'.size ∧ Rw h' b1 [.int .i64 g.cells, .slice w.e g.evs.length w.ec, .slice w.f g.rf.length w.fc, .slice w.o g.co.length w.oc, .slice w.r g.rmw.length w.rc, .slice w.a g.addr.length w.ac, .slice w.d g.data.length w.dc, .slice w.c g.ctrl.length w.cc] ∧ Rw h' b2 [.int .i64 0, .slice none 0 0] ∧ Rw h' b4 [.int .i64 g.n, .slice za g.n zc] ∧ Tab h' h2.size h3.size (.slice za g.n zc) (g.n) (g.n) Z (mixM p 0 (g.n) (relM g 0) (fun _ _ => false))) (fun p => (g.n) - p) 0 ?_ ?_ ?_
  · simp [Le, find]
  · exact ⟨by omega, p0, by omega, r1, r2, r4, t3.congr fun i j _ _ => by rw [mixM_zero]⟩
  rintro p hP ⟨hp, p0, yP, r1, r2, r4, t3⟩
  have p0_z := p0.size
  have r1_l := r1.lt
  have r2_l := r2.lt
  have r4_l := r4.lt
  simp -dsimp only [go_sem, r1.cell, r2.cell, r4.cell]
  refine ⟨fun hlt1 => ?_, fun hge1 => ?_⟩
  · have hlt1 : p < (g.n) := by omega
    simp -dsimp only [go_sem, r1.cell, r2.cell, r4.cell]
    refine loop_intro (fun q : Nat => [(1, .pointer (some ⟨b1, 0, none⟩)), (2, .pointer (some ⟨b2, 0, none⟩)), (3, .pointer (some ⟨b4, 0, none⟩)), (4, .int .i64 p), (5, .int .i64 q)]) (fun q h' => q ≤ (g.n) ∧ Fr 0 0 h h' ∧ h5.size ≤ h'.size ∧ Rw h' b1 [.int .i64 g.cells, .slice w.e g.evs.length w.ec, .slice w.f g.rf.length w.fc, .slice w.o g.co.length w.oc, .slice w.r g.rmw.length w.rc, .slice w.a g.addr.length w.ac, .slice w.d g.data.length w.dc, .slice w.c g.ctrl.length w.cc] ∧ Rw h' b2 [.int .i64 0, .slice none 0 0] ∧ Rw h' b4 [.int .i64 g.n, .slice za g.n zc] ∧ Tab h' h2.size h3.size (.slice za g.n zc) (g.n) (g.n) Z (mixM p q (g.n) (relM g 0) (fun _ _ => false))) (fun q => (g.n) - q) 0 ?_ ?_ ?_
    · simp [Le, find]
    · exact ⟨by omega, p0, by omega, r1, r2, r4, t3⟩
    rintro q hQ ⟨hq, p0, yQ, r1, r2, r4, t3⟩
    have p0_z := p0.size
    have r1_l := r1.lt
    have r2_l := r2.lt
    have r4_l := r4.lt
    simp -dsimp only [go_sem, r1.cell, r2.cell, r4.cell]
    refine ⟨fun hlt2 => ?_, fun hge2 => ?_⟩
    · have hlt2 : q < (g.n) := by omega
      simp -dsimp only [go_sem, r1.cell, r2.cell, r4.cell]
      refine Chk_intro (by omega) (t3.idx (p := p) (by omega) fun b9 o9 c9 => ?_)
      simp -dsimp only [go_sem, c9, r1.cell, r2.cell, r4.cell]
      refine call_of (ref8_before (t.fr p0) p q) ?_
      rintro v6 h6 ⟨f6, rfl⟩
      have f6_z := f6.size
      replace p0 := p0.fresh f6 (by omega)
      replace r1 := r1.fr f6 (by omega)
      replace r2 := r2.fr f6 (by omega)
      replace r4 := r4.fr f6 (by omega)
      replace t3 := t3.fr f6 (by omega)
      replace c9 := f6.keep c9 (by omega)
      simp -dsimp only [go_sem, c9, r1.cell, r2.cell, r4.cell]
      refine Chk_intro (by omega) ?_
      simp -dsimp only [go_sem, r1.cell, r2.cell, r4.cell]
      refine Chk_intro (t3.wr (by omega) (by omega)) fun h10 s10 => ?_
      have s10_z := s10.size
      have w_row := t3.row p (by omega)
      have t_new := t3.set (p := p) (q := q) (by omega) s10
      replace p0 := p0.fresh s10.fr (by omega)
      replace r1 := r1.fr s10.fr (by omega)
      replace r2 := r2.fr s10.fr (by omega)
      replace r4 := r4.fr s10.fr (by omega)
      simp -dsimp only [go_sem, r1.cell, r2.cell, r4.cell]
      simp -dsimp (disch := omega) only [wrap64]
      exact ⟨q + 1, by omega, by simp [Le, find], by omega, p0, by omega, r1, r2, r4, t_new.congr fun i j hi hj => mixM_set (rfl)⟩
    · have hqn : q = (g.n) := by omega
      simp -dsimp only [go_sem, r1.cell, r2.cell, r4.cell]
      simp -dsimp (disch := omega) only [wrap64]
      exact ⟨p + 1, by omega, by simp [Le, find], by omega, p0, by omega, r1, r2, r4, t3.congr fun i j _ _ => by rw [hqn]; exact mixM_next⟩
  have hpn : p = (g.n) := by omega
  simp -dsimp only [go_sem, r1.cell, r2.cell, r4.cell]
  refine Chk_intro (r2.wr (by first | (simp; done) | (simp; omega))) fun h9 s9 => ?_
  have s9_z := s9.size
  replace p0 := p0.fresh s9.fr (by omega)
  replace r1 := r1.fr s9.fr (by omega)
  replace r4 := r4.fr s9.fr (by omega)
  replace t3 := t3.fr s9.fr (by omega)
  replace r2 := s9.row r2
  try simp only [cl_int, cl_bool, cl_slice, cl_ptr, putAt_one, List.set_cons_zero, List.set_cons_succ, ivec_set, brow_upd] at r2
  simp -dsimp only [go_sem, r1.cell, r2.cell, r4.cell]
  refine ⟨p0, hn, _, Z, rfl, ((t3.mono (by omega) (by omega)).congr fun i j hi hj => ?_)⟩
  rw [hpn, mixM_end hi hj]
set_option maxHeartbeats 1000000 in
theorem ref8_Ext {h : Heap} {w : GV} {g : Gr} (t : GrAt h w g) (hn : g.n ≤ 256) :
    Con Tryd.prog 73 #[.agg (gcells w g).toArray] h fun v h' => Fr 0 0 h h' ∧ RefAt h' h.size h'.size v g.n (relM g 5) := by
  refine con_ref8_Ext ?_
  have hcl : clampN (g.n : Int) = g.n := by unfold clampN; omega
  have p0 : Fr 0 0 h h := .refl _ _ _
  have be := t.fits.e
  have hen : g.evs.length = g.n := rfl
  unfold gcells
  simp -dsimp only [go_sem]
  intro b1 h1 n1
  have n1_a := n1.at_
  have n1_z := n1.size
  replace p0 := p0.fresh (n1.fr (lo := 0) (hi := 0)) (by omega)
  have r1 := n1.row
  simp -dsimp only [go_sem, r1.cell]
  intro b2 h2 n2
  have n2_a := n2.at_
  have n2_z := n2.size
  replace p0 := p0.fresh (n2.fr (lo := 0) (hi := 0)) (by omega)
  replace r1 := r1.fr (n2.fr (lo := 0) (hi := 0)) (by omega)
  have r2 := n2.row
  simp -dsimp only [go_sem, evs_len, r1.cell, r2.cell]
  refine call_of (ref1_New g.n h2) ?_
  rintro v3 h3 ⟨f3, t3⟩
  rw [hcl] at t3
  obtain ⟨-, z, Z, rfl, t3⟩ := t3
  obtain ⟨za, zc, rfl⟩ := t3.own.is
  have t3_a := t3.own.at_
  have f3_z := f3.size
  replace p0 := p0.fresh f3 (by omega)
  replace r1 := r1.fr f3 (by omega)
  replace r2 := r2.fr f3 (by omega)
  simp -dsimp only [go_sem, r1.cell, r2.cell]
  intro b4 h4 n4
  have n4_a := n4.at_
  have n4_z := n4.size
  replace p0 := p0.fresh (n4.fr (lo := 0) (hi := 0)) (by omega)
  replace r1 := r1.fr (n4.fr (lo := 0) (hi := 0)) (by omega)
  replace r2 := r2.fr (n4.fr (lo := 0) (hi := 0)) (by omega)
  replace t3 := t3.fr (n4.fr (lo := 0) (hi := 0)) (by omega)
  have r4 := n4.row
  simp -dsimp only [go_sem, r1.cell, r2.cell, r4.cell]
  refine Chk_intro (r4.wr (by first | (simp; done) | (simp; omega))) fun h5 s5 => ?_
  have s5_z := s5.size
  replace p0 := p0.fresh s5.fr (by omega)
  replace r1 := r1.fr s5.fr (by omega)
  replace r2 := r2.fr s5.fr (by omega)
  replace t3 := t3.fr s5.fr (by omega)
  replace r4 := s5.row r4
  try simp only [cl_int, cl_bool, cl_slice, cl_ptr, putAt_one, List.set_cons_zero, List.set_cons_succ, ivec_set, brow_upd] at r4
  simp -dsimp only [go_sem, r1.cell, r2.cell, r4.cell]
  refine loop_intro (fun p : Nat => [(1, .pointer (some ⟨b1, 0, none⟩)), (2, .pointer (some ⟨b2, 0, none⟩)), (3, .pointer (some ⟨b4, 0, none⟩)), (4, .int .i64 p)]) (fun p h' => p ≤ (g.n) ∧ Fr 0 0 h h' ∧ h5.size ≤ h'.size ∧ Rw h' b1 [.int .i64 g.cells, .slice w.e g.evs.length w.ec, .slice w.f g.rf.length w.fc, .slice w.o g.co.length w.oc, .slice w.r g.rmw.length w.rc, .slice w.a g.addr.length w.ac, .slice w.d g.data.length w.dc, .slice w.c g.ctrl.length w.cc] ∧ Rw h' b2 [.int .i64 0, .slice none 0 0] ∧ Rw h' b4 [.int .i64 g.n, .slice za g.n zc] ∧ Tab h' h2.size h3.size (.slice za g.n zc) (g.n) (g.n) Z (mixM p 0 (g.n) (relM g 5) (fun _ _ => false))) (fun p => (g.n) - p) 0 ?_ ?_ ?_
  · simp [Le, find]
  · exact ⟨by omega, p0, by omega, r1, r2, r4, t3.congr fun i j _ _ => by rw [mixM_zero]⟩
  rintro p hP ⟨hp, p0, yP, r1, r2, r4, t3⟩
  have p0_z := p0.size
  have r1_l := r1.lt
  have r2_l := r2.lt
  have r4_l := r4.lt
  simp -dsimp only [go_sem, r1.cell, r2.cell, r4.cell]
  refine ⟨fun hlt1 => ?_, fun hge1 => ?_⟩
  · have hlt1 : p < (g.n) := by omega
    simp -dsimp only [go_sem, r1.cell, r2.cell, r4.cell]
    refine loop_intro (fun q : Nat => [(1, .pointer (some ⟨b1, 0, none⟩)), (2, .pointer (some ⟨b2, 0, none⟩)), (3, .pointer (some ⟨b4, 0, none⟩)), (4, .int .i64 p), (5, .int .i64 q)]) (fun q h' => q ≤ (g.n) ∧ Fr 0 0 h h' ∧ h5.size ≤ h'.size ∧ Rw h' b1 [.int .i64 g.cells, .slice w.e g.evs.length w.ec, .slice w.f g.rf.length w.fc, .slice w.o g.co.length w.oc, .slice w.r g.rmw.length w.rc, .slice w.a g.addr.length w.ac, .slice w.d g.data.length w.dc, .slice w.c g.ctrl.length w.cc] ∧ Rw h' b2 [.int .i64 0, .slice none 0 0] ∧ Rw h' b4 [.int .i64 g.n, .slice za g.n zc] ∧ Tab h' h2.size h3.size (.slice za g.n zc) (g.n) (g.n) Z (mixM p q (g.n) (relM g 5) (fun _ _ => false))) (fun q => (g.n) - q) 0 ?_ ?_ ?_
    · simp [Le, find]
    · exact ⟨by omega, p0, by omega, r1, r2, r4, t3⟩
    rintro q hQ ⟨hq, p0, yQ, r1, r2, r4, t3⟩
    have p0_z := p0.size
    have r1_l := r1.lt
    have r2_l := r2.lt
    have r4_l := r4.lt
    simp -dsimp only [go_sem, r1.cell, r2.cell, r4.cell]
    refine ⟨fun hlt2 => ?_, fun hge2 => ?_⟩
    · have hlt2 : q < (g.n) := by omega
      obtain ⟨eb, eo, he, hev⟩ := t.evs (by omega)
      obtain ⟨c0, c1, c2, c3, c4⟩ := hev _ p0 p hlt1
      obtain ⟨d0, d1, d2, d3, d4⟩ := hev _ p0 q hlt2
      have e1 : ((p : Int) < (g.n : Int)) := by omega
      have e2 : ((q : Int) < (g.n : Int)) := by omega
      simp -dsimp only [go_sem, r1.cell, r2.cell, r4.cell]
      refine Chk_intro (by omega) (t3.idx (p := p) (by omega) fun b9 o9 c9 => ?_)
      simp -dsimp only [go_sem, c9, he, evs_len, e1, e2, c0, d0, r1.cell, r2.cell, r4.cell]
      refine Chk_intro (t3.wr (by omega) (by omega)) fun h10 s10 => ?_
      have s10_z := s10.size
      have w_row := t3.row p (by omega)
      have t_new := t3.set (p := p) (q := q) (by omega) s10
      have s10.fr_z := s10.fr.size
      replace p0 := p0.fresh s10.fr (by omega)
      replace r1 := r1.fr s10.fr (by omega)
      replace r2 := r2.fr s10.fr (by omega)
      replace r4 := r4.fr s10.fr (by omega)
      obtain ⟨c0, c1, c2, c3, c4⟩ := hev _ p0 p hlt1
      obtain ⟨d0, d1, d2, d3, d4⟩ := hev _ p0 q hlt2
      simp -dsimp only [go_sem, he, evs_len, e1, e2, c0, d0, r1.cell, r2.cell, r4.cell]
      simp -dsimp (disch := omega) only [wrap64]
      exact ⟨q + 1, by omega, by simp [Le, find], by omega, p0, by omega, by (have := r1; rw [he] at this; exact this), r2, r4, t_new.congr fun i j hi hj => mixM_set (rfl)⟩
    · have hqn : q = (g.n) := by omega
      simp -dsimp only [go_sem, r1.cell, r2.cell, r4.cell]
      simp -dsimp (disch := omega) only [wrap64]
      exact ⟨p + 1, by omega, by simp [Le, find], by omega, p0, by omega, r1, r2, r4, t3.congr fun i j _ _ => by rw [hqn]; exact mixM_next⟩
  have hpn : p = (g.n) := by omega
  simp -dsimp only [go_sem, r1.cell, r2.cell, r4.cell]
  refine Chk_intro (r2.wr (by first | (simp; done) | (simp; omega))) fun h9 s9 => ?_
  have s9_z := s9.size
  replace p0 := p0.fresh s9.fr (by omega)
  replace r1 := r1.fr s9.fr (by omega)
  replace r4 := r4.fr s9.fr (by omega)
  replace t3 := t3.fr s9.fr (by omega)
  replace r2 := s9.row r2
  try simp only [cl_int, cl_bool, cl_slice, cl_ptr, putAt_one, List.set_cons_zero, List.set_cons_succ, ivec_set, brow_upd] at r2
  simp -dsimp only [go_sem, r1.cell, r2.cell, r4.cell]
  refine ⟨p0, hn, _, Z, rfl, ((t3.mono (by omega) (by omega)).congr fun i j hi hj => ?_)⟩
  rw [hpn, mixM_end hi hj]
set_option maxHeartbeats 1000000 in
theorem ref8_Same {h : Heap} {w : GV} {g : Gr} (t : GrAt h w g) (hg : g.good = true) :
    Con Tryd.prog 72 #[.agg (gcells w g).toArray] h fun v h' => Fr 0 0 h h' ∧ RefAt h' h.size h'.size v g.n (relM g 4) := by
  refine con_ref8_Same ?_
  have hn := (good_n hg).1
  have hcl : clampN (g.n : Int) = g.n := by unfold clampN; omega
  have p0 : Fr 0 0 h h := .refl _ _ _
  have be := t.fits.e
  have hen : g.evs.length = g.n := rfl
  unfold gcells
  simp -dsimp only [go_sem]
  intro b1 h1 n1
  have n1_a := n1.at_
  have n1_z := n1.size
  replace p0 := p0.fresh (n1.fr (lo := 0) (hi := 0)) (by omega)
  have r1 := n1.row
  simp -dsimp only [go_sem, r1.cell]
  intro b2 h2 n2
  have n2_a := n2.at_
  have n2_z := n2.size
  replace p0 := p0.fresh (n2.fr (lo := 0) (hi := 0)) (by omega)
  replace r1 := r1.fr (n2.fr (lo := 0) (hi := 0)) (by omega)
  have r2 := n2.row
  simp -dsimp only [go_sem, evs_len, r1.cell, r2.cell]
  refine call_of (ref1_New g.n h2) ?_
  rintro v3 h3 ⟨f3, t3⟩
  rw [hcl] at t3
  obtain ⟨-, z, Z, rfl, t3⟩ := t3
  obtain ⟨za, zc, rfl⟩ := t3.own.is
  have t3_a := t3.own.at_
  have f3_z := f3.size
  replace p0 := p0.fresh f3 (by omega)
  replace r1 := r1.fr f3 (by omega)
  replace r2 := r2.fr f3 (by omega)
  simp -dsimp only [go_sem, r1.cell, r2.cell]
  intro b4 h4 n4
  have n4_a := n4.at_
  have n4_z := n4.size
  replace p0 := p0.fresh (n4.fr (lo := 0) (hi := 0)) (by omega)
  replace r1 := r1.fr (n4.fr (lo := 0) (hi := 0)) (by omega)
  replace r2 := r2.fr (n4.fr (lo := 0) (hi := 0)) (by omega)
  replace t3 := t3.fr (n4.fr (lo := 0) (hi := 0)) (by omega)
  have r4 := n4.row
  simp -dsimp only [go_sem, r1.cell, r2.cell, r4.cell]
  refine Chk_intro (r4.wr (by first | (simp; done) | (simp; omega))) fun h5 s5 => ?_
  have s5_z := s5.size
  replace p0 := p0.fresh s5.fr (by omega)
  replace r1 := r1.fr s5.fr (by omega)
  replace r2 := r2.fr s5.fr (by omega)
  replace t3 := t3.fr s5.fr (by omega)
  replace r4 := s5.row r4
  try simp only [cl_int, cl_bool, cl_slice, cl_ptr, putAt_one, List.set_cons_zero, List.set_cons_succ, ivec_set, brow_upd] at r4
  simp -dsimp only [go_sem, r1.cell, r2.cell, r4.cell]
  refine loop_intro (fun p : Nat => [(1, .pointer (some ⟨b1, 0, none⟩)), (2, .pointer (some ⟨b2, 0, none⟩)), (3, .pointer (some ⟨b4, 0, none⟩)), (4, .int .i64 p)]) (fun p h' => p ≤ (g.n) ∧ Fr 0 0 h h' ∧ h5.size ≤ h'.size ∧ Rw h' b1 [.int .i64 g.cells, .slice w.e g.evs.length w.ec, .slice w.f g.rf.length w.fc, .slice w.o g.co.length w.oc, .slice w.r g.rmw.length w.rc, .slice w.a g.addr.length w.ac, .slice w.d g.data.length w.dc, .slice w.c g.ctrl.length w.cc] ∧ Rw h' b2 [.int .i64 0, .slice none 0 0] ∧ Rw h' b4 [.int .i64 g.n, .slice za g.n zc] ∧ Tab h' h2.size h3.size (.slice za g.n zc) (g.n) (g.n) Z (mixM p 0 (g.n) (relM g 4) (fun _ _ => false))) (fun p => (g.n) - p) 0 ?_ ?_ ?_
  · simp [Le, find]
  · exact ⟨by omega, p0, by omega, r1, r2, r4, t3.congr fun i j _ _ => by rw [mixM_zero]⟩
  rintro p hP ⟨hp, p0, yP, r1, r2, r4, t3⟩
  have p0_z := p0.size
  have r1_l := r1.lt
  have r2_l := r2.lt
  have r4_l := r4.lt
  simp -dsimp only [go_sem, r1.cell, r2.cell, r4.cell]
  refine ⟨fun hlt1 => ?_, fun hge1 => ?_⟩
  · have hlt1 : p < (g.n) := by omega
    simp -dsimp only [go_sem, r1.cell, r2.cell, r4.cell]
    refine loop_intro (fun q : Nat => [(1, .pointer (some ⟨b1, 0, none⟩)), (2, .pointer (some ⟨b2, 0, none⟩)), (3, .pointer (some ⟨b4, 0, none⟩)), (4, .int .i64 p), (5, .int .i64 q)]) (fun q h' => q ≤ (g.n) ∧ Fr 0 0 h h' ∧ h5.size ≤ h'.size ∧ Rw h' b1 [.int .i64 g.cells, .slice w.e g.evs.length w.ec, .slice w.f g.rf.length w.fc, .slice w.o g.co.length w.oc, .slice w.r g.rmw.length w.rc, .slice w.a g.addr.length w.ac, .slice w.d g.data.length w.dc, .slice w.c g.ctrl.length w.cc] ∧ Rw h' b2 [.int .i64 0, .slice none 0 0] ∧ Rw h' b4 [.int .i64 g.n, .slice za g.n zc] ∧ Tab h' h2.size h3.size (.slice za g.n zc) (g.n) (g.n) Z (mixM p q (g.n) (relM g 4) (fun _ _ => false))) (fun q => (g.n) - q) 0 ?_ ?_ ?_
    · simp [Le, find]
    · exact ⟨by omega, p0, by omega, r1, r2, r4, t3⟩
    rintro q hQ ⟨hq, p0, yQ, r1, r2, r4, t3⟩
    have p0_z := p0.size
    have r1_l := r1.lt
    have r2_l := r2.lt
    have r4_l := r4.lt
    simp -dsimp only [go_sem, r1.cell, r2.cell, r4.cell]
    refine ⟨fun hlt2 => ?_, fun hge2 => ?_⟩
    · have hlt2 : q < (g.n) := by omega
      obtain ⟨eb, eo, he, hev⟩ := t.evs (by omega)
      obtain ⟨c0, c1, c2, c3, c4⟩ := hev _ p0 p hlt1
      obtain ⟨d0, d1, d2, d3, d4⟩ := hev _ p0 q hlt2
      have e1 : ((p : Int) < (g.n : Int)) := by omega
      have e2 : ((q : Int) < (g.n : Int)) := by omega
      simp -dsimp only [go_sem, r1.cell, r2.cell, r4.cell]
      refine Chk_intro (by omega) (t3.idx (p := p) (by omega) fun b9 o9 c9 => ?_)
      have hsm := same_good hg hlt1 hlt2
      by_cases k1 : (g.ev p).kind = 3
      · rw [beq_t k1] at hsm
        simp -dsimp only [go_sem, c9, he, evs_len, e1, e2, c1, bne_t k1, r1.cell, r2.cell, r4.cell]
        refine Chk_intro (t3.wr (by omega) (by omega)) fun h10 s10 => ?_
        have s10_z := s10.size
        have w_row := t3.row p (by omega)
        have t_new := t3.set (p := p) (q := q) (by omega) s10
        have s10.fr_z := s10.fr.size
        replace p0 := p0.fresh s10.fr (by omega)
        replace r1 := r1.fr s10.fr (by omega)
        replace r2 := r2.fr s10.fr (by omega)
        replace r4 := r4.fr s10.fr (by omega)
        obtain ⟨c0, c1, c2, c3, c4⟩ := hev _ p0 p hlt1
        obtain ⟨d0, d1, d2, d3, d4⟩ := hev _ p0 q hlt2
        simp -dsimp only [go_sem, he, evs_len, e1, e2, c1, bne_t k1, r1.cell, r2.cell, r4.cell]
        simp -dsimp (disch := omega) only [wrap64]
        exact ⟨q + 1, by omega, by simp [Le, find], by omega, p0, by omega, by (have := r1; rw [he] at this; exact this), r2, r4, t_new.congr fun i j hi hj => mixM_set (by rw [hsm]; rfl)⟩
      by_cases k2 : (g.ev q).kind = 3
      · rw [beq_f k1, beq_t k2] at hsm
        simp -dsimp only [go_sem, c9, he, evs_len, e1, e2, c1, d1, bne_f k1, bne_t k2, r1.cell, r2.cell, r4.cell]
        refine Chk_intro (t3.wr (by omega) (by omega)) fun h10 s10 => ?_
        have s10_z := s10.size
        have w_row := t3.row p (by omega)
        have t_new := t3.set (p := p) (q := q) (by omega) s10
        have s10.fr_z := s10.fr.size
        replace p0 := p0.fresh s10.fr (by omega)
        replace r1 := r1.fr s10.fr (by omega)
        replace r2 := r2.fr s10.fr (by omega)
        replace r4 := r4.fr s10.fr (by omega)
        obtain ⟨c0, c1, c2, c3, c4⟩ := hev _ p0 p hlt1
        obtain ⟨d0, d1, d2, d3, d4⟩ := hev _ p0 q hlt2
        simp -dsimp only [go_sem, he, evs_len, e1, e2, c1, d1, bne_f k1, bne_t k2, r1.cell, r2.cell, r4.cell]
        simp -dsimp (disch := omega) only [wrap64]
        exact ⟨q + 1, by omega, by simp [Le, find], by omega, p0, by omega, by (have := r1; rw [he] at this; exact this), r2, r4, t_new.congr fun i j hi hj => mixM_set (by rw [hsm]; rfl)⟩
      rw [beq_f k1, beq_f k2] at hsm
      simp -dsimp only [go_sem, c9, he, evs_len, e1, e2, c1, d1, c2, d2, bne_f k1, bne_f k2, r1.cell, r2.cell, r4.cell]
      refine Chk_intro (t3.wr (by omega) (by omega)) fun h10 s10 => ?_
      have s10_z := s10.size
      have w_row := t3.row p (by omega)
      have t_new := t3.set (p := p) (q := q) (by omega) s10
      have s10.fr_z := s10.fr.size
      replace p0 := p0.fresh s10.fr (by omega)
      replace r1 := r1.fr s10.fr (by omega)
      replace r2 := r2.fr s10.fr (by omega)
      replace r4 := r4.fr s10.fr (by omega)
      obtain ⟨c0, c1, c2, c3, c4⟩ := hev _ p0 p hlt1
      obtain ⟨d0, d1, d2, d3, d4⟩ := hev _ p0 q hlt2
      simp -dsimp only [go_sem, he, evs_len, e1, e2, c1, d1, c2, d2, bne_f k1, bne_f k2, r1.cell, r2.cell, r4.cell]
      simp -dsimp (disch := omega) only [wrap64]
      exact ⟨q + 1, by omega, by simp [Le, find], by omega, p0, by omega, by (have := r1; rw [he] at this; exact this), r2, r4, t_new.congr fun i j hi hj => mixM_set (by rw [hsm]; rfl)⟩
    · have hqn : q = (g.n) := by omega
      simp -dsimp only [go_sem, r1.cell, r2.cell, r4.cell]
      simp -dsimp (disch := omega) only [wrap64]
      exact ⟨p + 1, by omega, by simp [Le, find], by omega, p0, by omega, r1, r2, r4, t3.congr fun i j _ _ => by rw [hqn]; exact mixM_next⟩
  have hpn : p = (g.n) := by omega
  simp -dsimp only [go_sem, r1.cell, r2.cell, r4.cell]
  refine Chk_intro (r2.wr (by first | (simp; done) | (simp; omega))) fun h9 s9 => ?_
  have s9_z := s9.size
  replace p0 := p0.fresh s9.fr (by omega)
  replace r1 := r1.fr s9.fr (by omega)
  replace r4 := r4.fr s9.fr (by omega)
  replace t3 := t3.fr s9.fr (by omega)
  replace r2 := s9.row r2
  try simp only [cl_int, cl_bool, cl_slice, cl_ptr, putAt_one, List.set_cons_zero, List.set_cons_succ, ivec_set, brow_upd] at r2
  simp -dsimp only [go_sem, r1.cell, r2.cell, r4.cell]
  refine ⟨p0, hn, _, Z, rfl, ((t3.mono (by omega) (by omega)).congr fun i j hi hj => ?_)⟩
  rw [hpn, mixM_end hi hj]
theorem co_nat {g : Gr} (hg : g.good = true) {c : Nat} (hc : c < g.co.length) {i : Nat} {a : Int} (h : (g.co.getD c [])[i]? = some a) : ∃ x : Nat, a = (x : Int) ∧ x < g.n := by
  obtain ⟨l1, l2, -⟩ := is_lt ((co_list hg hc).2.1 a (List.mem_of_getElem? h)).1
  exact ⟨a.toNat, by omega, by omega⟩
set_option maxHeartbeats 4000000 in
theorem ref8_Co {h : Heap} {w : GV} {g : Gr} (t : GrAt h w g) (hg : g.good = true) :
    Con Tryd.prog 69 #[.agg (gcells w g).toArray] h fun v h' => Fr 0 0 h h' ∧ RefAt h' h.size h'.size v g.n (relM g 2) := by
  refine con_ref8_Co ?_
  have hn := (good_n hg).1
  have hcl : clampN (g.n : Int) = g.n := by unfold clampN; omega
  have p0 : Fr 0 0 h h := .refl _ _ _
  have be := t.fits.e
  have bo := t.fits.o
  have hrl := rlc_at t.l
  have hen : g.evs.length = g.n := rfl
  unfold gcells
  simp -dsimp only [go_sem]
  intro b1 h1 n1
  have n1_a := n1.at_
  have n1_z := n1.size
  replace p0 := p0.fresh (n1.fr (lo := 0) (hi := 0)) (by omega)
  have r1 := n1.row
  simp -dsimp only [go_sem, r1.cell]
  intro b2 h2 n2
  have n2_a := n2.at_
  have n2_z := n2.size
  replace p0 := p0.fresh (n2.fr (lo := 0) (hi := 0)) (by omega)
  replace r1 := r1.fr (n2.fr (lo := 0) (hi := 0)) (by omega)
  have r2 := n2.row
  simp -dsimp only [go_sem, evs_len, r1.cell, r2.cell]
  refine call_of (ref1_New g.n h2) ?_
  rintro v3 h3 ⟨f3, t3⟩
  rw [hcl] at t3
  obtain ⟨-, z, Z, rfl, t3⟩ := t3
  obtain ⟨za, zc, rfl⟩ := t3.own.is
  have t3_a := t3.own.at_
  have f3_z := f3.size
  replace p0 := p0.fresh f3 (by omega)
  replace r1 := r1.fr f3 (by omega)
  replace r2 := r2.fr f3 (by omega)
  simp -dsimp only [go_sem, r1.cell, r2.cell]
  intro b4 h4 n4
  have n4_a := n4.at_
  have n4_z := n4.size
  replace p0 := p0.fresh (n4.fr (lo := 0) (hi := 0)) (by omega)
  replace r1 := r1.fr (n4.fr (lo := 0) (hi := 0)) (by omega)
  replace r2 := r2.fr (n4.fr (lo := 0) (hi := 0)) (by omega)
  replace t3 := t3.fr (n4.fr (lo := 0) (hi := 0)) (by omega)
  have r4 := n4.row
  simp -dsimp only [go_sem, r1.cell, r2.cell, r4.cell]
  refine Chk_intro (r4.wr (by first | (simp; done) | (simp; omega))) fun h5 s5 => ?_
  have s5_z := s5.size
  replace p0 := p0.fresh s5.fr (by omega)
  replace r1 := r1.fr s5.fr (by omega)
  replace r2 := r2.fr s5.fr (by omega)
  replace t3 := t3.fr s5.fr (by omega)
  replace r4 := s5.row r4
  try simp only [cl_int, cl_bool, cl_slice, cl_ptr, putAt_one, List.set_cons_zero, List.set_cons_succ, ivec_set, brow_upd] at r4
  simp -dsimp only [go_sem] at r4
  simp -dsimp only [go_sem, r1.cell, r2.cell, r4.cell]
  refine loop_intro (fun s : Nat × List (Int × Int) => [(1, .pointer (some ⟨b1, 0, none⟩)), (2, .pointer (some ⟨b2, 0, none⟩)), (3, .pointer (some ⟨b4, 0, none⟩)), (4, .int .i64 s.1)])
    (fun s h' => s.1 ≤ g.co.length ∧ Fr 0 0 h h' ∧ h5.size ≤ h'.size ∧ Rw h' b1 (gcells w g) ∧ Rw h' b2 [.int .i64 0, .slice none 0 0] ∧ Rw h' b4 [.int .i64 g.n, .slice za g.n zc] ∧ Tab h' h2.size h3.size (.slice za g.n zc) g.n g.n Z (ofM g.n s.2) ∧ s.2 ++ (g.co.drop s.1).flatMap lpairs = coPairs g) (fun s => g.co.length - s.1) (0, []) ?_ ?_ ?_
  · simp [Le, find]
  · exact ⟨by omega, p0, by omega, r1, r2, r4, t3.congr fun i j _ _ => rfl, rfl⟩
  have gb : h.size ≤ b1 ∧ b1 < h2.size ∧ h.size ≤ b2 ∧ b2 < h2.size ∧ b1 < b2 ∧ h.size ≤ h2.size ∧ h2.size ≤ h3.size ∧ h3.size ≤ b4 ∧ b4 < h5.size ∧ h3.size ≤ h5.size := by omega
  clear p0 r1 r2 r4 t3 t3_a n1_a n1_z n2_a n2_z n4_a n4_z s5_z f3_z
  rintro ⟨c, L⟩ h6 ⟨hc, p0, y6, r1, r2, r4, t3, hL⟩
  dsimp only at hc t3 hL ⊢
  unfold gcells at r1
  have p0_z := p0.size
  have r1_l := r1.lt
  have r2_l := r2.lt
  have r4_l := r4.lt
  by_cases hlt : c < g.co.length
  rotate_left
  · obtain rfl : c = g.co.length := by omega
    rw [List.drop_length] at hL
    simp only [List.flatMap_nil, List.append_nil] at hL
    simp -dsimp only [go_sem, Int.lt_irrefl, r1.cell, r2.cell, r4.cell]
    refine Chk_intro (r2.wr (by first | (simp; done) | (simp; omega))) fun h9 s9 => ?_
    have s9_z := s9.size
    replace p0 := p0.fresh s9.fr (by omega)
    replace r1 := r1.fr s9.fr (by omega)
    replace r4 := r4.fr s9.fr (by omega)
    replace t3 := t3.fr s9.fr (by omega)
    replace r2 := s9.row r2
    try simp only [cl_int, cl_bool, cl_slice, cl_ptr, putAt_one, List.set_cons_zero, List.set_cons_succ, ivec_set, brow_upd] at r2
    simp -dsimp only [go_sem, r1.cell, r2.cell, r4.cell]
    exact ⟨p0, hn, _, Z, rfl, ((t3.mono (by omega) (by omega)).congr fun i j hi hj => by rw [hL]; rfl)⟩
  have e1 : ((c : Int) < (g.co.length : Int)) := by omega
  obtain ⟨ob, oo, hoe, la, lc, hlc, hlist⟩ := hrl c hlt
  have hnat := fun {i : Nat} {a : Int} => co_nat hg hlt (i := i) (a := a)
  have hll := t.fits.l (g.co.getD c []) (by have : g.co[c]? = some (g.co.getD c []) := by { simp [hlt] }; exact List.mem_of_getElem? this)
  have hdr : g.co.drop c = g.co.getD c [] :: g.co.drop (c + 1) := by rw [List.drop_eq_getElem_cons hlt]; congr 1; simp [hlt]
  rw [hdr, List.flatMap_cons] at hL
  generalize g.co.getD c [] = l at hlist hll hL hlc hnat
  simp -dsimp only [go_sem, e1, r1.cell, r2.cell, r4.cell]
  refine loop_intro (fun s : Nat × List (Int × Int) => [(1, .pointer (some ⟨b1, 0, none⟩)), (2, .pointer (some ⟨b2, 0, none⟩)), (3, .pointer (some ⟨b4, 0, none⟩)), (4, .int .i64 c), (5, .int .i64 s.1)])
    (fun s h' => s.1 ≤ l.length ∧ Fr 0 0 h h' ∧ h5.size ≤ h'.size ∧ Rw h' b1 (gcells w g) ∧ Rw h' b2 [.int .i64 0, .slice none 0 0] ∧ Rw h' b4 [.int .i64 g.n, .slice za g.n zc] ∧ Tab h' h2.size h3.size (.slice za g.n zc) g.n g.n Z (ofM g.n s.2) ∧ s.2 ++ (lpairs (l.drop s.1) ++ (g.co.drop (c + 1)).flatMap lpairs) = coPairs g) (fun s => l.length - s.1) (0, L) ?_ ?_ ?_
  · simp [Le, find]
  · exact ⟨by omega, p0, y6, r1, r2, r4, t3, hL⟩
  clear p0 y6 r1 r2 r4 t3 hL L
  rintro ⟨i, L⟩ h7 ⟨hi, p0, y7, r1, r2, r4, t3, hL⟩
  dsimp only at hi t3 hL ⊢
  unfold gcells at r1
  have p0_z := p0.size
  have r1_l := r1.lt
  have r2_l := r2.lt
  have r4_l := r4.lt
  obtain ⟨l1, l2⟩ := hlist h7 p0
  by_cases hil : i < l.length
  rotate_left
  · obtain rfl : i = l.length := by omega
    rw [List.drop_length] at hL
    simp -dsimp only [go_sem, e1, hoe, l1, Int.lt_irrefl, r1.cell, r2.cell, r4.cell]
    simp -dsimp (disch := omega) only [wrap64]
    exact ⟨(c + 1, L), by dsimp only; omega, by simp [Le, find], by dsimp only; omega, p0, by omega, r1, r2, r4, t3, hL⟩
  have e2 : ((i : Int) < (l.length : Int)) := by omega
  have hq : l[i]? = some l[i] := by simp [hil]
  have hdi : l.drop i = l[i] :: l.drop (i + 1) := List.drop_eq_getElem_cons hil
  rw [hdi] at hL
  obtain ⟨x, hx, hxn⟩ := hnat hq
  rw [hx] at hq hL
  have hpr : lpairs ((x : Int) :: l.drop (i + 1)) = (l.drop (i + 1)).map (fun b => ((x : Int), b)) ++ lpairs (l.drop (i + 1)) := rfl
  rw [hpr, List.append_assoc] at hL
  obtain ⟨lb, lo, hle, hlc2⟩ := list_at (h := h) (la := la) (lc := lc) (l := l) (by omega) fun h' f => (hlist h' f).2
  simp -dsimp only [go_sem, e1, hoe, l1, e2, r1.cell, r2.cell, r4.cell]
  simp -dsimp (disch := omega) only [wrap64]
  refine loop_intro (fun s : Nat × List (Int × Int) => [(1, .pointer (some ⟨b1, 0, none⟩)), (2, .pointer (some ⟨b2, 0, none⟩)), (3, .pointer (some ⟨b4, 0, none⟩)), (4, .int .i64 c), (5, .int .i64 i), (6, .int .i64 (i + 1 + s.1 : Nat))])
    (fun s h' => i + 1 + s.1 ≤ l.length ∧ Fr 0 0 h h' ∧ h5.size ≤ h'.size ∧ Rw h' b1 (gcells w g) ∧ Rw h' b2 [.int .i64 0, .slice none 0 0] ∧ Rw h' b4 [.int .i64 g.n, .slice za g.n zc] ∧ Tab h' h2.size h3.size (.slice za g.n zc) g.n g.n Z (ofM g.n s.2) ∧ s.2 ++ ((l.drop (i + 1 + s.1)).map (fun b => ((x : Int), b)) ++ (lpairs (l.drop (i + 1)) ++ (g.co.drop (c + 1)).flatMap lpairs)) = coPairs g) (fun s => l.length - (i + 1) - s.1) (0, L) ?_ ?_ ?_
  · simp [Le, find]
  · exact ⟨by dsimp only; omega, p0, y7, r1, r2, r4, t3, hL⟩
  clear p0 y7 r1 r2 r4 t3 hL L l1 l2
  rintro ⟨j, L⟩ h8 ⟨hj, p0, y8, r1, r2, r4, t3, hL⟩
  dsimp only at hj t3 hL ⊢
  unfold gcells at r1
  have p0_z := p0.size
  have r1_l := r1.lt
  have r2_l := r2.lt
  have r4_l := r4.lt
  obtain ⟨l1, l2⟩ := hlist h8 p0
  by_cases hjl : i + 1 + j < l.length
  rotate_left
  · have hnil : l.drop (i + 1 + j) = [] := List.drop_eq_nil_of_le (by omega)
    rw [hnil] at hL
    have e3 : ¬ (((i + 1 + j : Nat) : Int) < (l.length : Int)) := by omega
    simp -dsimp only [go_sem, e1, hoe, l1, e3, r1.cell, r2.cell, r4.cell]
    simp -dsimp (disch := omega) only [wrap64]
    exact ⟨(i + 1, L), by dsimp only; omega, by simp [Le, find], by dsimp only; omega, p0, by omega, r1, r2, r4, t3, hL⟩
  have e3 : (((i + 1 + j : Nat) : Int) < (l.length : Int)) := by omega
  have hq2 : l[i + 1 + j]? = some l[i + 1 + j] := by simp [hjl]
  have hdj : l.drop (i + 1 + j) = l[i + 1 + j] :: l.drop (i + 1 + j + 1) := List.drop_eq_getElem_cons (by omega)
  rw [hdj, List.map_cons] at hL
  obtain ⟨y, hy, hyn⟩ := hnat hq2
  rw [hy] at hq2 hL
  have k1 := hlc2 h8 p0 i _ hq
  have k2 := hlc2 h8 p0 _ _ hq2
  simp -dsimp only [go_sem, e1, hoe, l1, e3, hle, e2, k1, k2, r1.cell, r2.cell, r4.cell]
  refine Chk_intro (by omega) (t3.idx (p := x) (by omega) fun b9 o9 c9 => ?_)
  simp -dsimp only [go_sem, e1, hoe, l1, e3, hle, e2, k1, k2, c9, r1.cell, r2.cell, r4.cell]
  refine Chk_intro (by omega) ?_
  simp -dsimp only [go_sem, r1.cell, r2.cell, r4.cell]
  refine Chk_intro (t3.wr (by omega) (by omega)) fun h10 s10 => ?_
  have s10_z := s10.size
  have w_row := t3.row x (by omega)
  have t_new := t3.set (p := x) (q := y) (by omega) s10
  have s10.fr_z := s10.fr.size
  replace p0 := p0.fresh s10.fr (by omega)
  replace r1 := r1.fr s10.fr (by omega)
  replace r2 := r2.fr s10.fr (by omega)
  replace r4 := r4.fr s10.fr (by omega)
  simp -dsimp only [go_sem, r1.cell, r2.cell, r4.cell]
  simp -dsimp (disch := omega) only [wrap64]
  refine ⟨(j + 1, L ++ [((x : Int), (y : Int))]), by dsimp only; omega, by simp [Le, find]; omega, by dsimp only; omega, p0, by omega, r1, r2, r4, t_new.congr fun u v hu hv => ?_, ?_⟩
  · rw [← putM_nat hxn hyn]; exact ofM_snoc u v
  · rw [List.append_assoc]; exact hL
theorem ref8_Of {h : Heap} {w : GV} {g : Gr} (t : GrAt h w g) (hn : g.n ≤ 256) {lv : Value} {l : List (Int × Int)} (hl : Rd 2 h lv l.length (pairsV l)) (hb : l.length ≤ 4611686018427387904) :
    Con Tryd.prog 74 #[.agg (gcells w g).toArray, lv] h fun v h' => Fr 0 0 h h' ∧ RefAt h' h.size h'.size v g.n (ofM g.n l) := by
  refine con_ref8_Of ?_
  have hcl : clampN (g.n : Int) = g.n := by unfold clampN; omega
  have p0 : Fr 0 0 h h := .refl _ _ _
  have hen : g.evs.length = g.n := rfl
  have be := t.fits.e
  unfold gcells
  simp -dsimp only [go_sem]
  intro b1 h1 n1
  have n1_a := n1.at_
  have n1_z := n1.size
  replace p0 := p0.fresh (n1.fr (lo := 0) (hi := 0)) (by omega)
  have r1 := n1.row
  simp -dsimp only [go_sem, r1.cell]
  intro b2 h2 n2
  have n2_a := n2.at_
  have n2_z := n2.size
  replace p0 := p0.fresh (n2.fr (lo := 0) (hi := 0)) (by omega)
  replace r1 := r1.fr (n2.fr (lo := 0) (hi := 0)) (by omega)
  have r2 := n2.row
  simp -dsimp only [go_sem, evs_len, r1.cell, r2.cell]
  refine call_of (ref1_Of g.n _ l h2 (hl.fr p0) hb) ?_
  rintro v3 h3 ⟨f3, t3⟩
  rw [hcl] at t3
  obtain ⟨-, z, Z, rfl, t3⟩ := t3
  obtain ⟨za, zc, rfl⟩ := t3.own.is
  have t3_a := t3.own.at_
  have f3_z := f3.size
  replace p0 := p0.fresh f3 (by omega)
  replace r1 := r1.fr f3 (by omega)
  replace r2 := r2.fr f3 (by omega)
  simp -dsimp only [go_sem, r1.cell, r2.cell]
  refine Chk_intro (r2.wr (by first | (simp; done) | (simp; omega))) fun h5 s5 => ?_
  have s5_z := s5.size
  replace p0 := p0.fresh s5.fr (by omega)
  replace r1 := r1.fr s5.fr (by omega)
  replace t3 := t3.fr s5.fr (by omega)
  replace r2 := s5.row r2
  try simp only [cl_int, cl_bool, cl_slice, cl_ptr, putAt_one, List.set_cons_zero, List.set_cons_succ, ivec_set, brow_upd] at r2
  simp -dsimp only [go_sem, r1.cell, r2.cell]
  exact ⟨p0, hn, _, Z, rfl, t3.mono (by omega) (by omega)⟩
theorem ref8_Rf {h : Heap} {w : GV} {g : Gr} (t : GrAt h w g) (hn : g.n ≤ 256) :
    Con Tryd.prog 68 #[.agg (gcells w g).toArray] h fun v h' => Fr 0 0 h h' ∧ RefAt h' h.size h'.size v g.n (relM g 1) := by
  refine con_ref8_Rf ?_
  have p0 : Fr 0 0 h h := .refl _ _ _
  have bf := t.fits.f
  unfold gcells
  simp -dsimp only [go_sem]
  intro b1 h1 n1
  have n1_a := n1.at_
  have n1_z := n1.size
  replace p0 := p0.fresh (n1.fr (lo := 0) (hi := 0)) (by omega)
  have r1 := n1.row
  simp -dsimp only [go_sem, r1.cell]
  intro b2 h2 n2
  have n2_a := n2.at_
  have n2_z := n2.size
  replace p0 := p0.fresh (n2.fr (lo := 0) (hi := 0)) (by omega)
  replace r1 := r1.fr (n2.fr (lo := 0) (hi := 0)) (by omega)
  have r2 := n2.row
  simp -dsimp only [go_sem, r1.cell, r2.cell]
  refine call_of (ref8_Of (t.fr p0) hn (t.f.fr p0) (by omega)) ?_
  rintro v3 h3 ⟨f3, t3⟩
  obtain ⟨-, z, Z, rfl, t3⟩ := t3
  obtain ⟨za, zc, rfl⟩ := t3.own.is
  have t3_a := t3.own.at_
  have f3_z := f3.size
  replace p0 := p0.fresh f3 (by omega)
  replace r1 := r1.fr f3 (by omega)
  replace r2 := r2.fr f3 (by omega)
  simp -dsimp only [go_sem, r1.cell, r2.cell]
  refine Chk_intro (r2.wr (by first | (simp; done) | (simp; omega))) fun h5 s5 => ?_
  have s5_z := s5.size
  replace p0 := p0.fresh s5.fr (by omega)
  replace r1 := r1.fr s5.fr (by omega)
  replace t3 := t3.fr s5.fr (by omega)
  replace r2 := s5.row r2
  try simp only [cl_int, cl_bool, cl_slice, cl_ptr, putAt_one, List.set_cons_zero, List.set_cons_succ, ivec_set, brow_upd] at r2
  simp -dsimp only [go_sem, r1.cell, r2.cell]
  exact ⟨p0, hn, _, Z, rfl, t3.mono (by omega) (by omega)⟩
theorem ref8_Rmw {h : Heap} {w : GV} {g : Gr} (t : GrAt h w g) (hn : g.n ≤ 256) :
    Con Tryd.prog 71 #[.agg (gcells w g).toArray] h fun v h' => Fr 0 0 h h' ∧ RefAt h' h.size h'.size v g.n (relM g 3) := by
  refine con_ref8_Rmw ?_
  have p0 : Fr 0 0 h h := .refl _ _ _
  have bf := t.fits.r
  unfold gcells
  simp -dsimp only [go_sem]
  intro b1 h1 n1
  have n1_a := n1.at_
  have n1_z := n1.size
  replace p0 := p0.fresh (n1.fr (lo := 0) (hi := 0)) (by omega)
  have r1 := n1.row
  simp -dsimp only [go_sem, r1.cell]
  intro b2 h2 n2
  have n2_a := n2.at_
  have n2_z := n2.size
  replace p0 := p0.fresh (n2.fr (lo := 0) (hi := 0)) (by omega)
  replace r1 := r1.fr (n2.fr (lo := 0) (hi := 0)) (by omega)
  have r2 := n2.row
  simp -dsimp only [go_sem, r1.cell, r2.cell]
  refine call_of (ref8_Of (t.fr p0) hn (t.r.fr p0) (by omega)) ?_
  rintro v3 h3 ⟨f3, t3⟩
  obtain ⟨-, z, Z, rfl, t3⟩ := t3
  obtain ⟨za, zc, rfl⟩ := t3.own.is
  have t3_a := t3.own.at_
  have f3_z := f3.size
  replace p0 := p0.fresh f3 (by omega)
  replace r1 := r1.fr f3 (by omega)
  replace r2 := r2.fr f3 (by omega)
  simp -dsimp only [go_sem, r1.cell, r2.cell]
  refine Chk_intro (r2.wr (by first | (simp; done) | (simp; omega))) fun h5 s5 => ?_
  have s5_z := s5.size
  replace p0 := p0.fresh s5.fr (by omega)
  replace r1 := r1.fr s5.fr (by omega)
  replace t3 := t3.fr s5.fr (by omega)
  replace r2 := s5.row r2
  try simp only [cl_int, cl_bool, cl_slice, cl_ptr, putAt_one, List.set_cons_zero, List.set_cons_succ, ivec_set, brow_upd] at r2
  simp -dsimp only [go_sem, r1.cell, r2.cell]
  exact ⟨p0, hn, _, Z, rfl, t3.mono (by omega) (by omega)⟩
set_option maxHeartbeats 1000000 in
theorem ref8_Fr {h : Heap} {w : GV} {g : Gr} (t : GrAt h w g) (hg : g.good = true) :
    Con Tryd.prog 70 #[.agg (gcells w g).toArray] h fun v h' => Fr 0 0 h h' ∧ RefAt h' h.size h'.size v g.n (relM g 9) := by
  refine con_ref8_Fr ?_
  have hn := (good_n hg).1
  have p0 : Fr 0 0 h h := .refl _ _ _
  unfold gcells
  simp -dsimp only [go_sem]
  intro b1 h1 n1
  have n1_a := n1.at_
  have n1_z := n1.size
  replace p0 := p0.fresh (n1.fr (lo := 0) (hi := 0)) (by omega)
  have r1 := n1.row
  simp -dsimp only [go_sem, r1.cell]
  intro b2 h2 n2
  have n2_a := n2.at_
  have n2_z := n2.size
  replace p0 := p0.fresh (n2.fr (lo := 0) (hi := 0)) (by omega)
  replace r1 := r1.fr (n2.fr (lo := 0) (hi := 0)) (by omega)
  have r2 := n2.row
  simp -dsimp only [go_sem, r1.cell, r2.cell]
  refine call_of (ref8_Rf (t.fr p0) hn) ?_
  rintro v3 h3 ⟨f3, t3⟩
  have f3_z := f3.size
  replace p0 := p0.fresh f3 (by omega)
  replace r1 := r1.fr f3 (by omega)
  replace r2 := r2.fr f3 (by omega)
  simp -dsimp only [go_sem, r1.cell, r2.cell]
  refine call_of (ref1_Inverse t3) ?_
  rintro v4 h4 ⟨f4, t4⟩
  have f4_z := f4.size
  replace p0 := p0.fresh f4 (by omega)
  replace r1 := r1.fr f4 (by omega)
  replace r2 := r2.fr f4 (by omega)
  simp -dsimp only [go_sem, r1.cell, r2.cell]
  refine call_of (ref8_Co (t.fr p0) hg) ?_
  rintro v5 h5 ⟨f5, t5⟩
  have f5_z := f5.size
  replace p0 := p0.fresh f5 (by omega)
  replace r1 := r1.fr f5 (by omega)
  replace r2 := r2.fr f5 (by omega)
  have t4_z := f4.size
  replace t4 := t4.fr f5 (by omega)
  simp -dsimp only [go_sem, r1.cell, r2.cell]
  refine call_of (ref1_Comp t4 t5) ?_
  rintro v6 h6 ⟨f6, t6⟩
  rw [Nat.max_self] at t6
  obtain ⟨-, z, Z, rfl, t6⟩ := t6
  obtain ⟨za, zc, rfl⟩ := t6.own.is
  have t6_a := t6.own.at_
  have f6_z := f6.size
  replace p0 := p0.fresh f6 (by omega)
  replace r1 := r1.fr f6 (by omega)
  replace r2 := r2.fr f6 (by omega)
  simp -dsimp only [go_sem, r1.cell, r2.cell]
  refine Chk_intro (r2.wr (by first | (simp; done) | (simp; omega))) fun h7 s7 => ?_
  have s7_z := s7.size
  replace p0 := p0.fresh s7.fr (by omega)
  replace r1 := r1.fr s7.fr (by omega)
  replace t6 := t6.fr s7.fr (by omega)
  replace r2 := s7.row r2
  try simp only [cl_int, cl_bool, cl_slice, cl_ptr, putAt_one, List.set_cons_zero, List.set_cons_succ, ivec_set, brow_upd] at r2
  simp -dsimp only [go_sem, r1.cell, r2.cell]
  exact ⟨p0, hn, _, Z, rfl, t6.mono (by omega) (by omega)⟩
end Go.Proofs.Tst
