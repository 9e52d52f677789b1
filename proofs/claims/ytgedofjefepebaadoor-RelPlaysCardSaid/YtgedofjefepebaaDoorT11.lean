/-
  Contracts of functions that the law reaches: what each returns and what it leaves in memory. Conditions stand in each.
-/
import Derived.Test.YtgedofjefepebaaDoorT10
set_option linter.all false
set_option maxRecDepth 2000
/-
  law1.RelPlays.
-/
namespace Go.Proofs.Tst
open Go Go.Vc
abbrev PlayE (h' : Heap) (b3 b4 S c : Nat) : Prop := ∃ P N X V D al ah dl dh, PlayI h' b3 b4 S c P N X V D al ah dl dh
set_option maxHeartbeats 4000000 in
theorem c_law1_RelPlays {sv : Value} {l : List Stp} {h : Heap} (ht : TabAt h) (hs : Rd 10 h sv l.length (l.flatMap Stp.cells)) (hl : ∀ x ∈ l, x.At h) (bl' : l.length ≤ 4611686018427387904) :
    Con Tryd.prog 12 #[sv] h fun v h' => Fr 0 0 h h' ∧ v = .bool true := by
  refine con_law1_RelPlays ?_
  obtain ⟨sa, sc, rfl⟩ := hs.is
  have p0 : Fr 0 0 h h := .refl _ _ _
  simp -dsimp only [go_sem, ↓reduceIte, reduceCtorEq, Nat.reduceEqDiff, Nat.reduceAdd, Nat.reduceLeDiff, Nat.reduceMul, Int.reduceBEq, Int.reduceBNe, Int.reduceLT, Int.reduceLE, Int.reduceGT, Int.reduceGE]
  intro b3 h1 n3
  have n3_a := n3.at_
  have n3_z := n3.size
  replace p0 := p0.fresh (n3.fr (lo := 0) (hi := 0)) (by omega)
  have r3 := n3.row
  simp -dsimp only [go_sem, ↓reduceIte, reduceCtorEq, Nat.reduceEqDiff, Nat.reduceAdd, Nat.reduceLeDiff, Nat.reduceMul, Int.reduceBEq, Int.reduceBNe, Int.reduceLT, Int.reduceLE, Int.reduceGT, Int.reduceGE, r3.cell]
  intro b4 h2 n4
  have n4_a := n4.at_
  have n4_z := n4.size
  replace p0 := p0.fresh (n4.fr (lo := 0) (hi := 0)) (by omega)
  replace r3 := r3.fr (n4.fr (lo := 0) (hi := 0)) (by omega)
  have r4 := n4.row
  simp -dsimp only [go_sem, ↓reduceIte, reduceCtorEq, Nat.reduceEqDiff, Nat.reduceAdd, Nat.reduceLeDiff, Nat.reduceMul, Int.reduceBEq, Int.reduceBNe, Int.reduceLT, Int.reduceLE, Int.reduceGT, Int.reduceGE, r3.cell, r4.cell]
  have k2 : h.size ≤ b3 ∧ b3 < b4 ∧ b4 < h2.size := by omega
  have t0 : PlayI h2 b3 b4 h2.size 0 (fun _ => 0) (fun _ => 0) (fun _ _ _ => false) (fun _ => .pointer none) (fun _ => .slice none 0 0) (fun _ => 0) (fun _ => 0) (fun _ => 0) (fun _ => 0) :=
    ⟨r3, r4, by omega, by omega, by omega, by omega, by omega, by omega, by omega, fun _ => ⟨_, rfl⟩, fun _ => ⟨_, _, _, rfl⟩⟩
  have hcl : clampN 0 = 0 := by decide
  refine loop_intro (fun i : Nat => [(0, .slice sa l.length sc), (3, .pointer (some ⟨b3, 0, none⟩)), (4, .pointer (some ⟨b4, 0, none⟩)), (5, .int .i64 i)])
    (fun i h' => i ≤ 4 ∧ Fr 0 0 h h' ∧ h2.size ≤ h'.size ∧ PlayE h' b3 b4 h2.size i) (fun i => 4 - i) 0 ?_ ?_ ?_
  · simp [Le, find]
  · exact ⟨by omega, p0, by omega, _, _, _, _, _, _, _, _, _, t0⟩
  clear t0 r3 r4
  rintro i h3 ⟨hi, p0, y3, P, N, X, V, D, al, ah, dl, dh, t⟩
  have p0_z := p0.size
  simp -dsimp only [go_sem, ↓reduceIte, reduceCtorEq, Nat.reduceEqDiff, Nat.reduceAdd, Nat.reduceLeDiff, Nat.reduceMul, Int.reduceBEq, Int.reduceBNe, Int.reduceLT, Int.reduceLE, Int.reduceGT, Int.reduceGE]
  refine ⟨fun hlt => ?_, fun hge => ?_⟩
  · have hlt : i < 4 := by omega
    simp -dsimp only [go_sem, ↓reduceIte, reduceCtorEq, Nat.reduceEqDiff, Nat.reduceAdd, Nat.reduceLeDiff, Nat.reduceMul, Int.reduceBEq, Int.reduceBNe, Int.reduceLT, Int.reduceLE, Int.reduceGT, Int.reduceGE]
    refine call_of (rel_New 0 _) ?_
    rintro v h4 ⟨f4, t4⟩
    rw [hcl] at t4
    obtain ⟨q4, rfl⟩ := progPtr t4
    have at4 := t4.2
    have f4_z := f4.size
    replace p0 := p0.fresh f4 (by omega)
    have tt := t.fr f4
    simp -dsimp only [go_sem, ↓reduceIte, reduceCtorEq, Nat.reduceEqDiff, Nat.reduceAdd, Nat.reduceLeDiff, Nat.reduceMul, Int.reduceBEq, Int.reduceBNe, Int.reduceLT, Int.reduceLE, Int.reduceGT, Int.reduceGE]
    refine Chk_intro (by omega) ?_
    simp -dsimp only [go_sem, ↓reduceIte, reduceCtorEq, Nat.reduceEqDiff, Nat.reduceAdd, Nat.reduceLeDiff, Nat.reduceMul, Int.reduceBEq, Int.reduceBNe, Int.reduceLT, Int.reduceLE, Int.reduceGT, Int.reduceGE]
    refine Chk_intro (tt.r3.wr (by simp [row3]; omega)) fun h5 s5 => ?_
    rw [cl_ptr] at s5
    have t5 := tt.setV hlt s5
    have s5_z := s5.size
    have p5 := p0.fresh s5.fr (by omega)
    simp -dsimp only [go_sem, ↓reduceIte, reduceCtorEq, Nat.reduceEqDiff, Nat.reduceAdd, Nat.reduceLeDiff, Nat.reduceMul, Int.reduceBEq, Int.reduceBNe, Int.reduceLT, Int.reduceLE, Int.reduceGT, Int.reduceGE]
    refine call_of (ref1_New 0 _) ?_
    rintro v h6 ⟨f6, d6⟩
    rw [hcl] at d6
    have p6 := p5.trans f6
    have t6 := t5.fr f6
    have f6_z := f6.size
    obtain ⟨-, ds, dR, rfl, dd⟩ := id d6
    obtain ⟨da, dc, rfl⟩ := dd.own.is
    simp -dsimp only [go_sem, ↓reduceIte, reduceCtorEq, Nat.reduceEqDiff, Nat.reduceAdd, Nat.reduceLeDiff, Nat.reduceMul, Int.reduceBEq, Int.reduceBNe, Int.reduceLT, Int.reduceLE, Int.reduceGT, Int.reduceGE]
    refine Chk_intro (by omega) ?_
    simp -dsimp only [go_sem, ↓reduceIte, reduceCtorEq, Nat.reduceEqDiff, Nat.reduceAdd, Nat.reduceLeDiff, Nat.reduceMul, Int.reduceBEq, Int.reduceBNe, Int.reduceLT, Int.reduceLE, Int.reduceGT, Int.reduceGE]
    refine Chk_intro (t6.r4.wr (by simp [row4]; omega)) fun h7 s7 => ?_
    have hp4 : ProgAt h6 h3.size h4.size (.pointer (some ⟨q4, 0, none⟩)) 0 fun _ _ => false := (t4.fr s5.fr (by omega)).fr f6 (by omega)
    have g7 := t5.grow (by omega) hlt (upd_same _ _ _) f6 hp4 d6 (by omega) (fun x hx => by have := t.s x hx; omega) (by omega) (.inr ⟨by omega, by omega⟩) (by omega) s7
    have s7_z := s7.size
    have p7 := p6.fresh s7.fr (by omega)
    simp -dsimp only [go_sem, ↓reduceIte, reduceCtorEq, Nat.reduceEqDiff, Nat.reduceAdd, Nat.reduceLeDiff, Nat.reduceMul, Int.reduceBEq, Int.reduceBNe, Int.reduceLT, Int.reduceLE, Int.reduceGT, Int.reduceGE]
    refine Chk_intro (by omega) ?_
    have c7 : (row3 (upd V i (.pointer (some ⟨q4, 0, none⟩))))[i]? = some (.pointer (some ⟨q4, 0, none⟩)) := by rw [row3_get i hlt, upd_same]
    simp -dsimp only [go_sem, ↓reduceIte, reduceCtorEq, Nat.reduceEqDiff, Nat.reduceAdd, Nat.reduceLeDiff, Nat.reduceMul, Int.reduceBEq, Int.reduceBNe, Int.reduceLT, Int.reduceLE, Int.reduceGT, Int.reduceGE, g7.r3.cell, c7]
    simp -dsimp (disch := omega) only [wrap64]
    exact ⟨i + 1, by omega, by simp [Le, find], by omega, p7, by omega, _, _, _, _, _, _, _, _, _, g7⟩
  have hi4 : i = 4 := by omega
  subst hi4
  simp -dsimp only [go_sem, ↓reduceIte, reduceCtorEq, Nat.reduceEqDiff, Nat.reduceAdd, Nat.reduceLeDiff, Nat.reduceMul, Int.reduceBEq, Int.reduceBNe, Int.reduceLT, Int.reduceLE, Int.reduceGT, Int.reduceGE]
  refine call_of (c_law1_lives (ht.fr p0 (by omega))) ?_
  rintro v h4 ⟨f4, rfl⟩
  have f4_z := f4.size
  replace p0 := p0.fresh f4 (by omega)
  have t4 := t.fr f4
  simp -dsimp only [go_sem, ↓reduceIte, reduceCtorEq, Nat.reduceEqDiff, Nat.reduceAdd, Nat.reduceLeDiff, Nat.reduceMul, Int.reduceBEq, Int.reduceBNe, Int.reduceLT, Int.reduceLE, Int.reduceGT, Int.reduceGE]
  refine loop_joint (fun _ : Unit => [(3, .pointer (some ⟨b3, 0, none⟩)), (4, .pointer (some ⟨b4, 0, none⟩))]) (fun _ h' => Fr 0 0 h h' ∧ h2.size ≤ h'.size ∧ PlayE h' b3 b4 h2.size 4) ?_ ?_
  rotate_left
  · rintro ⟨⟩ h5 ⟨p0, y5, P, N, X, V, D, al, ah, dl, dh, t⟩ e ⟨e3, e4, -⟩
    have p0_z := p0.size
    simp -dsimp only [go_sem, ↓reduceIte, reduceCtorEq, Nat.reduceEqDiff, Nat.reduceAdd, Nat.reduceLeDiff, Nat.reduceMul, Int.reduceBEq, Int.reduceBNe, Int.reduceLT, Int.reduceLE, Int.reduceGT, Int.reduceGE, e3, e4]
    refine loop_intro (fun i : Nat => [(3, .pointer (some ⟨b3, 0, none⟩)), (4, .pointer (some ⟨b4, 0, none⟩)), (15, .int .i64 i)])
      (fun i h' => i ≤ 4 ∧ Fr 0 0 h5 h') (fun i => 4 - i) 0 ?_ ?_ ?_
    · simp [Le, find, e3, e4]
    · exact ⟨by omega, .refl _ _ _⟩
    rintro i h6 ⟨hi, f6⟩
    have f6_z := f6.size
    replace p0 := p0.fresh f6 (by omega)
    have t6 := t.fr f6
    simp -dsimp only [go_sem, ↓reduceIte, reduceCtorEq, Nat.reduceEqDiff, Nat.reduceAdd, Nat.reduceLeDiff, Nat.reduceMul, Int.reduceBEq, Int.reduceBNe, Int.reduceLT, Int.reduceLE, Int.reduceGT, Int.reduceGE]
    refine ⟨fun hlt => ?_, fun hge => ?_⟩
    · have hlt : i < 4 := by omega
      have rs3 := row3_get (V := V) i hlt
      rw [t6.v i hlt] at rs3
      obtain ⟨da, dn, dc, hDs⟩ := t6.ds i
      simp -dsimp only [go_sem, ↓reduceIte, reduceCtorEq, Nat.reduceEqDiff, Nat.reduceAdd, Nat.reduceLeDiff, Nat.reduceMul, Int.reduceBEq, Int.reduceBNe, Int.reduceLT, Int.reduceLE, Int.reduceGT, Int.reduceGE]
      refine Chk_intro (by omega) ?_
      simp -dsimp only [go_sem, ↓reduceIte, reduceCtorEq, Nat.reduceEqDiff, Nat.reduceAdd, Nat.reduceLeDiff, Nat.reduceMul, Int.reduceBEq, Int.reduceBNe, Int.reduceLT, Int.reduceLE, Int.reduceGT, Int.reduceGE, t6.r3.cell, rs3]
      refine Chk_intro (by omega) ?_
      simp -dsimp only [go_sem, ↓reduceIte, reduceCtorEq, Nat.reduceEqDiff, Nat.reduceAdd, Nat.reduceLeDiff, Nat.reduceMul, Int.reduceBEq, Int.reduceBNe, Int.reduceLT, Int.reduceLE, Int.reduceGT, Int.reduceGE, t6.r4.cell, row4_n (N := N) (D := D) i hlt, row4_d (N := N) (D := D) i hlt]
      refine call_of (c_law1_like (ht.fr p0 (by omega)) (t6.a i hlt) (t6.d i hlt)) ?_
      rintro v h7 ⟨f7, rfl⟩
      simp -dsimp only [go_sem, ↓reduceIte, reduceCtorEq, Nat.reduceEqDiff, Nat.reduceAdd, Nat.reduceLeDiff, Nat.reduceMul, Int.reduceBEq, Int.reduceBNe, Int.reduceLT, Int.reduceLE, Int.reduceGT, Int.reduceGE]
      simp -dsimp (disch := omega) only [wrap64]
      exact ⟨i + 1, by omega, by simp [Le, find], by omega, f6.trans f7⟩
    · simp -dsimp only [go_sem, ↓reduceIte, reduceCtorEq, Nat.reduceEqDiff, Nat.reduceAdd, Nat.reduceLeDiff, Nat.reduceMul, Int.reduceBEq, Int.reduceBNe, Int.reduceLT, Int.reduceLE, Int.reduceGT, Int.reduceGE]
      exact p0
  refine loop_intro (fun i : Nat => [(0, .slice sa l.length sc), (3, .pointer (some ⟨b3, 0, none⟩)), (4, .pointer (some ⟨b4, 0, none⟩)), (6, .int .i64 i)])
    (fun i h' => i ≤ l.length ∧ Fr 0 0 h h' ∧ h2.size ≤ h'.size ∧ PlayE h' b3 b4 h2.size 4) (fun i => l.length - i) 0 ?_ ?_ ?_
  · simp [Le, find]
  · exact ⟨by omega, p0, by omega, _, _, _, _, _, _, _, _, _, t4⟩
  clear t4 t
  rintro i h5 ⟨hi, p0, y5, P, N, X, V, D, al, ah, dl, dh, t⟩
  have p0_z := p0.size
  have out : ∀ e, Le [(3, .pointer (some ⟨b3, 0, none⟩)), (4, .pointer (some ⟨b4, 0, none⟩))] e → ∃ s : Unit, Le [(3, .pointer (some ⟨b3, 0, none⟩)), (4, .pointer (some ⟨b4, 0, none⟩))] e ∧ Fr 0 0 h h5 ∧ h2.size ≤ h5.size ∧ PlayE h5 b3 b4 h2.size 4 := fun e he => ⟨(), he, p0, y5, _, _, _, _, _, _, _, _, _, t⟩
  by_cases h1 : (i : Int) < (l.length : Int)
  · by_cases h2' : (i : Int) < 200
    · have hlt : i < l.length := by omega
      have hxl : l[i]? = some l[i] := List.getElem?_eq_getElem _
      have hxA := hl _ (List.getElem_mem hlt)
      generalize l[i] = x at hxl hxA
      have srow := stp_row hxl
      simp -dsimp only [go_sem, ↓reduceIte, reduceCtorEq, Nat.reduceEqDiff, Nat.reduceAdd, Nat.reduceLeDiff, Nat.reduceMul, Int.reduceBEq, Int.reduceBNe, Int.reduceLT, Int.reduceLE, Int.reduceGT, Int.reduceGE, h1, h2', decide_true]
      refine (hs.fr p0).idx (by omega) fun bS oS cS => ?_
      simp -dsimp only [go_sem, ↓reduceIte, reduceCtorEq, Nat.reduceEqDiff, Nat.reduceAdd, Nat.reduceLeDiff, Nat.reduceMul, Int.reduceBEq, Int.reduceBNe, Int.reduceLT, Int.reduceLE, Int.reduceGT, Int.reduceGE]
      refine withC_of x.cells (oS + i * 10) (fun k y hk => by
        have hk10 : k < 10 := (List.getElem?_eq_some_iff.1 hk).1
        rw [Nat.add_assoc]; exact cS _ _ (by rw [srow k hk10]; exact hk)) ?_
      have hz : h2.size ≤ h5.size := y5
      intro b7 h7 n7
      have n7_a := n7.at_
      have n7_z := n7.size
      replace p0 := p0.fresh (n7.fr (lo := 0) (hi := 0)) (by omega)
      have r7 := n7.row
      have hoc : x.cells.all Value.oneCell' = true := by
        obtain ⟨a1, c1, e1⟩ := hxA.p.is
        obtain ⟨a2, c2, e2⟩ := hxA.r.is
        obtain ⟨a3, c3, e3⟩ := hxA.c.is
        simp [Stp.cells, e1, e2, e3, Value.oneCell']
      simp -dsimp only [go_sem, ↓reduceIte, reduceCtorEq, Nat.reduceEqDiff, Nat.reduceAdd, Nat.reduceLeDiff, Nat.reduceMul, Int.reduceBEq, Int.reduceBNe, Int.reduceLT, Int.reduceLE, Int.reduceGT, Int.reduceGE, r7.cell]
      refine Chk_intro ⟨rfl, hoc⟩ ?_
      refine Chk_intro (r7.wr (by first | (simp; done) | (simp; omega))) fun h8 s8 => ?_
      have s8_z := s8.size
      replace p0 := p0.fresh s8.fr (by omega)
      replace r7 := s8.row r7
      try simp only [cl_int, cl_bool, cl_slice, cl_ptr, putAt_one, List.set_cons_zero, List.set_cons_succ, ivec_set, brow_upd] at r7
      replace r7 : Rw h8 b7 [.int .i64 x.op, .int .i64 x.s, .int .i64 x.t, .int .i64 x.to, .int .i64 x.a, .int .i64 x.b, .bool x.inn, x.pv, x.rv, x.cv] := r7
      have t8 := t.own (show h5.size ≤ b7 by omega) n7.fr s8.fr
      obtain ⟨s, hs4, es⟩ := and3 x.s
      obtain ⟨u, hu4, eu⟩ := and3 x.t
      simp -dsimp only [go_sem, ↓reduceIte, reduceCtorEq, Nat.reduceEqDiff, Nat.reduceAdd, Nat.reduceLeDiff, Nat.reduceMul, Int.reduceBEq, Int.reduceBNe, Int.reduceLT, Int.reduceLE, Int.reduceGT, Int.reduceGE, es, eu, r7.cell]
      have rs3 := row3_get (V := V) s hs4
      have ru3 := row3_get (V := V) u hu4
      rw [t8.v s hs4] at rs3
      rw [t8.v u hu4] at ru3
      have rsn := row4_n (N := N) (D := D) s hs4
      have rsd := row4_d (N := N) (D := D) s hs4
      have run := row4_n (N := N) (D := D) u hu4
      have rud := row4_d (N := N) (D := D) u hu4
      refine ⟨fun hk => ?_, fun hk => ?_⟩
      · simp -dsimp only [go_sem, ↓reduceIte, reduceCtorEq, Nat.reduceEqDiff, Nat.reduceAdd, Nat.reduceLeDiff, Nat.reduceMul, Int.reduceBEq, Int.reduceBNe, Int.reduceLT, Int.reduceLE, Int.reduceGT, Int.reduceGE, r7.cell]
        refine Chk_intro (by omega) ?_
        simp -dsimp only [go_sem, ↓reduceIte, reduceCtorEq, Nat.reduceEqDiff, Nat.reduceAdd, Nat.reduceLeDiff, Nat.reduceMul, Int.reduceBEq, Int.reduceBNe, Int.reduceLT, Int.reduceLE, Int.reduceGT, Int.reduceGE, t8.r4.cell, rsn, rsd, r7.cell]
        obtain ⟨da, dn, dc, hDs⟩ := t8.ds s
        have hds := t8.d s hs4
        have hss := t8.s s hs4
        have hs5 := t.s s hs4
        have bb : ∃ bb, bb = (inR (N s) x.a && inR (N s) x.b && (X s x.a.toNat x.b.toNat != x.inn)) := ⟨_, rfl⟩
        obtain ⟨bb, hbb⟩ := bb
        refine rvc_joint (fun y : Nat × Option Addr × Nat × Nat × Nat => [(0, .slice sa l.length sc), (3, .pointer (some ⟨b3, 0, none⟩)), (4, .pointer (some ⟨b4, 0, none⟩)), (6, .int .i64 i), (7, .pointer (some ⟨b7, 0, none⟩)), (8, .int .i64 s), (10, .pointer (some ⟨y.1, 0, none⟩)), (11, .bool bb)])
          (fun y h' => Fr 0 0 h8 h' ∧ Rw h' y.1 [.int .i64 (N s), .slice y.2.1 (N s) y.2.2.1] ∧ h8.size ≤ y.1 ∧ RefAt h' y.2.2.2.1 y.2.2.2.2 (.agg #[.int .i64 (N s), .slice y.2.1 (N s) y.2.2.1]) (N s) (putM (N s) (X s) x.a x.b x.inn) ∧ (y.2.2.2.1 = dl s ∧ y.2.2.2.2 = dh s ∨ h8.size ≤ y.2.2.2.1 ∧ y.2.2.2.2 ≤ h'.size)) ?_ ?_
        · simp -dsimp only [go_sem, ↓reduceIte, reduceCtorEq, Nat.reduceEqDiff, Nat.reduceAdd, Nat.reduceLeDiff, Nat.reduceMul, Int.reduceBEq, Int.reduceBNe, Int.reduceLT, Int.reduceLE, Int.reduceGT, Int.reduceGE, r_two, r7.cell]
          refine ⟨?_, ?_⟩
          · refine call_of (ref1_Put hds x.a x.b x.inn hss.2.2.2) ?_
            rintro v h9 ⟨f9, w, lo', hi', rfl, td, hreg⟩
            obtain ⟨-, zs, zR, rfl, tz⟩ := id td
            obtain ⟨za, zc, rfl⟩ := tz.own.is
            have f9_z := f9.size
            rw [← hbb]
            simp -dsimp only [go_sem, ↓reduceIte, reduceCtorEq, Nat.reduceEqDiff, Nat.reduceAdd, Nat.reduceLeDiff, Nat.reduceMul, Int.reduceBEq, Int.reduceBNe, Int.reduceLT, Int.reduceLE, Int.reduceGT, Int.reduceGE, r7.cell]
            intro b10 h10 n10
            have r10 := n10.row; have n10_a := n10.at_; have n10_z := n10.size
            simp -dsimp only [go_sem, ↓reduceIte, reduceCtorEq, Nat.reduceEqDiff, Nat.reduceAdd, Nat.reduceLeDiff, Nat.reduceMul, Int.reduceBEq, Int.reduceBNe, Int.reduceLT, Int.reduceLE, Int.reduceGT, Int.reduceGE, r7.cell]
            refine Chk_intro (r10.wr (by simp)) fun h11 s11 => ?_
            have r11 := s11.row r10
            have s11_z := s11.size
            simp -dsimp only [go_sem, ↓reduceIte, reduceCtorEq, Nat.reduceEqDiff, Nat.reduceAdd, Nat.reduceLeDiff, Nat.reduceMul, Int.reduceBEq, Int.reduceBNe, Int.reduceLT, Int.reduceLE, Int.reduceGT, Int.reduceGE] at r11
            simp -dsimp only [go_sem, ↓reduceIte, reduceCtorEq, Nat.reduceEqDiff, Nat.reduceAdd, Nat.reduceLeDiff, Nat.reduceMul, Int.reduceBEq, Int.reduceBNe, Int.reduceLT, Int.reduceLE, Int.reduceGT, Int.reduceGE, r7.cell]
            exact ⟨(b10, za, zc, lo', hi'), by simp [Le, find], (f9.trans n10.fr).fresh s11.fr (by omega), r11, by dsimp only; omega, (td.fr (n10.fr (lo := 0) (hi := 0)) (by omega)).fr s11.fr (by first | omega | (dsimp only; omega)), by dsimp only; omega⟩
          · intro b10 h10 n10
            have r10 := n10.row; have n10_a := n10.at_; have n10_z := n10.size
            simp -dsimp only [go_sem, ↓reduceIte, reduceCtorEq, Nat.reduceEqDiff, Nat.reduceAdd, Nat.reduceLeDiff, Nat.reduceMul, Int.reduceBEq, Int.reduceBNe, Int.reduceLT, Int.reduceLE, Int.reduceGT, Int.reduceGE, r7.cell]
            refine call_of (ref1_Put (hds.fr (n10.fr (lo := 0) (hi := 0)) (by omega)) x.a x.b x.inn (by omega)) ?_
            rintro v h9 ⟨f9, w, lo', hi', rfl, td, hreg⟩
            obtain ⟨-, zs, zR, rfl, tz⟩ := id td
            obtain ⟨za, zc, rfl⟩ := tz.own.is
            have f9_z := f9.size
            have r9 := r10.fr f9 (by omega)
            rw [← hbb]
            simp -dsimp only [go_sem, ↓reduceIte, reduceCtorEq, Nat.reduceEqDiff, Nat.reduceAdd, Nat.reduceLeDiff, Nat.reduceMul, Int.reduceBEq, Int.reduceBNe, Int.reduceLT, Int.reduceLE, Int.reduceGT, Int.reduceGE, r7.cell]
            refine Chk_intro (r9.wr (by simp)) fun h11 s11 => ?_
            have r11 := s11.row r9
            have s11_z := s11.size
            simp -dsimp only [go_sem, ↓reduceIte, reduceCtorEq, Nat.reduceEqDiff, Nat.reduceAdd, Nat.reduceLeDiff, Nat.reduceMul, Int.reduceBEq, Int.reduceBNe, Int.reduceLT, Int.reduceLE, Int.reduceGT, Int.reduceGE] at r11
            simp -dsimp only [go_sem, ↓reduceIte, reduceCtorEq, Nat.reduceEqDiff, Nat.reduceAdd, Nat.reduceLeDiff, Nat.reduceMul, Int.reduceBEq, Int.reduceBNe, Int.reduceLT, Int.reduceLE, Int.reduceGT, Int.reduceGE, r7.cell]
            exact ⟨(b10, za, zc, lo', hi'), by simp [Le, find], ((n10.fr (lo := 0) (hi := 0)).trans f9).fresh s11.fr (by omega), r11, by dsimp only; omega, td.fr s11.fr (by first | omega | (dsimp only; omega)), by dsimp only; omega⟩
        rintro ⟨b10, za, zc, lo', hi'⟩ h12 ⟨f12, r10, k10, td, hreg⟩ e ⟨e0, e3, e4, e6, e7, e8, e10, e11, -⟩
        dsimp only at r10 k10 td hreg e10
        have f12_z := f12.size
        replace p0 := p0.fresh f12 (by omega)
        replace r7 := r7.fr f12 (by omega)
        have t12 := t8.fr f12
        have hs12 := t12.s s hs4
        simp -dsimp only [go_sem, ↓reduceIte, reduceCtorEq, Nat.reduceEqDiff, Nat.reduceAdd, Nat.reduceLeDiff, Nat.reduceMul, Int.reduceBEq, Int.reduceBNe, Int.reduceLT, Int.reduceLE, Int.reduceGT, Int.reduceGE, e0, e3, e4, e6, e7, e8, e10, e11, r10.cell, r7.cell]
        refine Chk_intro (by omega) ?_
        simp -dsimp only [go_sem, ↓reduceIte, reduceCtorEq, Nat.reduceEqDiff, Nat.reduceAdd, Nat.reduceLeDiff, Nat.reduceMul, Int.reduceBEq, Int.reduceBNe, Int.reduceLT, Int.reduceLE, Int.reduceGT, Int.reduceGE, e0, e3, e4, e6, e7, e8, e10, e11, r10.cell, r7.cell]
        refine Chk_intro (t12.r4.wr (by simp [row4]; omega)) fun h13 s13 => ?_
        have s13_z := s13.size
        have s13.fr_z := s13.fr.size
        replace p0 := p0.fresh s13.fr (by omega)
        replace r7 := r7.fr s13.fr (by omega)
        have r13 := s13.rw t12.r3 (by have := t12.k; omega)
        have a13 := (t12.a s hs4).fr s13.fr (by have := t12.k; omega)
        simp -dsimp only [go_sem, ↓reduceIte, reduceCtorEq, Nat.reduceEqDiff, Nat.reduceAdd, Nat.reduceLeDiff, Nat.reduceMul, Int.reduceBEq, Int.reduceBNe, Int.reduceLT, Int.reduceLE, Int.reduceGT, Int.reduceGE, e0, e3, e4, e6, e7, e8, e10, e11, r7.cell]
        refine Chk_intro (by omega) ?_
        simp -dsimp only [go_sem, ↓reduceIte, reduceCtorEq, Nat.reduceEqDiff, Nat.reduceAdd, Nat.reduceLeDiff, Nat.reduceMul, Int.reduceBEq, Int.reduceBNe, Int.reduceLT, Int.reduceLE, Int.reduceGT, Int.reduceGE, e0, e3, e4, e6, e7, e8, e10, e11, r13.cell, rs3, r7.cell]
        refine call_of (rel_Put a13 x.a x.b x.inn) ?_
        rintro v h14 ⟨f14, z14, rfl, a14⟩
        rw [← hbb]
        have t14 := t8.turn (by omega) hs4 hs4 f12 td hreg s13 f14 z14 a14
        have f14_z := f14.size
        replace p0 := p0.fresh f14 (by omega)
        replace r7 := r7.fr f14 (by omega)
        simp -dsimp only [go_sem, ↓reduceIte, reduceCtorEq, Nat.reduceEqDiff, Nat.reduceAdd, Nat.reduceLeDiff, Nat.reduceMul, Int.reduceBEq, Int.reduceBNe, Int.reduceLT, Int.reduceLE, Int.reduceGT, Int.reduceGE, e0, e3, e4, e6, e7, e8, e10, e11, r7.cell]
        simp -dsimp (disch := omega) only [wrap64]
        exact ⟨i + 1, by omega, by simp [Le, find], by omega, p0, by omega, _, _, _, _, _, _, _, _, _, t14⟩
      · obtain ⟨da, dn, dc, hDs⟩ := t8.ds s
        obtain ⟨ea, en, ec, hDu⟩ := t8.ds u
        have hds := t8.d s hs4
        have hdu := t8.d u hu4
        have has := t8.a s hs4
        have hau := t8.a u hu4
        have hss := t8.s s hs4
        have hsu := t8.s u hu4
        have hxA8 : ∀ h', Fr 0 0 h h' → x.At h' := fun h' f => ⟨hxA.p.fr f, hxA.r.fr f, hxA.c.fr f, hxA.bp, hxA.br, hxA.bc⟩
        simp -dsimp only [go_sem, ↓reduceIte, reduceCtorEq, Nat.reduceEqDiff, Nat.reduceAdd, Nat.reduceLeDiff, Nat.reduceMul, Int.reduceBEq, Int.reduceBNe, Int.reduceLT, Int.reduceLE, Int.reduceGT, Int.reduceGE, eu, r7.cell]
        refine withC_of x.cells 0 (fun k y hk => by rw [r7.cell, Nat.zero_add]; exact hk) ?_
        refine Chk_intro (by omega) ?_
        simp -dsimp only [go_sem, ↓reduceIte, reduceCtorEq, Nat.reduceEqDiff, Nat.reduceAdd, Nat.reduceLeDiff, Nat.reduceMul, Int.reduceBEq, Int.reduceBNe, Int.reduceLT, Int.reduceLE, Int.reduceGT, Int.reduceGE, t8.r3.cell, rs3, r7.cell]
        refine Chk_intro (by omega) ?_
        simp -dsimp only [go_sem, ↓reduceIte, reduceCtorEq, Nat.reduceEqDiff, Nat.reduceAdd, Nat.reduceLeDiff, Nat.reduceMul, Int.reduceBEq, Int.reduceBNe, Int.reduceLT, Int.reduceLE, Int.reduceGT, Int.reduceGE, t8.r3.cell, ru3, r7.cell]
        refine Chk_intro (by omega) ?_
        simp -dsimp only [go_sem, ↓reduceIte, reduceCtorEq, Nat.reduceEqDiff, Nat.reduceAdd, Nat.reduceLeDiff, Nat.reduceMul, Int.reduceBEq, Int.reduceBNe, Int.reduceLT, Int.reduceLE, Int.reduceGT, Int.reduceGE, t8.r4.cell, rsn, rsd, r7.cell]
        refine Chk_intro (by omega) ?_
        simp -dsimp only [go_sem, ↓reduceIte, reduceCtorEq, Nat.reduceEqDiff, Nat.reduceAdd, Nat.reduceLeDiff, Nat.reduceMul, Int.reduceBEq, Int.reduceBNe, Int.reduceLT, Int.reduceLE, Int.reduceGT, Int.reduceGE, t8.r4.cell, run, rud, r7.cell]
        refine rvc_joint (fun y : Nat × Option Addr × Bool => [(0, .slice sa l.length sc), (3, .pointer (some ⟨b3, 0, none⟩)), (4, .pointer (some ⟨b4, 0, none⟩)), (6, .int .i64 i), (7, .pointer (some ⟨b7, 0, none⟩)), (8, .int .i64 s), (9, .int .i64 u), (12, .pointer y.2.1), (13, .pointer (some ⟨y.1, 0, none⟩)), (14, .bool y.2.2)])
          (fun y h' => Fr 0 0 h8 h' ∧ h8.size ≤ y.1 ∧ (y.2.2 = false ∨ y.2.2 = true ∧ ∃ pb n Y a z w plo phi dlo dhi, y.2.1 = some ⟨pb, 0, none⟩ ∧ Rw h' y.1 [.int .i64 (n : Nat), .slice a z w] ∧ ProgAt h' plo phi (.pointer (some ⟨pb, 0, none⟩)) n Y ∧ RefAt h' dlo dhi (.agg #[.int .i64 (n : Nat), .slice a z w]) n Y ∧ h8.size ≤ plo ∧ phi ≤ h'.size ∧ (dlo = dl s ∧ dhi = dh s ∨ phi ≤ dlo ∧ dhi ≤ h'.size))) ?_ ?_
        · simp -dsimp only [go_sem, ↓reduceIte, reduceCtorEq, Nat.reduceEqDiff, Nat.reduceAdd, Nat.reduceLeDiff, Nat.reduceMul, Int.reduceBEq, Int.reduceBNe, Int.reduceLT, Int.reduceLE, Int.reduceGT, Int.reduceGE, r_two, r7.cell]
          refine ⟨?_, ?_⟩
          · refine call_of (c_law1_made (ht.fr p0 (by omega)) (hxA8 _ p0) has hau hds hdu hss.2.1 hsu.2.1 hss.2.2.2 hsu.2.2.2) ?_
            rintro v h9 ⟨f9, hM⟩
            have f9_z := f9.size
            rcases hM with ⟨pb, w, n, Y, plo, phi, dlo, dhi, rfl, tp, td, k1, k2', k3⟩ | ⟨a', c', rfl⟩
            · obtain ⟨-, zs, zR, rfl, tz⟩ := id td
              obtain ⟨za, zc, rfl⟩ := tz.own.is
              simp -dsimp only [go_sem, ↓reduceIte, reduceCtorEq, Nat.reduceEqDiff, Nat.reduceAdd, Nat.reduceLeDiff, Nat.reduceMul, Int.reduceBEq, Int.reduceBNe, Int.reduceLT, Int.reduceLE, Int.reduceGT, Int.reduceGE, r7.cell]
              intro b10 h10 n10
              have r10 := n10.row; have n10_a := n10.at_; have n10_z := n10.size
              simp -dsimp only [go_sem, ↓reduceIte, reduceCtorEq, Nat.reduceEqDiff, Nat.reduceAdd, Nat.reduceLeDiff, Nat.reduceMul, Int.reduceBEq, Int.reduceBNe, Int.reduceLT, Int.reduceLE, Int.reduceGT, Int.reduceGE, r7.cell]
              refine Chk_intro (r10.wr (by simp)) fun h11 s11 => ?_
              have r11 := s11.row r10
              have s11_z := s11.size
              simp -dsimp only [go_sem, ↓reduceIte, reduceCtorEq, Nat.reduceEqDiff, Nat.reduceAdd, Nat.reduceLeDiff, Nat.reduceMul, Int.reduceBEq, Int.reduceBNe, Int.reduceLT, Int.reduceLE, Int.reduceGT, Int.reduceGE] at r11
              simp -dsimp only [go_sem, ↓reduceIte, reduceCtorEq, Nat.reduceEqDiff, Nat.reduceAdd, Nat.reduceLeDiff, Nat.reduceMul, Int.reduceBEq, Int.reduceBNe, Int.reduceLT, Int.reduceLE, Int.reduceGT, Int.reduceGE, r7.cell]
              exact ⟨(b10, some ⟨pb, 0, none⟩, true), by simp [Le, find], (f9.trans n10.fr).fresh s11.fr (by omega), by dsimp only; omega, .inr ⟨rfl, pb, n, Y, _, _, _, plo, phi, dlo, dhi, rfl, r11, (tp.fr (n10.fr (lo := 0) (hi := 0)) (by omega)).fr s11.fr (by omega), (td.fr (n10.fr (lo := 0) (hi := 0)) (by omega)).fr s11.fr (by omega), by omega, by omega, by omega⟩⟩
            · simp -dsimp only [go_sem, ↓reduceIte, reduceCtorEq, Nat.reduceEqDiff, Nat.reduceAdd, Nat.reduceLeDiff, Nat.reduceMul, Int.reduceBEq, Int.reduceBNe, Int.reduceLT, Int.reduceLE, Int.reduceGT, Int.reduceGE, r7.cell]
              intro b10 h10 n10
              have r10 := n10.row; have n10_a := n10.at_; have n10_z := n10.size
              simp -dsimp only [go_sem, ↓reduceIte, reduceCtorEq, Nat.reduceEqDiff, Nat.reduceAdd, Nat.reduceLeDiff, Nat.reduceMul, Int.reduceBEq, Int.reduceBNe, Int.reduceLT, Int.reduceLE, Int.reduceGT, Int.reduceGE, r7.cell]
              refine Chk_intro (r10.wr (by simp)) fun h11 s11 => ?_
              simp -dsimp only [go_sem, ↓reduceIte, reduceCtorEq, Nat.reduceEqDiff, Nat.reduceAdd, Nat.reduceLeDiff, Nat.reduceMul, Int.reduceBEq, Int.reduceBNe, Int.reduceLT, Int.reduceLE, Int.reduceGT, Int.reduceGE, r7.cell]
              exact ⟨(b10, none, false), by simp [Le, find], (f9.trans n10.fr).fresh s11.fr (by omega), by dsimp only; omega, .inl rfl⟩
          · intro b10 h10 n10
            have r10 := n10.row; have n10_a := n10.at_; have n10_z := n10.size
            have f10 : Fr 0 0 h8 h10 := n10.fr
            simp -dsimp only [go_sem, ↓reduceIte, reduceCtorEq, Nat.reduceEqDiff, Nat.reduceAdd, Nat.reduceLeDiff, Nat.reduceMul, Int.reduceBEq, Int.reduceBNe, Int.reduceLT, Int.reduceLE, Int.reduceGT, Int.reduceGE, r7.cell]
            refine call_of (c_law1_made (ht.fr (p0.trans f10) (by omega)) (hxA8 _ (p0.trans f10)) (has.fr f10 (by omega)) (hau.fr f10 (by omega)) (hds.fr f10 (by omega)) (hdu.fr f10 (by omega)) (by omega) (by omega) (by omega) (by omega)) ?_
            rintro v h9 ⟨f9, hM⟩
            have f9_z := f9.size
            have r9 := r10.fr f9 (by omega)
            rcases hM with ⟨pb, w, n, Y, plo, phi, dlo, dhi, rfl, tp, td, k1, k2', k3⟩ | ⟨a', c', rfl⟩
            · obtain ⟨-, zs, zR, rfl, tz⟩ := id td
              obtain ⟨za, zc, rfl⟩ := tz.own.is
              have hpp : plo ≤ phi := by obtain ⟨-, _, _, _, _, -, tt⟩ := tp; have := tt.at_; omega
              simp -dsimp only [go_sem, ↓reduceIte, reduceCtorEq, Nat.reduceEqDiff, Nat.reduceAdd, Nat.reduceLeDiff, Nat.reduceMul, Int.reduceBEq, Int.reduceBNe, Int.reduceLT, Int.reduceLE, Int.reduceGT, Int.reduceGE, r7.cell]
              refine Chk_intro (r9.wr (by simp)) fun h11 s11 => ?_
              have r11 := s11.row r9
              have s11_z := s11.size
              simp -dsimp only [go_sem, ↓reduceIte, reduceCtorEq, Nat.reduceEqDiff, Nat.reduceAdd, Nat.reduceLeDiff, Nat.reduceMul, Int.reduceBEq, Int.reduceBNe, Int.reduceLT, Int.reduceLE, Int.reduceGT, Int.reduceGE] at r11
              simp -dsimp only [go_sem, ↓reduceIte, reduceCtorEq, Nat.reduceEqDiff, Nat.reduceAdd, Nat.reduceLeDiff, Nat.reduceMul, Int.reduceBEq, Int.reduceBNe, Int.reduceLT, Int.reduceLE, Int.reduceGT, Int.reduceGE, r7.cell]
              exact ⟨(b10, some ⟨pb, 0, none⟩, true), by simp [Le, find], (f10.trans f9).fresh s11.fr (by omega), by dsimp only; omega, .inr ⟨rfl, pb, n, Y, _, _, _, plo, phi, dlo, dhi, rfl, r11, tp.fr s11.fr (by omega), td.fr s11.fr (by omega), by omega, by omega, by omega⟩⟩
            · simp -dsimp only [go_sem, ↓reduceIte, reduceCtorEq, Nat.reduceEqDiff, Nat.reduceAdd, Nat.reduceLeDiff, Nat.reduceMul, Int.reduceBEq, Int.reduceBNe, Int.reduceLT, Int.reduceLE, Int.reduceGT, Int.reduceGE, r7.cell]
              refine Chk_intro (r9.wr (by simp)) fun h11 s11 => ?_
              simp -dsimp only [go_sem, ↓reduceIte, reduceCtorEq, Nat.reduceEqDiff, Nat.reduceAdd, Nat.reduceLeDiff, Nat.reduceMul, Int.reduceBEq, Int.reduceBNe, Int.reduceLT, Int.reduceLE, Int.reduceGT, Int.reduceGE, r7.cell]
              exact ⟨(b10, none, false), by simp [Le, find], (f10.trans f9).fresh s11.fr (by omega), by dsimp only; omega, .inl rfl⟩
        rintro ⟨b10, q, ok⟩ h12 ⟨f12, k10, hok⟩ e ⟨e0, e3, e4, e6, e7, e8, e9, e12, e13, e14, -⟩
        dsimp only at k10 hok e12 e13 e14
        have f12_z := f12.size
        replace p0 := p0.fresh f12 (by omega)
        replace r7 := r7.fr f12 (by omega)
        have t12 := t8.fr f12
        have hs12 := t12.s s hs4
        rcases hok with rfl | ⟨rfl, pb, n, Y, a, z, w, plo, phi, dlo, dhi, rfl, r10, tp, td, k1, k2', k3⟩
        · simp -dsimp only [go_sem, ↓reduceIte, reduceCtorEq, Nat.reduceEqDiff, Nat.reduceAdd, Nat.reduceLeDiff, Nat.reduceMul, Int.reduceBEq, Int.reduceBNe, Int.reduceLT, Int.reduceLE, Int.reduceGT, Int.reduceGE, e0, e3, e4, e6, e7, e8, e9, e12, e13, e14, r7.cell]
          refine withC_of x.cells 0 (fun k y hk => by rw [r7.cell, Nat.zero_add]; exact hk) ?_
          refine Chk_intro (by omega) ?_
          simp -dsimp only [go_sem, ↓reduceIte, reduceCtorEq, Nat.reduceEqDiff, Nat.reduceAdd, Nat.reduceLeDiff, Nat.reduceMul, Int.reduceBEq, Int.reduceBNe, Int.reduceLT, Int.reduceLE, Int.reduceGT, Int.reduceGE, e0, e3, e4, e6, e7, e8, e9, e12, e13, e14, t12.r3.cell, rs3, r7.cell]
          refine Chk_intro (by omega) ?_
          simp -dsimp only [go_sem, ↓reduceIte, reduceCtorEq, Nat.reduceEqDiff, Nat.reduceAdd, Nat.reduceLeDiff, Nat.reduceMul, Int.reduceBEq, Int.reduceBNe, Int.reduceLT, Int.reduceLE, Int.reduceGT, Int.reduceGE, e0, e3, e4, e6, e7, e8, e9, e12, e13, e14, t12.r3.cell, ru3, r7.cell]
          refine Chk_intro (by omega) ?_
          simp -dsimp only [go_sem, ↓reduceIte, reduceCtorEq, Nat.reduceEqDiff, Nat.reduceAdd, Nat.reduceLeDiff, Nat.reduceMul, Int.reduceBEq, Int.reduceBNe, Int.reduceLT, Int.reduceLE, Int.reduceGT, Int.reduceGE, e0, e3, e4, e6, e7, e8, e9, e12, e13, e14, t12.r4.cell, rsn, rsd, r7.cell]
          refine Chk_intro (by omega) ?_
          simp -dsimp only [go_sem, ↓reduceIte, reduceCtorEq, Nat.reduceEqDiff, Nat.reduceAdd, Nat.reduceLeDiff, Nat.reduceMul, Int.reduceBEq, Int.reduceBNe, Int.reduceLT, Int.reduceLE, Int.reduceGT, Int.reduceGE, e0, e3, e4, e6, e7, e8, e9, e12, e13, e14, t12.r4.cell, run, rud, r7.cell]
          have hsu12 := t12.s u hu4
          refine call_of (c_law1_asked (ht.fr p0 (by omega)) (hxA8 _ p0) (t12.a s hs4) (t12.a u hu4) (t12.d s hs4) (t12.d u hu4) hs12.2.1 hsu12.2.1 hs12.2.2.2 hsu12.2.2.2) ?_
          rintro v h13 ⟨f13, rfl⟩
          have f13_z := f13.size
          replace p0 := p0.fresh f13 (by omega)
          replace r7 := r7.fr f13 (by omega)
          simp -dsimp only [go_sem, ↓reduceIte, reduceCtorEq, Nat.reduceEqDiff, Nat.reduceAdd, Nat.reduceLeDiff, Nat.reduceMul, Int.reduceBEq, Int.reduceBNe, Int.reduceLT, Int.reduceLE, Int.reduceGT, Int.reduceGE, e0, e3, e4, e6, e7, e8, e9, e12, e13, e14, r7.cell]
          simp -dsimp (disch := omega) only [wrap64]
          exact ⟨i + 1, by omega, by simp [Le, find], by omega, p0, by omega, _, _, _, _, _, _, _, _, _, t12.fr f13⟩
        · obtain ⟨g, hg4, eg⟩ := and3 x.to
          have hpp : plo ≤ phi := by obtain ⟨-, _, _, _, _, -, tt⟩ := tp; have := tt.at_; omega
          simp -dsimp only [go_sem, ↓reduceIte, reduceCtorEq, Nat.reduceEqDiff, Nat.reduceAdd, Nat.reduceLeDiff, Nat.reduceMul, Int.reduceBEq, Int.reduceBNe, Int.reduceLT, Int.reduceLE, Int.reduceGT, Int.reduceGE, e0, e3, e4, e6, e7, e8, e9, e12, e13, e14, eg, r7.cell]
          refine Chk_intro (by omega) ?_
          simp -dsimp only [go_sem, ↓reduceIte, reduceCtorEq, Nat.reduceEqDiff, Nat.reduceAdd, Nat.reduceLeDiff, Nat.reduceMul, Int.reduceBEq, Int.reduceBNe, Int.reduceLT, Int.reduceLE, Int.reduceGT, Int.reduceGE, e0, e3, e4, e6, e7, e8, e9, e12, e13, e14, eg, r7.cell]
          refine Chk_intro (t12.r3.wr (by simp [row3]; omega)) fun h13 s13 => ?_
          rw [cl_ptr] at s13
          have s13_z := s13.size
          have kk := t12.k
          have s13.fr_z := s13.fr.size
          replace p0 := p0.fresh s13.fr (by omega)
          replace r7 := r7.fr s13.fr (by omega)
          have r11 := s13.rw r10 (by omega)
          have r4' := s13.rw t12.r4 (by omega)
          simp -dsimp only [go_sem, ↓reduceIte, reduceCtorEq, Nat.reduceEqDiff, Nat.reduceAdd, Nat.reduceLeDiff, Nat.reduceMul, Int.reduceBEq, Int.reduceBNe, Int.reduceLT, Int.reduceLE, Int.reduceGT, Int.reduceGE, e0, e3, e4, e6, e7, e8, e9, e12, e13, e14, eg, r11.cell, r7.cell]
          refine Chk_intro (by omega) ?_
          simp -dsimp only [go_sem, ↓reduceIte, reduceCtorEq, Nat.reduceEqDiff, Nat.reduceAdd, Nat.reduceLeDiff, Nat.reduceMul, Int.reduceBEq, Int.reduceBNe, Int.reduceLT, Int.reduceLE, Int.reduceGT, Int.reduceGE, e0, e3, e4, e6, e7, e8, e9, e12, e13, e14, eg, r11.cell, r7.cell]
          refine Chk_intro (r4'.wr (by simp [row4]; omega)) fun h14 s14 => ?_
          have s14_z := s14.size
          have t14 := t8.put (by omega) hg4 (.inl hg4) f12 tp td k1 k2' (by rcases k3 with k3 | k3; exact .inl ⟨s, hs4, k3⟩; exact .inr k3) hpp s13 s14
          rw [if_neg (by omega)] at t14
          have s14.fr_z := s14.fr.size
          replace p0 := p0.fresh s14.fr (by omega)
          replace r7 := r7.fr s14.fr (by omega)
          simp -dsimp only [go_sem, ↓reduceIte, reduceCtorEq, Nat.reduceEqDiff, Nat.reduceAdd, Nat.reduceLeDiff, Nat.reduceMul, Int.reduceBEq, Int.reduceBNe, Int.reduceLT, Int.reduceLE, Int.reduceGT, Int.reduceGE, e0, e3, e4, e6, e7, e8, e9, e12, e13, e14, r7.cell]
          simp -dsimp (disch := omega) only [wrap64]
          exact ⟨i + 1, by omega, by simp [Le, find], by omega, p0, by omega, _, _, _, _, _, _, _, _, _, t14⟩
    · simp -dsimp only [go_sem, ↓reduceIte, reduceCtorEq, Nat.reduceEqDiff, Nat.reduceAdd, Nat.reduceLeDiff, Nat.reduceMul, Int.reduceBEq, Int.reduceBNe, Int.reduceLT, Int.reduceLE, Int.reduceGT, Int.reduceGE, h1, h2', decide_true, decide_false]
      exact out _ (by simp [Le, find])
  · simp -dsimp only [go_sem, ↓reduceIte, reduceCtorEq, Nat.reduceEqDiff, Nat.reduceAdd, Nat.reduceLeDiff, Nat.reduceMul, Int.reduceBEq, Int.reduceBNe, Int.reduceLT, Int.reduceLE, Int.reduceGT, Int.reduceGE, h1, decide_false]
    exact out _ (by simp [Le, find])
end Go.Proofs.Tst
/-
  Steps of a play that came in.
-/
namespace Go.Proofs.Tst
open Go Go.Vc Go.RowKit Go.ChangeShapes Go.WideShapes Go.ChangeAt Go.Deep
section
variable {H : Type} {enc : TypeId × Value → H} {P : Program}
theorem weightsAll_mem {e : TypeId} {y : Nat} {d : DataW H} : ∀ {ds : List (DataW H)}, d ∈ ds → y ∈ d.weights P e → y ∈ DataW.weightsAll P e ds
  | [], h, _ => by simp at h
  | x :: r, h, hy => by
    rw [DataW.weightsAll, List.mem_append]
    rcases List.mem_cons.1 h with rfl | h
    · exact .inl hy
    · exact .inr (weightsAll_mem h hy)
theorem weightsEach_mem {y : Nat} {d : DataW H} {t : TypeId} : ∀ {k : Nat} {ts : List TypeId} {ds : List (DataW H)}, ts[k]? = some t → ds[k]? = some d → y ∈ d.weights P t → y ∈ DataW.weightsEach P ts ds
  | _, [], _, h, _, _ => by simp at h
  | _, _ :: _, [], _, h, _ => by simp at h
  | 0, _ :: _, _ :: _, h1, h2, hy => by
    simp at h1 h2; subst h1; subst h2
    rw [DataW.weightsEach, List.mem_append]; exact .inl hy
  | k + 1, _ :: _, _ :: _, h1, h2, hy => by
    rw [DataW.weightsEach, List.mem_append]
    exact .inr (weightsEach_mem (by simpa using h1) (by simpa using h2) hy)
variable {w : World} {base : Nat} {held : Bool}
theorem read_pairs {t e : TypeId} {f0 f1 : Field} {v : Value} {fuel : Nat} {x : DataW H × List MemPlace} (ht : P.underlying t = some (.slice e)) (he : P.underlying e = some (.struct #[f0, f1])) (ce : P.cellsOf e = 2) (hby : P.bytesOf e = 16)
    (o0 : f0.offset = 0) (o1 : f1.offset = 1) (c0 : P.cellsOf f0.type = 1) (c1 : P.cellsOf f1.type = 1) (u0 : P.underlying f0.type = some (.int .i64)) (u1 : P.underlying f1.type = some (.int .i64))
    (hf : DataW.trod enc P w base (fun _ => true) held fuel t [v] = some x) (hw : ∀ y ∈ x.1.weights P t, y ≤ reachBytes) :
    ∃ l : List (Int × Int), Rd 2 w.heap v l.length (pairsV l) ∧ l.length ≤ 8796093022208 := by
  rcases open_slice_pairs ht he ce o0 o1 c0 c1 hf with ⟨h1, h2⟩ | ⟨a', len, cap, m, k, V0, V1, D0, D1, P0, P1, h1, _, hlc, _, hm, rfl, hcell⟩
  · cases h1
    exact ⟨[], ⟨rfl, _, _, rfl, .inl rfl⟩, by simp⟩
  · cases h1
    simp only [if_true] at hm
    subst hm
    have hwt := hw _ (by simp only [DataW.weights, ht]; exact List.mem_cons_self ..)
    simp only [List.length_map, List.length_range, hby] at hwt
    unfold reachBytes at hwt
    obtain ⟨Z, hZ⟩ := choose_lt (α := Int × Int) (n := m) (p := fun i z => V0 i = .int .i64 z.1 ∧ V1 i = .int .i64 z.2) (fun i hi => by
      obtain ⟨_, _, g1, g2⟩ := hcell i hi
      obtain ⟨x, hx, _, hxw⟩ := DataW.trod_int u0 g1
      obtain ⟨y, hy, _, hyw⟩ := DataW.trod_int u1 g2
      exact ⟨(x, y), by simpa using hx, by simpa using hy⟩)
    have hl : ((List.range len).map Z).length = len := by simp
    refine ⟨(List.range len).map Z, ?_, by rw [hl]; omega⟩
    rw [hl]
    refine rd_of (by omega) (by simp) fun j hj => ?_
    obtain ⟨i, hij⟩ : ∃ i, j = i * 2 ∨ j = i * 2 + 1 := ⟨j / 2, by omega⟩
    have hi : i < len := by omega
    have hg : ((List.range len).map Z)[i]? = some (Z i) := by simp [hi]
    obtain ⟨g1, g2⟩ := pairsV_get _ _ _ hg
    obtain ⟨h3, h4, _, _⟩ := hcell i (by omega)
    obtain ⟨h5, h6⟩ := hZ i (by omega)
    rcases hij with rfl | rfl
    · exact ⟨_, g1, by rw [h3, h5]⟩
    · exact ⟨_, g2, by rw [h4, h6]⟩
theorem read_bools {t e : TypeId} {v : Value} {fuel : Nat} {x : DataW H × List MemPlace} (ht : P.underlying t = some (.slice e)) (he : P.underlying e = some .bool) (hc : P.cellsOf e = 1) (hby : P.bytesOf e = 1)
    (hf : DataW.trod enc P w base (fun _ => true) held fuel t [v] = some x) (hw : ∀ y ∈ x.1.weights P t, y ≤ reachBytes) :
    ∃ l : List Bool, Rd 1 w.heap v l.length (boolsV l) ∧ l.length ≤ 140737488355328 := by
  rcases open_bools ht he hc hf with ⟨h1, h2⟩ | ⟨a', len, cap, B, h1, _, hlc, _, rfl, hcell⟩
  · cases h1
    exact ⟨[], ⟨rfl, _, _, rfl, .inl rfl⟩, by simp⟩
  · cases h1
    have hwt := hw ((len + (cap - len)) * 1) (by simp only [DataW.weights, boolRow, ht]; exact List.mem_cons.2 (.inl (by simp [hby])))
    have e2 : reachBytes = 140737488351232 := by decide
    rw [e2] at hwt
    have hl : ((List.range len).map B).length = len := by simp
    refine ⟨(List.range len).map B, ?_, by rw [hl]; omega⟩
    rw [hl]
    refine rd_of (by omega) (by simp) fun j hj => ?_
    have hj' : j < len := by omega
    have hg : ((List.range len).map B)[j]? = some (B j) := by simp [hj']
    exact ⟨_, boolsV_get hg, hcell j (by omega)⟩
theorem cells_len : ∀ l : List Stp, (l.flatMap Stp.cells).length = l.length * 10
  | [] => rfl
  | x :: l => by
    rw [List.flatMap_cons, List.length_append, cells_len l, List.length_cons, Nat.add_mul, Nat.one_mul, Nat.add_comm]; rfl
theorem arg_steps {r : Reach} {b0 : Nat} {t e ti tb tps tp tbs : TypeId} {f0 f1 f2 f3 f4 f5 f6 f7 f8 f9 g0 g1 : Field} {by_ : Nat} {v : Value} {d : DataW H} {ps : List MemPlace} (ht : P.underlying t = some (.slice e)) (he : P.underlying e = some (.struct #[f0, f1, f2, f3, f4, f5, f6, f7, f8, f9])) (ce : P.cellsOf e = 10) (hby : P.bytesOf e = by_) (hb0 : 1 ≤ by_)
    (hO : f0.offset = 0 ∧ f1.offset = 1 ∧ f2.offset = 2 ∧ f3.offset = 3 ∧ f4.offset = 4 ∧ f5.offset = 5 ∧ f6.offset = 6 ∧ f7.offset = 7 ∧ f8.offset = 8 ∧ f9.offset = 9)
    (hT : f0.type = ti ∧ f1.type = ti ∧ f2.type = ti ∧ f3.type = ti ∧ f4.type = ti ∧ f5.type = ti ∧ f6.type = tb ∧ f7.type = tps ∧ f8.type = tbs ∧ f9.type = tbs)
    (ci : P.cellsOf ti = 1) (cb : P.cellsOf tb = 1) (cps : P.cellsOf tps = 1) (cbs : P.cellsOf tbs = 1) (ui : P.underlying ti = some (.int .i64)) (ub : P.underlying tb = some .bool) (by1 : P.bytesOf tb = 1)
    (ups : P.underlying tps = some (.slice tp)) (up : P.underlying tp = some (.struct #[g0, g1])) (cp : P.cellsOf tp = 2) (byp : P.bytesOf tp = 16) (hg : g0.offset = 0 ∧ g1.offset = 1 ∧ g0.type = ti ∧ g1.type = ti) (ubs : P.underlying tbs = some (.slice tb))
    (hval : Value.okWide P w r b0 t v) (hd : DataW.Trod enc P w base (fun _ => true) held t v d ps) (hw : ∀ x ∈ d.weights P t, x ≤ reachBytes) :
    ∃ l : List Stp, Rd 10 w.heap v l.length (l.flatMap Stp.cells) ∧ (∀ x ∈ l, x.At w.heap) ∧ l.length ≤ 4611686018427387904 := by
  obtain ⟨a, n, c, rfl⟩ := okWide_slice ht hval
  obtain ⟨fuel, hf⟩ := hd
  rcases open_slice ht hf with ⟨h1, h2⟩ | ⟨a', len, cap, m, k, D, Pl, h1, _, hlc, _, hm, hx, hcell⟩
  · have h1 : [Value.slice a n c] = [.slice none 0 0] := h1
    cases h1
    exact ⟨[], ⟨rfl, _, _, rfl, .inl rfl⟩, by simp, by simp⟩
  · have h1 : [Value.slice a n c] = [.slice (some a') len cap] := h1
    cases h1
    simp only [if_true] at hm
    subst hm
    simp only [Prod.mk.injEq] at hx
    obtain ⟨rfl, rfl⟩ := hx
    have hwt := hw _ (by simp only [DataW.weights, ht]; exact List.mem_cons_self ..)
    simp only [List.length_map, List.length_range, hby] at hwt
    unfold reachBytes at hwt
    have hmul : n * 1 ≤ (n + (m - n)) * by_ := Nat.mul_le_mul (by omega) hb0
    obtain ⟨o0, o1, o2, o3, o4, o5, o6, o7, o8, o9⟩ := hO
    obtain ⟨t0, t1, t2, t3, t4, t5, t6, t7, t8, t9⟩ := hT
    obtain ⟨go0, go1, gt0, gt1⟩ := hg
    obtain ⟨Z, hZ⟩ := choose_lt (α := Stp) (n := n) (p := fun i z => (∀ j, j < 10 → ∃ v, z.cells[j]? = some v ∧ w.cell? (a'.add (i * 10 + j)) = some v) ∧ z.At w.heap) (fun i hi => by
      obtain ⟨cs, hc1, hc2⟩ := hcell i (by omega)
      rw [ce] at hc1
      obtain ⟨_, hlen, hcs⟩ := World.cells?_some hc1
      obtain ⟨xs, k', hk, hxy, _, hxl, hfld⟩ := DataW.trod_struct he hc2
      have hDi : D i ∈ (List.range n).map D := List.mem_map.2 ⟨i, List.mem_range.2 hi, rfl⟩
      have hwD : ∀ y ∈ (D i).weights P e, y ≤ reachBytes := fun y hy => hw y (by
        simp only [DataW.weights, ht]
        exact List.mem_cons_of_mem _ (List.mem_append_left _ (weightsAll_mem hDi hy)))
      simp only [Prod.mk.injEq] at hxy
      obtain ⟨hDx, -⟩ := hxy
      match xs, hxl, cs, hlen with
      | [y0, y1, y2, y3, y4, y5, y6, y7, y8, y9], _, [v0, v1, v2, v3, v4, v5, v6, v7, v8, v9], _ =>
        have q0 := hfld 0 f0 rfl
        have q1 := hfld 1 f1 rfl
        have q2 := hfld 2 f2 rfl
        have q3 := hfld 3 f3 rfl
        have q4 := hfld 4 f4 rfl
        have q5 := hfld 5 f5 rfl
        have q6 := hfld 6 f6 rfl
        have q7 := hfld 7 f7 rfl
        have q8 := hfld 8 f8 rfl
        have q9 := hfld 9 f9 rfl
        simp [o0, o1, o2, o3, o4, o5, o6, o7, o8, o9, t0, t1, t2, t3, t4, t5, t6, t7, t8, t9, ci, cb, cps, cbs] at q0 q1 q2 q3 q4 q5 q6 q7 q8 q9
        obtain ⟨x0, e0, -, -⟩ := DataW.trod_int ui q0
        obtain ⟨x1, e1, -, -⟩ := DataW.trod_int ui q1
        obtain ⟨x2, e2, -, -⟩ := DataW.trod_int ui q2
        obtain ⟨x3, e3, -, -⟩ := DataW.trod_int ui q3
        obtain ⟨x4, e4, -, -⟩ := DataW.trod_int ui q4
        obtain ⟨x5, e5, -, -⟩ := DataW.trod_int ui q5
        obtain ⟨x6, e6, -⟩ := DataW.trod_bool ub q6
        simp only [List.map_cons, List.map_nil] at hDx
        have hw7 : ∀ y ∈ y7.1.weights P tps, y ≤ reachBytes := fun y hy => hwD y (by
          rw [hDx]; simp only [DataW.weights, he]
          exact weightsEach_mem (k := 7) (t := tps) (d := y7.1) (by simp [t7]) rfl hy)
        have hw8 : ∀ y ∈ y8.1.weights P tbs, y ≤ reachBytes := fun y hy => hwD y (by
          rw [hDx]; simp only [DataW.weights, he]
          exact weightsEach_mem (k := 8) (t := tbs) (d := y8.1) (by simp [t8]) rfl hy)
        have hw9 : ∀ y ∈ y9.1.weights P tbs, y ≤ reachBytes := fun y hy => hwD y (by
          rw [hDx]; simp only [DataW.weights, he]
          exact weightsEach_mem (k := 9) (t := tbs) (d := y9.1) (by simp [t9]) rfl hy)
        obtain ⟨l7, r7, b7⟩ := read_pairs ups up cp byp go0 go1 (by rw [gt0]; exact ci) (by rw [gt1]; exact ci) (by rw [gt0]; exact ui) (by rw [gt1]; exact ui) q7 hw7
        obtain ⟨l8, r8, b8⟩ := read_bools ubs ub cb by1 q8 hw8
        obtain ⟨l9, r9, b9⟩ := read_bools ubs ub cb by1 q9 hw9
        simp at e0 e1 e2 e3 e4 e5 e6
        refine ⟨⟨x0, x1, x2, x3, x4, x5, x6, v7, v8, v9, l7, l8, l9⟩, fun j hj => ?_, ⟨r7, r8, r9, b7, Nat.le_trans b8 (by decide), Nat.le_trans b9 (by decide)⟩⟩
        have hj' := hcs j hj
        rw [add_add] at hj'
        have hcl : (Stp.cells ⟨x0, x1, x2, x3, x4, x5, x6, v7, v8, v9, l7, l8, l9⟩) = [v0, v1, v2, v3, v4, v5, v6, v7, v8, v9] := by simp [Stp.cells, e0, e1, e2, e3, e4, e5, e6]
        rw [hcl]
        have hjl : j < [v0, v1, v2, v3, v4, v5, v6, v7, v8, v9].length := hj
        exact ⟨_, List.getElem?_eq_getElem hjl, by rw [hj']; exact List.getElem?_eq_getElem hjl⟩)
    have hl : ((List.range n).map Z).length = n := by simp
    refine ⟨(List.range n).map Z, ?_, fun x hx => ?_, by rw [hl]; omega⟩
    · rw [hl]
      have hfl : (((List.range n).map Z).flatMap Stp.cells).length = n * 10 := by
        rw [cells_len, hl]
      refine rd_of (by omega) hfl fun j hj => ?_
      have hi : j / 10 < n := by omega
      have hg : ((List.range n).map Z)[j / 10]? = some (Z (j / 10)) := by simp [hi]
      obtain ⟨v, h3, h4⟩ := (hZ (j / 10) hi).1 (j % 10) (by omega)
      have hrow := stp_row hg (j % 10) (by omega)
      rw [show j / 10 * 10 + j % 10 = j from by omega] at hrow h4
      exact ⟨v, by rw [hrow]; exact h3, h4⟩
    · obtain ⟨i, hi, rfl⟩ := List.mem_map.1 hx
      exact (hZ i (List.mem_range.1 hi)).2
end
end Go.Proofs.Tst
