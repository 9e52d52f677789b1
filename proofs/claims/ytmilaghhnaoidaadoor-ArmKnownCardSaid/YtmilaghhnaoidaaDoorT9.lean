/-
  Contracts of functions that the law reaches: what each returns and what it leaves in memory. Conditions stand in each.
-/
import Derived.Test.YtmilaghhnaoidaaDoorT8
set_option linter.all false
set_option maxRecDepth 2000
/-
  ArmKnown.
-/
namespace Go.Proofs.Tst
open Go Go.Vc
abbrev k11_1 : Gr := { (pasG 11 13 11) with addr := [(4, 5)] }
theorem k11_1_s : decide ((k11_1.check true).1 = 0 ∧ armAx k11_1 = (2, [2, 3, 4, 5])) = true := by decide +kernel
abbrev k11_2 : Gr := { (pasG 11 13 11) with ctrl := [(4, 5)] }
theorem k11_2_s : decide ((k11_2.check true).1 = 0 ∧ armAx k11_2 = (0, [])) = true := by decide +kernel
abbrev k11_3 : Gr := (twoG 11 [⟨0, 1, 0, 1, 11⟩, ⟨0, 2, 1, 1, 11⟩, ⟨1, 1, 1, 1, 11⟩, ⟨1, 2, 0, 1, 11⟩] [(5, 2), (3, 4)] [5] [3])
theorem k11_3_s : decide ((k11_3.check true).1 = 0 ∧ armAx k11_3 = (0, [])) = true := by decide +kernel
abbrev k11_4 : Gr := { (twoG 11 [⟨0, 1, 0, 1, 11⟩, ⟨0, 2, 1, 1, 11⟩, ⟨1, 1, 1, 1, 11⟩, ⟨1, 2, 0, 1, 11⟩] [(5, 2), (3, 4)] [5] [3]) with data := [(2, 3)] }
theorem k11_4_s : decide ((k11_4.check true).1 = 0 ∧ armAx k11_4 = (0, [])) = true := by decide +kernel
abbrev k11_5 : Gr := (bufG 11 1 1)
theorem k11_5_n : ¬ (k11_5.check true).1 = 0 := by decide +kernel
def kE : List Ev := setMode ({ { (twoG 11 [⟨0, 2, 1, 1, 11⟩, ⟨1, 1, 1, 1, 11⟩, ⟨1, 2, 0, 1, 11⟩, ⟨2, 1, 0, 1, 11⟩, ⟨2, 2, 0, 2, 11⟩, ⟨2, 1, 0, 2, 12⟩, ⟨2, 1, 1, 0, 11⟩] [(2, 3), (4, 5), (6, 7), (1, 8)] [4, 6] [2]) with data := [(3, 4)] } with rmw := [(5, 6)] }).evs 7 16
theorem kE_len : kE.length = 9 := by decide +kernel
abbrev k11_6 : Gr := (bufG 11 13 16)
theorem k11_6_s : decide ((k11_6.check true).1 = 0 ∧ armAx k11_6 = (0, [])) = true := by decide +kernel
abbrev k11_7 : Gr := (pasG 11 13 16)
theorem k11_7_s : decide ((k11_7.check true).1 = 0 ∧ armAx k11_7 = (2, [2, 3, 4, 5])) = true := by decide +kernel
abbrev k11_8 : Gr := { { { (twoG 11 [⟨0, 2, 1, 1, 11⟩, ⟨1, 1, 1, 1, 11⟩, ⟨1, 2, 0, 1, 11⟩, ⟨2, 1, 0, 1, 11⟩, ⟨2, 2, 0, 2, 11⟩, ⟨2, 1, 0, 2, 12⟩, ⟨2, 1, 1, 0, 11⟩] [(2, 3), (4, 5), (6, 7), (1, 8)] [4, 6] [2]) with data := [(3, 4)] } with rmw := [(5, 6)] } with evs := kE }
theorem k11_8_s : decide ((k11_8.check true).1 = 0 ∧ armAx k11_8 = (2, [2, 3, 4, 6, 7, 8])) = true := by decide +kernel
abbrev k11_9 : Gr := { { (twoG 11 [⟨0, 1, 0, 1, 11⟩, ⟨0, 2, 1, 1, 11⟩, ⟨1, 1, 1, 1, 11⟩, ⟨1, 2, 0, 1, 11⟩] [(5, 2), (3, 4)] [5] [3]) with data := [] } with ctrl := [(2, 3), (4, 5)] }
theorem k11_9_s : decide ((k11_9.check true).1 = 0 ∧ armAx k11_9 = (2, [2, 3, 4, 5])) = true := by decide +kernel
abbrev k11_10 : Gr := (twoG 11 [⟨0, 2, 0, 1, 11⟩, ⟨1, 1, 0, 1, 11⟩, ⟨1, 1, 0, 0, 11⟩] [(2, 3), (0, 4)] [2] [])
theorem k11_10_s : decide ((k11_10.check true).1 = 0 ∧ armAx k11_10 = (1, [2, 3, 4])) = true := by decide +kernel
abbrev k11_11 : Gr := { (twoG 11 [⟨0, 1, 0, 0, 11⟩, ⟨0, 2, 0, 1, 11⟩, ⟨1, 2, 0, 2, 11⟩] [(0, 2)] [4, 3] []) with rmw := [(2, 3)] }
theorem k11_11_s : decide ((k11_11.check true).1 = 0 ∧ armAx k11_11 = (3, [2, 3])) = true := by decide +kernel
abbrev k11_12 : Gr := (twoG 11 [⟨0, 2, 1, 1, 11⟩, ⟨0, 2, 0, 1, 13⟩, ⟨0, 2, 0, 2, 11⟩, ⟨1, 1, 0, 2, 12⟩, ⟨1, 1, 1, 0, 11⟩] [(4, 5), (1, 6)] [3, 4] [2])
theorem k11_12_s : decide ((k11_12.check true).1 = 0 ∧ armAx k11_12 = (2, [2, 4, 5, 6])) = true := by decide +kernel
abbrev k11_13 : Gr := { { (twoG 11 [⟨0, 2, 1, 1, 11⟩, ⟨1, 1, 1, 1, 11⟩, ⟨1, 2, 0, 1, 11⟩, ⟨2, 1, 0, 1, 11⟩, ⟨2, 2, 0, 2, 11⟩, ⟨2, 1, 0, 2, 12⟩, ⟨2, 1, 1, 0, 11⟩] [(2, 3), (4, 5), (6, 7), (1, 8)] [4, 6] [2]) with data := [(3, 4)] } with rmw := [(5, 6)] }
theorem k11_13_s : decide ((k11_13.check true).1 = 0 ∧ armAx k11_13 = (2, [2, 3, 4, 6, 7, 8])) = true := by decide +kernel
set_option maxHeartbeats 8000000 in
theorem c_law11_ArmKnown {h : Heap} (ht : TabAt h) : Con Tryd.prog 8 #[] h fun v h' => Fr 0 0 h h' ∧ v = .bool true := by
  refine con_law11_ArmKnown ?_
  have hz : 0 < h.size := hcell_lt (ht 0 0 rfl)
  have p0 : Fr 0 0 h h := .refl _ _ _
  simp -dsimp only [go_sem]
  refine call_of (law11_lives (ht.fr p0 (.inr rfl))) ?_
  rintro v1 h1 ⟨f1, rfl⟩
  have f1_z := f1.size
  replace p0 := p0.fresh f1 (by omega)
  simp -dsimp only [go_sem]
  have g_1 : h.size ≤ h1.size := by omega
  clear f1_z
  refine call_of (c_law11_passing 13 11) ?_
  rintro v2 h2 ⟨f2, q2, rfl, t2⟩
  have f2_z := f2.size
  replace p0 := p0.fresh f2 (by omega)
  have p2 : Fr 0 0 h2 h2 := .refl _ _ _
  unfold gcells
  simp -dsimp only [go_sem]
  intro b3 h3 n3
  have n3_a := n3.at_
  have n3_z := n3.size
  replace p0 := p0.fresh (n3.fr (lo := 0) (hi := 0)) (by omega)
  replace p2 := p2.fresh (n3.fr (lo := 0) (hi := 0)) (by omega)
  have r3 := n3.row
  simp -dsimp only [go_sem, r3.cell]
  refine Chk_intro (r3.wr (by first | (simp; done) | (simp; omega))) fun h4 s4 => ?_
  have s4_z := s4.size
  replace p0 := p0.fresh s4.fr (by omega)
  replace p2 := p2.fresh s4.fr (by omega)
  replace r3 := s4.row r3
  try simp only [cl_int, cl_bool, cl_slice, cl_ptr, putAt_one, List.set_cons_zero, List.set_cons_succ, ivec_set, brow_upd] at r3
  try simp -dsimp only [go_sem] at r3
  simp -dsimp only [go_sem, r3.cell]
  have g_2 : h.size ≤ h2.size ∧ h2.size ≤ b3 ∧ b3 < h4.size := by omega
  clear f2_z n3_a n3_z s4_z g_1
  intro b5 h5 n5
  have n5_a := n5.at_
  have n5_z := n5.size
  replace p0 := p0.fresh (n5.fr (lo := 0) (hi := 0)) (by omega)
  replace p2 := p2.fresh (n5.fr (lo := 0) (hi := 0)) (by omega)
  replace r3 := r3.fr (n5.fr (lo := 0) (hi := 0)) (by omega)
  have r5 := n5.row
  replace r5 : Rw h5 b5 (pairsV [(4, 5)]) := r5
  simp -dsimp only [go_sem, r3.cell, r5.cell]
  refine Chk_intro (r3.wr (by first | (simp; done) | (simp; omega))) fun h6 s6 => ?_
  have s6_z := s6.size
  replace p0 := p0.fresh s6.fr (by omega)
  replace p2 := p2.fresh s6.fr (by omega)
  replace r5 := r5.fr s6.fr (by omega)
  replace r3 := s6.row r3
  try simp only [cl_int, cl_bool, cl_slice, cl_ptr, putAt_one, List.set_cons_zero, List.set_cons_succ, ivec_set, brow_upd] at r3
  try simp -dsimp only [go_sem] at r3
  simp -dsimp only [go_sem, r3.cell, r5.cell]
  have g_3 : h.size ≤ h2.size ∧ h2.size ≤ b3 ∧ b3 < b5 ∧ b5 < h6.size := by omega
  clear n5_a n5_z s6_z g_2
  refine call_of (c_law11_passing 13 11) ?_
  rintro v7 h7 ⟨f7, q7, rfl, t7⟩
  have f7_z := f7.size
  replace p0 := p0.fresh f7 (by omega)
  replace p2 := p2.fresh f7 (by omega)
  replace r3 := r3.fr f7 (by omega)
  replace r5 := r5.fr f7 (by omega)
  have p7 : Fr 0 0 h7 h7 := .refl _ _ _
  unfold gcells
  simp -dsimp only [go_sem, r3.cell, r5.cell]
  intro b8 h8 n8
  have n8_a := n8.at_
  have n8_z := n8.size
  replace p0 := p0.fresh (n8.fr (lo := 0) (hi := 0)) (by omega)
  replace p2 := p2.fresh (n8.fr (lo := 0) (hi := 0)) (by omega)
  replace r3 := r3.fr (n8.fr (lo := 0) (hi := 0)) (by omega)
  replace r5 := r5.fr (n8.fr (lo := 0) (hi := 0)) (by omega)
  replace p7 := p7.fresh (n8.fr (lo := 0) (hi := 0)) (by omega)
  have r8 := n8.row
  simp -dsimp only [go_sem, r3.cell, r5.cell, r8.cell]
  refine Chk_intro (r8.wr (by first | (simp; done) | (simp; omega))) fun h9 s9 => ?_
  have s9_z := s9.size
  replace p0 := p0.fresh s9.fr (by omega)
  replace p2 := p2.fresh s9.fr (by omega)
  replace r3 := r3.fr s9.fr (by omega)
  replace r5 := r5.fr s9.fr (by omega)
  replace p7 := p7.fresh s9.fr (by omega)
  replace r8 := s9.row r8
  try simp only [cl_int, cl_bool, cl_slice, cl_ptr, putAt_one, List.set_cons_zero, List.set_cons_succ, ivec_set, brow_upd] at r8
  try simp -dsimp only [go_sem] at r8
  simp -dsimp only [go_sem, r3.cell, r5.cell, r8.cell]
  have g_4 : h.size ≤ h2.size ∧ h2.size ≤ b3 ∧ b3 < b5 ∧ b5 < h7.size ∧ h7.size ≤ b8 ∧ b8 < h9.size := by omega
  clear f7_z n8_a n8_z s9_z g_3
  intro b10 h10 n10
  have n10_a := n10.at_
  have n10_z := n10.size
  replace p0 := p0.fresh (n10.fr (lo := 0) (hi := 0)) (by omega)
  replace p2 := p2.fresh (n10.fr (lo := 0) (hi := 0)) (by omega)
  replace r3 := r3.fr (n10.fr (lo := 0) (hi := 0)) (by omega)
  replace r5 := r5.fr (n10.fr (lo := 0) (hi := 0)) (by omega)
  replace p7 := p7.fresh (n10.fr (lo := 0) (hi := 0)) (by omega)
  replace r8 := r8.fr (n10.fr (lo := 0) (hi := 0)) (by omega)
  have r10 := n10.row
  replace r10 : Rw h10 b10 (pairsV [(4, 5)]) := r10
  simp -dsimp only [go_sem, r3.cell, r5.cell, r8.cell, r10.cell]
  refine Chk_intro (r8.wr (by first | (simp; done) | (simp; omega))) fun h11 s11 => ?_
  have s11_z := s11.size
  replace p0 := p0.fresh s11.fr (by omega)
  replace p2 := p2.fresh s11.fr (by omega)
  replace r3 := r3.fr s11.fr (by omega)
  replace r5 := r5.fr s11.fr (by omega)
  replace p7 := p7.fresh s11.fr (by omega)
  replace r10 := r10.fr s11.fr (by omega)
  replace r8 := s11.row r8
  try simp only [cl_int, cl_bool, cl_slice, cl_ptr, putAt_one, List.set_cons_zero, List.set_cons_succ, ivec_set, brow_upd] at r8
  try simp -dsimp only [go_sem] at r8
  simp -dsimp only [go_sem, r3.cell, r5.cell, r8.cell, r10.cell]
  have g_5 : h.size ≤ h2.size ∧ h2.size ≤ b3 ∧ b3 < b5 ∧ b5 < h7.size ∧ h7.size ≤ b8 ∧ b8 < b10 ∧ b10 < h11.size := by omega
  clear n10_a n10_z s11_z g_4
  refine call_of (c_law11_ev (0) (1) (0) (1) (11)) ?_
  rintro v12 h12 ⟨f12, rfl⟩
  have f12_z := f12.size
  replace p0 := p0.fresh f12 (by omega)
  replace p2 := p2.fresh f12 (by omega)
  replace r3 := r3.fr f12 (by omega)
  replace r5 := r5.fr f12 (by omega)
  replace p7 := p7.fresh f12 (by omega)
  replace r8 := r8.fr f12 (by omega)
  replace r10 := r10.fr f12 (by omega)
  simp -dsimp only [go_sem, r3.cell, r5.cell, r8.cell, r10.cell]
  refine call_of (c_law11_ev (0) (2) (1) (1) (11)) ?_
  rintro v13 h13 ⟨f13, rfl⟩
  have f13_z := f13.size
  replace p0 := p0.fresh f13 (by omega)
  replace p2 := p2.fresh f13 (by omega)
  replace r3 := r3.fr f13 (by omega)
  replace r5 := r5.fr f13 (by omega)
  replace p7 := p7.fresh f13 (by omega)
  replace r8 := r8.fr f13 (by omega)
  replace r10 := r10.fr f13 (by omega)
  simp -dsimp only [go_sem, r3.cell, r5.cell, r8.cell, r10.cell]
  refine call_of (c_law11_ev (1) (1) (1) (1) (11)) ?_
  rintro v14 h14 ⟨f14, rfl⟩
  have f14_z := f14.size
  replace p0 := p0.fresh f14 (by omega)
  replace p2 := p2.fresh f14 (by omega)
  replace r3 := r3.fr f14 (by omega)
  replace r5 := r5.fr f14 (by omega)
  replace p7 := p7.fresh f14 (by omega)
  replace r8 := r8.fr f14 (by omega)
  replace r10 := r10.fr f14 (by omega)
  simp -dsimp only [go_sem, r3.cell, r5.cell, r8.cell, r10.cell]
  refine call_of (c_law11_ev (1) (2) (0) (1) (11)) ?_
  rintro v15 h15 ⟨f15, rfl⟩
  have f15_z := f15.size
  replace p0 := p0.fresh f15 (by omega)
  replace p2 := p2.fresh f15 (by omega)
  replace r3 := r3.fr f15 (by omega)
  replace r5 := r5.fr f15 (by omega)
  replace p7 := p7.fresh f15 (by omega)
  replace r8 := r8.fr f15 (by omega)
  replace r10 := r10.fr f15 (by omega)
  simp -dsimp only [go_sem, r3.cell, r5.cell, r8.cell, r10.cell]
  intro b16 h16 n16
  have n16_a := n16.at_
  have n16_z := n16.size
  replace p0 := p0.fresh (n16.fr (lo := 0) (hi := 0)) (by omega)
  replace p2 := p2.fresh (n16.fr (lo := 0) (hi := 0)) (by omega)
  replace r3 := r3.fr (n16.fr (lo := 0) (hi := 0)) (by omega)
  replace r5 := r5.fr (n16.fr (lo := 0) (hi := 0)) (by omega)
  replace p7 := p7.fresh (n16.fr (lo := 0) (hi := 0)) (by omega)
  replace r8 := r8.fr (n16.fr (lo := 0) (hi := 0)) (by omega)
  replace r10 := r10.fr (n16.fr (lo := 0) (hi := 0)) (by omega)
  have r16 := n16.row
  replace r16 : Rw h16 b16 (evsV [⟨0, 1, 0, 1, 11⟩, ⟨0, 2, 1, 1, 11⟩, ⟨1, 1, 1, 1, 11⟩, ⟨1, 2, 0, 1, 11⟩]) := r16
  simp -dsimp only [go_sem, r3.cell, r5.cell, r8.cell, r10.cell, r16.cell]
  intro b17 h17 n17
  have n17_a := n17.at_
  have n17_z := n17.size
  replace p0 := p0.fresh (n17.fr (lo := 0) (hi := 0)) (by omega)
  replace p2 := p2.fresh (n17.fr (lo := 0) (hi := 0)) (by omega)
  replace r3 := r3.fr (n17.fr (lo := 0) (hi := 0)) (by omega)
  replace r5 := r5.fr (n17.fr (lo := 0) (hi := 0)) (by omega)
  replace p7 := p7.fresh (n17.fr (lo := 0) (hi := 0)) (by omega)
  replace r8 := r8.fr (n17.fr (lo := 0) (hi := 0)) (by omega)
  replace r10 := r10.fr (n17.fr (lo := 0) (hi := 0)) (by omega)
  replace r16 := r16.fr (n17.fr (lo := 0) (hi := 0)) (by omega)
  have r17 := n17.row
  replace r17 : Rw h17 b17 (pairsV [(5, 2), (3, 4)]) := r17
  simp -dsimp only [go_sem, r3.cell, r5.cell, r8.cell, r10.cell, r16.cell, r17.cell]
  intro b18 h18 n18
  have n18_a := n18.at_
  have n18_z := n18.size
  replace p0 := p0.fresh (n18.fr (lo := 0) (hi := 0)) (by omega)
  replace p2 := p2.fresh (n18.fr (lo := 0) (hi := 0)) (by omega)
  replace r3 := r3.fr (n18.fr (lo := 0) (hi := 0)) (by omega)
  replace r5 := r5.fr (n18.fr (lo := 0) (hi := 0)) (by omega)
  replace p7 := p7.fresh (n18.fr (lo := 0) (hi := 0)) (by omega)
  replace r8 := r8.fr (n18.fr (lo := 0) (hi := 0)) (by omega)
  replace r10 := r10.fr (n18.fr (lo := 0) (hi := 0)) (by omega)
  replace r16 := r16.fr (n18.fr (lo := 0) (hi := 0)) (by omega)
  replace r17 := r17.fr (n18.fr (lo := 0) (hi := 0)) (by omega)
  have r18 := n18.row
  replace r18 : Rw h18 b18 (intsV [5]) := r18
  simp -dsimp only [go_sem, r3.cell, r5.cell, r8.cell, r10.cell, r16.cell, r17.cell, r18.cell]
  intro b19 h19 n19
  have n19_a := n19.at_
  have n19_z := n19.size
  replace p0 := p0.fresh (n19.fr (lo := 0) (hi := 0)) (by omega)
  replace p2 := p2.fresh (n19.fr (lo := 0) (hi := 0)) (by omega)
  replace r3 := r3.fr (n19.fr (lo := 0) (hi := 0)) (by omega)
  replace r5 := r5.fr (n19.fr (lo := 0) (hi := 0)) (by omega)
  replace p7 := p7.fresh (n19.fr (lo := 0) (hi := 0)) (by omega)
  replace r8 := r8.fr (n19.fr (lo := 0) (hi := 0)) (by omega)
  replace r10 := r10.fr (n19.fr (lo := 0) (hi := 0)) (by omega)
  replace r16 := r16.fr (n19.fr (lo := 0) (hi := 0)) (by omega)
  replace r17 := r17.fr (n19.fr (lo := 0) (hi := 0)) (by omega)
  replace r18 := r18.fr (n19.fr (lo := 0) (hi := 0)) (by omega)
  have r19 := n19.row
  replace r19 : Rw h19 b19 (intsV [3]) := r19
  simp -dsimp only [go_sem, r3.cell, r5.cell, r8.cell, r10.cell, r16.cell, r17.cell, r18.cell, r19.cell]
  refine call_of (c_law11_two (E := [⟨0, 1, 0, 1, 11⟩, ⟨0, 2, 1, 1, 11⟩, ⟨1, 1, 1, 1, 11⟩, ⟨1, 2, 0, 1, 11⟩]) (rf := [(5, 2), (3, 4)]) (x := [5]) (y := [3]) (lo := 0) (Nat.zero_le _) (Rw.rd (s := 5) (n := 4) (c := 4) r16 rfl) (fun h' f => Rw.rd (s := 2) (n := 2) (c := 2) (r17.fr f (by omega)) rfl) (Rw.rd (s := 1) (n := 1) (c := 1) r18 rfl) (Rw.rd (s := 1) (n := 1) (c := 1) r19 rfl) (by simp) (by simp) (by simp) (by simp)) ?_
  rintro v20 h20 ⟨f20, q20, rfl, t20⟩
  have f20_z := f20.size
  replace p0 := p0.fresh f20 (by omega)
  replace p2 := p2.fresh f20 (by omega)
  replace r3 := r3.fr f20 (by omega)
  replace r5 := r5.fr f20 (by omega)
  replace p7 := p7.fresh f20 (by omega)
  replace r8 := r8.fr f20 (by omega)
  replace r10 := r10.fr f20 (by omega)
  replace r16 := r16.fr f20 (by omega)
  replace r17 := r17.fr f20 (by omega)
  replace r18 := r18.fr f20 (by omega)
  replace r19 := r19.fr f20 (by omega)
  clear r16 r17 r18 r19
  replace t20 := t20 _ (.refl _ _ _)
  have p20 : Fr 0 0 h20 h20 := .refl _ _ _
  unfold gcells
  simp -dsimp only [go_sem, r3.cell, r5.cell, r8.cell, r10.cell]
  intro b21 h21 n21
  have n21_a := n21.at_
  have n21_z := n21.size
  replace p0 := p0.fresh (n21.fr (lo := 0) (hi := 0)) (by omega)
  replace p2 := p2.fresh (n21.fr (lo := 0) (hi := 0)) (by omega)
  replace r3 := r3.fr (n21.fr (lo := 0) (hi := 0)) (by omega)
  replace r5 := r5.fr (n21.fr (lo := 0) (hi := 0)) (by omega)
  replace p7 := p7.fresh (n21.fr (lo := 0) (hi := 0)) (by omega)
  replace r8 := r8.fr (n21.fr (lo := 0) (hi := 0)) (by omega)
  replace r10 := r10.fr (n21.fr (lo := 0) (hi := 0)) (by omega)
  replace p20 := p20.fresh (n21.fr (lo := 0) (hi := 0)) (by omega)
  have r21 := n21.row
  simp -dsimp only [go_sem, r3.cell, r5.cell, r8.cell, r10.cell, r21.cell]
  refine Chk_intro (r21.wr (by first | (simp; done) | (simp; omega))) fun h22 s22 => ?_
  have s22_z := s22.size
  replace p0 := p0.fresh s22.fr (by omega)
  replace p2 := p2.fresh s22.fr (by omega)
  replace r3 := r3.fr s22.fr (by omega)
  replace r5 := r5.fr s22.fr (by omega)
  replace p7 := p7.fresh s22.fr (by omega)
  replace r8 := r8.fr s22.fr (by omega)
  replace r10 := r10.fr s22.fr (by omega)
  replace p20 := p20.fresh s22.fr (by omega)
  replace r21 := s22.row r21
  try simp only [cl_int, cl_bool, cl_slice, cl_ptr, putAt_one, List.set_cons_zero, List.set_cons_succ, ivec_set, brow_upd] at r21
  try simp -dsimp only [go_sem] at r21
  simp -dsimp only [go_sem, r3.cell, r5.cell, r8.cell, r10.cell, r21.cell]
  have g_6 : h.size ≤ h2.size ∧ h2.size ≤ b3 ∧ b3 < b5 ∧ b5 < h7.size ∧ h7.size ≤ b8 ∧ b8 < b10 ∧ b10 < h20.size ∧ h20.size ≤ b21 ∧ b21 < h22.size := by omega
  clear f12_z f13_z f14_z f15_z n16_a n16_z n17_a n17_z n18_a n18_z n19_a n19_z f20_z n21_a n21_z s22_z g_5
  intro b23 h23 n23
  have n23_a := n23.at_
  have n23_z := n23.size
  replace p0 := p0.fresh (n23.fr (lo := 0) (hi := 0)) (by omega)
  replace p2 := p2.fresh (n23.fr (lo := 0) (hi := 0)) (by omega)
  replace r3 := r3.fr (n23.fr (lo := 0) (hi := 0)) (by omega)
  replace r5 := r5.fr (n23.fr (lo := 0) (hi := 0)) (by omega)
  replace p7 := p7.fresh (n23.fr (lo := 0) (hi := 0)) (by omega)
  replace r8 := r8.fr (n23.fr (lo := 0) (hi := 0)) (by omega)
  replace r10 := r10.fr (n23.fr (lo := 0) (hi := 0)) (by omega)
  replace p20 := p20.fresh (n23.fr (lo := 0) (hi := 0)) (by omega)
  replace r21 := r21.fr (n23.fr (lo := 0) (hi := 0)) (by omega)
  have r23 := n23.row
  replace r23 : Rw h23 b23 (intsV [2, 3, 4, 5]) := r23
  simp -dsimp only [go_sem, r3.cell, r5.cell, r8.cell, r10.cell, r21.cell, r23.cell]
  refine call_of (c_law11_says (g := k11_1) (GrAt.setA (t2.fr p2) (Rw.rd (s := 2) (n := 1) (c := 1) r5 rfl) (by decide)) (ht.fr p0 (.inr rfl)) (l := [2, 3, 4, 5]) (Rw.rd (s := 1) (n := 4) (c := 4) r23 rfl) 2) ?_
  rintro v24 h24 ⟨f24, rfl⟩
  have f24_z := f24.size
  replace p0 := p0.fresh f24 (by omega)
  replace p2 := p2.fresh f24 (by omega)
  replace r3 := r3.fr f24 (by omega)
  replace r5 := r5.fr f24 (by omega)
  replace p7 := p7.fresh f24 (by omega)
  replace r8 := r8.fr f24 (by omega)
  replace r10 := r10.fr f24 (by omega)
  replace p20 := p20.fresh f24 (by omega)
  replace r21 := r21.fr f24 (by omega)
  replace r23 := r23.fr f24 (by omega)
  rw [k11_1_s]
  simp -dsimp only [go_sem, r3.cell, r5.cell, r8.cell, r10.cell, r21.cell, r23.cell]
  clear r23
  refine call_of (c_law11_says (g := k11_2) (GrAt.setC (t7.fr p7) (Rw.rd (s := 2) (n := 1) (c := 1) r10 rfl) (by decide)) (ht.fr p0 (.inr rfl)) (l := []) nilI 0) ?_
  rintro v25 h25 ⟨f25, rfl⟩
  have f25_z := f25.size
  replace p0 := p0.fresh f25 (by omega)
  replace p2 := p2.fresh f25 (by omega)
  replace r3 := r3.fr f25 (by omega)
  replace r5 := r5.fr f25 (by omega)
  replace p7 := p7.fresh f25 (by omega)
  replace r8 := r8.fr f25 (by omega)
  replace r10 := r10.fr f25 (by omega)
  replace p20 := p20.fresh f25 (by omega)
  replace r21 := r21.fr f25 (by omega)
  rw [k11_2_s]
  simp -dsimp only [go_sem, r3.cell, r5.cell, r8.cell, r10.cell, r21.cell]
  refine call_of (c_law11_says (g := k11_3) (t20.fr p20) (ht.fr p0 (.inr rfl)) (l := []) nilI 0) ?_
  rintro v26 h26 ⟨f26, rfl⟩
  have f26_z := f26.size
  replace p0 := p0.fresh f26 (by omega)
  replace p2 := p2.fresh f26 (by omega)
  replace r3 := r3.fr f26 (by omega)
  replace r5 := r5.fr f26 (by omega)
  replace p7 := p7.fresh f26 (by omega)
  replace r8 := r8.fr f26 (by omega)
  replace r10 := r10.fr f26 (by omega)
  replace p20 := p20.fresh f26 (by omega)
  replace r21 := r21.fr f26 (by omega)
  rw [k11_3_s]
  simp -dsimp only [go_sem, r3.cell, r5.cell, r8.cell, r10.cell, r21.cell]
  clear r3 p2 r5
  clear r8 p7 r10
  have g_7 : h.size ≤ h20.size ∧ h20.size ≤ b21 ∧ b21 < h26.size := by omega
  clear n23_a n23_z f24_z f25_z f26_z g_6
  intro b27 h27 n27
  have n27_a := n27.at_
  have n27_z := n27.size
  replace p0 := p0.fresh (n27.fr (lo := 0) (hi := 0)) (by omega)
  replace p20 := p20.fresh (n27.fr (lo := 0) (hi := 0)) (by omega)
  replace r21 := r21.fr (n27.fr (lo := 0) (hi := 0)) (by omega)
  have r27 := n27.row
  replace r27 : Rw h27 b27 (pairsV [(2, 3)]) := r27
  simp -dsimp only [go_sem, r21.cell, r27.cell]
  refine Chk_intro (r21.wr (by first | (simp; done) | (simp; omega))) fun h28 s28 => ?_
  have s28_z := s28.size
  replace p0 := p0.fresh s28.fr (by omega)
  replace p20 := p20.fresh s28.fr (by omega)
  replace r27 := r27.fr s28.fr (by omega)
  replace r21 := s28.row r21
  try simp only [cl_int, cl_bool, cl_slice, cl_ptr, putAt_one, List.set_cons_zero, List.set_cons_succ, ivec_set, brow_upd] at r21
  try simp -dsimp only [go_sem] at r21
  simp -dsimp only [go_sem, r21.cell, r27.cell]
  have g_8 : h.size ≤ h20.size ∧ h20.size ≤ b21 ∧ b21 < b27 ∧ b27 < h28.size := by omega
  clear n27_a n27_z s28_z g_7
  refine call_of (c_law11_says (g := k11_4) (GrAt.setD (t20.fr p20) (Rw.rd (s := 2) (n := 1) (c := 1) r27 rfl) (by decide)) (ht.fr p0 (.inr rfl)) (l := []) nilI 0) ?_
  rintro v29 h29 ⟨f29, rfl⟩
  have f29_z := f29.size
  replace p0 := p0.fresh f29 (by omega)
  replace p20 := p20.fresh f29 (by omega)
  replace r21 := r21.fr f29 (by omega)
  replace r27 := r27.fr f29 (by omega)
  rw [k11_4_s]
  simp -dsimp only [go_sem, r21.cell, r27.cell]
  have g_9 : h.size ≤ h20.size ∧ h20.size ≤ b21 ∧ b21 < b27 ∧ b27 < h29.size := by omega
  clear f29_z g_8
  refine Chk_intro (r21.wr (by first | (simp; done) | (simp; omega))) fun h30 s30 => ?_
  have s30_z := s30.size
  replace p0 := p0.fresh s30.fr (by omega)
  replace p20 := p20.fresh s30.fr (by omega)
  replace r27 := r27.fr s30.fr (by omega)
  replace r21 := s30.row r21
  try simp only [cl_int, cl_bool, cl_slice, cl_ptr, putAt_one, List.set_cons_zero, List.set_cons_succ, ivec_set, brow_upd] at r21
  try simp -dsimp only [go_sem] at r21
  simp -dsimp only [go_sem, r21.cell, r27.cell]
  have g_10 : h.size ≤ h20.size ∧ h20.size ≤ b21 ∧ b21 < b27 ∧ b27 < h30.size := by omega
  clear s30_z g_9
  intro b31 h31 n31
  have n31_a := n31.at_
  have n31_z := n31.size
  replace p0 := p0.fresh (n31.fr (lo := 0) (hi := 0)) (by omega)
  replace p20 := p20.fresh (n31.fr (lo := 0) (hi := 0)) (by omega)
  replace r21 := r21.fr (n31.fr (lo := 0) (hi := 0)) (by omega)
  replace r27 := r27.fr (n31.fr (lo := 0) (hi := 0)) (by omega)
  have r31 := n31.row
  replace r31 : Rw h31 b31 (pairsV [(2, 3), (4, 5)]) := r31
  simp -dsimp only [go_sem, r21.cell, r27.cell, r31.cell]
  refine Chk_intro (r21.wr (by first | (simp; done) | (simp; omega))) fun h32 s32 => ?_
  have s32_z := s32.size
  replace p0 := p0.fresh s32.fr (by omega)
  replace p20 := p20.fresh s32.fr (by omega)
  replace r27 := r27.fr s32.fr (by omega)
  replace r31 := r31.fr s32.fr (by omega)
  replace r21 := s32.row r21
  try simp only [cl_int, cl_bool, cl_slice, cl_ptr, putAt_one, List.set_cons_zero, List.set_cons_succ, ivec_set, brow_upd] at r21
  try simp -dsimp only [go_sem] at r21
  simp -dsimp only [go_sem, r21.cell, r27.cell, r31.cell]
  have g_11 : h.size ≤ h20.size ∧ h20.size ≤ b21 ∧ b21 < b27 ∧ b27 < b31 ∧ b31 < h32.size := by omega
  clear n31_a n31_z s32_z g_10
  refine call_of (c_law11_ev (0) (2) (0) (1) (11)) ?_
  rintro v33 h33 ⟨f33, rfl⟩
  have f33_z := f33.size
  replace p0 := p0.fresh f33 (by omega)
  replace p20 := p20.fresh f33 (by omega)
  replace r21 := r21.fr f33 (by omega)
  replace r27 := r27.fr f33 (by omega)
  replace r31 := r31.fr f33 (by omega)
  simp -dsimp only [go_sem, r21.cell, r27.cell, r31.cell]
  refine call_of (c_law11_ev (1) (1) (0) (1) (11)) ?_
  rintro v34 h34 ⟨f34, rfl⟩
  have f34_z := f34.size
  replace p0 := p0.fresh f34 (by omega)
  replace p20 := p20.fresh f34 (by omega)
  replace r21 := r21.fr f34 (by omega)
  replace r27 := r27.fr f34 (by omega)
  replace r31 := r31.fr f34 (by omega)
  simp -dsimp only [go_sem, r21.cell, r27.cell, r31.cell]
  refine call_of (c_law11_ev (1) (1) (0) (0) (11)) ?_
  rintro v35 h35 ⟨f35, rfl⟩
  have f35_z := f35.size
  replace p0 := p0.fresh f35 (by omega)
  replace p20 := p20.fresh f35 (by omega)
  replace r21 := r21.fr f35 (by omega)
  replace r27 := r27.fr f35 (by omega)
  replace r31 := r31.fr f35 (by omega)
  simp -dsimp only [go_sem, r21.cell, r27.cell, r31.cell]
  intro b36 h36 n36
  have n36_a := n36.at_
  have n36_z := n36.size
  replace p0 := p0.fresh (n36.fr (lo := 0) (hi := 0)) (by omega)
  replace p20 := p20.fresh (n36.fr (lo := 0) (hi := 0)) (by omega)
  replace r21 := r21.fr (n36.fr (lo := 0) (hi := 0)) (by omega)
  replace r27 := r27.fr (n36.fr (lo := 0) (hi := 0)) (by omega)
  replace r31 := r31.fr (n36.fr (lo := 0) (hi := 0)) (by omega)
  have r36 := n36.row
  replace r36 : Rw h36 b36 (evsV [⟨0, 2, 0, 1, 11⟩, ⟨1, 1, 0, 1, 11⟩, ⟨1, 1, 0, 0, 11⟩]) := r36
  simp -dsimp only [go_sem, r21.cell, r27.cell, r31.cell, r36.cell]
  intro b37 h37 n37
  have n37_a := n37.at_
  have n37_z := n37.size
  replace p0 := p0.fresh (n37.fr (lo := 0) (hi := 0)) (by omega)
  replace p20 := p20.fresh (n37.fr (lo := 0) (hi := 0)) (by omega)
  replace r21 := r21.fr (n37.fr (lo := 0) (hi := 0)) (by omega)
  replace r27 := r27.fr (n37.fr (lo := 0) (hi := 0)) (by omega)
  replace r31 := r31.fr (n37.fr (lo := 0) (hi := 0)) (by omega)
  replace r36 := r36.fr (n37.fr (lo := 0) (hi := 0)) (by omega)
  have r37 := n37.row
  replace r37 : Rw h37 b37 (pairsV [(2, 3), (0, 4)]) := r37
  simp -dsimp only [go_sem, r21.cell, r27.cell, r31.cell, r36.cell, r37.cell]
  intro b38 h38 n38
  have n38_a := n38.at_
  have n38_z := n38.size
  replace p0 := p0.fresh (n38.fr (lo := 0) (hi := 0)) (by omega)
  replace p20 := p20.fresh (n38.fr (lo := 0) (hi := 0)) (by omega)
  replace r21 := r21.fr (n38.fr (lo := 0) (hi := 0)) (by omega)
  replace r27 := r27.fr (n38.fr (lo := 0) (hi := 0)) (by omega)
  replace r31 := r31.fr (n38.fr (lo := 0) (hi := 0)) (by omega)
  replace r36 := r36.fr (n38.fr (lo := 0) (hi := 0)) (by omega)
  replace r37 := r37.fr (n38.fr (lo := 0) (hi := 0)) (by omega)
  have r38 := n38.row
  replace r38 : Rw h38 b38 (intsV [2]) := r38
  simp -dsimp only [go_sem, r21.cell, r27.cell, r31.cell, r36.cell, r37.cell, r38.cell]
  refine call_of (c_law11_two (E := [⟨0, 2, 0, 1, 11⟩, ⟨1, 1, 0, 1, 11⟩, ⟨1, 1, 0, 0, 11⟩]) (rf := [(2, 3), (0, 4)]) (x := [2]) (y := []) (lo := 0) (Nat.zero_le _) (Rw.rd (s := 5) (n := 3) (c := 3) r36 rfl) (fun h' f => Rw.rd (s := 2) (n := 2) (c := 2) (r37.fr f (by omega)) rfl) (Rw.rd (s := 1) (n := 1) (c := 1) r38 rfl) nilI (by simp) (by simp) (by simp) (by simp)) ?_
  rintro v39 h39 ⟨f39, q39, rfl, t39⟩
  have f39_z := f39.size
  replace p0 := p0.fresh f39 (by omega)
  replace p20 := p20.fresh f39 (by omega)
  replace r21 := r21.fr f39 (by omega)
  replace r27 := r27.fr f39 (by omega)
  replace r31 := r31.fr f39 (by omega)
  replace r36 := r36.fr f39 (by omega)
  replace r37 := r37.fr f39 (by omega)
  replace r38 := r38.fr f39 (by omega)
  clear r36 r37 r38
  replace t39 := t39 _ (.refl _ _ _)
  have p39 : Fr 0 0 h39 h39 := .refl _ _ _
  unfold gcells
  simp -dsimp only [go_sem, r21.cell, r27.cell, r31.cell]
  intro b40 h40 n40
  have n40_a := n40.at_
  have n40_z := n40.size
  replace p0 := p0.fresh (n40.fr (lo := 0) (hi := 0)) (by omega)
  replace p20 := p20.fresh (n40.fr (lo := 0) (hi := 0)) (by omega)
  replace r21 := r21.fr (n40.fr (lo := 0) (hi := 0)) (by omega)
  replace r27 := r27.fr (n40.fr (lo := 0) (hi := 0)) (by omega)
  replace r31 := r31.fr (n40.fr (lo := 0) (hi := 0)) (by omega)
  replace p39 := p39.fresh (n40.fr (lo := 0) (hi := 0)) (by omega)
  have r40 := n40.row
  simp -dsimp only [go_sem, r21.cell, r27.cell, r31.cell, r40.cell]
  refine Chk_intro (r40.wr (by first | (simp; done) | (simp; omega))) fun h41 s41 => ?_
  have s41_z := s41.size
  replace p0 := p0.fresh s41.fr (by omega)
  replace p20 := p20.fresh s41.fr (by omega)
  replace r21 := r21.fr s41.fr (by omega)
  replace r27 := r27.fr s41.fr (by omega)
  replace r31 := r31.fr s41.fr (by omega)
  replace p39 := p39.fresh s41.fr (by omega)
  replace r40 := s41.row r40
  try simp only [cl_int, cl_bool, cl_slice, cl_ptr, putAt_one, List.set_cons_zero, List.set_cons_succ, ivec_set, brow_upd] at r40
  try simp -dsimp only [go_sem] at r40
  simp -dsimp only [go_sem, r21.cell, r27.cell, r31.cell, r40.cell]
  have g_12 : h.size ≤ h20.size ∧ h20.size ≤ b21 ∧ b21 < b27 ∧ b27 < b31 ∧ b31 < h39.size ∧ h39.size ≤ b40 ∧ b40 < h41.size := by omega
  clear f33_z f34_z f35_z n36_a n36_z n37_a n37_z n38_a n38_z f39_z n40_a n40_z s41_z g_11
  refine call_of (c_law11_ev (0) (1) (0) (0) (11)) ?_
  rintro v42 h42 ⟨f42, rfl⟩
  have f42_z := f42.size
  replace p0 := p0.fresh f42 (by omega)
  replace p20 := p20.fresh f42 (by omega)
  replace r21 := r21.fr f42 (by omega)
  replace r27 := r27.fr f42 (by omega)
  replace r31 := r31.fr f42 (by omega)
  replace p39 := p39.fresh f42 (by omega)
  replace r40 := r40.fr f42 (by omega)
  simp -dsimp only [go_sem, r21.cell, r27.cell, r31.cell, r40.cell]
  refine call_of (c_law11_ev (0) (2) (0) (1) (11)) ?_
  rintro v43 h43 ⟨f43, rfl⟩
  have f43_z := f43.size
  replace p0 := p0.fresh f43 (by omega)
  replace p20 := p20.fresh f43 (by omega)
  replace r21 := r21.fr f43 (by omega)
  replace r27 := r27.fr f43 (by omega)
  replace r31 := r31.fr f43 (by omega)
  replace p39 := p39.fresh f43 (by omega)
  replace r40 := r40.fr f43 (by omega)
  simp -dsimp only [go_sem, r21.cell, r27.cell, r31.cell, r40.cell]
  refine call_of (c_law11_ev (1) (2) (0) (2) (11)) ?_
  rintro v44 h44 ⟨f44, rfl⟩
  have f44_z := f44.size
  replace p0 := p0.fresh f44 (by omega)
  replace p20 := p20.fresh f44 (by omega)
  replace r21 := r21.fr f44 (by omega)
  replace r27 := r27.fr f44 (by omega)
  replace r31 := r31.fr f44 (by omega)
  replace p39 := p39.fresh f44 (by omega)
  replace r40 := r40.fr f44 (by omega)
  simp -dsimp only [go_sem, r21.cell, r27.cell, r31.cell, r40.cell]
  intro b45 h45 n45
  have n45_a := n45.at_
  have n45_z := n45.size
  replace p0 := p0.fresh (n45.fr (lo := 0) (hi := 0)) (by omega)
  replace p20 := p20.fresh (n45.fr (lo := 0) (hi := 0)) (by omega)
  replace r21 := r21.fr (n45.fr (lo := 0) (hi := 0)) (by omega)
  replace r27 := r27.fr (n45.fr (lo := 0) (hi := 0)) (by omega)
  replace r31 := r31.fr (n45.fr (lo := 0) (hi := 0)) (by omega)
  replace p39 := p39.fresh (n45.fr (lo := 0) (hi := 0)) (by omega)
  replace r40 := r40.fr (n45.fr (lo := 0) (hi := 0)) (by omega)
  have r45 := n45.row
  replace r45 : Rw h45 b45 (evsV [⟨0, 1, 0, 0, 11⟩, ⟨0, 2, 0, 1, 11⟩, ⟨1, 2, 0, 2, 11⟩]) := r45
  simp -dsimp only [go_sem, r21.cell, r27.cell, r31.cell, r40.cell, r45.cell]
  intro b46 h46 n46
  have n46_a := n46.at_
  have n46_z := n46.size
  replace p0 := p0.fresh (n46.fr (lo := 0) (hi := 0)) (by omega)
  replace p20 := p20.fresh (n46.fr (lo := 0) (hi := 0)) (by omega)
  replace r21 := r21.fr (n46.fr (lo := 0) (hi := 0)) (by omega)
  replace r27 := r27.fr (n46.fr (lo := 0) (hi := 0)) (by omega)
  replace r31 := r31.fr (n46.fr (lo := 0) (hi := 0)) (by omega)
  replace p39 := p39.fresh (n46.fr (lo := 0) (hi := 0)) (by omega)
  replace r40 := r40.fr (n46.fr (lo := 0) (hi := 0)) (by omega)
  replace r45 := r45.fr (n46.fr (lo := 0) (hi := 0)) (by omega)
  have r46 := n46.row
  replace r46 : Rw h46 b46 (pairsV [(0, 2)]) := r46
  simp -dsimp only [go_sem, r21.cell, r27.cell, r31.cell, r40.cell, r45.cell, r46.cell]
  intro b47 h47 n47
  have n47_a := n47.at_
  have n47_z := n47.size
  replace p0 := p0.fresh (n47.fr (lo := 0) (hi := 0)) (by omega)
  replace p20 := p20.fresh (n47.fr (lo := 0) (hi := 0)) (by omega)
  replace r21 := r21.fr (n47.fr (lo := 0) (hi := 0)) (by omega)
  replace r27 := r27.fr (n47.fr (lo := 0) (hi := 0)) (by omega)
  replace r31 := r31.fr (n47.fr (lo := 0) (hi := 0)) (by omega)
  replace p39 := p39.fresh (n47.fr (lo := 0) (hi := 0)) (by omega)
  replace r40 := r40.fr (n47.fr (lo := 0) (hi := 0)) (by omega)
  replace r45 := r45.fr (n47.fr (lo := 0) (hi := 0)) (by omega)
  replace r46 := r46.fr (n47.fr (lo := 0) (hi := 0)) (by omega)
  have r47 := n47.row
  replace r47 : Rw h47 b47 (intsV [4, 3]) := r47
  simp -dsimp only [go_sem, r21.cell, r27.cell, r31.cell, r40.cell, r45.cell, r46.cell, r47.cell]
  refine call_of (c_law11_two (E := [⟨0, 1, 0, 0, 11⟩, ⟨0, 2, 0, 1, 11⟩, ⟨1, 2, 0, 2, 11⟩]) (rf := [(0, 2)]) (x := [4, 3]) (y := []) (lo := 0) (Nat.zero_le _) (Rw.rd (s := 5) (n := 3) (c := 3) r45 rfl) (fun h' f => Rw.rd (s := 2) (n := 1) (c := 1) (r46.fr f (by omega)) rfl) (Rw.rd (s := 1) (n := 2) (c := 2) r47 rfl) nilI (by simp) (by simp) (by simp) (by simp)) ?_
  rintro v48 h48 ⟨f48, q48, rfl, t48⟩
  have f48_z := f48.size
  replace p0 := p0.fresh f48 (by omega)
  replace p20 := p20.fresh f48 (by omega)
  replace r21 := r21.fr f48 (by omega)
  replace r27 := r27.fr f48 (by omega)
  replace r31 := r31.fr f48 (by omega)
  replace p39 := p39.fresh f48 (by omega)
  replace r40 := r40.fr f48 (by omega)
  replace r45 := r45.fr f48 (by omega)
  replace r46 := r46.fr f48 (by omega)
  replace r47 := r47.fr f48 (by omega)
  clear r45 r46 r47
  replace t48 := t48 _ (.refl _ _ _)
  have p48 : Fr 0 0 h48 h48 := .refl _ _ _
  unfold gcells
  simp -dsimp only [go_sem, r21.cell, r27.cell, r31.cell, r40.cell]
  intro b49 h49 n49
  have n49_a := n49.at_
  have n49_z := n49.size
  replace p0 := p0.fresh (n49.fr (lo := 0) (hi := 0)) (by omega)
  replace p20 := p20.fresh (n49.fr (lo := 0) (hi := 0)) (by omega)
  replace r21 := r21.fr (n49.fr (lo := 0) (hi := 0)) (by omega)
  replace r27 := r27.fr (n49.fr (lo := 0) (hi := 0)) (by omega)
  replace r31 := r31.fr (n49.fr (lo := 0) (hi := 0)) (by omega)
  replace p39 := p39.fresh (n49.fr (lo := 0) (hi := 0)) (by omega)
  replace r40 := r40.fr (n49.fr (lo := 0) (hi := 0)) (by omega)
  replace p48 := p48.fresh (n49.fr (lo := 0) (hi := 0)) (by omega)
  have r49 := n49.row
  simp -dsimp only [go_sem, r21.cell, r27.cell, r31.cell, r40.cell, r49.cell]
  refine Chk_intro (r49.wr (by first | (simp; done) | (simp; omega))) fun h50 s50 => ?_
  have s50_z := s50.size
  replace p0 := p0.fresh s50.fr (by omega)
  replace p20 := p20.fresh s50.fr (by omega)
  replace r21 := r21.fr s50.fr (by omega)
  replace r27 := r27.fr s50.fr (by omega)
  replace r31 := r31.fr s50.fr (by omega)
  replace p39 := p39.fresh s50.fr (by omega)
  replace r40 := r40.fr s50.fr (by omega)
  replace p48 := p48.fresh s50.fr (by omega)
  replace r49 := s50.row r49
  try simp only [cl_int, cl_bool, cl_slice, cl_ptr, putAt_one, List.set_cons_zero, List.set_cons_succ, ivec_set, brow_upd] at r49
  try simp -dsimp only [go_sem] at r49
  simp -dsimp only [go_sem, r21.cell, r27.cell, r31.cell, r40.cell, r49.cell]
  have g_13 : h.size ≤ h20.size ∧ h20.size ≤ b21 ∧ b21 < b27 ∧ b27 < b31 ∧ b31 < h39.size ∧ h39.size ≤ b40 ∧ b40 < h48.size ∧ h48.size ≤ b49 ∧ b49 < h50.size := by omega
  clear f42_z f43_z f44_z n45_a n45_z n46_a n46_z n47_a n47_z f48_z n49_a n49_z s50_z g_12
  intro b51 h51 n51
  have n51_a := n51.at_
  have n51_z := n51.size
  replace p0 := p0.fresh (n51.fr (lo := 0) (hi := 0)) (by omega)
  replace p20 := p20.fresh (n51.fr (lo := 0) (hi := 0)) (by omega)
  replace r21 := r21.fr (n51.fr (lo := 0) (hi := 0)) (by omega)
  replace r27 := r27.fr (n51.fr (lo := 0) (hi := 0)) (by omega)
  replace r31 := r31.fr (n51.fr (lo := 0) (hi := 0)) (by omega)
  replace p39 := p39.fresh (n51.fr (lo := 0) (hi := 0)) (by omega)
  replace r40 := r40.fr (n51.fr (lo := 0) (hi := 0)) (by omega)
  replace p48 := p48.fresh (n51.fr (lo := 0) (hi := 0)) (by omega)
  replace r49 := r49.fr (n51.fr (lo := 0) (hi := 0)) (by omega)
  have r51 := n51.row
  replace r51 : Rw h51 b51 (pairsV [(2, 3)]) := r51
  simp -dsimp only [go_sem, r21.cell, r27.cell, r31.cell, r40.cell, r49.cell, r51.cell]
  refine Chk_intro (r49.wr (by first | (simp; done) | (simp; omega))) fun h52 s52 => ?_
  have s52_z := s52.size
  replace p0 := p0.fresh s52.fr (by omega)
  replace p20 := p20.fresh s52.fr (by omega)
  replace r21 := r21.fr s52.fr (by omega)
  replace r27 := r27.fr s52.fr (by omega)
  replace r31 := r31.fr s52.fr (by omega)
  replace p39 := p39.fresh s52.fr (by omega)
  replace r40 := r40.fr s52.fr (by omega)
  replace p48 := p48.fresh s52.fr (by omega)
  replace r51 := r51.fr s52.fr (by omega)
  replace r49 := s52.row r49
  try simp only [cl_int, cl_bool, cl_slice, cl_ptr, putAt_one, List.set_cons_zero, List.set_cons_succ, ivec_set, brow_upd] at r49
  try simp -dsimp only [go_sem] at r49
  simp -dsimp only [go_sem, r21.cell, r27.cell, r31.cell, r40.cell, r49.cell, r51.cell]
  have g_14 : h.size ≤ h20.size ∧ h20.size ≤ b21 ∧ b21 < b27 ∧ b27 < b31 ∧ b31 < h39.size ∧ h39.size ≤ b40 ∧ b40 < h48.size ∧ h48.size ≤ b49 ∧ b49 < b51 ∧ b51 < h52.size := by omega
  clear n51_a n51_z s52_z g_13
  refine call_of (c_law11_ev (0) (2) (1) (1) (11)) ?_
  rintro v53 h53 ⟨f53, rfl⟩
  have f53_z := f53.size
  replace p0 := p0.fresh f53 (by omega)
  replace p20 := p20.fresh f53 (by omega)
  replace r21 := r21.fr f53 (by omega)
  replace r27 := r27.fr f53 (by omega)
  replace r31 := r31.fr f53 (by omega)
  replace p39 := p39.fresh f53 (by omega)
  replace r40 := r40.fr f53 (by omega)
  replace p48 := p48.fresh f53 (by omega)
  replace r49 := r49.fr f53 (by omega)
  replace r51 := r51.fr f53 (by omega)
  simp -dsimp only [go_sem, r21.cell, r27.cell, r31.cell, r40.cell, r49.cell, r51.cell]
  refine call_of (c_law11_ev (0) (2) (0) (1) (13)) ?_
  rintro v54 h54 ⟨f54, rfl⟩
  have f54_z := f54.size
  replace p0 := p0.fresh f54 (by omega)
  replace p20 := p20.fresh f54 (by omega)
  replace r21 := r21.fr f54 (by omega)
  replace r27 := r27.fr f54 (by omega)
  replace r31 := r31.fr f54 (by omega)
  replace p39 := p39.fresh f54 (by omega)
  replace r40 := r40.fr f54 (by omega)
  replace p48 := p48.fresh f54 (by omega)
  replace r49 := r49.fr f54 (by omega)
  replace r51 := r51.fr f54 (by omega)
  simp -dsimp only [go_sem, r21.cell, r27.cell, r31.cell, r40.cell, r49.cell, r51.cell]
  refine call_of (c_law11_ev (0) (2) (0) (2) (11)) ?_
  rintro v55 h55 ⟨f55, rfl⟩
  have f55_z := f55.size
  replace p0 := p0.fresh f55 (by omega)
  replace p20 := p20.fresh f55 (by omega)
  replace r21 := r21.fr f55 (by omega)
  replace r27 := r27.fr f55 (by omega)
  replace r31 := r31.fr f55 (by omega)
  replace p39 := p39.fresh f55 (by omega)
  replace r40 := r40.fr f55 (by omega)
  replace p48 := p48.fresh f55 (by omega)
  replace r49 := r49.fr f55 (by omega)
  replace r51 := r51.fr f55 (by omega)
  simp -dsimp only [go_sem, r21.cell, r27.cell, r31.cell, r40.cell, r49.cell, r51.cell]
  refine call_of (c_law11_ev (1) (1) (0) (2) (12)) ?_
  rintro v56 h56 ⟨f56, rfl⟩
  have f56_z := f56.size
  replace p0 := p0.fresh f56 (by omega)
  replace p20 := p20.fresh f56 (by omega)
  replace r21 := r21.fr f56 (by omega)
  replace r27 := r27.fr f56 (by omega)
  replace r31 := r31.fr f56 (by omega)
  replace p39 := p39.fresh f56 (by omega)
  replace r40 := r40.fr f56 (by omega)
  replace p48 := p48.fresh f56 (by omega)
  replace r49 := r49.fr f56 (by omega)
  replace r51 := r51.fr f56 (by omega)
  simp -dsimp only [go_sem, r21.cell, r27.cell, r31.cell, r40.cell, r49.cell, r51.cell]
  refine call_of (c_law11_ev (1) (1) (1) (0) (11)) ?_
  rintro v57 h57 ⟨f57, rfl⟩
  have f57_z := f57.size
  replace p0 := p0.fresh f57 (by omega)
  replace p20 := p20.fresh f57 (by omega)
  replace r21 := r21.fr f57 (by omega)
  replace r27 := r27.fr f57 (by omega)
  replace r31 := r31.fr f57 (by omega)
  replace p39 := p39.fresh f57 (by omega)
  replace r40 := r40.fr f57 (by omega)
  replace p48 := p48.fresh f57 (by omega)
  replace r49 := r49.fr f57 (by omega)
  replace r51 := r51.fr f57 (by omega)
  simp -dsimp only [go_sem, r21.cell, r27.cell, r31.cell, r40.cell, r49.cell, r51.cell]
  intro b58 h58 n58
  have n58_a := n58.at_
  have n58_z := n58.size
  replace p0 := p0.fresh (n58.fr (lo := 0) (hi := 0)) (by omega)
  replace p20 := p20.fresh (n58.fr (lo := 0) (hi := 0)) (by omega)
  replace r21 := r21.fr (n58.fr (lo := 0) (hi := 0)) (by omega)
  replace r27 := r27.fr (n58.fr (lo := 0) (hi := 0)) (by omega)
  replace r31 := r31.fr (n58.fr (lo := 0) (hi := 0)) (by omega)
  replace p39 := p39.fresh (n58.fr (lo := 0) (hi := 0)) (by omega)
  replace r40 := r40.fr (n58.fr (lo := 0) (hi := 0)) (by omega)
  replace p48 := p48.fresh (n58.fr (lo := 0) (hi := 0)) (by omega)
  replace r49 := r49.fr (n58.fr (lo := 0) (hi := 0)) (by omega)
  replace r51 := r51.fr (n58.fr (lo := 0) (hi := 0)) (by omega)
  have r58 := n58.row
  replace r58 : Rw h58 b58 (evsV [⟨0, 2, 1, 1, 11⟩, ⟨0, 2, 0, 1, 13⟩, ⟨0, 2, 0, 2, 11⟩, ⟨1, 1, 0, 2, 12⟩, ⟨1, 1, 1, 0, 11⟩]) := r58
  simp -dsimp only [go_sem, r21.cell, r27.cell, r31.cell, r40.cell, r49.cell, r51.cell, r58.cell]
  intro b59 h59 n59
  have n59_a := n59.at_
  have n59_z := n59.size
  replace p0 := p0.fresh (n59.fr (lo := 0) (hi := 0)) (by omega)
  replace p20 := p20.fresh (n59.fr (lo := 0) (hi := 0)) (by omega)
  replace r21 := r21.fr (n59.fr (lo := 0) (hi := 0)) (by omega)
  replace r27 := r27.fr (n59.fr (lo := 0) (hi := 0)) (by omega)
  replace r31 := r31.fr (n59.fr (lo := 0) (hi := 0)) (by omega)
  replace p39 := p39.fresh (n59.fr (lo := 0) (hi := 0)) (by omega)
  replace r40 := r40.fr (n59.fr (lo := 0) (hi := 0)) (by omega)
  replace p48 := p48.fresh (n59.fr (lo := 0) (hi := 0)) (by omega)
  replace r49 := r49.fr (n59.fr (lo := 0) (hi := 0)) (by omega)
  replace r51 := r51.fr (n59.fr (lo := 0) (hi := 0)) (by omega)
  replace r58 := r58.fr (n59.fr (lo := 0) (hi := 0)) (by omega)
  have r59 := n59.row
  replace r59 : Rw h59 b59 (pairsV [(4, 5), (1, 6)]) := r59
  simp -dsimp only [go_sem, r21.cell, r27.cell, r31.cell, r40.cell, r49.cell, r51.cell, r58.cell, r59.cell]
  intro b60 h60 n60
  have n60_a := n60.at_
  have n60_z := n60.size
  replace p0 := p0.fresh (n60.fr (lo := 0) (hi := 0)) (by omega)
  replace p20 := p20.fresh (n60.fr (lo := 0) (hi := 0)) (by omega)
  replace r21 := r21.fr (n60.fr (lo := 0) (hi := 0)) (by omega)
  replace r27 := r27.fr (n60.fr (lo := 0) (hi := 0)) (by omega)
  replace r31 := r31.fr (n60.fr (lo := 0) (hi := 0)) (by omega)
  replace p39 := p39.fresh (n60.fr (lo := 0) (hi := 0)) (by omega)
  replace r40 := r40.fr (n60.fr (lo := 0) (hi := 0)) (by omega)
  replace p48 := p48.fresh (n60.fr (lo := 0) (hi := 0)) (by omega)
  replace r49 := r49.fr (n60.fr (lo := 0) (hi := 0)) (by omega)
  replace r51 := r51.fr (n60.fr (lo := 0) (hi := 0)) (by omega)
  replace r58 := r58.fr (n60.fr (lo := 0) (hi := 0)) (by omega)
  replace r59 := r59.fr (n60.fr (lo := 0) (hi := 0)) (by omega)
  have r60 := n60.row
  replace r60 : Rw h60 b60 (intsV [3, 4]) := r60
  simp -dsimp only [go_sem, r21.cell, r27.cell, r31.cell, r40.cell, r49.cell, r51.cell, r58.cell, r59.cell, r60.cell]
  intro b61 h61 n61
  have n61_a := n61.at_
  have n61_z := n61.size
  replace p0 := p0.fresh (n61.fr (lo := 0) (hi := 0)) (by omega)
  replace p20 := p20.fresh (n61.fr (lo := 0) (hi := 0)) (by omega)
  replace r21 := r21.fr (n61.fr (lo := 0) (hi := 0)) (by omega)
  replace r27 := r27.fr (n61.fr (lo := 0) (hi := 0)) (by omega)
  replace r31 := r31.fr (n61.fr (lo := 0) (hi := 0)) (by omega)
  replace p39 := p39.fresh (n61.fr (lo := 0) (hi := 0)) (by omega)
  replace r40 := r40.fr (n61.fr (lo := 0) (hi := 0)) (by omega)
  replace p48 := p48.fresh (n61.fr (lo := 0) (hi := 0)) (by omega)
  replace r49 := r49.fr (n61.fr (lo := 0) (hi := 0)) (by omega)
  replace r51 := r51.fr (n61.fr (lo := 0) (hi := 0)) (by omega)
  replace r58 := r58.fr (n61.fr (lo := 0) (hi := 0)) (by omega)
  replace r59 := r59.fr (n61.fr (lo := 0) (hi := 0)) (by omega)
  replace r60 := r60.fr (n61.fr (lo := 0) (hi := 0)) (by omega)
  have r61 := n61.row
  replace r61 : Rw h61 b61 (intsV [2]) := r61
  simp -dsimp only [go_sem, r21.cell, r27.cell, r31.cell, r40.cell, r49.cell, r51.cell, r58.cell, r59.cell, r60.cell, r61.cell]
  refine call_of (c_law11_two (E := [⟨0, 2, 1, 1, 11⟩, ⟨0, 2, 0, 1, 13⟩, ⟨0, 2, 0, 2, 11⟩, ⟨1, 1, 0, 2, 12⟩, ⟨1, 1, 1, 0, 11⟩]) (rf := [(4, 5), (1, 6)]) (x := [3, 4]) (y := [2]) (lo := 0) (Nat.zero_le _) (Rw.rd (s := 5) (n := 5) (c := 5) r58 rfl) (fun h' f => Rw.rd (s := 2) (n := 2) (c := 2) (r59.fr f (by omega)) rfl) (Rw.rd (s := 1) (n := 2) (c := 2) r60 rfl) (Rw.rd (s := 1) (n := 1) (c := 1) r61 rfl) (by simp) (by simp) (by simp) (by simp)) ?_
  rintro v62 h62 ⟨f62, q62, rfl, t62⟩
  have f62_z := f62.size
  replace p0 := p0.fresh f62 (by omega)
  replace p20 := p20.fresh f62 (by omega)
  replace r21 := r21.fr f62 (by omega)
  replace r27 := r27.fr f62 (by omega)
  replace r31 := r31.fr f62 (by omega)
  replace p39 := p39.fresh f62 (by omega)
  replace r40 := r40.fr f62 (by omega)
  replace p48 := p48.fresh f62 (by omega)
  replace r49 := r49.fr f62 (by omega)
  replace r51 := r51.fr f62 (by omega)
  replace r58 := r58.fr f62 (by omega)
  replace r59 := r59.fr f62 (by omega)
  replace r60 := r60.fr f62 (by omega)
  replace r61 := r61.fr f62 (by omega)
  clear r58 r59 r60 r61
  replace t62 := t62 _ (.refl _ _ _)
  have p62 : Fr 0 0 h62 h62 := .refl _ _ _
  unfold gcells
  simp -dsimp only [go_sem, r21.cell, r27.cell, r31.cell, r40.cell, r49.cell, r51.cell]
  intro b63 h63 n63
  have n63_a := n63.at_
  have n63_z := n63.size
  replace p0 := p0.fresh (n63.fr (lo := 0) (hi := 0)) (by omega)
  replace p20 := p20.fresh (n63.fr (lo := 0) (hi := 0)) (by omega)
  replace r21 := r21.fr (n63.fr (lo := 0) (hi := 0)) (by omega)
  replace r27 := r27.fr (n63.fr (lo := 0) (hi := 0)) (by omega)
  replace r31 := r31.fr (n63.fr (lo := 0) (hi := 0)) (by omega)
  replace p39 := p39.fresh (n63.fr (lo := 0) (hi := 0)) (by omega)
  replace r40 := r40.fr (n63.fr (lo := 0) (hi := 0)) (by omega)
  replace p48 := p48.fresh (n63.fr (lo := 0) (hi := 0)) (by omega)
  replace r49 := r49.fr (n63.fr (lo := 0) (hi := 0)) (by omega)
  replace r51 := r51.fr (n63.fr (lo := 0) (hi := 0)) (by omega)
  replace p62 := p62.fresh (n63.fr (lo := 0) (hi := 0)) (by omega)
  have r63 := n63.row
  simp -dsimp only [go_sem, r21.cell, r27.cell, r31.cell, r40.cell, r49.cell, r51.cell, r63.cell]
  refine Chk_intro (r63.wr (by first | (simp; done) | (simp; omega))) fun h64 s64 => ?_
  have s64_z := s64.size
  replace p0 := p0.fresh s64.fr (by omega)
  replace p20 := p20.fresh s64.fr (by omega)
  replace r21 := r21.fr s64.fr (by omega)
  replace r27 := r27.fr s64.fr (by omega)
  replace r31 := r31.fr s64.fr (by omega)
  replace p39 := p39.fresh s64.fr (by omega)
  replace r40 := r40.fr s64.fr (by omega)
  replace p48 := p48.fresh s64.fr (by omega)
  replace r49 := r49.fr s64.fr (by omega)
  replace r51 := r51.fr s64.fr (by omega)
  replace p62 := p62.fresh s64.fr (by omega)
  replace r63 := s64.row r63
  try simp only [cl_int, cl_bool, cl_slice, cl_ptr, putAt_one, List.set_cons_zero, List.set_cons_succ, ivec_set, brow_upd] at r63
  try simp -dsimp only [go_sem] at r63
  simp -dsimp only [go_sem, r21.cell, r27.cell, r31.cell, r40.cell, r49.cell, r51.cell, r63.cell]
  have g_15 : h.size ≤ h20.size ∧ h20.size ≤ b21 ∧ b21 < b27 ∧ b27 < b31 ∧ b31 < h39.size ∧ h39.size ≤ b40 ∧ b40 < h48.size ∧ h48.size ≤ b49 ∧ b49 < b51 ∧ b51 < h62.size ∧ h62.size ≤ b63 ∧ b63 < h64.size := by omega
  clear f53_z f54_z f55_z f56_z f57_z n58_a n58_z n59_a n59_z n60_a n60_z n61_a n61_z f62_z n63_a n63_z s64_z g_14
  refine call_of (c_law11_ev (0) (2) (1) (1) (11)) ?_
  rintro v65 h65 ⟨f65, rfl⟩
  have f65_z := f65.size
  replace p0 := p0.fresh f65 (by omega)
  replace p20 := p20.fresh f65 (by omega)
  replace r21 := r21.fr f65 (by omega)
  replace r27 := r27.fr f65 (by omega)
  replace r31 := r31.fr f65 (by omega)
  replace p39 := p39.fresh f65 (by omega)
  replace r40 := r40.fr f65 (by omega)
  replace p48 := p48.fresh f65 (by omega)
  replace r49 := r49.fr f65 (by omega)
  replace r51 := r51.fr f65 (by omega)
  replace p62 := p62.fresh f65 (by omega)
  replace r63 := r63.fr f65 (by omega)
  simp -dsimp only [go_sem, r21.cell, r27.cell, r31.cell, r40.cell, r49.cell, r51.cell, r63.cell]
  refine call_of (c_law11_ev (1) (1) (1) (1) (11)) ?_
  rintro v66 h66 ⟨f66, rfl⟩
  have f66_z := f66.size
  replace p0 := p0.fresh f66 (by omega)
  replace p20 := p20.fresh f66 (by omega)
  replace r21 := r21.fr f66 (by omega)
  replace r27 := r27.fr f66 (by omega)
  replace r31 := r31.fr f66 (by omega)
  replace p39 := p39.fresh f66 (by omega)
  replace r40 := r40.fr f66 (by omega)
  replace p48 := p48.fresh f66 (by omega)
  replace r49 := r49.fr f66 (by omega)
  replace r51 := r51.fr f66 (by omega)
  replace p62 := p62.fresh f66 (by omega)
  replace r63 := r63.fr f66 (by omega)
  simp -dsimp only [go_sem, r21.cell, r27.cell, r31.cell, r40.cell, r49.cell, r51.cell, r63.cell]
  refine call_of (c_law11_ev (1) (2) (0) (1) (11)) ?_
  rintro v67 h67 ⟨f67, rfl⟩
  have f67_z := f67.size
  replace p0 := p0.fresh f67 (by omega)
  replace p20 := p20.fresh f67 (by omega)
  replace r21 := r21.fr f67 (by omega)
  replace r27 := r27.fr f67 (by omega)
  replace r31 := r31.fr f67 (by omega)
  replace p39 := p39.fresh f67 (by omega)
  replace r40 := r40.fr f67 (by omega)
  replace p48 := p48.fresh f67 (by omega)
  replace r49 := r49.fr f67 (by omega)
  replace r51 := r51.fr f67 (by omega)
  replace p62 := p62.fresh f67 (by omega)
  replace r63 := r63.fr f67 (by omega)
  simp -dsimp only [go_sem, r21.cell, r27.cell, r31.cell, r40.cell, r49.cell, r51.cell, r63.cell]
  refine call_of (c_law11_ev (2) (1) (0) (1) (11)) ?_
  rintro v68 h68 ⟨f68, rfl⟩
  have f68_z := f68.size
  replace p0 := p0.fresh f68 (by omega)
  replace p20 := p20.fresh f68 (by omega)
  replace r21 := r21.fr f68 (by omega)
  replace r27 := r27.fr f68 (by omega)
  replace r31 := r31.fr f68 (by omega)
  replace p39 := p39.fresh f68 (by omega)
  replace r40 := r40.fr f68 (by omega)
  replace p48 := p48.fresh f68 (by omega)
  replace r49 := r49.fr f68 (by omega)
  replace r51 := r51.fr f68 (by omega)
  replace p62 := p62.fresh f68 (by omega)
  replace r63 := r63.fr f68 (by omega)
  simp -dsimp only [go_sem, r21.cell, r27.cell, r31.cell, r40.cell, r49.cell, r51.cell, r63.cell]
  refine call_of (c_law11_ev (2) (2) (0) (2) (11)) ?_
  rintro v69 h69 ⟨f69, rfl⟩
  have f69_z := f69.size
  replace p0 := p0.fresh f69 (by omega)
  replace p20 := p20.fresh f69 (by omega)
  replace r21 := r21.fr f69 (by omega)
  replace r27 := r27.fr f69 (by omega)
  replace r31 := r31.fr f69 (by omega)
  replace p39 := p39.fresh f69 (by omega)
  replace r40 := r40.fr f69 (by omega)
  replace p48 := p48.fresh f69 (by omega)
  replace r49 := r49.fr f69 (by omega)
  replace r51 := r51.fr f69 (by omega)
  replace p62 := p62.fresh f69 (by omega)
  replace r63 := r63.fr f69 (by omega)
  simp -dsimp only [go_sem, r21.cell, r27.cell, r31.cell, r40.cell, r49.cell, r51.cell, r63.cell]
  refine call_of (c_law11_ev (2) (1) (0) (2) (12)) ?_
  rintro v70 h70 ⟨f70, rfl⟩
  have f70_z := f70.size
  replace p0 := p0.fresh f70 (by omega)
  replace p20 := p20.fresh f70 (by omega)
  replace r21 := r21.fr f70 (by omega)
  replace r27 := r27.fr f70 (by omega)
  replace r31 := r31.fr f70 (by omega)
  replace p39 := p39.fresh f70 (by omega)
  replace r40 := r40.fr f70 (by omega)
  replace p48 := p48.fresh f70 (by omega)
  replace r49 := r49.fr f70 (by omega)
  replace r51 := r51.fr f70 (by omega)
  replace p62 := p62.fresh f70 (by omega)
  replace r63 := r63.fr f70 (by omega)
  simp -dsimp only [go_sem, r21.cell, r27.cell, r31.cell, r40.cell, r49.cell, r51.cell, r63.cell]
  refine call_of (c_law11_ev (2) (1) (1) (0) (11)) ?_
  rintro v71 h71 ⟨f71, rfl⟩
  have f71_z := f71.size
  replace p0 := p0.fresh f71 (by omega)
  replace p20 := p20.fresh f71 (by omega)
  replace r21 := r21.fr f71 (by omega)
  replace r27 := r27.fr f71 (by omega)
  replace r31 := r31.fr f71 (by omega)
  replace p39 := p39.fresh f71 (by omega)
  replace r40 := r40.fr f71 (by omega)
  replace p48 := p48.fresh f71 (by omega)
  replace r49 := r49.fr f71 (by omega)
  replace r51 := r51.fr f71 (by omega)
  replace p62 := p62.fresh f71 (by omega)
  replace r63 := r63.fr f71 (by omega)
  simp -dsimp only [go_sem, r21.cell, r27.cell, r31.cell, r40.cell, r49.cell, r51.cell, r63.cell]
  intro b72 h72 n72
  have n72_a := n72.at_
  have n72_z := n72.size
  replace p0 := p0.fresh (n72.fr (lo := 0) (hi := 0)) (by omega)
  replace p20 := p20.fresh (n72.fr (lo := 0) (hi := 0)) (by omega)
  replace r21 := r21.fr (n72.fr (lo := 0) (hi := 0)) (by omega)
  replace r27 := r27.fr (n72.fr (lo := 0) (hi := 0)) (by omega)
  replace r31 := r31.fr (n72.fr (lo := 0) (hi := 0)) (by omega)
  replace p39 := p39.fresh (n72.fr (lo := 0) (hi := 0)) (by omega)
  replace r40 := r40.fr (n72.fr (lo := 0) (hi := 0)) (by omega)
  replace p48 := p48.fresh (n72.fr (lo := 0) (hi := 0)) (by omega)
  replace r49 := r49.fr (n72.fr (lo := 0) (hi := 0)) (by omega)
  replace r51 := r51.fr (n72.fr (lo := 0) (hi := 0)) (by omega)
  replace p62 := p62.fresh (n72.fr (lo := 0) (hi := 0)) (by omega)
  replace r63 := r63.fr (n72.fr (lo := 0) (hi := 0)) (by omega)
  have r72 := n72.row
  replace r72 : Rw h72 b72 (evsV [⟨0, 2, 1, 1, 11⟩, ⟨1, 1, 1, 1, 11⟩, ⟨1, 2, 0, 1, 11⟩, ⟨2, 1, 0, 1, 11⟩, ⟨2, 2, 0, 2, 11⟩, ⟨2, 1, 0, 2, 12⟩, ⟨2, 1, 1, 0, 11⟩]) := r72
  simp -dsimp only [go_sem, r21.cell, r27.cell, r31.cell, r40.cell, r49.cell, r51.cell, r63.cell, r72.cell]
  intro b73 h73 n73
  have n73_a := n73.at_
  have n73_z := n73.size
  replace p0 := p0.fresh (n73.fr (lo := 0) (hi := 0)) (by omega)
  replace p20 := p20.fresh (n73.fr (lo := 0) (hi := 0)) (by omega)
  replace r21 := r21.fr (n73.fr (lo := 0) (hi := 0)) (by omega)
  replace r27 := r27.fr (n73.fr (lo := 0) (hi := 0)) (by omega)
  replace r31 := r31.fr (n73.fr (lo := 0) (hi := 0)) (by omega)
  replace p39 := p39.fresh (n73.fr (lo := 0) (hi := 0)) (by omega)
  replace r40 := r40.fr (n73.fr (lo := 0) (hi := 0)) (by omega)
  replace p48 := p48.fresh (n73.fr (lo := 0) (hi := 0)) (by omega)
  replace r49 := r49.fr (n73.fr (lo := 0) (hi := 0)) (by omega)
  replace r51 := r51.fr (n73.fr (lo := 0) (hi := 0)) (by omega)
  replace p62 := p62.fresh (n73.fr (lo := 0) (hi := 0)) (by omega)
  replace r63 := r63.fr (n73.fr (lo := 0) (hi := 0)) (by omega)
  replace r72 := r72.fr (n73.fr (lo := 0) (hi := 0)) (by omega)
  have r73 := n73.row
  replace r73 : Rw h73 b73 (pairsV [(2, 3), (4, 5), (6, 7), (1, 8)]) := r73
  simp -dsimp only [go_sem, r21.cell, r27.cell, r31.cell, r40.cell, r49.cell, r51.cell, r63.cell, r72.cell, r73.cell]
  intro b74 h74 n74
  have n74_a := n74.at_
  have n74_z := n74.size
  replace p0 := p0.fresh (n74.fr (lo := 0) (hi := 0)) (by omega)
  replace p20 := p20.fresh (n74.fr (lo := 0) (hi := 0)) (by omega)
  replace r21 := r21.fr (n74.fr (lo := 0) (hi := 0)) (by omega)
  replace r27 := r27.fr (n74.fr (lo := 0) (hi := 0)) (by omega)
  replace r31 := r31.fr (n74.fr (lo := 0) (hi := 0)) (by omega)
  replace p39 := p39.fresh (n74.fr (lo := 0) (hi := 0)) (by omega)
  replace r40 := r40.fr (n74.fr (lo := 0) (hi := 0)) (by omega)
  replace p48 := p48.fresh (n74.fr (lo := 0) (hi := 0)) (by omega)
  replace r49 := r49.fr (n74.fr (lo := 0) (hi := 0)) (by omega)
  replace r51 := r51.fr (n74.fr (lo := 0) (hi := 0)) (by omega)
  replace p62 := p62.fresh (n74.fr (lo := 0) (hi := 0)) (by omega)
  replace r63 := r63.fr (n74.fr (lo := 0) (hi := 0)) (by omega)
  replace r72 := r72.fr (n74.fr (lo := 0) (hi := 0)) (by omega)
  replace r73 := r73.fr (n74.fr (lo := 0) (hi := 0)) (by omega)
  have r74 := n74.row
  replace r74 : Rw h74 b74 (intsV [4, 6]) := r74
  simp -dsimp only [go_sem, r21.cell, r27.cell, r31.cell, r40.cell, r49.cell, r51.cell, r63.cell, r72.cell, r73.cell, r74.cell]
  intro b75 h75 n75
  have n75_a := n75.at_
  have n75_z := n75.size
  replace p0 := p0.fresh (n75.fr (lo := 0) (hi := 0)) (by omega)
  replace p20 := p20.fresh (n75.fr (lo := 0) (hi := 0)) (by omega)
  replace r21 := r21.fr (n75.fr (lo := 0) (hi := 0)) (by omega)
  replace r27 := r27.fr (n75.fr (lo := 0) (hi := 0)) (by omega)
  replace r31 := r31.fr (n75.fr (lo := 0) (hi := 0)) (by omega)
  replace p39 := p39.fresh (n75.fr (lo := 0) (hi := 0)) (by omega)
  replace r40 := r40.fr (n75.fr (lo := 0) (hi := 0)) (by omega)
  replace p48 := p48.fresh (n75.fr (lo := 0) (hi := 0)) (by omega)
  replace r49 := r49.fr (n75.fr (lo := 0) (hi := 0)) (by omega)
  replace r51 := r51.fr (n75.fr (lo := 0) (hi := 0)) (by omega)
  replace p62 := p62.fresh (n75.fr (lo := 0) (hi := 0)) (by omega)
  replace r63 := r63.fr (n75.fr (lo := 0) (hi := 0)) (by omega)
  replace r72 := r72.fr (n75.fr (lo := 0) (hi := 0)) (by omega)
  replace r73 := r73.fr (n75.fr (lo := 0) (hi := 0)) (by omega)
  replace r74 := r74.fr (n75.fr (lo := 0) (hi := 0)) (by omega)
  have r75 := n75.row
  replace r75 : Rw h75 b75 (intsV [2]) := r75
  simp -dsimp only [go_sem, r21.cell, r27.cell, r31.cell, r40.cell, r49.cell, r51.cell, r63.cell, r72.cell, r73.cell, r74.cell, r75.cell]
  refine call_of (c_law11_two (E := [⟨0, 2, 1, 1, 11⟩, ⟨1, 1, 1, 1, 11⟩, ⟨1, 2, 0, 1, 11⟩, ⟨2, 1, 0, 1, 11⟩, ⟨2, 2, 0, 2, 11⟩, ⟨2, 1, 0, 2, 12⟩, ⟨2, 1, 1, 0, 11⟩]) (rf := [(2, 3), (4, 5), (6, 7), (1, 8)]) (x := [4, 6]) (y := [2]) (lo := 0) (Nat.zero_le _) (Rw.rd (s := 5) (n := 7) (c := 7) r72 rfl) (fun h' f => Rw.rd (s := 2) (n := 4) (c := 4) (r73.fr f (by omega)) rfl) (Rw.rd (s := 1) (n := 2) (c := 2) r74 rfl) (Rw.rd (s := 1) (n := 1) (c := 1) r75 rfl) (by simp) (by simp) (by simp) (by simp)) ?_
  rintro v76 h76 ⟨f76, q76, rfl, t76⟩
  have f76_z := f76.size
  replace p0 := p0.fresh f76 (by omega)
  replace p20 := p20.fresh f76 (by omega)
  replace r21 := r21.fr f76 (by omega)
  replace r27 := r27.fr f76 (by omega)
  replace r31 := r31.fr f76 (by omega)
  replace p39 := p39.fresh f76 (by omega)
  replace r40 := r40.fr f76 (by omega)
  replace p48 := p48.fresh f76 (by omega)
  replace r49 := r49.fr f76 (by omega)
  replace r51 := r51.fr f76 (by omega)
  replace p62 := p62.fresh f76 (by omega)
  replace r63 := r63.fr f76 (by omega)
  replace r72 := r72.fr f76 (by omega)
  replace r73 := r73.fr f76 (by omega)
  replace r74 := r74.fr f76 (by omega)
  replace r75 := r75.fr f76 (by omega)
  clear r72 r73 r74 r75
  replace t76 := t76 _ (.refl _ _ _)
  have p76 : Fr 0 0 h76 h76 := .refl _ _ _
  unfold gcells
  simp -dsimp only [go_sem, r21.cell, r27.cell, r31.cell, r40.cell, r49.cell, r51.cell, r63.cell]
  intro b77 h77 n77
  have n77_a := n77.at_
  have n77_z := n77.size
  replace p0 := p0.fresh (n77.fr (lo := 0) (hi := 0)) (by omega)
  replace p20 := p20.fresh (n77.fr (lo := 0) (hi := 0)) (by omega)
  replace r21 := r21.fr (n77.fr (lo := 0) (hi := 0)) (by omega)
  replace r27 := r27.fr (n77.fr (lo := 0) (hi := 0)) (by omega)
  replace r31 := r31.fr (n77.fr (lo := 0) (hi := 0)) (by omega)
  replace p39 := p39.fresh (n77.fr (lo := 0) (hi := 0)) (by omega)
  replace r40 := r40.fr (n77.fr (lo := 0) (hi := 0)) (by omega)
  replace p48 := p48.fresh (n77.fr (lo := 0) (hi := 0)) (by omega)
  replace r49 := r49.fr (n77.fr (lo := 0) (hi := 0)) (by omega)
  replace r51 := r51.fr (n77.fr (lo := 0) (hi := 0)) (by omega)
  replace p62 := p62.fresh (n77.fr (lo := 0) (hi := 0)) (by omega)
  replace r63 := r63.fr (n77.fr (lo := 0) (hi := 0)) (by omega)
  replace p76 := p76.fresh (n77.fr (lo := 0) (hi := 0)) (by omega)
  have r77 := n77.row
  simp -dsimp only [go_sem, r21.cell, r27.cell, r31.cell, r40.cell, r49.cell, r51.cell, r63.cell, r77.cell]
  refine Chk_intro (r77.wr (by first | (simp; done) | (simp; omega))) fun h78 s78 => ?_
  have s78_z := s78.size
  replace p0 := p0.fresh s78.fr (by omega)
  replace p20 := p20.fresh s78.fr (by omega)
  replace r21 := r21.fr s78.fr (by omega)
  replace r27 := r27.fr s78.fr (by omega)
  replace r31 := r31.fr s78.fr (by omega)
  replace p39 := p39.fresh s78.fr (by omega)
  replace r40 := r40.fr s78.fr (by omega)
  replace p48 := p48.fresh s78.fr (by omega)
  replace r49 := r49.fr s78.fr (by omega)
  replace r51 := r51.fr s78.fr (by omega)
  replace p62 := p62.fresh s78.fr (by omega)
  replace r63 := r63.fr s78.fr (by omega)
  replace p76 := p76.fresh s78.fr (by omega)
  replace r77 := s78.row r77
  try simp only [cl_int, cl_bool, cl_slice, cl_ptr, putAt_one, List.set_cons_zero, List.set_cons_succ, ivec_set, brow_upd] at r77
  try simp -dsimp only [go_sem] at r77
  simp -dsimp only [go_sem, r21.cell, r27.cell, r31.cell, r40.cell, r49.cell, r51.cell, r63.cell, r77.cell]
  have g_16 : h.size ≤ h20.size ∧ h20.size ≤ b21 ∧ b21 < b27 ∧ b27 < b31 ∧ b31 < h39.size ∧ h39.size ≤ b40 ∧ b40 < h48.size ∧ h48.size ≤ b49 ∧ b49 < b51 ∧ b51 < h62.size ∧ h62.size ≤ b63 ∧ b63 < h76.size ∧ h76.size ≤ b77 ∧ b77 < h78.size := by omega
  clear f65_z f66_z f67_z f68_z f69_z f70_z f71_z n72_a n72_z n73_a n73_z n74_a n74_z n75_a n75_z f76_z n77_a n77_z s78_z g_15
  intro b79 h79 n79
  have n79_a := n79.at_
  have n79_z := n79.size
  replace p0 := p0.fresh (n79.fr (lo := 0) (hi := 0)) (by omega)
  replace p20 := p20.fresh (n79.fr (lo := 0) (hi := 0)) (by omega)
  replace r21 := r21.fr (n79.fr (lo := 0) (hi := 0)) (by omega)
  replace r27 := r27.fr (n79.fr (lo := 0) (hi := 0)) (by omega)
  replace r31 := r31.fr (n79.fr (lo := 0) (hi := 0)) (by omega)
  replace p39 := p39.fresh (n79.fr (lo := 0) (hi := 0)) (by omega)
  replace r40 := r40.fr (n79.fr (lo := 0) (hi := 0)) (by omega)
  replace p48 := p48.fresh (n79.fr (lo := 0) (hi := 0)) (by omega)
  replace r49 := r49.fr (n79.fr (lo := 0) (hi := 0)) (by omega)
  replace r51 := r51.fr (n79.fr (lo := 0) (hi := 0)) (by omega)
  replace p62 := p62.fresh (n79.fr (lo := 0) (hi := 0)) (by omega)
  replace r63 := r63.fr (n79.fr (lo := 0) (hi := 0)) (by omega)
  replace p76 := p76.fresh (n79.fr (lo := 0) (hi := 0)) (by omega)
  replace r77 := r77.fr (n79.fr (lo := 0) (hi := 0)) (by omega)
  have r79 := n79.row
  replace r79 : Rw h79 b79 (pairsV [(3, 4)]) := r79
  simp -dsimp only [go_sem, r21.cell, r27.cell, r31.cell, r40.cell, r49.cell, r51.cell, r63.cell, r77.cell, r79.cell]
  refine Chk_intro (r77.wr (by first | (simp; done) | (simp; omega))) fun h80 s80 => ?_
  have s80_z := s80.size
  replace p0 := p0.fresh s80.fr (by omega)
  replace p20 := p20.fresh s80.fr (by omega)
  replace r21 := r21.fr s80.fr (by omega)
  replace r27 := r27.fr s80.fr (by omega)
  replace r31 := r31.fr s80.fr (by omega)
  replace p39 := p39.fresh s80.fr (by omega)
  replace r40 := r40.fr s80.fr (by omega)
  replace p48 := p48.fresh s80.fr (by omega)
  replace r49 := r49.fr s80.fr (by omega)
  replace r51 := r51.fr s80.fr (by omega)
  replace p62 := p62.fresh s80.fr (by omega)
  replace r63 := r63.fr s80.fr (by omega)
  replace p76 := p76.fresh s80.fr (by omega)
  replace r79 := r79.fr s80.fr (by omega)
  replace r77 := s80.row r77
  try simp only [cl_int, cl_bool, cl_slice, cl_ptr, putAt_one, List.set_cons_zero, List.set_cons_succ, ivec_set, brow_upd] at r77
  try simp -dsimp only [go_sem] at r77
  simp -dsimp only [go_sem, r21.cell, r27.cell, r31.cell, r40.cell, r49.cell, r51.cell, r63.cell, r77.cell, r79.cell]
  have g_17 : h.size ≤ h20.size ∧ h20.size ≤ b21 ∧ b21 < b27 ∧ b27 < b31 ∧ b31 < h39.size ∧ h39.size ≤ b40 ∧ b40 < h48.size ∧ h48.size ≤ b49 ∧ b49 < b51 ∧ b51 < h62.size ∧ h62.size ≤ b63 ∧ b63 < h76.size ∧ h76.size ≤ b77 ∧ b77 < b79 ∧ b79 < h80.size := by omega
  clear n79_a n79_z s80_z g_16
  intro b81 h81 n81
  have n81_a := n81.at_
  have n81_z := n81.size
  replace p0 := p0.fresh (n81.fr (lo := 0) (hi := 0)) (by omega)
  replace p20 := p20.fresh (n81.fr (lo := 0) (hi := 0)) (by omega)
  replace r21 := r21.fr (n81.fr (lo := 0) (hi := 0)) (by omega)
  replace r27 := r27.fr (n81.fr (lo := 0) (hi := 0)) (by omega)
  replace r31 := r31.fr (n81.fr (lo := 0) (hi := 0)) (by omega)
  replace p39 := p39.fresh (n81.fr (lo := 0) (hi := 0)) (by omega)
  replace r40 := r40.fr (n81.fr (lo := 0) (hi := 0)) (by omega)
  replace p48 := p48.fresh (n81.fr (lo := 0) (hi := 0)) (by omega)
  replace r49 := r49.fr (n81.fr (lo := 0) (hi := 0)) (by omega)
  replace r51 := r51.fr (n81.fr (lo := 0) (hi := 0)) (by omega)
  replace p62 := p62.fresh (n81.fr (lo := 0) (hi := 0)) (by omega)
  replace r63 := r63.fr (n81.fr (lo := 0) (hi := 0)) (by omega)
  replace p76 := p76.fresh (n81.fr (lo := 0) (hi := 0)) (by omega)
  replace r77 := r77.fr (n81.fr (lo := 0) (hi := 0)) (by omega)
  replace r79 := r79.fr (n81.fr (lo := 0) (hi := 0)) (by omega)
  have r81 := n81.row
  replace r81 : Rw h81 b81 (pairsV [(5, 6)]) := r81
  simp -dsimp only [go_sem, r21.cell, r27.cell, r31.cell, r40.cell, r49.cell, r51.cell, r63.cell, r77.cell, r79.cell, r81.cell]
  refine Chk_intro (r77.wr (by first | (simp; done) | (simp; omega))) fun h82 s82 => ?_
  have s82_z := s82.size
  replace p0 := p0.fresh s82.fr (by omega)
  replace p20 := p20.fresh s82.fr (by omega)
  replace r21 := r21.fr s82.fr (by omega)
  replace r27 := r27.fr s82.fr (by omega)
  replace r31 := r31.fr s82.fr (by omega)
  replace p39 := p39.fresh s82.fr (by omega)
  replace r40 := r40.fr s82.fr (by omega)
  replace p48 := p48.fresh s82.fr (by omega)
  replace r49 := r49.fr s82.fr (by omega)
  replace r51 := r51.fr s82.fr (by omega)
  replace p62 := p62.fresh s82.fr (by omega)
  replace r63 := r63.fr s82.fr (by omega)
  replace p76 := p76.fresh s82.fr (by omega)
  replace r79 := r79.fr s82.fr (by omega)
  replace r81 := r81.fr s82.fr (by omega)
  replace r77 := s82.row r77
  try simp only [cl_int, cl_bool, cl_slice, cl_ptr, putAt_one, List.set_cons_zero, List.set_cons_succ, ivec_set, brow_upd] at r77
  try simp -dsimp only [go_sem] at r77
  simp -dsimp only [go_sem, r21.cell, r27.cell, r31.cell, r40.cell, r49.cell, r51.cell, r63.cell, r77.cell, r79.cell, r81.cell]
  have g_18 : h.size ≤ h20.size ∧ h20.size ≤ b21 ∧ b21 < b27 ∧ b27 < b31 ∧ b31 < h39.size ∧ h39.size ≤ b40 ∧ b40 < h48.size ∧ h48.size ≤ b49 ∧ b49 < b51 ∧ b51 < h62.size ∧ h62.size ≤ b63 ∧ b63 < h76.size ∧ h76.size ≤ b77 ∧ b77 < b79 ∧ b79 < b81 ∧ b81 < h82.size := by omega
  clear n81_a n81_z s82_z g_17
  refine call_of (c_law11_buffering 1 1) ?_
  rintro v83 h83 ⟨f83, q83, rfl, t83⟩
  have f83_z := f83.size
  replace p0 := p0.fresh f83 (by omega)
  replace p20 := p20.fresh f83 (by omega)
  replace r21 := r21.fr f83 (by omega)
  replace r27 := r27.fr f83 (by omega)
  replace r31 := r31.fr f83 (by omega)
  replace p39 := p39.fresh f83 (by omega)
  replace r40 := r40.fr f83 (by omega)
  replace p48 := p48.fresh f83 (by omega)
  replace r49 := r49.fr f83 (by omega)
  replace r51 := r51.fr f83 (by omega)
  replace p62 := p62.fresh f83 (by omega)
  replace r63 := r63.fr f83 (by omega)
  replace p76 := p76.fresh f83 (by omega)
  replace r77 := r77.fr f83 (by omega)
  replace r79 := r79.fr f83 (by omega)
  replace r81 := r81.fr f83 (by omega)
  have p83 : Fr 0 0 h83 h83 := .refl _ _ _
  unfold gcells
  simp -dsimp only [go_sem, r21.cell, r27.cell, r31.cell, r40.cell, r49.cell, r51.cell, r63.cell, r77.cell, r79.cell, r81.cell]
  refine call_of (arm_Check (g := k11_5) (t83.fr p83) (ht.fr p0 (.inr rfl))) ?_
  rintro v84 h84 ⟨f84, w84⟩
  have f84_z := f84.size
  replace p0 := p0.fresh f84 (by omega)
  replace p20 := p20.fresh f84 (by omega)
  replace r21 := r21.fr f84 (by omega)
  replace r27 := r27.fr f84 (by omega)
  replace r31 := r31.fr f84 (by omega)
  replace p39 := p39.fresh f84 (by omega)
  replace r40 := r40.fr f84 (by omega)
  replace p48 := p48.fresh f84 (by omega)
  replace r49 := r49.fr f84 (by omega)
  replace r51 := r51.fr f84 (by omega)
  replace p62 := p62.fresh f84 (by omega)
  replace r63 := r63.fr f84 (by omega)
  replace p76 := p76.fresh f84 (by omega)
  replace r77 := r77.fr f84 (by omega)
  replace r79 := r79.fr f84 (by omega)
  replace r81 := r81.fr f84 (by omega)
  replace p83 := p83.fresh f84 (by omega)
  rw [if_neg k11_5_n] at w84
  subst w84
  simp -dsimp only [go_sem, r21.cell, r27.cell, r31.cell, r40.cell, r49.cell, r51.cell, r63.cell, r77.cell, r79.cell, r81.cell]
  have g_19 : h.size ≤ h20.size ∧ h20.size ≤ b21 ∧ b21 < b27 ∧ b27 < b31 ∧ b31 < h39.size ∧ h39.size ≤ b40 ∧ b40 < h48.size ∧ h48.size ≤ b49 ∧ b49 < b51 ∧ b51 < h62.size ∧ h62.size ≤ b63 ∧ b63 < h76.size ∧ h76.size ≤ b77 ∧ b77 < b79 ∧ b79 < b81 ∧ b81 < h83.size ∧ h83.size ≤ h84.size := by omega
  clear f83_z f84_z g_18
  intro b85 h85 n85
  have n85_a := n85.at_
  have n85_z := n85.size
  replace p0 := p0.fresh (n85.fr (lo := 0) (hi := 0)) (by omega)
  replace p20 := p20.fresh (n85.fr (lo := 0) (hi := 0)) (by omega)
  replace r21 := r21.fr (n85.fr (lo := 0) (hi := 0)) (by omega)
  replace r27 := r27.fr (n85.fr (lo := 0) (hi := 0)) (by omega)
  replace r31 := r31.fr (n85.fr (lo := 0) (hi := 0)) (by omega)
  replace p39 := p39.fresh (n85.fr (lo := 0) (hi := 0)) (by omega)
  replace r40 := r40.fr (n85.fr (lo := 0) (hi := 0)) (by omega)
  replace p48 := p48.fresh (n85.fr (lo := 0) (hi := 0)) (by omega)
  replace r49 := r49.fr (n85.fr (lo := 0) (hi := 0)) (by omega)
  replace r51 := r51.fr (n85.fr (lo := 0) (hi := 0)) (by omega)
  replace p62 := p62.fresh (n85.fr (lo := 0) (hi := 0)) (by omega)
  replace r63 := r63.fr (n85.fr (lo := 0) (hi := 0)) (by omega)
  replace p76 := p76.fresh (n85.fr (lo := 0) (hi := 0)) (by omega)
  replace r77 := r77.fr (n85.fr (lo := 0) (hi := 0)) (by omega)
  replace r79 := r79.fr (n85.fr (lo := 0) (hi := 0)) (by omega)
  replace r81 := r81.fr (n85.fr (lo := 0) (hi := 0)) (by omega)
  replace p83 := p83.fresh (n85.fr (lo := 0) (hi := 0)) (by omega)
  have r85 := n85.row
  simp -dsimp only [go_sem, r21.cell, r27.cell, r31.cell, r40.cell, r49.cell, r51.cell, r63.cell, r77.cell, r79.cell, r81.cell, r85.cell]
  refine Chk_intro (r85.wr (by first | (simp; done) | (simp; omega))) fun h86 s86 => ?_
  have s86_z := s86.size
  replace p0 := p0.fresh s86.fr (by omega)
  replace p20 := p20.fresh s86.fr (by omega)
  replace r21 := r21.fr s86.fr (by omega)
  replace r27 := r27.fr s86.fr (by omega)
  replace r31 := r31.fr s86.fr (by omega)
  replace p39 := p39.fresh s86.fr (by omega)
  replace r40 := r40.fr s86.fr (by omega)
  replace p48 := p48.fresh s86.fr (by omega)
  replace r49 := r49.fr s86.fr (by omega)
  replace r51 := r51.fr s86.fr (by omega)
  replace p62 := p62.fresh s86.fr (by omega)
  replace r63 := r63.fr s86.fr (by omega)
  replace p76 := p76.fresh s86.fr (by omega)
  replace r77 := r77.fr s86.fr (by omega)
  replace r79 := r79.fr s86.fr (by omega)
  replace r81 := r81.fr s86.fr (by omega)
  replace p83 := p83.fresh s86.fr (by omega)
  replace r85 := s86.row r85
  try simp only [cl_int, cl_bool, cl_slice, cl_ptr, putAt_one, List.set_cons_zero, List.set_cons_succ, ivec_set, brow_upd] at r85
  try simp -dsimp only [go_sem] at r85
  simp -dsimp only [go_sem, r21.cell, r27.cell, r31.cell, r40.cell, r49.cell, r51.cell, r63.cell, r77.cell, r79.cell, r81.cell, r85.cell]
  have g_20 : h.size ≤ h20.size ∧ h20.size ≤ b21 ∧ b21 < b27 ∧ b27 < b31 ∧ b31 < h39.size ∧ h39.size ≤ b40 ∧ b40 < h48.size ∧ h48.size ≤ b49 ∧ b49 < b51 ∧ b51 < h62.size ∧ h62.size ≤ b63 ∧ b63 < h76.size ∧ h76.size ≤ b77 ∧ b77 < b79 ∧ b79 < b81 ∧ b81 < h83.size ∧ h83.size ≤ b85 ∧ b85 < h86.size := by omega
  clear n85_a n85_z s86_z g_19
  intro b87 h87 n87
  have n87_a := n87.at_
  have n87_z := n87.size
  replace p0 := p0.fresh (n87.fr (lo := 0) (hi := 0)) (by omega)
  replace p20 := p20.fresh (n87.fr (lo := 0) (hi := 0)) (by omega)
  replace r21 := r21.fr (n87.fr (lo := 0) (hi := 0)) (by omega)
  replace r27 := r27.fr (n87.fr (lo := 0) (hi := 0)) (by omega)
  replace r31 := r31.fr (n87.fr (lo := 0) (hi := 0)) (by omega)
  replace p39 := p39.fresh (n87.fr (lo := 0) (hi := 0)) (by omega)
  replace r40 := r40.fr (n87.fr (lo := 0) (hi := 0)) (by omega)
  replace p48 := p48.fresh (n87.fr (lo := 0) (hi := 0)) (by omega)
  replace r49 := r49.fr (n87.fr (lo := 0) (hi := 0)) (by omega)
  replace r51 := r51.fr (n87.fr (lo := 0) (hi := 0)) (by omega)
  replace p62 := p62.fresh (n87.fr (lo := 0) (hi := 0)) (by omega)
  replace r63 := r63.fr (n87.fr (lo := 0) (hi := 0)) (by omega)
  replace p76 := p76.fresh (n87.fr (lo := 0) (hi := 0)) (by omega)
  replace r77 := r77.fr (n87.fr (lo := 0) (hi := 0)) (by omega)
  replace r79 := r79.fr (n87.fr (lo := 0) (hi := 0)) (by omega)
  replace r81 := r81.fr (n87.fr (lo := 0) (hi := 0)) (by omega)
  replace p83 := p83.fresh (n87.fr (lo := 0) (hi := 0)) (by omega)
  replace r85 := r85.fr (n87.fr (lo := 0) (hi := 0)) (by omega)
  have r87 := n87.row
  simp -dsimp only [go_sem, r21.cell, r27.cell, r31.cell, r40.cell, r49.cell, r51.cell, r63.cell, r77.cell, r79.cell, r81.cell, r85.cell, r87.cell]
  refine (holder_row (s := 5) (n := 0) (lo := b87) r87 rfl (Nat.le_refl _)).appendRd (GrAt.setR (GrAt.setD (t76.fr p76) (Rw.rd (s := 2) (n := 1) (c := 1) r79 rfl) (by decide)) (Rw.rd (s := 2) (n := 1) (c := 1) r81 rfl) (by decide)).e (by omega) rfl (by omega) (oc_evs _) (by decide) fun v88 h88 o88 f88 e88 => ?_
  have lb88 : bl (.slice (some ⟨b87, 0, none⟩) 0 0) = b87 ∧ bh (.slice (some ⟨b87, 0, none⟩) 0 0) = b87 + 1 := ⟨rfl, rfl⟩
  rw [lb88.1, lb88.2] at f88
  clear r87
  have y88 : Fr b87 (b87 + 1) _ _ := f88
  have y88_z := y88.size
  replace p0 := p0.fresh y88 (by omega)
  replace p20 := p20.fresh y88 (by omega)
  replace r21 := r21.fr y88 (by omega)
  replace r27 := r27.fr y88 (by omega)
  replace r31 := r31.fr y88 (by omega)
  replace p39 := p39.fresh y88 (by omega)
  replace r40 := r40.fr y88 (by omega)
  replace p48 := p48.fresh y88 (by omega)
  replace r49 := r49.fr y88 (by omega)
  replace r51 := r51.fr y88 (by omega)
  replace p62 := p62.fresh y88 (by omega)
  replace r63 := r63.fr y88 (by omega)
  replace p76 := p76.fresh y88 (by omega)
  replace r77 := r77.fr y88 (by omega)
  replace r79 := r79.fr y88 (by omega)
  replace r81 := r81.fr y88 (by omega)
  replace p83 := p83.fresh y88 (by omega)
  replace r85 := r85.fr y88 (by omega)
  have o88_a := o88.at_
  obtain ⟨a88, c88, rfl⟩ := o88.is
  replace o88 : Holder 5 h88 (.slice a88 9 c88) 9 (evsV ({ { (twoG 11 [⟨0, 2, 1, 1, 11⟩, ⟨1, 1, 1, 1, 11⟩, ⟨1, 2, 0, 1, 11⟩, ⟨2, 1, 0, 1, 11⟩, ⟨2, 2, 0, 2, 11⟩, ⟨2, 1, 0, 2, 12⟩, ⟨2, 1, 1, 0, 11⟩] [(2, 3), (4, 5), (6, 7), (1, 8)] [4, 6] [2]) with data := [(3, 4)] } with rmw := [(5, 6)] }).evs) b87 := o88
  clear e88
  simp -dsimp only [go_sem, r21.cell, r27.cell, r31.cell, r40.cell, r49.cell, r51.cell, r63.cell, r77.cell, r79.cell, r81.cell, r85.cell]
  refine Chk_intro (r85.wr (by first | (simp; done) | (simp; omega))) fun h89 s89 => ?_
  have s89_z := s89.size
  replace p0 := p0.fresh s89.fr (by omega)
  replace p20 := p20.fresh s89.fr (by omega)
  replace r21 := r21.fr s89.fr (by omega)
  replace r27 := r27.fr s89.fr (by omega)
  replace r31 := r31.fr s89.fr (by omega)
  replace p39 := p39.fresh s89.fr (by omega)
  replace r40 := r40.fr s89.fr (by omega)
  replace p48 := p48.fresh s89.fr (by omega)
  replace r49 := r49.fr s89.fr (by omega)
  replace r51 := r51.fr s89.fr (by omega)
  replace p62 := p62.fresh s89.fr (by omega)
  replace r63 := r63.fr s89.fr (by omega)
  replace p76 := p76.fresh s89.fr (by omega)
  replace r77 := r77.fr s89.fr (by omega)
  replace r79 := r79.fr s89.fr (by omega)
  replace r81 := r81.fr s89.fr (by omega)
  replace p83 := p83.fresh s89.fr (by omega)
  replace o88 := o88.fr s89.fr (by have := o88.at_; omega)
  replace r85 := s89.row r85
  try simp only [cl_int, cl_bool, cl_slice, cl_ptr, putAt_one, List.set_cons_zero, List.set_cons_succ, ivec_set, brow_upd] at r85
  try simp -dsimp only [go_sem] at r85
  simp -dsimp only [go_sem, r21.cell, r27.cell, r31.cell, r40.cell, r49.cell, r51.cell, r63.cell, r77.cell, r79.cell, r81.cell, r85.cell]
  obtain ⟨be, ce, rest, k1, k2, k3, k4⟩ := o88.blk (by decide)
  cases k1
  clear k2
  try simp -dsimp only [go_sem, r21.cell, r27.cell, r31.cell, r40.cell, r49.cell, r51.cell, r63.cell, r77.cell, r79.cell, r81.cell, r85.cell]
  refine Chk_intro (by decide) ?_
  try simp -dsimp only [go_sem, r21.cell, r27.cell, r31.cell, r40.cell, r49.cell, r51.cell, r63.cell, r77.cell, r79.cell, r81.cell, r85.cell]
  refine Chk_intro (holder_ev o88 (i := 7) (by decide)).1 fun h90 s90 => ?_
  have o90 := (holder_ev o88 (i := 7) (by decide)).2.2.1 h90 16 s90
  have z90 := s90.size
  clear o88
  have y90 : Fr be (be + 1) _ _ := s90.fr
  have y90_z := y90.size
  replace p0 := p0.fresh y90 (by omega)
  replace p20 := p20.fresh y90 (by omega)
  replace r21 := r21.fr y90 (by omega)
  replace r27 := r27.fr y90 (by omega)
  replace r31 := r31.fr y90 (by omega)
  replace p39 := p39.fresh y90 (by omega)
  replace r40 := r40.fr y90 (by omega)
  replace p48 := p48.fresh y90 (by omega)
  replace r49 := r49.fr y90 (by omega)
  replace r51 := r51.fr y90 (by omega)
  replace p62 := p62.fresh y90 (by omega)
  replace r63 := r63.fr y90 (by omega)
  replace p76 := p76.fresh y90 (by omega)
  replace r77 := r77.fr y90 (by omega)
  replace r79 := r79.fr y90 (by omega)
  replace r81 := r81.fr y90 (by omega)
  replace p83 := p83.fresh y90 (by omega)
  replace r85 := r85.fr y90 (by omega)
  have ro : Rd 5 h90 (.slice (some ⟨be, 0, none⟩) kE.length c88) kE.length (evsV kE) := by rw [kE_len]; exact o90.rd
  have pe : Fr 0 0 h90 h90 := .refl _ _ _
  clear o90
  simp -dsimp only [go_sem, r21.cell, r27.cell, r31.cell, r40.cell, r49.cell, r51.cell, r63.cell, r77.cell, r79.cell, r81.cell, r85.cell]
  refine call_of (c_law11_buffering 13 16) ?_
  rintro v91 h91 ⟨f91, q91, rfl, t91⟩
  have f91_z := f91.size
  replace p0 := p0.fresh f91 (by omega)
  replace p20 := p20.fresh f91 (by omega)
  replace r21 := r21.fr f91 (by omega)
  replace r27 := r27.fr f91 (by omega)
  replace r31 := r31.fr f91 (by omega)
  replace p39 := p39.fresh f91 (by omega)
  replace r40 := r40.fr f91 (by omega)
  replace p48 := p48.fresh f91 (by omega)
  replace r49 := r49.fr f91 (by omega)
  replace r51 := r51.fr f91 (by omega)
  replace p62 := p62.fresh f91 (by omega)
  replace r63 := r63.fr f91 (by omega)
  replace p76 := p76.fresh f91 (by omega)
  replace r77 := r77.fr f91 (by omega)
  replace r79 := r79.fr f91 (by omega)
  replace r81 := r81.fr f91 (by omega)
  replace p83 := p83.fresh f91 (by omega)
  replace r85 := r85.fr f91 (by omega)
  replace pe := pe.fresh f91 (by omega)
  have p91 : Fr 0 0 h91 h91 := .refl _ _ _
  unfold gcells
  simp -dsimp only [go_sem, r21.cell, r27.cell, r31.cell, r40.cell, r49.cell, r51.cell, r63.cell, r77.cell, r79.cell, r81.cell, r85.cell]
  refine call_of (c_law11_says (g := k11_6) (t91.fr p91) (ht.fr p0 (.inr rfl)) (l := []) nilI 0) ?_
  rintro v92 h92 ⟨f92, rfl⟩
  have f92_z := f92.size
  replace p0 := p0.fresh f92 (by omega)
  replace p20 := p20.fresh f92 (by omega)
  replace r21 := r21.fr f92 (by omega)
  replace r27 := r27.fr f92 (by omega)
  replace r31 := r31.fr f92 (by omega)
  replace p39 := p39.fresh f92 (by omega)
  replace r40 := r40.fr f92 (by omega)
  replace p48 := p48.fresh f92 (by omega)
  replace r49 := r49.fr f92 (by omega)
  replace r51 := r51.fr f92 (by omega)
  replace p62 := p62.fresh f92 (by omega)
  replace r63 := r63.fr f92 (by omega)
  replace p76 := p76.fresh f92 (by omega)
  replace r77 := r77.fr f92 (by omega)
  replace r79 := r79.fr f92 (by omega)
  replace r81 := r81.fr f92 (by omega)
  replace p83 := p83.fresh f92 (by omega)
  replace r85 := r85.fr f92 (by omega)
  replace pe := pe.fresh f92 (by omega)
  replace p91 := p91.fresh f92 (by omega)
  rw [k11_6_s]
  simp -dsimp only [go_sem, r21.cell, r27.cell, r31.cell, r40.cell, r49.cell, r51.cell, r63.cell, r77.cell, r79.cell, r81.cell, r85.cell]
  refine call_of (c_law11_passing 13 16) ?_
  rintro v93 h93 ⟨f93, q93, rfl, t93⟩
  have f93_z := f93.size
  replace p0 := p0.fresh f93 (by omega)
  replace p20 := p20.fresh f93 (by omega)
  replace r21 := r21.fr f93 (by omega)
  replace r27 := r27.fr f93 (by omega)
  replace r31 := r31.fr f93 (by omega)
  replace p39 := p39.fresh f93 (by omega)
  replace r40 := r40.fr f93 (by omega)
  replace p48 := p48.fresh f93 (by omega)
  replace r49 := r49.fr f93 (by omega)
  replace r51 := r51.fr f93 (by omega)
  replace p62 := p62.fresh f93 (by omega)
  replace r63 := r63.fr f93 (by omega)
  replace p76 := p76.fresh f93 (by omega)
  replace r77 := r77.fr f93 (by omega)
  replace r79 := r79.fr f93 (by omega)
  replace r81 := r81.fr f93 (by omega)
  replace p83 := p83.fresh f93 (by omega)
  replace r85 := r85.fr f93 (by omega)
  replace pe := pe.fresh f93 (by omega)
  replace p91 := p91.fresh f93 (by omega)
  have p93 : Fr 0 0 h93 h93 := .refl _ _ _
  unfold gcells
  simp -dsimp only [go_sem, r21.cell, r27.cell, r31.cell, r40.cell, r49.cell, r51.cell, r63.cell, r77.cell, r79.cell, r81.cell, r85.cell]
  intro b94 h94 n94
  have n94_a := n94.at_
  have n94_z := n94.size
  replace p0 := p0.fresh (n94.fr (lo := 0) (hi := 0)) (by omega)
  replace p20 := p20.fresh (n94.fr (lo := 0) (hi := 0)) (by omega)
  replace r21 := r21.fr (n94.fr (lo := 0) (hi := 0)) (by omega)
  replace r27 := r27.fr (n94.fr (lo := 0) (hi := 0)) (by omega)
  replace r31 := r31.fr (n94.fr (lo := 0) (hi := 0)) (by omega)
  replace p39 := p39.fresh (n94.fr (lo := 0) (hi := 0)) (by omega)
  replace r40 := r40.fr (n94.fr (lo := 0) (hi := 0)) (by omega)
  replace p48 := p48.fresh (n94.fr (lo := 0) (hi := 0)) (by omega)
  replace r49 := r49.fr (n94.fr (lo := 0) (hi := 0)) (by omega)
  replace r51 := r51.fr (n94.fr (lo := 0) (hi := 0)) (by omega)
  replace p62 := p62.fresh (n94.fr (lo := 0) (hi := 0)) (by omega)
  replace r63 := r63.fr (n94.fr (lo := 0) (hi := 0)) (by omega)
  replace p76 := p76.fresh (n94.fr (lo := 0) (hi := 0)) (by omega)
  replace r77 := r77.fr (n94.fr (lo := 0) (hi := 0)) (by omega)
  replace r79 := r79.fr (n94.fr (lo := 0) (hi := 0)) (by omega)
  replace r81 := r81.fr (n94.fr (lo := 0) (hi := 0)) (by omega)
  replace p83 := p83.fresh (n94.fr (lo := 0) (hi := 0)) (by omega)
  replace r85 := r85.fr (n94.fr (lo := 0) (hi := 0)) (by omega)
  replace pe := pe.fresh (n94.fr (lo := 0) (hi := 0)) (by omega)
  replace p91 := p91.fresh (n94.fr (lo := 0) (hi := 0)) (by omega)
  replace p93 := p93.fresh (n94.fr (lo := 0) (hi := 0)) (by omega)
  have r94 := n94.row
  replace r94 : Rw h94 b94 (intsV [2, 3, 4, 5]) := r94
  simp -dsimp only [go_sem, r21.cell, r27.cell, r31.cell, r40.cell, r49.cell, r51.cell, r63.cell, r77.cell, r79.cell, r81.cell, r85.cell, r94.cell]
  refine call_of (c_law11_says (g := k11_7) (t93.fr p93) (ht.fr p0 (.inr rfl)) (l := [2, 3, 4, 5]) (Rw.rd (s := 1) (n := 4) (c := 4) r94 rfl) 2) ?_
  rintro v95 h95 ⟨f95, rfl⟩
  have f95_z := f95.size
  replace p0 := p0.fresh f95 (by omega)
  replace p20 := p20.fresh f95 (by omega)
  replace r21 := r21.fr f95 (by omega)
  replace r27 := r27.fr f95 (by omega)
  replace r31 := r31.fr f95 (by omega)
  replace p39 := p39.fresh f95 (by omega)
  replace r40 := r40.fr f95 (by omega)
  replace p48 := p48.fresh f95 (by omega)
  replace r49 := r49.fr f95 (by omega)
  replace r51 := r51.fr f95 (by omega)
  replace p62 := p62.fresh f95 (by omega)
  replace r63 := r63.fr f95 (by omega)
  replace p76 := p76.fresh f95 (by omega)
  replace r77 := r77.fr f95 (by omega)
  replace r79 := r79.fr f95 (by omega)
  replace r81 := r81.fr f95 (by omega)
  replace p83 := p83.fresh f95 (by omega)
  replace r85 := r85.fr f95 (by omega)
  replace pe := pe.fresh f95 (by omega)
  replace p91 := p91.fresh f95 (by omega)
  replace p93 := p93.fresh f95 (by omega)
  replace r94 := r94.fr f95 (by omega)
  rw [k11_7_s]
  simp -dsimp only [go_sem, r21.cell, r27.cell, r31.cell, r40.cell, r49.cell, r51.cell, r63.cell, r77.cell, r79.cell, r81.cell, r85.cell, r94.cell]
  clear r94
  intro b96 h96 n96
  have n96_a := n96.at_
  have n96_z := n96.size
  replace p0 := p0.fresh (n96.fr (lo := 0) (hi := 0)) (by omega)
  replace p20 := p20.fresh (n96.fr (lo := 0) (hi := 0)) (by omega)
  replace r21 := r21.fr (n96.fr (lo := 0) (hi := 0)) (by omega)
  replace r27 := r27.fr (n96.fr (lo := 0) (hi := 0)) (by omega)
  replace r31 := r31.fr (n96.fr (lo := 0) (hi := 0)) (by omega)
  replace p39 := p39.fresh (n96.fr (lo := 0) (hi := 0)) (by omega)
  replace r40 := r40.fr (n96.fr (lo := 0) (hi := 0)) (by omega)
  replace p48 := p48.fresh (n96.fr (lo := 0) (hi := 0)) (by omega)
  replace r49 := r49.fr (n96.fr (lo := 0) (hi := 0)) (by omega)
  replace r51 := r51.fr (n96.fr (lo := 0) (hi := 0)) (by omega)
  replace p62 := p62.fresh (n96.fr (lo := 0) (hi := 0)) (by omega)
  replace r63 := r63.fr (n96.fr (lo := 0) (hi := 0)) (by omega)
  replace p76 := p76.fresh (n96.fr (lo := 0) (hi := 0)) (by omega)
  replace r77 := r77.fr (n96.fr (lo := 0) (hi := 0)) (by omega)
  replace r79 := r79.fr (n96.fr (lo := 0) (hi := 0)) (by omega)
  replace r81 := r81.fr (n96.fr (lo := 0) (hi := 0)) (by omega)
  replace p83 := p83.fresh (n96.fr (lo := 0) (hi := 0)) (by omega)
  replace r85 := r85.fr (n96.fr (lo := 0) (hi := 0)) (by omega)
  replace pe := pe.fresh (n96.fr (lo := 0) (hi := 0)) (by omega)
  replace p91 := p91.fresh (n96.fr (lo := 0) (hi := 0)) (by omega)
  replace p93 := p93.fresh (n96.fr (lo := 0) (hi := 0)) (by omega)
  have r96 := n96.row
  replace r96 : Rw h96 b96 (intsV [2, 3, 4, 6, 7, 8]) := r96
  simp -dsimp only [go_sem, r21.cell, r27.cell, r31.cell, r40.cell, r49.cell, r51.cell, r63.cell, r77.cell, r79.cell, r81.cell, r85.cell, r96.cell]
  refine call_of (c_law11_says (g := k11_8) (GrAt.setE (l := kE) (c := c88) (GrAt.setR (GrAt.setD (t76.fr p76) (Rw.rd (s := 2) (n := 1) (c := 1) r79 rfl) (by decide)) (Rw.rd (s := 2) (n := 1) (c := 1) r81 rfl) (by decide)) (ro.fr pe) (by rw [kE_len]; decide)) (ht.fr p0 (.inr rfl)) (l := [2, 3, 4, 6, 7, 8]) (Rw.rd (s := 1) (n := 6) (c := 6) r96 rfl) 2) ?_
  rintro v97 h97 ⟨f97, rfl⟩
  have f97_z := f97.size
  replace p0 := p0.fresh f97 (by omega)
  replace p20 := p20.fresh f97 (by omega)
  replace r21 := r21.fr f97 (by omega)
  replace r27 := r27.fr f97 (by omega)
  replace r31 := r31.fr f97 (by omega)
  replace p39 := p39.fresh f97 (by omega)
  replace r40 := r40.fr f97 (by omega)
  replace p48 := p48.fresh f97 (by omega)
  replace r49 := r49.fr f97 (by omega)
  replace r51 := r51.fr f97 (by omega)
  replace p62 := p62.fresh f97 (by omega)
  replace r63 := r63.fr f97 (by omega)
  replace p76 := p76.fresh f97 (by omega)
  replace r77 := r77.fr f97 (by omega)
  replace r79 := r79.fr f97 (by omega)
  replace r81 := r81.fr f97 (by omega)
  replace p83 := p83.fresh f97 (by omega)
  replace r85 := r85.fr f97 (by omega)
  replace pe := pe.fresh f97 (by omega)
  replace p91 := p91.fresh f97 (by omega)
  replace p93 := p93.fresh f97 (by omega)
  replace r96 := r96.fr f97 (by omega)
  rw [k11_8_s]
  simp -dsimp only [go_sem, r21.cell, r27.cell, r31.cell, r40.cell, r49.cell, r51.cell, r63.cell, r77.cell, r79.cell, r81.cell, r85.cell, r96.cell]
  clear r96
  clear r85
  have g_21 : h.size ≤ h20.size ∧ h20.size ≤ b21 ∧ b21 < b27 ∧ b27 < b31 ∧ b31 < h39.size ∧ h39.size ≤ b40 ∧ b40 < h48.size ∧ h48.size ≤ b49 ∧ b49 < b51 ∧ b51 < h62.size ∧ h62.size ≤ b63 ∧ b63 < h76.size ∧ h76.size ≤ b77 ∧ b77 < b79 ∧ b79 < b81 ∧ b81 < h83.size ∧ h83.size ≤ h91.size ∧ h91.size ≤ h93.size ∧ h93.size ≤ h97.size := by omega
  clear n87_a n87_z y88_z s89_z y90_z z90 f91_z f92_z f93_z n94_a n94_z f95_z n96_a n96_z f97_z g_20
  intro b98 h98 n98
  have n98_a := n98.at_
  have n98_z := n98.size
  replace p0 := p0.fresh (n98.fr (lo := 0) (hi := 0)) (by omega)
  replace p20 := p20.fresh (n98.fr (lo := 0) (hi := 0)) (by omega)
  replace r21 := r21.fr (n98.fr (lo := 0) (hi := 0)) (by omega)
  replace r27 := r27.fr (n98.fr (lo := 0) (hi := 0)) (by omega)
  replace r31 := r31.fr (n98.fr (lo := 0) (hi := 0)) (by omega)
  replace p39 := p39.fresh (n98.fr (lo := 0) (hi := 0)) (by omega)
  replace r40 := r40.fr (n98.fr (lo := 0) (hi := 0)) (by omega)
  replace p48 := p48.fresh (n98.fr (lo := 0) (hi := 0)) (by omega)
  replace r49 := r49.fr (n98.fr (lo := 0) (hi := 0)) (by omega)
  replace r51 := r51.fr (n98.fr (lo := 0) (hi := 0)) (by omega)
  replace p62 := p62.fresh (n98.fr (lo := 0) (hi := 0)) (by omega)
  replace r63 := r63.fr (n98.fr (lo := 0) (hi := 0)) (by omega)
  replace p76 := p76.fresh (n98.fr (lo := 0) (hi := 0)) (by omega)
  replace r77 := r77.fr (n98.fr (lo := 0) (hi := 0)) (by omega)
  replace r79 := r79.fr (n98.fr (lo := 0) (hi := 0)) (by omega)
  replace r81 := r81.fr (n98.fr (lo := 0) (hi := 0)) (by omega)
  replace p83 := p83.fresh (n98.fr (lo := 0) (hi := 0)) (by omega)
  replace pe := pe.fresh (n98.fr (lo := 0) (hi := 0)) (by omega)
  replace p91 := p91.fresh (n98.fr (lo := 0) (hi := 0)) (by omega)
  replace p93 := p93.fresh (n98.fr (lo := 0) (hi := 0)) (by omega)
  have r98 := n98.row
  replace r98 : Rw h98 b98 (intsV [2, 3, 4, 5]) := r98
  simp -dsimp only [go_sem, r21.cell, r27.cell, r31.cell, r40.cell, r49.cell, r51.cell, r63.cell, r77.cell, r79.cell, r81.cell, r98.cell]
  refine call_of (c_law11_says (g := k11_9) (GrAt.setC (GrAt.setD (GrAt.setD (t20.fr p20) (Rw.rd (s := 2) (n := 1) (c := 1) r27 rfl) (by decide)) nilP (by decide)) (Rw.rd (s := 2) (n := 2) (c := 2) r31 rfl) (by decide)) (ht.fr p0 (.inr rfl)) (l := [2, 3, 4, 5]) (Rw.rd (s := 1) (n := 4) (c := 4) r98 rfl) 2) ?_
  rintro v99 h99 ⟨f99, rfl⟩
  have f99_z := f99.size
  replace p0 := p0.fresh f99 (by omega)
  replace p20 := p20.fresh f99 (by omega)
  replace r21 := r21.fr f99 (by omega)
  replace r27 := r27.fr f99 (by omega)
  replace r31 := r31.fr f99 (by omega)
  replace p39 := p39.fresh f99 (by omega)
  replace r40 := r40.fr f99 (by omega)
  replace p48 := p48.fresh f99 (by omega)
  replace r49 := r49.fr f99 (by omega)
  replace r51 := r51.fr f99 (by omega)
  replace p62 := p62.fresh f99 (by omega)
  replace r63 := r63.fr f99 (by omega)
  replace p76 := p76.fresh f99 (by omega)
  replace r77 := r77.fr f99 (by omega)
  replace r79 := r79.fr f99 (by omega)
  replace r81 := r81.fr f99 (by omega)
  replace p83 := p83.fresh f99 (by omega)
  replace pe := pe.fresh f99 (by omega)
  replace p91 := p91.fresh f99 (by omega)
  replace p93 := p93.fresh f99 (by omega)
  replace r98 := r98.fr f99 (by omega)
  rw [k11_9_s]
  simp -dsimp only [go_sem, r21.cell, r27.cell, r31.cell, r40.cell, r49.cell, r51.cell, r63.cell, r77.cell, r79.cell, r81.cell, r98.cell]
  clear r98
  intro b100 h100 n100
  have n100_a := n100.at_
  have n100_z := n100.size
  replace p0 := p0.fresh (n100.fr (lo := 0) (hi := 0)) (by omega)
  replace p20 := p20.fresh (n100.fr (lo := 0) (hi := 0)) (by omega)
  replace r21 := r21.fr (n100.fr (lo := 0) (hi := 0)) (by omega)
  replace r27 := r27.fr (n100.fr (lo := 0) (hi := 0)) (by omega)
  replace r31 := r31.fr (n100.fr (lo := 0) (hi := 0)) (by omega)
  replace p39 := p39.fresh (n100.fr (lo := 0) (hi := 0)) (by omega)
  replace r40 := r40.fr (n100.fr (lo := 0) (hi := 0)) (by omega)
  replace p48 := p48.fresh (n100.fr (lo := 0) (hi := 0)) (by omega)
  replace r49 := r49.fr (n100.fr (lo := 0) (hi := 0)) (by omega)
  replace r51 := r51.fr (n100.fr (lo := 0) (hi := 0)) (by omega)
  replace p62 := p62.fresh (n100.fr (lo := 0) (hi := 0)) (by omega)
  replace r63 := r63.fr (n100.fr (lo := 0) (hi := 0)) (by omega)
  replace p76 := p76.fresh (n100.fr (lo := 0) (hi := 0)) (by omega)
  replace r77 := r77.fr (n100.fr (lo := 0) (hi := 0)) (by omega)
  replace r79 := r79.fr (n100.fr (lo := 0) (hi := 0)) (by omega)
  replace r81 := r81.fr (n100.fr (lo := 0) (hi := 0)) (by omega)
  replace p83 := p83.fresh (n100.fr (lo := 0) (hi := 0)) (by omega)
  replace pe := pe.fresh (n100.fr (lo := 0) (hi := 0)) (by omega)
  replace p91 := p91.fresh (n100.fr (lo := 0) (hi := 0)) (by omega)
  replace p93 := p93.fresh (n100.fr (lo := 0) (hi := 0)) (by omega)
  have r100 := n100.row
  replace r100 : Rw h100 b100 (intsV [2, 3, 4]) := r100
  simp -dsimp only [go_sem, r21.cell, r27.cell, r31.cell, r40.cell, r49.cell, r51.cell, r63.cell, r77.cell, r79.cell, r81.cell, r100.cell]
  refine call_of (c_law11_says (g := k11_10) (t39.fr p39) (ht.fr p0 (.inr rfl)) (l := [2, 3, 4]) (Rw.rd (s := 1) (n := 3) (c := 3) r100 rfl) 1) ?_
  rintro v101 h101 ⟨f101, rfl⟩
  have f101_z := f101.size
  replace p0 := p0.fresh f101 (by omega)
  replace p20 := p20.fresh f101 (by omega)
  replace r21 := r21.fr f101 (by omega)
  replace r27 := r27.fr f101 (by omega)
  replace r31 := r31.fr f101 (by omega)
  replace p39 := p39.fresh f101 (by omega)
  replace r40 := r40.fr f101 (by omega)
  replace p48 := p48.fresh f101 (by omega)
  replace r49 := r49.fr f101 (by omega)
  replace r51 := r51.fr f101 (by omega)
  replace p62 := p62.fresh f101 (by omega)
  replace r63 := r63.fr f101 (by omega)
  replace p76 := p76.fresh f101 (by omega)
  replace r77 := r77.fr f101 (by omega)
  replace r79 := r79.fr f101 (by omega)
  replace r81 := r81.fr f101 (by omega)
  replace p83 := p83.fresh f101 (by omega)
  replace pe := pe.fresh f101 (by omega)
  replace p91 := p91.fresh f101 (by omega)
  replace p93 := p93.fresh f101 (by omega)
  replace r100 := r100.fr f101 (by omega)
  rw [k11_10_s]
  simp -dsimp only [go_sem, r21.cell, r27.cell, r31.cell, r40.cell, r49.cell, r51.cell, r63.cell, r77.cell, r79.cell, r81.cell, r100.cell]
  clear r100
  intro b102 h102 n102
  have n102_a := n102.at_
  have n102_z := n102.size
  replace p0 := p0.fresh (n102.fr (lo := 0) (hi := 0)) (by omega)
  replace p20 := p20.fresh (n102.fr (lo := 0) (hi := 0)) (by omega)
  replace r21 := r21.fr (n102.fr (lo := 0) (hi := 0)) (by omega)
  replace r27 := r27.fr (n102.fr (lo := 0) (hi := 0)) (by omega)
  replace r31 := r31.fr (n102.fr (lo := 0) (hi := 0)) (by omega)
  replace p39 := p39.fresh (n102.fr (lo := 0) (hi := 0)) (by omega)
  replace r40 := r40.fr (n102.fr (lo := 0) (hi := 0)) (by omega)
  replace p48 := p48.fresh (n102.fr (lo := 0) (hi := 0)) (by omega)
  replace r49 := r49.fr (n102.fr (lo := 0) (hi := 0)) (by omega)
  replace r51 := r51.fr (n102.fr (lo := 0) (hi := 0)) (by omega)
  replace p62 := p62.fresh (n102.fr (lo := 0) (hi := 0)) (by omega)
  replace r63 := r63.fr (n102.fr (lo := 0) (hi := 0)) (by omega)
  replace p76 := p76.fresh (n102.fr (lo := 0) (hi := 0)) (by omega)
  replace r77 := r77.fr (n102.fr (lo := 0) (hi := 0)) (by omega)
  replace r79 := r79.fr (n102.fr (lo := 0) (hi := 0)) (by omega)
  replace r81 := r81.fr (n102.fr (lo := 0) (hi := 0)) (by omega)
  replace p83 := p83.fresh (n102.fr (lo := 0) (hi := 0)) (by omega)
  replace pe := pe.fresh (n102.fr (lo := 0) (hi := 0)) (by omega)
  replace p91 := p91.fresh (n102.fr (lo := 0) (hi := 0)) (by omega)
  replace p93 := p93.fresh (n102.fr (lo := 0) (hi := 0)) (by omega)
  have r102 := n102.row
  replace r102 : Rw h102 b102 (intsV [2, 3]) := r102
  simp -dsimp only [go_sem, r21.cell, r27.cell, r31.cell, r40.cell, r49.cell, r51.cell, r63.cell, r77.cell, r79.cell, r81.cell, r102.cell]
  refine call_of (c_law11_says (g := k11_11) (GrAt.setR (t48.fr p48) (Rw.rd (s := 2) (n := 1) (c := 1) r51 rfl) (by decide)) (ht.fr p0 (.inr rfl)) (l := [2, 3]) (Rw.rd (s := 1) (n := 2) (c := 2) r102 rfl) 3) ?_
  rintro v103 h103 ⟨f103, rfl⟩
  have f103_z := f103.size
  replace p0 := p0.fresh f103 (by omega)
  replace p20 := p20.fresh f103 (by omega)
  replace r21 := r21.fr f103 (by omega)
  replace r27 := r27.fr f103 (by omega)
  replace r31 := r31.fr f103 (by omega)
  replace p39 := p39.fresh f103 (by omega)
  replace r40 := r40.fr f103 (by omega)
  replace p48 := p48.fresh f103 (by omega)
  replace r49 := r49.fr f103 (by omega)
  replace r51 := r51.fr f103 (by omega)
  replace p62 := p62.fresh f103 (by omega)
  replace r63 := r63.fr f103 (by omega)
  replace p76 := p76.fresh f103 (by omega)
  replace r77 := r77.fr f103 (by omega)
  replace r79 := r79.fr f103 (by omega)
  replace r81 := r81.fr f103 (by omega)
  replace p83 := p83.fresh f103 (by omega)
  replace pe := pe.fresh f103 (by omega)
  replace p91 := p91.fresh f103 (by omega)
  replace p93 := p93.fresh f103 (by omega)
  replace r102 := r102.fr f103 (by omega)
  rw [k11_11_s]
  simp -dsimp only [go_sem, r21.cell, r27.cell, r31.cell, r40.cell, r49.cell, r51.cell, r63.cell, r77.cell, r79.cell, r81.cell, r102.cell]
  clear r102
  intro b104 h104 n104
  have n104_a := n104.at_
  have n104_z := n104.size
  replace p0 := p0.fresh (n104.fr (lo := 0) (hi := 0)) (by omega)
  replace p20 := p20.fresh (n104.fr (lo := 0) (hi := 0)) (by omega)
  replace r21 := r21.fr (n104.fr (lo := 0) (hi := 0)) (by omega)
  replace r27 := r27.fr (n104.fr (lo := 0) (hi := 0)) (by omega)
  replace r31 := r31.fr (n104.fr (lo := 0) (hi := 0)) (by omega)
  replace p39 := p39.fresh (n104.fr (lo := 0) (hi := 0)) (by omega)
  replace r40 := r40.fr (n104.fr (lo := 0) (hi := 0)) (by omega)
  replace p48 := p48.fresh (n104.fr (lo := 0) (hi := 0)) (by omega)
  replace r49 := r49.fr (n104.fr (lo := 0) (hi := 0)) (by omega)
  replace r51 := r51.fr (n104.fr (lo := 0) (hi := 0)) (by omega)
  replace p62 := p62.fresh (n104.fr (lo := 0) (hi := 0)) (by omega)
  replace r63 := r63.fr (n104.fr (lo := 0) (hi := 0)) (by omega)
  replace p76 := p76.fresh (n104.fr (lo := 0) (hi := 0)) (by omega)
  replace r77 := r77.fr (n104.fr (lo := 0) (hi := 0)) (by omega)
  replace r79 := r79.fr (n104.fr (lo := 0) (hi := 0)) (by omega)
  replace r81 := r81.fr (n104.fr (lo := 0) (hi := 0)) (by omega)
  replace p83 := p83.fresh (n104.fr (lo := 0) (hi := 0)) (by omega)
  replace pe := pe.fresh (n104.fr (lo := 0) (hi := 0)) (by omega)
  replace p91 := p91.fresh (n104.fr (lo := 0) (hi := 0)) (by omega)
  replace p93 := p93.fresh (n104.fr (lo := 0) (hi := 0)) (by omega)
  have r104 := n104.row
  replace r104 : Rw h104 b104 (intsV [2, 4, 5, 6]) := r104
  simp -dsimp only [go_sem, r21.cell, r27.cell, r31.cell, r40.cell, r49.cell, r51.cell, r63.cell, r77.cell, r79.cell, r81.cell, r104.cell]
  refine call_of (c_law11_says (g := k11_12) (t62.fr p62) (ht.fr p0 (.inr rfl)) (l := [2, 4, 5, 6]) (Rw.rd (s := 1) (n := 4) (c := 4) r104 rfl) 2) ?_
  rintro v105 h105 ⟨f105, rfl⟩
  have f105_z := f105.size
  replace p0 := p0.fresh f105 (by omega)
  replace p20 := p20.fresh f105 (by omega)
  replace r21 := r21.fr f105 (by omega)
  replace r27 := r27.fr f105 (by omega)
  replace r31 := r31.fr f105 (by omega)
  replace p39 := p39.fresh f105 (by omega)
  replace r40 := r40.fr f105 (by omega)
  replace p48 := p48.fresh f105 (by omega)
  replace r49 := r49.fr f105 (by omega)
  replace r51 := r51.fr f105 (by omega)
  replace p62 := p62.fresh f105 (by omega)
  replace r63 := r63.fr f105 (by omega)
  replace p76 := p76.fresh f105 (by omega)
  replace r77 := r77.fr f105 (by omega)
  replace r79 := r79.fr f105 (by omega)
  replace r81 := r81.fr f105 (by omega)
  replace p83 := p83.fresh f105 (by omega)
  replace pe := pe.fresh f105 (by omega)
  replace p91 := p91.fresh f105 (by omega)
  replace p93 := p93.fresh f105 (by omega)
  replace r104 := r104.fr f105 (by omega)
  rw [k11_12_s]
  simp -dsimp only [go_sem, r21.cell, r27.cell, r31.cell, r40.cell, r49.cell, r51.cell, r63.cell, r77.cell, r79.cell, r81.cell, r104.cell]
  clear r104
  intro b106 h106 n106
  have n106_a := n106.at_
  have n106_z := n106.size
  replace p0 := p0.fresh (n106.fr (lo := 0) (hi := 0)) (by omega)
  replace p20 := p20.fresh (n106.fr (lo := 0) (hi := 0)) (by omega)
  replace r21 := r21.fr (n106.fr (lo := 0) (hi := 0)) (by omega)
  replace r27 := r27.fr (n106.fr (lo := 0) (hi := 0)) (by omega)
  replace r31 := r31.fr (n106.fr (lo := 0) (hi := 0)) (by omega)
  replace p39 := p39.fresh (n106.fr (lo := 0) (hi := 0)) (by omega)
  replace r40 := r40.fr (n106.fr (lo := 0) (hi := 0)) (by omega)
  replace p48 := p48.fresh (n106.fr (lo := 0) (hi := 0)) (by omega)
  replace r49 := r49.fr (n106.fr (lo := 0) (hi := 0)) (by omega)
  replace r51 := r51.fr (n106.fr (lo := 0) (hi := 0)) (by omega)
  replace p62 := p62.fresh (n106.fr (lo := 0) (hi := 0)) (by omega)
  replace r63 := r63.fr (n106.fr (lo := 0) (hi := 0)) (by omega)
  replace p76 := p76.fresh (n106.fr (lo := 0) (hi := 0)) (by omega)
  replace r77 := r77.fr (n106.fr (lo := 0) (hi := 0)) (by omega)
  replace r79 := r79.fr (n106.fr (lo := 0) (hi := 0)) (by omega)
  replace r81 := r81.fr (n106.fr (lo := 0) (hi := 0)) (by omega)
  replace p83 := p83.fresh (n106.fr (lo := 0) (hi := 0)) (by omega)
  replace pe := pe.fresh (n106.fr (lo := 0) (hi := 0)) (by omega)
  replace p91 := p91.fresh (n106.fr (lo := 0) (hi := 0)) (by omega)
  replace p93 := p93.fresh (n106.fr (lo := 0) (hi := 0)) (by omega)
  have r106 := n106.row
  replace r106 : Rw h106 b106 (intsV [2, 3, 4, 6, 7, 8]) := r106
  simp -dsimp only [go_sem, r21.cell, r27.cell, r31.cell, r40.cell, r49.cell, r51.cell, r63.cell, r77.cell, r79.cell, r81.cell, r106.cell]
  refine call_of (c_law11_says (g := k11_13) (GrAt.setR (GrAt.setD (t76.fr p76) (Rw.rd (s := 2) (n := 1) (c := 1) r79 rfl) (by decide)) (Rw.rd (s := 2) (n := 1) (c := 1) r81 rfl) (by decide)) (ht.fr p0 (.inr rfl)) (l := [2, 3, 4, 6, 7, 8]) (Rw.rd (s := 1) (n := 6) (c := 6) r106 rfl) 2) ?_
  rintro v107 h107 ⟨f107, rfl⟩
  have f107_z := f107.size
  replace p0 := p0.fresh f107 (by omega)
  replace p20 := p20.fresh f107 (by omega)
  replace r21 := r21.fr f107 (by omega)
  replace r27 := r27.fr f107 (by omega)
  replace r31 := r31.fr f107 (by omega)
  replace p39 := p39.fresh f107 (by omega)
  replace r40 := r40.fr f107 (by omega)
  replace p48 := p48.fresh f107 (by omega)
  replace r49 := r49.fr f107 (by omega)
  replace r51 := r51.fr f107 (by omega)
  replace p62 := p62.fresh f107 (by omega)
  replace r63 := r63.fr f107 (by omega)
  replace p76 := p76.fresh f107 (by omega)
  replace r77 := r77.fr f107 (by omega)
  replace r79 := r79.fr f107 (by omega)
  replace r81 := r81.fr f107 (by omega)
  replace p83 := p83.fresh f107 (by omega)
  replace pe := pe.fresh f107 (by omega)
  replace p91 := p91.fresh f107 (by omega)
  replace p93 := p93.fresh f107 (by omega)
  replace r106 := r106.fr f107 (by omega)
  rw [k11_13_s]
  simp -dsimp only [go_sem, r21.cell, r27.cell, r31.cell, r40.cell, r49.cell, r51.cell, r63.cell, r77.cell, r79.cell, r81.cell, r106.cell]
  clear r106
  clear r21 p20 r27 r31
  clear r40 p39
  clear r49 p48 r51
  clear r63 p62
  clear r77 p76 r79 r81
  have g_22 : h.size ≤ h83.size ∧ h83.size ≤ h91.size ∧ h91.size ≤ h93.size ∧ h93.size ≤ h107.size := by omega
  clear n98_a n98_z f99_z n100_a n100_z f101_z n102_a n102_z f103_z n104_a n104_z f105_z n106_a n106_z f107_z g_21
  exact p0
end Go.Proofs.Tst
