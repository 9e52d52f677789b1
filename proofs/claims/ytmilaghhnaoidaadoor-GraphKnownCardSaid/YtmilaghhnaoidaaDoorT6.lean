/-
  Contracts of functions that the law reaches: what each returns and what it leaves in memory. Conditions stand in each.
-/
import Derived.Test.YtmilaghhnaoidaaDoorT5
set_option linter.all false
set_option maxRecDepth 2000
/-
  GraphKnown.
-/
namespace Go.Proofs.Tst
open Go Go.Vc
theorem oc_ptr {p : Nat → Value} {h : Heap} {lo : Nat} {rd wr fe : Value} {g : Gr} (F : FactsAt h lo p rd wr fe g) : ∃ c : Nat → Nat, ∀ k, k < 10 → p k = .pointer (some ⟨c k, 0, none⟩) := by
  obtain ⟨A, B, D, -⟩ := F.rel
  exact ⟨fun k => if hk : k < 10 then (progPtr (D.at_ k hk)).choose else 0, fun k hk => by dsimp only; rw [dif_pos hk]; exact (progPtr (D.at_ k hk)).choose_spec⟩
theorem nilP {h : Heap} : Rd 2 h (.slice none ([] : List (Int × Int)).length 0) ([] : List (Int × Int)).length (pairsV []) := ⟨rfl, _, _, rfl, .inl rfl⟩
theorem rd_take {s m n c c' : Nat} {h : Heap} {a : Option Addr} {xs : List Value} (w : Rd s h (.slice a n c) n xs) (hm : m ≤ n) : Rd s h (.slice a m c') m (xs.take (m * s)) := by
  obtain ⟨hl, a', c1, e, k⟩ := w
  cases e
  have hms : m * s ≤ n * s := Nat.mul_le_mul_right s hm
  refine ⟨by rw [List.length_take]; omega, a, c', rfl, ?_⟩
  rcases k with k | ⟨b, o, k1, k2⟩
  · left; omega
  · right
    refine ⟨b, o, k1, fun j x hj => k2 j x ?_⟩
    rw [List.getElem?_take] at hj
    split at hj
    · exact hj
    · cases hj
def exG1 : Gr := { exG with rf := [(0, 2)] }
def exG2 : Gr := { exG with rf := [] }
def exG3 : Gr := { exG with rf := [(1, 2), (1, 2)] }
def exG4 : Gr := { exG with co := [[1, 0]] }
def exG5 : Gr := { exG with co := [] }
def exG6 : Gr := { exG with co := [[0, 1], []] }
def exG7 : Gr := { exG with evs := setMode exG.evs 3 1 }
def exG8 : Gr := { exG with rmw := [(2, 3)] }
def exG9 : Gr := { exG with ctrl := [(2, 3)] }
def exGa : Gr := { exG9 with evs := setMode (setMode (setMode (setMode exG.evs 0 11) 1 11) 2 12) 3 15 }
def exGb : Gr := { exGa with addr := [(2, 3)] }
def exGc : Gr := { exG with evs := exG.evs.take 1, rf := [], co := [[0]] }
set_option maxHeartbeats 4000000 in
theorem c_law8_GraphKnown {h : Heap} (ht : TabAt h) : Con Tryd.prog 7 #[] h fun v h' => Fr 0 0 h h' ∧ v = .bool true := by
  refine con_law8_GraphKnown ?_
  have hz : 0 < h.size := hcell_lt (ht 0 0 rfl)
  have p0 : Fr 0 0 h h := .refl _ _ _
  simp -dsimp only [go_sem]
  refine call_of (law8_example hz) ?_
  rintro v1 h1 ⟨f1, q, rfl, w⟩
  have f1_z := f1.size
  replace p0 := p0.fresh f1 (by omega)
  have t := w.at_
  have p1 : Fr 0 0 h1 h1 := .refl _ _ _
  unfold gcells
  simp -dsimp only [go_sem]
  intro b1 h2 n2
  have n2_a := n2.at_
  have n2_z := n2.size
  replace p0 := p0.fresh (n2.fr (lo := 0) (hi := 0)) (by omega)
  replace p1 := p1.fresh (n2.fr (lo := 0) (hi := 0)) (by omega)
  have r1 := n2.row
  simp -dsimp only [go_sem, r1.cell]
  refine Chk_intro (r1.wr (by first | (simp; done) | (simp; omega))) fun h3 s3 => ?_
  have s3_z := s3.size
  replace p0 := p0.fresh s3.fr (by omega)
  replace p1 := p1.fresh s3.fr (by omega)
  replace r1 := s3.row r1
  try simp only [cl_int, cl_bool, cl_slice, cl_ptr, putAt_one, List.set_cons_zero, List.set_cons_succ, ivec_set, brow_upd] at r1
  simp -dsimp only [go_sem] at r1
  simp -dsimp only [go_sem, r1.cell]
  refine call_of (law8_lives (ht.fr p0 (.inr rfl))) ?_
  rintro v4 h4 ⟨f4, rfl⟩
  have f4_z := f4.size
  replace p0 := p0.fresh f4 (by omega)
  replace p1 := p1.fresh f4 (by omega)
  replace r1 := r1.fr f4 (by omega)
  simp -dsimp only [go_sem, r1.cell]
  refine call_of (graph_Derive (t.fr p1) (ht.fr p0 (.inr rfl))) ?_
  rintro v6 h6 ⟨f6, w6⟩
  have f6_z := f6.size
  replace p0 := p0.fresh f6 (by omega)
  replace p1 := p1.fresh f6 (by omega)
  replace r1 := r1.fr f6 (by omega)
  rw [if_pos exG_good] at w6
  obtain ⟨p, rd, wr, fe, rfl, F⟩ := w6
  obtain ⟨c, hc⟩ := oc_ptr F
  obtain ⟨A, B, D, dlo, dap⟩ := F.rel
  have ocd : rd.oneCell' = true ∧ wr.oneCell' = true ∧ fe.oneCell' = true := by
    obtain ⟨_, _, e1⟩ := F.hrd.is
    obtain ⟨_, _, e2⟩ := F.hwr.is
    obtain ⟨_, _, e3⟩ := F.hfe.is
    rw [e1, e2, e3]; exact ⟨rfl, rfl, rfl⟩
  obtain ⟨od1, od2, od3⟩ := ocd
  have g1 := D.at_ 1 (by decide)
  have g2 := D.at_ 2 (by decide)
  have g4 := D.at_ 4 (by decide)
  have g9 := D.at_ 9 (by decide)
  rw [hc 1 (by decide)] at g1
  rw [hc 2 (by decide)] at g2
  rw [hc 4 (by decide)] at g4
  rw [hc 9 (by decide)] at g9
  have ab1 := dlo 1 (by decide)
  have ab2 := dlo 2 (by decide)
  have ab4 := dlo 4 (by decide)
  have ab9 := dlo 9 (by decide)
  clear F D dap
  have p6 : Fr 0 0 h6 h6 := .refl _ _ _
  unfold fcells
  rw [hc 0 (by decide), hc 1 (by decide), hc 2 (by decide), hc 3 (by decide), hc 4 (by decide), hc 5 (by decide), hc 6 (by decide), hc 7 (by decide), hc 8 (by decide), hc 9 (by decide)]
  simp -dsimp only [go_sem, r1.cell]
  intro b2 h7 n7
  have n7_a := n7.at_
  have n7_z := n7.size
  replace p0 := p0.fresh (n7.fr (lo := 0) (hi := 0)) (by omega)
  replace p1 := p1.fresh (n7.fr (lo := 0) (hi := 0)) (by omega)
  replace r1 := r1.fr (n7.fr (lo := 0) (hi := 0)) (by omega)
  replace g1 := g1.fr (n7.fr (lo := 0) (hi := 0)) (by omega)
  replace g2 := g2.fr (n7.fr (lo := 0) (hi := 0)) (by omega)
  replace g4 := g4.fr (n7.fr (lo := 0) (hi := 0)) (by omega)
  replace g9 := g9.fr (n7.fr (lo := 0) (hi := 0)) (by omega)
  replace p6 := p6.fresh (n7.fr (lo := 0) (hi := 0)) (by omega)
  have r2 := n7.row
  simp -dsimp only [go_sem, od1, od2, od3, r1.cell, r2.cell]
  refine Chk_intro (r2.wr (by first | (simp; done) | (simp; omega))) fun h8 s8 => ?_
  have s8_z := s8.size
  replace p0 := p0.fresh s8.fr (by omega)
  replace p1 := p1.fresh s8.fr (by omega)
  replace r1 := r1.fr s8.fr (by omega)
  replace g1 := g1.fr s8.fr (by omega)
  replace g2 := g2.fr s8.fr (by omega)
  replace g4 := g4.fr s8.fr (by omega)
  replace g9 := g9.fr s8.fr (by omega)
  replace p6 := p6.fresh s8.fr (by omega)
  replace r2 := s8.row r2
  try simp only [cl_int, cl_bool, cl_slice, cl_ptr, putAt_one, List.set_cons_zero, List.set_cons_succ, ivec_set, brow_upd] at r2
  simp -dsimp only [go_sem] at r2
  simp -dsimp only [go_sem, r1.cell, r2.cell]
  refine call_of (rel_Pairs g1 (ht.fr p0 (.inr rfl))) ?_
  rintro v9 h9 ⟨f9, o9⟩
  have f9_z := f9.size
  replace p0 := p0.fresh f9 (by omega)
  replace p1 := p1.fresh f9 (by omega)
  replace r1 := r1.fr f9 (by omega)
  replace g1 := g1.fr f9 (by omega)
  replace g2 := g2.fr f9 (by omega)
  replace g4 := g4.fr f9 (by omega)
  replace g9 := g9.fr f9 (by omega)
  replace p6 := p6.fresh f9 (by omega)
  replace r2 := r2.fr f9 (by omega)
  rw [show pairsOf exG.n (relM exG 1) = [(1, 2)] by decide +kernel] at o9
  have p9 : Fr 0 0 h9 h9 := .refl _ _ _
  simp -dsimp only [go_sem, r1.cell, r2.cell]
  intro b10 h10 n10
  have n10_a := n10.at_
  have n10_z := n10.size
  replace p0 := p0.fresh (n10.fr (lo := 0) (hi := 0)) (by omega)
  replace p1 := p1.fresh (n10.fr (lo := 0) (hi := 0)) (by omega)
  replace r1 := r1.fr (n10.fr (lo := 0) (hi := 0)) (by omega)
  replace g1 := g1.fr (n10.fr (lo := 0) (hi := 0)) (by omega)
  replace g2 := g2.fr (n10.fr (lo := 0) (hi := 0)) (by omega)
  replace g4 := g4.fr (n10.fr (lo := 0) (hi := 0)) (by omega)
  replace g9 := g9.fr (n10.fr (lo := 0) (hi := 0)) (by omega)
  replace p6 := p6.fresh (n10.fr (lo := 0) (hi := 0)) (by omega)
  replace r2 := r2.fr (n10.fr (lo := 0) (hi := 0)) (by omega)
  replace p9 := p9.fresh (n10.fr (lo := 0) (hi := 0)) (by omega)
  have r10 := n10.row
  have d10 : Rd 2 h10 (.slice (some ⟨b10, 0, none⟩) 1 1) 1 (pairsV [(1, 2)]) := (holder_row (s := 2) (n := 1) (lo := 0) r10 rfl (by omega)).rd
  simp -dsimp only [go_sem, r1.cell, r2.cell, r10.cell]
  refine call_of (c_law8_pairs (l := [(1, 2)]) (m := [(1, 2)]) (o9.rd.fr p9) d10 (by decide)) ?_
  rintro v11 h10 ⟨rfl, rfl⟩
  simp -dsimp only [go_sem, dec_self, r1.cell, r2.cell, r10.cell]
  refine call_of (rel_Pairs g2 (ht.fr p0 (.inr rfl))) ?_
  rintro v12 h12 ⟨f12, o12⟩
  have f12_z := f12.size
  replace p0 := p0.fresh f12 (by omega)
  replace p1 := p1.fresh f12 (by omega)
  replace r1 := r1.fr f12 (by omega)
  replace g1 := g1.fr f12 (by omega)
  replace g2 := g2.fr f12 (by omega)
  replace g4 := g4.fr f12 (by omega)
  replace g9 := g9.fr f12 (by omega)
  replace p6 := p6.fresh f12 (by omega)
  replace r2 := r2.fr f12 (by omega)
  replace p9 := p9.fresh f12 (by omega)
  replace r10 := r10.fr f12 (by omega)
  rw [show pairsOf exG.n (relM exG 2) = [(0, 1)] by decide +kernel] at o12
  have p12 : Fr 0 0 h12 h12 := .refl _ _ _
  simp -dsimp only [go_sem, r1.cell, r2.cell, r10.cell]
  intro b13 h13 n13
  have n13_a := n13.at_
  have n13_z := n13.size
  replace p0 := p0.fresh (n13.fr (lo := 0) (hi := 0)) (by omega)
  replace p1 := p1.fresh (n13.fr (lo := 0) (hi := 0)) (by omega)
  replace r1 := r1.fr (n13.fr (lo := 0) (hi := 0)) (by omega)
  replace g1 := g1.fr (n13.fr (lo := 0) (hi := 0)) (by omega)
  replace g2 := g2.fr (n13.fr (lo := 0) (hi := 0)) (by omega)
  replace g4 := g4.fr (n13.fr (lo := 0) (hi := 0)) (by omega)
  replace g9 := g9.fr (n13.fr (lo := 0) (hi := 0)) (by omega)
  replace p6 := p6.fresh (n13.fr (lo := 0) (hi := 0)) (by omega)
  replace r2 := r2.fr (n13.fr (lo := 0) (hi := 0)) (by omega)
  replace p9 := p9.fresh (n13.fr (lo := 0) (hi := 0)) (by omega)
  replace r10 := r10.fr (n13.fr (lo := 0) (hi := 0)) (by omega)
  replace p12 := p12.fresh (n13.fr (lo := 0) (hi := 0)) (by omega)
  have r13 := n13.row
  have d13 : Rd 2 h13 (.slice (some ⟨b13, 0, none⟩) 1 1) 1 (pairsV [(0, 1)]) := (holder_row (s := 2) (n := 1) (lo := 0) r13 rfl (by omega)).rd
  simp -dsimp only [go_sem, r1.cell, r2.cell, r10.cell, r13.cell]
  refine call_of (c_law8_pairs (l := [(0, 1)]) (m := [(0, 1)]) (o12.rd.fr p12) d13 (by decide)) ?_
  rintro v14 h13 ⟨rfl, rfl⟩
  simp -dsimp only [go_sem, dec_self, r1.cell, r2.cell, r10.cell, r13.cell]
  refine call_of (rel_Size g9) ?_
  rintro v15 h15 ⟨hh, rfl⟩
  obtain rfl : h13 = h15 := hh.symm
  rw [show (pairsOf exG.n (relM exG 9)).length = 0 by decide +kernel]
  simp -dsimp only [go_sem, show (((0 : Nat) : Int) != 0) = false from rfl, r1.cell, r2.cell, r10.cell, r13.cell]
  refine call_of (rel_Size g4) ?_
  rintro v16 h16 ⟨hh, rfl⟩
  obtain rfl : h13 = h16 := hh.symm
  rw [show (pairsOf exG.n (relM exG 4)).length = 9 by decide +kernel]
  simp -dsimp only [go_sem, show (((9 : Nat) : Int) != 9) = false from rfl, r1.cell, r2.cell, r10.cell, r13.cell]
  clear g1 g2 g4 g9 p6 p9 p12 r2 r10 r13 o9 o12 d10 d13
  refine call_of (graph_Thread (t.fr p1) (-1)) ?_
  rintro v17 h17 ⟨f17, o17⟩
  have f17_z := f17.size
  replace p0 := p0.fresh f17 (by omega)
  replace p1 := p1.fresh f17 (by omega)
  replace r1 := r1.fr f17 (by omega)
  rw [show threadL exG (-1) = [0] by decide +kernel] at o17
  have p17 : Fr 0 0 h17 h17 := .refl _ _ _
  simp -dsimp only [go_sem, r1.cell]
  intro b18 h18 n18
  have n18_a := n18.at_
  have n18_z := n18.size
  replace p0 := p0.fresh (n18.fr (lo := 0) (hi := 0)) (by omega)
  replace p1 := p1.fresh (n18.fr (lo := 0) (hi := 0)) (by omega)
  replace r1 := r1.fr (n18.fr (lo := 0) (hi := 0)) (by omega)
  replace p17 := p17.fresh (n18.fr (lo := 0) (hi := 0)) (by omega)
  have r18 := n18.row
  have d18 : Rd 1 h18 (.slice (some ⟨b18, 0, none⟩) 1 1) 1 (intsV [0]) := (holder_row (s := 1) (n := 1) (lo := 0) r18 rfl (by omega)).rd
  simp -dsimp only [go_sem, r1.cell, r18.cell]
  refine call_of (c_law8_ints (l := [0]) (m := [0]) (o17.rd.fr p17) d18 (by decide)) ?_
  rintro v19 h18 ⟨rfl, rfl⟩
  simp -dsimp only [go_sem, dec_self, r1.cell, r18.cell]
  refine call_of (graph_Thread (t.fr p1) 5) ?_
  rintro v20 h20 ⟨f20, o20⟩
  have f20_z := f20.size
  replace p0 := p0.fresh f20 (by omega)
  replace p1 := p1.fresh f20 (by omega)
  replace r1 := r1.fr f20 (by omega)
  replace p17 := p17.fresh f20 (by omega)
  replace r18 := r18.fr f20 (by omega)
  rw [show threadL exG 5 = [] by decide +kernel] at o20
  obtain ⟨o20a, o20c, rfl⟩ := o20.is
  simp -dsimp only [go_sem, show (((0 : Nat) : Int) != 0) = false from rfl, r1.cell, r18.cell]
  intro b21 h21 n21
  have n21_a := n21.at_
  have n21_z := n21.size
  replace p0 := p0.fresh (n21.fr (lo := 0) (hi := 0)) (by omega)
  replace p1 := p1.fresh (n21.fr (lo := 0) (hi := 0)) (by omega)
  replace r1 := r1.fr (n21.fr (lo := 0) (hi := 0)) (by omega)
  replace p17 := p17.fresh (n21.fr (lo := 0) (hi := 0)) (by omega)
  replace r18 := r18.fr (n21.fr (lo := 0) (hi := 0)) (by omega)
  have r21 := n21.row
  have d21 : Rd 1 h21 (.slice (some ⟨b21, 0, none⟩) 2 2) 2 (intsV [2, 5]) := (holder_row (s := 1) (n := 2) (lo := 0) r21 rfl (by omega)).rd
  simp -dsimp only [go_sem, r1.cell, r18.cell, r21.cell]
  refine call_of (graph_With (t.fr p1) (by decide) (m := [2, 5]) d21 (by decide)) ?_
  rintro v22 h22 ⟨f22, o22⟩
  have f22_z := f22.size
  replace p0 := p0.fresh f22 (by omega)
  replace p1 := p1.fresh f22 (by omega)
  replace r1 := r1.fr f22 (by omega)
  replace p17 := p17.fresh f22 (by omega)
  replace r18 := r18.fr f22 (by omega)
  replace r21 := r21.fr f22 (by omega)
  rw [show withB exG [2, 5] = [false, false, true, true] by decide +kernel] at o22
  have p22 : Fr 0 0 h22 h22 := .refl _ _ _
  simp -dsimp only [go_sem, r1.cell, r18.cell, r21.cell]
  intro b23 h23 n23
  have n23_a := n23.at_
  have n23_z := n23.size
  replace p0 := p0.fresh (n23.fr (lo := 0) (hi := 0)) (by omega)
  replace p1 := p1.fresh (n23.fr (lo := 0) (hi := 0)) (by omega)
  replace r1 := r1.fr (n23.fr (lo := 0) (hi := 0)) (by omega)
  replace p17 := p17.fresh (n23.fr (lo := 0) (hi := 0)) (by omega)
  replace r18 := r18.fr (n23.fr (lo := 0) (hi := 0)) (by omega)
  replace r21 := r21.fr (n23.fr (lo := 0) (hi := 0)) (by omega)
  replace p22 := p22.fresh (n23.fr (lo := 0) (hi := 0)) (by omega)
  have r23 := n23.row
  have d23 : Rd 1 h23 (.slice (some ⟨b23, 0, none⟩) 4 4) 4 (boolsV [false, false, true, true]) := (holder_row (s := 1) (n := 4) (lo := 0) r23 rfl (by omega)).rd
  simp -dsimp only [go_sem, r1.cell, r18.cell, r21.cell, r23.cell]
  refine call_of (c_law8_truths (l := [false, false, true, true]) (m := [false, false, true, true]) (o22.rd.fr p22) d23 (by decide)) ?_
  rintro v24 h23 ⟨rfl, rfl⟩
  simp -dsimp only [go_sem, dec_self, r1.cell, r18.cell, r21.cell, r23.cell]
  clear p17 r18 r21 p22 r23 o17 d18 o20 d21 o22 d23
  intro b24 h24 n24
  have n24_a := n24.at_
  have n24_z := n24.size
  replace p0 := p0.fresh (n24.fr (lo := 0) (hi := 0)) (by omega)
  replace p1 := p1.fresh (n24.fr (lo := 0) (hi := 0)) (by omega)
  replace r1 := r1.fr (n24.fr (lo := 0) (hi := 0)) (by omega)
  have r24 := n24.row
  replace r24 : Rw h24 b24 (pairsV [(0, 2)]) := r24
  simp -dsimp only [go_sem, r1.cell, r24.cell]
  refine Chk_intro (r1.wr (by first | (simp; done) | (simp; omega))) fun h25 s25 => ?_
  have s25_z := s25.size
  replace p0 := p0.fresh s25.fr (by omega)
  replace p1 := p1.fresh s25.fr (by omega)
  replace r24 := r24.fr s25.fr (by omega)
  replace r1 := s25.row r1
  try simp only [cl_int, cl_bool, cl_slice, cl_ptr, putAt_one, List.set_cons_zero, List.set_cons_succ, ivec_set, brow_upd] at r1
  try simp -dsimp only [go_sem] at r1
  simp -dsimp only [go_sem, r1.cell, r24.cell]
  refine call_of (c_law8_at (g := exG1) (GrAt.setF (t.fr p1) (Rw.rd (s := 2) (n := 1) (c := 1) r24 rfl) (by decide)) 4 0) ?_
  rintro v26 h26 ⟨f26, rfl⟩
  have f26_z := f26.size
  replace p0 := p0.fresh f26 (by omega)
  replace p1 := p1.fresh f26 (by omega)
  replace r1 := r1.fr f26 (by omega)
  replace r24 := r24.fr f26 (by omega)
  rw [show decide (exG1.check false = (4, 0)) = true by decide +kernel]
  simp -dsimp only [go_sem, r1.cell, r24.cell]
  refine Chk_intro (r1.wr (by first | (simp; done) | (simp; omega))) fun h27 s27 => ?_
  have s27_z := s27.size
  replace p0 := p0.fresh s27.fr (by omega)
  replace p1 := p1.fresh s27.fr (by omega)
  replace r24 := r24.fr s27.fr (by omega)
  replace r1 := s27.row r1
  try simp only [cl_int, cl_bool, cl_slice, cl_ptr, putAt_one, List.set_cons_zero, List.set_cons_succ, ivec_set, brow_upd] at r1
  try simp -dsimp only [go_sem] at r1
  simp -dsimp only [go_sem, r1.cell, r24.cell]
  refine call_of (c_law8_at (g := exG2) (GrAt.setF (t.fr p1) (l := []) nilP (by decide)) 4 0) ?_
  rintro v28 h28 ⟨f28, rfl⟩
  have f28_z := f28.size
  replace p0 := p0.fresh f28 (by omega)
  replace p1 := p1.fresh f28 (by omega)
  replace r1 := r1.fr f28 (by omega)
  replace r24 := r24.fr f28 (by omega)
  rw [show decide (exG2.check false = (4, 0)) = true by decide +kernel]
  simp -dsimp only [go_sem, r1.cell, r24.cell]
  intro b29 h29 n29
  have n29_a := n29.at_
  have n29_z := n29.size
  replace p0 := p0.fresh (n29.fr (lo := 0) (hi := 0)) (by omega)
  replace p1 := p1.fresh (n29.fr (lo := 0) (hi := 0)) (by omega)
  replace r1 := r1.fr (n29.fr (lo := 0) (hi := 0)) (by omega)
  replace r24 := r24.fr (n29.fr (lo := 0) (hi := 0)) (by omega)
  have r29 := n29.row
  replace r29 : Rw h29 b29 (pairsV [(1, 2), (1, 2)]) := r29
  simp -dsimp only [go_sem, r1.cell, r24.cell, r29.cell]
  refine Chk_intro (r1.wr (by first | (simp; done) | (simp; omega))) fun h30 s30 => ?_
  have s30_z := s30.size
  replace p0 := p0.fresh s30.fr (by omega)
  replace p1 := p1.fresh s30.fr (by omega)
  replace r24 := r24.fr s30.fr (by omega)
  replace r29 := r29.fr s30.fr (by omega)
  replace r1 := s30.row r1
  try simp only [cl_int, cl_bool, cl_slice, cl_ptr, putAt_one, List.set_cons_zero, List.set_cons_succ, ivec_set, brow_upd] at r1
  try simp -dsimp only [go_sem] at r1
  simp -dsimp only [go_sem, r1.cell, r24.cell, r29.cell]
  refine call_of (c_law8_at (g := exG3) (GrAt.setF (t.fr p1) (Rw.rd (s := 2) (n := 2) (c := 2) r29 rfl) (by decide)) 4 1) ?_
  rintro v31 h31 ⟨f31, rfl⟩
  have f31_z := f31.size
  replace p0 := p0.fresh f31 (by omega)
  replace p1 := p1.fresh f31 (by omega)
  replace r1 := r1.fr f31 (by omega)
  replace r24 := r24.fr f31 (by omega)
  replace r29 := r29.fr f31 (by omega)
  rw [show decide (exG3.check false = (4, 1)) = true by decide +kernel]
  simp -dsimp only [go_sem, r1.cell, r24.cell, r29.cell]
  clear r24 r29 p1
  refine call_of (law8_example (by omega)) ?_
  rintro v32 h32 ⟨f32, q32, rfl, w32⟩
  have f32_z := f32.size
  replace p0 := p0.fresh f32 (by omega)
  replace r1 := r1.fr f32 (by omega)
  unfold gcells
  simp -dsimp only [go_sem, r1.cell]
  refine Chk_intro (r1.wr (by first | (simp; done) | (simp; omega))) fun h33 s33 => ?_
  have s33_z := s33.size
  replace p0 := p0.fresh s33.fr (by omega)
  replace w32 := w32.fr s33.fr (by omega)
  replace r1 := s33.row r1
  try simp only [cl_int, cl_bool, cl_slice, cl_ptr, putAt_one, List.set_cons_zero, List.set_cons_succ, ivec_set, brow_upd] at r1
  try simp -dsimp only [go_sem] at r1
  simp -dsimp only [go_sem, r1.cell]
  intro b34 h34 n34
  have n34_a := n34.at_
  have n34_z := n34.size
  replace p0 := p0.fresh (n34.fr (lo := 0) (hi := 0)) (by omega)
  replace r1 := r1.fr (n34.fr (lo := 0) (hi := 0)) (by omega)
  replace w32 := w32.fr (n34.fr (lo := 0) (hi := 0)) (by omega)
  have r34 := n34.row
  replace r34 : Rw h34 b34 (intsV [1, 0]) := r34
  simp -dsimp only [go_sem, r1.cell, r34.cell]
  intro b35 h35 n35
  have n35_a := n35.at_
  have n35_z := n35.size
  replace p0 := p0.fresh (n35.fr (lo := 0) (hi := 0)) (by omega)
  replace r1 := r1.fr (n35.fr (lo := 0) (hi := 0)) (by omega)
  replace w32 := w32.fr (n35.fr (lo := 0) (hi := 0)) (by omega)
  replace r34 := r34.fr (n35.fr (lo := 0) (hi := 0)) (by omega)
  have r35 := n35.row
  simp -dsimp only [go_sem, r1.cell, r34.cell, r35.cell]
  refine Chk_intro (r1.wr (by first | (simp; done) | (simp; omega))) fun h36 s36 => ?_
  have s36_z := s36.size
  replace p0 := p0.fresh s36.fr (by omega)
  replace w32 := w32.fr s36.fr (by omega)
  replace r34 := r34.fr s36.fr (by omega)
  replace r35 := r35.fr s36.fr (by omega)
  replace r1 := s36.row r1
  try simp only [cl_int, cl_bool, cl_slice, cl_ptr, putAt_one, List.set_cons_zero, List.set_cons_succ, ivec_set, brow_upd] at r1
  try simp -dsimp only [go_sem] at r1
  simp -dsimp only [go_sem, r1.cell, r34.cell, r35.cell]
  refine call_of (c_law8_at (g := exG4) (GrAt.setO (w32.at_) (L := [[1, 0]]) (rlc_one r34 r35) (by decide) (by decide) (by decide)) 5 0) ?_
  rintro v37 h37 ⟨f37, rfl⟩
  have f37_z := f37.size
  replace p0 := p0.fresh f37 (by omega)
  replace r1 := r1.fr f37 (by omega)
  replace w32 := w32.fr f37 (by omega)
  replace r34 := r34.fr f37 (by omega)
  replace r35 := r35.fr f37 (by omega)
  rw [show decide (exG4.check false = (5, 0)) = true by decide +kernel]
  simp -dsimp only [go_sem, r1.cell, r34.cell, r35.cell]
  refine Chk_intro (r1.wr (by first | (simp; done) | (simp; omega))) fun h38 s38 => ?_
  have s38_z := s38.size
  replace p0 := p0.fresh s38.fr (by omega)
  replace w32 := w32.fr s38.fr (by omega)
  replace r34 := r34.fr s38.fr (by omega)
  replace r35 := r35.fr s38.fr (by omega)
  replace r1 := s38.row r1
  try simp only [cl_int, cl_bool, cl_slice, cl_ptr, putAt_one, List.set_cons_zero, List.set_cons_succ, ivec_set, brow_upd] at r1
  try simp -dsimp only [go_sem] at r1
  simp -dsimp only [go_sem, r1.cell, r34.cell, r35.cell]
  refine call_of (c_law8_at (g := exG5) (GrAt.setO (w32.at_) (L := []) rlc_nil (by decide) (by decide) (by decide)) 5 0) ?_
  rintro v39 h39 ⟨f39, rfl⟩
  have f39_z := f39.size
  replace p0 := p0.fresh f39 (by omega)
  replace r1 := r1.fr f39 (by omega)
  replace w32 := w32.fr f39 (by omega)
  replace r34 := r34.fr f39 (by omega)
  replace r35 := r35.fr f39 (by omega)
  rw [show decide (exG5.check false = (5, 0)) = true by decide +kernel]
  simp -dsimp only [go_sem, r1.cell, r34.cell, r35.cell]
  intro b40 h40 n40
  have n40_a := n40.at_
  have n40_z := n40.size
  replace p0 := p0.fresh (n40.fr (lo := 0) (hi := 0)) (by omega)
  replace r1 := r1.fr (n40.fr (lo := 0) (hi := 0)) (by omega)
  replace w32 := w32.fr (n40.fr (lo := 0) (hi := 0)) (by omega)
  replace r34 := r34.fr (n40.fr (lo := 0) (hi := 0)) (by omega)
  replace r35 := r35.fr (n40.fr (lo := 0) (hi := 0)) (by omega)
  have r40 := n40.row
  replace r40 : Rw h40 b40 (intsV [0, 1]) := r40
  simp -dsimp only [go_sem, r1.cell, r34.cell, r35.cell, r40.cell]
  intro b41 h41 n41
  have n41_a := n41.at_
  have n41_z := n41.size
  replace p0 := p0.fresh (n41.fr (lo := 0) (hi := 0)) (by omega)
  replace r1 := r1.fr (n41.fr (lo := 0) (hi := 0)) (by omega)
  replace w32 := w32.fr (n41.fr (lo := 0) (hi := 0)) (by omega)
  replace r34 := r34.fr (n41.fr (lo := 0) (hi := 0)) (by omega)
  replace r35 := r35.fr (n41.fr (lo := 0) (hi := 0)) (by omega)
  replace r40 := r40.fr (n41.fr (lo := 0) (hi := 0)) (by omega)
  have r41 := n41.row
  simp -dsimp only [go_sem, r1.cell, r34.cell, r35.cell, r40.cell, r41.cell]
  refine Chk_intro (r1.wr (by first | (simp; done) | (simp; omega))) fun h42 s42 => ?_
  have s42_z := s42.size
  replace p0 := p0.fresh s42.fr (by omega)
  replace w32 := w32.fr s42.fr (by omega)
  replace r34 := r34.fr s42.fr (by omega)
  replace r35 := r35.fr s42.fr (by omega)
  replace r40 := r40.fr s42.fr (by omega)
  replace r41 := r41.fr s42.fr (by omega)
  replace r1 := s42.row r1
  try simp only [cl_int, cl_bool, cl_slice, cl_ptr, putAt_one, List.set_cons_zero, List.set_cons_succ, ivec_set, brow_upd] at r1
  try simp -dsimp only [go_sem] at r1
  simp -dsimp only [go_sem, r1.cell, r34.cell, r35.cell, r40.cell, r41.cell]
  refine call_of (c_law8_at (g := exG6) (GrAt.setO (w32.at_) (L := [[0, 1], []]) (rlc_two r40 r41) (by decide) (by decide) (by decide)) 5 1) ?_
  rintro v43 h43 ⟨f43, rfl⟩
  have f43_z := f43.size
  replace p0 := p0.fresh f43 (by omega)
  replace r1 := r1.fr f43 (by omega)
  replace w32 := w32.fr f43 (by omega)
  replace r34 := r34.fr f43 (by omega)
  replace r35 := r35.fr f43 (by omega)
  replace r40 := r40.fr f43 (by omega)
  replace r41 := r41.fr f43 (by omega)
  rw [show decide (exG6.check false = (5, 1)) = true by decide +kernel]
  simp -dsimp only [go_sem, r1.cell, r34.cell, r35.cell, r40.cell, r41.cell]
  clear r34 r35 r40 r41 w32
  refine call_of (law8_example (by omega)) ?_
  rintro v44 h44 ⟨f44, q44, rfl, w44⟩
  have f44_z := f44.size
  replace p0 := p0.fresh f44 (by omega)
  replace r1 := r1.fr f44 (by omega)
  unfold gcells
  simp -dsimp only [go_sem, r1.cell]
  refine Chk_intro (r1.wr (by first | (simp; done) | (simp; omega))) fun h45 s45 => ?_
  have s45_z := s45.size
  replace p0 := p0.fresh s45.fr (by omega)
  replace w44 := w44.fr s45.fr (by omega)
  replace r1 := s45.row r1
  try simp only [cl_int, cl_bool, cl_slice, cl_ptr, putAt_one, List.set_cons_zero, List.set_cons_succ, ivec_set, brow_upd] at r1
  try simp -dsimp only [go_sem] at r1
  simp -dsimp only [go_sem, r1.cell]
  obtain ⟨be0, hbe0, lbe0, ube0, -, -, -⟩ := w44.ev (by decide)
  obtain ⟨be, hbe, -, -, wre, ste, -⟩ := w44.ev (by decide)
  rw [hbe0] at hbe
  cases hbe
  try simp -dsimp only [go_sem, hbe0, r1.cell]
  refine Chk_intro (by decide) ?_
  try simp -dsimp only [go_sem, hbe0, r1.cell]
  refine Chk_intro (wre 3 (by decide)).1 fun h46 s46 => ?_
  have w_46 := ste _ 3 1 (by decide) s46
  clear ste wre w44
  have y_46 : Fr be0 (be0 + 1) _ _ := s46.fr
  have y_46_z := y_46.size
  replace p0 := p0.fresh y_46 (by omega)
  replace r1 := r1.fr y_46 (by omega)
  simp -dsimp only [go_sem, r1.cell]
  refine call_of (c_law8_at (g := exG7) (w_46.at_) 3 3) ?_
  rintro v47 h47 ⟨f47, rfl⟩
  have f47_z := f47.size
  replace p0 := p0.fresh f47 (by omega)
  replace r1 := r1.fr f47 (by omega)
  replace w_46 := w_46.fr f47 (by omega)
  rw [show decide (exG7.check false = (3, 3)) = true by decide +kernel]
  simp -dsimp only [go_sem, r1.cell]
  clear hbe0
  clear w_46
  refine call_of (law8_example (by omega)) ?_
  rintro v48 h48 ⟨f48, q48, rfl, w48⟩
  have f48_z := f48.size
  replace p0 := p0.fresh f48 (by omega)
  replace r1 := r1.fr f48 (by omega)
  unfold gcells
  simp -dsimp only [go_sem, r1.cell]
  refine Chk_intro (r1.wr (by first | (simp; done) | (simp; omega))) fun h49 s49 => ?_
  have s49_z := s49.size
  replace p0 := p0.fresh s49.fr (by omega)
  replace w48 := w48.fr s49.fr (by omega)
  replace r1 := s49.row r1
  try simp only [cl_int, cl_bool, cl_slice, cl_ptr, putAt_one, List.set_cons_zero, List.set_cons_succ, ivec_set, brow_upd] at r1
  try simp -dsimp only [go_sem] at r1
  simp -dsimp only [go_sem, r1.cell]
  intro b50 h50 n50
  have n50_a := n50.at_
  have n50_z := n50.size
  replace p0 := p0.fresh (n50.fr (lo := 0) (hi := 0)) (by omega)
  replace r1 := r1.fr (n50.fr (lo := 0) (hi := 0)) (by omega)
  replace w48 := w48.fr (n50.fr (lo := 0) (hi := 0)) (by omega)
  have r50 := n50.row
  replace r50 : Rw h50 b50 (pairsV [(2, 3)]) := r50
  simp -dsimp only [go_sem, r1.cell, r50.cell]
  refine Chk_intro (r1.wr (by first | (simp; done) | (simp; omega))) fun h51 s51 => ?_
  have s51_z := s51.size
  replace p0 := p0.fresh s51.fr (by omega)
  replace w48 := w48.fr s51.fr (by omega)
  replace r50 := r50.fr s51.fr (by omega)
  replace r1 := s51.row r1
  try simp only [cl_int, cl_bool, cl_slice, cl_ptr, putAt_one, List.set_cons_zero, List.set_cons_succ, ivec_set, brow_upd] at r1
  try simp -dsimp only [go_sem] at r1
  simp -dsimp only [go_sem, r1.cell, r50.cell]
  refine call_of (c_law8_at (g := exG8) (GrAt.setR (w48.at_) (Rw.rd (s := 2) (n := 1) (c := 1) r50 rfl) (by decide)) 6 0) ?_
  rintro v52 h52 ⟨f52, rfl⟩
  have f52_z := f52.size
  replace p0 := p0.fresh f52 (by omega)
  replace r1 := r1.fr f52 (by omega)
  replace w48 := w48.fr f52 (by omega)
  replace r50 := r50.fr f52 (by omega)
  rw [show decide (exG8.check false = (6, 0)) = true by decide +kernel]
  simp -dsimp only [go_sem, r1.cell, r50.cell]
  clear r50 w48
  refine call_of (law8_example (by omega)) ?_
  rintro v53 h53 ⟨f53, q53, rfl, w53⟩
  have f53_z := f53.size
  replace p0 := p0.fresh f53 (by omega)
  replace r1 := r1.fr f53 (by omega)
  unfold gcells
  simp -dsimp only [go_sem, r1.cell]
  refine Chk_intro (r1.wr (by first | (simp; done) | (simp; omega))) fun h54 s54 => ?_
  have s54_z := s54.size
  replace p0 := p0.fresh s54.fr (by omega)
  replace w53 := w53.fr s54.fr (by omega)
  replace r1 := s54.row r1
  try simp only [cl_int, cl_bool, cl_slice, cl_ptr, putAt_one, List.set_cons_zero, List.set_cons_succ, ivec_set, brow_upd] at r1
  try simp -dsimp only [go_sem] at r1
  simp -dsimp only [go_sem, r1.cell]
  obtain ⟨be0, hbe0, lbe0, ube0, -, -, -⟩ := w53.ev (by decide)
  intro b55 h55 n55
  have n55_a := n55.at_
  have n55_z := n55.size
  replace p0 := p0.fresh (n55.fr (lo := 0) (hi := 0)) (by omega)
  replace r1 := r1.fr (n55.fr (lo := 0) (hi := 0)) (by omega)
  replace w53 := w53.fr (n55.fr (lo := 0) (hi := 0)) (by omega)
  have r55 := n55.row
  replace r55 : Rw h55 b55 (pairsV [(2, 3)]) := r55
  simp -dsimp only [go_sem, r1.cell, r55.cell]
  refine Chk_intro (r1.wr (by first | (simp; done) | (simp; omega))) fun h56 s56 => ?_
  have s56_z := s56.size
  replace p0 := p0.fresh s56.fr (by omega)
  replace w53 := w53.fr s56.fr (by omega)
  replace r55 := r55.fr s56.fr (by omega)
  replace r1 := s56.row r1
  try simp only [cl_int, cl_bool, cl_slice, cl_ptr, putAt_one, List.set_cons_zero, List.set_cons_succ, ivec_set, brow_upd] at r1
  try simp -dsimp only [go_sem] at r1
  simp -dsimp only [go_sem, r1.cell, r55.cell]
  refine call_of (c_law8_at (g := exG9) (GrAt.setC (w53.at_) (Rw.rd (s := 2) (n := 1) (c := 1) r55 rfl) (by decide)) 9 0) ?_
  rintro v57 h57 ⟨f57, rfl⟩
  have f57_z := f57.size
  replace p0 := p0.fresh f57 (by omega)
  replace r1 := r1.fr f57 (by omega)
  replace w53 := w53.fr f57 (by omega)
  replace r55 := r55.fr f57 (by omega)
  rw [show decide (exG9.check false = (9, 0)) = true by decide +kernel]
  simp -dsimp only [go_sem, r1.cell, r55.cell]
  obtain ⟨be, hbe, -, -, wre, ste, -⟩ := w53.ev (by decide)
  rw [hbe0] at hbe
  cases hbe
  try simp -dsimp only [go_sem, hbe0, r1.cell, r55.cell]
  refine Chk_intro (by decide) ?_
  try simp -dsimp only [go_sem, hbe0, r1.cell, r55.cell]
  refine Chk_intro (wre 0 (by decide)).1 fun h58 s58 => ?_
  have w_58 := ste _ 0 11 (by decide) s58
  clear ste wre w53
  have y_58 : Fr be0 (be0 + 1) _ _ := s58.fr
  have y_58_z := y_58.size
  replace p0 := p0.fresh y_58 (by omega)
  replace r1 := r1.fr y_58 (by omega)
  replace r55 := r55.fr y_58 (by omega)
  simp -dsimp only [go_sem, r1.cell, r55.cell]
  obtain ⟨be, hbe, -, -, wre, ste, -⟩ := w_58.ev (by decide)
  rw [hbe0] at hbe
  cases hbe
  try simp -dsimp only [go_sem, hbe0, r1.cell, r55.cell]
  refine Chk_intro (by decide) ?_
  try simp -dsimp only [go_sem, hbe0, r1.cell, r55.cell]
  refine Chk_intro (wre 1 (by decide)).1 fun h59 s59 => ?_
  have w_59 := ste _ 1 11 (by decide) s59
  clear ste wre w_58
  have y_59 : Fr be0 (be0 + 1) _ _ := s59.fr
  have y_59_z := y_59.size
  replace p0 := p0.fresh y_59 (by omega)
  replace r1 := r1.fr y_59 (by omega)
  replace r55 := r55.fr y_59 (by omega)
  simp -dsimp only [go_sem, r1.cell, r55.cell]
  obtain ⟨be, hbe, -, -, wre, ste, -⟩ := w_59.ev (by decide)
  rw [hbe0] at hbe
  cases hbe
  try simp -dsimp only [go_sem, hbe0, r1.cell, r55.cell]
  refine Chk_intro (by decide) ?_
  try simp -dsimp only [go_sem, hbe0, r1.cell, r55.cell]
  refine Chk_intro (wre 2 (by decide)).1 fun h60 s60 => ?_
  have w_60 := ste _ 2 12 (by decide) s60
  clear ste wre w_59
  have y_60 : Fr be0 (be0 + 1) _ _ := s60.fr
  have y_60_z := y_60.size
  replace p0 := p0.fresh y_60 (by omega)
  replace r1 := r1.fr y_60 (by omega)
  replace r55 := r55.fr y_60 (by omega)
  simp -dsimp only [go_sem, r1.cell, r55.cell]
  obtain ⟨be, hbe, -, -, wre, ste, -⟩ := w_60.ev (by decide)
  rw [hbe0] at hbe
  cases hbe
  try simp -dsimp only [go_sem, hbe0, r1.cell, r55.cell]
  refine Chk_intro (by decide) ?_
  try simp -dsimp only [go_sem, hbe0, r1.cell, r55.cell]
  refine Chk_intro (wre 3 (by decide)).1 fun h61 s61 => ?_
  have w_61 := ste _ 3 15 (by decide) s61
  clear ste wre w_60
  have y_61 : Fr be0 (be0 + 1) _ _ := s61.fr
  have y_61_z := y_61.size
  replace p0 := p0.fresh y_61 (by omega)
  replace r1 := r1.fr y_61 (by omega)
  replace r55 := r55.fr y_61 (by omega)
  simp -dsimp only [go_sem, r1.cell, r55.cell]
  refine call_of (graph_Check (g := exGa) (GrAt.setC (w_61.at_) (Rw.rd (s := 2) (n := 1) (c := 1) r55 rfl) (by decide)) true) ?_
  rintro v62 h62 ⟨f62, rfl⟩
  have f62_z := f62.size
  replace p0 := p0.fresh f62 (by omega)
  replace r1 := r1.fr f62 (by omega)
  replace r55 := r55.fr f62 (by omega)
  replace w_61 := w_61.fr f62 (by omega)
  rw [show exGa.check true = (0, 0) by decide +kernel]
  simp -dsimp only [go_sem, r1.cell, r55.cell]
  intro b63 h63 n63
  have n63_a := n63.at_
  have n63_z := n63.size
  replace p0 := p0.fresh (n63.fr (lo := 0) (hi := 0)) (by omega)
  replace r1 := r1.fr (n63.fr (lo := 0) (hi := 0)) (by omega)
  replace r55 := r55.fr (n63.fr (lo := 0) (hi := 0)) (by omega)
  replace w_61 := w_61.fr (n63.fr (lo := 0) (hi := 0)) (by omega)
  have r63 := n63.row
  replace r63 : Rw h63 b63 (pairsV [(2, 3)]) := r63
  simp -dsimp only [go_sem, r1.cell, r55.cell, r63.cell]
  refine Chk_intro (r1.wr (by first | (simp; done) | (simp; omega))) fun h64 s64 => ?_
  have s64_z := s64.size
  replace p0 := p0.fresh s64.fr (by omega)
  replace r55 := r55.fr s64.fr (by omega)
  replace w_61 := w_61.fr s64.fr (by omega)
  replace r63 := r63.fr s64.fr (by omega)
  replace r1 := s64.row r1
  try simp only [cl_int, cl_bool, cl_slice, cl_ptr, putAt_one, List.set_cons_zero, List.set_cons_succ, ivec_set, brow_upd] at r1
  try simp -dsimp only [go_sem] at r1
  simp -dsimp only [go_sem, r1.cell, r55.cell, r63.cell]
  refine call_of (graph_Check (g := exGb) (GrAt.setA (GrAt.setC (w_61.at_) (Rw.rd (s := 2) (n := 1) (c := 1) r55 rfl) (by decide)) (Rw.rd (s := 2) (n := 1) (c := 1) r63 rfl) (by decide)) true) ?_
  rintro v65 h65 ⟨f65, rfl⟩
  have f65_z := f65.size
  replace p0 := p0.fresh f65 (by omega)
  replace r1 := r1.fr f65 (by omega)
  replace r55 := r55.fr f65 (by omega)
  replace w_61 := w_61.fr f65 (by omega)
  replace r63 := r63.fr f65 (by omega)
  rw [show exGb.check true = (7, 0) by decide +kernel]
  simp -dsimp only [go_sem, r1.cell, r55.cell, r63.cell]
  clear hbe0
  clear r55 r63 w_61
  refine call_of (law8_example (by omega)) ?_
  rintro v66 h66 ⟨f66, q66, rfl, w66⟩
  have f66_z := f66.size
  replace p0 := p0.fresh f66 (by omega)
  replace r1 := r1.fr f66 (by omega)
  unfold gcells
  simp -dsimp only [go_sem, r1.cell]
  refine Chk_intro (r1.wr (by first | (simp; done) | (simp; omega))) fun h67 s67 => ?_
  have s67_z := s67.size
  replace p0 := p0.fresh s67.fr (by omega)
  replace w66 := w66.fr s67.fr (by omega)
  replace r1 := s67.row r1
  try simp only [cl_int, cl_bool, cl_slice, cl_ptr, putAt_one, List.set_cons_zero, List.set_cons_succ, ivec_set, brow_upd] at r1
  try simp -dsimp only [go_sem] at r1
  simp -dsimp only [go_sem, r1.cell]
  obtain ⟨be0, hbe0, lbe0, ube0, -, -, -⟩ := w66.ev (by decide)
  have hcap := holder_cap (by omega) w66.e
  have hcap1 : 1 ≤ q66.ec := Nat.le_trans (by decide) hcap
  have hne : ¬ q66.ec = 0 := by omega
  refine Chk_intro hcap1 ?_
  simp -dsimp only [go_sem, r1.cell]
  refine Chk_intro (Nat.zero_le _) ?_
  rw [if_neg hne, show Option.map (fun (x : Addr) => x.add (0 * 5)) q66.e = q66.e from by rw [hbe0]; rfl]
  simp -dsimp only [go_sem, Nat.sub_zero, show Int.toNat 1 = 1 from rfl, r1.cell]
  refine Chk_intro (r1.wr (by first | (simp; done) | (simp; omega))) fun h68 s68 => ?_
  have s68_z := s68.size
  replace p0 := p0.fresh s68.fr (by omega)
  replace w66 := w66.fr s68.fr (by omega)
  replace r1 := s68.row r1
  try simp only [cl_int, cl_bool, cl_slice, cl_ptr, putAt_one, List.set_cons_zero, List.set_cons_succ, ivec_set, brow_upd] at r1
  try simp -dsimp only [go_sem] at r1
  simp -dsimp only [go_sem, r1.cell]
  refine Chk_intro (r1.wr (by first | (simp; done) | (simp; omega))) fun h69 s69 => ?_
  have s69_z := s69.size
  replace p0 := p0.fresh s69.fr (by omega)
  replace w66 := w66.fr s69.fr (by omega)
  replace r1 := s69.row r1
  try simp only [cl_int, cl_bool, cl_slice, cl_ptr, putAt_one, List.set_cons_zero, List.set_cons_succ, ivec_set, brow_upd] at r1
  try simp -dsimp only [go_sem] at r1
  simp -dsimp only [go_sem, r1.cell]
  intro b70 h70 n70
  have n70_a := n70.at_
  have n70_z := n70.size
  replace p0 := p0.fresh (n70.fr (lo := 0) (hi := 0)) (by omega)
  replace r1 := r1.fr (n70.fr (lo := 0) (hi := 0)) (by omega)
  replace w66 := w66.fr (n70.fr (lo := 0) (hi := 0)) (by omega)
  have r70 := n70.row
  replace r70 : Rw h70 b70 (intsV [0]) := r70
  simp -dsimp only [go_sem, r1.cell, r70.cell]
  intro b71 h71 n71
  have n71_a := n71.at_
  have n71_z := n71.size
  replace p0 := p0.fresh (n71.fr (lo := 0) (hi := 0)) (by omega)
  replace r1 := r1.fr (n71.fr (lo := 0) (hi := 0)) (by omega)
  replace w66 := w66.fr (n71.fr (lo := 0) (hi := 0)) (by omega)
  replace r70 := r70.fr (n71.fr (lo := 0) (hi := 0)) (by omega)
  have r71 := n71.row
  simp -dsimp only [go_sem, r1.cell, r70.cell, r71.cell]
  refine Chk_intro (r1.wr (by first | (simp; done) | (simp; omega))) fun h72 s72 => ?_
  have s72_z := s72.size
  replace p0 := p0.fresh s72.fr (by omega)
  replace w66 := w66.fr s72.fr (by omega)
  replace r70 := r70.fr s72.fr (by omega)
  replace r71 := r71.fr s72.fr (by omega)
  replace r1 := s72.row r1
  try simp only [cl_int, cl_bool, cl_slice, cl_ptr, putAt_one, List.set_cons_zero, List.set_cons_succ, ivec_set, brow_upd] at r1
  try simp -dsimp only [go_sem] at r1
  simp -dsimp only [go_sem, r1.cell, r70.cell, r71.cell]
  refine call_of (graph_Final (g := exGc) (GrAt.setO (L := [[0]]) (GrAt.setF (l := []) (GrAt.setE (l := exG.evs.take 1) (c := q66.ec) w66.at_ (rd_take (m := 1) w66.at_.e (by decide)) (by decide)) nilP (by decide)) (rlc_one r70 r71) (by decide) (by decide) (by decide))) ?_
  rintro v73 h73 ⟨f73, o73⟩
  have f73_z := f73.size
  replace p0 := p0.fresh f73 (by omega)
  replace r1 := r1.fr f73 (by omega)
  replace w66 := w66.fr f73 (by omega)
  replace r70 := r70.fr f73 (by omega)
  replace r71 := r71.fr f73 (by omega)
  rw [if_pos (show exGc.good = true by decide +kernel)] at o73
  obtain ⟨u, rfl, o73⟩ := o73
  rw [show finals exGc = [0] by decide +kernel] at o73
  simp -dsimp only [go_sem, r1.cell, r70.cell, r71.cell]
  refine call_of (c_law8_at (g := exGc) (GrAt.setO (L := [[0]]) (GrAt.setF (l := []) (GrAt.setE (l := exG.evs.take 1) (c := q66.ec) w66.at_ (rd_take (m := 1) w66.at_.e (by decide)) (by decide)) nilP (by decide)) (rlc_one r70 r71) (by decide) (by decide) (by decide)) 0 0) ?_
  rintro v74 h74 ⟨f74, rfl⟩
  have f74_z := f74.size
  replace p0 := p0.fresh f74 (by omega)
  replace r1 := r1.fr f74 (by omega)
  replace w66 := w66.fr f74 (by omega)
  replace r70 := r70.fr f74 (by omega)
  replace r71 := r71.fr f74 (by omega)
  replace o73 := o73.fr f74 (by have := o73.at_; omega)
  rw [show decide (exGc.check false = (0, 0)) = true by decide +kernel]
  simp -dsimp only [go_sem, r1.cell, r70.cell, r71.cell]
  intro b75 h75 n75
  have n75_a := n75.at_
  have n75_z := n75.size
  replace p0 := p0.fresh (n75.fr (lo := 0) (hi := 0)) (by omega)
  replace r1 := r1.fr (n75.fr (lo := 0) (hi := 0)) (by omega)
  replace w66 := w66.fr (n75.fr (lo := 0) (hi := 0)) (by omega)
  replace r70 := r70.fr (n75.fr (lo := 0) (hi := 0)) (by omega)
  replace r71 := r71.fr (n75.fr (lo := 0) (hi := 0)) (by omega)
  replace o73 := o73.fr (n75.fr (lo := 0) (hi := 0)) (by have := o73.at_; omega)
  have r75 := n75.row
  simp -dsimp only [go_sem, r1.cell, r70.cell, r71.cell, r75.cell]
  refine call_of (c_law8_words (l := [0]) (m := [0]) o73.rd (Rw.rd (s := 1) (n := 1) (c := 1) r75 rfl) (by decide)) ?_
  rintro v76 h75 ⟨rfl, rfl⟩
  simp -dsimp only [go_sem, dec_self, r1.cell, r70.cell, r71.cell, r75.cell]
  exact p0
end Go.Proofs.Tst
/-
  From a contract to a row: what a law's call leaves; how arguments are read.
-/
namespace Go.Vc
open Go Go.RowKit Go.ChangeShapes Go.WideShapes Go.ChangeAt Go.Deep
section
variable {H : Type} {enc : TypeId × Value → H} {P : Program}
theorem trodAll_below (hl : laidOutB P = true) {W W' : World} (hb : Below W.heap.size W W') : ∀ {ts : List TypeId} {vs : List Value} {ds : List (DataW H)} {ps : List MemPlace},
    ts.all (fun t => P.readableRec t && decide (t < P.types.size)) = true → DataW.TrodAll enc P W 0 (fun _ => true) true ts vs ds ps → DataW.TrodAll enc P W' 0 (fun b => decide (b < W.heap.size)) true ts vs ds ps
  | [], _, _, _, _, h => by
    obtain ⟨rfl, rfl, rfl⟩ := trodAll_nil h
    exact rfl
  | t :: ts, _, _, _, hr, h => by
    have hlt := h.lt
    obtain ⟨v, vs, d, ds, p, q, rfl, rfl, rfl, h1, h2⟩ := trodAll_cons h
    simp only [List.all_cons, Bool.and_eq_true, decide_eq_true_eq] at hr
    exact ⟨p, q, Below.trod hl hr.1.1 hr.1.2 h1 hb (fun x hx => hlt x (List.mem_append_left _ hx)), trodAll_below hl hb hr.2 h2, rfl⟩

/-- What a law that answers true leaves. -/
theorem law_post {f : Func} {s : ChangeSpec} {W W' : World} {args : Array Value} {ds gs : List (DataW H)} {before : List MemPlace} {tb : TypeId}
    (hl : laidOutB P = true) (hp : f.params.toList.all (fun t => P.readableRec t && decide (t < P.types.size)) = true) (hv : s.vars = [])
    (hrt : f.resultTypes = #[tb]) (htb : P.underlying tb = some .bool) (hW : DataW.Whole enc P f.params.toList s.vars false W args.toList ds gs before)
    (hb : Below W.heap.size W W') (hfn : s.fn H (ds ++ gs) = { results := [.lit (.bool true)], args := ds }) : s.post enc P f false true false false W args (.bool true) W' := by
  have hW0 := hW
  obtain ⟨p, q, hA, hV, rfl, hz, hn⟩ := hW0
  rw [hv] at hV
  obtain ⟨rfl, rfl⟩ := trodVars_none hV
  refine ⟨ds, [], _, [], p, [], hW, ?_, ?_, ?_, ?_, fun h => by cases h⟩
  · rw [hfn, hrt]; exact trodAll_cons_mk (shut_bool htb true) trodAll_mk0
  · rw [hfn]; exact trodAll_below hl hb hp hA
  · rw [hfn, hv]; exact rfl
  · refine World.keptBut_mono (fun p hp => ⟨hp, ?_⟩) (hb.frame (· ∈ p ++ []))
    rw [List.append_nil] at hp
    exact .inr (.inl hp)

/-- The heap's part of a call that keeps all that was. -/
theorem below_of {w w' : World} (hf : Fr 0 0 w.heap w'.heap) (hl : Like none w w') : Below w.heap.size w w' :=
  ⟨hl.os, hl.tape, hl.output, hl.size, fun k hk => hf.old k hk (.inr (Nat.zero_le _))⟩

variable {w : World} {base : Nat} {held : Bool}
end
end Go.Vc
