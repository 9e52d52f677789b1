/-
  Contracts of functions that the law reaches: what each returns and what it leaves in memory. Conditions stand in each.
-/
import Derived.Test.YtmilaghhnaoidaaDoorT8
set_option linter.all false
set_option maxRecDepth 2000
/-
  law11: says, buffering, passing.
-/
namespace Go.Proofs.Tst
open Go Go.Vc
theorem armAx_len {g : Gr} : (armAx g).2.length ≤ g.n + 2 := by
  have h1 := cycS_len (n := g.n) (M := inM g)
  have h2 := cycS_len (n := g.n) (M := obM g)
  unfold armAx
  split
  · simp; omega
  split
  · simp; omega
  · split <;> simp
theorem c_law11_says {h : Heap} {q : GV} {g : Gr} (t : GrAt h q g) (ht : TabAt h) {bv : Value} {l : List Int} (hm : Rd 1 h bv l.length (intsV l)) (ax : Int) :
    Con Tryd.prog 45 #[.agg (gcells q g).toArray, .int .i64 ax, bv] h fun v h' => Fr 0 0 h h' ∧ v = .bool (decide ((g.check true).1 = 0 ∧ armAx g = (ax, l))) := by
  have p0 : Fr 0 0 h h := .refl _ _ _
  obtain ⟨ba, bc, rfl⟩ := hm.is
  by_cases hc : (g.check true).1 = 0
  rotate_left
  · have e : decide ((g.check true).1 = 0 ∧ armAx g = (ax, l)) = false := decide_eq_false fun h => hc h.1
    rw [e]
    refine con_law11_says ?_
    unfold gcells
    simp -dsimp only [go_sem]
    intro b1 h1 n1
    have n1_a := n1.at_
    have n1_z := n1.size
    replace p0 := p0.fresh (n1.fr (lo := 0) (hi := 0)) (by omega)
    have r1 := n1.row
    simp -dsimp only [go_sem, r1.cell]
    refine call_of (arm_Check (t.fr p0) (ht.fr p0 (.inr rfl))) ?_
    rintro v2 h2 ⟨f2, w⟩
    have f2_z := f2.size
    replace p0 := p0.fresh f2 (by omega)
    replace r1 := r1.fr f2 (by omega)
    rw [if_neg hc] at w
    subst w
    simp -dsimp only [go_sem, r1.cell]
    exact p0
  have hn := (good_n (good_true hc)).1
  have hal := armAx_len (g := g)
  refine con_law11_says ?_
  unfold gcells
  simp -dsimp only [go_sem]
  intro b1 h1 n1
  have n1_a := n1.at_
  have n1_z := n1.size
  replace p0 := p0.fresh (n1.fr (lo := 0) (hi := 0)) (by omega)
  have r1 := n1.row
  simp -dsimp only [go_sem, r1.cell]
  refine call_of (arm_Check (t.fr p0) (ht.fr p0 (.inr rfl))) ?_
  rintro v2 h2 ⟨f2, w⟩
  have f2_z := f2.size
  replace p0 := p0.fresh f2 (by omega)
  replace r1 := r1.fr f2 (by omega)
  rw [if_pos hc] at w
  obtain ⟨w, rfl, o⟩ := w
  obtain ⟨oa, oc, rfl⟩ := o.is
  by_cases ha : (armAx g).1 = ax
  rotate_left
  · have e : decide ((g.check true).1 = 0 ∧ armAx g = (ax, l)) = false := decide_eq_false fun h => ha (by rw [h.2])
    rw [e]
    simp -dsimp only [go_sem, beq_f ha, r1.cell]
    exact p0
  simp -dsimp only [go_sem, beq_t ha, r1.cell]
  refine call_of (c_law11_ints (l := (armAx g).2) (m := l) o.rd (hm.fr p0) (by omega)) ?_
  rintro v3 h2 ⟨rfl, rfl⟩
  have e : decide ((armAx g).2 = l) = decide ((g.check true).1 = 0 ∧ armAx g = (ax, l)) := by
    rw [Bool.eq_iff_iff, decide_eq_true_iff, decide_eq_true_iff]
    exact ⟨fun h => ⟨hc, Prod.ext ha h⟩, fun h => by rw [h.2]⟩
  rw [e]
  simp -dsimp only [go_sem, r1.cell]
  exact p0
def bufE (w r : Int) : List Ev := [⟨0, 2, 0, 1, w⟩, ⟨0, 1, 1, 0, r⟩, ⟨1, 2, 1, 1, w⟩, ⟨1, 1, 0, 0, r⟩]
def bufG (m w r : Int) : Gr := twoG m (bufE w r) [(1, 3), (0, 5)] [2] [4]
def pasE (m w r : Int) : List Ev := [⟨0, 2, 0, 1, m⟩, ⟨0, 2, 1, 1, w⟩, ⟨1, 1, 1, 1, r⟩, ⟨1, 1, 0, 0, m⟩]
def pasG (m w r : Int) : Gr := twoG m (pasE m w r) [(3, 4), (0, 5)] [2] [3]
theorem c_law11_buffering (w r : Int) {h : Heap} : Con Tryd.prog 47 #[.int .i64 w, .int .i64 r] h fun v h' => Fr 0 0 h h' ∧ ∃ q, v = .agg (gcells q (bufG 11 w r)).toArray ∧ GrAt h' q (bufG 11 w r) := by
  refine con_law11_buffering ?_
  have p0 : Fr 0 0 h h := .refl _ _ _
  simp -dsimp only [go_sem]
  intro b4 h1 n1
  have n1_a := n1.at_
  have n1_z := n1.size
  replace p0 := p0.fresh (n1.fr (lo := 0) (hi := 0)) (by omega)
  have r4 := n1.row
  simp -dsimp only [go_sem, r4.cell]
  refine call_of (c_law11_ev 0 2 0 1 w) ?_
  rintro v h2 ⟨f2, rfl⟩
  have f2_z := f2.size
  replace p0 := p0.fresh f2 (by omega)
  replace r4 := r4.fr f2 (by omega)
  simp -dsimp only [go_sem, r4.cell]
  refine call_of (c_law11_ev 0 1 1 0 r) ?_
  rintro v h3 ⟨f3, rfl⟩
  have f3_z := f3.size
  replace p0 := p0.fresh f3 (by omega)
  replace r4 := r4.fr f3 (by omega)
  simp -dsimp only [go_sem, r4.cell]
  refine call_of (c_law11_ev 1 2 1 1 w) ?_
  rintro v h4 ⟨f4, rfl⟩
  have f4_z := f4.size
  replace p0 := p0.fresh f4 (by omega)
  replace r4 := r4.fr f4 (by omega)
  simp -dsimp only [go_sem, r4.cell]
  refine call_of (c_law11_ev 1 1 0 0 r) ?_
  rintro v h5 ⟨f5, rfl⟩
  have f5_z := f5.size
  replace p0 := p0.fresh f5 (by omega)
  replace r4 := r4.fr f5 (by omega)
  simp -dsimp only [go_sem, r4.cell]
  intro b6 h6 n6
  have n6_a := n6.at_
  have n6_z := n6.size
  replace p0 := p0.fresh (n6.fr (lo := 0) (hi := 0)) (by omega)
  replace r4 := r4.fr (n6.fr (lo := 0) (hi := 0)) (by omega)
  have r6 := n6.row
  simp -dsimp only [go_sem, r4.cell, r6.cell]
  intro b7 h7 n7
  have n7_a := n7.at_
  have n7_z := n7.size
  replace p0 := p0.fresh (n7.fr (lo := 0) (hi := 0)) (by omega)
  replace r4 := r4.fr (n7.fr (lo := 0) (hi := 0)) (by omega)
  replace r6 := r6.fr (n7.fr (lo := 0) (hi := 0)) (by omega)
  have r7 := n7.row
  simp -dsimp only [go_sem, r4.cell, r6.cell, r7.cell]
  intro b8 h8 n8
  have n8_a := n8.at_
  have n8_z := n8.size
  replace p0 := p0.fresh (n8.fr (lo := 0) (hi := 0)) (by omega)
  replace r4 := r4.fr (n8.fr (lo := 0) (hi := 0)) (by omega)
  replace r6 := r6.fr (n8.fr (lo := 0) (hi := 0)) (by omega)
  replace r7 := r7.fr (n8.fr (lo := 0) (hi := 0)) (by omega)
  have r8 := n8.row
  simp -dsimp only [go_sem, r4.cell, r6.cell, r7.cell, r8.cell]
  intro b9 h9 n9
  have n9_a := n9.at_
  have n9_z := n9.size
  replace p0 := p0.fresh (n9.fr (lo := 0) (hi := 0)) (by omega)
  replace r4 := r4.fr (n9.fr (lo := 0) (hi := 0)) (by omega)
  replace r6 := r6.fr (n9.fr (lo := 0) (hi := 0)) (by omega)
  replace r7 := r7.fr (n9.fr (lo := 0) (hi := 0)) (by omega)
  replace r8 := r8.fr (n9.fr (lo := 0) (hi := 0)) (by omega)
  have r9 := n9.row
  simp -dsimp only [go_sem, r4.cell, r6.cell, r7.cell, r8.cell, r9.cell]
  refine call_of (c_law11_two (E := bufE w r) (rf := [(1, 3), (0, 5)]) (x := [2]) (y := [4]) (lo := b4 + 1) (by omega) (Rw.rd (s := 5) (n := 4) (c := 4) r6 rfl) (fun h' f => Rw.rd (s := 2) (n := 2) (c := 2) (r7.fr f (by omega)) rfl) (Rw.rd (s := 1) (n := 1) (c := 1) r8 rfl) (Rw.rd (s := 1) (n := 1) (c := 1) r9 rfl) (Nat.le_of_ble_eq_true rfl) (by simp) (by simp) (by simp)) ?_
  rintro v h10 ⟨f10, q, rfl, t⟩
  have f10_z := f10.size
  replace p0 := p0.fresh f10 (by omega)
  replace r4 := r4.fr f10 (by omega)
  replace r6 := r6.fr f10 (by omega)
  replace r7 := r7.fr f10 (by omega)
  replace r8 := r8.fr f10 (by omega)
  replace r9 := r9.fr f10 (by omega)
  unfold gcells
  simp -dsimp only [go_sem, r4.cell, r6.cell, r7.cell, r8.cell, r9.cell]
  refine Chk_intro (r4.wr (by first | (simp; done) | (simp; omega))) fun h11 s11 => ?_
  have s11_z := s11.size
  replace p0 := p0.fresh s11.fr (by omega)
  replace r6 := r6.fr s11.fr (by omega)
  replace r7 := r7.fr s11.fr (by omega)
  replace r8 := r8.fr s11.fr (by omega)
  replace r9 := r9.fr s11.fr (by omega)
  replace r4 := s11.row r4
  try simp only [cl_int, cl_bool, cl_slice, cl_ptr, putAt_one, List.set_cons_zero, List.set_cons_succ, ivec_set, brow_upd] at r4
  have t := t _ (s11.fr.wide (Nat.le_refl _))
  simp -dsimp only [go_sem, r4.cell, r6.cell, r7.cell, r8.cell, r9.cell]
  exact ⟨p0, q, rfl, t⟩
theorem c_law11_passing (w r : Int) {h : Heap} : Con Tryd.prog 42 #[.int .i64 w, .int .i64 r] h fun v h' => Fr 0 0 h h' ∧ ∃ q, v = .agg (gcells q (pasG 11 w r)).toArray ∧ GrAt h' q (pasG 11 w r) := by
  refine con_law11_passing ?_
  have p0 : Fr 0 0 h h := .refl _ _ _
  simp -dsimp only [go_sem]
  intro b4 h1 n1
  have n1_a := n1.at_
  have n1_z := n1.size
  replace p0 := p0.fresh (n1.fr (lo := 0) (hi := 0)) (by omega)
  have r4 := n1.row
  simp -dsimp only [go_sem, r4.cell]
  refine call_of (c_law11_ev 0 2 0 1 11) ?_
  rintro v h2 ⟨f2, rfl⟩
  have f2_z := f2.size
  replace p0 := p0.fresh f2 (by omega)
  replace r4 := r4.fr f2 (by omega)
  simp -dsimp only [go_sem, r4.cell]
  refine call_of (c_law11_ev 0 2 1 1 w) ?_
  rintro v h3 ⟨f3, rfl⟩
  have f3_z := f3.size
  replace p0 := p0.fresh f3 (by omega)
  replace r4 := r4.fr f3 (by omega)
  simp -dsimp only [go_sem, r4.cell]
  refine call_of (c_law11_ev 1 1 1 1 r) ?_
  rintro v h4 ⟨f4, rfl⟩
  have f4_z := f4.size
  replace p0 := p0.fresh f4 (by omega)
  replace r4 := r4.fr f4 (by omega)
  simp -dsimp only [go_sem, r4.cell]
  refine call_of (c_law11_ev 1 1 0 0 11) ?_
  rintro v h5 ⟨f5, rfl⟩
  have f5_z := f5.size
  replace p0 := p0.fresh f5 (by omega)
  replace r4 := r4.fr f5 (by omega)
  simp -dsimp only [go_sem, r4.cell]
  intro b6 h6 n6
  have n6_a := n6.at_
  have n6_z := n6.size
  replace p0 := p0.fresh (n6.fr (lo := 0) (hi := 0)) (by omega)
  replace r4 := r4.fr (n6.fr (lo := 0) (hi := 0)) (by omega)
  have r6 := n6.row
  simp -dsimp only [go_sem, r4.cell, r6.cell]
  intro b7 h7 n7
  have n7_a := n7.at_
  have n7_z := n7.size
  replace p0 := p0.fresh (n7.fr (lo := 0) (hi := 0)) (by omega)
  replace r4 := r4.fr (n7.fr (lo := 0) (hi := 0)) (by omega)
  replace r6 := r6.fr (n7.fr (lo := 0) (hi := 0)) (by omega)
  have r7 := n7.row
  simp -dsimp only [go_sem, r4.cell, r6.cell, r7.cell]
  intro b8 h8 n8
  have n8_a := n8.at_
  have n8_z := n8.size
  replace p0 := p0.fresh (n8.fr (lo := 0) (hi := 0)) (by omega)
  replace r4 := r4.fr (n8.fr (lo := 0) (hi := 0)) (by omega)
  replace r6 := r6.fr (n8.fr (lo := 0) (hi := 0)) (by omega)
  replace r7 := r7.fr (n8.fr (lo := 0) (hi := 0)) (by omega)
  have r8 := n8.row
  simp -dsimp only [go_sem, r4.cell, r6.cell, r7.cell, r8.cell]
  intro b9 h9 n9
  have n9_a := n9.at_
  have n9_z := n9.size
  replace p0 := p0.fresh (n9.fr (lo := 0) (hi := 0)) (by omega)
  replace r4 := r4.fr (n9.fr (lo := 0) (hi := 0)) (by omega)
  replace r6 := r6.fr (n9.fr (lo := 0) (hi := 0)) (by omega)
  replace r7 := r7.fr (n9.fr (lo := 0) (hi := 0)) (by omega)
  replace r8 := r8.fr (n9.fr (lo := 0) (hi := 0)) (by omega)
  have r9 := n9.row
  simp -dsimp only [go_sem, r4.cell, r6.cell, r7.cell, r8.cell, r9.cell]
  refine call_of (c_law11_two (E := pasE 11 w r) (rf := [(3, 4), (0, 5)]) (x := [2]) (y := [3]) (lo := b4 + 1) (by omega) (Rw.rd (s := 5) (n := 4) (c := 4) r6 rfl) (fun h' f => Rw.rd (s := 2) (n := 2) (c := 2) (r7.fr f (by omega)) rfl) (Rw.rd (s := 1) (n := 1) (c := 1) r8 rfl) (Rw.rd (s := 1) (n := 1) (c := 1) r9 rfl) (Nat.le_of_ble_eq_true rfl) (by simp) (by simp) (by simp)) ?_
  rintro v h10 ⟨f10, q, rfl, t⟩
  have f10_z := f10.size
  replace p0 := p0.fresh f10 (by omega)
  replace r4 := r4.fr f10 (by omega)
  replace r6 := r6.fr f10 (by omega)
  replace r7 := r7.fr f10 (by omega)
  replace r8 := r8.fr f10 (by omega)
  replace r9 := r9.fr f10 (by omega)
  unfold gcells
  simp -dsimp only [go_sem, r4.cell, r6.cell, r7.cell, r8.cell, r9.cell]
  refine Chk_intro (r4.wr (by first | (simp; done) | (simp; omega))) fun h11 s11 => ?_
  have s11_z := s11.size
  replace p0 := p0.fresh s11.fr (by omega)
  replace r6 := r6.fr s11.fr (by omega)
  replace r7 := r7.fr s11.fr (by omega)
  replace r8 := r8.fr s11.fr (by omega)
  replace r9 := r9.fr s11.fr (by omega)
  replace r4 := s11.row r4
  try simp only [cl_int, cl_bool, cl_slice, cl_ptr, putAt_one, List.set_cons_zero, List.set_cons_succ, ivec_set, brow_upd] at r4
  have t := t _ (s11.fr.wide (Nat.le_refl _))
  simp -dsimp only [go_sem, r4.cell, r6.cell, r7.cell, r8.cell, r9.cell]
  exact ⟨p0, q, rfl, t⟩
end Go.Proofs.Tst
/-
  law11: lives.
-/
namespace Go.Proofs.Tst
open Go Go.Vc
theorem kb1 : decide (((bufG 11 11 11).check true).1 = 0 ∧ armAx (bufG 11 11 11) = (0, [])) = true := by decide +kernel
theorem kb2 : decide (((bufG 11 13 12).check true).1 = 0 ∧ armAx (bufG 11 13 12) = (2, [2, 3, 4, 5])) = true := by decide +kernel
theorem kp1 : decide (((pasG 11 11 11).check true).1 = 0 ∧ armAx (pasG 11 11 11) = (0, [])) = true := by decide +kernel
theorem kp2 : decide (((pasG 11 13 12).check true).1 = 0 ∧ armAx (pasG 11 13 12) = (2, [2, 3, 4, 5])) = true := by decide +kernel
theorem kp3 : ((pasG 11 13 12).check true).1 = 0 := by decide +kernel
theorem kp4 : pairsOf (pasG 11 13 12).n (obsM (pasG 11 13 12)) = [(0, 2), (0, 5), (1, 3), (3, 4), (5, 2)] := by decide +kernel
theorem nilI {h : Heap} : Rd 1 h (.slice none 0 0) ([] : List Int).length (intsV []) := ⟨rfl, _, _, rfl, .inl rfl⟩
set_option maxHeartbeats 2000000 in
theorem law11_lives {h : Heap} (ht : TabAt h) : Con Tryd.prog 41 #[] h fun v h' => Fr 0 0 h h' ∧ v = .bool true := by
  refine con_law11_lives ?_
  have p0 : Fr 0 0 h h := .refl _ _ _
  simp -dsimp only [go_sem]
  refine call_of (c_law11_passing 13 12) ?_
  rintro v1 h1 ⟨f1, q1, rfl, t1⟩
  have f1_z := f1.size
  replace p0 := p0.fresh f1 (by omega)
  simp -dsimp only [go_sem]
  refine call_of (arm_Derive t1 (ht.fr p0 (.inr rfl))) ?_
  rintro v2 h2 ⟨f2, w⟩
  have f2_z := f2.size
  replace p0 := p0.fresh f2 (by omega)
  rw [if_pos kp3] at w
  obtain ⟨x, A, B, rfl, D, dlo⟩ := w
  have g0 := D.at_ 0 (by decide)
  have ab := dlo 0 (by decide)
  obtain ⟨c0, e0⟩ := progPtr (D.at_ 0 (by decide))
  obtain ⟨c1, e1⟩ := progPtr (D.at_ 1 (by decide))
  obtain ⟨c2, e2⟩ := progPtr (D.at_ 2 (by decide))
  obtain ⟨c3, e3⟩ := progPtr (D.at_ 3 (by decide))
  obtain ⟨c4, e4⟩ := progPtr (D.at_ 4 (by decide))
  rw [e0, e1, e2, e3, e4]
  rw [e0] at g0
  have p2 : Fr 0 0 h2 h2 := .refl _ _ _
  simp -dsimp only [go_sem]
  intro b3 h3 n3
  have n3_a := n3.at_
  have n3_z := n3.size
  replace p0 := p0.fresh (n3.fr (lo := 0) (hi := 0)) (by omega)
  replace p2 := p2.fresh (n3.fr (lo := 0) (hi := 0)) (by omega)
  have r3 := n3.row
  simp -dsimp only [go_sem, r3.cell]
  refine Chk_intro (r3.wr (by first | (simp; done) | (simp; omega))) fun h4 s4 => ?_
  have s4_z := s4.size
  replace p0 := p0.fresh s4.fr (by omega)
  replace p2 := p2.fresh s4.fr (by omega)
  replace r3 := s4.row r3
  try simp only [cl_int, cl_bool, cl_slice, cl_ptr, putAt_one, List.set_cons_zero, List.set_cons_succ, ivec_set, brow_upd] at r3
  try simp -dsimp only [go_sem] at r3
  simp -dsimp only [go_sem, r3.cell]
  refine call_of (c_law11_buffering 11 11) ?_
  rintro v5 h5 ⟨f5, q5, rfl, t5⟩
  have f5_z := f5.size
  replace p0 := p0.fresh f5 (by omega)
  replace p2 := p2.fresh f5 (by omega)
  replace r3 := r3.fr f5 (by omega)
  simp -dsimp only [go_sem, r3.cell]
  refine call_of (c_law11_says t5 (ht.fr p0 (.inr rfl)) nilI 0) ?_
  rintro v6 h6 ⟨f6, rfl⟩
  have f6_z := f6.size
  replace p0 := p0.fresh f6 (by omega)
  replace p2 := p2.fresh f6 (by omega)
  replace r3 := r3.fr f6 (by omega)
  rw [kb1]
  simp -dsimp only [go_sem, r3.cell]
  refine call_of (c_law11_buffering 13 12) ?_
  rintro v7 h7 ⟨f7, q7, rfl, t7⟩
  have f7_z := f7.size
  replace p0 := p0.fresh f7 (by omega)
  replace p2 := p2.fresh f7 (by omega)
  replace r3 := r3.fr f7 (by omega)
  simp -dsimp only [go_sem, r3.cell]
  intro b8 h8 n8
  have n8_a := n8.at_
  have n8_z := n8.size
  replace p0 := p0.fresh (n8.fr (lo := 0) (hi := 0)) (by omega)
  replace p2 := p2.fresh (n8.fr (lo := 0) (hi := 0)) (by omega)
  replace r3 := r3.fr (n8.fr (lo := 0) (hi := 0)) (by omega)
  have r8 := n8.row
  have t8 := t7.fr n8.fr
  simp -dsimp only [go_sem, r3.cell, r8.cell]
  refine call_of (c_law11_says t8 (ht.fr p0 (.inr rfl)) (l := [2, 3, 4, 5]) (Rw.rd (s := 1) (n := 4) (c := 4) r8 rfl) 2) ?_
  rintro v9 h9 ⟨f9, rfl⟩
  have f9_z := f9.size
  replace p0 := p0.fresh f9 (by omega)
  replace p2 := p2.fresh f9 (by omega)
  replace r3 := r3.fr f9 (by omega)
  replace r8 := r8.fr f9 (by omega)
  rw [kb2]
  simp -dsimp only [go_sem, r3.cell, r8.cell]
  refine call_of (c_law11_passing 11 11) ?_
  rintro v10 h10 ⟨f10, q10, rfl, t10⟩
  have f10_z := f10.size
  replace p0 := p0.fresh f10 (by omega)
  replace p2 := p2.fresh f10 (by omega)
  replace r3 := r3.fr f10 (by omega)
  replace r8 := r8.fr f10 (by omega)
  simp -dsimp only [go_sem, r3.cell, r8.cell]
  refine call_of (c_law11_says t10 (ht.fr p0 (.inr rfl)) nilI 0) ?_
  rintro v11 h11 ⟨f11, rfl⟩
  have f11_z := f11.size
  replace p0 := p0.fresh f11 (by omega)
  replace p2 := p2.fresh f11 (by omega)
  replace r3 := r3.fr f11 (by omega)
  replace r8 := r8.fr f11 (by omega)
  rw [kp1]
  simp -dsimp only [go_sem, r3.cell, r8.cell]
  refine call_of (c_law11_passing 13 12) ?_
  rintro v12 h12 ⟨f12, q12, rfl, t12⟩
  have f12_z := f12.size
  replace p0 := p0.fresh f12 (by omega)
  replace p2 := p2.fresh f12 (by omega)
  replace r3 := r3.fr f12 (by omega)
  replace r8 := r8.fr f12 (by omega)
  simp -dsimp only [go_sem, r3.cell, r8.cell]
  intro b13 h13 n13
  have n13_a := n13.at_
  have n13_z := n13.size
  replace p0 := p0.fresh (n13.fr (lo := 0) (hi := 0)) (by omega)
  replace p2 := p2.fresh (n13.fr (lo := 0) (hi := 0)) (by omega)
  replace r3 := r3.fr (n13.fr (lo := 0) (hi := 0)) (by omega)
  replace r8 := r8.fr (n13.fr (lo := 0) (hi := 0)) (by omega)
  have r13 := n13.row
  have t13 := t12.fr n13.fr
  simp -dsimp only [go_sem, r3.cell, r8.cell, r13.cell]
  refine call_of (c_law11_says t13 (ht.fr p0 (.inr rfl)) (l := [2, 3, 4, 5]) (Rw.rd (s := 1) (n := 4) (c := 4) r13 rfl) 2) ?_
  rintro v14 h14 ⟨f14, rfl⟩
  have f14_z := f14.size
  replace p0 := p0.fresh f14 (by omega)
  replace p2 := p2.fresh f14 (by omega)
  replace r3 := r3.fr f14 (by omega)
  replace r8 := r8.fr f14 (by omega)
  replace r13 := r13.fr f14 (by omega)
  rw [kp2]
  simp -dsimp only [go_sem, r3.cell, r8.cell, r13.cell]
  refine call_of (rel_Pairs (g0.fr p2 (by omega)) (ht.fr p0 (.inr rfl))) ?_
  rintro v15 h15 ⟨f15, o15⟩
  have f15_z := f15.size
  replace p0 := p0.fresh f15 (by omega)
  replace p2 := p2.fresh f15 (by omega)
  replace r3 := r3.fr f15 (by omega)
  replace r8 := r8.fr f15 (by omega)
  replace r13 := r13.fr f15 (by omega)
  replace o15 : Holder 2 h15 v15 (pairsOf (pasG 11 13 12).n (obsM (pasG 11 13 12))).length (pairsV (pairsOf (pasG 11 13 12).n (obsM (pasG 11 13 12)))) h14.size := o15
  rw [kp4] at o15
  simp -dsimp only [go_sem, r3.cell, r8.cell, r13.cell]
  intro b16 h16 n16
  have n16_a := n16.at_
  have n16_z := n16.size
  replace p0 := p0.fresh (n16.fr (lo := 0) (hi := 0)) (by omega)
  replace p2 := p2.fresh (n16.fr (lo := 0) (hi := 0)) (by omega)
  replace r3 := r3.fr (n16.fr (lo := 0) (hi := 0)) (by omega)
  replace r8 := r8.fr (n16.fr (lo := 0) (hi := 0)) (by omega)
  replace r13 := r13.fr (n16.fr (lo := 0) (hi := 0)) (by omega)
  have r16 := n16.row
  have o16 := o15.rd.fr n16.fr
  simp -dsimp only [go_sem, r3.cell, r8.cell, r13.cell, r16.cell]
  refine call_of (c_law11_pairs (l := [(0, 2), (0, 5), (1, 3), (3, 4), (5, 2)]) (m := [(0, 2), (0, 5), (1, 3), (3, 4), (5, 2)]) o16 (Rw.rd (s := 2) (n := 5) (c := 5) r16 rfl) (by decide)) ?_
  rintro v17 h16 ⟨rfl, rfl⟩
  simp -dsimp only [go_sem, dec_self, r3.cell, r8.cell, r13.cell, r16.cell]
  exact p0
end Go.Proofs.Tst
/-
  ArmWeaker.
-/
namespace Go.Proofs.Tst
open Go Go.Vc
/-- A loop that is left in two ways. -/
theorem loop_two {P : Program} {y : Option Nat} {c : GC} {Q : Post} {K : Env → Heap → Prop} {k : Nat} {e : Env} {h : Heap} {α : Type} (E : α → Env) (I : α → Heap → Prop)
    (h1 : loopVC (vc P y c) (blockQ k (thenQ (fun e h => ∃ s, Le (E s) e ∧ I s h) Q)) e h) (h2 : ∀ s h, I s h → ∀ e, Le (E s) e → K e h) : loopVC (vc P y c) (blockQ k (thenQ K Q)) e h :=
  vc_mono (c := .loop c) (Q := blockQ k (thenQ (fun e h => ∃ s, Le (E s) e ∧ I s h) Q)) (Q' := blockQ k (thenQ K Q)) (fun x e h hq => by
    have key : thenQ (fun e h => ∃ s, Le (E s) e ∧ I s h) Q .normal e h → thenQ K Q .normal e h := fun ⟨s, hl, hi⟩ => h2 s h hi e hl
    cases x with
    | normal => exact key hq
    | ret => exact hq
    | exit j =>
      by_cases hj : j = k
      · simp only [blockQ, hj, if_true] at hq ⊢; exact key hq
      · simp only [blockQ, hj, if_false] at hq ⊢; exact hq) h1
theorem holder_mode {h : Heap} {b n c lo : Nat} {E : List Ev} (w : Holder 5 h (.slice (some ⟨b, 0, none⟩) n c) n (evsV E) lo) {i : Nat} (hi : i < n) : hcell h b (i * 5 + 4) = some (.int .i64 (E.getD i default).mode) := by
  have hl := w.1
  rw [length_evsV] at hl
  have hE : i < E.length := by omega
  obtain ⟨b', c', rest, h1, h2, h3, h4⟩ := w.blk (by omega)
  cases h1
  have he : E[i]? = some (E.getD i default) := by simp [hE]
  rw [h2.cell, List.getElem?_append_left (by simp; omega), evsV_get he 4 (by omega)]
  rfl
theorem GrOwn.modes {h : Heap} {q : GV} {g : Gr} {lo : Nat} (w : GrOwn h q g lo) (hn : 0 < g.n) : ∃ b, q.e = some ⟨b, 0, none⟩ ∧ ∀ i, i < g.n → hcell h b (i * 5 + 4) = some (.int .i64 (g.ev i).mode) := by
  obtain ⟨b, hb, -⟩ := w.ev hn
  have we := w.e
  rw [hb] at we
  exact ⟨b, hb, fun i hi => holder_mode we hi⟩
/-- Those events that have been gone through may have weaker modes. -/
structure WkTo (g : Gr) (E : List Ev) (i : Nat) : Prop where
  len : E.length = g.evs.length
  same : ∀ j, i ≤ j → E.getD j default = g.ev j
  thr : ∀ j, (E.getD j default).thread = (g.ev j).thread
  kind : ∀ j, (E.getD j default).kind = (g.ev j).kind
  loc : ∀ j, (E.getD j default).loc = (g.ev j).loc
  val : ∀ j, (E.getD j default).val = (g.ev j).val
  mode : ∀ j, weakM (g.ev j).mode (E.getD j default).mode
theorem WkTo.start (g : Gr) : WkTo g g.evs 0 := ⟨rfl, fun _ _ => rfl, fun _ => rfl, fun _ => rfl, fun _ => rfl, fun _ => rfl, fun _ => .inl rfl⟩
theorem WkTo.keep {g : Gr} {E : List Ev} {i : Nat} (w : WkTo g E i) : WkTo g E (i + 1) := ⟨w.len, fun j hj => w.same j (by omega), w.thr, w.kind, w.loc, w.val, w.mode⟩
theorem setMode_get {E : List Ev} {i j : Nat} {m : Int} (hi : i < E.length) : (setMode E i m).getD j default = if j = i then { E.getD i default with mode := m } else E.getD j default := by
  unfold setMode
  rw [List.getD_eq_getElem?_getD, List.getElem?_set]
  by_cases h : i = j
  · subst h; rw [if_pos rfl, if_pos hi, if_pos rfl]; rfl
  · rw [if_neg h, if_neg (Ne.symm h), List.getD_eq_getElem?_getD]
theorem WkTo.set {g : Gr} {E : List Ev} {i : Nat} {m : Int} (w : WkTo g E i) (hi : i < g.evs.length) (hm : weakM (g.ev i).mode m) : WkTo g (setMode E i m) (i + 1) := by
  have hE : i < E.length := by rw [w.len]; exact hi
  refine ⟨by simp [w.len], fun j hj => ?_, fun j => ?_, fun j => ?_, fun j => ?_, fun j => ?_, fun j => ?_⟩ <;> rw [setMode_get hE]
  · rw [if_neg (by omega)]; exact w.same j (by omega)
  all_goals
    by_cases h : j = i
    · subst h
      rw [if_pos rfl]
      first | exact w.thr j | exact w.kind j | exact w.loc j | exact w.val j | exact hm
    · rw [if_neg h]
      first | exact w.thr j | exact w.kind j | exact w.loc j | exact w.val j | exact w.mode j
theorem c_law11_some {h : Heap} {la ka : Option Addr} {lc kc : Nat} {l : List (Int × Int)} {ks : List Bool} (hl : Rd 2 h (.slice la l.length lc) l.length (pairsV l)) (hk : Rd 1 h (.slice ka ks.length kc) ks.length (boolsV ks)) (bl_ : l.length ≤ 8796093022208) (bk : ks.length ≤ 4611686018427387904) :
    Con Tryd.prog 48 #[.slice la l.length lc, .slice ka ks.length kc] h fun v h' => Fr 0 0 h h' ∧ ∃ l', l'.Sublist l ∧ Holder 2 h' v l'.length (pairsV l') h.size := by
  refine con_law11_some ?_
  have p0 : Fr 0 0 h h := .refl _ _ _
  simp -dsimp only [go_sem]
  refine loop_intro (fun s : Nat × Value => [(0, .slice la l.length lc), (1, .slice ka ks.length kc), (5, s.2), (6, .int .i64 s.1)])
    (fun s h' => s.1 ≤ l.length ∧ Fr 0 0 h h' ∧ ∃ l', l'.Sublist (l.take s.1) ∧ Holder 2 h' s.2 l'.length (pairsV l') h.size) (fun s => l.length - s.1) (0, .slice none 0 0) ?_ ?_ ?_
  · simp [Le, find]
  · exact ⟨by omega, p0, [], by simp, .none _ _ _⟩
  clear p0
  rintro ⟨i, v⟩ h1 ⟨hi, p0, l', hs, o1⟩
  dsimp only at hi hs o1 ⊢
  have p0_z := p0.size
  have o1_l := o1.top
  by_cases hlt : i < l.length
  · have e1 : ((i : Int) < (l.length : Int)) := by omega
    have hq : l[i]? = some l[i] := List.getElem?_eq_getElem hlt
    have ht1 : l.take (i + 1) = l.take i ++ [l[i]] := by rw [List.take_add_one, hq]; rfl
    generalize l[i] = pr at hq ht1
    obtain ⟨rb, ro, hre, hrc⟩ := hl.pairsAt (by omega)
    obtain ⟨k1, k2⟩ := hrc h1 p0 i _ hq
    have hll := hs.length_le
    rw [List.length_take] at hll
    obtain ⟨va, vc, rfl⟩ := o1.is
    have keepit : ∀ h2 v2, Fr 0 0 h h2 → Holder 2 h2 v2 (l'.length + 1) (pairsV l' ++ pairsV [pr]) h.size → ∃ l'' : List (Int × Int), l''.Sublist (l.take (i + 1)) ∧ Holder 2 h2 v2 l''.length (pairsV l'') h.size := fun h2 v2 _ o => by
      refine ⟨l' ++ [pr], by rw [ht1]; exact hs.append (List.Sublist.refl _), ?_⟩
      rw [pairsV_append, List.length_append]; exact o
    by_cases hik : (i : Int) ≥ (ks.length : Int)
    · simp -dsimp only [go_sem, e1, hik, hre, k1, k2]
      have o1_a := o1.at_
      intro b2 h2 n2
      have n2_a := n2.at_
      have n2_z := n2.size
      replace p0 := p0.fresh (n2.fr (lo := 0) (hi := 0)) (by omega)
      replace o1 := o1.fr (n2.fr (lo := 0) (hi := 0)) (by have := o1.at_; omega)
      have r2 := n2.row
      simp -dsimp only [go_sem, r2.cell]
      refine o1.append (by omega) rfl (by omega) (by simp) (by omega) fun v3 h3 o_new f3 e_app => ?_
      have f3_z := f3.size
      have o_at := o1.at_
      replace p0 := p0.fresh f3 (by omega)
      replace r2 := r2.fr f3 (by omega)
      clear o_at e_app
      replace o1 := o_new
      have o1_l := o1.top
      simp -dsimp only [go_sem, r2.cell]
      simp -dsimp (disch := omega) only [wrap64]
      exact ⟨(i + 1, v3), by dsimp only; omega, by simp [Le, find, hre], by dsimp only; omega, p0, keepit _ _ p0 o1⟩
    · have hk2 : i < ks.length := by omega
      obtain ⟨kb, ko, hke, hkc⟩ := bools_at hk (by omega)
      have hkq : ks[i]? = some ks[i] := List.getElem?_eq_getElem hk2
      generalize ks[i] = kv at hkq
      have k3 := hkc h1 p0 i _ hkq
      have e2 : ((i : Int) < (ks.length : Int)) := by omega
      cases kv
      · simp -dsimp only [go_sem, e1, e2, hik, hre, hke, k1, k2, k3]
        simp -dsimp (disch := omega) only [wrap64]
        exact ⟨(i + 1, .slice va l'.length vc), by dsimp only; omega, by simp [Le, find, hre, hke], by dsimp only; omega, p0, l', by rw [ht1]; exact hs.trans (List.sublist_append_left _ _), o1⟩
      · simp -dsimp only [go_sem, e1, e2, hik, hre, hke, k1, k2, k3]
        have o1_a := o1.at_
        intro b2 h2 n2
        have n2_a := n2.at_
        have n2_z := n2.size
        replace p0 := p0.fresh (n2.fr (lo := 0) (hi := 0)) (by omega)
        replace o1 := o1.fr (n2.fr (lo := 0) (hi := 0)) (by have := o1.at_; omega)
        have r2 := n2.row
        simp -dsimp only [go_sem, r2.cell]
        refine o1.append (by omega) rfl (by omega) (by simp) (by omega) fun v3 h3 o_new f3 e_app => ?_
        have f3_z := f3.size
        have o_at := o1.at_
        replace p0 := p0.fresh f3 (by omega)
        replace r2 := r2.fr f3 (by omega)
        clear o_at e_app
        replace o1 := o_new
        have o1_l := o1.top
        simp -dsimp only [go_sem, r2.cell]
        simp -dsimp (disch := omega) only [wrap64]
        exact ⟨(i + 1, v3), by dsimp only; omega, by simp [Le, find, hre, hke], by dsimp only; omega, p0, keepit _ _ p0 o1⟩
  · obtain rfl : i = l.length := by omega
    rw [List.take_length] at hs
    simp -dsimp only [go_sem, Int.lt_irrefl]
    exact ⟨p0, l', hs, o1⟩
end Go.Proofs.Tst
/-
  ArmWeaker.
-/
namespace Go.Proofs.Tst
open Go Go.Vc
section
variable {h h' : Heap} {q : GV} {g : Gr} {lo be i B : Nat} {E : List Ev} {m : Int}
/-- Where the events of a copy lie (none: above all). -/
structure EvAt (h : Heap) (q : GV) (g : Gr) (lo B : Nat) : Prop where
  own : GrOwn h q g lo
  some : 0 < g.n → q.e = .some ⟨B, 0, none⟩ ∧ lo ≤ B ∧ B < h.size
  none : g.n = 0 → B = h.size
theorem EvAt.of (w : GrOwn h q g lo) : ∃ B, EvAt h q g lo B := by
  by_cases hn : 0 < g.n
  · obtain ⟨b, k1, k2, k3, -⟩ := w.ev hn
    exact ⟨b, w, fun _ => ⟨k1, k2, k3⟩, fun h => by omega⟩
  · exact ⟨h.size, w, fun h => absurd h hn, fun _ => rfl⟩
theorem EvAt.to (w : EvAt h q g lo B) (f : Fr B (B + 1) h h') (hl : E.length = g.n) (he : Holder 5 h' (.slice q.e g.evs.length q.ec) g.evs.length (evsV E) lo) : GrOwn h' q { g with evs := E } lo := by
  by_cases hn : 0 < g.n
  · obtain ⟨k1, k2, k3⟩ := w.some hn
    rw [k1] at he
    exact w.own.evs' f k1 hl he
  · have h0 : g.evs = [] := List.length_eq_zero_iff.1 (by unfold Gr.n at hn; omega)
    have h1 : E = g.evs := by rw [h0]; exact List.length_eq_zero_iff.1 (by omega)
    rw [h1]
    exact w.own.fr f (.inr (.inl (by have := w.none (by omega); omega)))
end
set_option maxHeartbeats 4000000 in
theorem c_law11_ArmWeaker {h : Heap} {q : GV} {g : Gr} (t : GrAt h q g) (ht : TabAt h) {wv kv : Value} {wl : List Int} {kl : List Bool} (hw : Rd 1 h wv wl.length (intsV wl)) (bw : wl.length ≤ 17592186044416) (hk : Rd 1 h kv kl.length (boolsV kl)) (bk : kl.length ≤ 4611686018427387904) :
    Con Tryd.prog 9 #[.agg (gcells q g).toArray, wv, kv] h fun v h' => Fr 0 0 h h' ∧ v = .bool true := by
  refine con_law11_ArmWeaker ?_
  have hz : 0 < h.size := hcell_lt (ht 0 0 rfl)
  have hen : g.evs.length = g.n := rfl
  have be_ := t.fits.e
  have ba_ := t.fits.a
  have bd_ := t.fits.d
  have bc_ := t.fits.c
  obtain ⟨wa, wc, rfl⟩ := hw.is
  obtain ⟨ka, kc, rfl⟩ := hk.is
  have p0 : Fr 0 0 h h := .refl _ _ _
  unfold gcells
  simp -dsimp only [go_sem]
  intro b3 h1 n1
  have n1_a := n1.at_
  have n1_z := n1.size
  replace p0 := p0.fresh (n1.fr (lo := 0) (hi := 0)) (by omega)
  have r3 := n1.row
  simp -dsimp only [go_sem, r3.cell]
  refine call_of (arm_Check (t.fr p0) (ht.fr p0 (.inr rfl))) ?_
  rintro v2 h2 ⟨f2, w0⟩
  have f2_z := f2.size
  replace p0 := p0.fresh f2 (by omega)
  replace r3 := r3.fr f2 (by omega)
  by_cases hc : (g.check true).1 = 0
  rotate_left
  · rw [if_neg hc] at w0
    subst w0
    simp -dsimp only [go_sem, r3.cell]
    refine call_of (law11_lives (ht.fr p0 (.inr rfl))) ?_
    rintro v3 h3 ⟨f3, rfl⟩
    have f3_z := f3.size
    replace p0 := p0.fresh f3 (by omega)
    replace r3 := r3.fr f3 (by omega)
    simp -dsimp only [go_sem, r3.cell]
    exact p0
  rw [if_pos hc] at w0
  obtain ⟨w0, rfl, -⟩ := w0
  simp -dsimp only [go_sem, r3.cell]
  refine call_of (ref8_Copied (t.fr p0) (by omega)) ?_
  rintro v3 h3 ⟨f3, q', rfl, w⟩
  have f3_z := f3.size
  replace p0 := p0.fresh f3 (by omega)
  replace r3 := r3.fr f3 (by omega)
  obtain ⟨B, wB⟩ := EvAt.of w
  have oe := w.e
  have qB : Fr B (B + 1) h3 h3 := .refl _ _ _
  have hBl : h2.size ≤ B ∧ B ≤ h3.size := by
    by_cases hn : 0 < g.n
    · have := wB.some hn; omega
    · have := wB.none (by omega); omega
  have htop : bh (.slice q'.e g.evs.length q'.ec) ≤ h3.size := oe.top
  unfold gcells
  simp -dsimp only [go_sem, r3.cell]
  intro b10 h4 n4
  have n4_a := n4.at_
  have n4_z := n4.size
  replace p0 := p0.fresh (n4.fr (lo := 0) (hi := 0)) (by omega)
  replace r3 := r3.fr (n4.fr (lo := 0) (hi := 0)) (by omega)
  have r10 := n4.row
  replace qB := qB.freshIn (n4.fr (lo := 0) (hi := 0)) (by omega)
  replace oe := oe.fr (n4.fr (lo := 0) (hi := 0)) (by omega)
  simp -dsimp only [go_sem, r3.cell, r10.cell]
  refine Chk_intro (r10.wr (by first | (simp; done) | (simp; omega))) fun h5 s5 => ?_
  have s5_z := s5.size
  replace p0 := p0.fresh s5.fr (by omega)
  replace r3 := r3.fr s5.fr (by omega)
  replace r10 := s5.row r10
  try simp only [cl_int, cl_bool, cl_slice, cl_ptr, putAt_one, List.set_cons_zero, List.set_cons_succ, ivec_set, brow_upd] at r10
  replace qB := qB.freshIn s5.fr (by omega)
  replace oe := oe.fr s5.fr (by omega)
  try simp -dsimp only [go_sem] at r10
  have gb : h.size ≤ h2.size ∧ h2.size ≤ h3.size ∧ h3.size ≤ b10 ∧ b10 < h5.size := by omega
  simp -dsimp only [go_sem, r3.cell, r10.cell]
  refine loop_two (fun _ : Unit => [(2, .slice ka kl.length kc), (7, .int .i64 (armAx g).1), (10, .pointer (some ⟨b10, 0, none⟩))])
    (fun _ h' => Fr 0 0 h h' ∧ h5.size ≤ h'.size ∧ Rw h' b10 (gcells q' g) ∧ Fr B (B + 1) h3 h' ∧ ∃ E i, Holder 5 h' (.slice q'.e g.evs.length q'.ec) g.evs.length (evsV E) h2.size ∧ WkTo g E i) ?_ ?_
  · refine loop_intro (fun i : Nat => [(1, .slice wa wl.length wc), (2, .slice ka kl.length kc), (7, .int .i64 (armAx g).1), (10, .pointer (some ⟨b10, 0, none⟩)), (11, .int .i64 i)])
      (fun i h' => i ≤ g.n ∧ Fr 0 0 h h' ∧ h5.size ≤ h'.size ∧ Rw h' b10 (gcells q' g) ∧ Fr B (B + 1) h3 h' ∧ ∃ E, Holder 5 h' (.slice q'.e g.evs.length q'.ec) g.evs.length (evsV E) h2.size ∧ WkTo g E i) (fun i => g.n - i) 0 ?_ ?_ ?_
    · simp [Le, find]
    · exact ⟨by omega, p0, by omega, r10, qB, g.evs, oe, WkTo.start g⟩
    clear p0 r10 oe qB
    rintro i h5' ⟨hi, p0, y5, r10, qB, E, w, wk⟩
    have hEl : E.length = g.n := wk.len
    unfold gcells at r10
    have p0_z := p0.size
    have r10_l := r10.lt
    by_cases e1' : i < g.n ∧ i < wl.length
    · obtain ⟨e1', e2'⟩ := e1'
      have e1 : ((i : Int) < (g.n : Int)) := by omega
      have e2 : ((i : Int) < (wl.length : Int)) := by omega
      obtain ⟨hbe, lbe, ube⟩ := wB.some (by omega)
      have hE : i < E.length := by omega
      rw [hbe] at w
      have cm := holder_mode w (i := i) (by omega)
      rw [wk.same i (Nat.le_refl _)] at cm
      obtain ⟨wb, wo, hwe, hwc⟩ := list_at (h := h) (la := wa) (lc := wc) (l := wl) (by omega) fun h' f => hw.fr f
      have hq : wl[i]? = some wl[i] := List.getElem?_eq_getElem e2'
      generalize wl[i] = x at hq
      have kw := hwc h5' p0 i _ hq
      generalize hmd : (g.ev i).mode = md at cm
      simp -dsimp only [go_sem, e1, e2, hbe, evs_len, r10.cell]
      by_cases x1 : x = 1
      · have x2 : ¬ x = 2 := by omega
        have x0 : x > 0 := by omega
        by_cases m1 : md = 12
        · simp -dsimp only [go_sem, hbe, hwe, evs_len, e1, e2, kw, cm, beq_t x1, beq_t m1, r10.cell]
          refine Chk_intro (holder_ev w (i := i) (by omega)).1 fun h8 s8 => ?_
          have w' := (holder_ev w (i := i) (by omega)).2.2.1 h8 16 s8
          have cm' := holder_mode w' (i := i) (by omega)
          rw [setMode_get hE, if_pos rfl] at cm'
          dsimp only at cm'
          have s8_z := s8.size
          have f8 : Fr B (B + 1) h5' h8 := s8.fr
          have f8_z := f8.size
          replace p0 := p0.fresh f8 (by omega)
          replace r10 := r10.fr f8 (by omega)
          replace qB := qB.freshIn f8 (by omega)
          have kw' := hwc h8 p0 i _ hq
          simp -dsimp only [go_sem, hbe, hwe, evs_len, e1, e2, kw', cm', beq_f x2, x0, r10.cell]
          simp -dsimp (disch := omega) only [wrap64]
          exact ⟨i + 1, by omega, by simp [Le, find, hwe], by omega, p0, by omega, r10, qB, _, by first | exact w' | (rw [hbe]; exact w'), wk.set (by omega) (by unfold weakM; omega)⟩
        by_cases m2 : md = 15
        · simp -dsimp only [go_sem, hbe, hwe, evs_len, e1, e2, kw, cm, beq_t x1, beq_f m1, beq_f x2, x0, beq_t m2, r10.cell]
          refine Chk_intro (holder_ev w (i := i) (by omega)).1 fun h8 s8 => ?_
          have w' := (holder_ev w (i := i) (by omega)).2.2.1 h8 14 s8
          have cm' := holder_mode w' (i := i) (by omega)
          rw [setMode_get hE, if_pos rfl] at cm'
          dsimp only at cm'
          have s8_z := s8.size
          have f8 : Fr B (B + 1) h5' h8 := s8.fr
          have f8_z := f8.size
          replace p0 := p0.fresh f8 (by omega)
          replace r10 := r10.fr f8 (by omega)
          replace qB := qB.freshIn f8 (by omega)
          have kw' := hwc h8 p0 i _ hq
          simp -dsimp only [go_sem, hbe, hwe, evs_len, e1, e2, kw', cm', beq_f x2, x0, r10.cell]
          simp -dsimp (disch := omega) only [wrap64]
          exact ⟨i + 1, by omega, by simp [Le, find, hwe], by omega, p0, by omega, r10, qB, _, by first | exact w' | (rw [hbe]; exact w'), wk.set (by omega) (by unfold weakM; omega)⟩
        simp -dsimp only [go_sem, hbe, hwe, evs_len, e1, e2, kw, cm, beq_t x1, beq_f m1, beq_f x2, x0, beq_f m2, r10.cell]
        simp -dsimp (disch := omega) only [wrap64]
        exact ⟨i + 1, by omega, by simp [Le, find, hwe], by omega, p0, by omega, r10, qB, _, by first | exact w | (rw [hbe]; exact w), wk.keep⟩
      by_cases x2 : x = 2
      · have x0 : x > 0 := by omega
        by_cases m1 : md = 12
        · simp -dsimp only [go_sem, hbe, hwe, evs_len, e1, e2, kw, cm, beq_f x1, beq_t x2, beq_t m1, r10.cell]
          refine Chk_intro (holder_ev w (i := i) (by omega)).1 fun h8 s8 => ?_
          have w' := (holder_ev w (i := i) (by omega)).2.2.1 h8 11 s8
          have cm' := holder_mode w' (i := i) (by omega)
          rw [setMode_get hE, if_pos rfl] at cm'
          dsimp only at cm'
          have s8_z := s8.size
          have f8 : Fr B (B + 1) h5' h8 := s8.fr
          have f8_z := f8.size
          replace p0 := p0.fresh f8 (by omega)
          replace r10 := r10.fr f8 (by omega)
          replace qB := qB.freshIn f8 (by omega)
          have kw' := hwc h8 p0 i _ hq
          simp -dsimp only [go_sem, hbe, hwe, evs_len, e1, e2, kw', cm', x0, r10.cell]
          simp -dsimp (disch := omega) only [wrap64]
          exact ⟨i + 1, by omega, by simp [Le, find, hwe], by omega, p0, by omega, r10, qB, _, by first | exact w' | (rw [hbe]; exact w'), wk.set (by omega) (by unfold weakM; omega)⟩
        by_cases m3 : md = 13
        · simp -dsimp only [go_sem, hbe, hwe, evs_len, e1, e2, kw, cm, beq_f x1, beq_t x2, beq_f m1, beq_t m3, r10.cell]
          refine Chk_intro (holder_ev w (i := i) (by omega)).1 fun h8 s8 => ?_
          have w' := (holder_ev w (i := i) (by omega)).2.2.1 h8 11 s8
          have cm' := holder_mode w' (i := i) (by omega)
          rw [setMode_get hE, if_pos rfl] at cm'
          dsimp only at cm'
          have s8_z := s8.size
          have f8 : Fr B (B + 1) h5' h8 := s8.fr
          have f8_z := f8.size
          replace p0 := p0.fresh f8 (by omega)
          replace r10 := r10.fr f8 (by omega)
          replace qB := qB.freshIn f8 (by omega)
          have kw' := hwc h8 p0 i _ hq
          simp -dsimp only [go_sem, hbe, hwe, evs_len, e1, e2, kw', cm', x0, r10.cell]
          simp -dsimp (disch := omega) only [wrap64]
          exact ⟨i + 1, by omega, by simp [Le, find, hwe], by omega, p0, by omega, r10, qB, _, by first | exact w' | (rw [hbe]; exact w'), wk.set (by omega) (by unfold weakM; omega)⟩
        by_cases m4 : md = 16
        · simp -dsimp only [go_sem, hbe, hwe, evs_len, e1, e2, kw, cm, beq_f x1, beq_t x2, beq_f m1, beq_f m3, beq_t m4, r10.cell]
          refine Chk_intro (holder_ev w (i := i) (by omega)).1 fun h8 s8 => ?_
          have w' := (holder_ev w (i := i) (by omega)).2.2.1 h8 11 s8
          have cm' := holder_mode w' (i := i) (by omega)
          rw [setMode_get hE, if_pos rfl] at cm'
          dsimp only at cm'
          have s8_z := s8.size
          have f8 : Fr B (B + 1) h5' h8 := s8.fr
          have f8_z := f8.size
          replace p0 := p0.fresh f8 (by omega)
          replace r10 := r10.fr f8 (by omega)
          replace qB := qB.freshIn f8 (by omega)
          have kw' := hwc h8 p0 i _ hq
          simp -dsimp only [go_sem, hbe, hwe, evs_len, e1, e2, kw', cm', x0, r10.cell]
          simp -dsimp (disch := omega) only [wrap64]
          exact ⟨i + 1, by omega, by simp [Le, find, hwe], by omega, p0, by omega, r10, qB, _, by first | exact w' | (rw [hbe]; exact w'), wk.set (by omega) (by unfold weakM; omega)⟩
        by_cases m2 : md = 15
        · simp -dsimp only [go_sem, hbe, hwe, evs_len, e1, e2, kw, cm, beq_f x1, beq_t x2, beq_f m1, beq_f m3, beq_f m4, x0, beq_t m2, r10.cell]
          refine Chk_intro (holder_ev w (i := i) (by omega)).1 fun h8 s8 => ?_
          have w' := (holder_ev w (i := i) (by omega)).2.2.1 h8 14 s8
          have cm' := holder_mode w' (i := i) (by omega)
          rw [setMode_get hE, if_pos rfl] at cm'
          dsimp only at cm'
          have s8_z := s8.size
          have f8 : Fr B (B + 1) h5' h8 := s8.fr
          have f8_z := f8.size
          replace p0 := p0.fresh f8 (by omega)
          replace r10 := r10.fr f8 (by omega)
          replace qB := qB.freshIn f8 (by omega)
          have kw' := hwc h8 p0 i _ hq
          simp -dsimp only [go_sem, hbe, hwe, evs_len, e1, e2, kw', cm', x0, r10.cell]
          simp -dsimp (disch := omega) only [wrap64]
          exact ⟨i + 1, by omega, by simp [Le, find, hwe], by omega, p0, by omega, r10, qB, _, by first | exact w' | (rw [hbe]; exact w'), wk.set (by omega) (by unfold weakM; omega)⟩
        simp -dsimp only [go_sem, hbe, hwe, evs_len, e1, e2, kw, cm, beq_f x1, beq_t x2, beq_f m1, beq_f m3, beq_f m4, x0, beq_f m2, r10.cell]
        simp -dsimp (disch := omega) only [wrap64]
        exact ⟨i + 1, by omega, by simp [Le, find, hwe], by omega, p0, by omega, r10, qB, _, by first | exact w | (rw [hbe]; exact w), wk.keep⟩
      by_cases x0 : x > 0
      · by_cases m2 : md = 15
        · simp -dsimp only [go_sem, hbe, hwe, evs_len, e1, e2, kw, cm, beq_f x1, beq_f x2, x0, beq_t m2, r10.cell]
          refine Chk_intro (holder_ev w (i := i) (by omega)).1 fun h8 s8 => ?_
          have w' := (holder_ev w (i := i) (by omega)).2.2.1 h8 14 s8
          have cm' := holder_mode w' (i := i) (by omega)
          rw [setMode_get hE, if_pos rfl] at cm'
          dsimp only at cm'
          have s8_z := s8.size
          have f8 : Fr B (B + 1) h5' h8 := s8.fr
          have f8_z := f8.size
          replace p0 := p0.fresh f8 (by omega)
          replace r10 := r10.fr f8 (by omega)
          replace qB := qB.freshIn f8 (by omega)
          have kw' := hwc h8 p0 i _ hq
          simp -dsimp only [go_sem, hbe, hwe, evs_len, e1, e2, kw', cm', x0, r10.cell]
          simp -dsimp (disch := omega) only [wrap64]
          exact ⟨i + 1, by omega, by simp [Le, find, hwe], by omega, p0, by omega, r10, qB, _, by first | exact w' | (rw [hbe]; exact w'), wk.set (by omega) (by unfold weakM; omega)⟩
        simp -dsimp only [go_sem, hbe, hwe, evs_len, e1, e2, kw, cm, beq_f x1, beq_f x2, x0, beq_f m2, r10.cell]
        simp -dsimp (disch := omega) only [wrap64]
        exact ⟨i + 1, by omega, by simp [Le, find, hwe], by omega, p0, by omega, r10, qB, _, by first | exact w | (rw [hbe]; exact w), wk.keep⟩
      simp -dsimp only [go_sem, hbe, hwe, evs_len, e1, e2, kw, cm, beq_f x1, beq_f x2, x0, r10.cell]
      simp -dsimp (disch := omega) only [wrap64]
      exact ⟨i + 1, by omega, by simp [Le, find, hwe], by omega, p0, by omega, r10, qB, _, by first | exact w | (rw [hbe]; exact w), wk.keep⟩
    · have hend : i < g.n → ¬ (i : Int) < (wl.length : Int) := fun h1 h2 => e1' ⟨h1, by omega⟩
      by_cases c1 : i < g.n
      · have e1 : ((i : Int) < (g.n : Int)) := by omega
        simp -dsimp only [go_sem, evs_len, e1, hend c1, r10.cell]
        exact ⟨(), by simp [Le, find], p0, y5, r10, qB, E, i, w, wk⟩
      · have e1 : ¬ ((i : Int) < (g.n : Int)) := by omega
        simp -dsimp only [go_sem, evs_len, e1, r10.cell]
        exact ⟨(), by simp [Le, find], p0, y5, r10, qB, E, i, w, wk⟩
  rintro ⟨⟩ h6 ⟨p0, y6, r10, qB, E, i, w, wk⟩ e ⟨el2, el7, el10, -⟩
  have hEl : E.length = g.n := wk.len
  have w_t : bh (.slice q'.e g.evs.length q'.ec) ≤ h3.size := htop
  unfold gcells at r10
  rw [← wk.len] at r10
  have p0_z := p0.size
  have r10_l := r10.lt
  simp -dsimp only [go_sem, el2, el7, el10, r10.cell]
  refine call_of (c_law11_some (wB.to qB hEl w).at_.a (hk.fr p0) (by show g.addr.length ≤ _; omega) bk) ?_
  rintro v7 h7 ⟨f7, l1, u1, o1⟩
  have f7_z := f7.size
  replace p0 := p0.fresh f7 (by omega)
  replace r10 := r10.fr f7 (by omega)
  replace qB := qB.freshIn f7 (by omega)
  replace w := w.fr f7 (by omega)
  obtain ⟨a1, c1, rfl⟩ := o1.is
  simp -dsimp only [go_sem, el2, el7, el10, r10.cell]
  refine Chk_intro (r10.wr (by first | (simp; done) | (simp; omega))) fun h8 s8 => ?_
  have s8_z := s8.size
  replace p0 := p0.fresh s8.fr (by omega)
  replace o1 := o1.fr s8.fr (by have := o1.at_; omega)
  replace r10 := s8.row r10
  try simp only [cl_int, cl_bool, cl_slice, cl_ptr, putAt_one, List.set_cons_zero, List.set_cons_succ, ivec_set, brow_upd] at r10
  try simp -dsimp only [go_sem] at r10
  replace qB := qB.freshIn s8.fr (by omega)
  replace w := w.fr s8.fr (by omega)
  simp -dsimp only [go_sem, el2, el7, el10, r10.cell]
  refine call_of (c_law11_some (wB.to qB hEl w).at_.d (hk.fr p0) (by show g.data.length ≤ _; omega) bk) ?_
  rintro v9 h9 ⟨f9, l2, u2, o2⟩
  have f9_z := f9.size
  replace p0 := p0.fresh f9 (by omega)
  replace r10 := r10.fr f9 (by omega)
  replace o1 := o1.fr f9 (by have := o1.at_; omega)
  replace qB := qB.freshIn f9 (by omega)
  replace w := w.fr f9 (by omega)
  obtain ⟨a2, c2, rfl⟩ := o2.is
  simp -dsimp only [go_sem, el2, el7, el10, r10.cell]
  refine Chk_intro (r10.wr (by first | (simp; done) | (simp; omega))) fun h10 s10 => ?_
  have s10_z := s10.size
  replace p0 := p0.fresh s10.fr (by omega)
  replace o1 := o1.fr s10.fr (by have := o1.at_; omega)
  replace o2 := o2.fr s10.fr (by have := o2.at_; omega)
  replace r10 := s10.row r10
  try simp only [cl_int, cl_bool, cl_slice, cl_ptr, putAt_one, List.set_cons_zero, List.set_cons_succ, ivec_set, brow_upd] at r10
  try simp -dsimp only [go_sem] at r10
  replace qB := qB.freshIn s10.fr (by omega)
  replace w := w.fr s10.fr (by omega)
  simp -dsimp only [go_sem, el2, el7, el10, r10.cell]
  refine call_of (c_law11_some (wB.to qB hEl w).at_.c (hk.fr p0) (by show g.ctrl.length ≤ _; omega) bk) ?_
  rintro v11 h11 ⟨f11, l3, u3, o3⟩
  have f11_z := f11.size
  replace p0 := p0.fresh f11 (by omega)
  replace r10 := r10.fr f11 (by omega)
  replace o1 := o1.fr f11 (by have := o1.at_; omega)
  replace o2 := o2.fr f11 (by have := o2.at_; omega)
  replace qB := qB.freshIn f11 (by omega)
  replace w := w.fr f11 (by omega)
  obtain ⟨a3, c3, rfl⟩ := o3.is
  simp -dsimp only [go_sem, el2, el7, el10, r10.cell]
  refine Chk_intro (r10.wr (by first | (simp; done) | (simp; omega))) fun h12 s12 => ?_
  have s12_z := s12.size
  replace p0 := p0.fresh s12.fr (by omega)
  replace o1 := o1.fr s12.fr (by have := o1.at_; omega)
  replace o2 := o2.fr s12.fr (by have := o2.at_; omega)
  replace o3 := o3.fr s12.fr (by have := o3.at_; omega)
  replace r10 := s12.row r10
  try simp only [cl_int, cl_bool, cl_slice, cl_ptr, putAt_one, List.set_cons_zero, List.set_cons_succ, ivec_set, brow_upd] at r10
  try simp -dsimp only [go_sem] at r10
  replace qB := qB.freshIn s12.fr (by omega)
  replace w := w.fr s12.fr (by omega)
  simp -dsimp only [go_sem, el7, el10, r10.cell]
  have W : Weak g { g with evs := E, addr := l1, data := l2, ctrl := l3 } := ⟨rfl, hEl, rfl, rfl, rfl, wk.thr, wk.kind, wk.loc, wk.val, wk.mode, u1, u2, u3⟩
  have z1 := u1.length_le
  have z2 := u2.length_le
  have z3 := u3.length_le
  have hc2 := W.check hc
  have hal := W.allowed
  refine call_of (arm_Check (g := { g with evs := E, addr := l1, data := l2, ctrl := l3 }) (GrAt.setC (GrAt.setD (GrAt.setA (wB.to qB hEl w).at_ o1.rd (by omega)) o2.rd (by omega)) o3.rd (by omega)) (ht.fr p0 (.inr rfl))) ?_
  rintro v13 h13 ⟨f13, w13⟩
  have f13_z := f13.size
  replace p0 := p0.fresh f13 (by omega)
  replace r10 := r10.fr f13 (by omega)
  replace o1 := o1.fr f13 (by have := o1.at_; omega)
  replace o2 := o2.fr f13 (by have := o2.at_; omega)
  replace o3 := o3.fr f13 (by have := o3.at_; omega)
  rw [if_pos hc2] at w13
  obtain ⟨w13, rfl, -⟩ := w13
  by_cases ha : (armAx g).1 = 0
  · have hb := hal ha
    simp -dsimp only [go_sem, el7, el10, bne_t ha, beq_t hb, r10.cell]
    refine call_of (law11_lives (ht.fr p0 (.inr rfl))) ?_
    rintro v14 h14 ⟨f14, rfl⟩
    have f14_z := f14.size
    replace p0 := p0.fresh f14 (by omega)
    replace r10 := r10.fr f14 (by omega)
    replace o1 := o1.fr f14 (by have := o1.at_; omega)
    replace o2 := o2.fr f14 (by have := o2.at_; omega)
    replace o3 := o3.fr f14 (by have := o3.at_; omega)
    simp -dsimp only [go_sem, r10.cell]
    exact p0
  · simp -dsimp only [go_sem, el7, el10, bne_f ha, r10.cell]
    refine call_of (law11_lives (ht.fr p0 (.inr rfl))) ?_
    rintro v14 h14 ⟨f14, rfl⟩
    have f14_z := f14.size
    replace p0 := p0.fresh f14 (by omega)
    replace r10 := r10.fr f14 (by omega)
    replace o1 := o1.fr f14 (by have := o1.at_; omega)
    replace o2 := o2.fr f14 (by have := o2.at_; omega)
    replace o3 := o3.fr f14 (by have := o3.at_; omega)
    simp -dsimp only [go_sem, r10.cell]
    exact p0
end Go.Proofs.Tst
/-
  A list of truths that came in.
-/
namespace Go.Proofs.Tst
open Go Go.Vc Go.RowKit Go.ChangeShapes Go.WideShapes Go.ChangeAt Go.Deep
section
variable {H : Type} {enc : TypeId × Value → H} {P : Program} {w : World} {base : Nat} {held : Bool}
theorem read_bools {t e : TypeId} {v : Value} {fuel : Nat} {x : DataW H × List MemPlace} (ht : P.underlying t = some (.slice e)) (he : P.underlying e = some .bool) (hc : P.cellsOf e = 1) (hby : P.bytesOf e = 1)
    (hf : DataW.trod enc P w base (fun _ => true) held fuel t [v] = some x) (hw : ∀ y ∈ x.1.weights P t, y ≤ reachBytes) :
    ∃ l : List Bool, Rd 1 w.heap v l.length (boolsV l) ∧ l.length ≤ 140737488355328 := by
  rcases open_bools ht he hc hf with ⟨h1, h2⟩ | ⟨a', len, cap, B, h1, _, hlc, _, rfl, hcell⟩
  · cases h1
    exact ⟨[], ⟨rfl, _, _, rfl, .inl rfl⟩, by simp⟩
  · cases h1
    have hwt := hw ((len + (cap - len)) * 1) (by simp only [DataW.weights, boolRow, ht]; exact List.mem_cons.2 (.inl (by simp [hby])))
    have e2 : reachBytes = 140737488351232 := by decide
    rw [e2] at hwt
    have hl : ((List.range len).map B).length = len := by simp
    refine ⟨(List.range len).map B, ?_, by rw [hl]; omega⟩
    rw [hl]
    refine rd_of (by omega) (by simp) fun j hj => ?_
    have hj' : j < len := by omega
    have hg : ((List.range len).map B)[j]? = some (B j) := by simp [hj']
    exact ⟨_, boolsV_get hg, hcell j (by omega)⟩
theorem arg_bools {r : Reach} {b0 : Nat} {t e : TypeId} {v : Value} {d : DataW H} {ps : List MemPlace} (ht : P.underlying t = some (.slice e)) (he : P.underlying e = some .bool) (hc : P.cellsOf e = 1) (hby : P.bytesOf e = 1)
    (hval : Value.okWide P w r b0 t v) (hd : DataW.Trod enc P w base (fun _ => true) held t v d ps) (hw : ∀ x ∈ d.weights P t, x ≤ reachBytes) :
    ∃ l : List Bool, Rd 1 w.heap v l.length (boolsV l) ∧ l.length ≤ 140737488355328 := by
  obtain ⟨a, n, c, rfl⟩ := okWide_slice ht hval
  obtain ⟨fuel, hf⟩ := hd
  exact read_bools ht he hc hby hf hw
end
end Go.Proofs.Tst
/-
  ArmWeaker and its arguments.
-/
namespace Go.Proofs.Tst
end Go.Proofs.Tst
