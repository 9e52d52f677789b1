/-
  Contracts of functions that the law reaches: what each returns and what it leaves in memory. Conditions stand in each.
-/
import Derived.Test.YtmilaghhnaoidaaDoorT7
set_option linter.all false
set_option maxRecDepth 2000
/-
  The graphs of two cells that the laws lay.
-/
namespace Go.Vc
open Go
theorem Fr.wide {l r b : Nat} {h h' : Heap} (f : Fr l r h h') (hr : r ≤ b) : Fr 0 b h h' := ⟨f.size, fun x hx hc => f.old x hx (by omega)⟩
end Go.Vc
namespace Go.Proofs.Tst
open Go Go.Vc
def twoG (m : Int) (E : List Ev) (rf : List (Int × Int)) (x y : List Int) : Gr := ⟨2, [⟨-1, 2, 0, 0, m⟩, ⟨-1, 2, 1, 0, m⟩] ++ E, rf, [[0] ++ x, [1] ++ y], [], [], [], []⟩
theorem nilP {h : Heap} : Rd 2 h (.slice none ([] : List (Int × Int)).length 0) ([] : List (Int × Int)).length (pairsV []) := ⟨rfl, _, _, rfl, .inl rfl⟩
theorem c_law11_ev (a b c : Int) (d : Int) (m : Int) {h : Heap} : Con Tryd.prog 44 #[.int .i64 a, .int .i64 b, .int .i64 c, .int .u64 d, .int .i64 m] h fun v h' => Fr 0 0 h h' ∧ v = .agg #[.int .i64 a, .int .i64 b, .int .i64 c, .int .u64 d, .int .i64 m] := by
  refine con_law11_ev ?_
  have p0 : Fr 0 0 h h := .refl _ _ _
  simp -dsimp only [go_sem]
  intro b1 h1 n1
  have n1_a := n1.at_
  have n1_z := n1.size
  replace p0 := p0.fresh (n1.fr (lo := 0) (hi := 0)) (by omega)
  have r1 := n1.row
  simp -dsimp only [go_sem, r1.cell]
  refine Chk_intro (r1.wr (by first | (simp; done) | (simp; omega))) fun h2 s2 => ?_
  have s2_z := s2.size
  replace p0 := p0.fresh s2.fr (by omega)
  replace r1 := s2.row r1
  try simp only [cl_int, cl_bool, cl_slice, cl_ptr, putAt_one, List.set_cons_zero, List.set_cons_succ, ivec_set, brow_upd] at r1
  try simp -dsimp only [go_sem] at r1
  simp -dsimp only [go_sem, r1.cell]
  exact p0
set_option maxHeartbeats 2000000 in
theorem c_law11_two {h : Heap} {ea fa xa ya : Option Addr} {ec fc xc yc : Nat} {E : List Ev} {rf : List (Int × Int)} {x y : List Int} {lo : Nat} (hlo : lo ≤ h.size) (he : Rd 5 h (.slice ea E.length ec) E.length (evsV E)) (hf : ∀ h', Fr 0 lo h h' → Rd 2 h' (.slice fa rf.length fc) rf.length (pairsV rf)) (hx : Rd 1 h (.slice xa x.length xc) x.length (intsV x)) (hy : Rd 1 h (.slice ya y.length yc) y.length (intsV y))
    (be : E.length ≤ 1000) (bf : rf.length ≤ 1000) (bx : x.length ≤ 1000) (by_ : y.length ≤ 1000) :
    Con Tryd.prog 43 #[.slice ea E.length ec, .slice fa rf.length fc, .slice xa x.length xc, .slice ya y.length yc] h fun v h' => Fr 0 0 h h' ∧ ∃ q, v = .agg (gcells q (twoG 11 E rf x y)).toArray ∧ ∀ h2, Fr 0 lo h' h2 → GrAt h2 q (twoG 11 E rf x y) := by
  refine con_law11_two ?_
  have p0 : Fr 0 0 h h := .refl _ _ _
  simp -dsimp only [go_sem]
  intro b8 h1 n1
  have n1_a := n1.at_
  have n1_z := n1.size
  replace p0 := p0.fresh (n1.fr (lo := 0) (hi := 0)) (by omega)
  have r8 := n1.row
  simp -dsimp only [go_sem, r8.cell]
  refine call_of (c_law11_ev (-1) 2 0 0 11) ?_
  rintro v2 h2 ⟨f2, rfl⟩
  have f2_z := f2.size
  replace p0 := p0.fresh f2 (by omega)
  replace r8 := r8.fr f2 (by omega)
  simp -dsimp only [go_sem, r8.cell]
  refine call_of (c_law11_ev (-1) 2 1 0 11) ?_
  rintro v3 h3 ⟨f3, rfl⟩
  have f3_z := f3.size
  replace p0 := p0.fresh f3 (by omega)
  replace r8 := r8.fr f3 (by omega)
  simp -dsimp only [go_sem, r8.cell]
  intro b14 h4 n4
  have n4_a := n4.at_
  have n4_z := n4.size
  replace p0 := p0.fresh (n4.fr (lo := 0) (hi := 0)) (by omega)
  replace r8 := r8.fr (n4.fr (lo := 0) (hi := 0)) (by omega)
  have r14 := n4.row
  replace r14 : Rw h4 b14 (evsV [⟨-1, 2, 0, 0, 11⟩, ⟨-1, 2, 1, 0, 11⟩]) := r14
  simp -dsimp only [go_sem, r8.cell, r14.cell]
  intro b9 h5 n5
  have n5_a := n5.at_
  have n5_z := n5.size
  replace p0 := p0.fresh (n5.fr (lo := 0) (hi := 0)) (by omega)
  replace r8 := r8.fr (n5.fr (lo := 0) (hi := 0)) (by omega)
  replace r14 := r14.fr (n5.fr (lo := 0) (hi := 0)) (by omega)
  have r9 := n5.row
  simp -dsimp only [go_sem, r8.cell, r14.cell, r9.cell]
  refine Chk_intro (r9.wr (by first | (simp; done) | (simp; omega))) fun h6 s6 => ?_
  have s6_z := s6.size
  replace p0 := p0.fresh s6.fr (by omega)
  replace r8 := r8.fr s6.fr (by omega)
  replace r14 := r14.fr s6.fr (by omega)
  replace r9 := s6.row r9
  try simp only [cl_int, cl_bool, cl_slice, cl_ptr, putAt_one, List.set_cons_zero, List.set_cons_succ, ivec_set, brow_upd] at r9
  try simp -dsimp only [go_sem] at r9
  have gb : b8 < b14 ∧ b14 < b9 ∧ b9 < h6.size ∧ h.size ≤ b8 := by omega
  simp -dsimp only [go_sem, r8.cell, r14.cell, r9.cell]
  refine (holder_row (s := 5) (n := 2) (lo := b14) r14 rfl (Nat.le_refl _)).appendRd (he.fr p0) (by omega) rfl (by omega) (oc_evs _) (by omega) fun v7 h7 o7 f7 e7 => ?_
  have lb : bl (.slice (some ⟨b14, 0, none⟩) 2 2) = b14 ∧ bh (.slice (some ⟨b14, 0, none⟩) 2 2) = b14 + 1 := ⟨rfl, rfl⟩
  rw [lb.1, lb.2] at f7
  clear r14
  have z7 := f7.size
  have f7_z := f7.size
  replace p0 := p0.fresh f7 (by omega)
  replace r8 := r8.fr f7 (by omega)
  replace r9 := r9.fr f7 (by omega)
  rw [← evsV_append] at o7
  obtain ⟨a7, c7, rfl⟩ := o7.is
  have a7_a := o7.at_
  have e7' := e7
  clear e7
  simp -dsimp only [go_sem, r8.cell, r9.cell]
  refine Chk_intro (r9.wr (by first | (simp; done) | (simp; omega))) fun h8 s8 => ?_
  have s8_z := s8.size
  replace p0 := p0.fresh s8.fr (by omega)
  replace r8 := r8.fr s8.fr (by omega)
  replace r9 := s8.row r9
  try simp only [cl_int, cl_bool, cl_slice, cl_ptr, putAt_one, List.set_cons_zero, List.set_cons_succ, ivec_set, brow_upd] at r9
  replace o7 := o7.fr s8.fr (by omega)
  simp -dsimp only [go_sem, r8.cell, r9.cell]
  intro b10 h9 n9
  have n9_a := n9.at_
  have n9_z := n9.size
  replace p0 := p0.fresh (n9.fr (lo := 0) (hi := 0)) (by omega)
  replace r8 := r8.fr (n9.fr (lo := 0) (hi := 0)) (by omega)
  replace r9 := r9.fr (n9.fr (lo := 0) (hi := 0)) (by omega)
  have r10 := n9.row
  replace r10 : Rw h9 b10 (intsV [0]) := r10
  replace o7 := o7.fr (n9.fr (lo := 0) (hi := 0)) (by omega)
  simp -dsimp only [go_sem, r8.cell, r9.cell, r10.cell]
  have p9 : Fr 0 0 h8 h9 := n9.fr
  refine (holder_row (s := 1) (n := 1) (lo := b10) r10 rfl (Nat.le_refl _)).appendRd (hx.fr p0) (by omega) rfl (by omega) (oc_ints _) (by omega) fun v10 h10 o10 f10 e10 => ?_
  have lb : bl (.slice (some ⟨b10, 0, none⟩) 1 1) = b10 ∧ bh (.slice (some ⟨b10, 0, none⟩) 1 1) = b10 + 1 := ⟨rfl, rfl⟩
  rw [lb.1, lb.2] at f10
  clear r10
  have z10 := f10.size
  have f10_z := f10.size
  replace p0 := p0.fresh f10 (by omega)
  replace r8 := r8.fr f10 (by omega)
  replace r9 := r9.fr f10 (by omega)
  have o7t := o7.top
  replace o7 := o7.fr f10 (by omega)
  rw [← intsV_append] at o10
  obtain ⟨a10, c10, rfl⟩ := o10.is
  have a10_a := o10.at_
  clear e10
  simp -dsimp only [go_sem, r8.cell, r9.cell]
  intro b11 h11 n11
  have n11_a := n11.at_
  have n11_z := n11.size
  replace p0 := p0.fresh (n11.fr (lo := 0) (hi := 0)) (by omega)
  replace r8 := r8.fr (n11.fr (lo := 0) (hi := 0)) (by omega)
  replace r9 := r9.fr (n11.fr (lo := 0) (hi := 0)) (by omega)
  have r11 := n11.row
  replace r11 : Rw h11 b11 (intsV [1]) := r11
  replace o7 := o7.fr (n11.fr (lo := 0) (hi := 0)) (by omega)
  have o10t := o10.top
  replace o10 := o10.fr (n11.fr (lo := 0) (hi := 0)) (by omega)
  simp -dsimp only [go_sem, r8.cell, r9.cell, r11.cell]
  refine (holder_row (s := 1) (n := 1) (lo := b11) r11 rfl (Nat.le_refl _)).appendRd (hy.fr p0) (by omega) rfl (by omega) (oc_ints _) (by omega) fun v12 h12 o12 f12 e12 => ?_
  have lb : bl (.slice (some ⟨b11, 0, none⟩) 1 1) = b11 ∧ bh (.slice (some ⟨b11, 0, none⟩) 1 1) = b11 + 1 := ⟨rfl, rfl⟩
  rw [lb.1, lb.2] at f12
  clear r11
  have z12 := f12.size
  have f12_z := f12.size
  replace p0 := p0.fresh f12 (by omega)
  replace r8 := r8.fr f12 (by omega)
  replace r9 := r9.fr f12 (by omega)
  have o7t := o7.top
  replace o7 := o7.fr f12 (by omega)
  replace o10 := o10.fr f12 (by omega)
  rw [← intsV_append] at o12
  obtain ⟨a12, c12, rfl⟩ := o12.is
  have a12_a := o12.at_
  clear e12
  simp -dsimp only [go_sem, r8.cell, r9.cell]
  intro b13 h13 n13
  have n13_a := n13.at_
  have n13_z := n13.size
  replace p0 := p0.fresh (n13.fr (lo := 0) (hi := 0)) (by omega)
  replace r8 := r8.fr (n13.fr (lo := 0) (hi := 0)) (by omega)
  replace r9 := r9.fr (n13.fr (lo := 0) (hi := 0)) (by omega)
  have r13 := n13.row
  try simp -dsimp only [go_sem] at r13
  replace o7 := o7.fr (n13.fr (lo := 0) (hi := 0)) (by omega)
  replace o10 := o10.fr (n13.fr (lo := 0) (hi := 0)) (by omega)
  replace o12 := o12.fr (n13.fr (lo := 0) (hi := 0)) (by omega)
  simp -dsimp only [go_sem, r8.cell, r9.cell, r13.cell]
  refine Chk_intro (r9.wr (by first | (simp; done) | (simp; omega))) fun h14 s14 => ?_
  have s14_z := s14.size
  replace p0 := p0.fresh s14.fr (by omega)
  replace r8 := r8.fr s14.fr (by omega)
  replace r13 := r13.fr s14.fr (by omega)
  replace r9 := s14.row r9
  try simp only [cl_int, cl_bool, cl_slice, cl_ptr, putAt_one, List.set_cons_zero, List.set_cons_succ, ivec_set, brow_upd] at r9
  try simp -dsimp only [go_sem] at r9
  have z14 := s14.size
  replace o7 := o7.fr s14.fr (by omega)
  replace o10 := o10.fr s14.fr (by omega)
  replace o12 := o12.fr s14.fr (by omega)
  simp -dsimp only [go_sem, r8.cell, r9.cell, r13.cell]
  refine Chk_intro (r8.wr (by first | (simp; done) | (simp; omega))) fun h15 s15 => ?_
  have s15_z := s15.size
  replace p0 := p0.fresh s15.fr (by omega)
  replace r9 := r9.fr s15.fr (by omega)
  replace r13 := r13.fr s15.fr (by omega)
  replace r8 := s15.row r8
  try simp only [cl_int, cl_bool, cl_slice, cl_ptr, putAt_one, List.set_cons_zero, List.set_cons_succ, ivec_set, brow_upd] at r8
  have z15 := s15.size
  replace o7 := o7.fr s15.fr (by omega)
  replace o10 := o10.fr s15.fr (by omega)
  replace o12 := o12.fr s15.fr (by omega)
  simp -dsimp only [go_sem, r8.cell, r9.cell, r13.cell]
  have hl : (twoG 11 E rf x y).evs.length = 2 + E.length := by simp [twoG]; omega
  have hx2 : (intsV ([0] ++ x)).length = 1 + x.length := by simp; omega
  have hy2 : (intsV ([1] ++ y)).length = 1 + y.length := by simp; omega
  refine ⟨p0, ⟨a7, fa, some ⟨b13, 0, none⟩, none, none, none, none, c7, fc, 2, 0, 0, 0, 0⟩, by unfold gcells; rw [hl]; rfl, fun h16 f16 => ?_⟩
  replace o7 := o7.fr f16 (by have := o7.at_; omega)
  replace o10 := o10.fr f16 (by have := o10.at_; omega)
  replace o12 := o12.fr f16 (by have := o12.at_; omega)
  replace r13 := r13.fr f16 (by omega)
  obtain ⟨u1, v1, k1, k1'⟩ := o10.room (by omega)
  cases k1
  obtain ⟨u2, v2, k2, k2'⟩ := o12.room (by omega)
  cases k2
  have hrl : RLc h16 (.slice (some ⟨b13, 0, none⟩) 2 2) [intsV ([0] ++ x), intsV ([1] ++ y)] := by
    refine ⟨_, Rw.rd (s := 1) r13 rfl, fun i l hi => ?_⟩
    match i, hi with
    | 0, hi =>
      cases hi
      exact ⟨_, _, by rw [hx2]; rfl, by rw [hx2]; exact k1', by rw [hx2]; exact o10.rd⟩
    | 1, hi =>
      cases hi
      exact ⟨_, _, by rw [hy2]; rfl, by rw [hy2]; exact k2', by rw [hy2]; exact o12.rd⟩
    | i + 2, hi => simp at hi
  refine ⟨by rw [hl]; exact o7.rd, hf _ ((p0.wide (Nat.zero_le _)).trans f16), rlc_rl hrl, nilP, nilP, nilP, nilP, ⟨by rw [hl]; omega, by show rf.length ≤ _; omega, by show 2 ≤ _; omega, by show 0 ≤ _; omega, by show 0 ≤ _; omega, by show 0 ≤ _; omega, by show 0 ≤ _; omega, fun l hl => ?_⟩, by show 2 ≤ 2; omega, hrl⟩
  have hl : l = [0] ++ x ∨ l = [1] ++ y := by simpa [twoG] using hl
  rcases hl with rfl | rfl <;> (simp; omega)
end Go.Proofs.Tst
/-
  law11: says, buffering, passing.
-/
namespace Go.Proofs.Tst
open Go Go.Vc
theorem armAx_len {g : Gr} : (armAx g).2.length ≤ g.n + 2 := by
  have h1 := cycS_len (n := g.n) (M := inM g)
  have h2 := cycS_len (n := g.n) (M := obM g)
  unfold armAx
  split
  · simp; omega
  split
  · simp; omega
  · split <;> simp
theorem c_law11_says {h : Heap} {q : GV} {g : Gr} (t : GrAt h q g) (ht : TabAt h) {bv : Value} {l : List Int} (hm : Rd 1 h bv l.length (intsV l)) (ax : Int) :
    Con Tryd.prog 45 #[.agg (gcells q g).toArray, .int .i64 ax, bv] h fun v h' => Fr 0 0 h h' ∧ v = .bool (decide ((g.check true).1 = 0 ∧ armAx g = (ax, l))) := by
  have p0 : Fr 0 0 h h := .refl _ _ _
  obtain ⟨ba, bc, rfl⟩ := hm.is
  by_cases hc : (g.check true).1 = 0
  rotate_left
  · have e : decide ((g.check true).1 = 0 ∧ armAx g = (ax, l)) = false := decide_eq_false fun h => hc h.1
    rw [e]
    refine con_law11_says ?_
    unfold gcells
    simp -dsimp only [go_sem]
    intro b1 h1 n1
    have n1_a := n1.at_
    have n1_z := n1.size
    replace p0 := p0.fresh (n1.fr (lo := 0) (hi := 0)) (by omega)
    have r1 := n1.row
    simp -dsimp only [go_sem, r1.cell]
    refine call_of (arm_Check (t.fr p0) (ht.fr p0 (.inr rfl))) ?_
    rintro v2 h2 ⟨f2, w⟩
    have f2_z := f2.size
    replace p0 := p0.fresh f2 (by omega)
    replace r1 := r1.fr f2 (by omega)
    rw [if_neg hc] at w
    subst w
    simp -dsimp only [go_sem, r1.cell]
    exact p0
  have hn := (good_n (good_true hc)).1
  have hal := armAx_len (g := g)
  refine con_law11_says ?_
  unfold gcells
  simp -dsimp only [go_sem]
  intro b1 h1 n1
  have n1_a := n1.at_
  have n1_z := n1.size
  replace p0 := p0.fresh (n1.fr (lo := 0) (hi := 0)) (by omega)
  have r1 := n1.row
  simp -dsimp only [go_sem, r1.cell]
  refine call_of (arm_Check (t.fr p0) (ht.fr p0 (.inr rfl))) ?_
  rintro v2 h2 ⟨f2, w⟩
  have f2_z := f2.size
  replace p0 := p0.fresh f2 (by omega)
  replace r1 := r1.fr f2 (by omega)
  rw [if_pos hc] at w
  obtain ⟨w, rfl, o⟩ := w
  obtain ⟨oa, oc, rfl⟩ := o.is
  by_cases ha : (armAx g).1 = ax
  rotate_left
  · have e : decide ((g.check true).1 = 0 ∧ armAx g = (ax, l)) = false := decide_eq_false fun h => ha (by rw [h.2])
    rw [e]
    simp -dsimp only [go_sem, beq_f ha, r1.cell]
    exact p0
  simp -dsimp only [go_sem, beq_t ha, r1.cell]
  refine call_of (c_law11_ints (l := (armAx g).2) (m := l) o.rd (hm.fr p0) (by omega)) ?_
  rintro v3 h2 ⟨rfl, rfl⟩
  have e : decide ((armAx g).2 = l) = decide ((g.check true).1 = 0 ∧ armAx g = (ax, l)) := by
    rw [Bool.eq_iff_iff, decide_eq_true_iff, decide_eq_true_iff]
    exact ⟨fun h => ⟨hc, Prod.ext ha h⟩, fun h => by rw [h.2]⟩
  rw [e]
  simp -dsimp only [go_sem, r1.cell]
  exact p0
def bufE (w r : Int) : List Ev := [⟨0, 2, 0, 1, w⟩, ⟨0, 1, 1, 0, r⟩, ⟨1, 2, 1, 1, w⟩, ⟨1, 1, 0, 0, r⟩]
def bufG (m w r : Int) : Gr := twoG m (bufE w r) [(1, 3), (0, 5)] [2] [4]
def pasE (m w r : Int) : List Ev := [⟨0, 2, 0, 1, m⟩, ⟨0, 2, 1, 1, w⟩, ⟨1, 1, 1, 1, r⟩, ⟨1, 1, 0, 0, m⟩]
def pasG (m w r : Int) : Gr := twoG m (pasE m w r) [(3, 4), (0, 5)] [2] [3]
theorem c_law11_buffering (w r : Int) {h : Heap} : Con Tryd.prog 47 #[.int .i64 w, .int .i64 r] h fun v h' => Fr 0 0 h h' ∧ ∃ q, v = .agg (gcells q (bufG 11 w r)).toArray ∧ GrAt h' q (bufG 11 w r) := by
  refine con_law11_buffering ?_
  have p0 : Fr 0 0 h h := .refl _ _ _
  simp -dsimp only [go_sem]
  intro b4 h1 n1
  have n1_a := n1.at_
  have n1_z := n1.size
  replace p0 := p0.fresh (n1.fr (lo := 0) (hi := 0)) (by omega)
  have r4 := n1.row
  simp -dsimp only [go_sem, r4.cell]
  refine call_of (c_law11_ev 0 2 0 1 w) ?_
  rintro v h2 ⟨f2, rfl⟩
  have f2_z := f2.size
  replace p0 := p0.fresh f2 (by omega)
  replace r4 := r4.fr f2 (by omega)
  simp -dsimp only [go_sem, r4.cell]
  refine call_of (c_law11_ev 0 1 1 0 r) ?_
  rintro v h3 ⟨f3, rfl⟩
  have f3_z := f3.size
  replace p0 := p0.fresh f3 (by omega)
  replace r4 := r4.fr f3 (by omega)
  simp -dsimp only [go_sem, r4.cell]
  refine call_of (c_law11_ev 1 2 1 1 w) ?_
  rintro v h4 ⟨f4, rfl⟩
  have f4_z := f4.size
  replace p0 := p0.fresh f4 (by omega)
  replace r4 := r4.fr f4 (by omega)
  simp -dsimp only [go_sem, r4.cell]
  refine call_of (c_law11_ev 1 1 0 0 r) ?_
  rintro v h5 ⟨f5, rfl⟩
  have f5_z := f5.size
  replace p0 := p0.fresh f5 (by omega)
  replace r4 := r4.fr f5 (by omega)
  simp -dsimp only [go_sem, r4.cell]
  intro b6 h6 n6
  have n6_a := n6.at_
  have n6_z := n6.size
  replace p0 := p0.fresh (n6.fr (lo := 0) (hi := 0)) (by omega)
  replace r4 := r4.fr (n6.fr (lo := 0) (hi := 0)) (by omega)
  have r6 := n6.row
  simp -dsimp only [go_sem, r4.cell, r6.cell]
  intro b7 h7 n7
  have n7_a := n7.at_
  have n7_z := n7.size
  replace p0 := p0.fresh (n7.fr (lo := 0) (hi := 0)) (by omega)
  replace r4 := r4.fr (n7.fr (lo := 0) (hi := 0)) (by omega)
  replace r6 := r6.fr (n7.fr (lo := 0) (hi := 0)) (by omega)
  have r7 := n7.row
  simp -dsimp only [go_sem, r4.cell, r6.cell, r7.cell]
  intro b8 h8 n8
  have n8_a := n8.at_
  have n8_z := n8.size
  replace p0 := p0.fresh (n8.fr (lo := 0) (hi := 0)) (by omega)
  replace r4 := r4.fr (n8.fr (lo := 0) (hi := 0)) (by omega)
  replace r6 := r6.fr (n8.fr (lo := 0) (hi := 0)) (by omega)
  replace r7 := r7.fr (n8.fr (lo := 0) (hi := 0)) (by omega)
  have r8 := n8.row
  simp -dsimp only [go_sem, r4.cell, r6.cell, r7.cell, r8.cell]
  intro b9 h9 n9
  have n9_a := n9.at_
  have n9_z := n9.size
  replace p0 := p0.fresh (n9.fr (lo := 0) (hi := 0)) (by omega)
  replace r4 := r4.fr (n9.fr (lo := 0) (hi := 0)) (by omega)
  replace r6 := r6.fr (n9.fr (lo := 0) (hi := 0)) (by omega)
  replace r7 := r7.fr (n9.fr (lo := 0) (hi := 0)) (by omega)
  replace r8 := r8.fr (n9.fr (lo := 0) (hi := 0)) (by omega)
  have r9 := n9.row
  simp -dsimp only [go_sem, r4.cell, r6.cell, r7.cell, r8.cell, r9.cell]
  refine call_of (c_law11_two (E := bufE w r) (rf := [(1, 3), (0, 5)]) (x := [2]) (y := [4]) (lo := b4 + 1) (by omega) (Rw.rd (s := 5) (n := 4) (c := 4) r6 rfl) (fun h' f => Rw.rd (s := 2) (n := 2) (c := 2) (r7.fr f (by omega)) rfl) (Rw.rd (s := 1) (n := 1) (c := 1) r8 rfl) (Rw.rd (s := 1) (n := 1) (c := 1) r9 rfl) (Nat.le_of_ble_eq_true rfl) (by simp) (by simp) (by simp)) ?_
  rintro v h10 ⟨f10, q, rfl, t⟩
  have f10_z := f10.size
  replace p0 := p0.fresh f10 (by omega)
  replace r4 := r4.fr f10 (by omega)
  replace r6 := r6.fr f10 (by omega)
  replace r7 := r7.fr f10 (by omega)
  replace r8 := r8.fr f10 (by omega)
  replace r9 := r9.fr f10 (by omega)
  unfold gcells
  simp -dsimp only [go_sem, r4.cell, r6.cell, r7.cell, r8.cell, r9.cell]
  refine Chk_intro (r4.wr (by first | (simp; done) | (simp; omega))) fun h11 s11 => ?_
  have s11_z := s11.size
  replace p0 := p0.fresh s11.fr (by omega)
  replace r6 := r6.fr s11.fr (by omega)
  replace r7 := r7.fr s11.fr (by omega)
  replace r8 := r8.fr s11.fr (by omega)
  replace r9 := r9.fr s11.fr (by omega)
  replace r4 := s11.row r4
  try simp only [cl_int, cl_bool, cl_slice, cl_ptr, putAt_one, List.set_cons_zero, List.set_cons_succ, ivec_set, brow_upd] at r4
  have t := t _ (s11.fr.wide (Nat.le_refl _))
  simp -dsimp only [go_sem, r4.cell, r6.cell, r7.cell, r8.cell, r9.cell]
  exact ⟨p0, q, rfl, t⟩
theorem c_law11_passing (w r : Int) {h : Heap} : Con Tryd.prog 42 #[.int .i64 w, .int .i64 r] h fun v h' => Fr 0 0 h h' ∧ ∃ q, v = .agg (gcells q (pasG 11 w r)).toArray ∧ GrAt h' q (pasG 11 w r) := by
  refine con_law11_passing ?_
  have p0 : Fr 0 0 h h := .refl _ _ _
  simp -dsimp only [go_sem]
  intro b4 h1 n1
  have n1_a := n1.at_
  have n1_z := n1.size
  replace p0 := p0.fresh (n1.fr (lo := 0) (hi := 0)) (by omega)
  have r4 := n1.row
  simp -dsimp only [go_sem, r4.cell]
  refine call_of (c_law11_ev 0 2 0 1 11) ?_
  rintro v h2 ⟨f2, rfl⟩
  have f2_z := f2.size
  replace p0 := p0.fresh f2 (by omega)
  replace r4 := r4.fr f2 (by omega)
  simp -dsimp only [go_sem, r4.cell]
  refine call_of (c_law11_ev 0 2 1 1 w) ?_
  rintro v h3 ⟨f3, rfl⟩
  have f3_z := f3.size
  replace p0 := p0.fresh f3 (by omega)
  replace r4 := r4.fr f3 (by omega)
  simp -dsimp only [go_sem, r4.cell]
  refine call_of (c_law11_ev 1 1 1 1 r) ?_
  rintro v h4 ⟨f4, rfl⟩
  have f4_z := f4.size
  replace p0 := p0.fresh f4 (by omega)
  replace r4 := r4.fr f4 (by omega)
  simp -dsimp only [go_sem, r4.cell]
  refine call_of (c_law11_ev 1 1 0 0 11) ?_
  rintro v h5 ⟨f5, rfl⟩
  have f5_z := f5.size
  replace p0 := p0.fresh f5 (by omega)
  replace r4 := r4.fr f5 (by omega)
  simp -dsimp only [go_sem, r4.cell]
  intro b6 h6 n6
  have n6_a := n6.at_
  have n6_z := n6.size
  replace p0 := p0.fresh (n6.fr (lo := 0) (hi := 0)) (by omega)
  replace r4 := r4.fr (n6.fr (lo := 0) (hi := 0)) (by omega)
  have r6 := n6.row
  simp -dsimp only [go_sem, r4.cell, r6.cell]
  intro b7 h7 n7
  have n7_a := n7.at_
  have n7_z := n7.size
  replace p0 := p0.fresh (n7.fr (lo := 0) (hi := 0)) (by omega)
  replace r4 := r4.fr (n7.fr (lo := 0) (hi := 0)) (by omega)
  replace r6 := r6.fr (n7.fr (lo := 0) (hi := 0)) (by omega)
  have r7 := n7.row
  simp -dsimp only [go_sem, r4.cell, r6.cell, r7.cell]
  intro b8 h8 n8
  have n8_a := n8.at_
  have n8_z := n8.size
  replace p0 := p0.fresh (n8.fr (lo := 0) (hi := 0)) (by omega)
  replace r4 := r4.fr (n8.fr (lo := 0) (hi := 0)) (by omega)
  replace r6 := r6.fr (n8.fr (lo := 0) (hi := 0)) (by omega)
  replace r7 := r7.fr (n8.fr (lo := 0) (hi := 0)) (by omega)
  have r8 := n8.row
  simp -dsimp only [go_sem, r4.cell, r6.cell, r7.cell, r8.cell]
  intro b9 h9 n9
  have n9_a := n9.at_
  have n9_z := n9.size
  replace p0 := p0.fresh (n9.fr (lo := 0) (hi := 0)) (by omega)
  replace r4 := r4.fr (n9.fr (lo := 0) (hi := 0)) (by omega)
  replace r6 := r6.fr (n9.fr (lo := 0) (hi := 0)) (by omega)
  replace r7 := r7.fr (n9.fr (lo := 0) (hi := 0)) (by omega)
  replace r8 := r8.fr (n9.fr (lo := 0) (hi := 0)) (by omega)
  have r9 := n9.row
  simp -dsimp only [go_sem, r4.cell, r6.cell, r7.cell, r8.cell, r9.cell]
  refine call_of (c_law11_two (E := pasE 11 w r) (rf := [(3, 4), (0, 5)]) (x := [2]) (y := [3]) (lo := b4 + 1) (by omega) (Rw.rd (s := 5) (n := 4) (c := 4) r6 rfl) (fun h' f => Rw.rd (s := 2) (n := 2) (c := 2) (r7.fr f (by omega)) rfl) (Rw.rd (s := 1) (n := 1) (c := 1) r8 rfl) (Rw.rd (s := 1) (n := 1) (c := 1) r9 rfl) (Nat.le_of_ble_eq_true rfl) (by simp) (by simp) (by simp)) ?_
  rintro v h10 ⟨f10, q, rfl, t⟩
  have f10_z := f10.size
  replace p0 := p0.fresh f10 (by omega)
  replace r4 := r4.fr f10 (by omega)
  replace r6 := r6.fr f10 (by omega)
  replace r7 := r7.fr f10 (by omega)
  replace r8 := r8.fr f10 (by omega)
  replace r9 := r9.fr f10 (by omega)
  unfold gcells
  simp -dsimp only [go_sem, r4.cell, r6.cell, r7.cell, r8.cell, r9.cell]
  refine Chk_intro (r4.wr (by first | (simp; done) | (simp; omega))) fun h11 s11 => ?_
  have s11_z := s11.size
  replace p0 := p0.fresh s11.fr (by omega)
  replace r6 := r6.fr s11.fr (by omega)
  replace r7 := r7.fr s11.fr (by omega)
  replace r8 := r8.fr s11.fr (by omega)
  replace r9 := r9.fr s11.fr (by omega)
  replace r4 := s11.row r4
  try simp only [cl_int, cl_bool, cl_slice, cl_ptr, putAt_one, List.set_cons_zero, List.set_cons_succ, ivec_set, brow_upd] at r4
  have t := t _ (s11.fr.wide (Nat.le_refl _))
  simp -dsimp only [go_sem, r4.cell, r6.cell, r7.cell, r8.cell, r9.cell]
  exact ⟨p0, q, rfl, t⟩
end Go.Proofs.Tst
/-
  law11: lives.
-/
namespace Go.Proofs.Tst
open Go Go.Vc
theorem kb1 : decide (((bufG 11 11 11).check true).1 = 0 ∧ armAx (bufG 11 11 11) = (0, [])) = true := by decide +kernel
theorem kb2 : decide (((bufG 11 13 12).check true).1 = 0 ∧ armAx (bufG 11 13 12) = (2, [2, 3, 4, 5])) = true := by decide +kernel
theorem kp1 : decide (((pasG 11 11 11).check true).1 = 0 ∧ armAx (pasG 11 11 11) = (0, [])) = true := by decide +kernel
theorem kp2 : decide (((pasG 11 13 12).check true).1 = 0 ∧ armAx (pasG 11 13 12) = (2, [2, 3, 4, 5])) = true := by decide +kernel
theorem kp3 : ((pasG 11 13 12).check true).1 = 0 := by decide +kernel
theorem kp4 : pairsOf (pasG 11 13 12).n (obsM (pasG 11 13 12)) = [(0, 2), (0, 5), (1, 3), (3, 4), (5, 2)] := by decide +kernel
theorem nilI {h : Heap} : Rd 1 h (.slice none 0 0) ([] : List Int).length (intsV []) := ⟨rfl, _, _, rfl, .inl rfl⟩
set_option maxHeartbeats 2000000 in
theorem law11_lives {h : Heap} (ht : TabAt h) : Con Tryd.prog 41 #[] h fun v h' => Fr 0 0 h h' ∧ v = .bool true := by
  refine con_law11_lives ?_
  have p0 : Fr 0 0 h h := .refl _ _ _
  simp -dsimp only [go_sem]
  refine call_of (c_law11_passing 13 12) ?_
  rintro v1 h1 ⟨f1, q1, rfl, t1⟩
  have f1_z := f1.size
  replace p0 := p0.fresh f1 (by omega)
  simp -dsimp only [go_sem]
  refine call_of (arm_Derive t1 (ht.fr p0 (.inr rfl))) ?_
  rintro v2 h2 ⟨f2, w⟩
  have f2_z := f2.size
  replace p0 := p0.fresh f2 (by omega)
  rw [if_pos kp3] at w
  obtain ⟨x, A, B, rfl, D, dlo⟩ := w
  have g0 := D.at_ 0 (by decide)
  have ab := dlo 0 (by decide)
  obtain ⟨c0, e0⟩ := progPtr (D.at_ 0 (by decide))
  obtain ⟨c1, e1⟩ := progPtr (D.at_ 1 (by decide))
  obtain ⟨c2, e2⟩ := progPtr (D.at_ 2 (by decide))
  obtain ⟨c3, e3⟩ := progPtr (D.at_ 3 (by decide))
  obtain ⟨c4, e4⟩ := progPtr (D.at_ 4 (by decide))
  rw [e0, e1, e2, e3, e4]
  rw [e0] at g0
  have p2 : Fr 0 0 h2 h2 := .refl _ _ _
  simp -dsimp only [go_sem]
  intro b3 h3 n3
  have n3_a := n3.at_
  have n3_z := n3.size
  replace p0 := p0.fresh (n3.fr (lo := 0) (hi := 0)) (by omega)
  replace p2 := p2.fresh (n3.fr (lo := 0) (hi := 0)) (by omega)
  have r3 := n3.row
  simp -dsimp only [go_sem, r3.cell]
  refine Chk_intro (r3.wr (by first | (simp; done) | (simp; omega))) fun h4 s4 => ?_
  have s4_z := s4.size
  replace p0 := p0.fresh s4.fr (by omega)
  replace p2 := p2.fresh s4.fr (by omega)
  replace r3 := s4.row r3
  try simp only [cl_int, cl_bool, cl_slice, cl_ptr, putAt_one, List.set_cons_zero, List.set_cons_succ, ivec_set, brow_upd] at r3
  try simp -dsimp only [go_sem] at r3
  simp -dsimp only [go_sem, r3.cell]
  refine call_of (c_law11_buffering 11 11) ?_
  rintro v5 h5 ⟨f5, q5, rfl, t5⟩
  have f5_z := f5.size
  replace p0 := p0.fresh f5 (by omega)
  replace p2 := p2.fresh f5 (by omega)
  replace r3 := r3.fr f5 (by omega)
  simp -dsimp only [go_sem, r3.cell]
  refine call_of (c_law11_says t5 (ht.fr p0 (.inr rfl)) nilI 0) ?_
  rintro v6 h6 ⟨f6, rfl⟩
  have f6_z := f6.size
  replace p0 := p0.fresh f6 (by omega)
  replace p2 := p2.fresh f6 (by omega)
  replace r3 := r3.fr f6 (by omega)
  rw [kb1]
  simp -dsimp only [go_sem, r3.cell]
  refine call_of (c_law11_buffering 13 12) ?_
  rintro v7 h7 ⟨f7, q7, rfl, t7⟩
  have f7_z := f7.size
  replace p0 := p0.fresh f7 (by omega)
  replace p2 := p2.fresh f7 (by omega)
  replace r3 := r3.fr f7 (by omega)
  simp -dsimp only [go_sem, r3.cell]
  intro b8 h8 n8
  have n8_a := n8.at_
  have n8_z := n8.size
  replace p0 := p0.fresh (n8.fr (lo := 0) (hi := 0)) (by omega)
  replace p2 := p2.fresh (n8.fr (lo := 0) (hi := 0)) (by omega)
  replace r3 := r3.fr (n8.fr (lo := 0) (hi := 0)) (by omega)
  have r8 := n8.row
  have t8 := t7.fr n8.fr
  simp -dsimp only [go_sem, r3.cell, r8.cell]
  refine call_of (c_law11_says t8 (ht.fr p0 (.inr rfl)) (l := [2, 3, 4, 5]) (Rw.rd (s := 1) (n := 4) (c := 4) r8 rfl) 2) ?_
  rintro v9 h9 ⟨f9, rfl⟩
  have f9_z := f9.size
  replace p0 := p0.fresh f9 (by omega)
  replace p2 := p2.fresh f9 (by omega)
  replace r3 := r3.fr f9 (by omega)
  replace r8 := r8.fr f9 (by omega)
  rw [kb2]
  simp -dsimp only [go_sem, r3.cell, r8.cell]
  refine call_of (c_law11_passing 11 11) ?_
  rintro v10 h10 ⟨f10, q10, rfl, t10⟩
  have f10_z := f10.size
  replace p0 := p0.fresh f10 (by omega)
  replace p2 := p2.fresh f10 (by omega)
  replace r3 := r3.fr f10 (by omega)
  replace r8 := r8.fr f10 (by omega)
  simp -dsimp only [go_sem, r3.cell, r8.cell]
  refine call_of (c_law11_says t10 (ht.fr p0 (.inr rfl)) nilI 0) ?_
  rintro v11 h11 ⟨f11, rfl⟩
  have f11_z := f11.size
  replace p0 := p0.fresh f11 (by omega)
  replace p2 := p2.fresh f11 (by omega)
  replace r3 := r3.fr f11 (by omega)
  replace r8 := r8.fr f11 (by omega)
  rw [kp1]
  simp -dsimp only [go_sem, r3.cell, r8.cell]
  refine call_of (c_law11_passing 13 12) ?_
  rintro v12 h12 ⟨f12, q12, rfl, t12⟩
  have f12_z := f12.size
  replace p0 := p0.fresh f12 (by omega)
  replace p2 := p2.fresh f12 (by omega)
  replace r3 := r3.fr f12 (by omega)
  replace r8 := r8.fr f12 (by omega)
  simp -dsimp only [go_sem, r3.cell, r8.cell]
  intro b13 h13 n13
  have n13_a := n13.at_
  have n13_z := n13.size
  replace p0 := p0.fresh (n13.fr (lo := 0) (hi := 0)) (by omega)
  replace p2 := p2.fresh (n13.fr (lo := 0) (hi := 0)) (by omega)
  replace r3 := r3.fr (n13.fr (lo := 0) (hi := 0)) (by omega)
  replace r8 := r8.fr (n13.fr (lo := 0) (hi := 0)) (by omega)
  have r13 := n13.row
  have t13 := t12.fr n13.fr
  simp -dsimp only [go_sem, r3.cell, r8.cell, r13.cell]
  refine call_of (c_law11_says t13 (ht.fr p0 (.inr rfl)) (l := [2, 3, 4, 5]) (Rw.rd (s := 1) (n := 4) (c := 4) r13 rfl) 2) ?_
  rintro v14 h14 ⟨f14, rfl⟩
  have f14_z := f14.size
  replace p0 := p0.fresh f14 (by omega)
  replace p2 := p2.fresh f14 (by omega)
  replace r3 := r3.fr f14 (by omega)
  replace r8 := r8.fr f14 (by omega)
  replace r13 := r13.fr f14 (by omega)
  rw [kp2]
  simp -dsimp only [go_sem, r3.cell, r8.cell, r13.cell]
  refine call_of (rel_Pairs (g0.fr p2 (by omega)) (ht.fr p0 (.inr rfl))) ?_
  rintro v15 h15 ⟨f15, o15⟩
  have f15_z := f15.size
  replace p0 := p0.fresh f15 (by omega)
  replace p2 := p2.fresh f15 (by omega)
  replace r3 := r3.fr f15 (by omega)
  replace r8 := r8.fr f15 (by omega)
  replace r13 := r13.fr f15 (by omega)
  replace o15 : Holder 2 h15 v15 (pairsOf (pasG 11 13 12).n (obsM (pasG 11 13 12))).length (pairsV (pairsOf (pasG 11 13 12).n (obsM (pasG 11 13 12)))) h14.size := o15
  rw [kp4] at o15
  simp -dsimp only [go_sem, r3.cell, r8.cell, r13.cell]
  intro b16 h16 n16
  have n16_a := n16.at_
  have n16_z := n16.size
  replace p0 := p0.fresh (n16.fr (lo := 0) (hi := 0)) (by omega)
  replace p2 := p2.fresh (n16.fr (lo := 0) (hi := 0)) (by omega)
  replace r3 := r3.fr (n16.fr (lo := 0) (hi := 0)) (by omega)
  replace r8 := r8.fr (n16.fr (lo := 0) (hi := 0)) (by omega)
  replace r13 := r13.fr (n16.fr (lo := 0) (hi := 0)) (by omega)
  have r16 := n16.row
  have o16 := o15.rd.fr n16.fr
  simp -dsimp only [go_sem, r3.cell, r8.cell, r13.cell, r16.cell]
  refine call_of (c_law11_pairs (l := [(0, 2), (0, 5), (1, 3), (3, 4), (5, 2)]) (m := [(0, 2), (0, 5), (1, 3), (3, 4), (5, 2)]) o16 (Rw.rd (s := 2) (n := 5) (c := 5) r16 rfl) (by decide)) ?_
  rintro v17 h16 ⟨rfl, rfl⟩
  simp -dsimp only [go_sem, dec_self, r3.cell, r8.cell, r13.cell, r16.cell]
  exact p0
end Go.Proofs.Tst
/-
  What ARMv8's relations keep of any graph (plain).
-/
namespace Go.Proofs.Tst
open Go Go.Vc
def Th (g : Gr) (i j : Nat) : Prop := (g.ev i).thread = (g.ev j).thread
theorem ext_true {g : Gr} {i j : Nat} : relM g 5 i j = true ↔ ¬ Th g i j := by
  show g.extM i j = true ↔ _
  unfold Gr.extM Th; simp
theorem ext_false {g : Gr} {i j : Nat} : relM g 5 i j = false ↔ Th g i j := by
  show g.extM i j = false ↔ _
  unfold Gr.extM Th; simp
theorem po_th {g : Gr} {i j : Nat} (h : relM g 0 i j = true) : Th g i j ∧ 0 ≤ (g.ev i).thread ∧ i < j ∧ j < g.n := by
  have h' : g.before (i : Int) (j : Int) = true := h
  have h2 := before_nat h'
  unfold Gr.before at h'
  simp only [Bool.and_eq_true, decide_eq_true_eq, beq_iff_eq, Int.toNat_natCast] at h'
  exact ⟨h'.2, h'.1.2, h2⟩
theorem rfi_th {g : Gr} {i j : Nat} (h : rfiM g i j = true) : Th g i j := by
  unfold rfiM at h
  simp only [Bool.and_eq_true, Bool.not_eq_true'] at h
  exact ext_false.1 h.2
theorem coi_th {g : Gr} {i j : Nat} (h : coiM g i j = true) : Th g i j := by
  unfold coiM at h
  simp only [Bool.and_eq_true, Bool.not_eq_true'] at h
  exact ext_false.1 h.2
theorem obs_ext {g : Gr} {i j : Nat} (h : obsM g i j = true) : ¬ Th g i j := by
  unfold obsM rfeM coeM freM at h
  simp only [Bool.or_eq_true, Bool.and_eq_true] at h
  rcases h with (⟨-, h⟩ | ⟨-, h⟩) | ⟨-, h⟩ <;> exact ext_true.1 h
/-- The pairs of a list that is well ordered stand in a thread. -/
def DepT (g : Gr) (k : Nat) : Prop := ∀ i j, relM g k i j = true → Th g i j
theorem dep_go {g : Gr} {words : Bool} {l : List (Int × Int)} {f : Int → Bool} (h : ¬ 0 ≤ g.depAt words l f) {i j : Nat} (hm : ofM g.n l i j = true) : g.before (i : Int) (j : Int) = true := by
  obtain ⟨x, hx⟩ := firstBad_neg (f := g.depBad words l f) h _ (ofM_mem' hm)
  unfold Gr.depBad at hx
  simp only [Bool.or_eq_false_iff, Bool.not_eq_false'] at hx
  exact hx.1.2
theorem words_rels {g : Gr} (h : (g.check true).1 = 0) : DepT g 6 ∧ DepT g 7 ∧ DepT g 8 ∧ DepT g 3 := by
  obtain ⟨-, -, -, -, -, h6, h7, h8, h9⟩ := check_zero h
  exact ⟨fun i j hm => (po_th (dep_go h7 hm : relM g 0 i j = true)).1, fun i j hm => (po_th (dep_go h8 hm : relM g 0 i j = true)).1, fun i j hm => (po_th (dep_go h9 hm : relM g 0 i j = true)).1,
    fun i j hm => (po_th (rmw_before h6 (ofM_mem' hm) : relM g 0 i j = true)).1⟩
theorem dob_th {g : Gr} (h : (g.check true).1 = 0) {i j : Nat} (hd : dobM g i j = true) : Th g i j := by
  obtain ⟨w6, w7, w8, -⟩ := words_rels h
  unfold dobM at hd
  simp only [Bool.or_eq_true, Bool.and_eq_true, exB_true] at hd
  rcases hd with ((((hd | hd) | ⟨hd, -⟩) | ⟨⟨k, -, h1, h2⟩, -⟩) | ⟨k, -, h1, h2⟩) | ⟨k, -, h1, h2⟩
  · exact w6 _ _ hd
  · exact w7 _ _ hd
  · exact w8 _ _ hd
  · exact (w6 _ _ h1).trans (po_th h2).1
  · exact (h1.elim (w8 _ _) (w7 _ _)).trans (coi_th h2)
  · exact (h1.elim (w6 _ _) (w7 _ _)).trans (rfi_th h2)
theorem aob_th {g : Gr} (h : (g.check true).1 = 0) {i j : Nat} (hd : aobM g i j = true) : Th g i j := by
  obtain ⟨-, -, -, w3⟩ := words_rels h
  unfold aobM at hd
  simp only [Bool.or_eq_true, Bool.and_eq_true] at hd
  rcases hd with hd | ⟨⟨-, hd⟩, -⟩
  · exact w3 _ _ hd
  · exact rfi_th hd
theorem bob_th {g : Gr} {i j : Nat} (hd : bobM g i j = true) : Th g i j := by
  unfold bobM at hd
  simp only [Bool.or_eq_true, Bool.and_eq_true, exB_true] at hd
  rcases hd with ((((⟨k, -, ⟨h1, -⟩, h2⟩ | ⟨k, -, ⟨⟨-, h1⟩, -⟩, h2⟩) | ⟨⟨-, h1⟩, -⟩) | ⟨-, h1⟩) | ⟨h1, -⟩) | ⟨k, -, ⟨h1, -⟩, h2⟩
  · exact (po_th h1).1.trans (po_th h2).1
  · exact (po_th h1).1.trans (po_th h2).1
  · exact (po_th h1).1
  · exact (po_th h1).1
  · exact (po_th h1).1
  · exact (po_th h1).1.trans (coi_th h2)
theorem ob_obs {g : Gr} (h : (g.check true).1 = 0) {i j : Nat} (ho : obM g i j = true) (ht : ¬ Th g i j) : obsM g i j = true := by
  unfold obM at ho
  simp only [Bool.or_eq_true] at ho
  rcases ho with ((ho | ho) | ho) | ho
  · exact ho
  · exact absurd (dob_th h ho) ht
  · exact absurd (aob_th h ho) ht
  · exact absurd (bob_th ho) ht
theorem same_true {g : Gr} {i j : Nat} (h1 : 0 ≤ (g.ev i).loc) (h2 : (g.ev i).loc = (g.ev j).loc) : relM g 4 i j = true := by
  show g.sameM i j = true
  unfold Gr.sameM; rw [dec_t h1, beq_t h2]; rfl
theorem in_back {g : Gr} (ha : cycS g.n (inM g) = []) {i j : Nat} (hi : i < g.n) (hj : j < g.n) (hf : relM g 1 i j = true ∨ relM g 2 i j = true) (ht : Th g j i) (h0 : 0 ≤ (g.ev j).thread) (hl0 : 0 ≤ (g.ev j).loc) (hl : (g.ev j).loc = (g.ev i).loc) : ¬ j < i := by
  intro hlt
  have hpo : relM g 0 j i = true := by
    show g.before (j : Int) (i : Int) = true
    unfold Gr.before
    simp only [Bool.and_eq_true, decide_eq_true_eq, beq_iff_eq, Int.toNat_natCast]
    exact ⟨⟨⟨⟨by omega, by omega⟩, by omega⟩, h0⟩, ht⟩
  have h1 : inM g j i = true := by unfold inM; rw [hpo, same_true hl0 hl]; rfl
  have h2 : inM g i j = true := by
    unfold inM
    rcases hf with h | h <;> rw [h] <;> simp
  have hp : plusM g.n (inM g) i i = true := plus_trans hj (plus_sub h2) (plus_sub h1)
  have := cycS_nil ha i hi
  rw [hp] at this; cases this
/-- What a good graph's pair of rf is. -/
theorem rf_pair {g : Gr} {words : Bool} (h : (g.check words).1 = 0) {p : Int × Int} (hp : p ∈ g.rf) : ∃ w r : Nat, p = ((w : Int), (r : Int)) ∧ w < g.n ∧ r < g.n ∧ (g.ev w).kind = 2 ∧ (g.ev r).kind = 1 ∧ (g.ev w).loc = (g.ev r).loc ∧ 0 ≤ (g.ev w).loc := by
  obtain ⟨hs, h2, h3, h4, -⟩ := check_zero h
  have key : ∀ (d r k : Nat), r + d = g.n → ¬ 0 ≤ g.rfGo d r k → ∀ p ∈ g.rf.drop k, ∃ r : Nat, r < g.n ∧ p.2 = (r : Int) ∧ (g.ev r).kind = 1 ∧ g.is p.1 2 = true ∧ (g.ev p.1.toNat).loc = (g.ev r).loc := by
    intro d
    induction d with
    | zero =>
      intro r k hr h p hp
      have hk : g.rf.length ≤ k := by
        unfold Gr.rfGo at h
        split at h
        · omega
        · omega
      rw [List.drop_eq_nil_of_le hk] at hp
      cases hp
    | succ d ih =>
      intro r k hr h p hp
      by_cases hkd : (g.ev r).kind = 1
      · cases hb : g.rfBad r k
        · rw [rfGo_ok hkd hb] at h
          unfold Gr.rfBad at hb
          cases hq : g.rf[k]? with
          | none => rw [hq] at hb; cases hb
          | some q =>
            rw [hq] at hb
            simp only [Bool.or_eq_false_iff, Bool.not_eq_false', beq_iff_eq] at hb
            obtain ⟨⟨⟨hb1, hb2⟩, hb3⟩, -⟩ := hb
            have hkl := (List.getElem?_eq_some_iff.1 hq).1
            have hdr : g.rf.drop k = q :: g.rf.drop (k + 1) := by rw [List.drop_eq_getElem_cons hkl]; congr 1; exact (List.getElem?_eq_some_iff.1 hq).2
            rw [hdr] at hp
            rcases List.mem_cons.1 hp with rfl | hp
            · exact ⟨r, by omega, hb1, hkd, hb2, hb3⟩
            · exact ih (r + 1) (k + 1) (by omega) h p hp
        · rw [rfGo_bad hkd hb] at h; omega
      · rw [rfGo_skip hkd] at h
        exact ih (r + 1) k (by omega) h p hp
  obtain ⟨r, h5, h6, h7, h8, h9⟩ := key g.n 0 0 (by omega) h4 p (by rw [List.drop_zero]; exact hp)
  obtain ⟨l1, l2, l3⟩ := is_lt h8
  refine ⟨p.1.toNat, r, Prod.ext (by dsimp only; omega) h6, by omega, h5, l3, h7, h9, write_loc hs h2 h3 _ (by omega) l3⟩
theorem rf_ahead {g : Gr} (h : (g.check true).1 = 0) (ha : cycS g.n (inM g) = []) {w r : Nat} (hp : ((w : Int), (r : Int)) ∈ g.rf) (h0 : 0 ≤ (g.ev w).thread) (ht : Th g w r) : ¬ r < w := by
  obtain ⟨w', r', he, hw, hr, k1, k2, hl, hl0⟩ := rf_pair h hp
  obtain ⟨rfl, rfl⟩ : w' = w ∧ r' = r := by
    have e1 := congrArg Prod.fst he; have e2 := congrArg Prod.snd he
    dsimp only at e1 e2; omega
  exact in_back ha hw hr (.inl ((ofM_mem hw hr).2 hp)) ht.symm (by rw [← ht]; exact h0) (by rw [← hl]; exact hl0) hl.symm
theorem co_ahead {g : Gr} (h : (g.check true).1 = 0) (ha : cycS g.n (inM g) = []) {c a b : Nat} {x y : Int} (hc : c < g.co.length) (hab : a < b) (h1 : (g.co.getD c [])[a]? = some x) (h2 : (g.co.getD c [])[b]? = some y) :
    ∃ w v : Nat, x = (w : Int) ∧ y = (v : Int) ∧ w < g.n ∧ v < g.n ∧ (0 ≤ (g.ev w).thread → Th g w v → ¬ v < w) := by
  have hg : g.good = true := by unfold Gr.good; rw [h]; simp
  obtain ⟨hs, k2, k3, -⟩ := check_zero h
  obtain ⟨-, m2, -⟩ := co_list hg hc
  obtain ⟨i1, l1⟩ := m2 x (List.mem_of_getElem? h1)
  obtain ⟨i2, l2⟩ := m2 y (List.mem_of_getElem? h2)
  obtain ⟨x1, x2, x3⟩ := is_lt i1
  obtain ⟨y1, y2, y3⟩ := is_lt i2
  have hm := list_coPairs hc (lpairs_at hab h1 h2)
  refine ⟨x.toNat, y.toNat, by omega, by omega, by omega, by omega, fun h0 ht => ?_⟩
  have hm' : (((x.toNat : Nat) : Int), ((y.toNat : Nat) : Int)) ∈ coPairs g := by
    rw [Int.toNat_of_nonneg x1, Int.toNat_of_nonneg y1]; exact hm
  exact in_back ha (by omega) (by omega) (.inr ((ofM_mem (by omega) (by omega)).2 hm')) ht.symm (by rw [← ht]; exact h0) (by rw [l2]; omega) (by rw [l1, l2])
end Go.Proofs.Tst
/-
  A graph with weaker modes and fewer pairs (plain).
-/
namespace Go.Proofs.Tst
open Go Go.Vc
def weakM (m m' : Int) : Prop := m' = m ∨ (m = 12 ∧ m' = 16) ∨ ((m = 12 ∨ m = 13 ∨ m = 16) ∧ m' = 11) ∨ (m = 15 ∧ m' = 14)
structure Weak (g h : Gr) : Prop where
  cells : h.cells = g.cells
  len : h.n = g.n
  rf : h.rf = g.rf
  co : h.co = g.co
  rmw : h.rmw = g.rmw
  thr : ∀ i, (h.ev i).thread = (g.ev i).thread
  kind : ∀ i, (h.ev i).kind = (g.ev i).kind
  loc : ∀ i, (h.ev i).loc = (g.ev i).loc
  val : ∀ i, (h.ev i).val = (g.ev i).val
  mode : ∀ i, weakM (g.ev i).mode (h.ev i).mode
  addr : h.addr.Sublist g.addr
  data : h.data.Sublist g.data
  ctrl : h.ctrl.Sublist g.ctrl
theorem firstEv_all {f : Nat → Bool} : ∀ (d i : Nat), (∀ j, i ≤ j → j < i + d → f j = false) → ¬ 0 ≤ Gr.firstEv f d i
  | 0, i, _ => by unfold Gr.firstEv; omega
  | d + 1, i, h => by
    rw [firstEv_ok (h i (Nat.le_refl _) (by omega))]
    exact firstEv_all d (i + 1) fun j h1 h2 => h j (by omega) (by omega)
namespace Weak
variable {g h : Gr}
theorem size (w : Weak g h) : h.size = g.size := by unfold Gr.size; rw [w.cells, w.len]
theorem is (w : Weak g h) (i k : Int) : h.is i k = g.is i k := by unfold Gr.is; rw [w.len, w.kind]
theorem before (w : Weak g h) (a b : Int) : h.before a b = g.before a b := by unfold Gr.before; rw [w.len, w.thr, w.thr]
theorem isNext (w : Weak g h) (a b : Int) : h.isNext a b = g.isNext a b := by unfold Gr.isNext; simp only [w.before, w.thr]
theorem writesOf (w : Weak g h) (c : Int) : h.writesOf c = g.writesOf c := by rw [writesOf_range, writesOf_range]; simp only [w.len, w.kind, w.loc]
theorem rfBad (w : Weak g h) (r k : Nat) : h.rfBad r k = g.rfBad r k := by unfold Gr.rfBad; simp only [w.rf, w.is, w.loc, w.val]
theorem rfGo (w : Weak g h) : ∀ d r k, h.rfGo d r k = g.rfGo d r k
  | 0, r, k => by unfold Gr.rfGo; rw [w.rf]
  | d + 1, r, k => by unfold Gr.rfGo; simp only [w.kind, w.rfBad, w.rfGo d]
theorem rfAt (w : Weak g h) : h.rfAt = g.rfAt := by unfold Gr.rfAt; rw [w.rfGo, w.len]
theorem coBad (w : Weak g h) (c : Nat) (l : List Int) : h.coBad c l = g.coBad c l := by unfold Gr.coBad; simp only [w.writesOf, w.is, w.loc]
theorem coAt (w : Weak g h) : h.coAt = g.coAt := by unfold Gr.coAt Gr.coFirst Gr.lists; simp only [w.co, w.cells, w.coBad]
theorem rmwAt (w : Weak g h) : h.rmwAt = g.rmwAt := by
  unfold Gr.rmwAt
  rw [w.rmw]
  refine firstBad_congr fun j p _ => ?_
  unfold Gr.rmwBad
  simp only [w.rmw, w.is, w.isNext, w.loc]
theorem modeOk (w : Weak g h) (i : Nat) (hk : Gr.modeOk true (g.ev i).kind (g.ev i).mode = true) : Gr.modeOk true (h.ev i).kind (h.ev i).mode = true := by
  have := w.mode i
  rw [w.kind]
  unfold Gr.modeOk at hk ⊢
  simp only [if_true, Bool.or_eq_true, Bool.and_eq_true, beq_iff_eq] at hk ⊢
  unfold weakM at this
  omega
theorem evOk (w : Weak g h) (i : Nat) (hk : g.evOk true (g.ev i) = true) : h.evOk true (h.ev i) = true := by
  unfold Gr.evOk at hk ⊢
  simp only [Bool.and_eq_true] at hk ⊢
  obtain ⟨⟨⟨h1, h2⟩, h3⟩, h4⟩ := hk
  refine ⟨⟨⟨?_, ?_⟩, w.modeOk i h3⟩, ?_⟩
  · rw [w.thr]; exact h1
  · rw [w.thr]; exact h2
  · rw [w.kind, w.loc, w.val, w.cells]; exact h4
theorem first (w : Weak g h) (c : Nat) (hk : g.ev c = Gr.first true c) : h.ev c = Gr.first true c := by
  have h1 := w.thr c; have h2 := w.kind c; have h3 := w.loc c; have h4 := w.val c; have h5 := w.mode c
  rw [hk] at h1 h2 h3 h4 h5
  have h5' : (h.ev c).mode = 11 := by
    unfold weakM Gr.first at h5; simp only [if_true] at h5; omega
  have h6 : (h.ev c).mode = (Gr.first true c).mode := h5'
  generalize h.ev c = e at h1 h2 h3 h4 h6
  generalize Gr.first true c = e' at h1 h2 h3 h4 h6
  cases e; cases e'
  simp only at h1 h2 h3 h4 h6
  rw [h1, h2, h3, h4, h6]
end Weak
/-- Rising pairs. -/
def Rises (l : List (Int × Int)) : Prop := l.Pairwise fun p q => p.1 < q.1 ∨ p.1 = q.1 ∧ p.2 < q.2
theorem rises_of : ∀ {l : List (Int × Int)}, (∀ i p q, l[i]? = some p → l[i + 1]? = some q → p.1 < q.1 ∨ p.1 = q.1 ∧ p.2 < q.2) → Rises l
  | [], _ => List.Pairwise.nil
  | [p], _ => List.pairwise_singleton _ _
  | p :: q :: l, h => by
    have ih : Rises (q :: l) := rises_of fun i a b ha hb => h (i + 1) a b (by simpa using ha) (by simpa using hb)
    refine List.Pairwise.cons (fun x hx => ?_) ih
    have h0 := h 0 p q rfl rfl
    rcases List.mem_cons.1 hx with rfl | hx
    · exact h0
    · have := (List.pairwise_cons.1 ih).1 x hx
      omega
theorem rises_at {l : List (Int × Int)} (h : Rises l) {i : Nat} {p q : Int × Int} (hp : l[i]? = some p) (hq : l[i + 1]? = some q) : p.1 < q.1 ∨ p.1 = q.1 ∧ p.2 < q.2 := by
  obtain ⟨h1, e1⟩ := List.getElem?_eq_some_iff.1 hp
  obtain ⟨h2, e2⟩ := List.getElem?_eq_some_iff.1 hq
  have := List.pairwise_iff_getElem.1 h i (i + 1) h1 h2 (by omega)
  rw [e1, e2] at this; exact this
theorem firstBad_get {f : Nat → Int × Int → Bool} : ∀ {l : List (Int × Int)} {i : Nat}, ¬ 0 ≤ Gr.firstBad f l i → ∀ j p, l[j]? = some p → f (i + j) p = false
  | [], _, _, j, p, hp => by simp at hp
  | q :: l, i, h, j, p, hp => by
    cases hf : f i q
    · rw [firstBad_ok hf] at h
      cases j with
      | zero => simp at hp; subst hp; exact hf
      | succ j => have := firstBad_get h j p (by simpa using hp); rw [show i + (j + 1) = i + 1 + j by omega]; exact this
    · rw [firstBad_bad hf] at h; omega
theorem firstBad_none {f : Nat → Int × Int → Bool} : ∀ {l : List (Int × Int)} {i : Nat}, (∀ j p, l[j]? = some p → f (i + j) p = false) → ¬ 0 ≤ Gr.firstBad f l i
  | [], _, _ => by unfold Gr.firstBad; omega
  | q :: l, i, h => by
    rw [firstBad_ok (by have := h 0 q rfl; exact this)]
    exact firstBad_none fun j p hp => by have := h (j + 1) p (by simpa using hp); rw [show i + 1 + j = i + (j + 1) by omega]; exact this
/-- A list of dependencies is in order. -/
theorem dep_iff {g : Gr} {l : List (Int × Int)} {f : Int → Bool} : ¬ 0 ≤ g.depAt true l f ↔ Rises l ∧ ∀ p ∈ l, g.is p.1 1 = true ∧ g.before p.1 p.2 = true ∧ f (g.ev p.2.toNat).kind = true := by
  unfold Gr.depAt
  constructor
  · intro h
    have hb := firstBad_get h
    refine ⟨rises_of fun i p q hp hq => ?_, fun p hp => ?_⟩
    · have := hb (i + 1) q hq
      unfold Gr.depBad at this
      simp only [Bool.or_eq_false_iff, Bool.and_eq_false_imp, decide_eq_true_eq] at this
      have h1 := this.1.1.1.1 (by omega)
      rw [Nat.zero_add, Nat.add_sub_cancel, List.getD_eq_getElem?_getD, hp, Option.getD_some] at h1
      simp only [decide_eq_false_iff_not, beq_iff_eq] at h1
      obtain ⟨h1, h2⟩ := h1
      by_cases he : q.1 = p.1
      · have := h2 he; right; exact ⟨he.symm, by omega⟩
      · left; omega
    · obtain ⟨j, hj⟩ := List.mem_iff_getElem?.1 hp
      have := hb j p hj
      unfold Gr.depBad at this
      simp only [Bool.or_eq_false_iff, Bool.not_eq_false'] at this
      exact ⟨this.1.1.2, this.1.2, this.2⟩
  · rintro ⟨hr, hp⟩
    refine firstBad_none fun j p hj => ?_
    obtain ⟨h1, h2, h3⟩ := hp p (List.mem_of_getElem? hj)
    unfold Gr.depBad
    rw [h1, h2, h3]
    simp only [Bool.not_true, Bool.or_false]
    by_cases h0 : 0 < 0 + j
    · obtain ⟨i, rfl⟩ : ∃ i, j = i + 1 := ⟨j - 1, by omega⟩
      have hlt := (List.getElem?_eq_some_iff.1 hj).1
      have hi : l[i]? = some l[i] := List.getElem?_eq_getElem (by omega)
      have := rises_at hr hi hj
      rw [Nat.zero_add, Nat.add_sub_cancel, List.getD_eq_getElem?_getD, hi, Option.getD_some]
      have e1 : decide (p.1 < l[i].1) = false := by simp; omega
      rw [e1]
      by_cases he : p.1 = l[i].1
      · have e2 : decide (p.2 ≤ l[i].2) = false := by simp; omega
        rw [e2]; simp
      · have : (p.1 == l[i].1) = false := by simpa using he
        rw [this]; simp
    · have : decide (0 < 0 + j) = false := by simpa using h0
      rw [this]; rfl
namespace Weak
variable {g h : Gr}
theorem dep (w : Weak g h) {l l' : List (Int × Int)} {f : Int → Bool} (hs : l'.Sublist l) (hd : ¬ 0 ≤ g.depAt true l f) : ¬ 0 ≤ h.depAt true l' f := by
  obtain ⟨h1, h2⟩ := dep_iff.1 hd
  refine dep_iff.2 ⟨h1.sublist hs, fun p hp => ?_⟩
  obtain ⟨a, b, c⟩ := h2 p (hs.subset hp)
  rw [w.is, w.before, w.kind]; exact ⟨a, b, c⟩
theorem check (w : Weak g h) (hg : (g.check true).1 = 0) : (h.check true).1 = 0 := by
  obtain ⟨h1, h2, h3, h4, h5, h6, h7, h8, h9⟩ := check_zero hg
  have k2 : ¬ 0 ≤ h.initAt true := by
    unfold Gr.initAt at h2 ⊢
    refine firstEv_all _ _ fun j hj hj' => ?_
    rw [w.cells] at hj'
    have := firstEv_neg _ _ h2 j hj hj'
    simp only [Bool.not_eq_false', beq_iff_eq] at this ⊢
    exact w.first j this
  have k3 : ¬ 0 ≤ h.evAt true := by
    unfold Gr.evAt at h3 ⊢
    refine firstEv_all _ _ fun j hj hj' => ?_
    rw [w.cells] at hj hj'
    rw [w.len] at hj'
    have := firstEv_neg _ _ h3 j hj hj'
    simp only [Bool.not_eq_false'] at this ⊢
    exact w.evOk j this
  unfold Gr.check
  rw [w.size, h1, if_neg (by simp), if_neg k2, if_neg k3, if_neg (by rw [w.rfAt]; exact h4), if_neg (by rw [w.coAt]; exact h5), if_neg (by rw [w.rmwAt]; exact h6), if_neg (w.dep w.addr h7), if_neg (w.dep w.data h8), if_neg (w.dep w.ctrl h9)]
theorem po (w : Weak g h) (i j : Nat) : relM h 0 i j = relM g 0 i j := w.before i j
theorem relRf (w : Weak g h) (i j : Nat) : relM h 1 i j = relM g 1 i j := by show ofM h.n h.rf i j = ofM g.n g.rf i j; rw [w.len, w.rf]
theorem relCo (w : Weak g h) (i j : Nat) : relM h 2 i j = relM g 2 i j := by show ofM h.n (coPairs h) i j = ofM g.n (coPairs g) i j; unfold coPairs; rw [w.len, w.co]
theorem relRmw (w : Weak g h) (i j : Nat) : relM h 3 i j = relM g 3 i j := by show ofM h.n h.rmw i j = ofM g.n g.rmw i j; rw [w.len, w.rmw]
theorem relExt (w : Weak g h) (i j : Nat) : relM h 5 i j = relM g 5 i j := by show h.extM i j = g.extM i j; unfold Gr.extM; rw [w.thr, w.thr]
theorem relFr (w : Weak g h) (i j : Nat) : relM h 9 i j = relM g 9 i j := by
  show compM h.n (invM (ofM h.n h.rf)) h.n (ofM h.n (coPairs h)) i j = compM g.n (invM (ofM g.n g.rf)) g.n (ofM g.n (coPairs g)) i j
  unfold coPairs; rw [w.len, w.rf, w.co]
theorem ofSub {n : Nat} {l l' : List (Int × Int)} (hs : l'.Sublist l) {i j : Nat} (hm : ofM n l' i j = true) : ofM n l i j = true := by
  unfold ofM at hm ⊢
  rw [List.any_eq_true] at hm ⊢
  obtain ⟨p, hp, hm⟩ := hm
  exact ⟨p, hs.subset hp, hm⟩
theorem relDep (w : Weak g h) {k : Nat} (hk : k = 6 ∨ k = 7 ∨ k = 8) {i j : Nat} (hm : relM h k i j = true) : relM g k i j = true := by
  rcases hk with rfl | rfl | rfl
  · exact ofSub w.addr (by rw [← w.len]; exact hm)
  · exact ofSub w.data (by rw [← w.len]; exact hm)
  · exact ofSub w.ctrl (by rw [← w.len]; exact hm)
theorem rfi (w : Weak g h) (i j : Nat) : rfiM h i j = rfiM g i j := by unfold rfiM; rw [w.relRf, w.relExt]
theorem coi (w : Weak g h) (i j : Nat) : coiM h i j = coiM g i j := by unfold coiM; rw [w.relCo, w.relExt]
theorem coe (w : Weak g h) (i j : Nat) : coeM h i j = coeM g i j := by unfold coeM; rw [w.relCo, w.relExt]
theorem fre (w : Weak g h) (i j : Nat) : freM h i j = freM g i j := by unfold freM; rw [w.relFr, w.relExt]
theorem rfe (w : Weak g h) (i j : Nat) : rfeM h i j = rfeM g i j := by unfold rfeM; rw [w.relRf, w.relExt]
theorem obs (w : Weak g h) (i j : Nat) : obsM h i j = obsM g i j := by unfold obsM; rw [w.rfe, w.coe, w.fre]
theorem isK' (w : Weak g h) (k : Int) (i : Nat) : isK h k i = isK g k i := by unfold isK; rw [w.kind]
theorem isM' (w : Weak g h) {m : Int} (hm : m = 12 ∨ m = 13 ∨ m = 15) {i : Nat} (h1 : isM h m i = true) : isM g m i = true := by
  have := w.mode i
  unfold isM at h1 ⊢
  simp only [beq_iff_eq] at h1 ⊢
  unfold weakM at this
  omega
theorem acq (w : Weak g h) {i : Nat} (h1 : acqB h i = true) : acqB g i = true := by
  have := w.mode i
  unfold acqB isM at h1 ⊢
  simp only [Bool.or_eq_true, beq_iff_eq] at h1 ⊢
  unfold weakM at this
  omega
theorem ld (w : Weak g h) {i : Nat} (h1 : isM h 14 i = true) : isM g 14 i = true ∨ isM g 15 i = true := by
  have := w.mode i
  unfold isM at h1 ⊢
  simp only [beq_iff_eq] at h1 ⊢
  unfold weakM at this
  omega
theorem dob (w : Weak g h) {i j : Nat} (hd : dobM h i j = true) : dobM g i j = true := by
  unfold dobM at hd ⊢
  simp only [Bool.or_eq_true, Bool.and_eq_true, exB_true, w.po, w.rfi, w.coi, w.isK', w.len] at hd ⊢
  have d6 : ∀ {i j}, relM h 6 i j = true → relM g 6 i j = true := fun x => w.relDep (by decide) x
  have d7 : ∀ {i j}, relM h 7 i j = true → relM g 7 i j = true := fun x => w.relDep (by decide) x
  have d8 : ∀ {i j}, relM h 8 i j = true → relM g 8 i j = true := fun x => w.relDep (by decide) x
  rcases hd with ((((hd | hd) | ⟨hd, he⟩) | ⟨⟨k, hk, h1, h2⟩, h3⟩) | ⟨k, hk, h1, h2⟩) | ⟨k, hk, h1, h2⟩
  · exact .inl (.inl (.inl (.inl (.inl (d6 hd)))))
  · exact .inl (.inl (.inl (.inl (.inr (d7 hd)))))
  · exact .inl (.inl (.inl (.inr ⟨d8 hd, he⟩)))
  · exact .inl (.inl (.inr ⟨⟨k, hk, d6 h1, h2⟩, h3⟩))
  · exact .inl (.inr ⟨k, hk, h1.imp d8 d7, h2⟩)
  · exact .inr ⟨k, hk, h1.imp d6 d7, h2⟩
theorem aob (w : Weak g h) {i j : Nat} (hd : aobM h i j = true) : aobM g i j = true := by
  have hl : lastB h i = lastB g i := by unfold lastB; rw [w.rmw]
  unfold aobM at hd ⊢
  simp only [Bool.or_eq_true, Bool.and_eq_true, w.relRmw, w.rfi, hl] at hd ⊢
  exact hd.imp id fun ⟨h1, h2⟩ => ⟨h1, w.acq h2⟩
theorem bob (w : Weak g h) {i j : Nat} (hd : bobM h i j = true) : bobM g i j = true := by
  unfold bobM at hd ⊢
  simp only [Bool.or_eq_true, Bool.and_eq_true, exB_true, w.po, w.coi, w.isK', w.len] at hd ⊢
  have m12 : ∀ {i}, isM h 12 i = true → isM g 12 i = true := fun x => w.isM' (by decide) x
  have m13 : ∀ {i}, isM h 13 i = true → isM g 13 i = true := fun x => w.isM' (by decide) x
  have m15 : ∀ {i}, isM h 15 i = true → isM g 15 i = true := fun x => w.isM' (by decide) x
  rcases hd with ((((⟨k, hk, ⟨h1, h3⟩, h2⟩ | ⟨k, hk, ⟨⟨h4, h1⟩, h3⟩, h2⟩) | ⟨⟨h3, h1⟩, h4⟩) | ⟨h3, h1⟩) | ⟨h1, h3⟩) | ⟨k, hk, ⟨h1, h3⟩, h2⟩
  · exact .inl (.inl (.inl (.inl (.inl ⟨k, hk, ⟨h1, m15 h3⟩, h2⟩))))
  · rcases w.ld h3 with h3 | h3
    · exact .inl (.inl (.inl (.inl (.inr ⟨k, hk, ⟨⟨h4, h1⟩, h3⟩, h2⟩))))
    · exact .inl (.inl (.inl (.inl (.inl ⟨k, hk, ⟨h1, h3⟩, h2⟩))))
  · exact .inl (.inl (.inl (.inr ⟨⟨m13 h3, h1⟩, m12 h4⟩)))
  · exact .inl (.inl (.inr ⟨w.acq h3, h1⟩))
  · exact .inl (.inr ⟨h1, m13 h3⟩)
  · exact .inr ⟨k, hk, ⟨h1, m13 h3⟩, h2⟩
theorem ob (w : Weak g h) {i j : Nat} (hd : obM h i j = true) : obM g i j = true := by
  unfold obM at hd ⊢
  simp only [Bool.or_eq_true, w.obs] at hd ⊢
  exact hd.imp (fun x => x.imp (fun x => x.imp id w.dob) w.aob) w.bob
end Weak
end Go.Proofs.Tst
/-
  ArmWeaker.
-/
namespace Go.Proofs.Tst
open Go Go.Vc
theorem holder_mode {h : Heap} {b n c lo : Nat} {E : List Ev} (w : Holder 5 h (.slice (some ⟨b, 0, none⟩) n c) n (evsV E) lo) {i : Nat} (hi : i < n) : hcell h b (i * 5 + 4) = some (.int .i64 (E.getD i default).mode) := by
  have hl := w.1
  rw [length_evsV] at hl
  have hE : i < E.length := by omega
  obtain ⟨b', c', rest, h1, h2, h3, h4⟩ := w.blk (by omega)
  cases h1
  have he : E[i]? = some (E.getD i default) := by simp [hE]
  rw [h2.cell, List.getElem?_append_left (by simp; omega), evsV_get he 4 (by omega)]
  rfl
theorem GrOwn.modes {h : Heap} {q : GV} {g : Gr} {lo : Nat} (w : GrOwn h q g lo) (hn : 0 < g.n) : ∃ b, q.e = some ⟨b, 0, none⟩ ∧ ∀ i, i < g.n → hcell h b (i * 5 + 4) = some (.int .i64 (g.ev i).mode) := by
  obtain ⟨b, hb, -⟩ := w.ev hn
  have we := w.e
  rw [hb] at we
  exact ⟨b, hb, fun i hi => holder_mode we hi⟩
/-- Those events that have been gone through may have weaker modes. -/
structure WkTo (g : Gr) (E : List Ev) (i : Nat) : Prop where
  len : E.length = g.evs.length
  same : ∀ j, i ≤ j → E.getD j default = g.ev j
  thr : ∀ j, (E.getD j default).thread = (g.ev j).thread
  kind : ∀ j, (E.getD j default).kind = (g.ev j).kind
  loc : ∀ j, (E.getD j default).loc = (g.ev j).loc
  val : ∀ j, (E.getD j default).val = (g.ev j).val
  mode : ∀ j, weakM (g.ev j).mode (E.getD j default).mode
theorem WkTo.keep {g : Gr} {E : List Ev} {i : Nat} (w : WkTo g E i) : WkTo g E (i + 1) := ⟨w.len, fun j hj => w.same j (by omega), w.thr, w.kind, w.loc, w.val, w.mode⟩
theorem setMode_get {E : List Ev} {i j : Nat} {m : Int} (hi : i < E.length) : (setMode E i m).getD j default = if j = i then { E.getD i default with mode := m } else E.getD j default := by
  unfold setMode
  rw [List.getD_eq_getElem?_getD, List.getElem?_set]
  by_cases h : i = j
  · subst h; rw [if_pos rfl, if_pos hi, if_pos rfl]; rfl
  · rw [if_neg h, if_neg (Ne.symm h), List.getD_eq_getElem?_getD]
theorem WkTo.set {g : Gr} {E : List Ev} {i : Nat} {m : Int} (w : WkTo g E i) (hi : i < g.evs.length) (hm : weakM (g.ev i).mode m) : WkTo g (setMode E i m) (i + 1) := by
  have hE : i < E.length := by rw [w.len]; exact hi
  refine ⟨by simp [w.len], fun j hj => ?_, fun j => ?_, fun j => ?_, fun j => ?_, fun j => ?_, fun j => ?_⟩ <;> rw [setMode_get hE]
  · rw [if_neg (by omega)]; exact w.same j (by omega)
  all_goals
    by_cases h : j = i
    · subst h
      rw [if_pos rfl]
      first | exact w.thr j | exact w.kind j | exact w.loc j | exact w.val j | exact hm
    · rw [if_neg h]
      first | exact w.thr j | exact w.kind j | exact w.loc j | exact w.val j | exact w.mode j
end Go.Proofs.Tst
/-
  ArmWeaker.
-/
namespace Go.Proofs.Tst
open Go Go.Vc
section
variable {h h' : Heap} {q : GV} {g : Gr} {lo be i B : Nat} {E : List Ev} {m : Int}
/-- Where the events of a copy lie (none: above all). -/
structure EvAt (h : Heap) (q : GV) (g : Gr) (lo B : Nat) : Prop where
  own : GrOwn h q g lo
  some : 0 < g.n → q.e = .some ⟨B, 0, none⟩ ∧ lo ≤ B ∧ B < h.size
  none : g.n = 0 → B = h.size
theorem EvAt.of (w : GrOwn h q g lo) : ∃ B, EvAt h q g lo B := by
  by_cases hn : 0 < g.n
  · obtain ⟨b, k1, k2, k3, -⟩ := w.ev hn
    exact ⟨b, w, fun _ => ⟨k1, k2, k3⟩, fun h => by omega⟩
  · exact ⟨h.size, w, fun h => absurd h hn, fun _ => rfl⟩
theorem EvAt.to (w : EvAt h q g lo B) (f : Fr B (B + 1) h h') (hl : E.length = g.n) (he : Holder 5 h' (.slice q.e g.evs.length q.ec) g.evs.length (evsV E) lo) : GrOwn h' q { g with evs := E } lo := by
  by_cases hn : 0 < g.n
  · obtain ⟨k1, k2, k3⟩ := w.some hn
    rw [k1] at he
    exact w.own.evs' f k1 hl he
  · have h0 : g.evs = [] := List.length_eq_zero_iff.1 (by unfold Gr.n at hn; omega)
    have h1 : E = g.evs := by rw [h0]; exact List.length_eq_zero_iff.1 (by omega)
    rw [h1]
    exact w.own.fr f (.inr (.inl (by have := w.none (by omega); omega)))
end
end Go.Proofs.Tst
