/-
  Contracts of functions that the law reaches: what each returns and what it leaves in memory. Conditions stand in each.
-/
import Derived.Test.YtmilaghhnaoidaaDoorT7
set_option linter.all false
set_option maxRecDepth 2000
/-
  The words' memory model: Derive, Check.
-/
namespace Go.Proofs.Tst
open Go Go.Vc
theorem natsV_ints (l : List Nat) : natsV l = intsV (l.map fun (x : Nat) => (x : Int)) := by unfold natsV intsV; rw [List.map_map]; rfl
theorem find_at {α : Type} {f : α → Bool} {l : List α} {i : Nat} {x : α} (h : l[i]? = some x) (hn : (l.take i).find? f = none) (hx : f x = true) : l.find? f = some x := by
  have hlt := (List.getElem?_eq_some_iff.1 h).1
  have hd : l.drop i = x :: l.drop (i + 1) := by rw [List.drop_eq_getElem_cons hlt]; congr 1; exact (List.getElem?_eq_some_iff.1 h).2
  rw [← List.take_append_drop i l, List.find?_append, hn, hd]
  simp [hx]
theorem find_next {α : Type} {f : α → Bool} {l : List α} {i : Nat} {x : α} (h : l[i]? = some x) (hn : (l.take i).find? f = none) (hx : f x = false) : (l.take (i + 1)).find? f = none := by
  rw [List.take_add_one, h, List.find?_append, hn]
  simp [hx]
theorem torn_has {g : Gr} {p : Int × Int} : (inR g.n p.1 && inR g.n p.2 && compM g.n (freM g) g.n (coeM g) p.1.toNat p.2.toNat) = tornB g p := by
  unfold tornB
  cases h1 : inR g.n p.1
  · rfl
  cases h2 : inR g.n p.2
  · rfl
  unfold inR at h1 h2
  simp only [Bool.and_eq_true, decide_eq_true_eq] at h1 h2
  rw [compM_in (by omega) (by omega)]
section
variable {h : Heap} {q : GV} {g : Gr}
set_option maxHeartbeats 1000000 in
theorem arm_Derive (t : GrAt h q g) (ht : TabAt h) :
    Con Tryd.prog 49 #[.agg (gcells q g).toArray] h fun v h' => Fr 0 0 h h' ∧ if (g.check true).1 = 0 then ∃ x A B, v = .tuple #[.agg #[x 0, x 1, x 2, x 3, x 4], .int .i64 0] ∧ Der h' A B x g.n (aM g) 5 ∧ ∀ k, k < 5 → h.size ≤ A k ∧ A k ≤ B k ∧ B k ≤ h'.size
      else v = .tuple #[.agg #[.pointer none, .pointer none, .pointer none, .pointer none, .pointer none], .int .i64 4] := by
  have p0 : Fr 0 0 h h := .refl _ _ _
  by_cases hc : (g.check true).1 = 0
  rotate_left
  · simp only [if_neg hc]
    refine con_arm_Derive ?_
    unfold gcells
    simp -dsimp only [go_sem]
    intro b1 h1 n1
    have n1_a := n1.at_
    have n1_z := n1.size
    replace p0 := p0.fresh (n1.fr (lo := 0) (hi := 0)) (by omega)
    have r1 := n1.row
    simp -dsimp only [go_sem, r1.cell]
    intro b2 h2 n2
    have n2_a := n2.at_
    have n2_z := n2.size
    replace p0 := p0.fresh (n2.fr (lo := 0) (hi := 0)) (by omega)
    replace r1 := r1.fr (n2.fr (lo := 0) (hi := 0)) (by omega)
    have r2 := n2.row
    simp -dsimp only [go_sem, r1.cell, r2.cell]
    refine call_of (arm_derive (t.fr p0) (ht.fr p0 (.inr rfl))) ?_
    rintro v2 h3 ⟨f2, w⟩
    have f2_z := f2.size
    replace p0 := p0.fresh f2 (by omega)
    replace r1 := r1.fr f2 (by omega)
    replace r2 := r2.fr f2 (by omega)
    rw [if_neg hc] at w
    subst w
    simp -dsimp only [go_sem, r1.cell, r2.cell]
    refine Chk_intro (r2.wr (by first | (simp; done) | (simp; omega))) fun h4 s4 => ?_
    have s4_z := s4.size
    replace p0 := p0.fresh s4.fr (by omega)
    replace r1 := r1.fr s4.fr (by omega)
    replace r2 := s4.row r2
    try simp only [cl_int, cl_bool, cl_slice, cl_ptr, putAt_one, List.set_cons_zero, List.set_cons_succ, ivec_set, brow_upd] at r2
    try simp -dsimp only [go_sem] at r2
    simp -dsimp only [go_sem, r1.cell, r2.cell]
    exact p0
  simp only [if_pos hc]
  refine con_arm_Derive ?_
  unfold gcells
  simp -dsimp only [go_sem]
  intro b1 h1 n1
  have n1_a := n1.at_
  have n1_z := n1.size
  replace p0 := p0.fresh (n1.fr (lo := 0) (hi := 0)) (by omega)
  have r1 := n1.row
  simp -dsimp only [go_sem, r1.cell]
  intro b2 h2 n2
  have n2_a := n2.at_
  have n2_z := n2.size
  replace p0 := p0.fresh (n2.fr (lo := 0) (hi := 0)) (by omega)
  replace r1 := r1.fr (n2.fr (lo := 0) (hi := 0)) (by omega)
  have r2 := n2.row
  simp -dsimp only [go_sem, r1.cell, r2.cell]
  refine call_of (arm_derive (t.fr p0) (ht.fr p0 (.inr rfl))) ?_
  rintro v2 h3 ⟨f2, w⟩
  have f2_z := f2.size
  replace p0 := p0.fresh f2 (by omega)
  replace r1 := r1.fr f2 (by omega)
  replace r2 := r2.fr f2 (by omega)
  rw [if_pos hc] at w
  obtain ⟨mb, c, rd, wr, fe, d, rfl, m⟩ := w
  have g3 : h.size ≤ h3.size ∧ b2 < h3.size := by omega
  simp -dsimp only [go_sem, r1.cell, r2.cell]
  refine call_of (arm_model_facts m hc (ht.fr p0 (.inr rfl))) ?_
  rintro v4 h4 ⟨f4, x, A, B, rfl, D, dlo⟩
  have f4_z := f4.size
  replace p0 := p0.fresh f4 (by omega)
  replace r1 := r1.fr f4 (by omega)
  replace r2 := r2.fr f4 (by omega)
  have ocx : ∀ k, k < 5 → (x k).oneCell' = true := fun k hk => by obtain ⟨_, e⟩ := progPtr (D.at_ k hk); rw [e]; rfl
  simp -dsimp only [go_sem, ocx 0 (by decide), ocx 1 (by decide), ocx 2 (by decide), ocx 3 (by decide), ocx 4 (by decide), r1.cell, r2.cell]
  refine Chk_intro (r2.wr (by first | (simp; done) | (simp; omega))) fun h5 s5 => ?_
  have s5_z := s5.size
  replace p0 := p0.fresh s5.fr (by omega)
  replace r1 := r1.fr s5.fr (by omega)
  replace r2 := s5.row r2
  try simp only [cl_int, cl_bool, cl_slice, cl_ptr, putAt_one, List.set_cons_zero, List.set_cons_succ, ivec_set, brow_upd] at r2
  have D5 := D.fr s5.fr (fun k hk => by have := dlo k hk; omega)
  replace r2 : Rw h5 b2 [x 0, x 1, x 2, x 3, x 4] := r2
  simp -dsimp only [go_sem, r1.cell, r2.cell]
  exact ⟨p0, x, A, B, rfl, D5, fun k hk => by have := dlo k hk; omega⟩
set_option maxHeartbeats 2000000 in
theorem arm_Check (t : GrAt h q g) (ht : TabAt h) :
    Con Tryd.prog 46 #[.agg (gcells q g).toArray] h fun v h' => Fr 0 0 h h' ∧ if (g.check true).1 = 0 then ∃ w, v = .tuple #[.int .i64 (armAx g).1, w, .int .i64 0] ∧ Holder 1 h' w (armAx g).2.length (intsV (armAx g).2) h.size
      else v = .tuple #[.int .i64 0, .slice none 0 0, .int .i64 4] := by
  have p0 : Fr 0 0 h h := .refl _ _ _
  have br := t.fits.r
  by_cases hc : (g.check true).1 = 0
  rotate_left
  · simp only [if_neg hc]
    refine con_arm_Check ?_
    unfold gcells
    simp -dsimp only [go_sem]
    intro b1 h1 n1
    have n1_a := n1.at_
    have n1_z := n1.size
    replace p0 := p0.fresh (n1.fr (lo := 0) (hi := 0)) (by omega)
    have r1 := n1.row
    simp -dsimp only [go_sem, r1.cell]
    refine call_of (arm_derive (t.fr p0) (ht.fr p0 (.inr rfl))) ?_
    rintro v2 h3 ⟨f2, w⟩
    have f2_z := f2.size
    replace p0 := p0.fresh f2 (by omega)
    replace r1 := r1.fr f2 (by omega)
    rw [if_neg hc] at w
    subst w
    simp -dsimp only [go_sem, r1.cell]
    exact p0
  simp only [if_pos hc]
  refine con_arm_Check ?_
  unfold gcells
  simp -dsimp only [go_sem]
  intro b1 h1 n1
  have n1_a := n1.at_
  have n1_z := n1.size
  replace p0 := p0.fresh (n1.fr (lo := 0) (hi := 0)) (by omega)
  have r1 := n1.row
  simp -dsimp only [go_sem, r1.cell]
  refine call_of (arm_derive (t.fr p0) (ht.fr p0 (.inr rfl))) ?_
  rintro v2 h3 ⟨f2, w⟩
  have f2_z := f2.size
  replace p0 := p0.fresh f2 (by omega)
  replace r1 := r1.fr f2 (by omega)
  rw [if_pos hc] at w
  obtain ⟨mb, c, rd, wr, fe, d, rfl, m⟩ := w
  have g3 : h.size ≤ h3.size ∧ h.size ≤ b1 := by omega
  have p3 : Fr 0 0 h3 h3 := .refl _ _ _
  have rm := m.row
  unfold mcells at rm
  simp -dsimp only [go_sem, r1.cell, rm.cell]
  obtain ⟨_, _, ta⟩ := m.rel 0 (by decide)
  obtain ⟨_, _, tb⟩ := m.rel 4 (by decide)
  refine call_of (rel_Inter ta tb (ht.fr p0 (.inr rfl))) ?_
  rintro v4 h4 ⟨f4, t4⟩
  rw [Nat.max_self] at t4
  have f4_z := f4.size
  replace p0 := p0.fresh f4 (by omega)
  replace r1 := r1.fr f4 (by omega)
  replace p3 := p3.fresh f4 (by omega)
  replace rm := rm.fr f4 (by omega)
  have t4 : PA h4 v4 g.n (fun i j => relM g 0 i j && relM g 4 i j) := PA.congr ⟨_, _, t4⟩ fun i j hi hj => interM_in hi hj
  simp -dsimp only [go_sem, t4.cl, r1.cell, rm.cell]
  intro b5 h5 n5
  have n5_a := n5.at_
  have n5_z := n5.size
  replace p0 := p0.fresh (n5.fr (lo := 0) (hi := 0)) (by omega)
  replace r1 := r1.fr (n5.fr (lo := 0) (hi := 0)) (by omega)
  replace p3 := p3.fresh (n5.fr (lo := 0) (hi := 0)) (by omega)
  replace rm := rm.fr (n5.fr (lo := 0) (hi := 0)) (by omega)
  have r5 := n5.row
  have t5 := t4.fr (n5.fr (lo := 0) (hi := 0))
  simp -dsimp only [go_sem, r1.cell, rm.cell, r5.cell]
  have m5 := m.fr p3
  refine call_of (rel_UnionU (UA.mk' [(v4, _), (.pointer (some ⟨c 1, 0, none⟩), relM g 1), (.pointer (some ⟨c 2, 0, none⟩), relM g 2), (.pointer (some ⟨c 9, 0, none⟩), relM g 9)] r5 (pa_cons t5 (pa_cons (m5.rel 1 (by decide)) (pa_cons (m5.rel 2 (by decide)) (pa_cons (m5.rel 9 (by decide)) pa_nil)))) (by simp) (by simp))) ?_
  rintro v6 h6 ⟨f6, t6⟩
  have f6_z := f6.size
  replace p0 := p0.fresh f6 (by omega)
  replace r1 := r1.fr f6 (by omega)
  replace p3 := p3.fresh f6 (by omega)
  replace rm := rm.fr f6 (by omega)
  replace r5 := r5.fr f6 (by omega)
  have t6 := t6.congr (M' := inM g) fun i j _ _ => by simp [orM, inM, Bool.or_assoc]
  simp -dsimp only [go_sem, r1.cell, rm.cell, r5.cell]
  refine call_of (rel_Cycle t6 (ht.fr p0 (.inr rfl))) ?_
  rintro v7 h7 ⟨f7, o7⟩
  have f7_z := f7.size
  replace p0 := p0.fresh f7 (by omega)
  replace r1 := r1.fr f7 (by omega)
  replace p3 := p3.fresh f7 (by omega)
  replace rm := rm.fr f7 (by omega)
  replace r5 := r5.fr f7 (by omega)
  obtain ⟨a7, c7, rfl⟩ := o7.is
  by_cases h1 : cycS g.n (inM g) = []
  rotate_left
  · have hl : (((cycS g.n (inM g)).length : Nat) : Int) > 0 := by have := List.length_pos_iff.2 h1; omega
    simp -dsimp only [go_sem, hl, r1.cell, rm.cell, r5.cell]
    have hA : armAx g = (1, (cycS g.n (inM g)).map fun (x : Nat) => (x : Int)) := by unfold armAx; rw [if_pos h1]
    rw [hA]
    refine ⟨p0, _, rfl, ?_⟩
    dsimp only
    rw [List.length_map, ← natsV_ints]
    exact o7.lower (by omega)
  have hl : ¬ (((cycS g.n (inM g)).length : Nat) : Int) > 0 := by rw [h1]; decide
  clear o7
  simp -dsimp only [go_sem, hl, r1.cell, rm.cell, r5.cell]
  refine call_of (arm_model_facts (m.fr p3) hc (ht.fr p0 (.inr rfl))) ?_
  rintro v8 h8 ⟨f8, x, A, B, rfl, D, dlo⟩
  have f8_z := f8.size
  replace p0 := p0.fresh f8 (by omega)
  replace r1 := r1.fr f8 (by omega)
  replace p3 := p3.fresh f8 (by omega)
  replace rm := rm.fr f8 (by omega)
  replace r5 := r5.fr f8 (by omega)
  simp -dsimp only [go_sem, r1.cell, rm.cell, r5.cell]
  refine call_of (rel_Cycle (D.at_ 4 (by decide)) (ht.fr p0 (.inr rfl))) ?_
  rintro v9 h9 ⟨f9, o9⟩
  have f9_z := f9.size
  replace p0 := p0.fresh f9 (by omega)
  replace r1 := r1.fr f9 (by omega)
  replace p3 := p3.fresh f9 (by omega)
  replace rm := rm.fr f9 (by omega)
  replace r5 := r5.fr f9 (by omega)
  replace o9 : Holder 1 h9 v9 (cycS g.n (obM g)).length (natsV (cycS g.n (obM g))) h8.size := o9
  obtain ⟨a9, c9, rfl⟩ := o9.is
  by_cases h2 : cycS g.n (obM g) = []
  rotate_left
  · have hl : (((cycS g.n (obM g)).length : Nat) : Int) > 0 := by have := List.length_pos_iff.2 h2; omega
    simp -dsimp only [go_sem, hl, r1.cell, rm.cell, r5.cell]
    have hA : armAx g = (2, (cycS g.n (obM g)).map fun (x : Nat) => (x : Int)) := by unfold armAx; rw [if_neg (by simp [h1]), if_pos h2]
    rw [hA]
    refine ⟨p0, _, rfl, ?_⟩
    dsimp only
    rw [List.length_map, ← natsV_ints]
    exact o9.lower (by omega)
  have hl : ¬ (((cycS g.n (obM g)).length : Nat) : Int) > 0 := by rw [h2]; decide
  clear o9
  simp -dsimp only [go_sem, hl, r1.cell, rm.cell, r5.cell]
  obtain ⟨_, _, ta⟩ := (m.fr p3).hm 4 (by decide)
  obtain ⟨_, _, tb⟩ := (m.fr p3).hm 2 (by decide)
  refine call_of (rel_Comp ta tb (ht.fr p0 (.inr rfl))) ?_
  rintro v10 h10 ⟨f10, t10⟩
  rw [Nat.max_self] at t10
  have f10_z := f10.size
  replace p0 := p0.fresh f10 (by omega)
  replace r1 := r1.fr f10 (by omega)
  replace p3 := p3.fresh f10 (by omega)
  replace rm := rm.fr f10 (by omega)
  replace r5 := r5.fr f10 (by omega)
  obtain ⟨bt, rfl⟩ := progPtr t10
  have g10 : h.size ≤ h10.size := by omega
  simp -dsimp only [go_sem, r1.cell, rm.cell, r5.cell]
  refine loop_intro (fun i : Nat => [(8, .pointer (some ⟨bt, 0, none⟩)), (70, .slice q.r g.rmw.length q.rc), (71, .int .i64 g.rmw.length), (72, .int .i64 i)])
    (fun i h' => i ≤ g.rmw.length ∧ Fr 0 0 h h' ∧ Fr 0 0 h10 h' ∧ (g.rmw.take i).find? (tornB g) = none) (fun i => g.rmw.length - i) 0 ?_ ?_ ?_
  · simp [Le, find]
  · exact ⟨by omega, p0, .refl _ _ _, rfl⟩
  clear p0 r1 p3 rm
  rintro i h11 ⟨hi, p0, p10, hfn⟩
  have p0_z := p0.size
  have p10_z := p10.size
  by_cases hlt : i < g.rmw.length
  · have e1 : ((i : Int) < (g.rmw.length : Int)) := by omega
    have hq : g.rmw[i]? = some g.rmw[i] := List.getElem?_eq_getElem hlt
    generalize g.rmw[i] = pr at hq
    obtain ⟨rb, ro, hre, hrc⟩ := t.r.pairsAt (by omega)
    obtain ⟨k1, k2⟩ := hrc h11 p0 i _ hq
    simp -dsimp only [go_sem, e1, hre, k1, k2]
    intro b12 h12 n12
    have n12_a := n12.at_
    have n12_z := n12.size
    replace p0 := p0.fresh (n12.fr (lo := 0) (hi := 0)) (by omega)
    replace p10 := p10.fresh (n12.fr (lo := 0) (hi := 0)) (by omega)
    have r12 := n12.row
    simp -dsimp only [go_sem, r12.cell]
    refine Chk_intro (r12.wr (by first | (simp; done) | (simp; omega))) fun h13 s13 => ?_
    have s13_z := s13.size
    replace p0 := p0.fresh s13.fr (by omega)
    replace p10 := p10.fresh s13.fr (by omega)
    replace r12 := s13.row r12
    try simp only [cl_int, cl_bool, cl_slice, cl_ptr, putAt_one, List.set_cons_zero, List.set_cons_succ, ivec_set, brow_upd] at r12
    try simp -dsimp only [go_sem] at r12
    simp -dsimp only [go_sem, r12.cell]
    refine call_of (rel_Has (t10.fr p10 (by omega)) pr.1 pr.2) ?_
    rintro v14 h14 ⟨hh, rfl⟩
    obtain rfl : h13 = h14 := hh.symm
    have htn := torn_has (g := g) (p := pr)
    replace htn : (inR g.n pr.1 && inR g.n pr.2 && compM g.n (armM g 4) g.n (armM g 2) pr.1.toNat pr.2.toNat) = tornB g pr := htn
    rw [htn]
    cases hb : tornB g pr
    · simp -dsimp only [go_sem, r12.cell]
      simp -dsimp (disch := omega) only [wrap64]
      exact ⟨i + 1, by omega, by simp [Le, find, hre], by omega, p0, p10, find_next hq hfn hb⟩
    · simp -dsimp only [go_sem, r12.cell]
      intro b15 h15 n15
      have n15_a := n15.at_
      have n15_z := n15.size
      replace p0 := p0.fresh (n15.fr (lo := 0) (hi := 0)) (by omega)
      replace p10 := p10.fresh (n15.fr (lo := 0) (hi := 0)) (by omega)
      replace r12 := r12.fr (n15.fr (lo := 0) (hi := 0)) (by omega)
      have r15 := n15.row
      simp -dsimp only [go_sem, r12.cell, r15.cell]
      have hA : armAx g = (3, [pr.1, pr.2]) := by unfold armAx; rw [if_neg (by simp [h1]), if_neg (by simp [h2]), find_at hq hfn hb]
      rw [hA]
      exact ⟨p0, _, rfl, holder_row (s := 1) (n := 2) r15 rfl (by omega)⟩
  · obtain rfl : i = g.rmw.length := by omega
    simp -dsimp only [go_sem, Int.lt_irrefl]
    rw [List.take_length] at hfn
    have hA : armAx g = (0, []) := by unfold armAx; rw [if_neg (by simp [h1]), if_neg (by simp [h2]), hfn]
    rw [hA]
    exact ⟨p0, _, rfl, .none _ _ _⟩
end
end Go.Proofs.Tst
/-
  The graphs of two cells that the laws lay.
-/
namespace Go.Vc
open Go
theorem Fr.wide {l r b : Nat} {h h' : Heap} (f : Fr l r h h') (hr : r ≤ b) : Fr 0 b h h' := ⟨f.size, fun x hx hc => f.old x hx (by omega)⟩
end Go.Vc
namespace Go.Proofs.Tst
open Go Go.Vc
def twoG (m : Int) (E : List Ev) (rf : List (Int × Int)) (x y : List Int) : Gr := ⟨2, [⟨-1, 2, 0, 0, m⟩, ⟨-1, 2, 1, 0, m⟩] ++ E, rf, [[0] ++ x, [1] ++ y], [], [], [], []⟩
theorem nilP {h : Heap} : Rd 2 h (.slice none ([] : List (Int × Int)).length 0) ([] : List (Int × Int)).length (pairsV []) := ⟨rfl, _, _, rfl, .inl rfl⟩
theorem c_law11_ev (a b c : Int) (d : Int) (m : Int) {h : Heap} : Con Tryd.prog 44 #[.int .i64 a, .int .i64 b, .int .i64 c, .int .u64 d, .int .i64 m] h fun v h' => Fr 0 0 h h' ∧ v = .agg #[.int .i64 a, .int .i64 b, .int .i64 c, .int .u64 d, .int .i64 m] := by
  refine con_law11_ev ?_
  have p0 : Fr 0 0 h h := .refl _ _ _
  simp -dsimp only [go_sem]
  intro b1 h1 n1
  have n1_a := n1.at_
  have n1_z := n1.size
  replace p0 := p0.fresh (n1.fr (lo := 0) (hi := 0)) (by omega)
  have r1 := n1.row
  simp -dsimp only [go_sem, r1.cell]
  refine Chk_intro (r1.wr (by first | (simp; done) | (simp; omega))) fun h2 s2 => ?_
  have s2_z := s2.size
  replace p0 := p0.fresh s2.fr (by omega)
  replace r1 := s2.row r1
  try simp only [cl_int, cl_bool, cl_slice, cl_ptr, putAt_one, List.set_cons_zero, List.set_cons_succ, ivec_set, brow_upd] at r1
  try simp -dsimp only [go_sem] at r1
  simp -dsimp only [go_sem, r1.cell]
  exact p0
set_option maxHeartbeats 2000000 in
theorem c_law11_two {h : Heap} {ea fa xa ya : Option Addr} {ec fc xc yc : Nat} {E : List Ev} {rf : List (Int × Int)} {x y : List Int} {lo : Nat} (hlo : lo ≤ h.size) (he : Rd 5 h (.slice ea E.length ec) E.length (evsV E)) (hf : ∀ h', Fr 0 lo h h' → Rd 2 h' (.slice fa rf.length fc) rf.length (pairsV rf)) (hx : Rd 1 h (.slice xa x.length xc) x.length (intsV x)) (hy : Rd 1 h (.slice ya y.length yc) y.length (intsV y))
    (be : E.length ≤ 1000) (bf : rf.length ≤ 1000) (bx : x.length ≤ 1000) (by_ : y.length ≤ 1000) :
    Con Tryd.prog 43 #[.slice ea E.length ec, .slice fa rf.length fc, .slice xa x.length xc, .slice ya y.length yc] h fun v h' => Fr 0 0 h h' ∧ ∃ q, v = .agg (gcells q (twoG 11 E rf x y)).toArray ∧ ∀ h2, Fr 0 lo h' h2 → GrAt h2 q (twoG 11 E rf x y) := by
  refine con_law11_two ?_
  have p0 : Fr 0 0 h h := .refl _ _ _
  simp -dsimp only [go_sem]
  intro b8 h1 n1
  have n1_a := n1.at_
  have n1_z := n1.size
  replace p0 := p0.fresh (n1.fr (lo := 0) (hi := 0)) (by omega)
  have r8 := n1.row
  simp -dsimp only [go_sem, r8.cell]
  refine call_of (c_law11_ev (-1) 2 0 0 11) ?_
  rintro v2 h2 ⟨f2, rfl⟩
  have f2_z := f2.size
  replace p0 := p0.fresh f2 (by omega)
  replace r8 := r8.fr f2 (by omega)
  simp -dsimp only [go_sem, r8.cell]
  refine call_of (c_law11_ev (-1) 2 1 0 11) ?_
  rintro v3 h3 ⟨f3, rfl⟩
  have f3_z := f3.size
  replace p0 := p0.fresh f3 (by omega)
  replace r8 := r8.fr f3 (by omega)
  simp -dsimp only [go_sem, r8.cell]
  intro b14 h4 n4
  have n4_a := n4.at_
  have n4_z := n4.size
  replace p0 := p0.fresh (n4.fr (lo := 0) (hi := 0)) (by omega)
  replace r8 := r8.fr (n4.fr (lo := 0) (hi := 0)) (by omega)
  have r14 := n4.row
  replace r14 : Rw h4 b14 (evsV [⟨-1, 2, 0, 0, 11⟩, ⟨-1, 2, 1, 0, 11⟩]) := r14
  simp -dsimp only [go_sem, r8.cell, r14.cell]
  intro b9 h5 n5
  have n5_a := n5.at_
  have n5_z := n5.size
  replace p0 := p0.fresh (n5.fr (lo := 0) (hi := 0)) (by omega)
  replace r8 := r8.fr (n5.fr (lo := 0) (hi := 0)) (by omega)
  replace r14 := r14.fr (n5.fr (lo := 0) (hi := 0)) (by omega)
  have r9 := n5.row
  simp -dsimp only [go_sem, r8.cell, r14.cell, r9.cell]
  refine Chk_intro (r9.wr (by first | (simp; done) | (simp; omega))) fun h6 s6 => ?_
  have s6_z := s6.size
  replace p0 := p0.fresh s6.fr (by omega)
  replace r8 := r8.fr s6.fr (by omega)
  replace r14 := r14.fr s6.fr (by omega)
  replace r9 := s6.row r9
  try simp only [cl_int, cl_bool, cl_slice, cl_ptr, putAt_one, List.set_cons_zero, List.set_cons_succ, ivec_set, brow_upd] at r9
  try simp -dsimp only [go_sem] at r9
  have gb : b8 < b14 ∧ b14 < b9 ∧ b9 < h6.size ∧ h.size ≤ b8 := by omega
  simp -dsimp only [go_sem, r8.cell, r14.cell, r9.cell]
  refine (holder_row (s := 5) (n := 2) (lo := b14) r14 rfl (Nat.le_refl _)).appendRd (he.fr p0) (by omega) rfl (by omega) (oc_evs _) (by omega) fun v7 h7 o7 f7 e7 => ?_
  have lb : bl (.slice (some ⟨b14, 0, none⟩) 2 2) = b14 ∧ bh (.slice (some ⟨b14, 0, none⟩) 2 2) = b14 + 1 := ⟨rfl, rfl⟩
  rw [lb.1, lb.2] at f7
  clear r14
  have z7 := f7.size
  have f7_z := f7.size
  replace p0 := p0.fresh f7 (by omega)
  replace r8 := r8.fr f7 (by omega)
  replace r9 := r9.fr f7 (by omega)
  rw [← evsV_append] at o7
  obtain ⟨a7, c7, rfl⟩ := o7.is
  have a7_a := o7.at_
  have e7' := e7
  clear e7
  simp -dsimp only [go_sem, r8.cell, r9.cell]
  refine Chk_intro (r9.wr (by first | (simp; done) | (simp; omega))) fun h8 s8 => ?_
  have s8_z := s8.size
  replace p0 := p0.fresh s8.fr (by omega)
  replace r8 := r8.fr s8.fr (by omega)
  replace r9 := s8.row r9
  try simp only [cl_int, cl_bool, cl_slice, cl_ptr, putAt_one, List.set_cons_zero, List.set_cons_succ, ivec_set, brow_upd] at r9
  replace o7 := o7.fr s8.fr (by omega)
  simp -dsimp only [go_sem, r8.cell, r9.cell]
  intro b10 h9 n9
  have n9_a := n9.at_
  have n9_z := n9.size
  replace p0 := p0.fresh (n9.fr (lo := 0) (hi := 0)) (by omega)
  replace r8 := r8.fr (n9.fr (lo := 0) (hi := 0)) (by omega)
  replace r9 := r9.fr (n9.fr (lo := 0) (hi := 0)) (by omega)
  have r10 := n9.row
  replace r10 : Rw h9 b10 (intsV [0]) := r10
  replace o7 := o7.fr (n9.fr (lo := 0) (hi := 0)) (by omega)
  simp -dsimp only [go_sem, r8.cell, r9.cell, r10.cell]
  have p9 : Fr 0 0 h8 h9 := n9.fr
  refine (holder_row (s := 1) (n := 1) (lo := b10) r10 rfl (Nat.le_refl _)).appendRd (hx.fr p0) (by omega) rfl (by omega) (oc_ints _) (by omega) fun v10 h10 o10 f10 e10 => ?_
  have lb : bl (.slice (some ⟨b10, 0, none⟩) 1 1) = b10 ∧ bh (.slice (some ⟨b10, 0, none⟩) 1 1) = b10 + 1 := ⟨rfl, rfl⟩
  rw [lb.1, lb.2] at f10
  clear r10
  have z10 := f10.size
  have f10_z := f10.size
  replace p0 := p0.fresh f10 (by omega)
  replace r8 := r8.fr f10 (by omega)
  replace r9 := r9.fr f10 (by omega)
  have o7t := o7.top
  replace o7 := o7.fr f10 (by omega)
  rw [← intsV_append] at o10
  obtain ⟨a10, c10, rfl⟩ := o10.is
  have a10_a := o10.at_
  clear e10
  simp -dsimp only [go_sem, r8.cell, r9.cell]
  intro b11 h11 n11
  have n11_a := n11.at_
  have n11_z := n11.size
  replace p0 := p0.fresh (n11.fr (lo := 0) (hi := 0)) (by omega)
  replace r8 := r8.fr (n11.fr (lo := 0) (hi := 0)) (by omega)
  replace r9 := r9.fr (n11.fr (lo := 0) (hi := 0)) (by omega)
  have r11 := n11.row
  replace r11 : Rw h11 b11 (intsV [1]) := r11
  replace o7 := o7.fr (n11.fr (lo := 0) (hi := 0)) (by omega)
  have o10t := o10.top
  replace o10 := o10.fr (n11.fr (lo := 0) (hi := 0)) (by omega)
  simp -dsimp only [go_sem, r8.cell, r9.cell, r11.cell]
  refine (holder_row (s := 1) (n := 1) (lo := b11) r11 rfl (Nat.le_refl _)).appendRd (hy.fr p0) (by omega) rfl (by omega) (oc_ints _) (by omega) fun v12 h12 o12 f12 e12 => ?_
  have lb : bl (.slice (some ⟨b11, 0, none⟩) 1 1) = b11 ∧ bh (.slice (some ⟨b11, 0, none⟩) 1 1) = b11 + 1 := ⟨rfl, rfl⟩
  rw [lb.1, lb.2] at f12
  clear r11
  have z12 := f12.size
  have f12_z := f12.size
  replace p0 := p0.fresh f12 (by omega)
  replace r8 := r8.fr f12 (by omega)
  replace r9 := r9.fr f12 (by omega)
  have o7t := o7.top
  replace o7 := o7.fr f12 (by omega)
  replace o10 := o10.fr f12 (by omega)
  rw [← intsV_append] at o12
  obtain ⟨a12, c12, rfl⟩ := o12.is
  have a12_a := o12.at_
  clear e12
  simp -dsimp only [go_sem, r8.cell, r9.cell]
  intro b13 h13 n13
  have n13_a := n13.at_
  have n13_z := n13.size
  replace p0 := p0.fresh (n13.fr (lo := 0) (hi := 0)) (by omega)
  replace r8 := r8.fr (n13.fr (lo := 0) (hi := 0)) (by omega)
  replace r9 := r9.fr (n13.fr (lo := 0) (hi := 0)) (by omega)
  have r13 := n13.row
  try simp -dsimp only [go_sem] at r13
  replace o7 := o7.fr (n13.fr (lo := 0) (hi := 0)) (by omega)
  replace o10 := o10.fr (n13.fr (lo := 0) (hi := 0)) (by omega)
  replace o12 := o12.fr (n13.fr (lo := 0) (hi := 0)) (by omega)
  simp -dsimp only [go_sem, r8.cell, r9.cell, r13.cell]
  refine Chk_intro (r9.wr (by first | (simp; done) | (simp; omega))) fun h14 s14 => ?_
  have s14_z := s14.size
  replace p0 := p0.fresh s14.fr (by omega)
  replace r8 := r8.fr s14.fr (by omega)
  replace r13 := r13.fr s14.fr (by omega)
  replace r9 := s14.row r9
  try simp only [cl_int, cl_bool, cl_slice, cl_ptr, putAt_one, List.set_cons_zero, List.set_cons_succ, ivec_set, brow_upd] at r9
  try simp -dsimp only [go_sem] at r9
  have z14 := s14.size
  replace o7 := o7.fr s14.fr (by omega)
  replace o10 := o10.fr s14.fr (by omega)
  replace o12 := o12.fr s14.fr (by omega)
  simp -dsimp only [go_sem, r8.cell, r9.cell, r13.cell]
  refine Chk_intro (r8.wr (by first | (simp; done) | (simp; omega))) fun h15 s15 => ?_
  have s15_z := s15.size
  replace p0 := p0.fresh s15.fr (by omega)
  replace r9 := r9.fr s15.fr (by omega)
  replace r13 := r13.fr s15.fr (by omega)
  replace r8 := s15.row r8
  try simp only [cl_int, cl_bool, cl_slice, cl_ptr, putAt_one, List.set_cons_zero, List.set_cons_succ, ivec_set, brow_upd] at r8
  have z15 := s15.size
  replace o7 := o7.fr s15.fr (by omega)
  replace o10 := o10.fr s15.fr (by omega)
  replace o12 := o12.fr s15.fr (by omega)
  simp -dsimp only [go_sem, r8.cell, r9.cell, r13.cell]
  have hl : (twoG 11 E rf x y).evs.length = 2 + E.length := by simp [twoG]; omega
  have hx2 : (intsV ([0] ++ x)).length = 1 + x.length := by simp; omega
  have hy2 : (intsV ([1] ++ y)).length = 1 + y.length := by simp; omega
  refine ⟨p0, ⟨a7, fa, some ⟨b13, 0, none⟩, none, none, none, none, c7, fc, 2, 0, 0, 0, 0⟩, by unfold gcells; rw [hl]; rfl, fun h16 f16 => ?_⟩
  replace o7 := o7.fr f16 (by have := o7.at_; omega)
  replace o10 := o10.fr f16 (by have := o10.at_; omega)
  replace o12 := o12.fr f16 (by have := o12.at_; omega)
  replace r13 := r13.fr f16 (by omega)
  obtain ⟨u1, v1, k1, k1'⟩ := o10.room (by omega)
  cases k1
  obtain ⟨u2, v2, k2, k2'⟩ := o12.room (by omega)
  cases k2
  have hrl : RLc h16 (.slice (some ⟨b13, 0, none⟩) 2 2) [intsV ([0] ++ x), intsV ([1] ++ y)] := by
    refine ⟨_, Rw.rd (s := 1) r13 rfl, fun i l hi => ?_⟩
    match i, hi with
    | 0, hi =>
      cases hi
      exact ⟨_, _, by rw [hx2]; rfl, by rw [hx2]; exact k1', by rw [hx2]; exact o10.rd⟩
    | 1, hi =>
      cases hi
      exact ⟨_, _, by rw [hy2]; rfl, by rw [hy2]; exact k2', by rw [hy2]; exact o12.rd⟩
    | i + 2, hi => simp at hi
  refine ⟨by rw [hl]; exact o7.rd, hf _ ((p0.wide (Nat.zero_le _)).trans f16), rlc_rl hrl, nilP, nilP, nilP, nilP, ⟨by rw [hl]; omega, by show rf.length ≤ _; omega, by show 2 ≤ _; omega, by show 0 ≤ _; omega, by show 0 ≤ _; omega, by show 0 ≤ _; omega, by show 0 ≤ _; omega, fun l hl => ?_⟩, by show 2 ≤ 2; omega, hrl⟩
  have hl : l = [0] ++ x ∨ l = [1] ++ y := by simpa [twoG] using hl
  rcases hl with rfl | rfl <;> (simp; omega)
end Go.Proofs.Tst
/-
  law11: says, buffering, passing.
-/
namespace Go.Proofs.Tst
open Go Go.Vc
theorem armAx_len {g : Gr} : (armAx g).2.length ≤ g.n + 2 := by
  have h1 := cycS_len (n := g.n) (M := inM g)
  have h2 := cycS_len (n := g.n) (M := obM g)
  unfold armAx
  split
  · simp; omega
  split
  · simp; omega
  · split <;> simp
theorem c_law11_says {h : Heap} {q : GV} {g : Gr} (t : GrAt h q g) (ht : TabAt h) {bv : Value} {l : List Int} (hm : Rd 1 h bv l.length (intsV l)) (ax : Int) :
    Con Tryd.prog 45 #[.agg (gcells q g).toArray, .int .i64 ax, bv] h fun v h' => Fr 0 0 h h' ∧ v = .bool (decide ((g.check true).1 = 0 ∧ armAx g = (ax, l))) := by
  have p0 : Fr 0 0 h h := .refl _ _ _
  obtain ⟨ba, bc, rfl⟩ := hm.is
  by_cases hc : (g.check true).1 = 0
  rotate_left
  · have e : decide ((g.check true).1 = 0 ∧ armAx g = (ax, l)) = false := decide_eq_false fun h => hc h.1
    rw [e]
    refine con_law11_says ?_
    unfold gcells
    simp -dsimp only [go_sem]
    intro b1 h1 n1
    have n1_a := n1.at_
    have n1_z := n1.size
    replace p0 := p0.fresh (n1.fr (lo := 0) (hi := 0)) (by omega)
    have r1 := n1.row
    simp -dsimp only [go_sem, r1.cell]
    refine call_of (arm_Check (t.fr p0) (ht.fr p0 (.inr rfl))) ?_
    rintro v2 h2 ⟨f2, w⟩
    have f2_z := f2.size
    replace p0 := p0.fresh f2 (by omega)
    replace r1 := r1.fr f2 (by omega)
    rw [if_neg hc] at w
    subst w
    simp -dsimp only [go_sem, r1.cell]
    exact p0
  have hn := (good_n (good_true hc)).1
  have hal := armAx_len (g := g)
  refine con_law11_says ?_
  unfold gcells
  simp -dsimp only [go_sem]
  intro b1 h1 n1
  have n1_a := n1.at_
  have n1_z := n1.size
  replace p0 := p0.fresh (n1.fr (lo := 0) (hi := 0)) (by omega)
  have r1 := n1.row
  simp -dsimp only [go_sem, r1.cell]
  refine call_of (arm_Check (t.fr p0) (ht.fr p0 (.inr rfl))) ?_
  rintro v2 h2 ⟨f2, w⟩
  have f2_z := f2.size
  replace p0 := p0.fresh f2 (by omega)
  replace r1 := r1.fr f2 (by omega)
  rw [if_pos hc] at w
  obtain ⟨w, rfl, o⟩ := w
  obtain ⟨oa, oc, rfl⟩ := o.is
  by_cases ha : (armAx g).1 = ax
  rotate_left
  · have e : decide ((g.check true).1 = 0 ∧ armAx g = (ax, l)) = false := decide_eq_false fun h => ha (by rw [h.2])
    rw [e]
    simp -dsimp only [go_sem, beq_f ha, r1.cell]
    exact p0
  simp -dsimp only [go_sem, beq_t ha, r1.cell]
  refine call_of (c_law11_ints (l := (armAx g).2) (m := l) o.rd (hm.fr p0) (by omega)) ?_
  rintro v3 h2 ⟨rfl, rfl⟩
  have e : decide ((armAx g).2 = l) = decide ((g.check true).1 = 0 ∧ armAx g = (ax, l)) := by
    rw [Bool.eq_iff_iff, decide_eq_true_iff, decide_eq_true_iff]
    exact ⟨fun h => ⟨hc, Prod.ext ha h⟩, fun h => by rw [h.2]⟩
  rw [e]
  simp -dsimp only [go_sem, r1.cell]
  exact p0
def bufE (w r : Int) : List Ev := [⟨0, 2, 0, 1, w⟩, ⟨0, 1, 1, 0, r⟩, ⟨1, 2, 1, 1, w⟩, ⟨1, 1, 0, 0, r⟩]
def bufG (m w r : Int) : Gr := twoG m (bufE w r) [(1, 3), (0, 5)] [2] [4]
def pasE (m w r : Int) : List Ev := [⟨0, 2, 0, 1, m⟩, ⟨0, 2, 1, 1, w⟩, ⟨1, 1, 1, 1, r⟩, ⟨1, 1, 0, 0, m⟩]
def pasG (m w r : Int) : Gr := twoG m (pasE m w r) [(3, 4), (0, 5)] [2] [3]
theorem c_law11_buffering (w r : Int) {h : Heap} : Con Tryd.prog 47 #[.int .i64 w, .int .i64 r] h fun v h' => Fr 0 0 h h' ∧ ∃ q, v = .agg (gcells q (bufG 11 w r)).toArray ∧ GrAt h' q (bufG 11 w r) := by
  refine con_law11_buffering ?_
  have p0 : Fr 0 0 h h := .refl _ _ _
  simp -dsimp only [go_sem]
  intro b4 h1 n1
  have n1_a := n1.at_
  have n1_z := n1.size
  replace p0 := p0.fresh (n1.fr (lo := 0) (hi := 0)) (by omega)
  have r4 := n1.row
  simp -dsimp only [go_sem, r4.cell]
  refine call_of (c_law11_ev 0 2 0 1 w) ?_
  rintro v h2 ⟨f2, rfl⟩
  have f2_z := f2.size
  replace p0 := p0.fresh f2 (by omega)
  replace r4 := r4.fr f2 (by omega)
  simp -dsimp only [go_sem, r4.cell]
  refine call_of (c_law11_ev 0 1 1 0 r) ?_
  rintro v h3 ⟨f3, rfl⟩
  have f3_z := f3.size
  replace p0 := p0.fresh f3 (by omega)
  replace r4 := r4.fr f3 (by omega)
  simp -dsimp only [go_sem, r4.cell]
  refine call_of (c_law11_ev 1 2 1 1 w) ?_
  rintro v h4 ⟨f4, rfl⟩
  have f4_z := f4.size
  replace p0 := p0.fresh f4 (by omega)
  replace r4 := r4.fr f4 (by omega)
  simp -dsimp only [go_sem, r4.cell]
  refine call_of (c_law11_ev 1 1 0 0 r) ?_
  rintro v h5 ⟨f5, rfl⟩
  have f5_z := f5.size
  replace p0 := p0.fresh f5 (by omega)
  replace r4 := r4.fr f5 (by omega)
  simp -dsimp only [go_sem, r4.cell]
  intro b6 h6 n6
  have n6_a := n6.at_
  have n6_z := n6.size
  replace p0 := p0.fresh (n6.fr (lo := 0) (hi := 0)) (by omega)
  replace r4 := r4.fr (n6.fr (lo := 0) (hi := 0)) (by omega)
  have r6 := n6.row
  simp -dsimp only [go_sem, r4.cell, r6.cell]
  intro b7 h7 n7
  have n7_a := n7.at_
  have n7_z := n7.size
  replace p0 := p0.fresh (n7.fr (lo := 0) (hi := 0)) (by omega)
  replace r4 := r4.fr (n7.fr (lo := 0) (hi := 0)) (by omega)
  replace r6 := r6.fr (n7.fr (lo := 0) (hi := 0)) (by omega)
  have r7 := n7.row
  simp -dsimp only [go_sem, r4.cell, r6.cell, r7.cell]
  intro b8 h8 n8
  have n8_a := n8.at_
  have n8_z := n8.size
  replace p0 := p0.fresh (n8.fr (lo := 0) (hi := 0)) (by omega)
  replace r4 := r4.fr (n8.fr (lo := 0) (hi := 0)) (by omega)
  replace r6 := r6.fr (n8.fr (lo := 0) (hi := 0)) (by omega)
  replace r7 := r7.fr (n8.fr (lo := 0) (hi := 0)) (by omega)
  have r8 := n8.row
  simp -dsimp only [go_sem, r4.cell, r6.cell, r7.cell, r8.cell]
  intro b9 h9 n9
  have n9_a := n9.at_
  have n9_z := n9.size
  replace p0 := p0.fresh (n9.fr (lo := 0) (hi := 0)) (by omega)
  replace r4 := r4.fr (n9.fr (lo := 0) (hi := 0)) (by omega)
  replace r6 := r6.fr (n9.fr (lo := 0) (hi := 0)) (by omega)
  replace r7 := r7.fr (n9.fr (lo := 0) (hi := 0)) (by omega)
  replace r8 := r8.fr (n9.fr (lo := 0) (hi := 0)) (by omega)
  have r9 := n9.row
  simp -dsimp only [go_sem, r4.cell, r6.cell, r7.cell, r8.cell, r9.cell]
  refine call_of (c_law11_two (E := bufE w r) (rf := [(1, 3), (0, 5)]) (x := [2]) (y := [4]) (lo := b4 + 1) (by omega) (Rw.rd (s := 5) (n := 4) (c := 4) r6 rfl) (fun h' f => Rw.rd (s := 2) (n := 2) (c := 2) (r7.fr f (by omega)) rfl) (Rw.rd (s := 1) (n := 1) (c := 1) r8 rfl) (Rw.rd (s := 1) (n := 1) (c := 1) r9 rfl) (Nat.le_of_ble_eq_true rfl) (by simp) (by simp) (by simp)) ?_
  rintro v h10 ⟨f10, q, rfl, t⟩
  have f10_z := f10.size
  replace p0 := p0.fresh f10 (by omega)
  replace r4 := r4.fr f10 (by omega)
  replace r6 := r6.fr f10 (by omega)
  replace r7 := r7.fr f10 (by omega)
  replace r8 := r8.fr f10 (by omega)
  replace r9 := r9.fr f10 (by omega)
  unfold gcells
  simp -dsimp only [go_sem, r4.cell, r6.cell, r7.cell, r8.cell, r9.cell]
  refine Chk_intro (r4.wr (by first | (simp; done) | (simp; omega))) fun h11 s11 => ?_
  have s11_z := s11.size
  replace p0 := p0.fresh s11.fr (by omega)
  replace r6 := r6.fr s11.fr (by omega)
  replace r7 := r7.fr s11.fr (by omega)
  replace r8 := r8.fr s11.fr (by omega)
  replace r9 := r9.fr s11.fr (by omega)
  replace r4 := s11.row r4
  try simp only [cl_int, cl_bool, cl_slice, cl_ptr, putAt_one, List.set_cons_zero, List.set_cons_succ, ivec_set, brow_upd] at r4
  have t := t _ (s11.fr.wide (Nat.le_refl _))
  simp -dsimp only [go_sem, r4.cell, r6.cell, r7.cell, r8.cell, r9.cell]
  exact ⟨p0, q, rfl, t⟩
theorem c_law11_passing (w r : Int) {h : Heap} : Con Tryd.prog 42 #[.int .i64 w, .int .i64 r] h fun v h' => Fr 0 0 h h' ∧ ∃ q, v = .agg (gcells q (pasG 11 w r)).toArray ∧ GrAt h' q (pasG 11 w r) := by
  refine con_law11_passing ?_
  have p0 : Fr 0 0 h h := .refl _ _ _
  simp -dsimp only [go_sem]
  intro b4 h1 n1
  have n1_a := n1.at_
  have n1_z := n1.size
  replace p0 := p0.fresh (n1.fr (lo := 0) (hi := 0)) (by omega)
  have r4 := n1.row
  simp -dsimp only [go_sem, r4.cell]
  refine call_of (c_law11_ev 0 2 0 1 11) ?_
  rintro v h2 ⟨f2, rfl⟩
  have f2_z := f2.size
  replace p0 := p0.fresh f2 (by omega)
  replace r4 := r4.fr f2 (by omega)
  simp -dsimp only [go_sem, r4.cell]
  refine call_of (c_law11_ev 0 2 1 1 w) ?_
  rintro v h3 ⟨f3, rfl⟩
  have f3_z := f3.size
  replace p0 := p0.fresh f3 (by omega)
  replace r4 := r4.fr f3 (by omega)
  simp -dsimp only [go_sem, r4.cell]
  refine call_of (c_law11_ev 1 1 1 1 r) ?_
  rintro v h4 ⟨f4, rfl⟩
  have f4_z := f4.size
  replace p0 := p0.fresh f4 (by omega)
  replace r4 := r4.fr f4 (by omega)
  simp -dsimp only [go_sem, r4.cell]
  refine call_of (c_law11_ev 1 1 0 0 11) ?_
  rintro v h5 ⟨f5, rfl⟩
  have f5_z := f5.size
  replace p0 := p0.fresh f5 (by omega)
  replace r4 := r4.fr f5 (by omega)
  simp -dsimp only [go_sem, r4.cell]
  intro b6 h6 n6
  have n6_a := n6.at_
  have n6_z := n6.size
  replace p0 := p0.fresh (n6.fr (lo := 0) (hi := 0)) (by omega)
  replace r4 := r4.fr (n6.fr (lo := 0) (hi := 0)) (by omega)
  have r6 := n6.row
  simp -dsimp only [go_sem, r4.cell, r6.cell]
  intro b7 h7 n7
  have n7_a := n7.at_
  have n7_z := n7.size
  replace p0 := p0.fresh (n7.fr (lo := 0) (hi := 0)) (by omega)
  replace r4 := r4.fr (n7.fr (lo := 0) (hi := 0)) (by omega)
  replace r6 := r6.fr (n7.fr (lo := 0) (hi := 0)) (by omega)
  have r7 := n7.row
  simp -dsimp only [go_sem, r4.cell, r6.cell, r7.cell]
  intro b8 h8 n8
  have n8_a := n8.at_
  have n8_z := n8.size
  replace p0 := p0.fresh (n8.fr (lo := 0) (hi := 0)) (by omega)
  replace r4 := r4.fr (n8.fr (lo := 0) (hi := 0)) (by omega)
  replace r6 := r6.fr (n8.fr (lo := 0) (hi := 0)) (by omega)
  replace r7 := r7.fr (n8.fr (lo := 0) (hi := 0)) (by omega)
  have r8 := n8.row
  simp -dsimp only [go_sem, r4.cell, r6.cell, r7.cell, r8.cell]
  intro b9 h9 n9
  have n9_a := n9.at_
  have n9_z := n9.size
  replace p0 := p0.fresh (n9.fr (lo := 0) (hi := 0)) (by omega)
  replace r4 := r4.fr (n9.fr (lo := 0) (hi := 0)) (by omega)
  replace r6 := r6.fr (n9.fr (lo := 0) (hi := 0)) (by omega)
  replace r7 := r7.fr (n9.fr (lo := 0) (hi := 0)) (by omega)
  replace r8 := r8.fr (n9.fr (lo := 0) (hi := 0)) (by omega)
  have r9 := n9.row
  simp -dsimp only [go_sem, r4.cell, r6.cell, r7.cell, r8.cell, r9.cell]
  refine call_of (c_law11_two (E := pasE 11 w r) (rf := [(3, 4), (0, 5)]) (x := [2]) (y := [3]) (lo := b4 + 1) (by omega) (Rw.rd (s := 5) (n := 4) (c := 4) r6 rfl) (fun h' f => Rw.rd (s := 2) (n := 2) (c := 2) (r7.fr f (by omega)) rfl) (Rw.rd (s := 1) (n := 1) (c := 1) r8 rfl) (Rw.rd (s := 1) (n := 1) (c := 1) r9 rfl) (Nat.le_of_ble_eq_true rfl) (by simp) (by simp) (by simp)) ?_
  rintro v h10 ⟨f10, q, rfl, t⟩
  have f10_z := f10.size
  replace p0 := p0.fresh f10 (by omega)
  replace r4 := r4.fr f10 (by omega)
  replace r6 := r6.fr f10 (by omega)
  replace r7 := r7.fr f10 (by omega)
  replace r8 := r8.fr f10 (by omega)
  replace r9 := r9.fr f10 (by omega)
  unfold gcells
  simp -dsimp only [go_sem, r4.cell, r6.cell, r7.cell, r8.cell, r9.cell]
  refine Chk_intro (r4.wr (by first | (simp; done) | (simp; omega))) fun h11 s11 => ?_
  have s11_z := s11.size
  replace p0 := p0.fresh s11.fr (by omega)
  replace r6 := r6.fr s11.fr (by omega)
  replace r7 := r7.fr s11.fr (by omega)
  replace r8 := r8.fr s11.fr (by omega)
  replace r9 := r9.fr s11.fr (by omega)
  replace r4 := s11.row r4
  try simp only [cl_int, cl_bool, cl_slice, cl_ptr, putAt_one, List.set_cons_zero, List.set_cons_succ, ivec_set, brow_upd] at r4
  have t := t _ (s11.fr.wide (Nat.le_refl _))
  simp -dsimp only [go_sem, r4.cell, r6.cell, r7.cell, r8.cell, r9.cell]
  exact ⟨p0, q, rfl, t⟩
end Go.Proofs.Tst
/-
  law11: lives.
-/
namespace Go.Proofs.Tst
open Go Go.Vc
theorem kb1 : decide (((bufG 11 11 11).check true).1 = 0 ∧ armAx (bufG 11 11 11) = (0, [])) = true := by decide +kernel
theorem kb2 : decide (((bufG 11 13 12).check true).1 = 0 ∧ armAx (bufG 11 13 12) = (2, [2, 3, 4, 5])) = true := by decide +kernel
theorem kp1 : decide (((pasG 11 11 11).check true).1 = 0 ∧ armAx (pasG 11 11 11) = (0, [])) = true := by decide +kernel
theorem kp2 : decide (((pasG 11 13 12).check true).1 = 0 ∧ armAx (pasG 11 13 12) = (2, [2, 3, 4, 5])) = true := by decide +kernel
theorem kp3 : ((pasG 11 13 12).check true).1 = 0 := by decide +kernel
theorem kp4 : pairsOf (pasG 11 13 12).n (obsM (pasG 11 13 12)) = [(0, 2), (0, 5), (1, 3), (3, 4), (5, 2)] := by decide +kernel
theorem nilI {h : Heap} : Rd 1 h (.slice none 0 0) ([] : List Int).length (intsV []) := ⟨rfl, _, _, rfl, .inl rfl⟩
set_option maxHeartbeats 2000000 in
theorem law11_lives {h : Heap} (ht : TabAt h) : Con Tryd.prog 41 #[] h fun v h' => Fr 0 0 h h' ∧ v = .bool true := by
  refine con_law11_lives ?_
  have p0 : Fr 0 0 h h := .refl _ _ _
  simp -dsimp only [go_sem]
  refine call_of (c_law11_passing 13 12) ?_
  rintro v1 h1 ⟨f1, q1, rfl, t1⟩
  have f1_z := f1.size
  replace p0 := p0.fresh f1 (by omega)
  simp -dsimp only [go_sem]
  refine call_of (arm_Derive t1 (ht.fr p0 (.inr rfl))) ?_
  rintro v2 h2 ⟨f2, w⟩
  have f2_z := f2.size
  replace p0 := p0.fresh f2 (by omega)
  rw [if_pos kp3] at w
  obtain ⟨x, A, B, rfl, D, dlo⟩ := w
  have g0 := D.at_ 0 (by decide)
  have ab := dlo 0 (by decide)
  obtain ⟨c0, e0⟩ := progPtr (D.at_ 0 (by decide))
  obtain ⟨c1, e1⟩ := progPtr (D.at_ 1 (by decide))
  obtain ⟨c2, e2⟩ := progPtr (D.at_ 2 (by decide))
  obtain ⟨c3, e3⟩ := progPtr (D.at_ 3 (by decide))
  obtain ⟨c4, e4⟩ := progPtr (D.at_ 4 (by decide))
  rw [e0, e1, e2, e3, e4]
  rw [e0] at g0
  have p2 : Fr 0 0 h2 h2 := .refl _ _ _
  simp -dsimp only [go_sem]
  intro b3 h3 n3
  have n3_a := n3.at_
  have n3_z := n3.size
  replace p0 := p0.fresh (n3.fr (lo := 0) (hi := 0)) (by omega)
  replace p2 := p2.fresh (n3.fr (lo := 0) (hi := 0)) (by omega)
  have r3 := n3.row
  simp -dsimp only [go_sem, r3.cell]
  refine Chk_intro (r3.wr (by first | (simp; done) | (simp; omega))) fun h4 s4 => ?_
  have s4_z := s4.size
  replace p0 := p0.fresh s4.fr (by omega)
  replace p2 := p2.fresh s4.fr (by omega)
  replace r3 := s4.row r3
  try simp only [cl_int, cl_bool, cl_slice, cl_ptr, putAt_one, List.set_cons_zero, List.set_cons_succ, ivec_set, brow_upd] at r3
  try simp -dsimp only [go_sem] at r3
  simp -dsimp only [go_sem, r3.cell]
  refine call_of (c_law11_buffering 11 11) ?_
  rintro v5 h5 ⟨f5, q5, rfl, t5⟩
  have f5_z := f5.size
  replace p0 := p0.fresh f5 (by omega)
  replace p2 := p2.fresh f5 (by omega)
  replace r3 := r3.fr f5 (by omega)
  simp -dsimp only [go_sem, r3.cell]
  refine call_of (c_law11_says t5 (ht.fr p0 (.inr rfl)) nilI 0) ?_
  rintro v6 h6 ⟨f6, rfl⟩
  have f6_z := f6.size
  replace p0 := p0.fresh f6 (by omega)
  replace p2 := p2.fresh f6 (by omega)
  replace r3 := r3.fr f6 (by omega)
  rw [kb1]
  simp -dsimp only [go_sem, r3.cell]
  refine call_of (c_law11_buffering 13 12) ?_
  rintro v7 h7 ⟨f7, q7, rfl, t7⟩
  have f7_z := f7.size
  replace p0 := p0.fresh f7 (by omega)
  replace p2 := p2.fresh f7 (by omega)
  replace r3 := r3.fr f7 (by omega)
  simp -dsimp only [go_sem, r3.cell]
  intro b8 h8 n8
  have n8_a := n8.at_
  have n8_z := n8.size
  replace p0 := p0.fresh (n8.fr (lo := 0) (hi := 0)) (by omega)
  replace p2 := p2.fresh (n8.fr (lo := 0) (hi := 0)) (by omega)
  replace r3 := r3.fr (n8.fr (lo := 0) (hi := 0)) (by omega)
  have r8 := n8.row
  have t8 := t7.fr n8.fr
  simp -dsimp only [go_sem, r3.cell, r8.cell]
  refine call_of (c_law11_says t8 (ht.fr p0 (.inr rfl)) (l := [2, 3, 4, 5]) (Rw.rd (s := 1) (n := 4) (c := 4) r8 rfl) 2) ?_
  rintro v9 h9 ⟨f9, rfl⟩
  have f9_z := f9.size
  replace p0 := p0.fresh f9 (by omega)
  replace p2 := p2.fresh f9 (by omega)
  replace r3 := r3.fr f9 (by omega)
  replace r8 := r8.fr f9 (by omega)
  rw [kb2]
  simp -dsimp only [go_sem, r3.cell, r8.cell]
  refine call_of (c_law11_passing 11 11) ?_
  rintro v10 h10 ⟨f10, q10, rfl, t10⟩
  have f10_z := f10.size
  replace p0 := p0.fresh f10 (by omega)
  replace p2 := p2.fresh f10 (by omega)
  replace r3 := r3.fr f10 (by omega)
  replace r8 := r8.fr f10 (by omega)
  simp -dsimp only [go_sem, r3.cell, r8.cell]
  refine call_of (c_law11_says t10 (ht.fr p0 (.inr rfl)) nilI 0) ?_
  rintro v11 h11 ⟨f11, rfl⟩
  have f11_z := f11.size
  replace p0 := p0.fresh f11 (by omega)
  replace p2 := p2.fresh f11 (by omega)
  replace r3 := r3.fr f11 (by omega)
  replace r8 := r8.fr f11 (by omega)
  rw [kp1]
  simp -dsimp only [go_sem, r3.cell, r8.cell]
  refine call_of (c_law11_passing 13 12) ?_
  rintro v12 h12 ⟨f12, q12, rfl, t12⟩
  have f12_z := f12.size
  replace p0 := p0.fresh f12 (by omega)
  replace p2 := p2.fresh f12 (by omega)
  replace r3 := r3.fr f12 (by omega)
  replace r8 := r8.fr f12 (by omega)
  simp -dsimp only [go_sem, r3.cell, r8.cell]
  intro b13 h13 n13
  have n13_a := n13.at_
  have n13_z := n13.size
  replace p0 := p0.fresh (n13.fr (lo := 0) (hi := 0)) (by omega)
  replace p2 := p2.fresh (n13.fr (lo := 0) (hi := 0)) (by omega)
  replace r3 := r3.fr (n13.fr (lo := 0) (hi := 0)) (by omega)
  replace r8 := r8.fr (n13.fr (lo := 0) (hi := 0)) (by omega)
  have r13 := n13.row
  have t13 := t12.fr n13.fr
  simp -dsimp only [go_sem, r3.cell, r8.cell, r13.cell]
  refine call_of (c_law11_says t13 (ht.fr p0 (.inr rfl)) (l := [2, 3, 4, 5]) (Rw.rd (s := 1) (n := 4) (c := 4) r13 rfl) 2) ?_
  rintro v14 h14 ⟨f14, rfl⟩
  have f14_z := f14.size
  replace p0 := p0.fresh f14 (by omega)
  replace p2 := p2.fresh f14 (by omega)
  replace r3 := r3.fr f14 (by omega)
  replace r8 := r8.fr f14 (by omega)
  replace r13 := r13.fr f14 (by omega)
  rw [kp2]
  simp -dsimp only [go_sem, r3.cell, r8.cell, r13.cell]
  refine call_of (rel_Pairs (g0.fr p2 (by omega)) (ht.fr p0 (.inr rfl))) ?_
  rintro v15 h15 ⟨f15, o15⟩
  have f15_z := f15.size
  replace p0 := p0.fresh f15 (by omega)
  replace p2 := p2.fresh f15 (by omega)
  replace r3 := r3.fr f15 (by omega)
  replace r8 := r8.fr f15 (by omega)
  replace r13 := r13.fr f15 (by omega)
  replace o15 : Holder 2 h15 v15 (pairsOf (pasG 11 13 12).n (obsM (pasG 11 13 12))).length (pairsV (pairsOf (pasG 11 13 12).n (obsM (pasG 11 13 12)))) h14.size := o15
  rw [kp4] at o15
  simp -dsimp only [go_sem, r3.cell, r8.cell, r13.cell]
  intro b16 h16 n16
  have n16_a := n16.at_
  have n16_z := n16.size
  replace p0 := p0.fresh (n16.fr (lo := 0) (hi := 0)) (by omega)
  replace p2 := p2.fresh (n16.fr (lo := 0) (hi := 0)) (by omega)
  replace r3 := r3.fr (n16.fr (lo := 0) (hi := 0)) (by omega)
  replace r8 := r8.fr (n16.fr (lo := 0) (hi := 0)) (by omega)
  replace r13 := r13.fr (n16.fr (lo := 0) (hi := 0)) (by omega)
  have r16 := n16.row
  have o16 := o15.rd.fr n16.fr
  simp -dsimp only [go_sem, r3.cell, r8.cell, r13.cell, r16.cell]
  refine call_of (c_law11_pairs (l := [(0, 2), (0, 5), (1, 3), (3, 4), (5, 2)]) (m := [(0, 2), (0, 5), (1, 3), (3, 4), (5, 2)]) o16 (Rw.rd (s := 2) (n := 5) (c := 5) r16 rfl) (by decide)) ?_
  rintro v17 h16 ⟨rfl, rfl⟩
  simp -dsimp only [go_sem, dec_self, r3.cell, r8.cell, r13.cell, r16.cell]
  exact p0
end Go.Proofs.Tst
/-
  ArmWeaker.
-/
namespace Go.Proofs.Tst
open Go Go.Vc
theorem holder_mode {h : Heap} {b n c lo : Nat} {E : List Ev} (w : Holder 5 h (.slice (some ⟨b, 0, none⟩) n c) n (evsV E) lo) {i : Nat} (hi : i < n) : hcell h b (i * 5 + 4) = some (.int .i64 (E.getD i default).mode) := by
  have hl := w.1
  rw [length_evsV] at hl
  have hE : i < E.length := by omega
  obtain ⟨b', c', rest, h1, h2, h3, h4⟩ := w.blk (by omega)
  cases h1
  have he : E[i]? = some (E.getD i default) := by simp [hE]
  rw [h2.cell, List.getElem?_append_left (by simp; omega), evsV_get he 4 (by omega)]
  rfl
theorem GrOwn.modes {h : Heap} {q : GV} {g : Gr} {lo : Nat} (w : GrOwn h q g lo) (hn : 0 < g.n) : ∃ b, q.e = some ⟨b, 0, none⟩ ∧ ∀ i, i < g.n → hcell h b (i * 5 + 4) = some (.int .i64 (g.ev i).mode) := by
  obtain ⟨b, hb, -⟩ := w.ev hn
  have we := w.e
  rw [hb] at we
  exact ⟨b, hb, fun i hi => holder_mode we hi⟩
/-- Those events that have been gone through may have weaker modes. -/
structure WkTo (g : Gr) (E : List Ev) (i : Nat) : Prop where
  len : E.length = g.evs.length
  same : ∀ j, i ≤ j → E.getD j default = g.ev j
  thr : ∀ j, (E.getD j default).thread = (g.ev j).thread
  kind : ∀ j, (E.getD j default).kind = (g.ev j).kind
  loc : ∀ j, (E.getD j default).loc = (g.ev j).loc
  val : ∀ j, (E.getD j default).val = (g.ev j).val
  mode : ∀ j, weakM (g.ev j).mode (E.getD j default).mode
theorem WkTo.keep {g : Gr} {E : List Ev} {i : Nat} (w : WkTo g E i) : WkTo g E (i + 1) := ⟨w.len, fun j hj => w.same j (by omega), w.thr, w.kind, w.loc, w.val, w.mode⟩
theorem setMode_get {E : List Ev} {i j : Nat} {m : Int} (hi : i < E.length) : (setMode E i m).getD j default = if j = i then { E.getD i default with mode := m } else E.getD j default := by
  unfold setMode
  rw [List.getD_eq_getElem?_getD, List.getElem?_set]
  by_cases h : i = j
  · subst h; rw [if_pos rfl, if_pos hi, if_pos rfl]; rfl
  · rw [if_neg h, if_neg (Ne.symm h), List.getD_eq_getElem?_getD]
theorem WkTo.set {g : Gr} {E : List Ev} {i : Nat} {m : Int} (w : WkTo g E i) (hi : i < g.evs.length) (hm : weakM (g.ev i).mode m) : WkTo g (setMode E i m) (i + 1) := by
  have hE : i < E.length := by rw [w.len]; exact hi
  refine ⟨by simp [w.len], fun j hj => ?_, fun j => ?_, fun j => ?_, fun j => ?_, fun j => ?_, fun j => ?_⟩ <;> rw [setMode_get hE]
  · rw [if_neg (by omega)]; exact w.same j (by omega)
  all_goals
    by_cases h : j = i
    · subst h
      rw [if_pos rfl]
      first | exact w.thr j | exact w.kind j | exact w.loc j | exact w.val j | exact hm
    · rw [if_neg h]
      first | exact w.thr j | exact w.kind j | exact w.loc j | exact w.val j | exact w.mode j
end Go.Proofs.Tst
/-
  ArmWeaker.
-/
namespace Go.Proofs.Tst
open Go Go.Vc
section
variable {h h' : Heap} {q : GV} {g : Gr} {lo be i B : Nat} {E : List Ev} {m : Int}
/-- Where the events of a copy lie (none: above all). -/
structure EvAt (h : Heap) (q : GV) (g : Gr) (lo B : Nat) : Prop where
  own : GrOwn h q g lo
  some : 0 < g.n → q.e = .some ⟨B, 0, none⟩ ∧ lo ≤ B ∧ B < h.size
  none : g.n = 0 → B = h.size
theorem EvAt.of (w : GrOwn h q g lo) : ∃ B, EvAt h q g lo B := by
  by_cases hn : 0 < g.n
  · obtain ⟨b, k1, k2, k3, -⟩ := w.ev hn
    exact ⟨b, w, fun _ => ⟨k1, k2, k3⟩, fun h => by omega⟩
  · exact ⟨h.size, w, fun h => absurd h hn, fun _ => rfl⟩
theorem EvAt.to (w : EvAt h q g lo B) (f : Fr B (B + 1) h h') (hl : E.length = g.n) (he : Holder 5 h' (.slice q.e g.evs.length q.ec) g.evs.length (evsV E) lo) : GrOwn h' q { g with evs := E } lo := by
  by_cases hn : 0 < g.n
  · obtain ⟨k1, k2, k3⟩ := w.some hn
    rw [k1] at he
    exact w.own.evs' f k1 hl he
  · have h0 : g.evs = [] := List.length_eq_zero_iff.1 (by unfold Gr.n at hn; omega)
    have h1 : E = g.evs := by rw [h0]; exact List.length_eq_zero_iff.1 (by omega)
    rw [h1]
    exact w.own.fr f (.inr (.inl (by have := w.none (by omega); omega)))
end
end Go.Proofs.Tst
/-
  ArmLaws.
-/
namespace Go.Proofs.Tst
open Go Go.Vc
end Go.Proofs.Tst
