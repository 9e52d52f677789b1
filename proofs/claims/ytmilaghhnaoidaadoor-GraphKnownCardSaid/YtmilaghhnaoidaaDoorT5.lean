/-
  Contracts of functions that the law reaches: what each returns and what it leaves in memory. Conditions stand in each.
-/
import Derived.Test.YtmilaghhnaoidaaDoorT4
set_option linter.all false
set_option maxRecDepth 2000
/-
  Final; the document's With, Thread, Final and Kinds.
-/
namespace Go.Proofs.Tst
open Go Go.Vc
def urow (n : Nat) (f : Nat → Int) : List Value := (List.range n).map fun i => .int .u64 (f i)
@[simp] theorem length_urow (n : Nat) (f : Nat → Int) : (urow n f).length = n := by simp [urow]
theorem urow_set {n : Nat} {f : Nat → Int} {i : Nat} {x : Int} : (urow n f).set i (.int .u64 x) = urow n fun j => if j = i then x else f j := by
  apply List.ext_getElem?
  intro j
  rw [List.getElem?_set]
  by_cases hj : j < n
  · by_cases hij : i = j
    · subst hij; simp [urow, hj]
    · simp [urow, hj, hij, Ne.symm hij]
  · by_cases hij : i = j
    · subst hij; simp [urow, hj]
    · simp [urow, hj, hij]
theorem urow_zero (n : Nat) : List.replicate n (Value.int .u64 0) = urow n fun _ => 0 := by
  apply List.ext_getElem?; intro k; by_cases hk : k < n <;> simp [urow, hk]
/-- Where a list of a graph lies. -/
theorem list_at {h : Heap} {la : Option Addr} {lc : Nat} {l : List Int} (hp : 0 < l.length) (hl : ∀ h', Fr 0 0 h h' → Rd 1 h' (.slice la l.length lc) l.length (intsV l)) : ∃ b o, la = some ⟨b, o, none⟩ ∧ ∀ h', Fr 0 0 h h' → ∀ (i : Nat) (x : Int), l[i]? = some x → hcell h' b (o + i) = some (.int .i64 x) := by
  obtain ⟨hl1, a, c', k1, k2⟩ := hl h (.refl _ _ _)
  cases k1
  rcases k2 with k2 | ⟨b, o, k3, k4⟩
  · omega
  · refine ⟨b, o, k3, fun h' f i x hx => ?_⟩
    obtain ⟨-, a', c'', m1, m2⟩ := hl h' f
    cases m1
    rw [k3] at m2
    rcases m2 with m2 | ⟨b', o', m3, m4⟩
    · omega
    · cases m3; exact m4 i _ (intsV_get hx)
theorem getD_get {l : List (List Int)} {c : Nat} (h : c < l.length) : l[c]? = some (l.getD c []) := by simp [h]
theorem graph_Final {h : Heap} {q : GV} {g : Gr} (t : GrAt h q g) :
    Con Tryd.prog 28 #[.agg (gcells q g).toArray] h fun v h' => Fr 0 0 h h' ∧ if g.good = true then ∃ w, v = .tuple #[w, .int .i64 0] ∧ Holder 1 h' w (finals g).length (wordsV (finals g)) h.size else v = .tuple #[.slice none 0 0, .int .i64 4] := by
  refine con_graph_Final ?_
  have p0 : Fr 0 0 h h := .refl _ _ _
  have be := t.fits.e
  have bo := t.fits.o
  have hen : g.evs.length = g.n := rfl
  have hrl := rl_at t.o
  unfold gcells
  simp -dsimp only [go_sem]
  intro b1 h1 n1
  have n1_a := n1.at_
  have n1_z := n1.size
  replace p0 := p0.fresh (n1.fr (lo := 0) (hi := 0)) (by omega)
  have r1 := n1.row
  simp -dsimp only [go_sem, r1.cell]
  refine call_of (graph_good (t.fr p0)) ?_
  rintro v2 h2 ⟨f2, rfl⟩
  have f2_z := f2.size
  replace p0 := p0.fresh f2 (by omega)
  replace r1 := r1.fr f2 (by omega)
  cases hg : g.good
  · simp -dsimp only [go_sem, r1.cell]
    exact p0
  obtain ⟨hcl, -⟩ := good_co hg
  have hsz := (good_n hg).2
  simp only [Gr.size, Bool.and_eq_true, decide_eq_true_eq] at hsz
  simp -dsimp only [go_sem, r1.cell]
  refine Chk_intro (by omega) ?_
  rw [zeros_one, ← hcl, Int.toNat_natCast, urow_zero]
  intro b4 h4 n4
  have n4_a := n4.at_
  have n4_z := n4.size
  replace p0 := p0.fresh (n4.fr (lo := 0) (hi := 0)) (by omega)
  replace r1 := r1.fr (n4.fr (lo := 0) (hi := 0)) (by omega)
  have r4 := n4.row
  simp -dsimp only [go_sem, r1.cell, r4.cell]
  refine loop_intro (fun c : Nat => [(1, .pointer (some ⟨b1, 0, none⟩)), (4, .slice (some ⟨b4, 0, none⟩) g.co.length g.co.length), (14, .slice q.o g.co.length q.oc), (15, .int .i64 g.co.length), (16, .int .i64 c)])
    (fun c h' => c ≤ g.co.length ∧ Fr 0 0 h h' ∧ Rw h' b1 (gcells q g) ∧ Rw h' b4 (urow g.co.length fun j => if j < c then finalOf g (g.co.getD j []) else 0)) (fun c => g.co.length - c) 0 ?_ ?_ ?_
  · simp [Le, find]
  · exact ⟨by omega, p0, r1, by simp only [Nat.not_lt_zero, if_false]; exact r4⟩
  clear r1 r4 p0
  rintro c h5 ⟨hc, p0, r1, r4⟩
  unfold gcells at r1
  have p0_z := p0.size
  have r1_l := r1.lt
  have r4_l := r4.lt
  have gb : b1 ≠ b4 ∧ h.size ≤ b4 := by omega
  by_cases hlt : c < g.co.length
  · have e1 : ((c : Int) < (g.co.length : Int)) := by omega
    obtain ⟨ob, oo, hoe, la, lc, hlist⟩ := hrl c hlt
    have hll := t.fits.l _ (List.mem_of_getElem? (getD_get hlt))
    obtain ⟨w, hp, hx, hwn, hfin⟩ := good_last hg hlt
    have hfc : (fun j => if j < c + 1 then finalOf g (g.co.getD j []) else 0) = fun j => if j = c then (g.ev w).val else if j < c then finalOf g (g.co.getD j []) else 0 := by
      funext j
      by_cases hj : j = c
      · subst hj; rw [if_pos (by omega), if_pos rfl, hfin]
      · rw [if_neg hj]
        by_cases hj2 : j < c
        · rw [if_pos (by omega), if_pos hj2]
        · rw [if_neg (by omega), if_neg hj2]
    generalize g.co.getD c [] = l at hlist hp hx hfin hll
    obtain ⟨lb, lo, hle, hlc⟩ := list_at hp fun h' f => (hlist h' f).2
    obtain ⟨l1, -⟩ := hlist h5 p0
    have cw := hlc h5 p0 _ _ hx
    obtain ⟨eb, eo, he, hev⟩ := t.evs (by omega)
    obtain ⟨c0, c1, c2, c3, c4⟩ := hev h5 p0 w hwn
    have hw : IntKind.i64.wrap ((l.length : Int) - 1) = ((l.length - 1 : Nat) : Int) := by rw [wrap64 (by omega) (by omega)]; omega
    have e2 : ((l.length - 1 : Nat) : Int) < (l.length : Int) := by omega
    have e3 : (w : Int) < (g.n : Int) := by omega
    simp -dsimp only [go_sem, e1, hoe, l1, hle, he, evs_len, hw, e2, e3, r1.cell, r4.cell]
    simp -dsimp only [go_sem, e1, hoe, l1, hle, he, evs_len, hw, e2, e3, cw, r1.cell, r4.cell]
    simp -dsimp only [go_sem, e1, hoe, l1, hle, he, evs_len, hw, e2, e3, cw, c3, r1.cell, r4.cell]
    refine Chk_intro (r4.wr (by first | (simp; done) | (simp; omega))) fun h6 s6 => ?_
    have s6_z := s6.size
    replace p0 := p0.fresh s6.fr (by omega)
    replace r1 := r1.fr s6.fr (by omega)
    replace r4 := s6.row r4
    try simp only [cl_int, cl_bool, cl_slice, cl_ptr, putAt_one, List.set_cons_zero, List.set_cons_succ, ivec_set, brow_upd] at r4
    rw [urow_set] at r4
    simp -dsimp only [go_sem, r1.cell, r4.cell]
    simp -dsimp (disch := omega) only [wrap64]
    exact ⟨c + 1, by omega, by simp [Le, find, hoe], by omega, p0, r1, by rw [hfc]; exact r4⟩
  · obtain rfl : c = g.co.length := by omega
    simp -dsimp only [go_sem, Int.lt_irrefl, r1.cell, r4.cell]
    refine ⟨p0, ?_⟩
    have : wordsV (finals g) = urow g.co.length fun j => if j < g.co.length then finalOf g (g.co.getD j []) else 0 := by
      apply List.ext_getElem?
      intro j
      by_cases hj : j < g.co.length
      · simp [wordsV, finals, urow, hj]
      · simp [wordsV, finals, urow, hj]
    rw [this]
    have hl : (finals g).length = g.co.length := by simp [finals]
    rw [hl]
    exact ⟨_, rfl, holder_row (s := 1) (n := g.co.length) r4 (by simp) gb.2⟩
end Go.Proofs.Tst
/-
  lives: the document's example, its verdicts, its relations.
-/
namespace Go.Proofs.Tst
open Go Go.Vc
def exG : Gr := ⟨1, [⟨-1, 2, 0, 0, 1⟩, ⟨0, 2, 0, 7, 1⟩, ⟨1, 1, 0, 7, 2⟩, ⟨1, 3, -1, 0, 5⟩], [(1, 2)], [[0, 1]], [], [], [], []⟩
theorem law8_example {h : Heap} (hz : 0 < h.size) :
    Con Tryd.prog 36 #[] h fun v h' => Fr 0 0 h h' ∧ ∃ q, v = .agg (gcells q exG).toArray ∧ GrOwn h' q exG h.size := by
  refine con_law8_example ?_
  have p0 : Fr 0 0 h h := .refl _ _ _
  simp -dsimp only [go_sem]
  intro b0 h1 n1
  have n1_a := n1.at_
  have n1_z := n1.size
  replace p0 := p0.fresh (n1.fr (lo := 0) (hi := 0)) (by omega)
  have r0 := n1.row
  simp -dsimp only [go_sem, r0.cell]
  intro b1 h2 n2
  have n2_a := n2.at_
  have n2_z := n2.size
  replace p0 := p0.fresh (n2.fr (lo := 0) (hi := 0)) (by omega)
  replace r0 := r0.fr (n2.fr (lo := 0) (hi := 0)) (by omega)
  have r1 := n2.row
  simp -dsimp only [go_sem, r0.cell, r1.cell]
  intro b2 h3 n3
  have n3_a := n3.at_
  have n3_z := n3.size
  replace p0 := p0.fresh (n3.fr (lo := 0) (hi := 0)) (by omega)
  replace r0 := r0.fr (n3.fr (lo := 0) (hi := 0)) (by omega)
  replace r1 := r1.fr (n3.fr (lo := 0) (hi := 0)) (by omega)
  have r2 := n3.row
  simp -dsimp only [go_sem, r0.cell, r1.cell, r2.cell]
  intro b3 h4 n4
  have n4_a := n4.at_
  have n4_z := n4.size
  replace p0 := p0.fresh (n4.fr (lo := 0) (hi := 0)) (by omega)
  replace r0 := r0.fr (n4.fr (lo := 0) (hi := 0)) (by omega)
  replace r1 := r1.fr (n4.fr (lo := 0) (hi := 0)) (by omega)
  replace r2 := r2.fr (n4.fr (lo := 0) (hi := 0)) (by omega)
  have r3 := n4.row
  simp -dsimp only [go_sem, r0.cell, r1.cell, r2.cell, r3.cell]
  intro b4 h5 n5
  have n5_a := n5.at_
  have n5_z := n5.size
  replace p0 := p0.fresh (n5.fr (lo := 0) (hi := 0)) (by omega)
  replace r0 := r0.fr (n5.fr (lo := 0) (hi := 0)) (by omega)
  replace r1 := r1.fr (n5.fr (lo := 0) (hi := 0)) (by omega)
  replace r2 := r2.fr (n5.fr (lo := 0) (hi := 0)) (by omega)
  replace r3 := r3.fr (n5.fr (lo := 0) (hi := 0)) (by omega)
  have r4 := n5.row
  simp -dsimp only [go_sem, r0.cell, r1.cell, r2.cell, r3.cell, r4.cell]
  refine Chk_intro (r0.wr (by first | (simp; done) | (simp; omega))) fun h6 s6 => ?_
  have s6_z := s6.size
  replace p0 := p0.fresh s6.fr (by omega)
  replace r1 := r1.fr s6.fr (by omega)
  replace r2 := r2.fr s6.fr (by omega)
  replace r3 := r3.fr s6.fr (by omega)
  replace r4 := r4.fr s6.fr (by omega)
  replace r0 := s6.row r0
  try simp only [cl_int, cl_bool, cl_slice, cl_ptr, putAt_one, List.set_cons_zero, List.set_cons_succ, ivec_set, brow_upd] at r0
  simp -dsimp only [go_sem] at r0
  simp -dsimp only [go_sem, r0.cell, r1.cell, r2.cell, r3.cell, r4.cell]
  refine ⟨p0, ⟨some ⟨b1, 0, none⟩, some ⟨b2, 0, none⟩, some ⟨b4, 0, none⟩, none, none, none, none, 4, 1, 1, 0, 0, 0, 0⟩, rfl, ?_⟩
  have hs : bl (.slice (some ⟨b1, 0, none⟩) 4 4) = b1 ∧ bh (.slice (some ⟨b1, 0, none⟩) 4 4) = b1 + 1 := ⟨rfl, rfl⟩
  refine ⟨holder_row (s := 5) (n := 4) r1 rfl (by omega), holder_row (s := 2) (n := 1) r2 rfl (by omega), ⟨[.slice (some ⟨b3, 0, none⟩) 2 2], ⟨holder_row (s := 1) (n := 1) r4 rfl (by omega), fun i w l hw hl => ?_, fun w hw => ?_⟩, by simp, fun w hw x hx => ?_⟩, .none _ _ _, .none _ _ _, .none _ _ _, .none _ _ _, fun x hx => ?_, ⟨by decide, by decide, by decide, by decide, by decide, by decide, by decide, by decide⟩⟩
  · match i, hw, hl with
    | 0, hw, hl =>
      have hl : some (intsV [0, 1]) = some l := hl
      cases hl
      simp at hw; subst hw
      exact holder_row (s := 1) (n := 2) r3 rfl (by omega)
    | i + 1, hw, hl => simp at hw
  · simp at hw; subst hw
    unfold Off bl bh; dsimp only; omega
  · simp only [List.mem_cons, List.not_mem_nil, or_false] at hw hx
    rcases hw with rfl | rfl <;> rcases hx with rfl | rfl | rfl | rfl | rfl | rfl <;> (unfold Off; simp [bl, bh, exG] <;> omega)
  · simp only [List.mem_cons, List.not_mem_nil, or_false] at hx
    rcases hx with rfl | rfl | rfl | rfl | rfl <;> (unfold Off; simp [bl, bh, exG] <;> omega)
theorem exG_false : exG.check false = (0, 0) := by decide +kernel
theorem exG_true : exG.check true = (2, 0) := by decide +kernel
theorem exG_good : exG.good = true := by unfold Gr.good; rw [exG_false]; rfl
set_option maxHeartbeats 1000000 in
theorem law8_lives {h : Heap} (ht : TabAt h) :
    Con Tryd.prog 15 #[] h fun v h' => Fr 0 0 h h' ∧ v = .bool true := by
  refine con_law8_lives ?_
  have hz : 0 < h.size := hcell_lt (ht 0 0 rfl)
  have p0 : Fr 0 0 h h := .refl _ _ _
  simp -dsimp only [go_sem]
  refine call_of (law8_example hz) ?_
  rintro v1 h1 ⟨f1, q, rfl, t⟩
  replace t := t.at_
  have p1 : Fr 0 0 h1 h1 := .refl _ _ _
  have f1_z := f1.size
  replace p0 := p0.fresh f1 (by omega)
  unfold gcells
  simp -dsimp only [go_sem]
  intro b1 h2 n2
  have n2_a := n2.at_
  have n2_z := n2.size
  replace p0 := p0.fresh (n2.fr (lo := 0) (hi := 0)) (by omega)
  replace p1 := p1.fresh (n2.fr (lo := 0) (hi := 0)) (by omega)
  have r1 := n2.row
  simp -dsimp only [go_sem, r1.cell]
  refine Chk_intro (r1.wr (by first | (simp; done) | (simp; omega))) fun h3 s3 => ?_
  have s3_z := s3.size
  replace p0 := p0.fresh s3.fr (by omega)
  replace p1 := p1.fresh s3.fr (by omega)
  replace r1 := s3.row r1
  try simp only [cl_int, cl_bool, cl_slice, cl_ptr, putAt_one, List.set_cons_zero, List.set_cons_succ, ivec_set, brow_upd] at r1
  simp -dsimp only [go_sem] at r1
  simp -dsimp only [go_sem, r1.cell]
  refine call_of (graph_Check (t.fr p1) false) ?_
  rintro v4 h4 ⟨f4, rfl⟩
  have f4_z := f4.size
  replace p0 := p0.fresh f4 (by omega)
  replace p1 := p1.fresh f4 (by omega)
  replace r1 := r1.fr f4 (by omega)
  rw [exG_false]
  simp -dsimp only [go_sem, r1.cell]
  refine call_of (graph_Check (t.fr p1) true) ?_
  rintro v5 h5 ⟨f5, rfl⟩
  have f5_z := f5.size
  replace p0 := p0.fresh f5 (by omega)
  replace p1 := p1.fresh f5 (by omega)
  replace r1 := r1.fr f5 (by omega)
  rw [exG_true]
  simp -dsimp only [go_sem, r1.cell]
  refine call_of (graph_Derive (t.fr p1) (ht.fr p0 (.inr rfl))) ?_
  rintro v6 h6 ⟨f6, w⟩
  have f6_z := f6.size
  replace p0 := p0.fresh f6 (by omega)
  replace p1 := p1.fresh f6 (by omega)
  replace r1 := r1.fr f6 (by omega)
  rw [if_pos exG_good] at w
  obtain ⟨p, rd, wr, fe, rfl, F⟩ := w
  obtain ⟨A, B, D, dlo, dap⟩ := F.rel
  have o1 := F.hrd
  have o2 := F.hwr
  have o3 := F.hfe
  obtain ⟨rda, rdc, rfl⟩ := o1.is
  obtain ⟨wra, wrc, rfl⟩ := o2.is
  obtain ⟨fea, fec, rfl⟩ := o3.is
  have oc : ∀ k, k < 10 → (p k).oneCell' = true := fun k hk => by obtain ⟨_, e⟩ := progPtr (D.at_ k hk); rw [e]; rfl
  obtain ⟨c0, e0⟩ := progPtr (D.at_ 0 (by decide))
  obtain ⟨c1, e1⟩ := progPtr (D.at_ 1 (by decide))
  obtain ⟨c5, e5⟩ := progPtr (D.at_ 5 (by decide))
  have g0 := D.at_ 0 (by decide)
  have g5 := D.at_ 5 (by decide)
  rw [e0] at g0
  rw [e5] at g5
  have dR := o1.rd
  have ab0 := dlo 0 (by decide)
  have ab5 := dlo 5 (by decide)
  clear o1 o2 o3 F D dap
  unfold fcells
  have p6 : Fr 0 0 h6 h6 := .refl _ _ _
  simp -dsimp only [go_sem, r1.cell]
  intro b6 h7 n7
  have n7_a := n7.at_
  have n7_z := n7.size
  replace p0 := p0.fresh (n7.fr (lo := 0) (hi := 0)) (by omega)
  replace p1 := p1.fresh (n7.fr (lo := 0) (hi := 0)) (by omega)
  replace r1 := r1.fr (n7.fr (lo := 0) (hi := 0)) (by omega)
  replace g0 := g0.fr (n7.fr (lo := 0) (hi := 0)) (by omega)
  replace g5 := g5.fr (n7.fr (lo := 0) (hi := 0)) (by omega)
  replace p6 := p6.fresh (n7.fr (lo := 0) (hi := 0)) (by omega)
  have r6 := n7.row
  simp -dsimp only [go_sem, e0, e1, e5, oc 2 (by decide), oc 3 (by decide), oc 4 (by decide), oc 6 (by decide), oc 7 (by decide), oc 8 (by decide), oc 9 (by decide), r1.cell, r6.cell]
  refine Chk_intro (r6.wr (by first | (simp; done) | (simp; omega))) fun h8 s8 => ?_
  have s8_z := s8.size
  replace p0 := p0.fresh s8.fr (by omega)
  replace p1 := p1.fresh s8.fr (by omega)
  replace r1 := r1.fr s8.fr (by omega)
  replace g0 := g0.fr s8.fr (by omega)
  replace g5 := g5.fr s8.fr (by omega)
  replace p6 := p6.fresh s8.fr (by omega)
  replace r6 := s8.row r6
  try simp only [cl_int, cl_bool, cl_slice, cl_ptr, putAt_one, List.set_cons_zero, List.set_cons_succ, ivec_set, brow_upd] at r6
  simp -dsimp only [go_sem] at r6
  simp -dsimp only [go_sem, r1.cell, r6.cell]
  refine call_of (graph_Final (t.fr p1)) ?_
  rintro v9 h9 ⟨f9, w⟩
  have f9_z := f9.size
  replace p0 := p0.fresh f9 (by omega)
  replace p1 := p1.fresh f9 (by omega)
  replace r1 := r1.fr f9 (by omega)
  replace g0 := g0.fr f9 (by omega)
  replace g5 := g5.fr f9 (by omega)
  replace p6 := p6.fresh f9 (by omega)
  replace r6 := r6.fr f9 (by omega)
  rw [if_pos exG_good] at w
  obtain ⟨fv, rfl, o9⟩ := w
  have hfin : finals exG = [7] := by decide +kernel
  rw [hfin] at o9
  have p9 : Fr 0 0 h9 h9 := .refl _ _ _
  simp -dsimp only [go_sem, e0, e1, e5, r1.cell, r6.cell]
  intro b10 h10 n10
  have n10_a := n10.at_
  have n10_z := n10.size
  replace p0 := p0.fresh (n10.fr (lo := 0) (hi := 0)) (by omega)
  replace p1 := p1.fresh (n10.fr (lo := 0) (hi := 0)) (by omega)
  replace r1 := r1.fr (n10.fr (lo := 0) (hi := 0)) (by omega)
  replace g0 := g0.fr (n10.fr (lo := 0) (hi := 0)) (by omega)
  replace g5 := g5.fr (n10.fr (lo := 0) (hi := 0)) (by omega)
  replace p6 := p6.fresh (n10.fr (lo := 0) (hi := 0)) (by omega)
  replace r6 := r6.fr (n10.fr (lo := 0) (hi := 0)) (by omega)
  replace p9 := p9.fresh (n10.fr (lo := 0) (hi := 0)) (by omega)
  have r10 := n10.row
  simp -dsimp only [go_sem, r1.cell, r6.cell, r10.cell]
  have d10 : Rd 1 h10 (.slice (some ⟨b10, 0, none⟩) 1 1) 1 (wordsV [7]) := (holder_row (s := 1) (n := 1) (lo := 0) r10 rfl (by omega)).rd
  refine call_of (c_law8_words (l := [7]) (m := [7]) (o9.rd.fr p9) d10 (by decide)) ?_
  rintro v11 h11 ⟨rfl, rfl⟩
  simp -dsimp only [go_sem, show decide (([7] : List Int) = [7]) = true from rfl, e0, r1.cell, r6.cell, r10.cell]
  refine call_of (rel_Pairs g0 (ht.fr p0 (.inr rfl))) ?_
  rintro v12 h12 ⟨f12, o12⟩
  have f12_z := f12.size
  replace p0 := p0.fresh f12 (by omega)
  replace p1 := p1.fresh f12 (by omega)
  replace r1 := r1.fr f12 (by omega)
  replace g0 := g0.fr f12 (by omega)
  replace g5 := g5.fr f12 (by omega)
  replace p6 := p6.fresh f12 (by omega)
  replace r6 := r6.fr f12 (by omega)
  replace p9 := p9.fresh f12 (by omega)
  replace r10 := r10.fr f12 (by omega)
  have hpp : pairsOf exG.n (relM exG 0) = [(2, 3)] := by decide +kernel
  rw [hpp] at o12
  have p12 : Fr 0 0 h12 h12 := .refl _ _ _
  simp -dsimp only [go_sem, r1.cell, r6.cell, r10.cell]
  intro b13 h13 n13
  have n13_a := n13.at_
  have n13_z := n13.size
  replace p0 := p0.fresh (n13.fr (lo := 0) (hi := 0)) (by omega)
  replace p1 := p1.fresh (n13.fr (lo := 0) (hi := 0)) (by omega)
  replace r1 := r1.fr (n13.fr (lo := 0) (hi := 0)) (by omega)
  replace g0 := g0.fr (n13.fr (lo := 0) (hi := 0)) (by omega)
  replace g5 := g5.fr (n13.fr (lo := 0) (hi := 0)) (by omega)
  replace p6 := p6.fresh (n13.fr (lo := 0) (hi := 0)) (by omega)
  replace r6 := r6.fr (n13.fr (lo := 0) (hi := 0)) (by omega)
  replace p9 := p9.fresh (n13.fr (lo := 0) (hi := 0)) (by omega)
  replace r10 := r10.fr (n13.fr (lo := 0) (hi := 0)) (by omega)
  replace p12 := p12.fresh (n13.fr (lo := 0) (hi := 0)) (by omega)
  have r13 := n13.row
  simp -dsimp only [go_sem, r1.cell, r6.cell, r10.cell, r13.cell]
  have d13 : Rd 2 h13 (.slice (some ⟨b13, 0, none⟩) 1 1) 1 (pairsV [(2, 3)]) := (holder_row (s := 2) (n := 1) (lo := 0) r13 rfl (by omega)).rd
  refine call_of (c_law8_pairs (l := [(2, 3)]) (m := [(2, 3)]) (o12.rd.fr p12) d13 (by decide)) ?_
  rintro v14 h13 ⟨rfl, rfl⟩
  simp -dsimp only [go_sem, show decide (([(2, 3)] : List (Int × Int)) = [(2, 3)]) = true from rfl, e5, r1.cell, r6.cell, r10.cell, r13.cell]
  refine call_of (rel_Has g5 0 1) ?_
  rintro v15 h13 ⟨rfl, rfl⟩
  have hhas : (inR exG.n 0 && inR exG.n 1 && relM exG 5 (Int.toNat 0) (Int.toNat 1)) = true := by decide +kernel
  simp -dsimp only [go_sem, hhas, r1.cell, r6.cell, r10.cell, r13.cell]
  intro b16 h16 n16
  have n16_a := n16.at_
  have n16_z := n16.size
  replace p0 := p0.fresh (n16.fr (lo := 0) (hi := 0)) (by omega)
  replace p1 := p1.fresh (n16.fr (lo := 0) (hi := 0)) (by omega)
  replace r1 := r1.fr (n16.fr (lo := 0) (hi := 0)) (by omega)
  replace g0 := g0.fr (n16.fr (lo := 0) (hi := 0)) (by omega)
  replace g5 := g5.fr (n16.fr (lo := 0) (hi := 0)) (by omega)
  replace p6 := p6.fresh (n16.fr (lo := 0) (hi := 0)) (by omega)
  replace r6 := r6.fr (n16.fr (lo := 0) (hi := 0)) (by omega)
  replace p9 := p9.fresh (n16.fr (lo := 0) (hi := 0)) (by omega)
  replace r10 := r10.fr (n16.fr (lo := 0) (hi := 0)) (by omega)
  replace p12 := p12.fresh (n16.fr (lo := 0) (hi := 0)) (by omega)
  replace r13 := r13.fr (n16.fr (lo := 0) (hi := 0)) (by omega)
  have r16 := n16.row
  simp -dsimp only [go_sem, r1.cell, r6.cell, r10.cell, r13.cell, r16.cell]
  have hrd : kindsV exG 1 exG.n = [false, false, true, false] := by decide +kernel
  rw [hrd] at dR
  have d16 : Rd 1 h16 (.slice (some ⟨b16, 0, none⟩) 4 4) 4 (boolsV [false, false, true, false]) := (holder_row (s := 1) (n := 4) (lo := 0) r16 rfl (by omega)).rd
  refine call_of (c_law8_truths (l := [false, false, true, false]) (m := [false, false, true, false]) (dR.fr p6) d16 (by decide)) ?_
  rintro v17 h16 ⟨rfl, rfl⟩
  simp -dsimp only [go_sem, show decide (([false, false, true, false] : List Bool) = [false, false, true, false]) = true from rfl, r1.cell, r6.cell, r10.cell, r13.cell, r16.cell]
  refine call_of (graph_Thread (t.fr p1) 1) ?_
  rintro v18 h18 ⟨f18, o18⟩
  have f18_z := f18.size
  replace p0 := p0.fresh f18 (by omega)
  replace p1 := p1.fresh f18 (by omega)
  replace r1 := r1.fr f18 (by omega)
  replace g0 := g0.fr f18 (by omega)
  replace g5 := g5.fr f18 (by omega)
  replace p6 := p6.fresh f18 (by omega)
  replace r6 := r6.fr f18 (by omega)
  replace p9 := p9.fresh f18 (by omega)
  replace r10 := r10.fr f18 (by omega)
  replace p12 := p12.fresh f18 (by omega)
  replace r13 := r13.fr f18 (by omega)
  replace r16 := r16.fr f18 (by omega)
  have hth : threadL exG 1 = [2, 3] := by decide +kernel
  rw [hth] at o18
  have p18 : Fr 0 0 h18 h18 := .refl _ _ _
  simp -dsimp only [go_sem, r1.cell, r6.cell, r10.cell, r13.cell, r16.cell]
  intro b19 h19 n19
  have n19_a := n19.at_
  have n19_z := n19.size
  replace p0 := p0.fresh (n19.fr (lo := 0) (hi := 0)) (by omega)
  replace p1 := p1.fresh (n19.fr (lo := 0) (hi := 0)) (by omega)
  replace r1 := r1.fr (n19.fr (lo := 0) (hi := 0)) (by omega)
  replace g0 := g0.fr (n19.fr (lo := 0) (hi := 0)) (by omega)
  replace g5 := g5.fr (n19.fr (lo := 0) (hi := 0)) (by omega)
  replace p6 := p6.fresh (n19.fr (lo := 0) (hi := 0)) (by omega)
  replace r6 := r6.fr (n19.fr (lo := 0) (hi := 0)) (by omega)
  replace p9 := p9.fresh (n19.fr (lo := 0) (hi := 0)) (by omega)
  replace r10 := r10.fr (n19.fr (lo := 0) (hi := 0)) (by omega)
  replace p12 := p12.fresh (n19.fr (lo := 0) (hi := 0)) (by omega)
  replace r13 := r13.fr (n19.fr (lo := 0) (hi := 0)) (by omega)
  replace r16 := r16.fr (n19.fr (lo := 0) (hi := 0)) (by omega)
  replace p18 := p18.fresh (n19.fr (lo := 0) (hi := 0)) (by omega)
  have r19 := n19.row
  simp -dsimp only [go_sem, r1.cell, r6.cell, r10.cell, r13.cell, r16.cell, r19.cell]
  have d19 : Rd 1 h19 (.slice (some ⟨b19, 0, none⟩) 2 2) 2 (intsV [2, 3]) := (holder_row (s := 1) (n := 2) (lo := 0) r19 rfl (by omega)).rd
  refine call_of (c_law8_ints (l := [2, 3]) (m := [2, 3]) (o18.rd.fr p18) d19 (by decide)) ?_
  rintro v20 h19 ⟨rfl, rfl⟩
  simp -dsimp only [go_sem, show decide (([2, 3] : List Int) = [2, 3]) = true from rfl, r1.cell, r6.cell, r10.cell, r13.cell, r16.cell, r19.cell]
  exact p0
end Go.Proofs.Tst
/-
  GraphChecks, GraphSees.
-/
namespace Go.Proofs.Tst
open Go Go.Vc
end Go.Proofs.Tst
/-
  GraphSees.
-/
namespace Go.Proofs.Tst
open Go Go.Vc
theorem dec_self {α : Type} [DecidableEq α] (x : α) : decide (x = x) = true := by simp
end Go.Proofs.Tst
/-
  Plain laws of good graphs.
-/
namespace Go.Proofs.Tst
open Go Go.Vc
end Go.Proofs.Tst
/-
  Events changed in place.
-/
namespace Go.Proofs.Tst
open Go Go.Vc
def setMode (E : List Ev) (i : Nat) (m : Int) : List Ev := E.set i { E.getD i default with mode := m }
@[simp] theorem length_setMode {E : List Ev} {i : Nat} {m : Int} : (setMode E i m).length = E.length := by simp [setMode]
theorem evsV_setMode : ∀ {E : List Ev} {i : Nat} {m : Int}, i < E.length → (evsV E).set (i * 5 + 4) (.int .i64 m) = evsV (setMode E i m)
  | [], i, _, h => by simp at h
  | e :: E, 0, m, _ => rfl
  | e :: E, i + 1, m, h => by
    have ih := evsV_setMode (E := E) (i := i) (m := m) (by simpa using h)
    have h1 : setMode (e :: E) (i + 1) m = e :: setMode E i m := by simp [setMode]
    have h2 : e.cells.length = 5 := rfl
    rw [h1, evsV_cons, evsV_cons, ← ih, List.set_append_right _ _ (by omega), h2]
    congr 2; omega
theorem putAt_right {a : List Value} : ∀ (ws r : List Value) (o : Nat), putAt (a ++ r) (a.length + o) ws = a ++ putAt r o ws
  | [], _, _ => rfl
  | v :: ws, r, o => by
    show putAt ((a ++ r).set (a.length + o) v) (a.length + o + 1) ws = a ++ putAt (r.set o v) (o + 1) ws
    rw [List.set_append_right _ _ (by omega), Nat.add_sub_cancel_left, Nat.add_assoc]
    exact putAt_right ws _ _
theorem putAt_left {r : List Value} : ∀ (ws a : List Value) (o : Nat), o + ws.length ≤ a.length → putAt (a ++ r) o ws = putAt a o ws ++ r
  | [], _, _, _ => rfl
  | v :: ws, a, o, h => by
    show putAt ((a ++ r).set o v) (o + 1) ws = putAt (a.set o v) (o + 1) ws ++ r
    simp at h
    rw [List.set_append_left _ _ (by omega)]
    exact putAt_left ws _ _ (by simp; omega)
theorem evsV_put : ∀ {E : List Ev} {i : Nat} {e : Ev}, i < E.length → putAt (evsV E) (i * 5) e.cells = evsV (E.set i e)
  | [], i, _, h => by simp at h
  | x :: E, 0, e, _ => rfl
  | x :: E, i + 1, e, h => by
    have ih := evsV_put (E := E) (i := i) (e := e) (by simpa using h)
    have h2 : (i + 1) * 5 = x.cells.length + i * 5 := by show _ = 5 + _; omega
    rw [List.set_cons_succ, evsV_cons, evsV_cons, ← ih, h2]
    exact putAt_right _ _ _
theorem holder_ev {h : Heap} {b n c lo : Nat} {E : List Ev} (w : Holder 5 h (.slice (some ⟨b, 0, none⟩) n c) n (evsV E) lo) {i : Nat} (hi : i < n) :
    Wr h b (i * 5 + 4) 1 ∧ Wr h b (i * 5) 5 ∧ (∀ h' m, Sto h h' b (i * 5 + 4) [.int .i64 m] → Holder 5 h' (.slice (some ⟨b, 0, none⟩) n c) n (evsV (setMode E i m)) lo) ∧ ∀ h' e, Sto h h' b (i * 5) e.cells → Holder 5 h' (.slice (some ⟨b, 0, none⟩) n c) n (evsV (E.set i e)) lo := by
  have hl := w.1
  rw [length_evsV] at hl
  have hE : i < E.length := by omega
  obtain ⟨b', c', rest, h1, h2, h3, h4⟩ := w.blk (by omega)
  cases h1
  refine ⟨h2.wr (by simp; omega), h2.wr (by simp; omega), fun h' m s => ⟨by simp; omega, .inr ⟨b, c, rest, rfl, ?_, h3, h4⟩⟩, fun h' e s => ⟨by simp; omega, .inr ⟨b, c, rest, rfl, ?_, h3, h4⟩⟩⟩
  · have := s.row h2
    rw [putAt_one, List.set_append_left _ _ (by simp; omega), evsV_setMode hE] at this
    exact this
  · have := s.row h2
    rw [putAt_left _ _ _ (by simp [Ev.cells]; omega), evsV_put hE] at this
    exact this
section
variable {h h' : Heap} {q : GV} {g : Gr} {lo : Nat}
/-- The events of a graph that one holds alone are other ones. -/
theorem GrOwn.evs' {E' : List Ev} {b : Nat} (w : GrOwn h q g lo) (f : Fr b (b + 1) h h') (hb : q.e = some ⟨b, 0, none⟩) (hl : E'.length = g.evs.length) (he : Holder 5 h' (.slice (some ⟨b, 0, none⟩) g.evs.length q.ec) g.evs.length (evsV E') lo) :
    GrOwn h' q { g with evs := E' } lo := by
  obtain ⟨us, o1, o2, o3⟩ := w.o
  have lb : bl (.slice q.e g.evs.length q.ec) = b ∧ bh (.slice q.e g.evs.length q.ec) = b + 1 := by rw [hb]; exact ⟨rfl, rfl⟩
  have key : ∀ x, Off (.slice q.e g.evs.length q.ec) x → bh x ≤ b ∨ b + 1 ≤ bl x ∨ b + 1 ≤ b := fun x hx => by
    unfold Off at hx
    have := bh_bl x
    omega
  have ha : Away b (b + 1) (.slice q.o g.co.length q.oc) us := fun x hx => key x (o3 x hx _ (by simp)).symm
  have hw := w.off
  refine ⟨?_, w.f.fr f (key _ (hw _ (by simp))), ⟨us, o1.fr f ha, o2, ?_⟩, w.r.fr f (key _ (hw _ (by simp))), w.a.fr f (key _ (hw _ (by simp))), w.d.fr f (key _ (hw _ (by simp))), w.c.fr f (key _ (hw _ (by simp))), ?_, ⟨?_, w.fits.f, w.fits.o, w.fits.r, w.fits.a, w.fits.d, w.fits.c, w.fits.l⟩⟩
  · dsimp only; rw [hl, hb]; exact he
  · dsimp only; rw [hl]; exact o3
  · dsimp only; rw [hl]; exact hw
  · dsimp only; rw [hl]; exact w.fits.e
theorem GrOwn.fr {l r : Nat} (w : GrOwn h q g lo) (f : Fr l r h h') (hd : r ≤ lo ∨ h.size ≤ l ∨ r ≤ l) : GrOwn h' q g lo := by
  obtain ⟨us, o1, o2, o3⟩ := w.o
  have k : ∀ {s n : Nat} {v : Value} {xs : List Value}, Holder s h v n xs lo → Holder s h' v n xs lo := fun o => o.fr f (by have := o.at_; have := o.top; omega)
  refine ⟨k w.e, k w.f, ⟨us, o1.fr f ?_, o2, o3⟩, k w.r, k w.a, k w.d, k w.c, w.off, w.fits⟩
  rcases hd with hd | hd | hd
  · exact o1.below hd
  · exact o1.above hd
  · exact Away.none hd
theorem GrOwn.lower {lo' : Nat} (w : GrOwn h q g lo) (hl : lo' ≤ lo) : GrOwn h q g lo' := by
  obtain ⟨us, o1, o2⟩ := w.o
  exact ⟨w.e.lower hl, w.f.lower hl, ⟨us, o1.lower hl, o2⟩, w.r.lower hl, w.a.lower hl, w.d.lower hl, w.c.lower hl, w.off, w.fits⟩
/-- Where its events lie, and what may be done to them. -/
theorem GrOwn.ev (w : GrOwn h q g lo) (hn : 0 < g.n) : ∃ b, q.e = some ⟨b, 0, none⟩ ∧ lo ≤ b ∧ b < h.size ∧ (∀ i, i < g.n → Wr h b (i * 5 + 4) 1 ∧ Wr h b (i * 5) 5) ∧
    (∀ h' i m, i < g.n → Sto h h' b (i * 5 + 4) [.int .i64 m] → GrOwn h' q { g with evs := setMode g.evs i m } lo) ∧ ∀ h' i e, i < g.n → Sto h h' b (i * 5) e.cells → GrOwn h' q { g with evs := g.evs.set i e } lo := by
  have we := w.e
  obtain ⟨b, c, rest, h1, h2, h3, h4⟩ := we.blk hn
  have hq : q.e = some ⟨b, 0, none⟩ := by injection h1
  rw [hq] at we
  exact ⟨b, hq, h4, h2.lt, fun i hi => ⟨(holder_ev we hi).1, (holder_ev we hi).2.1⟩, fun h' i m hi s => w.evs' s.fr hq (by simp) ((holder_ev we hi).2.2.1 _ _ s), fun h' i e hi s => w.evs' s.fr hq (by simp) ((holder_ev we hi).2.2.2 _ _ s)⟩
end
end Go.Proofs.Tst
/-
  Changed graphs in memory.
-/
namespace Go.Proofs.Tst
open Go Go.Vc
theorem rlc_rl {h : Heap} {v : Value} {L : List (List Value)} (t : RLc h v L) : RL h v L := by
  obtain ⟨us, h1, h2⟩ := t
  exact ⟨us, h1, fun i l hl => by obtain ⟨a, c, h3, -, h5⟩ := h2 i l hl; exact ⟨_, h3, h5⟩⟩
theorem rlc_nil {h : Heap} : RLc h (.slice none 0 0) [] := ⟨[], ⟨rfl, _, _, rfl, .inl rfl⟩, fun i l hl => by simp at hl⟩
theorem rlc_one {h : Heap} {b bb : Nat} {l : List Value} (r : Rw h b l) (o : Rw h bb [.slice (some ⟨b, 0, none⟩) l.length l.length]) : RLc h (.slice (some ⟨bb, 0, none⟩) 1 1) [l] := by
  refine ⟨_, (holder_row (s := 1) (n := 1) (lo := 0) o rfl (by omega)).rd, fun i x hx => ?_⟩
  match i, hx with
  | 0, hx =>
    simp at hx; subst hx
    exact ⟨_, _, rfl, Nat.le_refl _, (holder_row (s := 1) (n := l.length) (lo := 0) r (by omega) (by omega)).rd⟩
  | i + 1, hx => simp at hx
theorem rlc_two {h : Heap} {b bb : Nat} {l : List Value} (r : Rw h b l) (o : Rw h bb [.slice (some ⟨b, 0, none⟩) l.length l.length, .slice none 0 0]) : RLc h (.slice (some ⟨bb, 0, none⟩) 2 2) [l, []] := by
  refine ⟨_, (holder_row (s := 1) (n := 2) (lo := 0) o rfl (by omega)).rd, fun i x hx => ?_⟩
  match i, hx with
  | 0, hx =>
    simp at hx; subst hx
    exact ⟨_, _, rfl, Nat.le_refl _, (holder_row (s := 1) (n := l.length) (lo := 0) r (by omega) (by omega)).rd⟩
  | 1, hx =>
    simp at hx; subst hx
    exact ⟨_, _, rfl, Nat.le_refl _, ⟨rfl, _, _, rfl, .inl rfl⟩⟩
  | i + 2, hx => simp at hx
theorem GrAt.setF {h : Heap} {q : GV} {g : Gr} (t : GrAt h q g) {l : List (Int × Int)} {a : Option Addr} {c : Nat} (w : Rd 2 h (.slice a l.length c) l.length (pairsV l)) (b : l.length ≤ 8796093022208) : GrAt h { q with f := a, fc := c } { g with rf := l } :=
  ⟨t.e, w, t.o, t.r, t.a, t.d, t.c, ⟨t.fits.e, b, t.fits.o, t.fits.r, t.fits.a, t.fits.d, t.fits.c, t.fits.l⟩, t.cap, t.l⟩
theorem GrAt.setR {h : Heap} {q : GV} {g : Gr} (t : GrAt h q g) {l : List (Int × Int)} {a : Option Addr} {c : Nat} (w : Rd 2 h (.slice a l.length c) l.length (pairsV l)) (b : l.length ≤ 8796093022208) : GrAt h { q with r := a, rc := c } { g with rmw := l } :=
  ⟨t.e, t.f, t.o, w, t.a, t.d, t.c, ⟨t.fits.e, t.fits.f, t.fits.o, b, t.fits.a, t.fits.d, t.fits.c, t.fits.l⟩, t.cap, t.l⟩
theorem GrAt.setA {h : Heap} {q : GV} {g : Gr} (t : GrAt h q g) {l : List (Int × Int)} {a : Option Addr} {c : Nat} (w : Rd 2 h (.slice a l.length c) l.length (pairsV l)) (b : l.length ≤ 8796093022208) : GrAt h { q with a := a, ac := c } { g with addr := l } :=
  ⟨t.e, t.f, t.o, t.r, w, t.d, t.c, ⟨t.fits.e, t.fits.f, t.fits.o, t.fits.r, b, t.fits.d, t.fits.c, t.fits.l⟩, t.cap, t.l⟩
theorem GrAt.setC {h : Heap} {q : GV} {g : Gr} (t : GrAt h q g) {l : List (Int × Int)} {a : Option Addr} {c : Nat} (w : Rd 2 h (.slice a l.length c) l.length (pairsV l)) (b : l.length ≤ 8796093022208) : GrAt h { q with c := a, cc := c } { g with ctrl := l } :=
  ⟨t.e, t.f, t.o, t.r, t.a, t.d, w, ⟨t.fits.e, t.fits.f, t.fits.o, t.fits.r, t.fits.a, t.fits.d, b, t.fits.l⟩, t.cap, t.l⟩
theorem GrAt.setE {h : Heap} {q : GV} {g : Gr} (t : GrAt h q g) {l : List Ev} {a : Option Addr} {c : Nat} (w : Rd 5 h (.slice a l.length c) l.length (evsV l)) (b : l.length ≤ 3518437208883) : GrAt h { q with e := a, ec := c } { g with evs := l } :=
  ⟨w, t.f, t.o, t.r, t.a, t.d, t.c, ⟨b, t.fits.f, t.fits.o, t.fits.r, t.fits.a, t.fits.d, t.fits.c, t.fits.l⟩, t.cap, t.l⟩
theorem GrAt.setO {h : Heap} {q : GV} {g : Gr} (t : GrAt h q g) {L : List (List Int)} {a : Option Addr} {c : Nat} (w : RLc h (.slice a L.length c) (L.map intsV)) (hc : L.length ≤ c) (b : L.length ≤ 5864062014805) (bl : ∀ l ∈ L, l.length ≤ 17592186044416) : GrAt h { q with o := a, oc := c } { g with co := L } :=
  ⟨t.e, t.f, rlc_rl w, t.r, t.a, t.d, t.c, ⟨t.fits.e, t.fits.f, b, t.fits.r, t.fits.a, t.fits.d, t.fits.c, bl⟩, hc, w⟩
theorem c_law8_at {h : Heap} {q : GV} {g : Gr} (t : GrAt h q g) (rule place : Int) :
    Con Tryd.prog 40 #[.agg (gcells q g).toArray, .int .i64 rule, .int .i64 place] h fun v h' => Fr 0 0 h h' ∧ v = .bool (decide (g.check false = (rule, place))) := by
  refine con_law8_at ?_
  have p0 : Fr 0 0 h h := .refl _ _ _
  unfold gcells
  simp -dsimp only [go_sem]
  intro b1 h1 n1
  have n1_a := n1.at_
  have n1_z := n1.size
  replace p0 := p0.fresh (n1.fr (lo := 0) (hi := 0)) (by omega)
  have r1 := n1.row
  simp -dsimp only [go_sem, r1.cell]
  refine call_of (graph_Check (t.fr p0) false) ?_
  rintro v1 h2 ⟨f1, rfl⟩
  have f1_z := f1.size
  replace p0 := p0.fresh f1 (by omega)
  replace r1 := r1.fr f1 (by omega)
  simp -dsimp only [go_sem, r1.cell]
  by_cases k1 : (g.check false).1 = rule
  · by_cases k2 : (g.check false).2 = place
    · have e : decide (g.check false = (rule, place)) = true := by rw [decide_eq_true_eq]; exact Prod.ext k1 k2
      rw [e]
      simp -dsimp only [go_sem, beq_t k1, beq_t k2, r1.cell]
      exact p0
    · have e : decide (g.check false = (rule, place)) = false := by rw [decide_eq_false_iff_not]; intro h; exact k2 (congrArg Prod.snd h)
      rw [e]
      simp -dsimp only [go_sem, beq_t k1, beq_f k2, r1.cell]
      exact p0
  · have e : decide (g.check false = (rule, place)) = false := by rw [decide_eq_false_iff_not]; intro h; exact k1 (congrArg Prod.fst h)
    rw [e]
    simp -dsimp only [go_sem, beq_f k1, r1.cell]
    exact p0
end Go.Proofs.Tst
namespace Go.Proofs.Tst
open Go Go.Vc
end Go.Proofs.Tst
namespace Go.Proofs.Tst
open Go Go.Vc
end Go.Proofs.Tst
namespace Go.Proofs.Tst
open Go Go.Vc
/-- Relations that are joined. -/
def RelsAt (h : Heap) (L : List (Value × Nat × (Nat → Nat → Bool))) : Prop := ∀ x ∈ L, ∃ lo hi, ProgAt h lo hi x.1 x.2.1 x.2.2
theorem RelsAt.fr {h h' : Heap} {L : List (Value × Nat × (Nat → Nat → Bool))} (r : RelsAt h L) (f : Fr 0 0 h h') : RelsAt h' L := fun x hx => by
  obtain ⟨lo, hi, t⟩ := r x hx; exact ⟨lo, hi, t.fr f (by omega)⟩
end Go.Proofs.Tst
/-
  How many bits a word has: the library's way of adding them up.
-/
namespace Go.Vc
def bitsL : Nat → Nat → List Nat
  | 0, _ => []
  | n + 1, x => x % 2 :: bitsL n (x / 2)
def popN (n x : Nat) : Nat := (bitsL n x).sum
/-- Digits of k bits. -/
def vD (k : Nat) : List Nat → Nat
  | [] => 0
  | d :: l => d + 2 ^ k * vD k l
def vP (w : Nat) : List (Nat × Nat) → Nat
  | [] => 0
  | p :: l => p.1 + 2 ^ w * p.2 + 2 ^ (2 * w) * vP w l
def mD (w : Nat) : Nat → Nat
  | 0 => 0
  | n + 1 => (2 ^ w - 1) + 2 ^ (2 * w) * mD w n
def prs : List Nat → List (Nat × Nat)
  | a :: b :: l => (a, b) :: prs l
  | _ => []
theorem and_split {k a b c d : Nat} (ha : a < 2 ^ k) (hc : c < 2 ^ k) : (a + 2 ^ k * b) &&& (c + 2 ^ k * d) = (a &&& c) + 2 ^ k * (b &&& d) := by
  apply Nat.eq_of_testBit_eq; intro i
  have hac : a &&& c < 2 ^ k := Nat.and_lt_two_pow _ hc
  rw [Nat.testBit_and, Nat.add_comm a, Nat.add_comm c, Nat.add_comm (a &&& c), Nat.testBit_two_pow_mul_add _ ha, Nat.testBit_two_pow_mul_add _ hc, Nat.testBit_two_pow_mul_add _ hac]
  split
  · rw [Nat.testBit_and]
  · rw [Nat.testBit_and]
theorem pow2w (w : Nat) : 2 ^ (2 * w) = 2 ^ w * 2 ^ w := by rw [Nat.two_mul, Nat.pow_add]
theorem low_and {w a b : Nat} (ha : a < 2 ^ w) : (a + 2 ^ w * b) &&& (2 ^ w - 1) = a := by
  rw [Nat.and_two_pow_sub_one_eq_mod, Nat.add_mul_mod_self_left, Nat.mod_eq_of_lt ha]
theorem lt_sq {w a b : Nat} (ha : a < 2 ^ w) (hb : b < 2 ^ w) : a + 2 ^ w * b < 2 ^ (2 * w) := by
  rw [pow2w]
  have := Nat.mul_le_mul_left (2 ^ w) (show b ≤ 2 ^ w - 1 by omega)
  rw [Nat.mul_sub_one] at this
  have h2 : 2 ^ w ≤ 2 ^ w * 2 ^ w := Nat.le_mul_of_pos_left _ (Nat.two_pow_pos w)
  omega
theorem mask_lt (w : Nat) : 2 ^ w - 1 < 2 ^ (2 * w) := by
  have h1 : 2 ^ w ≤ 2 ^ (2 * w) := Nat.pow_le_pow_right (by decide) (by omega)
  have := Nat.two_pow_pos w
  omega
theorem even_and {w : Nat} : ∀ (l : List (Nat × Nat)), (∀ p ∈ l, p.1 < 2 ^ w ∧ p.2 < 2 ^ w) → vP w l &&& mD w l.length = vD (2 * w) (l.map (·.1))
  | [], _ => by simp [vP, mD, vD]
  | p :: l, h => by
    obtain ⟨h1, h2⟩ := h p (List.mem_cons_self ..)
    simp only [vP, List.length_cons, mD, List.map_cons, vD]
    rw [and_split (lt_sq h1 h2) (mask_lt w), low_and h1, even_and l fun q hq => h q (List.mem_cons_of_mem _ hq)]
theorem odd_and {w : Nat} : ∀ (l : List (Nat × Nat)), (∀ p ∈ l, p.1 < 2 ^ w ∧ p.2 < 2 ^ w) → vP w l / 2 ^ w &&& mD w l.length = vD (2 * w) (l.map (·.2))
  | [], _ => by simp [vP, mD, vD]
  | p :: l, h => by
    obtain ⟨h1, h2⟩ := h p (List.mem_cons_self ..)
    simp only [vP, List.length_cons, mD, List.map_cons, vD]
    have e : (p.1 + 2 ^ w * p.2 + 2 ^ (2 * w) * vP w l) / 2 ^ w = (p.2 + 2 ^ w * (vP w l % 2 ^ w)) + 2 ^ (2 * w) * (vP w l / 2 ^ w) := by
      rw [pow2w, Nat.add_assoc, Nat.mul_assoc, ← Nat.mul_add, Nat.add_comm p.1, Nat.mul_add_div (Nat.two_pow_pos w), Nat.div_eq_of_lt h1, Nat.add_zero, Nat.mul_assoc, Nat.add_assoc, ← Nat.mul_add, Nat.mod_add_div]
    rw [e, and_split (lt_sq h2 (Nat.mod_lt _ (Nat.two_pow_pos w))) (mask_lt w), low_and h2, odd_and l fun q hq => h q (List.mem_cons_of_mem _ hq)]
theorem vD_add (k : Nat) : ∀ (l : List (Nat × Nat)), vD k (l.map (·.2)) + vD k (l.map (·.1)) = vD k (l.map fun p => p.1 + p.2)
  | [] => rfl
  | p :: l => by
    simp only [List.map_cons, vD]
    rw [← vD_add k l, Nat.mul_add]; omega
theorem vP_prs (w : Nat) : ∀ (n : Nat) (l : List Nat), l.length = 2 * n → vP w (prs l) = vD w l ∧ (prs l).length = n ∧ (∀ p ∈ prs l, p.1 ∈ l ∧ p.2 ∈ l) ∧ ((prs l).map fun p => p.1 + p.2).sum = l.sum
  | 0, [], _ => ⟨rfl, rfl, by simp [prs], rfl⟩
  | 0, _ :: _, h => by simp at h
  | n + 1, [], h => by simp at h
  | n + 1, [_], h => by simp at h; omega
  | n + 1, a :: b :: l, h => by
    obtain ⟨h1, h2, h3, h4⟩ := vP_prs w n l (by simp at h; omega)
    refine ⟨?_, by simp [prs, h2], fun p hp => ?_, ?_⟩
    · simp only [prs, vP, vD, h1]
      rw [Nat.mul_add, pow2w, Nat.mul_assoc]; omega
    · simp only [prs, List.mem_cons] at hp ⊢
      rcases hp with rfl | hp
      · exact ⟨.inl rfl, .inr (.inl rfl)⟩
      · obtain ⟨g1, g2⟩ := h3 p hp; exact ⟨.inr (.inr g1), .inr (.inr g2)⟩
    · simp only [prs, List.map_cons, List.sum_cons, h4]; omega
/-- One stage: neighbours added. -/
def sums (l : List Nat) : List Nat := (prs l).map fun p => p.1 + p.2
theorem stage {w n : Nat} {l : List Nat} (hl : l.length = 2 * n) (hd : ∀ d ∈ l, d < 2 ^ w) :
    (vD w l / 2 ^ w &&& mD w n) + (vD w l &&& mD w n) = vD (2 * w) (sums l) := by
  obtain ⟨h1, h2, h3, h4⟩ := vP_prs w n l hl
  have hp : ∀ p ∈ prs l, p.1 < 2 ^ w ∧ p.2 < 2 ^ w := fun p hp => ⟨hd _ (h3 p hp).1, hd _ (h3 p hp).2⟩
  rw [← h1, ← h2, odd_and _ hp, even_and _ hp, vD_add]; rfl
theorem sums_facts {n m : Nat} {l : List Nat} (hl : l.length = 2 * n) (hd : ∀ d ∈ l, d ≤ m) : (sums l).length = n ∧ (sums l).sum = l.sum ∧ ∀ d ∈ sums l, d ≤ 2 * m := by
  obtain ⟨_, h2, h3, h4⟩ := vP_prs 0 n l hl
  refine ⟨by simp [sums, h2], h4, fun d hd' => ?_⟩
  obtain ⟨p, hp, rfl⟩ := List.mem_map.1 hd'
  have g := h3 p hp
  have := hd _ g.1; have := hd _ g.2; omega
theorem vD_bits : ∀ (n x : Nat), vD 1 (bitsL n x) = x % 2 ^ n
  | 0, x => by simp [bitsL, vD, Nat.mod_one]
  | n + 1, x => by
    simp only [bitsL, vD, vD_bits n]
    rw [show 2 ^ (n + 1) = 2 * 2 ^ n from Nat.pow_succ', Nat.mod_mul]
theorem len_bits : ∀ (n x : Nat), (bitsL n x).length = n
  | 0, _ => rfl
  | n + 1, x => by simp [bitsL, len_bits n]
theorem bits_le : ∀ (n x : Nat), ∀ d ∈ bitsL n x, d ≤ 1
  | 0, _, d, h => by simp [bitsL] at h
  | n + 1, x, d, h => by
    simp only [bitsL, List.mem_cons] at h
    rcases h with rfl | h
    · omega
    · exact bits_le n _ d h
theorem vD_lt {k : Nat} : ∀ (l : List Nat), (∀ d ∈ l, d < 2 ^ k) → vD k l < 2 ^ (k * l.length)
  | [], _ => by simp [vD]
  | d :: l, h => by
    have h1 := h d (List.mem_cons_self ..)
    have h2 := vD_lt l fun d hd => h d (List.mem_cons_of_mem _ hd)
    simp only [vD, List.length_cons]
    rw [Nat.mul_add, Nat.mul_one, Nat.pow_add, Nat.mul_comm (2 ^ (k * l.length))]
    have := Nat.mul_le_mul_left (2 ^ k) (show vD k l + 1 ≤ 2 ^ (k * l.length) from h2)
    rw [Nat.mul_add] at this; omega
theorem vP_lt {w : Nat} : ∀ (l : List (Nat × Nat)), (∀ p ∈ l, p.1 < 2 ^ w ∧ p.2 < 2 ^ w) → vP w l < 2 ^ (2 * w * l.length)
  | [], _ => by simp [vP]
  | p :: l, h => by
    obtain ⟨h1, h2⟩ := h p (List.mem_cons_self ..)
    have h3 := vP_lt l fun q hq => h q (List.mem_cons_of_mem _ hq)
    have h4 := lt_sq h1 h2
    simp only [vP, List.length_cons]
    rw [Nat.mul_add, Nat.mul_one, Nat.pow_add, Nat.mul_comm (2 ^ (2 * w * l.length))]
    have := Nat.mul_le_mul_left (2 ^ (2 * w)) (show vP w l + 1 ≤ 2 ^ (2 * w * l.length) from h3)
    rw [Nat.mul_add] at this; omega
/-- The bits of a word, by stages. -/
theorem pop_stages {x : Nat} (hx : x < 2 ^ 64) : ∃ l2 l4 : List Nat,
    (x / 2 ^ 1 &&& 6148914691236517205) + (x &&& 6148914691236517205) = vD 2 l2 ∧ vD 2 l2 < 2 ^ 64 ∧
    (vD 2 l2 / 2 ^ 2 &&& 3689348814741910323) + (vD 2 l2 &&& 3689348814741910323) = vD 4 l4 ∧ l4.length = 16 ∧ (∀ d ∈ l4, d ≤ 4) ∧ l4.sum = popN 64 x := by
  have e0 : vD 1 (bitsL 64 x) = x := by rw [vD_bits, Nat.mod_eq_of_lt hx]
  have f1 := sums_facts (n := 32) (m := 1) (by rw [len_bits]) (bits_le 64 x)
  have s1 := stage (w := 1) (n := 32) (l := bitsL 64 x) (by rw [len_bits]) fun d hd => by have := bits_le 64 x d hd; omega
  rw [e0, show mD 1 32 = 6148914691236517205 by decide] at s1
  have f2 := sums_facts (n := 16) (m := 2) f1.1 f1.2.2
  have s2 := stage (w := 2) (n := 16) (l := sums (bitsL 64 x)) f1.1 fun d hd => by have := f1.2.2 d hd; omega
  rw [show mD 2 16 = 3689348814741910323 by decide] at s2
  have hlt := vD_lt (k := 2) (sums (bitsL 64 x)) fun d hd => by have := f1.2.2 d hd; omega
  rw [f1.1] at hlt
  refine ⟨sums (bitsL 64 x), sums (sums (bitsL 64 x)), s1, hlt, s2, f2.1, f2.2.2, ?_⟩
  rw [f2.2.1, f1.2.1]; rfl
theorem vD_div {k d : Nat} {l : List Nat} (h : d < 2 ^ k) : vD k (d :: l) / 2 ^ k = vD k l := by
  simp only [vD]
  rw [Nat.add_mul_div_left _ _ (Nat.two_pow_pos k), Nat.div_eq_of_lt h, Nat.zero_add]
theorem vD_zip (k : Nat) : ∀ (l m : List Nat), l.length = m.length → vD k l + vD k m = vD k (List.zipWith (· + ·) l m)
  | [], [], _ => rfl
  | [], _ :: _, h => by simp at h
  | _ :: _, [], h => by simp at h
  | a :: l, b :: m, h => by
    simp only [List.zipWith, vD]
    rw [← vD_zip k l m (by simpa using h), Nat.mul_add]; omega
theorem vD_snoc (k : Nat) : ∀ (l : List Nat), vD k (l ++ [0]) = vD k l
  | [] => by simp [vD]
  | a :: l => by simp only [List.cons_append, vD, vD_snoc k l]
theorem vD_step {k d : Nat} {l : List Nat} (h : d < 2 ^ k) : vD k (d :: l) + vD k (d :: l) / 2 ^ k = vD k (List.zipWith (· + ·) (d :: l) (l ++ [0])) := by
  rw [vD_div h, ← vD_snoc k l, vD_zip _ _ _ (by simp)]
theorem div_two (x k j : Nat) : x / 2 ^ (k + j) = x / 2 ^ k / 2 ^ j := by rw [Nat.pow_add, Nat.div_div_eq_div_mul]
theorem pop_bytes {c0 c1 c2 c3 c4 c5 c6 c7 : Nat} (k0 : c0 ≤ 8) (k1 : c1 ≤ 8) (k2 : c2 ≤ 8) (k3 : c3 ≤ 8) (k4 : c4 ≤ 8) (k5 : c5 ≤ 8) (k6 : c6 ≤ 8) (k7 : c7 ≤ 8) :
    ∃ y1 y2 y3, vD 8 [c0, c1, c2, c3, c4, c5, c6, c7] + vD 8 [c0, c1, c2, c3, c4, c5, c6, c7] / 2 ^ 8 = y1 ∧ y1 + y1 / 2 ^ 16 = y2 ∧ y2 + y2 / 2 ^ 32 = y3 ∧ y3 < 2 ^ 64 ∧ y1 < 2 ^ 64 ∧ y2 < 2 ^ 64 ∧ y3 % 128 = c0 + c1 + c2 + c3 + c4 + c5 + c6 + c7 := by
  have e1 := vD_step (k := 8) (d := c0) (l := [c1, c2, c3, c4, c5, c6, c7]) (by omega)
  simp only [List.cons_append, List.nil_append, List.zipWith] at e1
  have d1 : vD 8 [c0 + c1, c1 + c2, c2 + c3, c3 + c4, c4 + c5, c5 + c6, c6 + c7, c7 + 0] / 2 ^ 16 = vD 8 [c2 + c3, c3 + c4, c4 + c5, c5 + c6, c6 + c7, c7 + 0] := by
    rw [show (16 : Nat) = 8 + 8 from rfl, div_two, vD_div (by omega), vD_div (by omega)]
  have e2 : vD 8 [c0 + c1, c1 + c2, c2 + c3, c3 + c4, c4 + c5, c5 + c6, c6 + c7, c7 + 0] + vD 8 [c2 + c3, c3 + c4, c4 + c5, c5 + c6, c6 + c7, c7 + 0, 0, 0] = vD 8 _ := vD_zip 8 _ _ rfl
  simp only [List.zipWith] at e2
  have z2 : vD 8 [c2 + c3, c3 + c4, c4 + c5, c5 + c6, c6 + c7, c7 + 0, 0, 0] = vD 8 [c2 + c3, c3 + c4, c4 + c5, c5 + c6, c6 + c7, c7 + 0] := by simp [vD]
  have d2 : vD 8 [c0 + c1 + (c2 + c3), c1 + c2 + (c3 + c4), c2 + c3 + (c4 + c5), c3 + c4 + (c5 + c6), c4 + c5 + (c6 + c7), c5 + c6 + (c7 + 0), c6 + c7 + 0, c7 + 0 + 0] / 2 ^ 32 = vD 8 [c4 + c5 + (c6 + c7), c5 + c6 + (c7 + 0), c6 + c7 + 0, c7 + 0 + 0] := by
    rw [show (32 : Nat) = 8 + 8 + 8 + 8 from rfl, div_two, div_two, div_two, vD_div (by omega), vD_div (by omega), vD_div (by omega), vD_div (by omega)]
  have e3 : vD 8 [c0 + c1 + (c2 + c3), c1 + c2 + (c3 + c4), c2 + c3 + (c4 + c5), c3 + c4 + (c5 + c6), c4 + c5 + (c6 + c7), c5 + c6 + (c7 + 0), c6 + c7 + 0, c7 + 0 + 0] + vD 8 [c4 + c5 + (c6 + c7), c5 + c6 + (c7 + 0), c6 + c7 + 0, c7 + 0 + 0, 0, 0, 0, 0] = vD 8 _ := vD_zip 8 _ _ rfl
  simp only [List.zipWith] at e3
  have z3 : vD 8 [c4 + c5 + (c6 + c7), c5 + c6 + (c7 + 0), c6 + c7 + 0, c7 + 0 + 0, 0, 0, 0, 0] = vD 8 [c4 + c5 + (c6 + c7), c5 + c6 + (c7 + 0), c6 + c7 + 0, c7 + 0 + 0] := by simp [vD]
  rw [z2, ← d1] at e2
  rw [z3, ← d2] at e3
  refine ⟨_, _, _, e1, e2, e3, ?_, ?_, ?_, ?_⟩
  · refine vD_lt (k := 8) _ fun d hd => ?_
    simp only [List.mem_cons, List.not_mem_nil, or_false] at hd
    omega
  · refine vD_lt (k := 8) _ fun d hd => ?_
    simp only [List.mem_cons, List.not_mem_nil, or_false] at hd
    omega
  · refine vD_lt (k := 8) _ fun d hd => ?_
    simp only [List.mem_cons, List.not_mem_nil, or_false] at hd
    omega
  · rw [vD, show (2 : Nat) ^ 8 = 128 * 2 from rfl, Nat.mul_assoc, Nat.add_mul_mod_self_left]
    omega
theorem pop_end {l4 : List Nat} (hl : l4.length = 16) (hd : ∀ d ∈ l4, d ≤ 4) : ∃ y8 : Nat, vD 4 l4 / 2 ^ 4 + vD 4 l4 < 2 ^ 64 ∧ (vD 4 l4 / 2 ^ 4 + vD 4 l4) &&& 1085102592571150095 = y8 ∧ ∃ y1 y2 y3 : Nat, y8 + y8 / 2 ^ 8 = y1 ∧ y1 + y1 / 2 ^ 16 = y2 ∧ y2 + y2 / 2 ^ 32 = y3 ∧ y3 < 2 ^ 64 ∧ y1 < 2 ^ 64 ∧ y2 < 2 ^ 64 ∧ y3 % 128 = l4.sum := by
  match l4, hl, hd with
  | [a0, a1, a2, a3, a4, a5, a6, a7, a8, a9, b0, b1, b2, b3, b4, b5], _, hd =>
    simp only [List.mem_cons, List.not_mem_nil, or_false, forall_eq_or_imp, forall_eq] at hd
    obtain ⟨h0, h1, h2, h3, h4, h5, h6, h7, h8, h9, g0, g1, g2, g3, g4, g5⟩ := hd
    have e := vD_step (k := 4) (d := a0) (l := [a1, a2, a3, a4, a5, a6, a7, a8, a9, b0, b1, b2, b3, b4, b5]) (by omega)
    simp only [List.cons_append, List.nil_append, List.zipWith] at e
    rw [Nat.add_comm] at e
    obtain ⟨e', _, _, _⟩ := vP_prs 4 8 [a0 + a1, a1 + a2, a2 + a3, a3 + a4, a4 + a5, a5 + a6, a6 + a7, a7 + a8, a8 + a9, a9 + b0, b0 + b1, b1 + b2, b2 + b3, b3 + b4, b4 + b5, b5 + 0] rfl
    simp only [prs] at e'
    rw [← e'] at e
    have hp : ∀ p ∈ [(a0 + a1, a1 + a2), (a2 + a3, a3 + a4), (a4 + a5, a5 + a6), (a6 + a7, a7 + a8), (a8 + a9, a9 + b0), (b0 + b1, b1 + b2), (b2 + b3, b3 + b4), (b4 + b5, b5 + 0)], p.1 < 2 ^ 4 ∧ p.2 < 2 ^ 4 := by
      simp only [List.mem_cons, List.not_mem_nil, or_false, forall_eq_or_imp, forall_eq]
      refine ⟨⟨?_, ?_⟩, ⟨?_, ?_⟩, ⟨?_, ?_⟩, ⟨?_, ?_⟩, ⟨?_, ?_⟩, ⟨?_, ?_⟩, ⟨?_, ?_⟩, ?_, ?_⟩ <;> omega
    have hand := even_and _ hp
    have hlt := vP_lt _ hp
    rw [show mD 4 (List.length [(a0 + a1, a1 + a2), (a2 + a3, a3 + a4), (a4 + a5, a5 + a6), (a6 + a7, a7 + a8), (a8 + a9, a9 + b0), (b0 + b1, b1 + b2), (b2 + b3, b3 + b4), (b4 + b5, b5 + 0)]) = 1085102592571150095 by simp only [List.length_cons, List.length_nil]; decide] at hand
    have hsum : [a0, a1, a2, a3, a4, a5, a6, a7, a8, a9, b0, b1, b2, b3, b4, b5].sum = (a0 + a1) + (a2 + a3) + (a4 + a5) + (a6 + a7) + (a8 + a9) + (b0 + b1) + (b2 + b3) + (b4 + b5) := by
      simp only [List.sum_cons, List.sum_nil, Nat.add_zero, Nat.add_assoc]
    clear hp
    refine ⟨_, by rw [e]; exact hlt, by rw [e, hand], ?_⟩
    rw [hsum]
    simp only [List.map_cons, List.map_nil]
    clear hand hlt e e' hsum
    exact pop_bytes (by omega) (by omega) (by omega) (by omega) (by omega) (by omega) (by omega) (by omega)
end Go.Vc
namespace Go.Proofs.Tst
open Go Go.Vc
theorem i64_bits {y : Nat} (h : y < 18446744073709551616) : (BitVec.ofInt 64 (IntKind.i64.wrap (y : Int))).toNat = y := by
  have e : ((2 ^ 64 : Nat) : Int) = 18446744073709551616 := by decide
  rw [BitVec.toNat_ofInt, IntKind.wrap_i64, e]
  by_cases h2 : y < 9223372036854775808
  · rw [show ((y : Int) + 9223372036854775808) % 18446744073709551616 - 9223372036854775808 = (y : Int) by omega]
    rw [show (y : Int) % 18446744073709551616 = (y : Int) by omega]
    rfl
  · rw [show ((y : Int) + 9223372036854775808) % 18446744073709551616 - 9223372036854775808 = (y : Int) - 18446744073709551616 by omega]
    rw [show ((y : Int) - 18446744073709551616) % 18446744073709551616 = (y : Int) by omega]
    rfl
theorem OnesCount64 {x : Nat} {h : Heap} (hx : x < 2 ^ 64) : Con Tryd.prog 84 #[.int .u64 x] h fun v h' => h' = h ∧ v = .int .i64 (popN 64 x) := by
  refine con_math_bits_OnesCount64 ?_
  obtain ⟨l2, l4, s1, b2, s2, hl, hd, hsum⟩ := pop_stages hx
  obtain ⟨y8, b4, e8, y1, y2, y3, e1, e2, e3, c3, c1, c2, hy⟩ := pop_end hl hd
  have k1 : (x : Int).fdiv (2 ^ min (Int.toNat 1) 64) = ((x / 2 ^ 1 : Nat) : Int) := shr64 x 1 (by decide)
  have k2 : ((vD 2 l2 : Nat) : Int).fdiv (2 ^ min (Int.toNat 2) 64) = ((vD 2 l2 / 2 ^ 2 : Nat) : Int) := shr64 _ 2 (by decide)
  have k3 : ((vD 4 l4 : Nat) : Int).fdiv (2 ^ min (Int.toNat 4) 64) = ((vD 4 l4 / 2 ^ 4 : Nat) : Int) := shr64 _ 4 (by decide)
  have k4 : ((y8 : Nat) : Int).fdiv (2 ^ min (Int.toNat 8) 64) = ((y8 / 2 ^ 8 : Nat) : Int) := shr64 _ 8 (by decide)
  have k5 : ((y1 : Nat) : Int).fdiv (2 ^ min (Int.toNat 16) 64) = ((y1 / 2 ^ 16 : Nat) : Int) := shr64 _ 16 (by decide)
  have k6 : ((y2 : Nat) : Int).fdiv (2 ^ min (Int.toNat 32) 64) = ((y2 / 2 ^ 32 : Nat) : Int) := shr64 _ 32 (by decide)
  have a1 : IntKind.u64.wrap ((BitVec.ofInt IntKind.u64.bits ((x / 2 ^ 1 : Nat) : Int) &&& BitVec.ofInt IntKind.u64.bits 6148914691236517205).toNat : Int) = _ := and64 (a := x / 2 ^ 1) (b := 6148914691236517205) (by omega) (by decide)
  have a1' : IntKind.u64.wrap ((BitVec.ofInt IntKind.u64.bits (x : Int) &&& BitVec.ofInt IntKind.u64.bits 6148914691236517205).toNat : Int) = _ := and64 (a := x) (b := 6148914691236517205) hx (by decide)
  have a2 : IntKind.u64.wrap ((BitVec.ofInt IntKind.u64.bits ((vD 2 l2 / 2 ^ 2 : Nat) : Int) &&& BitVec.ofInt IntKind.u64.bits 3689348814741910323).toNat : Int) = _ := and64 (a := vD 2 l2 / 2 ^ 2) (b := 3689348814741910323) (by omega) (by decide)
  have a2' : IntKind.u64.wrap ((BitVec.ofInt IntKind.u64.bits ((vD 2 l2 : Nat) : Int) &&& BitVec.ofInt IntKind.u64.bits 3689348814741910323).toNat : Int) = _ := and64 (a := vD 2 l2) (b := 3689348814741910323) b2 (by decide)
  have w1 : IntKind.u64.wrap (((x / 2 ^ 1 &&& 6148914691236517205 : Nat) : Int) + ((x &&& 6148914691236517205 : Nat) : Int)) = ((vD 2 l2 : Nat) : Int) := by
    rw [← s1, wrapu64 (by omega) (by rw [← Int.natCast_add, s1]; omega)]; rfl
  have hb4 : vD 4 l4 < 2 ^ 64 := by omega
  have w2 : IntKind.u64.wrap (((vD 2 l2 / 2 ^ 2 &&& 3689348814741910323 : Nat) : Int) + ((vD 2 l2 &&& 3689348814741910323 : Nat) : Int)) = ((vD 4 l4 : Nat) : Int) := by
    rw [← s2, wrapu64 (by omega) (by rw [← Int.natCast_add, s2]; omega)]; rfl
  have w3 : IntKind.u64.wrap (((vD 4 l4 / 2 ^ 4 : Nat) : Int) + ((vD 4 l4 : Nat) : Int)) = ((vD 4 l4 / 2 ^ 4 + vD 4 l4 : Nat) : Int) := by
    rw [wrapu64 (by omega) (by omega)]; omega
  have a3 : IntKind.u64.wrap ((BitVec.ofInt IntKind.u64.bits ((vD 4 l4 / 2 ^ 4 + vD 4 l4 : Nat) : Int) &&& BitVec.ofInt IntKind.u64.bits 1085102592571150095).toNat : Int) = (y8 : Int) := by
    rw [← e8]; exact and64 (a := vD 4 l4 / 2 ^ 4 + vD 4 l4) (b := 1085102592571150095) b4 (by decide)
  have w4 : IntKind.u64.wrap ((y8 : Int) + ((y8 / 2 ^ 8 : Nat) : Int)) = (y1 : Int) := by rw [wrapu64 (by omega) (by omega)]; omega
  have w5 : IntKind.u64.wrap ((y1 : Int) + ((y1 / 2 ^ 16 : Nat) : Int)) = (y2 : Int) := by rw [wrapu64 (by omega) (by omega)]; omega
  have w6 : IntKind.u64.wrap ((y2 : Int) + ((y2 / 2 ^ 32 : Nat) : Int)) = (y3 : Int) := by rw [wrapu64 (by omega) (by omega)]; omega
  simp -dsimp only [go_sem, k1, a1, a1', w1, k2, a2, a2', w2, k3, w3, a3, k4, w4, k5, w5, k6, w6]
  have c0 : (BitVec.ofInt IntKind.i64.bits (IntKind.i64.wrap (y3 : Int))).toNat = y3 := by
    exact i64_bits c3
  have c5 : (BitVec.ofInt IntKind.i64.bits 127).toNat = 2 ^ 7 - 1 := by decide
  have hlt : popN 64 x < 128 := by rw [← hsum, ← hy]; omega
  rw [BitVec.toNat_and, c0, c5, Nat.and_two_pow_sub_one_eq_mod, show (2 : Nat) ^ 7 = 128 from rfl, hy, hsum]
  generalize popN 64 x = z at hlt
  rw [wrap64 (by omega) (by omega)]
theorem popN_filter (g : Nat → Bool) : ∀ (n x a : Nat), (∀ i, i < n → g (a + i) = x.testBit i) → ((List.range' a n).filter g).length = popN n x
  | 0, x, a, _ => rfl
  | n + 1, x, a, h => by
    have ih := popN_filter g n (x / 2) (a + 1) fun i hi => by
      have := h (i + 1) (by omega)
      rw [Nat.testBit_succ] at this
      rw [← this]; congr 1; omega
    have h0 := h 0 (by omega)
    rw [Nat.add_zero, Nat.testBit_zero] at h0
    rw [List.range'_succ, List.filter_cons]
    simp only [popN, bitsL, List.sum_cons] at ih ⊢
    rcases Nat.mod_two_eq_zero_or_one x with e | e
    · rw [h0, e]; simp [ih]
    · rw [h0, e]; simp [ih]; omega
/-- The bits of a row's words, added up. -/
def popW (W : Nat → Nat) : Nat → Nat
  | 0 => 0
  | k + 1 => popW W k + popN 64 (W k)
theorem popW_rest (W : Nat → Nat) : ∀ k, (rest (wbit W) (64 * k) 0).length = popW W k
  | 0 => by simp [rest, popW]
  | k + 1 => by
    have := popW_rest W k
    unfold rest at this ⊢
    rw [Nat.sub_zero] at this ⊢
    rw [show 64 * (k + 1) = 64 * k + 64 from by omega, ← List.range'_append_1, List.filter_append, List.length_append, this, popW]
    refine congrArg (popW W k + ·) ?_
    refine popN_filter _ 64 (W k) _ fun i hi => ?_
    unfold wbit
    rw [show (0 + 64 * k + i) / 64 = k from by omega, show (0 + 64 * k + i) % 64 = i from by omega]
theorem popW_bits {n : Nat} {W : Nat → Nat} {f : Nat → Bool} (b : Bits n W f) : popW W (nw n) = (rest f n 0).length := by rw [← rest_bits b, popW_rest]
theorem popN_le (n x : Nat) : popN n x ≤ n := by
  have := popN_filter (fun i => x.testBit i) n x 0 fun i _ => by rw [Nat.zero_add]
  rw [← this]; exact Nat.le_trans (List.length_filter_le _ _) (by simp)
theorem popW_le (W : Nat → Nat) : ∀ k, popW W k ≤ 64 * k
  | 0 => Nat.le_refl _
  | k + 1 => by have := popW_le W k; have := popN_le 64 (W k); simp only [popW]; omega
theorem length_pairsTo_succ (n : Nat) (M : Nat → Nat → Bool) (k : Nat) : (pairsTo n M (k + 1)).length = (pairsTo n M k).length + (rest (M k) n 0).length := by
  rw [pairsTo_succ, List.length_append, List.length_map]
theorem rel_Size {n : Nat} {M : Nat → Nat → Bool} {p : Value} {lo hi : Nat} {h : Heap} (hr : ProgAt h lo hi p n M) :
    Con Tryd.prog 39 #[p] h fun v h' => h' = h ∧ v = .int .i64 (pairsOf n M).length := by
  refine con_rel_Rel_Size ?_
  obtain ⟨hn, pb, rb, R, W, rfl, t⟩ := hr
  have hle : ∀ k, k ≤ n → (pairsTo n M k).length ≤ 65536 := fun k hk => Nat.le_trans (length_pairsTo_le n M k) (Nat.le_trans (Nat.mul_le_mul (show k ≤ 256 by omega) hn) (by omega))
  simp -dsimp only [go_sem, t.ptr.cell]
  refine loop_intro (fun a : Nat => [(3, .int .i64 (pairsTo n M a).length), (11, .slice (some ⟨rb, 0, none⟩) n n), (12, .int .i64 n), (13, .int .i64 a)])
    (fun a h' => h' = h ∧ a ≤ n) (fun a => n - a) 0 ?_ ?_ ?_
  · simp [Le, find, pairsTo]
  · exact ⟨rfl, by omega⟩
  rintro a h0 ⟨hh, ha⟩
  obtain rfl : h = h0 := hh.symm
  simp -dsimp only [go_sem]
  refine ⟨fun hlt => ?_, fun hge => ?_⟩
  · have hlt : a < n := by omega
    obtain ⟨g1, g2, g3, g4, g5, g6⟩ := t.row a hlt
    have h1 := hle a ha
    simp -dsimp only [go_sem]
    refine Chk_intro (by omega) ?_
    simp -dsimp only [go_sem, t.rowsGet hlt]
    refine loop_intro (fun j : Nat => [(3, .int .i64 ((pairsTo n M a).length + popW (W a) j : Nat)), (11, .slice (some ⟨rb, 0, none⟩) n n), (12, .int .i64 n), (13, .int .i64 a), (17, .slice (some ⟨R a, 0, none⟩) (nw n) (nw n)), (18, .int .i64 (nw n)), (19, .int .i64 j)])
      (fun j h' => h' = h ∧ j ≤ nw n) (fun j => nw n - j) 0 ?_ ?_ ?_
    · simp [Le, find, popW]
    · exact ⟨rfl, by omega⟩
    rintro j h0 ⟨hh, hj⟩
    obtain rfl : h = h0 := hh.symm
    simp -dsimp only [go_sem]
    refine ⟨fun hlt2 => ?_, fun hge2 => ?_⟩
    · have hlt2 : j < nw n := by omega
      have hw := popW_le (W a) j
      have hp := popN_le 64 (W a j)
      have hnw : nw n ≤ 4 := by unfold nw; omega
      simp -dsimp only [go_sem]
      refine Chk_intro (by omega) ?_
      simp -dsimp only [go_sem, g1.cell, wrow_get hlt2]
      refine call_of (OnesCount64 (g6 j).1) ?_
      rintro v h2 ⟨rfl, rfl⟩
      simp -dsimp only [go_sem]
      simp -dsimp (disch := omega) only [wrap64]
      refine ⟨j + 1, by omega, ?_, by omega⟩
      have e : (((pairsTo n M a).length + popW (W a) j : Nat) : Int) + (popN 64 (W a j) : Nat) = ((pairsTo n M a).length + popW (W a) (j + 1) : Nat) := by simp only [popW]; omega
      simp [Le, find, ← e]
    · obtain rfl : j = nw n := by omega
      rw [popW_bits g6, ← length_pairsTo_succ]
      simp -dsimp only [go_sem]
      simp -dsimp (disch := omega) only [wrap64]
      exact ⟨a + 1, by omega, by simp [Le, find], by omega⟩
  · obtain rfl : a = n := by omega
    simp -dsimp only [go_sem]
    rfl
end Go.Proofs.Tst
