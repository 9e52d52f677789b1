/-
  Contracts of functions that the law reaches: what each returns and what it leaves in memory. Conditions stand in each.
-/
import Derived.Test.YtgedofjefepebaaDoorT2
set_option linter.all false
set_option maxRecDepth 2000
namespace Go.Proofs.Tst
open Go Go.Vc
theorem rel_Copy {n : Nat} {M : Nat → Nat → Bool} {p : Value} {lo hi : Nat} {h : Heap} (hr : ProgAt h lo hi p n M) :
    Con Tryd.prog 56 #[p] h fun v h' => Fr 0 0 h h' ∧ ProgAt h' h.size h'.size v n (inN n M) := by
  refine con_rel_Rel_Copy ?_
  simp -dsimp only [go_sem, ↓reduceIte, reduceCtorEq, Nat.reduceEqDiff, Nat.reduceAdd, Nat.reduceLeDiff, Nat.reduceMul, Int.reduceBEq, Int.reduceBNe, Int.reduceLT, Int.reduceLE, Int.reduceGT, Int.reduceGE]
  refine call_of (rel_wide hr 0 (by omega)) ?_
  rintro v h1 ⟨p1, t1⟩
  simp -dsimp only [go_sem, ↓reduceIte, reduceCtorEq, Nat.reduceEqDiff, Nat.reduceAdd, Nat.reduceLeDiff, Nat.reduceMul, Int.reduceBEq, Int.reduceBNe, Int.reduceLT, Int.reduceLE, Int.reduceGT, Int.reduceGE]
  exact ⟨p1, by rwa [Nat.zero_max] at t1⟩
theorem rel_Irreflexive {n : Nat} {M : Nat → Nat → Bool} {p : Value} {lo hi : Nat} {h : Heap} (hr : ProgAt h lo hi p n M) :
    Con Tryd.prog 46 #[p] h fun v h' => h' = h ∧ v = .bool (irrB n M) := by
  refine con_rel_Irreflexive ?_
  obtain ⟨hn, pb, rb, R, W, rfl, t⟩ := hr
  simp -dsimp only [go_sem, ↓reduceIte, reduceCtorEq, Nat.reduceEqDiff, Nat.reduceAdd, Nat.reduceLeDiff, Nat.reduceMul, Int.reduceBEq, Int.reduceBNe, Int.reduceLT, Int.reduceLE, Int.reduceGT, Int.reduceGE, t.ptr.cell]
  refine loop_intro (fun a : Nat => [(8, .slice (some ⟨rb, 0, none⟩) n n), (9, .int .i64 n), (10, .int .i64 a)])
    (fun a h' => h' = h ∧ a ≤ n ∧ ∀ i, i < a → M i i = false) (fun a => n - a) 0 ?_ ?_ ?_
  · simp [Le, find]
  · exact ⟨rfl, by omega, by omega⟩
  rintro a _ ⟨rfl, ha, hinv⟩
  simp -dsimp only [go_sem, ↓reduceIte, reduceCtorEq, Nat.reduceEqDiff, Nat.reduceAdd, Nat.reduceLeDiff, Nat.reduceMul, Int.reduceBEq, Int.reduceBNe, Int.reduceLT, Int.reduceLE, Int.reduceGT, Int.reduceGE]
  refine ⟨fun hlt => ?_, fun hge => ?_⟩
  · have hlt : a < n := by omega
    obtain ⟨g1, g2, g3, g4, g5, g6⟩ := t.row a hlt
    simp -dsimp only [go_sem, ↓reduceIte, reduceCtorEq, Nat.reduceEqDiff, Nat.reduceAdd, Nat.reduceLeDiff, Nat.reduceMul, Int.reduceBEq, Int.reduceBNe, Int.reduceLT, Int.reduceLE, Int.reduceGT, Int.reduceGE]
    refine Chk_intro (by omega) ?_
    simp -dsimp only [go_sem, ↓reduceIte, reduceCtorEq, Nat.reduceEqDiff, Nat.reduceAdd, Nat.reduceLeDiff, Nat.reduceMul, Int.reduceBEq, Int.reduceBNe, Int.reduceLT, Int.reduceLE, Int.reduceGT, Int.reduceGE, t.rowsGet hlt]
    refine call_of (row_has (p := a) (ptab_rd t hlt) (by unfold nw; omega) (g6 _).1 (by omega)) ?_
    rintro v h1 ⟨rfl, rfl⟩
    rw [g6.get hlt]
    cases hm : M a a with
    | true =>
      simp -dsimp only [go_sem, ↓reduceIte, reduceCtorEq, Nat.reduceEqDiff, Nat.reduceAdd, Nat.reduceLeDiff, Nat.reduceMul, Int.reduceBEq, Int.reduceBNe, Int.reduceLT, Int.reduceLE, Int.reduceGT, Int.reduceGE]
      have : irrB n M = false := by
        rw [Bool.eq_false_iff]; intro h'
        have := List.all_eq_true.1 h' a (List.mem_range.2 hlt)
        simp [hm] at this
      rw [this]
    | false =>
      simp -dsimp only [go_sem, ↓reduceIte, reduceCtorEq, Nat.reduceEqDiff, Nat.reduceAdd, Nat.reduceLeDiff, Nat.reduceMul, Int.reduceBEq, Int.reduceBNe, Int.reduceLT, Int.reduceLE, Int.reduceGT, Int.reduceGE]
      simp -dsimp (disch := omega) only [wrap64]
      refine ⟨a + 1, by omega, by simp [Le, find], by omega, fun i hi => ?_⟩
      by_cases hia : i = a
      · subst hia; exact hm
      · exact hinv i (by omega)
  · have : a = n := by omega
    subst this
    simp -dsimp only [go_sem, ↓reduceIte, reduceCtorEq, Nat.reduceEqDiff, Nat.reduceAdd, Nat.reduceLeDiff, Nat.reduceMul, Int.reduceBEq, Int.reduceBNe, Int.reduceLT, Int.reduceLE, Int.reduceGT, Int.reduceGE]
    have : irrB a M = true := List.all_eq_true.2 fun i hi => by rw [hinv i (List.mem_range.1 hi)]; rfl
    rw [this]
theorem rel_Plus {n : Nat} {M : Nat → Nat → Bool} {p : Value} {lo hi : Nat} {h : Heap} (hr : ProgAt h lo hi p n M) :
    Con Tryd.prog 30 #[p] h fun v h' => Fr 0 0 h h' ∧ ProgAt h' h.size h'.size v n (plusM n M) := by
  refine con_rel_Plus ?_
  simp -dsimp only [go_sem, ↓reduceIte, reduceCtorEq, Nat.reduceEqDiff, Nat.reduceAdd, Nat.reduceLeDiff, Nat.reduceMul, Int.reduceBEq, Int.reduceBNe, Int.reduceLT, Int.reduceLE, Int.reduceGT, Int.reduceGE]
  refine call_of (rel_Copy hr) ?_
  rintro v1 h1 ⟨p1, hn, pb1, rb1, R1, W1, rfl, t1⟩
  have at1 := t1.at_
  simp -dsimp only [go_sem, ↓reduceIte, reduceCtorEq, Nat.reduceEqDiff, Nat.reduceAdd, Nat.reduceLeDiff, Nat.reduceMul, Int.reduceBEq, Int.reduceBNe, Int.reduceLT, Int.reduceLE, Int.reduceGT, Int.reduceGE, t1.ptr.cell]
  refine loop_intro (fun k : Nat => [(3, .pointer (some ⟨pb1, 0, none⟩)), (11, .int .i64 n), (12, .int .i64 k)])
    (fun k h' => k ≤ n ∧ Fr 0 0 h h' ∧ h1.size ≤ h'.size ∧ ∃ W, PTab h' h.size h1.size pb1 rb1 n R1 W (warM n M k)) (fun k => n - k) 0 ?_ ?_ ?_
  · simp [Le, find]
  · exact ⟨by omega, p1, by omega, _, t1.congr fun i j hi hj => inN_in hi hj⟩
  rintro k h2 ⟨hk, p0, y2, W2, t2⟩
  simp -dsimp only [go_sem, ↓reduceIte, reduceCtorEq, Nat.reduceEqDiff, Nat.reduceAdd, Nat.reduceLeDiff, Nat.reduceMul, Int.reduceBEq, Int.reduceBNe, Int.reduceLT, Int.reduceLE, Int.reduceGT, Int.reduceGE]
  refine ⟨fun hlt => ?_, fun hge => ?_⟩
  · have hlt : k < n := by omega
    simp -dsimp only [go_sem, ↓reduceIte, reduceCtorEq, Nat.reduceEqDiff, Nat.reduceAdd, Nat.reduceLeDiff, Nat.reduceMul, Int.reduceBEq, Int.reduceBNe, Int.reduceLT, Int.reduceLE, Int.reduceGT, Int.reduceGE, t2.ptr.cell]
    refine loop_intro (fun a : Nat => [(3, .pointer (some ⟨pb1, 0, none⟩)), (4, .int .i64 k), (11, .int .i64 n), (12, .int .i64 k), (18, .int .i64 n), (19, .int .i64 a)])
      (fun a h' => a ≤ n ∧ Fr 0 0 h h' ∧ h1.size ≤ h'.size ∧ ∃ W, PTab h' h.size h1.size pb1 rb1 n R1 W fun i j => if i < a then warM n M (k + 1) i j else warM n M k i j) (fun a => n - a) 0 ?_ ?_ ?_
    · simp [Le, find]
    · exact ⟨by omega, p0, by omega, _, t2.congr fun i j hi hj => by simp⟩
    rintro a h3 ⟨ha, p0, y3, W3, t3⟩
    have p0_z := p0.size
    simp -dsimp only [go_sem, ↓reduceIte, reduceCtorEq, Nat.reduceEqDiff, Nat.reduceAdd, Nat.reduceLeDiff, Nat.reduceMul, Int.reduceBEq, Int.reduceBNe, Int.reduceLT, Int.reduceLE, Int.reduceGT, Int.reduceGE]
    refine ⟨fun hlt2 => ?_, fun hge2 => ?_⟩
    · have hlt2 : a < n := by omega
      obtain ⟨g1, g2, g3, g4, g5, g6⟩ := t3.row a hlt2
      obtain ⟨f1, f2, f3, f4, f5, f6⟩ := t3.row k hlt
      simp -dsimp only [go_sem, ↓reduceIte, reduceCtorEq, Nat.reduceEqDiff, Nat.reduceAdd, Nat.reduceLeDiff, Nat.reduceMul, Int.reduceBEq, Int.reduceBNe, Int.reduceLT, Int.reduceLE, Int.reduceGT, Int.reduceGE, t3.ptr.cell]
      refine Chk_intro (by omega) ?_
      simp -dsimp only [go_sem, ↓reduceIte, reduceCtorEq, Nat.reduceEqDiff, Nat.reduceAdd, Nat.reduceLeDiff, Nat.reduceMul, Int.reduceBEq, Int.reduceBNe, Int.reduceLT, Int.reduceLE, Int.reduceGT, Int.reduceGE, t3.rowsGet hlt2]
      refine call_of (row_has (p := k) (ptab_rd t3 hlt2) (by unfold nw; omega) (g6 _).1 (by omega)) ?_
      rintro v h4 ⟨rfl, rfl⟩
      rw [g6.get hlt]
      simp only [Nat.lt_irrefl, if_false]
      cases hm : warM n M k a k with
      | true =>
        simp -dsimp only [go_sem, ↓reduceIte, reduceCtorEq, Nat.reduceEqDiff, Nat.reduceAdd, Nat.reduceLeDiff, Nat.reduceMul, Int.reduceBEq, Int.reduceBNe, Int.reduceLT, Int.reduceLE, Int.reduceGT, Int.reduceGE, t3.ptr.cell]
        refine Chk_intro (by omega) ?_
        simp -dsimp only [go_sem, ↓reduceIte, reduceCtorEq, Nat.reduceEqDiff, Nat.reduceAdd, Nat.reduceLeDiff, Nat.reduceMul, Int.reduceBEq, Int.reduceBNe, Int.reduceLT, Int.reduceLE, Int.reduceGT, Int.reduceGE, t3.rowsGet hlt2, t3.ptr.cell]
        refine Chk_intro (by omega) ?_
        simp -dsimp only [go_sem, ↓reduceIte, reduceCtorEq, Nat.reduceEqDiff, Nat.reduceAdd, Nat.reduceLeDiff, Nat.reduceMul, Int.reduceBEq, Int.reduceBNe, Int.reduceLT, Int.reduceLE, Int.reduceGT, Int.reduceGE, t3.rowsGet hlt]
        intro b5 h5 n5
        have n5_a := n5.at_
        have n5_z := n5.size
        replace p0 := p0.fresh (n5.fr (lo := 0) (hi := 0)) (by omega)
        replace t3 := t3.fr (n5.fr (lo := 0) (hi := 0)) (by omega)
        have r5 := n5.row
        obtain ⟨g1, g2, g3, g4, g5, g6⟩ := t3.row a hlt2
        obtain ⟨f1, f2, f3, f4, f5, f6⟩ := t3.row k hlt
        simp -dsimp only [go_sem, ↓reduceIte, reduceCtorEq, Nat.reduceEqDiff, Nat.reduceAdd, Nat.reduceLeDiff, Nat.reduceMul, Int.reduceBEq, Int.reduceBNe, Int.reduceLT, Int.reduceLE, Int.reduceGT, Int.reduceGE, t3.rowsGet hlt, t3.rowsGet hlt2, t3.ptr.cell, r5.cell]
        refine call_of (row_join g1 f1 (r5.rd rfl) (fun j => (g6 j).1) (fun j => (f6 j).1) (by unfold nw; omega) (by unfold nw; omega)) ?_
        rintro _ h6 ⟨q6, z6, r6⟩
        have t6 := t3.updRow hlt2 q6 r6 (g6.or f6 (by omega))
        have q6_z := q6.size
        replace p0 := p0.fresh q6 (by omega)
        simp -dsimp only [go_sem, ↓reduceIte, reduceCtorEq, Nat.reduceEqDiff, Nat.reduceAdd, Nat.reduceLeDiff, Nat.reduceMul, Int.reduceBEq, Int.reduceBNe, Int.reduceLT, Int.reduceLE, Int.reduceGT, Int.reduceGE, t6.ptr.cell, t6.rowsGet hlt, t6.rowsGet hlt2]
        simp -dsimp (disch := omega) only [wrap64]
        refine ⟨a + 1, by omega, by simp [Le, find], by omega, p0, by omega, _, t6.congr fun i j hi hj => ?_⟩
        by_cases hia : i = a
        · subst hia
          have e : (if k < i then warM n M (k + 1) k j else warM n M k k j) = warM n M k k j := by split <;> simp [warM_self]
          rw [upd_same, if_pos (Nat.lt_succ_self _)]
          simp only [Nat.lt_irrefl, if_false, e, hj, decide_true, Bool.true_and]
          simp only [warM, hm, Bool.true_and]
        · rw [upd_ne _ _ hia]
          have : (i < a + 1) = (i < a) := by simp; omega
          simp [this]
      | false =>
        simp -dsimp only [go_sem, ↓reduceIte, reduceCtorEq, Nat.reduceEqDiff, Nat.reduceAdd, Nat.reduceLeDiff, Nat.reduceMul, Int.reduceBEq, Int.reduceBNe, Int.reduceLT, Int.reduceLE, Int.reduceGT, Int.reduceGE]
        simp -dsimp (disch := omega) only [wrap64]
        refine ⟨a + 1, by omega, by simp [Le, find], by omega, p0, by omega, _, t3.congr fun i j hi hj => ?_⟩
        by_cases hia : i = a
        · subst hia
          simp [warM, hm]
        · have : (i < a + 1) = (i < a) := by simp; omega
          simp [this]
    · have : a = n := by omega
      subst this
      simp -dsimp only [go_sem, ↓reduceIte, reduceCtorEq, Nat.reduceEqDiff, Nat.reduceAdd, Nat.reduceLeDiff, Nat.reduceMul, Int.reduceBEq, Int.reduceBNe, Int.reduceLT, Int.reduceLE, Int.reduceGT, Int.reduceGE]
      simp -dsimp (disch := omega) only [wrap64]
      exact ⟨k + 1, by omega, by simp [Le, find], by omega, p0, by omega, _, t3.congr fun i j hi hj => by simp [hi]⟩
  · have : k = n := by omega
    subst this
    simp -dsimp only [go_sem, ↓reduceIte, reduceCtorEq, Nat.reduceEqDiff, Nat.reduceAdd, Nat.reduceLeDiff, Nat.reduceMul, Int.reduceBEq, Int.reduceBNe, Int.reduceLT, Int.reduceLE, Int.reduceGT, Int.reduceGE]
    exact ⟨p0, hn, _, _, _, _, rfl, t2.mono' y2⟩
theorem rel_Acyclic {n : Nat} {M : Nat → Nat → Bool} {p : Value} {lo hi : Nat} {h : Heap} (hr : ProgAt h lo hi p n M) :
    Con Tryd.prog 45 #[p] h fun v h' => Fr 0 0 h h' ∧ v = .bool (irrB n (plusM n M)) := by
  refine con_rel_Acyclic ?_
  simp -dsimp only [go_sem, ↓reduceIte, reduceCtorEq, Nat.reduceEqDiff, Nat.reduceAdd, Nat.reduceLeDiff, Nat.reduceMul, Int.reduceBEq, Int.reduceBNe, Int.reduceLT, Int.reduceLE, Int.reduceGT, Int.reduceGE]
  refine call_of (rel_Plus hr) ?_
  rintro v1 h1 ⟨p1, t1⟩
  simp -dsimp only [go_sem, ↓reduceIte, reduceCtorEq, Nat.reduceEqDiff, Nat.reduceAdd, Nat.reduceLeDiff, Nat.reduceMul, Int.reduceBEq, Int.reduceBNe, Int.reduceLT, Int.reduceLE, Int.reduceGT, Int.reduceGE]
  refine call_of (rel_Irreflexive t1) ?_
  rintro v2 h2 ⟨rfl, rfl⟩
  simp -dsimp only [go_sem, ↓reduceIte, reduceCtorEq, Nat.reduceEqDiff, Nat.reduceAdd, Nat.reduceLeDiff, Nat.reduceMul, Int.reduceBEq, Int.reduceBNe, Int.reduceLT, Int.reduceLE, Int.reduceGT, Int.reduceGE]
  exact p1
end Go.Proofs.Tst
/-
  order.Extensions: the lists are those of extGo, in their order.
-/
namespace Go.Proofs.Tst
open Go Go.Vc
theorem slices_Clone {a : Option Addr} {n c : Nat} {xs : List Value} {h : Heap} (hr : Rd 1 h (.slice a n c) n xs) (hoc : xs.all Value.oneCell' = true) (hb : n ≤ 65536) :
    Con Tryd.prog 80 #[.slice a n c] h fun v h' => Fr 0 0 h h' ∧ Holder 1 h' v n xs h.size := by
  refine con_slices_Clone ?_
  have p0 : Fr 0 0 h h := .refl _ _ _
  have hl := hr.1
  cases a with
  | none =>
    obtain ⟨-, a', c', h1, h2⟩ := hr
    cases h1
    have hn : n = 0 := by rcases h2 with h2 | ⟨b, o, h2, -⟩ <;> simp_all
    subst hn
    obtain rfl : xs = [] := List.eq_nil_of_length_eq_zero (by simpa using hl)
    simp -dsimp only [go_sem, ↓reduceIte, reduceCtorEq, Nat.reduceEqDiff, Nat.reduceAdd, Nat.reduceLeDiff, Nat.reduceMul, Int.reduceBEq, Int.reduceBNe, Int.reduceLT, Int.reduceLE, Int.reduceGT, Int.reduceGE]
    exact ⟨p0, .none _ _ _⟩
  | some a =>
    simp -dsimp only [go_sem, ↓reduceIte, reduceCtorEq, Nat.reduceEqDiff, Nat.reduceAdd, Nat.reduceLeDiff, Nat.reduceMul, Int.reduceBEq, Int.reduceBNe, Int.reduceLT, Int.reduceLE, Int.reduceGT, Int.reduceGE]
    intro b1 h1 n1
    have n1_a := n1.at_
    have n1_z := n1.size
    replace p0 := p0.fresh (n1.fr (lo := 0) (hi := 0)) (by omega)
    have r1 := n1.row
    have o1 : Holder 1 h1 (.slice (some ⟨b1, 0, none⟩) 0 0) 0 [] h.size := ⟨rfl, .inr ⟨b1, 0, [], rfl, r1, rfl, by omega⟩⟩
    simp -dsimp only [go_sem, ↓reduceIte, reduceCtorEq, Nat.reduceEqDiff, Nat.reduceAdd, Nat.reduceLeDiff, Nat.reduceMul, Int.reduceBEq, Int.reduceBNe, Int.reduceLT, Int.reduceLE, Int.reduceGT, Int.reduceGE, r1.cell]
    refine o1.appendRd (hr.fr p0) (by omega) rfl (by omega) hoc (by omega) fun v2 h2 o2 f2 e2 => ?_
    simp -dsimp only [go_sem, ↓reduceIte, reduceCtorEq, Nat.reduceEqDiff, Nat.reduceAdd, Nat.reduceLeDiff, Nat.reduceMul, Int.reduceBEq, Int.reduceBNe, Int.reduceLT, Int.reduceLE, Int.reduceGT, Int.reduceGE, r1.cell]
    rw [Nat.zero_add, List.nil_append] at o2
    exact ⟨p0.fresh f2 (by simp [bl, bh]; omega), o2⟩
def allS (n : Nat) (M : Nat → Nat → Bool) : List (List Nat) := if irrB n (plusM n M) = true then extGo n M n [] else []
def extS (n : Nat) (M : Nat → Nat → Bool) (most : Int) : List (List Nat) := (allS n M).take most.toNat
def extB (n : Nat) (M : Nat → Nat → Bool) (most : Int) : Bool := decide ((allS n M).length ≤ most.toNat)
structure ExI (h h1 h2 : Heap) (c : ChB) (n : Nat) (M : Nat → Nat → Bool) (most : Int) (lv wv : Value) (q : Nat) (way : List Nat) (out : List (List Nat)) (us : List Value) (h' : Heap) : Prop where
  p : Fr 0 0 h h'
  y : h2.size ≤ h'.size
  len : way.length ≤ n
  nd : way.Nodup
  lt : ∀ x ∈ way, x < n
  qn : q ≤ n
  t : Chs h' h1.size h2.size c n M way.contains
  ow : Holder 1 h' wv way.length (natsV way) h2.size
  oL : LL h' lv us (out.map natsV) h2.size
  wl : Off wv lv
  wu : ∀ w ∈ us, Off w wv
  ap : us.Pairwise Off
  rem : out ++ remS n M way q = extGo n M n []
  few : out.length ≤ most.toNat
theorem exI_back {h h1 h2 h6 h7 : Heap} {c : ChB} {n b wc x : Nat} {M : Nat → Nat → Bool} {most : Int} {lv : Value} {w : List Nat} {out : List (List Nat)} {us : List Value} (nd : (w ++ [x]).Nodup) (lt : ∀ y ∈ w ++ [x], y < n) (p : Fr 0 0 h h6) (y : h2.size ≤ h6.size)
    (ow : Holder 1 h6 (.slice (some ⟨b, 0, none⟩) (w.length + 1) wc) (w.length + 1) (natsV (w ++ [x])) h2.size) (oL : LL h6 lv us (out.map natsV) h2.size) (wl : Off (.slice (some ⟨b, 0, none⟩) (w ++ [x]).length wc) lv)
    (wu : ∀ u ∈ us, Off u (.slice (some ⟨b, 0, none⟩) (w ++ [x]).length wc)) (ap : us.Pairwise Off) (rem : out ++ remS n M w (x + 1) = extGo n M n []) (few : out.length ≤ most.toNat)
    (f7 : Fr h1.size h2.size h6 h7) (z7 : h7.size = h6.size) (t7 : Chs h7 h1.size h2.size c n M fun k => if k = x then false else (w ++ [x]).contains k) (h01 : h.size ≤ h1.size) :
    ExI h h1 h2 c n M most lv (.slice (some ⟨b, 0, none⟩) w.length wc) (x + 1) w out us h7 := by
  have hx : x < n := lt x (by simp)
  have hb := ow.at_
  rw [List.nodup_append] at nd
  have hl : w.length ≤ n := nodup_lt nd.1 fun y hy => lt y (by simp [hy])
  refine ⟨p.fresh f7 (by omega), by omega, hl, nd.1, fun y hy => lt y (by simp [hy]), by omega, ?_, ?_, oL.fr f7 (oL.below (Nat.le_refl _)), wl, wu, ap, rem, few⟩
  · have e : (fun k => if k = x then false else (w ++ [x]).contains k) = w.contains := by
      funext k
      by_cases hk : k = x
      · subst hk
        have : k ∉ w := fun hm => nd.2.2 k hm k (by simp) rfl
        simp [this]
      · simp [hk]
    rw [e] at t7; exact t7
  · rw [natsV_append] at ow
    exact ow.pop.fr f7 (by simp only [bl, bh] at *; omega)
theorem oc_nats (l : List Nat) : (natsV l).all Value.oneCell' = true := by simp [natsV, Value.oneCell', List.all_eq_true]
set_option maxHeartbeats 1000000 in
theorem order_Extensions {n : Nat} {M : Nat → Nat → Bool} {pv : Value} {lo hi : Nat} {h : Heap} (hr : ProgAt h lo hi pv n M) (ht : TabAt h) (most : Int) (hm : most ≤ 65536) (hz : 0 < h.size) :
    Con Tryd.prog 33 #[pv, .int .i64 most] h fun v h' => Fr 0 0 h h' ∧ ∃ s us, v = .tuple #[s, .bool (extB n M most)] ∧ LL h' s us ((extS n M most).map natsV) h.size ∧ us.Pairwise Off := by
  refine con_order_Extensions ?_
  have hn := hr.1
  have p0 : Fr 0 0 h h := .refl _ _ _
  simp -dsimp only [go_sem, ↓reduceIte, reduceCtorEq, Nat.reduceEqDiff, Nat.reduceAdd, Nat.reduceLeDiff, Nat.reduceMul, Int.reduceBEq, Int.reduceBNe, Int.reduceLT, Int.reduceLE, Int.reduceGT, Int.reduceGE]
  refine call_of (rel_Acyclic hr) ?_
  rintro v h1 ⟨f1, rfl⟩
  have f1_z := f1.size
  replace p0 := p0.fresh f1 (by omega)
  simp -dsimp only [go_sem, ↓reduceIte, reduceCtorEq, Nat.reduceEqDiff, Nat.reduceAdd, Nat.reduceLeDiff, Nat.reduceMul, Int.reduceBEq, Int.reduceBNe, Int.reduceLT, Int.reduceLE, Int.reduceGT, Int.reduceGE]
  cases hac : irrB n (plusM n M) with
  | false =>
    simp -dsimp only [go_sem, ↓reduceIte, reduceCtorEq, Nat.reduceEqDiff, Nat.reduceAdd, Nat.reduceLeDiff, Nat.reduceMul, Int.reduceBEq, Int.reduceBNe, Int.reduceLT, Int.reduceLE, Int.reduceGT, Int.reduceGE]
    exact ⟨p0, .slice none 0 0, [], by simp [extB, allS, hac], by simp only [extS, allS, hac]; simp; exact .nil, .nil⟩
  | true =>
  have hall : allS n M = extGo n M n [] := by simp [allS, hac]
  simp -dsimp only [go_sem, ↓reduceIte, reduceCtorEq, Nat.reduceEqDiff, Nat.reduceAdd, Nat.reduceLeDiff, Nat.reduceMul, Int.reduceBEq, Int.reduceBNe, Int.reduceLT, Int.reduceLE, Int.reduceGT, Int.reduceGE]
  refine call_of (order_chooser (hr.fr p0 (by omega)) (ht.fr p0 (by omega))) ?_
  rintro v h2 ⟨f2, c, rfl, t2⟩
  have f2_z := f2.size
  replace p0 := p0.fresh f2 (by omega)
  simp -dsimp only [go_sem, ↓reduceIte, reduceCtorEq, Nat.reduceEqDiff, Nat.reduceAdd, Nat.reduceLeDiff, Nat.reduceMul, Int.reduceBEq, Int.reduceBNe, Int.reduceLT, Int.reduceLE, Int.reduceGT, Int.reduceGE]
  refine loop_intro (fun s : Value × Value × Nat × List Nat × List (List Nat) × List Value => [(0, pv), (1, .int .i64 most), (4, s.1), (6, c.next), (7, c.place), (8, s.2.1), (9, .int .i64 s.2.2.1)])
    (fun s h' => ExI h h1 h2 c n M most s.1 s.2.1 s.2.2.1 s.2.2.2.1 s.2.2.2.2.1 s.2.2.2.2.2 h')
    (fun s => (2 * n + 2) ^ (n + 1) - posV n s.2.2.2.1 s.2.2.1) (.slice none 0 0, .slice none 0 0, 0, [], [], []) ?_ ?_ ?_
  · simp [Le, find]
  · exact ⟨p0, Nat.le_refl _, by simp, by simp, by simp, Nat.zero_le _, t2, .none _ _ _, .nil, .inl rfl, by simp, .nil, by rw [List.nil_append, rem_start], by simp⟩
  rintro ⟨lv, wv, q, way, out, us⟩ h3 hI
  dsimp only at hI ⊢
  simp -dsimp only [go_sem, ↓reduceIte, reduceCtorEq, Nat.reduceEqDiff, Nat.reduceAdd, Nat.reduceLeDiff, Nat.reduceMul, Int.reduceBEq, Int.reduceBNe, Int.reduceLT, Int.reduceLE, Int.reduceGT, Int.reduceGE]
  refine loop_intro (fun s : Value × Value × Nat × List Nat × List (List Nat) × List Value => [(0, pv), (1, .int .i64 most), (4, s.1), (6, c.next), (7, c.place), (8, s.2.1), (9, .int .i64 s.2.2.1)])
    (fun s h' => ExI h h1 h2 c n M most s.1 s.2.1 s.2.2.1 s.2.2.2.1 s.2.2.2.2.1 s.2.2.2.2.2 h' ∧ posV n way q ≤ posV n s.2.2.2.1 s.2.2.1)
    (fun s => (2 * n + 2) ^ (n + 1) - posV n s.2.2.2.1 s.2.2.1) (lv, wv, q, way, out, us) ?_ ?_ ?_
  · simp [Le, find]
  · exact ⟨hI, Nat.le_refl _⟩
  clear hI
  rintro ⟨lv, wv, q', way', out, us⟩ h4 ⟨J, hpos⟩
  dsimp only at J hpos ⊢
  have hP := posV_lt J.len J.lt J.qn
  have p4 := J.p
  have ow := J.ow
  have oL := J.oL
  have y4 := J.y
  have hl := J.len
  obtain ⟨wa, wc, rfl⟩ := ow.is
  simp -dsimp only [go_sem, ↓reduceIte, reduceCtorEq, Nat.reduceEqDiff, Nat.reduceAdd, Nat.reduceLeDiff, Nat.reduceMul, Int.reduceBEq, Int.reduceBNe, Int.reduceLT, Int.reduceLE, Int.reduceGT, Int.reduceGE]
  refine call_of (rel_Len (hr.fr p4 (by omega))) ?_
  rintro v h5 ⟨rfl, rfl⟩
  simp -dsimp only [go_sem, ↓reduceIte, reduceCtorEq, Nat.reduceEqDiff, Nat.reduceAdd, Nat.reduceLeDiff, Nat.reduceMul, Int.reduceBEq, Int.reduceBNe, Int.reduceLT, Int.reduceLE, Int.reduceGT, Int.reduceGE]
  refine ⟨fun hlt => ?_, fun hge => ?_⟩
  · have hlt : way'.length < n := by omega
    simp -dsimp only [go_sem, ↓reduceIte, reduceCtorEq, Nat.reduceEqDiff, Nat.reduceAdd, Nat.reduceLeDiff, Nat.reduceMul, Int.reduceBEq, Int.reduceBNe, Int.reduceLT, Int.reduceLE, Int.reduceGT, Int.reduceGE, ChB.next]
    refine call_of (chooser_next (q := q') J.t J.qn) ?_
    rintro v h6 ⟨rfl, rfl⟩
    cases hx : lf (freeB n M way'.contains) n q' with
    | none =>
      have htodo := todo_none (n := n) (M := M) hlt hx
      simp -dsimp only [go_sem, ↓reduceIte, reduceCtorEq, Nat.reduceEqDiff, Nat.reduceAdd, Nat.reduceLeDiff, Nat.reduceMul, Int.reduceBEq, Int.reduceBNe, Int.reduceLT, Int.reduceLE, Int.reduceGT, Int.reduceGE, nx_none]
      refine ⟨fun h0 => ?_, fun h0 => ?_⟩
      · obtain rfl : way' = [] := List.eq_nil_of_length_eq_zero (by simpa using h0)
        have hout : allS n M = out := by rw [hall, ← J.rem, rem_nil, htodo, List.append_nil]
        have hf := J.few
        simp -dsimp only [go_sem, ↓reduceIte, reduceCtorEq, Nat.reduceEqDiff, Nat.reduceAdd, Nat.reduceLeDiff, Nat.reduceMul, Int.reduceBEq, Int.reduceBNe, Int.reduceLT, Int.reduceLE, Int.reduceGT, Int.reduceGE]
        exact ⟨p4, lv, us, by simp [extB, hout, hf], by rw [extS, hout, List.take_of_length_le hf]; exact oL.lower (by omega), J.ap⟩
      · obtain ⟨w, x, rfl⟩ : ∃ w x, way' = w ++ [x] := by
          rcases List.eq_nil_or_concat way' with rfl | ⟨w, x, rfl⟩
          · simp at h0
          · exact ⟨w, x, by rw [List.concat_eq_append]⟩
        have ew : (w ++ [x]).length = w.length + 1 := by simp
        rw [ew] at ow ⊢
        obtain ⟨b, c', rest, hv, hrow, hcap, hb⟩ := ow.blk (by omega)
        cases hv
        have e1 : IntKind.i64.wrap (((w.length + 1 : Nat) : Int) - 1) = (w.length : Int) := by rw [wrap64 (by omega) (by omega)]; omega
        have hxn : x < n := J.lt x (by simp)
        have hc : hcell h6 b w.length = some (.int .i64 x) := by rw [hrow.cell, List.getElem?_append_left (by simp), natsV_get (p := x) (by simp)]
        simp -dsimp only [go_sem, ↓reduceIte, reduceCtorEq, Nat.reduceEqDiff, Nat.reduceAdd, Nat.reduceLeDiff, Nat.reduceMul, Int.reduceBEq, Int.reduceBNe, Int.reduceLT, Int.reduceLE, Int.reduceGT, Int.reduceGE, e1]
        refine Chk_intro (by omega) ?_
        simp -dsimp only [go_sem, ↓reduceIte, reduceCtorEq, Nat.reduceEqDiff, Nat.reduceAdd, Nat.reduceLeDiff, Nat.reduceMul, Int.reduceBEq, Int.reduceBNe, Int.reduceLT, Int.reduceLE, Int.reduceGT, Int.reduceGE, e1, Int.toNat_natCast, hc]
        refine Chk_intro (by omega) ?_
        simp -dsimp only [go_sem, ↓reduceIte, reduceCtorEq, Nat.reduceEqDiff, Nat.reduceAdd, Nat.reduceLeDiff, Nat.reduceMul, Int.reduceBEq, Int.reduceBNe, Int.reduceLT, Int.reduceLE, Int.reduceGT, Int.reduceGE, e1, Int.toNat_natCast]
        refine Chk_intro (by omega) ?_
        simp -dsimp only [go_sem, ↓reduceIte, reduceCtorEq, Nat.reduceEqDiff, Nat.reduceAdd, Nat.reduceLeDiff, Nat.reduceMul, Int.reduceBEq, Int.reduceBNe, Int.reduceLT, Int.reduceLE, Int.reduceGT, Int.reduceGE, ChB.place]
        refine call_of (chooser_place J.t hxn false (by simp)) ?_
        rintro v h7 ⟨f7, z7, t7⟩
        simp -dsimp only [go_sem, ↓reduceIte, reduceCtorEq, Nat.reduceEqDiff, Nat.reduceAdd, Nat.reduceLeDiff, Nat.reduceMul, Int.reduceBEq, Int.reduceBNe, Int.reduceLT, Int.reduceLE, Int.reduceGT, Int.reduceGE]
        simp -dsimp (disch := omega) only [wrap64]
        have hB := posV_back (p := x) (l := w) (q := q') (by omega) J.qn
        generalize (2 * n + 2) ^ (n + 1) = T at *
        refine ⟨(lv, .slice (some ⟨b, 0, none⟩) w.length wc, x + 1, w, out, us), by dsimp only; omega, by simp [Le, find, ChB.next, ChB.place], ?_⟩
        exact exI_back J.nd J.lt p4 y4 ow oL J.wl J.wu J.ap (by rw [← J.rem, rem_back (by omega), htodo]; rfl) J.few f7 z7 t7 (by omega)
    | some x =>
      obtain ⟨hqx, hxn, hfx⟩ := lf_some hx
      have hDx : way'.contains x = false := (freeB_true.1 hfx).1
      have hxw : x ∉ way' := by simpa using hDx
      simp -dsimp only [go_sem, ↓reduceIte, reduceCtorEq, Nat.reduceEqDiff, Nat.reduceAdd, Nat.reduceLeDiff, Nat.reduceMul, Int.reduceBEq, Int.reduceBNe, Int.reduceLT, Int.reduceLE, Int.reduceGT, Int.reduceGE, nx_some]
      simp -dsimp only [go_sem, ↓reduceIte, reduceCtorEq, Nat.reduceEqDiff, Nat.reduceAdd, Nat.reduceLeDiff, Nat.reduceMul, Int.reduceBEq, Int.reduceBNe, Int.reduceLT, Int.reduceLE, Int.reduceGT, Int.reduceGE, ChB.place]
      refine call_of (chooser_place J.t hxn true (by simpa using hDx)) ?_
      rintro v h7 ⟨f7, z7, t7⟩
      simp -dsimp only [go_sem, ↓reduceIte, reduceCtorEq, Nat.reduceEqDiff, Nat.reduceAdd, Nat.reduceLeDiff, Nat.reduceMul, Int.reduceBEq, Int.reduceBNe, Int.reduceLT, Int.reduceLE, Int.reduceGT, Int.reduceGE, nx_some]
      intro b8 h8 n8
      have a8 := n8.at_; have z8 := n8.size
      have w0 := ow.at_
      simp -dsimp only [go_sem, ↓reduceIte, reduceCtorEq, Nat.reduceEqDiff, Nat.reduceAdd, Nat.reduceLeDiff, Nat.reduceMul, Int.reduceBEq, Int.reduceBNe, Int.reduceLT, Int.reduceLE, Int.reduceGT, Int.reduceGE, nx_some, n8.row.cell]
      have o8 := (ow.fr f7 (by omega)).fr (n8.fr (lo := 0) (hi := 0)) (by omega)
      have p8 : Fr 0 0 h h8 := (p4.fresh f7 (by omega)).trans n8.fr
      have oL8 := (oL.fr f7 (oL.below (Nat.le_refl _))).fr (n8.fr (lo := 0) (hi := 0)) (.none (Nat.le_refl _))
      refine o8.append (by omega) rfl (by omega) (by simp) (by omega) fun v9 h9 o9 f9 e9 => ?_
      have y9 := f9.size
      simp -dsimp only [go_sem, ↓reduceIte, reduceCtorEq, Nat.reduceEqDiff, Nat.reduceAdd, Nat.reduceLeDiff, Nat.reduceMul, Int.reduceBEq, Int.reduceBNe, Int.reduceLT, Int.reduceLE, Int.reduceGT, Int.reduceGE]
      have hA := posV_place (p := x) hlt hqx
      have hP2 := posV_lt (n := n) (l := way' ++ [x]) (q := 0) (by simp; omega) (by intro y hy; rcases List.mem_append.1 hy with hy | hy; exact J.lt y hy; simp at hy; omega) (by omega)
      generalize (2 * n + 2) ^ (n + 1) = T at *
      have e : (fun k => if k = x then true else way'.contains k) = (way' ++ [x]).contains := by
        funext k; by_cases hk : k = x <;> simp [hk]
      rw [e] at t7
      have hz2 : 0 < h2.size := by omega
      have way_away : ∀ u, u = lv ∨ u ∈ us → Off u (.slice wa way'.length wc) := fun u hu => by
        rcases hu with rfl | hu
        · exact J.wl.symm
        · exact J.wu u hu
      refine ⟨(lv, v9, 0, way' ++ [x], out, us), by dsimp only; omega, by simp [Le, find, ChB.next, ChB.place], ?_, by dsimp only; omega⟩
      dsimp only
      refine ⟨p8.fresh f9 (by omega), by omega, by simp; omega, ?_, ?_, by omega, ?_, ?_, oL8.fr f9 (fun u hu => (way_away u hu).away), ?_, ?_, J.ap, ?_, J.few⟩
      · rw [List.nodup_append]; exact ⟨J.nd, by simp, fun y hy z hz => by simp at hz; subst hz; rintro rfl; exact hxw hy⟩
      · intro y hy; rcases List.mem_append.1 hy with hy | hy
        · exact J.lt y hy
        · simp at hy; omega
      · exact (t7.fr (n8.fr (lo := 0) (hi := 0)) (by omega)).fr f9 (by omega)
      · rw [natsV_append, List.length_append]; exact o9
      · exact (Off.app (way_away lv (.inl rfl)) (oL8.top lv (.inl rfl)) hz2 o9 e9).symm
      · exact fun u hu => Off.app (way_away u (.inr hu)) (oL8.top u (.inr hu)) hz2 o9 e9
      · rw [← rem_place hlt hx]; exact J.rem
  · have hfull : way'.length = n := by omega
    have htodo := todo_full (M := M) (q := q') hfull
    have elen : (out.map natsV).length = out.length := by simp
    have oLis := oL.own.is
    rw [elen] at oLis
    obtain ⟨la, lc, rfl⟩ := oLis
    simp -dsimp only [go_sem, ↓reduceIte, reduceCtorEq, Nat.reduceEqDiff, Nat.reduceAdd, Nat.reduceLeDiff, Nat.reduceMul, Int.reduceBEq, Int.reduceBNe, Int.reduceLT, Int.reduceLE, Int.reduceGT, Int.reduceGE]
    refine ⟨fun hge2 => ?_, fun hlt2 => ?_⟩
    · have hll : allS n M = out ++ (way' :: later n M way'.reverse) := by rw [hall, ← J.rem, remS, htodo]; rfl
      have hom : out.length = most.toNat := by have := J.few; omega
      simp -dsimp only [go_sem, ↓reduceIte, reduceCtorEq, Nat.reduceEqDiff, Nat.reduceAdd, Nat.reduceLeDiff, Nat.reduceMul, Int.reduceBEq, Int.reduceBNe, Int.reduceLT, Int.reduceLE, Int.reduceGT, Int.reduceGE]
      refine ⟨p4, .slice la out.length lc, us, ?_, ?_, J.ap⟩
      · rw [extB, hll, decide_eq_false (by simp; omega)]
      · rw [extS, hll, ← hom, List.take_left]; exact oL.lower (by omega)
    have hlt2 : out.length < most.toNat := by omega
    simp -dsimp only [go_sem, ↓reduceIte, reduceCtorEq, Nat.reduceEqDiff, Nat.reduceAdd, Nat.reduceLeDiff, Nat.reduceMul, Int.reduceBEq, Int.reduceBNe, Int.reduceLT, Int.reduceLE, Int.reduceGT, Int.reduceGE]
    refine call_of (slices_Clone ow.rd (oc_nats _) (by omega)) ?_
    rintro cv h6 ⟨f6, oc⟩
    obtain ⟨ca, cc, rfl⟩ := oc.is
    have z6 := f6.size
    have oL6 := oL.fr f6 (.none (Nat.le_refl _))
    have ow6 := ow.fr f6 (by omega)
    have t6 := J.t.fr f6 (by omega)
    simp -dsimp only [go_sem, ↓reduceIte, reduceCtorEq, Nat.reduceEqDiff, Nat.reduceAdd, Nat.reduceLeDiff, Nat.reduceMul, Int.reduceBEq, Int.reduceBNe, Int.reduceLT, Int.reduceLE, Int.reduceGT, Int.reduceGE]
    intro b7 h7 n7
    have a7 := n7.at_; have z7 := n7.size
    have oL7 := oL6.fr (n7.fr (lo := 0) (hi := 0)) (.none (Nat.le_refl _))
    have ow7 := ow6.fr (n7.fr (lo := 0) (hi := 0)) (by omega)
    have oc7 := oc.fr (n7.fr (lo := 0) (hi := 0)) (by omega)
    have hz2 : 0 < h2.size := by omega
    have offc : ∀ u, bh u ≤ h5.size → Off (.slice ca way'.length cc) u := fun u hu => by
      have := oc.at_; have := bh_bl u; unfold Off; omega
    simp -dsimp only [go_sem, ↓reduceIte, reduceCtorEq, Nat.reduceEqDiff, Nat.reduceAdd, Nat.reduceLeDiff, Nat.reduceMul, Int.reduceBEq, Int.reduceBNe, Int.reduceLT, Int.reduceLE, Int.reduceGT, Int.reduceGE, n7.row.cell]
    have own7 := oL7.own
    rw [elen] at own7
    refine own7.append (by omega) rfl (by omega) (by simp) (by omega) fun lv2 h8 o8 f8 e8 => ?_
    have y8 := f8.size
    have oL8 := oL7.push (l := natsV way') hz2 (by rw [length_natsV]; exact oc7.lower (by omega)) (offc _ (oL.top _ (.inl rfl))) (by rw [elen]; exact o8) f8 e8
    have ow8 := ow7.fr f8 J.wl.away
    have lw := oL.own.at_
    have t8 := (t6.fr (n7.fr (lo := 0) (hi := 0)) (by omega)).fr f8 (by omega)
    have p8 : Fr 0 0 h h8 := ((p4.trans f6).trans n7.fr).fresh f8 (by omega)
    have ap8 : (us ++ [Value.slice ca way'.length cc]).Pairwise Off := by
      rw [List.pairwise_append]
      exact ⟨J.ap, List.pairwise_singleton .., fun u hu w hw => by simp at hw; subst hw; exact (offc u (oL.top u (.inr hu))).symm⟩
    have wl8 : Off (.slice wa way'.length wc) lv2 := Off.app J.wl ow7.top hz2 o8 e8
    have wu8 : ∀ u ∈ us ++ [Value.slice ca way'.length cc], Off u (.slice wa way'.length wc) := fun u hu => by
      rcases List.mem_append.1 hu with hu | hu
      · exact J.wu u hu
      · simp at hu; subst hu; exact offc _ ow.top
    have few8 : (out ++ [way']).length ≤ most.toNat := by simp; omega
    have oL8' : LL h8 lv2 (us ++ [Value.slice ca way'.length cc]) ((out ++ [way']).map natsV) h2.size := by rw [List.map_append]; exact oL8
    simp -dsimp only [go_sem, ↓reduceIte, reduceCtorEq, Nat.reduceEqDiff, Nat.reduceAdd, Nat.reduceLeDiff, Nat.reduceMul, Int.reduceBEq, Int.reduceBNe, Int.reduceLT, Int.reduceLE, Int.reduceGT, Int.reduceGE]
    refine ⟨fun h0 => ?_, fun h0 => ?_⟩
    · obtain rfl : way' = [] := List.eq_nil_of_length_eq_zero (by simpa using h0)
      have hout : allS n M = out ++ [[]] := by rw [hall, ← J.rem, rem_nil, htodo]
      simp -dsimp only [go_sem, ↓reduceIte, reduceCtorEq, Nat.reduceEqDiff, Nat.reduceAdd, Nat.reduceLeDiff, Nat.reduceMul, Int.reduceBEq, Int.reduceBNe, Int.reduceLT, Int.reduceLE, Int.reduceGT, Int.reduceGE]
      exact ⟨p8, lv2, _, by rw [extB, hout, decide_eq_true few8], by rw [extS, hout, List.take_of_length_le few8]; exact oL8'.lower (by omega), ap8⟩
    · obtain ⟨w, x, rfl⟩ : ∃ w x, way' = w ++ [x] := by
        rcases List.eq_nil_or_concat way' with rfl | ⟨w, x, rfl⟩
        · simp at h0
        · exact ⟨w, x, by rw [List.concat_eq_append]⟩
      have ew : (w ++ [x]).length = w.length + 1 := by simp
      rw [ew] at ow8 ⊢
      obtain ⟨b, c', rest, hv, hrow, hcap, hb⟩ := ow8.blk (by omega)
      cases hv
      have e1 : IntKind.i64.wrap (((w.length + 1 : Nat) : Int) - 1) = (w.length : Int) := by rw [wrap64 (by omega) (by omega)]; omega
      have hxn : x < n := J.lt x (by simp)
      have hc : hcell h8 b w.length = some (.int .i64 x) := by rw [hrow.cell, List.getElem?_append_left (by simp), natsV_get (p := x) (by simp)]
      simp -dsimp only [go_sem, ↓reduceIte, reduceCtorEq, Nat.reduceEqDiff, Nat.reduceAdd, Nat.reduceLeDiff, Nat.reduceMul, Int.reduceBEq, Int.reduceBNe, Int.reduceLT, Int.reduceLE, Int.reduceGT, Int.reduceGE, e1]
      refine Chk_intro (by omega) ?_
      simp -dsimp only [go_sem, ↓reduceIte, reduceCtorEq, Nat.reduceEqDiff, Nat.reduceAdd, Nat.reduceLeDiff, Nat.reduceMul, Int.reduceBEq, Int.reduceBNe, Int.reduceLT, Int.reduceLE, Int.reduceGT, Int.reduceGE, e1, Int.toNat_natCast, hc]
      refine Chk_intro (by omega) ?_
      simp -dsimp only [go_sem, ↓reduceIte, reduceCtorEq, Nat.reduceEqDiff, Nat.reduceAdd, Nat.reduceLeDiff, Nat.reduceMul, Int.reduceBEq, Int.reduceBNe, Int.reduceLT, Int.reduceLE, Int.reduceGT, Int.reduceGE, e1, Int.toNat_natCast]
      refine Chk_intro (by omega) ?_
      simp -dsimp only [go_sem, ↓reduceIte, reduceCtorEq, Nat.reduceEqDiff, Nat.reduceAdd, Nat.reduceLeDiff, Nat.reduceMul, Int.reduceBEq, Int.reduceBNe, Int.reduceLT, Int.reduceLE, Int.reduceGT, Int.reduceGE, ChB.place]
      refine call_of (chooser_place t8 hxn false (by simp)) ?_
      rintro v h9 ⟨f9, z9, t9⟩
      simp -dsimp only [go_sem, ↓reduceIte, reduceCtorEq, Nat.reduceEqDiff, Nat.reduceAdd, Nat.reduceLeDiff, Nat.reduceMul, Int.reduceBEq, Int.reduceBNe, Int.reduceLT, Int.reduceLE, Int.reduceGT, Int.reduceGE]
      simp -dsimp (disch := omega) only [wrap64]
      have hB := posV_back (p := x) (l := w) (q := q') (by omega) J.qn
      generalize (2 * n + 2) ^ (n + 1) = T at *
      refine ⟨(lv2, .slice (some ⟨b, 0, none⟩) w.length wc, x + 1, w, out ++ [w ++ [x]], us ++ [Value.slice ca (w ++ [x]).length cc]), by dsimp only; omega, by simp [Le, find, ChB.next, ChB.place], ?_⟩
      exact exI_back J.nd J.lt p8 (by omega) ow8 oL8' wl8 wu8 ap8 (by rw [← J.rem, rem_back (by omega), htodo]; simp) few8 f9 z9 t9 (by omega)
end Go.Proofs.Tst
/-
  The document's own Extensions.
-/
namespace Go.Proofs.Tst
open Go Go.Vc
end Go.Proofs.Tst
/-
  Lists of lists that are written over, row by row; rows that are grown behind one's back.
-/
namespace Go.Vc
open Go
def mv (k : Nat) : Value := .int .i64 (-1 - (k : Int))
def rowM (k c : Nat) (l : List Value) : List Value := List.replicate (min c l.length) (mv k) ++ l.drop c
def mrk (L : List (List Value)) (i j : Nat) : List (List Value) := L.mapIdx fun k l => if k < i then rowM k l.length l else if k = i then rowM k j l else l
@[simp] theorem rowM_len {k c : Nat} {l : List Value} : (rowM k c l).length = l.length := by unfold rowM; simp; omega
@[simp] theorem mrk_len {L : List (List Value)} {i j : Nat} : (mrk L i j).length = L.length := by simp [mrk]
/-- A store behind what it holds. -/
theorem Holder.beyond {h h' : Heap} {b n c j : Nat} {xs : List Value} {x : Value} {lo : Nat} (w : Holder 1 h (.slice (some ⟨b, 0, Option.none⟩) n c) n xs lo) (hj : n ≤ j) (s : Sto h h' b j [x]) : Holder 1 h' (.slice (some ⟨b, 0, Option.none⟩) n c) n xs lo := by
  have hl := w.1
  obtain ⟨_, ⟨h1, _⟩ | ⟨b', c', rest, h1, h2, h3, h4⟩⟩ := w
  · simp at h1
  cases h1
  refine ⟨hl, .inr ⟨b, c, rest.set (j - n) x, rfl, ?_, by simpa using h3, h4⟩⟩
  have := s.row h2
  rw [putAt_one, List.set_append_right _ _ (by omega)] at this
  rwa [show j - xs.length = j - n from by omega] at this
/-- Grown, and the last one stored: what was there stays. -/
theorem grown {h8 h9 h10 : Heap} {u : Value} {b n m j c : Nat} {xs ys : List Value} {x : Value} {lo : Nat} (h0 : 0 < lo) (hlo : lo ≤ h8.size) (o : Holder 1 h9 (.slice (some ⟨b, 0, none⟩) m c) m ys lo) (w : Holder 1 h9 u n xs lo) (hj : n ≤ j)
    (f : Fr (bl u) (bh u) h8 h9) (e : b = bl u ∧ h9.size = h8.size ∨ b = h8.size ∧ h9.size = h8.size + 1 ∨ b + 1 = 0 ∧ h9 = h8) (s : Sto h9 h10 b j [x]) (hw : bh u ≤ h8.size) : Holder 1 h10 u n xs lo ∧ Fr (bl u) (bh u) h8 h10 := by
  have hb : lo ≤ b := by
    have := o.at_
    simp only [bl, bh] at this; omega
  have hu := bh_bl u
  have hf : Fr (bl u) (bh u) h8 h10 := f.freshIn s.fr (by omega)
  refine ⟨?_, hf⟩
  rcases e with ⟨e, -⟩ | ⟨e, -⟩ | ⟨e, -⟩
  · obtain ⟨_, ⟨h1, _⟩ | ⟨b', c', rest, h1, h2, h3, h4⟩⟩ := id w
    · subst h1; simp [bl] at e; omega
    · subst h1
      obtain rfl : b = b' := e
      exact w.beyond hj s
  · exact w.fr s.fr (by omega)
  · omega
end Go.Vc
namespace Go.Proofs.Tst
open Go Go.Vc
/-- The order that is made unit by unit. -/
def glueGo (n : Nat) (F : Nat → Nat) (S : Nat → Int) (N : Nat → Nat → Bool) : Nat → List Nat → Option (List Nat)
  | 0, l => some l
  | k + 1, l => if n ≤ l.length then some l else match lf (fun p => F p == p && freeB n N l.contains p) n 0 with
    | none => none
    | some p => glueGo n F S N k (if S p ≥ 0 then l ++ [p] ++ [(S p).toNat] else l ++ [p])
/-- A list, or a cycle. -/
def orCyc (o : Option (List Nat)) : Except Int (List Nat) := match o with | none => .error 3 | some l => .ok l
/-- What Glue tells: a list, or an error's number. -/
def glueS (n : Nat) (M : Nat → Nat → Bool) (l : List (Int × Int)) : Except Int (List Nat) :=
  match glueFS n l with
  | none => .error 1
  | some (F, S) => orCyc (glueGo n F S (glueM n M F S) n [])
/-- What a function hands back that tells a list, or an error's number. -/
def ResL (h : Heap) (lo : Nat) (v : Value) (o : Except Int (List Nat)) : Prop :=
  match o with
  | .ok l => ∃ s, v = .tuple #[s, .int .i64 0] ∧ Holder 1 h s l.length (natsV l) lo
  | .error e => v = .tuple #[.slice none 0 0, .int .i64 e]
theorem glueGo_end {n : Nat} {F : Nat → Nat} {S : Nat → Int} {N : Nat → Nat → Bool} {k : Nat} {l : List Nat} (h : n ≤ l.length) : glueGo n F S N k l = some l := by
  cases k with
  | zero => rfl
  | succ k => simp [glueGo, h]

end Go.Proofs.Tst
namespace Go.Proofs.Tst
open Go Go.Vc
theorem order_Sort {n : Nat} {M : Nat → Nat → Bool} {p : Value} {lo hi : Nat} {h : Heap} (hr : ProgAt h lo hi p n M) (ht : TabAt h) :
    Con Tryd.prog 20 #[p] h fun v h' => Fr 0 0 h h' ∧ ListOr h' h.size 3 v (sortS n M) := by
  refine con_order_Sort ?_
  have hn := hr.1
  simp -dsimp only [go_sem, ↓reduceIte, reduceCtorEq, Nat.reduceEqDiff, Nat.reduceAdd, Nat.reduceLeDiff, Nat.reduceMul, Int.reduceBEq, Int.reduceBNe, Int.reduceLT, Int.reduceLE, Int.reduceGT, Int.reduceGE]
  refine call_of (order_chooser hr ht) ?_
  rintro v h1 ⟨p1, c, rfl, t1⟩
  have y1 := p1.size
  simp -dsimp only [go_sem, ↓reduceIte, reduceCtorEq, Nat.reduceEqDiff, Nat.reduceAdd, Nat.reduceLeDiff, Nat.reduceMul, Int.reduceBEq, Int.reduceBNe, Int.reduceLT, Int.reduceLE, Int.reduceGT, Int.reduceGE]
  refine call_of (rel_Len (hr.fr p1 (by omega))) ?_
  rintro v h2 ⟨rfl, rfl⟩
  simp -dsimp only [go_sem, ↓reduceIte, reduceCtorEq, Nat.reduceEqDiff, Nat.reduceAdd, Nat.reduceLeDiff, Nat.reduceMul, Int.reduceBEq, Int.reduceBNe, Int.reduceLT, Int.reduceLE, Int.reduceGT, Int.reduceGE]
  refine loop_intro (fun s : Nat × Value => [(4, c.next), (5, c.place), (6, s.2), (14, .int .i64 n), (15, .int .i64 s.1)])
    (fun s h' => s.1 ≤ n ∧ Fr 0 0 h h' ∧ h2.size ≤ h'.size ∧ ∃ l : List Nat, l.length = s.1 ∧ Chs h' h.size h2.size c n M l.contains ∧ Holder 1 h' s.2 s.1 (natsV l) h2.size ∧ sortGo n M (n - s.1) l = sortS n M)
    (fun s => n - s.1) (0, .slice none 0 0) ?_ ?_ ?_
  · simp [Le, find]
  · exact ⟨by omega, p1, by omega, [], rfl, t1, .none _ _ _, rfl⟩
  rintro ⟨i, lv⟩ h3 ⟨hi, p3, y3, l, hl, t3, ol, hgo⟩
  dsimp only at hi p3 y3 hl t3 ol hgo ⊢
  simp -dsimp only [go_sem, ↓reduceIte, reduceCtorEq, Nat.reduceEqDiff, Nat.reduceAdd, Nat.reduceLeDiff, Nat.reduceMul, Int.reduceBEq, Int.reduceBNe, Int.reduceLT, Int.reduceLE, Int.reduceGT, Int.reduceGE]
  refine ⟨fun hlt => ?_, fun hge => ?_⟩
  · have hlt : i < n := by omega
    simp -dsimp only [go_sem, ↓reduceIte, reduceCtorEq, Nat.reduceEqDiff, Nat.reduceAdd, Nat.reduceLeDiff, Nat.reduceMul, Int.reduceBEq, Int.reduceBNe, Int.reduceLT, Int.reduceLE, Int.reduceGT, Int.reduceGE, ChB.next]
    refine call_of (chooser_next (q := 0) t3 (by omega)) ?_
    rintro v h4 ⟨rfl, rfl⟩
    have hk : n - i = (n - (i + 1)) + 1 := by omega
    rw [hk] at hgo
    cases hx : lf (freeB n M l.contains) n 0 with
    | none =>
      simp only [sortGo, hx] at hgo
      simp -dsimp only [go_sem, ↓reduceIte, reduceCtorEq, Nat.reduceEqDiff, Nat.reduceAdd, Nat.reduceLeDiff, Nat.reduceMul, Int.reduceBEq, Int.reduceBNe, Int.reduceLT, Int.reduceLE, Int.reduceGT, Int.reduceGE, nx_none]
      exact ⟨p3, by rw [← hgo]; rfl⟩
    | some x =>
      simp only [sortGo, hx] at hgo
      obtain ⟨_, hxn, hfx⟩ := lf_some hx
      have hDx : l.contains x = false := (freeB_true.1 hfx).1
      simp -dsimp only [go_sem, ↓reduceIte, reduceCtorEq, Nat.reduceEqDiff, Nat.reduceAdd, Nat.reduceLeDiff, Nat.reduceMul, Int.reduceBEq, Int.reduceBNe, Int.reduceLT, Int.reduceLE, Int.reduceGT, Int.reduceGE, nx_some, ChB.place]
      refine call_of (chooser_place t3 hxn true (by simpa using hDx)) ?_
      rintro v h5 ⟨f5, z5, t5⟩
      obtain ⟨la, lc, rfl⟩ := ol.is
      simp -dsimp only [go_sem, ↓reduceIte, reduceCtorEq, Nat.reduceEqDiff, Nat.reduceAdd, Nat.reduceLeDiff, Nat.reduceMul, Int.reduceBEq, Int.reduceBNe, Int.reduceLT, Int.reduceLE, Int.reduceGT, Int.reduceGE, nx_some]
      intro b6 h6 n6
      have a6 := n6.at_; have z6 := n6.size
      have w0 := ol.at_
      simp -dsimp only [go_sem, ↓reduceIte, reduceCtorEq, Nat.reduceEqDiff, Nat.reduceAdd, Nat.reduceLeDiff, Nat.reduceMul, Int.reduceBEq, Int.reduceBNe, Int.reduceLT, Int.reduceLE, Int.reduceGT, Int.reduceGE, nx_some, n6.row.cell]
      have o6 := (ol.fr f5 (by omega)).fr (n6.fr (lo := 0) (hi := 0)) (by omega)
      have p6 : Fr 0 0 h h6 := (p3.fresh f5 (by omega)).trans n6.fr
      refine o6.append (by omega) rfl (by omega) (by simp) (by omega) fun v7 h7 o7 f7 e7 => ?_
      have y7 := f7.size
      simp -dsimp only [go_sem, ↓reduceIte, reduceCtorEq, Nat.reduceEqDiff, Nat.reduceAdd, Nat.reduceLeDiff, Nat.reduceMul, Int.reduceBEq, Int.reduceBNe, Int.reduceLT, Int.reduceLE, Int.reduceGT, Int.reduceGE]
      simp -dsimp (disch := omega) only [wrap64]
      refine ⟨(i + 1, v7), by dsimp only; omega, by simp [Le, find, ChB.next, ChB.place], by dsimp only; omega, p6.fresh f7 (by omega), by omega, l ++ [x], by simp [hl], ?_, by rw [natsV_append]; exact o7, hgo⟩
      have t7 := (t5.fr (n6.fr (lo := 0) (hi := 0)) (by omega)).fr f7 (by omega)
      have e : (fun k => if k = x then true else l.contains k) = (l ++ [x]).contains := by
        funext k; by_cases hk : k = x <;> simp [hk]
      rw [e] at t7; exact t7
  · have hin : i = n := by omega
    subst hin
    simp -dsimp only [go_sem, ↓reduceIte, reduceCtorEq, Nat.reduceEqDiff, Nat.reduceAdd, Nat.reduceLeDiff, Nat.reduceMul, Int.reduceBEq, Int.reduceBNe, Int.reduceLT, Int.reduceLE, Int.reduceGT, Int.reduceGE]
    rw [Nat.sub_self] at hgo
    refine ⟨p3, ?_⟩
    rw [← hgo]
    simp only [sortGo, ListOr]
    rw [← hl] at ol
    exact ⟨_, rfl, ol.lower (by omega)⟩
end Go.Proofs.Tst
namespace Go.Proofs.Tst
open Go Go.Vc
set_option maxHeartbeats 1600000 in
theorem order_Glue {n : Nat} {M : Nat → Nat → Bool} {rv lv : Value} {l : List (Int × Int)} {lo hi : Nat} {h : Heap} (hr : ProgAt h lo hi rv n M) (ht : TabAt h) (hl : Rd 2 h lv l.length (pairsV l)) (hb : l.length ≤ 4611686018427387904) :
    Con Tryd.prog 25 #[rv, lv] h fun v h' => Fr 0 0 h h' ∧ ResL h' h.size v (glueS n M l) := by
  refine con_order_Glue ?_
  have hn := hr.1
  obtain ⟨la, lc, rfl⟩ := hl.is
  have p0 : Fr 0 0 h h := .refl _ _ _
  simp -dsimp only [go_sem, ↓reduceIte, reduceCtorEq, Nat.reduceEqDiff, Nat.reduceAdd, Nat.reduceLeDiff, Nat.reduceMul, Int.reduceBEq, Int.reduceBNe, Int.reduceLT, Int.reduceLE, Int.reduceGT, Int.reduceGE]
  refine call_of (rel_Len hr) ?_
  rintro v h1 ⟨rfl, rfl⟩
  simp -dsimp only [go_sem, ↓reduceIte, reduceCtorEq, Nat.reduceEqDiff, Nat.reduceAdd, Nat.reduceLeDiff, Nat.reduceMul, Int.reduceBEq, Int.reduceBNe, Int.reduceLT, Int.reduceLE, Int.reduceGT, Int.reduceGE]
  refine Chk_intro (by omega) ?_
  intro bo h2 n2
  have n2_a := n2.at_
  have n2_z := n2.size
  replace p0 := p0.fresh (n2.fr (lo := 0) (hi := 0)) (by omega)
  have ro := n2.row
  rw [zeros_one, Int.toNat_natCast, ivec_rep] at ro
  simp -dsimp only [go_sem, ↓reduceIte, reduceCtorEq, Nat.reduceEqDiff, Nat.reduceAdd, Nat.reduceLeDiff, Nat.reduceMul, Int.reduceBEq, Int.reduceBNe, Int.reduceLT, Int.reduceLE, Int.reduceGT, Int.reduceGE, ro.cell]
  refine Chk_intro (by omega) ?_
  intro bx h3 n3
  have n3_a := n3.at_
  have n3_z := n3.size
  replace p0 := p0.fresh (n3.fr (lo := 0) (hi := 0)) (by omega)
  replace ro := ro.fr (n3.fr (lo := 0) (hi := 0)) (by omega)
  have rx := n3.row
  rw [zeros_one, Int.toNat_natCast, ivec_rep] at rx
  simp -dsimp only [go_sem, ↓reduceIte, reduceCtorEq, Nat.reduceEqDiff, Nat.reduceAdd, Nat.reduceLeDiff, Nat.reduceMul, Int.reduceBEq, Int.reduceBNe, Int.reduceLT, Int.reduceLE, Int.reduceGT, Int.reduceGE, ro.cell, rx.cell]
  refine loop_intro (fun i : Nat => [(0, rv), (1, .slice la l.length lc), (6, .int .i64 n), (7, .slice (some ⟨bo, 0, none⟩) n n), (8, .slice (some ⟨bx, 0, none⟩) n n), (27, .int .i64 n), (28, .int .i64 i)])
    (fun i h' => i ≤ n ∧ Fr 0 0 h1 h' ∧ h3.size ≤ h'.size ∧ Rw h' bo (ivec n fun p => if p < i then (p : Int) else 0) ∧ Rw h' bx (ivec n fun p => if p < i then -1 else 0)) (fun i => n - i) 0 ?_ ?_ ?_
  · simp [Le, find]
  · exact ⟨by omega, p0, by omega, by simpa using ro, by simpa using rx⟩
  rintro i h4 ⟨hi, p0, y4, ro, rx⟩
  have p0_z := p0.size
  have ro_l := ro.lt
  have rx_l := rx.lt
  simp -dsimp only [go_sem, ↓reduceIte, reduceCtorEq, Nat.reduceEqDiff, Nat.reduceAdd, Nat.reduceLeDiff, Nat.reduceMul, Int.reduceBEq, Int.reduceBNe, Int.reduceLT, Int.reduceLE, Int.reduceGT, Int.reduceGE, ro.cell, rx.cell]
  refine ⟨fun hlt => ?_, fun hge => ?_⟩
  · have hlt : i < n := by omega
    simp -dsimp only [go_sem, ↓reduceIte, reduceCtorEq, Nat.reduceEqDiff, Nat.reduceAdd, Nat.reduceLeDiff, Nat.reduceMul, Int.reduceBEq, Int.reduceBNe, Int.reduceLT, Int.reduceLE, Int.reduceGT, Int.reduceGE, ro.cell, rx.cell]
    refine Chk_intro (by omega) ?_
    simp -dsimp only [go_sem, ↓reduceIte, reduceCtorEq, Nat.reduceEqDiff, Nat.reduceAdd, Nat.reduceLeDiff, Nat.reduceMul, Int.reduceBEq, Int.reduceBNe, Int.reduceLT, Int.reduceLE, Int.reduceGT, Int.reduceGE, ro.cell, rx.cell]
    refine Chk_intro (ro.wr (by first | (simp; done) | (simp; omega))) fun h5 s5 => ?_
    have s5_z := s5.size
    replace p0 := p0.fresh s5.fr (by omega)
    replace rx := rx.fr s5.fr (by omega)
    replace ro := s5.row ro
    try simp only [cl_int, cl_bool, cl_slice, cl_ptr, putAt_one, List.set_cons_zero, List.set_cons_succ, ivec_set, brow_upd] at ro
    simp -dsimp only [go_sem, ↓reduceIte, reduceCtorEq, Nat.reduceEqDiff, Nat.reduceAdd, Nat.reduceLeDiff, Nat.reduceMul, Int.reduceBEq, Int.reduceBNe, Int.reduceLT, Int.reduceLE, Int.reduceGT, Int.reduceGE, ro.cell, rx.cell]
    refine Chk_intro (by omega) ?_
    simp -dsimp only [go_sem, ↓reduceIte, reduceCtorEq, Nat.reduceEqDiff, Nat.reduceAdd, Nat.reduceLeDiff, Nat.reduceMul, Int.reduceBEq, Int.reduceBNe, Int.reduceLT, Int.reduceLE, Int.reduceGT, Int.reduceGE, ro.cell, rx.cell]
    refine Chk_intro (rx.wr (by first | (simp; done) | (simp; omega))) fun h6 s6 => ?_
    have s6_z := s6.size
    replace p0 := p0.fresh s6.fr (by omega)
    replace ro := ro.fr s6.fr (by omega)
    replace rx := s6.row rx
    try simp only [cl_int, cl_bool, cl_slice, cl_ptr, putAt_one, List.set_cons_zero, List.set_cons_succ, ivec_set, brow_upd] at rx
    simp -dsimp only [go_sem, ↓reduceIte, reduceCtorEq, Nat.reduceEqDiff, Nat.reduceAdd, Nat.reduceLeDiff, Nat.reduceMul, Int.reduceBEq, Int.reduceBNe, Int.reduceLT, Int.reduceLE, Int.reduceGT, Int.reduceGE, ro.cell, rx.cell]
    simp -dsimp (disch := omega) only [wrap64]
    refine ⟨i + 1, by omega, by simp [Le, find], by omega, p0, by omega, ?_, ?_⟩
    · rw [ivec_congr fun p hp => ?_]; exact ro
      by_cases h : p = i
      · subst h; rw [upd_same, if_pos (by omega)]
      · rw [upd_ne _ _ h]; congr 1; simp; omega
    · rw [ivec_congr fun p hp => ?_]; exact rx
      by_cases h : p = i
      · subst h; rw [upd_same, if_pos (by omega)]
      · rw [upd_ne _ _ h]; congr 1; simp; omega
  obtain rfl : n = i := by omega
  replace ro : Rw h4 bo (ivec n fun p => ((id p : Nat) : Int)) := by rw [ivec_congr fun p hp => ?_]; exact ro; simp [hp]
  replace rx : Rw h4 bx (ivec n fun _ => -1) := by rw [ivec_congr fun p hp => ?_]; exact rx; simp [hp]
  have a3 := p0.size
  simp -dsimp only [go_sem, ↓reduceIte, reduceCtorEq, Nat.reduceEqDiff, Nat.reduceAdd, Nat.reduceLeDiff, Nat.reduceMul, Int.reduceBEq, Int.reduceBNe, Int.reduceLT, Int.reduceLE, Int.reduceGT, Int.reduceGE, ro.cell, rx.cell]
  refine Chk_intro (by omega) ?_
  intro bu h5 n5
  have n5_a := n5.at_
  have n5_z := n5.size
  replace p0 := p0.fresh (n5.fr (lo := 0) (hi := 0)) (by omega)
  replace ro := ro.fr (n5.fr (lo := 0) (hi := 0)) (by omega)
  replace rx := rx.fr (n5.fr (lo := 0) (hi := 0)) (by omega)
  have ru := n5.row
  rw [zeros_one, Int.toNat_natCast, brow_false] at ru
  simp -dsimp only [go_sem, ↓reduceIte, reduceCtorEq, Nat.reduceEqDiff, Nat.reduceAdd, Nat.reduceLeDiff, Nat.reduceMul, Int.reduceBEq, Int.reduceBNe, Int.reduceLT, Int.reduceLE, Int.reduceGT, Int.reduceGE, ro.cell, rx.cell, ru.cell]
  refine loop_intro (fun i : Nat => [(0, rv), (6, .int .i64 n), (7, .slice (some ⟨bo, 0, none⟩) n n), (8, .slice (some ⟨bx, 0, none⟩) n n), (10, .slice (some ⟨bu, 0, none⟩) n n), (41, .slice la l.length lc), (42, .int .i64 l.length), (43, .int .i64 i)])
    (fun i h' => i ≤ l.length ∧ Fr 0 0 h1 h' ∧ h5.size ≤ h'.size ∧ ∃ (U : Nat → Bool) (F : Nat → Nat) (S : Nat → Int), Rw h' bo (ivec n fun p => (F p : Int)) ∧ Rw h' bx (ivec n S) ∧ Rw h' bu (brow n U) ∧ GluI n U F S ∧ glueIn n (l.drop i) U F S = glueFS n l) (fun i => l.length - i) 0 ?_ ?_ ?_
  · simp [Le, find]
  · exact ⟨by omega, p0, by omega, _, _, _, ro, rx, ru, .start n, rfl⟩
  rintro i h6 ⟨hi, p0, y6, U, F, S, ro, rx, ru, hG, hgl⟩
  have p0_z := p0.size
  have ro_l := ro.lt
  have rx_l := rx.lt
  have ru_l := ru.lt
  simp -dsimp only [go_sem, ↓reduceIte, reduceCtorEq, Nat.reduceEqDiff, Nat.reduceAdd, Nat.reduceLeDiff, Nat.reduceMul, Int.reduceBEq, Int.reduceBNe, Int.reduceLT, Int.reduceLE, Int.reduceGT, Int.reduceGE, ro.cell, rx.cell, ru.cell]
  refine ⟨fun hlt => ?_, fun hge => ?_⟩
  · have hlt : i < l.length := by omega
    have hp : l[i]? = some l[i] := by simp [hlt]
    rw [List.drop_eq_getElem_cons hlt] at hgl
    generalize l[i] = p at hp hgl
    obtain ⟨a, b⟩ := p
    have bad : badP n U (a, b) → glueFS n l = none := fun hb => by rw [← hgl]; simp [glueIn, hb]
    have fin : glueFS n l = none → glueS n M l = .error 1 := fun hb => by simp [glueS, hb]
    simp -dsimp only [go_sem, ↓reduceIte, reduceCtorEq, Nat.reduceEqDiff, Nat.reduceAdd, Nat.reduceLeDiff, Nat.reduceMul, Int.reduceBEq, Int.reduceBNe, Int.reduceLT, Int.reduceLE, Int.reduceGT, Int.reduceGE, ro.cell, rx.cell, ru.cell]
    refine Chk_intro (by omega) ((hl.fr p0).pair hp fun b7 o7 c1 c2 => ?_)
    simp -dsimp only [go_sem, ↓reduceIte, reduceCtorEq, Nat.reduceEqDiff, Nat.reduceAdd, Nat.reduceLeDiff, Nat.reduceMul, Int.reduceBEq, Int.reduceBNe, Int.reduceLT, Int.reduceLE, Int.reduceGT, Int.reduceGE, c1, c2, ro.cell, rx.cell, ru.cell]
    intro b8 h8 n8
    have n8_a := n8.at_
    have n8_z := n8.size
    replace p0 := p0.fresh (n8.fr (lo := 0) (hi := 0)) (by omega)
    replace ro := ro.fr (n8.fr (lo := 0) (hi := 0)) (by omega)
    replace rx := rx.fr (n8.fr (lo := 0) (hi := 0)) (by omega)
    replace ru := ru.fr (n8.fr (lo := 0) (hi := 0)) (by omega)
    have r8 := n8.row
    simp -dsimp only [go_sem, ↓reduceIte, reduceCtorEq, Nat.reduceEqDiff, Nat.reduceAdd, Nat.reduceLeDiff, Nat.reduceMul, Int.reduceBEq, Int.reduceBNe, Int.reduceLT, Int.reduceLE, Int.reduceGT, Int.reduceGE, ro.cell, rx.cell, ru.cell, r8.cell]
    refine Chk_intro (r8.wr (by first | (simp; done) | (simp; omega))) fun h9 s9 => ?_
    have s9_z := s9.size
    replace p0 := p0.fresh s9.fr (by omega)
    replace ro := ro.fr s9.fr (by omega)
    replace rx := rx.fr s9.fr (by omega)
    replace ru := ru.fr s9.fr (by omega)
    replace r8 := s9.row r8
    try simp only [cl_int, cl_bool, cl_slice, cl_ptr, putAt_one, List.set_cons_zero, List.set_cons_succ, ivec_set, brow_upd] at r8
    simp -dsimp only [go_sem, ↓reduceIte, reduceCtorEq, Nat.reduceEqDiff, Nat.reduceAdd, Nat.reduceLeDiff, Nat.reduceMul, Int.reduceBEq, Int.reduceBNe, Int.reduceLT, Int.reduceLE, Int.reduceGT, Int.reduceGE] at r8
    by_cases g1 : a < 0
    · simp -dsimp only [go_sem, ↓reduceIte, reduceCtorEq, Nat.reduceEqDiff, Nat.reduceAdd, Nat.reduceLeDiff, Nat.reduceMul, Int.reduceBEq, Int.reduceBNe, Int.reduceLT, Int.reduceLE, Int.reduceGT, Int.reduceGE, g1, decide_true, ro.cell, rx.cell, ru.cell, r8.cell]
      exact ⟨p0, by rw [fin (bad (.inl g1))]; rfl⟩
    by_cases g2 : a ≥ (n : Int)
    · simp -dsimp only [go_sem, ↓reduceIte, reduceCtorEq, Nat.reduceEqDiff, Nat.reduceAdd, Nat.reduceLeDiff, Nat.reduceMul, Int.reduceBEq, Int.reduceBNe, Int.reduceLT, Int.reduceLE, Int.reduceGT, Int.reduceGE, g1, g2, decide_true, decide_false, ro.cell, rx.cell, ru.cell, r8.cell]
      exact ⟨p0, by rw [fin (bad (.inr (.inl g2)))]; rfl⟩
    by_cases g3 : b < 0
    · simp -dsimp only [go_sem, ↓reduceIte, reduceCtorEq, Nat.reduceEqDiff, Nat.reduceAdd, Nat.reduceLeDiff, Nat.reduceMul, Int.reduceBEq, Int.reduceBNe, Int.reduceLT, Int.reduceLE, Int.reduceGT, Int.reduceGE, g1, g2, g3, decide_true, decide_false, ro.cell, rx.cell, ru.cell, r8.cell]
      exact ⟨p0, by rw [fin (bad (.inr (.inr (.inl g3))))]; rfl⟩
    by_cases g4 : b ≥ (n : Int)
    · simp -dsimp only [go_sem, ↓reduceIte, reduceCtorEq, Nat.reduceEqDiff, Nat.reduceAdd, Nat.reduceLeDiff, Nat.reduceMul, Int.reduceBEq, Int.reduceBNe, Int.reduceLT, Int.reduceLE, Int.reduceGT, Int.reduceGE, g1, g2, g3, g4, decide_true, decide_false, ro.cell, rx.cell, ru.cell, r8.cell]
      exact ⟨p0, by rw [fin (bad (.inr (.inr (.inr (.inl g4)))))]; rfl⟩
    obtain ⟨x, rfl⟩ : ∃ x : Nat, a = x := ⟨a.toNat, by omega⟩
    obtain ⟨y, rfl⟩ : ∃ y : Nat, b = y := ⟨b.toNat, by omega⟩
    have hx : x < n := by omega
    have hy : y < n := by omega
    by_cases g5 : x = y
    · subst g5
      simp -dsimp only [go_sem, ↓reduceIte, reduceCtorEq, Nat.reduceEqDiff, Nat.reduceAdd, Nat.reduceLeDiff, Nat.reduceMul, Int.reduceBEq, Int.reduceBNe, Int.reduceLT, Int.reduceLE, Int.reduceGT, Int.reduceGE, g1, g2, g3, g4, decide_true, decide_false, beq_self_eq_true, ro.cell, rx.cell, ru.cell, r8.cell]
      exact ⟨p0, by rw [fin (bad (.inr (.inr (.inr (.inr (.inl rfl))))))]; rfl⟩
    have g5' : ((x : Int) == (y : Int)) = false := by simp; omega
    simp -dsimp only [go_sem, ↓reduceIte, reduceCtorEq, Nat.reduceEqDiff, Nat.reduceAdd, Nat.reduceLeDiff, Nat.reduceMul, Int.reduceBEq, Int.reduceBNe, Int.reduceLT, Int.reduceLE, Int.reduceGT, Int.reduceGE, g1, g2, g3, g4, g5', decide_true, decide_false, decide_eq_false, ro.cell, rx.cell, ru.cell, r8.cell]
    refine Chk_intro (by omega) ?_
    simp -dsimp only [go_sem, ↓reduceIte, reduceCtorEq, Nat.reduceEqDiff, Nat.reduceAdd, Nat.reduceLeDiff, Nat.reduceMul, Int.reduceBEq, Int.reduceBNe, Int.reduceLT, Int.reduceLE, Int.reduceGT, Int.reduceGE, brow_get hx, ro.cell, rx.cell, ru.cell, r8.cell]
    by_cases g6 : U x = true
    · simp -dsimp only [go_sem, ↓reduceIte, reduceCtorEq, Nat.reduceEqDiff, Nat.reduceAdd, Nat.reduceLeDiff, Nat.reduceMul, Int.reduceBEq, Int.reduceBNe, Int.reduceLT, Int.reduceLE, Int.reduceGT, Int.reduceGE, g6, g1, g2, g3, g4, g5', decide_true, decide_false, ro.cell, rx.cell, ru.cell, r8.cell]
      exact ⟨p0, by rw [fin (bad (.inr (.inr (.inr (.inr (.inr (.inl (by simpa using g6))))))))]; rfl⟩
    replace g6 : U x = false := Bool.eq_false_iff.2 g6
    simp -dsimp only [go_sem, ↓reduceIte, reduceCtorEq, Nat.reduceEqDiff, Nat.reduceAdd, Nat.reduceLeDiff, Nat.reduceMul, Int.reduceBEq, Int.reduceBNe, Int.reduceLT, Int.reduceLE, Int.reduceGT, Int.reduceGE, g6, g1, g2, g3, g4, g5', decide_true, decide_false, ro.cell, rx.cell, ru.cell, r8.cell]
    refine Chk_intro (by omega) ?_
    simp -dsimp only [go_sem, ↓reduceIte, reduceCtorEq, Nat.reduceEqDiff, Nat.reduceAdd, Nat.reduceLeDiff, Nat.reduceMul, Int.reduceBEq, Int.reduceBNe, Int.reduceLT, Int.reduceLE, Int.reduceGT, Int.reduceGE, brow_get hy, g6, ro.cell, rx.cell, ru.cell, r8.cell]
    by_cases g7 : U y = true
    · simp -dsimp only [go_sem, ↓reduceIte, reduceCtorEq, Nat.reduceEqDiff, Nat.reduceAdd, Nat.reduceLeDiff, Nat.reduceMul, Int.reduceBEq, Int.reduceBNe, Int.reduceLT, Int.reduceLE, Int.reduceGT, Int.reduceGE, g7, g1, g2, g3, g4, g5', decide_true, decide_false, ro.cell, rx.cell, ru.cell, r8.cell]
      exact ⟨p0, by rw [fin (bad (.inr (.inr (.inr (.inr (.inr (.inr (by simpa using g7))))))))]; rfl⟩
    replace g7 : U y = false := Bool.eq_false_iff.2 g7
    simp -dsimp only [go_sem, ↓reduceIte, reduceCtorEq, Nat.reduceEqDiff, Nat.reduceAdd, Nat.reduceLeDiff, Nat.reduceMul, Int.reduceBEq, Int.reduceBNe, Int.reduceLT, Int.reduceLE, Int.reduceGT, Int.reduceGE, g7, g6, ro.cell, rx.cell, ru.cell, r8.cell]
    have nb : ¬ badP n U ((x : Int), (y : Int)) := by
      simp [badP, g6, g7]; omega
    refine Chk_intro (by omega) ?_
    simp -dsimp only [go_sem, ↓reduceIte, reduceCtorEq, Nat.reduceEqDiff, Nat.reduceAdd, Nat.reduceLeDiff, Nat.reduceMul, Int.reduceBEq, Int.reduceBNe, Int.reduceLT, Int.reduceLE, Int.reduceGT, Int.reduceGE, ro.cell, rx.cell, ru.cell, r8.cell]
    refine Chk_intro (ru.wr (by first | (simp; done) | (simp; omega))) fun h10 s10 => ?_
    have s10_z := s10.size
    replace p0 := p0.fresh s10.fr (by omega)
    replace ro := ro.fr s10.fr (by omega)
    replace rx := rx.fr s10.fr (by omega)
    replace r8 := r8.fr s10.fr (by omega)
    replace ru := s10.row ru
    try simp only [cl_int, cl_bool, cl_slice, cl_ptr, putAt_one, List.set_cons_zero, List.set_cons_succ, ivec_set, brow_upd] at ru
    simp -dsimp only [go_sem, ↓reduceIte, reduceCtorEq, Nat.reduceEqDiff, Nat.reduceAdd, Nat.reduceLeDiff, Nat.reduceMul, Int.reduceBEq, Int.reduceBNe, Int.reduceLT, Int.reduceLE, Int.reduceGT, Int.reduceGE, ro.cell, rx.cell, ru.cell, r8.cell]
    refine Chk_intro (by omega) ?_
    simp -dsimp only [go_sem, ↓reduceIte, reduceCtorEq, Nat.reduceEqDiff, Nat.reduceAdd, Nat.reduceLeDiff, Nat.reduceMul, Int.reduceBEq, Int.reduceBNe, Int.reduceLT, Int.reduceLE, Int.reduceGT, Int.reduceGE, ro.cell, rx.cell, ru.cell, r8.cell]
    refine Chk_intro (ru.wr (by first | (simp; done) | (simp; omega))) fun h11 s11 => ?_
    have s11_z := s11.size
    replace p0 := p0.fresh s11.fr (by omega)
    replace ro := ro.fr s11.fr (by omega)
    replace rx := rx.fr s11.fr (by omega)
    replace r8 := r8.fr s11.fr (by omega)
    replace ru := s11.row ru
    try simp only [cl_int, cl_bool, cl_slice, cl_ptr, putAt_one, List.set_cons_zero, List.set_cons_succ, ivec_set, brow_upd] at ru
    simp -dsimp only [go_sem, ↓reduceIte, reduceCtorEq, Nat.reduceEqDiff, Nat.reduceAdd, Nat.reduceLeDiff, Nat.reduceMul, Int.reduceBEq, Int.reduceBNe, Int.reduceLT, Int.reduceLE, Int.reduceGT, Int.reduceGE, ro.cell, rx.cell, ru.cell, r8.cell]
    refine Chk_intro (by omega) ?_
    simp -dsimp only [go_sem, ↓reduceIte, reduceCtorEq, Nat.reduceEqDiff, Nat.reduceAdd, Nat.reduceLeDiff, Nat.reduceMul, Int.reduceBEq, Int.reduceBNe, Int.reduceLT, Int.reduceLE, Int.reduceGT, Int.reduceGE, ro.cell, rx.cell, ru.cell, r8.cell]
    refine Chk_intro (ro.wr (by first | (simp; done) | (simp; omega))) fun h12 s12 => ?_
    have s12_z := s12.size
    replace p0 := p0.fresh s12.fr (by omega)
    replace rx := rx.fr s12.fr (by omega)
    replace ru := ru.fr s12.fr (by omega)
    replace r8 := r8.fr s12.fr (by omega)
    replace ro := s12.row ro
    try simp only [cl_int, cl_bool, cl_slice, cl_ptr, putAt_one, List.set_cons_zero, List.set_cons_succ, ivec_set, brow_upd] at ro
    simp -dsimp only [go_sem, ↓reduceIte, reduceCtorEq, Nat.reduceEqDiff, Nat.reduceAdd, Nat.reduceLeDiff, Nat.reduceMul, Int.reduceBEq, Int.reduceBNe, Int.reduceLT, Int.reduceLE, Int.reduceGT, Int.reduceGE, ro.cell, rx.cell, ru.cell, r8.cell]
    refine Chk_intro (by omega) ?_
    simp -dsimp only [go_sem, ↓reduceIte, reduceCtorEq, Nat.reduceEqDiff, Nat.reduceAdd, Nat.reduceLeDiff, Nat.reduceMul, Int.reduceBEq, Int.reduceBNe, Int.reduceLT, Int.reduceLE, Int.reduceGT, Int.reduceGE, ro.cell, rx.cell, ru.cell, r8.cell]
    refine Chk_intro (rx.wr (by first | (simp; done) | (simp; omega))) fun h13 s13 => ?_
    have s13_z := s13.size
    replace p0 := p0.fresh s13.fr (by omega)
    replace ro := ro.fr s13.fr (by omega)
    replace ru := ru.fr s13.fr (by omega)
    replace r8 := r8.fr s13.fr (by omega)
    replace rx := s13.row rx
    try simp only [cl_int, cl_bool, cl_slice, cl_ptr, putAt_one, List.set_cons_zero, List.set_cons_succ, ivec_set, brow_upd] at rx
    simp -dsimp only [go_sem, ↓reduceIte, reduceCtorEq, Nat.reduceEqDiff, Nat.reduceAdd, Nat.reduceLeDiff, Nat.reduceMul, Int.reduceBEq, Int.reduceBNe, Int.reduceLT, Int.reduceLE, Int.reduceGT, Int.reduceGE, ro.cell, rx.cell, ru.cell, r8.cell]
    simp -dsimp (disch := omega) only [wrap64]
    simp only [glueIn, if_neg nb, Int.toNat_natCast] at hgl
    refine ⟨i + 1, by omega, by simp [Le, find], by omega, p0, by omega, upd (upd U x true) y true, upd F y x, upd S x (y : Int), ?_, rx, ru, hG.step hx hy g5 g6 g7, hgl⟩
    rw [ivec_congr fun p hp => ?_]; exact ro
    unfold upd; split <;> rfl
  have hil : i = l.length := by omega
  subst hil
  rw [List.drop_length] at hgl
  simp only [glueIn] at hgl
  have y1 := p0.size
  simp -dsimp only [go_sem, ↓reduceIte, reduceCtorEq, Nat.reduceEqDiff, Nat.reduceAdd, Nat.reduceLeDiff, Nat.reduceMul, Int.reduceBEq, Int.reduceBNe, Int.reduceLT, Int.reduceLE, Int.reduceGT, Int.reduceGE, ro.cell, rx.cell, ru.cell]
  refine call_of (rel_New n h6) ?_
  rintro v7 h7 ⟨f7, t7⟩
  have f7_z := f7.size
  replace p0 := p0.fresh f7 (by omega)
  replace ro := ro.fr f7 (by omega)
  replace rx := rx.fr f7 (by omega)
  replace ru := ru.fr f7 (by omega)
  have hcl : clampN n = n := by unfold clampN; omega
  rw [hcl] at t7
  simp -dsimp only [go_sem, ↓reduceIte, reduceCtorEq, Nat.reduceEqDiff, Nat.reduceAdd, Nat.reduceLeDiff, Nat.reduceMul, Int.reduceBEq, Int.reduceBNe, Int.reduceLT, Int.reduceLE, Int.reduceGT, Int.reduceGE, ro.cell, rx.cell, ru.cell]
  refine call_of (rel_Pairs (hr.fr p0 (by omega)) (ht.fr p0 (by omega))) ?_
  rintro v h8 ⟨f8, o8⟩
  have f8_z := f8.size
  replace p0 := p0.fresh f8 (by omega)
  replace ro := ro.fr f8 (by omega)
  replace rx := rx.fr f8 (by omega)
  replace ru := ru.fr f8 (by omega)
  replace t7 := t7.fr f8 (by omega)
  obtain ⟨pa, pc, rfl⟩ := o8.is
  have g3 : n * n ≤ 256 * 256 := Nat.mul_le_mul (by omega) (by omega)
  have g4 : (pairsOf n M).length ≤ n * n := length_pairsTo_le n M n
  simp -dsimp only [go_sem, ↓reduceIte, reduceCtorEq, Nat.reduceEqDiff, Nat.reduceAdd, Nat.reduceLeDiff, Nat.reduceMul, Int.reduceBEq, Int.reduceBNe, Int.reduceLT, Int.reduceLE, Int.reduceGT, Int.reduceGE, ro.cell, rx.cell, ru.cell]
  refine loop_intro (fun j : Nat => [(6, .int .i64 n), (7, .slice (some ⟨bo, 0, none⟩) n n), (8, .slice (some ⟨bx, 0, none⟩) n n), (13, v7), (112, .slice pa (pairsOf n M).length pc), (113, .int .i64 (pairsOf n M).length), (114, .int .i64 j)])
    (fun j h' => j ≤ (pairsOf n M).length ∧ Fr 0 0 h1 h' ∧ h8.size ≤ h'.size ∧ Rw h' bo (ivec n fun p => (F p : Int)) ∧ Rw h' bx (ivec n S) ∧ Holder 2 h' (.slice pa (pairsOf n M).length pc) (pairsOf n M).length (pairsV (pairsOf n M)) h7.size ∧
      ∃ N, ProgAt h' h6.size h7.size v7 n N ∧ ∀ x y, N x y = true ↔ ∃ p : Nat × Nat, ((p.1 : Int), (p.2 : Int)) ∈ (pairsOf n M).take j ∧ S p.1 ≠ (p.2 : Int) ∧ F p.1 = x ∧ F p.2 = y) (fun j => (pairsOf n M).length - j) 0 ?_ ?_ ?_
  · simp [Le, find]
  · exact ⟨by omega, p0, by omega, ro, rx, o8, _, t7, by simp⟩
  rintro j h9 ⟨hj, p0, y9, ro, rx, o8, N, t9, hN⟩
  have p0_z := p0.size
  have ro_l := ro.lt
  have rx_l := rx.lt
  have o8_l := o8.top
  simp -dsimp only [go_sem, ↓reduceIte, reduceCtorEq, Nat.reduceEqDiff, Nat.reduceAdd, Nat.reduceLeDiff, Nat.reduceMul, Int.reduceBEq, Int.reduceBNe, Int.reduceLT, Int.reduceLE, Int.reduceGT, Int.reduceGE, ro.cell, rx.cell]
  refine ⟨fun hlt => ?_, fun hge => ?_⟩
  · have hlt : j < (pairsOf n M).length := by omega
    have hq : (pairsOf n M)[j]? = some (pairsOf n M)[j] := by simp
    have htk : (pairsOf n M).take (j + 1) = (pairsOf n M).take j ++ [(pairsOf n M)[j]] := by rw [List.take_succ_eq_append_getElem hlt]
    have hmem : (pairsOf n M)[j] ∈ pairsOf n M := List.getElem_mem _
    generalize (pairsOf n M)[j] = q at hq htk hmem
    obtain ⟨a, b, ha, hb', hm, rfl⟩ := mem_pairsOf.1 hmem
    simp -dsimp only [go_sem, ↓reduceIte, reduceCtorEq, Nat.reduceEqDiff, Nat.reduceAdd, Nat.reduceLeDiff, Nat.reduceMul, Int.reduceBEq, Int.reduceBNe, Int.reduceLT, Int.reduceLE, Int.reduceGT, Int.reduceGE, ro.cell, rx.cell]
    refine Chk_intro (by omega) (o8.rd.pair hq fun b6 o6 c6 c7 => ?_)
    simp -dsimp only [go_sem, ↓reduceIte, reduceCtorEq, Nat.reduceEqDiff, Nat.reduceAdd, Nat.reduceLeDiff, Nat.reduceMul, Int.reduceBEq, Int.reduceBNe, Int.reduceLT, Int.reduceLE, Int.reduceGT, Int.reduceGE, c6, c7, ro.cell, rx.cell]
    intro b10 h10 n10
    have n10_a := n10.at_
    have n10_z := n10.size
    replace p0 := p0.fresh (n10.fr (lo := 0) (hi := 0)) (by omega)
    replace ro := ro.fr (n10.fr (lo := 0) (hi := 0)) (by omega)
    replace rx := rx.fr (n10.fr (lo := 0) (hi := 0)) (by omega)
    replace o8 := o8.fr (n10.fr (lo := 0) (hi := 0)) (by have := o8.at_; omega)
    replace t9 := t9.fr (n10.fr (lo := 0) (hi := 0)) (by omega)
    have r10 := n10.row
    simp -dsimp only [go_sem, ↓reduceIte, reduceCtorEq, Nat.reduceEqDiff, Nat.reduceAdd, Nat.reduceLeDiff, Nat.reduceMul, Int.reduceBEq, Int.reduceBNe, Int.reduceLT, Int.reduceLE, Int.reduceGT, Int.reduceGE, ro.cell, rx.cell, r10.cell]
    refine Chk_intro (r10.wr (by first | (simp; done) | (simp; omega))) fun h11 s11 => ?_
    have s11_z := s11.size
    replace p0 := p0.fresh s11.fr (by omega)
    replace ro := ro.fr s11.fr (by omega)
    replace rx := rx.fr s11.fr (by omega)
    replace o8 := o8.fr s11.fr (by have := o8.at_; omega)
    replace t9 := t9.fr s11.fr (by omega)
    replace r10 := s11.row r10
    try simp only [cl_int, cl_bool, cl_slice, cl_ptr, putAt_one, List.set_cons_zero, List.set_cons_succ, ivec_set, brow_upd] at r10
    simp -dsimp only [go_sem, ↓reduceIte, reduceCtorEq, Nat.reduceEqDiff, Nat.reduceAdd, Nat.reduceLeDiff, Nat.reduceMul, Int.reduceBEq, Int.reduceBNe, Int.reduceLT, Int.reduceLE, Int.reduceGT, Int.reduceGE] at r10
    simp -dsimp only [go_sem, ↓reduceIte, reduceCtorEq, Nat.reduceEqDiff, Nat.reduceAdd, Nat.reduceLeDiff, Nat.reduceMul, Int.reduceBEq, Int.reduceBNe, Int.reduceLT, Int.reduceLE, Int.reduceGT, Int.reduceGE, ro.cell, rx.cell, r10.cell]
    refine Chk_intro (by omega) ?_
    simp -dsimp only [go_sem, ↓reduceIte, reduceCtorEq, Nat.reduceEqDiff, Nat.reduceAdd, Nat.reduceLeDiff, Nat.reduceMul, Int.reduceBEq, Int.reduceBNe, Int.reduceLT, Int.reduceLE, Int.reduceGT, Int.reduceGE, ivec_get ha, ro.cell, rx.cell, r10.cell]
    refine ⟨fun hne => ?_, fun heq => ?_⟩
    · have hFa := hG.lt a ha
      have hFb := hG.lt b hb'
      simp -dsimp only [go_sem, ↓reduceIte, reduceCtorEq, Nat.reduceEqDiff, Nat.reduceAdd, Nat.reduceLeDiff, Nat.reduceMul, Int.reduceBEq, Int.reduceBNe, Int.reduceLT, Int.reduceLE, Int.reduceGT, Int.reduceGE, ro.cell, rx.cell, r10.cell]
      refine Chk_intro (by omega) ?_
      simp -dsimp only [go_sem, ↓reduceIte, reduceCtorEq, Nat.reduceEqDiff, Nat.reduceAdd, Nat.reduceLeDiff, Nat.reduceMul, Int.reduceBEq, Int.reduceBNe, Int.reduceLT, Int.reduceLE, Int.reduceGT, Int.reduceGE, ivec_get ha, ro.cell, rx.cell, r10.cell]
      refine Chk_intro (by omega) ?_
      simp -dsimp only [go_sem, ↓reduceIte, reduceCtorEq, Nat.reduceEqDiff, Nat.reduceAdd, Nat.reduceLeDiff, Nat.reduceMul, Int.reduceBEq, Int.reduceBNe, Int.reduceLT, Int.reduceLE, Int.reduceGT, Int.reduceGE, ivec_get hb', ro.cell, rx.cell, r10.cell]
      refine call_of (rel_Put t9 (F a) (F b) true) ?_
      rintro v12 h12 ⟨f12, z12, rfl, t12⟩
      have f12_z := f12.size
      replace p0 := p0.fresh f12 (by omega)
      replace ro := ro.fr f12 (by omega)
      replace rx := rx.fr f12 (by omega)
      replace o8 := o8.fr f12 (by have := o8.at_; omega)
      replace r10 := r10.fr f12 (by omega)
      simp -dsimp only [go_sem, ↓reduceIte, reduceCtorEq, Nat.reduceEqDiff, Nat.reduceAdd, Nat.reduceLeDiff, Nat.reduceMul, Int.reduceBEq, Int.reduceBNe, Int.reduceLT, Int.reduceLE, Int.reduceGT, Int.reduceGE, ro.cell, rx.cell, r10.cell]
      simp -dsimp (disch := omega) only [wrap64]
      refine ⟨j + 1, by omega, by simp [Le, find], by omega, p0, by omega, ro, rx, o8, _, t12, fun x y => ?_⟩
      have e : (inR n (F a) && inR n (F b)) = true := by simp [inR]; omega
      simp only [putM, e, Bool.true_and]
      rw [htk]
      by_cases hxy : x = F a ∧ y = F b
      · obtain ⟨rfl, rfl⟩ := hxy
        simp only [beq_self_eq_true, Bool.and_self, if_true, true_iff]
        exact ⟨(a, b), by simp, by simpa using hne, rfl, rfl⟩
      · have : ((F a : Int) == (x : Int) && (F b : Int) == (y : Int)) = false := by
          rw [Bool.eq_false_iff]; intro h; apply hxy; simp at h; omega
        rw [this]
        simp only [Bool.false_eq_true, if_false]
        rw [hN]
        refine exists_congr fun p => ?_
        simp only [List.mem_append, List.mem_singleton, Prod.mk.injEq]
        constructor
        · rintro ⟨h1, h2⟩; exact ⟨.inl h1, h2⟩
        · rintro ⟨h1 | ⟨h1, h1'⟩, h2, h3, h4⟩
          · exact ⟨h1, h2, h3, h4⟩
          · have e1 : p.1 = a := by omega
            have e2 : p.2 = b := by omega
            rw [e1] at h3; rw [e2] at h4
            exact absurd ⟨h3.symm, h4.symm⟩ hxy
    · simp -dsimp only [go_sem, ↓reduceIte, reduceCtorEq, Nat.reduceEqDiff, Nat.reduceAdd, Nat.reduceLeDiff, Nat.reduceMul, Int.reduceBEq, Int.reduceBNe, Int.reduceLT, Int.reduceLE, Int.reduceGT, Int.reduceGE, ro.cell, rx.cell, r10.cell]
      simp -dsimp (disch := omega) only [wrap64]
      refine ⟨j + 1, by omega, by simp [Le, find], by omega, p0, by omega, ro, rx, o8, N, t9, fun x y => ?_⟩
      rw [htk, hN]
      refine exists_congr fun p => ?_
      simp only [List.mem_append, List.mem_singleton, Prod.mk.injEq]
      constructor
      · rintro ⟨h1, h2⟩; exact ⟨.inl h1, h2⟩
      · rintro ⟨h1 | ⟨h1, h1'⟩, h2, h3, h4⟩
        · exact ⟨h1, h2, h3, h4⟩
        · have e1 : p.1 = a := by omega
          have e2 : p.2 = b := by omega
          rw [e1, e2] at h2
          exact absurd h2 (by simpa using heq)
  have hjl : j = (pairsOf n M).length := by omega
  subst hjl
  rw [List.take_length] at hN
  have t9 := t9.congr (M' := glueM n M F S) fun x y hx hy => Bool.eq_iff_iff.2 (by
    rw [hN, glueM_true]
    constructor
    · rintro ⟨⟨p, q⟩, h1, h2, h3, h4⟩
      obtain ⟨a, b, ha, hb, hm, he⟩ := mem_pairsOf.1 h1
      simp only [Prod.mk.injEq] at he
      have e1 : p = a := by omega
      have e2 : q = b := by omega
      subst e1 e2
      exact ⟨p, ha, q, hb, hm, h2, h3, h4⟩
    · rintro ⟨p, hp, q, hq, hm, h2, h3, h4⟩
      exact ⟨(p, q), mem_pairsOf.2 ⟨p, q, hp, hq, hm, rfl⟩, h2, h3, h4⟩)
  have hS : glueS n M l = orCyc (glueGo n F S (glueM n M F S) n []) := by simp only [glueS, ← hgl]
  clear hN
  generalize glueM n M F S = G at hS t9
  simp -dsimp only [go_sem, ↓reduceIte, reduceCtorEq, Nat.reduceEqDiff, Nat.reduceAdd, Nat.reduceLeDiff, Nat.reduceMul, Int.reduceBEq, Int.reduceBNe, Int.reduceLT, Int.reduceLE, Int.reduceGT, Int.reduceGE, ro.cell, rx.cell]
  refine call_of (order_chooser t9 (ht.fr p0 (by omega))) ?_
  rintro v h10 ⟨f10, c, rfl, t10⟩
  have f10_z := f10.size
  replace p0 := p0.fresh f10 (by omega)
  replace ro := ro.fr f10 (by omega)
  replace rx := rx.fr f10 (by omega)
  replace o8 := o8.fr f10 (by have := o8.at_; omega)
  replace t9 := t9.fr f10 (by omega)
  have y10 := p0.size
  simp -dsimp only [go_sem, ↓reduceIte, reduceCtorEq, Nat.reduceEqDiff, Nat.reduceAdd, Nat.reduceLeDiff, Nat.reduceMul, Int.reduceBEq, Int.reduceBNe, Int.reduceLT, Int.reduceLE, Int.reduceGT, Int.reduceGE, ro.cell, rx.cell]
  refine loop_intro (fun s : Value × Nat => [(6, .int .i64 n), (7, .slice (some ⟨bo, 0, none⟩) n n), (8, .slice (some ⟨bx, 0, none⟩) n n), (16, c.next), (17, c.place), (18, s.1)])
    (fun s h' => Fr 0 0 h1 h' ∧ h10.size ≤ h'.size ∧ Rw h' bo (ivec n fun p => (F p : Int)) ∧ Rw h' bx (ivec n S) ∧ ∃ m : List Nat, m.length = s.2 ∧ m.length ≤ n + 1 ∧ Chs h' h9.size h10.size c n G m.contains ∧ Holder 1 h' s.1 m.length (natsV m) h10.size ∧ (∀ q, q < n → F q ≠ q → m.contains q = m.contains (F q)) ∧ ∃ k, n ≤ m.length + k ∧ glueGo n F S G k m = glueGo n F S G n []) (fun s => n - s.2) (.slice none 0 0, 0) ?_ ?_ ?_
  · simp [Le, find]
  · exact ⟨p0, by omega, ro, rx, [], rfl, by simp, t10, .none _ _ _, by simp, n, by simp, rfl⟩
  rintro ⟨lv, i⟩ h12 ⟨p0, y12, ro, rx, m, hmi, hmn, t12, ol, hpt, k, hk, hgo⟩
  dsimp only at hmi ol ⊢
  subst hmi
  have p0_z := p0.size
  have ro_l := ro.lt
  have rx_l := rx.lt
  have ol_l := ol.top
  obtain ⟨va, vc, rfl⟩ := ol.is
  simp -dsimp only [go_sem, ↓reduceIte, reduceCtorEq, Nat.reduceEqDiff, Nat.reduceAdd, Nat.reduceLeDiff, Nat.reduceMul, Int.reduceBEq, Int.reduceBNe, Int.reduceLT, Int.reduceLE, Int.reduceGT, Int.reduceGE, ro.cell, rx.cell]
  refine ⟨fun hlt => ?_, fun hge => ?_⟩
  · have hlt : m.length < n := by omega
    simp -dsimp only [go_sem, ↓reduceIte, reduceCtorEq, Nat.reduceEqDiff, Nat.reduceAdd, Nat.reduceLeDiff, Nat.reduceMul, Int.reduceBEq, Int.reduceBNe, Int.reduceLT, Int.reduceLE, Int.reduceGT, Int.reduceGE, ChB.next, ro.cell, rx.cell]
    refine call_of (chooser_next (q := 0) t12 (by omega)) ?_
    rintro v h13 ⟨rfl, rfl⟩
    simp -dsimp only [go_sem, ↓reduceIte, reduceCtorEq, Nat.reduceEqDiff, Nat.reduceAdd, Nat.reduceLeDiff, Nat.reduceMul, Int.reduceBEq, Int.reduceBNe, Int.reduceLT, Int.reduceLE, Int.reduceGT, Int.reduceGE, ro.cell, rx.cell]
    refine loop_intro (fun q : Nat => [(6, .int .i64 n), (7, .slice (some ⟨bo, 0, none⟩) n n), (8, .slice (some ⟨bx, 0, none⟩) n n), (16, c.next), (17, c.place), (18, .slice va m.length vc), (19, .int .i64 (nx (lf (freeB n G m.contains) n q)))])
      (fun q h' => q ≤ n ∧ h' = h13 ∧ lf (fun p => F p == p && freeB n G m.contains p) n 0 = lf (fun p => F p == p && freeB n G m.contains p) n q) (fun q => n - q) 0 ?_ ?_ ?_
    · simp [Le, find, ChB.next, ChB.place]
    · exact ⟨by omega, rfl, rfl⟩
    rintro q _ ⟨hq, rfl, hlf⟩
    obtain ⟨hl0, hl1⟩ := lf_and (freeB n G m.contains) (fun p => F p == p) n (n - q) q rfl
    -- what is found
    have step : ∀ x, x < n → lf (fun p => F p == p && freeB n G m.contains p) n 0 = some x → freeB n G m.contains x = true → F x = x → ∃ k', k = k' + 1 ∧ glueGo n F S G k' (if S x ≥ 0 then m ++ [x] ++ [(S x).toNat] else m ++ [x]) = glueGo n F S G n [] := fun x hxn hx hfx hFx => by
      obtain ⟨k, rfl⟩ : ∃ k', k = k' + 1 := ⟨k - 1, by omega⟩
      simp only [glueGo, if_neg (show ¬ n ≤ m.length by omega), hx] at hgo
      exact ⟨k, rfl, hgo⟩
    cases hx : lf (freeB n G m.contains) n q with
    | none =>
      have hx' := hl0 hx
      rw [← hlf] at hx'
      simp -dsimp only [go_sem, ↓reduceIte, reduceCtorEq, Nat.reduceEqDiff, Nat.reduceAdd, Nat.reduceLeDiff, Nat.reduceMul, Int.reduceBEq, Int.reduceBNe, Int.reduceLT, Int.reduceLE, Int.reduceGT, Int.reduceGE, hx, ro.cell, rx.cell]
      obtain ⟨k, rfl⟩ : ∃ k', k = k' + 1 := ⟨k - 1, by omega⟩
      simp only [glueGo, if_neg (show ¬ n ≤ m.length by omega), hx'] at hgo
      exact ⟨p0, by rw [hS, ← hgo]; rfl⟩
    | some x =>
      obtain ⟨hqx, hxn, hfx⟩ := lf_some hx
      obtain ⟨hl2, hl3⟩ := hl1 x hx
      simp -dsimp only [go_sem, ↓reduceIte, reduceCtorEq, Nat.reduceEqDiff, Nat.reduceAdd, Nat.reduceLeDiff, Nat.reduceMul, Int.reduceBEq, Int.reduceBNe, Int.reduceLT, Int.reduceLE, Int.reduceGT, Int.reduceGE, hx, ro.cell, rx.cell]
      refine Chk_intro (by omega) ?_
      simp -dsimp only [go_sem, ↓reduceIte, reduceCtorEq, Nat.reduceEqDiff, Nat.reduceAdd, Nat.reduceLeDiff, Nat.reduceMul, Int.reduceBEq, Int.reduceBNe, Int.reduceLT, Int.reduceLE, Int.reduceGT, Int.reduceGE, ivec_get hxn, ro.cell, rx.cell]
      refine ⟨fun hne => ?_, fun heq => ?_⟩
      · have hF : (F x == x) = false := by simp at hne ⊢; omega
        simp -dsimp only [go_sem, ↓reduceIte, reduceCtorEq, Nat.reduceEqDiff, Nat.reduceAdd, Nat.reduceLeDiff, Nat.reduceMul, Int.reduceBEq, Int.reduceBNe, Int.reduceLT, Int.reduceLE, Int.reduceGT, Int.reduceGE, ro.cell, rx.cell]
        rw [wrap64 (by omega) (by omega)]
        simp -dsimp only [go_sem, ↓reduceIte, reduceCtorEq, Nat.reduceEqDiff, Nat.reduceAdd, Nat.reduceLeDiff, Nat.reduceMul, Int.reduceBEq, Int.reduceBNe, Int.reduceLT, Int.reduceLE, Int.reduceGT, Int.reduceGE, ChB.next, ro.cell, rx.cell]
        refine call_of (chooser_next (q := x + 1) t12 (by omega)) ?_
        rintro v h14 ⟨rfl, rfl⟩
        simp -dsimp only [go_sem, ↓reduceIte, reduceCtorEq, Nat.reduceEqDiff, Nat.reduceAdd, Nat.reduceLeDiff, Nat.reduceMul, Int.reduceBEq, Int.reduceBNe, Int.reduceLT, Int.reduceLE, Int.reduceGT, Int.reduceGE, ro.cell, rx.cell]
        exact ⟨x + 1, by omega, by simp [Le, find, ChB.next, ChB.place], by omega, hlf.trans (hl3 hF)⟩
      · have hFx : F x = x := by simp at heq; omega
        obtain ⟨k', hk', hgo'⟩ := step x hxn (hlf.trans (hl2 (by simp [hFx]))) hfx hFx
        have hDx : m.contains x = false := (freeB_true.1 hfx).1
        simp -dsimp only [go_sem, ↓reduceIte, reduceCtorEq, Nat.reduceEqDiff, Nat.reduceAdd, Nat.reduceLeDiff, Nat.reduceMul, Int.reduceBEq, Int.reduceBNe, Int.reduceLT, Int.reduceLE, Int.reduceGT, Int.reduceGE, ChB.place, ro.cell, rx.cell]
        refine call_of (chooser_place t12 hxn true (by simpa using hDx)) ?_
        rintro v h14 ⟨f14, z14, t14⟩
        have f14_z := f14.size
        replace p0 := p0.fresh f14 (by omega)
        replace ro := ro.fr f14 (by omega)
        replace rx := rx.fr f14 (by omega)
        replace ol := ol.fr f14 (by have := ol.at_; omega)
        simp -dsimp only [go_sem, ↓reduceIte, reduceCtorEq, Nat.reduceEqDiff, Nat.reduceAdd, Nat.reduceLeDiff, Nat.reduceMul, Int.reduceBEq, Int.reduceBNe, Int.reduceLT, Int.reduceLE, Int.reduceGT, Int.reduceGE, ro.cell, rx.cell]
        intro b15 h15 n15
        have n15_a := n15.at_
        have n15_z := n15.size
        replace p0 := p0.fresh (n15.fr (lo := 0) (hi := 0)) (by omega)
        replace ro := ro.fr (n15.fr (lo := 0) (hi := 0)) (by omega)
        replace rx := rx.fr (n15.fr (lo := 0) (hi := 0)) (by omega)
        replace ol := ol.fr (n15.fr (lo := 0) (hi := 0)) (by have := ol.at_; omega)
        replace t14 := t14.fr (n15.fr (lo := 0) (hi := 0)) (by omega)
        simp -dsimp only [go_sem, ↓reduceIte, reduceCtorEq, Nat.reduceEqDiff, Nat.reduceAdd, Nat.reduceLeDiff, Nat.reduceMul, Int.reduceBEq, Int.reduceBNe, Int.reduceLT, Int.reduceLE, Int.reduceGT, Int.reduceGE, n15.row.cell, ro.cell, rx.cell]
        refine ol.append (by omega) rfl (by omega) (by simp) (by omega) fun v16 h16 o_new f16 e_app => ?_
        have f16_z := f16.size
        have o_at := ol.at_
        replace p0 := p0.fresh f16 (by omega)
        replace ro := ro.fr f16 (by omega)
        replace rx := rx.fr f16 (by omega)
        replace t14 := t14.fr f16 (by omega)
        clear o_at e_app
        replace ol := o_new
        have ol_l := ol.top
        simp -dsimp only [go_sem, ↓reduceIte, reduceCtorEq, Nat.reduceEqDiff, Nat.reduceAdd, Nat.reduceLeDiff, Nat.reduceMul, Int.reduceBEq, Int.reduceBNe, Int.reduceLT, Int.reduceLE, Int.reduceGT, Int.reduceGE, ro.cell, rx.cell]
        refine Chk_intro (by omega) ?_
        simp -dsimp only [go_sem, ↓reduceIte, reduceCtorEq, Nat.reduceEqDiff, Nat.reduceAdd, Nat.reduceLeDiff, Nat.reduceMul, Int.reduceBEq, Int.reduceBNe, Int.reduceLT, Int.reduceLE, Int.reduceGT, Int.reduceGE, ivec_get hxn, ro.cell, rx.cell]
        have e1 : (fun k => if k = x then true else m.contains k) = (m ++ [x]).contains := by
          funext j; by_cases hj : j = x <;> simp [hj]
        rw [e1] at t14
        have ol2 : Holder 1 h16 v16 (m ++ [x]).length (natsV (m ++ [x])) h10.size := by simpa [natsV] using ol
        have ol2_l := ol2.top
        have hml : (m ++ [x]).length = m.length + 1 := by simp
        have hpt' := hG.keep hxn hpt hFx
        rcases hG.snd x hxn with hs | ⟨y, hy, hs, hyx, hyF, hxF⟩
        · rw [hs, if_neg (by decide)] at hgo'
          rw [hs, if_neg (by decide)] at hpt'
          simp -dsimp only [go_sem, ↓reduceIte, reduceCtorEq, Nat.reduceEqDiff, Nat.reduceAdd, Nat.reduceLeDiff, Nat.reduceMul, Int.reduceBEq, Int.reduceBNe, Int.reduceLT, Int.reduceLE, Int.reduceGT, Int.reduceGE, hs, ro.cell, rx.cell]
          exact ⟨(v16, (m ++ [x]).length), by dsimp only; omega, by simp [Le, find, ChB.next, ChB.place], p0, by omega, ro, rx, m ++ [x], rfl, by omega, t14, ol2, hpt', k', by omega, hgo'⟩
        · rw [hs, if_pos (by omega), Int.toNat_natCast] at hgo'
          rw [hs, if_pos (by omega), Int.toNat_natCast] at hpt'
          obtain ⟨wa, wc, rfl⟩ := ol2.is
          have hDy : (m ++ [x]).contains y = false := by
            have := hpt y hy (by omega)
            rw [hyF, hDx] at this
            simp only [List.contains_append, this, List.contains_cons, List.contains_nil, Bool.or_false, Bool.false_or, beq_eq_false_iff_ne, ne_eq]
            exact hyx
          simp -dsimp only [go_sem, ↓reduceIte, reduceCtorEq, Nat.reduceEqDiff, Nat.reduceAdd, Nat.reduceLeDiff, Nat.reduceMul, Int.reduceBEq, Int.reduceBNe, Int.reduceLT, Int.reduceLE, Int.reduceGT, Int.reduceGE, hs, ChB.place, ro.cell, rx.cell]
          refine call_of (chooser_place t14 hy true (by simpa using hDy)) ?_
          rintro v h17 ⟨f17, z17, t17⟩
          have f17_z := f17.size
          replace p0 := p0.fresh f17 (by omega)
          replace ro := ro.fr f17 (by omega)
          replace rx := rx.fr f17 (by omega)
          replace ol2 := ol2.fr f17 (by have := ol2.at_; omega)
          simp -dsimp only [go_sem, ↓reduceIte, reduceCtorEq, Nat.reduceEqDiff, Nat.reduceAdd, Nat.reduceLeDiff, Nat.reduceMul, Int.reduceBEq, Int.reduceBNe, Int.reduceLT, Int.reduceLE, Int.reduceGT, Int.reduceGE, ro.cell, rx.cell]
          intro b18 h18 n18
          have n18_a := n18.at_
          have n18_z := n18.size
          replace p0 := p0.fresh (n18.fr (lo := 0) (hi := 0)) (by omega)
          replace ro := ro.fr (n18.fr (lo := 0) (hi := 0)) (by omega)
          replace rx := rx.fr (n18.fr (lo := 0) (hi := 0)) (by omega)
          replace ol2 := ol2.fr (n18.fr (lo := 0) (hi := 0)) (by have := ol2.at_; omega)
          replace t17 := t17.fr (n18.fr (lo := 0) (hi := 0)) (by omega)
          simp -dsimp only [go_sem, ↓reduceIte, reduceCtorEq, Nat.reduceEqDiff, Nat.reduceAdd, Nat.reduceLeDiff, Nat.reduceMul, Int.reduceBEq, Int.reduceBNe, Int.reduceLT, Int.reduceLE, Int.reduceGT, Int.reduceGE, n18.row.cell, ro.cell, rx.cell]
          refine ol2.append (by omega) rfl (by omega) (by simp) (by omega) fun v19 h19 o_new f19 e_app => ?_
          have f19_z := f19.size
          have o_at := ol2.at_
          replace p0 := p0.fresh f19 (by omega)
          replace ro := ro.fr f19 (by omega)
          replace rx := rx.fr f19 (by omega)
          replace t17 := t17.fr f19 (by omega)
          clear o_at e_app
          replace ol2 := o_new
          have ol2_l := ol2.top
          simp -dsimp only [go_sem, ↓reduceIte, reduceCtorEq, Nat.reduceEqDiff, Nat.reduceAdd, Nat.reduceLeDiff, Nat.reduceMul, Int.reduceBEq, Int.reduceBNe, Int.reduceLT, Int.reduceLE, Int.reduceGT, Int.reduceGE, ro.cell, rx.cell]
          have e2 : (fun k => if k = y then true else (m ++ [x]).contains k) = (m ++ [x] ++ [y]).contains := by
            funext j; by_cases hj : j = y <;> simp [hj]
          rw [e2] at t17
          have hml2 : (m ++ [x] ++ [y]).length = m.length + 2 := by simp
          refine ⟨(v19, (m ++ [x] ++ [y]).length), by dsimp only; omega, by simp [Le, find, ChB.next, ChB.place], p0, by omega, ro, rx, m ++ [x] ++ [y], rfl, by omega, t17, ?_, hpt', k', by omega, hgo'⟩
          rw [natsV_append, List.length_append]; first | exact ol2 | (rw [hs] at ol2; exact ol2)
  · simp -dsimp only [go_sem, ↓reduceIte, reduceCtorEq, Nat.reduceEqDiff, Nat.reduceAdd, Nat.reduceLeDiff, Nat.reduceMul, Int.reduceBEq, Int.reduceBNe, Int.reduceLT, Int.reduceLE, Int.reduceGT, Int.reduceGE, ro.cell, rx.cell]
    refine ⟨p0, ?_⟩
    rw [hS, ← hgo, glueGo_end (by omega)]
    exact ⟨_, rfl, ol.lower (by omega)⟩
end Go.Proofs.Tst
