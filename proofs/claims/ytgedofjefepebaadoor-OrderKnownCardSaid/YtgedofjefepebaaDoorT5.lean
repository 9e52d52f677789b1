/-
  Contracts of functions that the law reaches: what each returns and what it leaves in memory. Conditions stand in each.
-/
import Derived.Test.YtgedofjefepebaaDoorT4
set_option linter.all false
set_option maxRecDepth 2000
/-
  order.Components.
-/
namespace Go.Proofs.Tst
open Go Go.Vc
theorem loop_joint {P : Program} {y : Option Nat} {c : GC} {Q : Post} {K : Env → Heap → Prop} {k : Nat} {e : Env} {h : Heap} {α : Type} (E : α → Env) (I : α → Heap → Prop)
    (h1 : loopVC (vc P y c) (blockQ k (thenQ (fun e h => ∃ s, Le (E s) e ∧ I s h) Q)) e h) (h2 : ∀ s h, I s h → ∀ e, Le (E s) e → K e h) : loopVC (vc P y c) (blockQ k (thenQ K Q)) e h :=
  vc_mono (c := .loop c) (Q := blockQ k (thenQ (fun e h => ∃ s, Le (E s) e ∧ I s h) Q)) (Q' := blockQ k (thenQ K Q)) (fun x e h hq => by
    have key : thenQ (fun e h => ∃ s, Le (E s) e ∧ I s h) Q .normal e h → thenQ K Q .normal e h := fun ⟨s, hl, hi⟩ => h2 s h hi e hl
    cases x with
    | normal => exact key hq
    | ret => exact hq
    | exit j =>
      by_cases hj : j = k
      · simp only [blockQ, hj, if_true] at hq ⊢; exact key hq
      · simp only [blockQ, hj, if_false] at hq ⊢; exact hq) h1
/-- A table of lists in the making. -/
structure Mem (h : Heap) (n : Nat) (F : Nat → Nat) (i : Nat) (B : Nat → Value) (lo : Nat) : Prop where
  own : ∀ r, r < n → Holder 1 h (B r) (memb F r i).length (natsV (memb F r i)) lo
  off : ∀ a b, a < n → b < n → a ≠ b → Off (B a) (B b)
  nil : ∀ r, r < n → memb F r i = [] → B r = .slice none 0 0
theorem Mem.fr {h h' : Heap} {n i lo l r : Nat} {F : Nat → Nat} {B : Nat → Value} (m : Mem h n F i B lo) (f : Fr l r h h') (ha : ∀ x, x < n → bh (B x) ≤ l ∨ r ≤ bl (B x) ∨ r ≤ l) : Mem h' n F i B lo :=
  ⟨fun x hx => (m.own x hx).fr f (ha x hx), m.off, m.nil⟩
theorem brow_set' {n : Nat} {B : Nat → Value} {a : Nat} {v : Value} : ((List.range n).map B).set a v = (List.range n).map (upd B a v) := by
  apply List.ext_getElem?; intro k
  rw [List.getElem?_set]
  by_cases hka : a = k
  · subst hka
    by_cases hk : a < n
    · simp [hk, upd]
    · simp [hk]
  · rw [if_neg hka]
    by_cases hk : k < n
    · simp [hk, upd, Ne.symm hka]
    · simp [hk]
set_option maxHeartbeats 4000000 in
theorem order_Components {n : Nat} {M : Nat → Nat → Bool} {pv : Value} {lo hi : Nat} {h : Heap} (hr : ProgAt h lo hi pv n M) (ht : TabAt h) :
    Con Tryd.prog 47 #[pv] h fun v h' => Fr 0 0 h h' ∧ ∃ us, LL h' v us ((partsS n M).map natsV) h.size ∧ us.Pairwise Off := by
  refine con_order_Components ?_
  have hn := hr.1
  have hz : 0 < h.size := hcell_lt (ht 0 0 rfl)
  have p0 : Fr 0 0 h h := .refl _ _ _
  simp -dsimp only [go_sem, ↓reduceIte, reduceCtorEq, Nat.reduceEqDiff, Nat.reduceAdd, Nat.reduceLeDiff, Nat.reduceMul, Int.reduceBEq, Int.reduceBNe, Int.reduceLT, Int.reduceLE, Int.reduceGT, Int.reduceGE]
  refine call_of (rel_Len hr) ?_
  rintro v h1 ⟨hh, rfl⟩
  obtain rfl : h = h1 := hh.symm
  simp -dsimp only [go_sem, ↓reduceIte, reduceCtorEq, Nat.reduceEqDiff, Nat.reduceAdd, Nat.reduceLeDiff, Nat.reduceMul, Int.reduceBEq, Int.reduceBNe, Int.reduceLT, Int.reduceLE, Int.reduceGT, Int.reduceGE]
  refine call_of (rel_Plus hr) ?_
  rintro cv h2 ⟨f2, tc⟩
  have f2_z := f2.size
  replace p0 := p0.fresh f2 (by omega)
  simp -dsimp only [go_sem, ↓reduceIte, reduceCtorEq, Nat.reduceEqDiff, Nat.reduceAdd, Nat.reduceLeDiff, Nat.reduceMul, Int.reduceBEq, Int.reduceBNe, Int.reduceLT, Int.reduceLE, Int.reduceGT, Int.reduceGE]
  refine Chk_intro (by omega) ?_
  intro bo h3 n3
  have n3_a := n3.at_
  have n3_z := n3.size
  replace p0 := p0.fresh (n3.fr (lo := 0) (hi := 0)) (by omega)
  replace tc := tc.fr (n3.fr (lo := 0) (hi := 0)) (by omega)
  have ro := n3.row
  rw [zeros_one, Int.toNat_natCast, ivec_rep] at ro
  simp -dsimp only [go_sem, ↓reduceIte, reduceCtorEq, Nat.reduceEqDiff, Nat.reduceAdd, Nat.reduceLeDiff, Nat.reduceMul, Int.reduceBEq, Int.reduceBNe, Int.reduceLT, Int.reduceLE, Int.reduceGT, Int.reduceGE, ro.cell]
  refine Chk_intro (by omega) ?_
  intro bk h4 n4
  have n4_a := n4.at_
  have n4_z := n4.size
  replace p0 := p0.fresh (n4.fr (lo := 0) (hi := 0)) (by omega)
  replace tc := tc.fr (n4.fr (lo := 0) (hi := 0)) (by omega)
  replace ro := ro.fr (n4.fr (lo := 0) (hi := 0)) (by omega)
  have rk := n4.row
  rw [zeros_one, Int.toNat_natCast] at rk
  have e4 : List.replicate n (Value.slice none 0 0) = (List.range n).map fun _ => Value.slice none 0 0 := by
    apply List.ext_getElem?; intro k
    by_cases hk : k < n
    · simp [hk]
    · simp [hk]
  rw [e4] at rk
  simp -dsimp only [go_sem, ↓reduceIte, reduceCtorEq, Nat.reduceEqDiff, Nat.reduceAdd, Nat.reduceLeDiff, Nat.reduceMul, Int.reduceBEq, Int.reduceBNe, Int.reduceLT, Int.reduceLE, Int.reduceGT, Int.reduceGE, ro.cell, rk.cell]
  have hF : ∃ F, F = ldF n M := ⟨_, rfl⟩
  obtain ⟨F, hF⟩ := hF
  have hlt : ∀ p, p < n → F p < n := fun p hp => by rw [hF]; exact Nat.lt_of_le_of_lt ldF_le hp
  have k4 : h.size ≤ h2.size ∧ h2.size ≤ bo ∧ bo < bk ∧ bk < h4.size := by omega
  refine loop_intro (fun i : Nat => [(0, pv), (3, .int .i64 n), (4, cv), (5, .slice (some ⟨bo, 0, none⟩) n n), (6, .slice (some ⟨bk, 0, none⟩) n n), (26, .int .i64 n), (27, .int .i64 i)])
    (fun i h' => i ≤ n ∧ Fr 0 0 h h' ∧ h4.size ≤ h'.size ∧ ProgAt h' h.size h2.size cv n (plusM n M) ∧ Rw h' bo (ivec n fun p => if p < i then (F p : Int) else 0) ∧ ∃ B : Nat → Value, Rw h' bk ((List.range n).map B) ∧ Mem h' n F i B h4.size) (fun i => n - i) 0 ?_ ?_ ?_
  · simp [Le, find]
  · exact ⟨by omega, p0, by omega, tc, by simpa using ro, _, rk, fun _ _ => .none _ _ _, fun _ _ _ _ _ => .inl rfl, fun _ _ _ => rfl⟩
  clear p0 tc ro rk
  rintro i h5 ⟨hi, p0, y5, tc, ro, B, rk, mB⟩
  have p0_z := p0.size
  have ro_l := ro.lt
  have rk_l := rk.lt
  simp -dsimp only [go_sem, ↓reduceIte, reduceCtorEq, Nat.reduceEqDiff, Nat.reduceAdd, Nat.reduceLeDiff, Nat.reduceMul, Int.reduceBEq, Int.reduceBNe, Int.reduceLT, Int.reduceLE, Int.reduceGT, Int.reduceGE, ro.cell, rk.cell]
  refine ⟨fun hlt1 => ?_, fun hge1 => ?_⟩
  · have hlt1 : i < n := by omega
    simp -dsimp only [go_sem, ↓reduceIte, reduceCtorEq, Nat.reduceEqDiff, Nat.reduceAdd, Nat.reduceLeDiff, Nat.reduceMul, Int.reduceBEq, Int.reduceBNe, Int.reduceLT, Int.reduceLE, Int.reduceGT, Int.reduceGE, ro.cell, rk.cell]
    refine Chk_intro (by omega) ?_
    simp -dsimp only [go_sem, ↓reduceIte, reduceCtorEq, Nat.reduceEqDiff, Nat.reduceAdd, Nat.reduceLeDiff, Nat.reduceMul, Int.reduceBEq, Int.reduceBNe, Int.reduceLT, Int.reduceLE, Int.reduceGT, Int.reduceGE, ro.cell, rk.cell]
    have mB_a : ∀ x, x < n → (bl (B x) = 0 ∧ bh (B x) = 0) ∨ (h4.size ≤ bl (B x) ∧ bh (B x) = bl (B x) + 1 ∧ bl (B x) < h5.size) := fun x hx => (mB.own x hx).at_
    refine Chk_intro (ro.wr (by first | (simp; done) | (simp; omega))) fun h6 s6 => ?_
    have s6_z := s6.size
    replace p0 := p0.fresh s6.fr (by omega)
    replace rk := rk.fr s6.fr (by omega)
    replace tc := tc.fr s6.fr (by omega)
    replace ro := s6.row ro
    try simp only [cl_int, cl_bool, cl_slice, cl_ptr, putAt_one, List.set_cons_zero, List.set_cons_succ, ivec_set, brow_upd] at ro
    replace mB := mB.fr s6.fr (fun x hx => by have := mB_a x hx; omega)
    simp -dsimp only [go_sem, ↓reduceIte, reduceCtorEq, Nat.reduceEqDiff, Nat.reduceAdd, Nat.reduceLeDiff, Nat.reduceMul, Int.reduceBEq, Int.reduceBNe, Int.reduceLT, Int.reduceLE, Int.reduceGT, Int.reduceGE, ro.cell, rk.cell]
    refine loop_joint (fun _ : Unit => [(0, pv), (3, .int .i64 n), (4, cv), (5, .slice (some ⟨bo, 0, none⟩) n n), (6, .slice (some ⟨bk, 0, none⟩) n n), (7, .int .i64 i), (26, .int .i64 n), (27, .int .i64 i)])
      (fun _ h' => Fr bo (bo + 1) h6 h' ∧ h'.size = h6.size ∧ Rw h' bo (ivec n (upd (fun p => if p < i then (F p : Int) else 0) i (F i : Int)))) ?_ ?_
    · refine loop_intro (fun q : Nat => [(0, pv), (3, .int .i64 n), (4, cv), (5, .slice (some ⟨bo, 0, none⟩) n n), (6, .slice (some ⟨bk, 0, none⟩) n n), (7, .int .i64 i), (26, .int .i64 n), (27, .int .i64 i), (34, .int .i64 i), (35, .int .i64 q)])
        (fun q h' => q ≤ i ∧ h' = h6 ∧ lf (eqvB n M i) i 0 = lf (eqvB n M i) i q) (fun q => i - q) 0 ?_ ?_ ?_
      · simp [Le, find]
      · exact ⟨by omega, rfl, rfl⟩
      rintro q h7 ⟨hq, hh, hlf⟩
      obtain rfl : h6 = h7 := hh.symm
      simp -dsimp only [go_sem, ↓reduceIte, reduceCtorEq, Nat.reduceEqDiff, Nat.reduceAdd, Nat.reduceLeDiff, Nat.reduceMul, Int.reduceBEq, Int.reduceBNe, Int.reduceLT, Int.reduceLE, Int.reduceGT, Int.reduceGE, ro.cell, rk.cell]
      refine ⟨fun hlt2 => ?_, fun hge2 => ?_⟩
      · have hlt2 : q < i := by omega
        have hst := lf_step (eqvB n M i) hlt2
        simp -dsimp only [go_sem, ↓reduceIte, reduceCtorEq, Nat.reduceEqDiff, Nat.reduceAdd, Nat.reduceLeDiff, Nat.reduceMul, Int.reduceBEq, Int.reduceBNe, Int.reduceLT, Int.reduceLE, Int.reduceGT, Int.reduceGE, ro.cell, rk.cell]
        refine call_of (rel_Has tc i q) ?_
        rintro v h8 ⟨hh, rfl⟩
        obtain rfl : h6 = h8 := hh.symm
        have eH : (inR n (i : Int) && inR n (q : Int) && plusM n M ((i : Int).toNat) ((q : Int).toNat)) = plusM n M i q := by simp [inR, hlt1, show q < n from by omega]
        rw [eH]
        have skip : eqvB n M i q = false → lf (eqvB n M i) i 0 = lf (eqvB n M i) i (q + 1) := fun h => by rw [hlf, hst, h]; rfl
        cases hc1 : plusM n M i q with
        | false =>
          simp -dsimp only [go_sem, ↓reduceIte, reduceCtorEq, Nat.reduceEqDiff, Nat.reduceAdd, Nat.reduceLeDiff, Nat.reduceMul, Int.reduceBEq, Int.reduceBNe, Int.reduceLT, Int.reduceLE, Int.reduceGT, Int.reduceGE, ro.cell, rk.cell]
          simp -dsimp (disch := omega) only [wrap64]
          exact ⟨q + 1, by omega, by simp [Le, find], by omega, skip (by simp [eqvB, hc1])⟩
        | true =>
          simp -dsimp only [go_sem, ↓reduceIte, reduceCtorEq, Nat.reduceEqDiff, Nat.reduceAdd, Nat.reduceLeDiff, Nat.reduceMul, Int.reduceBEq, Int.reduceBNe, Int.reduceLT, Int.reduceLE, Int.reduceGT, Int.reduceGE, ro.cell, rk.cell]
          refine call_of (rel_Has tc q i) ?_
          rintro v h9 ⟨hh, rfl⟩
          obtain rfl : h6 = h9 := hh.symm
          have eH : (inR n (q : Int) && inR n (i : Int) && plusM n M ((q : Int).toNat) ((i : Int).toNat)) = plusM n M q i := by simp [inR, hlt1, show q < n from by omega]
          rw [eH]
          cases hc2 : plusM n M q i with
          | false =>
            simp -dsimp only [go_sem, ↓reduceIte, reduceCtorEq, Nat.reduceEqDiff, Nat.reduceAdd, Nat.reduceLeDiff, Nat.reduceMul, Int.reduceBEq, Int.reduceBNe, Int.reduceLT, Int.reduceLE, Int.reduceGT, Int.reduceGE, ro.cell, rk.cell]
            simp -dsimp (disch := omega) only [wrap64]
            exact ⟨q + 1, by omega, by simp [Le, find], by omega, skip (by simp [eqvB, hc2])⟩
          | true =>
            have hx : F i = q := by rw [hF, ldF, hlf, hst, if_pos (by simp [eqvB, hc1, hc2])]
            simp -dsimp only [go_sem, ↓reduceIte, reduceCtorEq, Nat.reduceEqDiff, Nat.reduceAdd, Nat.reduceLeDiff, Nat.reduceMul, Int.reduceBEq, Int.reduceBNe, Int.reduceLT, Int.reduceLE, Int.reduceGT, Int.reduceGE, ro.cell, rk.cell]
            refine Chk_intro (by omega) ?_
            simp -dsimp only [go_sem, ↓reduceIte, reduceCtorEq, Nat.reduceEqDiff, Nat.reduceAdd, Nat.reduceLeDiff, Nat.reduceMul, Int.reduceBEq, Int.reduceBNe, Int.reduceLT, Int.reduceLE, Int.reduceGT, Int.reduceGE, ro.cell, rk.cell]
            refine Chk_intro (ro.wr (by simp; omega)) fun h10 s10 => ?_
            have r10 := s10.row ro
            rw [cl_int, putAt_one, ivec_set] at r10
            simp -dsimp only [go_sem, ↓reduceIte, reduceCtorEq, Nat.reduceEqDiff, Nat.reduceAdd, Nat.reduceLeDiff, Nat.reduceMul, Int.reduceBEq, Int.reduceBNe, Int.reduceLT, Int.reduceLE, Int.reduceGT, Int.reduceGE, ro.cell, rk.cell]
            refine ⟨(), by simp [Le, find], s10.fr, s10.size, ?_⟩
            rw [ivec_congr fun p hp => ?_]; exact r10
            rw [hx]; unfold upd; split <;> rfl
      · have hqi : q = i := by omega
        subst hqi
        rw [lf_end _ (Nat.le_refl _)] at hlf
        have hx : F q = q := by rw [hF, ldF, hlf]
        simp -dsimp only [go_sem, ↓reduceIte, reduceCtorEq, Nat.reduceEqDiff, Nat.reduceAdd, Nat.reduceLeDiff, Nat.reduceMul, Int.reduceBEq, Int.reduceBNe, Int.reduceLT, Int.reduceLE, Int.reduceGT, Int.reduceGE, ro.cell, rk.cell]
        exact ⟨(), by simp [Le, find], .refl _ _ _, by rw [hx]; exact ro⟩
    rintro ⟨⟩ h7 ⟨f7, z7, ro7⟩ e ⟨e0, e3, e4, e5, e6, e7, e26, e27, -⟩
    have ro6 := ro
    have f7_z := f7.size
    replace p0 := p0.fresh f7 (by omega)
    replace rk := rk.fr f7 (by omega)
    replace tc := tc.fr f7 (by omega)
    replace ro : Rw h7 bo (ivec n fun p => if p < i + 1 then (F p : Int) else 0) := by
      rw [ivec_congr fun p hp => ?_]; exact ro7
      by_cases h : p = i
      · subst h; rw [upd_same, if_pos (by omega)]
      · rw [upd_ne _ _ h]
        have : (p < i + 1) = (p < i) := by simp; omega
        simp only [this]
    replace mB := mB.fr f7 (fun x hx => by have := mB_a x hx; omega)
    have hFi := hlt i hlt1
    have cro : ∀ h', Rw h' bo (ivec n fun p => if p < i + 1 then (F p : Int) else 0) → hcell h' bo i = some (.int .i64 (F i)) := fun h' r => by rw [r.cell, ivec_get hlt1, if_pos (by omega)]
    simp -dsimp only [go_sem, ↓reduceIte, reduceCtorEq, Nat.reduceEqDiff, Nat.reduceAdd, Nat.reduceLeDiff, Nat.reduceMul, Int.reduceBEq, Int.reduceBNe, Int.reduceLT, Int.reduceLE, Int.reduceGT, Int.reduceGE, e0, e3, e4, e5, e6, e7, e26, e27, rk.cell, ro.cell]
    refine Chk_intro (by omega) ?_
    have hB := mB.own (F i) hFi
    have hB_a := hB.at_
    obtain ⟨wa, wc, hBv⟩ := hB.is
    have hg : ((List.range n).map B)[F i]? = some (.slice wa (memb F (F i) i).length wc) := by rw [← hBv]; simp [hFi]
    have hml := memb_len (F := F) (r := F i) (k := i)
    rw [hBv] at hB hB_a
    simp -dsimp only [go_sem, ↓reduceIte, reduceCtorEq, Nat.reduceEqDiff, Nat.reduceAdd, Nat.reduceLeDiff, Nat.reduceMul, Int.reduceBEq, Int.reduceBNe, Int.reduceLT, Int.reduceLE, Int.reduceGT, Int.reduceGE, cro _ ro, e0, e3, e4, e5, e6, e7, e26, e27, rk.cell, ro.cell]
    refine Chk_intro (by omega) ?_
    simp -dsimp only [go_sem, ↓reduceIte, reduceCtorEq, Nat.reduceEqDiff, Nat.reduceAdd, Nat.reduceLeDiff, Nat.reduceMul, Int.reduceBEq, Int.reduceBNe, Int.reduceLT, Int.reduceLE, Int.reduceGT, Int.reduceGE, cro _ ro, e0, e3, e4, e5, e6, e7, e26, e27, rk.cell, ro.cell]
    refine Chk_intro (by omega) ?_
    simp -dsimp only [go_sem, ↓reduceIte, reduceCtorEq, Nat.reduceEqDiff, Nat.reduceAdd, Nat.reduceLeDiff, Nat.reduceMul, Int.reduceBEq, Int.reduceBNe, Int.reduceLT, Int.reduceLE, Int.reduceGT, Int.reduceGE, cro _ ro, hg, e0, e3, e4, e5, e6, e7, e26, e27, rk.cell, ro.cell]
    intro b8 h8 n8
    have n8_a := n8.at_; have n8_z := n8.size
    have mB_a7 : ∀ x, x < n → (bl (B x) = 0 ∧ bh (B x) = 0) ∨ (h4.size ≤ bl (B x) ∧ bh (B x) = bl (B x) + 1 ∧ bl (B x) < h7.size) := fun x hx => (mB.own x hx).at_
    have p8 := p0.trans (n8.fr (lo := 0) (hi := 0))
    have ro8 := n8.rw ro
    have rk8 := n8.rw rk
    have tc8 := tc.fr (n8.fr (lo := 0) (hi := 0)) (by omega)
    have mB8 := mB.fr (n8.fr (lo := 0) (hi := 0)) (fun x hx => by omega)
    have hB8 := hB.fr (n8.fr (lo := 0) (hi := 0)) (by omega)
    simp -dsimp only [go_sem, ↓reduceIte, reduceCtorEq, Nat.reduceEqDiff, Nat.reduceAdd, Nat.reduceLeDiff, Nat.reduceMul, Int.reduceBEq, Int.reduceBNe, Int.reduceLT, Int.reduceLE, Int.reduceGT, Int.reduceGE, cro _ ro8, hg, n8.row.cell, e0, e3, e4, e5, e6, e7, e26, e27, rk.cell, ro.cell]
    refine hB8.append (by omega) rfl (by omega) (by simp) (by omega) fun v9 h9 o9 f9 e9 => ?_
    have f9_z := f9.size
    have p9 := p8.fresh f9 (by omega)
    have ro9 := ro8.fr f9 (by omega)
    have rk9 := rk8.fr f9 (by omega)
    have tc9 := tc8.fr f9 (by omega)
    have o9_a := o9.at_
    obtain ⟨va, vc, rfl⟩ := o9.is
    simp -dsimp only [go_sem, ↓reduceIte, reduceCtorEq, Nat.reduceEqDiff, Nat.reduceAdd, Nat.reduceLeDiff, Nat.reduceMul, Int.reduceBEq, Int.reduceBNe, Int.reduceLT, Int.reduceLE, Int.reduceGT, Int.reduceGE, cro _ ro9, rk9.cell, hg, e0, e3, e4, e5, e6, e7, e26, e27, rk.cell, ro.cell]
    refine Chk_intro (by omega) ?_
    simp -dsimp only [go_sem, ↓reduceIte, reduceCtorEq, Nat.reduceEqDiff, Nat.reduceAdd, Nat.reduceLeDiff, Nat.reduceMul, Int.reduceBEq, Int.reduceBNe, Int.reduceLT, Int.reduceLE, Int.reduceGT, Int.reduceGE, e0, e3, e4, e5, e6, e7, e26, e27, rk.cell, ro.cell]
    refine Chk_intro (rk9.wr (by simp; omega)) fun h10 s10 => ?_
    have s10_z := s10.size
    have r10 := s10.row rk9
    rw [cl_slice, putAt_one, brow_set'] at r10
    simp -dsimp only [go_sem, ↓reduceIte, reduceCtorEq, Nat.reduceEqDiff, Nat.reduceAdd, Nat.reduceLeDiff, Nat.reduceMul, Int.reduceBEq, Int.reduceBNe, Int.reduceLT, Int.reduceLE, Int.reduceGT, Int.reduceGE, e0, e3, e4, e5, e6, e7, e26, e27, rk.cell, ro.cell]
    simp -dsimp (disch := omega) only [wrap64]
    refine ⟨i + 1, by omega, by simp [Le, find], by omega, p9.fresh s10.fr (by omega), by omega, tc9.fr s10.fr (by omega), s10.rw ro9 (by omega), _, r10, ?_, ?_, ?_⟩
    · intro r hr'
      rw [memb_succ]
      by_cases hrF : r = F i
      · subst hrF
        rw [if_pos rfl, upd_same, List.length_append, natsV_append]
        exact o9.fr s10.fr (by omega)
      · rw [if_neg (fun h => hrF h.symm), upd_ne _ _ hrF]
        have hx1 := mB8.own r hr'
        have hx2 := mB_a7 r hr'
        have hx3 := mB.off r (F i) hr' hFi hrF
        rw [hBv] at hx3
        have hx4 := bh_bl (.slice wa (memb F (F i) i).length wc)
        unfold Off at hx3
        exact (hx1.fr f9 (by omega)).fr s10.fr (by omega)
    · have key : ∀ r, r < n → r ≠ F i → Off (B r) (.slice va ((memb F (F i) i).length + 1) vc) := fun r hr' hrF => by
        have hx3 := mB.off r (F i) hr' hFi hrF
        rw [hBv] at hx3
        exact Off.app hx3 (mB8.own r hr').top (show 0 < h4.size by omega) o9 e9
      intro a b ha hb hab
      by_cases h1 : a = F i
      · subst h1
        rw [upd_same, upd_ne _ _ (Ne.symm hab)]
        exact (key b hb (Ne.symm hab)).symm
      · by_cases h2 : b = F i
        · subst h2
          rw [upd_same, upd_ne _ _ hab]
          exact key a ha hab
        · rw [upd_ne _ _ h1, upd_ne _ _ h2]
          exact mB.off a b ha hb hab
    · intro r hr' hm
      rw [memb_succ] at hm
      by_cases hrF : F i = r
      · rw [if_pos hrF] at hm; simp at hm
      · rw [if_neg hrF] at hm
        rw [upd_ne _ _ (fun h => hrF h.symm)]
        exact mB.nil r hr' hm
  have hin : i = n := by omega
  subst hin
  replace ro : Rw h5 bo (ivec i fun p => (F p : Int)) := by rw [ivec_congr fun p hp => ?_]; exact ro; simp [hp]
  have tl := mB.own
  have mT : ∀ x, x < i → (bl (B x) = 0 ∧ bh (B x) = 0) ∨ (h4.size ≤ bl (B x) ∧ bh (B x) = bl (B x) + 1 ∧ bl (B x) < h5.size) := fun x hx => (mB.own x hx).at_
  have p05 := p0
  have rk5 := rk
  clear p0 tc rk
  have p0 : Fr 0 0 h5 h5 := .refl _ _ _
  simp -dsimp only [go_sem, ↓reduceIte, reduceCtorEq, Nat.reduceEqDiff, Nat.reduceAdd, Nat.reduceLeDiff, Nat.reduceMul, Int.reduceBEq, Int.reduceBNe, Int.reduceLT, Int.reduceLE, Int.reduceGT, Int.reduceGE, ro.cell]
  refine call_of (rel_New i h5) ?_
  rintro v7 h7 ⟨f7, t7⟩
  have f7_z := f7.size
  replace ro := ro.fr f7 (by omega)
  replace p0 := p0.fresh f7 (by omega)
  have hcl : clampN i = i := by unfold clampN; omega
  rw [hcl] at t7
  simp -dsimp only [go_sem, ↓reduceIte, reduceCtorEq, Nat.reduceEqDiff, Nat.reduceAdd, Nat.reduceLeDiff, Nat.reduceMul, Int.reduceBEq, Int.reduceBNe, Int.reduceLT, Int.reduceLE, Int.reduceGT, Int.reduceGE, ro.cell]
  refine call_of (rel_Pairs (hr.fr (p05.trans p0) (by omega)) (ht.fr (p05.trans p0) (by omega))) ?_
  rintro v h8 ⟨f8, o8⟩
  have f8_z := f8.size
  replace ro := ro.fr f8 (by omega)
  replace p0 := p0.fresh f8 (by omega)
  replace t7 := t7.fr f8 (by omega)
  obtain ⟨pa, pc, rfl⟩ := o8.is
  have g3 : i * i ≤ 256 * 256 := Nat.mul_le_mul (by omega) (by omega)
  have g4 : (pairsOf i M).length ≤ i * i := length_pairsTo_le i M i
  have k8 : h5.size ≤ h7.size ∧ h7.size ≤ h8.size ∧ bo < h5.size := by omega
  simp -dsimp only [go_sem, ↓reduceIte, reduceCtorEq, Nat.reduceEqDiff, Nat.reduceAdd, Nat.reduceLeDiff, Nat.reduceMul, Int.reduceBEq, Int.reduceBNe, Int.reduceLT, Int.reduceLE, Int.reduceGT, Int.reduceGE, ro.cell]
  refine loop_intro (fun j : Nat => [(5, .slice (some ⟨bo, 0, none⟩) i i), (6, .slice (some ⟨bk, 0, none⟩) i i), (9, v7), (73, .slice pa (pairsOf i M).length pc), (74, .int .i64 (pairsOf i M).length), (75, .int .i64 j)])
    (fun j h' => j ≤ (pairsOf i M).length ∧ Fr 0 0 h5 h' ∧ h8.size ≤ h'.size ∧ Rw h' bo (ivec i fun p => (F p : Int)) ∧ Holder 2 h' (.slice pa (pairsOf i M).length pc) (pairsOf i M).length (pairsV (pairsOf i M)) h7.size ∧
      ∃ N, ProgAt h' h5.size h7.size v7 i N ∧ ∀ x y, N x y = true ↔ ∃ p : Nat × Nat, ((p.1 : Int), (p.2 : Int)) ∈ (pairsOf i M).take j ∧ F p.1 ≠ F p.2 ∧ F p.1 = x ∧ F p.2 = y) (fun j => (pairsOf i M).length - j) 0 ?_ ?_ ?_
  · simp [Le, find]
  · exact ⟨by omega, p0, by omega, ro, o8, _, t7, by simp⟩
  clear p0 ro o8 t7
  rintro j h9 ⟨hj, p0, y9, ro, o8, N, t9, hN⟩
  have p0_z := p0.size
  have ro_l := ro.lt
  have o8_l := o8.top
  simp -dsimp only [go_sem, ↓reduceIte, reduceCtorEq, Nat.reduceEqDiff, Nat.reduceAdd, Nat.reduceLeDiff, Nat.reduceMul, Int.reduceBEq, Int.reduceBNe, Int.reduceLT, Int.reduceLE, Int.reduceGT, Int.reduceGE, ro.cell]
  refine ⟨fun hlt2 => ?_, fun hge2 => ?_⟩
  · have hlt2 : j < (pairsOf i M).length := by omega
    have hq : (pairsOf i M)[j]? = some (pairsOf i M)[j] := by simp
    have htk : (pairsOf i M).take (j + 1) = (pairsOf i M).take j ++ [(pairsOf i M)[j]] := by rw [List.take_succ_eq_append_getElem hlt2]
    have hmem : (pairsOf i M)[j] ∈ pairsOf i M := List.getElem_mem _
    generalize (pairsOf i M)[j] = q at hq htk hmem
    obtain ⟨a, b, ha, hb', hm, rfl⟩ := mem_pairsOf.1 hmem
    simp -dsimp only [go_sem, ↓reduceIte, reduceCtorEq, Nat.reduceEqDiff, Nat.reduceAdd, Nat.reduceLeDiff, Nat.reduceMul, Int.reduceBEq, Int.reduceBNe, Int.reduceLT, Int.reduceLE, Int.reduceGT, Int.reduceGE, ro.cell]
    refine Chk_intro (by omega) (o8.rd.pair hq fun b6 o6 c6 c7 => ?_)
    simp -dsimp only [go_sem, ↓reduceIte, reduceCtorEq, Nat.reduceEqDiff, Nat.reduceAdd, Nat.reduceLeDiff, Nat.reduceMul, Int.reduceBEq, Int.reduceBNe, Int.reduceLT, Int.reduceLE, Int.reduceGT, Int.reduceGE, c6, c7, ro.cell]
    intro b10 h10 n10
    have n10_a := n10.at_
    have n10_z := n10.size
    replace p0 := p0.fresh (n10.fr (lo := 0) (hi := 0)) (by omega)
    replace ro := ro.fr (n10.fr (lo := 0) (hi := 0)) (by omega)
    replace o8 := o8.fr (n10.fr (lo := 0) (hi := 0)) (by have := o8.at_; omega)
    replace t9 := t9.fr (n10.fr (lo := 0) (hi := 0)) (by omega)
    have r10 := n10.row
    simp -dsimp only [go_sem, ↓reduceIte, reduceCtorEq, Nat.reduceEqDiff, Nat.reduceAdd, Nat.reduceLeDiff, Nat.reduceMul, Int.reduceBEq, Int.reduceBNe, Int.reduceLT, Int.reduceLE, Int.reduceGT, Int.reduceGE, ro.cell, r10.cell]
    refine Chk_intro (r10.wr (by first | (simp; done) | (simp; omega))) fun h11 s11 => ?_
    have s11_z := s11.size
    replace p0 := p0.fresh s11.fr (by omega)
    replace ro := ro.fr s11.fr (by omega)
    replace o8 := o8.fr s11.fr (by have := o8.at_; omega)
    replace t9 := t9.fr s11.fr (by omega)
    replace r10 := s11.row r10
    try simp only [cl_int, cl_bool, cl_slice, cl_ptr, putAt_one, List.set_cons_zero, List.set_cons_succ, ivec_set, brow_upd] at r10
    simp -dsimp only [go_sem, ↓reduceIte, reduceCtorEq, Nat.reduceEqDiff, Nat.reduceAdd, Nat.reduceLeDiff, Nat.reduceMul, Int.reduceBEq, Int.reduceBNe, Int.reduceLT, Int.reduceLE, Int.reduceGT, Int.reduceGE] at r10
    simp -dsimp only [go_sem, ↓reduceIte, reduceCtorEq, Nat.reduceEqDiff, Nat.reduceAdd, Nat.reduceLeDiff, Nat.reduceMul, Int.reduceBEq, Int.reduceBNe, Int.reduceLT, Int.reduceLE, Int.reduceGT, Int.reduceGE, ro.cell, r10.cell]
    refine Chk_intro (by omega) ?_
    simp -dsimp only [go_sem, ↓reduceIte, reduceCtorEq, Nat.reduceEqDiff, Nat.reduceAdd, Nat.reduceLeDiff, Nat.reduceMul, Int.reduceBEq, Int.reduceBNe, Int.reduceLT, Int.reduceLE, Int.reduceGT, Int.reduceGE, ivec_get ha, ro.cell, r10.cell]
    refine Chk_intro (by omega) ?_
    simp -dsimp only [go_sem, ↓reduceIte, reduceCtorEq, Nat.reduceEqDiff, Nat.reduceAdd, Nat.reduceLeDiff, Nat.reduceMul, Int.reduceBEq, Int.reduceBNe, Int.reduceLT, Int.reduceLE, Int.reduceGT, Int.reduceGE, ivec_get hb', ro.cell, r10.cell]
    refine ⟨fun hne => ?_, fun heq => ?_⟩
    · have hFa := hlt a ha
      have hFb := hlt b hb'
      have hne : F a ≠ F b := by intro h; rw [h] at hne; simp at hne
      simp -dsimp only [go_sem, ↓reduceIte, reduceCtorEq, Nat.reduceEqDiff, Nat.reduceAdd, Nat.reduceLeDiff, Nat.reduceMul, Int.reduceBEq, Int.reduceBNe, Int.reduceLT, Int.reduceLE, Int.reduceGT, Int.reduceGE, ro.cell, r10.cell]
      refine call_of (rel_Put t9 (F a) (F b) true) ?_
      rintro v12 h12 ⟨f12, z12, rfl, t12⟩
      have f12_z := f12.size
      replace p0 := p0.fresh f12 (by omega)
      replace ro := ro.fr f12 (by omega)
      replace o8 := o8.fr f12 (by have := o8.at_; omega)
      replace r10 := r10.fr f12 (by omega)
      simp -dsimp only [go_sem, ↓reduceIte, reduceCtorEq, Nat.reduceEqDiff, Nat.reduceAdd, Nat.reduceLeDiff, Nat.reduceMul, Int.reduceBEq, Int.reduceBNe, Int.reduceLT, Int.reduceLE, Int.reduceGT, Int.reduceGE, ro.cell, r10.cell]
      simp -dsimp (disch := omega) only [wrap64]
      refine ⟨j + 1, by omega, by simp [Le, find], by omega, p0, by omega, ro, o8, _, t12, fun x y => ?_⟩
      have e : (inR i (F a) && inR i (F b)) = true := by simp [inR]; omega
      simp only [putM, e, Bool.true_and]
      rw [htk]
      by_cases hxy : x = F a ∧ y = F b
      · obtain ⟨rfl, rfl⟩ := hxy
        simp only [beq_self_eq_true, Bool.and_self, if_true, true_iff]
        exact ⟨(a, b), by simp, hne, rfl, rfl⟩
      · have : ((F a : Int) == (x : Int) && (F b : Int) == (y : Int)) = false := by
          rw [Bool.eq_false_iff]; intro h; apply hxy; simp at h; omega
        rw [this]
        simp only [Bool.false_eq_true, if_false]
        rw [hN]
        refine exists_congr fun p => ?_
        simp only [List.mem_append, List.mem_singleton, Prod.mk.injEq]
        constructor
        · rintro ⟨h1, h2⟩; exact ⟨.inl h1, h2⟩
        · rintro ⟨h1 | ⟨h1, h1'⟩, h2, h3, h4⟩
          · exact ⟨h1, h2, h3, h4⟩
          · have e1 : p.1 = a := by omega
            have e2 : p.2 = b := by omega
            rw [e1] at h3; rw [e2] at h4
            exact absurd ⟨h3.symm, h4.symm⟩ hxy
    · have heq : F a = F b := by
        apply Classical.byContradiction; intro h
        exact heq (by simp; omega)
      simp -dsimp only [go_sem, ↓reduceIte, reduceCtorEq, Nat.reduceEqDiff, Nat.reduceAdd, Nat.reduceLeDiff, Nat.reduceMul, Int.reduceBEq, Int.reduceBNe, Int.reduceLT, Int.reduceLE, Int.reduceGT, Int.reduceGE, ro.cell, r10.cell]
      simp -dsimp (disch := omega) only [wrap64]
      refine ⟨j + 1, by omega, by simp [Le, find], by omega, p0, by omega, ro, o8, N, t9, fun x y => ?_⟩
      rw [htk, hN]
      refine exists_congr fun p => ?_
      simp only [List.mem_append, List.mem_singleton, Prod.mk.injEq]
      constructor
      · rintro ⟨h1, h2⟩; exact ⟨.inl h1, h2⟩
      · rintro ⟨h1 | ⟨h1, h1'⟩, h2, h3, h4⟩
        · exact ⟨h1, h2, h3, h4⟩
        · have e1 : p.1 = a := by omega
          have e2 : p.2 = b := by omega
          rw [e1, e2] at h2
          exact absurd heq h2
  have hjl : j = (pairsOf i M).length := by omega
  subst hjl
  rw [List.take_length] at hN
  have t9 := t9.congr (M' := smM i M F) fun x y hx hy => Bool.eq_iff_iff.2 (by
    rw [hN, smM_true]
    constructor
    · rintro ⟨⟨p, q⟩, h1, h2, h3, h4⟩
      obtain ⟨a, b, ha, hb, hm, he⟩ := mem_pairsOf.1 h1
      simp only [Prod.mk.injEq] at he
      have e1 : p = a := by omega
      have e2 : q = b := by omega
      subst e1 e2
      exact ⟨p, ha, q, hb, hm, h2, h3, h4⟩
    · rintro ⟨p, hp, q, hq, hm, h2, h3, h4⟩
      exact ⟨(p, q), mem_pairsOf.2 ⟨p, q, hp, hq, hm, rfl⟩, h2, h3, h4⟩)
  clear hN
  have hSe : partsS i M = (seqGo i (smM i M F) F i []).map fun r => memb F r i := by rw [partsS, partsR, ← hF]
  have hS : ∃ S, S = smM i M F := ⟨_, rfl⟩
  obtain ⟨S, hS⟩ := hS
  rw [← hS] at t9 hSe
  have hSF : ∀ x y, S x y = true → x < i ∧ F x = x := fun x y h => by
    rw [hS, smM_true] at h
    obtain ⟨p, hp, q, hq, -, -, rfl, -⟩ := h
    exact ⟨hlt p hp, by rw [hF]; exact ldF_idem hp⟩
  have hSF2 : ∀ x y, S x y = true → F y = y := fun x y h => by
    rw [hS, smM_true] at h
    obtain ⟨p, hp, q, hq, -, -, -, rfl⟩ := h
    rw [hF]; exact ldF_idem hq
  simp -dsimp only [go_sem, ↓reduceIte, reduceCtorEq, Nat.reduceEqDiff, Nat.reduceAdd, Nat.reduceLeDiff, Nat.reduceMul, Int.reduceBEq, Int.reduceBNe, Int.reduceLT, Int.reduceLE, Int.reduceGT, Int.reduceGE]
  refine call_of (order_chooser t9 (ht.fr (p05.trans p0) (by omega))) ?_
  rintro v h10 ⟨f10, c, rfl, t10⟩
  have f10_z := f10.size
  replace p0 := p0.fresh f10 (by omega)
  simp -dsimp only [go_sem, ↓reduceIte, reduceCtorEq, Nat.reduceEqDiff, Nat.reduceAdd, Nat.reduceLeDiff, Nat.reduceMul, Int.reduceBEq, Int.reduceBNe, Int.reduceLT, Int.reduceLE, Int.reduceGT, Int.reduceGE, ChB.next]
  refine call_of (chooser_next (q := 0) t10 (by omega)) ?_
  rintro v h11 ⟨hh, rfl⟩
  obtain rfl : h10 = h11 := hh.symm
  simp -dsimp only [go_sem, ↓reduceIte, reduceCtorEq, Nat.reduceEqDiff, Nat.reduceAdd, Nat.reduceLeDiff, Nat.reduceMul, Int.reduceBEq, Int.reduceBNe, Int.reduceLT, Int.reduceLE, Int.reduceGT, Int.reduceGE]
  have k10 : h8.size ≤ h9.size ∧ h9.size ≤ h10.size := by omega
  refine loop_intro (fun s : Value × List Nat × (Nat → Bool) => [(6, .slice (some ⟨bk, 0, none⟩) i i), (14, c.next), (15, c.place), (16, s.1), (17, .int .i64 (nx (lf (freeB i S s.2.2) i 0)))])
    (fun s h' => Fr 0 0 h5 h' ∧ h10.size ≤ h'.size ∧ Chs h' h9.size h10.size c i S s.2.2 ∧ Holder 1 h' s.1 s.2.1.length (s.2.1.map B) h10.size ∧ SeqI i S F s.2.1 ∧ ∀ r, r < i → F r = r → s.2.2 r = s.2.1.contains r)
    (fun s => (List.range i).countP fun x => !s.2.2 x) (.slice none 0 0, [], fun _ => false) ?_ ?_ ?_
  · simp [Le, find, ChB.next]
  · exact ⟨p0, by omega, t10, .none _ _ _, .start, fun _ _ _ => by simp⟩
  clear p0 t10
  rintro ⟨ov, l, D⟩ h11 ⟨p0, y11, t11, oo, hl, hD⟩
  dsimp only at t11 oo hl hD ⊢
  have p0_z := p0.size
  have oo_l := oo.top
  have hll := hl.len
  have oo_a := oo.at_
  have mB1 : Mem h11 i F i B h4.size := mB.fr p0 (fun x hx => by omega)
  have rk1 : Rw h11 bk ((List.range i).map B) := rk5.fr p0 (by omega)
  have hfree : ∀ x, x < i → F x = x → freeB i S D x = freeB i S l.contains x := fun x hx hFx => by
    rw [Bool.eq_iff_iff, freeB_true, freeB_true, hD x hx hFx]
    refine and_congr_right fun _ => forall_congr' fun a => forall_congr' fun ha => ?_
    constructor
    · intro h hm; rw [← hD a ha (hSF a x hm).2]; exact h hm
    · intro h hm; rw [hD a ha (hSF a x hm).2]; exact h hm
  cases hx : lf (freeB i S D) i 0 with
  | none =>
    have hd : lf (fun p => F p == p && freeB i S l.contains p) i 0 = none := by
      cases hy : lf (fun p => F p == p && freeB i S l.contains p) i 0 with
      | none => rfl
      | some x =>
        obtain ⟨-, hxi, hf⟩ := lf_some hy
        simp only [Bool.and_eq_true, beq_iff_eq] at hf
        have := lf_none hx x (by omega) hxi
        rw [hfree x hxi hf.1, hf.2] at this; simp at this
    have hdone := hl.done hd
    simp -dsimp only [go_sem, ↓reduceIte, reduceCtorEq, Nat.reduceEqDiff, Nat.reduceAdd, Nat.reduceLeDiff, Nat.reduceMul, Int.reduceBEq, Int.reduceBNe, Int.reduceLT, Int.reduceLE, Int.reduceGT, Int.reduceGE, nx_none, hx]
    refine ⟨p05.trans p0, l.map B, ⟨?_, ?_, ?_⟩, ?_⟩
    · rw [hSe, ← hdone]; simp only [List.length_map]; exact oo.lower (by omega)
    · intro k w x hw hx
      rw [hSe, ← hdone] at hx
      simp only [List.getElem?_map, Option.map_eq_some_iff] at hw hx
      obtain ⟨r, hr1, rfl⟩ := hw
      obtain ⟨_, ⟨r', hr2, rfl⟩, rfl⟩ := hx
      rw [hr1] at hr2; cases hr2
      rw [length_natsV]
      exact (mB1.own r (hl.2.1 r (List.mem_of_getElem? hr1)).1).lower (by omega)
    · intro w hw
      obtain ⟨r, hr1, rfl⟩ := List.mem_map.1 hw
      have := mT r (hl.2.1 r hr1).1
      unfold Off; omega
    · rw [List.pairwise_map]
      refine hl.1.imp_of_mem fun {a b} ha hb hab => mB.off a b (hl.2.1 a ha).1 (hl.2.1 b hb).1 hab
  | some x =>
    obtain ⟨-, hxi, hfx⟩ := lf_some hx
    have hDx := (freeB_true.1 hfx).1
    have hgx : ((List.range i).map B)[x]? = some (B x) := by simp [hxi]
    have hmu : (List.range i).countP (fun y => !(if y = x then true else D y)) < (List.range i).countP fun y => !D y :=
      countP_lt (f := fun y => !(if y = x then true else D y)) (g := fun y => !D y) i x hxi (fun y hy => by by_cases h : y = x <;> simp_all) (by simp) (by simp [hDx])
    simp -dsimp only [go_sem, ↓reduceIte, reduceCtorEq, Nat.reduceEqDiff, Nat.reduceAdd, Nat.reduceLeDiff, Nat.reduceMul, Int.reduceBEq, Int.reduceBNe, Int.reduceLT, Int.reduceLE, Int.reduceGT, Int.reduceGE, nx_some, hx]
    simp -dsimp only [go_sem, ↓reduceIte, reduceCtorEq, Nat.reduceEqDiff, Nat.reduceAdd, Nat.reduceLeDiff, Nat.reduceMul, Int.reduceBEq, Int.reduceBNe, Int.reduceLT, Int.reduceLE, Int.reduceGT, Int.reduceGE, ChB.place]
    refine call_of (chooser_place t11 hxi true (by simpa using hDx)) ?_
    rintro v h12 ⟨f12, z12, t12⟩
    have oo_b := oo.at_
    have f12_z := f12.size
    replace p0 := p0.fresh f12 (by omega)
    replace oo := oo.fr f12 (by have := oo.at_; omega)
    simp -dsimp only [go_sem, ↓reduceIte, reduceCtorEq, Nat.reduceEqDiff, Nat.reduceAdd, Nat.reduceLeDiff, Nat.reduceMul, Int.reduceBEq, Int.reduceBNe, Int.reduceLT, Int.reduceLE, Int.reduceGT, Int.reduceGE]
    refine Chk_intro (by omega) ?_
    have rk2 : Rw h12 bk ((List.range i).map B) := rk5.fr p0 (by omega)
    have mB2 : Mem h12 i F i B h4.size := mB.fr p0 (fun x hx => by omega)
    by_cases hFx : F x = x
    · have hstep : lf (fun p => F p == p && freeB i S l.contains p) i 0 = some x := by
        refine lf_is (by omega) hxi (by simp only [hFx, beq_self_eq_true, Bool.true_and]; rw [← hfree x hxi hFx]; exact hfx) fun y _ hy => ?_
        by_cases hFy : F y = y
        · rw [← hfree y (by omega) hFy, lf_least hx y (by omega) hy, Bool.and_false]
        · simp [hFy]
      have hl2 := hl.step hstep
      have hxm : x ∈ memb F x i := by simp [memb, hxi, hFx]
      have hml : 0 < (memb F x i).length := List.length_pos_of_mem hxm
      obtain ⟨bb, bc, brest, hBv, -, -, -⟩ := (mB2.own x hxi).blk hml
      rw [hBv] at hgx
      obtain ⟨oa, oc, rfl⟩ := oo.is
      simp -dsimp only [go_sem, ↓reduceIte, reduceCtorEq, Nat.reduceEqDiff, Nat.reduceAdd, Nat.reduceLeDiff, Nat.reduceMul, Int.reduceBEq, Int.reduceBNe, Int.reduceLT, Int.reduceLE, Int.reduceGT, Int.reduceGE, rk2.cell, hgx]
      refine Chk_intro (by omega) ?_
      simp -dsimp only [go_sem, ↓reduceIte, reduceCtorEq, Nat.reduceEqDiff, Nat.reduceAdd, Nat.reduceLeDiff, Nat.reduceMul, Int.reduceBEq, Int.reduceBNe, Int.reduceLT, Int.reduceLE, Int.reduceGT, Int.reduceGE, rk2.cell, hgx]
      intro b13 h13 n13
      have n13_a := n13.at_
      have n13_z := n13.size
      replace p0 := p0.fresh (n13.fr (lo := 0) (hi := 0)) (by omega)
      replace oo := oo.fr (n13.fr (lo := 0) (hi := 0)) (by have := oo.at_; omega)
      replace t12 := t12.fr (n13.fr (lo := 0) (hi := 0)) (by omega)
      have r13 := n13.row
      simp -dsimp only [go_sem, ↓reduceIte, reduceCtorEq, Nat.reduceEqDiff, Nat.reduceAdd, Nat.reduceLeDiff, Nat.reduceMul, Int.reduceBEq, Int.reduceBNe, Int.reduceLT, Int.reduceLE, Int.reduceGT, Int.reduceGE, r13.cell]
      refine oo.append (by omega) rfl (by omega) (by simp) (by omega) fun v14 h14 o_new f14 e_app => ?_
      have f14_z := f14.size
      have o_at := oo.at_
      replace p0 := p0.fresh f14 (by omega)
      replace t12 := t12.fr f14 (by omega)
      replace r13 := r13.fr f14 (by omega)
      clear o_at e_app
      replace oo := o_new
      have oo_l := oo.top
      simp -dsimp only [go_sem, ↓reduceIte, reduceCtorEq, Nat.reduceEqDiff, Nat.reduceAdd, Nat.reduceLeDiff, Nat.reduceMul, Int.reduceBEq, Int.reduceBNe, Int.reduceLT, Int.reduceLE, Int.reduceGT, Int.reduceGE, ChB.next, r13.cell]
      refine call_of (chooser_next (q := 0) t12 (by omega)) ?_
      rintro v h15 ⟨hh, rfl⟩
      obtain rfl : h14 = h15 := hh.symm
      simp -dsimp only [go_sem, ↓reduceIte, reduceCtorEq, Nat.reduceEqDiff, Nat.reduceAdd, Nat.reduceLeDiff, Nat.reduceMul, Int.reduceBEq, Int.reduceBNe, Int.reduceLT, Int.reduceLE, Int.reduceGT, Int.reduceGE, r13.cell]
      refine ⟨(v14, l ++ [x], fun y => if y = x then true else D y), by dsimp only; exact hmu, by simp [Le, find, ChB.next, ChB.place], p0, by omega, t12, ?_, hl2, ?_⟩
      · dsimp only
        rw [List.length_append, List.map_append, List.map_singleton, hBv]; exact oo
      · intro r hr' hFr
        dsimp only
        by_cases hrx : r = x
        · simp [hrx]
        · simp [hrx, hD r hr' hFr]
    · have hmn : memb F x i = [] := by
        refine List.filter_eq_nil_iff.2 fun p hp h => ?_
        have hp := List.mem_range.1 hp
        have h : F p = x := by simpa using h
        apply hFx
        rw [← h, hF]; exact ldF_idem hp
      have hBv := mB2.nil x hxi hmn
      rw [hBv] at hgx
      simp -dsimp only [go_sem, ↓reduceIte, reduceCtorEq, Nat.reduceEqDiff, Nat.reduceAdd, Nat.reduceLeDiff, Nat.reduceMul, Int.reduceBEq, Int.reduceBNe, Int.reduceLT, Int.reduceLE, Int.reduceGT, Int.reduceGE, rk2.cell, hgx]
      simp -dsimp only [go_sem, ↓reduceIte, reduceCtorEq, Nat.reduceEqDiff, Nat.reduceAdd, Nat.reduceLeDiff, Nat.reduceMul, Int.reduceBEq, Int.reduceBNe, Int.reduceLT, Int.reduceLE, Int.reduceGT, Int.reduceGE, ChB.next]
      refine call_of (chooser_next (q := 0) t12 (by omega)) ?_
      rintro v h15 ⟨hh, rfl⟩
      obtain rfl : h12 = h15 := hh.symm
      simp -dsimp only [go_sem, ↓reduceIte, reduceCtorEq, Nat.reduceEqDiff, Nat.reduceAdd, Nat.reduceLeDiff, Nat.reduceMul, Int.reduceBEq, Int.reduceBNe, Int.reduceLT, Int.reduceLE, Int.reduceGT, Int.reduceGE]
      refine ⟨(ov, l, fun y => if y = x then true else D y), by dsimp only; exact hmu, by simp [Le, find, ChB.next, ChB.place], p0, by omega, t12, oo, hl, ?_⟩
      intro r hr' hFr
      dsimp only
      by_cases hrx : r = x
      · subst hrx; exact absurd hFr hFx
      · simp [hrx, hD r hr' hFr]
end Go.Proofs.Tst
/-
  The document's own Pairs.
-/
namespace Go.Proofs.Tst
open Go Go.Vc
end Go.Proofs.Tst
/-
  How many bits a word has: the library's way of adding them up.
-/
namespace Go.Vc
end Go.Vc
namespace Go.Proofs.Tst
open Go Go.Vc
end Go.Proofs.Tst
namespace Go.Proofs.Tst
open Go Go.Vc
end Go.Proofs.Tst
namespace Go.Proofs.Tst
open Go Go.Vc
/-- The points of a round. -/
def LayL (n : Nat) (M : Nat → Nat → Bool) (p k : Nat) (L : List Nat) : Prop := (k = 0 ∧ L = [p]) ∨ (0 < k ∧ ∀ i, i ∈ L ↔ i < n ∧ farK n M p k i = k)
theorem LayL.lay {n : Nat} {M : Nat → Nat → Bool} {p k : Nat} {L : List Nat} (h : LayL n M p k L) (i : Nat) : L.any (fun q => M i q) = lay n M p (farK n M p k) k i := by
  rcases h with ⟨rfl, rfl⟩ | ⟨hk, h⟩
  · simp [Go.Vc.lay]
  · obtain ⟨k, rfl⟩ : ∃ k', k = k' + 1 := ⟨k - 1, by omega⟩
    rw [Bool.eq_iff_iff, lay_succ, List.any_eq_true]
    exact ⟨fun ⟨q, hq, hm⟩ => ⟨q, ((h q).1 hq).1, hm, ((h q).1 hq).2⟩, fun ⟨q, hq, hm, hf⟩ => ⟨q, (h q).2 ⟨hq, hf⟩, hm⟩⟩
theorem LayL.lt {n : Nat} {M : Nat → Nat → Bool} {p k : Nat} {L : List Nat} (hp : p < n) (h : LayL n M p k L) {q : Nat} (hq : q ∈ L) : q < n := by
  rcases h with ⟨rfl, rfl⟩ | ⟨hk, h⟩
  · simp at hq; omega
  · exact ((h q).1 hq).1

end Go.Proofs.Tst
namespace Go.Proofs.Tst
open Go Go.Vc
end Go.Proofs.Tst
namespace Go.Proofs.Tst
open Go Go.Vc
end Go.Proofs.Tst
namespace Go.Proofs.Tst
open Go Go.Vc
end Go.Proofs.Tst
/-
  The laws of sets of pairs.
-/
namespace Go.Proofs.Tst
open Go Go.Vc
section
variable {k : Nat} {A B C : Nat → Nat → Bool} {i j : Nat}
end
theorem progPtr {h : Heap} {lo hi : Nat} {p : Value} {n : Nat} {M : Nat → Nat → Bool} (t : ProgAt h lo hi p n M) : ∃ pb, p = .pointer (some ⟨pb, 0, none⟩) := by
  obtain ⟨-, pb, rb, R, W, rfl, -⟩ := t; exact ⟨pb, rfl⟩
end Go.Proofs.Tst
/-
  Every Components and Reduction, by the program and by the document.
-/
namespace Go.Proofs.Tst
open Go Go.Vc
end Go.Proofs.Tst
/-
  Chapter 2's examples.
-/
namespace Go.Proofs.Tst
open Go Go.Vc
theorem rlit {h : Heap} {b : Nat} {bs : List (Nat × List Value)} (r : Rw h b (bs.map fun x => .slice (some ⟨x.1, 0, none⟩) x.2.length x.2.length)) (hr : ∀ x ∈ bs, Rw h x.1 x.2) : RL h (.slice (some ⟨b, 0, none⟩) bs.length bs.length) (bs.map (·.2)) := by
  refine ⟨bs.map fun x => Value.slice (some ⟨x.1, 0, none⟩) x.2.length x.2.length, ?_, fun i l hl => ?_⟩
  · rw [List.length_map]; exact r.rd (by simp)
  · rw [List.getElem?_map] at hl
    cases hx : bs[i]? with
    | none => rw [hx] at hl; simp at hl
    | some x =>
      rw [hx] at hl; simp at hl; subst hl
      exact ⟨_, by rw [List.getElem?_map, hx]; rfl, (hr x (List.mem_of_getElem? hx)).rd (by omega)⟩
theorem k8_1 : extB 4 (ofM 4 smallL) 3 = false := by decide +kernel
theorem k8_2 : extS 4 (ofM 4 smallL) 3 = [[2, 0, 3, 1], [2, 3, 0, 1], [2, 3, 1, 0]] := by decide +kernel
theorem k8_3 : extB 4 (ofM 4 smallL) 6 = true := by decide +kernel
theorem k8_4 : extS 4 (ofM 4 smallL) 6 = [[2, 0, 3, 1], [2, 3, 0, 1], [2, 3, 1, 0], [3, 1, 2, 0], [3, 2, 0, 1], [3, 2, 1, 0]] := by decide +kernel
theorem k8_5 : extB (clampN 0) (fun _ _ => false) 5 = true := by decide +kernel
theorem k8_6 : extS (clampN 0) (fun _ _ => false) 5 = [[]] := by decide +kernel
theorem k8_7 : extB 5 (ofM 5 roundL) 5 = true := by decide +kernel
theorem k8_8 : extS 5 (ofM 5 roundL) 5 = [] := by decide +kernel
theorem k8_9 : extB 4 (ofM 4 smallL) 0 = false := by decide +kernel
theorem k8_10 : extS 4 (ofM 4 smallL) 0 = [] := by decide +kernel
theorem k8_11 : partsS 5 (ofM 5 roundL) = [[0, 1], [3], [4], [2]] := by decide +kernel
theorem k8_12 : partsS 4 (ofM 4 smallL) = [[2], [0], [3], [1]] := by decide +kernel
theorem k8_13 : irrB (clampN 3) (plusM (clampN 3) (ofM (clampN 3) [(0, 1), (1, 2), (0, 2)])) = true := by decide +kernel
theorem k8_14 : decide (clampN 3 = clampN 3 ∧ WithinP (clampN 3) (redM (clampN 3) (ofM (clampN 3) [(0, 1), (1, 2), (0, 2)])) (clampN 3) (ofM (clampN 3) [(0, 1), (1, 2)]) ∧ WithinP (clampN 3) (ofM (clampN 3) [(0, 1), (1, 2)]) (clampN 3) (redM (clampN 3) (ofM (clampN 3) [(0, 1), (1, 2), (0, 2)]))) = true := by decide +kernel
theorem k8_15 : glueS 4 (ofM 4 smallL) [(3, 2)] = .ok [3, 2, 0, 1] := by rfl
theorem k8_16 : glueS 4 (ofM 4 smallL) [(0, 2)] = .error 3 := by rfl
theorem k8_17 : glueS 4 (ofM 4 smallL) [(0, 3)] = .ok [2, 0, 3, 1] := by rfl
theorem k8_18 : glueS 4 (ofM 4 smallL) [(0, 3), (3, 1)] = .error 1 := by rfl
theorem k8_19 : glueS 4 (ofM 4 smallL) [(1, 1)] = .error 1 := by rfl
theorem k8_20 : glueS 4 (ofM 4 smallL) [(1, 4)] = .error 1 := by rfl
theorem k8_21 : decide (LinP 4 (ofM 4 smallL) [3, 2, 1, 0]) = true := by decide +kernel
theorem k8_22 : decide (LinP 4 (ofM 4 smallL) [2, 0, 3]) = false := by decide +kernel
theorem k8_23 : decide (LinP 4 (ofM 4 smallL) [2, 0, 3, 3]) = false := by decide +kernel
set_option maxHeartbeats 4000000 in
theorem c_law2_OrderKnown {h : Heap} (ht : TabAt h) : Con Tryd.prog 13 #[] h fun v h' => Fr 0 0 h h' ∧ v = .bool true := by
  refine con_law2_OrderKnown ?_
  have hz : 0 < h.size := hcell_lt (ht 0 0 rfl)
  have p0 : Fr 0 0 h h := .refl _ _ _
  simp -dsimp only [go_sem, ↓reduceIte, reduceCtorEq, Nat.reduceEqDiff, Nat.reduceAdd, Nat.reduceLeDiff, Nat.reduceMul, Int.reduceBEq, Int.reduceBNe, Int.reduceLT, Int.reduceLE, Int.reduceGT, Int.reduceGE]
  refine call_of (c_law2_small h) ?_
  rintro v1 h1 ⟨f1, t1⟩
  obtain ⟨q1, rfl⟩ := progPtr t1
  have f1_z := f1.size
  replace p0 := p0.fresh f1 (by omega)
  simp -dsimp only [go_sem, ↓reduceIte, reduceCtorEq, Nat.reduceEqDiff, Nat.reduceAdd, Nat.reduceLeDiff, Nat.reduceMul, Int.reduceBEq, Int.reduceBNe, Int.reduceLT, Int.reduceLE, Int.reduceGT, Int.reduceGE]
  refine call_of (c_law2_round h1) ?_
  rintro v2 h2 ⟨f2, t2⟩
  obtain ⟨q2, rfl⟩ := progPtr t2
  have f2_z := f2.size
  replace p0 := p0.fresh f2 (by omega)
  replace t1 := t1.fr f2 (by omega)
  simp -dsimp only [go_sem, ↓reduceIte, reduceCtorEq, Nat.reduceEqDiff, Nat.reduceAdd, Nat.reduceLeDiff, Nat.reduceMul, Int.reduceBEq, Int.reduceBNe, Int.reduceLT, Int.reduceLE, Int.reduceGT, Int.reduceGE]
  refine call_of (c_law2_lives (ht.fr p0 (by omega))) ?_
  rintro v h3 ⟨f3, rfl⟩
  have f3_z := f3.size
  replace p0 := p0.fresh f3 (by omega)
  replace t1 := t1.fr f3 (by omega)
  replace t2 := t2.fr f3 (by omega)
  simp -dsimp only [go_sem, ↓reduceIte, reduceCtorEq, Nat.reduceEqDiff, Nat.reduceAdd, Nat.reduceLeDiff, Nat.reduceMul, Int.reduceBEq, Int.reduceBNe, Int.reduceLT, Int.reduceLE, Int.reduceGT, Int.reduceGE]
  refine call_of (order_Extensions t1 (ht.fr p0 (by omega)) 3 (by omega) (by omega)) ?_
  rintro v4 h4 ⟨f4, s4, u4, rfl, L4, -⟩
  rw [k8_1]
  rw [k8_2] at L4
  have f4_z := f4.size
  replace p0 := p0.fresh f4 (by omega)
  replace t1 := t1.fr f4 (by omega)
  replace t2 := t2.fr f4 (by omega)
  simp -dsimp only [go_sem, ↓reduceIte, reduceCtorEq, Nat.reduceEqDiff, Nat.reduceAdd, Nat.reduceLeDiff, Nat.reduceMul, Int.reduceBEq, Int.reduceBNe, Int.reduceLT, Int.reduceLE, Int.reduceGT, Int.reduceGE]
  refine call_of (order_Extensions t1 (ht.fr p0 (by omega)) 6 (by omega) (by omega)) ?_
  rintro v5 h5 ⟨f5, s5, u5, rfl, L5, -⟩
  rw [k8_3]
  rw [k8_4] at L5
  have f5_z := f5.size
  replace p0 := p0.fresh f5 (by omega)
  replace t1 := t1.fr f5 (by omega)
  replace t2 := t2.fr f5 (by omega)
  replace L4 := L4.fr f5 (by first | exact Away.none (Nat.le_refl _) | exact L4.below (by omega) | exact L4.above (by omega) | assumption | exact fun w hw => (by have := aTop w hw; omega))
  simp -dsimp only [go_sem, ↓reduceIte, reduceCtorEq, Nat.reduceEqDiff, Nat.reduceAdd, Nat.reduceLeDiff, Nat.reduceMul, Int.reduceBEq, Int.reduceBNe, Int.reduceLT, Int.reduceLE, Int.reduceGT, Int.reduceGE]
  obtain ⟨a6, c6, e6⟩ : ∃ a c, s5 = .slice a 6 c := L5.own.is
  subst e6
  intro b6 h6 n6
  have n6_a := n6.at_
  have n6_z := n6.size
  replace p0 := p0.fresh (n6.fr (lo := 0) (hi := 0)) (by omega)
  replace t1 := t1.fr (n6.fr (lo := 0) (hi := 0)) (by omega)
  replace t2 := t2.fr (n6.fr (lo := 0) (hi := 0)) (by omega)
  replace L4 := L4.fr (n6.fr (lo := 0) (hi := 0)) (by first | exact Away.none (Nat.le_refl _) | exact L4.below (by omega) | exact L4.above (by omega) | assumption | exact fun w hw => (by have := aTop w hw; omega))
  replace L5 := L5.fr (n6.fr (lo := 0) (hi := 0)) (by first | exact Away.none (Nat.le_refl _) | exact L5.below (by omega) | exact L5.above (by omega) | assumption | exact fun w hw => (by have := aTop w hw; omega))
  have r6 := n6.row
  simp -dsimp only [go_sem, ↓reduceIte, reduceCtorEq, Nat.reduceEqDiff, Nat.reduceAdd, Nat.reduceLeDiff, Nat.reduceMul, Int.reduceBEq, Int.reduceBNe, Int.reduceLT, Int.reduceLE, Int.reduceGT, Int.reduceGE, r6.cell]
  intro b7 h7 n7
  have n7_a := n7.at_
  have n7_z := n7.size
  replace p0 := p0.fresh (n7.fr (lo := 0) (hi := 0)) (by omega)
  replace t1 := t1.fr (n7.fr (lo := 0) (hi := 0)) (by omega)
  replace t2 := t2.fr (n7.fr (lo := 0) (hi := 0)) (by omega)
  replace L4 := L4.fr (n7.fr (lo := 0) (hi := 0)) (by first | exact Away.none (Nat.le_refl _) | exact L4.below (by omega) | exact L4.above (by omega) | assumption | exact fun w hw => (by have := aTop w hw; omega))
  replace L5 := L5.fr (n7.fr (lo := 0) (hi := 0)) (by first | exact Away.none (Nat.le_refl _) | exact L5.below (by omega) | exact L5.above (by omega) | assumption | exact fun w hw => (by have := aTop w hw; omega))
  replace r6 := r6.fr (n7.fr (lo := 0) (hi := 0)) (by omega)
  have r7 := n7.row
  simp -dsimp only [go_sem, ↓reduceIte, reduceCtorEq, Nat.reduceEqDiff, Nat.reduceAdd, Nat.reduceLeDiff, Nat.reduceMul, Int.reduceBEq, Int.reduceBNe, Int.reduceLT, Int.reduceLE, Int.reduceGT, Int.reduceGE, r6.cell, r7.cell]
  intro b8 h8 n8
  have n8_a := n8.at_
  have n8_z := n8.size
  replace p0 := p0.fresh (n8.fr (lo := 0) (hi := 0)) (by omega)
  replace t1 := t1.fr (n8.fr (lo := 0) (hi := 0)) (by omega)
  replace t2 := t2.fr (n8.fr (lo := 0) (hi := 0)) (by omega)
  replace L4 := L4.fr (n8.fr (lo := 0) (hi := 0)) (by first | exact Away.none (Nat.le_refl _) | exact L4.below (by omega) | exact L4.above (by omega) | assumption | exact fun w hw => (by have := aTop w hw; omega))
  replace L5 := L5.fr (n8.fr (lo := 0) (hi := 0)) (by first | exact Away.none (Nat.le_refl _) | exact L5.below (by omega) | exact L5.above (by omega) | assumption | exact fun w hw => (by have := aTop w hw; omega))
  replace r6 := r6.fr (n8.fr (lo := 0) (hi := 0)) (by omega)
  replace r7 := r7.fr (n8.fr (lo := 0) (hi := 0)) (by omega)
  have r8 := n8.row
  simp -dsimp only [go_sem, ↓reduceIte, reduceCtorEq, Nat.reduceEqDiff, Nat.reduceAdd, Nat.reduceLeDiff, Nat.reduceMul, Int.reduceBEq, Int.reduceBNe, Int.reduceLT, Int.reduceLE, Int.reduceGT, Int.reduceGE, r6.cell, r7.cell, r8.cell]
  intro b9 h9 n9
  have n9_a := n9.at_
  have n9_z := n9.size
  replace p0 := p0.fresh (n9.fr (lo := 0) (hi := 0)) (by omega)
  replace t1 := t1.fr (n9.fr (lo := 0) (hi := 0)) (by omega)
  replace t2 := t2.fr (n9.fr (lo := 0) (hi := 0)) (by omega)
  replace L4 := L4.fr (n9.fr (lo := 0) (hi := 0)) (by first | exact Away.none (Nat.le_refl _) | exact L4.below (by omega) | exact L4.above (by omega) | assumption | exact fun w hw => (by have := aTop w hw; omega))
  replace L5 := L5.fr (n9.fr (lo := 0) (hi := 0)) (by first | exact Away.none (Nat.le_refl _) | exact L5.below (by omega) | exact L5.above (by omega) | assumption | exact fun w hw => (by have := aTop w hw; omega))
  replace r6 := r6.fr (n9.fr (lo := 0) (hi := 0)) (by omega)
  replace r7 := r7.fr (n9.fr (lo := 0) (hi := 0)) (by omega)
  replace r8 := r8.fr (n9.fr (lo := 0) (hi := 0)) (by omega)
  have r9 := n9.row
  simp -dsimp only [go_sem, ↓reduceIte, reduceCtorEq, Nat.reduceEqDiff, Nat.reduceAdd, Nat.reduceLeDiff, Nat.reduceMul, Int.reduceBEq, Int.reduceBNe, Int.reduceLT, Int.reduceLE, Int.reduceGT, Int.reduceGE, r6.cell, r7.cell, r8.cell, r9.cell]
  have q9 := rlit (b := b9) (bs := [(b6, natsV [2, 0, 3, 1]), (b7, natsV [2, 3, 0, 1]), (b8, natsV [2, 3, 1, 0])]) r9 (fun x hx => by
    rcases List.mem_cons.1 hx with rfl | hx
    · exact r6
    rcases List.mem_cons.1 hx with rfl | hx
    · exact r7
    rcases List.mem_cons.1 hx with rfl | hx
    · exact r8
    simp at hx)
  refine call_of (c_lists_nats (L := [[2, 0, 3, 1], [2, 3, 0, 1], [2, 3, 1, 0]]) (K := [[2, 0, 3, 1], [2, 3, 0, 1], [2, 3, 1, 0]]) L4.rl q9 rfl (by decide) (by decide)) ?_
  rintro v h10 ⟨rfl, rfl⟩
  simp -dsimp only [go_sem, ↓reduceIte, reduceCtorEq, Nat.reduceEqDiff, Nat.reduceAdd, Nat.reduceLeDiff, Nat.reduceMul, Int.reduceBEq, Int.reduceBNe, Int.reduceLT, Int.reduceLE, Int.reduceGT, Int.reduceGE, Int.cast_ofNat_Int]
  refine call_of (rel_New 0 _) ?_
  rintro v11 h11 ⟨f11, t11⟩
  have f11_z := f11.size
  replace p0 := p0.fresh f11 (by omega)
  replace t1 := t1.fr f11 (by omega)
  replace t2 := t2.fr f11 (by omega)
  simp -dsimp only [go_sem, ↓reduceIte, reduceCtorEq, Nat.reduceEqDiff, Nat.reduceAdd, Nat.reduceLeDiff, Nat.reduceMul, Int.reduceBEq, Int.reduceBNe, Int.reduceLT, Int.reduceLE, Int.reduceGT, Int.reduceGE]
  refine call_of (order_Extensions t11 (ht.fr p0 (by omega)) 5 (by omega) (by omega)) ?_
  rintro v12 h12 ⟨f12, s12, u12, rfl, L12, -⟩
  rw [k8_5]
  rw [k8_6] at L12
  have f12_z := f12.size
  replace p0 := p0.fresh f12 (by omega)
  replace t1 := t1.fr f12 (by omega)
  replace t2 := t2.fr f12 (by omega)
  replace t11 := t11.fr f12 (by omega)
  simp -dsimp only [go_sem, ↓reduceIte, reduceCtorEq, Nat.reduceEqDiff, Nat.reduceAdd, Nat.reduceLeDiff, Nat.reduceMul, Int.reduceBEq, Int.reduceBNe, Int.reduceLT, Int.reduceLE, Int.reduceGT, Int.reduceGE]
  obtain ⟨a7, c7, e7⟩ : ∃ a c, s12 = .slice a 1 c := L12.own.is
  subst e7
  refine call_of (order_Extensions t2 (ht.fr p0 (by omega)) 5 (by omega) (by omega)) ?_
  rintro v13 h13 ⟨f13, s13, u13, rfl, L13, -⟩
  rw [k8_7]
  rw [k8_8] at L13
  have f13_z := f13.size
  replace p0 := p0.fresh f13 (by omega)
  replace t1 := t1.fr f13 (by omega)
  replace t2 := t2.fr f13 (by omega)
  replace L12 := L12.fr f13 (by first | exact Away.none (Nat.le_refl _) | exact L12.below (by omega) | exact L12.above (by omega) | assumption | exact fun w hw => (by have := aTop w hw; omega))
  simp -dsimp only [go_sem, ↓reduceIte, reduceCtorEq, Nat.reduceEqDiff, Nat.reduceAdd, Nat.reduceLeDiff, Nat.reduceMul, Int.reduceBEq, Int.reduceBNe, Int.reduceLT, Int.reduceLE, Int.reduceGT, Int.reduceGE]
  obtain ⟨a8, c8, e8⟩ : ∃ a c, s13 = .slice a 0 c := L13.own.is
  subst e8
  refine call_of (order_Extensions t1 (ht.fr p0 (by omega)) 0 (by omega) (by omega)) ?_
  rintro v14 h14 ⟨f14, s14, u14, rfl, L14, -⟩
  rw [k8_9]
  rw [k8_10] at L14
  have f14_z := f14.size
  replace p0 := p0.fresh f14 (by omega)
  replace t1 := t1.fr f14 (by omega)
  replace t2 := t2.fr f14 (by omega)
  replace L12 := L12.fr f14 (by first | exact Away.none (Nat.le_refl _) | exact L12.below (by omega) | exact L12.above (by omega) | assumption | exact fun w hw => (by have := aTop w hw; omega))
  replace L13 := L13.fr f14 (by first | exact Away.none (Nat.le_refl _) | exact L13.below (by omega) | exact L13.above (by omega) | assumption | exact fun w hw => (by have := aTop w hw; omega))
  simp -dsimp only [go_sem, ↓reduceIte, reduceCtorEq, Nat.reduceEqDiff, Nat.reduceAdd, Nat.reduceLeDiff, Nat.reduceMul, Int.reduceBEq, Int.reduceBNe, Int.reduceLT, Int.reduceLE, Int.reduceGT, Int.reduceGE]
  obtain ⟨a9, c9, e9⟩ : ∃ a c, s14 = .slice a 0 c := L14.own.is
  subst e9
  have k1 : ((1 : Nat) : Int) = 1 := rfl
  have k0 : ((0 : Nat) : Int) = 0 := rfl
  simp -dsimp only [go_sem, ↓reduceIte, reduceCtorEq, Nat.reduceEqDiff, Nat.reduceAdd, Nat.reduceLeDiff, Nat.reduceMul, Int.reduceBEq, Int.reduceBNe, Int.reduceLT, Int.reduceLE, Int.reduceGT, Int.reduceGE, k1, k0]
  have hul : u12.length = 1 := L12.len
  obtain ⟨ux, hux⟩ : ∃ x, u12[0]? = some x := ⟨_, List.getElem?_eq_getElem (by omega)⟩
  obtain ⟨ua, uc, hu0⟩ : ∃ a c, ux = .slice a 0 c := (L12.at_ 0 ux (natsV []) hux rfl).is
  subst hu0
  refine (show Rd 1 _ (.slice a7 1 c7) 1 u12 from L12.own.rd).idx (by omega) fun bx ox cx => ?_
  have cx := cx 0 _ hux
  rw [Nat.add_zero] at cx
  simp -dsimp only [go_sem, ↓reduceIte, reduceCtorEq, Nat.reduceEqDiff, Nat.reduceAdd, Nat.reduceLeDiff, Nat.reduceMul, Int.reduceBEq, Int.reduceBNe, Int.reduceLT, Int.reduceLE, Int.reduceGT, Int.reduceGE, cx, Int.toNat_zero, Nat.add_zero, Int.cast_ofNat_Int, k1, k0]
  refine call_of (order_Components t2 (ht.fr p0 (by omega))) ?_
  rintro s15 h15 ⟨f15, u15, L15, -⟩
  rw [k8_11] at L15
  have f15_z := f15.size
  replace p0 := p0.fresh f15 (by omega)
  replace t1 := t1.fr f15 (by omega)
  replace t2 := t2.fr f15 (by omega)
  simp -dsimp only [go_sem, ↓reduceIte, reduceCtorEq, Nat.reduceEqDiff, Nat.reduceAdd, Nat.reduceLeDiff, Nat.reduceMul, Int.reduceBEq, Int.reduceBNe, Int.reduceLT, Int.reduceLE, Int.reduceGT, Int.reduceGE]
  intro b16 h16 n16
  have n16_a := n16.at_
  have n16_z := n16.size
  replace p0 := p0.fresh (n16.fr (lo := 0) (hi := 0)) (by omega)
  replace t1 := t1.fr (n16.fr (lo := 0) (hi := 0)) (by omega)
  replace t2 := t2.fr (n16.fr (lo := 0) (hi := 0)) (by omega)
  replace L15 := L15.fr (n16.fr (lo := 0) (hi := 0)) (by first | exact Away.none (Nat.le_refl _) | exact L15.below (by omega) | exact L15.above (by omega) | assumption | exact fun w hw => (by have := aTop w hw; omega))
  have r16 := n16.row
  simp -dsimp only [go_sem, ↓reduceIte, reduceCtorEq, Nat.reduceEqDiff, Nat.reduceAdd, Nat.reduceLeDiff, Nat.reduceMul, Int.reduceBEq, Int.reduceBNe, Int.reduceLT, Int.reduceLE, Int.reduceGT, Int.reduceGE, r16.cell]
  intro b17 h17 n17
  have n17_a := n17.at_
  have n17_z := n17.size
  replace p0 := p0.fresh (n17.fr (lo := 0) (hi := 0)) (by omega)
  replace t1 := t1.fr (n17.fr (lo := 0) (hi := 0)) (by omega)
  replace t2 := t2.fr (n17.fr (lo := 0) (hi := 0)) (by omega)
  replace L15 := L15.fr (n17.fr (lo := 0) (hi := 0)) (by first | exact Away.none (Nat.le_refl _) | exact L15.below (by omega) | exact L15.above (by omega) | assumption | exact fun w hw => (by have := aTop w hw; omega))
  replace r16 := r16.fr (n17.fr (lo := 0) (hi := 0)) (by omega)
  have r17 := n17.row
  simp -dsimp only [go_sem, ↓reduceIte, reduceCtorEq, Nat.reduceEqDiff, Nat.reduceAdd, Nat.reduceLeDiff, Nat.reduceMul, Int.reduceBEq, Int.reduceBNe, Int.reduceLT, Int.reduceLE, Int.reduceGT, Int.reduceGE, r16.cell, r17.cell]
  intro b18 h18 n18
  have n18_a := n18.at_
  have n18_z := n18.size
  replace p0 := p0.fresh (n18.fr (lo := 0) (hi := 0)) (by omega)
  replace t1 := t1.fr (n18.fr (lo := 0) (hi := 0)) (by omega)
  replace t2 := t2.fr (n18.fr (lo := 0) (hi := 0)) (by omega)
  replace L15 := L15.fr (n18.fr (lo := 0) (hi := 0)) (by first | exact Away.none (Nat.le_refl _) | exact L15.below (by omega) | exact L15.above (by omega) | assumption | exact fun w hw => (by have := aTop w hw; omega))
  replace r16 := r16.fr (n18.fr (lo := 0) (hi := 0)) (by omega)
  replace r17 := r17.fr (n18.fr (lo := 0) (hi := 0)) (by omega)
  have r18 := n18.row
  simp -dsimp only [go_sem, ↓reduceIte, reduceCtorEq, Nat.reduceEqDiff, Nat.reduceAdd, Nat.reduceLeDiff, Nat.reduceMul, Int.reduceBEq, Int.reduceBNe, Int.reduceLT, Int.reduceLE, Int.reduceGT, Int.reduceGE, r16.cell, r17.cell, r18.cell]
  intro b19 h19 n19
  have n19_a := n19.at_
  have n19_z := n19.size
  replace p0 := p0.fresh (n19.fr (lo := 0) (hi := 0)) (by omega)
  replace t1 := t1.fr (n19.fr (lo := 0) (hi := 0)) (by omega)
  replace t2 := t2.fr (n19.fr (lo := 0) (hi := 0)) (by omega)
  replace L15 := L15.fr (n19.fr (lo := 0) (hi := 0)) (by first | exact Away.none (Nat.le_refl _) | exact L15.below (by omega) | exact L15.above (by omega) | assumption | exact fun w hw => (by have := aTop w hw; omega))
  replace r16 := r16.fr (n19.fr (lo := 0) (hi := 0)) (by omega)
  replace r17 := r17.fr (n19.fr (lo := 0) (hi := 0)) (by omega)
  replace r18 := r18.fr (n19.fr (lo := 0) (hi := 0)) (by omega)
  have r19 := n19.row
  simp -dsimp only [go_sem, ↓reduceIte, reduceCtorEq, Nat.reduceEqDiff, Nat.reduceAdd, Nat.reduceLeDiff, Nat.reduceMul, Int.reduceBEq, Int.reduceBNe, Int.reduceLT, Int.reduceLE, Int.reduceGT, Int.reduceGE, r16.cell, r17.cell, r18.cell, r19.cell]
  intro b20 h20 n20
  have n20_a := n20.at_
  have n20_z := n20.size
  replace p0 := p0.fresh (n20.fr (lo := 0) (hi := 0)) (by omega)
  replace t1 := t1.fr (n20.fr (lo := 0) (hi := 0)) (by omega)
  replace t2 := t2.fr (n20.fr (lo := 0) (hi := 0)) (by omega)
  replace L15 := L15.fr (n20.fr (lo := 0) (hi := 0)) (by first | exact Away.none (Nat.le_refl _) | exact L15.below (by omega) | exact L15.above (by omega) | assumption | exact fun w hw => (by have := aTop w hw; omega))
  replace r16 := r16.fr (n20.fr (lo := 0) (hi := 0)) (by omega)
  replace r17 := r17.fr (n20.fr (lo := 0) (hi := 0)) (by omega)
  replace r18 := r18.fr (n20.fr (lo := 0) (hi := 0)) (by omega)
  replace r19 := r19.fr (n20.fr (lo := 0) (hi := 0)) (by omega)
  have r20 := n20.row
  simp -dsimp only [go_sem, ↓reduceIte, reduceCtorEq, Nat.reduceEqDiff, Nat.reduceAdd, Nat.reduceLeDiff, Nat.reduceMul, Int.reduceBEq, Int.reduceBNe, Int.reduceLT, Int.reduceLE, Int.reduceGT, Int.reduceGE, r16.cell, r17.cell, r18.cell, r19.cell, r20.cell]
  have q20 := rlit (b := b20) (bs := [(b16, natsV [0, 1]), (b17, natsV [3]), (b18, natsV [4]), (b19, natsV [2])]) r20 (fun x hx => by
    rcases List.mem_cons.1 hx with rfl | hx
    · exact r16
    rcases List.mem_cons.1 hx with rfl | hx
    · exact r17
    rcases List.mem_cons.1 hx with rfl | hx
    · exact r18
    rcases List.mem_cons.1 hx with rfl | hx
    · exact r19
    simp at hx)
  refine call_of (c_lists_nats (L := [[0, 1], [3], [4], [2]]) (K := [[0, 1], [3], [4], [2]]) L15.rl q20 rfl (by decide) (by decide)) ?_
  rintro v h21 ⟨rfl, rfl⟩
  simp -dsimp only [go_sem, ↓reduceIte, reduceCtorEq, Nat.reduceEqDiff, Nat.reduceAdd, Nat.reduceLeDiff, Nat.reduceMul, Int.reduceBEq, Int.reduceBNe, Int.reduceLT, Int.reduceLE, Int.reduceGT, Int.reduceGE, Int.cast_ofNat_Int]
  refine call_of (order_Components t1 (ht.fr p0 (by omega))) ?_
  rintro s22 h22 ⟨f22, u22, L22, -⟩
  rw [k8_12] at L22
  have f22_z := f22.size
  replace p0 := p0.fresh f22 (by omega)
  replace t1 := t1.fr f22 (by omega)
  replace t2 := t2.fr f22 (by omega)
  simp -dsimp only [go_sem, ↓reduceIte, reduceCtorEq, Nat.reduceEqDiff, Nat.reduceAdd, Nat.reduceLeDiff, Nat.reduceMul, Int.reduceBEq, Int.reduceBNe, Int.reduceLT, Int.reduceLE, Int.reduceGT, Int.reduceGE]
  intro b23 h23 n23
  have n23_a := n23.at_
  have n23_z := n23.size
  replace p0 := p0.fresh (n23.fr (lo := 0) (hi := 0)) (by omega)
  replace t1 := t1.fr (n23.fr (lo := 0) (hi := 0)) (by omega)
  replace t2 := t2.fr (n23.fr (lo := 0) (hi := 0)) (by omega)
  replace L22 := L22.fr (n23.fr (lo := 0) (hi := 0)) (by first | exact Away.none (Nat.le_refl _) | exact L22.below (by omega) | exact L22.above (by omega) | assumption | exact fun w hw => (by have := aTop w hw; omega))
  have r23 := n23.row
  simp -dsimp only [go_sem, ↓reduceIte, reduceCtorEq, Nat.reduceEqDiff, Nat.reduceAdd, Nat.reduceLeDiff, Nat.reduceMul, Int.reduceBEq, Int.reduceBNe, Int.reduceLT, Int.reduceLE, Int.reduceGT, Int.reduceGE, r23.cell]
  intro b24 h24 n24
  have n24_a := n24.at_
  have n24_z := n24.size
  replace p0 := p0.fresh (n24.fr (lo := 0) (hi := 0)) (by omega)
  replace t1 := t1.fr (n24.fr (lo := 0) (hi := 0)) (by omega)
  replace t2 := t2.fr (n24.fr (lo := 0) (hi := 0)) (by omega)
  replace L22 := L22.fr (n24.fr (lo := 0) (hi := 0)) (by first | exact Away.none (Nat.le_refl _) | exact L22.below (by omega) | exact L22.above (by omega) | assumption | exact fun w hw => (by have := aTop w hw; omega))
  replace r23 := r23.fr (n24.fr (lo := 0) (hi := 0)) (by omega)
  have r24 := n24.row
  simp -dsimp only [go_sem, ↓reduceIte, reduceCtorEq, Nat.reduceEqDiff, Nat.reduceAdd, Nat.reduceLeDiff, Nat.reduceMul, Int.reduceBEq, Int.reduceBNe, Int.reduceLT, Int.reduceLE, Int.reduceGT, Int.reduceGE, r23.cell, r24.cell]
  intro b25 h25 n25
  have n25_a := n25.at_
  have n25_z := n25.size
  replace p0 := p0.fresh (n25.fr (lo := 0) (hi := 0)) (by omega)
  replace t1 := t1.fr (n25.fr (lo := 0) (hi := 0)) (by omega)
  replace t2 := t2.fr (n25.fr (lo := 0) (hi := 0)) (by omega)
  replace L22 := L22.fr (n25.fr (lo := 0) (hi := 0)) (by first | exact Away.none (Nat.le_refl _) | exact L22.below (by omega) | exact L22.above (by omega) | assumption | exact fun w hw => (by have := aTop w hw; omega))
  replace r23 := r23.fr (n25.fr (lo := 0) (hi := 0)) (by omega)
  replace r24 := r24.fr (n25.fr (lo := 0) (hi := 0)) (by omega)
  have r25 := n25.row
  simp -dsimp only [go_sem, ↓reduceIte, reduceCtorEq, Nat.reduceEqDiff, Nat.reduceAdd, Nat.reduceLeDiff, Nat.reduceMul, Int.reduceBEq, Int.reduceBNe, Int.reduceLT, Int.reduceLE, Int.reduceGT, Int.reduceGE, r23.cell, r24.cell, r25.cell]
  intro b26 h26 n26
  have n26_a := n26.at_
  have n26_z := n26.size
  replace p0 := p0.fresh (n26.fr (lo := 0) (hi := 0)) (by omega)
  replace t1 := t1.fr (n26.fr (lo := 0) (hi := 0)) (by omega)
  replace t2 := t2.fr (n26.fr (lo := 0) (hi := 0)) (by omega)
  replace L22 := L22.fr (n26.fr (lo := 0) (hi := 0)) (by first | exact Away.none (Nat.le_refl _) | exact L22.below (by omega) | exact L22.above (by omega) | assumption | exact fun w hw => (by have := aTop w hw; omega))
  replace r23 := r23.fr (n26.fr (lo := 0) (hi := 0)) (by omega)
  replace r24 := r24.fr (n26.fr (lo := 0) (hi := 0)) (by omega)
  replace r25 := r25.fr (n26.fr (lo := 0) (hi := 0)) (by omega)
  have r26 := n26.row
  simp -dsimp only [go_sem, ↓reduceIte, reduceCtorEq, Nat.reduceEqDiff, Nat.reduceAdd, Nat.reduceLeDiff, Nat.reduceMul, Int.reduceBEq, Int.reduceBNe, Int.reduceLT, Int.reduceLE, Int.reduceGT, Int.reduceGE, r23.cell, r24.cell, r25.cell, r26.cell]
  intro b27 h27 n27
  have n27_a := n27.at_
  have n27_z := n27.size
  replace p0 := p0.fresh (n27.fr (lo := 0) (hi := 0)) (by omega)
  replace t1 := t1.fr (n27.fr (lo := 0) (hi := 0)) (by omega)
  replace t2 := t2.fr (n27.fr (lo := 0) (hi := 0)) (by omega)
  replace L22 := L22.fr (n27.fr (lo := 0) (hi := 0)) (by first | exact Away.none (Nat.le_refl _) | exact L22.below (by omega) | exact L22.above (by omega) | assumption | exact fun w hw => (by have := aTop w hw; omega))
  replace r23 := r23.fr (n27.fr (lo := 0) (hi := 0)) (by omega)
  replace r24 := r24.fr (n27.fr (lo := 0) (hi := 0)) (by omega)
  replace r25 := r25.fr (n27.fr (lo := 0) (hi := 0)) (by omega)
  replace r26 := r26.fr (n27.fr (lo := 0) (hi := 0)) (by omega)
  have r27 := n27.row
  simp -dsimp only [go_sem, ↓reduceIte, reduceCtorEq, Nat.reduceEqDiff, Nat.reduceAdd, Nat.reduceLeDiff, Nat.reduceMul, Int.reduceBEq, Int.reduceBNe, Int.reduceLT, Int.reduceLE, Int.reduceGT, Int.reduceGE, r23.cell, r24.cell, r25.cell, r26.cell, r27.cell]
  have q27 := rlit (b := b27) (bs := [(b23, natsV [2]), (b24, natsV [0]), (b25, natsV [3]), (b26, natsV [1])]) r27 (fun x hx => by
    rcases List.mem_cons.1 hx with rfl | hx
    · exact r23
    rcases List.mem_cons.1 hx with rfl | hx
    · exact r24
    rcases List.mem_cons.1 hx with rfl | hx
    · exact r25
    rcases List.mem_cons.1 hx with rfl | hx
    · exact r26
    simp at hx)
  refine call_of (c_lists_nats (L := [[2], [0], [3], [1]]) (K := [[2], [0], [3], [1]]) L22.rl q27 rfl (by decide) (by decide)) ?_
  rintro v h28 ⟨rfl, rfl⟩
  simp -dsimp only [go_sem, ↓reduceIte, reduceCtorEq, Nat.reduceEqDiff, Nat.reduceAdd, Nat.reduceLeDiff, Nat.reduceMul, Int.reduceBEq, Int.reduceBNe, Int.reduceLT, Int.reduceLE, Int.reduceGT, Int.reduceGE, Int.cast_ofNat_Int]
  intro b29 h29 n29
  have n29_a := n29.at_
  have n29_z := n29.size
  replace p0 := p0.fresh (n29.fr (lo := 0) (hi := 0)) (by omega)
  replace t1 := t1.fr (n29.fr (lo := 0) (hi := 0)) (by omega)
  replace t2 := t2.fr (n29.fr (lo := 0) (hi := 0)) (by omega)
  have r29 := n29.row
  simp -dsimp only [go_sem, ↓reduceIte, reduceCtorEq, Nat.reduceEqDiff, Nat.reduceAdd, Nat.reduceLeDiff, Nat.reduceMul, Int.reduceBEq, Int.reduceBNe, Int.reduceLT, Int.reduceLE, Int.reduceGT, Int.reduceGE, r29.cell]
  refine call_of (rel_Of 3 _ [(0, 1), (1, 2), (0, 2)] _ (r29.rd rfl) (by decide)) ?_
  rintro v30 h30 ⟨f30, t30⟩
  have f30_z := f30.size
  replace p0 := p0.fresh f30 (by omega)
  replace t1 := t1.fr f30 (by omega)
  replace t2 := t2.fr f30 (by omega)
  simp -dsimp only [go_sem, ↓reduceIte, reduceCtorEq, Nat.reduceEqDiff, Nat.reduceAdd, Nat.reduceLeDiff, Nat.reduceMul, Int.reduceBEq, Int.reduceBNe, Int.reduceLT, Int.reduceLE, Int.reduceGT, Int.reduceGE]
  refine call_of (order_Reduction t30 (ht.fr p0 (by omega))) ?_
  rintro v31 h31 ⟨f31, w31⟩
  rw [if_pos k8_13] at w31
  obtain ⟨q31, rfl, t31⟩ := w31
  have f31_z := f31.size
  replace p0 := p0.fresh f31 (by omega)
  replace t1 := t1.fr f31 (by omega)
  replace t2 := t2.fr f31 (by omega)
  simp -dsimp only [go_sem, ↓reduceIte, reduceCtorEq, Nat.reduceEqDiff, Nat.reduceAdd, Nat.reduceLeDiff, Nat.reduceMul, Int.reduceBEq, Int.reduceBNe, Int.reduceLT, Int.reduceLE, Int.reduceGT, Int.reduceGE]
  intro b32 h32 n32
  have n32_a := n32.at_
  have n32_z := n32.size
  replace p0 := p0.fresh (n32.fr (lo := 0) (hi := 0)) (by omega)
  replace t1 := t1.fr (n32.fr (lo := 0) (hi := 0)) (by omega)
  replace t2 := t2.fr (n32.fr (lo := 0) (hi := 0)) (by omega)
  replace t31 := t31.fr (n32.fr (lo := 0) (hi := 0)) (by omega)
  have r32 := n32.row
  simp -dsimp only [go_sem, ↓reduceIte, reduceCtorEq, Nat.reduceEqDiff, Nat.reduceAdd, Nat.reduceLeDiff, Nat.reduceMul, Int.reduceBEq, Int.reduceBNe, Int.reduceLT, Int.reduceLE, Int.reduceGT, Int.reduceGE, r32.cell]
  refine call_of (rel_Of 3 _ [(0, 1), (1, 2)] _ (r32.rd rfl) (by decide)) ?_
  rintro v33 h33 ⟨f33, t33⟩
  have f33_z := f33.size
  replace p0 := p0.fresh f33 (by omega)
  replace t1 := t1.fr f33 (by omega)
  replace t2 := t2.fr f33 (by omega)
  replace t31 := t31.fr f33 (by omega)
  simp -dsimp only [go_sem, ↓reduceIte, reduceCtorEq, Nat.reduceEqDiff, Nat.reduceAdd, Nat.reduceLeDiff, Nat.reduceMul, Int.reduceBEq, Int.reduceBNe, Int.reduceLT, Int.reduceLE, Int.reduceGT, Int.reduceGE]
  refine call_of (rel_Equal t31 t33 (ht.fr p0 (by omega))) ?_
  rintro v34 h34 ⟨f34, rfl⟩
  rw [k8_14]
  have f34_z := f34.size
  replace p0 := p0.fresh f34 (by omega)
  replace t1 := t1.fr f34 (by omega)
  replace t2 := t2.fr f34 (by omega)
  simp -dsimp only [go_sem, ↓reduceIte, reduceCtorEq, Nat.reduceEqDiff, Nat.reduceAdd, Nat.reduceLeDiff, Nat.reduceMul, Int.reduceBEq, Int.reduceBNe, Int.reduceLT, Int.reduceLE, Int.reduceGT, Int.reduceGE]
  intro b35 h35 n35
  have n35_a := n35.at_
  have n35_z := n35.size
  replace p0 := p0.fresh (n35.fr (lo := 0) (hi := 0)) (by omega)
  replace t1 := t1.fr (n35.fr (lo := 0) (hi := 0)) (by omega)
  replace t2 := t2.fr (n35.fr (lo := 0) (hi := 0)) (by omega)
  have r35 := n35.row
  simp -dsimp only [go_sem, ↓reduceIte, reduceCtorEq, Nat.reduceEqDiff, Nat.reduceAdd, Nat.reduceLeDiff, Nat.reduceMul, Int.reduceBEq, Int.reduceBNe, Int.reduceLT, Int.reduceLE, Int.reduceGT, Int.reduceGE, r35.cell]
  refine call_of (order_Glue (l := [(3, 2)]) t1 (ht.fr p0 (by omega)) (r35.rd rfl) (by decide)) ?_
  rintro v36 h36 ⟨f36, o36⟩
  rw [k8_15] at o36
  obtain ⟨w36, rfl, o36⟩ := o36
  have f36_z := f36.size
  replace p0 := p0.fresh f36 (by omega)
  replace t1 := t1.fr f36 (by omega)
  replace t2 := t2.fr f36 (by omega)
  simp -dsimp only [go_sem, ↓reduceIte, reduceCtorEq, Nat.reduceEqDiff, Nat.reduceAdd, Nat.reduceLeDiff, Nat.reduceMul, Int.reduceBEq, Int.reduceBNe, Int.reduceLT, Int.reduceLE, Int.reduceGT, Int.reduceGE]
  intro b37 h37 n37
  have n37_a := n37.at_
  have n37_z := n37.size
  replace p0 := p0.fresh (n37.fr (lo := 0) (hi := 0)) (by omega)
  replace t1 := t1.fr (n37.fr (lo := 0) (hi := 0)) (by omega)
  replace t2 := t2.fr (n37.fr (lo := 0) (hi := 0)) (by omega)
  replace o36 := o36.fr (n37.fr (lo := 0) (hi := 0)) (by have := o36.at_; omega)
  have r37 := n37.row
  simp -dsimp only [go_sem, ↓reduceIte, reduceCtorEq, Nat.reduceEqDiff, Nat.reduceAdd, Nat.reduceLeDiff, Nat.reduceMul, Int.reduceBEq, Int.reduceBNe, Int.reduceLT, Int.reduceLE, Int.reduceGT, Int.reduceGE, r37.cell]
  refine call_of (order_Glue (l := [(0, 2)]) t1 (ht.fr p0 (by omega)) (r37.rd rfl) (by decide)) ?_
  rintro v38 h38 ⟨f38, o38⟩
  rw [k8_16] at o38
  simp only [ResL] at o38
  subst o38
  have f38_z := f38.size
  replace p0 := p0.fresh f38 (by omega)
  replace t1 := t1.fr f38 (by omega)
  replace t2 := t2.fr f38 (by omega)
  replace o36 := o36.fr f38 (by have := o36.at_; omega)
  simp -dsimp only [go_sem, ↓reduceIte, reduceCtorEq, Nat.reduceEqDiff, Nat.reduceAdd, Nat.reduceLeDiff, Nat.reduceMul, Int.reduceBEq, Int.reduceBNe, Int.reduceLT, Int.reduceLE, Int.reduceGT, Int.reduceGE]
  intro b39 h39 n39
  have n39_a := n39.at_
  have n39_z := n39.size
  replace p0 := p0.fresh (n39.fr (lo := 0) (hi := 0)) (by omega)
  replace t1 := t1.fr (n39.fr (lo := 0) (hi := 0)) (by omega)
  replace t2 := t2.fr (n39.fr (lo := 0) (hi := 0)) (by omega)
  replace o36 := o36.fr (n39.fr (lo := 0) (hi := 0)) (by have := o36.at_; omega)
  have r39 := n39.row
  simp -dsimp only [go_sem, ↓reduceIte, reduceCtorEq, Nat.reduceEqDiff, Nat.reduceAdd, Nat.reduceLeDiff, Nat.reduceMul, Int.reduceBEq, Int.reduceBNe, Int.reduceLT, Int.reduceLE, Int.reduceGT, Int.reduceGE, r39.cell]
  refine call_of (order_Glue (l := [(0, 3)]) t1 (ht.fr p0 (by omega)) (r39.rd rfl) (by decide)) ?_
  rintro v40 h40 ⟨f40, o40⟩
  rw [k8_17] at o40
  obtain ⟨w40, rfl, o40⟩ := o40
  have f40_z := f40.size
  replace p0 := p0.fresh f40 (by omega)
  replace t1 := t1.fr f40 (by omega)
  replace t2 := t2.fr f40 (by omega)
  replace o36 := o36.fr f40 (by have := o36.at_; omega)
  simp -dsimp only [go_sem, ↓reduceIte, reduceCtorEq, Nat.reduceEqDiff, Nat.reduceAdd, Nat.reduceLeDiff, Nat.reduceMul, Int.reduceBEq, Int.reduceBNe, Int.reduceLT, Int.reduceLE, Int.reduceGT, Int.reduceGE]
  intro b41 h41 n41
  have n41_a := n41.at_
  have n41_z := n41.size
  replace p0 := p0.fresh (n41.fr (lo := 0) (hi := 0)) (by omega)
  replace t1 := t1.fr (n41.fr (lo := 0) (hi := 0)) (by omega)
  replace t2 := t2.fr (n41.fr (lo := 0) (hi := 0)) (by omega)
  replace o36 := o36.fr (n41.fr (lo := 0) (hi := 0)) (by have := o36.at_; omega)
  replace o40 := o40.fr (n41.fr (lo := 0) (hi := 0)) (by have := o40.at_; omega)
  have r41 := n41.row
  simp -dsimp only [go_sem, ↓reduceIte, reduceCtorEq, Nat.reduceEqDiff, Nat.reduceAdd, Nat.reduceLeDiff, Nat.reduceMul, Int.reduceBEq, Int.reduceBNe, Int.reduceLT, Int.reduceLE, Int.reduceGT, Int.reduceGE, r41.cell]
  refine call_of (order_Glue (l := [(0, 3), (3, 1)]) t1 (ht.fr p0 (by omega)) (r41.rd rfl) (by decide)) ?_
  rintro v42 h42 ⟨f42, o42⟩
  rw [k8_18] at o42
  simp only [ResL] at o42
  subst o42
  have f42_z := f42.size
  replace p0 := p0.fresh f42 (by omega)
  replace t1 := t1.fr f42 (by omega)
  replace t2 := t2.fr f42 (by omega)
  replace o36 := o36.fr f42 (by have := o36.at_; omega)
  replace o40 := o40.fr f42 (by have := o40.at_; omega)
  simp -dsimp only [go_sem, ↓reduceIte, reduceCtorEq, Nat.reduceEqDiff, Nat.reduceAdd, Nat.reduceLeDiff, Nat.reduceMul, Int.reduceBEq, Int.reduceBNe, Int.reduceLT, Int.reduceLE, Int.reduceGT, Int.reduceGE]
  intro b43 h43 n43
  have n43_a := n43.at_
  have n43_z := n43.size
  replace p0 := p0.fresh (n43.fr (lo := 0) (hi := 0)) (by omega)
  replace t1 := t1.fr (n43.fr (lo := 0) (hi := 0)) (by omega)
  replace t2 := t2.fr (n43.fr (lo := 0) (hi := 0)) (by omega)
  replace o36 := o36.fr (n43.fr (lo := 0) (hi := 0)) (by have := o36.at_; omega)
  replace o40 := o40.fr (n43.fr (lo := 0) (hi := 0)) (by have := o40.at_; omega)
  have r43 := n43.row
  simp -dsimp only [go_sem, ↓reduceIte, reduceCtorEq, Nat.reduceEqDiff, Nat.reduceAdd, Nat.reduceLeDiff, Nat.reduceMul, Int.reduceBEq, Int.reduceBNe, Int.reduceLT, Int.reduceLE, Int.reduceGT, Int.reduceGE, r43.cell]
  refine call_of (order_Glue (l := [(1, 1)]) t1 (ht.fr p0 (by omega)) (r43.rd rfl) (by decide)) ?_
  rintro v44 h44 ⟨f44, o44⟩
  rw [k8_19] at o44
  simp only [ResL] at o44
  subst o44
  have f44_z := f44.size
  replace p0 := p0.fresh f44 (by omega)
  replace t1 := t1.fr f44 (by omega)
  replace t2 := t2.fr f44 (by omega)
  replace o36 := o36.fr f44 (by have := o36.at_; omega)
  replace o40 := o40.fr f44 (by have := o40.at_; omega)
  simp -dsimp only [go_sem, ↓reduceIte, reduceCtorEq, Nat.reduceEqDiff, Nat.reduceAdd, Nat.reduceLeDiff, Nat.reduceMul, Int.reduceBEq, Int.reduceBNe, Int.reduceLT, Int.reduceLE, Int.reduceGT, Int.reduceGE]
  intro b45 h45 n45
  have n45_a := n45.at_
  have n45_z := n45.size
  replace p0 := p0.fresh (n45.fr (lo := 0) (hi := 0)) (by omega)
  replace t1 := t1.fr (n45.fr (lo := 0) (hi := 0)) (by omega)
  replace t2 := t2.fr (n45.fr (lo := 0) (hi := 0)) (by omega)
  replace o36 := o36.fr (n45.fr (lo := 0) (hi := 0)) (by have := o36.at_; omega)
  replace o40 := o40.fr (n45.fr (lo := 0) (hi := 0)) (by have := o40.at_; omega)
  have r45 := n45.row
  simp -dsimp only [go_sem, ↓reduceIte, reduceCtorEq, Nat.reduceEqDiff, Nat.reduceAdd, Nat.reduceLeDiff, Nat.reduceMul, Int.reduceBEq, Int.reduceBNe, Int.reduceLT, Int.reduceLE, Int.reduceGT, Int.reduceGE, r45.cell]
  refine call_of (order_Glue (l := [(1, 4)]) t1 (ht.fr p0 (by omega)) (r45.rd rfl) (by decide)) ?_
  rintro v46 h46 ⟨f46, o46⟩
  rw [k8_20] at o46
  simp only [ResL] at o46
  subst o46
  have f46_z := f46.size
  replace p0 := p0.fresh f46 (by omega)
  replace t1 := t1.fr f46 (by omega)
  replace t2 := t2.fr f46 (by omega)
  replace o36 := o36.fr f46 (by have := o36.at_; omega)
  replace o40 := o40.fr f46 (by have := o40.at_; omega)
  simp -dsimp only [go_sem, ↓reduceIte, reduceCtorEq, Nat.reduceEqDiff, Nat.reduceAdd, Nat.reduceLeDiff, Nat.reduceMul, Int.reduceBEq, Int.reduceBNe, Int.reduceLT, Int.reduceLE, Int.reduceGT, Int.reduceGE]
  intro b47 h47 n47
  have n47_a := n47.at_
  have n47_z := n47.size
  replace p0 := p0.fresh (n47.fr (lo := 0) (hi := 0)) (by omega)
  replace t1 := t1.fr (n47.fr (lo := 0) (hi := 0)) (by omega)
  replace t2 := t2.fr (n47.fr (lo := 0) (hi := 0)) (by omega)
  replace o36 := o36.fr (n47.fr (lo := 0) (hi := 0)) (by have := o36.at_; omega)
  replace o40 := o40.fr (n47.fr (lo := 0) (hi := 0)) (by have := o40.at_; omega)
  have r47 := n47.row
  simp -dsimp only [go_sem, ↓reduceIte, reduceCtorEq, Nat.reduceEqDiff, Nat.reduceAdd, Nat.reduceLeDiff, Nat.reduceMul, Int.reduceBEq, Int.reduceBNe, Int.reduceLT, Int.reduceLE, Int.reduceGT, Int.reduceGE, r47.cell]
  refine call_of (c_law2_ints (l := [3, 2, 0, 1]) (m := [3, 2, 0, 1]) o36.rd (r47.rd rfl) (by decide)) ?_
  rintro v h48 ⟨rfl, rfl⟩
  simp -dsimp only [go_sem, ↓reduceIte, reduceCtorEq, Nat.reduceEqDiff, Nat.reduceAdd, Nat.reduceLeDiff, Nat.reduceMul, Int.reduceBEq, Int.reduceBNe, Int.reduceLT, Int.reduceLE, Int.reduceGT, Int.reduceGE]
  intro b49 h49 n49
  have n49_a := n49.at_
  have n49_z := n49.size
  replace p0 := p0.fresh (n49.fr (lo := 0) (hi := 0)) (by omega)
  replace t1 := t1.fr (n49.fr (lo := 0) (hi := 0)) (by omega)
  replace t2 := t2.fr (n49.fr (lo := 0) (hi := 0)) (by omega)
  replace o40 := o40.fr (n49.fr (lo := 0) (hi := 0)) (by have := o40.at_; omega)
  have r49 := n49.row
  simp -dsimp only [go_sem, ↓reduceIte, reduceCtorEq, Nat.reduceEqDiff, Nat.reduceAdd, Nat.reduceLeDiff, Nat.reduceMul, Int.reduceBEq, Int.reduceBNe, Int.reduceLT, Int.reduceLE, Int.reduceGT, Int.reduceGE, r49.cell]
  refine call_of (c_law2_ints (l := [2, 0, 3, 1]) (m := [2, 0, 3, 1]) o40.rd (r49.rd rfl) (by decide)) ?_
  rintro v h50 ⟨rfl, rfl⟩
  simp -dsimp only [go_sem, ↓reduceIte, reduceCtorEq, Nat.reduceEqDiff, Nat.reduceAdd, Nat.reduceLeDiff, Nat.reduceMul, Int.reduceBEq, Int.reduceBNe, Int.reduceLT, Int.reduceLE, Int.reduceGT, Int.reduceGE]
  intro b51 h51 n51
  have n51_a := n51.at_
  have n51_z := n51.size
  replace p0 := p0.fresh (n51.fr (lo := 0) (hi := 0)) (by omega)
  replace t1 := t1.fr (n51.fr (lo := 0) (hi := 0)) (by omega)
  replace t2 := t2.fr (n51.fr (lo := 0) (hi := 0)) (by omega)
  have r51 := n51.row
  simp -dsimp only [go_sem, ↓reduceIte, reduceCtorEq, Nat.reduceEqDiff, Nat.reduceAdd, Nat.reduceLeDiff, Nat.reduceMul, Int.reduceBEq, Int.reduceBNe, Int.reduceLT, Int.reduceLE, Int.reduceGT, Int.reduceGE, r51.cell]
  refine call_of (order_Linear (l := [3, 2, 1, 0]) t1 (ht.fr p0 (by omega)) (r51.rd rfl) (by decide)) ?_
  rintro v52 h52 ⟨f52, rfl⟩
  rw [k8_21]
  have f52_z := f52.size
  replace p0 := p0.fresh f52 (by omega)
  replace t1 := t1.fr f52 (by omega)
  replace t2 := t2.fr f52 (by omega)
  simp -dsimp only [go_sem, ↓reduceIte, reduceCtorEq, Nat.reduceEqDiff, Nat.reduceAdd, Nat.reduceLeDiff, Nat.reduceMul, Int.reduceBEq, Int.reduceBNe, Int.reduceLT, Int.reduceLE, Int.reduceGT, Int.reduceGE]
  intro b53 h53 n53
  have n53_a := n53.at_
  have n53_z := n53.size
  replace p0 := p0.fresh (n53.fr (lo := 0) (hi := 0)) (by omega)
  replace t1 := t1.fr (n53.fr (lo := 0) (hi := 0)) (by omega)
  replace t2 := t2.fr (n53.fr (lo := 0) (hi := 0)) (by omega)
  have r53 := n53.row
  simp -dsimp only [go_sem, ↓reduceIte, reduceCtorEq, Nat.reduceEqDiff, Nat.reduceAdd, Nat.reduceLeDiff, Nat.reduceMul, Int.reduceBEq, Int.reduceBNe, Int.reduceLT, Int.reduceLE, Int.reduceGT, Int.reduceGE, r53.cell]
  refine call_of (order_Linear (l := [2, 0, 3]) t1 (ht.fr p0 (by omega)) (r53.rd rfl) (by decide)) ?_
  rintro v54 h54 ⟨f54, rfl⟩
  rw [k8_22]
  have f54_z := f54.size
  replace p0 := p0.fresh f54 (by omega)
  replace t1 := t1.fr f54 (by omega)
  replace t2 := t2.fr f54 (by omega)
  simp -dsimp only [go_sem, ↓reduceIte, reduceCtorEq, Nat.reduceEqDiff, Nat.reduceAdd, Nat.reduceLeDiff, Nat.reduceMul, Int.reduceBEq, Int.reduceBNe, Int.reduceLT, Int.reduceLE, Int.reduceGT, Int.reduceGE]
  intro b55 h55 n55
  have n55_a := n55.at_
  have n55_z := n55.size
  replace p0 := p0.fresh (n55.fr (lo := 0) (hi := 0)) (by omega)
  replace t1 := t1.fr (n55.fr (lo := 0) (hi := 0)) (by omega)
  replace t2 := t2.fr (n55.fr (lo := 0) (hi := 0)) (by omega)
  have r55 := n55.row
  simp -dsimp only [go_sem, ↓reduceIte, reduceCtorEq, Nat.reduceEqDiff, Nat.reduceAdd, Nat.reduceLeDiff, Nat.reduceMul, Int.reduceBEq, Int.reduceBNe, Int.reduceLT, Int.reduceLE, Int.reduceGT, Int.reduceGE, r55.cell]
  refine call_of (order_Linear (l := [2, 0, 3, 3]) t1 (ht.fr p0 (by omega)) (r55.rd rfl) (by decide)) ?_
  rintro v56 h56 ⟨f56, rfl⟩
  rw [k8_23]
  have f56_z := f56.size
  replace p0 := p0.fresh f56 (by omega)
  replace t1 := t1.fr f56 (by omega)
  replace t2 := t2.fr f56 (by omega)
  simp -dsimp only [go_sem, ↓reduceIte, reduceCtorEq, Nat.reduceEqDiff, Nat.reduceAdd, Nat.reduceLeDiff, Nat.reduceMul, Int.reduceBEq, Int.reduceBNe, Int.reduceLT, Int.reduceLE, Int.reduceGT, Int.reduceGE]
  exact p0
end Go.Proofs.Tst
/-
  From a contract to a row: what a law's call leaves; how arguments are read.
-/
namespace Go.Vc
open Go Go.RowKit Go.ChangeShapes Go.WideShapes Go.ChangeAt Go.Deep
section
variable {H : Type} {enc : TypeId × Value → H} {P : Program}
theorem trodAll_below (hl : laidOutB P = true) {W W' : World} (hb : Below W.heap.size W W') : ∀ {ts : List TypeId} {vs : List Value} {ds : List (DataW H)} {ps : List MemPlace},
    ts.all (fun t => P.readableRec t && decide (t < P.types.size)) = true → DataW.TrodAll enc P W 0 (fun _ => true) true ts vs ds ps → DataW.TrodAll enc P W' 0 (fun b => decide (b < W.heap.size)) true ts vs ds ps
  | [], _, _, _, _, h => by
    obtain ⟨rfl, rfl, rfl⟩ := trodAll_nil h
    exact rfl
  | t :: ts, _, _, _, hr, h => by
    have hlt := h.lt
    obtain ⟨v, vs, d, ds, p, q, rfl, rfl, rfl, h1, h2⟩ := trodAll_cons h
    simp only [List.all_cons, Bool.and_eq_true, decide_eq_true_eq] at hr
    exact ⟨p, q, Below.trod hl hr.1.1 hr.1.2 h1 hb (fun x hx => hlt x (List.mem_append_left _ hx)), trodAll_below hl hb hr.2 h2, rfl⟩

/-- What a law that answers true leaves. -/
theorem law_post {f : Func} {s : ChangeSpec} {W W' : World} {args : Array Value} {ds gs : List (DataW H)} {before : List MemPlace} {tb : TypeId}
    (hl : laidOutB P = true) (hp : f.params.toList.all (fun t => P.readableRec t && decide (t < P.types.size)) = true) (hv : s.vars = [])
    (hrt : f.resultTypes = #[tb]) (htb : P.underlying tb = some .bool) (hW : DataW.Whole enc P f.params.toList s.vars false W args.toList ds gs before)
    (hb : Below W.heap.size W W') (hfn : s.fn H (ds ++ gs) = { results := [.lit (.bool true)], args := ds }) : s.post enc P f false true false false W args (.bool true) W' := by
  have hW0 := hW
  obtain ⟨p, q, hA, hV, rfl, hz, hn⟩ := hW0
  rw [hv] at hV
  obtain ⟨rfl, rfl⟩ := trodVars_none hV
  refine ⟨ds, [], _, [], p, [], hW, ?_, ?_, ?_, ?_, fun h => by cases h⟩
  · rw [hfn, hrt]; exact trodAll_cons_mk (shut_bool htb true) trodAll_mk0
  · rw [hfn]; exact trodAll_below hl hb hp hA
  · rw [hfn, hv]; exact rfl
  · refine World.keptBut_mono (fun p hp => ⟨hp, ?_⟩) (hb.frame (· ∈ p ++ []))
    rw [List.append_nil] at hp
    exact .inr (.inl hp)

/-- The heap's part of a call that keeps all that was. -/
theorem below_of {w w' : World} (hf : Fr 0 0 w.heap w'.heap) (hl : Like none w w') : Below w.heap.size w w' :=
  ⟨hl.os, hl.tape, hl.output, hl.size, fun k hk => hf.old k hk (.inr (Nat.zero_le _))⟩

variable {w : World} {base : Nat} {held : Bool}
end
end Go.Vc
