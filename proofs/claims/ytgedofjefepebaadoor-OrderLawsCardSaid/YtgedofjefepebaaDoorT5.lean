/-
  Contracts of functions that the law reaches: what each returns and what it leaves in memory. Conditions stand in each.
-/
import Derived.Test.YtgedofjefepebaaDoorT4
set_option linter.all false
set_option maxRecDepth 2000
/-
  order.Components.
-/
namespace Go.Proofs.Tst
open Go Go.Vc
theorem loop_joint {P : Program} {y : Option Nat} {c : GC} {Q : Post} {K : Env → Heap → Prop} {k : Nat} {e : Env} {h : Heap} {α : Type} (E : α → Env) (I : α → Heap → Prop)
    (h1 : loopVC (vc P y c) (blockQ k (thenQ (fun e h => ∃ s, Le (E s) e ∧ I s h) Q)) e h) (h2 : ∀ s h, I s h → ∀ e, Le (E s) e → K e h) : loopVC (vc P y c) (blockQ k (thenQ K Q)) e h :=
  vc_mono (c := .loop c) (Q := blockQ k (thenQ (fun e h => ∃ s, Le (E s) e ∧ I s h) Q)) (Q' := blockQ k (thenQ K Q)) (fun x e h hq => by
    have key : thenQ (fun e h => ∃ s, Le (E s) e ∧ I s h) Q .normal e h → thenQ K Q .normal e h := fun ⟨s, hl, hi⟩ => h2 s h hi e hl
    cases x with
    | normal => exact key hq
    | ret => exact hq
    | exit j =>
      by_cases hj : j = k
      · simp only [blockQ, hj, if_true] at hq ⊢; exact key hq
      · simp only [blockQ, hj, if_false] at hq ⊢; exact hq) h1
/-- A table of lists in the making. -/
structure Mem (h : Heap) (n : Nat) (F : Nat → Nat) (i : Nat) (B : Nat → Value) (lo : Nat) : Prop where
  own : ∀ r, r < n → Holder 1 h (B r) (memb F r i).length (natsV (memb F r i)) lo
  off : ∀ a b, a < n → b < n → a ≠ b → Off (B a) (B b)
  nil : ∀ r, r < n → memb F r i = [] → B r = .slice none 0 0
theorem Mem.fr {h h' : Heap} {n i lo l r : Nat} {F : Nat → Nat} {B : Nat → Value} (m : Mem h n F i B lo) (f : Fr l r h h') (ha : ∀ x, x < n → bh (B x) ≤ l ∨ r ≤ bl (B x) ∨ r ≤ l) : Mem h' n F i B lo :=
  ⟨fun x hx => (m.own x hx).fr f (ha x hx), m.off, m.nil⟩
theorem brow_set' {n : Nat} {B : Nat → Value} {a : Nat} {v : Value} : ((List.range n).map B).set a v = (List.range n).map (upd B a v) := by
  apply List.ext_getElem?; intro k
  rw [List.getElem?_set]
  by_cases hka : a = k
  · subst hka
    by_cases hk : a < n
    · simp [hk, upd]
    · simp [hk]
  · rw [if_neg hka]
    by_cases hk : k < n
    · simp [hk, upd, Ne.symm hka]
    · simp [hk]
set_option maxHeartbeats 4000000 in
theorem order_Components {n : Nat} {M : Nat → Nat → Bool} {pv : Value} {lo hi : Nat} {h : Heap} (hr : ProgAt h lo hi pv n M) (ht : TabAt h) :
    Con Tryd.prog 47 #[pv] h fun v h' => Fr 0 0 h h' ∧ ∃ us, LL h' v us ((partsS n M).map natsV) h.size ∧ us.Pairwise Off := by
  refine con_order_Components ?_
  have hn := hr.1
  have hz : 0 < h.size := hcell_lt (ht 0 0 rfl)
  have p0 : Fr 0 0 h h := .refl _ _ _
  simp -dsimp only [go_sem, ↓reduceIte, reduceCtorEq, Nat.reduceEqDiff, Nat.reduceAdd, Nat.reduceLeDiff, Nat.reduceMul, Int.reduceBEq, Int.reduceBNe, Int.reduceLT, Int.reduceLE, Int.reduceGT, Int.reduceGE]
  refine call_of (rel_Len hr) ?_
  rintro v h1 ⟨hh, rfl⟩
  obtain rfl : h = h1 := hh.symm
  simp -dsimp only [go_sem, ↓reduceIte, reduceCtorEq, Nat.reduceEqDiff, Nat.reduceAdd, Nat.reduceLeDiff, Nat.reduceMul, Int.reduceBEq, Int.reduceBNe, Int.reduceLT, Int.reduceLE, Int.reduceGT, Int.reduceGE]
  refine call_of (rel_Plus hr) ?_
  rintro cv h2 ⟨f2, tc⟩
  have f2_z := f2.size
  replace p0 := p0.fresh f2 (by omega)
  simp -dsimp only [go_sem, ↓reduceIte, reduceCtorEq, Nat.reduceEqDiff, Nat.reduceAdd, Nat.reduceLeDiff, Nat.reduceMul, Int.reduceBEq, Int.reduceBNe, Int.reduceLT, Int.reduceLE, Int.reduceGT, Int.reduceGE]
  refine Chk_intro (by omega) ?_
  intro bo h3 n3
  have n3_a := n3.at_
  have n3_z := n3.size
  replace p0 := p0.fresh (n3.fr (lo := 0) (hi := 0)) (by omega)
  replace tc := tc.fr (n3.fr (lo := 0) (hi := 0)) (by omega)
  have ro := n3.row
  rw [zeros_one, Int.toNat_natCast, ivec_rep] at ro
  simp -dsimp only [go_sem, ↓reduceIte, reduceCtorEq, Nat.reduceEqDiff, Nat.reduceAdd, Nat.reduceLeDiff, Nat.reduceMul, Int.reduceBEq, Int.reduceBNe, Int.reduceLT, Int.reduceLE, Int.reduceGT, Int.reduceGE, ro.cell]
  refine Chk_intro (by omega) ?_
  intro bk h4 n4
  have n4_a := n4.at_
  have n4_z := n4.size
  replace p0 := p0.fresh (n4.fr (lo := 0) (hi := 0)) (by omega)
  replace tc := tc.fr (n4.fr (lo := 0) (hi := 0)) (by omega)
  replace ro := ro.fr (n4.fr (lo := 0) (hi := 0)) (by omega)
  have rk := n4.row
  rw [zeros_one, Int.toNat_natCast] at rk
  have e4 : List.replicate n (Value.slice none 0 0) = (List.range n).map fun _ => Value.slice none 0 0 := by
    apply List.ext_getElem?; intro k
    by_cases hk : k < n
    · simp [hk]
    · simp [hk]
  rw [e4] at rk
  simp -dsimp only [go_sem, ↓reduceIte, reduceCtorEq, Nat.reduceEqDiff, Nat.reduceAdd, Nat.reduceLeDiff, Nat.reduceMul, Int.reduceBEq, Int.reduceBNe, Int.reduceLT, Int.reduceLE, Int.reduceGT, Int.reduceGE, ro.cell, rk.cell]
  have hF : ∃ F, F = ldF n M := ⟨_, rfl⟩
  obtain ⟨F, hF⟩ := hF
  have hlt : ∀ p, p < n → F p < n := fun p hp => by rw [hF]; exact Nat.lt_of_le_of_lt ldF_le hp
  have k4 : h.size ≤ h2.size ∧ h2.size ≤ bo ∧ bo < bk ∧ bk < h4.size := by omega
  refine loop_intro (fun i : Nat => [(0, pv), (3, .int .i64 n), (4, cv), (5, .slice (some ⟨bo, 0, none⟩) n n), (6, .slice (some ⟨bk, 0, none⟩) n n), (26, .int .i64 n), (27, .int .i64 i)])
    (fun i h' => i ≤ n ∧ Fr 0 0 h h' ∧ h4.size ≤ h'.size ∧ ProgAt h' h.size h2.size cv n (plusM n M) ∧ Rw h' bo (ivec n fun p => if p < i then (F p : Int) else 0) ∧ ∃ B : Nat → Value, Rw h' bk ((List.range n).map B) ∧ Mem h' n F i B h4.size) (fun i => n - i) 0 ?_ ?_ ?_
  · simp [Le, find]
  · exact ⟨by omega, p0, by omega, tc, by simpa using ro, _, rk, fun _ _ => .none _ _ _, fun _ _ _ _ _ => .inl rfl, fun _ _ _ => rfl⟩
  clear p0 tc ro rk
  rintro i h5 ⟨hi, p0, y5, tc, ro, B, rk, mB⟩
  have p0_z := p0.size
  have ro_l := ro.lt
  have rk_l := rk.lt
  simp -dsimp only [go_sem, ↓reduceIte, reduceCtorEq, Nat.reduceEqDiff, Nat.reduceAdd, Nat.reduceLeDiff, Nat.reduceMul, Int.reduceBEq, Int.reduceBNe, Int.reduceLT, Int.reduceLE, Int.reduceGT, Int.reduceGE, ro.cell, rk.cell]
  refine ⟨fun hlt1 => ?_, fun hge1 => ?_⟩
  · have hlt1 : i < n := by omega
    simp -dsimp only [go_sem, ↓reduceIte, reduceCtorEq, Nat.reduceEqDiff, Nat.reduceAdd, Nat.reduceLeDiff, Nat.reduceMul, Int.reduceBEq, Int.reduceBNe, Int.reduceLT, Int.reduceLE, Int.reduceGT, Int.reduceGE, ro.cell, rk.cell]
    refine Chk_intro (by omega) ?_
    simp -dsimp only [go_sem, ↓reduceIte, reduceCtorEq, Nat.reduceEqDiff, Nat.reduceAdd, Nat.reduceLeDiff, Nat.reduceMul, Int.reduceBEq, Int.reduceBNe, Int.reduceLT, Int.reduceLE, Int.reduceGT, Int.reduceGE, ro.cell, rk.cell]
    have mB_a : ∀ x, x < n → (bl (B x) = 0 ∧ bh (B x) = 0) ∨ (h4.size ≤ bl (B x) ∧ bh (B x) = bl (B x) + 1 ∧ bl (B x) < h5.size) := fun x hx => (mB.own x hx).at_
    refine Chk_intro (ro.wr (by first | (simp; done) | (simp; omega))) fun h6 s6 => ?_
    have s6_z := s6.size
    replace p0 := p0.fresh s6.fr (by omega)
    replace rk := rk.fr s6.fr (by omega)
    replace tc := tc.fr s6.fr (by omega)
    replace ro := s6.row ro
    try simp only [cl_int, cl_bool, cl_slice, cl_ptr, putAt_one, List.set_cons_zero, List.set_cons_succ, ivec_set, brow_upd] at ro
    replace mB := mB.fr s6.fr (fun x hx => by have := mB_a x hx; omega)
    simp -dsimp only [go_sem, ↓reduceIte, reduceCtorEq, Nat.reduceEqDiff, Nat.reduceAdd, Nat.reduceLeDiff, Nat.reduceMul, Int.reduceBEq, Int.reduceBNe, Int.reduceLT, Int.reduceLE, Int.reduceGT, Int.reduceGE, ro.cell, rk.cell]
    refine loop_joint (fun _ : Unit => [(0, pv), (3, .int .i64 n), (4, cv), (5, .slice (some ⟨bo, 0, none⟩) n n), (6, .slice (some ⟨bk, 0, none⟩) n n), (7, .int .i64 i), (26, .int .i64 n), (27, .int .i64 i)])
      (fun _ h' => Fr bo (bo + 1) h6 h' ∧ h'.size = h6.size ∧ Rw h' bo (ivec n (upd (fun p => if p < i then (F p : Int) else 0) i (F i : Int)))) ?_ ?_
    · refine loop_intro (fun q : Nat => [(0, pv), (3, .int .i64 n), (4, cv), (5, .slice (some ⟨bo, 0, none⟩) n n), (6, .slice (some ⟨bk, 0, none⟩) n n), (7, .int .i64 i), (26, .int .i64 n), (27, .int .i64 i), (34, .int .i64 i), (35, .int .i64 q)])
        (fun q h' => q ≤ i ∧ h' = h6 ∧ lf (eqvB n M i) i 0 = lf (eqvB n M i) i q) (fun q => i - q) 0 ?_ ?_ ?_
      · simp [Le, find]
      · exact ⟨by omega, rfl, rfl⟩
      rintro q h7 ⟨hq, hh, hlf⟩
      obtain rfl : h6 = h7 := hh.symm
      simp -dsimp only [go_sem, ↓reduceIte, reduceCtorEq, Nat.reduceEqDiff, Nat.reduceAdd, Nat.reduceLeDiff, Nat.reduceMul, Int.reduceBEq, Int.reduceBNe, Int.reduceLT, Int.reduceLE, Int.reduceGT, Int.reduceGE, ro.cell, rk.cell]
      refine ⟨fun hlt2 => ?_, fun hge2 => ?_⟩
      · have hlt2 : q < i := by omega
        have hst := lf_step (eqvB n M i) hlt2
        simp -dsimp only [go_sem, ↓reduceIte, reduceCtorEq, Nat.reduceEqDiff, Nat.reduceAdd, Nat.reduceLeDiff, Nat.reduceMul, Int.reduceBEq, Int.reduceBNe, Int.reduceLT, Int.reduceLE, Int.reduceGT, Int.reduceGE, ro.cell, rk.cell]
        refine call_of (rel_Has tc i q) ?_
        rintro v h8 ⟨hh, rfl⟩
        obtain rfl : h6 = h8 := hh.symm
        have eH : (inR n (i : Int) && inR n (q : Int) && plusM n M ((i : Int).toNat) ((q : Int).toNat)) = plusM n M i q := by simp [inR, hlt1, show q < n from by omega]
        rw [eH]
        have skip : eqvB n M i q = false → lf (eqvB n M i) i 0 = lf (eqvB n M i) i (q + 1) := fun h => by rw [hlf, hst, h]; rfl
        cases hc1 : plusM n M i q with
        | false =>
          simp -dsimp only [go_sem, ↓reduceIte, reduceCtorEq, Nat.reduceEqDiff, Nat.reduceAdd, Nat.reduceLeDiff, Nat.reduceMul, Int.reduceBEq, Int.reduceBNe, Int.reduceLT, Int.reduceLE, Int.reduceGT, Int.reduceGE, ro.cell, rk.cell]
          simp -dsimp (disch := omega) only [wrap64]
          exact ⟨q + 1, by omega, by simp [Le, find], by omega, skip (by simp [eqvB, hc1])⟩
        | true =>
          simp -dsimp only [go_sem, ↓reduceIte, reduceCtorEq, Nat.reduceEqDiff, Nat.reduceAdd, Nat.reduceLeDiff, Nat.reduceMul, Int.reduceBEq, Int.reduceBNe, Int.reduceLT, Int.reduceLE, Int.reduceGT, Int.reduceGE, ro.cell, rk.cell]
          refine call_of (rel_Has tc q i) ?_
          rintro v h9 ⟨hh, rfl⟩
          obtain rfl : h6 = h9 := hh.symm
          have eH : (inR n (q : Int) && inR n (i : Int) && plusM n M ((q : Int).toNat) ((i : Int).toNat)) = plusM n M q i := by simp [inR, hlt1, show q < n from by omega]
          rw [eH]
          cases hc2 : plusM n M q i with
          | false =>
            simp -dsimp only [go_sem, ↓reduceIte, reduceCtorEq, Nat.reduceEqDiff, Nat.reduceAdd, Nat.reduceLeDiff, Nat.reduceMul, Int.reduceBEq, Int.reduceBNe, Int.reduceLT, Int.reduceLE, Int.reduceGT, Int.reduceGE, ro.cell, rk.cell]
            simp -dsimp (disch := omega) only [wrap64]
            exact ⟨q + 1, by omega, by simp [Le, find], by omega, skip (by simp [eqvB, hc2])⟩
          | true =>
            have hx : F i = q := by rw [hF, ldF, hlf, hst, if_pos (by simp [eqvB, hc1, hc2])]
            simp -dsimp only [go_sem, ↓reduceIte, reduceCtorEq, Nat.reduceEqDiff, Nat.reduceAdd, Nat.reduceLeDiff, Nat.reduceMul, Int.reduceBEq, Int.reduceBNe, Int.reduceLT, Int.reduceLE, Int.reduceGT, Int.reduceGE, ro.cell, rk.cell]
            refine Chk_intro (by omega) ?_
            simp -dsimp only [go_sem, ↓reduceIte, reduceCtorEq, Nat.reduceEqDiff, Nat.reduceAdd, Nat.reduceLeDiff, Nat.reduceMul, Int.reduceBEq, Int.reduceBNe, Int.reduceLT, Int.reduceLE, Int.reduceGT, Int.reduceGE, ro.cell, rk.cell]
            refine Chk_intro (ro.wr (by simp; omega)) fun h10 s10 => ?_
            have r10 := s10.row ro
            rw [cl_int, putAt_one, ivec_set] at r10
            simp -dsimp only [go_sem, ↓reduceIte, reduceCtorEq, Nat.reduceEqDiff, Nat.reduceAdd, Nat.reduceLeDiff, Nat.reduceMul, Int.reduceBEq, Int.reduceBNe, Int.reduceLT, Int.reduceLE, Int.reduceGT, Int.reduceGE, ro.cell, rk.cell]
            refine ⟨(), by simp [Le, find], s10.fr, s10.size, ?_⟩
            rw [ivec_congr fun p hp => ?_]; exact r10
            rw [hx]; unfold upd; split <;> rfl
      · have hqi : q = i := by omega
        subst hqi
        rw [lf_end _ (Nat.le_refl _)] at hlf
        have hx : F q = q := by rw [hF, ldF, hlf]
        simp -dsimp only [go_sem, ↓reduceIte, reduceCtorEq, Nat.reduceEqDiff, Nat.reduceAdd, Nat.reduceLeDiff, Nat.reduceMul, Int.reduceBEq, Int.reduceBNe, Int.reduceLT, Int.reduceLE, Int.reduceGT, Int.reduceGE, ro.cell, rk.cell]
        exact ⟨(), by simp [Le, find], .refl _ _ _, by rw [hx]; exact ro⟩
    rintro ⟨⟩ h7 ⟨f7, z7, ro7⟩ e ⟨e0, e3, e4, e5, e6, e7, e26, e27, -⟩
    have ro6 := ro
    have f7_z := f7.size
    replace p0 := p0.fresh f7 (by omega)
    replace rk := rk.fr f7 (by omega)
    replace tc := tc.fr f7 (by omega)
    replace ro : Rw h7 bo (ivec n fun p => if p < i + 1 then (F p : Int) else 0) := by
      rw [ivec_congr fun p hp => ?_]; exact ro7
      by_cases h : p = i
      · subst h; rw [upd_same, if_pos (by omega)]
      · rw [upd_ne _ _ h]
        have : (p < i + 1) = (p < i) := by simp; omega
        simp only [this]
    replace mB := mB.fr f7 (fun x hx => by have := mB_a x hx; omega)
    have hFi := hlt i hlt1
    have cro : ∀ h', Rw h' bo (ivec n fun p => if p < i + 1 then (F p : Int) else 0) → hcell h' bo i = some (.int .i64 (F i)) := fun h' r => by rw [r.cell, ivec_get hlt1, if_pos (by omega)]
    simp -dsimp only [go_sem, ↓reduceIte, reduceCtorEq, Nat.reduceEqDiff, Nat.reduceAdd, Nat.reduceLeDiff, Nat.reduceMul, Int.reduceBEq, Int.reduceBNe, Int.reduceLT, Int.reduceLE, Int.reduceGT, Int.reduceGE, e0, e3, e4, e5, e6, e7, e26, e27, rk.cell, ro.cell]
    refine Chk_intro (by omega) ?_
    have hB := mB.own (F i) hFi
    have hB_a := hB.at_
    obtain ⟨wa, wc, hBv⟩ := hB.is
    have hg : ((List.range n).map B)[F i]? = some (.slice wa (memb F (F i) i).length wc) := by rw [← hBv]; simp [hFi]
    have hml := memb_len (F := F) (r := F i) (k := i)
    rw [hBv] at hB hB_a
    simp -dsimp only [go_sem, ↓reduceIte, reduceCtorEq, Nat.reduceEqDiff, Nat.reduceAdd, Nat.reduceLeDiff, Nat.reduceMul, Int.reduceBEq, Int.reduceBNe, Int.reduceLT, Int.reduceLE, Int.reduceGT, Int.reduceGE, cro _ ro, e0, e3, e4, e5, e6, e7, e26, e27, rk.cell, ro.cell]
    refine Chk_intro (by omega) ?_
    simp -dsimp only [go_sem, ↓reduceIte, reduceCtorEq, Nat.reduceEqDiff, Nat.reduceAdd, Nat.reduceLeDiff, Nat.reduceMul, Int.reduceBEq, Int.reduceBNe, Int.reduceLT, Int.reduceLE, Int.reduceGT, Int.reduceGE, cro _ ro, e0, e3, e4, e5, e6, e7, e26, e27, rk.cell, ro.cell]
    refine Chk_intro (by omega) ?_
    simp -dsimp only [go_sem, ↓reduceIte, reduceCtorEq, Nat.reduceEqDiff, Nat.reduceAdd, Nat.reduceLeDiff, Nat.reduceMul, Int.reduceBEq, Int.reduceBNe, Int.reduceLT, Int.reduceLE, Int.reduceGT, Int.reduceGE, cro _ ro, hg, e0, e3, e4, e5, e6, e7, e26, e27, rk.cell, ro.cell]
    intro b8 h8 n8
    have n8_a := n8.at_; have n8_z := n8.size
    have mB_a7 : ∀ x, x < n → (bl (B x) = 0 ∧ bh (B x) = 0) ∨ (h4.size ≤ bl (B x) ∧ bh (B x) = bl (B x) + 1 ∧ bl (B x) < h7.size) := fun x hx => (mB.own x hx).at_
    have p8 := p0.trans (n8.fr (lo := 0) (hi := 0))
    have ro8 := n8.rw ro
    have rk8 := n8.rw rk
    have tc8 := tc.fr (n8.fr (lo := 0) (hi := 0)) (by omega)
    have mB8 := mB.fr (n8.fr (lo := 0) (hi := 0)) (fun x hx => by omega)
    have hB8 := hB.fr (n8.fr (lo := 0) (hi := 0)) (by omega)
    simp -dsimp only [go_sem, ↓reduceIte, reduceCtorEq, Nat.reduceEqDiff, Nat.reduceAdd, Nat.reduceLeDiff, Nat.reduceMul, Int.reduceBEq, Int.reduceBNe, Int.reduceLT, Int.reduceLE, Int.reduceGT, Int.reduceGE, cro _ ro8, hg, n8.row.cell, e0, e3, e4, e5, e6, e7, e26, e27, rk.cell, ro.cell]
    refine hB8.append (by omega) rfl (by omega) (by simp) (by omega) fun v9 h9 o9 f9 e9 => ?_
    have f9_z := f9.size
    have p9 := p8.fresh f9 (by omega)
    have ro9 := ro8.fr f9 (by omega)
    have rk9 := rk8.fr f9 (by omega)
    have tc9 := tc8.fr f9 (by omega)
    have o9_a := o9.at_
    obtain ⟨va, vc, rfl⟩ := o9.is
    simp -dsimp only [go_sem, ↓reduceIte, reduceCtorEq, Nat.reduceEqDiff, Nat.reduceAdd, Nat.reduceLeDiff, Nat.reduceMul, Int.reduceBEq, Int.reduceBNe, Int.reduceLT, Int.reduceLE, Int.reduceGT, Int.reduceGE, cro _ ro9, rk9.cell, hg, e0, e3, e4, e5, e6, e7, e26, e27, rk.cell, ro.cell]
    refine Chk_intro (by omega) ?_
    simp -dsimp only [go_sem, ↓reduceIte, reduceCtorEq, Nat.reduceEqDiff, Nat.reduceAdd, Nat.reduceLeDiff, Nat.reduceMul, Int.reduceBEq, Int.reduceBNe, Int.reduceLT, Int.reduceLE, Int.reduceGT, Int.reduceGE, e0, e3, e4, e5, e6, e7, e26, e27, rk.cell, ro.cell]
    refine Chk_intro (rk9.wr (by simp; omega)) fun h10 s10 => ?_
    have s10_z := s10.size
    have r10 := s10.row rk9
    rw [cl_slice, putAt_one, brow_set'] at r10
    simp -dsimp only [go_sem, ↓reduceIte, reduceCtorEq, Nat.reduceEqDiff, Nat.reduceAdd, Nat.reduceLeDiff, Nat.reduceMul, Int.reduceBEq, Int.reduceBNe, Int.reduceLT, Int.reduceLE, Int.reduceGT, Int.reduceGE, e0, e3, e4, e5, e6, e7, e26, e27, rk.cell, ro.cell]
    simp -dsimp (disch := omega) only [wrap64]
    refine ⟨i + 1, by omega, by simp [Le, find], by omega, p9.fresh s10.fr (by omega), by omega, tc9.fr s10.fr (by omega), s10.rw ro9 (by omega), _, r10, ?_, ?_, ?_⟩
    · intro r hr'
      rw [memb_succ]
      by_cases hrF : r = F i
      · subst hrF
        rw [if_pos rfl, upd_same, List.length_append, natsV_append]
        exact o9.fr s10.fr (by omega)
      · rw [if_neg (fun h => hrF h.symm), upd_ne _ _ hrF]
        have hx1 := mB8.own r hr'
        have hx2 := mB_a7 r hr'
        have hx3 := mB.off r (F i) hr' hFi hrF
        rw [hBv] at hx3
        have hx4 := bh_bl (.slice wa (memb F (F i) i).length wc)
        unfold Off at hx3
        exact (hx1.fr f9 (by omega)).fr s10.fr (by omega)
    · have key : ∀ r, r < n → r ≠ F i → Off (B r) (.slice va ((memb F (F i) i).length + 1) vc) := fun r hr' hrF => by
        have hx3 := mB.off r (F i) hr' hFi hrF
        rw [hBv] at hx3
        exact Off.app hx3 (mB8.own r hr').top (show 0 < h4.size by omega) o9 e9
      intro a b ha hb hab
      by_cases h1 : a = F i
      · subst h1
        rw [upd_same, upd_ne _ _ (Ne.symm hab)]
        exact (key b hb (Ne.symm hab)).symm
      · by_cases h2 : b = F i
        · subst h2
          rw [upd_same, upd_ne _ _ hab]
          exact key a ha hab
        · rw [upd_ne _ _ h1, upd_ne _ _ h2]
          exact mB.off a b ha hb hab
    · intro r hr' hm
      rw [memb_succ] at hm
      by_cases hrF : F i = r
      · rw [if_pos hrF] at hm; simp at hm
      · rw [if_neg hrF] at hm
        rw [upd_ne _ _ (fun h => hrF h.symm)]
        exact mB.nil r hr' hm
  have hin : i = n := by omega
  subst hin
  replace ro : Rw h5 bo (ivec i fun p => (F p : Int)) := by rw [ivec_congr fun p hp => ?_]; exact ro; simp [hp]
  have tl := mB.own
  have mT : ∀ x, x < i → (bl (B x) = 0 ∧ bh (B x) = 0) ∨ (h4.size ≤ bl (B x) ∧ bh (B x) = bl (B x) + 1 ∧ bl (B x) < h5.size) := fun x hx => (mB.own x hx).at_
  have p05 := p0
  have rk5 := rk
  clear p0 tc rk
  have p0 : Fr 0 0 h5 h5 := .refl _ _ _
  simp -dsimp only [go_sem, ↓reduceIte, reduceCtorEq, Nat.reduceEqDiff, Nat.reduceAdd, Nat.reduceLeDiff, Nat.reduceMul, Int.reduceBEq, Int.reduceBNe, Int.reduceLT, Int.reduceLE, Int.reduceGT, Int.reduceGE, ro.cell]
  refine call_of (rel_New i h5) ?_
  rintro v7 h7 ⟨f7, t7⟩
  have f7_z := f7.size
  replace ro := ro.fr f7 (by omega)
  replace p0 := p0.fresh f7 (by omega)
  have hcl : clampN i = i := by unfold clampN; omega
  rw [hcl] at t7
  simp -dsimp only [go_sem, ↓reduceIte, reduceCtorEq, Nat.reduceEqDiff, Nat.reduceAdd, Nat.reduceLeDiff, Nat.reduceMul, Int.reduceBEq, Int.reduceBNe, Int.reduceLT, Int.reduceLE, Int.reduceGT, Int.reduceGE, ro.cell]
  refine call_of (rel_Pairs (hr.fr (p05.trans p0) (by omega)) (ht.fr (p05.trans p0) (by omega))) ?_
  rintro v h8 ⟨f8, o8⟩
  have f8_z := f8.size
  replace ro := ro.fr f8 (by omega)
  replace p0 := p0.fresh f8 (by omega)
  replace t7 := t7.fr f8 (by omega)
  obtain ⟨pa, pc, rfl⟩ := o8.is
  have g3 : i * i ≤ 256 * 256 := Nat.mul_le_mul (by omega) (by omega)
  have g4 : (pairsOf i M).length ≤ i * i := length_pairsTo_le i M i
  have k8 : h5.size ≤ h7.size ∧ h7.size ≤ h8.size ∧ bo < h5.size := by omega
  simp -dsimp only [go_sem, ↓reduceIte, reduceCtorEq, Nat.reduceEqDiff, Nat.reduceAdd, Nat.reduceLeDiff, Nat.reduceMul, Int.reduceBEq, Int.reduceBNe, Int.reduceLT, Int.reduceLE, Int.reduceGT, Int.reduceGE, ro.cell]
  refine loop_intro (fun j : Nat => [(5, .slice (some ⟨bo, 0, none⟩) i i), (6, .slice (some ⟨bk, 0, none⟩) i i), (9, v7), (73, .slice pa (pairsOf i M).length pc), (74, .int .i64 (pairsOf i M).length), (75, .int .i64 j)])
    (fun j h' => j ≤ (pairsOf i M).length ∧ Fr 0 0 h5 h' ∧ h8.size ≤ h'.size ∧ Rw h' bo (ivec i fun p => (F p : Int)) ∧ Holder 2 h' (.slice pa (pairsOf i M).length pc) (pairsOf i M).length (pairsV (pairsOf i M)) h7.size ∧
      ∃ N, ProgAt h' h5.size h7.size v7 i N ∧ ∀ x y, N x y = true ↔ ∃ p : Nat × Nat, ((p.1 : Int), (p.2 : Int)) ∈ (pairsOf i M).take j ∧ F p.1 ≠ F p.2 ∧ F p.1 = x ∧ F p.2 = y) (fun j => (pairsOf i M).length - j) 0 ?_ ?_ ?_
  · simp [Le, find]
  · exact ⟨by omega, p0, by omega, ro, o8, _, t7, by simp⟩
  clear p0 ro o8 t7
  rintro j h9 ⟨hj, p0, y9, ro, o8, N, t9, hN⟩
  have p0_z := p0.size
  have ro_l := ro.lt
  have o8_l := o8.top
  simp -dsimp only [go_sem, ↓reduceIte, reduceCtorEq, Nat.reduceEqDiff, Nat.reduceAdd, Nat.reduceLeDiff, Nat.reduceMul, Int.reduceBEq, Int.reduceBNe, Int.reduceLT, Int.reduceLE, Int.reduceGT, Int.reduceGE, ro.cell]
  refine ⟨fun hlt2 => ?_, fun hge2 => ?_⟩
  · have hlt2 : j < (pairsOf i M).length := by omega
    have hq : (pairsOf i M)[j]? = some (pairsOf i M)[j] := by simp
    have htk : (pairsOf i M).take (j + 1) = (pairsOf i M).take j ++ [(pairsOf i M)[j]] := by rw [List.take_succ_eq_append_getElem hlt2]
    have hmem : (pairsOf i M)[j] ∈ pairsOf i M := List.getElem_mem _
    generalize (pairsOf i M)[j] = q at hq htk hmem
    obtain ⟨a, b, ha, hb', hm, rfl⟩ := mem_pairsOf.1 hmem
    simp -dsimp only [go_sem, ↓reduceIte, reduceCtorEq, Nat.reduceEqDiff, Nat.reduceAdd, Nat.reduceLeDiff, Nat.reduceMul, Int.reduceBEq, Int.reduceBNe, Int.reduceLT, Int.reduceLE, Int.reduceGT, Int.reduceGE, ro.cell]
    refine Chk_intro (by omega) (o8.rd.pair hq fun b6 o6 c6 c7 => ?_)
    simp -dsimp only [go_sem, ↓reduceIte, reduceCtorEq, Nat.reduceEqDiff, Nat.reduceAdd, Nat.reduceLeDiff, Nat.reduceMul, Int.reduceBEq, Int.reduceBNe, Int.reduceLT, Int.reduceLE, Int.reduceGT, Int.reduceGE, c6, c7, ro.cell]
    intro b10 h10 n10
    have n10_a := n10.at_
    have n10_z := n10.size
    replace p0 := p0.fresh (n10.fr (lo := 0) (hi := 0)) (by omega)
    replace ro := ro.fr (n10.fr (lo := 0) (hi := 0)) (by omega)
    replace o8 := o8.fr (n10.fr (lo := 0) (hi := 0)) (by have := o8.at_; omega)
    replace t9 := t9.fr (n10.fr (lo := 0) (hi := 0)) (by omega)
    have r10 := n10.row
    simp -dsimp only [go_sem, ↓reduceIte, reduceCtorEq, Nat.reduceEqDiff, Nat.reduceAdd, Nat.reduceLeDiff, Nat.reduceMul, Int.reduceBEq, Int.reduceBNe, Int.reduceLT, Int.reduceLE, Int.reduceGT, Int.reduceGE, ro.cell, r10.cell]
    refine Chk_intro (r10.wr (by first | (simp; done) | (simp; omega))) fun h11 s11 => ?_
    have s11_z := s11.size
    replace p0 := p0.fresh s11.fr (by omega)
    replace ro := ro.fr s11.fr (by omega)
    replace o8 := o8.fr s11.fr (by have := o8.at_; omega)
    replace t9 := t9.fr s11.fr (by omega)
    replace r10 := s11.row r10
    try simp only [cl_int, cl_bool, cl_slice, cl_ptr, putAt_one, List.set_cons_zero, List.set_cons_succ, ivec_set, brow_upd] at r10
    simp -dsimp only [go_sem, ↓reduceIte, reduceCtorEq, Nat.reduceEqDiff, Nat.reduceAdd, Nat.reduceLeDiff, Nat.reduceMul, Int.reduceBEq, Int.reduceBNe, Int.reduceLT, Int.reduceLE, Int.reduceGT, Int.reduceGE] at r10
    simp -dsimp only [go_sem, ↓reduceIte, reduceCtorEq, Nat.reduceEqDiff, Nat.reduceAdd, Nat.reduceLeDiff, Nat.reduceMul, Int.reduceBEq, Int.reduceBNe, Int.reduceLT, Int.reduceLE, Int.reduceGT, Int.reduceGE, ro.cell, r10.cell]
    refine Chk_intro (by omega) ?_
    simp -dsimp only [go_sem, ↓reduceIte, reduceCtorEq, Nat.reduceEqDiff, Nat.reduceAdd, Nat.reduceLeDiff, Nat.reduceMul, Int.reduceBEq, Int.reduceBNe, Int.reduceLT, Int.reduceLE, Int.reduceGT, Int.reduceGE, ivec_get ha, ro.cell, r10.cell]
    refine Chk_intro (by omega) ?_
    simp -dsimp only [go_sem, ↓reduceIte, reduceCtorEq, Nat.reduceEqDiff, Nat.reduceAdd, Nat.reduceLeDiff, Nat.reduceMul, Int.reduceBEq, Int.reduceBNe, Int.reduceLT, Int.reduceLE, Int.reduceGT, Int.reduceGE, ivec_get hb', ro.cell, r10.cell]
    refine ⟨fun hne => ?_, fun heq => ?_⟩
    · have hFa := hlt a ha
      have hFb := hlt b hb'
      have hne : F a ≠ F b := by intro h; rw [h] at hne; simp at hne
      simp -dsimp only [go_sem, ↓reduceIte, reduceCtorEq, Nat.reduceEqDiff, Nat.reduceAdd, Nat.reduceLeDiff, Nat.reduceMul, Int.reduceBEq, Int.reduceBNe, Int.reduceLT, Int.reduceLE, Int.reduceGT, Int.reduceGE, ro.cell, r10.cell]
      refine call_of (rel_Put t9 (F a) (F b) true) ?_
      rintro v12 h12 ⟨f12, z12, rfl, t12⟩
      have f12_z := f12.size
      replace p0 := p0.fresh f12 (by omega)
      replace ro := ro.fr f12 (by omega)
      replace o8 := o8.fr f12 (by have := o8.at_; omega)
      replace r10 := r10.fr f12 (by omega)
      simp -dsimp only [go_sem, ↓reduceIte, reduceCtorEq, Nat.reduceEqDiff, Nat.reduceAdd, Nat.reduceLeDiff, Nat.reduceMul, Int.reduceBEq, Int.reduceBNe, Int.reduceLT, Int.reduceLE, Int.reduceGT, Int.reduceGE, ro.cell, r10.cell]
      simp -dsimp (disch := omega) only [wrap64]
      refine ⟨j + 1, by omega, by simp [Le, find], by omega, p0, by omega, ro, o8, _, t12, fun x y => ?_⟩
      have e : (inR i (F a) && inR i (F b)) = true := by simp [inR]; omega
      simp only [putM, e, Bool.true_and]
      rw [htk]
      by_cases hxy : x = F a ∧ y = F b
      · obtain ⟨rfl, rfl⟩ := hxy
        simp only [beq_self_eq_true, Bool.and_self, if_true, true_iff]
        exact ⟨(a, b), by simp, hne, rfl, rfl⟩
      · have : ((F a : Int) == (x : Int) && (F b : Int) == (y : Int)) = false := by
          rw [Bool.eq_false_iff]; intro h; apply hxy; simp at h; omega
        rw [this]
        simp only [Bool.false_eq_true, if_false]
        rw [hN]
        refine exists_congr fun p => ?_
        simp only [List.mem_append, List.mem_singleton, Prod.mk.injEq]
        constructor
        · rintro ⟨h1, h2⟩; exact ⟨.inl h1, h2⟩
        · rintro ⟨h1 | ⟨h1, h1'⟩, h2, h3, h4⟩
          · exact ⟨h1, h2, h3, h4⟩
          · have e1 : p.1 = a := by omega
            have e2 : p.2 = b := by omega
            rw [e1] at h3; rw [e2] at h4
            exact absurd ⟨h3.symm, h4.symm⟩ hxy
    · have heq : F a = F b := by
        apply Classical.byContradiction; intro h
        exact heq (by simp; omega)
      simp -dsimp only [go_sem, ↓reduceIte, reduceCtorEq, Nat.reduceEqDiff, Nat.reduceAdd, Nat.reduceLeDiff, Nat.reduceMul, Int.reduceBEq, Int.reduceBNe, Int.reduceLT, Int.reduceLE, Int.reduceGT, Int.reduceGE, ro.cell, r10.cell]
      simp -dsimp (disch := omega) only [wrap64]
      refine ⟨j + 1, by omega, by simp [Le, find], by omega, p0, by omega, ro, o8, N, t9, fun x y => ?_⟩
      rw [htk, hN]
      refine exists_congr fun p => ?_
      simp only [List.mem_append, List.mem_singleton, Prod.mk.injEq]
      constructor
      · rintro ⟨h1, h2⟩; exact ⟨.inl h1, h2⟩
      · rintro ⟨h1 | ⟨h1, h1'⟩, h2, h3, h4⟩
        · exact ⟨h1, h2, h3, h4⟩
        · have e1 : p.1 = a := by omega
          have e2 : p.2 = b := by omega
          rw [e1, e2] at h2
          exact absurd heq h2
  have hjl : j = (pairsOf i M).length := by omega
  subst hjl
  rw [List.take_length] at hN
  have t9 := t9.congr (M' := smM i M F) fun x y hx hy => Bool.eq_iff_iff.2 (by
    rw [hN, smM_true]
    constructor
    · rintro ⟨⟨p, q⟩, h1, h2, h3, h4⟩
      obtain ⟨a, b, ha, hb, hm, he⟩ := mem_pairsOf.1 h1
      simp only [Prod.mk.injEq] at he
      have e1 : p = a := by omega
      have e2 : q = b := by omega
      subst e1 e2
      exact ⟨p, ha, q, hb, hm, h2, h3, h4⟩
    · rintro ⟨p, hp, q, hq, hm, h2, h3, h4⟩
      exact ⟨(p, q), mem_pairsOf.2 ⟨p, q, hp, hq, hm, rfl⟩, h2, h3, h4⟩)
  clear hN
  have hSe : partsS i M = (seqGo i (smM i M F) F i []).map fun r => memb F r i := by rw [partsS, partsR, ← hF]
  have hS : ∃ S, S = smM i M F := ⟨_, rfl⟩
  obtain ⟨S, hS⟩ := hS
  rw [← hS] at t9 hSe
  have hSF : ∀ x y, S x y = true → x < i ∧ F x = x := fun x y h => by
    rw [hS, smM_true] at h
    obtain ⟨p, hp, q, hq, -, -, rfl, -⟩ := h
    exact ⟨hlt p hp, by rw [hF]; exact ldF_idem hp⟩
  have hSF2 : ∀ x y, S x y = true → F y = y := fun x y h => by
    rw [hS, smM_true] at h
    obtain ⟨p, hp, q, hq, -, -, -, rfl⟩ := h
    rw [hF]; exact ldF_idem hq
  simp -dsimp only [go_sem, ↓reduceIte, reduceCtorEq, Nat.reduceEqDiff, Nat.reduceAdd, Nat.reduceLeDiff, Nat.reduceMul, Int.reduceBEq, Int.reduceBNe, Int.reduceLT, Int.reduceLE, Int.reduceGT, Int.reduceGE]
  refine call_of (order_chooser t9 (ht.fr (p05.trans p0) (by omega))) ?_
  rintro v h10 ⟨f10, c, rfl, t10⟩
  have f10_z := f10.size
  replace p0 := p0.fresh f10 (by omega)
  simp -dsimp only [go_sem, ↓reduceIte, reduceCtorEq, Nat.reduceEqDiff, Nat.reduceAdd, Nat.reduceLeDiff, Nat.reduceMul, Int.reduceBEq, Int.reduceBNe, Int.reduceLT, Int.reduceLE, Int.reduceGT, Int.reduceGE, ChB.next]
  refine call_of (chooser_next (q := 0) t10 (by omega)) ?_
  rintro v h11 ⟨hh, rfl⟩
  obtain rfl : h10 = h11 := hh.symm
  simp -dsimp only [go_sem, ↓reduceIte, reduceCtorEq, Nat.reduceEqDiff, Nat.reduceAdd, Nat.reduceLeDiff, Nat.reduceMul, Int.reduceBEq, Int.reduceBNe, Int.reduceLT, Int.reduceLE, Int.reduceGT, Int.reduceGE]
  have k10 : h8.size ≤ h9.size ∧ h9.size ≤ h10.size := by omega
  refine loop_intro (fun s : Value × List Nat × (Nat → Bool) => [(6, .slice (some ⟨bk, 0, none⟩) i i), (14, c.next), (15, c.place), (16, s.1), (17, .int .i64 (nx (lf (freeB i S s.2.2) i 0)))])
    (fun s h' => Fr 0 0 h5 h' ∧ h10.size ≤ h'.size ∧ Chs h' h9.size h10.size c i S s.2.2 ∧ Holder 1 h' s.1 s.2.1.length (s.2.1.map B) h10.size ∧ SeqI i S F s.2.1 ∧ ∀ r, r < i → F r = r → s.2.2 r = s.2.1.contains r)
    (fun s => (List.range i).countP fun x => !s.2.2 x) (.slice none 0 0, [], fun _ => false) ?_ ?_ ?_
  · simp [Le, find, ChB.next]
  · exact ⟨p0, by omega, t10, .none _ _ _, .start, fun _ _ _ => by simp⟩
  clear p0 t10
  rintro ⟨ov, l, D⟩ h11 ⟨p0, y11, t11, oo, hl, hD⟩
  dsimp only at t11 oo hl hD ⊢
  have p0_z := p0.size
  have oo_l := oo.top
  have hll := hl.len
  have oo_a := oo.at_
  have mB1 : Mem h11 i F i B h4.size := mB.fr p0 (fun x hx => by omega)
  have rk1 : Rw h11 bk ((List.range i).map B) := rk5.fr p0 (by omega)
  have hfree : ∀ x, x < i → F x = x → freeB i S D x = freeB i S l.contains x := fun x hx hFx => by
    rw [Bool.eq_iff_iff, freeB_true, freeB_true, hD x hx hFx]
    refine and_congr_right fun _ => forall_congr' fun a => forall_congr' fun ha => ?_
    constructor
    · intro h hm; rw [← hD a ha (hSF a x hm).2]; exact h hm
    · intro h hm; rw [hD a ha (hSF a x hm).2]; exact h hm
  cases hx : lf (freeB i S D) i 0 with
  | none =>
    have hd : lf (fun p => F p == p && freeB i S l.contains p) i 0 = none := by
      cases hy : lf (fun p => F p == p && freeB i S l.contains p) i 0 with
      | none => rfl
      | some x =>
        obtain ⟨-, hxi, hf⟩ := lf_some hy
        simp only [Bool.and_eq_true, beq_iff_eq] at hf
        have := lf_none hx x (by omega) hxi
        rw [hfree x hxi hf.1, hf.2] at this; simp at this
    have hdone := hl.done hd
    simp -dsimp only [go_sem, ↓reduceIte, reduceCtorEq, Nat.reduceEqDiff, Nat.reduceAdd, Nat.reduceLeDiff, Nat.reduceMul, Int.reduceBEq, Int.reduceBNe, Int.reduceLT, Int.reduceLE, Int.reduceGT, Int.reduceGE, nx_none, hx]
    refine ⟨p05.trans p0, l.map B, ⟨?_, ?_, ?_⟩, ?_⟩
    · rw [hSe, ← hdone]; simp only [List.length_map]; exact oo.lower (by omega)
    · intro k w x hw hx
      rw [hSe, ← hdone] at hx
      simp only [List.getElem?_map, Option.map_eq_some_iff] at hw hx
      obtain ⟨r, hr1, rfl⟩ := hw
      obtain ⟨_, ⟨r', hr2, rfl⟩, rfl⟩ := hx
      rw [hr1] at hr2; cases hr2
      rw [length_natsV]
      exact (mB1.own r (hl.2.1 r (List.mem_of_getElem? hr1)).1).lower (by omega)
    · intro w hw
      obtain ⟨r, hr1, rfl⟩ := List.mem_map.1 hw
      have := mT r (hl.2.1 r hr1).1
      unfold Off; omega
    · rw [List.pairwise_map]
      refine hl.1.imp_of_mem fun {a b} ha hb hab => mB.off a b (hl.2.1 a ha).1 (hl.2.1 b hb).1 hab
  | some x =>
    obtain ⟨-, hxi, hfx⟩ := lf_some hx
    have hDx := (freeB_true.1 hfx).1
    have hgx : ((List.range i).map B)[x]? = some (B x) := by simp [hxi]
    have hmu : (List.range i).countP (fun y => !(if y = x then true else D y)) < (List.range i).countP fun y => !D y :=
      countP_lt (f := fun y => !(if y = x then true else D y)) (g := fun y => !D y) i x hxi (fun y hy => by by_cases h : y = x <;> simp_all) (by simp) (by simp [hDx])
    simp -dsimp only [go_sem, ↓reduceIte, reduceCtorEq, Nat.reduceEqDiff, Nat.reduceAdd, Nat.reduceLeDiff, Nat.reduceMul, Int.reduceBEq, Int.reduceBNe, Int.reduceLT, Int.reduceLE, Int.reduceGT, Int.reduceGE, nx_some, hx]
    simp -dsimp only [go_sem, ↓reduceIte, reduceCtorEq, Nat.reduceEqDiff, Nat.reduceAdd, Nat.reduceLeDiff, Nat.reduceMul, Int.reduceBEq, Int.reduceBNe, Int.reduceLT, Int.reduceLE, Int.reduceGT, Int.reduceGE, ChB.place]
    refine call_of (chooser_place t11 hxi true (by simpa using hDx)) ?_
    rintro v h12 ⟨f12, z12, t12⟩
    have oo_b := oo.at_
    have f12_z := f12.size
    replace p0 := p0.fresh f12 (by omega)
    replace oo := oo.fr f12 (by have := oo.at_; omega)
    simp -dsimp only [go_sem, ↓reduceIte, reduceCtorEq, Nat.reduceEqDiff, Nat.reduceAdd, Nat.reduceLeDiff, Nat.reduceMul, Int.reduceBEq, Int.reduceBNe, Int.reduceLT, Int.reduceLE, Int.reduceGT, Int.reduceGE]
    refine Chk_intro (by omega) ?_
    have rk2 : Rw h12 bk ((List.range i).map B) := rk5.fr p0 (by omega)
    have mB2 : Mem h12 i F i B h4.size := mB.fr p0 (fun x hx => by omega)
    by_cases hFx : F x = x
    · have hstep : lf (fun p => F p == p && freeB i S l.contains p) i 0 = some x := by
        refine lf_is (by omega) hxi (by simp only [hFx, beq_self_eq_true, Bool.true_and]; rw [← hfree x hxi hFx]; exact hfx) fun y _ hy => ?_
        by_cases hFy : F y = y
        · rw [← hfree y (by omega) hFy, lf_least hx y (by omega) hy, Bool.and_false]
        · simp [hFy]
      have hl2 := hl.step hstep
      have hxm : x ∈ memb F x i := by simp [memb, hxi, hFx]
      have hml : 0 < (memb F x i).length := List.length_pos_of_mem hxm
      obtain ⟨bb, bc, brest, hBv, -, -, -⟩ := (mB2.own x hxi).blk hml
      rw [hBv] at hgx
      obtain ⟨oa, oc, rfl⟩ := oo.is
      simp -dsimp only [go_sem, ↓reduceIte, reduceCtorEq, Nat.reduceEqDiff, Nat.reduceAdd, Nat.reduceLeDiff, Nat.reduceMul, Int.reduceBEq, Int.reduceBNe, Int.reduceLT, Int.reduceLE, Int.reduceGT, Int.reduceGE, rk2.cell, hgx]
      refine Chk_intro (by omega) ?_
      simp -dsimp only [go_sem, ↓reduceIte, reduceCtorEq, Nat.reduceEqDiff, Nat.reduceAdd, Nat.reduceLeDiff, Nat.reduceMul, Int.reduceBEq, Int.reduceBNe, Int.reduceLT, Int.reduceLE, Int.reduceGT, Int.reduceGE, rk2.cell, hgx]
      intro b13 h13 n13
      have n13_a := n13.at_
      have n13_z := n13.size
      replace p0 := p0.fresh (n13.fr (lo := 0) (hi := 0)) (by omega)
      replace oo := oo.fr (n13.fr (lo := 0) (hi := 0)) (by have := oo.at_; omega)
      replace t12 := t12.fr (n13.fr (lo := 0) (hi := 0)) (by omega)
      have r13 := n13.row
      simp -dsimp only [go_sem, ↓reduceIte, reduceCtorEq, Nat.reduceEqDiff, Nat.reduceAdd, Nat.reduceLeDiff, Nat.reduceMul, Int.reduceBEq, Int.reduceBNe, Int.reduceLT, Int.reduceLE, Int.reduceGT, Int.reduceGE, r13.cell]
      refine oo.append (by omega) rfl (by omega) (by simp) (by omega) fun v14 h14 o_new f14 e_app => ?_
      have f14_z := f14.size
      have o_at := oo.at_
      replace p0 := p0.fresh f14 (by omega)
      replace t12 := t12.fr f14 (by omega)
      replace r13 := r13.fr f14 (by omega)
      clear o_at e_app
      replace oo := o_new
      have oo_l := oo.top
      simp -dsimp only [go_sem, ↓reduceIte, reduceCtorEq, Nat.reduceEqDiff, Nat.reduceAdd, Nat.reduceLeDiff, Nat.reduceMul, Int.reduceBEq, Int.reduceBNe, Int.reduceLT, Int.reduceLE, Int.reduceGT, Int.reduceGE, ChB.next, r13.cell]
      refine call_of (chooser_next (q := 0) t12 (by omega)) ?_
      rintro v h15 ⟨hh, rfl⟩
      obtain rfl : h14 = h15 := hh.symm
      simp -dsimp only [go_sem, ↓reduceIte, reduceCtorEq, Nat.reduceEqDiff, Nat.reduceAdd, Nat.reduceLeDiff, Nat.reduceMul, Int.reduceBEq, Int.reduceBNe, Int.reduceLT, Int.reduceLE, Int.reduceGT, Int.reduceGE, r13.cell]
      refine ⟨(v14, l ++ [x], fun y => if y = x then true else D y), by dsimp only; exact hmu, by simp [Le, find, ChB.next, ChB.place], p0, by omega, t12, ?_, hl2, ?_⟩
      · dsimp only
        rw [List.length_append, List.map_append, List.map_singleton, hBv]; exact oo
      · intro r hr' hFr
        dsimp only
        by_cases hrx : r = x
        · simp [hrx]
        · simp [hrx, hD r hr' hFr]
    · have hmn : memb F x i = [] := by
        refine List.filter_eq_nil_iff.2 fun p hp h => ?_
        have hp := List.mem_range.1 hp
        have h : F p = x := by simpa using h
        apply hFx
        rw [← h, hF]; exact ldF_idem hp
      have hBv := mB2.nil x hxi hmn
      rw [hBv] at hgx
      simp -dsimp only [go_sem, ↓reduceIte, reduceCtorEq, Nat.reduceEqDiff, Nat.reduceAdd, Nat.reduceLeDiff, Nat.reduceMul, Int.reduceBEq, Int.reduceBNe, Int.reduceLT, Int.reduceLE, Int.reduceGT, Int.reduceGE, rk2.cell, hgx]
      simp -dsimp only [go_sem, ↓reduceIte, reduceCtorEq, Nat.reduceEqDiff, Nat.reduceAdd, Nat.reduceLeDiff, Nat.reduceMul, Int.reduceBEq, Int.reduceBNe, Int.reduceLT, Int.reduceLE, Int.reduceGT, Int.reduceGE, ChB.next]
      refine call_of (chooser_next (q := 0) t12 (by omega)) ?_
      rintro v h15 ⟨hh, rfl⟩
      obtain rfl : h12 = h15 := hh.symm
      simp -dsimp only [go_sem, ↓reduceIte, reduceCtorEq, Nat.reduceEqDiff, Nat.reduceAdd, Nat.reduceLeDiff, Nat.reduceMul, Int.reduceBEq, Int.reduceBNe, Int.reduceLT, Int.reduceLE, Int.reduceGT, Int.reduceGE]
      refine ⟨(ov, l, fun y => if y = x then true else D y), by dsimp only; exact hmu, by simp [Le, find, ChB.next, ChB.place], p0, by omega, t12, oo, hl, ?_⟩
      intro r hr' hFr
      dsimp only
      by_cases hrx : r = x
      · subst hrx; exact absurd hFr hFx
      · simp [hrx, hD r hr' hFr]
end Go.Proofs.Tst
/-
  The document's own Extensions.
-/
namespace Go.Proofs.Tst
open Go Go.Vc
end Go.Proofs.Tst
/-
  Lists of lists that are written over, row by row; rows that are grown behind one's back.
-/
namespace Go.Vc
open Go
def mv (k : Nat) : Value := .int .i64 (-1 - (k : Int))
def rowM (k c : Nat) (l : List Value) : List Value := List.replicate (min c l.length) (mv k) ++ l.drop c
def mrk (L : List (List Value)) (i j : Nat) : List (List Value) := L.mapIdx fun k l => if k < i then rowM k l.length l else if k = i then rowM k j l else l
@[simp] theorem rowM_len {k c : Nat} {l : List Value} : (rowM k c l).length = l.length := by unfold rowM; simp; omega
@[simp] theorem mrk_len {L : List (List Value)} {i j : Nat} : (mrk L i j).length = L.length := by simp [mrk]
/-- A store behind what it holds. -/
theorem Holder.beyond {h h' : Heap} {b n c j : Nat} {xs : List Value} {x : Value} {lo : Nat} (w : Holder 1 h (.slice (some ⟨b, 0, Option.none⟩) n c) n xs lo) (hj : n ≤ j) (s : Sto h h' b j [x]) : Holder 1 h' (.slice (some ⟨b, 0, Option.none⟩) n c) n xs lo := by
  have hl := w.1
  obtain ⟨_, ⟨h1, _⟩ | ⟨b', c', rest, h1, h2, h3, h4⟩⟩ := w
  · simp at h1
  cases h1
  refine ⟨hl, .inr ⟨b, c, rest.set (j - n) x, rfl, ?_, by simpa using h3, h4⟩⟩
  have := s.row h2
  rw [putAt_one, List.set_append_right _ _ (by omega)] at this
  rwa [show j - xs.length = j - n from by omega] at this
/-- Grown, and the last one stored: what was there stays. -/
theorem grown {h8 h9 h10 : Heap} {u : Value} {b n m j c : Nat} {xs ys : List Value} {x : Value} {lo : Nat} (h0 : 0 < lo) (hlo : lo ≤ h8.size) (o : Holder 1 h9 (.slice (some ⟨b, 0, none⟩) m c) m ys lo) (w : Holder 1 h9 u n xs lo) (hj : n ≤ j)
    (f : Fr (bl u) (bh u) h8 h9) (e : b = bl u ∧ h9.size = h8.size ∨ b = h8.size ∧ h9.size = h8.size + 1 ∨ b + 1 = 0 ∧ h9 = h8) (s : Sto h9 h10 b j [x]) (hw : bh u ≤ h8.size) : Holder 1 h10 u n xs lo ∧ Fr (bl u) (bh u) h8 h10 := by
  have hb : lo ≤ b := by
    have := o.at_
    simp only [bl, bh] at this; omega
  have hu := bh_bl u
  have hf : Fr (bl u) (bh u) h8 h10 := f.freshIn s.fr (by omega)
  refine ⟨?_, hf⟩
  rcases e with ⟨e, -⟩ | ⟨e, -⟩ | ⟨e, -⟩
  · obtain ⟨_, ⟨h1, _⟩ | ⟨b', c', rest, h1, h2, h3, h4⟩⟩ := id w
    · subst h1; simp [bl] at e; omega
    · subst h1
      obtain rfl : b = b' := e
      exact w.beyond hj s
  · exact w.fr s.fr (by omega)
  · omega
end Go.Vc
namespace Go.Proofs.Tst
open Go Go.Vc
def smallL : List (Int × Int) := [(2, 0), (3, 1)]
def roundL : List (Int × Int) := [(0, 1), (1, 0), (1, 4), (3, 3), (4, 2)]
theorem c_law2_small (h : Heap) : Con Tryd.prog 69 #[] h fun v h' => Fr 0 0 h h' ∧ ProgAt h' h.size h'.size v 4 (ofM 4 smallL) := by
  refine con_law2_small ?_
  have p0 : Fr 0 0 h h := .refl _ _ _
  simp -dsimp only [go_sem, ↓reduceIte, reduceCtorEq, Nat.reduceEqDiff, Nat.reduceAdd, Nat.reduceLeDiff, Nat.reduceMul, Int.reduceBEq, Int.reduceBNe, Int.reduceLT, Int.reduceLE, Int.reduceGT, Int.reduceGE]
  intro b1 h1 n1
  have n1_a := n1.at_
  have n1_z := n1.size
  replace p0 := p0.fresh (n1.fr (lo := 0) (hi := 0)) (by omega)
  have r1 := n1.row
  simp -dsimp only [go_sem, ↓reduceIte, reduceCtorEq, Nat.reduceEqDiff, Nat.reduceAdd, Nat.reduceLeDiff, Nat.reduceMul, Int.reduceBEq, Int.reduceBNe, Int.reduceLT, Int.reduceLE, Int.reduceGT, Int.reduceGE, r1.cell]
  refine call_of (rel_Of 4 _ smallL h1 (r1.rd rfl) (by decide)) ?_
  rintro v h2 ⟨f2, t2⟩
  have f2_z := f2.size
  replace p0 := p0.fresh f2 (by omega)
  replace r1 := r1.fr f2 (by omega)
  simp -dsimp only [go_sem, ↓reduceIte, reduceCtorEq, Nat.reduceEqDiff, Nat.reduceAdd, Nat.reduceLeDiff, Nat.reduceMul, Int.reduceBEq, Int.reduceBNe, Int.reduceLT, Int.reduceLE, Int.reduceGT, Int.reduceGE, r1.cell]
  exact ⟨p0, t2.mono (by omega) (by omega)⟩
theorem c_law2_round (h : Heap) : Con Tryd.prog 70 #[] h fun v h' => Fr 0 0 h h' ∧ ProgAt h' h.size h'.size v 5 (ofM 5 roundL) := by
  refine con_law2_round ?_
  have p0 : Fr 0 0 h h := .refl _ _ _
  simp -dsimp only [go_sem, ↓reduceIte, reduceCtorEq, Nat.reduceEqDiff, Nat.reduceAdd, Nat.reduceLeDiff, Nat.reduceMul, Int.reduceBEq, Int.reduceBNe, Int.reduceLT, Int.reduceLE, Int.reduceGT, Int.reduceGE]
  intro b1 h1 n1
  have n1_a := n1.at_
  have n1_z := n1.size
  replace p0 := p0.fresh (n1.fr (lo := 0) (hi := 0)) (by omega)
  have r1 := n1.row
  simp -dsimp only [go_sem, ↓reduceIte, reduceCtorEq, Nat.reduceEqDiff, Nat.reduceAdd, Nat.reduceLeDiff, Nat.reduceMul, Int.reduceBEq, Int.reduceBNe, Int.reduceLT, Int.reduceLE, Int.reduceGT, Int.reduceGE, r1.cell]
  refine call_of (rel_Of 5 _ roundL h1 (r1.rd rfl) (by decide)) ?_
  rintro v h2 ⟨f2, t2⟩
  have f2_z := f2.size
  replace p0 := p0.fresh f2 (by omega)
  replace r1 := r1.fr f2 (by omega)
  simp -dsimp only [go_sem, ↓reduceIte, reduceCtorEq, Nat.reduceEqDiff, Nat.reduceAdd, Nat.reduceLeDiff, Nat.reduceMul, Int.reduceBEq, Int.reduceBNe, Int.reduceLT, Int.reduceLE, Int.reduceGT, Int.reduceGE, r1.cell]
  exact ⟨p0, t2.mono (by omega) (by omega)⟩
theorem k2_1 : sortS 4 (ofM 4 smallL) = some [2, 0, 3, 1] := by decide
theorem k2_2 : sortS 5 (ofM 5 roundL) = none := by decide
theorem k2_3 : glueS 4 (ofM 4 smallL) [(2, 3)] = .ok [2, 3, 0, 1] := by rfl
theorem k2_4 : LinP 4 (ofM 4 smallL) [2, 0, 3, 1] := by decide
theorem k2_5 : ¬ LinP 4 (ofM 4 smallL) [0, 1, 2, 3] := by decide
theorem c_law2_lives {h : Heap} (ht : TabAt h) : Con Tryd.prog 23 #[] h fun v h' => Fr 0 0 h h' ∧ v = .bool true := by
  refine con_law2_lives ?_
  have p0 : Fr 0 0 h h := .refl _ _ _
  simp -dsimp only [go_sem, ↓reduceIte, reduceCtorEq, Nat.reduceEqDiff, Nat.reduceAdd, Nat.reduceLeDiff, Nat.reduceMul, Int.reduceBEq, Int.reduceBNe, Int.reduceLT, Int.reduceLE, Int.reduceGT, Int.reduceGE]
  refine call_of (c_law2_small h) ?_
  rintro v1 h1 ⟨f1, t1⟩
  have f1_z := f1.size
  replace p0 := p0.fresh f1 (by omega)
  simp -dsimp only [go_sem, ↓reduceIte, reduceCtorEq, Nat.reduceEqDiff, Nat.reduceAdd, Nat.reduceLeDiff, Nat.reduceMul, Int.reduceBEq, Int.reduceBNe, Int.reduceLT, Int.reduceLE, Int.reduceGT, Int.reduceGE]
  refine call_of (order_Sort t1 (ht.fr p0 (by omega))) ?_
  rintro v2 h2 ⟨f2, o2⟩
  rw [k2_1] at o2
  obtain ⟨w2, rfl, o2⟩ := o2
  have f2_z := f2.size
  replace p0 := p0.fresh f2 (by omega)
  simp -dsimp only [go_sem, ↓reduceIte, reduceCtorEq, Nat.reduceEqDiff, Nat.reduceAdd, Nat.reduceLeDiff, Nat.reduceMul, Int.reduceBEq, Int.reduceBNe, Int.reduceLT, Int.reduceLE, Int.reduceGT, Int.reduceGE]
  refine call_of (c_law2_round h2) ?_
  rintro v3 h3 ⟨f3, t3⟩
  have f3_z := f3.size
  replace p0 := p0.fresh f3 (by omega)
  replace o2 := o2.fr f3 (by have := o2.at_; omega)
  simp -dsimp only [go_sem, ↓reduceIte, reduceCtorEq, Nat.reduceEqDiff, Nat.reduceAdd, Nat.reduceLeDiff, Nat.reduceMul, Int.reduceBEq, Int.reduceBNe, Int.reduceLT, Int.reduceLE, Int.reduceGT, Int.reduceGE]
  refine call_of (order_Sort t3 (ht.fr p0 (by omega))) ?_
  rintro v4 h4 ⟨f4, o4⟩
  rw [k2_2] at o4
  simp only [ListOr] at o4
  subst o4
  have f4_z := f4.size
  replace p0 := p0.fresh f4 (by omega)
  replace o2 := o2.fr f4 (by have := o2.at_; omega)
  simp -dsimp only [go_sem, ↓reduceIte, reduceCtorEq, Nat.reduceEqDiff, Nat.reduceAdd, Nat.reduceLeDiff, Nat.reduceMul, Int.reduceBEq, Int.reduceBNe, Int.reduceLT, Int.reduceLE, Int.reduceGT, Int.reduceGE]
  refine call_of (c_law2_small h4) ?_
  rintro v5 h5 ⟨f5, t5⟩
  have f5_z := f5.size
  replace p0 := p0.fresh f5 (by omega)
  replace o2 := o2.fr f5 (by have := o2.at_; omega)
  simp -dsimp only [go_sem, ↓reduceIte, reduceCtorEq, Nat.reduceEqDiff, Nat.reduceAdd, Nat.reduceLeDiff, Nat.reduceMul, Int.reduceBEq, Int.reduceBNe, Int.reduceLT, Int.reduceLE, Int.reduceGT, Int.reduceGE]
  intro b6 h6 n6
  have n6_a := n6.at_
  have n6_z := n6.size
  replace p0 := p0.fresh (n6.fr (lo := 0) (hi := 0)) (by omega)
  replace o2 := o2.fr (n6.fr (lo := 0) (hi := 0)) (by have := o2.at_; omega)
  replace t5 := t5.fr (n6.fr (lo := 0) (hi := 0)) (by omega)
  have r6 := n6.row
  simp -dsimp only [go_sem, ↓reduceIte, reduceCtorEq, Nat.reduceEqDiff, Nat.reduceAdd, Nat.reduceLeDiff, Nat.reduceMul, Int.reduceBEq, Int.reduceBNe, Int.reduceLT, Int.reduceLE, Int.reduceGT, Int.reduceGE, r6.cell]
  refine call_of (order_Glue (l := [(2, 3)]) t5 (ht.fr p0 (by omega)) (r6.rd rfl) (by decide)) ?_
  rintro v7 h7 ⟨f7, o7⟩
  rw [k2_3] at o7
  obtain ⟨w7, rfl, o7⟩ := o7
  have f7_z := f7.size
  replace p0 := p0.fresh f7 (by omega)
  replace o2 := o2.fr f7 (by have := o2.at_; omega)
  simp -dsimp only [go_sem, ↓reduceIte, reduceCtorEq, Nat.reduceEqDiff, Nat.reduceAdd, Nat.reduceLeDiff, Nat.reduceMul, Int.reduceBEq, Int.reduceBNe, Int.reduceLT, Int.reduceLE, Int.reduceGT, Int.reduceGE]
  intro b8 h8 n8
  have n8_a := n8.at_
  have n8_z := n8.size
  replace p0 := p0.fresh (n8.fr (lo := 0) (hi := 0)) (by omega)
  replace o2 := o2.fr (n8.fr (lo := 0) (hi := 0)) (by have := o2.at_; omega)
  replace o7 := o7.fr (n8.fr (lo := 0) (hi := 0)) (by have := o7.at_; omega)
  have r8 := n8.row
  simp -dsimp only [go_sem, ↓reduceIte, reduceCtorEq, Nat.reduceEqDiff, Nat.reduceAdd, Nat.reduceLeDiff, Nat.reduceMul, Int.reduceBEq, Int.reduceBNe, Int.reduceLT, Int.reduceLE, Int.reduceGT, Int.reduceGE, r8.cell]
  refine call_of (c_law2_ints (l := [2, 0, 3, 1]) (m := [2, 0, 3, 1]) o2.rd (r8.rd rfl) (by decide)) ?_
  rintro v h9 ⟨rfl, rfl⟩
  simp -dsimp only [go_sem, ↓reduceIte, reduceCtorEq, Nat.reduceEqDiff, Nat.reduceAdd, Nat.reduceLeDiff, Nat.reduceMul, Int.reduceBEq, Int.reduceBNe, Int.reduceLT, Int.reduceLE, Int.reduceGT, Int.reduceGE, r8.cell]
  intro b10 h10 n10
  have n10_a := n10.at_
  have n10_z := n10.size
  replace p0 := p0.fresh (n10.fr (lo := 0) (hi := 0)) (by omega)
  replace o2 := o2.fr (n10.fr (lo := 0) (hi := 0)) (by have := o2.at_; omega)
  replace o7 := o7.fr (n10.fr (lo := 0) (hi := 0)) (by have := o7.at_; omega)
  replace r8 := r8.fr (n10.fr (lo := 0) (hi := 0)) (by omega)
  have r10 := n10.row
  simp -dsimp only [go_sem, ↓reduceIte, reduceCtorEq, Nat.reduceEqDiff, Nat.reduceAdd, Nat.reduceLeDiff, Nat.reduceMul, Int.reduceBEq, Int.reduceBNe, Int.reduceLT, Int.reduceLE, Int.reduceGT, Int.reduceGE, r8.cell, r10.cell]
  refine call_of (c_law2_ints (l := [2, 3, 0, 1]) (m := [2, 3, 0, 1]) o7.rd (r10.rd rfl) (by decide)) ?_
  rintro v h11 ⟨rfl, rfl⟩
  simp -dsimp only [go_sem, ↓reduceIte, reduceCtorEq, Nat.reduceEqDiff, Nat.reduceAdd, Nat.reduceLeDiff, Nat.reduceMul, Int.reduceBEq, Int.reduceBNe, Int.reduceLT, Int.reduceLE, Int.reduceGT, Int.reduceGE, r8.cell, r10.cell]
  refine call_of (c_law2_small h11) ?_
  rintro v12 h12 ⟨f12, t12⟩
  have f12_z := f12.size
  replace p0 := p0.fresh f12 (by omega)
  replace o2 := o2.fr f12 (by have := o2.at_; omega)
  replace o7 := o7.fr f12 (by have := o7.at_; omega)
  replace r8 := r8.fr f12 (by omega)
  replace r10 := r10.fr f12 (by omega)
  simp -dsimp only [go_sem, ↓reduceIte, reduceCtorEq, Nat.reduceEqDiff, Nat.reduceAdd, Nat.reduceLeDiff, Nat.reduceMul, Int.reduceBEq, Int.reduceBNe, Int.reduceLT, Int.reduceLE, Int.reduceGT, Int.reduceGE, r8.cell, r10.cell]
  refine call_of (order_Linear (l := [2, 0, 3, 1]) t12 (ht.fr p0 (by omega)) o2.rd (by decide)) ?_
  rintro v13 h13 ⟨f13, rfl⟩
  rw [decide_eq_true k2_4]
  have f13_z := f13.size
  replace p0 := p0.fresh f13 (by omega)
  replace o2 := o2.fr f13 (by have := o2.at_; omega)
  replace o7 := o7.fr f13 (by have := o7.at_; omega)
  replace r8 := r8.fr f13 (by omega)
  replace r10 := r10.fr f13 (by omega)
  simp -dsimp only [go_sem, ↓reduceIte, reduceCtorEq, Nat.reduceEqDiff, Nat.reduceAdd, Nat.reduceLeDiff, Nat.reduceMul, Int.reduceBEq, Int.reduceBNe, Int.reduceLT, Int.reduceLE, Int.reduceGT, Int.reduceGE, r8.cell, r10.cell]
  refine call_of (c_law2_small h13) ?_
  rintro v14 h14 ⟨f14, t14⟩
  have f14_z := f14.size
  replace p0 := p0.fresh f14 (by omega)
  replace o2 := o2.fr f14 (by have := o2.at_; omega)
  replace o7 := o7.fr f14 (by have := o7.at_; omega)
  replace r8 := r8.fr f14 (by omega)
  replace r10 := r10.fr f14 (by omega)
  simp -dsimp only [go_sem, ↓reduceIte, reduceCtorEq, Nat.reduceEqDiff, Nat.reduceAdd, Nat.reduceLeDiff, Nat.reduceMul, Int.reduceBEq, Int.reduceBNe, Int.reduceLT, Int.reduceLE, Int.reduceGT, Int.reduceGE, r8.cell, r10.cell]
  intro b15 h15 n15
  have n15_a := n15.at_
  have n15_z := n15.size
  replace p0 := p0.fresh (n15.fr (lo := 0) (hi := 0)) (by omega)
  replace o2 := o2.fr (n15.fr (lo := 0) (hi := 0)) (by have := o2.at_; omega)
  replace o7 := o7.fr (n15.fr (lo := 0) (hi := 0)) (by have := o7.at_; omega)
  replace r8 := r8.fr (n15.fr (lo := 0) (hi := 0)) (by omega)
  replace r10 := r10.fr (n15.fr (lo := 0) (hi := 0)) (by omega)
  replace t14 := t14.fr (n15.fr (lo := 0) (hi := 0)) (by omega)
  have r15 := n15.row
  simp -dsimp only [go_sem, ↓reduceIte, reduceCtorEq, Nat.reduceEqDiff, Nat.reduceAdd, Nat.reduceLeDiff, Nat.reduceMul, Int.reduceBEq, Int.reduceBNe, Int.reduceLT, Int.reduceLE, Int.reduceGT, Int.reduceGE, r8.cell, r10.cell, r15.cell]
  refine call_of (order_Linear (l := [0, 1, 2, 3]) t14 (ht.fr p0 (by omega)) (r15.rd rfl) (by decide)) ?_
  rintro v16 h16 ⟨f16, rfl⟩
  rw [decide_eq_false k2_5]
  have f16_z := f16.size
  replace p0 := p0.fresh f16 (by omega)
  replace o2 := o2.fr f16 (by have := o2.at_; omega)
  replace o7 := o7.fr f16 (by have := o7.at_; omega)
  replace r8 := r8.fr f16 (by omega)
  replace r10 := r10.fr f16 (by omega)
  replace t14 := t14.fr f16 (by omega)
  replace r15 := r15.fr f16 (by omega)
  simp -dsimp only [go_sem, ↓reduceIte, reduceCtorEq, Nat.reduceEqDiff, Nat.reduceAdd, Nat.reduceLeDiff, Nat.reduceMul, Int.reduceBEq, Int.reduceBNe, Int.reduceLT, Int.reduceLE, Int.reduceGT, Int.reduceGE, r8.cell, r10.cell, r15.cell]
  exact p0
end Go.Proofs.Tst
/-
  Every Extensions, by the program and by the document; the lists are written over and grown.
-/
namespace Go.Proofs.Tst
open Go Go.Vc
theorem natsV_ints (l : List Nat) : natsV l = intsV (l.map fun (p : Nat) => (p : Int)) := by simp [natsV, intsV]
end Go.Proofs.Tst
/-
  OrderAll: all lists of all points are gone through.
-/
namespace Go.Proofs.Tst
open Go Go.Vc
def isAt (l : List Nat) (x : Nat) (A : Int) : Bool := l[x]?.map (fun (p : Nat) => (p : Int)) == some A
def tgB (l : List Nat) (A B : Int) (j : Nat) : Bool := (List.range j).any fun x => isAt l x A && isAt l (x + 1) B
theorem tgB_succ {l : List Nat} {A B : Int} {j : Nat} : tgB l A B (j + 1) = (tgB l A B j || (isAt l j A && isAt l (j + 1) B)) := by
  unfold tgB; rw [List.range_succ, List.any_append]; simp
theorem tgB_end {l : List Nat} {A B : Int} {j : Nat} (h : l.length ≤ j + 1) : tgB l A B j = true ↔ ∃ x, l[x]?.map (fun (p : Nat) => (p : Int)) = some A ∧ l[x + 1]?.map (fun (p : Nat) => (p : Int)) = some B := by
  unfold tgB isAt
  simp only [List.any_eq_true, List.mem_range, Bool.and_eq_true, beq_iff_eq]
  constructor
  · rintro ⟨x, -, h1, h2⟩; exact ⟨x, h1, h2⟩
  · rintro ⟨x, h1, h2⟩
    refine ⟨x, ?_, h1, h2⟩
    apply Classical.byContradiction; intro hx
    rw [List.getElem?_eq_none (by omega)] at h2; simp at h2
theorem c_law2_together {l : List Nat} {ps : List (Int × Int)} {v w : Value} {h : Heap} (hl : Rd 1 h v l.length (natsV l)) (hp : Rd 2 h w ps.length (pairsV ps)) (hb : l.length ≤ 65536) (hb2 : ps.length ≤ 4611686018427387904) :
    Con Tryd.prog 36 #[v, w] h fun v h' => h' = h ∧ ∃ b, v = .bool b ∧ (b = true ↔ TogP l ps) := by
  refine con_law2_together ?_
  obtain ⟨la, lc, rfl⟩ := hl.is
  obtain ⟨pa, pc, rfl⟩ := hp.is
  simp -dsimp only [go_sem, ↓reduceIte, reduceCtorEq, Nat.reduceEqDiff, Nat.reduceAdd, Nat.reduceLeDiff, Nat.reduceMul, Int.reduceBEq, Int.reduceBNe, Int.reduceLT, Int.reduceLE, Int.reduceGT, Int.reduceGE]
  refine loop_intro (fun i : Nat => [(0, .slice la l.length lc), (1, .slice pa ps.length pc), (5, .int .i64 i)]) (fun i h' => i ≤ ps.length ∧ h' = h ∧ TogP l (ps.take i)) (fun i => ps.length - i) 0 ?_ ?_ ?_
  · simp [Le, find]
  · exact ⟨by omega, rfl, by intro x hx; simp at hx⟩
  rintro i h1 ⟨hi, hh, hn⟩
  obtain rfl : h = h1 := hh.symm
  simp -dsimp only [go_sem, ↓reduceIte, reduceCtorEq, Nat.reduceEqDiff, Nat.reduceAdd, Nat.reduceLeDiff, Nat.reduceMul, Int.reduceBEq, Int.reduceBNe, Int.reduceLT, Int.reduceLE, Int.reduceGT, Int.reduceGE]
  refine ⟨fun hlt => ?_, fun hge => ?_⟩
  · have hlt : i < ps.length := by omega
    have hx : ps[i]? = some ps[i] := List.getElem?_eq_getElem _
    have hmem : ps[i] ∈ ps := List.getElem_mem _
    have htk : ps.take (i + 1) = ps.take i ++ [ps[i]] := by rw [List.take_succ_eq_append_getElem hlt]
    generalize ps[i] = x at hx hmem htk
    obtain ⟨A, B⟩ := x
    simp -dsimp only [go_sem, ↓reduceIte, reduceCtorEq, Nat.reduceEqDiff, Nat.reduceAdd, Nat.reduceLeDiff, Nat.reduceMul, Int.reduceBEq, Int.reduceBNe, Int.reduceLT, Int.reduceLE, Int.reduceGT, Int.reduceGE]
    refine loop_intro (fun j : Nat => [(0, .slice la l.length lc), (1, .slice pa ps.length pc), (5, .int .i64 i), (6, .bool (tgB l A B j)), (7, .int .i64 j)]) (fun j h' => j ≤ l.length ∧ h' = h) (fun j => l.length - j) 0 ?_ ?_ ?_
    · simp [Le, find, tgB]
    · exact ⟨by omega, rfl⟩
    rintro j h2 ⟨hj, hh⟩
    obtain rfl : h = h2 := hh.symm
    simp -dsimp only [go_sem, ↓reduceIte, reduceCtorEq, Nat.reduceEqDiff, Nat.reduceAdd, Nat.reduceLeDiff, Nat.reduceMul, Int.reduceBEq, Int.reduceBNe, Int.reduceLT, Int.reduceLE, Int.reduceGT, Int.reduceGE]
    simp -dsimp (disch := omega) only [wrap64]
    refine ⟨fun hlt2 => ?_, fun hge2 => ?_⟩
    · have hlt2 : j + 1 < l.length := by omega
      have hy : l[j]? = some (l[j]'(by omega)) := List.getElem?_eq_getElem _
      have hz : l[j + 1]? = some l[j + 1] := List.getElem?_eq_getElem _
      generalize (l[j]'(by omega)) = y at hy
      generalize l[j + 1] = z at hz
      have ey : isAt l j A = ((y : Int) == A) := by unfold isAt; rw [hy]; rfl
      have ez : isAt l (j + 1) B = ((z : Int) == B) := by unfold isAt; rw [hz]; rfl
      have hs := tgB_succ (l := l) (A := A) (B := B) (j := j)
      rw [ey, ez] at hs
      have ej : (IntKind.i64.wrap ((j : Int) + 1)).toNat = j + 1 := by rw [wrap64 (by omega) (by omega)]; omega
      cases ht : tgB l A B j with
      | true =>
        rw [ht, Bool.true_or] at hs
        simp -dsimp only [go_sem, ↓reduceIte, reduceCtorEq, Nat.reduceEqDiff, Nat.reduceAdd, Nat.reduceLeDiff, Nat.reduceMul, Int.reduceBEq, Int.reduceBNe, Int.reduceLT, Int.reduceLE, Int.reduceGT, Int.reduceGE]
        simp -dsimp (disch := omega) only [wrap64]
        exact ⟨j + 1, by omega, by simp [Le, find, hs], by omega⟩
      | false =>
        rw [ht, Bool.false_or] at hs
        simp -dsimp only [go_sem, ↓reduceIte, reduceCtorEq, Nat.reduceEqDiff, Nat.reduceAdd, Nat.reduceLeDiff, Nat.reduceMul, Int.reduceBEq, Int.reduceBNe, Int.reduceLT, Int.reduceLE, Int.reduceGT, Int.reduceGE]
        refine Chk_intro (by omega) (hl.idx (by omega) fun b1 o1 c1 => ?_)
        simp -dsimp only [go_sem, ↓reduceIte, reduceCtorEq, Nat.reduceEqDiff, Nat.reduceAdd, Nat.reduceLeDiff, Nat.reduceMul, Int.reduceBEq, Int.reduceBNe, Int.reduceLT, Int.reduceLE, Int.reduceGT, Int.reduceGE, c1 j _ (natsV_get hy)]
        refine Chk_intro (by omega) (hp.pair hx fun b2 o2 c2 c3 => ?_)
        simp -dsimp only [go_sem, ↓reduceIte, reduceCtorEq, Nat.reduceEqDiff, Nat.reduceAdd, Nat.reduceLeDiff, Nat.reduceMul, Int.reduceBEq, Int.reduceBNe, Int.reduceLT, Int.reduceLE, Int.reduceGT, Int.reduceGE, c2]
        cases e1 : ((y : Int) == A) with
        | false =>
          rw [e1, Bool.false_and] at hs
          simp -dsimp only [go_sem, ↓reduceIte, reduceCtorEq, Nat.reduceEqDiff, Nat.reduceAdd, Nat.reduceLeDiff, Nat.reduceMul, Int.reduceBEq, Int.reduceBNe, Int.reduceLT, Int.reduceLE, Int.reduceGT, Int.reduceGE]
          simp -dsimp (disch := omega) only [wrap64]
          exact ⟨j + 1, by omega, by simp [Le, find, hs], by omega⟩
        | true =>
          rw [e1, Bool.true_and] at hs
          simp -dsimp only [go_sem, ↓reduceIte, reduceCtorEq, Nat.reduceEqDiff, Nat.reduceAdd, Nat.reduceLeDiff, Nat.reduceMul, Int.reduceBEq, Int.reduceBNe, Int.reduceLT, Int.reduceLE, Int.reduceGT, Int.reduceGE]
          refine Chk_intro (by omega) (hl.idx (by omega) fun b3 o3 c4 => ?_)
          simp -dsimp only [go_sem, ↓reduceIte, reduceCtorEq, Nat.reduceEqDiff, Nat.reduceAdd, Nat.reduceLeDiff, Nat.reduceMul, Int.reduceBEq, Int.reduceBNe, Int.reduceLT, Int.reduceLE, Int.reduceGT, Int.reduceGE, ej, c4 (j + 1) _ (natsV_get hz)]
          refine Chk_intro (by omega) (hp.pair hx fun b5 o5 c5 c6 => ?_)
          simp -dsimp only [go_sem, ↓reduceIte, reduceCtorEq, Nat.reduceEqDiff, Nat.reduceAdd, Nat.reduceLeDiff, Nat.reduceMul, Int.reduceBEq, Int.reduceBNe, Int.reduceLT, Int.reduceLE, Int.reduceGT, Int.reduceGE, c6]
          simp -dsimp (disch := omega) only [wrap64]
          exact ⟨j + 1, by omega, by simp [Le, find, hs], by omega⟩
    · have he := tgB_end (l := l) (A := A) (B := B) (j := j) (by omega)
      cases ht : tgB l A B j with
      | true =>
        simp -dsimp only [go_sem, ↓reduceIte, reduceCtorEq, Nat.reduceEqDiff, Nat.reduceAdd, Nat.reduceLeDiff, Nat.reduceMul, Int.reduceBEq, Int.reduceBNe, Int.reduceLT, Int.reduceLE, Int.reduceGT, Int.reduceGE]
        simp -dsimp (disch := omega) only [wrap64]
        refine ⟨i + 1, by omega, by simp [Le, find], by omega, fun x hx => ?_⟩
        rw [htk] at hx
        rcases List.mem_append.1 hx with hx | hx
        · exact hn x hx
        · simp at hx; subst hx; exact he.1 ht
      | false =>
        simp -dsimp only [go_sem, ↓reduceIte, reduceCtorEq, Nat.reduceEqDiff, Nat.reduceAdd, Nat.reduceLeDiff, Nat.reduceMul, Int.reduceBEq, Int.reduceBNe, Int.reduceLT, Int.reduceLE, Int.reduceGT, Int.reduceGE]
        refine ⟨false, rfl, by simp; intro h; rw [he.2 (h _ hmem)] at ht; simp at ht⟩
  · have : i = ps.length := by omega
    subst this
    rw [List.take_length] at hn
    simp -dsimp only [go_sem, ↓reduceIte, reduceCtorEq, Nat.reduceEqDiff, Nat.reduceAdd, Nat.reduceLeDiff, Nat.reduceMul, Int.reduceBEq, Int.reduceBNe, Int.reduceLT, Int.reduceLE, Int.reduceGT, Int.reduceGE]
    exact ⟨true, rfl, by simp [hn]⟩
end Go.Proofs.Tst
