/-
  Contracts of functions that the law reaches: what each returns and what it leaves in memory. Conditions stand in each.
-/
import Derived.Test.YtgedofjefepebaaDoorG2
set_option linter.all false
set_option maxRecDepth 2000
namespace Go.Vc
open Go

/-! ### Rows of truths -/
def brow (n : Nat) (f : Nat → Bool) : List Value := (List.range n).map fun j => .bool (f j)
@[simp] theorem length_brow (n : Nat) (f : Nat → Bool) : (brow n f).length = n := by simp [brow]
theorem brow_get {n : Nat} {f : Nat → Bool} {j : Nat} (hj : j < n) : (brow n f)[j]? = some (.bool (f j)) := by simp [brow, hj]
theorem brow_congr {n : Nat} {f g : Nat → Bool} (h : ∀ j, j < n → f j = g j) : brow n f = brow n g := by
  apply List.ext_getElem?; intro j
  by_cases hj : j < n
  · rw [brow_get hj, brow_get hj, h j hj]
  · simp [brow, hj]
theorem brow_set {n : Nat} {f : Nat → Bool} {j : Nat} {v : Bool} : (brow n f).set j (.bool v) = brow n fun k => if k = j then v else f k := by
  apply List.ext_getElem?; intro k
  by_cases hk : k < n
  · rw [brow_get hk, List.getElem?_set]
    by_cases hj : j = k
    · subst hj; simp [hk]
    · rw [if_neg hj, brow_get hk, if_neg (fun h => hj h.symm)]
  · rw [List.getElem?_eq_none (by simp; omega), List.getElem?_eq_none (by simp; omega)]
theorem brow_false (n : Nat) : List.replicate n (Value.bool false) = brow n fun _ => false := by
  apply List.ext_getElem?; intro k
  by_cases hk : k < n
  · rw [brow_get hk]; simp [hk]
  · simp [brow, hk]

/-- A slice value with n elements at block b from its first cell on. -/
abbrev sl (b n c : Nat) : Value := .slice (some ⟨b, 0, none⟩) n c

/-- The list of the rows' slices. -/
def rowsV (n : Nat) (R : Nat → Nat) (k : Nat) : List Value := (List.range k).map fun i => sl (R i) n n
@[simp] theorem length_rowsV (n : Nat) (R : Nat → Nat) (k : Nat) : (rowsV n R k).length = k := by simp [rowsV]
theorem rowsV_get {n : Nat} {R : Nat → Nat} {k i : Nat} (hi : i < k) : (rowsV n R k)[i]? = some (sl (R i) n n) := by simp [rowsV, hi]
theorem rowsV_succ (n : Nat) (R : Nat → Nat) (k : Nat) : rowsV n R (k + 1) = rowsV n R k ++ [sl (R k) n n] := by simp [rowsV, List.range_succ]
theorem rowsV_congr {n k : Nat} {R S : Nat → Nat} (h : ∀ i, i < k → R i = S i) : rowsV n R k = rowsV n S k := by
  unfold rowsV; apply List.map_congr_left; intro i hi; rw [h i (List.mem_range.1 hi)]

/-- The table of a reference's relation: k rows of n truths. -/
structure Tab (h : Heap) (lo hi : Nat) (s : Value) (n k : Nat) (R : Nat → Nat) (M : Nat → Nat → Bool) : Prop where
  own : Holder 1 h s k (rowsV n R k) lo
  top : bh s ≤ hi
  row : ∀ i, i < k → Rw h (R i) (brow n (M i)) ∧ lo ≤ R i ∧ R i < hi ∧ R i ≠ bl s
  inj : ∀ i j, i < k → j < k → R i = R j → i = j

theorem Tab.fr {h h' : Heap} {lo hi l r : Nat} {s : Value} {n k : Nat} {R : Nat → Nat} {M : Nat → Nat → Bool} (t : Tab h lo hi s n k R M) (f : Fr l r h h') (hd : hi ≤ l ∨ r ≤ lo ∨ r ≤ l) : Tab h' lo hi s n k R M := by
  refine ⟨t.own.fr f ?_, t.top, fun i hi => ?_, t.inj⟩
  · have := t.own.at_; have := t.top; omega
  · obtain ⟨h1, h2, h3, h4⟩ := t.row i hi; exact ⟨h1.fr f (by omega), h2, h3, h4⟩
theorem Tab.mono {h : Heap} {lo hi lo' hi' : Nat} {s : Value} {n k : Nat} {R : Nat → Nat} {M : Nat → Nat → Bool} (t : Tab h lo hi s n k R M) (h1 : lo' ≤ lo) (h2 : hi ≤ hi') : Tab h lo' hi' s n k R M := by
  refine ⟨⟨t.own.1, ?_⟩, Nat.le_trans t.top h2, fun i hi => ?_, t.inj⟩
  · rcases t.own.2 with h | ⟨b, c, rest, h3, h4, h5, h6⟩
    · exact .inl h
    · exact .inr ⟨b, c, rest, h3, h4, h5, by omega⟩
  · obtain ⟨h1, h2, h3, h4⟩ := t.row i hi; exact ⟨h1, by omega, by omega, h4⟩
theorem Tab.congr {h : Heap} {lo hi : Nat} {s : Value} {n k : Nat} {R : Nat → Nat} {M M' : Nat → Nat → Bool} (t : Tab h lo hi s n k R M) (he : ∀ i j, i < k → j < n → M i j = M' i j) : Tab h lo hi s n k R M' :=
  ⟨t.own, t.top, fun i hi => by obtain ⟨h1, h2⟩ := t.row i hi; exact ⟨by rw [← brow_congr (he i · hi)]; exact h1, h2⟩, t.inj⟩

/-- A relation of the document. -/
def RefAt (h : Heap) (lo hi : Nat) (v : Value) (n : Nat) (M : Nat → Nat → Bool) : Prop :=
  n ≤ 256 ∧ ∃ s R, v = .agg #[.int .i64 n, s] ∧ Tab h lo hi s n n R M
theorem RefAt.fr {h h' : Heap} {lo hi l r : Nat} {v : Value} {n : Nat} {M : Nat → Nat → Bool} (t : RefAt h lo hi v n M) (f : Fr l r h h') (hd : hi ≤ l ∨ r ≤ lo ∨ r ≤ l) : RefAt h' lo hi v n M := by
  obtain ⟨hn, s, R, hv, ht⟩ := t; exact ⟨hn, s, R, hv, ht.fr f hd⟩
theorem RefAt.mono {h : Heap} {lo hi lo' hi' : Nat} {v : Value} {n : Nat} {M : Nat → Nat → Bool} (t : RefAt h lo hi v n M) (h1 : lo' ≤ lo) (h2 : hi ≤ hi') : RefAt h lo' hi' v n M := by
  obtain ⟨hn, s, R, hv, ht⟩ := t; exact ⟨hn, s, R, hv, ht.mono h1 h2⟩
theorem RefAt.congr {h : Heap} {lo hi : Nat} {v : Value} {n : Nat} {M M' : Nat → Nat → Bool} (t : RefAt h lo hi v n M) (he : ∀ i j, i < n → j < n → M i j = M' i j) : RefAt h lo hi v n M' := by
  obtain ⟨hn, s, R, hv, ht⟩ := t; exact ⟨hn, s, R, hv, ht.congr he⟩
/-- A row's slice, read. -/
theorem Tab.idx {h : Heap} {lo hi : Nat} {a : Option Addr} {c n k : Nat} {R : Nat → Nat} {M : Nat → Nat → Bool} {K : Nat → Nat → Prop} {d : Dep K} (t : Tab h lo hi (.slice a k c) n k R M) {p : Nat} (hp : p < k)
    (hk : ∀ b o, hcell h b (o + p) = some (sl (R p) n n) → K b o) : withAd a K d :=
  t.own.rd.idx (by omega) fun b o hc => hk b o (hc p _ (rowsV_get hp))
theorem Tab.cell {h : Heap} {lo hi : Nat} {s : Value} {n k : Nat} {R : Nat → Nat} {M : Nat → Nat → Bool} (t : Tab h lo hi s n k R M) {p q : Nat} (hp : p < k) (hq : q < n) : hcell h (R p) q = some (.bool (M p q)) := by
  rw [(t.row p hp).1.cell, brow_get hq]
theorem Tab.wr {h : Heap} {lo hi : Nat} {s : Value} {n k : Nat} {R : Nat → Nat} {M : Nat → Nat → Bool} (t : Tab h lo hi s n k R M) {p q : Nat} (hp : p < k) (hq : q < n) : Wr h (R p) q 1 :=
  (t.row p hp).1.wr (by simp; omega)
/-- A truth written. -/
theorem Tab.set {h h' : Heap} {lo hi : Nat} {s : Value} {n k : Nat} {R : Nat → Nat} {M : Nat → Nat → Bool} (t : Tab h lo hi s n k R M) {p q : Nat} {v : Bool} (hp : p < k) (st : Sto h h' (R p) q [.bool v]) :
    Tab h' lo hi s n k R fun i j => if i = p ∧ j = q then v else M i j := by
  have w := t.own.at_
  have hr := (t.row p hp).2.2.2
  refine ⟨t.own.fr st.fr (by omega), t.top, fun i hi => ?_, t.inj⟩
  obtain ⟨h1, h2, h3, h4⟩ := t.row i hi
  by_cases hip : i = p
  · subst hip
    have := st.row h1
    rw [putAt_one, brow_set] at this
    refine ⟨?_, h2, h3, h4⟩
    simpa using this
  · have hne : R i ≠ R p := fun he => hip (t.inj i p hi hp he)
    refine ⟨?_, h2, h3, h4⟩
    have := st.rw h1 hne
    simpa [hip] using this
end Go.Vc
/-
  Vectors of cells; what Glue answers.
-/
namespace Go.Vc
open Go
theorem Holder.top {s : Nat} {h : Heap} {v : Value} {n : Nat} {xs : List Value} {lo : Nat} (w : Holder s h v n xs lo) : bh v ≤ h.size := by
  have := w.at_; omega
def upd {α : Type} (f : Nat → α) (p : Nat) (v : α) : Nat → α := fun q => if q = p then v else f q
theorem upd_same {α : Type} (f : Nat → α) (p : Nat) (v : α) : upd f p v p = v := by simp [upd]
theorem upd_ne {α : Type} (f : Nat → α) {p q : Nat} (v : α) (h : q ≠ p) : upd f p v q = f q := by simp [upd, h]
/-- Integers in cells, by place. -/
def ivec (n : Nat) (c : Nat → Int) : List Value := (List.range n).map fun p => Value.int .i64 (c p)
@[simp] theorem length_ivec (n : Nat) (c : Nat → Int) : (ivec n c).length = n := by simp [ivec]
theorem ivec_get {n : Nat} {c : Nat → Int} {p : Nat} (hp : p < n) : (ivec n c)[p]? = some (.int .i64 (c p)) := by simp [ivec, hp]
theorem ivec_congr {n : Nat} {c d : Nat → Int} (h : ∀ p, p < n → c p = d p) : ivec n c = ivec n d := by
  unfold ivec; apply List.map_congr_left; intro i hi; rw [h i (List.mem_range.1 hi)]
theorem ivec_set {n : Nat} {c : Nat → Int} {p : Nat} {x : Int} : (ivec n c).set p (.int .i64 x) = ivec n (upd c p x) := by
  apply List.ext_getElem?; intro k
  by_cases hk : k < n
  · rw [ivec_get hk, List.getElem?_set]
    by_cases hj : p = k
    · subst hj; simp [hk, upd]
    · rw [if_neg hj, ivec_get hk, upd_ne _ _ (fun h => hj h.symm)]
  · rw [List.getElem?_eq_none (by simp; omega), List.getElem?_eq_none (by simp; omega)]
theorem ivec_rep (n : Nat) (x : Int) : List.replicate n (Value.int .i64 x) = ivec n fun _ => x := by
  apply List.ext_getElem?; intro k
  by_cases hk : k < n
  · rw [ivec_get hk]; simp [hk]
  · rw [List.getElem?_eq_none (by simp; omega), List.getElem?_eq_none (by simp; omega)]

theorem brow_upd {n : Nat} {f : Nat → Bool} {j : Nat} {v : Bool} : (brow n f).set j (.bool v) = brow n (upd f j v) := brow_set

theorem neg_ge0 : ((-1 : Int) ≥ 0) = False := by simp
theorem neg_lt0 : ((-1 : Int) < 0) = True := by simp
theorem nat_ge0 (x : Nat) : ((x : Int) ≥ 0) = True := by simp
theorem nat_lt0 (x : Nat) : ((x : Int) < 0) = False := by simp
attribute [go_sem] nx_some nx_none neg_ge0 neg_lt0 nat_ge0 nat_lt0

/-! ### Glue -/
def badP (n : Nat) (U : Nat → Bool) (p : Int × Int) : Prop := p.1 < 0 ∨ p.1 ≥ (n : Int) ∨ p.2 < 0 ∨ p.2 ≥ (n : Int) ∨ p.1 = p.2 ∨ U p.1.toNat = true ∨ U p.2.toNat = true
instance (n : Nat) (U : Nat → Bool) (p : Int × Int) : Decidable (badP n U p) := by unfold badP; infer_instance
/-- Of the pairs: for each point the first of its unit, and its second, -1 for none. -/
def glueIn (n : Nat) : List (Int × Int) → (Nat → Bool) → (Nat → Nat) → (Nat → Int) → Option ((Nat → Nat) × (Nat → Int))
  | [], _, F, S => some (F, S)
  | p :: l, U, F, S => if badP n U p then none else glueIn n l (upd (upd U p.1.toNat true) p.2.toNat true) (upd F p.2.toNat p.1.toNat) (upd S p.1.toNat p.2)
def glueFS (n : Nat) (l : List (Int × Int)) : Option ((Nat → Nat) × (Nat → Int)) := glueIn n l (fun _ => false) (fun p => p) (fun _ => -1)

structure GluI (n : Nat) (U : Nat → Bool) (F : Nat → Nat) (S : Nat → Int) : Prop where
  lt : ∀ p, p < n → F p < n
  free : ∀ p, p < n → U p = false → F p = p ∧ S p = -1
  snd : ∀ p, p < n → S p = -1 ∨ ∃ q, q < n ∧ S p = (q : Int) ∧ q ≠ p ∧ F q = p ∧ F p = p
  fst : ∀ q, q < n → F q ≠ q → S (F q) = (q : Int) ∧ F (F q) = F q
theorem GluI.start (n : Nat) : GluI n (fun _ => false) (fun p => p) (fun _ => -1) :=
  ⟨fun _ h => h, fun _ _ _ => ⟨rfl, rfl⟩, fun _ _ => .inl rfl, fun _ _ h => absurd rfl h⟩
theorem GluI.step {n : Nat} {U : Nat → Bool} {F : Nat → Nat} {S : Nat → Int} (g : GluI n U F S) {a b : Nat} (ha : a < n) (hb : b < n) (hab : a ≠ b) (ua : U a = false) (ub : U b = false) :
    GluI n (upd (upd U a true) b true) (upd F b a) (upd S a (b : Int)) := by
  have fa := g.free a ha ua
  have fb := g.free b hb ub
  refine ⟨fun p hp => ?_, fun p hp hu => ?_, fun p hp => ?_, fun q hq hF => ?_⟩
  · by_cases h : p = b
    · subst h; rw [upd_same]; exact ha
    · rw [upd_ne _ _ h]; exact g.lt p hp
  · by_cases h : p = b
    · subst h; rw [upd_same] at hu; cases hu
    · rw [upd_ne _ _ h] at hu ⊢
      by_cases h' : p = a
      · subst h'; rw [upd_same] at hu; cases hu
      · rw [upd_ne _ _ h'] at hu ⊢; exact g.free p hp hu
  · by_cases h : p = a
    · subst h; rw [upd_same]
      exact .inr ⟨b, hb, rfl, Ne.symm hab, by rw [upd_same], by rw [upd_ne _ _ hab]; exact fa.1⟩
    · rw [upd_ne _ _ h]
      rcases g.snd p hp with h1 | ⟨q, h1, h2, h3, h4, h5⟩
      · exact .inl h1
      · by_cases hqb : q = b
        · subst hqb; rw [fb.1] at h4; exact absurd h4 h3
        · refine .inr ⟨q, h1, h2, h3, by rw [upd_ne _ _ hqb]; exact h4, ?_⟩
          by_cases hpb : p = b
          · subst hpb; rw [fb.2] at h2; omega
          · rw [upd_ne _ _ hpb]; exact h5
  · by_cases h : q = b
    · subst h; rw [upd_same] at hF ⊢
      rw [upd_same, upd_ne _ _ hab]; exact ⟨rfl, fa.1⟩
    · rw [upd_ne _ _ h] at hF ⊢
      obtain ⟨h1, h2⟩ := g.fst q hq hF
      have hFb : F q ≠ b := fun e => by rw [e, fb.2] at h1; omega
      have hFa : F q ≠ a := fun e => by rw [e, fa.2] at h1; omega
      rw [upd_ne _ _ hFa, upd_ne _ _ hFb]; exact ⟨h1, h2⟩
/-- The relation between the units. -/
def glueM (n : Nat) (M : Nat → Nat → Bool) (F : Nat → Nat) (S : Nat → Int) (x y : Nat) : Bool :=
  (List.range n).any fun p => (List.range n).any fun q => M p q && !(S p == (q : Int)) && F p == x && F q == y
theorem glueM_true {n : Nat} {M : Nat → Nat → Bool} {F : Nat → Nat} {S : Nat → Int} {x y : Nat} : glueM n M F S x y = true ↔ ∃ p, p < n ∧ ∃ q, q < n ∧ M p q = true ∧ S p ≠ (q : Int) ∧ F p = x ∧ F q = y := by
  simp only [glueM, List.any_eq_true, List.mem_range, Bool.and_eq_true, Bool.not_eq_true', beq_eq_false_iff_ne, beq_iff_eq, and_assoc, ne_eq]
theorem lf_and (f g : Nat → Bool) (n : Nat) : ∀ (d q : Nat), n - q = d → (lf f n q = none → lf (fun p => g p && f p) n q = none) ∧ ∀ x, lf f n q = some x → (g x = true → lf (fun p => g p && f p) n q = some x) ∧ (g x = false → lf (fun p => g p && f p) n q = lf (fun p => g p && f p) n (x + 1))
  | 0, q, h => by
    rw [lf_end f (by omega), lf_end (fun p => g p && f p) (by omega)]
    exact ⟨fun _ => rfl, fun x h => by cases h⟩
  | d + 1, q, h => by
    have ih := lf_and f g n d (q + 1) (by omega)
    rw [lf_step f (by omega), lf_step (fun p => g p && f p) (q := q) (by omega)]
    cases hf : f q with
    | false => simp; exact ih
    | true =>
      simp
      cases hg : g q with
      | true => simp
      | false => simp
/-- What of the units is placed stays together. -/
theorem GluI.keep {n : Nat} {U : Nat → Bool} {F : Nat → Nat} {S : Nat → Int} (g : GluI n U F S) {m : List Nat} {x : Nat} (hx : x < n) (hm : ∀ q, q < n → F q ≠ q → m.contains q = m.contains (F q)) (hF : F x = x) :
    ∀ q, q < n → F q ≠ q → (if S x ≥ 0 then m ++ [x] ++ [(S x).toNat] else m ++ [x]).contains q = (if S x ≥ 0 then m ++ [x] ++ [(S x).toNat] else m ++ [x]).contains (F q) := by
  intro q hq hFq
  have h0 := hm q hq hFq
  obtain ⟨h1, h2⟩ := g.fst q hq hFq
  have hqx : q ≠ x := by rintro rfl; exact hFq hF
  rcases g.snd x hx with hs | ⟨y, hy, hs, hyx, hyF, hxF⟩
  · rw [hs, if_neg (by decide)]
    have : F q ≠ x := fun e => by rw [e, hs] at h1; omega
    simp only [List.contains_append, List.contains_cons, List.contains_nil, Bool.or_false]
    rw [h0, beq_eq_false_iff_ne.2 hqx, beq_eq_false_iff_ne.2 this]
  · rw [hs, if_pos (by omega), Int.toNat_natCast]
    simp only [List.contains_append, List.contains_cons, List.contains_nil, Bool.or_false]
    by_cases hqy : q = y
    · subst hqy; rw [hyF]; simp
    · have h3 : F q ≠ x := fun e => by rw [e, hs] at h1; omega
      have h4 : F q ≠ y := fun e => by rw [e] at h2; rw [hyF] at h2; exact hyx h2.symm
      rw [h0, beq_eq_false_iff_ne.2 hqx, beq_eq_false_iff_ne.2 h3, beq_eq_false_iff_ne.2 hqy, beq_eq_false_iff_ne.2 h4]
end Go.Vc
namespace Go.Proofs.Tst
open Go Go.Vc
def clampN (n : Int) : Nat := min n.toNat 256
theorem ref1_New (n : Int) (h : Heap) : Con Tryd.prog 64 #[.int .i64 n] h fun v h' => Fr 0 0 h h' ∧ RefAt h' h.size h'.size v (clampN n) (fun _ _ => false) := by
  refine con_ref1_New ?_
  simp -dsimp only [go_sem, ↓reduceIte, reduceCtorEq, Nat.reduceEqDiff, Nat.reduceAdd, Nat.reduceLeDiff, Nat.reduceMul, Int.reduceBEq, Int.reduceBNe, Int.reduceLT, Int.reduceLE, Int.reduceGT, Int.reduceGE]
  intro b1 h1 n1
  simp -dsimp only [go_sem, ↓reduceIte, reduceCtorEq, Nat.reduceEqDiff, Nat.reduceAdd, Nat.reduceLeDiff, Nat.reduceMul, Int.reduceBEq, Int.reduceBNe, Int.reduceLT, Int.reduceLE, Int.reduceGT, Int.reduceGE]
  refine If_joint (fun m : Int => [(0, .int .i64 m), (2, .pointer (some ⟨b1, 0, none⟩))]) (fun m h' => h' = h1 ∧ m = max n 0) (fun hn => ?_) (fun hn => ?_) ?_
  · simp -dsimp only [go_sem, ↓reduceIte, reduceCtorEq, Nat.reduceEqDiff, Nat.reduceAdd, Nat.reduceLeDiff, Nat.reduceMul, Int.reduceBEq, Int.reduceBNe, Int.reduceLT, Int.reduceLE, Int.reduceGT, Int.reduceGE]; exact ⟨0, by simp [Le, find], by omega⟩
  · simp -dsimp only [go_sem, ↓reduceIte, reduceCtorEq, Nat.reduceEqDiff, Nat.reduceAdd, Nat.reduceLeDiff, Nat.reduceMul, Int.reduceBEq, Int.reduceBNe, Int.reduceLT, Int.reduceLE, Int.reduceGT, Int.reduceGE]; exact ⟨n, by simp [Le, find], by omega⟩
  rintro m hh ⟨rfl, hm⟩ e ⟨e0, e2, -⟩
  simp -dsimp only [go_sem, ↓reduceIte, reduceCtorEq, Nat.reduceEqDiff, Nat.reduceAdd, Nat.reduceLeDiff, Nat.reduceMul, Int.reduceBEq, Int.reduceBNe, Int.reduceLT, Int.reduceLE, Int.reduceGT, Int.reduceGE, e0, e2]
  refine If_joint (fun m : Int => [(0, .int .i64 m), (2, .pointer (some ⟨b1, 0, none⟩))]) (fun m h' => h' = hh ∧ m = (clampN n : Int)) (fun hn => ?_) (fun hn => ?_) ?_
  · simp -dsimp only [go_sem, ↓reduceIte, reduceCtorEq, Nat.reduceEqDiff, Nat.reduceAdd, Nat.reduceLeDiff, Nat.reduceMul, Int.reduceBEq, Int.reduceBNe, Int.reduceLT, Int.reduceLE, Int.reduceGT, Int.reduceGE, e0, e2]; exact ⟨256, by simp [Le, find], by unfold clampN; omega⟩
  · simp -dsimp only [go_sem, ↓reduceIte, reduceCtorEq, Nat.reduceEqDiff, Nat.reduceAdd, Nat.reduceLeDiff, Nat.reduceMul, Int.reduceBEq, Int.reduceBNe, Int.reduceLT, Int.reduceLE, Int.reduceGT, Int.reduceGE, e0, e2]; exact ⟨m, by simp [Le, find], by unfold clampN; omega⟩
  rintro _ h1 ⟨rfl, rfl⟩ e ⟨e0, e2, -⟩
  have hc : clampN n ≤ 256 := by unfold clampN; omega
  generalize clampN n = k at *
  simp -dsimp only [go_sem, ↓reduceIte, reduceCtorEq, Nat.reduceEqDiff, Nat.reduceAdd, Nat.reduceLeDiff, Nat.reduceMul, Int.reduceBEq, Int.reduceBNe, Int.reduceLT, Int.reduceLE, Int.reduceGT, Int.reduceGE, e0, e2]
  intro b2 h2 n2
  simp -dsimp only [go_sem, ↓reduceIte, reduceCtorEq, Nat.reduceEqDiff, Nat.reduceAdd, Nat.reduceLeDiff, Nat.reduceMul, Int.reduceBEq, Int.reduceBNe, Int.reduceLT, Int.reduceLE, Int.reduceGT, Int.reduceGE, e0, e2]
  refine ⟨n2.row.wr (by simp), fun h3 s3 => ?_⟩
  have r1 := ((n2.rw n1.row).fr s3.fr (by have := n1.row.lt; have := n2.at_; omega))
  have r2 := s3.row n2.row
  have z1 := n1.size; have z2 := n2.size; have z3 := s3.size; have a1 := n1.at_; have a2 := n2.at_
  have p3 : Fr 0 0 h h3 := ((n1.fr (lo := 0) (hi := 0)).trans n2.fr).fresh s3.fr (by omega)
  simp -dsimp only [go_sem, ↓reduceIte, reduceCtorEq, Nat.reduceEqDiff, Nat.reduceAdd, Nat.reduceLeDiff, Nat.reduceMul, Int.reduceBEq, Int.reduceBNe, Int.reduceLT, Int.reduceLE, Int.reduceGT, Int.reduceGE] at r2
  simp -dsimp only [go_sem, ↓reduceIte, reduceCtorEq, Nat.reduceEqDiff, Nat.reduceAdd, Nat.reduceLeDiff, Nat.reduceMul, Int.reduceBEq, Int.reduceBNe, Int.reduceLT, Int.reduceLE, Int.reduceGT, Int.reduceGE, e0, e2]
  refine loop_intro (fun s : Nat × Value => [(0, .int .i64 k), (2, .pointer (some ⟨b1, 0, none⟩)), (3, .pointer (some ⟨b2, 0, none⟩)), (4, .int .i64 s.1)])
    (fun s h' => s.1 ≤ k ∧ Fr 0 0 h h' ∧ Rw h' b1 [.int .i64 0, .slice none 0 0] ∧ Rw h' b2 [.int .i64 k, s.2] ∧ ∃ R, Tab h' (b2 + 1) h'.size s.2 k s.1 R fun _ _ => false)
    (fun s => k - s.1) (0, .slice none 0 0) ?_ ?_ ?_
  · simp [Le, find]
  · exact ⟨by omega, p3, r1, r2, fun _ => 0, .none _ _ _, Nat.zero_le _, by simp, by simp⟩
  rintro ⟨i, v⟩ h4 ⟨hi, p4, r1, r2, R, t4⟩
  dsimp only at hi p4 r1 r2 t4 ⊢
  simp -dsimp only [go_sem, ↓reduceIte, reduceCtorEq, Nat.reduceEqDiff, Nat.reduceAdd, Nat.reduceLeDiff, Nat.reduceMul, Int.reduceBEq, Int.reduceBNe, Int.reduceLT, Int.reduceLE, Int.reduceGT, Int.reduceGE]
  refine ⟨fun hlt => ?_, fun hge => ?_⟩
  · have hlt : i < k := by omega
    have q1 := r1.lt
    have q2 := r2.lt
    simp -dsimp only [go_sem, ↓reduceIte, reduceCtorEq, Nat.reduceEqDiff, Nat.reduceAdd, Nat.reduceLeDiff, Nat.reduceMul, Int.reduceBEq, Int.reduceBNe, Int.reduceLT, Int.reduceLE, Int.reduceGT, Int.reduceGE, r2.cell, withV_some]
    obtain ⟨a, c, rfl⟩ := t4.own.is
    refine Chk_intro (by omega) ?_
    intro b5 h5 n5
    simp -dsimp only [go_sem, ↓reduceIte, reduceCtorEq, Nat.reduceEqDiff, Nat.reduceAdd, Nat.reduceLeDiff, Nat.reduceMul, Int.reduceBEq, Int.reduceBNe, Int.reduceLT, Int.reduceLE, Int.reduceGT, Int.reduceGE]
    intro b6 h6 n6
    have z5 := n5.size; have z6 := n6.size; have a5 := n5.at_; have a6 := n6.at_
    have t6 := (t4.fr (n5.fr (lo := 0) (hi := 0)) (by omega)).fr (n6.fr (lo := 0) (hi := 0)) (by omega)
    simp -dsimp only [go_sem, ↓reduceIte, reduceCtorEq, Nat.reduceEqDiff, Nat.reduceAdd, Nat.reduceLeDiff, Nat.reduceMul, Int.reduceBEq, Int.reduceBNe, Int.reduceLT, Int.reduceLE, Int.reduceGT, Int.reduceGE, n6.row.cell]
    refine t6.own.append (by omega) rfl (by omega) (by simp) (by omega) fun v7 h7 o7 f7 e7 => ?_
    obtain ⟨a7, c7, rfl⟩ := o7.is
    have w6 := t6.own.at_
    have w4 := t4.own.at_
    have r7 := ((r2.fr (n5.fr (lo := 0) (hi := 0)) (by omega)).fr (n6.fr (lo := 0) (hi := 0)) (by omega)).fr f7 (by omega)
    have r71 := ((r1.fr (n5.fr (lo := 0) (hi := 0)) (by omega)).fr (n6.fr (lo := 0) (hi := 0)) (by omega)).fr f7 (by omega)
    have p7 : Fr 0 0 h h7 := ((p4.trans n5.fr).trans n6.fr).fresh f7 (by have := p4.size; omega)
    simp -dsimp only [go_sem, ↓reduceIte, reduceCtorEq, Nat.reduceEqDiff, Nat.reduceAdd, Nat.reduceLeDiff, Nat.reduceMul, Int.reduceBEq, Int.reduceBNe, Int.reduceLT, Int.reduceLE, Int.reduceGT, Int.reduceGE]
    refine ⟨r7.wr (by simp), fun h8 s8 => ?_⟩
    have r8 := s8.row r7
    have r81 := s8.rw r71 (by omega)
    have p8 := p7.fresh s8.fr (by have := p4.size; have := n1.size; omega)
    simp -dsimp only [go_sem, ↓reduceIte, reduceCtorEq, Nat.reduceEqDiff, Nat.reduceAdd, Nat.reduceLeDiff, Nat.reduceMul, Int.reduceBEq, Int.reduceBNe, Int.reduceLT, Int.reduceLE, Int.reduceGT, Int.reduceGE] at r8
    simp -dsimp only [go_sem, ↓reduceIte, reduceCtorEq, Nat.reduceEqDiff, Nat.reduceAdd, Nat.reduceLeDiff, Nat.reduceMul, Int.reduceBEq, Int.reduceBNe, Int.reduceLT, Int.reduceLE, Int.reduceGT, Int.reduceGE]
    simp -dsimp (disch := omega) only [wrap64]
    have z8 := s8.size; have w7 := o7.at_; have g7 := f7.size
    refine ⟨(i + 1, .slice a7 (i + 1) c7), by dsimp only; omega, by simp [Le, find], by dsimp only; omega, p8, r81, r8, fun x => if x = i then b5 else R x, ?_, ?_, ?_, ?_⟩
    · rw [rowsV_succ]
      have o8 := o7.fr s8.fr (by have := o7.at_; omega)
      rw [rowsV_congr (S := R) (fun x hx => if_neg (by omega))]
      simpa [sl] using o8
    · dsimp only; omega
    · intro x hx
      dsimp only at hx ⊢
      by_cases hxi : x = i
      · subst hxi
        simp only [if_true]
        have := n5.row
        rw [zeros_one, Int.toNat_natCast, brow_false] at this
        refine ⟨((this.fr (n6.fr (lo := 0) (hi := 0)) (by omega)).fr f7 ?_).fr s8.fr (by omega), by omega, by have := f7.size; omega, ?_⟩
        · omega
        · omega
      · simp only [hxi, if_false]
        obtain ⟨g1, g2, g3, g4⟩ := t6.row x (by omega)
        refine ⟨(g1.fr f7 (by omega)).fr s8.fr (by omega), g2, by have := f7.size; omega, by omega⟩
    · intro x z hx hz
      have gx : x < i → R x < b5 := fun h => by have := (t4.row x h).2.2.1; omega
      have gz : z < i → R z < b5 := fun h => by have := (t4.row z h).2.2.1; omega
      split <;> split <;> intro he
      · omega
      · have := gz (by omega); omega
      · have := gx (by omega); omega
      · exact t4.inj x z (by omega) (by omega) he
  · obtain ⟨a, c, rfl⟩ := t4.own.is
    simp -dsimp only [go_sem, ↓reduceIte, reduceCtorEq, Nat.reduceEqDiff, Nat.reduceAdd, Nat.reduceLeDiff, Nat.reduceMul, Int.reduceBEq, Int.reduceBNe, Int.reduceLT, Int.reduceLE, Int.reduceGT, Int.reduceGE, r2.cell]
    have q1 := r1.lt
    refine ⟨r1.wr (by simp), fun h5 s5 => ?_⟩
    have r5 := s5.row r1
    have w4 := t4.own.at_
    simp -dsimp only [go_sem, ↓reduceIte, reduceCtorEq, Nat.reduceEqDiff, Nat.reduceAdd, Nat.reduceLeDiff, Nat.reduceMul, Int.reduceBEq, Int.reduceBNe, Int.reduceLT, Int.reduceLE, Int.reduceGT, Int.reduceGE] at r5
    simp -dsimp only [go_sem, ↓reduceIte, reduceCtorEq, Nat.reduceEqDiff, Nat.reduceAdd, Nat.reduceLeDiff, Nat.reduceMul, Int.reduceBEq, Int.reduceBNe, Int.reduceLT, Int.reduceLE, Int.reduceGT, Int.reduceGE, r5.cell]
    have hik : i = k := by omega
    subst hik
    have hs := n1.size
    exact ⟨p4.fresh s5.fr (by omega), hc, _, R, rfl, by rw [s5.size]; exact (t4.fr s5.fr (by omega)).mono (by omega) (by omega)⟩
end Go.Proofs.Tst
namespace Go.Proofs.Tst
open Go Go.Vc
/-- Is a number a point? -/
def inR (n a : Int) : Bool := decide (0 ≤ a ∧ a < n)
theorem ref1_in (n a : Int) (s : Value) (h : Heap) : Con Tryd.prog 71 #[.agg #[.int .i64 n, s], .int .i64 a] h fun v h' => Fr 0 0 h h' ∧ v = .bool (inR n a) := by
  unfold inR
  refine con_ref1_in ?_
  simp -dsimp only [go_sem, ↓reduceIte, reduceCtorEq, Nat.reduceEqDiff, Nat.reduceAdd, Nat.reduceLeDiff, Nat.reduceMul, Int.reduceBEq, Int.reduceBNe, Int.reduceLT, Int.reduceLE, Int.reduceGT, Int.reduceGE]
  intro b1 h1 n1
  simp -dsimp only [go_sem, ↓reduceIte, reduceCtorEq, Nat.reduceEqDiff, Nat.reduceAdd, Nat.reduceLeDiff, Nat.reduceMul, Int.reduceBEq, Int.reduceBNe, Int.reduceLT, Int.reduceLE, Int.reduceGT, Int.reduceGE]
  refine ⟨fun ha => ?_, fun ha => ?_⟩
  · have r1 := n1.row
    simp -dsimp only [go_sem, ↓reduceIte, reduceCtorEq, Nat.reduceEqDiff, Nat.reduceAdd, Nat.reduceLeDiff, Nat.reduceMul, Int.reduceBEq, Int.reduceBNe, Int.reduceLT, Int.reduceLE, Int.reduceGT, Int.reduceGE, r1.cell, ha]
    exact n1.fr
  · simp -dsimp only [go_sem, ↓reduceIte, reduceCtorEq, Nat.reduceEqDiff, Nat.reduceAdd, Nat.reduceLeDiff, Nat.reduceMul, Int.reduceBEq, Int.reduceBNe, Int.reduceLT, Int.reduceLE, Int.reduceGT, Int.reduceGE, ha]
    exact ⟨n1.fr, by simp⟩

/-- The pairs that a list lays into n points. -/
def ofM (n : Nat) (l : List (Int × Int)) (i j : Nat) : Bool := l.any fun p => inR n p.1 && inR n p.2 && p.1 == i && p.2 == j

theorem ofM_take {n : Nat} {l : List (Int × Int)} {i : Nat} {p : Int × Int} (hp : l[i]? = some p) (x y : Nat) : ofM n (l.take (i + 1)) x y = (ofM n (l.take i) x y || (inR n p.1 && inR n p.2 && p.1 == x && p.2 == y)) := by
  simp only [ofM, List.take_add_one, hp, Option.toList_some, List.any_append, List.any_cons, List.any_nil, Bool.or_false]
theorem ref1_Of (n : Int) (lv : Value) (l : List (Int × Int)) (h : Heap) (hl : Rd 2 h lv l.length (pairsV l)) (hb : l.length ≤ 4611686018427387904) :
    Con Tryd.prog 15 #[.int .i64 n, lv] h fun v h' => Fr 0 0 h h' ∧ RefAt h' h.size h'.size v (clampN n) (ofM (clampN n) l) := by
  refine con_ref1_Of ?_
  obtain ⟨a, c, rfl⟩ := hl.is
  simp -dsimp only [go_sem, ↓reduceIte, reduceCtorEq, Nat.reduceEqDiff, Nat.reduceAdd, Nat.reduceLeDiff, Nat.reduceMul, Int.reduceBEq, Int.reduceBNe, Int.reduceLT, Int.reduceLE, Int.reduceGT, Int.reduceGE]
  intro b1 h1 n1
  simp -dsimp only [go_sem, ↓reduceIte, reduceCtorEq, Nat.reduceEqDiff, Nat.reduceAdd, Nat.reduceLeDiff, Nat.reduceMul, Int.reduceBEq, Int.reduceBNe, Int.reduceLT, Int.reduceLE, Int.reduceGT, Int.reduceGE]
  refine call_of (ref1_New n h1) ?_
  rintro v h2 ⟨f2, hc, s, R, rfl, t2⟩
  obtain ⟨sa, sc, rfl⟩ := t2.own.is
  simp -dsimp only [go_sem, ↓reduceIte, reduceCtorEq, Nat.reduceEqDiff, Nat.reduceAdd, Nat.reduceLeDiff, Nat.reduceMul, Int.reduceBEq, Int.reduceBNe, Int.reduceLT, Int.reduceLE, Int.reduceGT, Int.reduceGE]
  intro b3 h3 n3
  simp -dsimp only [go_sem, ↓reduceIte, reduceCtorEq, Nat.reduceEqDiff, Nat.reduceAdd, Nat.reduceLeDiff, Nat.reduceMul, Int.reduceBEq, Int.reduceBNe, Int.reduceLT, Int.reduceLE, Int.reduceGT, Int.reduceGE]
  refine ⟨n3.row.wr (by simp), fun h4 s4 => ?_⟩
  have r1 := (((n1.row.fr f2 (by omega)).fr (n3.fr (lo := 0) (hi := 0)) (by omega)).fr s4.fr (by have := n1.row.lt; have := f2.size; have := n3.at_; omega))
  have r3 := s4.row n3.row
  have z1 := n1.size; have z2 := f2.size; have z3 := n3.size; have z4 := s4.size; have a1 := n1.at_; have a3 := n3.at_
  have t4 := (t2.fr (n3.fr (lo := 0) (hi := 0)) (by omega)).fr s4.fr (by omega)
  have p4 : Fr 0 0 h h4 := (((n1.fr (lo := 0) (hi := 0)).trans f2).trans n3.fr).fresh s4.fr (by omega)
  simp -dsimp only [go_sem, ↓reduceIte, reduceCtorEq, Nat.reduceEqDiff, Nat.reduceAdd, Nat.reduceLeDiff, Nat.reduceMul, Int.reduceBEq, Int.reduceBNe, Int.reduceLT, Int.reduceLE, Int.reduceGT, Int.reduceGE] at r3
  simp -dsimp only [go_sem, ↓reduceIte, reduceCtorEq, Nat.reduceEqDiff, Nat.reduceAdd, Nat.reduceLeDiff, Nat.reduceMul, Int.reduceBEq, Int.reduceBNe, Int.reduceLT, Int.reduceLE, Int.reduceGT, Int.reduceGE]
  refine loop_intro (fun i : Nat => [(1, .slice a l.length c), (4, .pointer (some ⟨b1, 0, none⟩)), (5, .pointer (some ⟨b3, 0, none⟩)), (6, .int .i64 i)])
    (fun i h' => i ≤ l.length ∧ Fr 0 0 h h' ∧ h4.size ≤ h'.size ∧ Rw h' b1 [.int .i64 0, .slice none 0 0] ∧ Rw h' b3 [.int .i64 (clampN n), .slice sa (clampN n) sc] ∧ Tab h' h1.size h2.size (.slice sa (clampN n) sc) (clampN n) (clampN n) R (ofM (clampN n) (l.take i)))
    (fun i => l.length - i) 0 ?_ ?_ ?_
  · simp [Le, find]
  · exact ⟨by omega, p4, by omega, r1, r3, t4.congr fun _ _ _ _ => by simp [ofM]⟩
  generalize clampN n = k at *
  rintro i h5 ⟨hi, p5, y5, r1, r3, t5⟩
  simp -dsimp only [go_sem, ↓reduceIte, reduceCtorEq, Nat.reduceEqDiff, Nat.reduceAdd, Nat.reduceLeDiff, Nat.reduceMul, Int.reduceBEq, Int.reduceBNe, Int.reduceLT, Int.reduceLE, Int.reduceGT, Int.reduceGE]
  refine ⟨fun hlt => ?_, fun hge => ?_⟩
  · have hlt : i < l.length := by omega
    have hp : l[i]? = some l[i] := by simp [hlt]
    generalize l[i] = p at hp
    simp -dsimp only [go_sem, ↓reduceIte, reduceCtorEq, Nat.reduceEqDiff, Nat.reduceAdd, Nat.reduceLeDiff, Nat.reduceMul, Int.reduceBEq, Int.reduceBNe, Int.reduceLT, Int.reduceLE, Int.reduceGT, Int.reduceGE, r3.cell]
    refine Chk_intro (by omega) ((hl.fr p5).pair hp fun b o c1 c2 => ?_)
    simp -dsimp only [go_sem, ↓reduceIte, reduceCtorEq, Nat.reduceEqDiff, Nat.reduceAdd, Nat.reduceLeDiff, Nat.reduceMul, Int.reduceBEq, Int.reduceBNe, Int.reduceLT, Int.reduceLE, Int.reduceGT, Int.reduceGE, c1]
    refine call_of (ref1_in _ _ _ _) ?_
    rintro v h6 ⟨f6, rfl⟩
    simp -dsimp only [go_sem, ↓reduceIte, reduceCtorEq, Nat.reduceEqDiff, Nat.reduceAdd, Nat.reduceLeDiff, Nat.reduceMul, Int.reduceBEq, Int.reduceBNe, Int.reduceLT, Int.reduceLE, Int.reduceGT, Int.reduceGE]
    refine ⟨fun hin => ?_, fun hout => ?_⟩
    · have hin' := hin; simp only [inR, decide_eq_true_eq] at hin'
      have r36 := r3.fr f6 (by omega)
      have p6 := p5.trans f6
      simp -dsimp only [go_sem, ↓reduceIte, reduceCtorEq, Nat.reduceEqDiff, Nat.reduceAdd, Nat.reduceLeDiff, Nat.reduceMul, Int.reduceBEq, Int.reduceBNe, Int.reduceLT, Int.reduceLE, Int.reduceGT, Int.reduceGE, r36.cell, hin]
      refine Chk_intro (by omega) ((hl.fr p6).pair hp fun b' o' c3 c4 => ?_)
      simp -dsimp only [go_sem, ↓reduceIte, reduceCtorEq, Nat.reduceEqDiff, Nat.reduceAdd, Nat.reduceLeDiff, Nat.reduceMul, Int.reduceBEq, Int.reduceBNe, Int.reduceLT, Int.reduceLE, Int.reduceGT, Int.reduceGE, c4, hin]
      refine call_of (ref1_in _ _ _ _) ?_
      rintro v h7 ⟨f7, rfl⟩
      have r37 := r36.fr f7 (by omega)
      simp -dsimp only [go_sem, ↓reduceIte, reduceCtorEq, Nat.reduceEqDiff, Nat.reduceAdd, Nat.reduceLeDiff, Nat.reduceMul, Int.reduceBEq, Int.reduceBNe, Int.reduceLT, Int.reduceLE, Int.reduceGT, Int.reduceGE, hin, r37.cell, f7.keep (f6.keep c1 (by omega)) (by omega)]
      refine ⟨fun hin2 => ?_, fun hout => ?_⟩
      · have hin2' := hin2; simp only [inR, decide_eq_true_eq] at hin2'
        obtain ⟨x, hx⟩ : ∃ x : Nat, p.1 = x := ⟨p.1.toNat, by omega⟩
        obtain ⟨y, hy⟩ : ∃ y : Nat, p.2 = y := ⟨p.2.toNat, by omega⟩
        have p7 := p6.trans f7
        have t7 := (t5.fr f6 (by omega)).fr f7 (by omega)
        simp -dsimp only [go_sem, ↓reduceIte, reduceCtorEq, Nat.reduceEqDiff, Nat.reduceAdd, Nat.reduceLeDiff, Nat.reduceMul, Int.reduceBEq, Int.reduceBNe, Int.reduceLT, Int.reduceLE, Int.reduceGT, Int.reduceGE, r37.cell]
        refine Chk_intro (by omega) ((hl.fr p7).pair hp fun b2 o2 c5 c6 => ?_)
        simp -dsimp only [go_sem, ↓reduceIte, reduceCtorEq, Nat.reduceEqDiff, Nat.reduceAdd, Nat.reduceLeDiff, Nat.reduceMul, Int.reduceBEq, Int.reduceBNe, Int.reduceLT, Int.reduceLE, Int.reduceGT, Int.reduceGE, c5, hx]
        refine Chk_intro (by omega) (t7.idx (p := x) (by omega) fun b4 o4 c7 => ?_)
        simp -dsimp only [go_sem, ↓reduceIte, reduceCtorEq, Nat.reduceEqDiff, Nat.reduceAdd, Nat.reduceLeDiff, Nat.reduceMul, Int.reduceBEq, Int.reduceBNe, Int.reduceLT, Int.reduceLE, Int.reduceGT, Int.reduceGE, c7]
        refine Chk_intro (by omega) ((hl.fr p7).pair hp fun b6 o6 c8 c9 => ?_)
        simp -dsimp only [go_sem, ↓reduceIte, reduceCtorEq, Nat.reduceEqDiff, Nat.reduceAdd, Nat.reduceLeDiff, Nat.reduceMul, Int.reduceBEq, Int.reduceBNe, Int.reduceLT, Int.reduceLE, Int.reduceGT, Int.reduceGE, c9, hy]
        refine Chk_intro (by omega) ?_
        simp -dsimp only [go_sem, ↓reduceIte, reduceCtorEq, Nat.reduceEqDiff, Nat.reduceAdd, Nat.reduceLeDiff, Nat.reduceMul, Int.reduceBEq, Int.reduceBNe, Int.reduceLT, Int.reduceLE, Int.reduceGT, Int.reduceGE]
        refine Chk_intro (t7.wr (by omega) (by omega)) fun h8 s8 => ?_
        have t8 := t7.set (by omega) s8
        simp -dsimp only [go_sem, ↓reduceIte, reduceCtorEq, Nat.reduceEqDiff, Nat.reduceAdd, Nat.reduceLeDiff, Nat.reduceMul, Int.reduceBEq, Int.reduceBNe, Int.reduceLT, Int.reduceLE, Int.reduceGT, Int.reduceGE]
        simp -dsimp (disch := omega) only [wrap64]
        have y6 := f6.size; have y7 := f7.size; have y8 := s8.size
        have hRx := (t7.row x (by omega)).2
        refine ⟨i + 1, by omega, by simp [Le, find], by omega, p7.fresh s8.fr (by omega), by omega, ?_, s8.rw r37 (by omega), t8.congr fun u v hu hv => ?_⟩
        · exact s8.rw ((r1.fr f6 (by omega)).fr f7 (by omega)) (by omega)
        · rw [ofM_take hp, hin, hin2, hx, hy]
          by_cases hux : u = x <;> by_cases hvy : v = y <;> simp [hux, hvy] <;> omega
      · simp -dsimp only [go_sem, ↓reduceIte, reduceCtorEq, Nat.reduceEqDiff, Nat.reduceAdd, Nat.reduceLeDiff, Nat.reduceMul, Int.reduceBEq, Int.reduceBNe, Int.reduceLT, Int.reduceLE, Int.reduceGT, Int.reduceGE]
        simp -dsimp (disch := omega) only [wrap64]
        have y6 := f6.size; have y7 := f7.size
        refine ⟨i + 1, by omega, by simp [Le, find], by omega, p6.trans f7, by omega, (r1.fr f6 (by omega)).fr f7 (by omega), r37, ((t5.fr f6 (by omega)).fr f7 (by omega)).congr fun u v hu hv => ?_⟩
        rw [ofM_take hp]; simp [hout]
    · simp -dsimp only [go_sem, ↓reduceIte, reduceCtorEq, Nat.reduceEqDiff, Nat.reduceAdd, Nat.reduceLeDiff, Nat.reduceMul, Int.reduceBEq, Int.reduceBNe, Int.reduceLT, Int.reduceLE, Int.reduceGT, Int.reduceGE, hout]
      simp -dsimp (disch := omega) only [wrap64]
      have y6 := f6.size
      refine ⟨i + 1, by omega, by simp [Le, find], by omega, p5.trans f6, by omega, r1.fr f6 (by omega), r3.fr f6 (by omega), (t5.fr f6 (by omega)).congr fun u v hu hv => ?_⟩
      rw [ofM_take hp]; simp [hout]
  · simp -dsimp only [go_sem, ↓reduceIte, reduceCtorEq, Nat.reduceEqDiff, Nat.reduceAdd, Nat.reduceLeDiff, Nat.reduceMul, Int.reduceBEq, Int.reduceBNe, Int.reduceLT, Int.reduceLE, Int.reduceGT, Int.reduceGE, r3.cell]
    refine ⟨r1.wr (by simp), fun h6 s6 => ?_⟩
    have r6 := s6.row r1
    simp -dsimp only [go_sem, ↓reduceIte, reduceCtorEq, Nat.reduceEqDiff, Nat.reduceAdd, Nat.reduceLeDiff, Nat.reduceMul, Int.reduceBEq, Int.reduceBNe, Int.reduceLT, Int.reduceLE, Int.reduceGT, Int.reduceGE] at r6
    simp -dsimp only [go_sem, ↓reduceIte, reduceCtorEq, Nat.reduceEqDiff, Nat.reduceAdd, Nat.reduceLeDiff, Nat.reduceMul, Int.reduceBEq, Int.reduceBNe, Int.reduceLT, Int.reduceLE, Int.reduceGT, Int.reduceGE, r6.cell]
    have : i = l.length := by omega
    subst this
    rw [List.take_length] at t5
    refine ⟨p5.fresh s6.fr (by omega), hc, _, R, rfl, ?_⟩
    have := s6.size
    exact (t5.fr s6.fr (by omega)).mono (by omega) (by omega)
end Go.Proofs.Tst
namespace Go.Proofs.Tst
open Go Go.Vc
/-- May a point come next? -/
def freeB (n : Nat) (M : Nat → Nat → Bool) (D : Nat → Bool) (p : Nat) : Bool := !D p && (List.range n).all fun a => !M a p || D a
theorem freeB_true {n : Nat} {M : Nat → Nat → Bool} {D : Nat → Bool} {p : Nat} : freeB n M D p = true ↔ D p = false ∧ ∀ a, a < n → M a p = true → D a = true := by
  simp only [freeB, Bool.and_eq_true, Bool.not_eq_true', List.all_eq_true, List.mem_range, Bool.or_eq_true]
  refine and_congr_right fun _ => forall_congr' fun a => forall_congr' fun _ => ?_
  cases M a p <;> simp
theorem freeB_false {n : Nat} {M : Nat → Nat → Bool} {D : Nat → Bool} {p a : Nat} (ha : a < n) (h1 : M a p = true) (h2 : D a = false) : freeB n M D p = false := by
  rw [Bool.eq_false_iff]; intro h
  have := (freeB_true.1 h).2 a ha h1
  simp [h2] at this

theorem ref2_free {n p : Nat} {M : Nat → Nat → Bool} {D : Nat → Bool} {rv dv : Value} {lo hi : Nat} {h : Heap} (hr : RefAt h lo hi rv n M) (hd : Rd 1 h dv n (brow n D)) (hp : p < n) :
    Con Tryd.prog 72 #[rv, dv, .int .i64 p] h fun v h' => Fr 0 0 h h' ∧ v = .bool (freeB n M D p) := by
  refine con_ref2_free ?_
  obtain ⟨hn, s, R, rfl, t⟩ := hr
  obtain ⟨sa, sc, rfl⟩ := t.own.is
  obtain ⟨da, dc, rfl⟩ := hd.is
  simp -dsimp only [go_sem, ↓reduceIte, reduceCtorEq, Nat.reduceEqDiff, Nat.reduceAdd, Nat.reduceLeDiff, Nat.reduceMul, Int.reduceBEq, Int.reduceBNe, Int.reduceLT, Int.reduceLE, Int.reduceGT, Int.reduceGE]
  intro b1 h1 n1
  have r1 := n1.row
  have p1 : Fr 0 0 h h1 := n1.fr
  simp -dsimp only [go_sem, ↓reduceIte, reduceCtorEq, Nat.reduceEqDiff, Nat.reduceAdd, Nat.reduceLeDiff, Nat.reduceMul, Int.reduceBEq, Int.reduceBNe, Int.reduceLT, Int.reduceLE, Int.reduceGT, Int.reduceGE]
  refine Chk_intro (by omega) ((hd.fr p1).idx (by omega) fun b o c1 => ?_)
  simp -dsimp only [go_sem, ↓reduceIte, reduceCtorEq, Nat.reduceEqDiff, Nat.reduceAdd, Nat.reduceLeDiff, Nat.reduceMul, Int.reduceBEq, Int.reduceBNe, Int.reduceLT, Int.reduceLE, Int.reduceGT, Int.reduceGE, c1 p _ (brow_get hp)]
  refine ⟨fun hdp => ?_, fun hdp => ?_⟩
  · simp -dsimp only [go_sem, ↓reduceIte, reduceCtorEq, Nat.reduceEqDiff, Nat.reduceAdd, Nat.reduceLeDiff, Nat.reduceMul, Int.reduceBEq, Int.reduceBNe, Int.reduceLT, Int.reduceLE, Int.reduceGT, Int.reduceGE]
    exact ⟨p1, by simp [freeB, hdp]⟩
  simp -dsimp only [go_sem, ↓reduceIte, reduceCtorEq, Nat.reduceEqDiff, Nat.reduceAdd, Nat.reduceLeDiff, Nat.reduceMul, Int.reduceBEq, Int.reduceBNe, Int.reduceLT, Int.reduceLE, Int.reduceGT, Int.reduceGE]
  refine loop_intro (fun i : Nat => [(1, .slice da n dc), (2, .int .i64 p), (3, .pointer (some ⟨b1, 0, none⟩)), (7, .int .i64 i)])
    (fun i h' => i ≤ n ∧ Fr 0 0 h h' ∧ Rw h' b1 [.int .i64 n, .slice sa n sc] ∧ ∀ a, a < i → M a p = true → D a = true)
    (fun i => n - i) 0 ?_ ?_ ?_
  · simp [Le, find]
  · exact ⟨by omega, p1, r1, fun a ha => by omega⟩
  rintro i h2 ⟨hi, p2, r2, hinv⟩
  simp -dsimp only [go_sem, ↓reduceIte, reduceCtorEq, Nat.reduceEqDiff, Nat.reduceAdd, Nat.reduceLeDiff, Nat.reduceMul, Int.reduceBEq, Int.reduceBNe, Int.reduceLT, Int.reduceLE, Int.reduceGT, Int.reduceGE, r2.cell]
  refine ⟨fun hlt => ?_, fun hge => ?_⟩
  · have hlt : i < n := by omega
    have t2 := t.fr p2 (by omega)
    simp -dsimp only [go_sem, ↓reduceIte, reduceCtorEq, Nat.reduceEqDiff, Nat.reduceAdd, Nat.reduceLeDiff, Nat.reduceMul, Int.reduceBEq, Int.reduceBNe, Int.reduceLT, Int.reduceLE, Int.reduceGT, Int.reduceGE, r2.cell]
    refine Chk_intro (by omega) (t2.idx hlt fun b3 o3 c3 => ?_)
    simp -dsimp only [go_sem, ↓reduceIte, reduceCtorEq, Nat.reduceEqDiff, Nat.reduceAdd, Nat.reduceLeDiff, Nat.reduceMul, Int.reduceBEq, Int.reduceBNe, Int.reduceLT, Int.reduceLE, Int.reduceGT, Int.reduceGE, c3]
    refine Chk_intro (by omega) ?_
    simp -dsimp only [go_sem, ↓reduceIte, reduceCtorEq, Nat.reduceEqDiff, Nat.reduceAdd, Nat.reduceLeDiff, Nat.reduceMul, Int.reduceBEq, Int.reduceBNe, Int.reduceLT, Int.reduceLE, Int.reduceGT, Int.reduceGE, t2.cell hlt hp]
    refine ⟨fun hm => ?_, fun hm => ?_⟩
    · simp -dsimp only [go_sem, ↓reduceIte, reduceCtorEq, Nat.reduceEqDiff, Nat.reduceAdd, Nat.reduceLeDiff, Nat.reduceMul, Int.reduceBEq, Int.reduceBNe, Int.reduceLT, Int.reduceLE, Int.reduceGT, Int.reduceGE, hm]
      refine Chk_intro (by omega) ((hd.fr p2).idx (by omega) fun b4 o4 c4 => ?_)
      simp -dsimp only [go_sem, ↓reduceIte, reduceCtorEq, Nat.reduceEqDiff, Nat.reduceAdd, Nat.reduceLeDiff, Nat.reduceMul, Int.reduceBEq, Int.reduceBNe, Int.reduceLT, Int.reduceLE, Int.reduceGT, Int.reduceGE, c4 i _ (brow_get hlt), hm]
      refine ⟨fun hdi => ?_, fun hdi => ?_⟩
      · simp -dsimp only [go_sem, ↓reduceIte, reduceCtorEq, Nat.reduceEqDiff, Nat.reduceAdd, Nat.reduceLeDiff, Nat.reduceMul, Int.reduceBEq, Int.reduceBNe, Int.reduceLT, Int.reduceLE, Int.reduceGT, Int.reduceGE]
        exact ⟨p2, by rw [freeB_false hlt hm (by simpa using hdi)]⟩
      · simp -dsimp only [go_sem, ↓reduceIte, reduceCtorEq, Nat.reduceEqDiff, Nat.reduceAdd, Nat.reduceLeDiff, Nat.reduceMul, Int.reduceBEq, Int.reduceBNe, Int.reduceLT, Int.reduceLE, Int.reduceGT, Int.reduceGE]
        simp -dsimp (disch := omega) only [wrap64]
        refine ⟨i + 1, by omega, by simp [Le, find], by omega, p2, r2, fun a ha hma => ?_⟩
        by_cases hai : a = i
        · subst hai; simpa using hdi
        · exact hinv a (by omega) hma
    · simp -dsimp only [go_sem, ↓reduceIte, reduceCtorEq, Nat.reduceEqDiff, Nat.reduceAdd, Nat.reduceLeDiff, Nat.reduceMul, Int.reduceBEq, Int.reduceBNe, Int.reduceLT, Int.reduceLE, Int.reduceGT, Int.reduceGE, hm]
      simp -dsimp (disch := omega) only [wrap64]
      refine ⟨i + 1, by omega, by simp [Le, find], by omega, p2, r2, fun a ha hma => ?_⟩
      by_cases hai : a = i
      · subst hai; exact absurd hma hm
      · exact hinv a (by omega) hma
  · simp -dsimp only [go_sem, ↓reduceIte, reduceCtorEq, Nat.reduceEqDiff, Nat.reduceAdd, Nat.reduceLeDiff, Nat.reduceMul, Int.reduceBEq, Int.reduceBNe, Int.reduceLT, Int.reduceLE, Int.reduceGT, Int.reduceGE]
    exact ⟨p2, by rw [freeB_true.2 ⟨by simpa using hdp, fun a ha => hinv a (by omega)⟩]⟩

/-- The order that is made step by step: each time the least free point. -/
def sortGo (n : Nat) (M : Nat → Nat → Bool) : Nat → List Nat → Option (List Nat)
  | 0, l => some l
  | k + 1, l => match lf (freeB n M l.contains) n 0 with
    | none => none
    | some p => sortGo n M k (l ++ [p])
def sortS (n : Nat) (M : Nat → Nat → Bool) : Option (List Nat) := sortGo n M n []

/-- What a function hands back that tells a list, or an error's number. -/
def ListOr (h : Heap) (lo : Nat) (e : Int) (v : Value) (o : Option (List Nat)) : Prop :=
  match o with
  | some l => ∃ s, v = .tuple #[s, .int .i64 0] ∧ Holder 1 h s l.length (natsV l) lo
  | none => v = .tuple #[.slice none 0 0, .int .i64 e]

theorem ref2_Sort {n : Nat} {M : Nat → Nat → Bool} {rv : Value} {lo hi : Nat} {h : Heap} (hr : RefAt h lo hi rv n M) :
    Con Tryd.prog 19 #[rv] h fun v h' => Fr 0 0 h h' ∧ ListOr h' h.size 3 v (sortS n M) := by
  refine con_ref2_Sort ?_
  have hr0 := hr
  obtain ⟨hn, s, R, rfl, t⟩ := hr
  obtain ⟨sa, sc, rfl⟩ := t.own.is
  simp -dsimp only [go_sem, ↓reduceIte, reduceCtorEq, Nat.reduceEqDiff, Nat.reduceAdd, Nat.reduceLeDiff, Nat.reduceMul, Int.reduceBEq, Int.reduceBNe, Int.reduceLT, Int.reduceLE, Int.reduceGT, Int.reduceGE]
  intro b1 h1 n1
  have r1 := n1.row
  simp -dsimp only [go_sem, ↓reduceIte, reduceCtorEq, Nat.reduceEqDiff, Nat.reduceAdd, Nat.reduceLeDiff, Nat.reduceMul, Int.reduceBEq, Int.reduceBNe, Int.reduceLT, Int.reduceLE, Int.reduceGT, Int.reduceGE, r1.cell]
  refine Chk_intro (by omega) ?_
  intro b2 h2 n2
  have r12 := n2.rw r1
  have r2 := n2.row
  rw [zeros_one, Int.toNat_natCast, brow_false] at r2
  have p2 : Fr 0 0 h h2 := (n1.fr (lo := 0) (hi := 0)).trans n2.fr
  have z1 := n1.size; have z2 := n2.size; have a1 := n1.at_; have a2 := n2.at_
  simp -dsimp only [go_sem, ↓reduceIte, reduceCtorEq, Nat.reduceEqDiff, Nat.reduceAdd, Nat.reduceLeDiff, Nat.reduceMul, Int.reduceBEq, Int.reduceBNe, Int.reduceLT, Int.reduceLE, Int.reduceGT, Int.reduceGE]
  refine loop_intro (fun s : Nat × Value => [(1, .pointer (some ⟨b1, 0, none⟩)), (4, .slice (some ⟨b2, 0, none⟩) n n), (5, s.2), (6, .int .i64 s.1)])
    (fun s h' => s.1 ≤ n ∧ Fr 0 0 h h' ∧ h2.size ≤ h'.size ∧ Rw h' b1 [.int .i64 n, .slice sa n sc] ∧ ∃ l : List Nat, l.length = s.1 ∧ Rw h' b2 (brow n l.contains) ∧ Holder 1 h' s.2 s.1 (natsV l) h2.size ∧ sortGo n M (n - s.1) l = sortS n M)
    (fun s => n - s.1) (0, .slice none 0 0) ?_ ?_ ?_
  · simp [Le, find]
  · exact ⟨by omega, p2, by omega, r12, [], rfl, r2, .none _ _ _, rfl⟩
  rintro ⟨i, lv⟩ h3 ⟨hi, p3, y3, r1, l, hl, r2, ol, hgo⟩
  dsimp only at hi p3 y3 r1 hl r2 ol hgo ⊢
  simp -dsimp only [go_sem, ↓reduceIte, reduceCtorEq, Nat.reduceEqDiff, Nat.reduceAdd, Nat.reduceLeDiff, Nat.reduceMul, Int.reduceBEq, Int.reduceBNe, Int.reduceLT, Int.reduceLE, Int.reduceGT, Int.reduceGE, r1.cell]
  refine ⟨fun hlt => ?_, fun hge => ?_⟩
  · have hlt : i < n := by omega
    simp -dsimp only [go_sem, ↓reduceIte, reduceCtorEq, Nat.reduceEqDiff, Nat.reduceAdd, Nat.reduceLeDiff, Nat.reduceMul, Int.reduceBEq, Int.reduceBNe, Int.reduceLT, Int.reduceLE, Int.reduceGT, Int.reduceGE, r1.cell]
    rw [wrap64 (by omega) (by omega)]
    have k1 := r1.lt; have k2 := r2.lt
    refine loop_intro (fun q : Nat => [(1, .pointer (some ⟨b1, 0, none⟩)), (4, .slice (some ⟨b2, 0, none⟩) n n), (5, lv), (6, .int .i64 i), (7, .int .i64 (nx (lf (freeB n M l.contains) n q))), (8, .int .i64 ((q : Int) - 1))])
      (fun q h' => q ≤ n ∧ Fr 0 0 h3 h') (fun q => q) n ?_ ?_ ?_
    · simp [Le, find, lf_end, nx]
    · exact ⟨by omega, .refl _ _ _⟩
    rintro q h4 ⟨hq, p4⟩
    have r14 := r1.fr p4 (by omega)
    have r24 := r2.fr p4 (by omega)
    simp -dsimp only [go_sem, ↓reduceIte, reduceCtorEq, Nat.reduceEqDiff, Nat.reduceAdd, Nat.reduceLeDiff, Nat.reduceMul, Int.reduceBEq, Int.reduceBNe, Int.reduceLT, Int.reduceLE, Int.reduceGT, Int.reduceGE]
    refine ⟨fun hq0 => ?_, fun hq0 => ?_⟩
    · obtain ⟨x, rfl⟩ : ∃ x, q = x + 1 := ⟨q - 1, by omega⟩
      simp -dsimp only [go_sem, ↓reduceIte, reduceCtorEq, Nat.reduceEqDiff, Nat.reduceAdd, Nat.reduceLeDiff, Nat.reduceMul, Int.reduceBEq, Int.reduceBNe, Int.reduceLT, Int.reduceLE, Int.reduceGT, Int.reduceGE, r14.cell]
      rw [show ((x + 1 : Nat) : Int) - 1 = (x : Int) from by omega]
      refine call_of (ref2_free (hr0.fr (p3.trans p4) (by omega)) (r24.rd (by simp)) (by omega)) ?_
      rintro v h5 ⟨f5, rfl⟩
      simp -dsimp only [go_sem, ↓reduceIte, reduceCtorEq, Nat.reduceEqDiff, Nat.reduceAdd, Nat.reduceLeDiff, Nat.reduceMul, Int.reduceBEq, Int.reduceBNe, Int.reduceLT, Int.reduceLE, Int.reduceGT, Int.reduceGE]
      refine ⟨fun hf => ?_, fun hf => ?_⟩
      · simp -dsimp only [go_sem, ↓reduceIte, reduceCtorEq, Nat.reduceEqDiff, Nat.reduceAdd, Nat.reduceLeDiff, Nat.reduceMul, Int.reduceBEq, Int.reduceBNe, Int.reduceLT, Int.reduceLE, Int.reduceGT, Int.reduceGE]
        simp -dsimp (disch := omega) only [wrap64]
        exact ⟨x, by omega, by simp [Le, find, lf_step _ (show x < n from by omega), hf, nx], by omega, p4.trans f5⟩
      · simp -dsimp only [go_sem, ↓reduceIte, reduceCtorEq, Nat.reduceEqDiff, Nat.reduceAdd, Nat.reduceLeDiff, Nat.reduceMul, Int.reduceBEq, Int.reduceBNe, Int.reduceLT, Int.reduceLE, Int.reduceGT, Int.reduceGE]
        simp -dsimp (disch := omega) only [wrap64]
        exact ⟨x, by omega, by simp [Le, find, lf_step _ (show x < n from by omega), hf, nx], by omega, p4.trans f5⟩
    · have hq : q = 0 := by omega
      subst hq
      have hk : n - i = (n - (i + 1)) + 1 := by omega
      rw [hk] at hgo
      cases hx : lf (freeB n M l.contains) n 0 with
      | none =>
        simp only [sortGo, hx] at hgo
        simp -dsimp only [go_sem, ↓reduceIte, reduceCtorEq, Nat.reduceEqDiff, Nat.reduceAdd, Nat.reduceLeDiff, Nat.reduceMul, Int.reduceBEq, Int.reduceBNe, Int.reduceLT, Int.reduceLE, Int.reduceGT, Int.reduceGE, nx_none, hx]
        exact ⟨p3.trans p4, by rw [← hgo]; rfl⟩
      | some x =>
        simp only [sortGo, hx] at hgo
        obtain ⟨_, hxn, hfx⟩ := lf_some hx
        simp -dsimp only [go_sem, ↓reduceIte, reduceCtorEq, Nat.reduceEqDiff, Nat.reduceAdd, Nat.reduceLeDiff, Nat.reduceMul, Int.reduceBEq, Int.reduceBNe, Int.reduceLT, Int.reduceLE, Int.reduceGT, Int.reduceGE, nx_some, hx]
        refine Chk_intro (by omega) ?_
        simp -dsimp only [go_sem, ↓reduceIte, reduceCtorEq, Nat.reduceEqDiff, Nat.reduceAdd, Nat.reduceLeDiff, Nat.reduceMul, Int.reduceBEq, Int.reduceBNe, Int.reduceLT, Int.reduceLE, Int.reduceGT, Int.reduceGE]
        refine Chk_intro (r24.wr (by simp; omega)) fun h5 s5 => ?_
        have r25 := s5.row r24
        rw [cl_bool, putAt_one, brow_set] at r25
        obtain ⟨la, lc, rfl⟩ := ol.is
        simp -dsimp only [go_sem, ↓reduceIte, reduceCtorEq, Nat.reduceEqDiff, Nat.reduceAdd, Nat.reduceLeDiff, Nat.reduceMul, Int.reduceBEq, Int.reduceBNe, Int.reduceLT, Int.reduceLE, Int.reduceGT, Int.reduceGE, nx_some, hx]
        intro b6 h6 n6
        simp -dsimp only [go_sem, ↓reduceIte, reduceCtorEq, Nat.reduceEqDiff, Nat.reduceAdd, Nat.reduceLeDiff, Nat.reduceMul, Int.reduceBEq, Int.reduceBNe, Int.reduceLT, Int.reduceLE, Int.reduceGT, Int.reduceGE, nx_some, hx, n6.row.cell]
        have w0 := ol.at_
        have o6 := ((ol.fr p4 (by omega)).fr s5.fr (by omega)).fr (n6.fr (lo := 0) (hi := 0)) (by omega)
        have p6 : Fr 0 0 h h6 := ((p3.trans p4).fresh s5.fr (by omega)).trans n6.fr
        have y4 := p4.size; have y5 := s5.size; have y6 := n6.size
        refine o6.append (by omega) rfl (by omega) (by simp) (by omega) fun v7 h7 o7 f7 e7 => ?_
        simp -dsimp only [go_sem, ↓reduceIte, reduceCtorEq, Nat.reduceEqDiff, Nat.reduceAdd, Nat.reduceLeDiff, Nat.reduceMul, Int.reduceBEq, Int.reduceBNe, Int.reduceLT, Int.reduceLE, Int.reduceGT, Int.reduceGE]
        simp -dsimp (disch := omega) only [wrap64]
        refine ⟨(i + 1, v7), by dsimp only; omega, by simp [Le, find], by dsimp only; omega, p6.fresh f7 (by omega), ?_, ?_, l ++ [x], by simp [hl], ?_, ?_, hgo⟩
        · have := f7.size; omega
        · exact (((r1.fr p4 (by omega)).fr s5.fr (by omega)).fr (n6.fr (lo := 0) (hi := 0)) (by omega)).fr f7 (by omega)
        · have := (r25.fr (n6.fr (lo := 0) (hi := 0)) (by omega)).fr f7 (by omega)
          refine (brow_congr fun j hj => ?_) ▸ this
          simp [Bool.or_comm]
        · rw [natsV_append]; exact o7
  · have hin : i = n := by omega
    subst hin
    simp -dsimp only [go_sem, ↓reduceIte, reduceCtorEq, Nat.reduceEqDiff, Nat.reduceAdd, Nat.reduceLeDiff, Nat.reduceMul, Int.reduceBEq, Int.reduceBNe, Int.reduceLT, Int.reduceLE, Int.reduceGT, Int.reduceGE]
    rw [Nat.sub_self] at hgo
    refine ⟨p3, ?_⟩
    rw [← hgo]
    simp only [sortGo, ListOr]
    rw [← hl] at ol
    exact ⟨_, rfl, ol.lower (by omega)⟩
end Go.Proofs.Tst
namespace Go.Proofs.Tst
open Go Go.Vc
theorem law2_ints_old {l m : List Int} {a b : Value} {h : Heap} (hl : Rd 1 h a l.length (intsV l)) (hm : Rd 1 h b m.length (intsV m)) (hb : l.length ≤ 4611686018427387904) :
    Con Tryd.prog 18 #[a, b] h fun v h' => h' = h ∧ v = .bool (decide (l = m)) := by
  refine con_law2_ints ?_
  obtain ⟨aa, ac, rfl⟩ := hl.is
  obtain ⟨ba, bc, rfl⟩ := hm.is
  simp -dsimp only [go_sem, ↓reduceIte, reduceCtorEq, Nat.reduceEqDiff, Nat.reduceAdd, Nat.reduceLeDiff, Nat.reduceMul, Int.reduceBEq, Int.reduceBNe, Int.reduceLT, Int.reduceLE, Int.reduceGT, Int.reduceGE]
  refine ⟨fun hne => ?_, fun heq => ?_⟩
  · simp -dsimp only [go_sem, ↓reduceIte, reduceCtorEq, Nat.reduceEqDiff, Nat.reduceAdd, Nat.reduceLeDiff, Nat.reduceMul, Int.reduceBEq, Int.reduceBNe, Int.reduceLT, Int.reduceLE, Int.reduceGT, Int.reduceGE]
    have : l ≠ m := by rintro rfl; simp at hne
    simp [this]
  have heq : l.length = m.length := by have : (l.length : Int) = m.length := by simpa using heq
                                       omega
  simp -dsimp only [go_sem, ↓reduceIte, reduceCtorEq, Nat.reduceEqDiff, Nat.reduceAdd, Nat.reduceLeDiff, Nat.reduceMul, Int.reduceBEq, Int.reduceBNe, Int.reduceLT, Int.reduceLE, Int.reduceGT, Int.reduceGE]
  refine loop_intro (fun i : Nat => [(0, .slice aa l.length ac), (1, .slice ba m.length bc), (5, .int .i64 i)])
    (fun i h' => i ≤ l.length ∧ h' = h ∧ ∀ j, j < i → l[j]? = m[j]?) (fun i => l.length - i) 0 ?_ ?_ ?_
  · simp [Le, find]
  · exact ⟨by omega, rfl, fun j hj => by omega⟩
  rintro i _ ⟨hi, rfl, hinv⟩
  simp -dsimp only [go_sem, ↓reduceIte, reduceCtorEq, Nat.reduceEqDiff, Nat.reduceAdd, Nat.reduceLeDiff, Nat.reduceMul, Int.reduceBEq, Int.reduceBNe, Int.reduceLT, Int.reduceLE, Int.reduceGT, Int.reduceGE]
  refine ⟨fun hlt => ?_, fun hge => ?_⟩
  · have hlt : i < l.length := by omega
    simp -dsimp only [go_sem, ↓reduceIte, reduceCtorEq, Nat.reduceEqDiff, Nat.reduceAdd, Nat.reduceLeDiff, Nat.reduceMul, Int.reduceBEq, Int.reduceBNe, Int.reduceLT, Int.reduceLE, Int.reduceGT, Int.reduceGE]
    refine Chk_intro (by omega) (hl.idx (by omega) fun b1 o1 c1 => ?_)
    simp -dsimp only [go_sem, ↓reduceIte, reduceCtorEq, Nat.reduceEqDiff, Nat.reduceAdd, Nat.reduceLeDiff, Nat.reduceMul, Int.reduceBEq, Int.reduceBNe, Int.reduceLT, Int.reduceLE, Int.reduceGT, Int.reduceGE, c1 i _ (intsV_get (List.getElem?_eq_getElem hlt))]
    refine Chk_intro (by omega) (hm.idx (by omega) fun b2 o2 c2 => ?_)
    simp -dsimp only [go_sem, ↓reduceIte, reduceCtorEq, Nat.reduceEqDiff, Nat.reduceAdd, Nat.reduceLeDiff, Nat.reduceMul, Int.reduceBEq, Int.reduceBNe, Int.reduceLT, Int.reduceLE, Int.reduceGT, Int.reduceGE, c2 i _ (intsV_get (List.getElem?_eq_getElem (show i < m.length by omega)))]
    refine ⟨fun hne => ?_, fun he => ?_⟩
    · simp -dsimp only [go_sem, ↓reduceIte, reduceCtorEq, Nat.reduceEqDiff, Nat.reduceAdd, Nat.reduceLeDiff, Nat.reduceMul, Int.reduceBEq, Int.reduceBNe, Int.reduceLT, Int.reduceLE, Int.reduceGT, Int.reduceGE]
      have : l ≠ m := by rintro rfl; simp at hne
      simp [this]
    · simp -dsimp only [go_sem, ↓reduceIte, reduceCtorEq, Nat.reduceEqDiff, Nat.reduceAdd, Nat.reduceLeDiff, Nat.reduceMul, Int.reduceBEq, Int.reduceBNe, Int.reduceLT, Int.reduceLE, Int.reduceGT, Int.reduceGE]
      simp -dsimp (disch := omega) only [wrap64]
      refine ⟨i + 1, by omega, by simp [Le, find], by omega, fun j hj => ?_⟩
      by_cases hji : j = i
      · subst hji
        rw [List.getElem?_eq_getElem hlt, List.getElem?_eq_getElem (show j < m.length by omega)]
        simpa using he
      · exact hinv j (by omega)
  · simp -dsimp only [go_sem, ↓reduceIte, reduceCtorEq, Nat.reduceEqDiff, Nat.reduceAdd, Nat.reduceLeDiff, Nat.reduceMul, Int.reduceBEq, Int.reduceBNe, Int.reduceLT, Int.reduceLE, Int.reduceGT, Int.reduceGE]
    have : l = m := List.ext_getElem? fun j => by
      by_cases hj : j < i
      · exact hinv j hj
      · rw [List.getElem?_eq_none (by omega), List.getElem?_eq_none (by omega)]
    simp [this]

/-- Is a list all points once, each pair in order? -/
def LinP (n : Nat) (M : Nat → Nat → Bool) (l : List Int) : Prop :=
  l.length = n ∧ (∀ x ∈ l, 0 ≤ x ∧ x < (n : Int)) ∧ l.Nodup ∧ ∀ a, a < n → ∀ b, b < n → M a b = true → l.idxOf (a : Int) < l.idxOf (b : Int)
instance (n : Nat) (M : Nat → Nat → Bool) (l : List Int) : Decidable (LinP n M l) := by unfold LinP; infer_instance

/-- The places, from 1 on, of the first i elements. -/
def placeV (n : Nat) (l : List Int) : List Value := (List.range n).map fun (p : Nat) => Value.int .i64 (if (p : Int) ∈ l then ((l.idxOf (p : Int) + 1 : Nat) : Int) else 0)
theorem length_placeV (n : Nat) (l : List Int) : (placeV n l).length = n := by simp [placeV]
theorem placeV_get {n : Nat} {l : List Int} {p : Nat} (hp : p < n) : (placeV n l)[p]? = some (.int .i64 (if (p : Int) ∈ l then ((l.idxOf (p : Int) + 1 : Nat) : Int) else 0)) := by simp [placeV, hp]
theorem placeV_nil (n : Nat) : List.replicate n (Value.int .i64 0) = placeV n [] := by
  apply List.ext_getElem?; intro k
  by_cases hk : k < n
  · rw [placeV_get hk]; simp [hk]
  · rw [List.getElem?_eq_none (by simp; omega), List.getElem?_eq_none (by simp [placeV]; omega)]
theorem placeV_put {n : Nat} {l : List Int} {p : Nat} (hp : p < n) (hn : (p : Int) ∉ l) : (placeV n l).set p (.int .i64 ((l.length + 1 : Nat) : Int)) = placeV n (l ++ [(p : Int)]) := by
  apply List.ext_getElem?; intro k
  by_cases hk : k < n
  · rw [placeV_get hk, List.getElem?_set]
    by_cases hpk : p = k
    · subst hpk
      simp [length_placeV, hp, List.idxOf_append, hn]
    · rw [if_neg hpk, placeV_get hk]
      have : ((k : Int) = (p : Int)) = False := by simp; omega
      by_cases hm : (k : Int) ∈ l
      · simp [hm, List.idxOf_append]
      · simp [hm, this]
  · rw [List.getElem?_eq_none (by simp [placeV]; omega), List.getElem?_eq_none (by simp [placeV]; omega)]

theorem nodup_le : ∀ {l m : List Int}, l.Nodup → (∀ x ∈ l, x ∈ m) → l.length ≤ m.length
  | [], m, _, _ => by simp
  | x :: l, m, hd, hs => by
    have hx := hs x (by simp)
    have hd' := List.nodup_cons.1 hd
    have := nodup_le (m := m.erase x) hd'.2 fun y hy => (List.mem_erase_of_ne (by rintro rfl; exact hd'.1 hy)).2 (hs y (by simp [hy]))
    rw [List.length_erase_of_mem hx] at this
    have := List.length_pos_of_mem hx
    simp; omega
/-- A list of n numbers below n, none twice, has them all. -/
theorem nodup_all {n : Nat} {l : List Int} (hl : l.length = n) (hin : ∀ x ∈ l, 0 ≤ x ∧ x < (n : Int)) (hnd : l.Nodup) {p : Nat} (hp : p < n) : (p : Int) ∈ l := by
  apply Classical.byContradiction
  intro hn
  have := nodup_le (l := (p : Int) :: l) (m := (List.range n).map fun (q : Nat) => (q : Int)) (List.nodup_cons.2 ⟨hn, hnd⟩) fun x hx => by
    rcases List.mem_cons.1 hx with rfl | hx
    · exact List.mem_map.2 ⟨p, List.mem_range.2 hp, rfl⟩
    · obtain ⟨h1, h2⟩ := hin x hx
      exact List.mem_map.2 ⟨x.toNat, List.mem_range.2 (by omega), by omega⟩
  simp at this; omega

theorem ref2_Linear {n : Nat} {M : Nat → Nat → Bool} {rv lv : Value} {l : List Int} {lo hi : Nat} {h : Heap} (hr : RefAt h lo hi rv n M) (hl : Rd 1 h lv l.length (intsV l)) (hb : l.length ≤ 4611686018427387904) :
    Con Tryd.prog 17 #[rv, lv] h fun v h' => Fr 0 0 h h' ∧ v = .bool (decide (LinP n M l)) := by
  refine con_ref2_Linear ?_
  have hr0 := hr
  obtain ⟨hn, s, R, rfl, t⟩ := hr
  obtain ⟨sa, sc, rfl⟩ := t.own.is
  obtain ⟨la, lc, rfl⟩ := hl.is
  simp -dsimp only [go_sem, ↓reduceIte, reduceCtorEq, Nat.reduceEqDiff, Nat.reduceAdd, Nat.reduceLeDiff, Nat.reduceMul, Int.reduceBEq, Int.reduceBNe, Int.reduceLT, Int.reduceLE, Int.reduceGT, Int.reduceGE]
  intro b1 h1 n1
  have r1 := n1.row
  simp -dsimp only [go_sem, ↓reduceIte, reduceCtorEq, Nat.reduceEqDiff, Nat.reduceAdd, Nat.reduceLeDiff, Nat.reduceMul, Int.reduceBEq, Int.reduceBNe, Int.reduceLT, Int.reduceLE, Int.reduceGT, Int.reduceGE, r1.cell]
  refine Chk_intro (by omega) ?_
  intro b2 h2 n2
  have r12 := n2.rw r1
  have r2 := n2.row
  rw [zeros_one, Int.toNat_natCast, placeV_nil] at r2
  have p2 : Fr 0 0 h h2 := (n1.fr (lo := 0) (hi := 0)).trans n2.fr
  have z1 := n1.size; have z2 := n2.size; have a1 := n1.at_; have a2 := n2.at_
  simp -dsimp only [go_sem, ↓reduceIte, reduceCtorEq, Nat.reduceEqDiff, Nat.reduceAdd, Nat.reduceLeDiff, Nat.reduceMul, Int.reduceBEq, Int.reduceBNe, Int.reduceLT, Int.reduceLE, Int.reduceGT, Int.reduceGE, r12.cell]
  refine ⟨fun hne => ?_, fun heq => ?_⟩
  · simp -dsimp only [go_sem, ↓reduceIte, reduceCtorEq, Nat.reduceEqDiff, Nat.reduceAdd, Nat.reduceLeDiff, Nat.reduceMul, Int.reduceBEq, Int.reduceBNe, Int.reduceLT, Int.reduceLE, Int.reduceGT, Int.reduceGE]
    exact ⟨p2, by rw [decide_eq_false]; rintro ⟨hh, _⟩; simp [hh] at hne⟩
  have heq : l.length = n := by have : (l.length : Int) = n := by simpa using heq
                                omega
  simp -dsimp only [go_sem, ↓reduceIte, reduceCtorEq, Nat.reduceEqDiff, Nat.reduceAdd, Nat.reduceLeDiff, Nat.reduceMul, Int.reduceBEq, Int.reduceBNe, Int.reduceLT, Int.reduceLE, Int.reduceGT, Int.reduceGE]
  refine loop_intro (fun i : Nat => [(1, .slice la l.length lc), (2, .pointer (some ⟨b1, 0, none⟩)), (5, .slice (some ⟨b2, 0, none⟩) n n), (6, .int .i64 i)])
    (fun i h' => i ≤ n ∧ Fr 0 0 h h' ∧ Rw h' b1 [.int .i64 n, .slice sa n sc] ∧ Rw h' b2 (placeV n (l.take i)) ∧ (∀ x ∈ l.take i, 0 ≤ x ∧ x < (n : Int)) ∧ (l.take i).Nodup) (fun i => n - i) 0 ?_ ?_ ?_
  · simp [Le, find]
  · exact ⟨by omega, p2, r12, r2, by simp, by simp⟩
  rintro i h3 ⟨hi, p3, r13, r23, hin, hnd⟩
  have k1 := r13.lt; have k2 := r23.lt
  simp -dsimp only [go_sem, ↓reduceIte, reduceCtorEq, Nat.reduceEqDiff, Nat.reduceAdd, Nat.reduceLeDiff, Nat.reduceMul, Int.reduceBEq, Int.reduceBNe, Int.reduceLT, Int.reduceLE, Int.reduceGT, Int.reduceGE]
  refine ⟨fun hlt => ?_, fun hge => ?_⟩
  · have hlt : i < n := by omega
    have hx : l[i]? = some l[i] := by simp
    have htk : l.take (i + 1) = l.take i ++ [l[i]] := by rw [List.take_succ_eq_append_getElem (by omega)]
    have hmem : l[i] ∈ l := List.getElem_mem _
    generalize l[i] = x at hx htk hmem
    simp -dsimp only [go_sem, ↓reduceIte, reduceCtorEq, Nat.reduceEqDiff, Nat.reduceAdd, Nat.reduceLeDiff, Nat.reduceMul, Int.reduceBEq, Int.reduceBNe, Int.reduceLT, Int.reduceLE, Int.reduceGT, Int.reduceGE]
    refine Chk_intro (by omega) ((hl.fr p3).idx (by omega) fun b3 o3 c3 => ?_)
    have c3 := c3 i _ (intsV_get hx)
    have bad : ¬ (0 ≤ x ∧ x < (n : Int)) → ¬ LinP n M l := fun hb hP => hb (hP.2.1 x hmem)
    by_cases hA : x < 0
    · simp -dsimp only [go_sem, ↓reduceIte, reduceCtorEq, Nat.reduceEqDiff, Nat.reduceAdd, Nat.reduceLeDiff, Nat.reduceMul, Int.reduceBEq, Int.reduceBNe, Int.reduceLT, Int.reduceLE, Int.reduceGT, Int.reduceGE, c3, hA, decide_true]
      exact ⟨p3, by rw [decide_eq_false (bad (by omega))]⟩
    simp -dsimp only [go_sem, ↓reduceIte, reduceCtorEq, Nat.reduceEqDiff, Nat.reduceAdd, Nat.reduceLeDiff, Nat.reduceMul, Int.reduceBEq, Int.reduceBNe, Int.reduceLT, Int.reduceLE, Int.reduceGT, Int.reduceGE, c3, hA, decide_false]
    refine Chk_intro (by omega) ((hl.fr p3).idx (by omega) fun b4 o4 c4 => ?_)
    have c4 := c4 i _ (intsV_get hx)
    by_cases hB : x ≥ (n : Int)
    · simp -dsimp only [go_sem, ↓reduceIte, reduceCtorEq, Nat.reduceEqDiff, Nat.reduceAdd, Nat.reduceLeDiff, Nat.reduceMul, Int.reduceBEq, Int.reduceBNe, Int.reduceLT, Int.reduceLE, Int.reduceGT, Int.reduceGE, c4, r13.cell, hA, hB, decide_true, decide_false]
      exact ⟨p3, by rw [decide_eq_false (bad (by omega))]⟩
    simp -dsimp only [go_sem, ↓reduceIte, reduceCtorEq, Nat.reduceEqDiff, Nat.reduceAdd, Nat.reduceLeDiff, Nat.reduceMul, Int.reduceBEq, Int.reduceBNe, Int.reduceLT, Int.reduceLE, Int.reduceGT, Int.reduceGE, c4, r13.cell, hA, hB, decide_false]
    refine Chk_intro (by omega) ((hl.fr p3).idx (by omega) fun b5 o5 c5 => ?_)
    have c5 := c5 i _ (intsV_get hx)
    obtain ⟨p, rfl⟩ : ∃ p : Nat, x = p := ⟨x.toNat, by omega⟩
    have hp : p < n := by omega
    simp -dsimp only [go_sem, ↓reduceIte, reduceCtorEq, Nat.reduceEqDiff, Nat.reduceAdd, Nat.reduceLeDiff, Nat.reduceMul, Int.reduceBEq, Int.reduceBNe, Int.reduceLT, Int.reduceLE, Int.reduceGT, Int.reduceGE, c5]
    refine Chk_intro (by omega) ?_
    simp -dsimp only [go_sem, ↓reduceIte, reduceCtorEq, Nat.reduceEqDiff, Nat.reduceAdd, Nat.reduceLeDiff, Nat.reduceMul, Int.reduceBEq, Int.reduceBNe, Int.reduceLT, Int.reduceLE, Int.reduceGT, Int.reduceGE, r23.cell, placeV_get hp]
    by_cases hm : (p : Int) ∈ l.take i
    · have : ¬ LinP n M l := by
        rintro ⟨_, _, hnd, _⟩
        have : (l.take (i + 1)).Nodup := hnd.sublist (List.take_sublist _ _)
        rw [htk, List.nodup_append] at this
        exact this.2.2 p hm p (by simp) rfl
      simp -dsimp only [go_sem, ↓reduceIte, reduceCtorEq, Nat.reduceEqDiff, Nat.reduceAdd, Nat.reduceLeDiff, Nat.reduceMul, Int.reduceBEq, Int.reduceBNe, Int.reduceLT, Int.reduceLE, Int.reduceGT, Int.reduceGE, hm, hA, hB, decide_false]
      refine ⟨fun _ => ?_, fun h => absurd (by simp; omega) h⟩
      simp -dsimp only [go_sem, ↓reduceIte, reduceCtorEq, Nat.reduceEqDiff, Nat.reduceAdd, Nat.reduceLeDiff, Nat.reduceMul, Int.reduceBEq, Int.reduceBNe, Int.reduceLT, Int.reduceLE, Int.reduceGT, Int.reduceGE]
      exact ⟨p3, by rw [decide_eq_false this]⟩
    · simp -dsimp only [go_sem, ↓reduceIte, reduceCtorEq, Nat.reduceEqDiff, Nat.reduceAdd, Nat.reduceLeDiff, Nat.reduceMul, Int.reduceBEq, Int.reduceBNe, Int.reduceLT, Int.reduceLE, Int.reduceGT, Int.reduceGE, hm, hA, hB, decide_false]
      refine Chk_intro (by omega) ((hl.fr p3).idx (by omega) fun b6 o6 c6 => ?_)
      have c6 := c6 i _ (intsV_get hx)
      simp -dsimp only [go_sem, ↓reduceIte, reduceCtorEq, Nat.reduceEqDiff, Nat.reduceAdd, Nat.reduceLeDiff, Nat.reduceMul, Int.reduceBEq, Int.reduceBNe, Int.reduceLT, Int.reduceLE, Int.reduceGT, Int.reduceGE, c6]
      refine Chk_intro (by omega) ?_
      simp -dsimp only [go_sem, ↓reduceIte, reduceCtorEq, Nat.reduceEqDiff, Nat.reduceAdd, Nat.reduceLeDiff, Nat.reduceMul, Int.reduceBEq, Int.reduceBNe, Int.reduceLT, Int.reduceLE, Int.reduceGT, Int.reduceGE]
      refine Chk_intro (r23.wr (by simp [length_placeV]; omega)) fun h4 s4 => ?_
      have r24 := s4.row r23
      rw [wrap64 (by omega) (by omega), cl_int, putAt_one, show ((i : Int) + 1) = (((l.take i).length + 1 : Nat) : Int) from by rw [List.length_take]; omega, placeV_put hp hm, ← htk] at r24
      simp -dsimp only [go_sem, ↓reduceIte, reduceCtorEq, Nat.reduceEqDiff, Nat.reduceAdd, Nat.reduceLeDiff, Nat.reduceMul, Int.reduceBEq, Int.reduceBNe, Int.reduceLT, Int.reduceLE, Int.reduceGT, Int.reduceGE]
      simp -dsimp (disch := omega) only [wrap64]
      refine ⟨i + 1, by omega, by simp [Le, find], by omega, p3.fresh s4.fr (by omega), s4.rw r13 (by omega), r24, ?_, ?_⟩
      · rw [htk]; intro y hy
        rcases List.mem_append.1 hy with hy | hy
        · exact hin y hy
        · simp at hy; omega
      · rw [htk, List.nodup_append]
        exact ⟨hnd, by simp, fun y hy z hz => by simp at hz; subst hz; rintro rfl; exact hm hy⟩
  · have hin' : i = l.length := by omega
    rw [hin', List.take_length] at r23 hin hnd
    simp -dsimp only [go_sem, ↓reduceIte, reduceCtorEq, Nat.reduceEqDiff, Nat.reduceAdd, Nat.reduceLeDiff, Nat.reduceMul, Int.reduceBEq, Int.reduceBNe, Int.reduceLT, Int.reduceLE, Int.reduceGT, Int.reduceGE]
    refine loop_intro (fun a : Nat => [(2, .pointer (some ⟨b1, 0, none⟩)), (5, .slice (some ⟨b2, 0, none⟩) n n), (7, .int .i64 a)])
      (fun a h' => a ≤ n ∧ h' = h3 ∧ ∀ x, x < a → ∀ y, y < n → M x y = true → l.idxOf (x : Int) < l.idxOf (y : Int)) (fun a => n - a) 0 ?_ ?_ ?_
    · simp [Le, find]
    · exact ⟨by omega, rfl, fun x hx => by omega⟩
    rintro a h4 ⟨ha, rfl, hord⟩
    have t3 := t.fr p3 (by omega)
    simp -dsimp only [go_sem, ↓reduceIte, reduceCtorEq, Nat.reduceEqDiff, Nat.reduceAdd, Nat.reduceLeDiff, Nat.reduceMul, Int.reduceBEq, Int.reduceBNe, Int.reduceLT, Int.reduceLE, Int.reduceGT, Int.reduceGE, r13.cell]
    refine ⟨fun hlt => ?_, fun hge => ?_⟩
    · have hlt : a < n := by omega
      simp -dsimp only [go_sem, ↓reduceIte, reduceCtorEq, Nat.reduceEqDiff, Nat.reduceAdd, Nat.reduceLeDiff, Nat.reduceMul, Int.reduceBEq, Int.reduceBNe, Int.reduceLT, Int.reduceLE, Int.reduceGT, Int.reduceGE]
      refine loop_intro (fun b : Nat => [(2, .pointer (some ⟨b1, 0, none⟩)), (5, .slice (some ⟨b2, 0, none⟩) n n), (7, .int .i64 a), (8, .int .i64 b)])
        (fun b h' => b ≤ n ∧ h' = h4 ∧ ∀ y, y < b → M a y = true → l.idxOf (a : Int) < l.idxOf (y : Int)) (fun b => n - b) 0 ?_ ?_ ?_
      · simp [Le, find]
      · exact ⟨by omega, rfl, fun y hy => by omega⟩
      rintro b h5 ⟨hb', rfl, hord2⟩
      simp -dsimp only [go_sem, ↓reduceIte, reduceCtorEq, Nat.reduceEqDiff, Nat.reduceAdd, Nat.reduceLeDiff, Nat.reduceMul, Int.reduceBEq, Int.reduceBNe, Int.reduceLT, Int.reduceLE, Int.reduceGT, Int.reduceGE, r13.cell]
      refine ⟨fun hlt2 => ?_, fun hge2 => ?_⟩
      · have hlt2 : b < n := by omega
        simp -dsimp only [go_sem, ↓reduceIte, reduceCtorEq, Nat.reduceEqDiff, Nat.reduceAdd, Nat.reduceLeDiff, Nat.reduceMul, Int.reduceBEq, Int.reduceBNe, Int.reduceLT, Int.reduceLE, Int.reduceGT, Int.reduceGE, r13.cell]
        refine Chk_intro (by omega) (t3.idx hlt fun b6 o6 c6 => ?_)
        simp -dsimp only [go_sem, ↓reduceIte, reduceCtorEq, Nat.reduceEqDiff, Nat.reduceAdd, Nat.reduceLeDiff, Nat.reduceMul, Int.reduceBEq, Int.reduceBNe, Int.reduceLT, Int.reduceLE, Int.reduceGT, Int.reduceGE, c6]
        refine Chk_intro (by omega) ?_
        simp -dsimp only [go_sem, ↓reduceIte, reduceCtorEq, Nat.reduceEqDiff, Nat.reduceAdd, Nat.reduceLeDiff, Nat.reduceMul, Int.reduceBEq, Int.reduceBNe, Int.reduceLT, Int.reduceLE, Int.reduceGT, Int.reduceGE, t3.cell hlt hlt2]
        have step : ∀ {y}, (M a b = true → l.idxOf (a : Int) < l.idxOf (b : Int)) → y < b + 1 → M a y = true → l.idxOf (a : Int) < l.idxOf (y : Int) := fun {y} hs hy hm => by
          by_cases hyb : y = b
          · subst hyb; exact hs hm
          · exact hord2 y (by omega) hm
        by_cases hm : M a b = true
        · simp -dsimp only [go_sem, ↓reduceIte, reduceCtorEq, Nat.reduceEqDiff, Nat.reduceAdd, Nat.reduceLeDiff, Nat.reduceMul, Int.reduceBEq, Int.reduceBNe, Int.reduceLT, Int.reduceLE, Int.reduceGT, Int.reduceGE, hm]
          have allin : ∀ p : Nat, p < n → (p : Int) ∈ l := fun p hp => nodup_all heq hin hnd hp
          refine Chk_intro (by omega) ?_
          simp -dsimp only [go_sem, ↓reduceIte, reduceCtorEq, Nat.reduceEqDiff, Nat.reduceAdd, Nat.reduceLeDiff, Nat.reduceMul, Int.reduceBEq, Int.reduceBNe, Int.reduceLT, Int.reduceLE, Int.reduceGT, Int.reduceGE, r23.cell, placeV_get hlt, hm]
          refine Chk_intro (by omega) ?_
          simp -dsimp only [go_sem, ↓reduceIte, reduceCtorEq, Nat.reduceEqDiff, Nat.reduceAdd, Nat.reduceLeDiff, Nat.reduceMul, Int.reduceBEq, Int.reduceBNe, Int.reduceLT, Int.reduceLE, Int.reduceGT, Int.reduceGE, r23.cell, placeV_get hlt2, hm, allin a hlt, allin b hlt2]
          refine ⟨fun hge => ?_, fun hlt3 => ?_⟩
          · simp -dsimp only [go_sem, ↓reduceIte, reduceCtorEq, Nat.reduceEqDiff, Nat.reduceAdd, Nat.reduceLeDiff, Nat.reduceMul, Int.reduceBEq, Int.reduceBNe, Int.reduceLT, Int.reduceLE, Int.reduceGT, Int.reduceGE]
            exact ⟨p3, by rw [decide_eq_false]; rintro ⟨_, _, _, h⟩; have := h a hlt b hlt2 hm; omega⟩
          · simp -dsimp only [go_sem, ↓reduceIte, reduceCtorEq, Nat.reduceEqDiff, Nat.reduceAdd, Nat.reduceLeDiff, Nat.reduceMul, Int.reduceBEq, Int.reduceBNe, Int.reduceLT, Int.reduceLE, Int.reduceGT, Int.reduceGE]
            simp -dsimp (disch := omega) only [wrap64]
            exact ⟨b + 1, by omega, by simp [Le, find], by omega, fun y hy => step (fun _ => by omega) hy⟩
        · simp -dsimp only [go_sem, ↓reduceIte, reduceCtorEq, Nat.reduceEqDiff, Nat.reduceAdd, Nat.reduceLeDiff, Nat.reduceMul, Int.reduceBEq, Int.reduceBNe, Int.reduceLT, Int.reduceLE, Int.reduceGT, Int.reduceGE, hm]
          simp -dsimp (disch := omega) only [wrap64]
          exact ⟨b + 1, by omega, by simp [Le, find], by omega, fun y hy => step (fun h => absurd h hm) hy⟩
      · simp -dsimp only [go_sem, ↓reduceIte, reduceCtorEq, Nat.reduceEqDiff, Nat.reduceAdd, Nat.reduceLeDiff, Nat.reduceMul, Int.reduceBEq, Int.reduceBNe, Int.reduceLT, Int.reduceLE, Int.reduceGT, Int.reduceGE]
        simp -dsimp (disch := omega) only [wrap64]
        refine ⟨a + 1, by omega, by simp [Le, find], by omega, fun x hx y hy hm => ?_⟩
        by_cases hxa : x = a
        · subst hxa; exact hord2 y (by omega) hm
        · exact hord x (by omega) y hy hm
    · simp -dsimp only [go_sem, ↓reduceIte, reduceCtorEq, Nat.reduceEqDiff, Nat.reduceAdd, Nat.reduceLeDiff, Nat.reduceMul, Int.reduceBEq, Int.reduceBNe, Int.reduceLT, Int.reduceLE, Int.reduceGT, Int.reduceGE]
      exact ⟨p3, by rw [decide_eq_true]; exact ⟨heq, hin, hnd, fun x hx => hord x (by omega)⟩⟩
end Go.Proofs.Tst
/-
  Relations, rows by rows: plain facts.
-/
namespace Go.Vc
open Go
theorem Rw.ext {B : Nat} {h h' : Heap} {b : Nat} {c : List Value} (r : Rw h b c) (x : Ext B h h') : Rw h' b c := x.rw r
theorem Holder.ext {B : Nat} {h h' : Heap} {s : Nat} {v : Value} {n : Nat} {xs : List Value} {lo : Nat} (w : Holder s h v n xs lo) (x : Ext B h h') : Holder s h' v n xs lo := x.holder w
theorem Rd.ext {B : Nat} {h h' : Heap} {s : Nat} {v : Value} {n : Nat} {xs : List Value} (w : Rd s h v n xs) (x : Ext B h h') : Rd s h' v n xs := x.rd w
theorem PTab.ext {B : Nat} {h h' : Heap} {lo hi pb rb n : Nat} {R : Nat → Nat} {W : Nat → Nat → Nat} {M : Nat → Nat → Bool} (t : PTab h lo hi pb rb n R W M) (x : Ext B h h') : PTab h' lo hi pb rb n R W M := x.ptab t
theorem ProgAt.ext {B : Nat} {h h' : Heap} {lo hi : Nat} {p : Value} {n : Nat} {M : Nat → Nat → Bool} (t : ProgAt h lo hi p n M) (x : Ext B h h') : ProgAt h' lo hi p n M := x.prog t
theorem TabAt.ext {B : Nat} {h h' : Heap} (t : TabAt h) (x : Ext B h h') : TabAt h' := x.tab t
theorem Fr.ext {B : Nat} {h h1 h2 : Heap} (f : Fr 0 0 h h1) (x : Ext B h1 h2) (hB : h.size ≤ B) : Fr 0 0 h h2 := x.fr f hB
theorem Tab.ext {B : Nat} {h h' : Heap} {lo hi : Nat} {s : Value} {n k : Nat} {R : Nat → Nat} {M : Nat → Nat → Bool} (t : Tab h lo hi s n k R M) (x : Ext B h h') : Tab h' lo hi s n k R M :=
  ⟨t.own.ext x, t.top, fun i hi => by obtain ⟨h1, h2⟩ := t.row i hi; exact ⟨h1.ext x, h2⟩, t.inj⟩

theorem PTab.mono' {h : Heap} {lo hi hi' pb rb n : Nat} {R : Nat → Nat} {W : Nat → Nat → Nat} {M : Nat → Nat → Bool} (t : PTab h lo hi pb rb n R W M) (h2 : hi ≤ hi') : PTab h lo hi' pb rb n R W M := by
  have a := t.at_
  refine ⟨t.ptr, t.rows, fun i hi => ?_, t.inj, by omega⟩
  obtain ⟨g1, g2, g3, g4⟩ := t.row i hi
  exact ⟨g1, by omega, by omega, g4⟩
theorem PTab.lower {h : Heap} {lo lo' hi pb rb n : Nat} {R : Nat → Nat} {W : Nat → Nat → Nat} {M : Nat → Nat → Bool} (t : PTab h lo hi pb rb n R W M) (h2 : lo' ≤ lo) : PTab h lo' hi pb rb n R W M := by
  have a := t.at_
  refine ⟨t.ptr, t.rows, fun i hi => ?_, t.inj, by omega⟩
  obtain ⟨g1, g2, g3, g4⟩ := t.row i hi
  exact ⟨g1, by omega, by omega, g4⟩
theorem PTab.congr {h : Heap} {lo hi pb rb n : Nat} {R : Nat → Nat} {W : Nat → Nat → Nat} {M M' : Nat → Nat → Bool} (t : PTab h lo hi pb rb n R W M) (he : ∀ i j, i < n → j < n → M i j = M' i j) : PTab h lo hi pb rb n R W M' := by
  refine ⟨t.ptr, t.rows, fun i hi => ?_, t.inj, t.at_⟩
  obtain ⟨h1, h2, h3, h4, h5, h6⟩ := t.row i hi
  refine ⟨h1, h2, h3, h4, h5, fun j => ⟨(h6 j).1, fun k hk => ?_⟩⟩
  rw [(h6 j).2 k hk]
  by_cases hjk : 64 * j + k < n
  · rw [he i _ hi hjk]
  · simp [hjk]
/-- A whole row is turned. -/
theorem PTab.updRow {h h' : Heap} {lo hi pb rb n : Nat} {R : Nat → Nat} {W : Nat → Nat → Nat} {M : Nat → Nat → Bool} (t : PTab h lo hi pb rb n R W M) {x : Nat} {w : Nat → Nat} {f : Nat → Bool} (hx : x < n) (fr : Fr (R x) (R x + 1) h h')
    (hr : Rw h' (R x) (wrow (nw n) w)) (hb : Bits n w f) : PTab h' lo hi pb rb n R (Vc.upd W x w) (Vc.upd M x f) := by
  obtain ⟨g1, g2, g3, g4, g5, g6⟩ := t.row x hx
  have l1 := t.ptr.lt; have l2 := t.rows.lt
  refine ⟨t.ptr.fr fr (by omega), t.rows.fr fr (by omega), fun i hi => ?_, t.inj, t.at_⟩
  obtain ⟨h1, h2, h3, h4, h5, h6⟩ := t.row i hi
  by_cases hix : i = x
  · subst hix
    rw [upd_same, upd_same]; exact ⟨hr, h2, h3, h4, h5, hb⟩
  · rw [upd_ne _ _ hix, upd_ne _ _ hix]
    have : R i ≠ R x := fun he => hix (t.inj i x hi hx he)
    exact ⟨h1.fr fr (by omega), h2, h3, h4, h5, h6⟩
theorem PTab.le {h : Heap} {lo hi pb rb n : Nat} {R : Nat → Nat} {W : Nat → Nat → Nat} {M : Nat → Nat → Bool} (t : PTab h lo hi pb rb n R W M) : pb < h.size ∧ rb < h.size := ⟨t.ptr.lt, t.rows.lt⟩
theorem Bits.or {n m : Nat} {W V : Nat → Nat} {f g : Nat → Bool} (b : Bits n W f) (c : Bits m V g) (hm : m ≤ n) : Bits n (fun j => if j < nw m then W j ||| V j else W j) fun q => f q || (decide (q < m) && g q) := by
  intro j
  by_cases hj : j < nw m
  · simp only [hj, if_true]
    refine ⟨Nat.or_lt_two_pow (b j).1 (c j).1, fun k hk => ?_⟩
    rw [Nat.testBit_or, (b j).2 k hk, (c j).2 k hk]
    by_cases h1 : 64 * j + k < m
    · have : 64 * j + k < n := by omega
      simp [h1, this]
    · simp [h1]
  · simp only [hj, if_false]
    refine ⟨(b j).1, fun k hk => ?_⟩
    rw [(b j).2 k hk]
    have : ¬ 64 * j + k < m := by unfold nw at hj; omega
    simp [this]
theorem wrow_inj {w v : Nat} {W V : Nat → Nat} (h : wrow w W = wrow v V) : w = v ∧ ∀ i, i < w → W i = V i := by
  have hl : w = v := by have := congrArg List.length h; simpa using this
  subst hl
  refine ⟨rfl, fun i hi => ?_⟩
  have h1 := wrow_get (W := W) hi
  rw [h, wrow_get hi] at h1
  simp only [Option.some.injEq, Value.int.injEq, true_and] at h1
  omega
theorem Rw.inj {h : Heap} {b : Nat} {c d : List Value} (r : Rw h b c) (s : Rw h b d) : c = d := by
  obtain ⟨t, r⟩ := r; obtain ⟨u, s⟩ := s
  unfold Blk at *
  rw [r] at s
  simp only [Option.some.injEq, Obj.cells.injEq] at s
  have := congrArg Array.toList s.1
  simpa using this
theorem wrow_congr {w : Nat} {W V : Nat → Nat} (h : ∀ i, i < w → W i = V i) : wrow w W = wrow w V := by
  unfold wrow; apply List.map_congr_left; intro i hi; rw [h i (List.mem_range.1 hi)]
theorem wrow_upd {w : Nat} {W : Nat → Nat} {j x : Nat} : (wrow w W).set j (.int .u64 (x : Int)) = wrow w (upd W j x) := wrow_set
theorem nw_le {m n : Nat} (h : m ≤ n) : nw m ≤ nw n := by unfold nw; omega

/-! ### Relations as pairs of a size and truths -/
/-- Within a size. -/
def inN (n : Nat) (M : Nat → Nat → Bool) (i j : Nat) : Bool := decide (i < n) && decide (j < n) && M i j
theorem inN_true {n : Nat} {M : Nat → Nat → Bool} {i j : Nat} : inN n M i j = true ↔ i < n ∧ j < n ∧ M i j = true := by simp [inN, and_assoc]
theorem inN_in {n : Nat} {M : Nat → Nat → Bool} {i j : Nat} (hi : i < n) (hj : j < n) : inN n M i j = M i j := by simp [inN, hi, hj]
theorem inN_out {n : Nat} {M : Nat → Nat → Bool} {i j : Nat} (h : ¬ (i < n ∧ j < n)) : inN n M i j = false := by
  rw [Bool.eq_false_iff]; intro h'; have := inN_true.1 h'; exact h ⟨this.1, this.2.1⟩
def unionM (n : Nat) (M : Nat → Nat → Bool) (m : Nat) (N : Nat → Nat → Bool) (i j : Nat) : Bool := inN n M i j || inN m N i j
def interM (n : Nat) (M : Nat → Nat → Bool) (m : Nat) (N : Nat → Nat → Bool) (i j : Nat) : Bool := inN n M i j && inN m N i j
def minusM (n : Nat) (M : Nat → Nat → Bool) (m : Nat) (N : Nat → Nat → Bool) (i j : Nat) : Bool := inN n M i j && !inN m N i j
def compM (n : Nat) (M : Nat → Nat → Bool) (m : Nat) (N : Nat → Nat → Bool) (i j : Nat) : Bool := (List.range n).any fun k => inN n M i k && inN m N k j
theorem compM_true {n m : Nat} {M N : Nat → Nat → Bool} {i j : Nat} : compM n M m N i j = true ↔ ∃ k, inN n M i k = true ∧ inN m N k j = true := by
  simp only [compM, List.any_eq_true, List.mem_range, Bool.and_eq_true]
  exact ⟨fun ⟨k, _, h⟩ => ⟨k, h⟩, fun ⟨k, h1, h2⟩ => ⟨k, (inN_true.1 h1).2.1, h1, h2⟩⟩
def invM (M : Nat → Nat → Bool) (i j : Nat) : Bool := M j i
/-- Is a point in a set? -/
def atB (l : List Bool) (p : Nat) : Bool := l.getD p false
def cutM (M : Nat → Nat → Bool) (r c : List Bool) (i j : Nat) : Bool := M i j && atB r i && atB c j
/-- The closure, point by point. -/
def warM (n : Nat) (M : Nat → Nat → Bool) : Nat → Nat → Nat → Bool
  | 0, i, j => M i j
  | k + 1, i, j => warM n M k i j || (warM n M k i k && warM n M k k j)
def plusM (n : Nat) (M : Nat → Nat → Bool) : Nat → Nat → Bool := warM n M n
def optM (M : Nat → Nat → Bool) (i j : Nat) : Bool := M i j || i == j
def idM (l : List Bool) (i j : Nat) : Bool := i == j && atB l i
def imgB (n : Nat) (M : Nat → Nat → Bool) (l : List Bool) (j : Nat) : Bool := (List.range n).any fun i => atB l i && M i j
def irrB (n : Nat) (M : Nat → Nat → Bool) : Bool := (List.range n).all fun i => !M i i
/-- Booleans in cells. -/
def boolsV (l : List Bool) : List Value := l.map .bool
@[simp] theorem length_boolsV (l : List Bool) : (boolsV l).length = l.length := by simp [boolsV]
theorem boolsV_get {l : List Bool} {i : Nat} {b : Bool} (h : l[i]? = some b) : (boolsV l)[i]? = some (.bool b) := by simp [boolsV, h]
theorem atB_get {l : List Bool} {i : Nat} {b : Bool} (h : l[i]? = some b) : atB l i = b := by simp [atB, h]
theorem atB_out {l : List Bool} {i : Nat} (h : l.length ≤ i) : atB l i = false := by simp [atB, h]
theorem rvc_joint {P : Program} {y : Option Nat} {r : GR} {W : Watch} {e : Env} {h : Heap} {K : Env → Heap → Prop} {α : Type} (E : α → Env) (I : α → Heap → Prop)
    (h1 : rvc P y r W e h (fun e h => ∃ s, Le (E s) e ∧ I s h)) (h2 : ∀ s h, I s h → ∀ e, Le (E s) e → K e h) : rvc P y r W e h K :=
  rvc_mono (fun e h ⟨s, hl, hi⟩ => h2 s h hi e hl) h1
/-- A table in the making: the places up to (p, q) are new. -/
def mixM (p q n : Nat) (N O : Nat → Nat → Bool) (i j : Nat) : Bool := if (i < p ∧ j < n) ∨ (i = p ∧ j < q) then N i j else O i j
theorem mixM_zero {n : Nat} {N O : Nat → Nat → Bool} {i j : Nat} : mixM 0 0 n N O i j = O i j := by unfold mixM; rw [if_neg (by omega)]
theorem mixM_next {p n : Nat} {N O : Nat → Nat → Bool} {i j : Nat} : mixM p n n N O i j = mixM (p + 1) 0 n N O i j := by
  unfold mixM
  by_cases h : (i < p ∧ j < n) ∨ (i = p ∧ j < n)
  · rw [if_pos h, if_pos (by omega)]
  · rw [if_neg h, if_neg (by omega)]
theorem mixM_set {p q n : Nat} {N O : Nat → Nat → Bool} {v : Bool} (hv : v = N p q) {i j : Nat} : (if i = p ∧ j = q then v else mixM p q n N O i j) = mixM p (q + 1) n N O i j := by
  unfold mixM
  by_cases h : i = p ∧ j = q
  · obtain ⟨rfl, rfl⟩ := h
    rw [if_pos ⟨rfl, rfl⟩, if_pos (by omega), hv]
  · rw [if_neg h]
    by_cases h2 : (i < p ∧ j < n) ∨ (i = p ∧ j < q)
    · rw [if_pos h2, if_pos (by omega)]
    · rw [if_neg h2, if_neg (by omega)]
theorem mixM_set' {p q n : Nat} {N O : Nat → Nat → Bool} {v : Bool} (hv : v = N p q) {i j : Nat} : (if i = q ∧ j = p then v else mixM p q n N O j i) = mixM p (q + 1) n N O j i := by
  have := mixM_set (n := n) (O := O) hv (i := j) (j := i)
  rw [← this]
  by_cases h : i = q ∧ j = p
  · rw [if_pos h, if_pos ⟨h.2, h.1⟩]
  · rw [if_neg h, if_neg (fun h' => h ⟨h'.2, h'.1⟩)]
theorem mixM_end {p n : Nat} {N O : Nat → Nat → Bool} {i j : Nat} (hi : i < p) (hj : j < n) : mixM p 0 n N O i j = N i j := by unfold mixM; rw [if_pos (by omega)]
theorem mixM_same {p q n : Nat} {N O : Nat → Nat → Bool} {i j : Nat} (h : i = p) (hj : q ≤ j) : mixM p q n N O i j = O i j := by unfold mixM; rw [if_neg (by omega)]
end Go.Vc
