/-
  Contracts of functions that the law reaches: what each returns and what it leaves in memory. Conditions stand in each.
-/
import Derived.Test.YtgedofjefepebaaDoorG1
set_option linter.all false
set_option maxRecDepth 2000
namespace Go.Vc
open Go
/-! ### Rows of truths -/
def brow (n : Nat) (f : Nat → Bool) : List Value := (List.range n).map fun j => .bool (f j)
@[simp] theorem length_brow (n : Nat) (f : Nat → Bool) : (brow n f).length = n := by simp [brow]
theorem brow_get {n : Nat} {f : Nat → Bool} {j : Nat} (hj : j < n) : (brow n f)[j]? = some (.bool (f j)) := by simp [brow, hj]
theorem brow_congr {n : Nat} {f g : Nat → Bool} (h : ∀ j, j < n → f j = g j) : brow n f = brow n g := by
  apply List.ext_getElem?; intro j
  by_cases hj : j < n
  · rw [brow_get hj, brow_get hj, h j hj]
  · simp [brow, hj]
theorem brow_set {n : Nat} {f : Nat → Bool} {j : Nat} {v : Bool} : (brow n f).set j (.bool v) = brow n fun k => if k = j then v else f k := by
  apply List.ext_getElem?; intro k
  by_cases hk : k < n
  · rw [brow_get hk, List.getElem?_set]
    by_cases hj : j = k
    · subst hj; simp [hk]
    · rw [if_neg hj, brow_get hk, if_neg (fun h => hj h.symm)]
  · rw [List.getElem?_eq_none (by simp; omega), List.getElem?_eq_none (by simp; omega)]
theorem brow_false (n : Nat) : List.replicate n (Value.bool false) = brow n fun _ => false := by
  apply List.ext_getElem?; intro k
  by_cases hk : k < n
  · rw [brow_get hk]; simp [hk]
  · simp [brow, hk]

/-- A slice value with n elements at block b from its first cell on. -/
abbrev sl (b n c : Nat) : Value := .slice (some ⟨b, 0, none⟩) n c

/-- The list of the rows' slices. -/
def rowsV (n : Nat) (R : Nat → Nat) (k : Nat) : List Value := (List.range k).map fun i => sl (R i) n n
@[simp] theorem length_rowsV (n : Nat) (R : Nat → Nat) (k : Nat) : (rowsV n R k).length = k := by simp [rowsV]
theorem rowsV_get {n : Nat} {R : Nat → Nat} {k i : Nat} (hi : i < k) : (rowsV n R k)[i]? = some (sl (R i) n n) := by simp [rowsV, hi]
/-- The table of a reference's relation: k rows of n truths. -/
structure Tab (h : Heap) (lo hi : Nat) (s : Value) (n k : Nat) (R : Nat → Nat) (M : Nat → Nat → Bool) : Prop where
  own : Holder 1 h s k (rowsV n R k) lo
  top : bh s ≤ hi
  row : ∀ i, i < k → Rw h (R i) (brow n (M i)) ∧ lo ≤ R i ∧ R i < hi ∧ R i ≠ bl s
  inj : ∀ i j, i < k → j < k → R i = R j → i = j

theorem Tab.fr {h h' : Heap} {lo hi l r : Nat} {s : Value} {n k : Nat} {R : Nat → Nat} {M : Nat → Nat → Bool} (t : Tab h lo hi s n k R M) (f : Fr l r h h') (hd : hi ≤ l ∨ r ≤ lo ∨ r ≤ l) : Tab h' lo hi s n k R M := by
  refine ⟨t.own.fr f ?_, t.top, fun i hi => ?_, t.inj⟩
  · have := t.own.at_; have := t.top; omega
  · obtain ⟨h1, h2, h3, h4⟩ := t.row i hi; exact ⟨h1.fr f (by omega), h2, h3, h4⟩
theorem Tab.mono {h : Heap} {lo hi lo' hi' : Nat} {s : Value} {n k : Nat} {R : Nat → Nat} {M : Nat → Nat → Bool} (t : Tab h lo hi s n k R M) (h1 : lo' ≤ lo) (h2 : hi ≤ hi') : Tab h lo' hi' s n k R M := by
  refine ⟨⟨t.own.1, ?_⟩, Nat.le_trans t.top h2, fun i hi => ?_, t.inj⟩
  · rcases t.own.2 with h | ⟨b, c, rest, h3, h4, h5, h6⟩
    · exact .inl h
    · exact .inr ⟨b, c, rest, h3, h4, h5, by omega⟩
  · obtain ⟨h1, h2, h3, h4⟩ := t.row i hi; exact ⟨h1, by omega, by omega, h4⟩
theorem Tab.congr {h : Heap} {lo hi : Nat} {s : Value} {n k : Nat} {R : Nat → Nat} {M M' : Nat → Nat → Bool} (t : Tab h lo hi s n k R M) (he : ∀ i j, i < k → j < n → M i j = M' i j) : Tab h lo hi s n k R M' :=
  ⟨t.own, t.top, fun i hi => by obtain ⟨h1, h2⟩ := t.row i hi; exact ⟨by rw [← brow_congr (he i · hi)]; exact h1, h2⟩, t.inj⟩

/-- A relation of the document. -/
def RefAt (h : Heap) (lo hi : Nat) (v : Value) (n : Nat) (M : Nat → Nat → Bool) : Prop :=
  n ≤ 256 ∧ ∃ s R, v = .agg #[.int .i64 n, s] ∧ Tab h lo hi s n n R M
theorem RefAt.fr {h h' : Heap} {lo hi l r : Nat} {v : Value} {n : Nat} {M : Nat → Nat → Bool} (t : RefAt h lo hi v n M) (f : Fr l r h h') (hd : hi ≤ l ∨ r ≤ lo ∨ r ≤ l) : RefAt h' lo hi v n M := by
  obtain ⟨hn, s, R, hv, ht⟩ := t; exact ⟨hn, s, R, hv, ht.fr f hd⟩
theorem RefAt.mono {h : Heap} {lo hi lo' hi' : Nat} {v : Value} {n : Nat} {M : Nat → Nat → Bool} (t : RefAt h lo hi v n M) (h1 : lo' ≤ lo) (h2 : hi ≤ hi') : RefAt h lo' hi' v n M := by
  obtain ⟨hn, s, R, hv, ht⟩ := t; exact ⟨hn, s, R, hv, ht.mono h1 h2⟩
theorem RefAt.congr {h : Heap} {lo hi : Nat} {v : Value} {n : Nat} {M M' : Nat → Nat → Bool} (t : RefAt h lo hi v n M) (he : ∀ i j, i < n → j < n → M i j = M' i j) : RefAt h lo hi v n M' := by
  obtain ⟨hn, s, R, hv, ht⟩ := t; exact ⟨hn, s, R, hv, ht.congr he⟩
/-- A row's slice, read. -/
theorem Tab.idx {h : Heap} {lo hi : Nat} {a : Option Addr} {c n k : Nat} {R : Nat → Nat} {M : Nat → Nat → Bool} {K : Nat → Nat → Prop} {d : Dep K} (t : Tab h lo hi (.slice a k c) n k R M) {p : Nat} (hp : p < k)
    (hk : ∀ b o, hcell h b (o + p) = some (sl (R p) n n) → K b o) : withAd a K d :=
  t.own.rd.idx (by omega) fun b o hc => hk b o (hc p _ (rowsV_get hp))
theorem Tab.cell {h : Heap} {lo hi : Nat} {s : Value} {n k : Nat} {R : Nat → Nat} {M : Nat → Nat → Bool} (t : Tab h lo hi s n k R M) {p q : Nat} (hp : p < k) (hq : q < n) : hcell h (R p) q = some (.bool (M p q)) := by
  rw [(t.row p hp).1.cell, brow_get hq]
theorem Tab.wr {h : Heap} {lo hi : Nat} {s : Value} {n k : Nat} {R : Nat → Nat} {M : Nat → Nat → Bool} (t : Tab h lo hi s n k R M) {p q : Nat} (hp : p < k) (hq : q < n) : Wr h (R p) q 1 :=
  (t.row p hp).1.wr (by simp; omega)
/-- A truth written. -/
theorem Tab.set {h h' : Heap} {lo hi : Nat} {s : Value} {n k : Nat} {R : Nat → Nat} {M : Nat → Nat → Bool} (t : Tab h lo hi s n k R M) {p q : Nat} {v : Bool} (hp : p < k) (st : Sto h h' (R p) q [.bool v]) :
    Tab h' lo hi s n k R fun i j => if i = p ∧ j = q then v else M i j := by
  have w := t.own.at_
  have hr := (t.row p hp).2.2.2
  refine ⟨t.own.fr st.fr (by omega), t.top, fun i hi => ?_, t.inj⟩
  obtain ⟨h1, h2, h3, h4⟩ := t.row i hi
  by_cases hip : i = p
  · subst hip
    have := st.row h1
    rw [putAt_one, brow_set] at this
    refine ⟨?_, h2, h3, h4⟩
    simpa using this
  · have hne : R i ≠ R p := fun he => hip (t.inj i p hi hp he)
    refine ⟨?_, h2, h3, h4⟩
    have := st.rw h1 hne
    simpa [hip] using this
end Go.Vc
/-
  Vectors of cells; what Glue answers.
-/
namespace Go.Vc
open Go
theorem Holder.top {s : Nat} {h : Heap} {v : Value} {n : Nat} {xs : List Value} {lo : Nat} (w : Holder s h v n xs lo) : bh v ≤ h.size := by
  have := w.at_; omega
def upd {α : Type} (f : Nat → α) (p : Nat) (v : α) : Nat → α := fun q => if q = p then v else f q
theorem upd_same {α : Type} (f : Nat → α) (p : Nat) (v : α) : upd f p v p = v := by simp [upd]
theorem upd_ne {α : Type} (f : Nat → α) {p q : Nat} (v : α) (h : q ≠ p) : upd f p v q = f q := by simp [upd, h]
/-- Integers in cells, by place. -/
def ivec (n : Nat) (c : Nat → Int) : List Value := (List.range n).map fun p => Value.int .i64 (c p)
@[simp] theorem length_ivec (n : Nat) (c : Nat → Int) : (ivec n c).length = n := by simp [ivec]
theorem ivec_get {n : Nat} {c : Nat → Int} {p : Nat} (hp : p < n) : (ivec n c)[p]? = some (.int .i64 (c p)) := by simp [ivec, hp]
theorem ivec_congr {n : Nat} {c d : Nat → Int} (h : ∀ p, p < n → c p = d p) : ivec n c = ivec n d := by
  unfold ivec; apply List.map_congr_left; intro i hi; rw [h i (List.mem_range.1 hi)]
theorem ivec_set {n : Nat} {c : Nat → Int} {p : Nat} {x : Int} : (ivec n c).set p (.int .i64 x) = ivec n (upd c p x) := by
  apply List.ext_getElem?; intro k
  by_cases hk : k < n
  · rw [ivec_get hk, List.getElem?_set]
    by_cases hj : p = k
    · subst hj; simp [hk, upd]
    · rw [if_neg hj, ivec_get hk, upd_ne _ _ (fun h => hj h.symm)]
  · rw [List.getElem?_eq_none (by simp; omega), List.getElem?_eq_none (by simp; omega)]
theorem ivec_rep (n : Nat) (x : Int) : List.replicate n (Value.int .i64 x) = ivec n fun _ => x := by
  apply List.ext_getElem?; intro k
  by_cases hk : k < n
  · rw [ivec_get hk]; simp [hk]
  · rw [List.getElem?_eq_none (by simp; omega), List.getElem?_eq_none (by simp; omega)]

theorem brow_upd {n : Nat} {f : Nat → Bool} {j : Nat} {v : Bool} : (brow n f).set j (.bool v) = brow n (upd f j v) := brow_set

theorem neg_ge0 : ((-1 : Int) ≥ 0) = False := by simp
theorem neg_lt0 : ((-1 : Int) < 0) = True := by simp
theorem nat_ge0 (x : Nat) : ((x : Int) ≥ 0) = True := by simp
theorem nat_lt0 (x : Nat) : ((x : Int) < 0) = False := by simp
attribute [go_sem] nx_some nx_none neg_ge0 neg_lt0 nat_ge0 nat_lt0
/-! ### Glue -/
def badP (n : Nat) (U : Nat → Bool) (p : Int × Int) : Prop := p.1 < 0 ∨ p.1 ≥ (n : Int) ∨ p.2 < 0 ∨ p.2 ≥ (n : Int) ∨ p.1 = p.2 ∨ U p.1.toNat = true ∨ U p.2.toNat = true
instance (n : Nat) (U : Nat → Bool) (p : Int × Int) : Decidable (badP n U p) := by unfold badP; infer_instance
/-- Of the pairs: for each point the first of its unit, and its second, -1 for none. -/
def glueIn (n : Nat) : List (Int × Int) → (Nat → Bool) → (Nat → Nat) → (Nat → Int) → Option ((Nat → Nat) × (Nat → Int))
  | [], _, F, S => some (F, S)
  | p :: l, U, F, S => if badP n U p then none else glueIn n l (upd (upd U p.1.toNat true) p.2.toNat true) (upd F p.2.toNat p.1.toNat) (upd S p.1.toNat p.2)
def glueFS (n : Nat) (l : List (Int × Int)) : Option ((Nat → Nat) × (Nat → Int)) := glueIn n l (fun _ => false) (fun p => p) (fun _ => -1)

structure GluI (n : Nat) (U : Nat → Bool) (F : Nat → Nat) (S : Nat → Int) : Prop where
  lt : ∀ p, p < n → F p < n
  free : ∀ p, p < n → U p = false → F p = p ∧ S p = -1
  snd : ∀ p, p < n → S p = -1 ∨ ∃ q, q < n ∧ S p = (q : Int) ∧ q ≠ p ∧ F q = p ∧ F p = p
  fst : ∀ q, q < n → F q ≠ q → S (F q) = (q : Int) ∧ F (F q) = F q
theorem GluI.start (n : Nat) : GluI n (fun _ => false) (fun p => p) (fun _ => -1) :=
  ⟨fun _ h => h, fun _ _ _ => ⟨rfl, rfl⟩, fun _ _ => .inl rfl, fun _ _ h => absurd rfl h⟩
theorem GluI.step {n : Nat} {U : Nat → Bool} {F : Nat → Nat} {S : Nat → Int} (g : GluI n U F S) {a b : Nat} (ha : a < n) (hb : b < n) (hab : a ≠ b) (ua : U a = false) (ub : U b = false) :
    GluI n (upd (upd U a true) b true) (upd F b a) (upd S a (b : Int)) := by
  have fa := g.free a ha ua
  have fb := g.free b hb ub
  refine ⟨fun p hp => ?_, fun p hp hu => ?_, fun p hp => ?_, fun q hq hF => ?_⟩
  · by_cases h : p = b
    · subst h; rw [upd_same]; exact ha
    · rw [upd_ne _ _ h]; exact g.lt p hp
  · by_cases h : p = b
    · subst h; rw [upd_same] at hu; cases hu
    · rw [upd_ne _ _ h] at hu ⊢
      by_cases h' : p = a
      · subst h'; rw [upd_same] at hu; cases hu
      · rw [upd_ne _ _ h'] at hu ⊢; exact g.free p hp hu
  · by_cases h : p = a
    · subst h; rw [upd_same]
      exact .inr ⟨b, hb, rfl, Ne.symm hab, by rw [upd_same], by rw [upd_ne _ _ hab]; exact fa.1⟩
    · rw [upd_ne _ _ h]
      rcases g.snd p hp with h1 | ⟨q, h1, h2, h3, h4, h5⟩
      · exact .inl h1
      · by_cases hqb : q = b
        · subst hqb; rw [fb.1] at h4; exact absurd h4 h3
        · refine .inr ⟨q, h1, h2, h3, by rw [upd_ne _ _ hqb]; exact h4, ?_⟩
          by_cases hpb : p = b
          · subst hpb; rw [fb.2] at h2; omega
          · rw [upd_ne _ _ hpb]; exact h5
  · by_cases h : q = b
    · subst h; rw [upd_same] at hF ⊢
      rw [upd_same, upd_ne _ _ hab]; exact ⟨rfl, fa.1⟩
    · rw [upd_ne _ _ h] at hF ⊢
      obtain ⟨h1, h2⟩ := g.fst q hq hF
      have hFb : F q ≠ b := fun e => by rw [e, fb.2] at h1; omega
      have hFa : F q ≠ a := fun e => by rw [e, fa.2] at h1; omega
      rw [upd_ne _ _ hFa, upd_ne _ _ hFb]; exact ⟨h1, h2⟩
/-- The relation between the units. -/
def glueM (n : Nat) (M : Nat → Nat → Bool) (F : Nat → Nat) (S : Nat → Int) (x y : Nat) : Bool :=
  (List.range n).any fun p => (List.range n).any fun q => M p q && !(S p == (q : Int)) && F p == x && F q == y
theorem glueM_true {n : Nat} {M : Nat → Nat → Bool} {F : Nat → Nat} {S : Nat → Int} {x y : Nat} : glueM n M F S x y = true ↔ ∃ p, p < n ∧ ∃ q, q < n ∧ M p q = true ∧ S p ≠ (q : Int) ∧ F p = x ∧ F q = y := by
  simp only [glueM, List.any_eq_true, List.mem_range, Bool.and_eq_true, Bool.not_eq_true', beq_eq_false_iff_ne, beq_iff_eq, and_assoc, ne_eq]
theorem lf_and (f g : Nat → Bool) (n : Nat) : ∀ (d q : Nat), n - q = d → (lf f n q = none → lf (fun p => g p && f p) n q = none) ∧ ∀ x, lf f n q = some x → (g x = true → lf (fun p => g p && f p) n q = some x) ∧ (g x = false → lf (fun p => g p && f p) n q = lf (fun p => g p && f p) n (x + 1))
  | 0, q, h => by
    rw [lf_end f (by omega), lf_end (fun p => g p && f p) (by omega)]
    exact ⟨fun _ => rfl, fun x h => by cases h⟩
  | d + 1, q, h => by
    have ih := lf_and f g n d (q + 1) (by omega)
    rw [lf_step f (by omega), lf_step (fun p => g p && f p) (q := q) (by omega)]
    cases hf : f q with
    | false => simp; exact ih
    | true =>
      simp
      cases hg : g q with
      | true => simp
      | false => simp
/-- What of the units is placed stays together. -/
theorem GluI.keep {n : Nat} {U : Nat → Bool} {F : Nat → Nat} {S : Nat → Int} (g : GluI n U F S) {m : List Nat} {x : Nat} (hx : x < n) (hm : ∀ q, q < n → F q ≠ q → m.contains q = m.contains (F q)) (hF : F x = x) :
    ∀ q, q < n → F q ≠ q → (if S x ≥ 0 then m ++ [x] ++ [(S x).toNat] else m ++ [x]).contains q = (if S x ≥ 0 then m ++ [x] ++ [(S x).toNat] else m ++ [x]).contains (F q) := by
  intro q hq hFq
  have h0 := hm q hq hFq
  obtain ⟨h1, h2⟩ := g.fst q hq hFq
  have hqx : q ≠ x := by rintro rfl; exact hFq hF
  rcases g.snd x hx with hs | ⟨y, hy, hs, hyx, hyF, hxF⟩
  · rw [hs, if_neg (by decide)]
    have : F q ≠ x := fun e => by rw [e, hs] at h1; omega
    simp only [List.contains_append, List.contains_cons, List.contains_nil, Bool.or_false]
    rw [h0, beq_eq_false_iff_ne.2 hqx, beq_eq_false_iff_ne.2 this]
  · rw [hs, if_pos (by omega), Int.toNat_natCast]
    simp only [List.contains_append, List.contains_cons, List.contains_nil, Bool.or_false]
    by_cases hqy : q = y
    · subst hqy; rw [hyF]; simp
    · have h3 : F q ≠ x := fun e => by rw [e, hs] at h1; omega
      have h4 : F q ≠ y := fun e => by rw [e] at h2; rw [hyF] at h2; exact hyx h2.symm
      rw [h0, beq_eq_false_iff_ne.2 hqx, beq_eq_false_iff_ne.2 h3, beq_eq_false_iff_ne.2 hqy, beq_eq_false_iff_ne.2 h4]
end Go.Vc
namespace Go.Proofs.Tst
open Go Go.Vc
def clampN (n : Int) : Nat := min n.toNat 256
end Go.Proofs.Tst
namespace Go.Proofs.Tst
open Go Go.Vc
/-- Is a number a point? -/
def inR (n a : Int) : Bool := decide (0 ≤ a ∧ a < n)
/-- The pairs that a list lays into n points. -/
def ofM (n : Nat) (l : List (Int × Int)) (i j : Nat) : Bool := l.any fun p => inR n p.1 && inR n p.2 && p.1 == i && p.2 == j

theorem ofM_take {n : Nat} {l : List (Int × Int)} {i : Nat} {p : Int × Int} (hp : l[i]? = some p) (x y : Nat) : ofM n (l.take (i + 1)) x y = (ofM n (l.take i) x y || (inR n p.1 && inR n p.2 && p.1 == x && p.2 == y)) := by
  simp only [ofM, List.take_add_one, hp, Option.toList_some, List.any_append, List.any_cons, List.any_nil, Bool.or_false]
end Go.Proofs.Tst
namespace Go.Proofs.Tst
open Go Go.Vc
/-- May a point come next? -/
def freeB (n : Nat) (M : Nat → Nat → Bool) (D : Nat → Bool) (p : Nat) : Bool := !D p && (List.range n).all fun a => !M a p || D a
theorem freeB_true {n : Nat} {M : Nat → Nat → Bool} {D : Nat → Bool} {p : Nat} : freeB n M D p = true ↔ D p = false ∧ ∀ a, a < n → M a p = true → D a = true := by
  simp only [freeB, Bool.and_eq_true, Bool.not_eq_true', List.all_eq_true, List.mem_range, Bool.or_eq_true]
  refine and_congr_right fun _ => forall_congr' fun a => forall_congr' fun _ => ?_
  cases M a p <;> simp
/-- The order that is made step by step: each time the least free point. -/
def sortGo (n : Nat) (M : Nat → Nat → Bool) : Nat → List Nat → Option (List Nat)
  | 0, l => some l
  | k + 1, l => match lf (freeB n M l.contains) n 0 with
    | none => none
    | some p => sortGo n M k (l ++ [p])
def sortS (n : Nat) (M : Nat → Nat → Bool) : Option (List Nat) := sortGo n M n []

/-- What a function hands back that tells a list, or an error's number. -/
def ListOr (h : Heap) (lo : Nat) (e : Int) (v : Value) (o : Option (List Nat)) : Prop :=
  match o with
  | some l => ∃ s, v = .tuple #[s, .int .i64 0] ∧ Holder 1 h s l.length (natsV l) lo
  | none => v = .tuple #[.slice none 0 0, .int .i64 e]

end Go.Proofs.Tst
namespace Go.Proofs.Tst
open Go Go.Vc
/-- Is a list all points once, each pair in order? -/
def LinP (n : Nat) (M : Nat → Nat → Bool) (l : List Int) : Prop :=
  l.length = n ∧ (∀ x ∈ l, 0 ≤ x ∧ x < (n : Int)) ∧ l.Nodup ∧ ∀ a, a < n → ∀ b, b < n → M a b = true → l.idxOf (a : Int) < l.idxOf (b : Int)
instance (n : Nat) (M : Nat → Nat → Bool) (l : List Int) : Decidable (LinP n M l) := by unfold LinP; infer_instance

/-- The places, from 1 on, of the first i elements. -/
def placeV (n : Nat) (l : List Int) : List Value := (List.range n).map fun (p : Nat) => Value.int .i64 (if (p : Int) ∈ l then ((l.idxOf (p : Int) + 1 : Nat) : Int) else 0)
theorem length_placeV (n : Nat) (l : List Int) : (placeV n l).length = n := by simp [placeV]
theorem placeV_get {n : Nat} {l : List Int} {p : Nat} (hp : p < n) : (placeV n l)[p]? = some (.int .i64 (if (p : Int) ∈ l then ((l.idxOf (p : Int) + 1 : Nat) : Int) else 0)) := by simp [placeV, hp]
theorem placeV_nil (n : Nat) : List.replicate n (Value.int .i64 0) = placeV n [] := by
  apply List.ext_getElem?; intro k
  by_cases hk : k < n
  · rw [placeV_get hk]; simp [hk]
  · rw [List.getElem?_eq_none (by simp; omega), List.getElem?_eq_none (by simp [placeV]; omega)]
theorem placeV_put {n : Nat} {l : List Int} {p : Nat} (hp : p < n) (hn : (p : Int) ∉ l) : (placeV n l).set p (.int .i64 ((l.length + 1 : Nat) : Int)) = placeV n (l ++ [(p : Int)]) := by
  apply List.ext_getElem?; intro k
  by_cases hk : k < n
  · rw [placeV_get hk, List.getElem?_set]
    by_cases hpk : p = k
    · subst hpk
      simp [length_placeV, hp, List.idxOf_append, hn]
    · rw [if_neg hpk, placeV_get hk]
      have : ((k : Int) = (p : Int)) = False := by simp; omega
      by_cases hm : (k : Int) ∈ l
      · simp [hm, List.idxOf_append]
      · simp [hm, this]
  · rw [List.getElem?_eq_none (by simp [placeV]; omega), List.getElem?_eq_none (by simp [placeV]; omega)]

theorem nodup_le : ∀ {l m : List Int}, l.Nodup → (∀ x ∈ l, x ∈ m) → l.length ≤ m.length
  | [], m, _, _ => by simp
  | x :: l, m, hd, hs => by
    have hx := hs x (by simp)
    have hd' := List.nodup_cons.1 hd
    have := nodup_le (m := m.erase x) hd'.2 fun y hy => (List.mem_erase_of_ne (by rintro rfl; exact hd'.1 hy)).2 (hs y (by simp [hy]))
    rw [List.length_erase_of_mem hx] at this
    have := List.length_pos_of_mem hx
    simp; omega
/-- A list of n numbers below n, none twice, has them all. -/
theorem nodup_all {n : Nat} {l : List Int} (hl : l.length = n) (hin : ∀ x ∈ l, 0 ≤ x ∧ x < (n : Int)) (hnd : l.Nodup) {p : Nat} (hp : p < n) : (p : Int) ∈ l := by
  apply Classical.byContradiction
  intro hn
  have := nodup_le (l := (p : Int) :: l) (m := (List.range n).map fun (q : Nat) => (q : Int)) (List.nodup_cons.2 ⟨hn, hnd⟩) fun x hx => by
    rcases List.mem_cons.1 hx with rfl | hx
    · exact List.mem_map.2 ⟨p, List.mem_range.2 hp, rfl⟩
    · obtain ⟨h1, h2⟩ := hin x hx
      exact List.mem_map.2 ⟨x.toNat, List.mem_range.2 (by omega), by omega⟩
  simp at this; omega

end Go.Proofs.Tst
/-
  Relations, rows by rows: plain facts.
-/
namespace Go.Vc
open Go
theorem Rw.ext {B : Nat} {h h' : Heap} {b : Nat} {c : List Value} (r : Rw h b c) (x : Ext B h h') : Rw h' b c := x.rw r
theorem Holder.ext {B : Nat} {h h' : Heap} {s : Nat} {v : Value} {n : Nat} {xs : List Value} {lo : Nat} (w : Holder s h v n xs lo) (x : Ext B h h') : Holder s h' v n xs lo := x.holder w
theorem Rd.ext {B : Nat} {h h' : Heap} {s : Nat} {v : Value} {n : Nat} {xs : List Value} (w : Rd s h v n xs) (x : Ext B h h') : Rd s h' v n xs := x.rd w
theorem PTab.ext {B : Nat} {h h' : Heap} {lo hi pb rb n : Nat} {R : Nat → Nat} {W : Nat → Nat → Nat} {M : Nat → Nat → Bool} (t : PTab h lo hi pb rb n R W M) (x : Ext B h h') : PTab h' lo hi pb rb n R W M := x.ptab t
theorem ProgAt.ext {B : Nat} {h h' : Heap} {lo hi : Nat} {p : Value} {n : Nat} {M : Nat → Nat → Bool} (t : ProgAt h lo hi p n M) (x : Ext B h h') : ProgAt h' lo hi p n M := x.prog t
theorem TabAt.ext {B : Nat} {h h' : Heap} (t : TabAt h) (x : Ext B h h') : TabAt h' := x.tab t
theorem Fr.ext {B : Nat} {h h1 h2 : Heap} (f : Fr 0 0 h h1) (x : Ext B h1 h2) (hB : h.size ≤ B) : Fr 0 0 h h2 := x.fr f hB
theorem Tab.ext {B : Nat} {h h' : Heap} {lo hi : Nat} {s : Value} {n k : Nat} {R : Nat → Nat} {M : Nat → Nat → Bool} (t : Tab h lo hi s n k R M) (x : Ext B h h') : Tab h' lo hi s n k R M :=
  ⟨t.own.ext x, t.top, fun i hi => by obtain ⟨h1, h2⟩ := t.row i hi; exact ⟨h1.ext x, h2⟩, t.inj⟩

theorem PTab.mono' {h : Heap} {lo hi hi' pb rb n : Nat} {R : Nat → Nat} {W : Nat → Nat → Nat} {M : Nat → Nat → Bool} (t : PTab h lo hi pb rb n R W M) (h2 : hi ≤ hi') : PTab h lo hi' pb rb n R W M := by
  have a := t.at_
  refine ⟨t.ptr, t.rows, fun i hi => ?_, t.inj, by omega⟩
  obtain ⟨g1, g2, g3, g4⟩ := t.row i hi
  exact ⟨g1, by omega, by omega, g4⟩
theorem PTab.lower {h : Heap} {lo lo' hi pb rb n : Nat} {R : Nat → Nat} {W : Nat → Nat → Nat} {M : Nat → Nat → Bool} (t : PTab h lo hi pb rb n R W M) (h2 : lo' ≤ lo) : PTab h lo' hi pb rb n R W M := by
  have a := t.at_
  refine ⟨t.ptr, t.rows, fun i hi => ?_, t.inj, by omega⟩
  obtain ⟨g1, g2, g3, g4⟩ := t.row i hi
  exact ⟨g1, by omega, by omega, g4⟩
theorem PTab.congr {h : Heap} {lo hi pb rb n : Nat} {R : Nat → Nat} {W : Nat → Nat → Nat} {M M' : Nat → Nat → Bool} (t : PTab h lo hi pb rb n R W M) (he : ∀ i j, i < n → j < n → M i j = M' i j) : PTab h lo hi pb rb n R W M' := by
  refine ⟨t.ptr, t.rows, fun i hi => ?_, t.inj, t.at_⟩
  obtain ⟨h1, h2, h3, h4, h5, h6⟩ := t.row i hi
  refine ⟨h1, h2, h3, h4, h5, fun j => ⟨(h6 j).1, fun k hk => ?_⟩⟩
  rw [(h6 j).2 k hk]
  by_cases hjk : 64 * j + k < n
  · rw [he i _ hi hjk]
  · simp [hjk]
/-- A whole row is turned. -/
theorem PTab.updRow {h h' : Heap} {lo hi pb rb n : Nat} {R : Nat → Nat} {W : Nat → Nat → Nat} {M : Nat → Nat → Bool} (t : PTab h lo hi pb rb n R W M) {x : Nat} {w : Nat → Nat} {f : Nat → Bool} (hx : x < n) (fr : Fr (R x) (R x + 1) h h')
    (hr : Rw h' (R x) (wrow (nw n) w)) (hb : Bits n w f) : PTab h' lo hi pb rb n R (Vc.upd W x w) (Vc.upd M x f) := by
  obtain ⟨g1, g2, g3, g4, g5, g6⟩ := t.row x hx
  have l1 := t.ptr.lt; have l2 := t.rows.lt
  refine ⟨t.ptr.fr fr (by omega), t.rows.fr fr (by omega), fun i hi => ?_, t.inj, t.at_⟩
  obtain ⟨h1, h2, h3, h4, h5, h6⟩ := t.row i hi
  by_cases hix : i = x
  · subst hix
    rw [upd_same, upd_same]; exact ⟨hr, h2, h3, h4, h5, hb⟩
  · rw [upd_ne _ _ hix, upd_ne _ _ hix]
    have : R i ≠ R x := fun he => hix (t.inj i x hi hx he)
    exact ⟨h1.fr fr (by omega), h2, h3, h4, h5, h6⟩
theorem Bits.or {n m : Nat} {W V : Nat → Nat} {f g : Nat → Bool} (b : Bits n W f) (c : Bits m V g) (hm : m ≤ n) : Bits n (fun j => if j < nw m then W j ||| V j else W j) fun q => f q || (decide (q < m) && g q) := by
  intro j
  by_cases hj : j < nw m
  · simp only [hj, if_true]
    refine ⟨Nat.or_lt_two_pow (b j).1 (c j).1, fun k hk => ?_⟩
    rw [Nat.testBit_or, (b j).2 k hk, (c j).2 k hk]
    by_cases h1 : 64 * j + k < m
    · have : 64 * j + k < n := by omega
      simp [h1, this]
    · simp [h1]
  · simp only [hj, if_false]
    refine ⟨(b j).1, fun k hk => ?_⟩
    rw [(b j).2 k hk]
    have : ¬ 64 * j + k < m := by unfold nw at hj; omega
    simp [this]
theorem wrow_inj {w v : Nat} {W V : Nat → Nat} (h : wrow w W = wrow v V) : w = v ∧ ∀ i, i < w → W i = V i := by
  have hl : w = v := by have := congrArg List.length h; simpa using this
  subst hl
  refine ⟨rfl, fun i hi => ?_⟩
  have h1 := wrow_get (W := W) hi
  rw [h, wrow_get hi] at h1
  simp only [Option.some.injEq, Value.int.injEq, true_and] at h1
  omega
theorem Rw.inj {h : Heap} {b : Nat} {c d : List Value} (r : Rw h b c) (s : Rw h b d) : c = d := by
  obtain ⟨t, r⟩ := r; obtain ⟨u, s⟩ := s
  unfold Blk at *
  rw [r] at s
  simp only [Option.some.injEq, Obj.cells.injEq] at s
  have := congrArg Array.toList s.1
  simpa using this
theorem wrow_congr {w : Nat} {W V : Nat → Nat} (h : ∀ i, i < w → W i = V i) : wrow w W = wrow w V := by
  unfold wrow; apply List.map_congr_left; intro i hi; rw [h i (List.mem_range.1 hi)]
theorem wrow_upd {w : Nat} {W : Nat → Nat} {j x : Nat} : (wrow w W).set j (.int .u64 (x : Int)) = wrow w (upd W j x) := wrow_set
/-! ### Relations as pairs of a size and truths -/
/-- Within a size. -/
def inN (n : Nat) (M : Nat → Nat → Bool) (i j : Nat) : Bool := decide (i < n) && decide (j < n) && M i j
theorem inN_true {n : Nat} {M : Nat → Nat → Bool} {i j : Nat} : inN n M i j = true ↔ i < n ∧ j < n ∧ M i j = true := by simp [inN, and_assoc]
theorem inN_in {n : Nat} {M : Nat → Nat → Bool} {i j : Nat} (hi : i < n) (hj : j < n) : inN n M i j = M i j := by simp [inN, hi, hj]
theorem inN_out {n : Nat} {M : Nat → Nat → Bool} {i j : Nat} (h : ¬ (i < n ∧ j < n)) : inN n M i j = false := by
  rw [Bool.eq_false_iff]; intro h'; have := inN_true.1 h'; exact h ⟨this.1, this.2.1⟩
def minusM (n : Nat) (M : Nat → Nat → Bool) (m : Nat) (N : Nat → Nat → Bool) (i j : Nat) : Bool := inN n M i j && !inN m N i j
def compM (n : Nat) (M : Nat → Nat → Bool) (m : Nat) (N : Nat → Nat → Bool) (i j : Nat) : Bool := (List.range n).any fun k => inN n M i k && inN m N k j
theorem compM_true {n m : Nat} {M N : Nat → Nat → Bool} {i j : Nat} : compM n M m N i j = true ↔ ∃ k, inN n M i k = true ∧ inN m N k j = true := by
  simp only [compM, List.any_eq_true, List.mem_range, Bool.and_eq_true]
  exact ⟨fun ⟨k, _, h⟩ => ⟨k, h⟩, fun ⟨k, h1, h2⟩ => ⟨k, (inN_true.1 h1).2.1, h1, h2⟩⟩
/-- The closure, point by point. -/
def warM (n : Nat) (M : Nat → Nat → Bool) : Nat → Nat → Nat → Bool
  | 0, i, j => M i j
  | k + 1, i, j => warM n M k i j || (warM n M k i k && warM n M k k j)
def plusM (n : Nat) (M : Nat → Nat → Bool) : Nat → Nat → Bool := warM n M n
def irrB (n : Nat) (M : Nat → Nat → Bool) : Bool := (List.range n).all fun i => !M i i
/-- Booleans in cells. -/
def boolsV (l : List Bool) : List Value := l.map .bool
@[simp] theorem length_boolsV (l : List Bool) : (boolsV l).length = l.length := by simp [boolsV]
theorem rvc_joint {P : Program} {y : Option Nat} {r : GR} {W : Watch} {e : Env} {h : Heap} {K : Env → Heap → Prop} {α : Type} (E : α → Env) (I : α → Heap → Prop)
    (h1 : rvc P y r W e h (fun e h => ∃ s, Le (E s) e ∧ I s h)) (h2 : ∀ s h, I s h → ∀ e, Le (E s) e → K e h) : rvc P y r W e h K :=
  rvc_mono (fun e h ⟨s, hl, hi⟩ => h2 s h hi e hl) h1
end Go.Vc
/-
  How far it is to a point; a least cycle.
-/
namespace Go.Vc
def lay (n : Nat) (M : Nat → Nat → Bool) (p : Nat) (F : Nat → Nat) (k i : Nat) : Bool := if k = 0 then M i p else (List.range n).any fun j => M i j && F j == k
/-- How many steps it takes to come to p, k at the most; 0: not known. -/
def farK (n : Nat) (M : Nat → Nat → Bool) (p : Nat) : Nat → Nat → Nat
  | 0, _ => 0
  | k + 1, i => if farK n M p k i ≠ 0 then farK n M p k i else if lay n M p (farK n M p k) k i = true then k + 1 else 0
section
variable {n : Nat} {M : Nat → Nat → Bool} {p : Nat}
theorem lay_succ {F : Nat → Nat} {k i : Nat} : lay n M p F (k + 1) i = true ↔ ∃ j, j < n ∧ M i j = true ∧ F j = k + 1 := by
  simp [lay, List.any_eq_true]
/-- How many are known. -/
def known (n : Nat) (M : Nat → Nat → Bool) (p k : Nat) : Nat := (List.range n).countP fun i => farK n M p k i != 0
theorem countP_lt {f g : Nat → Bool} : ∀ (m x : Nat), x < m → (∀ i, f i = true → g i = true) → f x = false → g x = true → (List.range m).countP f < (List.range m).countP g
  | 0, x, h, _, _, _ => by omega
  | m + 1, x, h, hfg, h1, h2 => by
    rw [List.range_succ, List.countP_append, List.countP_append, List.countP_singleton, List.countP_singleton]
    have hmono : ∀ k, (List.range k).countP f ≤ (List.range k).countP g := fun k => List.countP_mono_left fun i _ hi => hfg i hi
    by_cases hx : x = m
    · subst hx
      rw [h1, h2]; have := hmono x; simp; omega
    · have := countP_lt m x (by omega) hfg h1 h2
      have h3 : (if f m = true then 1 else 0) ≤ (if g m = true then 1 else 0) := by
        by_cases hf : f m = true
        · rw [if_pos hf, if_pos (hfg m hf)]; exact Nat.le_refl _
        · rw [if_neg hf]; omega
      omega
end
theorem lf_none {f : Nat → Bool} {n q : Nat} (h : lf f n q = none) : ∀ x, q ≤ x → x < n → f x = false := fun x h1 h2 => by
  unfold lf at h
  have := List.find?_eq_none.1 h x (List.mem_range'_1.2 ⟨h1, by omega⟩)
  simpa using this
theorem lf_least {f : Nat → Bool} {n q x : Nat} (h : lf f n q = some x) : ∀ y, q ≤ y → y < x → f y = false := by
  obtain ⟨h1, h2, _⟩ := lf_some h
  intro y hy hyx
  have hr : ∀ d q, n - q = d → lf f n q = some x → ∀ y, q ≤ y → y < x → f y = false := by
    intro d
    induction d with
    | zero => intro q hq h'; rw [lf_end f (by omega)] at h'; cases h'
    | succ d ih =>
      intro q hq h' y hy hyx
      rw [lf_step f (by omega)] at h'
      cases hf : f q with
      | true => rw [if_pos hf] at h'; cases h'; omega
      | false =>
        rw [if_neg (by simp [hf])] at h'
        by_cases hyq : y = q
        · subst hyq; exact hf
        · exact ih (q + 1) (by omega) h' y (by omega) hyx
  exact hr _ q rfl h y hy hyx
theorem lf_is {f : Nat → Bool} {n q x : Nat} (h1 : q ≤ x) (h2 : x < n) (h3 : f x = true) (h4 : ∀ y, q ≤ y → y < x → f y = false) : lf f n q = some x := by
  cases h : lf f n q with
  | none => have := lf_none h x h1 h2; rw [this] at h3; cases h3
  | some y =>
    obtain ⟨g1, g2, g3⟩ := lf_some h
    by_cases hyx : y < x
    · have := h4 y g1 hyx; rw [this] at g3; cases g3
    · by_cases hxy : x < y
      · have := lf_least h x h1 hxy; rw [this] at h3; cases h3
      · congr 1; omega
theorem nodup_lt {n : Nat} {l : List Nat} (hd : l.Nodup) (hl : ∀ x ∈ l, x < n) : l.length ≤ n := by
  have h : ∀ (l m : List Nat), l.Nodup → (∀ x ∈ l, x ∈ m) → l.length ≤ m.length := by
    intro l
    induction l with
    | nil => intro m _ _; simp
    | cons x l ih =>
      intro m hd hs
      have hx := hs x (by simp)
      have hd' := List.nodup_cons.1 hd
      have := ih (m.erase x) hd'.2 fun y hy => (List.mem_erase_of_ne (by rintro rfl; exact hd'.1 hy)).2 (hs y (by simp [hy]))
      rw [List.length_erase_of_mem hx] at this
      have := List.length_pos_of_mem hx
      simp; omega
  have := h l (List.range n) hd fun x hx => List.mem_range.2 (hl x hx)
  simpa using this
end Go.Vc
/-
  The closure is the least transitive relation over a relation; ways.
-/
namespace Go.Vc
section
variable {n : Nat} {M : Nat → Nat → Bool}
theorem warM_self (n : Nat) (M : Nat → Nat → Bool) (k j : Nat) : warM n M (k + 1) k j = warM n M k k j := by
  simp only [warM]; cases warM n M k k j <;> simp
theorem warM_mono {k i j : Nat} (h : warM n M k i j = true) : warM n M (k + 1) i j = true := by simp only [warM, h, Bool.true_or]
theorem warM_sub : ∀ (k : Nat) {i j : Nat}, M i j = true → warM n M k i j = true
  | 0, _, _, h => h
  | k + 1, _, _, h => warM_mono (warM_sub k h)
theorem warM_succ {k i j : Nat} : warM n M (k + 1) i j = true ↔ warM n M k i j = true ∨ (warM n M k i k = true ∧ warM n M k k j = true) := by
  simp [warM]
theorem warM_trans : ∀ (k : Nat) {i x j : Nat}, x < k → warM n M k i x = true → warM n M k x j = true → warM n M k i j = true
  | 0, _, _, _, h, _, _ => by omega
  | k + 1, i, x, j, hx, h1, h2 => by
    rw [warM_succ] at h1 h2 ⊢
    by_cases hxk : x = k
    · subst hxk
      refine .inr ⟨?_, ?_⟩
      · rcases h1 with h | ⟨h, _⟩ <;> exact h
      · rcases h2 with h | ⟨_, h⟩ <;> exact h
    · have hx' : x < k := by omega
      rcases h1 with h1 | ⟨h1, h1'⟩ <;> rcases h2 with h2 | ⟨h2, h2'⟩
      · exact .inl (warM_trans k hx' h1 h2)
      · exact .inr ⟨warM_trans k hx' h1 h2, h2'⟩
      · exact .inr ⟨h1, warM_trans k hx' h1' h2⟩
      · exact .inr ⟨h1, h2'⟩
theorem plus_sub {i j : Nat} (h : M i j = true) : plusM n M i j = true := warM_sub n h
theorem plus_trans {i x j : Nat} (hx : x < n) (h1 : plusM n M i x = true) (h2 : plusM n M x j = true) : plusM n M i j = true := warM_trans n hx h1 h2
/-- It is the least one. -/
theorem plus_least {N : Nat → Nat → Prop} (hM : ∀ i j, i < n → j < n → M i j = true → N i j) (ht : ∀ i x j, i < n → x < n → j < n → N i x → N x j → N i j) {i j : Nat} (hi : i < n) (hj : j < n) (h : plusM n M i j = true) : N i j := by
  have all : ∀ k, k ≤ n → ∀ i j, i < n → j < n → warM n M k i j = true → N i j := by
    intro k
    induction k with
    | zero => exact fun _ i j hi hj h => hM i j hi hj h
    | succ k ih =>
      intro hk i j hi hj h
      rcases warM_succ.1 h with h | ⟨h1, h2⟩
      · exact ih (by omega) i j hi hj h
      · exact ht i k j hi (by omega) hj (ih (by omega) i k hi (by omega) h1) (ih (by omega) k j (by omega) hj h2)
  exact all n (Nat.le_refl _) i j hi hj h
/-- A way of so many steps. -/
inductive Way (n : Nat) (M : Nat → Nat → Bool) : Nat → Nat → Nat → Prop
  | one {i j : Nat} : M i j = true → Way n M 1 i j
  | more {k i x j : Nat} : x < n → M i x = true → Way n M k x j → Way n M (k + 1) i j
theorem Way.app {k m i x j : Nat} (hx : x < n) (h : Way n M k i x) (h' : Way n M m x j) : Way n M (k + m) i j := by
  induction h with
  | one h => rw [Nat.add_comm]; exact .more hx h h'
  | more hy hm _ ih => rw [Nat.add_right_comm]; exact .more hy hm (ih hx h')
variable {p : Nat}
end
end Go.Vc
/-
  A least cycle is one; numbers that rise, round by round.
-/
namespace Go.Vc
section
variable {n : Nat} {M : Nat → Nat → Bool} {p : Nat}
end
/-- Without a cycle a way has fewer steps than there are points. -/
theorem way_short {n : Nat} {M : Nat → Nat → Bool} (ha : ∀ i, i < n → plusM n M i i = false) {k i j : Nat} (hi : i < n) (hj : j < n) (h : Way n M k i j) : k ≤ (List.range n).countP fun x => plusM n M i x := by
  induction h with
  | @one i j h =>
    rw [Nat.succ_le_iff]
    exact List.countP_pos_iff.2 ⟨j, List.mem_range.2 hj, plus_sub h⟩
  | @more k i x j hx h hw ih =>
    have := ih hx hj
    have := countP_lt (f := fun y => plusM n M x y) (g := fun y => plusM n M i y) n x hx (fun y hy => plus_trans hx (plus_sub h) hy) (ha x hx) (plus_sub h)
    omega
theorem no_way {n : Nat} {M : Nat → Nat → Bool} (ha : ∀ i, i < n → plusM n M i i = false) {i j : Nat} (hi : i < n) (hj : j < n) (h : Way n M n i j) : False := by
  have := way_short ha hi hj h
  have h2 := countP_lt (f := fun y => plusM n M i y) (g := fun _ => true) n i hi (fun _ _ => rfl) (ha i hi) rfl
  simp at h2
  omega
theorem Way.end {n : Nat} {M : Nat → Nat → Bool} {k a i j : Nat} (h : Way n M k a i) (hi : i < n) (hm : M i j = true) : Way n M (k + 1) a j := h.app hi (.one hm)

/-- Is there a way of so many steps to a point? -/
def WayTo (n : Nat) (M : Nat → Nat → Bool) (r i : Nat) : Prop := r = 0 ∨ ∃ a, a < n ∧ Way n M r a i
/-- The numbers within a round. -/
structure Num (n : Nat) (M : Nat → Nat → Bool) (r p : Nat) (N : Nat → Nat) : Prop where
  top : ∀ i, i < n → N i ≤ r
  new : ∀ i, i < n → p ≤ i → N i < r
  up : ∀ a b, a < n → b < n → M a b = true → N b ≠ 0 → N a ≠ 0 ∧ N a < N b
  old : ∀ i, i < n → N i = 0 ∨ N i = r → WayTo n M (r - 1) i
  done : ∀ i, i < p → N i = 0 → WayTo n M r i
section
variable {n : Nat} {M : Nat → Nat → Bool} {r p : Nat} {N : Nat → Nat}
theorem Num.start : Num n M 1 0 fun _ => 0 :=
  ⟨fun _ _ => by omega, fun _ _ _ => by omega, fun _ _ _ _ _ h => absurd rfl h, fun _ _ _ => .inl rfl, fun i h => by omega⟩
theorem Num.skip (h : Num n M r p N) (h0 : N p ≠ 0 ∨ ∃ a, a < n ∧ M a p = true ∧ (N a = 0 ∨ N a = r)) (hr : 1 ≤ r) : Num n M r (p + 1) N := by
  refine ⟨h.top, fun i hi hpi => h.new i hi (by omega), h.up, h.old, fun i hi hN => ?_⟩
  by_cases hip : i = p
  · subst hip
    rcases h0 with h0 | ⟨a, ha, hm, h0⟩
    · exact absurd hN h0
    · obtain ⟨r, rfl⟩ : ∃ r', r = r' + 1 := ⟨r - 1, by omega⟩
      rcases h.old a ha h0 with h1 | ⟨b, hb, hw⟩
      · have : r = 0 := by omega
        subst this
        exact .inr ⟨a, ha, .one hm⟩
      · exact .inr ⟨b, hb, hw.end ha hm⟩
  · exact h.done i (by omega) hN
theorem Num.next (h : Num n M r n N) : Num n M (r + 1) 0 N :=
  ⟨fun i hi => by have := h.top i hi; omega, fun i hi _ => by have := h.top i hi; omega, h.up, fun i hi hN => by
    rcases hN with hN | hN
    · exact h.done i hi hN
    · have := h.top i hi; omega, fun i hi => by omega⟩
theorem Num.all (h : Num n M (n + 1) 0 N) (ha : ∀ i, i < n → plusM n M i i = false) {a b : Nat} (h1 : a < n) (h2 : b < n) (hm : M a b = true) : N a ≠ 0 ∧ N a < N b := by
  have hb : N b ≠ 0 := by
    intro h0
    rcases h.old b h2 (.inl h0) with h3 | ⟨c, hc, hw⟩
    · omega
    · exact no_way ha hc h2 hw
  exact h.up a b h1 h2 hm hb
end
end Go.Vc
/-
  All orders that begin with a list, in their order; how they are gone through.
-/
namespace Go.Proofs.Tst
open Go Go.Vc
section
variable {n : Nat} {M : Nat → Nat → Bool}
/-- All orders that begin with l: so many points are still to be placed. -/
def extGo (n : Nat) (M : Nat → Nat → Bool) : Nat → List Nat → List (List Nat)
  | 0, l => [l]
  | k + 1, l => (rest (freeB n M l.contains) n 0).flatMap fun p => extGo n M k (l ++ [p])
def extFrom (n : Nat) (M : Nat → Nat → Bool) (l : List Nat) (q : Nat) : List (List Nat) := (rest (freeB n M l.contains) n q).flatMap fun p => extGo n M (n - l.length - 1) (l ++ [p])
def later (n : Nat) (M : Nat → Nat → Bool) : List Nat → List (List Nat)
  | [] => []
  | p :: r => extFrom n M r.reverse (p + 1) ++ later n M r
/-! What has no cycle can be sorted, and the other way round. -/
theorem free_exists (ha : ∀ i, i < n → plusM n M i i = false) {D : Nat → Bool} : ∀ (c p : Nat), p < n → D p = false → ((List.range n).countP fun x => plusM n M x p) ≤ c → ∃ q, q < n ∧ freeB n M D q = true := by
  intro c
  induction c with
  | zero =>
    intro p hp hD hc
    refine ⟨p, hp, freeB_true.2 ⟨hD, fun a han hm => ?_⟩⟩
    have : 0 < (List.range n).countP fun x => plusM n M x p := List.countP_pos_iff.2 ⟨a, List.mem_range.2 han, plus_sub hm⟩
    omega
  | succ c ih =>
    intro p hp hD hc
    by_cases hf : freeB n M D p = true
    · exact ⟨p, hp, hf⟩
    have : ∃ a, a < n ∧ M a p = true ∧ D a = false := by
      apply Classical.byContradiction; intro hn
      refine hf (freeB_true.2 ⟨hD, fun a han hm => ?_⟩)
      apply Classical.byContradiction; intro hD'
      exact hn ⟨a, han, hm, by simpa using hD'⟩
    obtain ⟨a, han, hm, hDa⟩ := this
    refine ih a han hDa ?_
    have := countP_lt (f := fun x => plusM n M x a) (g := fun x => plusM n M x p) n a han (fun x hx => plus_trans han hx (plus_sub hm)) (ha a han) (plus_sub hm)
    omega
/-- A beginning of an order. -/
def Pre (n : Nat) (M : Nat → Nat → Bool) (l : List Nat) : Prop := l.Nodup ∧ (∀ x ∈ l, x < n) ∧ ∀ i x, l[i]? = some x → ∀ a, a < n → M a x = true → a ∈ l.take i
theorem Pre.nil : Pre n M [] := ⟨by simp, by simp, by simp⟩
theorem Pre.snoc {l : List Nat} {p : Nat} : Pre n M (l ++ [p]) ↔ Pre n M l ∧ p < n ∧ freeB n M l.contains p = true := by
  rw [freeB_true]
  constructor
  · rintro ⟨h1, h2, h3⟩
    rw [List.nodup_append] at h1
    refine ⟨⟨h1.1, fun x hx => h2 x (by simp [hx]), fun i x hi a han hm => ?_⟩, h2 p (by simp), ?_, fun a han hm => ?_⟩
    · have hil := (List.getElem?_eq_some_iff.1 hi).1
      have := h3 i x (by rw [List.getElem?_append_left hil]; exact hi) a han hm
      rwa [List.take_append_of_le_length (by omega)] at this
    · rw [Bool.eq_false_iff]; intro hc
      exact h1.2.2 p (List.contains_iff_mem.1 hc) p (by simp) rfl
    · have := h3 l.length p (by simp) a han hm
      simp at this; simpa using this
  · rintro ⟨⟨h1, h2, h3⟩, hp, hD, hf⟩
    refine ⟨?_, ?_, ?_⟩
    · rw [List.nodup_append]
      refine ⟨h1, by simp, fun x hx y hy => ?_⟩
      simp at hy; subst hy; rintro rfl
      rw [List.contains_iff_mem.2 hx] at hD; simp at hD
    · intro x hx; rcases List.mem_append.1 hx with hx | hx
      · exact h2 x hx
      · simp at hx; subst hx; exact hp
    · intro i x hi a han hm
      by_cases hil : i < l.length
      · rw [List.getElem?_append_left hil] at hi
        rw [List.take_append_of_le_length (by omega)]; exact h3 i x hi a han hm
      · have := (List.getElem?_eq_some_iff.1 hi).1
        simp at this
        obtain rfl : i = l.length := by omega
        simp at hi; subst hi
        simp; simpa using hf a han hm
theorem Pre.len {l : List Nat} (h : Pre n M l) : l.length ≤ n := nodup_lt h.1 h.2.1
theorem nodup_sub : ∀ {l m : List Nat}, l.Nodup → (∀ x ∈ l, x ∈ m) → l.length ≤ m.length
  | [], m, _, _ => by simp
  | x :: l, m, hd, hs => by
    have hx := hs x (by simp)
    have hd' := List.nodup_cons.1 hd
    have := nodup_sub (m := m.erase x) hd'.2 fun y hy => (List.mem_erase_of_ne (by rintro rfl; exact hd'.1 hy)).2 (hs y (by simp [hy]))
    rw [List.length_erase_of_mem hx] at this
    have := List.length_pos_of_mem hx
    simp; omega
theorem sortGo_none (ha : ∀ i, i < n → plusM n M i i = false) : ∀ (k : Nat) (l : List Nat), Pre n M l → l.length + k = n → sortGo n M k l ≠ none
  | 0, l, _, _ => by simp [sortGo]
  | k + 1, l, hl, hk => by
    simp only [sortGo]
    cases hx : lf (freeB n M l.contains) n 0 with
    | none =>
      have : ∃ p, p < n ∧ p ∉ l := by
        apply Classical.byContradiction; intro hn
        have := nodup_sub (l := List.range n) (m := l) List.nodup_range fun x hx => Classical.byContradiction fun h => hn ⟨x, List.mem_range.1 hx, h⟩
        simp at this; omega
      obtain ⟨p, hp, hpl⟩ := this
      obtain ⟨q, hq, hf⟩ := free_exists ha (D := l.contains) _ p hp (by simpa using hpl) (Nat.le_refl _)
      rw [lf_none hx q (by omega) hq] at hf; simp at hf
    | some p =>
      obtain ⟨-, hp, hf⟩ := lf_some hx
      exact sortGo_none ha k (l ++ [p]) (Pre.snoc.2 ⟨hl, hp, hf⟩) (by simp; omega)
theorem sortGo_some : ∀ (k : Nat) (l m : List Nat), Pre n M l → sortGo n M k l = some m → Pre n M m ∧ m.length = l.length + k
  | 0, l, m, hl, h => by simp [sortGo] at h; subst h; exact ⟨hl, rfl⟩
  | k + 1, l, m, hl, h => by
    simp only [sortGo] at h
    cases hx : lf (freeB n M l.contains) n 0 with
    | none => rw [hx] at h; simp at h
    | some p =>
      rw [hx] at h
      obtain ⟨-, hp, hf⟩ := lf_some hx
      obtain ⟨h1, h2⟩ := sortGo_some k (l ++ [p]) m (Pre.snoc.2 ⟨hl, hp, hf⟩) h
      exact ⟨h1, by rw [h2]; simp; omega⟩
theorem all_in {l : List Nat} (h : Pre n M l) (hl : l.length = n) {p : Nat} (hp : p < n) : p ∈ l := by
  apply Classical.byContradiction; intro hn
  have := nodup_lt (n := n) (l := p :: l) (List.nodup_cons.2 ⟨hn, h.1⟩) fun x hx => by
    rcases List.mem_cons.1 hx with rfl | hx
    · exact hp
    · exact h.2.1 x hx
  simp at this; omega
/-- Of a whole order: each pair's first stands ahead of its second. -/
theorem Pre.idx {l : List Nat} (h : Pre n M l) {a b : Nat} (ha : a < n) (hb : b ∈ l) (hm : M a b = true) : l.idxOf a < l.idxOf b := by
  have hi : l.idxOf b < l.length := List.idxOf_lt_length_iff.2 hb
  have := h.2.2 (l.idxOf b) b (by rw [List.getElem?_eq_getElem hi, List.getElem_idxOf]) a ha hm
  obtain ⟨j, hj, hja⟩ := List.mem_iff_getElem.1 this
  have hj' : j < l.idxOf b := by rw [List.length_take] at hj; omega
  rw [List.getElem_take] at hja
  subst hja
  rw [h.1.idxOf_getElem]; exact hj'
theorem Pre.acyc {l : List Nat} (h : Pre n M l) (hl : l.length = n) : ∀ i, i < n → plusM n M i i = false := fun i hi => by
  rw [Bool.eq_false_iff]; intro hc
  have := plus_least (N := fun i j => l.idxOf i < l.idxOf j) (fun a b ha hb hm => h.idx ha (all_in h hl hb) hm) (fun _ _ _ _ _ _ h1 h2 => Nat.lt_trans h1 h2) hi hi hc
  exact Nat.lt_irrefl _ this
theorem irrB_true {N : Nat → Nat → Bool} : irrB n N = true ↔ ∀ i, i < n → N i i = false := by
  unfold irrB; rw [List.all_eq_true]
  constructor
  · intro h i hi; have := h i (List.mem_range.2 hi); simpa using this
  · intro h i hi; rw [h i (List.mem_range.1 hi)]; rfl
theorem sort_acyc : (sortS n M).isSome = irrB n (plusM n M) := by
  rw [Bool.eq_iff_iff, irrB_true]
  constructor
  · intro h
    obtain ⟨l, hl⟩ := Option.isSome_iff_exists.1 h
    obtain ⟨h1, h2⟩ := sortGo_some n [] l Pre.nil hl
    exact h1.acyc (by simpa using h2)
  · intro h
    have := sortGo_none h n [] Pre.nil (by simp)
    unfold sortS
    cases hs : sortGo n M n [] with
    | none => exact absurd hs this
    | some l => rfl
end
end Go.Proofs.Tst
namespace Go.Proofs.Tst
open Go Go.Vc
theorem rel_inside {n : Nat} {M : Nat → Nat → Bool} {p : Value} {lo hi : Nat} {h : Heap} (hr : ProgAt h lo hi p n M) (a b : Int) :
    Con Tryd.prog 78 #[p, .int .i64 a, .int .i64 b] h fun v h' => h' = h ∧ v = .bool (inR n a && inR n b) := by
  refine con_rel_Rel_inside ?_
  obtain ⟨hn, pb, rb, R, W, rfl, t⟩ := hr
  have hI : ∀ x : Int, 0 ≤ x → x < (n : Int) → inR n x = true := fun x h1 h2 => by simp [inR, h1, h2]
  by_cases h1 : a ≥ 0
  · by_cases h2 : a < (n : Int)
    · by_cases h3 : b ≥ 0
      · simp -dsimp only [go_sem, ↓reduceIte, reduceCtorEq, Nat.reduceEqDiff, Nat.reduceAdd, Nat.reduceLeDiff, Nat.reduceMul, Int.reduceBEq, Int.reduceBNe, Int.reduceLT, Int.reduceLE, Int.reduceGT, Int.reduceGE, h1, h2, h3, t.ptr.cell, decide_true]
        simp [inR, h1, h2, h3]
        try exact fun _ => h1
      · simp -dsimp only [go_sem, ↓reduceIte, reduceCtorEq, Nat.reduceEqDiff, Nat.reduceAdd, Nat.reduceLeDiff, Nat.reduceMul, Int.reduceBEq, Int.reduceBNe, Int.reduceLT, Int.reduceLE, Int.reduceGT, Int.reduceGE, h1, h2, h3, t.ptr.cell, decide_true, decide_false]
        simp [inR, h1, h2]; omega
    · simp -dsimp only [go_sem, ↓reduceIte, reduceCtorEq, Nat.reduceEqDiff, Nat.reduceAdd, Nat.reduceLeDiff, Nat.reduceMul, Int.reduceBEq, Int.reduceBNe, Int.reduceLT, Int.reduceLE, Int.reduceGT, Int.reduceGE, h1, h2, t.ptr.cell, decide_true, decide_false]
      simp [inR]; omega
  · simp -dsimp only [go_sem, ↓reduceIte, reduceCtorEq, Nat.reduceEqDiff, Nat.reduceAdd, Nat.reduceLeDiff, Nat.reduceMul, Int.reduceBEq, Int.reduceBNe, Int.reduceLT, Int.reduceLE, Int.reduceGT, Int.reduceGE, h1, decide_false]
    simp [inR]; omega
theorem row_has {W : Nat → Nat} {w p : Nat} {xv : Value} {h : Heap} (hx : Rd 1 h xv w (wrow w W)) (hp : p / 64 < w) (hW : W (p / 64) < 2 ^ 64) (hp6 : p ≤ 65536) :
    Con Tryd.prog 75 #[xv, .int .i64 p] h fun v h' => h' = h ∧ v = .bool ((W (p / 64)).testBit (p % 64)) := by
  refine con_rel_row_has ?_
  obtain ⟨xa, xc, rfl⟩ := hx.is
  simp -dsimp only [go_sem, ↓reduceIte, reduceCtorEq, Nat.reduceEqDiff, Nat.reduceAdd, Nat.reduceLeDiff, Nat.reduceMul, Int.reduceBEq, Int.reduceBNe, Int.reduceLT, Int.reduceLE, Int.reduceGT, Int.reduceGE]
  rw [tdiv64]
  refine Chk_intro (by decide) ?_
  rw [wrap64 (by omega) (by omega)]
  simp -dsimp only [go_sem, ↓reduceIte, reduceCtorEq, Nat.reduceEqDiff, Nat.reduceAdd, Nat.reduceLeDiff, Nat.reduceMul, Int.reduceBEq, Int.reduceBNe, Int.reduceLT, Int.reduceLE, Int.reduceGT, Int.reduceGE]
  refine Chk_intro (by omega) (hx.idx (by omega) fun b o c => ?_)
  have c := c _ _ (wrow_get hp)
  simp -dsimp only [go_sem, ↓reduceIte, reduceCtorEq, Nat.reduceEqDiff, Nat.reduceAdd, Nat.reduceLeDiff, Nat.reduceMul, Int.reduceBEq, Int.reduceBNe, Int.reduceLT, Int.reduceLE, Int.reduceGT, Int.reduceGE, c]
  rw [tmod64]
  refine Chk_intro (by decide) ?_
  simp -dsimp only [go_sem, ↓reduceIte, reduceCtorEq, Nat.reduceEqDiff, Nat.reduceAdd, Nat.reduceLeDiff, Nat.reduceMul, Int.reduceBEq, Int.reduceBNe, Int.reduceLT, Int.reduceLE, Int.reduceGT, Int.reduceGE]
  have e64 : ((W (p / 64) : Nat) : Int).fdiv (2 ^ min (p % 64) 64) = ((W (p / 64) / 2 ^ (p % 64) : Nat) : Int) := shr64 (W (p / 64)) (p % 64) (by omega)
  rw [e64]
  have hd : W (p / 64) / 2 ^ (p % 64) < 2 ^ 64 := Nat.lt_of_le_of_lt (Nat.div_le_self _ _) hW
  have ha : IntKind.u64.wrap ((BitVec.ofInt IntKind.u64.bits ((W (p / 64) / 2 ^ (p % 64) : Nat) : Int) &&& BitVec.ofInt IntKind.u64.bits 1).toNat : Int) = ((W (p / 64) / 2 ^ (p % 64) &&& 1 : Nat) : Int) := and64 (b := 1) hd (by decide)
  rw [ha, bit_has hW (by omega)]

theorem ptab_rd {h : Heap} {lo hi pb rb n : Nat} {R : Nat → Nat} {W : Nat → Nat → Nat} {M : Nat → Nat → Bool} (t : PTab h lo hi pb rb n R W M) {i : Nat} (hi' : i < n) : Rd 1 h (.slice (some ⟨R i, 0, none⟩) (nw n) (nw n)) (nw n) (wrow (nw n) (W i)) :=
  (t.row i hi').1.rd (by simp)

/-- A truth is put into a relation. -/
def putM (n : Nat) (M : Nat → Nat → Bool) (a b : Int) (put : Bool) (i j : Nat) : Bool := if inR n a && inR n b && a == i && b == j then put else M i j

theorem rel_PutT {n : Nat} {M : Nat → Nat → Bool} {lo hi pb rb : Nat} {R : Nat → Nat} {W : Nat → Nat → Nat} {h : Heap} (hn : n ≤ 256) (t : PTab h lo hi pb rb n R W M) (a b : Int) (put : Bool) :
    Con Tryd.prog 52 #[.pointer (some ⟨pb, 0, none⟩), .int .i64 a, .int .i64 b, .bool put] h fun v h' => Fr lo hi h h' ∧ h'.size = h.size ∧ v = .bool (inR n a && inR n b && (M a.toNat b.toNat != put)) ∧ ∃ W', PTab h' lo hi pb rb n R W' (putM n M a b put) := by
  refine con_rel_Rel_Put ?_
  have hr0 : ProgAt h lo hi (.pointer (some ⟨pb, 0, none⟩)) n M := ⟨hn, pb, rb, R, W, rfl, t⟩
  simp -dsimp only [go_sem, ↓reduceIte, reduceCtorEq, Nat.reduceEqDiff, Nat.reduceAdd, Nat.reduceLeDiff, Nat.reduceMul, Int.reduceBEq, Int.reduceBNe, Int.reduceLT, Int.reduceLE, Int.reduceGT, Int.reduceGE]
  refine call_of (rel_inside hr0 a b) ?_
  rintro v h1 ⟨rfl, rfl⟩
  simp -dsimp only [go_sem, ↓reduceIte, reduceCtorEq, Nat.reduceEqDiff, Nat.reduceAdd, Nat.reduceLeDiff, Nat.reduceMul, Int.reduceBEq, Int.reduceBNe, Int.reduceLT, Int.reduceLE, Int.reduceGT, Int.reduceGE]
  by_cases hin : (inR n a && inR n b) = true
  · have hin' := hin
    simp only [Bool.and_eq_true, inR, decide_eq_true_eq] at hin'
    obtain ⟨x, rfl⟩ : ∃ x : Nat, a = x := ⟨a.toNat, by omega⟩
    obtain ⟨y, rfl⟩ : ∃ y : Nat, b = y := ⟨b.toNat, by omega⟩
    have hx : x < n := by omega
    have hy : y < n := by omega
    obtain ⟨hrw, _, _, hnp, hnr, hbits⟩ := t.row x hx
    simp -dsimp only [go_sem, ↓reduceIte, reduceCtorEq, Nat.reduceEqDiff, Nat.reduceAdd, Nat.reduceLeDiff, Nat.reduceMul, Int.reduceBEq, Int.reduceBNe, Int.reduceLT, Int.reduceLE, Int.reduceGT, Int.reduceGE, hin, Bool.not_true, t.ptr.cell]
    refine Chk_intro (by omega) ?_
    simp -dsimp only [go_sem, ↓reduceIte, reduceCtorEq, Nat.reduceEqDiff, Nat.reduceAdd, Nat.reduceLeDiff, Nat.reduceMul, Int.reduceBEq, Int.reduceBNe, Int.reduceLT, Int.reduceLE, Int.reduceGT, Int.reduceGE, t.rowsGet hx, hin, Bool.not_true]
    refine call_of (row_has (p := y) (ptab_rd t hx) (by unfold nw; omega) (hbits _).1 (by omega)) ?_
    rintro v h2 ⟨rfl, rfl⟩
    rw [hbits.get hy]
    simp -dsimp only [go_sem, ↓reduceIte, reduceCtorEq, Nat.reduceEqDiff, Nat.reduceAdd, Nat.reduceLeDiff, Nat.reduceMul, Int.reduceBEq, Int.reduceBNe, Int.reduceLT, Int.reduceLE, Int.reduceGT, Int.reduceGE, hin, Bool.not_true]
    by_cases hM : M x y = put
    · simp -dsimp only [go_sem, ↓reduceIte, reduceCtorEq, Nat.reduceEqDiff, Nat.reduceAdd, Nat.reduceLeDiff, Nat.reduceMul, Int.reduceBEq, Int.reduceBNe, Int.reduceLT, Int.reduceLE, Int.reduceGT, Int.reduceGE, hin, Bool.not_true, hM, BEq.rfl]
      refine ⟨.refl _ _ _, by simp [hM], W, t.congr fun i j hi hj => ?_⟩
      simp only [putM]
      split
      · rename_i hc; simp at hc; obtain ⟨⟨_, e1⟩, e2⟩ := hc; have e1 : x = i := by omega
        have e2 : y = j := by omega
        subst e1 e2; exact hM
      · rfl
    · have hMb : (M x y == put) = false := by simpa using hM
      simp -dsimp only [go_sem, ↓reduceIte, reduceCtorEq, Nat.reduceEqDiff, Nat.reduceAdd, Nat.reduceLeDiff, Nat.reduceMul, Int.reduceBEq, Int.reduceBNe, Int.reduceLT, Int.reduceLE, Int.reduceGT, Int.reduceGE, hin, Bool.not_true, hMb, t.ptr.cell]
      refine Chk_intro (by omega) ?_
      simp -dsimp only [go_sem, ↓reduceIte, reduceCtorEq, Nat.reduceEqDiff, Nat.reduceAdd, Nat.reduceLeDiff, Nat.reduceMul, Int.reduceBEq, Int.reduceBNe, Int.reduceLT, Int.reduceLE, Int.reduceGT, Int.reduceGE, t.rowsGet hx]
      rw [tdiv64]
      refine Chk_intro (by decide) ?_
      rw [wrap64 (by omega) (by omega)]
      have hyw : y / 64 < nw n := by unfold nw; omega
      simp -dsimp only [go_sem, ↓reduceIte, reduceCtorEq, Nat.reduceEqDiff, Nat.reduceAdd, Nat.reduceLeDiff, Nat.reduceMul, Int.reduceBEq, Int.reduceBNe, Int.reduceLT, Int.reduceLE, Int.reduceGT, Int.reduceGE]
      refine Chk_intro (by omega) ?_
      simp -dsimp only [go_sem, ↓reduceIte, reduceCtorEq, Nat.reduceEqDiff, Nat.reduceAdd, Nat.reduceLeDiff, Nat.reduceMul, Int.reduceBEq, Int.reduceBNe, Int.reduceLT, Int.reduceLE, Int.reduceGT, Int.reduceGE, hrw.cell, wrow_get hyw]
      rw [tmod64]
      refine Chk_intro (by decide) ?_
      simp -dsimp only [go_sem, ↓reduceIte, reduceCtorEq, Nat.reduceEqDiff, Nat.reduceAdd, Nat.reduceLeDiff, Nat.reduceMul, Int.reduceBEq, Int.reduceBNe, Int.reduceLT, Int.reduceLE, Int.reduceGT, Int.reduceGE]
      have e64 : IntKind.u64.wrap (1 * 2 ^ min (y % 64) 64) = ((2 ^ (y % 64) : Nat) : Int) := shl64 (y % 64) (by omega)
      first | rw [e64] | rw [shl64 _ (by omega)]
      rw [xor64 (hbits _).1 (Nat.pow_lt_pow_right (by decide) (by omega))]
      refine Chk_intro (by omega) ?_
      simp -dsimp only [go_sem, ↓reduceIte, reduceCtorEq, Nat.reduceEqDiff, Nat.reduceAdd, Nat.reduceLeDiff, Nat.reduceMul, Int.reduceBEq, Int.reduceBNe, Int.reduceLT, Int.reduceLE, Int.reduceGT, Int.reduceGE]
      refine Chk_intro (hrw.wr (by simp; omega)) fun h2 s2 => ?_
      simp -dsimp only [go_sem, ↓reduceIte, reduceCtorEq, Nat.reduceEqDiff, Nat.reduceAdd, Nat.reduceLeDiff, Nat.reduceMul, Int.reduceBEq, Int.reduceBNe, Int.reduceLT, Int.reduceLE, Int.reduceGT, Int.reduceGE]
      refine ⟨s2.fr.mono (by omega), s2.size, by have := hin; simp at this; simp [this, hM], _, PTab.congr (M := fun i => if i = x then fun q => if q = y then !M x y else M x q else M i) (t.upd hx s2 wrow_set (hbits.flip hy)) fun i j hi hj => ?_⟩
      have hp : put = !M x y := by cases put <;> cases hm : M x y <;> simp_all
      simp only [putM, hin, hp]
      by_cases hix : i = x
      · subst hix
        by_cases hjy : j = y
        · subst hjy; simp
        · have : ((y : Int) == (j : Int)) = false := by simp; omega
          simp [hjy, this]
      · have : ((x : Int) == (i : Int)) = false := by simp; omega
        simp [hix, this]
  · have hin : (inR n a && inR n b) = false := by simpa using hin
    simp -dsimp only [go_sem, ↓reduceIte, reduceCtorEq, Nat.reduceEqDiff, Nat.reduceAdd, Nat.reduceLeDiff, Nat.reduceMul, Int.reduceBEq, Int.reduceBNe, Int.reduceLT, Int.reduceLE, Int.reduceGT, Int.reduceGE, hin, Bool.not_false]
    exact ⟨.refl _ _ _, by simp, W, t.congr fun i j hi hj => by simp [putM, hin]⟩
theorem rel_Put {n : Nat} {M : Nat → Nat → Bool} {p : Value} {lo hi : Nat} {h : Heap} (hr : ProgAt h lo hi p n M) (a b : Int) (put : Bool) :
    Con Tryd.prog 52 #[p, .int .i64 a, .int .i64 b, .bool put] h fun v h' => Fr lo hi h h' ∧ h'.size = h.size ∧ v = .bool (inR n a && inR n b && (M a.toNat b.toNat != put)) ∧ ProgAt h' lo hi p n (putM n M a b put) := by
  obtain ⟨hn, pb, rb, R, W, rfl, t⟩ := hr
  exact (rel_PutT hn t a b put).mono fun v h' ⟨h1, h2, h3, W', h4⟩ => ⟨h1, h2, h3, hn, pb, rb, R, W', rfl, h4⟩
end Go.Proofs.Tst
namespace Go.Proofs.Tst
open Go Go.Vc
theorem ite_max (n : Int) : (if (if (256 : Int) < n then 256 else n) > 0 then (if (256 : Int) < n then 256 else n) else 0) = (clampN n : Int) := by
  unfold clampN; split <;> split <;> omega

/-- The rows' slices, the first i of them made. -/
def rowsTo (k : Nat) (R : Nat → Nat) (i : Nat) : List Value := (List.range k).map fun (j : Nat) => if j < i then Value.slice (some ⟨R j, 0, none⟩) (nw k) (nw k) else Value.slice none 0 0
theorem length_rowsTo (k : Nat) (R : Nat → Nat) (i : Nat) : (rowsTo k R i).length = k := by simp [rowsTo]
theorem rowsTo_zero (k : Nat) (R : Nat → Nat) : List.replicate k (Value.slice none 0 0) = rowsTo k R 0 := by
  apply List.ext_getElem?; intro j
  by_cases hj : j < k
  · simp [rowsTo, hj]
  · simp [rowsTo, hj]
theorem rowsTo_set (k : Nat) (R : Nat → Nat) (i b : Nat) (hi : i < k) : (rowsTo k R i).set i (.slice (some ⟨b, 0, none⟩) (nw k) (nw k)) = rowsTo k (fun j => if j = i then b else R j) (i + 1) := by
  apply List.ext_getElem?; intro j
  by_cases hj : j < k
  · rw [List.getElem?_set]
    by_cases hij : i = j
    · subst hij; simp [rowsTo, hj]
    · have e1 : (j < i + 1) = (j < i) := by simp; omega
      simp [rowsTo, hij, hj, Ne.symm hij, e1]
  · rw [List.getElem?_eq_none (by simp [rowsTo]; omega), List.getElem?_eq_none (by simp [rowsTo]; omega)]

theorem rel_New (n : Int) (h : Heap) : Con Tryd.prog 55 #[.int .i64 n] h fun v h' => Fr 0 0 h h' ∧ ProgAt h' h.size h'.size v (clampN n) (fun _ _ => false) := by
  refine con_rel_New ?_
  simp -dsimp only [go_sem, ↓reduceIte, reduceCtorEq, Nat.reduceEqDiff, Nat.reduceAdd, Nat.reduceLeDiff, Nat.reduceMul, Int.reduceBEq, Int.reduceBNe, Int.reduceLT, Int.reduceLE, Int.reduceGT, Int.reduceGE]
  rw [ite_max]
  have hc : clampN n ≤ 256 := by unfold clampN; omega
  generalize clampN n = k at *
  refine Chk_intro (by omega) ?_
  intro rb h1 n1
  simp -dsimp only [go_sem, ↓reduceIte, reduceCtorEq, Nat.reduceEqDiff, Nat.reduceAdd, Nat.reduceLeDiff, Nat.reduceMul, Int.reduceBEq, Int.reduceBNe, Int.reduceLT, Int.reduceLE, Int.reduceGT, Int.reduceGE]
  intro pb h2 n2
  have r1 := n2.rw n1.row
  rw [zeros_one, Int.toNat_natCast, rowsTo_zero k fun _ => 0] at r1
  have r2 := n2.row
  have z1 := n1.size; have z2 := n2.size; have a1 := n1.at_; have a2 := n2.at_
  have p2 : Fr 0 0 h h2 := (n1.fr (lo := 0) (hi := 0)).trans n2.fr
  simp -dsimp only [go_sem, ↓reduceIte, reduceCtorEq, Nat.reduceEqDiff, Nat.reduceAdd, Nat.reduceLeDiff, Nat.reduceMul, Int.reduceBEq, Int.reduceBNe, Int.reduceLT, Int.reduceLE, Int.reduceGT, Int.reduceGE, r2.cell]
  refine loop_intro (fun i : Nat => [(0, .int .i64 k), (3, .pointer (some ⟨pb, 0, none⟩)), (17, .int .i64 k), (18, .int .i64 i)])
    (fun i h' => i ≤ k ∧ Fr 0 0 h h' ∧ h2.size ≤ h'.size ∧ Rw h' pb [.int .i64 k, .slice (some ⟨rb, 0, none⟩) k k] ∧ ∃ R, Rw h' rb (rowsTo k R i) ∧ (∀ j, j < i → Rw h' (R j) (wrow (nw k) fun _ => 0) ∧ h2.size ≤ R j ∧ R j < h'.size) ∧ ∀ x y, x < i → y < i → R x = R y → x = y)
    (fun i => k - i) 0 ?_ ?_ ?_
  · simp [Le, find]
  · exact ⟨by omega, p2, by omega, r2, _, r1, fun j hj => by omega, fun x y hx => by omega⟩
  rintro i h3 ⟨hi, p3, y3, r2, R, r1, hR, hinj⟩
  simp -dsimp only [go_sem, ↓reduceIte, reduceCtorEq, Nat.reduceEqDiff, Nat.reduceAdd, Nat.reduceLeDiff, Nat.reduceMul, Int.reduceBEq, Int.reduceBNe, Int.reduceLT, Int.reduceLE, Int.reduceGT, Int.reduceGE]
  refine ⟨fun hlt => ?_, fun hge => ?_⟩
  · have hlt : i < k := by omega
    simp -dsimp only [go_sem, ↓reduceIte, reduceCtorEq, Nat.reduceEqDiff, Nat.reduceAdd, Nat.reduceLeDiff, Nat.reduceMul, Int.reduceBEq, Int.reduceBNe, Int.reduceLT, Int.reduceLE, Int.reduceGT, Int.reduceGE, r2.cell]
    rw [wrap64 (by omega) (by omega), show ((k : Int) + 63) = ((k + 63 : Nat) : Int) from by omega, tdiv64, wrap64 (by omega) (by omega)]
    refine Chk_intro (by decide) ?_
    simp -dsimp only [go_sem, ↓reduceIte, reduceCtorEq, Nat.reduceEqDiff, Nat.reduceAdd, Nat.reduceLeDiff, Nat.reduceMul, Int.reduceBEq, Int.reduceBNe, Int.reduceLT, Int.reduceLE, Int.reduceGT, Int.reduceGE]
    refine Chk_intro (by omega) ?_
    intro b4 h4 n4
    have z4 := n4.size; have a4 := n4.at_
    have r4 := n4.row
    rw [zeros_one, Int.toNat_natCast, wrow_zero] at r4
    simp -dsimp only [go_sem, ↓reduceIte, reduceCtorEq, Nat.reduceEqDiff, Nat.reduceAdd, Nat.reduceLeDiff, Nat.reduceMul, Int.reduceBEq, Int.reduceBNe, Int.reduceLT, Int.reduceLE, Int.reduceGT, Int.reduceGE]
    refine Chk_intro (by omega) ?_
    simp -dsimp only [go_sem, ↓reduceIte, reduceCtorEq, Nat.reduceEqDiff, Nat.reduceAdd, Nat.reduceLeDiff, Nat.reduceMul, Int.reduceBEq, Int.reduceBNe, Int.reduceLT, Int.reduceLE, Int.reduceGT, Int.reduceGE]
    have r14 := n4.rw r1
    have r24 := n4.rw r2
    refine Chk_intro (r14.wr (by rw [length_rowsTo]; omega)) fun h5 s5 => ?_
    have r15 := s5.row r14
    rw [cl_slice, putAt_one, show (k + 63) / 64 = nw k from rfl, rowsTo_set _ _ _ _ hlt] at r15
    have z5 := s5.size
    simp -dsimp only [go_sem, ↓reduceIte, reduceCtorEq, Nat.reduceEqDiff, Nat.reduceAdd, Nat.reduceLeDiff, Nat.reduceMul, Int.reduceBEq, Int.reduceBNe, Int.reduceLT, Int.reduceLE, Int.reduceGT, Int.reduceGE]
    simp -dsimp (disch := omega) only [wrap64]
    refine ⟨i + 1, by omega, by simp [Le, find], by omega, (p3.trans n4.fr).fresh s5.fr (by omega), by omega, s5.rw r24 (by omega), _, r15, fun j hj => ?_, fun x y hx hy => ?_⟩
    · by_cases hji : j = i
      · subst hji; simp only [if_true]
        exact ⟨s5.rw r4 (by omega), by omega, by omega⟩
      · simp only [if_neg hji]
        obtain ⟨g1, g2, g3⟩ := hR j (by omega)
        exact ⟨s5.rw (n4.rw g1) (by omega), g2, by omega⟩
    · have gx : x < i → R x < b4 := fun h => by have := (hR x h).2.2; omega
      have gy : y < i → R y < b4 := fun h => by have := (hR y h).2.2; omega
      split <;> split <;> intro he
      · omega
      · have := gy (by omega); omega
      · have := gx (by omega); omega
      · exact hinj x y (by omega) (by omega) he
  · have hik : i = k := by omega
    subst hik
    simp -dsimp only [go_sem, ↓reduceIte, reduceCtorEq, Nat.reduceEqDiff, Nat.reduceAdd, Nat.reduceLeDiff, Nat.reduceMul, Int.reduceBEq, Int.reduceBNe, Int.reduceLT, Int.reduceLE, Int.reduceGT, Int.reduceGE]
    refine ⟨p3, hc, pb, rb, R, fun _ _ => 0, rfl, r2, ?_, fun j hj => ?_, fun x y hx hy => hinj x y hx hy, by omega⟩
    · have e : rowsTo i R i = (List.range i).map fun (j : Nat) => Value.slice (some ⟨R j, 0, none⟩) (nw i) (nw i) := by
        unfold rowsTo
        apply List.map_congr_left
        intro j hj
        rw [if_pos (List.mem_range.1 hj)]
      rw [e] at r1; exact r1
    · obtain ⟨g1, g2, g3⟩ := hR j hj
      exact ⟨g1, by omega, g3, by omega, by omega, Bits.zero _⟩

theorem rel_Of (n : Int) (lv : Value) (l : List (Int × Int)) (h : Heap) (hl : Rd 2 h lv l.length (pairsV l)) (hb : l.length ≤ 4611686018427387904) :
    Con Tryd.prog 14 #[.int .i64 n, lv] h fun v h' => Fr 0 0 h h' ∧ ProgAt h' h.size h'.size v (clampN n) (ofM (clampN n) l) := by
  refine con_rel_Of ?_
  obtain ⟨a, c, rfl⟩ := hl.is
  simp -dsimp only [go_sem, ↓reduceIte, reduceCtorEq, Nat.reduceEqDiff, Nat.reduceAdd, Nat.reduceLeDiff, Nat.reduceMul, Int.reduceBEq, Int.reduceBNe, Int.reduceLT, Int.reduceLE, Int.reduceGT, Int.reduceGE]
  refine call_of (rel_New n h) ?_
  rintro v h1 ⟨p1, t1⟩
  simp -dsimp only [go_sem, ↓reduceIte, reduceCtorEq, Nat.reduceEqDiff, Nat.reduceAdd, Nat.reduceLeDiff, Nat.reduceMul, Int.reduceBEq, Int.reduceBNe, Int.reduceLT, Int.reduceLE, Int.reduceGT, Int.reduceGE]
  refine loop_intro (fun i : Nat => [(5, v), (10, .slice a l.length c), (11, .int .i64 l.length), (12, .int .i64 i)])
    (fun i h' => i ≤ l.length ∧ Fr 0 0 h h' ∧ h1.size ≤ h'.size ∧ ProgAt h' h.size h1.size v (clampN n) (ofM (clampN n) (l.take i)))
    (fun i => l.length - i) 0 ?_ ?_ ?_
  · simp [Le, find]
  · exact ⟨by omega, p1, by omega, t1.congr fun _ _ _ _ => by simp [ofM]⟩
  rintro i h2 ⟨hi, p2, y2, t2⟩
  simp -dsimp only [go_sem, ↓reduceIte, reduceCtorEq, Nat.reduceEqDiff, Nat.reduceAdd, Nat.reduceLeDiff, Nat.reduceMul, Int.reduceBEq, Int.reduceBNe, Int.reduceLT, Int.reduceLE, Int.reduceGT, Int.reduceGE]
  refine ⟨fun hlt => ?_, fun hge => ?_⟩
  · have hlt : i < l.length := by omega
    have hp : l[i]? = some l[i] := by simp [hlt]
    generalize l[i] = p at hp
    simp -dsimp only [go_sem, ↓reduceIte, reduceCtorEq, Nat.reduceEqDiff, Nat.reduceAdd, Nat.reduceLeDiff, Nat.reduceMul, Int.reduceBEq, Int.reduceBNe, Int.reduceLT, Int.reduceLE, Int.reduceGT, Int.reduceGE]
    refine Chk_intro (by omega) ((hl.fr p2).pair hp fun b o c1 c2 => ?_)
    simp -dsimp only [go_sem, ↓reduceIte, reduceCtorEq, Nat.reduceEqDiff, Nat.reduceAdd, Nat.reduceLeDiff, Nat.reduceMul, Int.reduceBEq, Int.reduceBNe, Int.reduceLT, Int.reduceLE, Int.reduceGT, Int.reduceGE, c1, c2]
    intro b3 h3 n3
    have r3 := n3.row
    simp -dsimp only [go_sem, ↓reduceIte, reduceCtorEq, Nat.reduceEqDiff, Nat.reduceAdd, Nat.reduceLeDiff, Nat.reduceMul, Int.reduceBEq, Int.reduceBNe, Int.reduceLT, Int.reduceLE, Int.reduceGT, Int.reduceGE]
    refine ⟨r3.wr (by simp), fun h4 s4 => ?_⟩
    have r4 := s4.row r3
    simp -dsimp only [go_sem, ↓reduceIte, reduceCtorEq, Nat.reduceEqDiff, Nat.reduceAdd, Nat.reduceLeDiff, Nat.reduceMul, Int.reduceBEq, Int.reduceBNe, Int.reduceLT, Int.reduceLE, Int.reduceGT, Int.reduceGE] at r4
    have z3 := n3.size; have a3 := n3.at_; have z4 := s4.size; have z1 := p1.size
    have t4 := (t2.fr (n3.fr (lo := 0) (hi := 0)) (by omega)).fr s4.fr (by omega)
    have p4 := (p2.trans n3.fr).fresh s4.fr (by omega)
    simp -dsimp only [go_sem, ↓reduceIte, reduceCtorEq, Nat.reduceEqDiff, Nat.reduceAdd, Nat.reduceLeDiff, Nat.reduceMul, Int.reduceBEq, Int.reduceBNe, Int.reduceLT, Int.reduceLE, Int.reduceGT, Int.reduceGE, r4.cell]
    refine call_of (rel_Put t4 p.1 p.2 true) ?_
    rintro v5 h5 ⟨f5, z5, rfl, t5⟩
    simp -dsimp only [go_sem, ↓reduceIte, reduceCtorEq, Nat.reduceEqDiff, Nat.reduceAdd, Nat.reduceLeDiff, Nat.reduceMul, Int.reduceBEq, Int.reduceBNe, Int.reduceLT, Int.reduceLE, Int.reduceGT, Int.reduceGE]
    simp -dsimp (disch := omega) only [wrap64]
    refine ⟨i + 1, by omega, by simp [Le, find], by omega, p4.fresh f5 (by omega), by omega, t5.congr fun x y hx hy => ?_⟩
    rw [ofM_take hp]
    simp only [putM]
    split <;> rename_i hc
    · rw [hc]; simp
    · have : (inR (clampN n) p.1 && inR (clampN n) p.2 && p.1 == (x : Int) && p.2 == (y : Int)) = false := by simpa using hc
      rw [this]; simp
  · have hil : i = l.length := by omega
    subst hil
    rw [List.take_length] at t2
    simp -dsimp only [go_sem, ↓reduceIte, reduceCtorEq, Nat.reduceEqDiff, Nat.reduceAdd, Nat.reduceLeDiff, Nat.reduceMul, Int.reduceBEq, Int.reduceBNe, Int.reduceLT, Int.reduceLE, Int.reduceGT, Int.reduceGE]
    exact ⟨p2, t2.mono (Nat.le_refl _) y2⟩
end Go.Proofs.Tst
namespace Go.Proofs.Tst
open Go Go.Vc
theorem TrailingZeros64 {x k : Nat} {h : Heap} (hx : x < 2 ^ 64) (hk : Low x k) (ht : TabAt h) :
    Con Tryd.prog 106 #[.int .u64 x] h fun v h' => h' = h ∧ v = .int .i64 k := by
  refine con_math_bits_TrailingZeros64 ?_
  have h0 : x ≠ 0 := by rintro rfl; have := hk.1; simp at this
  simp -dsimp only [go_sem, ↓reduceIte, reduceCtorEq, Nat.reduceEqDiff, Nat.reduceAdd, Nat.reduceLeDiff, Nat.reduceMul, Int.reduceBEq, Int.reduceBNe, Int.reduceLT, Int.reduceLE, Int.reduceGT, Int.reduceGE]
  refine ⟨fun h => absurd h (by simp; omega), fun _ => ?_⟩
  simp -dsimp only [go_sem, ↓reduceIte, reduceCtorEq, Nat.reduceEqDiff, Nat.reduceAdd, Nat.reduceLeDiff, Nat.reduceMul, Int.reduceBEq, Int.reduceBNe, Int.reduceLT, Int.reduceLE, Int.reduceGT, Int.reduceGE]
  have hk64 := hk.lt hx
  obtain ⟨y, hy⟩ : ∃ y, x + y = 18446744073709551616 := ⟨18446744073709551616 - x, by omega⟩
  have hi := tab64_at k hk64
  obtain ⟨z, hz⟩ : ∃ z, 2 ^ k * 285870213051353865 % 18446744073709551616 = z := ⟨_, rfl⟩
  obtain ⟨p, hp⟩ : ∃ p, 2 ^ k = p := ⟨_, rfl⟩
  have hpl : p < 2 ^ 64 := by rw [← hp]; exact Nat.pow_lt_pow_right (by decide) hk64
  have e58 : (z : Int).fdiv (2 ^ min (Int.toNat 58) 64) = ((z / 2 ^ 58 : Nat) : Int) := shr64 z 58 (by decide)
  rw [neg64 x y hy (by omega), and64 hx (by omega), hk.and_neg' hy (by omega), hp, show (285870213051353865 : Int) = ((285870213051353865 : Nat) : Int) from rfl, mul64 _ _ z (by rw [← hp]; exact hz), e58]
  have hi : tab64[z / 2 ^ 58]? = some k := by rw [← hz]; exact hi
  generalize z / 2 ^ 58 = i at hi
  have hi64 : i < 64 := (List.getElem?_eq_some_iff.1 hi).1
  refine Chk_intro (by omega) ?_
  simp -dsimp only [go_sem, ↓reduceIte, reduceCtorEq, Nat.reduceEqDiff, Nat.reduceAdd, Nat.reduceLeDiff, Nat.reduceMul, Int.reduceBEq, Int.reduceBNe, Int.reduceLT, Int.reduceLE, Int.reduceGT, Int.reduceGE, ht i k hi]
  rw [wrap64 (by omega) (by omega)]
end Go.Proofs.Tst
namespace Go.Proofs.Tst
open Go Go.Vc
/-- What the iterator over a row reads. -/
def RowC (b : Nat) (xv : Value) (w : Nat) (W : Nat → Nat) (h : Heap) : Prop := hcell h b 0 = some xv ∧ Rd 1 h xv w (wrow w W) ∧ TabAt h

theorem points_1 {b w : Nat} {xv : Value} {W : Nat → Nat} (hW : ∀ j, W j < 2 ^ 64) (hw : w ≤ 1024) :
    Iter Tryd.prog 105 #[.pointer (some ⟨b, 0, none⟩)] ((rest (wbit W) (64 * w) 0).map fun (p : Nat) => [Value.int .i64 (p : Int)]) (RowC b xv w W) := by
  refine ⟨by unfold goodF; rw [Tryd.func105]; rfl, fun l I X hy h hI hC => ?_⟩
  show ConX (some l) Tryd.prog 105 #[.func (.yield l) #[] #[], .pointer (some ⟨b, 0, none⟩)] h _
  refine con_rel_row_points_1 ?_
  obtain ⟨xa, xc, rfl⟩ := hC.2.1.is
  simp -dsimp only [go_sem, ↓reduceIte, reduceCtorEq, Nat.reduceEqDiff, Nat.reduceAdd, Nat.reduceLeDiff, Nat.reduceMul, Int.reduceBEq, Int.reduceBNe, Int.reduceLT, Int.reduceLE, Int.reduceGT, Int.reduceGE, hC.1]
  refine loop_intro (fun i : Nat => [(0, .func (.yield l) #[] #[]), (5, .slice xa w xc), (6, .int .i64 w), (7, .int .i64 i)])
    (fun i h' => i ≤ w ∧ RowC b (.slice xa w xc) w W h' ∧ ∃ d, d ≤ (rest (wbit W) (64 * w) 0).length ∧ (rest (wbit W) (64 * w) 0).drop d = rest (wbit W) (64 * w) (64 * i) ∧ I d h') (fun i => w - i) 0 ?_ ?_ ?_
  · simp [Le, find]
  · exact ⟨by omega, hC, 0, Nat.zero_le _, rfl, hI⟩
  rintro i h1 ⟨hi, hC1, d, hdl, hd, hI1⟩
  simp -dsimp only [go_sem, ↓reduceIte, reduceCtorEq, Nat.reduceEqDiff, Nat.reduceAdd, Nat.reduceLeDiff, Nat.reduceMul, Int.reduceBEq, Int.reduceBNe, Int.reduceLT, Int.reduceLE, Int.reduceGT, Int.reduceGE]
  refine ⟨fun hlt => ?_, fun hge => ?_⟩
  · have hlt : i < w := by omega
    simp -dsimp only [go_sem, ↓reduceIte, reduceCtorEq, Nat.reduceEqDiff, Nat.reduceAdd, Nat.reduceLeDiff, Nat.reduceMul, Int.reduceBEq, Int.reduceBNe, Int.reduceLT, Int.reduceLE, Int.reduceGT, Int.reduceGE]
    refine Chk_intro (by omega) (hC1.2.1.idx (by omega) fun b2 o2 c2 => ?_)
    simp -dsimp only [go_sem, ↓reduceIte, reduceCtorEq, Nat.reduceEqDiff, Nat.reduceAdd, Nat.reduceLeDiff, Nat.reduceMul, Int.reduceBEq, Int.reduceBNe, Int.reduceLT, Int.reduceLE, Int.reduceGT, Int.reduceGE, c2 i _ (wrow_get hlt)]
    refine loop_intro (fun s : Nat × Nat => [(0, .func (.yield l) #[] #[]), (3, .int .i64 i), (4, .int .u64 s.2), (5, .slice xa w xc), (6, .int .i64 w), (7, .int .i64 i)])
      (fun s h' => s.1 ≤ 64 ∧ RowC b (.slice xa w xc) w W h' ∧ s.2 < 2 ^ 64 ∧ (∀ k, s.2.testBit k = ((W i).testBit k && decide (s.1 ≤ k))) ∧ ∃ d, d ≤ (rest (wbit W) (64 * w) 0).length ∧ (rest (wbit W) (64 * w) 0).drop d = rest (wbit W) (64 * w) (64 * i + s.1) ∧ I d h')
      (fun s => 64 - s.1) (0, W i) ?_ ?_ ?_
    · simp [Le, find]
    · exact ⟨Nat.zero_le _, hC1, hW i, by simp, d, hdl, hd, hI1⟩
    rintro ⟨c, x⟩ h2 ⟨hc, hC2, hx, hbit, d, hdl, hd, hI2⟩
    dsimp only at hc hC2 hx hbit hd hI2 ⊢
    simp -dsimp only [go_sem, ↓reduceIte, reduceCtorEq, Nat.reduceEqDiff, Nat.reduceAdd, Nat.reduceLeDiff, Nat.reduceMul, Int.reduceBEq, Int.reduceBNe, Int.reduceLT, Int.reduceLE, Int.reduceGT, Int.reduceGE]
    have hg : ∀ k, k < 64 → wbit W (64 * i + k) = (W i).testBit k := fun k hk => by
      unfold wbit; rw [show (64 * i + k) / 64 = i from by omega, show (64 * i + k) % 64 = k from by omega]
    refine ⟨fun hx0 => ?_, fun hx0 => ?_⟩
    · have hx0 : x ≠ 0 := by rintro rfl; simp at hx0
      obtain ⟨k, hk⟩ := low_exists hx0
      have hk64 := hk.lt hx
      have hbk := hk.1
      rw [hbit] at hbk
      simp only [Bool.and_eq_true, decide_eq_true_eq] at hbk
      have hrest : rest (wbit W) (64 * w) (64 * i + c) = (64 * i + k) :: rest (wbit W) (64 * w) (64 * i + (k + 1)) := by
        rw [rest_skip (q := 64 * i + c) (k - c) (by omega) fun j h1 h2 => ?_, show 64 * i + c + (k - c) = 64 * i + k from by omega, rest_step (by omega), if_pos (by rw [hg k hk64]; exact hbk.1)]
        · rfl
        · obtain ⟨m, rfl⟩ : ∃ m, j = 64 * i + m := ⟨j - 64 * i, by omega⟩
          rw [hg m (by omega)]
          have := hk.2 m (by omega)
          rw [hbit] at this
          simpa [show c ≤ m by omega] using this
      simp -dsimp only [go_sem, ↓reduceIte, reduceCtorEq, Nat.reduceEqDiff, Nat.reduceAdd, Nat.reduceLeDiff, Nat.reduceMul, Int.reduceBEq, Int.reduceBNe, Int.reduceLT, Int.reduceLE, Int.reduceGT, Int.reduceGE]
      refine call_of (TrailingZeros64 hx hk hC2.2.2) ?_
      rintro v h3 ⟨rfl, rfl⟩
      simp -dsimp only [go_sem, ↓reduceIte, reduceCtorEq, Nat.reduceEqDiff, Nat.reduceAdd, Nat.reduceLeDiff, Nat.reduceMul, Int.reduceBEq, Int.reduceBNe, Int.reduceLT, Int.reduceLE, Int.reduceGT, Int.reduceGE]
      rw [wrap64 (n := 64 * (i : Int)) (by omega) (by omega), wrap64 (n := 64 * (i : Int) + (k : Int)) (by omega) (by omega)]
      rw [hrest] at hd
      have hdx : ((rest (wbit W) (64 * w) 0).map fun (p : Nat) => [Value.int .i64 (p : Int)])[d]? = some [.int .i64 ((64 * i + k : Nat) : Int)] := by
        rw [List.getElem?_map, ← List.head?_drop, hd]; rfl
      refine yld_of (hy d _ _ hdx hI2 hC2) ?_
      rintro v h4 (⟨rfl, hI4, hC4⟩ | ⟨rfl, hX4⟩)
      · simp -dsimp only [go_sem, ↓reduceIte, reduceCtorEq, Nat.reduceEqDiff, Nat.reduceAdd, Nat.reduceLeDiff, Nat.reduceMul, Int.reduceBEq, Int.reduceBNe, Int.reduceLT, Int.reduceLE, Int.reduceGT, Int.reduceGE]
        have e1 : IntKind.u64.wrap ((x : Int) - 1) = ((x - 1 : Nat) : Int) := by
          rw [wrapu64 (by omega) (by omega)]; omega
        rw [e1, and64 hx (by omega)]
        refine ⟨(k + 1, x &&& (x - 1)), by dsimp only; omega, by simp [Le, find], by dsimp only; omega, hC4, Nat.lt_of_le_of_lt Nat.and_le_left hx, fun m => ?_, d + 1, ?_, ?_, hI4⟩
        · rw [hk.strike, hbit]
          have hm := hk.2 m
          rw [hbit] at hm
          by_cases h1 : m < k
          · have := hm h1
            rw [this]
            simp [show ¬ k + 1 ≤ m by omega]
          · by_cases h2 : m = k
            · subst h2; simp
            · simp [h2, show k + 1 ≤ m by omega, show c ≤ m by omega]
        · have := congrArg List.length hd
          simp only [List.length_drop, List.length_cons] at this
          omega
        · rw [show d + 1 = 1 + d from by omega, ← List.drop_drop, List.drop_drop, Nat.add_comm 1 d, ← List.drop_drop, hd]; rfl
      · simp -dsimp only [go_sem, ↓reduceIte, reduceCtorEq, Nat.reduceEqDiff, Nat.reduceAdd, Nat.reduceLeDiff, Nat.reduceMul, Int.reduceBEq, Int.reduceBNe, Int.reduceLT, Int.reduceLE, Int.reduceGT, Int.reduceGE]
        exact .inr hX4
    · have hx0 : x = 0 := by simpa using hx0
      subst hx0
      simp -dsimp only [go_sem, ↓reduceIte, reduceCtorEq, Nat.reduceEqDiff, Nat.reduceAdd, Nat.reduceLeDiff, Nat.reduceMul, Int.reduceBEq, Int.reduceBNe, Int.reduceLT, Int.reduceLE, Int.reduceGT, Int.reduceGE]
      simp -dsimp (disch := omega) only [wrap64]
      refine ⟨i + 1, by omega, by simp [Le, find], by omega, hC2, d, hdl, ?_, hI2⟩
      rw [hd, rest_skip (q := 64 * i + c) (64 - c) (by omega) fun j h1 h2 => ?_, show 64 * i + c + (64 - c) = 64 * (i + 1) from by omega]
      obtain ⟨m, rfl⟩ : ∃ m, j = 64 * i + m := ⟨j - 64 * i, by omega⟩
      rw [hg m (by omega)]
      have := hbit m
      simp only [Nat.zero_testBit] at this
      simpa [show c ≤ m by omega] using this.symm
  · have : i = w := by omega
    subst this
    simp -dsimp only [go_sem, ↓reduceIte, reduceCtorEq, Nat.reduceEqDiff, Nat.reduceAdd, Nat.reduceLeDiff, Nat.reduceMul, Int.reduceBEq, Int.reduceBNe, Int.reduceLT, Int.reduceLE, Int.reduceGT, Int.reduceGE]
    refine .inl ⟨?_, hC1⟩
    rw [rest_end (Nat.le_refl _)] at hd
    have hle := List.drop_eq_nil_iff.1 hd
    rw [List.length_map, ← Nat.le_antisymm hdl hle]
    exact hI1
end Go.Proofs.Tst
namespace Go.Proofs.Tst
open Go Go.Vc
theorem rel_points (a : Option Addr) (n c : Nat) (h : Heap) : Con Tryd.prog 81 #[.slice a n c] h fun v h' => Fr 0 0 h h' ∧ v = .func (.func 105) #[] #[.pointer (some ⟨h.size, 0, none⟩)] ∧ hcell h' h.size 0 = some (.slice a n c) ∧ h'.size = h.size + 1 := by
  refine con_rel_row_points ?_
  simp -dsimp only [go_sem, ↓reduceIte, reduceCtorEq, Nat.reduceEqDiff, Nat.reduceAdd, Nat.reduceLeDiff, Nat.reduceMul, Int.reduceBEq, Int.reduceBNe, Int.reduceLT, Int.reduceLE, Int.reduceGT, Int.reduceGE]
  intro b h1 n1
  have r1 := n1.row
  have a1 := n1.at_
  subst a1
  simp -dsimp only [go_sem, ↓reduceIte, reduceCtorEq, Nat.reduceEqDiff, Nat.reduceAdd, Nat.reduceLeDiff, Nat.reduceMul, Int.reduceBEq, Int.reduceBNe, Int.reduceLT, Int.reduceLE, Int.reduceGT, Int.reduceGE]
  exact ⟨n1.fr, by rw [r1.cell]; rfl, n1.size⟩

theorem rel_Pairs {n : Nat} {M : Nat → Nat → Bool} {p : Value} {lo hi : Nat} {h : Heap} (hr : ProgAt h lo hi p n M) (ht : TabAt h) :
    Con Tryd.prog 53 #[p] h fun v h' => Fr 0 0 h h' ∧ Holder 2 h' v (pairsOf n M).length (pairsV (pairsOf n M)) h.size := by
  refine con_rel_Rel_Pairs (fun v h1 h2 x ⟨f, o⟩ => ⟨x.fr f (Nat.le_refl _), x.holder o⟩) ?_
  have hr0 := hr
  obtain ⟨hn, pb, rb, R, W, rfl, t⟩ := hr
  simp -dsimp only [go_sem, ↓reduceIte, reduceCtorEq, Nat.reduceEqDiff, Nat.reduceAdd, Nat.reduceLeDiff, Nat.reduceMul, Int.reduceBEq, Int.reduceBNe, Int.reduceLT, Int.reduceLE, Int.reduceGT, Int.reduceGE]
  intro b3 h1 n3
  have z3 := n3.size; have a3 := n3.at_
  have p1 : Fr 0 0 h h1 := n3.fr
  have t1 := t.fr p1 (by omega)
  simp -dsimp only [go_sem, ↓reduceIte, reduceCtorEq, Nat.reduceEqDiff, Nat.reduceAdd, Nat.reduceLeDiff, Nat.reduceMul, Int.reduceBEq, Int.reduceBNe, Int.reduceLT, Int.reduceLE, Int.reduceGT, Int.reduceGE, t1.ptr.cell]
  refine loop_intro (fun i : Nat => [(2, .slice none 0 0), (3, .pointer (some ⟨b3, 0, none⟩)), (10, .slice (some ⟨rb, 0, none⟩) n n), (11, .int .i64 n), (12, .int .i64 i)])
    (fun i h' => i ≤ n ∧ Fr 0 0 h h' ∧ ∃ sv, Rw h' b3 [sv] ∧ Holder 2 h' sv (pairsTo n M i).length (pairsV (pairsTo n M i)) (b3 + 1)) (fun i => n - i) 0 ?_ ?_ ?_
  · simp [Le, find]
  · exact ⟨by omega, p1, _, n3.row, .none _ _ _⟩
  rintro i h2 ⟨hi', p2, sv, r3, o2⟩
  have t2 := t.fr p2 (by omega)
  simp -dsimp only [go_sem, ↓reduceIte, reduceCtorEq, Nat.reduceEqDiff, Nat.reduceAdd, Nat.reduceLeDiff, Nat.reduceMul, Int.reduceBEq, Int.reduceBNe, Int.reduceLT, Int.reduceLE, Int.reduceGT, Int.reduceGE]
  refine ⟨fun hlt => ?_, fun hge => ?_⟩
  · have hlt : i < n := by omega
    simp -dsimp only [go_sem, ↓reduceIte, reduceCtorEq, Nat.reduceEqDiff, Nat.reduceAdd, Nat.reduceLeDiff, Nat.reduceMul, Int.reduceBEq, Int.reduceBNe, Int.reduceLT, Int.reduceLE, Int.reduceGT, Int.reduceGE]
    refine Chk_intro (by omega) ?_
    simp -dsimp only [go_sem, ↓reduceIte, reduceCtorEq, Nat.reduceEqDiff, Nat.reduceAdd, Nat.reduceLeDiff, Nat.reduceMul, Int.reduceBEq, Int.reduceBNe, Int.reduceLT, Int.reduceLE, Int.reduceGT, Int.reduceGE, t2.rowsGet hlt]
    intro b4 h4 n4
    have a4 := n4.at_; have z4 := n4.size
    have p4 := p2.trans n4.fr
    simp -dsimp only [go_sem, ↓reduceIte, reduceCtorEq, Nat.reduceEqDiff, Nat.reduceAdd, Nat.reduceLeDiff, Nat.reduceMul, Int.reduceBEq, Int.reduceBNe, Int.reduceLT, Int.reduceLE, Int.reduceGT, Int.reduceGE]
    refine ⟨n4.row.wr (by simp), fun h5 s5 => ?_⟩
    have r45 := s5.row n4.row
    have z5 := s5.size
    have k3 := r3.lt
    have r35 := s5.rw (n4.rw r3) (by omega)
    have w2 := o2.at_
    have o5 := (o2.fr (n4.fr (lo := 0) (hi := 0)) (by omega)).fr s5.fr (by omega)
    have y2 := p2.size
    have p5 := p4.fresh s5.fr (by omega)
    simp -dsimp only [go_sem, ↓reduceIte, reduceCtorEq, Nat.reduceEqDiff, Nat.reduceAdd, Nat.reduceLeDiff, Nat.reduceMul, Int.reduceBEq, Int.reduceBNe, Int.reduceLT, Int.reduceLE, Int.reduceGT, Int.reduceGE] at r45
    simp -dsimp only [go_sem, ↓reduceIte, reduceCtorEq, Nat.reduceEqDiff, Nat.reduceAdd, Nat.reduceLeDiff, Nat.reduceMul, Int.reduceBEq, Int.reduceBNe, Int.reduceLT, Int.reduceLE, Int.reduceGT, Int.reduceGE]
    refine call_of (rel_points _ _ _ h5) ?_
    rintro v h6 ⟨p6, rfl, c6, z6⟩
    simp -dsimp only [go_sem, ↓reduceIte, reduceCtorEq, Nat.reduceEqDiff, Nat.reduceAdd, Nat.reduceLeDiff, Nat.reduceMul, Int.reduceBEq, Int.reduceBNe, Int.reduceLT, Int.reduceLE, Int.reduceGT, Int.reduceGE]
    refine ⟨rfl, ?_⟩
    have t5 := t.fr p5 (by omega)
    have rd6 := (ptab_rd t5 hlt).fr p6
    have hbits := (t.row i hlt).2.2.2.2.2
    refine ⟨_, RowC h5.size (.slice (some ⟨R i, 0, none⟩) (nw n) (nw n)) (nw n) (W i),
      fun d h' => Fr 0 0 h h' ∧ Rw h' b4 [.int .i64 i] ∧ ∃ sv, Rw h' b3 [sv] ∧ bl sv ≠ b4 ∧ bl sv ≠ h5.size ∧ Holder 2 h' sv ((pairsTo n M i).length + d) (pairsV (pairsTo n M i ++ ((rest (M i) n 0).take d).map fun (b : Nat) => ((i : Int), (b : Int)))) (b3 + 1),
      fun _ _ => False, points_1 (fun j => (hbits j).1) (by unfold nw; omega), ?_, ?_, ?_, ?_, ?_, ?_, ?_, ?_, ?_⟩
    · intro x hx; obtain ⟨q, _, rfl⟩ := List.mem_map.1 hx; rfl
    · exact fun h1 h2 x ⟨c1, c2, c3⟩ => ⟨x.cell c1, x.rd c2, x.tab c3⟩
    · rintro d h1 h2 x ⟨q1, q2, sv', q3, q4, q4', q5⟩
      exact ⟨x.fr q1 (by have := p5.size; have := p6.size; omega), x.rw q2, sv', x.rw q3, q4, q4', x.holder q5⟩
    · exact fun _ _ _ _ h => h
    · exact ⟨p5.trans p6, r45.fr p6 (by omega), sv, r35.fr p6 (by omega), by omega, by omega, by simpa using o5.fr p6 (by omega)⟩
    · exact ⟨c6, rd6, (ht.fr (p5.trans p6) (by omega))⟩
    · rintro d x h7 hs7 hx ⟨q1, q2, sv7, q3, q4, q4', q5⟩ hC7
      rw [rest_bits hbits, List.getElem?_map, Option.map_eq_some_iff] at hx
      obtain ⟨q, hq, rfl⟩ := hx
      simp only [zipE]
      simp -dsimp only [go_sem, ↓reduceIte, reduceCtorEq, Nat.reduceEqDiff, Nat.reduceAdd, Nat.reduceLeDiff, Nat.reduceMul, Int.reduceBEq, Int.reduceBNe, Int.reduceLT, Int.reduceLE, Int.reduceGT, Int.reduceGE]
      intro h7' x7
      have q1 := x7.fr q1 (by have := p5.size; have := p6.size; omega)
      have q2 := x7.rw q2
      have q3 := x7.rw q3
      have q5 := x7.holder q5
      have hC7 : RowC h5.size (.slice (some ⟨R i, 0, none⟩) (nw n) (nw n)) (nw n) (W i) h7' := ⟨x7.cell hC7.1, x7.rd hC7.2.1, x7.tab hC7.2.2⟩
      obtain ⟨sa, sc, rfl⟩ := q5.is
      simp -dsimp only [go_sem, ↓reduceIte, reduceCtorEq, Nat.reduceEqDiff, Nat.reduceAdd, Nat.reduceLeDiff, Nat.reduceMul, Int.reduceBEq, Int.reduceBNe, Int.reduceLT, Int.reduceLE, Int.reduceGT, Int.reduceGE, q3.cell, q2.cell]
      intro b8 h8 n8
      have z8 := n8.size; have a8 := n8.at_
      simp -dsimp only [go_sem, ↓reduceIte, reduceCtorEq, Nat.reduceEqDiff, Nat.reduceAdd, Nat.reduceLeDiff, Nat.reduceMul, Int.reduceBEq, Int.reduceBNe, Int.reduceLT, Int.reduceLE, Int.reduceGT, Int.reduceGE, n8.row.cell]
      have hd := (List.getElem?_eq_some_iff.1 hq).1
      have g1 := length_rest_le (M i) n 0
      have g2 := length_pairsTo_le n M i
      have g3 : i * n ≤ 256 * 256 := Nat.mul_le_mul (by omega) (by omega)
      have w7 := q5.at_
      have k7 := q3.lt; have k7' := q2.lt
      have y7 := x7.size; have y5 := p5.size; have y6 := p6.size
      refine (q5.fr (n8.fr (lo := 0) (hi := 0)) (by omega)).append (by omega) rfl (by omega) (by simp) (by omega) fun v9 h9 o9 f9 e9 => ?_
      obtain ⟨va, vc, rfl⟩ := o9.is
      have w9 := o9.at_
      have y9 := f9.size
      simp -dsimp only [go_sem, ↓reduceIte, reduceCtorEq, Nat.reduceEqDiff, Nat.reduceAdd, Nat.reduceLeDiff, Nat.reduceMul, Int.reduceBEq, Int.reduceBNe, Int.reduceLT, Int.reduceLE, Int.reduceGT, Int.reduceGE]
      have r9 := (n8.rw q3).fr f9 (by omega)
      refine ⟨r9.wr (by simp), fun h10 s10 => ?_⟩
      have r10 := s10.row r9
      have y10 := s10.size
      simp -dsimp only [go_sem, ↓reduceIte, reduceCtorEq, Nat.reduceEqDiff, Nat.reduceAdd, Nat.reduceLeDiff, Nat.reduceMul, Int.reduceBEq, Int.reduceBNe, Int.reduceLT, Int.reduceLE, Int.reduceGT, Int.reduceGE] at r10
      simp -dsimp only [go_sem, ↓reduceIte, reduceCtorEq, Nat.reduceEqDiff, Nat.reduceAdd, Nat.reduceLeDiff, Nat.reduceMul, Int.reduceBEq, Int.reduceBNe, Int.reduceLT, Int.reduceLE, Int.reduceGT, Int.reduceGE]
      have p10 : Fr 0 0 h h10 := ((q1.trans n8.fr).fresh f9 (by omega)).fresh s10.fr (by omega)
      have hh : Fr b3 (b3 + 1) h9 h10 := s10.fr
      refine ⟨⟨p10, ((n8.rw q2).fr f9 (by omega)).fr s10.fr (by omega), _, r10, by omega, by omega, ?_⟩, ?_⟩
      · have := o9.fr s10.fr (by omega)
        rw [List.take_add_one, hq, Option.toList_some, List.map_append, ← List.append_assoc, pairsV_append]
        exact this
      · have hsz : h5.size < h6.size := by omega
        refine ⟨?_, ?_, ht.fr p10 (by omega)⟩
        · refine s10.fr.keep (f9.keep ((n8.fr (lo := 0) (hi := 0)).keep hC7.1 (by omega)) (by omega)) (by omega)
        · exact (ptab_rd (t.fr p10 (by omega)) hlt)
    · rintro h7 hs7 ⟨q1, q2, sv7, q3, q4, q4', q5⟩ hC7
      rw [rest_bits hbits, List.length_map, List.take_length] at q5
      simp -dsimp only [go_sem, ↓reduceIte, reduceCtorEq, Nat.reduceEqDiff, Nat.reduceAdd, Nat.reduceLeDiff, Nat.reduceMul, Int.reduceBEq, Int.reduceBNe, Int.reduceLT, Int.reduceLE, Int.reduceGT, Int.reduceGE]
      simp -dsimp (disch := omega) only [wrap64]
      exact ⟨i + 1, by omega, by simp [Le, find], by omega, q1, sv7, q3, by rw [pairsTo_succ, List.length_append, List.length_map]; exact q5⟩
    · exact fun _ _ _ h => h.elim
  · have : i = n := by omega
    subst this
    simp -dsimp only [go_sem, ↓reduceIte, reduceCtorEq, Nat.reduceEqDiff, Nat.reduceAdd, Nat.reduceLeDiff, Nat.reduceMul, Int.reduceBEq, Int.reduceBNe, Int.reduceLT, Int.reduceLE, Int.reduceGT, Int.reduceGE, r3.cell]
    have := n3.size
    exact ⟨p2, o2.lower (by omega)⟩
end Go.Proofs.Tst
