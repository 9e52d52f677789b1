/-
  Contracts of functions that the law reaches: what each returns and what it leaves in memory. Conditions stand in each.
-/
import Derived.Test.YtgedofjefepebaaDoorG2
set_option linter.all false
set_option maxRecDepth 2000
/-
  From a contract to a row: what a law's call leaves; how arguments are read.
-/
namespace Go.Vc
open Go Go.RowKit Go.ChangeShapes Go.WideShapes Go.ChangeAt Go.Deep
section
variable {H : Type} {enc : TypeId × Value → H} {P : Program}
theorem trodAll_below (hl : laidOutB P = true) {W W' : World} (hb : Below W.heap.size W W') : ∀ {ts : List TypeId} {vs : List Value} {ds : List (DataW H)} {ps : List MemPlace},
    ts.all (fun t => P.readableRec t && decide (t < P.types.size)) = true → DataW.TrodAll enc P W 0 (fun _ => true) true ts vs ds ps → DataW.TrodAll enc P W' 0 (fun b => decide (b < W.heap.size)) true ts vs ds ps
  | [], _, _, _, _, h => by
    obtain ⟨rfl, rfl, rfl⟩ := trodAll_nil h
    exact rfl
  | t :: ts, _, _, _, hr, h => by
    have hlt := h.lt
    obtain ⟨v, vs, d, ds, p, q, rfl, rfl, rfl, h1, h2⟩ := trodAll_cons h
    simp only [List.all_cons, Bool.and_eq_true, decide_eq_true_eq] at hr
    exact ⟨p, q, Below.trod hl hr.1.1 hr.1.2 h1 hb (fun x hx => hlt x (List.mem_append_left _ hx)), trodAll_below hl hb hr.2 h2, rfl⟩

/-- What a law that answers true leaves. -/
theorem law_post {f : Func} {s : ChangeSpec} {W W' : World} {args : Array Value} {ds gs : List (DataW H)} {before : List MemPlace} {tb : TypeId}
    (hl : laidOutB P = true) (hp : f.params.toList.all (fun t => P.readableRec t && decide (t < P.types.size)) = true) (hv : s.vars = [])
    (hrt : f.resultTypes = #[tb]) (htb : P.underlying tb = some .bool) (hW : DataW.Whole enc P f.params.toList s.vars false W args.toList ds gs before)
    (hb : Below W.heap.size W W') (hfn : s.fn H (ds ++ gs) = { results := [.lit (.bool true)], args := ds }) : s.post enc P f false true false false W args (.bool true) W' := by
  have hW0 := hW
  obtain ⟨p, q, hA, hV, rfl, hz, hn⟩ := hW0
  rw [hv] at hV
  obtain ⟨rfl, rfl⟩ := trodVars_none hV
  refine ⟨ds, [], _, [], p, [], hW, ?_, ?_, ?_, ?_, fun h => by cases h⟩
  · rw [hfn, hrt]; exact trodAll_cons_mk (shut_bool htb true) trodAll_mk0
  · rw [hfn]; exact trodAll_below hl hb hp hA
  · rw [hfn, hv]; exact rfl
  · refine World.keptBut_mono (fun p hp => ⟨hp, ?_⟩) (hb.frame (· ∈ p ++ []))
    rw [List.append_nil] at hp
    exact .inr (.inl hp)

/-- The heap's part of a call that keeps all that was. -/
theorem below_of {w w' : World} (hf : Fr 0 0 w.heap w'.heap) (hl : Like none w w') : Below w.heap.size w w' :=
  ⟨hl.os, hl.tape, hl.output, hl.size, fun k hk => hf.old k hk (.inr (Nat.zero_le _))⟩

/-! ### Arguments -/
theorem cell?_plain {w : World} {a : Addr} {v : Value} (h : w.cell? a = some v) : a.spot = none := by
  unfold World.cell? at h
  split at h
  · split at h
    · cases h
    · rename_i hs; simpa using hs
  · cases h
theorem addr_plain {a : Addr} (h : a.spot = none) : a = ⟨a.block, a.off, none⟩ := by cases a; simp_all
theorem cell?_add {w : World} {a : Addr} (ha : a.spot = none) (j : Nat) : w.cell? (a.add j) = hcell w.heap a.block (a.off + j) := by
  rw [← cell?_heap]
  unfold Addr.add
  split
  · rename_i h; subst h; rw [Nat.add_zero, ← addr_plain ha]
  · rw [← ha]
theorem rd_of {w : World} {s n c : Nat} {a : Addr} {xs : List Value} (hs : 0 < s) (hl : xs.length = n * s) (hc : ∀ j, j < n * s → ∃ v, xs[j]? = some v ∧ w.cell? (a.add j) = some v) : Rd s w.heap (.slice (some a) n c) n xs := by
  refine ⟨hl, _, _, rfl, ?_⟩
  rcases Nat.eq_zero_or_pos n with h0 | h0
  · exact .inl h0
  · have hp : 0 < n * s := Nat.mul_pos h0 hs
    obtain ⟨v, _, hv⟩ := hc 0 hp
    have ha : a.spot = none := cell?_plain (w := w) (a := a) (by simpa [Addr.add] using hv)
    refine .inr ⟨a.block, a.off, by rw [← addr_plain ha], fun j x hj => ?_⟩
    obtain ⟨v, h1, h2⟩ := hc j (by have := (List.getElem?_eq_some_iff.1 hj).1; omega)
    rw [hj] at h1; cases h1
    rw [← cell?_add ha]; exact h2
variable {w : World} {base : Nat} {held : Bool}
end
end Go.Vc
namespace Go.Vc
open Go
/-! ### Rows of truths -/
def brow (n : Nat) (f : Nat → Bool) : List Value := (List.range n).map fun j => .bool (f j)
@[simp] theorem length_brow (n : Nat) (f : Nat → Bool) : (brow n f).length = n := by simp [brow]
theorem brow_get {n : Nat} {f : Nat → Bool} {j : Nat} (hj : j < n) : (brow n f)[j]? = some (.bool (f j)) := by simp [brow, hj]
theorem brow_congr {n : Nat} {f g : Nat → Bool} (h : ∀ j, j < n → f j = g j) : brow n f = brow n g := by
  apply List.ext_getElem?; intro j
  by_cases hj : j < n
  · rw [brow_get hj, brow_get hj, h j hj]
  · simp [brow, hj]
theorem brow_set {n : Nat} {f : Nat → Bool} {j : Nat} {v : Bool} : (brow n f).set j (.bool v) = brow n fun k => if k = j then v else f k := by
  apply List.ext_getElem?; intro k
  by_cases hk : k < n
  · rw [brow_get hk, List.getElem?_set]
    by_cases hj : j = k
    · subst hj; simp [hk]
    · rw [if_neg hj, brow_get hk, if_neg (fun h => hj h.symm)]
  · rw [List.getElem?_eq_none (by simp; omega), List.getElem?_eq_none (by simp; omega)]
theorem brow_false (n : Nat) : List.replicate n (Value.bool false) = brow n fun _ => false := by
  apply List.ext_getElem?; intro k
  by_cases hk : k < n
  · rw [brow_get hk]; simp [hk]
  · simp [brow, hk]

/-- A slice value with n elements at block b from its first cell on. -/
abbrev sl (b n c : Nat) : Value := .slice (some ⟨b, 0, none⟩) n c

/-- The list of the rows' slices. -/
def rowsV (n : Nat) (R : Nat → Nat) (k : Nat) : List Value := (List.range k).map fun i => sl (R i) n n
@[simp] theorem length_rowsV (n : Nat) (R : Nat → Nat) (k : Nat) : (rowsV n R k).length = k := by simp [rowsV]
theorem rowsV_get {n : Nat} {R : Nat → Nat} {k i : Nat} (hi : i < k) : (rowsV n R k)[i]? = some (sl (R i) n n) := by simp [rowsV, hi]
theorem rowsV_succ (n : Nat) (R : Nat → Nat) (k : Nat) : rowsV n R (k + 1) = rowsV n R k ++ [sl (R k) n n] := by simp [rowsV, List.range_succ]
theorem rowsV_congr {n k : Nat} {R S : Nat → Nat} (h : ∀ i, i < k → R i = S i) : rowsV n R k = rowsV n S k := by
  unfold rowsV; apply List.map_congr_left; intro i hi; rw [h i (List.mem_range.1 hi)]

/-- The table of a reference's relation: k rows of n truths. -/
structure Tab (h : Heap) (lo hi : Nat) (s : Value) (n k : Nat) (R : Nat → Nat) (M : Nat → Nat → Bool) : Prop where
  own : Holder 1 h s k (rowsV n R k) lo
  top : bh s ≤ hi
  row : ∀ i, i < k → Rw h (R i) (brow n (M i)) ∧ lo ≤ R i ∧ R i < hi ∧ R i ≠ bl s
  inj : ∀ i j, i < k → j < k → R i = R j → i = j

theorem Tab.fr {h h' : Heap} {lo hi l r : Nat} {s : Value} {n k : Nat} {R : Nat → Nat} {M : Nat → Nat → Bool} (t : Tab h lo hi s n k R M) (f : Fr l r h h') (hd : hi ≤ l ∨ r ≤ lo ∨ r ≤ l) : Tab h' lo hi s n k R M := by
  refine ⟨t.own.fr f ?_, t.top, fun i hi => ?_, t.inj⟩
  · have := t.own.at_; have := t.top; omega
  · obtain ⟨h1, h2, h3, h4⟩ := t.row i hi; exact ⟨h1.fr f (by omega), h2, h3, h4⟩
theorem Tab.mono {h : Heap} {lo hi lo' hi' : Nat} {s : Value} {n k : Nat} {R : Nat → Nat} {M : Nat → Nat → Bool} (t : Tab h lo hi s n k R M) (h1 : lo' ≤ lo) (h2 : hi ≤ hi') : Tab h lo' hi' s n k R M := by
  refine ⟨⟨t.own.1, ?_⟩, Nat.le_trans t.top h2, fun i hi => ?_, t.inj⟩
  · rcases t.own.2 with h | ⟨b, c, rest, h3, h4, h5, h6⟩
    · exact .inl h
    · exact .inr ⟨b, c, rest, h3, h4, h5, by omega⟩
  · obtain ⟨h1, h2, h3, h4⟩ := t.row i hi; exact ⟨h1, by omega, by omega, h4⟩
theorem Tab.congr {h : Heap} {lo hi : Nat} {s : Value} {n k : Nat} {R : Nat → Nat} {M M' : Nat → Nat → Bool} (t : Tab h lo hi s n k R M) (he : ∀ i j, i < k → j < n → M i j = M' i j) : Tab h lo hi s n k R M' :=
  ⟨t.own, t.top, fun i hi => by obtain ⟨h1, h2⟩ := t.row i hi; exact ⟨by rw [← brow_congr (he i · hi)]; exact h1, h2⟩, t.inj⟩

/-- A relation of the document. -/
def RefAt (h : Heap) (lo hi : Nat) (v : Value) (n : Nat) (M : Nat → Nat → Bool) : Prop :=
  n ≤ 256 ∧ ∃ s R, v = .agg #[.int .i64 n, s] ∧ Tab h lo hi s n n R M
theorem RefAt.fr {h h' : Heap} {lo hi l r : Nat} {v : Value} {n : Nat} {M : Nat → Nat → Bool} (t : RefAt h lo hi v n M) (f : Fr l r h h') (hd : hi ≤ l ∨ r ≤ lo ∨ r ≤ l) : RefAt h' lo hi v n M := by
  obtain ⟨hn, s, R, hv, ht⟩ := t; exact ⟨hn, s, R, hv, ht.fr f hd⟩
theorem RefAt.mono {h : Heap} {lo hi lo' hi' : Nat} {v : Value} {n : Nat} {M : Nat → Nat → Bool} (t : RefAt h lo hi v n M) (h1 : lo' ≤ lo) (h2 : hi ≤ hi') : RefAt h lo' hi' v n M := by
  obtain ⟨hn, s, R, hv, ht⟩ := t; exact ⟨hn, s, R, hv, ht.mono h1 h2⟩
theorem RefAt.congr {h : Heap} {lo hi : Nat} {v : Value} {n : Nat} {M M' : Nat → Nat → Bool} (t : RefAt h lo hi v n M) (he : ∀ i j, i < n → j < n → M i j = M' i j) : RefAt h lo hi v n M' := by
  obtain ⟨hn, s, R, hv, ht⟩ := t; exact ⟨hn, s, R, hv, ht.congr he⟩
/-- A row's slice, read. -/
theorem Tab.idx {h : Heap} {lo hi : Nat} {a : Option Addr} {c n k : Nat} {R : Nat → Nat} {M : Nat → Nat → Bool} {K : Nat → Nat → Prop} {d : Dep K} (t : Tab h lo hi (.slice a k c) n k R M) {p : Nat} (hp : p < k)
    (hk : ∀ b o, hcell h b (o + p) = some (sl (R p) n n) → K b o) : withAd a K d :=
  t.own.rd.idx (by omega) fun b o hc => hk b o (hc p _ (rowsV_get hp))
theorem Tab.cell {h : Heap} {lo hi : Nat} {s : Value} {n k : Nat} {R : Nat → Nat} {M : Nat → Nat → Bool} (t : Tab h lo hi s n k R M) {p q : Nat} (hp : p < k) (hq : q < n) : hcell h (R p) q = some (.bool (M p q)) := by
  rw [(t.row p hp).1.cell, brow_get hq]
theorem Tab.wr {h : Heap} {lo hi : Nat} {s : Value} {n k : Nat} {R : Nat → Nat} {M : Nat → Nat → Bool} (t : Tab h lo hi s n k R M) {p q : Nat} (hp : p < k) (hq : q < n) : Wr h (R p) q 1 :=
  (t.row p hp).1.wr (by simp; omega)
/-- A truth written. -/
theorem Tab.set {h h' : Heap} {lo hi : Nat} {s : Value} {n k : Nat} {R : Nat → Nat} {M : Nat → Nat → Bool} (t : Tab h lo hi s n k R M) {p q : Nat} {v : Bool} (hp : p < k) (st : Sto h h' (R p) q [.bool v]) :
    Tab h' lo hi s n k R fun i j => if i = p ∧ j = q then v else M i j := by
  have w := t.own.at_
  have hr := (t.row p hp).2.2.2
  refine ⟨t.own.fr st.fr (by omega), t.top, fun i hi => ?_, t.inj⟩
  obtain ⟨h1, h2, h3, h4⟩ := t.row i hi
  by_cases hip : i = p
  · subst hip
    have := st.row h1
    rw [putAt_one, brow_set] at this
    refine ⟨?_, h2, h3, h4⟩
    simpa using this
  · have hne : R i ≠ R p := fun he => hip (t.inj i p hi hp he)
    refine ⟨?_, h2, h3, h4⟩
    have := st.rw h1 hne
    simpa [hip] using this
end Go.Vc
/-
  Vectors of cells; what Glue answers.
-/
namespace Go.Vc
open Go
theorem Holder.top {s : Nat} {h : Heap} {v : Value} {n : Nat} {xs : List Value} {lo : Nat} (w : Holder s h v n xs lo) : bh v ≤ h.size := by
  have := w.at_; omega
def upd {α : Type} (f : Nat → α) (p : Nat) (v : α) : Nat → α := fun q => if q = p then v else f q
theorem upd_same {α : Type} (f : Nat → α) (p : Nat) (v : α) : upd f p v p = v := by simp [upd]
theorem upd_ne {α : Type} (f : Nat → α) {p q : Nat} (v : α) (h : q ≠ p) : upd f p v q = f q := by simp [upd, h]
/-- Integers in cells, by place. -/
def ivec (n : Nat) (c : Nat → Int) : List Value := (List.range n).map fun p => Value.int .i64 (c p)
@[simp] theorem length_ivec (n : Nat) (c : Nat → Int) : (ivec n c).length = n := by simp [ivec]
theorem ivec_get {n : Nat} {c : Nat → Int} {p : Nat} (hp : p < n) : (ivec n c)[p]? = some (.int .i64 (c p)) := by simp [ivec, hp]
theorem ivec_congr {n : Nat} {c d : Nat → Int} (h : ∀ p, p < n → c p = d p) : ivec n c = ivec n d := by
  unfold ivec; apply List.map_congr_left; intro i hi; rw [h i (List.mem_range.1 hi)]
theorem ivec_set {n : Nat} {c : Nat → Int} {p : Nat} {x : Int} : (ivec n c).set p (.int .i64 x) = ivec n (upd c p x) := by
  apply List.ext_getElem?; intro k
  by_cases hk : k < n
  · rw [ivec_get hk, List.getElem?_set]
    by_cases hj : p = k
    · subst hj; simp [hk, upd]
    · rw [if_neg hj, ivec_get hk, upd_ne _ _ (fun h => hj h.symm)]
  · rw [List.getElem?_eq_none (by simp; omega), List.getElem?_eq_none (by simp; omega)]
theorem ivec_rep (n : Nat) (x : Int) : List.replicate n (Value.int .i64 x) = ivec n fun _ => x := by
  apply List.ext_getElem?; intro k
  by_cases hk : k < n
  · rw [ivec_get hk]; simp [hk]
  · rw [List.getElem?_eq_none (by simp; omega), List.getElem?_eq_none (by simp; omega)]

theorem brow_upd {n : Nat} {f : Nat → Bool} {j : Nat} {v : Bool} : (brow n f).set j (.bool v) = brow n (upd f j v) := brow_set

theorem neg_ge0 : ((-1 : Int) ≥ 0) = False := by simp
theorem neg_lt0 : ((-1 : Int) < 0) = True := by simp
theorem nat_ge0 (x : Nat) : ((x : Int) ≥ 0) = True := by simp
theorem nat_lt0 (x : Nat) : ((x : Int) < 0) = False := by simp
attribute [go_sem] nx_some nx_none neg_ge0 neg_lt0 nat_ge0 nat_lt0
/-! ### Glue -/
def badP (n : Nat) (U : Nat → Bool) (p : Int × Int) : Prop := p.1 < 0 ∨ p.1 ≥ (n : Int) ∨ p.2 < 0 ∨ p.2 ≥ (n : Int) ∨ p.1 = p.2 ∨ U p.1.toNat = true ∨ U p.2.toNat = true
instance (n : Nat) (U : Nat → Bool) (p : Int × Int) : Decidable (badP n U p) := by unfold badP; infer_instance
structure GluI (n : Nat) (U : Nat → Bool) (F : Nat → Nat) (S : Nat → Int) : Prop where
  lt : ∀ p, p < n → F p < n
  free : ∀ p, p < n → U p = false → F p = p ∧ S p = -1
  snd : ∀ p, p < n → S p = -1 ∨ ∃ q, q < n ∧ S p = (q : Int) ∧ q ≠ p ∧ F q = p ∧ F p = p
  fst : ∀ q, q < n → F q ≠ q → S (F q) = (q : Int) ∧ F (F q) = F q
theorem GluI.step {n : Nat} {U : Nat → Bool} {F : Nat → Nat} {S : Nat → Int} (g : GluI n U F S) {a b : Nat} (ha : a < n) (hb : b < n) (hab : a ≠ b) (ua : U a = false) (ub : U b = false) :
    GluI n (upd (upd U a true) b true) (upd F b a) (upd S a (b : Int)) := by
  have fa := g.free a ha ua
  have fb := g.free b hb ub
  refine ⟨fun p hp => ?_, fun p hp hu => ?_, fun p hp => ?_, fun q hq hF => ?_⟩
  · by_cases h : p = b
    · subst h; rw [upd_same]; exact ha
    · rw [upd_ne _ _ h]; exact g.lt p hp
  · by_cases h : p = b
    · subst h; rw [upd_same] at hu; cases hu
    · rw [upd_ne _ _ h] at hu ⊢
      by_cases h' : p = a
      · subst h'; rw [upd_same] at hu; cases hu
      · rw [upd_ne _ _ h'] at hu ⊢; exact g.free p hp hu
  · by_cases h : p = a
    · subst h; rw [upd_same]
      exact .inr ⟨b, hb, rfl, Ne.symm hab, by rw [upd_same], by rw [upd_ne _ _ hab]; exact fa.1⟩
    · rw [upd_ne _ _ h]
      rcases g.snd p hp with h1 | ⟨q, h1, h2, h3, h4, h5⟩
      · exact .inl h1
      · by_cases hqb : q = b
        · subst hqb; rw [fb.1] at h4; exact absurd h4 h3
        · refine .inr ⟨q, h1, h2, h3, by rw [upd_ne _ _ hqb]; exact h4, ?_⟩
          by_cases hpb : p = b
          · subst hpb; rw [fb.2] at h2; omega
          · rw [upd_ne _ _ hpb]; exact h5
  · by_cases h : q = b
    · subst h; rw [upd_same] at hF ⊢
      rw [upd_same, upd_ne _ _ hab]; exact ⟨rfl, fa.1⟩
    · rw [upd_ne _ _ h] at hF ⊢
      obtain ⟨h1, h2⟩ := g.fst q hq hF
      have hFb : F q ≠ b := fun e => by rw [e, fb.2] at h1; omega
      have hFa : F q ≠ a := fun e => by rw [e, fa.2] at h1; omega
      rw [upd_ne _ _ hFa, upd_ne _ _ hFb]; exact ⟨h1, h2⟩
/-- What of the units is placed stays together. -/
theorem GluI.keep {n : Nat} {U : Nat → Bool} {F : Nat → Nat} {S : Nat → Int} (g : GluI n U F S) {m : List Nat} {x : Nat} (hx : x < n) (hm : ∀ q, q < n → F q ≠ q → m.contains q = m.contains (F q)) (hF : F x = x) :
    ∀ q, q < n → F q ≠ q → (if S x ≥ 0 then m ++ [x] ++ [(S x).toNat] else m ++ [x]).contains q = (if S x ≥ 0 then m ++ [x] ++ [(S x).toNat] else m ++ [x]).contains (F q) := by
  intro q hq hFq
  have h0 := hm q hq hFq
  obtain ⟨h1, h2⟩ := g.fst q hq hFq
  have hqx : q ≠ x := by rintro rfl; exact hFq hF
  rcases g.snd x hx with hs | ⟨y, hy, hs, hyx, hyF, hxF⟩
  · rw [hs, if_neg (by decide)]
    have : F q ≠ x := fun e => by rw [e, hs] at h1; omega
    simp only [List.contains_append, List.contains_cons, List.contains_nil, Bool.or_false]
    rw [h0, beq_eq_false_iff_ne.2 hqx, beq_eq_false_iff_ne.2 this]
  · rw [hs, if_pos (by omega), Int.toNat_natCast]
    simp only [List.contains_append, List.contains_cons, List.contains_nil, Bool.or_false]
    by_cases hqy : q = y
    · subst hqy; rw [hyF]; simp
    · have h3 : F q ≠ x := fun e => by rw [e, hs] at h1; omega
      have h4 : F q ≠ y := fun e => by rw [e] at h2; rw [hyF] at h2; exact hyx h2.symm
      rw [h0, beq_eq_false_iff_ne.2 hqx, beq_eq_false_iff_ne.2 h3, beq_eq_false_iff_ne.2 hqy, beq_eq_false_iff_ne.2 h4]
end Go.Vc
namespace Go.Proofs.Tst
open Go Go.Vc
def clampN (n : Int) : Nat := min n.toNat 256
theorem ref1_New (n : Int) (h : Heap) : Con Tryd.prog 64 #[.int .i64 n] h fun v h' => Fr 0 0 h h' ∧ RefAt h' h.size h'.size v (clampN n) (fun _ _ => false) := by
  refine con_ref1_New ?_
  simp -dsimp only [go_sem, ↓reduceIte, reduceCtorEq, Nat.reduceEqDiff, Nat.reduceAdd, Nat.reduceLeDiff, Nat.reduceMul, Int.reduceBEq, Int.reduceBNe, Int.reduceLT, Int.reduceLE, Int.reduceGT, Int.reduceGE]
  intro b1 h1 n1
  simp -dsimp only [go_sem, ↓reduceIte, reduceCtorEq, Nat.reduceEqDiff, Nat.reduceAdd, Nat.reduceLeDiff, Nat.reduceMul, Int.reduceBEq, Int.reduceBNe, Int.reduceLT, Int.reduceLE, Int.reduceGT, Int.reduceGE]
  refine If_joint (fun m : Int => [(0, .int .i64 m), (2, .pointer (some ⟨b1, 0, none⟩))]) (fun m h' => h' = h1 ∧ m = max n 0) (fun hn => ?_) (fun hn => ?_) ?_
  · simp -dsimp only [go_sem, ↓reduceIte, reduceCtorEq, Nat.reduceEqDiff, Nat.reduceAdd, Nat.reduceLeDiff, Nat.reduceMul, Int.reduceBEq, Int.reduceBNe, Int.reduceLT, Int.reduceLE, Int.reduceGT, Int.reduceGE]; exact ⟨0, by simp [Le, find], by omega⟩
  · simp -dsimp only [go_sem, ↓reduceIte, reduceCtorEq, Nat.reduceEqDiff, Nat.reduceAdd, Nat.reduceLeDiff, Nat.reduceMul, Int.reduceBEq, Int.reduceBNe, Int.reduceLT, Int.reduceLE, Int.reduceGT, Int.reduceGE]; exact ⟨n, by simp [Le, find], by omega⟩
  rintro m hh ⟨rfl, hm⟩ e ⟨e0, e2, -⟩
  simp -dsimp only [go_sem, ↓reduceIte, reduceCtorEq, Nat.reduceEqDiff, Nat.reduceAdd, Nat.reduceLeDiff, Nat.reduceMul, Int.reduceBEq, Int.reduceBNe, Int.reduceLT, Int.reduceLE, Int.reduceGT, Int.reduceGE, e0, e2]
  refine If_joint (fun m : Int => [(0, .int .i64 m), (2, .pointer (some ⟨b1, 0, none⟩))]) (fun m h' => h' = hh ∧ m = (clampN n : Int)) (fun hn => ?_) (fun hn => ?_) ?_
  · simp -dsimp only [go_sem, ↓reduceIte, reduceCtorEq, Nat.reduceEqDiff, Nat.reduceAdd, Nat.reduceLeDiff, Nat.reduceMul, Int.reduceBEq, Int.reduceBNe, Int.reduceLT, Int.reduceLE, Int.reduceGT, Int.reduceGE, e0, e2]; exact ⟨256, by simp [Le, find], by unfold clampN; omega⟩
  · simp -dsimp only [go_sem, ↓reduceIte, reduceCtorEq, Nat.reduceEqDiff, Nat.reduceAdd, Nat.reduceLeDiff, Nat.reduceMul, Int.reduceBEq, Int.reduceBNe, Int.reduceLT, Int.reduceLE, Int.reduceGT, Int.reduceGE, e0, e2]; exact ⟨m, by simp [Le, find], by unfold clampN; omega⟩
  rintro _ h1 ⟨rfl, rfl⟩ e ⟨e0, e2, -⟩
  have hc : clampN n ≤ 256 := by unfold clampN; omega
  generalize clampN n = k at *
  simp -dsimp only [go_sem, ↓reduceIte, reduceCtorEq, Nat.reduceEqDiff, Nat.reduceAdd, Nat.reduceLeDiff, Nat.reduceMul, Int.reduceBEq, Int.reduceBNe, Int.reduceLT, Int.reduceLE, Int.reduceGT, Int.reduceGE, e0, e2]
  intro b2 h2 n2
  simp -dsimp only [go_sem, ↓reduceIte, reduceCtorEq, Nat.reduceEqDiff, Nat.reduceAdd, Nat.reduceLeDiff, Nat.reduceMul, Int.reduceBEq, Int.reduceBNe, Int.reduceLT, Int.reduceLE, Int.reduceGT, Int.reduceGE, e0, e2]
  refine ⟨n2.row.wr (by simp), fun h3 s3 => ?_⟩
  have r1 := ((n2.rw n1.row).fr s3.fr (by have := n1.row.lt; have := n2.at_; omega))
  have r2 := s3.row n2.row
  have z1 := n1.size; have z2 := n2.size; have z3 := s3.size; have a1 := n1.at_; have a2 := n2.at_
  have p3 : Fr 0 0 h h3 := ((n1.fr (lo := 0) (hi := 0)).trans n2.fr).fresh s3.fr (by omega)
  simp -dsimp only [go_sem, ↓reduceIte, reduceCtorEq, Nat.reduceEqDiff, Nat.reduceAdd, Nat.reduceLeDiff, Nat.reduceMul, Int.reduceBEq, Int.reduceBNe, Int.reduceLT, Int.reduceLE, Int.reduceGT, Int.reduceGE] at r2
  simp -dsimp only [go_sem, ↓reduceIte, reduceCtorEq, Nat.reduceEqDiff, Nat.reduceAdd, Nat.reduceLeDiff, Nat.reduceMul, Int.reduceBEq, Int.reduceBNe, Int.reduceLT, Int.reduceLE, Int.reduceGT, Int.reduceGE, e0, e2]
  refine loop_intro (fun s : Nat × Value => [(0, .int .i64 k), (2, .pointer (some ⟨b1, 0, none⟩)), (3, .pointer (some ⟨b2, 0, none⟩)), (4, .int .i64 s.1)])
    (fun s h' => s.1 ≤ k ∧ Fr 0 0 h h' ∧ Rw h' b1 [.int .i64 0, .slice none 0 0] ∧ Rw h' b2 [.int .i64 k, s.2] ∧ ∃ R, Tab h' (b2 + 1) h'.size s.2 k s.1 R fun _ _ => false)
    (fun s => k - s.1) (0, .slice none 0 0) ?_ ?_ ?_
  · simp [Le, find]
  · exact ⟨by omega, p3, r1, r2, fun _ => 0, .none _ _ _, Nat.zero_le _, by simp, by simp⟩
  rintro ⟨i, v⟩ h4 ⟨hi, p4, r1, r2, R, t4⟩
  dsimp only at hi p4 r1 r2 t4 ⊢
  simp -dsimp only [go_sem, ↓reduceIte, reduceCtorEq, Nat.reduceEqDiff, Nat.reduceAdd, Nat.reduceLeDiff, Nat.reduceMul, Int.reduceBEq, Int.reduceBNe, Int.reduceLT, Int.reduceLE, Int.reduceGT, Int.reduceGE]
  refine ⟨fun hlt => ?_, fun hge => ?_⟩
  · have hlt : i < k := by omega
    have q1 := r1.lt
    have q2 := r2.lt
    simp -dsimp only [go_sem, ↓reduceIte, reduceCtorEq, Nat.reduceEqDiff, Nat.reduceAdd, Nat.reduceLeDiff, Nat.reduceMul, Int.reduceBEq, Int.reduceBNe, Int.reduceLT, Int.reduceLE, Int.reduceGT, Int.reduceGE, r2.cell, withV_some]
    obtain ⟨a, c, rfl⟩ := t4.own.is
    refine Chk_intro (by omega) ?_
    intro b5 h5 n5
    simp -dsimp only [go_sem, ↓reduceIte, reduceCtorEq, Nat.reduceEqDiff, Nat.reduceAdd, Nat.reduceLeDiff, Nat.reduceMul, Int.reduceBEq, Int.reduceBNe, Int.reduceLT, Int.reduceLE, Int.reduceGT, Int.reduceGE]
    intro b6 h6 n6
    have z5 := n5.size; have z6 := n6.size; have a5 := n5.at_; have a6 := n6.at_
    have t6 := (t4.fr (n5.fr (lo := 0) (hi := 0)) (by omega)).fr (n6.fr (lo := 0) (hi := 0)) (by omega)
    simp -dsimp only [go_sem, ↓reduceIte, reduceCtorEq, Nat.reduceEqDiff, Nat.reduceAdd, Nat.reduceLeDiff, Nat.reduceMul, Int.reduceBEq, Int.reduceBNe, Int.reduceLT, Int.reduceLE, Int.reduceGT, Int.reduceGE, n6.row.cell]
    refine t6.own.append (by omega) rfl (by omega) (by simp) (by omega) fun v7 h7 o7 f7 e7 => ?_
    obtain ⟨a7, c7, rfl⟩ := o7.is
    have w6 := t6.own.at_
    have w4 := t4.own.at_
    have r7 := ((r2.fr (n5.fr (lo := 0) (hi := 0)) (by omega)).fr (n6.fr (lo := 0) (hi := 0)) (by omega)).fr f7 (by omega)
    have r71 := ((r1.fr (n5.fr (lo := 0) (hi := 0)) (by omega)).fr (n6.fr (lo := 0) (hi := 0)) (by omega)).fr f7 (by omega)
    have p7 : Fr 0 0 h h7 := ((p4.trans n5.fr).trans n6.fr).fresh f7 (by have := p4.size; omega)
    simp -dsimp only [go_sem, ↓reduceIte, reduceCtorEq, Nat.reduceEqDiff, Nat.reduceAdd, Nat.reduceLeDiff, Nat.reduceMul, Int.reduceBEq, Int.reduceBNe, Int.reduceLT, Int.reduceLE, Int.reduceGT, Int.reduceGE]
    refine ⟨r7.wr (by simp), fun h8 s8 => ?_⟩
    have r8 := s8.row r7
    have r81 := s8.rw r71 (by omega)
    have p8 := p7.fresh s8.fr (by have := p4.size; have := n1.size; omega)
    simp -dsimp only [go_sem, ↓reduceIte, reduceCtorEq, Nat.reduceEqDiff, Nat.reduceAdd, Nat.reduceLeDiff, Nat.reduceMul, Int.reduceBEq, Int.reduceBNe, Int.reduceLT, Int.reduceLE, Int.reduceGT, Int.reduceGE] at r8
    simp -dsimp only [go_sem, ↓reduceIte, reduceCtorEq, Nat.reduceEqDiff, Nat.reduceAdd, Nat.reduceLeDiff, Nat.reduceMul, Int.reduceBEq, Int.reduceBNe, Int.reduceLT, Int.reduceLE, Int.reduceGT, Int.reduceGE]
    simp -dsimp (disch := omega) only [wrap64]
    have z8 := s8.size; have w7 := o7.at_; have g7 := f7.size
    refine ⟨(i + 1, .slice a7 (i + 1) c7), by dsimp only; omega, by simp [Le, find], by dsimp only; omega, p8, r81, r8, fun x => if x = i then b5 else R x, ?_, ?_, ?_, ?_⟩
    · rw [rowsV_succ]
      have o8 := o7.fr s8.fr (by have := o7.at_; omega)
      rw [rowsV_congr (S := R) (fun x hx => if_neg (by omega))]
      simpa [sl] using o8
    · dsimp only; omega
    · intro x hx
      dsimp only at hx ⊢
      by_cases hxi : x = i
      · subst hxi
        simp only [if_true]
        have := n5.row
        rw [zeros_one, Int.toNat_natCast, brow_false] at this
        refine ⟨((this.fr (n6.fr (lo := 0) (hi := 0)) (by omega)).fr f7 ?_).fr s8.fr (by omega), by omega, by have := f7.size; omega, ?_⟩
        · omega
        · omega
      · simp only [hxi, if_false]
        obtain ⟨g1, g2, g3, g4⟩ := t6.row x (by omega)
        refine ⟨(g1.fr f7 (by omega)).fr s8.fr (by omega), g2, by have := f7.size; omega, by omega⟩
    · intro x z hx hz
      have gx : x < i → R x < b5 := fun h => by have := (t4.row x h).2.2.1; omega
      have gz : z < i → R z < b5 := fun h => by have := (t4.row z h).2.2.1; omega
      split <;> split <;> intro he
      · omega
      · have := gz (by omega); omega
      · have := gx (by omega); omega
      · exact t4.inj x z (by omega) (by omega) he
  · obtain ⟨a, c, rfl⟩ := t4.own.is
    simp -dsimp only [go_sem, ↓reduceIte, reduceCtorEq, Nat.reduceEqDiff, Nat.reduceAdd, Nat.reduceLeDiff, Nat.reduceMul, Int.reduceBEq, Int.reduceBNe, Int.reduceLT, Int.reduceLE, Int.reduceGT, Int.reduceGE, r2.cell]
    have q1 := r1.lt
    refine ⟨r1.wr (by simp), fun h5 s5 => ?_⟩
    have r5 := s5.row r1
    have w4 := t4.own.at_
    simp -dsimp only [go_sem, ↓reduceIte, reduceCtorEq, Nat.reduceEqDiff, Nat.reduceAdd, Nat.reduceLeDiff, Nat.reduceMul, Int.reduceBEq, Int.reduceBNe, Int.reduceLT, Int.reduceLE, Int.reduceGT, Int.reduceGE] at r5
    simp -dsimp only [go_sem, ↓reduceIte, reduceCtorEq, Nat.reduceEqDiff, Nat.reduceAdd, Nat.reduceLeDiff, Nat.reduceMul, Int.reduceBEq, Int.reduceBNe, Int.reduceLT, Int.reduceLE, Int.reduceGT, Int.reduceGE, r5.cell]
    have hik : i = k := by omega
    subst hik
    have hs := n1.size
    exact ⟨p4.fresh s5.fr (by omega), hc, _, R, rfl, by rw [s5.size]; exact (t4.fr s5.fr (by omega)).mono (by omega) (by omega)⟩
end Go.Proofs.Tst
namespace Go.Proofs.Tst
open Go Go.Vc
/-- Is a number a point? -/
def inR (n a : Int) : Bool := decide (0 ≤ a ∧ a < n)
theorem ref1_in (n a : Int) (s : Value) (h : Heap) : Con Tryd.prog 71 #[.agg #[.int .i64 n, s], .int .i64 a] h fun v h' => Fr 0 0 h h' ∧ v = .bool (inR n a) := by
  unfold inR
  refine con_ref1_in ?_
  simp -dsimp only [go_sem, ↓reduceIte, reduceCtorEq, Nat.reduceEqDiff, Nat.reduceAdd, Nat.reduceLeDiff, Nat.reduceMul, Int.reduceBEq, Int.reduceBNe, Int.reduceLT, Int.reduceLE, Int.reduceGT, Int.reduceGE]
  intro b1 h1 n1
  simp -dsimp only [go_sem, ↓reduceIte, reduceCtorEq, Nat.reduceEqDiff, Nat.reduceAdd, Nat.reduceLeDiff, Nat.reduceMul, Int.reduceBEq, Int.reduceBNe, Int.reduceLT, Int.reduceLE, Int.reduceGT, Int.reduceGE]
  refine ⟨fun ha => ?_, fun ha => ?_⟩
  · have r1 := n1.row
    simp -dsimp only [go_sem, ↓reduceIte, reduceCtorEq, Nat.reduceEqDiff, Nat.reduceAdd, Nat.reduceLeDiff, Nat.reduceMul, Int.reduceBEq, Int.reduceBNe, Int.reduceLT, Int.reduceLE, Int.reduceGT, Int.reduceGE, r1.cell, ha]
    exact n1.fr
  · simp -dsimp only [go_sem, ↓reduceIte, reduceCtorEq, Nat.reduceEqDiff, Nat.reduceAdd, Nat.reduceLeDiff, Nat.reduceMul, Int.reduceBEq, Int.reduceBNe, Int.reduceLT, Int.reduceLE, Int.reduceGT, Int.reduceGE, ha]
    exact ⟨n1.fr, by simp⟩

/-- The pairs that a list lays into n points. -/
def ofM (n : Nat) (l : List (Int × Int)) (i j : Nat) : Bool := l.any fun p => inR n p.1 && inR n p.2 && p.1 == i && p.2 == j

theorem ofM_take {n : Nat} {l : List (Int × Int)} {i : Nat} {p : Int × Int} (hp : l[i]? = some p) (x y : Nat) : ofM n (l.take (i + 1)) x y = (ofM n (l.take i) x y || (inR n p.1 && inR n p.2 && p.1 == x && p.2 == y)) := by
  simp only [ofM, List.take_add_one, hp, Option.toList_some, List.any_append, List.any_cons, List.any_nil, Bool.or_false]
theorem ref1_Of (n : Int) (lv : Value) (l : List (Int × Int)) (h : Heap) (hl : Rd 2 h lv l.length (pairsV l)) (hb : l.length ≤ 4611686018427387904) :
    Con Tryd.prog 15 #[.int .i64 n, lv] h fun v h' => Fr 0 0 h h' ∧ RefAt h' h.size h'.size v (clampN n) (ofM (clampN n) l) := by
  refine con_ref1_Of ?_
  obtain ⟨a, c, rfl⟩ := hl.is
  simp -dsimp only [go_sem, ↓reduceIte, reduceCtorEq, Nat.reduceEqDiff, Nat.reduceAdd, Nat.reduceLeDiff, Nat.reduceMul, Int.reduceBEq, Int.reduceBNe, Int.reduceLT, Int.reduceLE, Int.reduceGT, Int.reduceGE]
  intro b1 h1 n1
  simp -dsimp only [go_sem, ↓reduceIte, reduceCtorEq, Nat.reduceEqDiff, Nat.reduceAdd, Nat.reduceLeDiff, Nat.reduceMul, Int.reduceBEq, Int.reduceBNe, Int.reduceLT, Int.reduceLE, Int.reduceGT, Int.reduceGE]
  refine call_of (ref1_New n h1) ?_
  rintro v h2 ⟨f2, hc, s, R, rfl, t2⟩
  obtain ⟨sa, sc, rfl⟩ := t2.own.is
  simp -dsimp only [go_sem, ↓reduceIte, reduceCtorEq, Nat.reduceEqDiff, Nat.reduceAdd, Nat.reduceLeDiff, Nat.reduceMul, Int.reduceBEq, Int.reduceBNe, Int.reduceLT, Int.reduceLE, Int.reduceGT, Int.reduceGE]
  intro b3 h3 n3
  simp -dsimp only [go_sem, ↓reduceIte, reduceCtorEq, Nat.reduceEqDiff, Nat.reduceAdd, Nat.reduceLeDiff, Nat.reduceMul, Int.reduceBEq, Int.reduceBNe, Int.reduceLT, Int.reduceLE, Int.reduceGT, Int.reduceGE]
  refine ⟨n3.row.wr (by simp), fun h4 s4 => ?_⟩
  have r1 := (((n1.row.fr f2 (by omega)).fr (n3.fr (lo := 0) (hi := 0)) (by omega)).fr s4.fr (by have := n1.row.lt; have := f2.size; have := n3.at_; omega))
  have r3 := s4.row n3.row
  have z1 := n1.size; have z2 := f2.size; have z3 := n3.size; have z4 := s4.size; have a1 := n1.at_; have a3 := n3.at_
  have t4 := (t2.fr (n3.fr (lo := 0) (hi := 0)) (by omega)).fr s4.fr (by omega)
  have p4 : Fr 0 0 h h4 := (((n1.fr (lo := 0) (hi := 0)).trans f2).trans n3.fr).fresh s4.fr (by omega)
  simp -dsimp only [go_sem, ↓reduceIte, reduceCtorEq, Nat.reduceEqDiff, Nat.reduceAdd, Nat.reduceLeDiff, Nat.reduceMul, Int.reduceBEq, Int.reduceBNe, Int.reduceLT, Int.reduceLE, Int.reduceGT, Int.reduceGE] at r3
  simp -dsimp only [go_sem, ↓reduceIte, reduceCtorEq, Nat.reduceEqDiff, Nat.reduceAdd, Nat.reduceLeDiff, Nat.reduceMul, Int.reduceBEq, Int.reduceBNe, Int.reduceLT, Int.reduceLE, Int.reduceGT, Int.reduceGE]
  refine loop_intro (fun i : Nat => [(1, .slice a l.length c), (4, .pointer (some ⟨b1, 0, none⟩)), (5, .pointer (some ⟨b3, 0, none⟩)), (6, .int .i64 i)])
    (fun i h' => i ≤ l.length ∧ Fr 0 0 h h' ∧ h4.size ≤ h'.size ∧ Rw h' b1 [.int .i64 0, .slice none 0 0] ∧ Rw h' b3 [.int .i64 (clampN n), .slice sa (clampN n) sc] ∧ Tab h' h1.size h2.size (.slice sa (clampN n) sc) (clampN n) (clampN n) R (ofM (clampN n) (l.take i)))
    (fun i => l.length - i) 0 ?_ ?_ ?_
  · simp [Le, find]
  · exact ⟨by omega, p4, by omega, r1, r3, t4.congr fun _ _ _ _ => by simp [ofM]⟩
  generalize clampN n = k at *
  rintro i h5 ⟨hi, p5, y5, r1, r3, t5⟩
  simp -dsimp only [go_sem, ↓reduceIte, reduceCtorEq, Nat.reduceEqDiff, Nat.reduceAdd, Nat.reduceLeDiff, Nat.reduceMul, Int.reduceBEq, Int.reduceBNe, Int.reduceLT, Int.reduceLE, Int.reduceGT, Int.reduceGE]
  refine ⟨fun hlt => ?_, fun hge => ?_⟩
  · have hlt : i < l.length := by omega
    have hp : l[i]? = some l[i] := by simp [hlt]
    generalize l[i] = p at hp
    simp -dsimp only [go_sem, ↓reduceIte, reduceCtorEq, Nat.reduceEqDiff, Nat.reduceAdd, Nat.reduceLeDiff, Nat.reduceMul, Int.reduceBEq, Int.reduceBNe, Int.reduceLT, Int.reduceLE, Int.reduceGT, Int.reduceGE, r3.cell]
    refine Chk_intro (by omega) ((hl.fr p5).pair hp fun b o c1 c2 => ?_)
    simp -dsimp only [go_sem, ↓reduceIte, reduceCtorEq, Nat.reduceEqDiff, Nat.reduceAdd, Nat.reduceLeDiff, Nat.reduceMul, Int.reduceBEq, Int.reduceBNe, Int.reduceLT, Int.reduceLE, Int.reduceGT, Int.reduceGE, c1]
    refine call_of (ref1_in _ _ _ _) ?_
    rintro v h6 ⟨f6, rfl⟩
    simp -dsimp only [go_sem, ↓reduceIte, reduceCtorEq, Nat.reduceEqDiff, Nat.reduceAdd, Nat.reduceLeDiff, Nat.reduceMul, Int.reduceBEq, Int.reduceBNe, Int.reduceLT, Int.reduceLE, Int.reduceGT, Int.reduceGE]
    refine ⟨fun hin => ?_, fun hout => ?_⟩
    · have hin' := hin; simp only [inR, decide_eq_true_eq] at hin'
      have r36 := r3.fr f6 (by omega)
      have p6 := p5.trans f6
      simp -dsimp only [go_sem, ↓reduceIte, reduceCtorEq, Nat.reduceEqDiff, Nat.reduceAdd, Nat.reduceLeDiff, Nat.reduceMul, Int.reduceBEq, Int.reduceBNe, Int.reduceLT, Int.reduceLE, Int.reduceGT, Int.reduceGE, r36.cell, hin]
      refine Chk_intro (by omega) ((hl.fr p6).pair hp fun b' o' c3 c4 => ?_)
      simp -dsimp only [go_sem, ↓reduceIte, reduceCtorEq, Nat.reduceEqDiff, Nat.reduceAdd, Nat.reduceLeDiff, Nat.reduceMul, Int.reduceBEq, Int.reduceBNe, Int.reduceLT, Int.reduceLE, Int.reduceGT, Int.reduceGE, c4, hin]
      refine call_of (ref1_in _ _ _ _) ?_
      rintro v h7 ⟨f7, rfl⟩
      have r37 := r36.fr f7 (by omega)
      simp -dsimp only [go_sem, ↓reduceIte, reduceCtorEq, Nat.reduceEqDiff, Nat.reduceAdd, Nat.reduceLeDiff, Nat.reduceMul, Int.reduceBEq, Int.reduceBNe, Int.reduceLT, Int.reduceLE, Int.reduceGT, Int.reduceGE, hin, r37.cell, f7.keep (f6.keep c1 (by omega)) (by omega)]
      refine ⟨fun hin2 => ?_, fun hout => ?_⟩
      · have hin2' := hin2; simp only [inR, decide_eq_true_eq] at hin2'
        obtain ⟨x, hx⟩ : ∃ x : Nat, p.1 = x := ⟨p.1.toNat, by omega⟩
        obtain ⟨y, hy⟩ : ∃ y : Nat, p.2 = y := ⟨p.2.toNat, by omega⟩
        have p7 := p6.trans f7
        have t7 := (t5.fr f6 (by omega)).fr f7 (by omega)
        simp -dsimp only [go_sem, ↓reduceIte, reduceCtorEq, Nat.reduceEqDiff, Nat.reduceAdd, Nat.reduceLeDiff, Nat.reduceMul, Int.reduceBEq, Int.reduceBNe, Int.reduceLT, Int.reduceLE, Int.reduceGT, Int.reduceGE, r37.cell]
        refine Chk_intro (by omega) ((hl.fr p7).pair hp fun b2 o2 c5 c6 => ?_)
        simp -dsimp only [go_sem, ↓reduceIte, reduceCtorEq, Nat.reduceEqDiff, Nat.reduceAdd, Nat.reduceLeDiff, Nat.reduceMul, Int.reduceBEq, Int.reduceBNe, Int.reduceLT, Int.reduceLE, Int.reduceGT, Int.reduceGE, c5, hx]
        refine Chk_intro (by omega) (t7.idx (p := x) (by omega) fun b4 o4 c7 => ?_)
        simp -dsimp only [go_sem, ↓reduceIte, reduceCtorEq, Nat.reduceEqDiff, Nat.reduceAdd, Nat.reduceLeDiff, Nat.reduceMul, Int.reduceBEq, Int.reduceBNe, Int.reduceLT, Int.reduceLE, Int.reduceGT, Int.reduceGE, c7]
        refine Chk_intro (by omega) ((hl.fr p7).pair hp fun b6 o6 c8 c9 => ?_)
        simp -dsimp only [go_sem, ↓reduceIte, reduceCtorEq, Nat.reduceEqDiff, Nat.reduceAdd, Nat.reduceLeDiff, Nat.reduceMul, Int.reduceBEq, Int.reduceBNe, Int.reduceLT, Int.reduceLE, Int.reduceGT, Int.reduceGE, c9, hy]
        refine Chk_intro (by omega) ?_
        simp -dsimp only [go_sem, ↓reduceIte, reduceCtorEq, Nat.reduceEqDiff, Nat.reduceAdd, Nat.reduceLeDiff, Nat.reduceMul, Int.reduceBEq, Int.reduceBNe, Int.reduceLT, Int.reduceLE, Int.reduceGT, Int.reduceGE]
        refine Chk_intro (t7.wr (by omega) (by omega)) fun h8 s8 => ?_
        have t8 := t7.set (by omega) s8
        simp -dsimp only [go_sem, ↓reduceIte, reduceCtorEq, Nat.reduceEqDiff, Nat.reduceAdd, Nat.reduceLeDiff, Nat.reduceMul, Int.reduceBEq, Int.reduceBNe, Int.reduceLT, Int.reduceLE, Int.reduceGT, Int.reduceGE]
        simp -dsimp (disch := omega) only [wrap64]
        have y6 := f6.size; have y7 := f7.size; have y8 := s8.size
        have hRx := (t7.row x (by omega)).2
        refine ⟨i + 1, by omega, by simp [Le, find], by omega, p7.fresh s8.fr (by omega), by omega, ?_, s8.rw r37 (by omega), t8.congr fun u v hu hv => ?_⟩
        · exact s8.rw ((r1.fr f6 (by omega)).fr f7 (by omega)) (by omega)
        · rw [ofM_take hp, hin, hin2, hx, hy]
          by_cases hux : u = x <;> by_cases hvy : v = y <;> simp [hux, hvy] <;> omega
      · simp -dsimp only [go_sem, ↓reduceIte, reduceCtorEq, Nat.reduceEqDiff, Nat.reduceAdd, Nat.reduceLeDiff, Nat.reduceMul, Int.reduceBEq, Int.reduceBNe, Int.reduceLT, Int.reduceLE, Int.reduceGT, Int.reduceGE]
        simp -dsimp (disch := omega) only [wrap64]
        have y6 := f6.size; have y7 := f7.size
        refine ⟨i + 1, by omega, by simp [Le, find], by omega, p6.trans f7, by omega, (r1.fr f6 (by omega)).fr f7 (by omega), r37, ((t5.fr f6 (by omega)).fr f7 (by omega)).congr fun u v hu hv => ?_⟩
        rw [ofM_take hp]; simp [hout]
    · simp -dsimp only [go_sem, ↓reduceIte, reduceCtorEq, Nat.reduceEqDiff, Nat.reduceAdd, Nat.reduceLeDiff, Nat.reduceMul, Int.reduceBEq, Int.reduceBNe, Int.reduceLT, Int.reduceLE, Int.reduceGT, Int.reduceGE, hout]
      simp -dsimp (disch := omega) only [wrap64]
      have y6 := f6.size
      refine ⟨i + 1, by omega, by simp [Le, find], by omega, p5.trans f6, by omega, r1.fr f6 (by omega), r3.fr f6 (by omega), (t5.fr f6 (by omega)).congr fun u v hu hv => ?_⟩
      rw [ofM_take hp]; simp [hout]
  · simp -dsimp only [go_sem, ↓reduceIte, reduceCtorEq, Nat.reduceEqDiff, Nat.reduceAdd, Nat.reduceLeDiff, Nat.reduceMul, Int.reduceBEq, Int.reduceBNe, Int.reduceLT, Int.reduceLE, Int.reduceGT, Int.reduceGE, r3.cell]
    refine ⟨r1.wr (by simp), fun h6 s6 => ?_⟩
    have r6 := s6.row r1
    simp -dsimp only [go_sem, ↓reduceIte, reduceCtorEq, Nat.reduceEqDiff, Nat.reduceAdd, Nat.reduceLeDiff, Nat.reduceMul, Int.reduceBEq, Int.reduceBNe, Int.reduceLT, Int.reduceLE, Int.reduceGT, Int.reduceGE] at r6
    simp -dsimp only [go_sem, ↓reduceIte, reduceCtorEq, Nat.reduceEqDiff, Nat.reduceAdd, Nat.reduceLeDiff, Nat.reduceMul, Int.reduceBEq, Int.reduceBNe, Int.reduceLT, Int.reduceLE, Int.reduceGT, Int.reduceGE, r6.cell]
    have : i = l.length := by omega
    subst this
    rw [List.take_length] at t5
    refine ⟨p5.fresh s6.fr (by omega), hc, _, R, rfl, ?_⟩
    have := s6.size
    exact (t5.fr s6.fr (by omega)).mono (by omega) (by omega)
end Go.Proofs.Tst
namespace Go.Proofs.Tst
open Go Go.Vc
/-- May a point come next? -/
def freeB (n : Nat) (M : Nat → Nat → Bool) (D : Nat → Bool) (p : Nat) : Bool := !D p && (List.range n).all fun a => !M a p || D a
theorem freeB_true {n : Nat} {M : Nat → Nat → Bool} {D : Nat → Bool} {p : Nat} : freeB n M D p = true ↔ D p = false ∧ ∀ a, a < n → M a p = true → D a = true := by
  simp only [freeB, Bool.and_eq_true, Bool.not_eq_true', List.all_eq_true, List.mem_range, Bool.or_eq_true]
  refine and_congr_right fun _ => forall_congr' fun a => forall_congr' fun _ => ?_
  cases M a p <;> simp
end Go.Proofs.Tst
namespace Go.Proofs.Tst
open Go Go.Vc
/-- Is a list all points once, each pair in order? -/
def LinP (n : Nat) (M : Nat → Nat → Bool) (l : List Int) : Prop :=
  l.length = n ∧ (∀ x ∈ l, 0 ≤ x ∧ x < (n : Int)) ∧ l.Nodup ∧ ∀ a, a < n → ∀ b, b < n → M a b = true → l.idxOf (a : Int) < l.idxOf (b : Int)
instance (n : Nat) (M : Nat → Nat → Bool) (l : List Int) : Decidable (LinP n M l) := by unfold LinP; infer_instance

end Go.Proofs.Tst
/-
  Relations, rows by rows: plain facts.
-/
namespace Go.Vc
open Go
theorem Rw.ext {B : Nat} {h h' : Heap} {b : Nat} {c : List Value} (r : Rw h b c) (x : Ext B h h') : Rw h' b c := x.rw r
theorem Holder.ext {B : Nat} {h h' : Heap} {s : Nat} {v : Value} {n : Nat} {xs : List Value} {lo : Nat} (w : Holder s h v n xs lo) (x : Ext B h h') : Holder s h' v n xs lo := x.holder w
theorem Rd.ext {B : Nat} {h h' : Heap} {s : Nat} {v : Value} {n : Nat} {xs : List Value} (w : Rd s h v n xs) (x : Ext B h h') : Rd s h' v n xs := x.rd w
theorem PTab.ext {B : Nat} {h h' : Heap} {lo hi pb rb n : Nat} {R : Nat → Nat} {W : Nat → Nat → Nat} {M : Nat → Nat → Bool} (t : PTab h lo hi pb rb n R W M) (x : Ext B h h') : PTab h' lo hi pb rb n R W M := x.ptab t
theorem ProgAt.ext {B : Nat} {h h' : Heap} {lo hi : Nat} {p : Value} {n : Nat} {M : Nat → Nat → Bool} (t : ProgAt h lo hi p n M) (x : Ext B h h') : ProgAt h' lo hi p n M := x.prog t
theorem TabAt.ext {B : Nat} {h h' : Heap} (t : TabAt h) (x : Ext B h h') : TabAt h' := x.tab t
theorem Fr.ext {B : Nat} {h h1 h2 : Heap} (f : Fr 0 0 h h1) (x : Ext B h1 h2) (hB : h.size ≤ B) : Fr 0 0 h h2 := x.fr f hB
theorem Tab.ext {B : Nat} {h h' : Heap} {lo hi : Nat} {s : Value} {n k : Nat} {R : Nat → Nat} {M : Nat → Nat → Bool} (t : Tab h lo hi s n k R M) (x : Ext B h h') : Tab h' lo hi s n k R M :=
  ⟨t.own.ext x, t.top, fun i hi => by obtain ⟨h1, h2⟩ := t.row i hi; exact ⟨h1.ext x, h2⟩, t.inj⟩

theorem PTab.mono' {h : Heap} {lo hi hi' pb rb n : Nat} {R : Nat → Nat} {W : Nat → Nat → Nat} {M : Nat → Nat → Bool} (t : PTab h lo hi pb rb n R W M) (h2 : hi ≤ hi') : PTab h lo hi' pb rb n R W M := by
  have a := t.at_
  refine ⟨t.ptr, t.rows, fun i hi => ?_, t.inj, by omega⟩
  obtain ⟨g1, g2, g3, g4⟩ := t.row i hi
  exact ⟨g1, by omega, by omega, g4⟩
theorem PTab.lower {h : Heap} {lo lo' hi pb rb n : Nat} {R : Nat → Nat} {W : Nat → Nat → Nat} {M : Nat → Nat → Bool} (t : PTab h lo hi pb rb n R W M) (h2 : lo' ≤ lo) : PTab h lo' hi pb rb n R W M := by
  have a := t.at_
  refine ⟨t.ptr, t.rows, fun i hi => ?_, t.inj, by omega⟩
  obtain ⟨g1, g2, g3, g4⟩ := t.row i hi
  exact ⟨g1, by omega, by omega, g4⟩
theorem PTab.congr {h : Heap} {lo hi pb rb n : Nat} {R : Nat → Nat} {W : Nat → Nat → Nat} {M M' : Nat → Nat → Bool} (t : PTab h lo hi pb rb n R W M) (he : ∀ i j, i < n → j < n → M i j = M' i j) : PTab h lo hi pb rb n R W M' := by
  refine ⟨t.ptr, t.rows, fun i hi => ?_, t.inj, t.at_⟩
  obtain ⟨h1, h2, h3, h4, h5, h6⟩ := t.row i hi
  refine ⟨h1, h2, h3, h4, h5, fun j => ⟨(h6 j).1, fun k hk => ?_⟩⟩
  rw [(h6 j).2 k hk]
  by_cases hjk : 64 * j + k < n
  · rw [he i _ hi hjk]
  · simp [hjk]
/-- A whole row is turned. -/
theorem PTab.updRow {h h' : Heap} {lo hi pb rb n : Nat} {R : Nat → Nat} {W : Nat → Nat → Nat} {M : Nat → Nat → Bool} (t : PTab h lo hi pb rb n R W M) {x : Nat} {w : Nat → Nat} {f : Nat → Bool} (hx : x < n) (fr : Fr (R x) (R x + 1) h h')
    (hr : Rw h' (R x) (wrow (nw n) w)) (hb : Bits n w f) : PTab h' lo hi pb rb n R (Vc.upd W x w) (Vc.upd M x f) := by
  obtain ⟨g1, g2, g3, g4, g5, g6⟩ := t.row x hx
  have l1 := t.ptr.lt; have l2 := t.rows.lt
  refine ⟨t.ptr.fr fr (by omega), t.rows.fr fr (by omega), fun i hi => ?_, t.inj, t.at_⟩
  obtain ⟨h1, h2, h3, h4, h5, h6⟩ := t.row i hi
  by_cases hix : i = x
  · subst hix
    rw [upd_same, upd_same]; exact ⟨hr, h2, h3, h4, h5, hb⟩
  · rw [upd_ne _ _ hix, upd_ne _ _ hix]
    have : R i ≠ R x := fun he => hix (t.inj i x hi hx he)
    exact ⟨h1.fr fr (by omega), h2, h3, h4, h5, h6⟩
theorem Bits.or {n m : Nat} {W V : Nat → Nat} {f g : Nat → Bool} (b : Bits n W f) (c : Bits m V g) (hm : m ≤ n) : Bits n (fun j => if j < nw m then W j ||| V j else W j) fun q => f q || (decide (q < m) && g q) := by
  intro j
  by_cases hj : j < nw m
  · simp only [hj, if_true]
    refine ⟨Nat.or_lt_two_pow (b j).1 (c j).1, fun k hk => ?_⟩
    rw [Nat.testBit_or, (b j).2 k hk, (c j).2 k hk]
    by_cases h1 : 64 * j + k < m
    · have : 64 * j + k < n := by omega
      simp [h1, this]
    · simp [h1]
  · simp only [hj, if_false]
    refine ⟨(b j).1, fun k hk => ?_⟩
    rw [(b j).2 k hk]
    have : ¬ 64 * j + k < m := by unfold nw at hj; omega
    simp [this]
theorem wrow_inj {w v : Nat} {W V : Nat → Nat} (h : wrow w W = wrow v V) : w = v ∧ ∀ i, i < w → W i = V i := by
  have hl : w = v := by have := congrArg List.length h; simpa using this
  subst hl
  refine ⟨rfl, fun i hi => ?_⟩
  have h1 := wrow_get (W := W) hi
  rw [h, wrow_get hi] at h1
  simp only [Option.some.injEq, Value.int.injEq, true_and] at h1
  omega
theorem Rw.inj {h : Heap} {b : Nat} {c d : List Value} (r : Rw h b c) (s : Rw h b d) : c = d := by
  obtain ⟨t, r⟩ := r; obtain ⟨u, s⟩ := s
  unfold Blk at *
  rw [r] at s
  simp only [Option.some.injEq, Obj.cells.injEq] at s
  have := congrArg Array.toList s.1
  simpa using this
theorem wrow_congr {w : Nat} {W V : Nat → Nat} (h : ∀ i, i < w → W i = V i) : wrow w W = wrow w V := by
  unfold wrow; apply List.map_congr_left; intro i hi; rw [h i (List.mem_range.1 hi)]
theorem wrow_upd {w : Nat} {W : Nat → Nat} {j x : Nat} : (wrow w W).set j (.int .u64 (x : Int)) = wrow w (upd W j x) := wrow_set
/-! ### Relations as pairs of a size and truths -/
/-- Within a size. -/
def inN (n : Nat) (M : Nat → Nat → Bool) (i j : Nat) : Bool := decide (i < n) && decide (j < n) && M i j
theorem inN_true {n : Nat} {M : Nat → Nat → Bool} {i j : Nat} : inN n M i j = true ↔ i < n ∧ j < n ∧ M i j = true := by simp [inN, and_assoc]
theorem inN_in {n : Nat} {M : Nat → Nat → Bool} {i j : Nat} (hi : i < n) (hj : j < n) : inN n M i j = M i j := by simp [inN, hi, hj]
theorem inN_out {n : Nat} {M : Nat → Nat → Bool} {i j : Nat} (h : ¬ (i < n ∧ j < n)) : inN n M i j = false := by
  rw [Bool.eq_false_iff]; intro h'; have := inN_true.1 h'; exact h ⟨this.1, this.2.1⟩
def unionM (n : Nat) (M : Nat → Nat → Bool) (m : Nat) (N : Nat → Nat → Bool) (i j : Nat) : Bool := inN n M i j || inN m N i j
def interM (n : Nat) (M : Nat → Nat → Bool) (m : Nat) (N : Nat → Nat → Bool) (i j : Nat) : Bool := inN n M i j && inN m N i j
def minusM (n : Nat) (M : Nat → Nat → Bool) (m : Nat) (N : Nat → Nat → Bool) (i j : Nat) : Bool := inN n M i j && !inN m N i j
def compM (n : Nat) (M : Nat → Nat → Bool) (m : Nat) (N : Nat → Nat → Bool) (i j : Nat) : Bool := (List.range n).any fun k => inN n M i k && inN m N k j
theorem compM_true {n m : Nat} {M N : Nat → Nat → Bool} {i j : Nat} : compM n M m N i j = true ↔ ∃ k, inN n M i k = true ∧ inN m N k j = true := by
  simp only [compM, List.any_eq_true, List.mem_range, Bool.and_eq_true]
  exact ⟨fun ⟨k, _, h⟩ => ⟨k, h⟩, fun ⟨k, h1, h2⟩ => ⟨k, (inN_true.1 h1).2.1, h1, h2⟩⟩
def invM (M : Nat → Nat → Bool) (i j : Nat) : Bool := M j i
/-- Is a point in a set? -/
def atB (l : List Bool) (p : Nat) : Bool := l.getD p false
def cutM (M : Nat → Nat → Bool) (r c : List Bool) (i j : Nat) : Bool := M i j && atB r i && atB c j
/-- The closure, point by point. -/
def warM (n : Nat) (M : Nat → Nat → Bool) : Nat → Nat → Nat → Bool
  | 0, i, j => M i j
  | k + 1, i, j => warM n M k i j || (warM n M k i k && warM n M k k j)
def plusM (n : Nat) (M : Nat → Nat → Bool) : Nat → Nat → Bool := warM n M n
def optM (M : Nat → Nat → Bool) (i j : Nat) : Bool := M i j || i == j
def idM (l : List Bool) (i j : Nat) : Bool := i == j && atB l i
def imgB (n : Nat) (M : Nat → Nat → Bool) (l : List Bool) (j : Nat) : Bool := (List.range n).any fun i => atB l i && M i j
def irrB (n : Nat) (M : Nat → Nat → Bool) : Bool := (List.range n).all fun i => !M i i
/-- Booleans in cells. -/
def boolsV (l : List Bool) : List Value := l.map .bool
@[simp] theorem length_boolsV (l : List Bool) : (boolsV l).length = l.length := by simp [boolsV]
theorem boolsV_get {l : List Bool} {i : Nat} {b : Bool} (h : l[i]? = some b) : (boolsV l)[i]? = some (.bool b) := by simp [boolsV, h]
theorem atB_get {l : List Bool} {i : Nat} {b : Bool} (h : l[i]? = some b) : atB l i = b := by simp [atB, h]
theorem atB_out {l : List Bool} {i : Nat} (h : l.length ≤ i) : atB l i = false := by simp [atB, h]
theorem rvc_joint {P : Program} {y : Option Nat} {r : GR} {W : Watch} {e : Env} {h : Heap} {K : Env → Heap → Prop} {α : Type} (E : α → Env) (I : α → Heap → Prop)
    (h1 : rvc P y r W e h (fun e h => ∃ s, Le (E s) e ∧ I s h)) (h2 : ∀ s h, I s h → ∀ e, Le (E s) e → K e h) : rvc P y r W e h K :=
  rvc_mono (fun e h ⟨s, hl, hi⟩ => h2 s h hi e hl) h1
/-- A table in the making: the places up to (p, q) are new. -/
def mixM (p q n : Nat) (N O : Nat → Nat → Bool) (i j : Nat) : Bool := if (i < p ∧ j < n) ∨ (i = p ∧ j < q) then N i j else O i j
theorem mixM_zero {n : Nat} {N O : Nat → Nat → Bool} {i j : Nat} : mixM 0 0 n N O i j = O i j := by unfold mixM; rw [if_neg (by omega)]
theorem mixM_next {p n : Nat} {N O : Nat → Nat → Bool} {i j : Nat} : mixM p n n N O i j = mixM (p + 1) 0 n N O i j := by
  unfold mixM
  by_cases h : (i < p ∧ j < n) ∨ (i = p ∧ j < n)
  · rw [if_pos h, if_pos (by omega)]
  · rw [if_neg h, if_neg (by omega)]
theorem mixM_set {p q n : Nat} {N O : Nat → Nat → Bool} {v : Bool} (hv : v = N p q) {i j : Nat} : (if i = p ∧ j = q then v else mixM p q n N O i j) = mixM p (q + 1) n N O i j := by
  unfold mixM
  by_cases h : i = p ∧ j = q
  · obtain ⟨rfl, rfl⟩ := h
    rw [if_pos ⟨rfl, rfl⟩, if_pos (by omega), hv]
  · rw [if_neg h]
    by_cases h2 : (i < p ∧ j < n) ∨ (i = p ∧ j < q)
    · rw [if_pos h2, if_pos (by omega)]
    · rw [if_neg h2, if_neg (by omega)]
theorem mixM_set' {p q n : Nat} {N O : Nat → Nat → Bool} {v : Bool} (hv : v = N p q) {i j : Nat} : (if i = q ∧ j = p then v else mixM p q n N O j i) = mixM p (q + 1) n N O j i := by
  have := mixM_set (n := n) (O := O) hv (i := j) (j := i)
  rw [← this]
  by_cases h : i = q ∧ j = p
  · rw [if_pos h, if_pos ⟨h.2, h.1⟩]
  · rw [if_neg h, if_neg (fun h' => h ⟨h'.2, h'.1⟩)]
theorem mixM_end {p n : Nat} {N O : Nat → Nat → Bool} {i j : Nat} (hi : i < p) (hj : j < n) : mixM p 0 n N O i j = N i j := by unfold mixM; rw [if_pos (by omega)]
theorem mixM_same {p q n : Nat} {N O : Nat → Nat → Bool} {i j : Nat} (h : i = p) (hj : q ≤ j) : mixM p q n N O i j = O i j := by unfold mixM; rw [if_neg (by omega)]
end Go.Vc
namespace Go.Proofs.Tst
open Go Go.Vc
theorem rel_inside {n : Nat} {M : Nat → Nat → Bool} {p : Value} {lo hi : Nat} {h : Heap} (hr : ProgAt h lo hi p n M) (a b : Int) :
    Con Tryd.prog 78 #[p, .int .i64 a, .int .i64 b] h fun v h' => h' = h ∧ v = .bool (inR n a && inR n b) := by
  refine con_rel_Rel_inside ?_
  obtain ⟨hn, pb, rb, R, W, rfl, t⟩ := hr
  have hI : ∀ x : Int, 0 ≤ x → x < (n : Int) → inR n x = true := fun x h1 h2 => by simp [inR, h1, h2]
  by_cases h1 : a ≥ 0
  · by_cases h2 : a < (n : Int)
    · by_cases h3 : b ≥ 0
      · simp -dsimp only [go_sem, ↓reduceIte, reduceCtorEq, Nat.reduceEqDiff, Nat.reduceAdd, Nat.reduceLeDiff, Nat.reduceMul, Int.reduceBEq, Int.reduceBNe, Int.reduceLT, Int.reduceLE, Int.reduceGT, Int.reduceGE, h1, h2, h3, t.ptr.cell, decide_true]
        simp [inR, h1, h2, h3]
        try exact fun _ => h1
      · simp -dsimp only [go_sem, ↓reduceIte, reduceCtorEq, Nat.reduceEqDiff, Nat.reduceAdd, Nat.reduceLeDiff, Nat.reduceMul, Int.reduceBEq, Int.reduceBNe, Int.reduceLT, Int.reduceLE, Int.reduceGT, Int.reduceGE, h1, h2, h3, t.ptr.cell, decide_true, decide_false]
        simp [inR, h1, h2]; omega
    · simp -dsimp only [go_sem, ↓reduceIte, reduceCtorEq, Nat.reduceEqDiff, Nat.reduceAdd, Nat.reduceLeDiff, Nat.reduceMul, Int.reduceBEq, Int.reduceBNe, Int.reduceLT, Int.reduceLE, Int.reduceGT, Int.reduceGE, h1, h2, t.ptr.cell, decide_true, decide_false]
      simp [inR]; omega
  · simp -dsimp only [go_sem, ↓reduceIte, reduceCtorEq, Nat.reduceEqDiff, Nat.reduceAdd, Nat.reduceLeDiff, Nat.reduceMul, Int.reduceBEq, Int.reduceBNe, Int.reduceLT, Int.reduceLE, Int.reduceGT, Int.reduceGE, h1, decide_false]
    simp [inR]; omega
theorem row_has {W : Nat → Nat} {w p : Nat} {xv : Value} {h : Heap} (hx : Rd 1 h xv w (wrow w W)) (hp : p / 64 < w) (hW : W (p / 64) < 2 ^ 64) (hp6 : p ≤ 65536) :
    Con Tryd.prog 75 #[xv, .int .i64 p] h fun v h' => h' = h ∧ v = .bool ((W (p / 64)).testBit (p % 64)) := by
  refine con_rel_row_has ?_
  obtain ⟨xa, xc, rfl⟩ := hx.is
  simp -dsimp only [go_sem, ↓reduceIte, reduceCtorEq, Nat.reduceEqDiff, Nat.reduceAdd, Nat.reduceLeDiff, Nat.reduceMul, Int.reduceBEq, Int.reduceBNe, Int.reduceLT, Int.reduceLE, Int.reduceGT, Int.reduceGE]
  rw [tdiv64]
  refine Chk_intro (by decide) ?_
  rw [wrap64 (by omega) (by omega)]
  simp -dsimp only [go_sem, ↓reduceIte, reduceCtorEq, Nat.reduceEqDiff, Nat.reduceAdd, Nat.reduceLeDiff, Nat.reduceMul, Int.reduceBEq, Int.reduceBNe, Int.reduceLT, Int.reduceLE, Int.reduceGT, Int.reduceGE]
  refine Chk_intro (by omega) (hx.idx (by omega) fun b o c => ?_)
  have c := c _ _ (wrow_get hp)
  simp -dsimp only [go_sem, ↓reduceIte, reduceCtorEq, Nat.reduceEqDiff, Nat.reduceAdd, Nat.reduceLeDiff, Nat.reduceMul, Int.reduceBEq, Int.reduceBNe, Int.reduceLT, Int.reduceLE, Int.reduceGT, Int.reduceGE, c]
  rw [tmod64]
  refine Chk_intro (by decide) ?_
  simp -dsimp only [go_sem, ↓reduceIte, reduceCtorEq, Nat.reduceEqDiff, Nat.reduceAdd, Nat.reduceLeDiff, Nat.reduceMul, Int.reduceBEq, Int.reduceBNe, Int.reduceLT, Int.reduceLE, Int.reduceGT, Int.reduceGE]
  have e64 : ((W (p / 64) : Nat) : Int).fdiv (2 ^ min (p % 64) 64) = ((W (p / 64) / 2 ^ (p % 64) : Nat) : Int) := shr64 (W (p / 64)) (p % 64) (by omega)
  rw [e64]
  have hd : W (p / 64) / 2 ^ (p % 64) < 2 ^ 64 := Nat.lt_of_le_of_lt (Nat.div_le_self _ _) hW
  have ha : IntKind.u64.wrap ((BitVec.ofInt IntKind.u64.bits ((W (p / 64) / 2 ^ (p % 64) : Nat) : Int) &&& BitVec.ofInt IntKind.u64.bits 1).toNat : Int) = ((W (p / 64) / 2 ^ (p % 64) &&& 1 : Nat) : Int) := and64 (b := 1) hd (by decide)
  rw [ha, bit_has hW (by omega)]

theorem ptab_rd {h : Heap} {lo hi pb rb n : Nat} {R : Nat → Nat} {W : Nat → Nat → Nat} {M : Nat → Nat → Bool} (t : PTab h lo hi pb rb n R W M) {i : Nat} (hi' : i < n) : Rd 1 h (.slice (some ⟨R i, 0, none⟩) (nw n) (nw n)) (nw n) (wrow (nw n) (W i)) :=
  (t.row i hi').1.rd (by simp)

/-- A truth is put into a relation. -/
def putM (n : Nat) (M : Nat → Nat → Bool) (a b : Int) (put : Bool) (i j : Nat) : Bool := if inR n a && inR n b && a == i && b == j then put else M i j

theorem rel_PutT {n : Nat} {M : Nat → Nat → Bool} {lo hi pb rb : Nat} {R : Nat → Nat} {W : Nat → Nat → Nat} {h : Heap} (hn : n ≤ 256) (t : PTab h lo hi pb rb n R W M) (a b : Int) (put : Bool) :
    Con Tryd.prog 52 #[.pointer (some ⟨pb, 0, none⟩), .int .i64 a, .int .i64 b, .bool put] h fun v h' => Fr lo hi h h' ∧ h'.size = h.size ∧ v = .bool (inR n a && inR n b && (M a.toNat b.toNat != put)) ∧ ∃ W', PTab h' lo hi pb rb n R W' (putM n M a b put) := by
  refine con_rel_Rel_Put ?_
  have hr0 : ProgAt h lo hi (.pointer (some ⟨pb, 0, none⟩)) n M := ⟨hn, pb, rb, R, W, rfl, t⟩
  simp -dsimp only [go_sem, ↓reduceIte, reduceCtorEq, Nat.reduceEqDiff, Nat.reduceAdd, Nat.reduceLeDiff, Nat.reduceMul, Int.reduceBEq, Int.reduceBNe, Int.reduceLT, Int.reduceLE, Int.reduceGT, Int.reduceGE]
  refine call_of (rel_inside hr0 a b) ?_
  rintro v h1 ⟨rfl, rfl⟩
  simp -dsimp only [go_sem, ↓reduceIte, reduceCtorEq, Nat.reduceEqDiff, Nat.reduceAdd, Nat.reduceLeDiff, Nat.reduceMul, Int.reduceBEq, Int.reduceBNe, Int.reduceLT, Int.reduceLE, Int.reduceGT, Int.reduceGE]
  by_cases hin : (inR n a && inR n b) = true
  · have hin' := hin
    simp only [Bool.and_eq_true, inR, decide_eq_true_eq] at hin'
    obtain ⟨x, rfl⟩ : ∃ x : Nat, a = x := ⟨a.toNat, by omega⟩
    obtain ⟨y, rfl⟩ : ∃ y : Nat, b = y := ⟨b.toNat, by omega⟩
    have hx : x < n := by omega
    have hy : y < n := by omega
    obtain ⟨hrw, _, _, hnp, hnr, hbits⟩ := t.row x hx
    simp -dsimp only [go_sem, ↓reduceIte, reduceCtorEq, Nat.reduceEqDiff, Nat.reduceAdd, Nat.reduceLeDiff, Nat.reduceMul, Int.reduceBEq, Int.reduceBNe, Int.reduceLT, Int.reduceLE, Int.reduceGT, Int.reduceGE, hin, Bool.not_true, t.ptr.cell]
    refine Chk_intro (by omega) ?_
    simp -dsimp only [go_sem, ↓reduceIte, reduceCtorEq, Nat.reduceEqDiff, Nat.reduceAdd, Nat.reduceLeDiff, Nat.reduceMul, Int.reduceBEq, Int.reduceBNe, Int.reduceLT, Int.reduceLE, Int.reduceGT, Int.reduceGE, t.rowsGet hx, hin, Bool.not_true]
    refine call_of (row_has (p := y) (ptab_rd t hx) (by unfold nw; omega) (hbits _).1 (by omega)) ?_
    rintro v h2 ⟨rfl, rfl⟩
    rw [hbits.get hy]
    simp -dsimp only [go_sem, ↓reduceIte, reduceCtorEq, Nat.reduceEqDiff, Nat.reduceAdd, Nat.reduceLeDiff, Nat.reduceMul, Int.reduceBEq, Int.reduceBNe, Int.reduceLT, Int.reduceLE, Int.reduceGT, Int.reduceGE, hin, Bool.not_true]
    by_cases hM : M x y = put
    · simp -dsimp only [go_sem, ↓reduceIte, reduceCtorEq, Nat.reduceEqDiff, Nat.reduceAdd, Nat.reduceLeDiff, Nat.reduceMul, Int.reduceBEq, Int.reduceBNe, Int.reduceLT, Int.reduceLE, Int.reduceGT, Int.reduceGE, hin, Bool.not_true, hM, BEq.rfl]
      refine ⟨.refl _ _ _, by simp [hM], W, t.congr fun i j hi hj => ?_⟩
      simp only [putM]
      split
      · rename_i hc; simp at hc; obtain ⟨⟨_, e1⟩, e2⟩ := hc; have e1 : x = i := by omega
        have e2 : y = j := by omega
        subst e1 e2; exact hM
      · rfl
    · have hMb : (M x y == put) = false := by simpa using hM
      simp -dsimp only [go_sem, ↓reduceIte, reduceCtorEq, Nat.reduceEqDiff, Nat.reduceAdd, Nat.reduceLeDiff, Nat.reduceMul, Int.reduceBEq, Int.reduceBNe, Int.reduceLT, Int.reduceLE, Int.reduceGT, Int.reduceGE, hin, Bool.not_true, hMb, t.ptr.cell]
      refine Chk_intro (by omega) ?_
      simp -dsimp only [go_sem, ↓reduceIte, reduceCtorEq, Nat.reduceEqDiff, Nat.reduceAdd, Nat.reduceLeDiff, Nat.reduceMul, Int.reduceBEq, Int.reduceBNe, Int.reduceLT, Int.reduceLE, Int.reduceGT, Int.reduceGE, t.rowsGet hx]
      rw [tdiv64]
      refine Chk_intro (by decide) ?_
      rw [wrap64 (by omega) (by omega)]
      have hyw : y / 64 < nw n := by unfold nw; omega
      simp -dsimp only [go_sem, ↓reduceIte, reduceCtorEq, Nat.reduceEqDiff, Nat.reduceAdd, Nat.reduceLeDiff, Nat.reduceMul, Int.reduceBEq, Int.reduceBNe, Int.reduceLT, Int.reduceLE, Int.reduceGT, Int.reduceGE]
      refine Chk_intro (by omega) ?_
      simp -dsimp only [go_sem, ↓reduceIte, reduceCtorEq, Nat.reduceEqDiff, Nat.reduceAdd, Nat.reduceLeDiff, Nat.reduceMul, Int.reduceBEq, Int.reduceBNe, Int.reduceLT, Int.reduceLE, Int.reduceGT, Int.reduceGE, hrw.cell, wrow_get hyw]
      rw [tmod64]
      refine Chk_intro (by decide) ?_
      simp -dsimp only [go_sem, ↓reduceIte, reduceCtorEq, Nat.reduceEqDiff, Nat.reduceAdd, Nat.reduceLeDiff, Nat.reduceMul, Int.reduceBEq, Int.reduceBNe, Int.reduceLT, Int.reduceLE, Int.reduceGT, Int.reduceGE]
      have e64 : IntKind.u64.wrap (1 * 2 ^ min (y % 64) 64) = ((2 ^ (y % 64) : Nat) : Int) := shl64 (y % 64) (by omega)
      first | rw [e64] | rw [shl64 _ (by omega)]
      rw [xor64 (hbits _).1 (Nat.pow_lt_pow_right (by decide) (by omega))]
      refine Chk_intro (by omega) ?_
      simp -dsimp only [go_sem, ↓reduceIte, reduceCtorEq, Nat.reduceEqDiff, Nat.reduceAdd, Nat.reduceLeDiff, Nat.reduceMul, Int.reduceBEq, Int.reduceBNe, Int.reduceLT, Int.reduceLE, Int.reduceGT, Int.reduceGE]
      refine Chk_intro (hrw.wr (by simp; omega)) fun h2 s2 => ?_
      simp -dsimp only [go_sem, ↓reduceIte, reduceCtorEq, Nat.reduceEqDiff, Nat.reduceAdd, Nat.reduceLeDiff, Nat.reduceMul, Int.reduceBEq, Int.reduceBNe, Int.reduceLT, Int.reduceLE, Int.reduceGT, Int.reduceGE]
      refine ⟨s2.fr.mono (by omega), s2.size, by have := hin; simp at this; simp [this, hM], _, PTab.congr (M := fun i => if i = x then fun q => if q = y then !M x y else M x q else M i) (t.upd hx s2 wrow_set (hbits.flip hy)) fun i j hi hj => ?_⟩
      have hp : put = !M x y := by cases put <;> cases hm : M x y <;> simp_all
      simp only [putM, hin, hp]
      by_cases hix : i = x
      · subst hix
        by_cases hjy : j = y
        · subst hjy; simp
        · have : ((y : Int) == (j : Int)) = false := by simp; omega
          simp [hjy, this]
      · have : ((x : Int) == (i : Int)) = false := by simp; omega
        simp [hix, this]
  · have hin : (inR n a && inR n b) = false := by simpa using hin
    simp -dsimp only [go_sem, ↓reduceIte, reduceCtorEq, Nat.reduceEqDiff, Nat.reduceAdd, Nat.reduceLeDiff, Nat.reduceMul, Int.reduceBEq, Int.reduceBNe, Int.reduceLT, Int.reduceLE, Int.reduceGT, Int.reduceGE, hin, Bool.not_false]
    exact ⟨.refl _ _ _, by simp, W, t.congr fun i j hi hj => by simp [putM, hin]⟩
theorem rel_Put {n : Nat} {M : Nat → Nat → Bool} {p : Value} {lo hi : Nat} {h : Heap} (hr : ProgAt h lo hi p n M) (a b : Int) (put : Bool) :
    Con Tryd.prog 52 #[p, .int .i64 a, .int .i64 b, .bool put] h fun v h' => Fr lo hi h h' ∧ h'.size = h.size ∧ v = .bool (inR n a && inR n b && (M a.toNat b.toNat != put)) ∧ ProgAt h' lo hi p n (putM n M a b put) := by
  obtain ⟨hn, pb, rb, R, W, rfl, t⟩ := hr
  exact (rel_PutT hn t a b put).mono fun v h' ⟨h1, h2, h3, W', h4⟩ => ⟨h1, h2, h3, hn, pb, rb, R, W', rfl, h4⟩
end Go.Proofs.Tst
namespace Go.Proofs.Tst
open Go Go.Vc
theorem ite_max (n : Int) : (if (if (256 : Int) < n then 256 else n) > 0 then (if (256 : Int) < n then 256 else n) else 0) = (clampN n : Int) := by
  unfold clampN; split <;> split <;> omega

/-- The rows' slices, the first i of them made. -/
def rowsTo (k : Nat) (R : Nat → Nat) (i : Nat) : List Value := (List.range k).map fun (j : Nat) => if j < i then Value.slice (some ⟨R j, 0, none⟩) (nw k) (nw k) else Value.slice none 0 0
theorem length_rowsTo (k : Nat) (R : Nat → Nat) (i : Nat) : (rowsTo k R i).length = k := by simp [rowsTo]
theorem rowsTo_zero (k : Nat) (R : Nat → Nat) : List.replicate k (Value.slice none 0 0) = rowsTo k R 0 := by
  apply List.ext_getElem?; intro j
  by_cases hj : j < k
  · simp [rowsTo, hj]
  · simp [rowsTo, hj]
theorem rowsTo_set (k : Nat) (R : Nat → Nat) (i b : Nat) (hi : i < k) : (rowsTo k R i).set i (.slice (some ⟨b, 0, none⟩) (nw k) (nw k)) = rowsTo k (fun j => if j = i then b else R j) (i + 1) := by
  apply List.ext_getElem?; intro j
  by_cases hj : j < k
  · rw [List.getElem?_set]
    by_cases hij : i = j
    · subst hij; simp [rowsTo, hj]
    · have e1 : (j < i + 1) = (j < i) := by simp; omega
      simp [rowsTo, hij, hj, Ne.symm hij, e1]
  · rw [List.getElem?_eq_none (by simp [rowsTo]; omega), List.getElem?_eq_none (by simp [rowsTo]; omega)]

theorem rel_New (n : Int) (h : Heap) : Con Tryd.prog 55 #[.int .i64 n] h fun v h' => Fr 0 0 h h' ∧ ProgAt h' h.size h'.size v (clampN n) (fun _ _ => false) := by
  refine con_rel_New ?_
  simp -dsimp only [go_sem, ↓reduceIte, reduceCtorEq, Nat.reduceEqDiff, Nat.reduceAdd, Nat.reduceLeDiff, Nat.reduceMul, Int.reduceBEq, Int.reduceBNe, Int.reduceLT, Int.reduceLE, Int.reduceGT, Int.reduceGE]
  rw [ite_max]
  have hc : clampN n ≤ 256 := by unfold clampN; omega
  generalize clampN n = k at *
  refine Chk_intro (by omega) ?_
  intro rb h1 n1
  simp -dsimp only [go_sem, ↓reduceIte, reduceCtorEq, Nat.reduceEqDiff, Nat.reduceAdd, Nat.reduceLeDiff, Nat.reduceMul, Int.reduceBEq, Int.reduceBNe, Int.reduceLT, Int.reduceLE, Int.reduceGT, Int.reduceGE]
  intro pb h2 n2
  have r1 := n2.rw n1.row
  rw [zeros_one, Int.toNat_natCast, rowsTo_zero k fun _ => 0] at r1
  have r2 := n2.row
  have z1 := n1.size; have z2 := n2.size; have a1 := n1.at_; have a2 := n2.at_
  have p2 : Fr 0 0 h h2 := (n1.fr (lo := 0) (hi := 0)).trans n2.fr
  simp -dsimp only [go_sem, ↓reduceIte, reduceCtorEq, Nat.reduceEqDiff, Nat.reduceAdd, Nat.reduceLeDiff, Nat.reduceMul, Int.reduceBEq, Int.reduceBNe, Int.reduceLT, Int.reduceLE, Int.reduceGT, Int.reduceGE, r2.cell]
  refine loop_intro (fun i : Nat => [(0, .int .i64 k), (3, .pointer (some ⟨pb, 0, none⟩)), (17, .int .i64 k), (18, .int .i64 i)])
    (fun i h' => i ≤ k ∧ Fr 0 0 h h' ∧ h2.size ≤ h'.size ∧ Rw h' pb [.int .i64 k, .slice (some ⟨rb, 0, none⟩) k k] ∧ ∃ R, Rw h' rb (rowsTo k R i) ∧ (∀ j, j < i → Rw h' (R j) (wrow (nw k) fun _ => 0) ∧ h2.size ≤ R j ∧ R j < h'.size) ∧ ∀ x y, x < i → y < i → R x = R y → x = y)
    (fun i => k - i) 0 ?_ ?_ ?_
  · simp [Le, find]
  · exact ⟨by omega, p2, by omega, r2, _, r1, fun j hj => by omega, fun x y hx => by omega⟩
  rintro i h3 ⟨hi, p3, y3, r2, R, r1, hR, hinj⟩
  simp -dsimp only [go_sem, ↓reduceIte, reduceCtorEq, Nat.reduceEqDiff, Nat.reduceAdd, Nat.reduceLeDiff, Nat.reduceMul, Int.reduceBEq, Int.reduceBNe, Int.reduceLT, Int.reduceLE, Int.reduceGT, Int.reduceGE]
  refine ⟨fun hlt => ?_, fun hge => ?_⟩
  · have hlt : i < k := by omega
    simp -dsimp only [go_sem, ↓reduceIte, reduceCtorEq, Nat.reduceEqDiff, Nat.reduceAdd, Nat.reduceLeDiff, Nat.reduceMul, Int.reduceBEq, Int.reduceBNe, Int.reduceLT, Int.reduceLE, Int.reduceGT, Int.reduceGE, r2.cell]
    rw [wrap64 (by omega) (by omega), show ((k : Int) + 63) = ((k + 63 : Nat) : Int) from by omega, tdiv64, wrap64 (by omega) (by omega)]
    refine Chk_intro (by decide) ?_
    simp -dsimp only [go_sem, ↓reduceIte, reduceCtorEq, Nat.reduceEqDiff, Nat.reduceAdd, Nat.reduceLeDiff, Nat.reduceMul, Int.reduceBEq, Int.reduceBNe, Int.reduceLT, Int.reduceLE, Int.reduceGT, Int.reduceGE]
    refine Chk_intro (by omega) ?_
    intro b4 h4 n4
    have z4 := n4.size; have a4 := n4.at_
    have r4 := n4.row
    rw [zeros_one, Int.toNat_natCast, wrow_zero] at r4
    simp -dsimp only [go_sem, ↓reduceIte, reduceCtorEq, Nat.reduceEqDiff, Nat.reduceAdd, Nat.reduceLeDiff, Nat.reduceMul, Int.reduceBEq, Int.reduceBNe, Int.reduceLT, Int.reduceLE, Int.reduceGT, Int.reduceGE]
    refine Chk_intro (by omega) ?_
    simp -dsimp only [go_sem, ↓reduceIte, reduceCtorEq, Nat.reduceEqDiff, Nat.reduceAdd, Nat.reduceLeDiff, Nat.reduceMul, Int.reduceBEq, Int.reduceBNe, Int.reduceLT, Int.reduceLE, Int.reduceGT, Int.reduceGE]
    have r14 := n4.rw r1
    have r24 := n4.rw r2
    refine Chk_intro (r14.wr (by rw [length_rowsTo]; omega)) fun h5 s5 => ?_
    have r15 := s5.row r14
    rw [cl_slice, putAt_one, show (k + 63) / 64 = nw k from rfl, rowsTo_set _ _ _ _ hlt] at r15
    have z5 := s5.size
    simp -dsimp only [go_sem, ↓reduceIte, reduceCtorEq, Nat.reduceEqDiff, Nat.reduceAdd, Nat.reduceLeDiff, Nat.reduceMul, Int.reduceBEq, Int.reduceBNe, Int.reduceLT, Int.reduceLE, Int.reduceGT, Int.reduceGE]
    simp -dsimp (disch := omega) only [wrap64]
    refine ⟨i + 1, by omega, by simp [Le, find], by omega, (p3.trans n4.fr).fresh s5.fr (by omega), by omega, s5.rw r24 (by omega), _, r15, fun j hj => ?_, fun x y hx hy => ?_⟩
    · by_cases hji : j = i
      · subst hji; simp only [if_true]
        exact ⟨s5.rw r4 (by omega), by omega, by omega⟩
      · simp only [if_neg hji]
        obtain ⟨g1, g2, g3⟩ := hR j (by omega)
        exact ⟨s5.rw (n4.rw g1) (by omega), g2, by omega⟩
    · have gx : x < i → R x < b4 := fun h => by have := (hR x h).2.2; omega
      have gy : y < i → R y < b4 := fun h => by have := (hR y h).2.2; omega
      split <;> split <;> intro he
      · omega
      · have := gy (by omega); omega
      · have := gx (by omega); omega
      · exact hinj x y (by omega) (by omega) he
  · have hik : i = k := by omega
    subst hik
    simp -dsimp only [go_sem, ↓reduceIte, reduceCtorEq, Nat.reduceEqDiff, Nat.reduceAdd, Nat.reduceLeDiff, Nat.reduceMul, Int.reduceBEq, Int.reduceBNe, Int.reduceLT, Int.reduceLE, Int.reduceGT, Int.reduceGE]
    refine ⟨p3, hc, pb, rb, R, fun _ _ => 0, rfl, r2, ?_, fun j hj => ?_, fun x y hx hy => hinj x y hx hy, by omega⟩
    · have e : rowsTo i R i = (List.range i).map fun (j : Nat) => Value.slice (some ⟨R j, 0, none⟩) (nw i) (nw i) := by
        unfold rowsTo
        apply List.map_congr_left
        intro j hj
        rw [if_pos (List.mem_range.1 hj)]
      rw [e] at r1; exact r1
    · obtain ⟨g1, g2, g3⟩ := hR j hj
      exact ⟨g1, by omega, g3, by omega, by omega, Bits.zero _⟩

theorem rel_Of (n : Int) (lv : Value) (l : List (Int × Int)) (h : Heap) (hl : Rd 2 h lv l.length (pairsV l)) (hb : l.length ≤ 4611686018427387904) :
    Con Tryd.prog 14 #[.int .i64 n, lv] h fun v h' => Fr 0 0 h h' ∧ ProgAt h' h.size h'.size v (clampN n) (ofM (clampN n) l) := by
  refine con_rel_Of ?_
  obtain ⟨a, c, rfl⟩ := hl.is
  simp -dsimp only [go_sem, ↓reduceIte, reduceCtorEq, Nat.reduceEqDiff, Nat.reduceAdd, Nat.reduceLeDiff, Nat.reduceMul, Int.reduceBEq, Int.reduceBNe, Int.reduceLT, Int.reduceLE, Int.reduceGT, Int.reduceGE]
  refine call_of (rel_New n h) ?_
  rintro v h1 ⟨p1, t1⟩
  simp -dsimp only [go_sem, ↓reduceIte, reduceCtorEq, Nat.reduceEqDiff, Nat.reduceAdd, Nat.reduceLeDiff, Nat.reduceMul, Int.reduceBEq, Int.reduceBNe, Int.reduceLT, Int.reduceLE, Int.reduceGT, Int.reduceGE]
  refine loop_intro (fun i : Nat => [(5, v), (10, .slice a l.length c), (11, .int .i64 l.length), (12, .int .i64 i)])
    (fun i h' => i ≤ l.length ∧ Fr 0 0 h h' ∧ h1.size ≤ h'.size ∧ ProgAt h' h.size h1.size v (clampN n) (ofM (clampN n) (l.take i)))
    (fun i => l.length - i) 0 ?_ ?_ ?_
  · simp [Le, find]
  · exact ⟨by omega, p1, by omega, t1.congr fun _ _ _ _ => by simp [ofM]⟩
  rintro i h2 ⟨hi, p2, y2, t2⟩
  simp -dsimp only [go_sem, ↓reduceIte, reduceCtorEq, Nat.reduceEqDiff, Nat.reduceAdd, Nat.reduceLeDiff, Nat.reduceMul, Int.reduceBEq, Int.reduceBNe, Int.reduceLT, Int.reduceLE, Int.reduceGT, Int.reduceGE]
  refine ⟨fun hlt => ?_, fun hge => ?_⟩
  · have hlt : i < l.length := by omega
    have hp : l[i]? = some l[i] := by simp [hlt]
    generalize l[i] = p at hp
    simp -dsimp only [go_sem, ↓reduceIte, reduceCtorEq, Nat.reduceEqDiff, Nat.reduceAdd, Nat.reduceLeDiff, Nat.reduceMul, Int.reduceBEq, Int.reduceBNe, Int.reduceLT, Int.reduceLE, Int.reduceGT, Int.reduceGE]
    refine Chk_intro (by omega) ((hl.fr p2).pair hp fun b o c1 c2 => ?_)
    simp -dsimp only [go_sem, ↓reduceIte, reduceCtorEq, Nat.reduceEqDiff, Nat.reduceAdd, Nat.reduceLeDiff, Nat.reduceMul, Int.reduceBEq, Int.reduceBNe, Int.reduceLT, Int.reduceLE, Int.reduceGT, Int.reduceGE, c1, c2]
    intro b3 h3 n3
    have r3 := n3.row
    simp -dsimp only [go_sem, ↓reduceIte, reduceCtorEq, Nat.reduceEqDiff, Nat.reduceAdd, Nat.reduceLeDiff, Nat.reduceMul, Int.reduceBEq, Int.reduceBNe, Int.reduceLT, Int.reduceLE, Int.reduceGT, Int.reduceGE]
    refine ⟨r3.wr (by simp), fun h4 s4 => ?_⟩
    have r4 := s4.row r3
    simp -dsimp only [go_sem, ↓reduceIte, reduceCtorEq, Nat.reduceEqDiff, Nat.reduceAdd, Nat.reduceLeDiff, Nat.reduceMul, Int.reduceBEq, Int.reduceBNe, Int.reduceLT, Int.reduceLE, Int.reduceGT, Int.reduceGE] at r4
    have z3 := n3.size; have a3 := n3.at_; have z4 := s4.size; have z1 := p1.size
    have t4 := (t2.fr (n3.fr (lo := 0) (hi := 0)) (by omega)).fr s4.fr (by omega)
    have p4 := (p2.trans n3.fr).fresh s4.fr (by omega)
    simp -dsimp only [go_sem, ↓reduceIte, reduceCtorEq, Nat.reduceEqDiff, Nat.reduceAdd, Nat.reduceLeDiff, Nat.reduceMul, Int.reduceBEq, Int.reduceBNe, Int.reduceLT, Int.reduceLE, Int.reduceGT, Int.reduceGE, r4.cell]
    refine call_of (rel_Put t4 p.1 p.2 true) ?_
    rintro v5 h5 ⟨f5, z5, rfl, t5⟩
    simp -dsimp only [go_sem, ↓reduceIte, reduceCtorEq, Nat.reduceEqDiff, Nat.reduceAdd, Nat.reduceLeDiff, Nat.reduceMul, Int.reduceBEq, Int.reduceBNe, Int.reduceLT, Int.reduceLE, Int.reduceGT, Int.reduceGE]
    simp -dsimp (disch := omega) only [wrap64]
    refine ⟨i + 1, by omega, by simp [Le, find], by omega, p4.fresh f5 (by omega), by omega, t5.congr fun x y hx hy => ?_⟩
    rw [ofM_take hp]
    simp only [putM]
    split <;> rename_i hc
    · rw [hc]; simp
    · have : (inR (clampN n) p.1 && inR (clampN n) p.2 && p.1 == (x : Int) && p.2 == (y : Int)) = false := by simpa using hc
      rw [this]; simp
  · have hil : i = l.length := by omega
    subst hil
    rw [List.take_length] at t2
    simp -dsimp only [go_sem, ↓reduceIte, reduceCtorEq, Nat.reduceEqDiff, Nat.reduceAdd, Nat.reduceLeDiff, Nat.reduceMul, Int.reduceBEq, Int.reduceBNe, Int.reduceLT, Int.reduceLE, Int.reduceGT, Int.reduceGE]
    exact ⟨p2, t2.mono (Nat.le_refl _) y2⟩
end Go.Proofs.Tst
namespace Go.Proofs.Tst
open Go Go.Vc
theorem TrailingZeros64 {x k : Nat} {h : Heap} (hx : x < 2 ^ 64) (hk : Low x k) (ht : TabAt h) :
    Con Tryd.prog 106 #[.int .u64 x] h fun v h' => h' = h ∧ v = .int .i64 k := by
  refine con_math_bits_TrailingZeros64 ?_
  have h0 : x ≠ 0 := by rintro rfl; have := hk.1; simp at this
  simp -dsimp only [go_sem, ↓reduceIte, reduceCtorEq, Nat.reduceEqDiff, Nat.reduceAdd, Nat.reduceLeDiff, Nat.reduceMul, Int.reduceBEq, Int.reduceBNe, Int.reduceLT, Int.reduceLE, Int.reduceGT, Int.reduceGE]
  refine ⟨fun h => absurd h (by simp; omega), fun _ => ?_⟩
  simp -dsimp only [go_sem, ↓reduceIte, reduceCtorEq, Nat.reduceEqDiff, Nat.reduceAdd, Nat.reduceLeDiff, Nat.reduceMul, Int.reduceBEq, Int.reduceBNe, Int.reduceLT, Int.reduceLE, Int.reduceGT, Int.reduceGE]
  have hk64 := hk.lt hx
  obtain ⟨y, hy⟩ : ∃ y, x + y = 18446744073709551616 := ⟨18446744073709551616 - x, by omega⟩
  have hi := tab64_at k hk64
  obtain ⟨z, hz⟩ : ∃ z, 2 ^ k * 285870213051353865 % 18446744073709551616 = z := ⟨_, rfl⟩
  obtain ⟨p, hp⟩ : ∃ p, 2 ^ k = p := ⟨_, rfl⟩
  have hpl : p < 2 ^ 64 := by rw [← hp]; exact Nat.pow_lt_pow_right (by decide) hk64
  have e58 : (z : Int).fdiv (2 ^ min (Int.toNat 58) 64) = ((z / 2 ^ 58 : Nat) : Int) := shr64 z 58 (by decide)
  rw [neg64 x y hy (by omega), and64 hx (by omega), hk.and_neg' hy (by omega), hp, show (285870213051353865 : Int) = ((285870213051353865 : Nat) : Int) from rfl, mul64 _ _ z (by rw [← hp]; exact hz), e58]
  have hi : tab64[z / 2 ^ 58]? = some k := by rw [← hz]; exact hi
  generalize z / 2 ^ 58 = i at hi
  have hi64 : i < 64 := (List.getElem?_eq_some_iff.1 hi).1
  refine Chk_intro (by omega) ?_
  simp -dsimp only [go_sem, ↓reduceIte, reduceCtorEq, Nat.reduceEqDiff, Nat.reduceAdd, Nat.reduceLeDiff, Nat.reduceMul, Int.reduceBEq, Int.reduceBNe, Int.reduceLT, Int.reduceLE, Int.reduceGT, Int.reduceGE, ht i k hi]
  rw [wrap64 (by omega) (by omega)]
end Go.Proofs.Tst
namespace Go.Proofs.Tst
open Go Go.Vc
/-- What the iterator over a row reads. -/
def RowC (b : Nat) (xv : Value) (w : Nat) (W : Nat → Nat) (h : Heap) : Prop := hcell h b 0 = some xv ∧ Rd 1 h xv w (wrow w W) ∧ TabAt h

theorem points_1 {b w : Nat} {xv : Value} {W : Nat → Nat} (hW : ∀ j, W j < 2 ^ 64) (hw : w ≤ 1024) :
    Iter Tryd.prog 105 #[.pointer (some ⟨b, 0, none⟩)] ((rest (wbit W) (64 * w) 0).map fun (p : Nat) => [Value.int .i64 (p : Int)]) (RowC b xv w W) := by
  refine ⟨by unfold goodF; rw [Tryd.func105]; rfl, fun l I X hy h hI hC => ?_⟩
  show ConX (some l) Tryd.prog 105 #[.func (.yield l) #[] #[], .pointer (some ⟨b, 0, none⟩)] h _
  refine con_rel_row_points_1 ?_
  obtain ⟨xa, xc, rfl⟩ := hC.2.1.is
  simp -dsimp only [go_sem, ↓reduceIte, reduceCtorEq, Nat.reduceEqDiff, Nat.reduceAdd, Nat.reduceLeDiff, Nat.reduceMul, Int.reduceBEq, Int.reduceBNe, Int.reduceLT, Int.reduceLE, Int.reduceGT, Int.reduceGE, hC.1]
  refine loop_intro (fun i : Nat => [(0, .func (.yield l) #[] #[]), (5, .slice xa w xc), (6, .int .i64 w), (7, .int .i64 i)])
    (fun i h' => i ≤ w ∧ RowC b (.slice xa w xc) w W h' ∧ ∃ d, d ≤ (rest (wbit W) (64 * w) 0).length ∧ (rest (wbit W) (64 * w) 0).drop d = rest (wbit W) (64 * w) (64 * i) ∧ I d h') (fun i => w - i) 0 ?_ ?_ ?_
  · simp [Le, find]
  · exact ⟨by omega, hC, 0, Nat.zero_le _, rfl, hI⟩
  rintro i h1 ⟨hi, hC1, d, hdl, hd, hI1⟩
  simp -dsimp only [go_sem, ↓reduceIte, reduceCtorEq, Nat.reduceEqDiff, Nat.reduceAdd, Nat.reduceLeDiff, Nat.reduceMul, Int.reduceBEq, Int.reduceBNe, Int.reduceLT, Int.reduceLE, Int.reduceGT, Int.reduceGE]
  refine ⟨fun hlt => ?_, fun hge => ?_⟩
  · have hlt : i < w := by omega
    simp -dsimp only [go_sem, ↓reduceIte, reduceCtorEq, Nat.reduceEqDiff, Nat.reduceAdd, Nat.reduceLeDiff, Nat.reduceMul, Int.reduceBEq, Int.reduceBNe, Int.reduceLT, Int.reduceLE, Int.reduceGT, Int.reduceGE]
    refine Chk_intro (by omega) (hC1.2.1.idx (by omega) fun b2 o2 c2 => ?_)
    simp -dsimp only [go_sem, ↓reduceIte, reduceCtorEq, Nat.reduceEqDiff, Nat.reduceAdd, Nat.reduceLeDiff, Nat.reduceMul, Int.reduceBEq, Int.reduceBNe, Int.reduceLT, Int.reduceLE, Int.reduceGT, Int.reduceGE, c2 i _ (wrow_get hlt)]
    refine loop_intro (fun s : Nat × Nat => [(0, .func (.yield l) #[] #[]), (3, .int .i64 i), (4, .int .u64 s.2), (5, .slice xa w xc), (6, .int .i64 w), (7, .int .i64 i)])
      (fun s h' => s.1 ≤ 64 ∧ RowC b (.slice xa w xc) w W h' ∧ s.2 < 2 ^ 64 ∧ (∀ k, s.2.testBit k = ((W i).testBit k && decide (s.1 ≤ k))) ∧ ∃ d, d ≤ (rest (wbit W) (64 * w) 0).length ∧ (rest (wbit W) (64 * w) 0).drop d = rest (wbit W) (64 * w) (64 * i + s.1) ∧ I d h')
      (fun s => 64 - s.1) (0, W i) ?_ ?_ ?_
    · simp [Le, find]
    · exact ⟨Nat.zero_le _, hC1, hW i, by simp, d, hdl, hd, hI1⟩
    rintro ⟨c, x⟩ h2 ⟨hc, hC2, hx, hbit, d, hdl, hd, hI2⟩
    dsimp only at hc hC2 hx hbit hd hI2 ⊢
    simp -dsimp only [go_sem, ↓reduceIte, reduceCtorEq, Nat.reduceEqDiff, Nat.reduceAdd, Nat.reduceLeDiff, Nat.reduceMul, Int.reduceBEq, Int.reduceBNe, Int.reduceLT, Int.reduceLE, Int.reduceGT, Int.reduceGE]
    have hg : ∀ k, k < 64 → wbit W (64 * i + k) = (W i).testBit k := fun k hk => by
      unfold wbit; rw [show (64 * i + k) / 64 = i from by omega, show (64 * i + k) % 64 = k from by omega]
    refine ⟨fun hx0 => ?_, fun hx0 => ?_⟩
    · have hx0 : x ≠ 0 := by rintro rfl; simp at hx0
      obtain ⟨k, hk⟩ := low_exists hx0
      have hk64 := hk.lt hx
      have hbk := hk.1
      rw [hbit] at hbk
      simp only [Bool.and_eq_true, decide_eq_true_eq] at hbk
      have hrest : rest (wbit W) (64 * w) (64 * i + c) = (64 * i + k) :: rest (wbit W) (64 * w) (64 * i + (k + 1)) := by
        rw [rest_skip (q := 64 * i + c) (k - c) (by omega) fun j h1 h2 => ?_, show 64 * i + c + (k - c) = 64 * i + k from by omega, rest_step (by omega), if_pos (by rw [hg k hk64]; exact hbk.1)]
        · rfl
        · obtain ⟨m, rfl⟩ : ∃ m, j = 64 * i + m := ⟨j - 64 * i, by omega⟩
          rw [hg m (by omega)]
          have := hk.2 m (by omega)
          rw [hbit] at this
          simpa [show c ≤ m by omega] using this
      simp -dsimp only [go_sem, ↓reduceIte, reduceCtorEq, Nat.reduceEqDiff, Nat.reduceAdd, Nat.reduceLeDiff, Nat.reduceMul, Int.reduceBEq, Int.reduceBNe, Int.reduceLT, Int.reduceLE, Int.reduceGT, Int.reduceGE]
      refine call_of (TrailingZeros64 hx hk hC2.2.2) ?_
      rintro v h3 ⟨rfl, rfl⟩
      simp -dsimp only [go_sem, ↓reduceIte, reduceCtorEq, Nat.reduceEqDiff, Nat.reduceAdd, Nat.reduceLeDiff, Nat.reduceMul, Int.reduceBEq, Int.reduceBNe, Int.reduceLT, Int.reduceLE, Int.reduceGT, Int.reduceGE]
      rw [wrap64 (n := 64 * (i : Int)) (by omega) (by omega), wrap64 (n := 64 * (i : Int) + (k : Int)) (by omega) (by omega)]
      rw [hrest] at hd
      have hdx : ((rest (wbit W) (64 * w) 0).map fun (p : Nat) => [Value.int .i64 (p : Int)])[d]? = some [.int .i64 ((64 * i + k : Nat) : Int)] := by
        rw [List.getElem?_map, ← List.head?_drop, hd]; rfl
      refine yld_of (hy d _ _ hdx hI2 hC2) ?_
      rintro v h4 (⟨rfl, hI4, hC4⟩ | ⟨rfl, hX4⟩)
      · simp -dsimp only [go_sem, ↓reduceIte, reduceCtorEq, Nat.reduceEqDiff, Nat.reduceAdd, Nat.reduceLeDiff, Nat.reduceMul, Int.reduceBEq, Int.reduceBNe, Int.reduceLT, Int.reduceLE, Int.reduceGT, Int.reduceGE]
        have e1 : IntKind.u64.wrap ((x : Int) - 1) = ((x - 1 : Nat) : Int) := by
          rw [wrapu64 (by omega) (by omega)]; omega
        rw [e1, and64 hx (by omega)]
        refine ⟨(k + 1, x &&& (x - 1)), by dsimp only; omega, by simp [Le, find], by dsimp only; omega, hC4, Nat.lt_of_le_of_lt Nat.and_le_left hx, fun m => ?_, d + 1, ?_, ?_, hI4⟩
        · rw [hk.strike, hbit]
          have hm := hk.2 m
          rw [hbit] at hm
          by_cases h1 : m < k
          · have := hm h1
            rw [this]
            simp [show ¬ k + 1 ≤ m by omega]
          · by_cases h2 : m = k
            · subst h2; simp
            · simp [h2, show k + 1 ≤ m by omega, show c ≤ m by omega]
        · have := congrArg List.length hd
          simp only [List.length_drop, List.length_cons] at this
          omega
        · rw [show d + 1 = 1 + d from by omega, ← List.drop_drop, List.drop_drop, Nat.add_comm 1 d, ← List.drop_drop, hd]; rfl
      · simp -dsimp only [go_sem, ↓reduceIte, reduceCtorEq, Nat.reduceEqDiff, Nat.reduceAdd, Nat.reduceLeDiff, Nat.reduceMul, Int.reduceBEq, Int.reduceBNe, Int.reduceLT, Int.reduceLE, Int.reduceGT, Int.reduceGE]
        exact .inr hX4
    · have hx0 : x = 0 := by simpa using hx0
      subst hx0
      simp -dsimp only [go_sem, ↓reduceIte, reduceCtorEq, Nat.reduceEqDiff, Nat.reduceAdd, Nat.reduceLeDiff, Nat.reduceMul, Int.reduceBEq, Int.reduceBNe, Int.reduceLT, Int.reduceLE, Int.reduceGT, Int.reduceGE]
      simp -dsimp (disch := omega) only [wrap64]
      refine ⟨i + 1, by omega, by simp [Le, find], by omega, hC2, d, hdl, ?_, hI2⟩
      rw [hd, rest_skip (q := 64 * i + c) (64 - c) (by omega) fun j h1 h2 => ?_, show 64 * i + c + (64 - c) = 64 * (i + 1) from by omega]
      obtain ⟨m, rfl⟩ : ∃ m, j = 64 * i + m := ⟨j - 64 * i, by omega⟩
      rw [hg m (by omega)]
      have := hbit m
      simp only [Nat.zero_testBit] at this
      simpa [show c ≤ m by omega] using this.symm
  · have : i = w := by omega
    subst this
    simp -dsimp only [go_sem, ↓reduceIte, reduceCtorEq, Nat.reduceEqDiff, Nat.reduceAdd, Nat.reduceLeDiff, Nat.reduceMul, Int.reduceBEq, Int.reduceBNe, Int.reduceLT, Int.reduceLE, Int.reduceGT, Int.reduceGE]
    refine .inl ⟨?_, hC1⟩
    rw [rest_end (Nat.le_refl _)] at hd
    have hle := List.drop_eq_nil_iff.1 hd
    rw [List.length_map, ← Nat.le_antisymm hdl hle]
    exact hI1
end Go.Proofs.Tst
