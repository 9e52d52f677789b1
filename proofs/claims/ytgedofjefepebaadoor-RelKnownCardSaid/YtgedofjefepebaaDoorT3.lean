/-
  Contracts of functions that the law reaches: what each returns and what it leaves in memory. Conditions stand in each.
-/
import Derived.Test.YtgedofjefepebaaDoorT2
set_option linter.all false
set_option maxRecDepth 2000
/-
  How far it is to a point; a least cycle.
-/
namespace Go.Vc
def lay (n : Nat) (M : Nat → Nat → Bool) (p : Nat) (F : Nat → Nat) (k i : Nat) : Bool := if k = 0 then M i p else (List.range n).any fun j => M i j && F j == k
/-- How many steps it takes to come to p, k at the most; 0: not known. -/
def farK (n : Nat) (M : Nat → Nat → Bool) (p : Nat) : Nat → Nat → Nat
  | 0, _ => 0
  | k + 1, i => if farK n M p k i ≠ 0 then farK n M p k i else if lay n M p (farK n M p k) k i = true then k + 1 else 0
def farS (n : Nat) (M : Nat → Nat → Bool) (p : Nat) : Nat → Nat := farK n M p n
section
variable {n : Nat} {M : Nat → Nat → Bool} {p : Nat}
theorem lay_zero {F : Nat → Nat} {i : Nat} : lay n M p F 0 i = M i p := by simp [lay]
theorem lay_succ {F : Nat → Nat} {k i : Nat} : lay n M p F (k + 1) i = true ↔ ∃ j, j < n ∧ M i j = true ∧ F j = k + 1 := by
  simp [lay, List.any_eq_true]
theorem farK_le : ∀ k i, farK n M p k i ≤ k
  | 0, _ => Nat.le_refl _
  | k + 1, i => by
    have := farK_le k i
    simp only [farK]
    split
    · omega
    · split <;> omega
theorem farK_keep {k i : Nat} (h : farK n M p k i ≠ 0) : farK n M p (k + 1) i = farK n M p k i := by simp only [farK]; rw [if_pos h]
theorem farK_new {k i : Nat} (h : farK n M p k i = 0) : farK n M p (k + 1) i = if lay n M p (farK n M p k) k i = true then k + 1 else 0 := by
  simp only [farK]; rw [if_neg (by omega)]
theorem farK_step : ∀ {k i m : Nat}, farK n M p k i = m + 1 → (m = 0 → M i p = true) ∧ (0 < m → ∃ j, j < n ∧ M i j = true ∧ farK n M p k j = m)
  | 0, i, m, h => by simp [farK] at h
  | k + 1, i, m, h => by
    by_cases h0 : farK n M p k i = 0
    · rw [farK_new h0] at h
      split at h
      · rename_i hl
        have hkm : k = m := by omega
        subst hkm
        cases k with
        | zero => exact ⟨fun _ => by rwa [lay_zero] at hl, fun h => by omega⟩
        | succ k =>
          refine ⟨fun h => by omega, fun _ => ?_⟩
          obtain ⟨j, hj, hm, hf⟩ := lay_succ.1 hl
          exact ⟨j, hj, hm, by rw [farK_keep (by omega), hf]⟩
      · omega
    · rw [farK_keep h0] at h
      obtain ⟨h1, h2⟩ := farK_step h
      refine ⟨h1, fun hm => ?_⟩
      obtain ⟨j, hj, hM, hf⟩ := h2 hm
      exact ⟨j, hj, hM, by rw [farK_keep (by omega), hf]⟩
/-- Where nothing more is found, nothing is found any more. -/
theorem farK_stable {k : Nat} (h : ∀ i, i < n → farK n M p (k + 1) i ≠ k + 1) : ∀ d i, i < n → farK n M p (k + d) i = farK n M p k i
  | 0, _, _ => rfl
  | d + 1, i, hi => by
    have ih := farK_stable h d
    rw [show k + (d + 1) = k + d + 1 by omega]
    by_cases h0 : farK n M p (k + d) i = 0
    · rw [farK_new h0, ← ih i hi, h0, if_neg]
      intro hl
      cases d with
      | zero =>
        have := h i hi
        rw [farK_new h0, if_pos hl] at this
        exact this rfl
      | succ d =>
        rw [show k + (d + 1) = (k + d) + 1 by omega] at hl
        obtain ⟨j, hj, hm, hf⟩ := lay_succ.1 hl
        rw [show k + d + 1 = k + (d + 1) by omega, ih j hj] at hf
        have := farK_le (n := n) (M := M) (p := p) k j
        omega
    · rw [farK_keep h0, ih i hi]
/-- How many are known. -/
def known (n : Nat) (M : Nat → Nat → Bool) (p k : Nat) : Nat := (List.range n).countP fun i => farK n M p k i != 0
theorem known_le (k : Nat) : known n M p k ≤ n := by unfold known; exact Nat.le_trans List.countP_le_length (by simp)
theorem countP_lt {f g : Nat → Bool} : ∀ (m x : Nat), x < m → (∀ i, f i = true → g i = true) → f x = false → g x = true → (List.range m).countP f < (List.range m).countP g
  | 0, x, h, _, _, _ => by omega
  | m + 1, x, h, hfg, h1, h2 => by
    rw [List.range_succ, List.countP_append, List.countP_append, List.countP_singleton, List.countP_singleton]
    have hmono : ∀ k, (List.range k).countP f ≤ (List.range k).countP g := fun k => List.countP_mono_left fun i _ hi => hfg i hi
    by_cases hx : x = m
    · subst hx
      rw [h1, h2]; have := hmono x; simp; omega
    · have := countP_lt m x (by omega) hfg h1 h2
      have h3 : (if f m = true then 1 else 0) ≤ (if g m = true then 1 else 0) := by
        by_cases hf : f m = true
        · rw [if_pos hf, if_pos (hfg m hf)]; exact Nat.le_refl _
        · rw [if_neg hf]; omega
      omega
theorem known_grows {k i : Nat} (hi : i < n) (h : farK n M p (k + 1) i = k + 1) : known n M p k < known n M p (k + 1) := by
  refine countP_lt n i hi (fun j hj => ?_) ?_ ?_
  · have : farK n M p k j ≠ 0 := by simpa using hj
    simpa [farK_keep this] using hj
  · apply Classical.byContradiction; intro h0
    have h0 : farK n M p k i ≠ 0 := by simpa using h0
    rw [farK_keep h0] at h
    have := farK_le (n := n) (M := M) (p := p) k i
    omega
  · simp [h]
theorem layer_prev {k i : Nat} (hi : i < n) (h : farK n M p (k + 2) i = k + 2) : ∃ j, j < n ∧ farK n M p (k + 1) j = k + 1 := by
  obtain ⟨j, hj, hm, hf⟩ := (farK_step h).2 (by omega)
  refine ⟨j, hj, ?_⟩
  by_cases h0 : farK n M p (k + 1) j = 0
  · rw [farK_new h0] at hf; split at hf <;> omega
  · rw [farK_keep h0] at hf; exact hf
theorem known_ge : ∀ {k i : Nat}, i < n → farK n M p (k + 1) i = k + 1 → k + 1 ≤ known n M p (k + 1)
  | 0, i, hi, h => by have := known_grows hi h; omega
  | k + 1, i, hi, h => by
    obtain ⟨j, hj, hf⟩ := layer_prev hi h
    have := known_ge hj hf
    have := known_grows hi h
    omega
theorem farK_all {k : Nat} (h : ∀ i, i < n → farK n M p (k + 1) i ≠ k + 1) {i : Nat} (hi : i < n) : farK n M p k i = farS n M p i := by
  have hn : ∀ i, i < n → farK n M p (n + 1) i ≠ n + 1 := fun i hi h => by
    have := known_ge hi h; have := known_le (n := n) (M := M) (p := p) (n + 1); omega
  unfold farS
  rcases Nat.le_total k n with hk | hk
  · obtain ⟨d, rfl⟩ : ∃ d, n = k + d := ⟨n - k, by omega⟩
    exact (farK_stable h d i hi).symm
  · obtain ⟨d, hd⟩ : ∃ d, k = n + d := ⟨k - n, by omega⟩
    rw [hd]; exact farK_stable hn d i hi
theorem farS_step {i m : Nat} (h : farS n M p i = m + 1) : (m = 0 → M i p = true) ∧ (0 < m → ∃ j, j < n ∧ M i j = true ∧ farS n M p j = m) := farK_step h
theorem farS_le (i : Nat) : farS n M p i ≤ n := farK_le n i
end
/-- The way from a point, so many steps. -/
def cycGo (n : Nat) (M : Nat → Nat → Bool) (F : Nat → Nat) : Nat → Nat → List Nat
  | 0, _ => []
  | k + 1, a => match lf (fun q => M a q && F q == k + 1) n 0 with
    | none => []
    | some q => q :: cycGo n M F k q
def shortS (n : Nat) (M : Nat → Nat → Bool) (p : Nat) : List Nat := p :: cycGo n M (farS n M p) (farS n M p p - 1) p
/-- The least cycle, if there is any. -/
def cycS (n : Nat) (M : Nat → Nat → Bool) : List Nat := match lf (fun p => plusM n M p p) n 0 with
  | none => []
  | some p => shortS n M p
theorem lf_none {f : Nat → Bool} {n q : Nat} (h : lf f n q = none) : ∀ x, q ≤ x → x < n → f x = false := fun x h1 h2 => by
  unfold lf at h
  have := List.find?_eq_none.1 h x (List.mem_range'_1.2 ⟨h1, by omega⟩)
  simpa using this
theorem lf_least {f : Nat → Bool} {n q x : Nat} (h : lf f n q = some x) : ∀ y, q ≤ y → y < x → f y = false := by
  obtain ⟨h1, h2, _⟩ := lf_some h
  intro y hy hyx
  have hr : ∀ d q, n - q = d → lf f n q = some x → ∀ y, q ≤ y → y < x → f y = false := by
    intro d
    induction d with
    | zero => intro q hq h'; rw [lf_end f (by omega)] at h'; cases h'
    | succ d ih =>
      intro q hq h' y hy hyx
      rw [lf_step f (by omega)] at h'
      cases hf : f q with
      | true => rw [if_pos hf] at h'; cases h'; omega
      | false =>
        rw [if_neg (by simp [hf])] at h'
        by_cases hyq : y = q
        · subst hyq; exact hf
        · exact ih (q + 1) (by omega) h' y (by omega) hyx
  exact hr _ q rfl h y hy hyx
theorem lf_is {f : Nat → Bool} {n q x : Nat} (h1 : q ≤ x) (h2 : x < n) (h3 : f x = true) (h4 : ∀ y, q ≤ y → y < x → f y = false) : lf f n q = some x := by
  cases h : lf f n q with
  | none => have := lf_none h x h1 h2; rw [this] at h3; cases h3
  | some y =>
    obtain ⟨g1, g2, g3⟩ := lf_some h
    by_cases hyx : y < x
    · have := h4 y g1 hyx; rw [this] at g3; cases g3
    · by_cases hxy : x < y
      · have := lf_least h x h1 hxy; rw [this] at h3; cases h3
      · congr 1; omega
theorem nodup_lt {n : Nat} {l : List Nat} (hd : l.Nodup) (hl : ∀ x ∈ l, x < n) : l.length ≤ n := by
  have h : ∀ (l m : List Nat), l.Nodup → (∀ x ∈ l, x ∈ m) → l.length ≤ m.length := by
    intro l
    induction l with
    | nil => intro m _ _; simp
    | cons x l ih =>
      intro m hd hs
      have hx := hs x (by simp)
      have hd' := List.nodup_cons.1 hd
      have := ih (m.erase x) hd'.2 fun y hy => (List.mem_erase_of_ne (by rintro rfl; exact hd'.1 hy)).2 (hs y (by simp [hy]))
      rw [List.length_erase_of_mem hx] at this
      have := List.length_pos_of_mem hx
      simp; omega
  have := h l (List.range n) hd fun x hx => List.mem_range.2 (hl x hx)
  simpa using this
theorem rest_before {f : Nat → Bool} {n d s y : Nat} (hs : (rest f n 0)[d]? = some s) (hy : y < s) (hf : f y = true) : y ∈ (rest f n 0).take d := by
  have hsm := mem_rest.1 (List.mem_of_getElem? hs)
  have hm : y ∈ rest f n 0 := mem_rest.2 ⟨by omega, by omega, hf⟩
  have hp : (rest f n 0).Pairwise (· < ·) := by unfold rest; exact List.Pairwise.sublist List.filter_sublist (List.pairwise_lt_range')
  obtain ⟨e, he, hye⟩ := List.getElem_of_mem hm
  obtain ⟨hd, hsd⟩ := List.getElem?_eq_some_iff.1 hs
  have hed : e < d := by
    apply Classical.byContradiction; intro hh
    by_cases h1 : e = d
    · subst h1; omega
    · have := (List.pairwise_iff_getElem.1 hp) d e hd he (by omega)
      omega
  exact List.mem_iff_getElem.2 ⟨e, by simp; omega, by simp [hye]⟩
end Go.Vc
/-
  The closure is the least transitive relation over a relation; ways.
-/
namespace Go.Vc
section
variable {n : Nat} {M : Nat → Nat → Bool}
theorem warM_self (n : Nat) (M : Nat → Nat → Bool) (k j : Nat) : warM n M (k + 1) k j = warM n M k k j := by
  simp only [warM]; cases warM n M k k j <;> simp
theorem warM_mono {k i j : Nat} (h : warM n M k i j = true) : warM n M (k + 1) i j = true := by simp only [warM, h, Bool.true_or]
theorem warM_sub : ∀ (k : Nat) {i j : Nat}, M i j = true → warM n M k i j = true
  | 0, _, _, h => h
  | k + 1, _, _, h => warM_mono (warM_sub k h)
theorem warM_succ {k i j : Nat} : warM n M (k + 1) i j = true ↔ warM n M k i j = true ∨ (warM n M k i k = true ∧ warM n M k k j = true) := by
  simp [warM]
theorem warM_trans : ∀ (k : Nat) {i x j : Nat}, x < k → warM n M k i x = true → warM n M k x j = true → warM n M k i j = true
  | 0, _, _, _, h, _, _ => by omega
  | k + 1, i, x, j, hx, h1, h2 => by
    rw [warM_succ] at h1 h2 ⊢
    by_cases hxk : x = k
    · subst hxk
      refine .inr ⟨?_, ?_⟩
      · rcases h1 with h | ⟨h, _⟩ <;> exact h
      · rcases h2 with h | ⟨_, h⟩ <;> exact h
    · have hx' : x < k := by omega
      rcases h1 with h1 | ⟨h1, h1'⟩ <;> rcases h2 with h2 | ⟨h2, h2'⟩
      · exact .inl (warM_trans k hx' h1 h2)
      · exact .inr ⟨warM_trans k hx' h1 h2, h2'⟩
      · exact .inr ⟨h1, warM_trans k hx' h1' h2⟩
      · exact .inr ⟨h1, h2'⟩
theorem plus_sub {i j : Nat} (h : M i j = true) : plusM n M i j = true := warM_sub n h
theorem plus_trans {i x j : Nat} (hx : x < n) (h1 : plusM n M i x = true) (h2 : plusM n M x j = true) : plusM n M i j = true := warM_trans n hx h1 h2
/-- It is the least one. -/
theorem plus_least {N : Nat → Nat → Prop} (hM : ∀ i j, i < n → j < n → M i j = true → N i j) (ht : ∀ i x j, i < n → x < n → j < n → N i x → N x j → N i j) {i j : Nat} (hi : i < n) (hj : j < n) (h : plusM n M i j = true) : N i j := by
  have all : ∀ k, k ≤ n → ∀ i j, i < n → j < n → warM n M k i j = true → N i j := by
    intro k
    induction k with
    | zero => exact fun _ i j hi hj h => hM i j hi hj h
    | succ k ih =>
      intro hk i j hi hj h
      rcases warM_succ.1 h with h | ⟨h1, h2⟩
      · exact ih (by omega) i j hi hj h
      · exact ht i k j hi (by omega) hj (ih (by omega) i k hi (by omega) h1) (ih (by omega) k j (by omega) hj h2)
  exact all n (Nat.le_refl _) i j hi hj h
/-- A way of so many steps. -/
inductive Way (n : Nat) (M : Nat → Nat → Bool) : Nat → Nat → Nat → Prop
  | one {i j : Nat} : M i j = true → Way n M 1 i j
  | more {k i x j : Nat} : x < n → M i x = true → Way n M k x j → Way n M (k + 1) i j
theorem Way.app {k m i x j : Nat} (hx : x < n) (h : Way n M k i x) (h' : Way n M m x j) : Way n M (k + m) i j := by
  induction h with
  | one h => rw [Nat.add_comm]; exact .more hx h h'
  | more hy hm _ ih => rw [Nat.add_right_comm]; exact .more hy hm (ih hx h')
theorem plus_way {i j : Nat} (hi : i < n) (hj : j < n) (h : plusM n M i j = true) : ∃ k, Way n M k i j :=
  plus_least (N := fun i j => ∃ k, Way n M k i j) (fun i j _ _ h => ⟨1, .one h⟩) (fun i x j _ hx _ ⟨k, h1⟩ ⟨m, h2⟩ => ⟨k + m, h1.app hx h2⟩) hi hj h
theorem way_plus {k i j : Nat} (h : Way n M k i j) : plusM n M i j = true := by
  induction h with
  | one h => exact plus_sub h
  | more hx h _ ih => exact plus_trans hx (plus_sub h) ih
variable {p : Nat}
theorem farK_mono {k m i : Nat} (hk : k ≤ m) (h : farK n M p k i ≠ 0) : farK n M p m i = farK n M p k i := by
  obtain ⟨d, rfl⟩ : ∃ d, m = k + d := ⟨m - k, by omega⟩
  induction d with
  | zero => rfl
  | succ d ih =>
    have := ih (by omega)
    rw [show k + (d + 1) = k + d + 1 by omega, farK_keep (by omega), this]
theorem farK_at : ∀ {k i v : Nat}, farK n M p k i = v → v ≠ 0 → farK n M p v i = v
  | 0, i, v, h, hv => by simp [farK] at h; omega
  | k + 1, i, v, h, hv => by
    by_cases h0 : farK n M p k i = 0
    · have h' := h
      rw [farK_new h0] at h'
      split at h'
      · subst h'; exact h
      · omega
    · rw [farK_keep h0] at h; exact farK_at h hv
theorem way_far {k i p : Nat} (h : Way n M k i p) : ∃ m, farK n M p m i ≠ 0 := by
  induction h with
  | one h => exact ⟨1, by rw [farK_new rfl, lay_zero, if_pos h]; omega⟩
  | @more k i x j hx h _ ih =>
    obtain ⟨m, hm⟩ := ih
    have hv := farK_at rfl hm
    obtain ⟨v, hv'⟩ : ∃ v, farK n M j m x = v + 1 := ⟨farK n M j m x - 1, by omega⟩
    rw [hv'] at hv
    refine ⟨v + 2, ?_⟩
    by_cases h0 : farK n M j (v + 1) i = 0
    · rw [farK_new h0, if_pos (lay_succ.2 ⟨x, hx, h, hv⟩)]; omega
    · rw [farK_keep h0]; exact h0
theorem farS_of {k i : Nat} (hi : i < n) (h : farK n M p k i ≠ 0) : farS n M p i ≠ 0 := by
  have hn : ∀ i, i < n → farK n M p (n + 1) i ≠ n + 1 := fun i hi h => by
    have := known_ge hi h; have := known_le (n := n) (M := M) (p := p) (n + 1); omega
  unfold farS
  rcases Nat.le_total k n with hk | hk
  · rw [farK_mono hk h]; exact h
  · obtain ⟨d, hd⟩ : ∃ d, k = n + d := ⟨k - n, by omega⟩
    rw [hd, farK_stable hn d i hi] at h; exact h
theorem plus_far {i : Nat} (hi : i < n) (hp : p < n) (h : plusM n M i p = true) : farS n M p i ≠ 0 := by
  obtain ⟨k, hw⟩ := plus_way hi hp h
  obtain ⟨m, hm⟩ := way_far hw
  exact farS_of hi hm
end
theorem cycGo_len {n : Nat} {M : Nat → Nat → Bool} {F : Nat → Nat} : ∀ (k a : Nat), (cycGo n M F k a).length ≤ k
  | 0, _ => Nat.le_refl _
  | k + 1, a => by
    simp only [cycGo]
    split
    · simp
    · rename_i q _; have := cycGo_len (n := n) (M := M) (F := F) k q; simp; omega
theorem shortS_len {n : Nat} {M : Nat → Nat → Bool} {p : Nat} : (shortS n M p).length ≤ n + 1 := by
  have := cycGo_len (n := n) (M := M) (F := farS n M p) (farS n M p p - 1) p
  have := farS_le (n := n) (M := M) (p := p) p
  simp only [shortS, List.length_cons]; omega
theorem cycS_len {n : Nat} {M : Nat → Nat → Bool} : (cycS n M).length ≤ n + 1 := by
  unfold cycS
  split
  · simp
  · exact shortS_len
end Go.Vc
namespace Go.Proofs.Tst
open Go Go.Vc
theorem rel_Copy {n : Nat} {M : Nat → Nat → Bool} {p : Value} {lo hi : Nat} {h : Heap} (hr : ProgAt h lo hi p n M) :
    Con Tryd.prog 56 #[p] h fun v h' => Fr 0 0 h h' ∧ ProgAt h' h.size h'.size v n (inN n M) := by
  refine con_rel_Rel_Copy ?_
  simp -dsimp only [go_sem, ↓reduceIte, reduceCtorEq, Nat.reduceEqDiff, Nat.reduceAdd, Nat.reduceLeDiff, Nat.reduceMul, Int.reduceBEq, Int.reduceBNe, Int.reduceLT, Int.reduceLE, Int.reduceGT, Int.reduceGE]
  refine call_of (rel_wide hr 0 (by omega)) ?_
  rintro v h1 ⟨p1, t1⟩
  simp -dsimp only [go_sem, ↓reduceIte, reduceCtorEq, Nat.reduceEqDiff, Nat.reduceAdd, Nat.reduceLeDiff, Nat.reduceMul, Int.reduceBEq, Int.reduceBNe, Int.reduceLT, Int.reduceLE, Int.reduceGT, Int.reduceGE]
  exact ⟨p1, by rwa [Nat.zero_max] at t1⟩
theorem rel_Irreflexive {n : Nat} {M : Nat → Nat → Bool} {p : Value} {lo hi : Nat} {h : Heap} (hr : ProgAt h lo hi p n M) :
    Con Tryd.prog 46 #[p] h fun v h' => h' = h ∧ v = .bool (irrB n M) := by
  refine con_rel_Irreflexive ?_
  obtain ⟨hn, pb, rb, R, W, rfl, t⟩ := hr
  simp -dsimp only [go_sem, ↓reduceIte, reduceCtorEq, Nat.reduceEqDiff, Nat.reduceAdd, Nat.reduceLeDiff, Nat.reduceMul, Int.reduceBEq, Int.reduceBNe, Int.reduceLT, Int.reduceLE, Int.reduceGT, Int.reduceGE, t.ptr.cell]
  refine loop_intro (fun a : Nat => [(8, .slice (some ⟨rb, 0, none⟩) n n), (9, .int .i64 n), (10, .int .i64 a)])
    (fun a h' => h' = h ∧ a ≤ n ∧ ∀ i, i < a → M i i = false) (fun a => n - a) 0 ?_ ?_ ?_
  · simp [Le, find]
  · exact ⟨rfl, by omega, by omega⟩
  rintro a _ ⟨rfl, ha, hinv⟩
  simp -dsimp only [go_sem, ↓reduceIte, reduceCtorEq, Nat.reduceEqDiff, Nat.reduceAdd, Nat.reduceLeDiff, Nat.reduceMul, Int.reduceBEq, Int.reduceBNe, Int.reduceLT, Int.reduceLE, Int.reduceGT, Int.reduceGE]
  refine ⟨fun hlt => ?_, fun hge => ?_⟩
  · have hlt : a < n := by omega
    obtain ⟨g1, g2, g3, g4, g5, g6⟩ := t.row a hlt
    simp -dsimp only [go_sem, ↓reduceIte, reduceCtorEq, Nat.reduceEqDiff, Nat.reduceAdd, Nat.reduceLeDiff, Nat.reduceMul, Int.reduceBEq, Int.reduceBNe, Int.reduceLT, Int.reduceLE, Int.reduceGT, Int.reduceGE]
    refine Chk_intro (by omega) ?_
    simp -dsimp only [go_sem, ↓reduceIte, reduceCtorEq, Nat.reduceEqDiff, Nat.reduceAdd, Nat.reduceLeDiff, Nat.reduceMul, Int.reduceBEq, Int.reduceBNe, Int.reduceLT, Int.reduceLE, Int.reduceGT, Int.reduceGE, t.rowsGet hlt]
    refine call_of (row_has (p := a) (ptab_rd t hlt) (by unfold nw; omega) (g6 _).1 (by omega)) ?_
    rintro v h1 ⟨rfl, rfl⟩
    rw [g6.get hlt]
    cases hm : M a a with
    | true =>
      simp -dsimp only [go_sem, ↓reduceIte, reduceCtorEq, Nat.reduceEqDiff, Nat.reduceAdd, Nat.reduceLeDiff, Nat.reduceMul, Int.reduceBEq, Int.reduceBNe, Int.reduceLT, Int.reduceLE, Int.reduceGT, Int.reduceGE]
      have : irrB n M = false := by
        rw [Bool.eq_false_iff]; intro h'
        have := List.all_eq_true.1 h' a (List.mem_range.2 hlt)
        simp [hm] at this
      rw [this]
    | false =>
      simp -dsimp only [go_sem, ↓reduceIte, reduceCtorEq, Nat.reduceEqDiff, Nat.reduceAdd, Nat.reduceLeDiff, Nat.reduceMul, Int.reduceBEq, Int.reduceBNe, Int.reduceLT, Int.reduceLE, Int.reduceGT, Int.reduceGE]
      simp -dsimp (disch := omega) only [wrap64]
      refine ⟨a + 1, by omega, by simp [Le, find], by omega, fun i hi => ?_⟩
      by_cases hia : i = a
      · subst hia; exact hm
      · exact hinv i (by omega)
  · have : a = n := by omega
    subst this
    simp -dsimp only [go_sem, ↓reduceIte, reduceCtorEq, Nat.reduceEqDiff, Nat.reduceAdd, Nat.reduceLeDiff, Nat.reduceMul, Int.reduceBEq, Int.reduceBNe, Int.reduceLT, Int.reduceLE, Int.reduceGT, Int.reduceGE]
    have : irrB a M = true := List.all_eq_true.2 fun i hi => by rw [hinv i (List.mem_range.1 hi)]; rfl
    rw [this]
theorem rel_Plus {n : Nat} {M : Nat → Nat → Bool} {p : Value} {lo hi : Nat} {h : Heap} (hr : ProgAt h lo hi p n M) :
    Con Tryd.prog 30 #[p] h fun v h' => Fr 0 0 h h' ∧ ProgAt h' h.size h'.size v n (plusM n M) := by
  refine con_rel_Plus ?_
  simp -dsimp only [go_sem, ↓reduceIte, reduceCtorEq, Nat.reduceEqDiff, Nat.reduceAdd, Nat.reduceLeDiff, Nat.reduceMul, Int.reduceBEq, Int.reduceBNe, Int.reduceLT, Int.reduceLE, Int.reduceGT, Int.reduceGE]
  refine call_of (rel_Copy hr) ?_
  rintro v1 h1 ⟨p1, hn, pb1, rb1, R1, W1, rfl, t1⟩
  have at1 := t1.at_
  simp -dsimp only [go_sem, ↓reduceIte, reduceCtorEq, Nat.reduceEqDiff, Nat.reduceAdd, Nat.reduceLeDiff, Nat.reduceMul, Int.reduceBEq, Int.reduceBNe, Int.reduceLT, Int.reduceLE, Int.reduceGT, Int.reduceGE, t1.ptr.cell]
  refine loop_intro (fun k : Nat => [(3, .pointer (some ⟨pb1, 0, none⟩)), (11, .int .i64 n), (12, .int .i64 k)])
    (fun k h' => k ≤ n ∧ Fr 0 0 h h' ∧ h1.size ≤ h'.size ∧ ∃ W, PTab h' h.size h1.size pb1 rb1 n R1 W (warM n M k)) (fun k => n - k) 0 ?_ ?_ ?_
  · simp [Le, find]
  · exact ⟨by omega, p1, by omega, _, t1.congr fun i j hi hj => inN_in hi hj⟩
  rintro k h2 ⟨hk, p0, y2, W2, t2⟩
  simp -dsimp only [go_sem, ↓reduceIte, reduceCtorEq, Nat.reduceEqDiff, Nat.reduceAdd, Nat.reduceLeDiff, Nat.reduceMul, Int.reduceBEq, Int.reduceBNe, Int.reduceLT, Int.reduceLE, Int.reduceGT, Int.reduceGE]
  refine ⟨fun hlt => ?_, fun hge => ?_⟩
  · have hlt : k < n := by omega
    simp -dsimp only [go_sem, ↓reduceIte, reduceCtorEq, Nat.reduceEqDiff, Nat.reduceAdd, Nat.reduceLeDiff, Nat.reduceMul, Int.reduceBEq, Int.reduceBNe, Int.reduceLT, Int.reduceLE, Int.reduceGT, Int.reduceGE, t2.ptr.cell]
    refine loop_intro (fun a : Nat => [(3, .pointer (some ⟨pb1, 0, none⟩)), (4, .int .i64 k), (11, .int .i64 n), (12, .int .i64 k), (18, .int .i64 n), (19, .int .i64 a)])
      (fun a h' => a ≤ n ∧ Fr 0 0 h h' ∧ h1.size ≤ h'.size ∧ ∃ W, PTab h' h.size h1.size pb1 rb1 n R1 W fun i j => if i < a then warM n M (k + 1) i j else warM n M k i j) (fun a => n - a) 0 ?_ ?_ ?_
    · simp [Le, find]
    · exact ⟨by omega, p0, by omega, _, t2.congr fun i j hi hj => by simp⟩
    rintro a h3 ⟨ha, p0, y3, W3, t3⟩
    have p0_z := p0.size
    simp -dsimp only [go_sem, ↓reduceIte, reduceCtorEq, Nat.reduceEqDiff, Nat.reduceAdd, Nat.reduceLeDiff, Nat.reduceMul, Int.reduceBEq, Int.reduceBNe, Int.reduceLT, Int.reduceLE, Int.reduceGT, Int.reduceGE]
    refine ⟨fun hlt2 => ?_, fun hge2 => ?_⟩
    · have hlt2 : a < n := by omega
      obtain ⟨g1, g2, g3, g4, g5, g6⟩ := t3.row a hlt2
      obtain ⟨f1, f2, f3, f4, f5, f6⟩ := t3.row k hlt
      simp -dsimp only [go_sem, ↓reduceIte, reduceCtorEq, Nat.reduceEqDiff, Nat.reduceAdd, Nat.reduceLeDiff, Nat.reduceMul, Int.reduceBEq, Int.reduceBNe, Int.reduceLT, Int.reduceLE, Int.reduceGT, Int.reduceGE, t3.ptr.cell]
      refine Chk_intro (by omega) ?_
      simp -dsimp only [go_sem, ↓reduceIte, reduceCtorEq, Nat.reduceEqDiff, Nat.reduceAdd, Nat.reduceLeDiff, Nat.reduceMul, Int.reduceBEq, Int.reduceBNe, Int.reduceLT, Int.reduceLE, Int.reduceGT, Int.reduceGE, t3.rowsGet hlt2]
      refine call_of (row_has (p := k) (ptab_rd t3 hlt2) (by unfold nw; omega) (g6 _).1 (by omega)) ?_
      rintro v h4 ⟨rfl, rfl⟩
      rw [g6.get hlt]
      simp only [Nat.lt_irrefl, if_false]
      cases hm : warM n M k a k with
      | true =>
        simp -dsimp only [go_sem, ↓reduceIte, reduceCtorEq, Nat.reduceEqDiff, Nat.reduceAdd, Nat.reduceLeDiff, Nat.reduceMul, Int.reduceBEq, Int.reduceBNe, Int.reduceLT, Int.reduceLE, Int.reduceGT, Int.reduceGE, t3.ptr.cell]
        refine Chk_intro (by omega) ?_
        simp -dsimp only [go_sem, ↓reduceIte, reduceCtorEq, Nat.reduceEqDiff, Nat.reduceAdd, Nat.reduceLeDiff, Nat.reduceMul, Int.reduceBEq, Int.reduceBNe, Int.reduceLT, Int.reduceLE, Int.reduceGT, Int.reduceGE, t3.rowsGet hlt2, t3.ptr.cell]
        refine Chk_intro (by omega) ?_
        simp -dsimp only [go_sem, ↓reduceIte, reduceCtorEq, Nat.reduceEqDiff, Nat.reduceAdd, Nat.reduceLeDiff, Nat.reduceMul, Int.reduceBEq, Int.reduceBNe, Int.reduceLT, Int.reduceLE, Int.reduceGT, Int.reduceGE, t3.rowsGet hlt]
        intro b5 h5 n5
        have n5_a := n5.at_
        have n5_z := n5.size
        replace p0 := p0.fresh (n5.fr (lo := 0) (hi := 0)) (by omega)
        replace t3 := t3.fr (n5.fr (lo := 0) (hi := 0)) (by omega)
        have r5 := n5.row
        obtain ⟨g1, g2, g3, g4, g5, g6⟩ := t3.row a hlt2
        obtain ⟨f1, f2, f3, f4, f5, f6⟩ := t3.row k hlt
        simp -dsimp only [go_sem, ↓reduceIte, reduceCtorEq, Nat.reduceEqDiff, Nat.reduceAdd, Nat.reduceLeDiff, Nat.reduceMul, Int.reduceBEq, Int.reduceBNe, Int.reduceLT, Int.reduceLE, Int.reduceGT, Int.reduceGE, t3.rowsGet hlt, t3.rowsGet hlt2, t3.ptr.cell, r5.cell]
        refine call_of (row_join g1 f1 (r5.rd rfl) (fun j => (g6 j).1) (fun j => (f6 j).1) (by unfold nw; omega) (by unfold nw; omega)) ?_
        rintro _ h6 ⟨q6, z6, r6⟩
        have t6 := t3.updRow hlt2 q6 r6 (g6.or f6 (by omega))
        have q6_z := q6.size
        replace p0 := p0.fresh q6 (by omega)
        simp -dsimp only [go_sem, ↓reduceIte, reduceCtorEq, Nat.reduceEqDiff, Nat.reduceAdd, Nat.reduceLeDiff, Nat.reduceMul, Int.reduceBEq, Int.reduceBNe, Int.reduceLT, Int.reduceLE, Int.reduceGT, Int.reduceGE, t6.ptr.cell, t6.rowsGet hlt, t6.rowsGet hlt2]
        simp -dsimp (disch := omega) only [wrap64]
        refine ⟨a + 1, by omega, by simp [Le, find], by omega, p0, by omega, _, t6.congr fun i j hi hj => ?_⟩
        by_cases hia : i = a
        · subst hia
          have e : (if k < i then warM n M (k + 1) k j else warM n M k k j) = warM n M k k j := by split <;> simp [warM_self]
          rw [upd_same, if_pos (Nat.lt_succ_self _)]
          simp only [Nat.lt_irrefl, if_false, e, hj, decide_true, Bool.true_and]
          simp only [warM, hm, Bool.true_and]
        · rw [upd_ne _ _ hia]
          have : (i < a + 1) = (i < a) := by simp; omega
          simp [this]
      | false =>
        simp -dsimp only [go_sem, ↓reduceIte, reduceCtorEq, Nat.reduceEqDiff, Nat.reduceAdd, Nat.reduceLeDiff, Nat.reduceMul, Int.reduceBEq, Int.reduceBNe, Int.reduceLT, Int.reduceLE, Int.reduceGT, Int.reduceGE]
        simp -dsimp (disch := omega) only [wrap64]
        refine ⟨a + 1, by omega, by simp [Le, find], by omega, p0, by omega, _, t3.congr fun i j hi hj => ?_⟩
        by_cases hia : i = a
        · subst hia
          simp [warM, hm]
        · have : (i < a + 1) = (i < a) := by simp; omega
          simp [this]
    · have : a = n := by omega
      subst this
      simp -dsimp only [go_sem, ↓reduceIte, reduceCtorEq, Nat.reduceEqDiff, Nat.reduceAdd, Nat.reduceLeDiff, Nat.reduceMul, Int.reduceBEq, Int.reduceBNe, Int.reduceLT, Int.reduceLE, Int.reduceGT, Int.reduceGE]
      simp -dsimp (disch := omega) only [wrap64]
      exact ⟨k + 1, by omega, by simp [Le, find], by omega, p0, by omega, _, t3.congr fun i j hi hj => by simp [hi]⟩
  · have : k = n := by omega
    subst this
    simp -dsimp only [go_sem, ↓reduceIte, reduceCtorEq, Nat.reduceEqDiff, Nat.reduceAdd, Nat.reduceLeDiff, Nat.reduceMul, Int.reduceBEq, Int.reduceBNe, Int.reduceLT, Int.reduceLE, Int.reduceGT, Int.reduceGE]
    exact ⟨p0, hn, _, _, _, _, rfl, t2.mono' y2⟩
theorem rel_Acyclic {n : Nat} {M : Nat → Nat → Bool} {p : Value} {lo hi : Nat} {h : Heap} (hr : ProgAt h lo hi p n M) :
    Con Tryd.prog 45 #[p] h fun v h' => Fr 0 0 h h' ∧ v = .bool (irrB n (plusM n M)) := by
  refine con_rel_Acyclic ?_
  simp -dsimp only [go_sem, ↓reduceIte, reduceCtorEq, Nat.reduceEqDiff, Nat.reduceAdd, Nat.reduceLeDiff, Nat.reduceMul, Int.reduceBEq, Int.reduceBNe, Int.reduceLT, Int.reduceLE, Int.reduceGT, Int.reduceGE]
  refine call_of (rel_Plus hr) ?_
  rintro v1 h1 ⟨p1, t1⟩
  simp -dsimp only [go_sem, ↓reduceIte, reduceCtorEq, Nat.reduceEqDiff, Nat.reduceAdd, Nat.reduceLeDiff, Nat.reduceMul, Int.reduceBEq, Int.reduceBNe, Int.reduceLT, Int.reduceLE, Int.reduceGT, Int.reduceGE]
  refine call_of (rel_Irreflexive t1) ?_
  rintro v2 h2 ⟨rfl, rfl⟩
  simp -dsimp only [go_sem, ↓reduceIte, reduceCtorEq, Nat.reduceEqDiff, Nat.reduceAdd, Nat.reduceLeDiff, Nat.reduceMul, Int.reduceBEq, Int.reduceBNe, Int.reduceLT, Int.reduceLE, Int.reduceGT, Int.reduceGE]
  exact p1
theorem rel_Opt {n : Nat} {M : Nat → Nat → Bool} {p : Value} {lo hi : Nat} {h : Heap} (hr : ProgAt h lo hi p n M) :
    Con Tryd.prog 44 #[p] h fun v h' => Fr 0 0 h h' ∧ ProgAt h' h.size h'.size v n (optM M) := by
  refine con_rel_Opt ?_
  simp -dsimp only [go_sem, ↓reduceIte, reduceCtorEq, Nat.reduceEqDiff, Nat.reduceAdd, Nat.reduceLeDiff, Nat.reduceMul, Int.reduceBEq, Int.reduceBNe, Int.reduceLT, Int.reduceLE, Int.reduceGT, Int.reduceGE]
  refine call_of (rel_Copy hr) ?_
  rintro v1 h1 ⟨p1, hn, pb1, rb1, R1, W1, rfl, t1⟩
  have at1 := t1.at_
  simp -dsimp only [go_sem, ↓reduceIte, reduceCtorEq, Nat.reduceEqDiff, Nat.reduceAdd, Nat.reduceLeDiff, Nat.reduceMul, Int.reduceBEq, Int.reduceBNe, Int.reduceLT, Int.reduceLE, Int.reduceGT, Int.reduceGE, t1.ptr.cell]
  refine loop_intro (fun k : Nat => [(3, .pointer (some ⟨pb1, 0, none⟩)), (10, .int .i64 n), (11, .int .i64 k)])
    (fun k h' => k ≤ n ∧ Fr 0 0 h h' ∧ h1.size ≤ h'.size ∧ ∃ W, PTab h' h.size h1.size pb1 rb1 n R1 W fun i j => M i j || (decide (i < k) && i == j)) (fun k => n - k) 0 ?_ ?_ ?_
  · simp [Le, find]
  · exact ⟨by omega, p1, by omega, _, t1.congr fun i j hi hj => by simp [inN_in hi hj]⟩
  rintro a h2 ⟨ha, p0, y2, W2, t3⟩
  have p0_z := p0.size
  simp -dsimp only [go_sem, ↓reduceIte, reduceCtorEq, Nat.reduceEqDiff, Nat.reduceAdd, Nat.reduceLeDiff, Nat.reduceMul, Int.reduceBEq, Int.reduceBNe, Int.reduceLT, Int.reduceLE, Int.reduceGT, Int.reduceGE]
  refine ⟨fun hlt => ?_, fun hge => ?_⟩
  · have hlt : a < n := by omega
    obtain ⟨g1, g2, g3, g4, g5, g6⟩ := t3.row a hlt
    simp -dsimp only [go_sem, ↓reduceIte, reduceCtorEq, Nat.reduceEqDiff, Nat.reduceAdd, Nat.reduceLeDiff, Nat.reduceMul, Int.reduceBEq, Int.reduceBNe, Int.reduceLT, Int.reduceLE, Int.reduceGT, Int.reduceGE, t3.ptr.cell]
    refine Chk_intro (by omega) ?_
    simp -dsimp only [go_sem, ↓reduceIte, reduceCtorEq, Nat.reduceEqDiff, Nat.reduceAdd, Nat.reduceLeDiff, Nat.reduceMul, Int.reduceBEq, Int.reduceBNe, Int.reduceLT, Int.reduceLE, Int.reduceGT, Int.reduceGE, t3.rowsGet hlt]
    refine call_of (row_set (p := a) g1 (by unfold nw; omega) (fun j => (g6 j).1) (by unfold nw; omega)) ?_
    rintro _ h6 ⟨q6, z6, r6⟩
    have t6 := t3.updRow hlt q6 r6 (g6.set hlt)
    have q6_z := q6.size
    replace p0 := p0.fresh q6 (by omega)
    simp -dsimp only [go_sem, ↓reduceIte, reduceCtorEq, Nat.reduceEqDiff, Nat.reduceAdd, Nat.reduceLeDiff, Nat.reduceMul, Int.reduceBEq, Int.reduceBNe, Int.reduceLT, Int.reduceLE, Int.reduceGT, Int.reduceGE]
    simp -dsimp (disch := omega) only [wrap64]
    refine ⟨a + 1, by omega, by simp [Le, find], by omega, p0, by omega, _, t6.congr fun i j hi hj => ?_⟩
    by_cases hia : i = a
    · subst hia
      rw [upd_same]
      by_cases hji : j = i
      · subst hji; simp
      · have : (i == j) = false := by simp; omega
        simp [hji, this]
    · rw [upd_ne _ _ hia]
      have : (i < a + 1) = (i < a) := by simp; omega
      simp [this]
  · have : a = n := by omega
    subst this
    simp -dsimp only [go_sem, ↓reduceIte, reduceCtorEq, Nat.reduceEqDiff, Nat.reduceAdd, Nat.reduceLeDiff, Nat.reduceMul, Int.reduceBEq, Int.reduceBNe, Int.reduceLT, Int.reduceLE, Int.reduceGT, Int.reduceGE]
    exact ⟨p0, hn, _, _, _, _, rfl, (t3.mono' y2).congr fun i j hi _ => by simp [optM, hi]⟩
theorem rel_Star {n : Nat} {M : Nat → Nat → Bool} {p : Value} {lo hi : Nat} {h : Heap} (hr : ProgAt h lo hi p n M) :
    Con Tryd.prog 43 #[p] h fun v h' => Fr 0 0 h h' ∧ ProgAt h' h.size h'.size v n (optM (plusM n M)) := by
  refine con_rel_Star ?_
  simp -dsimp only [go_sem, ↓reduceIte, reduceCtorEq, Nat.reduceEqDiff, Nat.reduceAdd, Nat.reduceLeDiff, Nat.reduceMul, Int.reduceBEq, Int.reduceBNe, Int.reduceLT, Int.reduceLE, Int.reduceGT, Int.reduceGE]
  refine call_of (rel_Plus hr) ?_
  rintro v1 h1 ⟨p1, t1⟩
  have := p1.size
  simp -dsimp only [go_sem, ↓reduceIte, reduceCtorEq, Nat.reduceEqDiff, Nat.reduceAdd, Nat.reduceLeDiff, Nat.reduceMul, Int.reduceBEq, Int.reduceBNe, Int.reduceLT, Int.reduceLE, Int.reduceGT, Int.reduceGE]
  refine call_of (rel_Opt t1) ?_
  rintro v2 h2 ⟨p2, t2⟩
  simp -dsimp only [go_sem, ↓reduceIte, reduceCtorEq, Nat.reduceEqDiff, Nat.reduceAdd, Nat.reduceLeDiff, Nat.reduceMul, Int.reduceBEq, Int.reduceBNe, Int.reduceLT, Int.reduceLE, Int.reduceGT, Int.reduceGE]
  exact ⟨p1.trans p2, t2.mono this (Nat.le_refl _)⟩
end Go.Proofs.Tst
namespace Go.Proofs.Tst
open Go Go.Vc
/-- A range over a function that yields numbers. -/
theorem iter_intro {P : Program} {asg body : GC} {Q : Post} {e : Env} {h : Heap} {kk : Nat} {gf : FuncId} {lb : Array Value} {l : List Nat} {C : Heap → Prop} (hit : Iter P gf lb (l.map fun (p : Nat) => [Value.int .i64 (p : Int)]) C)
    (cext : ∀ h1 h2, Ext h.size h1 h2 → C h1 → C h2) (h0C : C h)
    (J : Nat → Heap → Prop) (X : GX → Heap → Prop) (keep : ∀ d h', J d h' → C h')
    (jext : ∀ i h1 h2, Ext h.size h1 h2 → J i h1 → J i h2) (xext : ∀ x h1 h2, Ext h.size h1 h2 → X x h1 → X x h2) (h0 : J 0 h)
    (step : ∀ d q h1, h.size ≤ h1.size → l[d]? = some q → J d h1 →
      vc P none asg (thenQ (fun e2 h2 => ∀ h2', Ext h.size h2 h2' → vc P none body (roundQ (fun h3 => J (d + 1) h3) X) e2 h2') (fun _ _ _ => False)) ((kk, .int .i64 (q : Int)) :: e) h1)
    (fin : ∀ h', h.size ≤ h'.size → J l.length h' → Q .normal e h')
    (esc : ∀ x h', h.size ≤ h'.size → X x h' → x ≠ .normal ∧ Q x e h') :
    ∃ (xs : List (List Value)) (C : Heap → Prop) (I : Nat → Heap → Prop) (X : GX → Heap → Prop),
      Iter P gf lb xs C ∧ (∀ x ∈ xs, x.length = [kk].length) ∧
      (∀ h1 h2, Ext h.size h1 h2 → C h1 → C h2) ∧ (∀ i h1 h2, Ext h.size h1 h2 → I i h1 → I i h2) ∧ (∀ x h1 h2, Ext h.size h1 h2 → X x h1 → X x h2) ∧
      I 0 h ∧ C h ∧
      (∀ i x h1, h.size ≤ h1.size → xs[i]? = some x → I i h1 → C h1 → vc P none asg (thenQ (fun e2 h2 => ∀ h2', Ext h.size h2 h2' → vc P none body (roundQ (fun h3 => I (i + 1) h3 ∧ C h3) X) e2 h2') (fun _ _ _ => False)) (zipE [kk] x e) h1) ∧
      (∀ h', h.size ≤ h'.size → I xs.length h' → C h' → Q .normal e h') ∧
      (∀ x h', h.size ≤ h'.size → X x h' → x ≠ .normal ∧ Q x e h') := by
  refine ⟨_, C, J, X, hit, ?_, cext, jext, xext, h0, h0C, ?_, ?_, esc⟩
  · intro x hx; obtain ⟨q, _, rfl⟩ := List.mem_map.1 hx; rfl
  · rintro d x h1 hs hx hJ hC
    rw [List.getElem?_map, Option.map_eq_some_iff] at hx
    obtain ⟨q, hq, rfl⟩ := hx
    refine vc_mono (fun x e2 h2 h3 => ?_) (step d q h1 hs hq hJ)
    cases x with
    | normal =>
      intro h2' x'
      refine vc_mono (fun x e4 h4 h5 => ?_) (h3 h2' x')
      cases x with
      | normal => exact ⟨h5, keep _ _ h5⟩
      | ret => exact h5
      | exit j => exact h5
    | ret => exact h3
    | exit j => exact h3
  · intro h' hs hJ hC
    rw [List.length_map] at hJ
    exact fin h' hs hJ
/-- A range over the points of a row. -/
theorem points_intro {P' : Program} {asg body : GC} {Q : Post} {e : Env} {h : Heap} {kk bk n : Nat} {xv : Value} {W : Nat → Nat} {f : Nat → Bool} (hP : P' = Tryd.prog) (hb : Bits n W f) (hn : n ≤ 256) (h0C : RowC bk xv (nw n) W h)
    (J : Nat → Heap → Prop) (X : GX → Heap → Prop) (keep : ∀ d h', J d h' → RowC bk xv (nw n) W h')
    (jext : ∀ i h1 h2, Ext h.size h1 h2 → J i h1 → J i h2) (xext : ∀ x h1 h2, Ext h.size h1 h2 → X x h1 → X x h2) (h0 : J 0 h)
    (step : ∀ d q h1, h.size ≤ h1.size → (rest f n 0)[d]? = some q → q < n → f q = true → J d h1 →
      vc P' none asg (thenQ (fun e2 h2 => ∀ h2', Ext h.size h2 h2' → vc P' none body (roundQ (fun h3 => J (d + 1) h3) X) e2 h2') (fun _ _ _ => False)) ((kk, .int .i64 (q : Int)) :: e) h1)
    (fin : ∀ h', h.size ≤ h'.size → J (rest f n 0).length h' → Q .normal e h')
    (esc : ∀ x h', h.size ≤ h'.size → X x h' → x ≠ .normal ∧ Q x e h') :
    ∃ (xs : List (List Value)) (C : Heap → Prop) (I : Nat → Heap → Prop) (X : GX → Heap → Prop),
      Iter P' 105 #[.pointer (some ⟨bk, 0, none⟩)] xs C ∧ (∀ x ∈ xs, x.length = [kk].length) ∧
      (∀ h1 h2, Ext h.size h1 h2 → C h1 → C h2) ∧ (∀ i h1 h2, Ext h.size h1 h2 → I i h1 → I i h2) ∧ (∀ x h1 h2, Ext h.size h1 h2 → X x h1 → X x h2) ∧
      I 0 h ∧ C h ∧
      (∀ i x h1, h.size ≤ h1.size → xs[i]? = some x → I i h1 → C h1 → vc P' none asg (thenQ (fun e2 h2 => ∀ h2', Ext h.size h2 h2' → vc P' none body (roundQ (fun h3 => I (i + 1) h3 ∧ C h3) X) e2 h2') (fun _ _ _ => False)) (zipE [kk] x e) h1) ∧
      (∀ h', h.size ≤ h'.size → I xs.length h' → C h' → Q .normal e h') ∧
      (∀ x h', h.size ≤ h'.size → X x h' → x ≠ .normal ∧ Q x e h') := by
  subst hP
  have hit := points_1 (b := bk) (xv := xv) (w := nw n) (W := W) (fun j => (hb j).1) (by unfold nw; omega)
  rw [rest_bits hb] at hit
  exact iter_intro hit (fun h1 h2 x ⟨c1, c2, c3⟩ => ⟨x.cell c1, x.rd c2, x.tab c3⟩) h0C J X keep jext xext h0
    (fun d q h1 hs hq hJ => have hm := mem_rest.1 (List.mem_of_getElem? hq); step d q h1 hs hq hm.2.1 hm.2.2 hJ) fin esc

theorem rel_Inverse {n : Nat} {M : Nat → Nat → Bool} {p : Value} {lo hi : Nat} {h : Heap} (hr : ProgAt h lo hi p n M) (ht : TabAt h) :
    Con Tryd.prog 38 #[p] h fun v h' => Fr 0 0 h h' ∧ ProgAt h' h.size h'.size v n (invM M) := by
  refine con_rel_Inverse (fun v h1 h2 x ⟨f, o⟩ => ⟨x.fr f (Nat.le_refl _), (o.ext x).mono (Nat.le_refl _) x.size⟩) ?_
  obtain ⟨hn, pb, rb, R, W, rfl, t⟩ := hr
  have hcl : clampN n = n := by unfold clampN; omega
  simp -dsimp only [go_sem, ↓reduceIte, reduceCtorEq, Nat.reduceEqDiff, Nat.reduceAdd, Nat.reduceLeDiff, Nat.reduceMul, Int.reduceBEq, Int.reduceBNe, Int.reduceLT, Int.reduceLE, Int.reduceGT, Int.reduceGE, t.ptr.cell]
  refine call_of (rel_New n h) ?_
  rintro v1 h1 ⟨p0, t1⟩
  rw [hcl] at t1
  obtain ⟨-, pb1, rb1, R1, W1, rfl, t1⟩ := t1
  have at1 := t1.at_
  have h1_z := p0.size
  simp -dsimp only [go_sem, ↓reduceIte, reduceCtorEq, Nat.reduceEqDiff, Nat.reduceAdd, Nat.reduceLeDiff, Nat.reduceMul, Int.reduceBEq, Int.reduceBNe, Int.reduceLT, Int.reduceLE, Int.reduceGT, Int.reduceGE]
  intro b2 h2 n2
  have n2_a := n2.at_
  have n2_z := n2.size
  replace p0 := p0.fresh (n2.fr (lo := 0) (hi := 0)) (by omega)
  replace t1 := t1.fr (n2.fr (lo := 0) (hi := 0)) (by omega)
  have r2 := n2.row
  simp -dsimp only [go_sem, ↓reduceIte, reduceCtorEq, Nat.reduceEqDiff, Nat.reduceAdd, Nat.reduceLeDiff, Nat.reduceMul, Int.reduceBEq, Int.reduceBNe, Int.reduceLT, Int.reduceLE, Int.reduceGT, Int.reduceGE, r2.cell]
  refine Chk_intro (r2.wr (by first | (simp; done) | (simp; omega))) fun h3 s3 => ?_
  have s3_z := s3.size
  replace p0 := p0.fresh s3.fr (by omega)
  replace t1 := t1.fr s3.fr (by omega)
  replace r2 := s3.row r2
  try simp only [cl_int, cl_bool, cl_slice, cl_ptr, putAt_one, List.set_cons_zero, List.set_cons_succ, ivec_set, brow_upd] at r2
  have t3 := t.fr p0 (by omega)
  simp -dsimp only [go_sem, ↓reduceIte, reduceCtorEq, Nat.reduceEqDiff, Nat.reduceAdd, Nat.reduceLeDiff, Nat.reduceMul, Int.reduceBEq, Int.reduceBNe, Int.reduceLT, Int.reduceLE, Int.reduceGT, Int.reduceGE, t3.ptr.cell, r2.cell]
  refine loop_intro (fun a : Nat => [(3, .pointer (some ⟨b2, 0, none⟩)), (15, .slice (some ⟨rb, 0, none⟩) n n), (16, .int .i64 n), (17, .int .i64 a)])
    (fun a h' => a ≤ n ∧ Fr 0 0 h h' ∧ h3.size ≤ h'.size ∧ Rw h' b2 [.pointer (some ⟨pb1, 0, none⟩)] ∧ ∃ W, PTab h' h.size h1.size pb1 rb1 n R1 W fun i j => decide (j < a) && M j i) (fun a => n - a) 0 ?_ ?_ ?_
  · simp [Le, find]
  · exact ⟨by omega, p0, by omega, r2, _, t1.congr fun i j _ _ => by simp⟩
  rintro a h4 ⟨ha, p0, y4, r2, W4, t4⟩
  have p0_z := p0.size
  have r2_l := r2.lt
  simp -dsimp only [go_sem, ↓reduceIte, reduceCtorEq, Nat.reduceEqDiff, Nat.reduceAdd, Nat.reduceLeDiff, Nat.reduceMul, Int.reduceBEq, Int.reduceBNe, Int.reduceLT, Int.reduceLE, Int.reduceGT, Int.reduceGE, r2.cell]
  refine ⟨fun hlt => ?_, fun hge => ?_⟩
  · have hlt : a < n := by omega
    simp -dsimp only [go_sem, ↓reduceIte, reduceCtorEq, Nat.reduceEqDiff, Nat.reduceAdd, Nat.reduceLeDiff, Nat.reduceMul, Int.reduceBEq, Int.reduceBNe, Int.reduceLT, Int.reduceLE, Int.reduceGT, Int.reduceGE, r2.cell]
    refine Chk_intro (by omega) ?_
    simp -dsimp only [go_sem, ↓reduceIte, reduceCtorEq, Nat.reduceEqDiff, Nat.reduceAdd, Nat.reduceLeDiff, Nat.reduceMul, Int.reduceBEq, Int.reduceBNe, Int.reduceLT, Int.reduceLE, Int.reduceGT, Int.reduceGE, (t.fr p0 (by omega)).rowsGet hlt, r2.cell]
    intro b5 h5 n5
    have n5_a := n5.at_
    have n5_z := n5.size
    replace p0 := p0.fresh (n5.fr (lo := 0) (hi := 0)) (by omega)
    replace r2 := r2.fr (n5.fr (lo := 0) (hi := 0)) (by omega)
    replace t4 := t4.fr (n5.fr (lo := 0) (hi := 0)) (by omega)
    have r5 := n5.row
    simp -dsimp only [go_sem, ↓reduceIte, reduceCtorEq, Nat.reduceEqDiff, Nat.reduceAdd, Nat.reduceLeDiff, Nat.reduceMul, Int.reduceBEq, Int.reduceBNe, Int.reduceLT, Int.reduceLE, Int.reduceGT, Int.reduceGE, r2.cell, r5.cell]
    refine Chk_intro (r5.wr (by first | (simp; done) | (simp; omega))) fun h6 s6 => ?_
    have s6_z := s6.size
    replace p0 := p0.fresh s6.fr (by omega)
    replace r2 := r2.fr s6.fr (by omega)
    replace t4 := t4.fr s6.fr (by omega)
    replace r5 := s6.row r5
    try simp only [cl_int, cl_bool, cl_slice, cl_ptr, putAt_one, List.set_cons_zero, List.set_cons_succ, ivec_set, brow_upd] at r5
    simp -dsimp only [go_sem, ↓reduceIte, reduceCtorEq, Nat.reduceEqDiff, Nat.reduceAdd, Nat.reduceLeDiff, Nat.reduceMul, Int.reduceBEq, Int.reduceBNe, Int.reduceLT, Int.reduceLE, Int.reduceGT, Int.reduceGE, r2.cell, r5.cell]
    refine call_of (rel_points _ _ _ h6) ?_
    rintro v h7 ⟨f7, rfl, c7, z7⟩
    have f7_z := f7.size
    replace p0 := p0.fresh f7 (by omega)
    replace r2 := r2.fr f7 (by omega)
    replace t4 := t4.fr f7 (by omega)
    replace r5 := r5.fr f7 (by omega)
    simp -dsimp only [go_sem, ↓reduceIte, reduceCtorEq, Nat.reduceEqDiff, Nat.reduceAdd, Nat.reduceLeDiff, Nat.reduceMul, Int.reduceBEq, Int.reduceBNe, Int.reduceLT, Int.reduceLE, Int.reduceGT, Int.reduceGE, r2.cell, r5.cell]
    have hbits := (t.row a hlt).2.2.2.2.2
    refine ⟨rfl, points_intro rfl hbits hn ⟨c7, ptab_rd (t.fr p0 (by omega)) hlt, ht.fr p0 (by omega)⟩
      (fun d h' => Fr 0 0 h h' ∧ h7.size ≤ h'.size ∧ Rw h' b2 [.pointer (some ⟨pb1, 0, none⟩)] ∧ Rw h' b5 [.int .i64 a] ∧ hcell h' h6.size 0 = some (.slice (some ⟨R a, 0, none⟩) (nw n) (nw n)) ∧ ∃ W, PTab h' h.size h1.size pb1 rb1 n R1 W fun i j => (decide (j < a) && M j i) || (j == a && ((rest (M a) n 0).take d).contains i))
      (fun _ _ => False) ?_ ?_ ?_ ?_ ?_ ?_ ?_⟩
    · rintro d h' ⟨q0, -, -, -, q1, -⟩
      exact ⟨q1, ptab_rd (t.fr q0 (by omega)) hlt, ht.fr q0 (by omega)⟩
    · rintro d h8 h9 x ⟨q0, q1, q2, q3, q4, W', q5⟩
      exact ⟨q0.ext x (by omega), Nat.le_trans q1 x.size, q2.ext x, q3.ext x, x.cell q4, W', q5.ext x⟩
    · exact fun _ _ _ _ h => h
    · exact ⟨p0, Nat.le_refl _, r2, r5, c7, _, t4.congr fun i j _ _ => by simp⟩
    · rintro d q h8 z8 hq hqn hqf ⟨p0, y8, r2, r5, c8, W8, t8⟩
      have p0_z := p0.size
      have r2_l := r2.lt
      have r5_l := r5.lt
      simp -dsimp only [go_sem, ↓reduceIte, reduceCtorEq, Nat.reduceEqDiff, Nat.reduceAdd, Nat.reduceLeDiff, Nat.reduceMul, Int.reduceBEq, Int.reduceBNe, Int.reduceLT, Int.reduceLE, Int.reduceGT, Int.reduceGE, r2.cell, r5.cell]
      intro h9 x9
      have x9_z := x9.size
      replace p0 := p0.ext x9 (by omega)
      replace r2 := r2.ext x9
      replace r5 := r5.ext x9
      replace t8 := t8.ext x9
      have c8 := x9.cell c8
      obtain ⟨g1, g2, g3, g4, g5, g6⟩ := t8.row q hqn
      simp -dsimp only [go_sem, ↓reduceIte, reduceCtorEq, Nat.reduceEqDiff, Nat.reduceAdd, Nat.reduceLeDiff, Nat.reduceMul, Int.reduceBEq, Int.reduceBNe, Int.reduceLT, Int.reduceLE, Int.reduceGT, Int.reduceGE, t8.ptr.cell, r2.cell, r5.cell]
      refine Chk_intro (by omega) ?_
      simp -dsimp only [go_sem, ↓reduceIte, reduceCtorEq, Nat.reduceEqDiff, Nat.reduceAdd, Nat.reduceLeDiff, Nat.reduceMul, Int.reduceBEq, Int.reduceBNe, Int.reduceLT, Int.reduceLE, Int.reduceGT, Int.reduceGE, t8.rowsGet hqn, r2.cell, r5.cell]
      refine call_of (row_set (p := a) g1 (by unfold nw; omega) (fun j => (g6 j).1) (by unfold nw; omega)) ?_
      rintro _ h10 ⟨f10, z10, r10⟩
      have t10 := t8.updRow hqn f10 r10 (g6.set hlt)
      have f10_z := f10.size
      replace p0 := p0.fresh f10 (by omega)
      replace r2 := r2.fr f10 (by omega)
      replace r5 := r5.fr f10 (by omega)
      simp -dsimp only [go_sem, ↓reduceIte, reduceCtorEq, Nat.reduceEqDiff, Nat.reduceAdd, Nat.reduceLeDiff, Nat.reduceMul, Int.reduceBEq, Int.reduceBNe, Int.reduceLT, Int.reduceLE, Int.reduceGT, Int.reduceGE, t10.ptr.cell, t10.rowsGet hqn, r2.cell, r5.cell]
      refine ⟨p0, by omega, r2, r5, f10.keep c8 (by omega), _, t10.congr fun i j hi hj => ?_⟩
      rw [List.take_add_one, hq, Option.toList_some, List.contains_append]
      by_cases hiq : i = q
      · subst hiq
        rw [upd_same]
        by_cases hja : j = a
        · subst hja; simp
        · have e : (j == a) = false := by simpa using hja
          simp [hja, e]
      · rw [upd_ne _ _ hiq]; simp [hiq]
    · rintro h8 z8 ⟨p0, y8, r2, r5, c8, W8, t8⟩
      simp -dsimp only [go_sem, ↓reduceIte, reduceCtorEq, Nat.reduceEqDiff, Nat.reduceAdd, Nat.reduceLeDiff, Nat.reduceMul, Int.reduceBEq, Int.reduceBNe, Int.reduceLT, Int.reduceLE, Int.reduceGT, Int.reduceGE, r2.cell, r5.cell]
      simp -dsimp (disch := omega) only [wrap64]
      refine ⟨a + 1, by omega, by simp [Le, find], by omega, p0, by omega, r2, _, t8.congr fun i j hi hj => ?_⟩
      rw [List.take_length]
      by_cases hja : j = a
      · subst hja
        cases hm : M j i with
        | true => simp [mem_rest, hm, hi]
        | false => simp [mem_rest, hm]
      · have : (j < a + 1) = (j < a) := by simp; omega
        simp [this, hja]
    · exact fun _ _ _ h => h.elim
  · have : a = n := by omega
    subst this
    simp -dsimp only [go_sem, ↓reduceIte, reduceCtorEq, Nat.reduceEqDiff, Nat.reduceAdd, Nat.reduceLeDiff, Nat.reduceMul, Int.reduceBEq, Int.reduceBNe, Int.reduceLT, Int.reduceLE, Int.reduceGT, Int.reduceGE, r2.cell]
    exact ⟨p0, hn, _, _, _, _, rfl, (t4.mono' (by omega)).congr fun i j hi hj => by simp [invM, hj]⟩
end Go.Proofs.Tst
namespace Go.Proofs.Tst
open Go Go.Vc
set_option maxHeartbeats 800000 in
theorem rel_Comp {n m : Nat} {M N : Nat → Nat → Bool} {p q : Value} {lo hi lo' hi' : Nat} {h : Heap} (hr : ProgAt h lo hi p n M) (hs : ProgAt h lo' hi' q m N) (ht : TabAt h) :
    Con Tryd.prog 37 #[p, q] h fun v h' => Fr 0 0 h h' ∧ ProgAt h' h.size h'.size v (max n m) (compM n M m N) := by
  refine con_rel_Comp (fun v h1 h2 x ⟨f, o⟩ => ⟨x.fr f (Nat.le_refl _), (o.ext x).mono (Nat.le_refl _) x.size⟩) ?_
  obtain ⟨hn, pb, rb, R, W, rfl, t⟩ := hr
  obtain ⟨hm, pb', rb', R', W', rfl, t'⟩ := hs
  have hmx : (if (m : Int) > (n : Int) then (m : Int) else (n : Int)) = ((max n m : Nat) : Int) := by split <;> omega
  have hcl : clampN (max n m : Nat) = max n m := by unfold clampN; omega
  have p0 : Fr 0 0 h h := .refl _ _ _
  simp -dsimp only [go_sem, ↓reduceIte, reduceCtorEq, Nat.reduceEqDiff, Nat.reduceAdd, Nat.reduceLeDiff, Nat.reduceMul, Int.reduceBEq, Int.reduceBNe, Int.reduceLT, Int.reduceLE, Int.reduceGT, Int.reduceGE]
  intro b1 h1 n1
  have n1_a := n1.at_
  have n1_z := n1.size
  replace p0 := p0.fresh (n1.fr (lo := 0) (hi := 0)) (by omega)
  have r1 := n1.row
  have tp := t.fr p0 (by omega)
  have tq := t'.fr p0 (by omega)
  simp -dsimp only [go_sem, ↓reduceIte, reduceCtorEq, Nat.reduceEqDiff, Nat.reduceAdd, Nat.reduceLeDiff, Nat.reduceMul, Int.reduceBEq, Int.reduceBNe, Int.reduceLT, Int.reduceLE, Int.reduceGT, Int.reduceGE, tp.ptr.cell, tq.ptr.cell, r1.cell]
  rw [hmx]
  refine rvc_joint (fun b2 : Nat => [(0, .pointer (some ⟨pb, 0, none⟩)), (3, .pointer (some ⟨b1, 0, none⟩)), (4, .pointer none), (5, .pointer (some ⟨b2, 0, none⟩))])
    (fun b2 h' => Fr 0 0 h h' ∧ Rw h' b1 [.pointer (some ⟨pb', 0, none⟩)] ∧ b1 < b2 ∧ ∃ pb1 rb1 R1 W1 lo1 hi1, h1.size ≤ lo1 ∧ hi1 ≤ h'.size ∧ (b2 < lo1 ∨ hi1 ≤ b2) ∧ Rw h' b2 [.pointer (some ⟨pb1, 0, none⟩)] ∧ PTab h' lo1 hi1 pb1 rb1 (max n m) R1 W1 fun _ _ => false) ?_ ?_
  · simp -dsimp only [go_sem, ↓reduceIte, reduceCtorEq, Nat.reduceEqDiff, Nat.reduceAdd, Nat.reduceLeDiff, Nat.reduceMul, Int.reduceBEq, Int.reduceBNe, Int.reduceLT, Int.reduceLE, Int.reduceGT, Int.reduceGE, r_two, r1.cell]
    refine ⟨?_, ?_⟩
    · refine call_of (rel_New _ h1) ?_
      rintro v h2 ⟨f2, t2⟩
      rw [hcl] at t2
      obtain ⟨-, pb1, rb1, R1, W1, rfl, t2⟩ := t2
      have f2_z := f2.size
      replace p0 := p0.fresh f2 (by omega)
      replace r1 := r1.fr f2 (by omega)
      have tp := t.fr p0 (by omega)
      have tq := t'.fr p0 (by omega)
      simp -dsimp only [go_sem, ↓reduceIte, reduceCtorEq, Nat.reduceEqDiff, Nat.reduceAdd, Nat.reduceLeDiff, Nat.reduceMul, Int.reduceBEq, Int.reduceBNe, Int.reduceLT, Int.reduceLE, Int.reduceGT, Int.reduceGE, tp.ptr.cell, tq.ptr.cell, r1.cell]
      intro b3 h3 n3
      have n3_a := n3.at_
      have n3_z := n3.size
      replace p0 := p0.fresh (n3.fr (lo := 0) (hi := 0)) (by omega)
      replace r1 := r1.fr (n3.fr (lo := 0) (hi := 0)) (by omega)
      replace t2 := t2.fr (n3.fr (lo := 0) (hi := 0)) (by omega)
      have r3 := n3.row
      simp -dsimp only [go_sem, ↓reduceIte, reduceCtorEq, Nat.reduceEqDiff, Nat.reduceAdd, Nat.reduceLeDiff, Nat.reduceMul, Int.reduceBEq, Int.reduceBNe, Int.reduceLT, Int.reduceLE, Int.reduceGT, Int.reduceGE, r1.cell, r3.cell]
      refine Chk_intro (r3.wr (by first | (simp; done) | (simp; omega))) fun h4 s4 => ?_
      have s4_z := s4.size
      replace p0 := p0.fresh s4.fr (by omega)
      replace r1 := r1.fr s4.fr (by omega)
      replace t2 := t2.fr s4.fr (by omega)
      replace r3 := s4.row r3
      try simp only [cl_int, cl_bool, cl_slice, cl_ptr, putAt_one, List.set_cons_zero, List.set_cons_succ, ivec_set, brow_upd] at r3
      simp -dsimp only [go_sem, ↓reduceIte, reduceCtorEq, Nat.reduceEqDiff, Nat.reduceAdd, Nat.reduceLeDiff, Nat.reduceMul, Int.reduceBEq, Int.reduceBNe, Int.reduceLT, Int.reduceLE, Int.reduceGT, Int.reduceGE, r1.cell, r3.cell]
      exact ⟨b3, by simp [Le, find], p0, r1, by omega, _, _, _, _, _, _, Nat.le_refl _, by omega, .inr (by omega), r3, t2⟩
    · intro b3 h3 n3
      have n3_a := n3.at_
      have n3_z := n3.size
      replace p0 := p0.fresh (n3.fr (lo := 0) (hi := 0)) (by omega)
      replace r1 := r1.fr (n3.fr (lo := 0) (hi := 0)) (by omega)
      have r3 := n3.row
      simp -dsimp only [go_sem, ↓reduceIte, reduceCtorEq, Nat.reduceEqDiff, Nat.reduceAdd, Nat.reduceLeDiff, Nat.reduceMul, Int.reduceBEq, Int.reduceBNe, Int.reduceLT, Int.reduceLE, Int.reduceGT, Int.reduceGE, r1.cell, r3.cell]
      refine call_of (rel_New _ h3) ?_
      rintro v h2 ⟨f2, t2⟩
      rw [hcl] at t2
      obtain ⟨-, pb1, rb1, R1, W1, rfl, t2⟩ := t2
      have f2_z := f2.size
      replace p0 := p0.fresh f2 (by omega)
      replace r1 := r1.fr f2 (by omega)
      replace r3 := r3.fr f2 (by omega)
      have tp := t.fr p0 (by omega)
      have tq := t'.fr p0 (by omega)
      simp -dsimp only [go_sem, ↓reduceIte, reduceCtorEq, Nat.reduceEqDiff, Nat.reduceAdd, Nat.reduceLeDiff, Nat.reduceMul, Int.reduceBEq, Int.reduceBNe, Int.reduceLT, Int.reduceLE, Int.reduceGT, Int.reduceGE, tp.ptr.cell, tq.ptr.cell, r1.cell, r3.cell]
      refine Chk_intro (r3.wr (by first | (simp; done) | (simp; omega))) fun h4 s4 => ?_
      have s4_z := s4.size
      replace p0 := p0.fresh s4.fr (by omega)
      replace r1 := r1.fr s4.fr (by omega)
      replace t2 := t2.fr s4.fr (by omega)
      replace r3 := s4.row r3
      try simp only [cl_int, cl_bool, cl_slice, cl_ptr, putAt_one, List.set_cons_zero, List.set_cons_succ, ivec_set, brow_upd] at r3
      simp -dsimp only [go_sem, ↓reduceIte, reduceCtorEq, Nat.reduceEqDiff, Nat.reduceAdd, Nat.reduceLeDiff, Nat.reduceMul, Int.reduceBEq, Int.reduceBNe, Int.reduceLT, Int.reduceLE, Int.reduceGT, Int.reduceGE, r1.cell, r3.cell]
      exact ⟨b3, by simp [Le, find], p0, r1, by omega, _, _, _, _, h3.size, h2.size, by omega, by omega, .inl (by omega), r3, t2⟩
  rintro b2 h2 ⟨p0, r1, hb12, pb1, rb1, R1, W1, lo1, hi1, hlo, hhi, hb2, r2, t2⟩ e ⟨e0, e3, e4, e5, -⟩
  have p0_z := p0.size
  have r1_l := r1.lt
  have r2_l := r2.lt
  have at2 := t2.at_
  have tp := t.fr p0 (by omega)
  simp -dsimp only [go_sem, ↓reduceIte, reduceCtorEq, Nat.reduceEqDiff, Nat.reduceAdd, Nat.reduceLeDiff, Nat.reduceMul, Int.reduceBEq, Int.reduceBNe, Int.reduceLT, Int.reduceLE, Int.reduceGT, Int.reduceGE, e0, e3, e4, e5, tp.ptr.cell, r1.cell, r2.cell]
  refine loop_intro (fun a : Nat => [(3, .pointer (some ⟨b1, 0, none⟩)), (5, .pointer (some ⟨b2, 0, none⟩)), (22, .slice (some ⟨rb, 0, none⟩) n n), (23, .int .i64 n), (24, .int .i64 a)])
    (fun a h' => a ≤ n ∧ Fr 0 0 h h' ∧ h2.size ≤ h'.size ∧ Rw h' b1 [.pointer (some ⟨pb', 0, none⟩)] ∧ Rw h' b2 [.pointer (some ⟨pb1, 0, none⟩)] ∧ ∃ W, PTab h' lo1 hi1 pb1 rb1 (max n m) R1 W fun i j => decide (i < a) && compM n M m N i j) (fun a => n - a) 0 ?_ ?_ ?_
  · simp [Le, find]
  · exact ⟨by omega, p0, by omega, r1, r2, _, t2.congr fun i j _ _ => by simp⟩
  rintro a h4 ⟨ha, p0, y4, r1, r2, W4, t4⟩
  have p0_z := p0.size
  have r1_l := r1.lt
  have r2_l := r2.lt
  simp -dsimp only [go_sem, ↓reduceIte, reduceCtorEq, Nat.reduceEqDiff, Nat.reduceAdd, Nat.reduceLeDiff, Nat.reduceMul, Int.reduceBEq, Int.reduceBNe, Int.reduceLT, Int.reduceLE, Int.reduceGT, Int.reduceGE, r1.cell, r2.cell]
  refine ⟨fun hlt => ?_, fun hge => ?_⟩
  · have hlt : a < n := by omega
    simp -dsimp only [go_sem, ↓reduceIte, reduceCtorEq, Nat.reduceEqDiff, Nat.reduceAdd, Nat.reduceLeDiff, Nat.reduceMul, Int.reduceBEq, Int.reduceBNe, Int.reduceLT, Int.reduceLE, Int.reduceGT, Int.reduceGE, r1.cell, r2.cell]
    refine Chk_intro (by omega) ?_
    simp -dsimp only [go_sem, ↓reduceIte, reduceCtorEq, Nat.reduceEqDiff, Nat.reduceAdd, Nat.reduceLeDiff, Nat.reduceMul, Int.reduceBEq, Int.reduceBNe, Int.reduceLT, Int.reduceLE, Int.reduceGT, Int.reduceGE, (t.fr p0 (by omega)).rowsGet hlt, r1.cell, r2.cell]
    intro b5 h5 n5
    have n5_a := n5.at_
    have n5_z := n5.size
    replace p0 := p0.fresh (n5.fr (lo := 0) (hi := 0)) (by omega)
    replace r1 := r1.fr (n5.fr (lo := 0) (hi := 0)) (by omega)
    replace r2 := r2.fr (n5.fr (lo := 0) (hi := 0)) (by omega)
    replace t4 := t4.fr (n5.fr (lo := 0) (hi := 0)) (by omega)
    have r5 := n5.row
    simp -dsimp only [go_sem, ↓reduceIte, reduceCtorEq, Nat.reduceEqDiff, Nat.reduceAdd, Nat.reduceLeDiff, Nat.reduceMul, Int.reduceBEq, Int.reduceBNe, Int.reduceLT, Int.reduceLE, Int.reduceGT, Int.reduceGE, r1.cell, r2.cell, r5.cell]
    refine Chk_intro (r5.wr (by first | (simp; done) | (simp; omega))) fun h6 s6 => ?_
    have s6_z := s6.size
    replace p0 := p0.fresh s6.fr (by omega)
    replace r1 := r1.fr s6.fr (by omega)
    replace r2 := r2.fr s6.fr (by omega)
    replace t4 := t4.fr s6.fr (by omega)
    replace r5 := s6.row r5
    try simp only [cl_int, cl_bool, cl_slice, cl_ptr, putAt_one, List.set_cons_zero, List.set_cons_succ, ivec_set, brow_upd] at r5
    simp -dsimp only [go_sem, ↓reduceIte, reduceCtorEq, Nat.reduceEqDiff, Nat.reduceAdd, Nat.reduceLeDiff, Nat.reduceMul, Int.reduceBEq, Int.reduceBNe, Int.reduceLT, Int.reduceLE, Int.reduceGT, Int.reduceGE, r1.cell, r2.cell, r5.cell]
    refine call_of (rel_points _ _ _ h6) ?_
    rintro v h7 ⟨f7, rfl, c7, z7⟩
    have f7_z := f7.size
    replace p0 := p0.fresh f7 (by omega)
    replace r1 := r1.fr f7 (by omega)
    replace r2 := r2.fr f7 (by omega)
    replace t4 := t4.fr f7 (by omega)
    replace r5 := r5.fr f7 (by omega)
    simp -dsimp only [go_sem, ↓reduceIte, reduceCtorEq, Nat.reduceEqDiff, Nat.reduceAdd, Nat.reduceLeDiff, Nat.reduceMul, Int.reduceBEq, Int.reduceBNe, Int.reduceLT, Int.reduceLE, Int.reduceGT, Int.reduceGE, r1.cell, r2.cell, r5.cell]
    have hbits := (t.row a hlt).2.2.2.2.2
    refine ⟨rfl, points_intro rfl hbits hn ⟨c7, ptab_rd (t.fr p0 (by omega)) hlt, ht.fr p0 (by omega)⟩
      (fun d h' => Fr 0 0 h h' ∧ h7.size ≤ h'.size ∧ Rw h' b1 [.pointer (some ⟨pb', 0, none⟩)] ∧ Rw h' b2 [.pointer (some ⟨pb1, 0, none⟩)] ∧ Rw h' b5 [.int .i64 a] ∧ hcell h' h6.size 0 = some (.slice (some ⟨R a, 0, none⟩) (nw n) (nw n)) ∧
        ∃ W, PTab h' lo1 hi1 pb1 rb1 (max n m) R1 W fun i j => (decide (i < a) && compM n M m N i j) || (i == a && ((rest (M a) n 0).take d).any fun q => inN m N q j))
      (fun _ _ => False) ?_ ?_ ?_ ?_ ?_ ?_ ?_⟩
    · rintro d h' ⟨q0, -, -, -, -, q1, -⟩
      exact ⟨q1, ptab_rd (t.fr q0 (by omega)) hlt, ht.fr q0 (by omega)⟩
    · rintro d h8 h9 x ⟨q0, q1, q2, q3, q3', q4, W', q5⟩
      exact ⟨q0.ext x (by omega), Nat.le_trans q1 x.size, q2.ext x, q3.ext x, q3'.ext x, x.cell q4, W', q5.ext x⟩
    · exact fun _ _ _ _ h => h
    · exact ⟨p0, Nat.le_refl _, r1, r2, r5, c7, _, t4.congr fun i j _ _ => by simp⟩
    · rintro d q h8 z8 hq hqn hqf ⟨p0, y8, r1, r2, r5, c8, W8, t8⟩
      have p0_z := p0.size
      have r1_l := r1.lt
      have r2_l := r2.lt
      have r5_l := r5.lt
      simp -dsimp only [go_sem, ↓reduceIte, reduceCtorEq, Nat.reduceEqDiff, Nat.reduceAdd, Nat.reduceLeDiff, Nat.reduceMul, Int.reduceBEq, Int.reduceBNe, Int.reduceLT, Int.reduceLE, Int.reduceGT, Int.reduceGE, r1.cell, r2.cell, r5.cell]
      intro h9 x9
      have x9_z := x9.size
      replace p0 := p0.ext x9 (by omega)
      replace r1 := r1.ext x9
      replace r2 := r2.ext x9
      replace r5 := r5.ext x9
      replace t8 := t8.ext x9
      have c8 := x9.cell c8
      have tq := t'.fr p0 (by omega)
      simp -dsimp only [go_sem, ↓reduceIte, reduceCtorEq, Nat.reduceEqDiff, Nat.reduceAdd, Nat.reduceLeDiff, Nat.reduceMul, Int.reduceBEq, Int.reduceBNe, Int.reduceLT, Int.reduceLE, Int.reduceGT, Int.reduceGE, tq.ptr.cell, r1.cell, r2.cell, r5.cell]
      refine ⟨fun hqm => ?_, fun hqm => ?_⟩
      · have hqm : q < m := by omega
        obtain ⟨g1, g2, g3, g4, g5, g6⟩ := t8.row a (by omega)
        simp -dsimp only [go_sem, ↓reduceIte, reduceCtorEq, Nat.reduceEqDiff, Nat.reduceAdd, Nat.reduceLeDiff, Nat.reduceMul, Int.reduceBEq, Int.reduceBNe, Int.reduceLT, Int.reduceLE, Int.reduceGT, Int.reduceGE, tq.ptr.cell, t8.ptr.cell, r1.cell, r2.cell, r5.cell]
        refine Chk_intro (by omega) ?_
        simp -dsimp only [go_sem, ↓reduceIte, reduceCtorEq, Nat.reduceEqDiff, Nat.reduceAdd, Nat.reduceLeDiff, Nat.reduceMul, Int.reduceBEq, Int.reduceBNe, Int.reduceLT, Int.reduceLE, Int.reduceGT, Int.reduceGE, t8.rowsGet (show a < max n m by omega), tq.ptr.cell, r1.cell, r2.cell, r5.cell]
        refine Chk_intro (by omega) ?_
        simp -dsimp only [go_sem, ↓reduceIte, reduceCtorEq, Nat.reduceEqDiff, Nat.reduceAdd, Nat.reduceLeDiff, Nat.reduceMul, Int.reduceBEq, Int.reduceBNe, Int.reduceLT, Int.reduceLE, Int.reduceGT, Int.reduceGE, tq.rowsGet hqm, r1.cell, r2.cell, r5.cell]
        intro b10 h10 n10
        have n10_a := n10.at_
        have n10_z := n10.size
        replace p0 := p0.fresh (n10.fr (lo := 0) (hi := 0)) (by omega)
        replace r1 := r1.fr (n10.fr (lo := 0) (hi := 0)) (by omega)
        replace r2 := r2.fr (n10.fr (lo := 0) (hi := 0)) (by omega)
        replace r5 := r5.fr (n10.fr (lo := 0) (hi := 0)) (by omega)
        replace t8 := t8.fr (n10.fr (lo := 0) (hi := 0)) (by omega)
        have r10 := n10.row
        obtain ⟨g1, g2, g3, g4, g5, g6⟩ := t8.row a (by omega)
        have tq := t'.fr p0 (by omega)
        obtain ⟨f1, f2, f3, f4, f5, f6⟩ := tq.row q hqm
        simp -dsimp only [go_sem, ↓reduceIte, reduceCtorEq, Nat.reduceEqDiff, Nat.reduceAdd, Nat.reduceLeDiff, Nat.reduceMul, Int.reduceBEq, Int.reduceBNe, Int.reduceLT, Int.reduceLE, Int.reduceGT, Int.reduceGE, tq.ptr.cell, t8.ptr.cell, t8.rowsGet (show a < max n m by omega), tq.rowsGet hqm, r1.cell, r2.cell, r5.cell, r10.cell]
        refine call_of (row_join g1 f1 (r10.rd rfl) (fun j => (g6 j).1) (fun j => (f6 j).1) (by unfold nw; omega) (by unfold nw; omega)) ?_
        rintro _ h11 ⟨f11, z11, r11⟩
        have t11 := t8.updRow (by omega) f11 r11 (g6.or f6 (by omega))
        have c10 := (n10.fr (lo := 0) (hi := 0)).keep c8 (by omega)
        have f11_z := f11.size
        replace p0 := p0.fresh f11 (by omega)
        replace r1 := r1.fr f11 (by omega)
        replace r2 := r2.fr f11 (by omega)
        replace r5 := r5.fr f11 (by omega)
        have tq := t'.fr p0 (by omega)
        simp -dsimp only [go_sem, ↓reduceIte, reduceCtorEq, Nat.reduceEqDiff, Nat.reduceAdd, Nat.reduceLeDiff, Nat.reduceMul, Int.reduceBEq, Int.reduceBNe, Int.reduceLT, Int.reduceLE, Int.reduceGT, Int.reduceGE, t11.ptr.cell, t11.rowsGet (show a < max n m by omega), tq.ptr.cell, tq.rowsGet hqm, r1.cell, r2.cell, r5.cell]
        refine ⟨p0, by omega, r1, r2, r5, f11.keep c10 (by omega), _, t11.congr fun i j hi hj => ?_⟩
        rw [List.take_add_one, hq, Option.toList_some, List.any_append]
        by_cases hia : i = a
        · subst hia
          rw [upd_same]
          simp [inN, hqm]
        · rw [upd_ne _ _ hia]
          have e : (i == a) = false := by simpa using hia
          simp [e]
      · simp -dsimp only [go_sem, ↓reduceIte, reduceCtorEq, Nat.reduceEqDiff, Nat.reduceAdd, Nat.reduceLeDiff, Nat.reduceMul, Int.reduceBEq, Int.reduceBNe, Int.reduceLT, Int.reduceLE, Int.reduceGT, Int.reduceGE, r1.cell, r2.cell, r5.cell]
        refine ⟨p0, by omega, r1, r2, r5, c8, _, t8.congr fun i j hi hj => ?_⟩
        rw [List.take_add_one, hq, Option.toList_some, List.any_append]
        have : inN m N q j = false := inN_out (by omega)
        simp [this]
    · rintro h8 z8 ⟨p0, y8, r1, r2, r5, c8, W8, t8⟩
      simp -dsimp only [go_sem, ↓reduceIte, reduceCtorEq, Nat.reduceEqDiff, Nat.reduceAdd, Nat.reduceLeDiff, Nat.reduceMul, Int.reduceBEq, Int.reduceBNe, Int.reduceLT, Int.reduceLE, Int.reduceGT, Int.reduceGE, r1.cell, r2.cell, r5.cell]
      simp -dsimp (disch := omega) only [wrap64]
      refine ⟨a + 1, by omega, by simp [Le, find], by omega, p0, by omega, r1, r2, _, t8.congr fun i j hi hj => ?_⟩
      rw [List.take_length]
      by_cases hia : i = a
      · subst hia
        have : (rest (M i) n 0).any (fun q => inN m N q j) = compM n M m N i j := by
          rw [Bool.eq_iff_iff, compM_true, List.any_eq_true]
          constructor
          · rintro ⟨k, hk, h1⟩
            have := mem_rest.1 hk
            exact ⟨k, inN_true.2 ⟨hlt, this.2.1, this.2.2⟩, h1⟩
          · rintro ⟨k, h1, h2⟩
            have := inN_true.1 h1
            exact ⟨k, mem_rest.2 ⟨by omega, this.2.1, this.2.2⟩, h2⟩
        simp [this]
      · have e : (i == a) = false := by simpa using hia
        have : (i < a + 1) = (i < a) := by simp; omega
        simp [this, e]
    · exact fun _ _ _ h => h.elim
  · have : a = n := by omega
    subst this
    simp -dsimp only [go_sem, ↓reduceIte, reduceCtorEq, Nat.reduceEqDiff, Nat.reduceAdd, Nat.reduceLeDiff, Nat.reduceMul, Int.reduceBEq, Int.reduceBNe, Int.reduceLT, Int.reduceLE, Int.reduceGT, Int.reduceGE, r1.cell, r2.cell]
    refine ⟨p0, by omega, _, _, _, _, rfl, ((t4.mono' (hi' := h4.size) (by omega)).lower (by omega)).congr fun i j hi hj => ?_⟩
    by_cases hia : i < a
    · simp [hia]
    · have : compM a M m N i j = false := by
        rw [Bool.eq_false_iff]; intro h'
        obtain ⟨k, h1, _⟩ := compM_true.1 h'
        exact hia (inN_true.1 h1).1
      simp [this]
end Go.Proofs.Tst
namespace Go.Proofs.Tst
open Go Go.Vc
theorem slices_Values {a : Option Addr} {n c : Nat} {h : Heap} : Con Tryd.prog 107 #[.slice a n c] h fun v h' => Fr 0 0 h h' ∧ v = .func (.func 111) #[] #[.pointer (some ⟨h.size, 0, none⟩)] ∧ Rw h' h.size [.slice a n c] ∧ h'.size = h.size + 1 := by
  refine con_slices_Values ?_
  simp -dsimp only [go_sem, ↓reduceIte, reduceCtorEq, Nat.reduceEqDiff, Nat.reduceAdd, Nat.reduceLeDiff, Nat.reduceMul, Int.reduceBEq, Int.reduceBNe, Int.reduceLT, Int.reduceLE, Int.reduceGT, Int.reduceGE]
  intro b h1 n1
  have r1 := n1.row
  have a1 := n1.at_
  subst a1
  simp -dsimp only [go_sem, ↓reduceIte, reduceCtorEq, Nat.reduceEqDiff, Nat.reduceAdd, Nat.reduceLeDiff, Nat.reduceMul, Int.reduceBEq, Int.reduceBNe, Int.reduceLT, Int.reduceLE, Int.reduceGT, Int.reduceGE]
  exact ⟨n1.fr, r1, n1.size⟩
theorem values_1 {b : Nat} {sv : Value} {l : List Nat} (hl : l.length ≤ 65536) :
    Iter Tryd.prog 111 #[.pointer (some ⟨b, 0, none⟩)] (l.map fun (p : Nat) => [Value.int .i64 (p : Int)]) (fun h => Rw h b [sv] ∧ Rd 1 h sv l.length (natsV l)) := by
  refine ⟨by unfold goodF; rw [Tryd.func111]; rfl, fun lo I X hy h hI hC => ?_⟩
  show ConX (some lo) Tryd.prog 111 #[.func (.yield lo) #[] #[], .pointer (some ⟨b, 0, none⟩)] h _
  refine con_slices_Values_1 ?_
  obtain ⟨sa, sc, rfl⟩ := hC.2.is
  simp -dsimp only [go_sem, ↓reduceIte, reduceCtorEq, Nat.reduceEqDiff, Nat.reduceAdd, Nat.reduceLeDiff, Nat.reduceMul, Int.reduceBEq, Int.reduceBNe, Int.reduceLT, Int.reduceLE, Int.reduceGT, Int.reduceGE, hC.1.cell]
  refine loop_intro (fun i : Nat => [(0, .func (.yield lo) #[] #[]), (5, .slice sa l.length sc), (6, .int .i64 l.length), (7, .int .i64 i)])
    (fun i h' => i ≤ l.length ∧ (Rw h' b [.slice sa l.length sc] ∧ Rd 1 h' (.slice sa l.length sc) l.length (natsV l)) ∧ I i h') (fun i => l.length - i) 0 ?_ ?_ ?_
  · simp [Le, find]
  · exact ⟨by omega, hC, hI⟩
  rintro i h1 ⟨hi, hC1, hI1⟩
  simp -dsimp only [go_sem, ↓reduceIte, reduceCtorEq, Nat.reduceEqDiff, Nat.reduceAdd, Nat.reduceLeDiff, Nat.reduceMul, Int.reduceBEq, Int.reduceBNe, Int.reduceLT, Int.reduceLE, Int.reduceGT, Int.reduceGE]
  refine ⟨fun hlt => ?_, fun hge => ?_⟩
  · have hlt : i < l.length := by omega
    have hq : l[i]? = some l[i] := by simp [hlt]
    generalize l[i] = q at hq
    simp -dsimp only [go_sem, ↓reduceIte, reduceCtorEq, Nat.reduceEqDiff, Nat.reduceAdd, Nat.reduceLeDiff, Nat.reduceMul, Int.reduceBEq, Int.reduceBNe, Int.reduceLT, Int.reduceLE, Int.reduceGT, Int.reduceGE]
    refine Chk_intro (by omega) (hC1.2.idx (by omega) fun b2 o2 c2 => ?_)
    simp -dsimp only [go_sem, ↓reduceIte, reduceCtorEq, Nat.reduceEqDiff, Nat.reduceAdd, Nat.reduceLeDiff, Nat.reduceMul, Int.reduceBEq, Int.reduceBNe, Int.reduceLT, Int.reduceLE, Int.reduceGT, Int.reduceGE, c2 i _ (natsV_get hq)]
    have hdx : (l.map fun (p : Nat) => [Value.int .i64 (p : Int)])[i]? = some [.int .i64 (q : Int)] := by rw [List.getElem?_map, hq]; rfl
    refine yld_of (hy i _ _ hdx hI1 hC1) ?_
    rintro v h4 (⟨rfl, hI4, hC4⟩ | ⟨rfl, hX4⟩)
    · simp -dsimp only [go_sem, ↓reduceIte, reduceCtorEq, Nat.reduceEqDiff, Nat.reduceAdd, Nat.reduceLeDiff, Nat.reduceMul, Int.reduceBEq, Int.reduceBNe, Int.reduceLT, Int.reduceLE, Int.reduceGT, Int.reduceGE]
      simp -dsimp (disch := omega) only [wrap64]
      exact ⟨i + 1, by omega, by simp [Le, find], by omega, hC4, hI4⟩
    · simp -dsimp only [go_sem, ↓reduceIte, reduceCtorEq, Nat.reduceEqDiff, Nat.reduceAdd, Nat.reduceLeDiff, Nat.reduceMul, Int.reduceBEq, Int.reduceBNe, Int.reduceLT, Int.reduceLE, Int.reduceGT, Int.reduceGE]
      exact .inr hX4
  · have : i = l.length := by omega
    subst this
    simp -dsimp only [go_sem, ↓reduceIte, reduceCtorEq, Nat.reduceEqDiff, Nat.reduceAdd, Nat.reduceLeDiff, Nat.reduceMul, Int.reduceBEq, Int.reduceBNe, Int.reduceLT, Int.reduceLE, Int.reduceGT, Int.reduceGE]
    refine .inl ⟨?_, hC1⟩
    rw [List.length_map]
    exact hI1
theorem slices_AppendSeq {gf : FuncId} {lb : Array Value} {l : List Nat} {C : Heap → Prop} {h : Heap} (hit : Iter Tryd.prog gf lb (l.map fun (p : Nat) => [Value.int .i64 (p : Int)]) C)
    (cext : ∀ B h1 h2, h.size ≤ B → Ext B h1 h2 → C h1 → C h2) (cfr : ∀ h', Fr 0 0 h h' → C h') (hl : l.length ≤ 65536) :
    Con Tryd.prog 112 #[.slice none 0 0, .func (.func gf) #[] lb] h fun v h' => Fr 0 0 h h' ∧ Holder 1 h' v l.length (natsV l) h.size := by
  refine con_slices_AppendSeq (fun v h1 h2 x ⟨f, o⟩ => ⟨x.fr f (Nat.le_refl _), o.ext x⟩) ?_
  have p0 : Fr 0 0 h h := .refl _ _ _
  simp -dsimp only [go_sem, ↓reduceIte, reduceCtorEq, Nat.reduceEqDiff, Nat.reduceAdd, Nat.reduceLeDiff, Nat.reduceMul, Int.reduceBEq, Int.reduceBNe, Int.reduceLT, Int.reduceLE, Int.reduceGT, Int.reduceGE]
  intro b1 h1 n1
  have n1_a := n1.at_
  have n1_z := n1.size
  replace p0 := p0.fresh (n1.fr (lo := 0) (hi := 0)) (by omega)
  have r1 := n1.row
  simp -dsimp only [go_sem, ↓reduceIte, reduceCtorEq, Nat.reduceEqDiff, Nat.reduceAdd, Nat.reduceLeDiff, Nat.reduceMul, Int.reduceBEq, Int.reduceBNe, Int.reduceLT, Int.reduceLE, Int.reduceGT, Int.reduceGE, r1.cell]
  refine ⟨rfl, iter_intro hit (fun h2 h3 x => cext _ _ _ (by omega) x) (cfr _ p0)
    (fun d h' => Fr 0 0 h h' ∧ h1.size ≤ h'.size ∧ ∃ sv, Rw h' b1 [sv] ∧ Holder 1 h' sv d (natsV (l.take d)) h1.size) (fun _ _ => False) ?_ ?_ ?_ ?_ ?_ ?_ ?_⟩
  · rintro d h' ⟨q0, -⟩; exact cfr _ q0
  · rintro d h2 h3 x ⟨q0, q1, sv, q2, q3⟩; exact ⟨q0.ext x (by omega), Nat.le_trans q1 x.size, sv, q2.ext x, q3.ext x⟩
  · exact fun _ _ _ _ h => h
  · exact ⟨p0, by omega, _, r1, .none _ _ _⟩
  · rintro d q h2 z2 hq ⟨p0, y2, sv, r1, o2⟩
    have hd := (List.getElem?_eq_some_iff.1 hq).1
    have p0_z := p0.size
    have r1_l := r1.lt
    have o2_l := o2.top
    simp -dsimp only [go_sem, ↓reduceIte, reduceCtorEq, Nat.reduceEqDiff, Nat.reduceAdd, Nat.reduceLeDiff, Nat.reduceMul, Int.reduceBEq, Int.reduceBNe, Int.reduceLT, Int.reduceLE, Int.reduceGT, Int.reduceGE, r1.cell]
    intro h3 x3
    have x3_z := x3.size
    replace p0 := p0.ext x3 (by omega)
    replace r1 := r1.ext x3
    replace o2 := o2.ext x3
    obtain ⟨va, vc, rfl⟩ := o2.is
    simp -dsimp only [go_sem, ↓reduceIte, reduceCtorEq, Nat.reduceEqDiff, Nat.reduceAdd, Nat.reduceLeDiff, Nat.reduceMul, Int.reduceBEq, Int.reduceBNe, Int.reduceLT, Int.reduceLE, Int.reduceGT, Int.reduceGE, r1.cell]
    intro b4 h4 n4
    have n4_a := n4.at_
    have n4_z := n4.size
    replace p0 := p0.fresh (n4.fr (lo := 0) (hi := 0)) (by omega)
    replace r1 := r1.fr (n4.fr (lo := 0) (hi := 0)) (by omega)
    replace o2 := o2.fr (n4.fr (lo := 0) (hi := 0)) (by have := o2.at_; omega)
    simp -dsimp only [go_sem, ↓reduceIte, reduceCtorEq, Nat.reduceEqDiff, Nat.reduceAdd, Nat.reduceLeDiff, Nat.reduceMul, Int.reduceBEq, Int.reduceBNe, Int.reduceLT, Int.reduceLE, Int.reduceGT, Int.reduceGE, n4.row.cell, r1.cell]
    refine o2.append (by omega) rfl (by omega) (by simp) (by omega) fun v5 h5 o_new f5 e_app => ?_
    have f5_z := f5.size
    have o_at := o2.at_
    replace p0 := p0.fresh f5 (by omega)
    replace r1 := r1.fr f5 (by omega)
    clear o_at e_app
    replace o2 := o_new
    have o2_l := o2.top
    obtain ⟨ua, uc, rfl⟩ := o2.is
    simp -dsimp only [go_sem, ↓reduceIte, reduceCtorEq, Nat.reduceEqDiff, Nat.reduceAdd, Nat.reduceLeDiff, Nat.reduceMul, Int.reduceBEq, Int.reduceBNe, Int.reduceLT, Int.reduceLE, Int.reduceGT, Int.reduceGE, r1.cell]
    refine Chk_intro (r1.wr (by simp)) fun h6 s6 => ?_
    have s6_z := s6.size
    have r6 := s6.row r1
    have o6 := o2.fr s6.fr (by have := o2.at_; omega)
    have q6 := p0.fresh s6.fr (by omega)
    simp -dsimp only [go_sem, ↓reduceIte, reduceCtorEq, Nat.reduceEqDiff, Nat.reduceAdd, Nat.reduceLeDiff, Nat.reduceMul, Int.reduceBEq, Int.reduceBNe, Int.reduceLT, Int.reduceLE, Int.reduceGT, Int.reduceGE] at r6
    simp -dsimp only [go_sem, ↓reduceIte, reduceCtorEq, Nat.reduceEqDiff, Nat.reduceAdd, Nat.reduceLeDiff, Nat.reduceMul, Int.reduceBEq, Int.reduceBNe, Int.reduceLT, Int.reduceLE, Int.reduceGT, Int.reduceGE, r1.cell]
    refine ⟨q6, by omega, _, r6, ?_⟩
    rw [List.take_add_one, hq, Option.toList_some, natsV_append]
    exact o6
  · rintro h2 z2 ⟨p0, y2, sv, r1, o2⟩
    rw [List.take_length] at o2
    have p0_z := p0.size
    have r1_l := r1.lt
    have o2_l := o2.top
    simp -dsimp only [go_sem, ↓reduceIte, reduceCtorEq, Nat.reduceEqDiff, Nat.reduceAdd, Nat.reduceLeDiff, Nat.reduceMul, Int.reduceBEq, Int.reduceBNe, Int.reduceLT, Int.reduceLE, Int.reduceGT, Int.reduceGE, r1.cell]
    exact ⟨p0, o2.lower (by omega)⟩
  · exact fun _ _ _ h => h.elim
theorem slices_Collect {gf : FuncId} {lb : Array Value} {l : List Nat} {C : Heap → Prop} {h : Heap} (hit : Iter Tryd.prog gf lb (l.map fun (p : Nat) => [Value.int .i64 (p : Int)]) C)
    (cext : ∀ B h1 h2, h.size ≤ B → Ext B h1 h2 → C h1 → C h2) (cfr : ∀ h', Fr 0 0 h h' → C h') (hl : l.length ≤ 65536) :
    Con Tryd.prog 108 #[.func (.func gf) #[] lb] h fun v h' => Fr 0 0 h h' ∧ Holder 1 h' v l.length (natsV l) h.size := by
  refine con_slices_Collect ?_
  simp -dsimp only [go_sem, ↓reduceIte, reduceCtorEq, Nat.reduceEqDiff, Nat.reduceAdd, Nat.reduceLeDiff, Nat.reduceMul, Int.reduceBEq, Int.reduceBNe, Int.reduceLT, Int.reduceLE, Int.reduceGT, Int.reduceGE]
  refine call_of (slices_AppendSeq hit cext cfr hl) ?_
  rintro v h1 ⟨p1, o1⟩
  simp -dsimp only [go_sem, ↓reduceIte, reduceCtorEq, Nat.reduceEqDiff, Nat.reduceAdd, Nat.reduceLeDiff, Nat.reduceMul, Int.reduceBEq, Int.reduceBNe, Int.reduceLT, Int.reduceLE, Int.reduceGT, Int.reduceGE]
  exact ⟨p1, o1⟩
end Go.Proofs.Tst
