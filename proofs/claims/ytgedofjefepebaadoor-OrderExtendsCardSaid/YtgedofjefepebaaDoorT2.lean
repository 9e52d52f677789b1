/-
  Contracts of functions that the law reaches: what each returns and what it leaves in memory. Conditions stand in each.
-/
import Derived.Test.YtgedofjefepebaaDoorT1
set_option linter.all false
set_option maxRecDepth 2000
/-
  How far it is to a point; a least cycle.
-/
namespace Go.Vc
def lay (n : Nat) (M : Nat → Nat → Bool) (p : Nat) (F : Nat → Nat) (k i : Nat) : Bool := if k = 0 then M i p else (List.range n).any fun j => M i j && F j == k
/-- How many steps it takes to come to p, k at the most; 0: not known. -/
def farK (n : Nat) (M : Nat → Nat → Bool) (p : Nat) : Nat → Nat → Nat
  | 0, _ => 0
  | k + 1, i => if farK n M p k i ≠ 0 then farK n M p k i else if lay n M p (farK n M p k) k i = true then k + 1 else 0
def farS (n : Nat) (M : Nat → Nat → Bool) (p : Nat) : Nat → Nat := farK n M p n
section
variable {n : Nat} {M : Nat → Nat → Bool} {p : Nat}
theorem lay_zero {F : Nat → Nat} {i : Nat} : lay n M p F 0 i = M i p := by simp [lay]
theorem lay_succ {F : Nat → Nat} {k i : Nat} : lay n M p F (k + 1) i = true ↔ ∃ j, j < n ∧ M i j = true ∧ F j = k + 1 := by
  simp [lay, List.any_eq_true]
theorem farK_le : ∀ k i, farK n M p k i ≤ k
  | 0, _ => Nat.le_refl _
  | k + 1, i => by
    have := farK_le k i
    simp only [farK]
    split
    · omega
    · split <;> omega
theorem farK_keep {k i : Nat} (h : farK n M p k i ≠ 0) : farK n M p (k + 1) i = farK n M p k i := by simp only [farK]; rw [if_pos h]
theorem farK_new {k i : Nat} (h : farK n M p k i = 0) : farK n M p (k + 1) i = if lay n M p (farK n M p k) k i = true then k + 1 else 0 := by
  simp only [farK]; rw [if_neg (by omega)]
theorem farK_step : ∀ {k i m : Nat}, farK n M p k i = m + 1 → (m = 0 → M i p = true) ∧ (0 < m → ∃ j, j < n ∧ M i j = true ∧ farK n M p k j = m)
  | 0, i, m, h => by simp [farK] at h
  | k + 1, i, m, h => by
    by_cases h0 : farK n M p k i = 0
    · rw [farK_new h0] at h
      split at h
      · rename_i hl
        have hkm : k = m := by omega
        subst hkm
        cases k with
        | zero => exact ⟨fun _ => by rwa [lay_zero] at hl, fun h => by omega⟩
        | succ k =>
          refine ⟨fun h => by omega, fun _ => ?_⟩
          obtain ⟨j, hj, hm, hf⟩ := lay_succ.1 hl
          exact ⟨j, hj, hm, by rw [farK_keep (by omega), hf]⟩
      · omega
    · rw [farK_keep h0] at h
      obtain ⟨h1, h2⟩ := farK_step h
      refine ⟨h1, fun hm => ?_⟩
      obtain ⟨j, hj, hM, hf⟩ := h2 hm
      exact ⟨j, hj, hM, by rw [farK_keep (by omega), hf]⟩
/-- Where nothing more is found, nothing is found any more. -/
theorem farK_stable {k : Nat} (h : ∀ i, i < n → farK n M p (k + 1) i ≠ k + 1) : ∀ d i, i < n → farK n M p (k + d) i = farK n M p k i
  | 0, _, _ => rfl
  | d + 1, i, hi => by
    have ih := farK_stable h d
    rw [show k + (d + 1) = k + d + 1 by omega]
    by_cases h0 : farK n M p (k + d) i = 0
    · rw [farK_new h0, ← ih i hi, h0, if_neg]
      intro hl
      cases d with
      | zero =>
        have := h i hi
        rw [farK_new h0, if_pos hl] at this
        exact this rfl
      | succ d =>
        rw [show k + (d + 1) = (k + d) + 1 by omega] at hl
        obtain ⟨j, hj, hm, hf⟩ := lay_succ.1 hl
        rw [show k + d + 1 = k + (d + 1) by omega, ih j hj] at hf
        have := farK_le (n := n) (M := M) (p := p) k j
        omega
    · rw [farK_keep h0, ih i hi]
/-- How many are known. -/
def known (n : Nat) (M : Nat → Nat → Bool) (p k : Nat) : Nat := (List.range n).countP fun i => farK n M p k i != 0
theorem known_le (k : Nat) : known n M p k ≤ n := by unfold known; exact Nat.le_trans List.countP_le_length (by simp)
theorem countP_lt {f g : Nat → Bool} : ∀ (m x : Nat), x < m → (∀ i, f i = true → g i = true) → f x = false → g x = true → (List.range m).countP f < (List.range m).countP g
  | 0, x, h, _, _, _ => by omega
  | m + 1, x, h, hfg, h1, h2 => by
    rw [List.range_succ, List.countP_append, List.countP_append, List.countP_singleton, List.countP_singleton]
    have hmono : ∀ k, (List.range k).countP f ≤ (List.range k).countP g := fun k => List.countP_mono_left fun i _ hi => hfg i hi
    by_cases hx : x = m
    · subst hx
      rw [h1, h2]; have := hmono x; simp; omega
    · have := countP_lt m x (by omega) hfg h1 h2
      have h3 : (if f m = true then 1 else 0) ≤ (if g m = true then 1 else 0) := by
        by_cases hf : f m = true
        · rw [if_pos hf, if_pos (hfg m hf)]; exact Nat.le_refl _
        · rw [if_neg hf]; omega
      omega
theorem known_grows {k i : Nat} (hi : i < n) (h : farK n M p (k + 1) i = k + 1) : known n M p k < known n M p (k + 1) := by
  refine countP_lt n i hi (fun j hj => ?_) ?_ ?_
  · have : farK n M p k j ≠ 0 := by simpa using hj
    simpa [farK_keep this] using hj
  · apply Classical.byContradiction; intro h0
    have h0 : farK n M p k i ≠ 0 := by simpa using h0
    rw [farK_keep h0] at h
    have := farK_le (n := n) (M := M) (p := p) k i
    omega
  · simp [h]
theorem layer_prev {k i : Nat} (hi : i < n) (h : farK n M p (k + 2) i = k + 2) : ∃ j, j < n ∧ farK n M p (k + 1) j = k + 1 := by
  obtain ⟨j, hj, hm, hf⟩ := (farK_step h).2 (by omega)
  refine ⟨j, hj, ?_⟩
  by_cases h0 : farK n M p (k + 1) j = 0
  · rw [farK_new h0] at hf; split at hf <;> omega
  · rw [farK_keep h0] at hf; exact hf
theorem known_ge : ∀ {k i : Nat}, i < n → farK n M p (k + 1) i = k + 1 → k + 1 ≤ known n M p (k + 1)
  | 0, i, hi, h => by have := known_grows hi h; omega
  | k + 1, i, hi, h => by
    obtain ⟨j, hj, hf⟩ := layer_prev hi h
    have := known_ge hj hf
    have := known_grows hi h
    omega
theorem farK_all {k : Nat} (h : ∀ i, i < n → farK n M p (k + 1) i ≠ k + 1) {i : Nat} (hi : i < n) : farK n M p k i = farS n M p i := by
  have hn : ∀ i, i < n → farK n M p (n + 1) i ≠ n + 1 := fun i hi h => by
    have := known_ge hi h; have := known_le (n := n) (M := M) (p := p) (n + 1); omega
  unfold farS
  rcases Nat.le_total k n with hk | hk
  · obtain ⟨d, rfl⟩ : ∃ d, n = k + d := ⟨n - k, by omega⟩
    exact (farK_stable h d i hi).symm
  · obtain ⟨d, hd⟩ : ∃ d, k = n + d := ⟨k - n, by omega⟩
    rw [hd]; exact farK_stable hn d i hi
theorem farS_step {i m : Nat} (h : farS n M p i = m + 1) : (m = 0 → M i p = true) ∧ (0 < m → ∃ j, j < n ∧ M i j = true ∧ farS n M p j = m) := farK_step h
theorem farS_le (i : Nat) : farS n M p i ≤ n := farK_le n i
end
/-- The way from a point, so many steps. -/
def cycGo (n : Nat) (M : Nat → Nat → Bool) (F : Nat → Nat) : Nat → Nat → List Nat
  | 0, _ => []
  | k + 1, a => match lf (fun q => M a q && F q == k + 1) n 0 with
    | none => []
    | some q => q :: cycGo n M F k q
def shortS (n : Nat) (M : Nat → Nat → Bool) (p : Nat) : List Nat := p :: cycGo n M (farS n M p) (farS n M p p - 1) p
/-- The least cycle, if there is any. -/
def cycS (n : Nat) (M : Nat → Nat → Bool) : List Nat := match lf (fun p => plusM n M p p) n 0 with
  | none => []
  | some p => shortS n M p
theorem lf_none {f : Nat → Bool} {n q : Nat} (h : lf f n q = none) : ∀ x, q ≤ x → x < n → f x = false := fun x h1 h2 => by
  unfold lf at h
  have := List.find?_eq_none.1 h x (List.mem_range'_1.2 ⟨h1, by omega⟩)
  simpa using this
theorem lf_least {f : Nat → Bool} {n q x : Nat} (h : lf f n q = some x) : ∀ y, q ≤ y → y < x → f y = false := by
  obtain ⟨h1, h2, _⟩ := lf_some h
  intro y hy hyx
  have hr : ∀ d q, n - q = d → lf f n q = some x → ∀ y, q ≤ y → y < x → f y = false := by
    intro d
    induction d with
    | zero => intro q hq h'; rw [lf_end f (by omega)] at h'; cases h'
    | succ d ih =>
      intro q hq h' y hy hyx
      rw [lf_step f (by omega)] at h'
      cases hf : f q with
      | true => rw [if_pos hf] at h'; cases h'; omega
      | false =>
        rw [if_neg (by simp [hf])] at h'
        by_cases hyq : y = q
        · subst hyq; exact hf
        · exact ih (q + 1) (by omega) h' y (by omega) hyx
  exact hr _ q rfl h y hy hyx
theorem lf_is {f : Nat → Bool} {n q x : Nat} (h1 : q ≤ x) (h2 : x < n) (h3 : f x = true) (h4 : ∀ y, q ≤ y → y < x → f y = false) : lf f n q = some x := by
  cases h : lf f n q with
  | none => have := lf_none h x h1 h2; rw [this] at h3; cases h3
  | some y =>
    obtain ⟨g1, g2, g3⟩ := lf_some h
    by_cases hyx : y < x
    · have := h4 y g1 hyx; rw [this] at g3; cases g3
    · by_cases hxy : x < y
      · have := lf_least h x h1 hxy; rw [this] at h3; cases h3
      · congr 1; omega
theorem nodup_lt {n : Nat} {l : List Nat} (hd : l.Nodup) (hl : ∀ x ∈ l, x < n) : l.length ≤ n := by
  have h : ∀ (l m : List Nat), l.Nodup → (∀ x ∈ l, x ∈ m) → l.length ≤ m.length := by
    intro l
    induction l with
    | nil => intro m _ _; simp
    | cons x l ih =>
      intro m hd hs
      have hx := hs x (by simp)
      have hd' := List.nodup_cons.1 hd
      have := ih (m.erase x) hd'.2 fun y hy => (List.mem_erase_of_ne (by rintro rfl; exact hd'.1 hy)).2 (hs y (by simp [hy]))
      rw [List.length_erase_of_mem hx] at this
      have := List.length_pos_of_mem hx
      simp; omega
  have := h l (List.range n) hd fun x hx => List.mem_range.2 (hl x hx)
  simpa using this
theorem rest_before {f : Nat → Bool} {n d s y : Nat} (hs : (rest f n 0)[d]? = some s) (hy : y < s) (hf : f y = true) : y ∈ (rest f n 0).take d := by
  have hsm := mem_rest.1 (List.mem_of_getElem? hs)
  have hm : y ∈ rest f n 0 := mem_rest.2 ⟨by omega, by omega, hf⟩
  have hp : (rest f n 0).Pairwise (· < ·) := by unfold rest; exact List.Pairwise.sublist List.filter_sublist (List.pairwise_lt_range')
  obtain ⟨e, he, hye⟩ := List.getElem_of_mem hm
  obtain ⟨hd, hsd⟩ := List.getElem?_eq_some_iff.1 hs
  have hed : e < d := by
    apply Classical.byContradiction; intro hh
    by_cases h1 : e = d
    · subst h1; omega
    · have := (List.pairwise_iff_getElem.1 hp) d e hd he (by omega)
      omega
  exact List.mem_iff_getElem.2 ⟨e, by simp; omega, by simp [hye]⟩
end Go.Vc
/-
  The closure is the least transitive relation over a relation; ways.
-/
namespace Go.Vc
section
variable {n : Nat} {M : Nat → Nat → Bool}
theorem warM_self (n : Nat) (M : Nat → Nat → Bool) (k j : Nat) : warM n M (k + 1) k j = warM n M k k j := by
  simp only [warM]; cases warM n M k k j <;> simp
theorem warM_mono {k i j : Nat} (h : warM n M k i j = true) : warM n M (k + 1) i j = true := by simp only [warM, h, Bool.true_or]
theorem warM_sub : ∀ (k : Nat) {i j : Nat}, M i j = true → warM n M k i j = true
  | 0, _, _, h => h
  | k + 1, _, _, h => warM_mono (warM_sub k h)
theorem warM_succ {k i j : Nat} : warM n M (k + 1) i j = true ↔ warM n M k i j = true ∨ (warM n M k i k = true ∧ warM n M k k j = true) := by
  simp [warM]
theorem warM_trans : ∀ (k : Nat) {i x j : Nat}, x < k → warM n M k i x = true → warM n M k x j = true → warM n M k i j = true
  | 0, _, _, _, h, _, _ => by omega
  | k + 1, i, x, j, hx, h1, h2 => by
    rw [warM_succ] at h1 h2 ⊢
    by_cases hxk : x = k
    · subst hxk
      refine .inr ⟨?_, ?_⟩
      · rcases h1 with h | ⟨h, _⟩ <;> exact h
      · rcases h2 with h | ⟨_, h⟩ <;> exact h
    · have hx' : x < k := by omega
      rcases h1 with h1 | ⟨h1, h1'⟩ <;> rcases h2 with h2 | ⟨h2, h2'⟩
      · exact .inl (warM_trans k hx' h1 h2)
      · exact .inr ⟨warM_trans k hx' h1 h2, h2'⟩
      · exact .inr ⟨h1, warM_trans k hx' h1' h2⟩
      · exact .inr ⟨h1, h2'⟩
theorem plus_sub {i j : Nat} (h : M i j = true) : plusM n M i j = true := warM_sub n h
theorem plus_trans {i x j : Nat} (hx : x < n) (h1 : plusM n M i x = true) (h2 : plusM n M x j = true) : plusM n M i j = true := warM_trans n hx h1 h2
/-- It is the least one. -/
theorem plus_least {N : Nat → Nat → Prop} (hM : ∀ i j, i < n → j < n → M i j = true → N i j) (ht : ∀ i x j, i < n → x < n → j < n → N i x → N x j → N i j) {i j : Nat} (hi : i < n) (hj : j < n) (h : plusM n M i j = true) : N i j := by
  have all : ∀ k, k ≤ n → ∀ i j, i < n → j < n → warM n M k i j = true → N i j := by
    intro k
    induction k with
    | zero => exact fun _ i j hi hj h => hM i j hi hj h
    | succ k ih =>
      intro hk i j hi hj h
      rcases warM_succ.1 h with h | ⟨h1, h2⟩
      · exact ih (by omega) i j hi hj h
      · exact ht i k j hi (by omega) hj (ih (by omega) i k hi (by omega) h1) (ih (by omega) k j (by omega) hj h2)
  exact all n (Nat.le_refl _) i j hi hj h
/-- A way of so many steps. -/
inductive Way (n : Nat) (M : Nat → Nat → Bool) : Nat → Nat → Nat → Prop
  | one {i j : Nat} : M i j = true → Way n M 1 i j
  | more {k i x j : Nat} : x < n → M i x = true → Way n M k x j → Way n M (k + 1) i j
theorem Way.app {k m i x j : Nat} (hx : x < n) (h : Way n M k i x) (h' : Way n M m x j) : Way n M (k + m) i j := by
  induction h with
  | one h => rw [Nat.add_comm]; exact .more hx h h'
  | more hy hm _ ih => rw [Nat.add_right_comm]; exact .more hy hm (ih hx h')
theorem plus_way {i j : Nat} (hi : i < n) (hj : j < n) (h : plusM n M i j = true) : ∃ k, Way n M k i j :=
  plus_least (N := fun i j => ∃ k, Way n M k i j) (fun i j _ _ h => ⟨1, .one h⟩) (fun i x j _ hx _ ⟨k, h1⟩ ⟨m, h2⟩ => ⟨k + m, h1.app hx h2⟩) hi hj h
theorem way_plus {k i j : Nat} (h : Way n M k i j) : plusM n M i j = true := by
  induction h with
  | one h => exact plus_sub h
  | more hx h _ ih => exact plus_trans hx (plus_sub h) ih
variable {p : Nat}
theorem farK_mono {k m i : Nat} (hk : k ≤ m) (h : farK n M p k i ≠ 0) : farK n M p m i = farK n M p k i := by
  obtain ⟨d, rfl⟩ : ∃ d, m = k + d := ⟨m - k, by omega⟩
  induction d with
  | zero => rfl
  | succ d ih =>
    have := ih (by omega)
    rw [show k + (d + 1) = k + d + 1 by omega, farK_keep (by omega), this]
theorem farK_at : ∀ {k i v : Nat}, farK n M p k i = v → v ≠ 0 → farK n M p v i = v
  | 0, i, v, h, hv => by simp [farK] at h; omega
  | k + 1, i, v, h, hv => by
    by_cases h0 : farK n M p k i = 0
    · have h' := h
      rw [farK_new h0] at h'
      split at h'
      · subst h'; exact h
      · omega
    · rw [farK_keep h0] at h; exact farK_at h hv
theorem way_far {k i p : Nat} (h : Way n M k i p) : ∃ m, farK n M p m i ≠ 0 := by
  induction h with
  | one h => exact ⟨1, by rw [farK_new rfl, lay_zero, if_pos h]; omega⟩
  | @more k i x j hx h _ ih =>
    obtain ⟨m, hm⟩ := ih
    have hv := farK_at rfl hm
    obtain ⟨v, hv'⟩ : ∃ v, farK n M j m x = v + 1 := ⟨farK n M j m x - 1, by omega⟩
    rw [hv'] at hv
    refine ⟨v + 2, ?_⟩
    by_cases h0 : farK n M j (v + 1) i = 0
    · rw [farK_new h0, if_pos (lay_succ.2 ⟨x, hx, h, hv⟩)]; omega
    · rw [farK_keep h0]; exact h0
theorem farS_of {k i : Nat} (hi : i < n) (h : farK n M p k i ≠ 0) : farS n M p i ≠ 0 := by
  have hn : ∀ i, i < n → farK n M p (n + 1) i ≠ n + 1 := fun i hi h => by
    have := known_ge hi h; have := known_le (n := n) (M := M) (p := p) (n + 1); omega
  unfold farS
  rcases Nat.le_total k n with hk | hk
  · rw [farK_mono hk h]; exact h
  · obtain ⟨d, hd⟩ : ∃ d, k = n + d := ⟨k - n, by omega⟩
    rw [hd, farK_stable hn d i hi] at h; exact h
theorem plus_far {i : Nat} (hi : i < n) (hp : p < n) (h : plusM n M i p = true) : farS n M p i ≠ 0 := by
  obtain ⟨k, hw⟩ := plus_way hi hp h
  obtain ⟨m, hm⟩ := way_far hw
  exact farS_of hi hm
end
theorem cycGo_len {n : Nat} {M : Nat → Nat → Bool} {F : Nat → Nat} : ∀ (k a : Nat), (cycGo n M F k a).length ≤ k
  | 0, _ => Nat.le_refl _
  | k + 1, a => by
    simp only [cycGo]
    split
    · simp
    · rename_i q _; have := cycGo_len (n := n) (M := M) (F := F) k q; simp; omega
theorem shortS_len {n : Nat} {M : Nat → Nat → Bool} {p : Nat} : (shortS n M p).length ≤ n + 1 := by
  have := cycGo_len (n := n) (M := M) (F := farS n M p) (farS n M p p - 1) p
  have := farS_le (n := n) (M := M) (p := p) p
  simp only [shortS, List.length_cons]; omega
theorem cycS_len {n : Nat} {M : Nat → Nat → Bool} : (cycS n M).length ≤ n + 1 := by
  unfold cycS
  split
  · simp
  · exact shortS_len
end Go.Vc
/-
  A least cycle is one; numbers that rise, round by round.
-/
namespace Go.Vc
section
variable {n : Nat} {M : Nat → Nat → Bool} {p : Nat}
theorem far_plus : ∀ {m i : Nat}, farS n M p i = m + 1 → plusM n M i p = true
  | 0, i, h => plus_sub ((farS_step h).1 rfl)
  | m + 1, i, h => by
    obtain ⟨j, hj, hM, hf⟩ := (farS_step h).2 (by omega)
    exact plus_trans hj (plus_sub hM) (far_plus hf)
/-- The list of a shortest way. -/
theorem cycGo_way : ∀ (k a : Nat), farS n M p a = k + 1 → (a :: cycGo n M (farS n M p) k a).length = k + 1 ∧ ∀ i x, (a :: cycGo n M (farS n M p) k a)[i]? = some x →
    farS n M p x + i = k + 1 ∧ (i ≠ 0 → x < n ∧ plusM n M a x = true) ∧ (i < k → ∃ y, (a :: cycGo n M (farS n M p) k a)[i + 1]? = some y ∧ M x y = true) ∧ (i = k → M x p = true)
  | 0, a, h => by
    refine ⟨rfl, fun i x hx => ?_⟩
    simp only [cycGo] at hx
    cases i with
    | succ i => simp at hx
    | zero =>
      simp at hx; subst hx
      exact ⟨by omega, by omega, by omega, fun _ => (farS_step h).1 rfl⟩
  | k + 1, a, h => by
    obtain ⟨j, hj, hM, hf⟩ := (farS_step h).2 (by omega)
    simp only [cycGo]
    cases hl : lf (fun q => M a q && farS n M p q == k + 1) n 0 with
    | none =>
      have := lf_none hl j (by omega) hj
      simp [hM, hf] at this
    | some q =>
      obtain ⟨-, hq, hfq⟩ := lf_some hl
      simp only [Bool.and_eq_true, beq_iff_eq] at hfq
      obtain ⟨ih1, ih2⟩ := cycGo_way k q hfq.2
      refine ⟨by simpa using ih1, fun i x hx => ?_⟩
      cases i with
      | zero =>
        simp at hx; subst hx
        exact ⟨by omega, by omega, fun _ => ⟨q, by simp, hfq.1⟩, by omega⟩
      | succ i =>
        rw [List.getElem?_cons_succ] at hx
        obtain ⟨g1, g2, g3, g4⟩ := ih2 i x hx
        refine ⟨by omega, fun _ => ?_, fun hi => ?_, fun hi => g4 (by omega)⟩
        · cases i with
          | zero => simp at hx; subst hx; exact ⟨hq, plus_sub hfq.1⟩
          | succ i => exact ⟨(g2 (by omega)).1, plus_trans hq (plus_sub hfq.1) (g2 (by omega)).2⟩
        · obtain ⟨y, hy, hm⟩ := g3 (by omega)
          exact ⟨y, by rw [List.getElem?_cons_succ]; exact hy, hm⟩
end
/-- What is told of a cycle. -/
theorem cycS_is {n : Nat} {M : Nat → Nat → Bool} (hne : cycS n M ≠ []) : ∃ p, p < n ∧ (cycS n M)[0]? = some p ∧ plusM n M p p = true ∧ (∀ q, q < p → plusM n M q q = false) ∧
    (∀ (i x : Nat), (cycS n M)[i]? = some x → x < n ∧ p ≤ x ∧ (∀ y : Nat, (cycS n M)[i + 1]? = some y → M x y = true) ∧ (i + 1 = (cycS n M).length → M x p = true)) ∧
    ∀ i j x : Nat, (cycS n M)[i]? = some x → (cycS n M)[j]? = some x → i = j := by
  unfold cycS at hne ⊢
  cases hl : lf (fun p => plusM n M p p) n 0 with
  | none => rw [hl] at hne; simp at hne
  | some p =>
    obtain ⟨-, hp, hpp⟩ := lf_some hl
    dsimp only
    have hF := plus_far hp hp hpp
    obtain ⟨k, hk⟩ : ∃ k, farS n M p p = k + 1 := ⟨farS n M p p - 1, by omega⟩
    have hs : shortS n M p = p :: cycGo n M (farS n M p) k p := by unfold shortS; rw [hk]; rfl
    rw [hs]
    obtain ⟨h1, h2⟩ := cycGo_way (n := n) (M := M) (p := p) k p hk
    refine ⟨p, hp, by simp, hpp, fun q hq => lf_least hl q (by omega) hq, fun i x hx => ?_, fun i j x hi hj => ?_⟩
    · obtain ⟨g1, g2, g3, g4⟩ := h2 i x hx
      have hil : i < k + 1 := by rw [← h1]; exact (List.getElem?_eq_some_iff.1 hx).1
      have hx2 : x < n ∧ plusM n M p x = true := by
        by_cases hi : i = 0
        · subst hi; simp at hx; subst hx; exact ⟨hp, hpp⟩
        · exact g2 hi
      have hxx : plusM n M x x = true := by
        obtain ⟨m, hm⟩ : ∃ m, farS n M p x = m + 1 := ⟨farS n M p x - 1, by omega⟩
        exact plus_trans hp (far_plus hm) hx2.2
      refine ⟨hx2.1, ?_, fun y hy => ?_, fun hi => g4 (by omega)⟩
      · apply Classical.byContradiction; intro hlt
        have := lf_least hl x (by omega) (by omega)
        rw [this] at hxx; cases hxx
      · have : i + 1 < k + 1 := by rw [← h1]; exact (List.getElem?_eq_some_iff.1 hy).1
        obtain ⟨z, hz, hm⟩ := g3 (by omega)
        rw [hy] at hz; cases hz; exact hm
    · have := (h2 i x hi).1; have := (h2 j x hj).1; omega
theorem cycS_nil {n : Nat} {M : Nat → Nat → Bool} (h : cycS n M = []) : ∀ i, i < n → plusM n M i i = false := by
  unfold cycS at h
  split at h
  · rename_i hl; exact fun i hi => lf_none hl i (by omega) hi
  · simp [shortS] at h
/-- Without a cycle a way has fewer steps than there are points. -/
theorem way_short {n : Nat} {M : Nat → Nat → Bool} (ha : ∀ i, i < n → plusM n M i i = false) {k i j : Nat} (hi : i < n) (hj : j < n) (h : Way n M k i j) : k ≤ (List.range n).countP fun x => plusM n M i x := by
  induction h with
  | @one i j h =>
    rw [Nat.succ_le_iff]
    exact List.countP_pos_iff.2 ⟨j, List.mem_range.2 hj, plus_sub h⟩
  | @more k i x j hx h hw ih =>
    have := ih hx hj
    have := countP_lt (f := fun y => plusM n M x y) (g := fun y => plusM n M i y) n x hx (fun y hy => plus_trans hx (plus_sub h) hy) (ha x hx) (plus_sub h)
    omega
theorem no_way {n : Nat} {M : Nat → Nat → Bool} (ha : ∀ i, i < n → plusM n M i i = false) {i j : Nat} (hi : i < n) (hj : j < n) (h : Way n M n i j) : False := by
  have := way_short ha hi hj h
  have h2 := countP_lt (f := fun y => plusM n M i y) (g := fun _ => true) n i hi (fun _ _ => rfl) (ha i hi) rfl
  simp at h2
  omega
theorem Way.end {n : Nat} {M : Nat → Nat → Bool} {k a i j : Nat} (h : Way n M k a i) (hi : i < n) (hm : M i j = true) : Way n M (k + 1) a j := h.app hi (.one hm)

/-- Is there a way of so many steps to a point? -/
def WayTo (n : Nat) (M : Nat → Nat → Bool) (r i : Nat) : Prop := r = 0 ∨ ∃ a, a < n ∧ Way n M r a i
/-- The numbers within a round. -/
structure Num (n : Nat) (M : Nat → Nat → Bool) (r p : Nat) (N : Nat → Nat) : Prop where
  top : ∀ i, i < n → N i ≤ r
  new : ∀ i, i < n → p ≤ i → N i < r
  up : ∀ a b, a < n → b < n → M a b = true → N b ≠ 0 → N a ≠ 0 ∧ N a < N b
  old : ∀ i, i < n → N i = 0 ∨ N i = r → WayTo n M (r - 1) i
  done : ∀ i, i < p → N i = 0 → WayTo n M r i
section
variable {n : Nat} {M : Nat → Nat → Bool} {r p : Nat} {N : Nat → Nat}
theorem Num.start : Num n M 1 0 fun _ => 0 :=
  ⟨fun _ _ => by omega, fun _ _ _ => by omega, fun _ _ _ _ _ h => absurd rfl h, fun _ _ _ => .inl rfl, fun i h => by omega⟩
theorem Num.label (h : Num n M r p N) (hp : p < n) (h0 : N p = 0) (hf : ∀ a, a < n → M a p = true → N a ≠ 0 ∧ N a ≠ r) : Num n M r (p + 1) (upd N p r) := by
  have hr := h.new p hp (Nat.le_refl _)
  refine ⟨fun i hi => ?_, fun i hi hpi => ?_, fun a b ha hb hm hN => ?_, fun i hi hN => ?_, fun i hi hN => ?_⟩
  · by_cases hip : i = p
    · subst hip; rw [upd_same]; omega
    · rw [upd_ne _ _ hip]; exact h.top i hi
  · rw [upd_ne _ _ (by omega)]; exact h.new i hi (by omega)
  · by_cases hbp : b = p
    · subst hbp
      have h1 := hf a ha hm
      have h2 := h.top a ha
      have hab : a ≠ b := by rintro rfl; exact h1.1 h0
      rw [upd_same, upd_ne _ _ hab]; omega
    · rw [upd_ne _ _ hbp] at hN ⊢
      have h1 := h.up a b ha hb hm hN
      have hap : a ≠ p := by rintro rfl; exact h1.1 h0
      rw [upd_ne _ _ hap]; exact h1
  · by_cases hip : i = p
    · subst hip; exact h.old i hi (.inl h0)
    · rw [upd_ne _ _ hip] at hN; exact h.old i hi hN
  · by_cases hip : i = p
    · subst hip; rw [upd_same] at hN; omega
    · rw [upd_ne _ _ hip] at hN; exact h.done i (by omega) hN
theorem Num.skip (h : Num n M r p N) (h0 : N p ≠ 0 ∨ ∃ a, a < n ∧ M a p = true ∧ (N a = 0 ∨ N a = r)) (hr : 1 ≤ r) : Num n M r (p + 1) N := by
  refine ⟨h.top, fun i hi hpi => h.new i hi (by omega), h.up, h.old, fun i hi hN => ?_⟩
  by_cases hip : i = p
  · subst hip
    rcases h0 with h0 | ⟨a, ha, hm, h0⟩
    · exact absurd hN h0
    · obtain ⟨r, rfl⟩ : ∃ r', r = r' + 1 := ⟨r - 1, by omega⟩
      rcases h.old a ha h0 with h1 | ⟨b, hb, hw⟩
      · have : r = 0 := by omega
        subst this
        exact .inr ⟨a, ha, .one hm⟩
      · exact .inr ⟨b, hb, hw.end ha hm⟩
  · exact h.done i (by omega) hN
theorem Num.next (h : Num n M r n N) : Num n M (r + 1) 0 N :=
  ⟨fun i hi => by have := h.top i hi; omega, fun i hi _ => by have := h.top i hi; omega, h.up, fun i hi hN => by
    rcases hN with hN | hN
    · exact h.done i hi hN
    · have := h.top i hi; omega, fun i hi => by omega⟩
theorem Num.all (h : Num n M (n + 1) 0 N) (ha : ∀ i, i < n → plusM n M i i = false) {a b : Nat} (h1 : a < n) (h2 : b < n) (hm : M a b = true) : N a ≠ 0 ∧ N a < N b := by
  have hb : N b ≠ 0 := by
    intro h0
    rcases h.old b h2 (.inl h0) with h3 | ⟨c, hc, hw⟩
    · omega
    · exact no_way ha hc h2 hw
  exact h.up a b h1 h2 hm hb
end
end Go.Vc
/-
  All orders that begin with a list, in their order; how they are gone through.
-/
namespace Go.Proofs.Tst
open Go Go.Vc
section
variable {n : Nat} {M : Nat → Nat → Bool}
theorem rest_none {f : Nat → Bool} {n q : Nat} (h : lf f n q = none) : rest f n q = [] := by
  refine List.filter_eq_nil_iff.2 fun x hx => ?_
  rw [List.mem_range'_1] at hx
  rw [lf_none h x (by omega) (by omega)]; simp
theorem rest_some {f : Nat → Bool} {n q p : Nat} (h : lf f n q = some p) : rest f n q = p :: rest f n (p + 1) := by
  obtain ⟨h1, h2, h3⟩ := lf_some h
  rw [rest_skip (p - q) (by omega) fun j hj hk => lf_least h j hj (by omega), show q + (p - q) = p from by omega, rest_step h2, if_pos h3]
/-- All orders that begin with l: so many points are still to be placed. -/
def extGo (n : Nat) (M : Nat → Nat → Bool) : Nat → List Nat → List (List Nat)
  | 0, l => [l]
  | k + 1, l => (rest (freeB n M l.contains) n 0).flatMap fun p => extGo n M k (l ++ [p])
def extFrom (n : Nat) (M : Nat → Nat → Bool) (l : List Nat) (q : Nat) : List (List Nat) := (rest (freeB n M l.contains) n q).flatMap fun p => extGo n M (n - l.length - 1) (l ++ [p])
theorem extFrom_none {l : List Nat} {q : Nat} (h : lf (freeB n M l.contains) n q = none) : extFrom n M l q = [] := by
  unfold extFrom; rw [rest_none h]; rfl
theorem extFrom_some {l : List Nat} {q p : Nat} (h : lf (freeB n M l.contains) n q = some p) : extFrom n M l q = extGo n M (n - l.length - 1) (l ++ [p]) ++ extFrom n M l (p + 1) := by
  unfold extFrom; rw [rest_some h, List.flatMap_cons]
def todo (n : Nat) (M : Nat → Nat → Bool) (l : List Nat) (q : Nat) : List (List Nat) := if l.length < n then extFrom n M l q else [l]
theorem extGo_todo {l : List Nat} : extGo n M (n - l.length) l = todo n M l 0 := by
  unfold todo
  by_cases h : l.length < n
  · rw [if_pos h, show n - l.length = (n - l.length - 1) + 1 from by omega]; rfl
  · rw [if_neg h, show n - l.length = 0 from by omega]; rfl
def later (n : Nat) (M : Nat → Nat → Bool) : List Nat → List (List Nat)
  | [] => []
  | p :: r => extFrom n M r.reverse (p + 1) ++ later n M r
/-- What is still to be told, of a way and the next point to be tried. -/
def remS (n : Nat) (M : Nat → Nat → Bool) (l : List Nat) (q : Nat) : List (List Nat) := todo n M l q ++ later n M l.reverse
theorem rem_start : remS n M [] 0 = extGo n M n [] := by
  unfold remS; rw [← extGo_todo]; simp [later]
theorem rem_place {l : List Nat} {q p : Nat} (hl : l.length < n) (h : lf (freeB n M l.contains) n q = some p) : remS n M l q = remS n M (l ++ [p]) 0 := by
  have e : (l ++ [p]).length = l.length + 1 := by simp
  unfold remS
  rw [← extGo_todo (l := l ++ [p]), List.reverse_append, List.reverse_singleton, List.singleton_append]
  simp only [later, List.reverse_reverse]
  rw [todo, if_pos hl, extFrom_some h, List.append_assoc, e, show n - l.length - 1 = n - (l.length + 1) from by omega]
theorem rem_back {l : List Nat} {q p : Nat} (hl : l.length < n) : remS n M (l ++ [p]) q = todo n M (l ++ [p]) q ++ remS n M l (p + 1) := by
  unfold remS
  rw [List.reverse_append, List.reverse_singleton, List.singleton_append]
  simp only [later, List.reverse_reverse]
  have e : todo n M l (p + 1) = extFrom n M l (p + 1) := if_pos hl
  rw [e]
theorem todo_none {l : List Nat} {q : Nat} (hl : l.length < n) (h : lf (freeB n M l.contains) n q = none) : todo n M l q = [] := by
  unfold todo; rw [if_pos hl, extFrom_none h]
theorem todo_full {l : List Nat} {q : Nat} (hl : l.length = n) : todo n M l q = [l] := by
  unfold todo; rw [if_neg (by omega)]
theorem rem_nil {q : Nat} : remS n M [] q = todo n M [] q := by simp [remS, later]
/-! The rounds come to an end. -/
def vd (B : Nat) (l : List Nat) : Nat := l.foldl (fun a p => a * B + (2 * p + 1)) 0
theorem vd_snoc {B : Nat} {l : List Nat} {p : Nat} : vd B (l ++ [p]) = vd B l * B + (2 * p + 1) := by simp [vd]
def posV (n : Nat) (l : List Nat) (q : Nat) : Nat := (vd (2 * n + 2) l * (2 * n + 2) + 2 * q) * (2 * n + 2) ^ (n - l.length)
theorem posV_place {l : List Nat} {q p : Nat} (hl : l.length < n) (h : q ≤ p) : posV n l q < posV n (l ++ [p]) 0 := by
  unfold posV
  rw [vd_snoc, show (l ++ [p]).length = l.length + 1 from by simp, show n - l.length = (n - (l.length + 1)) + 1 from by omega, Nat.pow_succ, Nat.mul_comm ((2 * n + 2) ^ (n - (l.length + 1))), ← Nat.mul_assoc]
  refine Nat.mul_lt_mul_of_pos_right ?_ (Nat.pow_pos (by omega))
  rw [Nat.mul_zero, Nat.add_zero]
  exact Nat.mul_lt_mul_of_pos_right (by omega) (by omega)
theorem posV_back {l : List Nat} {q p : Nat} (hl : l.length < n) (h : q ≤ n) : posV n (l ++ [p]) q < posV n l (p + 1) := by
  unfold posV
  rw [vd_snoc, show (l ++ [p]).length = l.length + 1 from by simp, show n - l.length = (n - (l.length + 1)) + 1 from by omega, Nat.pow_succ, Nat.mul_comm ((2 * n + 2) ^ (n - (l.length + 1))) (2 * n + 2), ← Nat.mul_assoc]
  refine Nat.mul_lt_mul_of_pos_right ?_ (Nat.pow_pos (by omega))
  generalize vd (2 * n + 2) l * (2 * n + 2) = X
  have : (X + 2 * (p + 1)) * (2 * n + 2) = (X + (2 * p + 1)) * (2 * n + 2) + (2 * n + 2) := by
    rw [show X + 2 * (p + 1) = (X + (2 * p + 1)) + 1 from by omega, Nat.add_mul, Nat.one_mul]
  omega
theorem vd_lt : ∀ (k : Nat) (l : List Nat), l.length = k → (∀ x ∈ l, x < n) → vd (2 * n + 2) l < (2 * n + 2) ^ k
  | 0, l, hk, _ => by rw [List.eq_nil_of_length_eq_zero hk]; simp [vd]
  | k + 1, l, hk, h => by
    rcases List.eq_nil_or_concat l with rfl | ⟨l', p, rfl⟩
    · simp at hk
    · rw [List.concat_eq_append] at h hk ⊢
      have ih := vd_lt k l' (by simpa using hk) fun x hx => h x (by simp [hx])
      have hp := h p (by simp)
      rw [vd_snoc, Nat.pow_succ]
      have : (vd (2 * n + 2) l' + 1) * (2 * n + 2) ≤ (2 * n + 2) ^ k * (2 * n + 2) := Nat.mul_le_mul_right _ ih
      rw [Nat.add_mul, Nat.one_mul] at this
      omega
theorem posV_lt {l : List Nat} {q : Nat} (hl : l.length ≤ n) (hx : ∀ x ∈ l, x < n) (hq : q ≤ n) : posV n l q < (2 * n + 2) ^ (n + 1) := by
  unfold posV
  have h1 := vd_lt _ l rfl hx
  have h2 : vd (2 * n + 2) l * (2 * n + 2) + 2 * q < (2 * n + 2) ^ (l.length + 1) := by
    rw [Nat.pow_succ]
    have : (vd (2 * n + 2) l + 1) * (2 * n + 2) ≤ (2 * n + 2) ^ l.length * (2 * n + 2) := Nat.mul_le_mul_right _ h1
    rw [Nat.add_mul, Nat.one_mul] at this
    omega
  have := Nat.mul_lt_mul_of_pos_right h2 (Nat.pow_pos (n := n - l.length) (show 0 < 2 * n + 2 by omega))
  rw [← Nat.pow_add, show l.length + 1 + (n - l.length) = n + 1 from by omega] at this
  exact this
/-! What has no cycle can be sorted, and the other way round. -/
theorem free_exists (ha : ∀ i, i < n → plusM n M i i = false) {D : Nat → Bool} : ∀ (c p : Nat), p < n → D p = false → ((List.range n).countP fun x => plusM n M x p) ≤ c → ∃ q, q < n ∧ freeB n M D q = true := by
  intro c
  induction c with
  | zero =>
    intro p hp hD hc
    refine ⟨p, hp, freeB_true.2 ⟨hD, fun a han hm => ?_⟩⟩
    have : 0 < (List.range n).countP fun x => plusM n M x p := List.countP_pos_iff.2 ⟨a, List.mem_range.2 han, plus_sub hm⟩
    omega
  | succ c ih =>
    intro p hp hD hc
    by_cases hf : freeB n M D p = true
    · exact ⟨p, hp, hf⟩
    have : ∃ a, a < n ∧ M a p = true ∧ D a = false := by
      apply Classical.byContradiction; intro hn
      refine hf (freeB_true.2 ⟨hD, fun a han hm => ?_⟩)
      apply Classical.byContradiction; intro hD'
      exact hn ⟨a, han, hm, by simpa using hD'⟩
    obtain ⟨a, han, hm, hDa⟩ := this
    refine ih a han hDa ?_
    have := countP_lt (f := fun x => plusM n M x a) (g := fun x => plusM n M x p) n a han (fun x hx => plus_trans han hx (plus_sub hm)) (ha a han) (plus_sub hm)
    omega
/-- A beginning of an order. -/
def Pre (n : Nat) (M : Nat → Nat → Bool) (l : List Nat) : Prop := l.Nodup ∧ (∀ x ∈ l, x < n) ∧ ∀ i x, l[i]? = some x → ∀ a, a < n → M a x = true → a ∈ l.take i
theorem Pre.nil : Pre n M [] := ⟨by simp, by simp, by simp⟩
theorem Pre.snoc {l : List Nat} {p : Nat} : Pre n M (l ++ [p]) ↔ Pre n M l ∧ p < n ∧ freeB n M l.contains p = true := by
  rw [freeB_true]
  constructor
  · rintro ⟨h1, h2, h3⟩
    rw [List.nodup_append] at h1
    refine ⟨⟨h1.1, fun x hx => h2 x (by simp [hx]), fun i x hi a han hm => ?_⟩, h2 p (by simp), ?_, fun a han hm => ?_⟩
    · have hil := (List.getElem?_eq_some_iff.1 hi).1
      have := h3 i x (by rw [List.getElem?_append_left hil]; exact hi) a han hm
      rwa [List.take_append_of_le_length (by omega)] at this
    · rw [Bool.eq_false_iff]; intro hc
      exact h1.2.2 p (List.contains_iff_mem.1 hc) p (by simp) rfl
    · have := h3 l.length p (by simp) a han hm
      simp at this; simpa using this
  · rintro ⟨⟨h1, h2, h3⟩, hp, hD, hf⟩
    refine ⟨?_, ?_, ?_⟩
    · rw [List.nodup_append]
      refine ⟨h1, by simp, fun x hx y hy => ?_⟩
      simp at hy; subst hy; rintro rfl
      rw [List.contains_iff_mem.2 hx] at hD; simp at hD
    · intro x hx; rcases List.mem_append.1 hx with hx | hx
      · exact h2 x hx
      · simp at hx; subst hx; exact hp
    · intro i x hi a han hm
      by_cases hil : i < l.length
      · rw [List.getElem?_append_left hil] at hi
        rw [List.take_append_of_le_length (by omega)]; exact h3 i x hi a han hm
      · have := (List.getElem?_eq_some_iff.1 hi).1
        simp at this
        obtain rfl : i = l.length := by omega
        simp at hi; subst hi
        simp; simpa using hf a han hm
theorem Pre.len {l : List Nat} (h : Pre n M l) : l.length ≤ n := nodup_lt h.1 h.2.1
theorem nodup_sub : ∀ {l m : List Nat}, l.Nodup → (∀ x ∈ l, x ∈ m) → l.length ≤ m.length
  | [], m, _, _ => by simp
  | x :: l, m, hd, hs => by
    have hx := hs x (by simp)
    have hd' := List.nodup_cons.1 hd
    have := nodup_sub (m := m.erase x) hd'.2 fun y hy => (List.mem_erase_of_ne (by rintro rfl; exact hd'.1 hy)).2 (hs y (by simp [hy]))
    rw [List.length_erase_of_mem hx] at this
    have := List.length_pos_of_mem hx
    simp; omega
theorem sortGo_none (ha : ∀ i, i < n → plusM n M i i = false) : ∀ (k : Nat) (l : List Nat), Pre n M l → l.length + k = n → sortGo n M k l ≠ none
  | 0, l, _, _ => by simp [sortGo]
  | k + 1, l, hl, hk => by
    simp only [sortGo]
    cases hx : lf (freeB n M l.contains) n 0 with
    | none =>
      have : ∃ p, p < n ∧ p ∉ l := by
        apply Classical.byContradiction; intro hn
        have := nodup_sub (l := List.range n) (m := l) List.nodup_range fun x hx => Classical.byContradiction fun h => hn ⟨x, List.mem_range.1 hx, h⟩
        simp at this; omega
      obtain ⟨p, hp, hpl⟩ := this
      obtain ⟨q, hq, hf⟩ := free_exists ha (D := l.contains) _ p hp (by simpa using hpl) (Nat.le_refl _)
      rw [lf_none hx q (by omega) hq] at hf; simp at hf
    | some p =>
      obtain ⟨-, hp, hf⟩ := lf_some hx
      exact sortGo_none ha k (l ++ [p]) (Pre.snoc.2 ⟨hl, hp, hf⟩) (by simp; omega)
theorem sortGo_some : ∀ (k : Nat) (l m : List Nat), Pre n M l → sortGo n M k l = some m → Pre n M m ∧ m.length = l.length + k
  | 0, l, m, hl, h => by simp [sortGo] at h; subst h; exact ⟨hl, rfl⟩
  | k + 1, l, m, hl, h => by
    simp only [sortGo] at h
    cases hx : lf (freeB n M l.contains) n 0 with
    | none => rw [hx] at h; simp at h
    | some p =>
      rw [hx] at h
      obtain ⟨-, hp, hf⟩ := lf_some hx
      obtain ⟨h1, h2⟩ := sortGo_some k (l ++ [p]) m (Pre.snoc.2 ⟨hl, hp, hf⟩) h
      exact ⟨h1, by rw [h2]; simp; omega⟩
theorem all_in {l : List Nat} (h : Pre n M l) (hl : l.length = n) {p : Nat} (hp : p < n) : p ∈ l := by
  apply Classical.byContradiction; intro hn
  have := nodup_lt (n := n) (l := p :: l) (List.nodup_cons.2 ⟨hn, h.1⟩) fun x hx => by
    rcases List.mem_cons.1 hx with rfl | hx
    · exact hp
    · exact h.2.1 x hx
  simp at this; omega
/-- Of a whole order: each pair's first stands ahead of its second. -/
theorem Pre.idx {l : List Nat} (h : Pre n M l) {a b : Nat} (ha : a < n) (hb : b ∈ l) (hm : M a b = true) : l.idxOf a < l.idxOf b := by
  have hi : l.idxOf b < l.length := List.idxOf_lt_length_iff.2 hb
  have := h.2.2 (l.idxOf b) b (by rw [List.getElem?_eq_getElem hi, List.getElem_idxOf]) a ha hm
  obtain ⟨j, hj, hja⟩ := List.mem_iff_getElem.1 this
  have hj' : j < l.idxOf b := by rw [List.length_take] at hj; omega
  rw [List.getElem_take] at hja
  subst hja
  rw [h.1.idxOf_getElem]; exact hj'
theorem Pre.acyc {l : List Nat} (h : Pre n M l) (hl : l.length = n) : ∀ i, i < n → plusM n M i i = false := fun i hi => by
  rw [Bool.eq_false_iff]; intro hc
  have := plus_least (N := fun i j => l.idxOf i < l.idxOf j) (fun a b ha hb hm => h.idx ha (all_in h hl hb) hm) (fun _ _ _ _ _ _ h1 h2 => Nat.lt_trans h1 h2) hi hi hc
  exact Nat.lt_irrefl _ this
theorem irrB_true {N : Nat → Nat → Bool} : irrB n N = true ↔ ∀ i, i < n → N i i = false := by
  unfold irrB; rw [List.all_eq_true]
  constructor
  · intro h i hi; have := h i (List.mem_range.2 hi); simpa using this
  · intro h i hi; rw [h i (List.mem_range.1 hi)]; rfl
theorem sort_acyc : (sortS n M).isSome = irrB n (plusM n M) := by
  rw [Bool.eq_iff_iff, irrB_true]
  constructor
  · intro h
    obtain ⟨l, hl⟩ := Option.isSome_iff_exists.1 h
    obtain ⟨h1, h2⟩ := sortGo_some n [] l Pre.nil hl
    exact h1.acyc (by simpa using h2)
  · intro h
    have := sortGo_none h n [] Pre.nil (by simp)
    unfold sortS
    cases hs : sortGo n M n [] with
    | none => exact absurd hs this
    | some l => rfl
end
end Go.Proofs.Tst
/-
  Lists of lists in memory: a slice of slices, each owned, none in the block of the slice itself.
-/
namespace Go.Vc
open Go
/-- Two slices' blocks are apart. -/
def Off (v w : Value) : Prop := bh v = 0 ∨ bh w = 0 ∨ bl v ≠ bl w
theorem Off.symm {v w : Value} (h : Off v w) : Off w v := by unfold Off at *; omega
theorem bh_bl (v : Value) : (bh v = 0 ∧ bl v = 0) ∨ bh v = bl v + 1 := by unfold bh bl; split <;> simp
structure LL (h : Heap) (v : Value) (vs : List Value) (L : List (List Value)) (lo : Nat) : Prop where
  own : Holder 1 h v L.length vs lo
  at_ : ∀ (i : Nat) (w : Value) (l : List Value), vs[i]? = some w → L[i]? = some l → Holder 1 h w l.length l lo
  off : ∀ w, w ∈ vs → Off w v
theorem LL.len {h : Heap} {v : Value} {vs : List Value} {L : List (List Value)} {lo : Nat} (t : LL h v vs L lo) : vs.length = L.length := by
  have := t.own.1; omega
theorem LL.get {h : Heap} {v : Value} {vs : List Value} {L : List (List Value)} {lo : Nat} (t : LL h v vs L lo) {w : Value} (hw : w ∈ vs) : ∃ (i : Nat) (l : List Value), vs[i]? = some w ∧ L[i]? = some l ∧ Holder 1 h w l.length l lo := by
  obtain ⟨i, hi, rfl⟩ := List.mem_iff_getElem.1 hw
  have hl : i < L.length := by rw [← t.len]; exact hi
  have h1 : vs[i]? = some vs[i] := List.getElem?_eq_getElem hi
  have h2 : L[i]? = some L[i] := List.getElem?_eq_getElem hl
  exact ⟨i, _, h1, h2, t.at_ i _ _ h1 h2⟩
theorem LL.nil {h : Heap} {lo : Nat} : LL h (.slice none 0 0) [] [] lo :=
  ⟨.none _ _ _, fun _ _ _ h => by simp at h, fun _ h => by simp at h⟩
theorem LL.lower {h : Heap} {v : Value} {vs : List Value} {L : List (List Value)} {lo lo' : Nat} (t : LL h v vs L lo) (hl : lo' ≤ lo) : LL h v vs L lo' :=
  ⟨t.own.lower hl, fun i w l h1 h2 => (t.at_ i w l h1 h2).lower hl, t.off⟩
/-- All of it lies outside. -/
def Away (l r : Nat) (v : Value) (vs : List Value) : Prop := ∀ w, w = v ∨ w ∈ vs → bh w ≤ l ∨ r ≤ bl w ∨ r ≤ l
theorem LL.fr {h h' : Heap} {v : Value} {vs : List Value} {L : List (List Value)} {lo l r : Nat} (t : LL h v vs L lo) (f : Fr l r h h') (ha : Away l r v vs) : LL h' v vs L lo :=
  ⟨t.own.fr f (ha v (.inl rfl)), fun i w x h1 h2 => (t.at_ i w x h1 h2).fr f (ha w (.inr (List.mem_of_getElem? h1))), t.off⟩
theorem Away.none {v : Value} {vs : List Value} {l r : Nat} (h : r ≤ l) : Away l r v vs := fun _ _ => .inr (.inr h)
/-- What lies below, or is new, is away from what is owned. -/
theorem LL.below {h : Heap} {v : Value} {vs : List Value} {L : List (List Value)} {lo l r : Nat} (t : LL h v vs L lo) (hr : r ≤ lo) : Away l r v vs := fun w hw => by
  rcases hw with rfl | hw
  · have := t.own.at_; omega
  · obtain ⟨i, x, -, -, o⟩ := t.get hw
    have := o.at_; omega
theorem LL.top {h : Heap} {v : Value} {vs : List Value} {L : List (List Value)} {lo : Nat} (t : LL h v vs L lo) : ∀ w, w = v ∨ w ∈ vs → bh w ≤ h.size := fun w hw => by
  rcases hw with rfl | hw
  · exact t.own.top
  · obtain ⟨i, x, -, -, o⟩ := t.get hw; exact o.top
theorem LL.above {h : Heap} {v : Value} {vs : List Value} {L : List (List Value)} {lo l r : Nat} (t : LL h v vs L lo) (hr : h.size ≤ l) : Away l r v vs := fun w hw => .inl (Nat.le_trans (t.top w hw) hr)
/-- A slice's own block is apart from another's. -/
theorem Off.away {v w : Value} (h : Off w v) : bh w ≤ bl v ∨ bh v ≤ bl w ∨ bh v ≤ bl v := by
  have := bh_bl v; have := bh_bl w; unfold Off at h; omega
/-- What was apart from it is apart from what it has grown to. -/
theorem Off.app {h h' : Heap} {v v' w : Value} {lo n : Nat} {xs : List Value} (hx : Off w v) (ht : bh w ≤ h.size) (h0 : 0 < lo) (o : Holder 1 h' v' n xs lo)
    (e : bl v' = bl v ∧ h'.size = h.size ∨ bl v' = h.size ∧ h'.size = h.size + 1 ∨ bh v' = 0 ∧ h' = h) : Off w v' := by
  have := bh_bl w; have := bh_bl v; have := bh_bl v'; have := o.at_
  unfold Off at *
  rcases e with ⟨e, -⟩ | ⟨e, -⟩ | ⟨e, -⟩ <;> omega
/-- One list more. -/
theorem LL.push {h h' : Heap} {v v' w : Value} {vs : List Value} {L : List (List Value)} {l : List Value} {lo : Nat} (t : LL h v vs L lo) (h0 : 0 < lo) (hw : Holder 1 h w l.length l lo) (h1 : Off w v)
    (o : Holder 1 h' v' (L.length + 1) (vs ++ [w]) lo) (f : Fr (bl v) (bh v) h h') (e : bl v' = bl v ∧ h'.size = h.size ∨ bl v' = h.size ∧ h'.size = h.size + 1 ∨ bh v' = 0 ∧ h' = h) : LL h' v' (vs ++ [w]) (L ++ [l]) lo := by
  have key : ∀ x, Off x v → bh x ≤ h.size → Off x v' := fun x hx ht => by
    have := bh_bl x; have := bh_bl v; have := bh_bl v'
    have := t.own.at_; have := t.own.top; have := o.at_
    unfold Off at *
    rcases e with ⟨e, -⟩ | ⟨e, -⟩ | ⟨e, -⟩
    · omega
    · omega
    · omega
  refine ⟨by rw [List.length_append]; exact o, fun i x y hx hy => ?_, fun x hx => ?_⟩
  · by_cases hi : i < vs.length
    · rw [List.getElem?_append_left hi] at hx
      rw [List.getElem?_append_left (by rw [← t.len]; exact hi)] at hy
      exact (t.at_ i x y hx hy).fr f (t.off x (List.mem_of_getElem? hx)).away
    · have := (List.getElem?_eq_some_iff.1 hx).1
      simp at this
      obtain rfl : i = vs.length := by omega
      simp at hx; subst hx
      rw [t.len] at hy; simp at hy; subst hy
      exact hw.fr f h1.away
  · rcases List.mem_append.1 hx with hx | hx
    · exact key x (t.off x hx) (t.top x (.inr hx))
    · simp at hx; subst hx; exact key x h1 hw.top
end Go.Vc
namespace Go.Vc
open Go
theorem Holder.blk {s : Nat} {h : Heap} {v : Value} {n : Nat} {xs : List Value} {lo : Nat} (w : Holder s h v n xs lo) (hn : 0 < n) : ∃ b c rest, v = .slice (some ⟨b, 0, Option.none⟩) n c ∧ Rw h b (xs ++ rest) ∧ rest.length + n * s = c * s ∧ lo ≤ b := by
  obtain ⟨_, ⟨rfl, h0⟩ | h1⟩ := w
  · omega
  · exact h1
theorem Holder.pop {h : Heap} {b n c : Nat} {xs : List Value} {x : Value} {lo : Nat} (w : Holder 1 h (.slice (some ⟨b, 0, Option.none⟩) (n + 1) c) (n + 1) (xs ++ [x]) lo) : Holder 1 h (.slice (some ⟨b, 0, Option.none⟩) n c) n xs lo := by
  obtain ⟨b', c', rest, h1, h2, h3, h4⟩ := w.blk (by omega)
  cases h1
  have := w.1
  refine ⟨by simp at this; omega, .inr ⟨b, c, x :: rest, rfl, by rw [List.append_assoc, List.singleton_append] at h2; exact h2, by simp; omega, h4⟩⟩
/-- One element of its block is stored. -/
theorem Holder.set {h h' : Heap} {b n c j : Nat} {xs : List Value} {x : Value} {lo : Nat} (w : Holder 1 h (.slice (some ⟨b, 0, Option.none⟩) n c) n xs lo) (hj : j < n) (s : Sto h h' b j [x]) : Holder 1 h' (.slice (some ⟨b, 0, Option.none⟩) n c) n (xs.set j x) lo := by
  have hl := w.1
  obtain ⟨b', c', rest, h1, h2, h3, h4⟩ := w.blk (by omega)
  cases h1
  refine ⟨by simpa using hl, .inr ⟨b, c, rest, rfl, ?_, h3, h4⟩⟩
  have := s.row h2
  rwa [putAt_one, List.set_append_left _ _ (by omega)] at this
theorem Holder.wrAt {h : Heap} {b n c j : Nat} {xs : List Value} {lo : Nat} (w : Holder 1 h (.slice (some ⟨b, 0, Option.none⟩) n c) n xs lo) (hj : j < n) : Wr h b j 1 := by
  have hl := w.1
  obtain ⟨b', c', rest, h1, h2, h3, h4⟩ := w.blk (by omega)
  cases h1
  exact h2.wr (by simp; omega)
/-- One of the lists is turned. -/
theorem LL.put {h h' : Heap} {v w : Value} {us : List Value} {L : List (List Value)} {l : List Value} {lo i : Nat} (t : LL h v us L lo) (hi : us[i]? = some w) (o : Holder 1 h' w l.length l lo) (f : Fr (bl w) (bh w) h h')
    (hp : us.Pairwise Off) : LL h' v us (L.set i l) lo := by
  have hl : i < us.length := (List.getElem?_eq_some_iff.1 hi).1
  have hw := t.off w (List.mem_of_getElem? hi)
  have key : ∀ j x, j ≠ i → us[j]? = some x → Off x w := fun j x hj hx => by
    obtain ⟨hjl, rfl⟩ := List.getElem?_eq_some_iff.1 hx
    obtain ⟨hil, rfl⟩ := List.getElem?_eq_some_iff.1 hi
    rw [List.pairwise_iff_getElem] at hp
    rcases Nat.lt_or_gt_of_ne hj with h | h
    · exact hp j i hjl hil h
    · exact (hp i j hil hjl h).symm
  refine ⟨by rw [List.length_set]; exact t.own.fr f hw.symm.away, fun j x y hx hy => ?_, t.off⟩
  by_cases hj : j = i
  · subst hj
    rw [hi] at hx; cases hx
    rw [List.getElem?_set_self (by rw [← t.len]; exact hl)] at hy; cases hy
    exact o
  · rw [List.getElem?_set_ne (fun h => hj h.symm)] at hy
    exact (t.at_ j x y hx hy).fr f (key j x hj hx).away
/-- What can be read of a list of lists. -/
def RL (h : Heap) (v : Value) (L : List (List Value)) : Prop := ∃ us, Rd 1 h v L.length us ∧ ∀ (i : Nat) (l : List Value), L[i]? = some l → ∃ w, us[i]? = some w ∧ Rd 1 h w l.length l
theorem LL.rl {h : Heap} {v : Value} {us : List Value} {L : List (List Value)} {lo : Nat} (t : LL h v us L lo) : RL h v L := ⟨us, t.own.rd, fun i l hl => by
  have hi : i < us.length := by rw [t.len]; exact (List.getElem?_eq_some_iff.1 hl).1
  exact ⟨us[i], List.getElem?_eq_getElem hi, (t.at_ i _ _ (List.getElem?_eq_getElem hi) hl).rd⟩⟩
theorem RL.fr {h h' : Heap} {v : Value} {L : List (List Value)} (t : RL h v L) (f : Fr 0 0 h h') : RL h' v L := by
  obtain ⟨us, h1, h2⟩ := t
  exact ⟨us, h1.fr f, fun i l hl => by obtain ⟨w, h3, h4⟩ := h2 i l hl; exact ⟨w, h3, h4.fr f⟩⟩
end Go.Vc
namespace Go.Proofs.Tst
open Go Go.Vc
theorem rel_inside {n : Nat} {M : Nat → Nat → Bool} {p : Value} {lo hi : Nat} {h : Heap} (hr : ProgAt h lo hi p n M) (a b : Int) :
    Con Tryd.prog 78 #[p, .int .i64 a, .int .i64 b] h fun v h' => h' = h ∧ v = .bool (inR n a && inR n b) := by
  refine con_rel_Rel_inside ?_
  obtain ⟨hn, pb, rb, R, W, rfl, t⟩ := hr
  have hI : ∀ x : Int, 0 ≤ x → x < (n : Int) → inR n x = true := fun x h1 h2 => by simp [inR, h1, h2]
  by_cases h1 : a ≥ 0
  · by_cases h2 : a < (n : Int)
    · by_cases h3 : b ≥ 0
      · simp -dsimp only [go_sem, ↓reduceIte, reduceCtorEq, Nat.reduceEqDiff, Nat.reduceAdd, Nat.reduceLeDiff, Nat.reduceMul, Int.reduceBEq, Int.reduceBNe, Int.reduceLT, Int.reduceLE, Int.reduceGT, Int.reduceGE, h1, h2, h3, t.ptr.cell, decide_true]
        simp [inR, h1, h2, h3]
        try exact fun _ => h1
      · simp -dsimp only [go_sem, ↓reduceIte, reduceCtorEq, Nat.reduceEqDiff, Nat.reduceAdd, Nat.reduceLeDiff, Nat.reduceMul, Int.reduceBEq, Int.reduceBNe, Int.reduceLT, Int.reduceLE, Int.reduceGT, Int.reduceGE, h1, h2, h3, t.ptr.cell, decide_true, decide_false]
        simp [inR, h1, h2]; omega
    · simp -dsimp only [go_sem, ↓reduceIte, reduceCtorEq, Nat.reduceEqDiff, Nat.reduceAdd, Nat.reduceLeDiff, Nat.reduceMul, Int.reduceBEq, Int.reduceBNe, Int.reduceLT, Int.reduceLE, Int.reduceGT, Int.reduceGE, h1, h2, t.ptr.cell, decide_true, decide_false]
      simp [inR]; omega
  · simp -dsimp only [go_sem, ↓reduceIte, reduceCtorEq, Nat.reduceEqDiff, Nat.reduceAdd, Nat.reduceLeDiff, Nat.reduceMul, Int.reduceBEq, Int.reduceBNe, Int.reduceLT, Int.reduceLE, Int.reduceGT, Int.reduceGE, h1, decide_false]
    simp [inR]; omega
theorem row_has {W : Nat → Nat} {w p : Nat} {xv : Value} {h : Heap} (hx : Rd 1 h xv w (wrow w W)) (hp : p / 64 < w) (hW : W (p / 64) < 2 ^ 64) (hp6 : p ≤ 65536) :
    Con Tryd.prog 75 #[xv, .int .i64 p] h fun v h' => h' = h ∧ v = .bool ((W (p / 64)).testBit (p % 64)) := by
  refine con_rel_row_has ?_
  obtain ⟨xa, xc, rfl⟩ := hx.is
  simp -dsimp only [go_sem, ↓reduceIte, reduceCtorEq, Nat.reduceEqDiff, Nat.reduceAdd, Nat.reduceLeDiff, Nat.reduceMul, Int.reduceBEq, Int.reduceBNe, Int.reduceLT, Int.reduceLE, Int.reduceGT, Int.reduceGE]
  rw [tdiv64]
  refine Chk_intro (by decide) ?_
  rw [wrap64 (by omega) (by omega)]
  simp -dsimp only [go_sem, ↓reduceIte, reduceCtorEq, Nat.reduceEqDiff, Nat.reduceAdd, Nat.reduceLeDiff, Nat.reduceMul, Int.reduceBEq, Int.reduceBNe, Int.reduceLT, Int.reduceLE, Int.reduceGT, Int.reduceGE]
  refine Chk_intro (by omega) (hx.idx (by omega) fun b o c => ?_)
  have c := c _ _ (wrow_get hp)
  simp -dsimp only [go_sem, ↓reduceIte, reduceCtorEq, Nat.reduceEqDiff, Nat.reduceAdd, Nat.reduceLeDiff, Nat.reduceMul, Int.reduceBEq, Int.reduceBNe, Int.reduceLT, Int.reduceLE, Int.reduceGT, Int.reduceGE, c]
  rw [tmod64]
  refine Chk_intro (by decide) ?_
  simp -dsimp only [go_sem, ↓reduceIte, reduceCtorEq, Nat.reduceEqDiff, Nat.reduceAdd, Nat.reduceLeDiff, Nat.reduceMul, Int.reduceBEq, Int.reduceBNe, Int.reduceLT, Int.reduceLE, Int.reduceGT, Int.reduceGE]
  have e64 : ((W (p / 64) : Nat) : Int).fdiv (2 ^ min (p % 64) 64) = ((W (p / 64) / 2 ^ (p % 64) : Nat) : Int) := shr64 (W (p / 64)) (p % 64) (by omega)
  rw [e64]
  have hd : W (p / 64) / 2 ^ (p % 64) < 2 ^ 64 := Nat.lt_of_le_of_lt (Nat.div_le_self _ _) hW
  have ha : IntKind.u64.wrap ((BitVec.ofInt IntKind.u64.bits ((W (p / 64) / 2 ^ (p % 64) : Nat) : Int) &&& BitVec.ofInt IntKind.u64.bits 1).toNat : Int) = ((W (p / 64) / 2 ^ (p % 64) &&& 1 : Nat) : Int) := and64 (b := 1) hd (by decide)
  rw [ha, bit_has hW (by omega)]

theorem ptab_rd {h : Heap} {lo hi pb rb n : Nat} {R : Nat → Nat} {W : Nat → Nat → Nat} {M : Nat → Nat → Bool} (t : PTab h lo hi pb rb n R W M) {i : Nat} (hi' : i < n) : Rd 1 h (.slice (some ⟨R i, 0, none⟩) (nw n) (nw n)) (nw n) (wrow (nw n) (W i)) :=
  (t.row i hi').1.rd (by simp)

/-- A truth is put into a relation. -/
def putM (n : Nat) (M : Nat → Nat → Bool) (a b : Int) (put : Bool) (i j : Nat) : Bool := if inR n a && inR n b && a == i && b == j then put else M i j

theorem rel_PutT {n : Nat} {M : Nat → Nat → Bool} {lo hi pb rb : Nat} {R : Nat → Nat} {W : Nat → Nat → Nat} {h : Heap} (hn : n ≤ 256) (t : PTab h lo hi pb rb n R W M) (a b : Int) (put : Bool) :
    Con Tryd.prog 52 #[.pointer (some ⟨pb, 0, none⟩), .int .i64 a, .int .i64 b, .bool put] h fun v h' => Fr lo hi h h' ∧ h'.size = h.size ∧ v = .bool (inR n a && inR n b && (M a.toNat b.toNat != put)) ∧ ∃ W', PTab h' lo hi pb rb n R W' (putM n M a b put) := by
  refine con_rel_Rel_Put ?_
  have hr0 : ProgAt h lo hi (.pointer (some ⟨pb, 0, none⟩)) n M := ⟨hn, pb, rb, R, W, rfl, t⟩
  simp -dsimp only [go_sem, ↓reduceIte, reduceCtorEq, Nat.reduceEqDiff, Nat.reduceAdd, Nat.reduceLeDiff, Nat.reduceMul, Int.reduceBEq, Int.reduceBNe, Int.reduceLT, Int.reduceLE, Int.reduceGT, Int.reduceGE]
  refine call_of (rel_inside hr0 a b) ?_
  rintro v h1 ⟨rfl, rfl⟩
  simp -dsimp only [go_sem, ↓reduceIte, reduceCtorEq, Nat.reduceEqDiff, Nat.reduceAdd, Nat.reduceLeDiff, Nat.reduceMul, Int.reduceBEq, Int.reduceBNe, Int.reduceLT, Int.reduceLE, Int.reduceGT, Int.reduceGE]
  by_cases hin : (inR n a && inR n b) = true
  · have hin' := hin
    simp only [Bool.and_eq_true, inR, decide_eq_true_eq] at hin'
    obtain ⟨x, rfl⟩ : ∃ x : Nat, a = x := ⟨a.toNat, by omega⟩
    obtain ⟨y, rfl⟩ : ∃ y : Nat, b = y := ⟨b.toNat, by omega⟩
    have hx : x < n := by omega
    have hy : y < n := by omega
    obtain ⟨hrw, _, _, hnp, hnr, hbits⟩ := t.row x hx
    simp -dsimp only [go_sem, ↓reduceIte, reduceCtorEq, Nat.reduceEqDiff, Nat.reduceAdd, Nat.reduceLeDiff, Nat.reduceMul, Int.reduceBEq, Int.reduceBNe, Int.reduceLT, Int.reduceLE, Int.reduceGT, Int.reduceGE, hin, Bool.not_true, t.ptr.cell]
    refine Chk_intro (by omega) ?_
    simp -dsimp only [go_sem, ↓reduceIte, reduceCtorEq, Nat.reduceEqDiff, Nat.reduceAdd, Nat.reduceLeDiff, Nat.reduceMul, Int.reduceBEq, Int.reduceBNe, Int.reduceLT, Int.reduceLE, Int.reduceGT, Int.reduceGE, t.rowsGet hx, hin, Bool.not_true]
    refine call_of (row_has (p := y) (ptab_rd t hx) (by unfold nw; omega) (hbits _).1 (by omega)) ?_
    rintro v h2 ⟨rfl, rfl⟩
    rw [hbits.get hy]
    simp -dsimp only [go_sem, ↓reduceIte, reduceCtorEq, Nat.reduceEqDiff, Nat.reduceAdd, Nat.reduceLeDiff, Nat.reduceMul, Int.reduceBEq, Int.reduceBNe, Int.reduceLT, Int.reduceLE, Int.reduceGT, Int.reduceGE, hin, Bool.not_true]
    by_cases hM : M x y = put
    · simp -dsimp only [go_sem, ↓reduceIte, reduceCtorEq, Nat.reduceEqDiff, Nat.reduceAdd, Nat.reduceLeDiff, Nat.reduceMul, Int.reduceBEq, Int.reduceBNe, Int.reduceLT, Int.reduceLE, Int.reduceGT, Int.reduceGE, hin, Bool.not_true, hM, BEq.rfl]
      refine ⟨.refl _ _ _, by simp [hM], W, t.congr fun i j hi hj => ?_⟩
      simp only [putM]
      split
      · rename_i hc; simp at hc; obtain ⟨⟨_, e1⟩, e2⟩ := hc; have e1 : x = i := by omega
        have e2 : y = j := by omega
        subst e1 e2; exact hM
      · rfl
    · have hMb : (M x y == put) = false := by simpa using hM
      simp -dsimp only [go_sem, ↓reduceIte, reduceCtorEq, Nat.reduceEqDiff, Nat.reduceAdd, Nat.reduceLeDiff, Nat.reduceMul, Int.reduceBEq, Int.reduceBNe, Int.reduceLT, Int.reduceLE, Int.reduceGT, Int.reduceGE, hin, Bool.not_true, hMb, t.ptr.cell]
      refine Chk_intro (by omega) ?_
      simp -dsimp only [go_sem, ↓reduceIte, reduceCtorEq, Nat.reduceEqDiff, Nat.reduceAdd, Nat.reduceLeDiff, Nat.reduceMul, Int.reduceBEq, Int.reduceBNe, Int.reduceLT, Int.reduceLE, Int.reduceGT, Int.reduceGE, t.rowsGet hx]
      rw [tdiv64]
      refine Chk_intro (by decide) ?_
      rw [wrap64 (by omega) (by omega)]
      have hyw : y / 64 < nw n := by unfold nw; omega
      simp -dsimp only [go_sem, ↓reduceIte, reduceCtorEq, Nat.reduceEqDiff, Nat.reduceAdd, Nat.reduceLeDiff, Nat.reduceMul, Int.reduceBEq, Int.reduceBNe, Int.reduceLT, Int.reduceLE, Int.reduceGT, Int.reduceGE]
      refine Chk_intro (by omega) ?_
      simp -dsimp only [go_sem, ↓reduceIte, reduceCtorEq, Nat.reduceEqDiff, Nat.reduceAdd, Nat.reduceLeDiff, Nat.reduceMul, Int.reduceBEq, Int.reduceBNe, Int.reduceLT, Int.reduceLE, Int.reduceGT, Int.reduceGE, hrw.cell, wrow_get hyw]
      rw [tmod64]
      refine Chk_intro (by decide) ?_
      simp -dsimp only [go_sem, ↓reduceIte, reduceCtorEq, Nat.reduceEqDiff, Nat.reduceAdd, Nat.reduceLeDiff, Nat.reduceMul, Int.reduceBEq, Int.reduceBNe, Int.reduceLT, Int.reduceLE, Int.reduceGT, Int.reduceGE]
      have e64 : IntKind.u64.wrap (1 * 2 ^ min (y % 64) 64) = ((2 ^ (y % 64) : Nat) : Int) := shl64 (y % 64) (by omega)
      first | rw [e64] | rw [shl64 _ (by omega)]
      rw [xor64 (hbits _).1 (Nat.pow_lt_pow_right (by decide) (by omega))]
      refine Chk_intro (by omega) ?_
      simp -dsimp only [go_sem, ↓reduceIte, reduceCtorEq, Nat.reduceEqDiff, Nat.reduceAdd, Nat.reduceLeDiff, Nat.reduceMul, Int.reduceBEq, Int.reduceBNe, Int.reduceLT, Int.reduceLE, Int.reduceGT, Int.reduceGE]
      refine Chk_intro (hrw.wr (by simp; omega)) fun h2 s2 => ?_
      simp -dsimp only [go_sem, ↓reduceIte, reduceCtorEq, Nat.reduceEqDiff, Nat.reduceAdd, Nat.reduceLeDiff, Nat.reduceMul, Int.reduceBEq, Int.reduceBNe, Int.reduceLT, Int.reduceLE, Int.reduceGT, Int.reduceGE]
      refine ⟨s2.fr.mono (by omega), s2.size, by have := hin; simp at this; simp [this, hM], _, PTab.congr (M := fun i => if i = x then fun q => if q = y then !M x y else M x q else M i) (t.upd hx s2 wrow_set (hbits.flip hy)) fun i j hi hj => ?_⟩
      have hp : put = !M x y := by cases put <;> cases hm : M x y <;> simp_all
      simp only [putM, hin, hp]
      by_cases hix : i = x
      · subst hix
        by_cases hjy : j = y
        · subst hjy; simp
        · have : ((y : Int) == (j : Int)) = false := by simp; omega
          simp [hjy, this]
      · have : ((x : Int) == (i : Int)) = false := by simp; omega
        simp [hix, this]
  · have hin : (inR n a && inR n b) = false := by simpa using hin
    simp -dsimp only [go_sem, ↓reduceIte, reduceCtorEq, Nat.reduceEqDiff, Nat.reduceAdd, Nat.reduceLeDiff, Nat.reduceMul, Int.reduceBEq, Int.reduceBNe, Int.reduceLT, Int.reduceLE, Int.reduceGT, Int.reduceGE, hin, Bool.not_false]
    exact ⟨.refl _ _ _, by simp, W, t.congr fun i j hi hj => by simp [putM, hin]⟩
theorem rel_Put {n : Nat} {M : Nat → Nat → Bool} {p : Value} {lo hi : Nat} {h : Heap} (hr : ProgAt h lo hi p n M) (a b : Int) (put : Bool) :
    Con Tryd.prog 52 #[p, .int .i64 a, .int .i64 b, .bool put] h fun v h' => Fr lo hi h h' ∧ h'.size = h.size ∧ v = .bool (inR n a && inR n b && (M a.toNat b.toNat != put)) ∧ ProgAt h' lo hi p n (putM n M a b put) := by
  obtain ⟨hn, pb, rb, R, W, rfl, t⟩ := hr
  exact (rel_PutT hn t a b put).mono fun v h' ⟨h1, h2, h3, W', h4⟩ => ⟨h1, h2, h3, hn, pb, rb, R, W', rfl, h4⟩
end Go.Proofs.Tst
namespace Go.Proofs.Tst
open Go Go.Vc
theorem ite_max (n : Int) : (if (if (256 : Int) < n then 256 else n) > 0 then (if (256 : Int) < n then 256 else n) else 0) = (clampN n : Int) := by
  unfold clampN; split <;> split <;> omega

/-- The rows' slices, the first i of them made. -/
def rowsTo (k : Nat) (R : Nat → Nat) (i : Nat) : List Value := (List.range k).map fun (j : Nat) => if j < i then Value.slice (some ⟨R j, 0, none⟩) (nw k) (nw k) else Value.slice none 0 0
theorem length_rowsTo (k : Nat) (R : Nat → Nat) (i : Nat) : (rowsTo k R i).length = k := by simp [rowsTo]
theorem rowsTo_zero (k : Nat) (R : Nat → Nat) : List.replicate k (Value.slice none 0 0) = rowsTo k R 0 := by
  apply List.ext_getElem?; intro j
  by_cases hj : j < k
  · simp [rowsTo, hj]
  · simp [rowsTo, hj]
theorem rowsTo_set (k : Nat) (R : Nat → Nat) (i b : Nat) (hi : i < k) : (rowsTo k R i).set i (.slice (some ⟨b, 0, none⟩) (nw k) (nw k)) = rowsTo k (fun j => if j = i then b else R j) (i + 1) := by
  apply List.ext_getElem?; intro j
  by_cases hj : j < k
  · rw [List.getElem?_set]
    by_cases hij : i = j
    · subst hij; simp [rowsTo, hj]
    · have e1 : (j < i + 1) = (j < i) := by simp; omega
      simp [rowsTo, hij, hj, Ne.symm hij, e1]
  · rw [List.getElem?_eq_none (by simp [rowsTo]; omega), List.getElem?_eq_none (by simp [rowsTo]; omega)]

theorem rel_New (n : Int) (h : Heap) : Con Tryd.prog 55 #[.int .i64 n] h fun v h' => Fr 0 0 h h' ∧ ProgAt h' h.size h'.size v (clampN n) (fun _ _ => false) := by
  refine con_rel_New ?_
  simp -dsimp only [go_sem, ↓reduceIte, reduceCtorEq, Nat.reduceEqDiff, Nat.reduceAdd, Nat.reduceLeDiff, Nat.reduceMul, Int.reduceBEq, Int.reduceBNe, Int.reduceLT, Int.reduceLE, Int.reduceGT, Int.reduceGE]
  rw [ite_max]
  have hc : clampN n ≤ 256 := by unfold clampN; omega
  generalize clampN n = k at *
  refine Chk_intro (by omega) ?_
  intro rb h1 n1
  simp -dsimp only [go_sem, ↓reduceIte, reduceCtorEq, Nat.reduceEqDiff, Nat.reduceAdd, Nat.reduceLeDiff, Nat.reduceMul, Int.reduceBEq, Int.reduceBNe, Int.reduceLT, Int.reduceLE, Int.reduceGT, Int.reduceGE]
  intro pb h2 n2
  have r1 := n2.rw n1.row
  rw [zeros_one, Int.toNat_natCast, rowsTo_zero k fun _ => 0] at r1
  have r2 := n2.row
  have z1 := n1.size; have z2 := n2.size; have a1 := n1.at_; have a2 := n2.at_
  have p2 : Fr 0 0 h h2 := (n1.fr (lo := 0) (hi := 0)).trans n2.fr
  simp -dsimp only [go_sem, ↓reduceIte, reduceCtorEq, Nat.reduceEqDiff, Nat.reduceAdd, Nat.reduceLeDiff, Nat.reduceMul, Int.reduceBEq, Int.reduceBNe, Int.reduceLT, Int.reduceLE, Int.reduceGT, Int.reduceGE, r2.cell]
  refine loop_intro (fun i : Nat => [(0, .int .i64 k), (3, .pointer (some ⟨pb, 0, none⟩)), (17, .int .i64 k), (18, .int .i64 i)])
    (fun i h' => i ≤ k ∧ Fr 0 0 h h' ∧ h2.size ≤ h'.size ∧ Rw h' pb [.int .i64 k, .slice (some ⟨rb, 0, none⟩) k k] ∧ ∃ R, Rw h' rb (rowsTo k R i) ∧ (∀ j, j < i → Rw h' (R j) (wrow (nw k) fun _ => 0) ∧ h2.size ≤ R j ∧ R j < h'.size) ∧ ∀ x y, x < i → y < i → R x = R y → x = y)
    (fun i => k - i) 0 ?_ ?_ ?_
  · simp [Le, find]
  · exact ⟨by omega, p2, by omega, r2, _, r1, fun j hj => by omega, fun x y hx => by omega⟩
  rintro i h3 ⟨hi, p3, y3, r2, R, r1, hR, hinj⟩
  simp -dsimp only [go_sem, ↓reduceIte, reduceCtorEq, Nat.reduceEqDiff, Nat.reduceAdd, Nat.reduceLeDiff, Nat.reduceMul, Int.reduceBEq, Int.reduceBNe, Int.reduceLT, Int.reduceLE, Int.reduceGT, Int.reduceGE]
  refine ⟨fun hlt => ?_, fun hge => ?_⟩
  · have hlt : i < k := by omega
    simp -dsimp only [go_sem, ↓reduceIte, reduceCtorEq, Nat.reduceEqDiff, Nat.reduceAdd, Nat.reduceLeDiff, Nat.reduceMul, Int.reduceBEq, Int.reduceBNe, Int.reduceLT, Int.reduceLE, Int.reduceGT, Int.reduceGE, r2.cell]
    rw [wrap64 (by omega) (by omega), show ((k : Int) + 63) = ((k + 63 : Nat) : Int) from by omega, tdiv64, wrap64 (by omega) (by omega)]
    refine Chk_intro (by decide) ?_
    simp -dsimp only [go_sem, ↓reduceIte, reduceCtorEq, Nat.reduceEqDiff, Nat.reduceAdd, Nat.reduceLeDiff, Nat.reduceMul, Int.reduceBEq, Int.reduceBNe, Int.reduceLT, Int.reduceLE, Int.reduceGT, Int.reduceGE]
    refine Chk_intro (by omega) ?_
    intro b4 h4 n4
    have z4 := n4.size; have a4 := n4.at_
    have r4 := n4.row
    rw [zeros_one, Int.toNat_natCast, wrow_zero] at r4
    simp -dsimp only [go_sem, ↓reduceIte, reduceCtorEq, Nat.reduceEqDiff, Nat.reduceAdd, Nat.reduceLeDiff, Nat.reduceMul, Int.reduceBEq, Int.reduceBNe, Int.reduceLT, Int.reduceLE, Int.reduceGT, Int.reduceGE]
    refine Chk_intro (by omega) ?_
    simp -dsimp only [go_sem, ↓reduceIte, reduceCtorEq, Nat.reduceEqDiff, Nat.reduceAdd, Nat.reduceLeDiff, Nat.reduceMul, Int.reduceBEq, Int.reduceBNe, Int.reduceLT, Int.reduceLE, Int.reduceGT, Int.reduceGE]
    have r14 := n4.rw r1
    have r24 := n4.rw r2
    refine Chk_intro (r14.wr (by rw [length_rowsTo]; omega)) fun h5 s5 => ?_
    have r15 := s5.row r14
    rw [cl_slice, putAt_one, show (k + 63) / 64 = nw k from rfl, rowsTo_set _ _ _ _ hlt] at r15
    have z5 := s5.size
    simp -dsimp only [go_sem, ↓reduceIte, reduceCtorEq, Nat.reduceEqDiff, Nat.reduceAdd, Nat.reduceLeDiff, Nat.reduceMul, Int.reduceBEq, Int.reduceBNe, Int.reduceLT, Int.reduceLE, Int.reduceGT, Int.reduceGE]
    simp -dsimp (disch := omega) only [wrap64]
    refine ⟨i + 1, by omega, by simp [Le, find], by omega, (p3.trans n4.fr).fresh s5.fr (by omega), by omega, s5.rw r24 (by omega), _, r15, fun j hj => ?_, fun x y hx hy => ?_⟩
    · by_cases hji : j = i
      · subst hji; simp only [if_true]
        exact ⟨s5.rw r4 (by omega), by omega, by omega⟩
      · simp only [if_neg hji]
        obtain ⟨g1, g2, g3⟩ := hR j (by omega)
        exact ⟨s5.rw (n4.rw g1) (by omega), g2, by omega⟩
    · have gx : x < i → R x < b4 := fun h => by have := (hR x h).2.2; omega
      have gy : y < i → R y < b4 := fun h => by have := (hR y h).2.2; omega
      split <;> split <;> intro he
      · omega
      · have := gy (by omega); omega
      · have := gx (by omega); omega
      · exact hinj x y (by omega) (by omega) he
  · have hik : i = k := by omega
    subst hik
    simp -dsimp only [go_sem, ↓reduceIte, reduceCtorEq, Nat.reduceEqDiff, Nat.reduceAdd, Nat.reduceLeDiff, Nat.reduceMul, Int.reduceBEq, Int.reduceBNe, Int.reduceLT, Int.reduceLE, Int.reduceGT, Int.reduceGE]
    refine ⟨p3, hc, pb, rb, R, fun _ _ => 0, rfl, r2, ?_, fun j hj => ?_, fun x y hx hy => hinj x y hx hy, by omega⟩
    · have e : rowsTo i R i = (List.range i).map fun (j : Nat) => Value.slice (some ⟨R j, 0, none⟩) (nw i) (nw i) := by
        unfold rowsTo
        apply List.map_congr_left
        intro j hj
        rw [if_pos (List.mem_range.1 hj)]
      rw [e] at r1; exact r1
    · obtain ⟨g1, g2, g3⟩ := hR j hj
      exact ⟨g1, by omega, g3, by omega, by omega, Bits.zero _⟩

theorem rel_Of (n : Int) (lv : Value) (l : List (Int × Int)) (h : Heap) (hl : Rd 2 h lv l.length (pairsV l)) (hb : l.length ≤ 4611686018427387904) :
    Con Tryd.prog 14 #[.int .i64 n, lv] h fun v h' => Fr 0 0 h h' ∧ ProgAt h' h.size h'.size v (clampN n) (ofM (clampN n) l) := by
  refine con_rel_Of ?_
  obtain ⟨a, c, rfl⟩ := hl.is
  simp -dsimp only [go_sem, ↓reduceIte, reduceCtorEq, Nat.reduceEqDiff, Nat.reduceAdd, Nat.reduceLeDiff, Nat.reduceMul, Int.reduceBEq, Int.reduceBNe, Int.reduceLT, Int.reduceLE, Int.reduceGT, Int.reduceGE]
  refine call_of (rel_New n h) ?_
  rintro v h1 ⟨p1, t1⟩
  simp -dsimp only [go_sem, ↓reduceIte, reduceCtorEq, Nat.reduceEqDiff, Nat.reduceAdd, Nat.reduceLeDiff, Nat.reduceMul, Int.reduceBEq, Int.reduceBNe, Int.reduceLT, Int.reduceLE, Int.reduceGT, Int.reduceGE]
  refine loop_intro (fun i : Nat => [(5, v), (10, .slice a l.length c), (11, .int .i64 l.length), (12, .int .i64 i)])
    (fun i h' => i ≤ l.length ∧ Fr 0 0 h h' ∧ h1.size ≤ h'.size ∧ ProgAt h' h.size h1.size v (clampN n) (ofM (clampN n) (l.take i)))
    (fun i => l.length - i) 0 ?_ ?_ ?_
  · simp [Le, find]
  · exact ⟨by omega, p1, by omega, t1.congr fun _ _ _ _ => by simp [ofM]⟩
  rintro i h2 ⟨hi, p2, y2, t2⟩
  simp -dsimp only [go_sem, ↓reduceIte, reduceCtorEq, Nat.reduceEqDiff, Nat.reduceAdd, Nat.reduceLeDiff, Nat.reduceMul, Int.reduceBEq, Int.reduceBNe, Int.reduceLT, Int.reduceLE, Int.reduceGT, Int.reduceGE]
  refine ⟨fun hlt => ?_, fun hge => ?_⟩
  · have hlt : i < l.length := by omega
    have hp : l[i]? = some l[i] := by simp [hlt]
    generalize l[i] = p at hp
    simp -dsimp only [go_sem, ↓reduceIte, reduceCtorEq, Nat.reduceEqDiff, Nat.reduceAdd, Nat.reduceLeDiff, Nat.reduceMul, Int.reduceBEq, Int.reduceBNe, Int.reduceLT, Int.reduceLE, Int.reduceGT, Int.reduceGE]
    refine Chk_intro (by omega) ((hl.fr p2).pair hp fun b o c1 c2 => ?_)
    simp -dsimp only [go_sem, ↓reduceIte, reduceCtorEq, Nat.reduceEqDiff, Nat.reduceAdd, Nat.reduceLeDiff, Nat.reduceMul, Int.reduceBEq, Int.reduceBNe, Int.reduceLT, Int.reduceLE, Int.reduceGT, Int.reduceGE, c1, c2]
    intro b3 h3 n3
    have r3 := n3.row
    simp -dsimp only [go_sem, ↓reduceIte, reduceCtorEq, Nat.reduceEqDiff, Nat.reduceAdd, Nat.reduceLeDiff, Nat.reduceMul, Int.reduceBEq, Int.reduceBNe, Int.reduceLT, Int.reduceLE, Int.reduceGT, Int.reduceGE]
    refine ⟨r3.wr (by simp), fun h4 s4 => ?_⟩
    have r4 := s4.row r3
    simp -dsimp only [go_sem, ↓reduceIte, reduceCtorEq, Nat.reduceEqDiff, Nat.reduceAdd, Nat.reduceLeDiff, Nat.reduceMul, Int.reduceBEq, Int.reduceBNe, Int.reduceLT, Int.reduceLE, Int.reduceGT, Int.reduceGE] at r4
    have z3 := n3.size; have a3 := n3.at_; have z4 := s4.size; have z1 := p1.size
    have t4 := (t2.fr (n3.fr (lo := 0) (hi := 0)) (by omega)).fr s4.fr (by omega)
    have p4 := (p2.trans n3.fr).fresh s4.fr (by omega)
    simp -dsimp only [go_sem, ↓reduceIte, reduceCtorEq, Nat.reduceEqDiff, Nat.reduceAdd, Nat.reduceLeDiff, Nat.reduceMul, Int.reduceBEq, Int.reduceBNe, Int.reduceLT, Int.reduceLE, Int.reduceGT, Int.reduceGE, r4.cell]
    refine call_of (rel_Put t4 p.1 p.2 true) ?_
    rintro v5 h5 ⟨f5, z5, rfl, t5⟩
    simp -dsimp only [go_sem, ↓reduceIte, reduceCtorEq, Nat.reduceEqDiff, Nat.reduceAdd, Nat.reduceLeDiff, Nat.reduceMul, Int.reduceBEq, Int.reduceBNe, Int.reduceLT, Int.reduceLE, Int.reduceGT, Int.reduceGE]
    simp -dsimp (disch := omega) only [wrap64]
    refine ⟨i + 1, by omega, by simp [Le, find], by omega, p4.fresh f5 (by omega), by omega, t5.congr fun x y hx hy => ?_⟩
    rw [ofM_take hp]
    simp only [putM]
    split <;> rename_i hc
    · rw [hc]; simp
    · have : (inR (clampN n) p.1 && inR (clampN n) p.2 && p.1 == (x : Int) && p.2 == (y : Int)) = false := by simpa using hc
      rw [this]; simp
  · have hil : i = l.length := by omega
    subst hil
    rw [List.take_length] at t2
    simp -dsimp only [go_sem, ↓reduceIte, reduceCtorEq, Nat.reduceEqDiff, Nat.reduceAdd, Nat.reduceLeDiff, Nat.reduceMul, Int.reduceBEq, Int.reduceBNe, Int.reduceLT, Int.reduceLE, Int.reduceGT, Int.reduceGE]
    exact ⟨p2, t2.mono (Nat.le_refl _) y2⟩
end Go.Proofs.Tst
namespace Go.Proofs.Tst
open Go Go.Vc
theorem TrailingZeros64 {x k : Nat} {h : Heap} (hx : x < 2 ^ 64) (hk : Low x k) (ht : TabAt h) :
    Con Tryd.prog 106 #[.int .u64 x] h fun v h' => h' = h ∧ v = .int .i64 k := by
  refine con_math_bits_TrailingZeros64 ?_
  have h0 : x ≠ 0 := by rintro rfl; have := hk.1; simp at this
  simp -dsimp only [go_sem, ↓reduceIte, reduceCtorEq, Nat.reduceEqDiff, Nat.reduceAdd, Nat.reduceLeDiff, Nat.reduceMul, Int.reduceBEq, Int.reduceBNe, Int.reduceLT, Int.reduceLE, Int.reduceGT, Int.reduceGE]
  refine ⟨fun h => absurd h (by simp; omega), fun _ => ?_⟩
  simp -dsimp only [go_sem, ↓reduceIte, reduceCtorEq, Nat.reduceEqDiff, Nat.reduceAdd, Nat.reduceLeDiff, Nat.reduceMul, Int.reduceBEq, Int.reduceBNe, Int.reduceLT, Int.reduceLE, Int.reduceGT, Int.reduceGE]
  have hk64 := hk.lt hx
  obtain ⟨y, hy⟩ : ∃ y, x + y = 18446744073709551616 := ⟨18446744073709551616 - x, by omega⟩
  have hi := tab64_at k hk64
  obtain ⟨z, hz⟩ : ∃ z, 2 ^ k * 285870213051353865 % 18446744073709551616 = z := ⟨_, rfl⟩
  obtain ⟨p, hp⟩ : ∃ p, 2 ^ k = p := ⟨_, rfl⟩
  have hpl : p < 2 ^ 64 := by rw [← hp]; exact Nat.pow_lt_pow_right (by decide) hk64
  have e58 : (z : Int).fdiv (2 ^ min (Int.toNat 58) 64) = ((z / 2 ^ 58 : Nat) : Int) := shr64 z 58 (by decide)
  rw [neg64 x y hy (by omega), and64 hx (by omega), hk.and_neg' hy (by omega), hp, show (285870213051353865 : Int) = ((285870213051353865 : Nat) : Int) from rfl, mul64 _ _ z (by rw [← hp]; exact hz), e58]
  have hi : tab64[z / 2 ^ 58]? = some k := by rw [← hz]; exact hi
  generalize z / 2 ^ 58 = i at hi
  have hi64 : i < 64 := (List.getElem?_eq_some_iff.1 hi).1
  refine Chk_intro (by omega) ?_
  simp -dsimp only [go_sem, ↓reduceIte, reduceCtorEq, Nat.reduceEqDiff, Nat.reduceAdd, Nat.reduceLeDiff, Nat.reduceMul, Int.reduceBEq, Int.reduceBNe, Int.reduceLT, Int.reduceLE, Int.reduceGT, Int.reduceGE, ht i k hi]
  rw [wrap64 (by omega) (by omega)]
end Go.Proofs.Tst
namespace Go.Proofs.Tst
open Go Go.Vc
/-- What the iterator over a row reads. -/
def RowC (b : Nat) (xv : Value) (w : Nat) (W : Nat → Nat) (h : Heap) : Prop := hcell h b 0 = some xv ∧ Rd 1 h xv w (wrow w W) ∧ TabAt h

theorem points_1 {b w : Nat} {xv : Value} {W : Nat → Nat} (hW : ∀ j, W j < 2 ^ 64) (hw : w ≤ 1024) :
    Iter Tryd.prog 105 #[.pointer (some ⟨b, 0, none⟩)] ((rest (wbit W) (64 * w) 0).map fun (p : Nat) => [Value.int .i64 (p : Int)]) (RowC b xv w W) := by
  refine ⟨by unfold goodF; rw [Tryd.func105]; rfl, fun l I X hy h hI hC => ?_⟩
  show ConX (some l) Tryd.prog 105 #[.func (.yield l) #[] #[], .pointer (some ⟨b, 0, none⟩)] h _
  refine con_rel_row_points_1 ?_
  obtain ⟨xa, xc, rfl⟩ := hC.2.1.is
  simp -dsimp only [go_sem, ↓reduceIte, reduceCtorEq, Nat.reduceEqDiff, Nat.reduceAdd, Nat.reduceLeDiff, Nat.reduceMul, Int.reduceBEq, Int.reduceBNe, Int.reduceLT, Int.reduceLE, Int.reduceGT, Int.reduceGE, hC.1]
  refine loop_intro (fun i : Nat => [(0, .func (.yield l) #[] #[]), (5, .slice xa w xc), (6, .int .i64 w), (7, .int .i64 i)])
    (fun i h' => i ≤ w ∧ RowC b (.slice xa w xc) w W h' ∧ ∃ d, d ≤ (rest (wbit W) (64 * w) 0).length ∧ (rest (wbit W) (64 * w) 0).drop d = rest (wbit W) (64 * w) (64 * i) ∧ I d h') (fun i => w - i) 0 ?_ ?_ ?_
  · simp [Le, find]
  · exact ⟨by omega, hC, 0, Nat.zero_le _, rfl, hI⟩
  rintro i h1 ⟨hi, hC1, d, hdl, hd, hI1⟩
  simp -dsimp only [go_sem, ↓reduceIte, reduceCtorEq, Nat.reduceEqDiff, Nat.reduceAdd, Nat.reduceLeDiff, Nat.reduceMul, Int.reduceBEq, Int.reduceBNe, Int.reduceLT, Int.reduceLE, Int.reduceGT, Int.reduceGE]
  refine ⟨fun hlt => ?_, fun hge => ?_⟩
  · have hlt : i < w := by omega
    simp -dsimp only [go_sem, ↓reduceIte, reduceCtorEq, Nat.reduceEqDiff, Nat.reduceAdd, Nat.reduceLeDiff, Nat.reduceMul, Int.reduceBEq, Int.reduceBNe, Int.reduceLT, Int.reduceLE, Int.reduceGT, Int.reduceGE]
    refine Chk_intro (by omega) (hC1.2.1.idx (by omega) fun b2 o2 c2 => ?_)
    simp -dsimp only [go_sem, ↓reduceIte, reduceCtorEq, Nat.reduceEqDiff, Nat.reduceAdd, Nat.reduceLeDiff, Nat.reduceMul, Int.reduceBEq, Int.reduceBNe, Int.reduceLT, Int.reduceLE, Int.reduceGT, Int.reduceGE, c2 i _ (wrow_get hlt)]
    refine loop_intro (fun s : Nat × Nat => [(0, .func (.yield l) #[] #[]), (3, .int .i64 i), (4, .int .u64 s.2), (5, .slice xa w xc), (6, .int .i64 w), (7, .int .i64 i)])
      (fun s h' => s.1 ≤ 64 ∧ RowC b (.slice xa w xc) w W h' ∧ s.2 < 2 ^ 64 ∧ (∀ k, s.2.testBit k = ((W i).testBit k && decide (s.1 ≤ k))) ∧ ∃ d, d ≤ (rest (wbit W) (64 * w) 0).length ∧ (rest (wbit W) (64 * w) 0).drop d = rest (wbit W) (64 * w) (64 * i + s.1) ∧ I d h')
      (fun s => 64 - s.1) (0, W i) ?_ ?_ ?_
    · simp [Le, find]
    · exact ⟨Nat.zero_le _, hC1, hW i, by simp, d, hdl, hd, hI1⟩
    rintro ⟨c, x⟩ h2 ⟨hc, hC2, hx, hbit, d, hdl, hd, hI2⟩
    dsimp only at hc hC2 hx hbit hd hI2 ⊢
    simp -dsimp only [go_sem, ↓reduceIte, reduceCtorEq, Nat.reduceEqDiff, Nat.reduceAdd, Nat.reduceLeDiff, Nat.reduceMul, Int.reduceBEq, Int.reduceBNe, Int.reduceLT, Int.reduceLE, Int.reduceGT, Int.reduceGE]
    have hg : ∀ k, k < 64 → wbit W (64 * i + k) = (W i).testBit k := fun k hk => by
      unfold wbit; rw [show (64 * i + k) / 64 = i from by omega, show (64 * i + k) % 64 = k from by omega]
    refine ⟨fun hx0 => ?_, fun hx0 => ?_⟩
    · have hx0 : x ≠ 0 := by rintro rfl; simp at hx0
      obtain ⟨k, hk⟩ := low_exists hx0
      have hk64 := hk.lt hx
      have hbk := hk.1
      rw [hbit] at hbk
      simp only [Bool.and_eq_true, decide_eq_true_eq] at hbk
      have hrest : rest (wbit W) (64 * w) (64 * i + c) = (64 * i + k) :: rest (wbit W) (64 * w) (64 * i + (k + 1)) := by
        rw [rest_skip (q := 64 * i + c) (k - c) (by omega) fun j h1 h2 => ?_, show 64 * i + c + (k - c) = 64 * i + k from by omega, rest_step (by omega), if_pos (by rw [hg k hk64]; exact hbk.1)]
        · rfl
        · obtain ⟨m, rfl⟩ : ∃ m, j = 64 * i + m := ⟨j - 64 * i, by omega⟩
          rw [hg m (by omega)]
          have := hk.2 m (by omega)
          rw [hbit] at this
          simpa [show c ≤ m by omega] using this
      simp -dsimp only [go_sem, ↓reduceIte, reduceCtorEq, Nat.reduceEqDiff, Nat.reduceAdd, Nat.reduceLeDiff, Nat.reduceMul, Int.reduceBEq, Int.reduceBNe, Int.reduceLT, Int.reduceLE, Int.reduceGT, Int.reduceGE]
      refine call_of (TrailingZeros64 hx hk hC2.2.2) ?_
      rintro v h3 ⟨rfl, rfl⟩
      simp -dsimp only [go_sem, ↓reduceIte, reduceCtorEq, Nat.reduceEqDiff, Nat.reduceAdd, Nat.reduceLeDiff, Nat.reduceMul, Int.reduceBEq, Int.reduceBNe, Int.reduceLT, Int.reduceLE, Int.reduceGT, Int.reduceGE]
      rw [wrap64 (n := 64 * (i : Int)) (by omega) (by omega), wrap64 (n := 64 * (i : Int) + (k : Int)) (by omega) (by omega)]
      rw [hrest] at hd
      have hdx : ((rest (wbit W) (64 * w) 0).map fun (p : Nat) => [Value.int .i64 (p : Int)])[d]? = some [.int .i64 ((64 * i + k : Nat) : Int)] := by
        rw [List.getElem?_map, ← List.head?_drop, hd]; rfl
      refine yld_of (hy d _ _ hdx hI2 hC2) ?_
      rintro v h4 (⟨rfl, hI4, hC4⟩ | ⟨rfl, hX4⟩)
      · simp -dsimp only [go_sem, ↓reduceIte, reduceCtorEq, Nat.reduceEqDiff, Nat.reduceAdd, Nat.reduceLeDiff, Nat.reduceMul, Int.reduceBEq, Int.reduceBNe, Int.reduceLT, Int.reduceLE, Int.reduceGT, Int.reduceGE]
        have e1 : IntKind.u64.wrap ((x : Int) - 1) = ((x - 1 : Nat) : Int) := by
          rw [wrapu64 (by omega) (by omega)]; omega
        rw [e1, and64 hx (by omega)]
        refine ⟨(k + 1, x &&& (x - 1)), by dsimp only; omega, by simp [Le, find], by dsimp only; omega, hC4, Nat.lt_of_le_of_lt Nat.and_le_left hx, fun m => ?_, d + 1, ?_, ?_, hI4⟩
        · rw [hk.strike, hbit]
          have hm := hk.2 m
          rw [hbit] at hm
          by_cases h1 : m < k
          · have := hm h1
            rw [this]
            simp [show ¬ k + 1 ≤ m by omega]
          · by_cases h2 : m = k
            · subst h2; simp
            · simp [h2, show k + 1 ≤ m by omega, show c ≤ m by omega]
        · have := congrArg List.length hd
          simp only [List.length_drop, List.length_cons] at this
          omega
        · rw [show d + 1 = 1 + d from by omega, ← List.drop_drop, List.drop_drop, Nat.add_comm 1 d, ← List.drop_drop, hd]; rfl
      · simp -dsimp only [go_sem, ↓reduceIte, reduceCtorEq, Nat.reduceEqDiff, Nat.reduceAdd, Nat.reduceLeDiff, Nat.reduceMul, Int.reduceBEq, Int.reduceBNe, Int.reduceLT, Int.reduceLE, Int.reduceGT, Int.reduceGE]
        exact .inr hX4
    · have hx0 : x = 0 := by simpa using hx0
      subst hx0
      simp -dsimp only [go_sem, ↓reduceIte, reduceCtorEq, Nat.reduceEqDiff, Nat.reduceAdd, Nat.reduceLeDiff, Nat.reduceMul, Int.reduceBEq, Int.reduceBNe, Int.reduceLT, Int.reduceLE, Int.reduceGT, Int.reduceGE]
      simp -dsimp (disch := omega) only [wrap64]
      refine ⟨i + 1, by omega, by simp [Le, find], by omega, hC2, d, hdl, ?_, hI2⟩
      rw [hd, rest_skip (q := 64 * i + c) (64 - c) (by omega) fun j h1 h2 => ?_, show 64 * i + c + (64 - c) = 64 * (i + 1) from by omega]
      obtain ⟨m, rfl⟩ : ∃ m, j = 64 * i + m := ⟨j - 64 * i, by omega⟩
      rw [hg m (by omega)]
      have := hbit m
      simp only [Nat.zero_testBit] at this
      simpa [show c ≤ m by omega] using this.symm
  · have : i = w := by omega
    subst this
    simp -dsimp only [go_sem, ↓reduceIte, reduceCtorEq, Nat.reduceEqDiff, Nat.reduceAdd, Nat.reduceLeDiff, Nat.reduceMul, Int.reduceBEq, Int.reduceBNe, Int.reduceLT, Int.reduceLE, Int.reduceGT, Int.reduceGE]
    refine .inl ⟨?_, hC1⟩
    rw [rest_end (Nat.le_refl _)] at hd
    have hle := List.drop_eq_nil_iff.1 hd
    rw [List.length_map, ← Nat.le_antisymm hdl hle]
    exact hI1
end Go.Proofs.Tst
namespace Go.Proofs.Tst
open Go Go.Vc
theorem rel_points (a : Option Addr) (n c : Nat) (h : Heap) : Con Tryd.prog 81 #[.slice a n c] h fun v h' => Fr 0 0 h h' ∧ v = .func (.func 105) #[] #[.pointer (some ⟨h.size, 0, none⟩)] ∧ hcell h' h.size 0 = some (.slice a n c) ∧ h'.size = h.size + 1 := by
  refine con_rel_row_points ?_
  simp -dsimp only [go_sem, ↓reduceIte, reduceCtorEq, Nat.reduceEqDiff, Nat.reduceAdd, Nat.reduceLeDiff, Nat.reduceMul, Int.reduceBEq, Int.reduceBNe, Int.reduceLT, Int.reduceLE, Int.reduceGT, Int.reduceGE]
  intro b h1 n1
  have r1 := n1.row
  have a1 := n1.at_
  subst a1
  simp -dsimp only [go_sem, ↓reduceIte, reduceCtorEq, Nat.reduceEqDiff, Nat.reduceAdd, Nat.reduceLeDiff, Nat.reduceMul, Int.reduceBEq, Int.reduceBNe, Int.reduceLT, Int.reduceLE, Int.reduceGT, Int.reduceGE]
  exact ⟨n1.fr, by rw [r1.cell]; rfl, n1.size⟩

theorem rel_Pairs {n : Nat} {M : Nat → Nat → Bool} {p : Value} {lo hi : Nat} {h : Heap} (hr : ProgAt h lo hi p n M) (ht : TabAt h) :
    Con Tryd.prog 53 #[p] h fun v h' => Fr 0 0 h h' ∧ Holder 2 h' v (pairsOf n M).length (pairsV (pairsOf n M)) h.size := by
  refine con_rel_Rel_Pairs (fun v h1 h2 x ⟨f, o⟩ => ⟨x.fr f (Nat.le_refl _), x.holder o⟩) ?_
  have hr0 := hr
  obtain ⟨hn, pb, rb, R, W, rfl, t⟩ := hr
  simp -dsimp only [go_sem, ↓reduceIte, reduceCtorEq, Nat.reduceEqDiff, Nat.reduceAdd, Nat.reduceLeDiff, Nat.reduceMul, Int.reduceBEq, Int.reduceBNe, Int.reduceLT, Int.reduceLE, Int.reduceGT, Int.reduceGE]
  intro b3 h1 n3
  have z3 := n3.size; have a3 := n3.at_
  have p1 : Fr 0 0 h h1 := n3.fr
  have t1 := t.fr p1 (by omega)
  simp -dsimp only [go_sem, ↓reduceIte, reduceCtorEq, Nat.reduceEqDiff, Nat.reduceAdd, Nat.reduceLeDiff, Nat.reduceMul, Int.reduceBEq, Int.reduceBNe, Int.reduceLT, Int.reduceLE, Int.reduceGT, Int.reduceGE, t1.ptr.cell]
  refine loop_intro (fun i : Nat => [(2, .slice none 0 0), (3, .pointer (some ⟨b3, 0, none⟩)), (10, .slice (some ⟨rb, 0, none⟩) n n), (11, .int .i64 n), (12, .int .i64 i)])
    (fun i h' => i ≤ n ∧ Fr 0 0 h h' ∧ ∃ sv, Rw h' b3 [sv] ∧ Holder 2 h' sv (pairsTo n M i).length (pairsV (pairsTo n M i)) (b3 + 1)) (fun i => n - i) 0 ?_ ?_ ?_
  · simp [Le, find]
  · exact ⟨by omega, p1, _, n3.row, .none _ _ _⟩
  rintro i h2 ⟨hi', p2, sv, r3, o2⟩
  have t2 := t.fr p2 (by omega)
  simp -dsimp only [go_sem, ↓reduceIte, reduceCtorEq, Nat.reduceEqDiff, Nat.reduceAdd, Nat.reduceLeDiff, Nat.reduceMul, Int.reduceBEq, Int.reduceBNe, Int.reduceLT, Int.reduceLE, Int.reduceGT, Int.reduceGE]
  refine ⟨fun hlt => ?_, fun hge => ?_⟩
  · have hlt : i < n := by omega
    simp -dsimp only [go_sem, ↓reduceIte, reduceCtorEq, Nat.reduceEqDiff, Nat.reduceAdd, Nat.reduceLeDiff, Nat.reduceMul, Int.reduceBEq, Int.reduceBNe, Int.reduceLT, Int.reduceLE, Int.reduceGT, Int.reduceGE]
    refine Chk_intro (by omega) ?_
    simp -dsimp only [go_sem, ↓reduceIte, reduceCtorEq, Nat.reduceEqDiff, Nat.reduceAdd, Nat.reduceLeDiff, Nat.reduceMul, Int.reduceBEq, Int.reduceBNe, Int.reduceLT, Int.reduceLE, Int.reduceGT, Int.reduceGE, t2.rowsGet hlt]
    intro b4 h4 n4
    have a4 := n4.at_; have z4 := n4.size
    have p4 := p2.trans n4.fr
    simp -dsimp only [go_sem, ↓reduceIte, reduceCtorEq, Nat.reduceEqDiff, Nat.reduceAdd, Nat.reduceLeDiff, Nat.reduceMul, Int.reduceBEq, Int.reduceBNe, Int.reduceLT, Int.reduceLE, Int.reduceGT, Int.reduceGE]
    refine ⟨n4.row.wr (by simp), fun h5 s5 => ?_⟩
    have r45 := s5.row n4.row
    have z5 := s5.size
    have k3 := r3.lt
    have r35 := s5.rw (n4.rw r3) (by omega)
    have w2 := o2.at_
    have o5 := (o2.fr (n4.fr (lo := 0) (hi := 0)) (by omega)).fr s5.fr (by omega)
    have y2 := p2.size
    have p5 := p4.fresh s5.fr (by omega)
    simp -dsimp only [go_sem, ↓reduceIte, reduceCtorEq, Nat.reduceEqDiff, Nat.reduceAdd, Nat.reduceLeDiff, Nat.reduceMul, Int.reduceBEq, Int.reduceBNe, Int.reduceLT, Int.reduceLE, Int.reduceGT, Int.reduceGE] at r45
    simp -dsimp only [go_sem, ↓reduceIte, reduceCtorEq, Nat.reduceEqDiff, Nat.reduceAdd, Nat.reduceLeDiff, Nat.reduceMul, Int.reduceBEq, Int.reduceBNe, Int.reduceLT, Int.reduceLE, Int.reduceGT, Int.reduceGE]
    refine call_of (rel_points _ _ _ h5) ?_
    rintro v h6 ⟨p6, rfl, c6, z6⟩
    simp -dsimp only [go_sem, ↓reduceIte, reduceCtorEq, Nat.reduceEqDiff, Nat.reduceAdd, Nat.reduceLeDiff, Nat.reduceMul, Int.reduceBEq, Int.reduceBNe, Int.reduceLT, Int.reduceLE, Int.reduceGT, Int.reduceGE]
    refine ⟨rfl, ?_⟩
    have t5 := t.fr p5 (by omega)
    have rd6 := (ptab_rd t5 hlt).fr p6
    have hbits := (t.row i hlt).2.2.2.2.2
    refine ⟨_, RowC h5.size (.slice (some ⟨R i, 0, none⟩) (nw n) (nw n)) (nw n) (W i),
      fun d h' => Fr 0 0 h h' ∧ Rw h' b4 [.int .i64 i] ∧ ∃ sv, Rw h' b3 [sv] ∧ bl sv ≠ b4 ∧ bl sv ≠ h5.size ∧ Holder 2 h' sv ((pairsTo n M i).length + d) (pairsV (pairsTo n M i ++ ((rest (M i) n 0).take d).map fun (b : Nat) => ((i : Int), (b : Int)))) (b3 + 1),
      fun _ _ => False, points_1 (fun j => (hbits j).1) (by unfold nw; omega), ?_, ?_, ?_, ?_, ?_, ?_, ?_, ?_, ?_⟩
    · intro x hx; obtain ⟨q, _, rfl⟩ := List.mem_map.1 hx; rfl
    · exact fun h1 h2 x ⟨c1, c2, c3⟩ => ⟨x.cell c1, x.rd c2, x.tab c3⟩
    · rintro d h1 h2 x ⟨q1, q2, sv', q3, q4, q4', q5⟩
      exact ⟨x.fr q1 (by have := p5.size; have := p6.size; omega), x.rw q2, sv', x.rw q3, q4, q4', x.holder q5⟩
    · exact fun _ _ _ _ h => h
    · exact ⟨p5.trans p6, r45.fr p6 (by omega), sv, r35.fr p6 (by omega), by omega, by omega, by simpa using o5.fr p6 (by omega)⟩
    · exact ⟨c6, rd6, (ht.fr (p5.trans p6) (by omega))⟩
    · rintro d x h7 hs7 hx ⟨q1, q2, sv7, q3, q4, q4', q5⟩ hC7
      rw [rest_bits hbits, List.getElem?_map, Option.map_eq_some_iff] at hx
      obtain ⟨q, hq, rfl⟩ := hx
      simp only [zipE]
      simp -dsimp only [go_sem, ↓reduceIte, reduceCtorEq, Nat.reduceEqDiff, Nat.reduceAdd, Nat.reduceLeDiff, Nat.reduceMul, Int.reduceBEq, Int.reduceBNe, Int.reduceLT, Int.reduceLE, Int.reduceGT, Int.reduceGE]
      intro h7' x7
      have q1 := x7.fr q1 (by have := p5.size; have := p6.size; omega)
      have q2 := x7.rw q2
      have q3 := x7.rw q3
      have q5 := x7.holder q5
      have hC7 : RowC h5.size (.slice (some ⟨R i, 0, none⟩) (nw n) (nw n)) (nw n) (W i) h7' := ⟨x7.cell hC7.1, x7.rd hC7.2.1, x7.tab hC7.2.2⟩
      obtain ⟨sa, sc, rfl⟩ := q5.is
      simp -dsimp only [go_sem, ↓reduceIte, reduceCtorEq, Nat.reduceEqDiff, Nat.reduceAdd, Nat.reduceLeDiff, Nat.reduceMul, Int.reduceBEq, Int.reduceBNe, Int.reduceLT, Int.reduceLE, Int.reduceGT, Int.reduceGE, q3.cell, q2.cell]
      intro b8 h8 n8
      have z8 := n8.size; have a8 := n8.at_
      simp -dsimp only [go_sem, ↓reduceIte, reduceCtorEq, Nat.reduceEqDiff, Nat.reduceAdd, Nat.reduceLeDiff, Nat.reduceMul, Int.reduceBEq, Int.reduceBNe, Int.reduceLT, Int.reduceLE, Int.reduceGT, Int.reduceGE, n8.row.cell]
      have hd := (List.getElem?_eq_some_iff.1 hq).1
      have g1 := length_rest_le (M i) n 0
      have g2 := length_pairsTo_le n M i
      have g3 : i * n ≤ 256 * 256 := Nat.mul_le_mul (by omega) (by omega)
      have w7 := q5.at_
      have k7 := q3.lt; have k7' := q2.lt
      have y7 := x7.size; have y5 := p5.size; have y6 := p6.size
      refine (q5.fr (n8.fr (lo := 0) (hi := 0)) (by omega)).append (by omega) rfl (by omega) (by simp) (by omega) fun v9 h9 o9 f9 e9 => ?_
      obtain ⟨va, vc, rfl⟩ := o9.is
      have w9 := o9.at_
      have y9 := f9.size
      simp -dsimp only [go_sem, ↓reduceIte, reduceCtorEq, Nat.reduceEqDiff, Nat.reduceAdd, Nat.reduceLeDiff, Nat.reduceMul, Int.reduceBEq, Int.reduceBNe, Int.reduceLT, Int.reduceLE, Int.reduceGT, Int.reduceGE]
      have r9 := (n8.rw q3).fr f9 (by omega)
      refine ⟨r9.wr (by simp), fun h10 s10 => ?_⟩
      have r10 := s10.row r9
      have y10 := s10.size
      simp -dsimp only [go_sem, ↓reduceIte, reduceCtorEq, Nat.reduceEqDiff, Nat.reduceAdd, Nat.reduceLeDiff, Nat.reduceMul, Int.reduceBEq, Int.reduceBNe, Int.reduceLT, Int.reduceLE, Int.reduceGT, Int.reduceGE] at r10
      simp -dsimp only [go_sem, ↓reduceIte, reduceCtorEq, Nat.reduceEqDiff, Nat.reduceAdd, Nat.reduceLeDiff, Nat.reduceMul, Int.reduceBEq, Int.reduceBNe, Int.reduceLT, Int.reduceLE, Int.reduceGT, Int.reduceGE]
      have p10 : Fr 0 0 h h10 := ((q1.trans n8.fr).fresh f9 (by omega)).fresh s10.fr (by omega)
      have hh : Fr b3 (b3 + 1) h9 h10 := s10.fr
      refine ⟨⟨p10, ((n8.rw q2).fr f9 (by omega)).fr s10.fr (by omega), _, r10, by omega, by omega, ?_⟩, ?_⟩
      · have := o9.fr s10.fr (by omega)
        rw [List.take_add_one, hq, Option.toList_some, List.map_append, ← List.append_assoc, pairsV_append]
        exact this
      · have hsz : h5.size < h6.size := by omega
        refine ⟨?_, ?_, ht.fr p10 (by omega)⟩
        · refine s10.fr.keep (f9.keep ((n8.fr (lo := 0) (hi := 0)).keep hC7.1 (by omega)) (by omega)) (by omega)
        · exact (ptab_rd (t.fr p10 (by omega)) hlt)
    · rintro h7 hs7 ⟨q1, q2, sv7, q3, q4, q4', q5⟩ hC7
      rw [rest_bits hbits, List.length_map, List.take_length] at q5
      simp -dsimp only [go_sem, ↓reduceIte, reduceCtorEq, Nat.reduceEqDiff, Nat.reduceAdd, Nat.reduceLeDiff, Nat.reduceMul, Int.reduceBEq, Int.reduceBNe, Int.reduceLT, Int.reduceLE, Int.reduceGT, Int.reduceGE]
      simp -dsimp (disch := omega) only [wrap64]
      exact ⟨i + 1, by omega, by simp [Le, find], by omega, q1, sv7, q3, by rw [pairsTo_succ, List.length_append, List.length_map]; exact q5⟩
    · exact fun _ _ _ h => h.elim
  · have : i = n := by omega
    subst this
    simp -dsimp only [go_sem, ↓reduceIte, reduceCtorEq, Nat.reduceEqDiff, Nat.reduceAdd, Nat.reduceLeDiff, Nat.reduceMul, Int.reduceBEq, Int.reduceBNe, Int.reduceLT, Int.reduceLE, Int.reduceGT, Int.reduceGE, r3.cell]
    have := n3.size
    exact ⟨p2, o2.lower (by omega)⟩
end Go.Proofs.Tst
