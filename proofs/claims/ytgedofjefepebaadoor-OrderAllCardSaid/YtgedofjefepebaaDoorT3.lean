/-
  Contracts of functions that the law reaches: what each returns and what it leaves in memory. Conditions stand in each.
-/
import Derived.Test.YtgedofjefepebaaDoorT2
set_option linter.all false
set_option maxRecDepth 2000
/-
  All orders that begin with a list, in their order; how they are gone through.
-/
namespace Go.Proofs.Tst
open Go Go.Vc
section
variable {n : Nat} {M : Nat → Nat → Bool}
theorem rest_none {f : Nat → Bool} {n q : Nat} (h : lf f n q = none) : rest f n q = [] := by
  refine List.filter_eq_nil_iff.2 fun x hx => ?_
  rw [List.mem_range'_1] at hx
  rw [lf_none h x (by omega) (by omega)]; simp
theorem rest_some {f : Nat → Bool} {n q p : Nat} (h : lf f n q = some p) : rest f n q = p :: rest f n (p + 1) := by
  obtain ⟨h1, h2, h3⟩ := lf_some h
  rw [rest_skip (p - q) (by omega) fun j hj hk => lf_least h j hj (by omega), show q + (p - q) = p from by omega, rest_step h2, if_pos h3]
/-- All orders that begin with l: so many points are still to be placed. -/
def extGo (n : Nat) (M : Nat → Nat → Bool) : Nat → List Nat → List (List Nat)
  | 0, l => [l]
  | k + 1, l => (rest (freeB n M l.contains) n 0).flatMap fun p => extGo n M k (l ++ [p])
def extFrom (n : Nat) (M : Nat → Nat → Bool) (l : List Nat) (q : Nat) : List (List Nat) := (rest (freeB n M l.contains) n q).flatMap fun p => extGo n M (n - l.length - 1) (l ++ [p])
theorem extFrom_none {l : List Nat} {q : Nat} (h : lf (freeB n M l.contains) n q = none) : extFrom n M l q = [] := by
  unfold extFrom; rw [rest_none h]; rfl
theorem extFrom_some {l : List Nat} {q p : Nat} (h : lf (freeB n M l.contains) n q = some p) : extFrom n M l q = extGo n M (n - l.length - 1) (l ++ [p]) ++ extFrom n M l (p + 1) := by
  unfold extFrom; rw [rest_some h, List.flatMap_cons]
def todo (n : Nat) (M : Nat → Nat → Bool) (l : List Nat) (q : Nat) : List (List Nat) := if l.length < n then extFrom n M l q else [l]
theorem extGo_todo {l : List Nat} : extGo n M (n - l.length) l = todo n M l 0 := by
  unfold todo
  by_cases h : l.length < n
  · rw [if_pos h, show n - l.length = (n - l.length - 1) + 1 from by omega]; rfl
  · rw [if_neg h, show n - l.length = 0 from by omega]; rfl
def later (n : Nat) (M : Nat → Nat → Bool) : List Nat → List (List Nat)
  | [] => []
  | p :: r => extFrom n M r.reverse (p + 1) ++ later n M r
/-- What is still to be told, of a way and the next point to be tried. -/
def remS (n : Nat) (M : Nat → Nat → Bool) (l : List Nat) (q : Nat) : List (List Nat) := todo n M l q ++ later n M l.reverse
theorem rem_start : remS n M [] 0 = extGo n M n [] := by
  unfold remS; rw [← extGo_todo]; simp [later]
theorem rem_place {l : List Nat} {q p : Nat} (hl : l.length < n) (h : lf (freeB n M l.contains) n q = some p) : remS n M l q = remS n M (l ++ [p]) 0 := by
  have e : (l ++ [p]).length = l.length + 1 := by simp
  unfold remS
  rw [← extGo_todo (l := l ++ [p]), List.reverse_append, List.reverse_singleton, List.singleton_append]
  simp only [later, List.reverse_reverse]
  rw [todo, if_pos hl, extFrom_some h, List.append_assoc, e, show n - l.length - 1 = n - (l.length + 1) from by omega]
theorem rem_back {l : List Nat} {q p : Nat} (hl : l.length < n) : remS n M (l ++ [p]) q = todo n M (l ++ [p]) q ++ remS n M l (p + 1) := by
  unfold remS
  rw [List.reverse_append, List.reverse_singleton, List.singleton_append]
  simp only [later, List.reverse_reverse]
  have e : todo n M l (p + 1) = extFrom n M l (p + 1) := if_pos hl
  rw [e]
theorem todo_none {l : List Nat} {q : Nat} (hl : l.length < n) (h : lf (freeB n M l.contains) n q = none) : todo n M l q = [] := by
  unfold todo; rw [if_pos hl, extFrom_none h]
theorem todo_full {l : List Nat} {q : Nat} (hl : l.length = n) : todo n M l q = [l] := by
  unfold todo; rw [if_neg (by omega)]
theorem rem_nil {q : Nat} : remS n M [] q = todo n M [] q := by simp [remS, later]
/-! The rounds come to an end. -/
def vd (B : Nat) (l : List Nat) : Nat := l.foldl (fun a p => a * B + (2 * p + 1)) 0
theorem vd_snoc {B : Nat} {l : List Nat} {p : Nat} : vd B (l ++ [p]) = vd B l * B + (2 * p + 1) := by simp [vd]
def posV (n : Nat) (l : List Nat) (q : Nat) : Nat := (vd (2 * n + 2) l * (2 * n + 2) + 2 * q) * (2 * n + 2) ^ (n - l.length)
theorem posV_place {l : List Nat} {q p : Nat} (hl : l.length < n) (h : q ≤ p) : posV n l q < posV n (l ++ [p]) 0 := by
  unfold posV
  rw [vd_snoc, show (l ++ [p]).length = l.length + 1 from by simp, show n - l.length = (n - (l.length + 1)) + 1 from by omega, Nat.pow_succ, Nat.mul_comm ((2 * n + 2) ^ (n - (l.length + 1))), ← Nat.mul_assoc]
  refine Nat.mul_lt_mul_of_pos_right ?_ (Nat.pow_pos (by omega))
  rw [Nat.mul_zero, Nat.add_zero]
  exact Nat.mul_lt_mul_of_pos_right (by omega) (by omega)
theorem posV_back {l : List Nat} {q p : Nat} (hl : l.length < n) (h : q ≤ n) : posV n (l ++ [p]) q < posV n l (p + 1) := by
  unfold posV
  rw [vd_snoc, show (l ++ [p]).length = l.length + 1 from by simp, show n - l.length = (n - (l.length + 1)) + 1 from by omega, Nat.pow_succ, Nat.mul_comm ((2 * n + 2) ^ (n - (l.length + 1))) (2 * n + 2), ← Nat.mul_assoc]
  refine Nat.mul_lt_mul_of_pos_right ?_ (Nat.pow_pos (by omega))
  generalize vd (2 * n + 2) l * (2 * n + 2) = X
  have : (X + 2 * (p + 1)) * (2 * n + 2) = (X + (2 * p + 1)) * (2 * n + 2) + (2 * n + 2) := by
    rw [show X + 2 * (p + 1) = (X + (2 * p + 1)) + 1 from by omega, Nat.add_mul, Nat.one_mul]
  omega
theorem vd_lt : ∀ (k : Nat) (l : List Nat), l.length = k → (∀ x ∈ l, x < n) → vd (2 * n + 2) l < (2 * n + 2) ^ k
  | 0, l, hk, _ => by rw [List.eq_nil_of_length_eq_zero hk]; simp [vd]
  | k + 1, l, hk, h => by
    rcases List.eq_nil_or_concat l with rfl | ⟨l', p, rfl⟩
    · simp at hk
    · rw [List.concat_eq_append] at h hk ⊢
      have ih := vd_lt k l' (by simpa using hk) fun x hx => h x (by simp [hx])
      have hp := h p (by simp)
      rw [vd_snoc, Nat.pow_succ]
      have : (vd (2 * n + 2) l' + 1) * (2 * n + 2) ≤ (2 * n + 2) ^ k * (2 * n + 2) := Nat.mul_le_mul_right _ ih
      rw [Nat.add_mul, Nat.one_mul] at this
      omega
theorem posV_lt {l : List Nat} {q : Nat} (hl : l.length ≤ n) (hx : ∀ x ∈ l, x < n) (hq : q ≤ n) : posV n l q < (2 * n + 2) ^ (n + 1) := by
  unfold posV
  have h1 := vd_lt _ l rfl hx
  have h2 : vd (2 * n + 2) l * (2 * n + 2) + 2 * q < (2 * n + 2) ^ (l.length + 1) := by
    rw [Nat.pow_succ]
    have : (vd (2 * n + 2) l + 1) * (2 * n + 2) ≤ (2 * n + 2) ^ l.length * (2 * n + 2) := Nat.mul_le_mul_right _ h1
    rw [Nat.add_mul, Nat.one_mul] at this
    omega
  have := Nat.mul_lt_mul_of_pos_right h2 (Nat.pow_pos (n := n - l.length) (show 0 < 2 * n + 2 by omega))
  rw [← Nat.pow_add, show l.length + 1 + (n - l.length) = n + 1 from by omega] at this
  exact this
/-! What has no cycle can be sorted, and the other way round. -/
theorem free_exists (ha : ∀ i, i < n → plusM n M i i = false) {D : Nat → Bool} : ∀ (c p : Nat), p < n → D p = false → ((List.range n).countP fun x => plusM n M x p) ≤ c → ∃ q, q < n ∧ freeB n M D q = true := by
  intro c
  induction c with
  | zero =>
    intro p hp hD hc
    refine ⟨p, hp, freeB_true.2 ⟨hD, fun a han hm => ?_⟩⟩
    have : 0 < (List.range n).countP fun x => plusM n M x p := List.countP_pos_iff.2 ⟨a, List.mem_range.2 han, plus_sub hm⟩
    omega
  | succ c ih =>
    intro p hp hD hc
    by_cases hf : freeB n M D p = true
    · exact ⟨p, hp, hf⟩
    have : ∃ a, a < n ∧ M a p = true ∧ D a = false := by
      apply Classical.byContradiction; intro hn
      refine hf (freeB_true.2 ⟨hD, fun a han hm => ?_⟩)
      apply Classical.byContradiction; intro hD'
      exact hn ⟨a, han, hm, by simpa using hD'⟩
    obtain ⟨a, han, hm, hDa⟩ := this
    refine ih a han hDa ?_
    have := countP_lt (f := fun x => plusM n M x a) (g := fun x => plusM n M x p) n a han (fun x hx => plus_trans han hx (plus_sub hm)) (ha a han) (plus_sub hm)
    omega
/-- A beginning of an order. -/
def Pre (n : Nat) (M : Nat → Nat → Bool) (l : List Nat) : Prop := l.Nodup ∧ (∀ x ∈ l, x < n) ∧ ∀ i x, l[i]? = some x → ∀ a, a < n → M a x = true → a ∈ l.take i
theorem Pre.nil : Pre n M [] := ⟨by simp, by simp, by simp⟩
theorem Pre.snoc {l : List Nat} {p : Nat} : Pre n M (l ++ [p]) ↔ Pre n M l ∧ p < n ∧ freeB n M l.contains p = true := by
  rw [freeB_true]
  constructor
  · rintro ⟨h1, h2, h3⟩
    rw [List.nodup_append] at h1
    refine ⟨⟨h1.1, fun x hx => h2 x (by simp [hx]), fun i x hi a han hm => ?_⟩, h2 p (by simp), ?_, fun a han hm => ?_⟩
    · have hil := (List.getElem?_eq_some_iff.1 hi).1
      have := h3 i x (by rw [List.getElem?_append_left hil]; exact hi) a han hm
      rwa [List.take_append_of_le_length (by omega)] at this
    · rw [Bool.eq_false_iff]; intro hc
      exact h1.2.2 p (List.contains_iff_mem.1 hc) p (by simp) rfl
    · have := h3 l.length p (by simp) a han hm
      simp at this; simpa using this
  · rintro ⟨⟨h1, h2, h3⟩, hp, hD, hf⟩
    refine ⟨?_, ?_, ?_⟩
    · rw [List.nodup_append]
      refine ⟨h1, by simp, fun x hx y hy => ?_⟩
      simp at hy; subst hy; rintro rfl
      rw [List.contains_iff_mem.2 hx] at hD; simp at hD
    · intro x hx; rcases List.mem_append.1 hx with hx | hx
      · exact h2 x hx
      · simp at hx; subst hx; exact hp
    · intro i x hi a han hm
      by_cases hil : i < l.length
      · rw [List.getElem?_append_left hil] at hi
        rw [List.take_append_of_le_length (by omega)]; exact h3 i x hi a han hm
      · have := (List.getElem?_eq_some_iff.1 hi).1
        simp at this
        obtain rfl : i = l.length := by omega
        simp at hi; subst hi
        simp; simpa using hf a han hm
theorem Pre.len {l : List Nat} (h : Pre n M l) : l.length ≤ n := nodup_lt h.1 h.2.1
theorem nodup_sub : ∀ {l m : List Nat}, l.Nodup → (∀ x ∈ l, x ∈ m) → l.length ≤ m.length
  | [], m, _, _ => by simp
  | x :: l, m, hd, hs => by
    have hx := hs x (by simp)
    have hd' := List.nodup_cons.1 hd
    have := nodup_sub (m := m.erase x) hd'.2 fun y hy => (List.mem_erase_of_ne (by rintro rfl; exact hd'.1 hy)).2 (hs y (by simp [hy]))
    rw [List.length_erase_of_mem hx] at this
    have := List.length_pos_of_mem hx
    simp; omega
theorem sortGo_none (ha : ∀ i, i < n → plusM n M i i = false) : ∀ (k : Nat) (l : List Nat), Pre n M l → l.length + k = n → sortGo n M k l ≠ none
  | 0, l, _, _ => by simp [sortGo]
  | k + 1, l, hl, hk => by
    simp only [sortGo]
    cases hx : lf (freeB n M l.contains) n 0 with
    | none =>
      have : ∃ p, p < n ∧ p ∉ l := by
        apply Classical.byContradiction; intro hn
        have := nodup_sub (l := List.range n) (m := l) List.nodup_range fun x hx => Classical.byContradiction fun h => hn ⟨x, List.mem_range.1 hx, h⟩
        simp at this; omega
      obtain ⟨p, hp, hpl⟩ := this
      obtain ⟨q, hq, hf⟩ := free_exists ha (D := l.contains) _ p hp (by simpa using hpl) (Nat.le_refl _)
      rw [lf_none hx q (by omega) hq] at hf; simp at hf
    | some p =>
      obtain ⟨-, hp, hf⟩ := lf_some hx
      exact sortGo_none ha k (l ++ [p]) (Pre.snoc.2 ⟨hl, hp, hf⟩) (by simp; omega)
theorem sortGo_some : ∀ (k : Nat) (l m : List Nat), Pre n M l → sortGo n M k l = some m → Pre n M m ∧ m.length = l.length + k
  | 0, l, m, hl, h => by simp [sortGo] at h; subst h; exact ⟨hl, rfl⟩
  | k + 1, l, m, hl, h => by
    simp only [sortGo] at h
    cases hx : lf (freeB n M l.contains) n 0 with
    | none => rw [hx] at h; simp at h
    | some p =>
      rw [hx] at h
      obtain ⟨-, hp, hf⟩ := lf_some hx
      obtain ⟨h1, h2⟩ := sortGo_some k (l ++ [p]) m (Pre.snoc.2 ⟨hl, hp, hf⟩) h
      exact ⟨h1, by rw [h2]; simp; omega⟩
theorem all_in {l : List Nat} (h : Pre n M l) (hl : l.length = n) {p : Nat} (hp : p < n) : p ∈ l := by
  apply Classical.byContradiction; intro hn
  have := nodup_lt (n := n) (l := p :: l) (List.nodup_cons.2 ⟨hn, h.1⟩) fun x hx => by
    rcases List.mem_cons.1 hx with rfl | hx
    · exact hp
    · exact h.2.1 x hx
  simp at this; omega
/-- Of a whole order: each pair's first stands ahead of its second. -/
theorem Pre.idx {l : List Nat} (h : Pre n M l) {a b : Nat} (ha : a < n) (hb : b ∈ l) (hm : M a b = true) : l.idxOf a < l.idxOf b := by
  have hi : l.idxOf b < l.length := List.idxOf_lt_length_iff.2 hb
  have := h.2.2 (l.idxOf b) b (by rw [List.getElem?_eq_getElem hi, List.getElem_idxOf]) a ha hm
  obtain ⟨j, hj, hja⟩ := List.mem_iff_getElem.1 this
  have hj' : j < l.idxOf b := by rw [List.length_take] at hj; omega
  rw [List.getElem_take] at hja
  subst hja
  rw [h.1.idxOf_getElem]; exact hj'
theorem Pre.acyc {l : List Nat} (h : Pre n M l) (hl : l.length = n) : ∀ i, i < n → plusM n M i i = false := fun i hi => by
  rw [Bool.eq_false_iff]; intro hc
  have := plus_least (N := fun i j => l.idxOf i < l.idxOf j) (fun a b ha hb hm => h.idx ha (all_in h hl hb) hm) (fun _ _ _ _ _ _ h1 h2 => Nat.lt_trans h1 h2) hi hi hc
  exact Nat.lt_irrefl _ this
theorem irrB_true {N : Nat → Nat → Bool} : irrB n N = true ↔ ∀ i, i < n → N i i = false := by
  unfold irrB; rw [List.all_eq_true]
  constructor
  · intro h i hi; have := h i (List.mem_range.2 hi); simpa using this
  · intro h i hi; rw [h i (List.mem_range.1 hi)]; rfl
theorem sort_acyc : (sortS n M).isSome = irrB n (plusM n M) := by
  rw [Bool.eq_iff_iff, irrB_true]
  constructor
  · intro h
    obtain ⟨l, hl⟩ := Option.isSome_iff_exists.1 h
    obtain ⟨h1, h2⟩ := sortGo_some n [] l Pre.nil hl
    exact h1.acyc (by simpa using h2)
  · intro h
    have := sortGo_none h n [] Pre.nil (by simp)
    unfold sortS
    cases hs : sortGo n M n [] with
    | none => exact absurd hs this
    | some l => rfl
end
end Go.Proofs.Tst
/-
  What Glue tells is linear, its pairs together; where there is any such order it tells one.
-/
namespace Go.Proofs.Tst
open Go Go.Vc
section
variable {n : Nat} {M : Nat → Nat → Bool} {F : Nat → Nat} {S : Nat → Int}
theorem glueIn_spec : ∀ (l : List (Int × Int)) (U : Nat → Bool) (F : Nat → Nat) (S : Nat → Int) (F' : Nat → Nat) (S' : Nat → Int), GluI n U F S → glueIn n l U F S = some (F', S') →
    (∃ U', GluI n U' F' S') ∧ (∀ p, U p = true → S' p = S p) ∧ ∀ x, x ∈ l → ∃ a b : Nat, x = ((a : Int), (b : Int)) ∧ a < n ∧ b < n ∧ S' a = (b : Int)
  | [], U, F, S, F', S', g, h => by
    simp only [glueIn, Option.some.injEq, Prod.mk.injEq] at h
    obtain ⟨rfl, rfl⟩ := h
    exact ⟨⟨U, g⟩, fun _ _ => rfl, by simp⟩
  | x :: l, U, F, S, F', S', g, h => by
    by_cases hb : badP n U x
    · simp only [glueIn, if_pos hb] at h; simp at h
    simp only [glueIn, if_neg hb] at h
    obtain ⟨a', b'⟩ := x
    unfold badP at hb
    simp only [not_or] at hb
    obtain ⟨h1, h2, h3, h4, h5, h6, h7⟩ := hb
    obtain ⟨a, rfl⟩ : ∃ a : Nat, a' = a := ⟨a'.toNat, by omega⟩
    obtain ⟨b, rfl⟩ : ∃ b : Nat, b' = b := ⟨b'.toNat, by omega⟩
    simp only [Int.toNat_natCast] at h h6 h7
    have ha : a < n := by omega
    have hb : b < n := by omega
    have hab : a ≠ b := by omega
    have g2 := g.step ha hb hab (by simpa using h6) (by simpa using h7)
    obtain ⟨k1, k2, k3⟩ := glueIn_spec l _ _ _ _ _ g2 h
    have hSa : S' a = (b : Int) := by
      rw [k2 a (by unfold upd; simp), upd_same]
    refine ⟨k1, fun p hp => ?_, fun y hy => ?_⟩
    · rw [k2 p (by unfold upd; simp [hp]), upd_ne]
      rintro rfl; exact h6 hp
    · rcases List.mem_cons.1 hy with rfl | hy
      · exact ⟨a, b, rfl, ha, hb, hSa⟩
      · exact k3 y hy
structure GInv (n : Nat) (M : Nat → Nat → Bool) (F : Nat → Nat) (S : Nat → Int) (l : List Nat) : Prop where
  pre : Pre n M l
  un : ∀ q, q < n → (q ∈ l ↔ F q ∈ l)
  tog : ∀ a b : Nat, a ∈ l → S a = (b : Int) → ∃ j, l[j]? = some a ∧ l[j + 1]? = some b
theorem GInv.nil : GInv n M F S [] := ⟨Pre.nil, by simp, by simp⟩
theorem freeB_mem {l : List Nat} {N : Nat → Nat → Bool} {p : Nat} (h : freeB n N l.contains p = true) : p ∉ l ∧ ∀ a, a < n → N a p = true → a ∈ l := by
  obtain ⟨h1, h2⟩ := freeB_true.1 h
  exact ⟨by simpa using h1, fun a ha hm => by simpa using h2 a ha hm⟩
theorem GInv.step {U : Nat → Bool} {l : List Nat} {p : Nat} (g : GluI n U F S) (v : GInv n M F S l) (hp : p < n) (hF : F p = p) (hf : freeB n (glueM n M F S) l.contains p = true) :
    GInv n M F S (if S p ≥ 0 then l ++ [p] ++ [(S p).toNat] else l ++ [p]) := by
  obtain ⟨hpl, hfr⟩ := freeB_mem hf
  have hM : ∀ a b, a < n → b < n → M a b = true → S a ≠ (b : Int) → F b = p → a ∈ l := fun a b ha hb hm hs hFb =>
    (v.un a ha).2 (hfr (F a) (g.lt a ha) (glueM_true.2 ⟨a, ha, b, hb, hm, hs, rfl, hFb⟩))
  have sndF : ∀ a (b : Nat), a < n → S a = (b : Int) → F b = a ∧ b ≠ a ∧ b < n := fun a b ha h => by
    rcases g.snd a ha with h1 | ⟨q, hq, h1, h2, h3, h4⟩
    · omega
    · obtain rfl : q = b := by omega
      exact ⟨h3, h2, hq⟩
  have pre1 : Pre n M (l ++ [p]) := Pre.snoc.2 ⟨v.pre, hp, freeB_true.2 ⟨by simpa using hpl, fun a ha hm => by
    have hs : S a ≠ (p : Int) := fun h => by
      obtain ⟨h1, h2, -⟩ := sndF a p ha h
      rw [hF] at h1; exact h2 h1
    simpa using hM a p ha hp hm hs hF⟩⟩
  have keepT : ∀ (k : List Nat) (a b : Nat), a ∈ l → S a = (b : Int) → ∃ j, (l ++ k)[j]? = some a ∧ (l ++ k)[j + 1]? = some b := fun k a b ha hs => by
    obtain ⟨j, h1, h2⟩ := v.tog a b ha hs
    have hj := (List.getElem?_eq_some_iff.1 h2).1
    exact ⟨j, by rw [List.getElem?_append_left (by omega)]; exact h1, by rw [List.getElem?_append_left hj]; exact h2⟩
  split
  · rename_i hS
    obtain ⟨q, hq⟩ : ∃ q : Nat, S p = (q : Int) := ⟨(S p).toNat, by omega⟩
    obtain ⟨hFq, hqp, hqn⟩ := sndF p q hp hq
    rw [hq, Int.toNat_natCast]
    have hql : q ∉ l := fun h => hpl (by have := (v.un q hqn).1 h; rwa [hFq] at this)
    refine ⟨?_, fun x hx => ?_, fun a b ha hs => ?_⟩
    · refine Pre.snoc.2 ⟨pre1, hqn, freeB_true.2 ⟨by simp [hql, hqp], fun a ha hm => ?_⟩⟩
      by_cases hs : S a = (q : Int)
      · obtain ⟨h1, -, -⟩ := sndF a q ha hs
        rw [hFq] at h1; subst h1; simp
      · have := hM a q ha hqn hm hs hFq
        simp [this]
    · simp only [List.mem_append, List.mem_singleton, List.append_assoc, List.mem_cons, List.not_mem_nil, or_false]
      constructor
      · rintro (h | rfl | rfl)
        · exact .inl ((v.un x hx).1 h)
        · exact .inr (.inl hF)
        · exact .inr (.inl hFq)
      · rintro (h | h | h)
        · exact .inl ((v.un x hx).2 h)
        · by_cases hxp : x = p
          · exact .inr (.inl hxp)
          · have := (g.fst x hx (by rw [h]; exact fun e => hxp e.symm)).1
            rw [h, hq] at this
            exact .inr (.inr (by omega))
        · have h6 := (g.fst x hx)
          by_cases hxx : F x = x
          · exact .inr (.inr (by omega))
          · have h7 := (h6 hxx).2
            rw [h, hFq] at h7; exact absurd h7.symm hqp
    · simp only [List.mem_append, List.mem_singleton] at ha
      rcases ha with (ha | rfl) | rfl
      · rw [List.append_assoc]; exact keepT _ a b ha hs
      · have : b = q := by omega
        subst this
        exact ⟨l.length, by simp, by simp⟩
      · obtain ⟨h1, -, -⟩ := sndF a b hqn hs
        rcases g.snd a hqn with h2 | ⟨_, _, _, _, _, h3⟩
        · omega
        · rw [hFq] at h3; exact absurd h3.symm hqp
  · rename_i hS
    have hno : ∀ x, x < n → F x = p → x = p := fun x hx h => by
      by_cases hxx : F x = x
      · omega
      · have := (g.fst x hx hxx).1
        rw [h] at this; omega
    refine ⟨pre1, fun x hx => ?_, fun a b ha hs => ?_⟩
    · simp only [List.mem_append, List.mem_singleton]
      constructor
      · rintro (h | rfl)
        · exact .inl ((v.un x hx).1 h)
        · exact .inr hF
      · rintro (h | h)
        · exact .inl ((v.un x hx).2 h)
        · exact .inr (hno x hx h)
    · simp only [List.mem_append, List.mem_singleton] at ha
      rcases ha with ha | rfl
      · exact keepT _ a b ha hs
      · omega
theorem glueGo_inv {U : Nat → Bool} (g : GluI n U F S) : ∀ (k : Nat) (l m : List Nat), n ≤ l.length + k → GInv n M F S l → glueGo n F S (glueM n M F S) k l = some m → GInv n M F S m ∧ m.length = n
  | 0, l, m, hk, v, h => by
    simp only [glueGo, Option.some.injEq] at h; subst h
    have := v.pre.len
    exact ⟨v, by omega⟩
  | k + 1, l, m, hk, v, h => by
    simp only [glueGo] at h
    by_cases hn : n ≤ l.length
    · rw [if_pos hn] at h
      simp only [Option.some.injEq] at h; subst h
      have := v.pre.len
      exact ⟨v, by omega⟩
    rw [if_neg hn] at h
    cases hx : lf (fun p => F p == p && freeB n (glueM n M F S) l.contains p) n 0 with
    | none => rw [hx] at h; simp at h
    | some p =>
      rw [hx] at h
      obtain ⟨-, hp, hf⟩ := lf_some hx
      simp only [Bool.and_eq_true, beq_iff_eq] at hf
      exact glueGo_inv g k _ m (by split <;> simp <;> omega) (v.step g hp hf.1 hf.2) h
/-- Where there is an order with the pairs together, none is stuck. -/
theorem glueGo_ok {U : Nat → Bool} (g : GluI n U F S) {m : List Nat} (hm : Pre n M m) (hml : m.length = n) (ht : ∀ a b : Nat, a < n → S a = (b : Int) → m.idxOf b = m.idxOf a + 1) : ∀ (k : Nat) (l : List Nat), n ≤ l.length + k → GInv n M F S l → glueGo n F S (glueM n M F S) k l ≠ none
  | 0, l, _, _ => by simp [glueGo]
  | k + 1, l, hk, v => by
    simp only [glueGo]
    by_cases hn : n ≤ l.length
    · rw [if_pos hn]; simp
    rw [if_neg hn]
    have sndF : ∀ a (b : Nat), a < n → S a = (b : Int) → F b = a ∧ b ≠ a ∧ b < n := fun a b ha h => by
      rcases g.snd a ha with h1 | ⟨q, hq, h1, h2, h3, h4⟩
      · omega
      · obtain rfl : q = b := by omega
        exact ⟨h3, h2, hq⟩
    have inj : ∀ a b, a < n → b < n → m.idxOf a = m.idxOf b → a = b := fun a b ha hb h => by
      have h1 := all_in hm hml ha
      have h2 := all_in hm hml hb
      have e1 := List.getElem_idxOf (List.idxOf_lt_length_iff.2 h1)
      have e2 := List.getElem_idxOf (List.idxOf_lt_length_iff.2 h2)
      rw [← e1, ← e2]; congr 1
    have fidem : ∀ x, x < n → F (F x) = F x := fun x hx => by
      by_cases h : F x = x
      · rw [h, h]
      · exact (g.fst x hx h).2
    have atU : ∀ x, x < n → m.idxOf x = m.idxOf (F x) ∨ (m.idxOf x = m.idxOf (F x) + 1 ∧ S (F x) = (x : Int)) := fun x hx => by
      by_cases h : F x = x
      · rw [h]; exact .inl rfl
      · have h1 := (g.fst x hx h).1
        exact .inr ⟨ht (F x) x (g.lt x hx) h1, h1⟩
    cases hx : lf (fun p => F p == p && freeB n (glueM n M F S) l.contains p) n 0 with
    | some p =>
      obtain ⟨-, hp, hf⟩ := lf_some hx
      simp only [Bool.and_eq_true, beq_iff_eq] at hf
      exact glueGo_ok g hm hml ht k _ (by split <;> simp <;> omega) (v.step g hp hf.1 hf.2)
    | none =>
      exfalso
      have hex : ∃ x, x < n ∧ x ∉ l := by
        apply Classical.byContradiction; intro hno
        have := nodup_sub (l := List.range n) (m := l) List.nodup_range fun x hx => Classical.byContradiction fun h => hno ⟨x, List.mem_range.1 hx, h⟩
        simp at this; omega
      -- the first unit, by the order, that is not placed
      have least : ∀ (d x : Nat), m.idxOf x ≤ d → x < n → F x = x → x ∉ l → ∃ p, p < n ∧ F p = p ∧ p ∉ l ∧ ∀ y, y < n → F y = y → y ∉ l → m.idxOf p ≤ m.idxOf y := by
        intro d
        induction d with
        | zero => exact fun x hd hx hF hl => ⟨x, hx, hF, hl, fun y _ _ _ => by omega⟩
        | succ d ih =>
          intro x hd hx hF hl
          by_cases hy : ∃ y, y < n ∧ F y = y ∧ y ∉ l ∧ m.idxOf y < m.idxOf x
          · obtain ⟨y, h1, h2, h3, h4⟩ := hy
            exact ih y (by omega) h1 h2 h3
          · exact ⟨x, hx, hF, hl, fun y h1 h2 h3 => Classical.byContradiction fun h => hy ⟨y, h1, h2, h3, by omega⟩⟩
      obtain ⟨x, hxn, hxl⟩ := hex
      obtain ⟨p, hp, hFp, hpl, hmin⟩ := least _ (F x) (Nat.le_refl _) (g.lt x hxn) (fidem x hxn) (fun h => hxl ((v.un x hxn).2 h))
      have := lf_none hx p (by omega) hp
      simp only [hFp, beq_self_eq_true, Bool.true_and] at this
      rw [Bool.eq_false_iff] at this
      refine this (freeB_true.2 ⟨by simpa using hpl, fun a ha hN => ?_⟩)
      rw [glueM_true] at hN
      obtain ⟨p', hp', q', hq', hM, hs, hFa, hFq⟩ := hN
      apply Classical.byContradiction; intro hal
      have hal : a ∉ l := by simpa using hal
      have hFa2 : F a = a := by rw [← hFa]; exact fidem p' hp'
      have h1 := hmin a ha hFa2 hal
      have h2 := hm.idx hp' (all_in hm hml hq') hM
      have h3 := atU p' hp'
      have h4 := atU q' hq'
      rw [hFa] at h3; rw [hFq] at h4
      by_cases hap : a = p
      · subst hap
        rcases h3 with h3 | ⟨h3, h3'⟩
        · rcases h4 with h4 | ⟨h4, h4'⟩
          · omega
          · have : p' = a := inj p' a hp' ha h3
            subst this
            exact hs h4'
        · omega
      · have : m.idxOf p ≠ m.idxOf a := fun h => hap (inj a p ha hp h.symm)
        rcases h4 with h4 | ⟨h4, h4'⟩ <;> omega
end
end Go.Proofs.Tst
/-
  Lists of lists in memory: a slice of slices, each owned, none in the block of the slice itself.
-/
namespace Go.Vc
open Go
/-- Two slices' blocks are apart. -/
def Off (v w : Value) : Prop := bh v = 0 ∨ bh w = 0 ∨ bl v ≠ bl w
theorem Off.symm {v w : Value} (h : Off v w) : Off w v := by unfold Off at *; omega
theorem bh_bl (v : Value) : (bh v = 0 ∧ bl v = 0) ∨ bh v = bl v + 1 := by unfold bh bl; split <;> simp
structure LL (h : Heap) (v : Value) (vs : List Value) (L : List (List Value)) (lo : Nat) : Prop where
  own : Holder 1 h v L.length vs lo
  at_ : ∀ (i : Nat) (w : Value) (l : List Value), vs[i]? = some w → L[i]? = some l → Holder 1 h w l.length l lo
  off : ∀ w, w ∈ vs → Off w v
theorem LL.len {h : Heap} {v : Value} {vs : List Value} {L : List (List Value)} {lo : Nat} (t : LL h v vs L lo) : vs.length = L.length := by
  have := t.own.1; omega
theorem LL.get {h : Heap} {v : Value} {vs : List Value} {L : List (List Value)} {lo : Nat} (t : LL h v vs L lo) {w : Value} (hw : w ∈ vs) : ∃ (i : Nat) (l : List Value), vs[i]? = some w ∧ L[i]? = some l ∧ Holder 1 h w l.length l lo := by
  obtain ⟨i, hi, rfl⟩ := List.mem_iff_getElem.1 hw
  have hl : i < L.length := by rw [← t.len]; exact hi
  have h1 : vs[i]? = some vs[i] := List.getElem?_eq_getElem hi
  have h2 : L[i]? = some L[i] := List.getElem?_eq_getElem hl
  exact ⟨i, _, h1, h2, t.at_ i _ _ h1 h2⟩
theorem LL.nil {h : Heap} {lo : Nat} : LL h (.slice none 0 0) [] [] lo :=
  ⟨.none _ _ _, fun _ _ _ h => by simp at h, fun _ h => by simp at h⟩
theorem LL.lower {h : Heap} {v : Value} {vs : List Value} {L : List (List Value)} {lo lo' : Nat} (t : LL h v vs L lo) (hl : lo' ≤ lo) : LL h v vs L lo' :=
  ⟨t.own.lower hl, fun i w l h1 h2 => (t.at_ i w l h1 h2).lower hl, t.off⟩
/-- All of it lies outside. -/
def Away (l r : Nat) (v : Value) (vs : List Value) : Prop := ∀ w, w = v ∨ w ∈ vs → bh w ≤ l ∨ r ≤ bl w ∨ r ≤ l
theorem LL.fr {h h' : Heap} {v : Value} {vs : List Value} {L : List (List Value)} {lo l r : Nat} (t : LL h v vs L lo) (f : Fr l r h h') (ha : Away l r v vs) : LL h' v vs L lo :=
  ⟨t.own.fr f (ha v (.inl rfl)), fun i w x h1 h2 => (t.at_ i w x h1 h2).fr f (ha w (.inr (List.mem_of_getElem? h1))), t.off⟩
theorem Away.none {v : Value} {vs : List Value} {l r : Nat} (h : r ≤ l) : Away l r v vs := fun _ _ => .inr (.inr h)
/-- What lies below, or is new, is away from what is owned. -/
theorem LL.below {h : Heap} {v : Value} {vs : List Value} {L : List (List Value)} {lo l r : Nat} (t : LL h v vs L lo) (hr : r ≤ lo) : Away l r v vs := fun w hw => by
  rcases hw with rfl | hw
  · have := t.own.at_; omega
  · obtain ⟨i, x, -, -, o⟩ := t.get hw
    have := o.at_; omega
theorem LL.top {h : Heap} {v : Value} {vs : List Value} {L : List (List Value)} {lo : Nat} (t : LL h v vs L lo) : ∀ w, w = v ∨ w ∈ vs → bh w ≤ h.size := fun w hw => by
  rcases hw with rfl | hw
  · exact t.own.top
  · obtain ⟨i, x, -, -, o⟩ := t.get hw; exact o.top
theorem LL.above {h : Heap} {v : Value} {vs : List Value} {L : List (List Value)} {lo l r : Nat} (t : LL h v vs L lo) (hr : h.size ≤ l) : Away l r v vs := fun w hw => .inl (Nat.le_trans (t.top w hw) hr)
/-- A slice's own block is apart from another's. -/
theorem Off.away {v w : Value} (h : Off w v) : bh w ≤ bl v ∨ bh v ≤ bl w ∨ bh v ≤ bl v := by
  have := bh_bl v; have := bh_bl w; unfold Off at h; omega
/-- What was apart from it is apart from what it has grown to. -/
theorem Off.app {h h' : Heap} {v v' w : Value} {lo n : Nat} {xs : List Value} (hx : Off w v) (ht : bh w ≤ h.size) (h0 : 0 < lo) (o : Holder 1 h' v' n xs lo)
    (e : bl v' = bl v ∧ h'.size = h.size ∨ bl v' = h.size ∧ h'.size = h.size + 1 ∨ bh v' = 0 ∧ h' = h) : Off w v' := by
  have := bh_bl w; have := bh_bl v; have := bh_bl v'; have := o.at_
  unfold Off at *
  rcases e with ⟨e, -⟩ | ⟨e, -⟩ | ⟨e, -⟩ <;> omega
/-- One list more. -/
theorem LL.push {h h' : Heap} {v v' w : Value} {vs : List Value} {L : List (List Value)} {l : List Value} {lo : Nat} (t : LL h v vs L lo) (h0 : 0 < lo) (hw : Holder 1 h w l.length l lo) (h1 : Off w v)
    (o : Holder 1 h' v' (L.length + 1) (vs ++ [w]) lo) (f : Fr (bl v) (bh v) h h') (e : bl v' = bl v ∧ h'.size = h.size ∨ bl v' = h.size ∧ h'.size = h.size + 1 ∨ bh v' = 0 ∧ h' = h) : LL h' v' (vs ++ [w]) (L ++ [l]) lo := by
  have key : ∀ x, Off x v → bh x ≤ h.size → Off x v' := fun x hx ht => by
    have := bh_bl x; have := bh_bl v; have := bh_bl v'
    have := t.own.at_; have := t.own.top; have := o.at_
    unfold Off at *
    rcases e with ⟨e, -⟩ | ⟨e, -⟩ | ⟨e, -⟩
    · omega
    · omega
    · omega
  refine ⟨by rw [List.length_append]; exact o, fun i x y hx hy => ?_, fun x hx => ?_⟩
  · by_cases hi : i < vs.length
    · rw [List.getElem?_append_left hi] at hx
      rw [List.getElem?_append_left (by rw [← t.len]; exact hi)] at hy
      exact (t.at_ i x y hx hy).fr f (t.off x (List.mem_of_getElem? hx)).away
    · have := (List.getElem?_eq_some_iff.1 hx).1
      simp at this
      obtain rfl : i = vs.length := by omega
      simp at hx; subst hx
      rw [t.len] at hy; simp at hy; subst hy
      exact hw.fr f h1.away
  · rcases List.mem_append.1 hx with hx | hx
    · exact key x (t.off x hx) (t.top x (.inr hx))
    · simp at hx; subst hx; exact key x h1 hw.top
end Go.Vc
namespace Go.Vc
open Go
theorem Holder.blk {s : Nat} {h : Heap} {v : Value} {n : Nat} {xs : List Value} {lo : Nat} (w : Holder s h v n xs lo) (hn : 0 < n) : ∃ b c rest, v = .slice (some ⟨b, 0, Option.none⟩) n c ∧ Rw h b (xs ++ rest) ∧ rest.length + n * s = c * s ∧ lo ≤ b := by
  obtain ⟨_, ⟨rfl, h0⟩ | h1⟩ := w
  · omega
  · exact h1
theorem Holder.pop {h : Heap} {b n c : Nat} {xs : List Value} {x : Value} {lo : Nat} (w : Holder 1 h (.slice (some ⟨b, 0, Option.none⟩) (n + 1) c) (n + 1) (xs ++ [x]) lo) : Holder 1 h (.slice (some ⟨b, 0, Option.none⟩) n c) n xs lo := by
  obtain ⟨b', c', rest, h1, h2, h3, h4⟩ := w.blk (by omega)
  cases h1
  have := w.1
  refine ⟨by simp at this; omega, .inr ⟨b, c, x :: rest, rfl, by rw [List.append_assoc, List.singleton_append] at h2; exact h2, by simp; omega, h4⟩⟩
/-- One element of its block is stored. -/
theorem Holder.set {h h' : Heap} {b n c j : Nat} {xs : List Value} {x : Value} {lo : Nat} (w : Holder 1 h (.slice (some ⟨b, 0, Option.none⟩) n c) n xs lo) (hj : j < n) (s : Sto h h' b j [x]) : Holder 1 h' (.slice (some ⟨b, 0, Option.none⟩) n c) n (xs.set j x) lo := by
  have hl := w.1
  obtain ⟨b', c', rest, h1, h2, h3, h4⟩ := w.blk (by omega)
  cases h1
  refine ⟨by simpa using hl, .inr ⟨b, c, rest, rfl, ?_, h3, h4⟩⟩
  have := s.row h2
  rwa [putAt_one, List.set_append_left _ _ (by omega)] at this
/-- One of the lists is turned. -/
theorem LL.put {h h' : Heap} {v w : Value} {us : List Value} {L : List (List Value)} {l : List Value} {lo i : Nat} (t : LL h v us L lo) (hi : us[i]? = some w) (o : Holder 1 h' w l.length l lo) (f : Fr (bl w) (bh w) h h')
    (hp : us.Pairwise Off) : LL h' v us (L.set i l) lo := by
  have hl : i < us.length := (List.getElem?_eq_some_iff.1 hi).1
  have hw := t.off w (List.mem_of_getElem? hi)
  have key : ∀ j x, j ≠ i → us[j]? = some x → Off x w := fun j x hj hx => by
    obtain ⟨hjl, rfl⟩ := List.getElem?_eq_some_iff.1 hx
    obtain ⟨hil, rfl⟩ := List.getElem?_eq_some_iff.1 hi
    rw [List.pairwise_iff_getElem] at hp
    rcases Nat.lt_or_gt_of_ne hj with h | h
    · exact hp j i hjl hil h
    · exact (hp i j hil hjl h).symm
  refine ⟨by rw [List.length_set]; exact t.own.fr f hw.symm.away, fun j x y hx hy => ?_, t.off⟩
  by_cases hj : j = i
  · subst hj
    rw [hi] at hx; cases hx
    rw [List.getElem?_set_self (by rw [← t.len]; exact hl)] at hy; cases hy
    exact o
  · rw [List.getElem?_set_ne (fun h => hj h.symm)] at hy
    exact (t.at_ j x y hx hy).fr f (key j x hj hx).away
/-- What can be read of a list of lists. -/
def RL (h : Heap) (v : Value) (L : List (List Value)) : Prop := ∃ us, Rd 1 h v L.length us ∧ ∀ (i : Nat) (l : List Value), L[i]? = some l → ∃ w, us[i]? = some w ∧ Rd 1 h w l.length l
theorem LL.rl {h : Heap} {v : Value} {us : List Value} {L : List (List Value)} {lo : Nat} (t : LL h v us L lo) : RL h v L := ⟨us, t.own.rd, fun i l hl => by
  have hi : i < us.length := by rw [t.len]; exact (List.getElem?_eq_some_iff.1 hl).1
  exact ⟨us[i], List.getElem?_eq_getElem hi, (t.at_ i _ _ (List.getElem?_eq_getElem hi) hl).rd⟩⟩
theorem RL.fr {h h' : Heap} {v : Value} {L : List (List Value)} (t : RL h v L) (f : Fr 0 0 h h') : RL h' v L := by
  obtain ⟨us, h1, h2⟩ := t
  exact ⟨us, h1.fr f, fun i l hl => by obtain ⟨w, h3, h4⟩ := h2 i l hl; exact ⟨w, h3, h4.fr f⟩⟩
end Go.Vc
namespace Go.Proofs.Tst
open Go Go.Vc
/-- One row is joined into another (which may be the same). -/
theorem row_join {w v b b' : Nat} {W V : Nat → Nat} {ov : Value} {h : Heap} (hx : Rw h b (wrow w W)) (hy : Rw h b' (wrow v V)) (ho : Rd 1 h ov 1 [.slice (some ⟨b', 0, none⟩) v v]) (hW : ∀ i, W i < 2 ^ 64) (hV : ∀ i, V i < 2 ^ 64) (hw : w ≤ 1024) (hv : v ≤ 1024) :
    Con Tryd.prog 77 #[.slice (some ⟨b, 0, none⟩) w w, ov] h fun _ h' => Fr b (b + 1) h h' ∧ h'.size = h.size ∧ Rw h' b (wrow w fun i => if i < v then W i ||| V i else W i) := by
  refine con_rel_row_join ?_
  obtain ⟨oa, oc, rfl⟩ := ho.is
  simp -dsimp only [go_sem, ↓reduceIte, reduceCtorEq, Nat.reduceEqDiff, Nat.reduceAdd, Nat.reduceLeDiff, Nat.reduceMul, Int.reduceBEq, Int.reduceBNe, Int.reduceLT, Int.reduceLE, Int.reduceGT, Int.reduceGE]
  refine loop_intro (fun i : Nat => [(0, .slice (some ⟨b, 0, none⟩) w w), (7, .slice oa 1 oc), (8, .int .i64 1), (9, .int .i64 i)])
    (fun i h' => (i = 0 ∧ h' = h) ∨ (i = 1 ∧ Fr b (b + 1) h h' ∧ h'.size = h.size ∧ Rw h' b (wrow w fun i => if i < v then W i ||| V i else W i))) (fun i => 1 - i) 0 ?_ ?_ ?_
  · simp [Le, find]
  · exact .inl ⟨rfl, rfl⟩
  rintro i h1 (⟨rfl, rfl⟩ | ⟨rfl, hf, hz, hr⟩)
  · simp -dsimp only [go_sem, ↓reduceIte, reduceCtorEq, Nat.reduceEqDiff, Nat.reduceAdd, Nat.reduceLeDiff, Nat.reduceMul, Int.reduceBEq, Int.reduceBNe, Int.reduceLT, Int.reduceLE, Int.reduceGT, Int.reduceGE]
    refine ⟨fun _ => ?_, fun h => absurd (by omega) h⟩
    simp -dsimp only [go_sem, ↓reduceIte, reduceCtorEq, Nat.reduceEqDiff, Nat.reduceAdd, Nat.reduceLeDiff, Nat.reduceMul, Int.reduceBEq, Int.reduceBNe, Int.reduceLT, Int.reduceLE, Int.reduceGT, Int.reduceGE]
    refine Chk_intro (by omega) (ho.idx (by omega) fun b1 o1 c1 => ?_)
    have c1 : hcell h1 b1 o1 = some (.slice (some ⟨b', 0, none⟩) v v) := c1 0 _ rfl
    simp -dsimp only [go_sem, ↓reduceIte, reduceCtorEq, Nat.reduceEqDiff, Nat.reduceAdd, Nat.reduceLeDiff, Nat.reduceMul, Int.reduceBEq, Int.reduceBNe, Int.reduceLT, Int.reduceLE, Int.reduceGT, Int.reduceGE, c1]
    have hm : (if (v : Int) < (w : Int) then (v : Int) else (w : Int)) = ((min w v : Nat) : Int) := by split <;> omega
    rw [hm]
    refine loop_intro (fun i : Nat => [(0, .slice (some ⟨b, 0, none⟩) w w), (5, .slice (some ⟨b', 0, none⟩) v v), (7, .slice oa 1 oc), (8, .int .i64 1), (9, .int .i64 (0 : Nat)), (17, .int .i64 (min w v : Nat)), (18, .int .i64 i)])
      (fun i h' => i ≤ min w v ∧ Fr b (b + 1) h1 h' ∧ h'.size = h1.size ∧ Rw h' b (wrow w fun k => if k < i then W k ||| V k else W k)) (fun i => min w v - i) 0 ?_ ?_ ?_
    · simp [Le, find]
    · exact ⟨by omega, .refl _ _ _, rfl, by simpa using hx⟩
    rintro i h2 ⟨hi, f2, z2, r2⟩
    simp -dsimp only [go_sem, ↓reduceIte, reduceCtorEq, Nat.reduceEqDiff, Nat.reduceAdd, Nat.reduceLeDiff, Nat.reduceMul, Int.reduceBEq, Int.reduceBNe, Int.reduceLT, Int.reduceLE, Int.reduceGT, Int.reduceGE]
    refine ⟨fun hlt => ?_, fun hge => ?_⟩
    · have hlt : i < min w v := by omega
      have hy2 : hcell h2 b' i = some (.int .u64 (V i : Int)) := by
        by_cases hb : b' = b
        · subst hb
          obtain ⟨e1, e2⟩ := wrow_inj (hx.inj hy)
          rw [r2.cell, wrow_get (by omega), if_neg (by omega), e2 i (by omega)]
        · rw [(hy.fr f2 (by omega)).cell, wrow_get (by omega)]
      simp -dsimp only [go_sem, ↓reduceIte, reduceCtorEq, Nat.reduceEqDiff, Nat.reduceAdd, Nat.reduceLeDiff, Nat.reduceMul, Int.reduceBEq, Int.reduceBNe, Int.reduceLT, Int.reduceLE, Int.reduceGT, Int.reduceGE]
      refine Chk_intro (by omega) ?_
      simp -dsimp only [go_sem, ↓reduceIte, reduceCtorEq, Nat.reduceEqDiff, Nat.reduceAdd, Nat.reduceLeDiff, Nat.reduceMul, Int.reduceBEq, Int.reduceBNe, Int.reduceLT, Int.reduceLE, Int.reduceGT, Int.reduceGE, r2.cell, wrow_get (show i < w by omega)]
      refine Chk_intro (by omega) ?_
      simp -dsimp only [go_sem, ↓reduceIte, reduceCtorEq, Nat.reduceEqDiff, Nat.reduceAdd, Nat.reduceLeDiff, Nat.reduceMul, Int.reduceBEq, Int.reduceBNe, Int.reduceLT, Int.reduceLE, Int.reduceGT, Int.reduceGE, hy2, Nat.lt_irrefl]
      rw [or64 (hW i) (hV i)]
      refine Chk_intro (by omega) ?_
      simp -dsimp only [go_sem, ↓reduceIte, reduceCtorEq, Nat.reduceEqDiff, Nat.reduceAdd, Nat.reduceLeDiff, Nat.reduceMul, Int.reduceBEq, Int.reduceBNe, Int.reduceLT, Int.reduceLE, Int.reduceGT, Int.reduceGE]
      refine Chk_intro (r2.wr (by simp; omega)) fun h3 s3 => ?_
      have r3 := s3.row r2
      have z3 := s3.size
      rw [cl_int, putAt_one, wrow_upd] at r3
      simp -dsimp only [go_sem, ↓reduceIte, reduceCtorEq, Nat.reduceEqDiff, Nat.reduceAdd, Nat.reduceLeDiff, Nat.reduceMul, Int.reduceBEq, Int.reduceBNe, Int.reduceLT, Int.reduceLE, Int.reduceGT, Int.reduceGE]
      simp -dsimp (disch := omega) only [wrap64]
      refine ⟨i + 1, by omega, by simp [Le, find], by omega, f2.trans s3.fr, by omega, ?_⟩
      rw [wrow_congr fun k hk => ?_]; exact r3
      unfold upd
      dsimp only
      by_cases hki : k = i
      · subst hki; simp
      · rw [if_neg hki]
        by_cases h1 : k < i
        · rw [if_pos h1, if_pos (by omega)]
        · rw [if_neg h1, if_neg (by omega)]
    · have : i = min w v := by omega
      subst this
      simp -dsimp only [go_sem, ↓reduceIte, reduceCtorEq, Nat.reduceEqDiff, Nat.reduceAdd, Nat.reduceLeDiff, Nat.reduceMul, Int.reduceBEq, Int.reduceBNe, Int.reduceLT, Int.reduceLE, Int.reduceGT, Int.reduceGE]
      simp -dsimp (disch := omega) only [wrap64]
      refine ⟨1, by omega, by simp [Le, find], .inr ⟨rfl, f2, z2, ?_⟩⟩
      rw [wrow_congr fun k hk => ?_]; exact r2
      by_cases h1 : k < v
      · rw [if_pos h1, if_pos (by omega)]
      · rw [if_neg h1, if_neg (by omega)]
  · simp -dsimp only [go_sem, ↓reduceIte, reduceCtorEq, Nat.reduceEqDiff, Nat.reduceAdd, Nat.reduceLeDiff, Nat.reduceMul, Int.reduceBEq, Int.reduceBNe, Int.reduceLT, Int.reduceLE, Int.reduceGT, Int.reduceGE]
    refine ⟨fun h => absurd h (by omega), fun _ => ?_⟩
    simp -dsimp only [go_sem, ↓reduceIte, reduceCtorEq, Nat.reduceEqDiff, Nat.reduceAdd, Nat.reduceLeDiff, Nat.reduceMul, Int.reduceBEq, Int.reduceBNe, Int.reduceLT, Int.reduceLE, Int.reduceGT, Int.reduceGE]
    exact ⟨hf, hz, hr⟩
theorem rel_wide {n : Nat} {M : Nat → Nat → Bool} {p : Value} {lo hi : Nat} {h : Heap} (hr : ProgAt h lo hi p n M) (k : Nat) (hk : k ≤ 256) :
    Con Tryd.prog 88 #[p, .int .i64 k] h fun v h' => Fr 0 0 h h' ∧ ProgAt h' h.size h'.size v (max k n) (inN n M) := by
  refine con_rel_Rel_wide ?_
  obtain ⟨hn, pb, rb, R, W, rfl, t⟩ := hr
  have hm : (if (n : Int) > (k : Int) then (n : Int) else (k : Int)) = ((max k n : Nat) : Int) := by split <;> omega
  have hcl : clampN (max k n : Nat) = max k n := by unfold clampN; omega
  simp -dsimp only [go_sem, ↓reduceIte, reduceCtorEq, Nat.reduceEqDiff, Nat.reduceAdd, Nat.reduceLeDiff, Nat.reduceMul, Int.reduceBEq, Int.reduceBNe, Int.reduceLT, Int.reduceLE, Int.reduceGT, Int.reduceGE, t.ptr.cell]
  rw [hm]
  refine call_of (rel_New _ h) ?_
  rintro v1 h1 ⟨p1, t1⟩
  rw [hcl] at t1
  obtain ⟨hx, pb1, rb1, R1, W1, rfl, t1⟩ := t1
  have t2 := t.fr p1 (by omega)
  simp -dsimp only [go_sem, ↓reduceIte, reduceCtorEq, Nat.reduceEqDiff, Nat.reduceAdd, Nat.reduceLeDiff, Nat.reduceMul, Int.reduceBEq, Int.reduceBNe, Int.reduceLT, Int.reduceLE, Int.reduceGT, Int.reduceGE, t2.ptr.cell]
  have at1 := t1.at_
  refine loop_intro (fun a : Nat => [(5, .pointer (some ⟨pb1, 0, none⟩)), (18, .slice (some ⟨rb, 0, none⟩) n n), (19, .int .i64 n), (20, .int .i64 a)])
    (fun a h' => a ≤ n ∧ Fr 0 0 h h' ∧ h1.size ≤ h'.size ∧ ∃ W, PTab h' h.size h1.size pb1 rb1 (max k n) R1 W fun i j => decide (i < a) && decide (j < n) && M i j) (fun a => n - a) 0 ?_ ?_ ?_
  · simp [Le, find]
  · exact ⟨by omega, p1, by omega, _, t1.congr fun i j _ _ => by simp⟩
  rintro a h2 ⟨ha, p0, y2, W2, t3⟩
  have p0_z := p0.size
  have t4 := t.fr p0 (by omega)
  simp -dsimp only [go_sem, ↓reduceIte, reduceCtorEq, Nat.reduceEqDiff, Nat.reduceAdd, Nat.reduceLeDiff, Nat.reduceMul, Int.reduceBEq, Int.reduceBNe, Int.reduceLT, Int.reduceLE, Int.reduceGT, Int.reduceGE]
  refine ⟨fun hlt => ?_, fun hge => ?_⟩
  · have hlt : a < n := by omega
    simp -dsimp only [go_sem, ↓reduceIte, reduceCtorEq, Nat.reduceEqDiff, Nat.reduceAdd, Nat.reduceLeDiff, Nat.reduceMul, Int.reduceBEq, Int.reduceBNe, Int.reduceLT, Int.reduceLE, Int.reduceGT, Int.reduceGE]
    refine Chk_intro (by omega) ?_
    simp -dsimp only [go_sem, ↓reduceIte, reduceCtorEq, Nat.reduceEqDiff, Nat.reduceAdd, Nat.reduceLeDiff, Nat.reduceMul, Int.reduceBEq, Int.reduceBNe, Int.reduceLT, Int.reduceLE, Int.reduceGT, Int.reduceGE, t4.rowsGet hlt, t3.ptr.cell]
    refine Chk_intro (by omega) ?_
    simp -dsimp only [go_sem, ↓reduceIte, reduceCtorEq, Nat.reduceEqDiff, Nat.reduceAdd, Nat.reduceLeDiff, Nat.reduceMul, Int.reduceBEq, Int.reduceBNe, Int.reduceLT, Int.reduceLE, Int.reduceGT, Int.reduceGE, t3.rowsGet (show a < max k n by omega)]
    intro b5 h5 n5
    have n5_a := n5.at_
    have n5_z := n5.size
    replace p0 := p0.fresh (n5.fr (lo := 0) (hi := 0)) (by omega)
    replace t3 := t3.fr (n5.fr (lo := 0) (hi := 0)) (by omega)
    have r5 := n5.row
    obtain ⟨g1, g2, g3, g4, g5, g6⟩ := t3.row a (by omega)
    obtain ⟨f1, f2, f3, f4, f5, f6⟩ := (t.fr p0 (by omega)).row a hlt
    simp -dsimp only [go_sem, ↓reduceIte, reduceCtorEq, Nat.reduceEqDiff, Nat.reduceAdd, Nat.reduceLeDiff, Nat.reduceMul, Int.reduceBEq, Int.reduceBNe, Int.reduceLT, Int.reduceLE, Int.reduceGT, Int.reduceGE, r5.cell]
    refine call_of (row_join g1 f1 (r5.rd rfl) (fun j => (g6 j).1) (fun j => (f6 j).1) (by unfold nw; omega) (by unfold nw; omega)) ?_
    rintro _ h6 ⟨q6, z6, r6⟩
    have t6 := t3.updRow (by omega) q6 r6 (g6.or f6 (by omega))
    have q6_z := q6.size
    replace p0 := p0.fresh q6 (by omega)
    simp -dsimp only [go_sem, ↓reduceIte, reduceCtorEq, Nat.reduceEqDiff, Nat.reduceAdd, Nat.reduceLeDiff, Nat.reduceMul, Int.reduceBEq, Int.reduceBNe, Int.reduceLT, Int.reduceLE, Int.reduceGT, Int.reduceGE]
    simp -dsimp (disch := omega) only [wrap64]
    refine ⟨a + 1, by omega, by simp [Le, find], by omega, p0, by omega, _, t6.congr fun i j hi hj => ?_⟩
    by_cases hia : i = a
    · subst hia
      rw [upd_same]; simp
    · rw [upd_ne _ _ hia]
      have : (i < a + 1) = (i < a) := by simp; omega
      simp [this]
  · have : a = n := by omega
    subst this
    simp -dsimp only [go_sem, ↓reduceIte, reduceCtorEq, Nat.reduceEqDiff, Nat.reduceAdd, Nat.reduceLeDiff, Nat.reduceMul, Int.reduceBEq, Int.reduceBNe, Int.reduceLT, Int.reduceLE, Int.reduceGT, Int.reduceGE]
    exact ⟨p0, hx, _, _, _, _, rfl, (t3.mono' y2).congr fun i j _ _ => rfl⟩
end Go.Proofs.Tst
namespace Go.Proofs.Tst
open Go Go.Vc
theorem rel_Copy {n : Nat} {M : Nat → Nat → Bool} {p : Value} {lo hi : Nat} {h : Heap} (hr : ProgAt h lo hi p n M) :
    Con Tryd.prog 56 #[p] h fun v h' => Fr 0 0 h h' ∧ ProgAt h' h.size h'.size v n (inN n M) := by
  refine con_rel_Rel_Copy ?_
  simp -dsimp only [go_sem, ↓reduceIte, reduceCtorEq, Nat.reduceEqDiff, Nat.reduceAdd, Nat.reduceLeDiff, Nat.reduceMul, Int.reduceBEq, Int.reduceBNe, Int.reduceLT, Int.reduceLE, Int.reduceGT, Int.reduceGE]
  refine call_of (rel_wide hr 0 (by omega)) ?_
  rintro v h1 ⟨p1, t1⟩
  simp -dsimp only [go_sem, ↓reduceIte, reduceCtorEq, Nat.reduceEqDiff, Nat.reduceAdd, Nat.reduceLeDiff, Nat.reduceMul, Int.reduceBEq, Int.reduceBNe, Int.reduceLT, Int.reduceLE, Int.reduceGT, Int.reduceGE]
  exact ⟨p1, by rwa [Nat.zero_max] at t1⟩
theorem rel_Irreflexive {n : Nat} {M : Nat → Nat → Bool} {p : Value} {lo hi : Nat} {h : Heap} (hr : ProgAt h lo hi p n M) :
    Con Tryd.prog 46 #[p] h fun v h' => h' = h ∧ v = .bool (irrB n M) := by
  refine con_rel_Irreflexive ?_
  obtain ⟨hn, pb, rb, R, W, rfl, t⟩ := hr
  simp -dsimp only [go_sem, ↓reduceIte, reduceCtorEq, Nat.reduceEqDiff, Nat.reduceAdd, Nat.reduceLeDiff, Nat.reduceMul, Int.reduceBEq, Int.reduceBNe, Int.reduceLT, Int.reduceLE, Int.reduceGT, Int.reduceGE, t.ptr.cell]
  refine loop_intro (fun a : Nat => [(8, .slice (some ⟨rb, 0, none⟩) n n), (9, .int .i64 n), (10, .int .i64 a)])
    (fun a h' => h' = h ∧ a ≤ n ∧ ∀ i, i < a → M i i = false) (fun a => n - a) 0 ?_ ?_ ?_
  · simp [Le, find]
  · exact ⟨rfl, by omega, by omega⟩
  rintro a _ ⟨rfl, ha, hinv⟩
  simp -dsimp only [go_sem, ↓reduceIte, reduceCtorEq, Nat.reduceEqDiff, Nat.reduceAdd, Nat.reduceLeDiff, Nat.reduceMul, Int.reduceBEq, Int.reduceBNe, Int.reduceLT, Int.reduceLE, Int.reduceGT, Int.reduceGE]
  refine ⟨fun hlt => ?_, fun hge => ?_⟩
  · have hlt : a < n := by omega
    obtain ⟨g1, g2, g3, g4, g5, g6⟩ := t.row a hlt
    simp -dsimp only [go_sem, ↓reduceIte, reduceCtorEq, Nat.reduceEqDiff, Nat.reduceAdd, Nat.reduceLeDiff, Nat.reduceMul, Int.reduceBEq, Int.reduceBNe, Int.reduceLT, Int.reduceLE, Int.reduceGT, Int.reduceGE]
    refine Chk_intro (by omega) ?_
    simp -dsimp only [go_sem, ↓reduceIte, reduceCtorEq, Nat.reduceEqDiff, Nat.reduceAdd, Nat.reduceLeDiff, Nat.reduceMul, Int.reduceBEq, Int.reduceBNe, Int.reduceLT, Int.reduceLE, Int.reduceGT, Int.reduceGE, t.rowsGet hlt]
    refine call_of (row_has (p := a) (ptab_rd t hlt) (by unfold nw; omega) (g6 _).1 (by omega)) ?_
    rintro v h1 ⟨rfl, rfl⟩
    rw [g6.get hlt]
    cases hm : M a a with
    | true =>
      simp -dsimp only [go_sem, ↓reduceIte, reduceCtorEq, Nat.reduceEqDiff, Nat.reduceAdd, Nat.reduceLeDiff, Nat.reduceMul, Int.reduceBEq, Int.reduceBNe, Int.reduceLT, Int.reduceLE, Int.reduceGT, Int.reduceGE]
      have : irrB n M = false := by
        rw [Bool.eq_false_iff]; intro h'
        have := List.all_eq_true.1 h' a (List.mem_range.2 hlt)
        simp [hm] at this
      rw [this]
    | false =>
      simp -dsimp only [go_sem, ↓reduceIte, reduceCtorEq, Nat.reduceEqDiff, Nat.reduceAdd, Nat.reduceLeDiff, Nat.reduceMul, Int.reduceBEq, Int.reduceBNe, Int.reduceLT, Int.reduceLE, Int.reduceGT, Int.reduceGE]
      simp -dsimp (disch := omega) only [wrap64]
      refine ⟨a + 1, by omega, by simp [Le, find], by omega, fun i hi => ?_⟩
      by_cases hia : i = a
      · subst hia; exact hm
      · exact hinv i (by omega)
  · have : a = n := by omega
    subst this
    simp -dsimp only [go_sem, ↓reduceIte, reduceCtorEq, Nat.reduceEqDiff, Nat.reduceAdd, Nat.reduceLeDiff, Nat.reduceMul, Int.reduceBEq, Int.reduceBNe, Int.reduceLT, Int.reduceLE, Int.reduceGT, Int.reduceGE]
    have : irrB a M = true := List.all_eq_true.2 fun i hi => by rw [hinv i (List.mem_range.1 hi)]; rfl
    rw [this]
theorem rel_Plus {n : Nat} {M : Nat → Nat → Bool} {p : Value} {lo hi : Nat} {h : Heap} (hr : ProgAt h lo hi p n M) :
    Con Tryd.prog 30 #[p] h fun v h' => Fr 0 0 h h' ∧ ProgAt h' h.size h'.size v n (plusM n M) := by
  refine con_rel_Plus ?_
  simp -dsimp only [go_sem, ↓reduceIte, reduceCtorEq, Nat.reduceEqDiff, Nat.reduceAdd, Nat.reduceLeDiff, Nat.reduceMul, Int.reduceBEq, Int.reduceBNe, Int.reduceLT, Int.reduceLE, Int.reduceGT, Int.reduceGE]
  refine call_of (rel_Copy hr) ?_
  rintro v1 h1 ⟨p1, hn, pb1, rb1, R1, W1, rfl, t1⟩
  have at1 := t1.at_
  simp -dsimp only [go_sem, ↓reduceIte, reduceCtorEq, Nat.reduceEqDiff, Nat.reduceAdd, Nat.reduceLeDiff, Nat.reduceMul, Int.reduceBEq, Int.reduceBNe, Int.reduceLT, Int.reduceLE, Int.reduceGT, Int.reduceGE, t1.ptr.cell]
  refine loop_intro (fun k : Nat => [(3, .pointer (some ⟨pb1, 0, none⟩)), (11, .int .i64 n), (12, .int .i64 k)])
    (fun k h' => k ≤ n ∧ Fr 0 0 h h' ∧ h1.size ≤ h'.size ∧ ∃ W, PTab h' h.size h1.size pb1 rb1 n R1 W (warM n M k)) (fun k => n - k) 0 ?_ ?_ ?_
  · simp [Le, find]
  · exact ⟨by omega, p1, by omega, _, t1.congr fun i j hi hj => inN_in hi hj⟩
  rintro k h2 ⟨hk, p0, y2, W2, t2⟩
  simp -dsimp only [go_sem, ↓reduceIte, reduceCtorEq, Nat.reduceEqDiff, Nat.reduceAdd, Nat.reduceLeDiff, Nat.reduceMul, Int.reduceBEq, Int.reduceBNe, Int.reduceLT, Int.reduceLE, Int.reduceGT, Int.reduceGE]
  refine ⟨fun hlt => ?_, fun hge => ?_⟩
  · have hlt : k < n := by omega
    simp -dsimp only [go_sem, ↓reduceIte, reduceCtorEq, Nat.reduceEqDiff, Nat.reduceAdd, Nat.reduceLeDiff, Nat.reduceMul, Int.reduceBEq, Int.reduceBNe, Int.reduceLT, Int.reduceLE, Int.reduceGT, Int.reduceGE, t2.ptr.cell]
    refine loop_intro (fun a : Nat => [(3, .pointer (some ⟨pb1, 0, none⟩)), (4, .int .i64 k), (11, .int .i64 n), (12, .int .i64 k), (18, .int .i64 n), (19, .int .i64 a)])
      (fun a h' => a ≤ n ∧ Fr 0 0 h h' ∧ h1.size ≤ h'.size ∧ ∃ W, PTab h' h.size h1.size pb1 rb1 n R1 W fun i j => if i < a then warM n M (k + 1) i j else warM n M k i j) (fun a => n - a) 0 ?_ ?_ ?_
    · simp [Le, find]
    · exact ⟨by omega, p0, by omega, _, t2.congr fun i j hi hj => by simp⟩
    rintro a h3 ⟨ha, p0, y3, W3, t3⟩
    have p0_z := p0.size
    simp -dsimp only [go_sem, ↓reduceIte, reduceCtorEq, Nat.reduceEqDiff, Nat.reduceAdd, Nat.reduceLeDiff, Nat.reduceMul, Int.reduceBEq, Int.reduceBNe, Int.reduceLT, Int.reduceLE, Int.reduceGT, Int.reduceGE]
    refine ⟨fun hlt2 => ?_, fun hge2 => ?_⟩
    · have hlt2 : a < n := by omega
      obtain ⟨g1, g2, g3, g4, g5, g6⟩ := t3.row a hlt2
      obtain ⟨f1, f2, f3, f4, f5, f6⟩ := t3.row k hlt
      simp -dsimp only [go_sem, ↓reduceIte, reduceCtorEq, Nat.reduceEqDiff, Nat.reduceAdd, Nat.reduceLeDiff, Nat.reduceMul, Int.reduceBEq, Int.reduceBNe, Int.reduceLT, Int.reduceLE, Int.reduceGT, Int.reduceGE, t3.ptr.cell]
      refine Chk_intro (by omega) ?_
      simp -dsimp only [go_sem, ↓reduceIte, reduceCtorEq, Nat.reduceEqDiff, Nat.reduceAdd, Nat.reduceLeDiff, Nat.reduceMul, Int.reduceBEq, Int.reduceBNe, Int.reduceLT, Int.reduceLE, Int.reduceGT, Int.reduceGE, t3.rowsGet hlt2]
      refine call_of (row_has (p := k) (ptab_rd t3 hlt2) (by unfold nw; omega) (g6 _).1 (by omega)) ?_
      rintro v h4 ⟨rfl, rfl⟩
      rw [g6.get hlt]
      simp only [Nat.lt_irrefl, if_false]
      cases hm : warM n M k a k with
      | true =>
        simp -dsimp only [go_sem, ↓reduceIte, reduceCtorEq, Nat.reduceEqDiff, Nat.reduceAdd, Nat.reduceLeDiff, Nat.reduceMul, Int.reduceBEq, Int.reduceBNe, Int.reduceLT, Int.reduceLE, Int.reduceGT, Int.reduceGE, t3.ptr.cell]
        refine Chk_intro (by omega) ?_
        simp -dsimp only [go_sem, ↓reduceIte, reduceCtorEq, Nat.reduceEqDiff, Nat.reduceAdd, Nat.reduceLeDiff, Nat.reduceMul, Int.reduceBEq, Int.reduceBNe, Int.reduceLT, Int.reduceLE, Int.reduceGT, Int.reduceGE, t3.rowsGet hlt2, t3.ptr.cell]
        refine Chk_intro (by omega) ?_
        simp -dsimp only [go_sem, ↓reduceIte, reduceCtorEq, Nat.reduceEqDiff, Nat.reduceAdd, Nat.reduceLeDiff, Nat.reduceMul, Int.reduceBEq, Int.reduceBNe, Int.reduceLT, Int.reduceLE, Int.reduceGT, Int.reduceGE, t3.rowsGet hlt]
        intro b5 h5 n5
        have n5_a := n5.at_
        have n5_z := n5.size
        replace p0 := p0.fresh (n5.fr (lo := 0) (hi := 0)) (by omega)
        replace t3 := t3.fr (n5.fr (lo := 0) (hi := 0)) (by omega)
        have r5 := n5.row
        obtain ⟨g1, g2, g3, g4, g5, g6⟩ := t3.row a hlt2
        obtain ⟨f1, f2, f3, f4, f5, f6⟩ := t3.row k hlt
        simp -dsimp only [go_sem, ↓reduceIte, reduceCtorEq, Nat.reduceEqDiff, Nat.reduceAdd, Nat.reduceLeDiff, Nat.reduceMul, Int.reduceBEq, Int.reduceBNe, Int.reduceLT, Int.reduceLE, Int.reduceGT, Int.reduceGE, t3.rowsGet hlt, t3.rowsGet hlt2, t3.ptr.cell, r5.cell]
        refine call_of (row_join g1 f1 (r5.rd rfl) (fun j => (g6 j).1) (fun j => (f6 j).1) (by unfold nw; omega) (by unfold nw; omega)) ?_
        rintro _ h6 ⟨q6, z6, r6⟩
        have t6 := t3.updRow hlt2 q6 r6 (g6.or f6 (by omega))
        have q6_z := q6.size
        replace p0 := p0.fresh q6 (by omega)
        simp -dsimp only [go_sem, ↓reduceIte, reduceCtorEq, Nat.reduceEqDiff, Nat.reduceAdd, Nat.reduceLeDiff, Nat.reduceMul, Int.reduceBEq, Int.reduceBNe, Int.reduceLT, Int.reduceLE, Int.reduceGT, Int.reduceGE, t6.ptr.cell, t6.rowsGet hlt, t6.rowsGet hlt2]
        simp -dsimp (disch := omega) only [wrap64]
        refine ⟨a + 1, by omega, by simp [Le, find], by omega, p0, by omega, _, t6.congr fun i j hi hj => ?_⟩
        by_cases hia : i = a
        · subst hia
          have e : (if k < i then warM n M (k + 1) k j else warM n M k k j) = warM n M k k j := by split <;> simp [warM_self]
          rw [upd_same, if_pos (Nat.lt_succ_self _)]
          simp only [Nat.lt_irrefl, if_false, e, hj, decide_true, Bool.true_and]
          simp only [warM, hm, Bool.true_and]
        · rw [upd_ne _ _ hia]
          have : (i < a + 1) = (i < a) := by simp; omega
          simp [this]
      | false =>
        simp -dsimp only [go_sem, ↓reduceIte, reduceCtorEq, Nat.reduceEqDiff, Nat.reduceAdd, Nat.reduceLeDiff, Nat.reduceMul, Int.reduceBEq, Int.reduceBNe, Int.reduceLT, Int.reduceLE, Int.reduceGT, Int.reduceGE]
        simp -dsimp (disch := omega) only [wrap64]
        refine ⟨a + 1, by omega, by simp [Le, find], by omega, p0, by omega, _, t3.congr fun i j hi hj => ?_⟩
        by_cases hia : i = a
        · subst hia
          simp [warM, hm]
        · have : (i < a + 1) = (i < a) := by simp; omega
          simp [this]
    · have : a = n := by omega
      subst this
      simp -dsimp only [go_sem, ↓reduceIte, reduceCtorEq, Nat.reduceEqDiff, Nat.reduceAdd, Nat.reduceLeDiff, Nat.reduceMul, Int.reduceBEq, Int.reduceBNe, Int.reduceLT, Int.reduceLE, Int.reduceGT, Int.reduceGE]
      simp -dsimp (disch := omega) only [wrap64]
      exact ⟨k + 1, by omega, by simp [Le, find], by omega, p0, by omega, _, t3.congr fun i j hi hj => by simp [hi]⟩
  · have : k = n := by omega
    subst this
    simp -dsimp only [go_sem, ↓reduceIte, reduceCtorEq, Nat.reduceEqDiff, Nat.reduceAdd, Nat.reduceLeDiff, Nat.reduceMul, Int.reduceBEq, Int.reduceBNe, Int.reduceLT, Int.reduceLE, Int.reduceGT, Int.reduceGE]
    exact ⟨p0, hn, _, _, _, _, rfl, t2.mono' y2⟩
theorem rel_Acyclic {n : Nat} {M : Nat → Nat → Bool} {p : Value} {lo hi : Nat} {h : Heap} (hr : ProgAt h lo hi p n M) :
    Con Tryd.prog 45 #[p] h fun v h' => Fr 0 0 h h' ∧ v = .bool (irrB n (plusM n M)) := by
  refine con_rel_Acyclic ?_
  simp -dsimp only [go_sem, ↓reduceIte, reduceCtorEq, Nat.reduceEqDiff, Nat.reduceAdd, Nat.reduceLeDiff, Nat.reduceMul, Int.reduceBEq, Int.reduceBNe, Int.reduceLT, Int.reduceLE, Int.reduceGT, Int.reduceGE]
  refine call_of (rel_Plus hr) ?_
  rintro v1 h1 ⟨p1, t1⟩
  simp -dsimp only [go_sem, ↓reduceIte, reduceCtorEq, Nat.reduceEqDiff, Nat.reduceAdd, Nat.reduceLeDiff, Nat.reduceMul, Int.reduceBEq, Int.reduceBNe, Int.reduceLT, Int.reduceLE, Int.reduceGT, Int.reduceGE]
  refine call_of (rel_Irreflexive t1) ?_
  rintro v2 h2 ⟨rfl, rfl⟩
  simp -dsimp only [go_sem, ↓reduceIte, reduceCtorEq, Nat.reduceEqDiff, Nat.reduceAdd, Nat.reduceLeDiff, Nat.reduceMul, Int.reduceBEq, Int.reduceBNe, Int.reduceLT, Int.reduceLE, Int.reduceGT, Int.reduceGE]
  exact p1
end Go.Proofs.Tst
/-
  order.Extensions: the lists are those of extGo, in their order.
-/
namespace Go.Proofs.Tst
open Go Go.Vc
theorem slices_Clone {a : Option Addr} {n c : Nat} {xs : List Value} {h : Heap} (hr : Rd 1 h (.slice a n c) n xs) (hoc : xs.all Value.oneCell' = true) (hb : n ≤ 65536) :
    Con Tryd.prog 80 #[.slice a n c] h fun v h' => Fr 0 0 h h' ∧ Holder 1 h' v n xs h.size := by
  refine con_slices_Clone ?_
  have p0 : Fr 0 0 h h := .refl _ _ _
  have hl := hr.1
  cases a with
  | none =>
    obtain ⟨-, a', c', h1, h2⟩ := hr
    cases h1
    have hn : n = 0 := by rcases h2 with h2 | ⟨b, o, h2, -⟩ <;> simp_all
    subst hn
    obtain rfl : xs = [] := List.eq_nil_of_length_eq_zero (by simpa using hl)
    simp -dsimp only [go_sem, ↓reduceIte, reduceCtorEq, Nat.reduceEqDiff, Nat.reduceAdd, Nat.reduceLeDiff, Nat.reduceMul, Int.reduceBEq, Int.reduceBNe, Int.reduceLT, Int.reduceLE, Int.reduceGT, Int.reduceGE]
    exact ⟨p0, .none _ _ _⟩
  | some a =>
    simp -dsimp only [go_sem, ↓reduceIte, reduceCtorEq, Nat.reduceEqDiff, Nat.reduceAdd, Nat.reduceLeDiff, Nat.reduceMul, Int.reduceBEq, Int.reduceBNe, Int.reduceLT, Int.reduceLE, Int.reduceGT, Int.reduceGE]
    intro b1 h1 n1
    have n1_a := n1.at_
    have n1_z := n1.size
    replace p0 := p0.fresh (n1.fr (lo := 0) (hi := 0)) (by omega)
    have r1 := n1.row
    have o1 : Holder 1 h1 (.slice (some ⟨b1, 0, none⟩) 0 0) 0 [] h.size := ⟨rfl, .inr ⟨b1, 0, [], rfl, r1, rfl, by omega⟩⟩
    simp -dsimp only [go_sem, ↓reduceIte, reduceCtorEq, Nat.reduceEqDiff, Nat.reduceAdd, Nat.reduceLeDiff, Nat.reduceMul, Int.reduceBEq, Int.reduceBNe, Int.reduceLT, Int.reduceLE, Int.reduceGT, Int.reduceGE, r1.cell]
    refine o1.appendRd (hr.fr p0) (by omega) rfl (by omega) hoc (by omega) fun v2 h2 o2 f2 e2 => ?_
    simp -dsimp only [go_sem, ↓reduceIte, reduceCtorEq, Nat.reduceEqDiff, Nat.reduceAdd, Nat.reduceLeDiff, Nat.reduceMul, Int.reduceBEq, Int.reduceBNe, Int.reduceLT, Int.reduceLE, Int.reduceGT, Int.reduceGE, r1.cell]
    rw [Nat.zero_add, List.nil_append] at o2
    exact ⟨p0.fresh f2 (by simp [bl, bh]; omega), o2⟩
def allS (n : Nat) (M : Nat → Nat → Bool) : List (List Nat) := if irrB n (plusM n M) = true then extGo n M n [] else []
def extS (n : Nat) (M : Nat → Nat → Bool) (most : Int) : List (List Nat) := (allS n M).take most.toNat
def extB (n : Nat) (M : Nat → Nat → Bool) (most : Int) : Bool := decide ((allS n M).length ≤ most.toNat)
structure ExI (h h1 h2 : Heap) (c : ChB) (n : Nat) (M : Nat → Nat → Bool) (most : Int) (lv wv : Value) (q : Nat) (way : List Nat) (out : List (List Nat)) (us : List Value) (h' : Heap) : Prop where
  p : Fr 0 0 h h'
  y : h2.size ≤ h'.size
  len : way.length ≤ n
  nd : way.Nodup
  lt : ∀ x ∈ way, x < n
  qn : q ≤ n
  t : Chs h' h1.size h2.size c n M way.contains
  ow : Holder 1 h' wv way.length (natsV way) h2.size
  oL : LL h' lv us (out.map natsV) h2.size
  wl : Off wv lv
  wu : ∀ w ∈ us, Off w wv
  ap : us.Pairwise Off
  rem : out ++ remS n M way q = extGo n M n []
  few : out.length ≤ most.toNat
theorem exI_back {h h1 h2 h6 h7 : Heap} {c : ChB} {n b wc x : Nat} {M : Nat → Nat → Bool} {most : Int} {lv : Value} {w : List Nat} {out : List (List Nat)} {us : List Value} (nd : (w ++ [x]).Nodup) (lt : ∀ y ∈ w ++ [x], y < n) (p : Fr 0 0 h h6) (y : h2.size ≤ h6.size)
    (ow : Holder 1 h6 (.slice (some ⟨b, 0, none⟩) (w.length + 1) wc) (w.length + 1) (natsV (w ++ [x])) h2.size) (oL : LL h6 lv us (out.map natsV) h2.size) (wl : Off (.slice (some ⟨b, 0, none⟩) (w ++ [x]).length wc) lv)
    (wu : ∀ u ∈ us, Off u (.slice (some ⟨b, 0, none⟩) (w ++ [x]).length wc)) (ap : us.Pairwise Off) (rem : out ++ remS n M w (x + 1) = extGo n M n []) (few : out.length ≤ most.toNat)
    (f7 : Fr h1.size h2.size h6 h7) (z7 : h7.size = h6.size) (t7 : Chs h7 h1.size h2.size c n M fun k => if k = x then false else (w ++ [x]).contains k) (h01 : h.size ≤ h1.size) :
    ExI h h1 h2 c n M most lv (.slice (some ⟨b, 0, none⟩) w.length wc) (x + 1) w out us h7 := by
  have hx : x < n := lt x (by simp)
  have hb := ow.at_
  rw [List.nodup_append] at nd
  have hl : w.length ≤ n := nodup_lt nd.1 fun y hy => lt y (by simp [hy])
  refine ⟨p.fresh f7 (by omega), by omega, hl, nd.1, fun y hy => lt y (by simp [hy]), by omega, ?_, ?_, oL.fr f7 (oL.below (Nat.le_refl _)), wl, wu, ap, rem, few⟩
  · have e : (fun k => if k = x then false else (w ++ [x]).contains k) = w.contains := by
      funext k
      by_cases hk : k = x
      · subst hk
        have : k ∉ w := fun hm => nd.2.2 k hm k (by simp) rfl
        simp [this]
      · simp [hk]
    rw [e] at t7; exact t7
  · rw [natsV_append] at ow
    exact ow.pop.fr f7 (by simp only [bl, bh] at *; omega)
theorem oc_nats (l : List Nat) : (natsV l).all Value.oneCell' = true := by simp [natsV, Value.oneCell', List.all_eq_true]
set_option maxHeartbeats 1000000 in
theorem order_Extensions {n : Nat} {M : Nat → Nat → Bool} {pv : Value} {lo hi : Nat} {h : Heap} (hr : ProgAt h lo hi pv n M) (ht : TabAt h) (most : Int) (hm : most ≤ 65536) (hz : 0 < h.size) :
    Con Tryd.prog 33 #[pv, .int .i64 most] h fun v h' => Fr 0 0 h h' ∧ ∃ s us, v = .tuple #[s, .bool (extB n M most)] ∧ LL h' s us ((extS n M most).map natsV) h.size ∧ us.Pairwise Off := by
  refine con_order_Extensions ?_
  have hn := hr.1
  have p0 : Fr 0 0 h h := .refl _ _ _
  simp -dsimp only [go_sem, ↓reduceIte, reduceCtorEq, Nat.reduceEqDiff, Nat.reduceAdd, Nat.reduceLeDiff, Nat.reduceMul, Int.reduceBEq, Int.reduceBNe, Int.reduceLT, Int.reduceLE, Int.reduceGT, Int.reduceGE]
  refine call_of (rel_Acyclic hr) ?_
  rintro v h1 ⟨f1, rfl⟩
  have f1_z := f1.size
  replace p0 := p0.fresh f1 (by omega)
  simp -dsimp only [go_sem, ↓reduceIte, reduceCtorEq, Nat.reduceEqDiff, Nat.reduceAdd, Nat.reduceLeDiff, Nat.reduceMul, Int.reduceBEq, Int.reduceBNe, Int.reduceLT, Int.reduceLE, Int.reduceGT, Int.reduceGE]
  cases hac : irrB n (plusM n M) with
  | false =>
    simp -dsimp only [go_sem, ↓reduceIte, reduceCtorEq, Nat.reduceEqDiff, Nat.reduceAdd, Nat.reduceLeDiff, Nat.reduceMul, Int.reduceBEq, Int.reduceBNe, Int.reduceLT, Int.reduceLE, Int.reduceGT, Int.reduceGE]
    exact ⟨p0, .slice none 0 0, [], by simp [extB, allS, hac], by simp only [extS, allS, hac]; simp; exact .nil, .nil⟩
  | true =>
  have hall : allS n M = extGo n M n [] := by simp [allS, hac]
  simp -dsimp only [go_sem, ↓reduceIte, reduceCtorEq, Nat.reduceEqDiff, Nat.reduceAdd, Nat.reduceLeDiff, Nat.reduceMul, Int.reduceBEq, Int.reduceBNe, Int.reduceLT, Int.reduceLE, Int.reduceGT, Int.reduceGE]
  refine call_of (order_chooser (hr.fr p0 (by omega)) (ht.fr p0 (by omega))) ?_
  rintro v h2 ⟨f2, c, rfl, t2⟩
  have f2_z := f2.size
  replace p0 := p0.fresh f2 (by omega)
  simp -dsimp only [go_sem, ↓reduceIte, reduceCtorEq, Nat.reduceEqDiff, Nat.reduceAdd, Nat.reduceLeDiff, Nat.reduceMul, Int.reduceBEq, Int.reduceBNe, Int.reduceLT, Int.reduceLE, Int.reduceGT, Int.reduceGE]
  refine loop_intro (fun s : Value × Value × Nat × List Nat × List (List Nat) × List Value => [(0, pv), (1, .int .i64 most), (4, s.1), (6, c.next), (7, c.place), (8, s.2.1), (9, .int .i64 s.2.2.1)])
    (fun s h' => ExI h h1 h2 c n M most s.1 s.2.1 s.2.2.1 s.2.2.2.1 s.2.2.2.2.1 s.2.2.2.2.2 h')
    (fun s => (2 * n + 2) ^ (n + 1) - posV n s.2.2.2.1 s.2.2.1) (.slice none 0 0, .slice none 0 0, 0, [], [], []) ?_ ?_ ?_
  · simp [Le, find]
  · exact ⟨p0, Nat.le_refl _, by simp, by simp, by simp, Nat.zero_le _, t2, .none _ _ _, .nil, .inl rfl, by simp, .nil, by rw [List.nil_append, rem_start], by simp⟩
  rintro ⟨lv, wv, q, way, out, us⟩ h3 hI
  dsimp only at hI ⊢
  simp -dsimp only [go_sem, ↓reduceIte, reduceCtorEq, Nat.reduceEqDiff, Nat.reduceAdd, Nat.reduceLeDiff, Nat.reduceMul, Int.reduceBEq, Int.reduceBNe, Int.reduceLT, Int.reduceLE, Int.reduceGT, Int.reduceGE]
  refine loop_intro (fun s : Value × Value × Nat × List Nat × List (List Nat) × List Value => [(0, pv), (1, .int .i64 most), (4, s.1), (6, c.next), (7, c.place), (8, s.2.1), (9, .int .i64 s.2.2.1)])
    (fun s h' => ExI h h1 h2 c n M most s.1 s.2.1 s.2.2.1 s.2.2.2.1 s.2.2.2.2.1 s.2.2.2.2.2 h' ∧ posV n way q ≤ posV n s.2.2.2.1 s.2.2.1)
    (fun s => (2 * n + 2) ^ (n + 1) - posV n s.2.2.2.1 s.2.2.1) (lv, wv, q, way, out, us) ?_ ?_ ?_
  · simp [Le, find]
  · exact ⟨hI, Nat.le_refl _⟩
  clear hI
  rintro ⟨lv, wv, q', way', out, us⟩ h4 ⟨J, hpos⟩
  dsimp only at J hpos ⊢
  have hP := posV_lt J.len J.lt J.qn
  have p4 := J.p
  have ow := J.ow
  have oL := J.oL
  have y4 := J.y
  have hl := J.len
  obtain ⟨wa, wc, rfl⟩ := ow.is
  simp -dsimp only [go_sem, ↓reduceIte, reduceCtorEq, Nat.reduceEqDiff, Nat.reduceAdd, Nat.reduceLeDiff, Nat.reduceMul, Int.reduceBEq, Int.reduceBNe, Int.reduceLT, Int.reduceLE, Int.reduceGT, Int.reduceGE]
  refine call_of (rel_Len (hr.fr p4 (by omega))) ?_
  rintro v h5 ⟨rfl, rfl⟩
  simp -dsimp only [go_sem, ↓reduceIte, reduceCtorEq, Nat.reduceEqDiff, Nat.reduceAdd, Nat.reduceLeDiff, Nat.reduceMul, Int.reduceBEq, Int.reduceBNe, Int.reduceLT, Int.reduceLE, Int.reduceGT, Int.reduceGE]
  refine ⟨fun hlt => ?_, fun hge => ?_⟩
  · have hlt : way'.length < n := by omega
    simp -dsimp only [go_sem, ↓reduceIte, reduceCtorEq, Nat.reduceEqDiff, Nat.reduceAdd, Nat.reduceLeDiff, Nat.reduceMul, Int.reduceBEq, Int.reduceBNe, Int.reduceLT, Int.reduceLE, Int.reduceGT, Int.reduceGE, ChB.next]
    refine call_of (chooser_next (q := q') J.t J.qn) ?_
    rintro v h6 ⟨rfl, rfl⟩
    cases hx : lf (freeB n M way'.contains) n q' with
    | none =>
      have htodo := todo_none (n := n) (M := M) hlt hx
      simp -dsimp only [go_sem, ↓reduceIte, reduceCtorEq, Nat.reduceEqDiff, Nat.reduceAdd, Nat.reduceLeDiff, Nat.reduceMul, Int.reduceBEq, Int.reduceBNe, Int.reduceLT, Int.reduceLE, Int.reduceGT, Int.reduceGE, nx_none]
      refine ⟨fun h0 => ?_, fun h0 => ?_⟩
      · obtain rfl : way' = [] := List.eq_nil_of_length_eq_zero (by simpa using h0)
        have hout : allS n M = out := by rw [hall, ← J.rem, rem_nil, htodo, List.append_nil]
        have hf := J.few
        simp -dsimp only [go_sem, ↓reduceIte, reduceCtorEq, Nat.reduceEqDiff, Nat.reduceAdd, Nat.reduceLeDiff, Nat.reduceMul, Int.reduceBEq, Int.reduceBNe, Int.reduceLT, Int.reduceLE, Int.reduceGT, Int.reduceGE]
        exact ⟨p4, lv, us, by simp [extB, hout, hf], by rw [extS, hout, List.take_of_length_le hf]; exact oL.lower (by omega), J.ap⟩
      · obtain ⟨w, x, rfl⟩ : ∃ w x, way' = w ++ [x] := by
          rcases List.eq_nil_or_concat way' with rfl | ⟨w, x, rfl⟩
          · simp at h0
          · exact ⟨w, x, by rw [List.concat_eq_append]⟩
        have ew : (w ++ [x]).length = w.length + 1 := by simp
        rw [ew] at ow ⊢
        obtain ⟨b, c', rest, hv, hrow, hcap, hb⟩ := ow.blk (by omega)
        cases hv
        have e1 : IntKind.i64.wrap (((w.length + 1 : Nat) : Int) - 1) = (w.length : Int) := by rw [wrap64 (by omega) (by omega)]; omega
        have hxn : x < n := J.lt x (by simp)
        have hc : hcell h6 b w.length = some (.int .i64 x) := by rw [hrow.cell, List.getElem?_append_left (by simp), natsV_get (p := x) (by simp)]
        simp -dsimp only [go_sem, ↓reduceIte, reduceCtorEq, Nat.reduceEqDiff, Nat.reduceAdd, Nat.reduceLeDiff, Nat.reduceMul, Int.reduceBEq, Int.reduceBNe, Int.reduceLT, Int.reduceLE, Int.reduceGT, Int.reduceGE, e1]
        refine Chk_intro (by omega) ?_
        simp -dsimp only [go_sem, ↓reduceIte, reduceCtorEq, Nat.reduceEqDiff, Nat.reduceAdd, Nat.reduceLeDiff, Nat.reduceMul, Int.reduceBEq, Int.reduceBNe, Int.reduceLT, Int.reduceLE, Int.reduceGT, Int.reduceGE, e1, Int.toNat_natCast, hc]
        refine Chk_intro (by omega) ?_
        simp -dsimp only [go_sem, ↓reduceIte, reduceCtorEq, Nat.reduceEqDiff, Nat.reduceAdd, Nat.reduceLeDiff, Nat.reduceMul, Int.reduceBEq, Int.reduceBNe, Int.reduceLT, Int.reduceLE, Int.reduceGT, Int.reduceGE, e1, Int.toNat_natCast]
        refine Chk_intro (by omega) ?_
        simp -dsimp only [go_sem, ↓reduceIte, reduceCtorEq, Nat.reduceEqDiff, Nat.reduceAdd, Nat.reduceLeDiff, Nat.reduceMul, Int.reduceBEq, Int.reduceBNe, Int.reduceLT, Int.reduceLE, Int.reduceGT, Int.reduceGE, ChB.place]
        refine call_of (chooser_place J.t hxn false (by simp)) ?_
        rintro v h7 ⟨f7, z7, t7⟩
        simp -dsimp only [go_sem, ↓reduceIte, reduceCtorEq, Nat.reduceEqDiff, Nat.reduceAdd, Nat.reduceLeDiff, Nat.reduceMul, Int.reduceBEq, Int.reduceBNe, Int.reduceLT, Int.reduceLE, Int.reduceGT, Int.reduceGE]
        simp -dsimp (disch := omega) only [wrap64]
        have hB := posV_back (p := x) (l := w) (q := q') (by omega) J.qn
        generalize (2 * n + 2) ^ (n + 1) = T at *
        refine ⟨(lv, .slice (some ⟨b, 0, none⟩) w.length wc, x + 1, w, out, us), by dsimp only; omega, by simp [Le, find, ChB.next, ChB.place], ?_⟩
        exact exI_back J.nd J.lt p4 y4 ow oL J.wl J.wu J.ap (by rw [← J.rem, rem_back (by omega), htodo]; rfl) J.few f7 z7 t7 (by omega)
    | some x =>
      obtain ⟨hqx, hxn, hfx⟩ := lf_some hx
      have hDx : way'.contains x = false := (freeB_true.1 hfx).1
      have hxw : x ∉ way' := by simpa using hDx
      simp -dsimp only [go_sem, ↓reduceIte, reduceCtorEq, Nat.reduceEqDiff, Nat.reduceAdd, Nat.reduceLeDiff, Nat.reduceMul, Int.reduceBEq, Int.reduceBNe, Int.reduceLT, Int.reduceLE, Int.reduceGT, Int.reduceGE, nx_some]
      simp -dsimp only [go_sem, ↓reduceIte, reduceCtorEq, Nat.reduceEqDiff, Nat.reduceAdd, Nat.reduceLeDiff, Nat.reduceMul, Int.reduceBEq, Int.reduceBNe, Int.reduceLT, Int.reduceLE, Int.reduceGT, Int.reduceGE, ChB.place]
      refine call_of (chooser_place J.t hxn true (by simpa using hDx)) ?_
      rintro v h7 ⟨f7, z7, t7⟩
      simp -dsimp only [go_sem, ↓reduceIte, reduceCtorEq, Nat.reduceEqDiff, Nat.reduceAdd, Nat.reduceLeDiff, Nat.reduceMul, Int.reduceBEq, Int.reduceBNe, Int.reduceLT, Int.reduceLE, Int.reduceGT, Int.reduceGE, nx_some]
      intro b8 h8 n8
      have a8 := n8.at_; have z8 := n8.size
      have w0 := ow.at_
      simp -dsimp only [go_sem, ↓reduceIte, reduceCtorEq, Nat.reduceEqDiff, Nat.reduceAdd, Nat.reduceLeDiff, Nat.reduceMul, Int.reduceBEq, Int.reduceBNe, Int.reduceLT, Int.reduceLE, Int.reduceGT, Int.reduceGE, nx_some, n8.row.cell]
      have o8 := (ow.fr f7 (by omega)).fr (n8.fr (lo := 0) (hi := 0)) (by omega)
      have p8 : Fr 0 0 h h8 := (p4.fresh f7 (by omega)).trans n8.fr
      have oL8 := (oL.fr f7 (oL.below (Nat.le_refl _))).fr (n8.fr (lo := 0) (hi := 0)) (.none (Nat.le_refl _))
      refine o8.append (by omega) rfl (by omega) (by simp) (by omega) fun v9 h9 o9 f9 e9 => ?_
      have y9 := f9.size
      simp -dsimp only [go_sem, ↓reduceIte, reduceCtorEq, Nat.reduceEqDiff, Nat.reduceAdd, Nat.reduceLeDiff, Nat.reduceMul, Int.reduceBEq, Int.reduceBNe, Int.reduceLT, Int.reduceLE, Int.reduceGT, Int.reduceGE]
      have hA := posV_place (p := x) hlt hqx
      have hP2 := posV_lt (n := n) (l := way' ++ [x]) (q := 0) (by simp; omega) (by intro y hy; rcases List.mem_append.1 hy with hy | hy; exact J.lt y hy; simp at hy; omega) (by omega)
      generalize (2 * n + 2) ^ (n + 1) = T at *
      have e : (fun k => if k = x then true else way'.contains k) = (way' ++ [x]).contains := by
        funext k; by_cases hk : k = x <;> simp [hk]
      rw [e] at t7
      have hz2 : 0 < h2.size := by omega
      have way_away : ∀ u, u = lv ∨ u ∈ us → Off u (.slice wa way'.length wc) := fun u hu => by
        rcases hu with rfl | hu
        · exact J.wl.symm
        · exact J.wu u hu
      refine ⟨(lv, v9, 0, way' ++ [x], out, us), by dsimp only; omega, by simp [Le, find, ChB.next, ChB.place], ?_, by dsimp only; omega⟩
      dsimp only
      refine ⟨p8.fresh f9 (by omega), by omega, by simp; omega, ?_, ?_, by omega, ?_, ?_, oL8.fr f9 (fun u hu => (way_away u hu).away), ?_, ?_, J.ap, ?_, J.few⟩
      · rw [List.nodup_append]; exact ⟨J.nd, by simp, fun y hy z hz => by simp at hz; subst hz; rintro rfl; exact hxw hy⟩
      · intro y hy; rcases List.mem_append.1 hy with hy | hy
        · exact J.lt y hy
        · simp at hy; omega
      · exact (t7.fr (n8.fr (lo := 0) (hi := 0)) (by omega)).fr f9 (by omega)
      · rw [natsV_append, List.length_append]; exact o9
      · exact (Off.app (way_away lv (.inl rfl)) (oL8.top lv (.inl rfl)) hz2 o9 e9).symm
      · exact fun u hu => Off.app (way_away u (.inr hu)) (oL8.top u (.inr hu)) hz2 o9 e9
      · rw [← rem_place hlt hx]; exact J.rem
  · have hfull : way'.length = n := by omega
    have htodo := todo_full (M := M) (q := q') hfull
    have elen : (out.map natsV).length = out.length := by simp
    have oLis := oL.own.is
    rw [elen] at oLis
    obtain ⟨la, lc, rfl⟩ := oLis
    simp -dsimp only [go_sem, ↓reduceIte, reduceCtorEq, Nat.reduceEqDiff, Nat.reduceAdd, Nat.reduceLeDiff, Nat.reduceMul, Int.reduceBEq, Int.reduceBNe, Int.reduceLT, Int.reduceLE, Int.reduceGT, Int.reduceGE]
    refine ⟨fun hge2 => ?_, fun hlt2 => ?_⟩
    · have hll : allS n M = out ++ (way' :: later n M way'.reverse) := by rw [hall, ← J.rem, remS, htodo]; rfl
      have hom : out.length = most.toNat := by have := J.few; omega
      simp -dsimp only [go_sem, ↓reduceIte, reduceCtorEq, Nat.reduceEqDiff, Nat.reduceAdd, Nat.reduceLeDiff, Nat.reduceMul, Int.reduceBEq, Int.reduceBNe, Int.reduceLT, Int.reduceLE, Int.reduceGT, Int.reduceGE]
      refine ⟨p4, .slice la out.length lc, us, ?_, ?_, J.ap⟩
      · rw [extB, hll, decide_eq_false (by simp; omega)]
      · rw [extS, hll, ← hom, List.take_left]; exact oL.lower (by omega)
    have hlt2 : out.length < most.toNat := by omega
    simp -dsimp only [go_sem, ↓reduceIte, reduceCtorEq, Nat.reduceEqDiff, Nat.reduceAdd, Nat.reduceLeDiff, Nat.reduceMul, Int.reduceBEq, Int.reduceBNe, Int.reduceLT, Int.reduceLE, Int.reduceGT, Int.reduceGE]
    refine call_of (slices_Clone ow.rd (oc_nats _) (by omega)) ?_
    rintro cv h6 ⟨f6, oc⟩
    obtain ⟨ca, cc, rfl⟩ := oc.is
    have z6 := f6.size
    have oL6 := oL.fr f6 (.none (Nat.le_refl _))
    have ow6 := ow.fr f6 (by omega)
    have t6 := J.t.fr f6 (by omega)
    simp -dsimp only [go_sem, ↓reduceIte, reduceCtorEq, Nat.reduceEqDiff, Nat.reduceAdd, Nat.reduceLeDiff, Nat.reduceMul, Int.reduceBEq, Int.reduceBNe, Int.reduceLT, Int.reduceLE, Int.reduceGT, Int.reduceGE]
    intro b7 h7 n7
    have a7 := n7.at_; have z7 := n7.size
    have oL7 := oL6.fr (n7.fr (lo := 0) (hi := 0)) (.none (Nat.le_refl _))
    have ow7 := ow6.fr (n7.fr (lo := 0) (hi := 0)) (by omega)
    have oc7 := oc.fr (n7.fr (lo := 0) (hi := 0)) (by omega)
    have hz2 : 0 < h2.size := by omega
    have offc : ∀ u, bh u ≤ h5.size → Off (.slice ca way'.length cc) u := fun u hu => by
      have := oc.at_; have := bh_bl u; unfold Off; omega
    simp -dsimp only [go_sem, ↓reduceIte, reduceCtorEq, Nat.reduceEqDiff, Nat.reduceAdd, Nat.reduceLeDiff, Nat.reduceMul, Int.reduceBEq, Int.reduceBNe, Int.reduceLT, Int.reduceLE, Int.reduceGT, Int.reduceGE, n7.row.cell]
    have own7 := oL7.own
    rw [elen] at own7
    refine own7.append (by omega) rfl (by omega) (by simp) (by omega) fun lv2 h8 o8 f8 e8 => ?_
    have y8 := f8.size
    have oL8 := oL7.push (l := natsV way') hz2 (by rw [length_natsV]; exact oc7.lower (by omega)) (offc _ (oL.top _ (.inl rfl))) (by rw [elen]; exact o8) f8 e8
    have ow8 := ow7.fr f8 J.wl.away
    have lw := oL.own.at_
    have t8 := (t6.fr (n7.fr (lo := 0) (hi := 0)) (by omega)).fr f8 (by omega)
    have p8 : Fr 0 0 h h8 := ((p4.trans f6).trans n7.fr).fresh f8 (by omega)
    have ap8 : (us ++ [Value.slice ca way'.length cc]).Pairwise Off := by
      rw [List.pairwise_append]
      exact ⟨J.ap, List.pairwise_singleton .., fun u hu w hw => by simp at hw; subst hw; exact (offc u (oL.top u (.inr hu))).symm⟩
    have wl8 : Off (.slice wa way'.length wc) lv2 := Off.app J.wl ow7.top hz2 o8 e8
    have wu8 : ∀ u ∈ us ++ [Value.slice ca way'.length cc], Off u (.slice wa way'.length wc) := fun u hu => by
      rcases List.mem_append.1 hu with hu | hu
      · exact J.wu u hu
      · simp at hu; subst hu; exact offc _ ow.top
    have few8 : (out ++ [way']).length ≤ most.toNat := by simp; omega
    have oL8' : LL h8 lv2 (us ++ [Value.slice ca way'.length cc]) ((out ++ [way']).map natsV) h2.size := by rw [List.map_append]; exact oL8
    simp -dsimp only [go_sem, ↓reduceIte, reduceCtorEq, Nat.reduceEqDiff, Nat.reduceAdd, Nat.reduceLeDiff, Nat.reduceMul, Int.reduceBEq, Int.reduceBNe, Int.reduceLT, Int.reduceLE, Int.reduceGT, Int.reduceGE]
    refine ⟨fun h0 => ?_, fun h0 => ?_⟩
    · obtain rfl : way' = [] := List.eq_nil_of_length_eq_zero (by simpa using h0)
      have hout : allS n M = out ++ [[]] := by rw [hall, ← J.rem, rem_nil, htodo]
      simp -dsimp only [go_sem, ↓reduceIte, reduceCtorEq, Nat.reduceEqDiff, Nat.reduceAdd, Nat.reduceLeDiff, Nat.reduceMul, Int.reduceBEq, Int.reduceBNe, Int.reduceLT, Int.reduceLE, Int.reduceGT, Int.reduceGE]
      exact ⟨p8, lv2, _, by rw [extB, hout, decide_eq_true few8], by rw [extS, hout, List.take_of_length_le few8]; exact oL8'.lower (by omega), ap8⟩
    · obtain ⟨w, x, rfl⟩ : ∃ w x, way' = w ++ [x] := by
        rcases List.eq_nil_or_concat way' with rfl | ⟨w, x, rfl⟩
        · simp at h0
        · exact ⟨w, x, by rw [List.concat_eq_append]⟩
      have ew : (w ++ [x]).length = w.length + 1 := by simp
      rw [ew] at ow8 ⊢
      obtain ⟨b, c', rest, hv, hrow, hcap, hb⟩ := ow8.blk (by omega)
      cases hv
      have e1 : IntKind.i64.wrap (((w.length + 1 : Nat) : Int) - 1) = (w.length : Int) := by rw [wrap64 (by omega) (by omega)]; omega
      have hxn : x < n := J.lt x (by simp)
      have hc : hcell h8 b w.length = some (.int .i64 x) := by rw [hrow.cell, List.getElem?_append_left (by simp), natsV_get (p := x) (by simp)]
      simp -dsimp only [go_sem, ↓reduceIte, reduceCtorEq, Nat.reduceEqDiff, Nat.reduceAdd, Nat.reduceLeDiff, Nat.reduceMul, Int.reduceBEq, Int.reduceBNe, Int.reduceLT, Int.reduceLE, Int.reduceGT, Int.reduceGE, e1]
      refine Chk_intro (by omega) ?_
      simp -dsimp only [go_sem, ↓reduceIte, reduceCtorEq, Nat.reduceEqDiff, Nat.reduceAdd, Nat.reduceLeDiff, Nat.reduceMul, Int.reduceBEq, Int.reduceBNe, Int.reduceLT, Int.reduceLE, Int.reduceGT, Int.reduceGE, e1, Int.toNat_natCast, hc]
      refine Chk_intro (by omega) ?_
      simp -dsimp only [go_sem, ↓reduceIte, reduceCtorEq, Nat.reduceEqDiff, Nat.reduceAdd, Nat.reduceLeDiff, Nat.reduceMul, Int.reduceBEq, Int.reduceBNe, Int.reduceLT, Int.reduceLE, Int.reduceGT, Int.reduceGE, e1, Int.toNat_natCast]
      refine Chk_intro (by omega) ?_
      simp -dsimp only [go_sem, ↓reduceIte, reduceCtorEq, Nat.reduceEqDiff, Nat.reduceAdd, Nat.reduceLeDiff, Nat.reduceMul, Int.reduceBEq, Int.reduceBNe, Int.reduceLT, Int.reduceLE, Int.reduceGT, Int.reduceGE, ChB.place]
      refine call_of (chooser_place t8 hxn false (by simp)) ?_
      rintro v h9 ⟨f9, z9, t9⟩
      simp -dsimp only [go_sem, ↓reduceIte, reduceCtorEq, Nat.reduceEqDiff, Nat.reduceAdd, Nat.reduceLeDiff, Nat.reduceMul, Int.reduceBEq, Int.reduceBNe, Int.reduceLT, Int.reduceLE, Int.reduceGT, Int.reduceGE]
      simp -dsimp (disch := omega) only [wrap64]
      have hB := posV_back (p := x) (l := w) (q := q') (by omega) J.qn
      generalize (2 * n + 2) ^ (n + 1) = T at *
      refine ⟨(lv2, .slice (some ⟨b, 0, none⟩) w.length wc, x + 1, w, out ++ [w ++ [x]], us ++ [Value.slice ca (w ++ [x]).length cc]), by dsimp only; omega, by simp [Le, find, ChB.next, ChB.place], ?_⟩
      exact exI_back J.nd J.lt p8 (by omega) ow8 oL8' wl8 wu8 ap8 (by rw [← J.rem, rem_back (by omega), htodo]; simp) few8 f9 z9 t9 (by omega)
end Go.Proofs.Tst
