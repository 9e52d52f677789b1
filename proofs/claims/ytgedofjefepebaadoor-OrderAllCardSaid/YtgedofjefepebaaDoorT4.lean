/-
  Contracts of functions that the law reaches: what each returns and what it leaves in memory. Conditions stand in each.
-/
import Derived.Test.YtgedofjefepebaaDoorT3
set_option linter.all false
set_option maxRecDepth 2000
/-
  All lists of all points, and the orders among them.
-/
namespace Go.Proofs.Tst
open Go Go.Vc
section
variable {n : Nat} {M : Nat → Nat → Bool}
theorem glueIn_only : ∀ (l : List (Int × Int)) (U : Nat → Bool) (F : Nat → Nat) (S : Nat → Int) (F' : Nat → Nat) (S' : Nat → Int), glueIn n l U F S = some (F', S') → ∀ a b : Nat, S' a = (b : Int) → S a = (b : Int) ∨ ((a : Int), (b : Int)) ∈ l
  | [], U, F, S, F', S', h, a, b, hs => by
    simp only [glueIn, Option.some.injEq, Prod.mk.injEq] at h
    obtain ⟨rfl, rfl⟩ := h
    exact .inl hs
  | x :: l, U, F, S, F', S', h, a, b, hs => by
    by_cases hb : badP n U x
    · simp only [glueIn, if_pos hb] at h; simp at h
    simp only [glueIn, if_neg hb] at h
    obtain ⟨a', b'⟩ := x
    unfold badP at hb
    simp only [not_or] at hb
    rcases glueIn_only l _ _ _ _ _ h a b hs with h1 | h1
    · by_cases ha : a = a'.toNat
      · subst ha
        rw [upd_same] at h1
        refine .inr (List.mem_cons.2 (.inl ?_))
        simp only [Prod.mk.injEq]
        dsimp only at h1 hb
        exact ⟨by omega, h1.symm⟩
      · rw [upd_ne _ _ ha] at h1; exact .inl h1
    · exact .inr (List.mem_cons_of_mem _ h1)
/-- Do the pairs' points stand one behind the other? -/
def TogP (m : List Nat) (l : List (Int × Int)) : Prop := ∀ x ∈ l, ∃ j, m[j]?.map (fun (p : Nat) => (p : Int)) = some x.1 ∧ m[j + 1]?.map (fun (p : Nat) => (p : Int)) = some x.2
theorem glue_sound {l : List (Int × Int)} {g : List Nat} (h : glueS n M l = .ok g) : Pre n M g ∧ g.length = n ∧ TogP g l := by
  unfold glueS at h
  cases hF : glueFS n l with
  | none => rw [hF] at h; simp at h
  | some FS =>
    obtain ⟨F, S⟩ := FS
    rw [hF] at h
    simp only at h
    cases hG : glueGo n F S (glueM n M F S) n [] with
    | none => rw [hG] at h; simp [orCyc] at h
    | some m =>
      rw [hG] at h
      simp only [orCyc, Except.ok.injEq] at h
      subst h
      obtain ⟨⟨U, g⟩, -, k3⟩ := glueIn_spec l _ _ _ _ _ (.start n) hF
      obtain ⟨v, hl⟩ := glueGo_inv g n [] m (by simp) .nil hG
      refine ⟨v.pre, hl, fun x hx => ?_⟩
      obtain ⟨a, b, rfl, ha, hb, hs⟩ := k3 x hx
      obtain ⟨j, h1, h2⟩ := v.tog a b (all_in v.pre hl ha) hs
      exact ⟨j, by rw [h1]; rfl, by rw [h2]; rfl⟩
theorem glue_err {l : List (Int × Int)} {e : Int} (h : glueS n M l = .error e) : e = 1 ∨ (e = 3 ∧ ∀ m, Pre n M m → m.length = n → ¬ TogP m l) := by
  unfold glueS at h
  cases hF : glueFS n l with
  | none => rw [hF] at h; simp only [Except.error.injEq] at h; exact .inl h.symm
  | some FS =>
    obtain ⟨F, S⟩ := FS
    rw [hF] at h
    simp only at h
    cases hG : glueGo n F S (glueM n M F S) n [] with
    | some m => rw [hG] at h; simp [orCyc] at h
    | none =>
      rw [hG] at h
      simp only [orCyc, Except.error.injEq] at h
      refine .inr ⟨h.symm, fun m hm hml ht => ?_⟩
      obtain ⟨⟨U, g⟩, -, k3⟩ := glueIn_spec l _ _ _ _ _ (.start n) hF
      refine glueGo_ok g hm hml (fun a b ha hs => ?_) n [] (by simp) .nil hG
      rcases glueIn_only l _ _ _ _ _ hF a b hs with h1 | h1
      · simp at h1
      · obtain ⟨j, h2, h3⟩ := ht _ h1
        have h2 : m[j]? = some a := by
          cases hj : m[j]? with
          | none => rw [hj] at h2; simp at h2
          | some y => rw [hj] at h2; simp at h2; congr 1; omega
        have h3 : m[j + 1]? = some b := by
          cases hj : m[j + 1]? with
          | none => rw [hj] at h3; simp at h3
          | some y => rw [hj] at h3; simp at h3; congr 1; omega
        obtain ⟨q1, q2⟩ := List.getElem?_eq_some_iff.1 h2
        obtain ⟨q3, q4⟩ := List.getElem?_eq_some_iff.1 h3
        rw [← q2, ← q4, hm.1.idxOf_getElem, hm.1.idxOf_getElem]
theorem idx_map (a : Nat) : ∀ l : List Nat, (l.map fun (p : Nat) => (p : Int)).idxOf (a : Int) = l.idxOf a
  | [] => rfl
  | x :: l => by
    rw [List.map_cons, List.idxOf_cons, List.idxOf_cons, idx_map a l]
    have : ((x : Int) == (a : Int)) = (x == a) := by rw [Bool.eq_iff_iff]; simp; omega
    rw [this]
theorem linP_pre {l : List Nat} : LinP n M (l.map fun (p : Nat) => (p : Int)) ↔ Pre n M l ∧ l.length = n := by
  constructor
  · rintro ⟨h1, h2, h3, h4⟩
    have hl : l.length = n := by simpa using h1
    have hnd : l.Nodup := (List.pairwise_map.1 h3).imp fun h e => h (by rw [e])
    have hlt : ∀ x ∈ l, x < n := fun x hx => by
      have := (h2 (x : Int) (List.mem_map.2 ⟨x, hx, rfl⟩)).2; omega
    have hall : ∀ a, a < n → a ∈ l := fun a ha => by
      apply Classical.byContradiction; intro hn
      have := nodup_lt (n := n) (l := a :: l) (List.nodup_cons.2 ⟨hn, hnd⟩) fun x hx => by
        rcases List.mem_cons.1 hx with rfl | hx
        · exact ha
        · exact hlt x hx
      simp at this; omega
    refine ⟨⟨hnd, hlt, fun i x hx a ha hm => ?_⟩, hl⟩
    obtain ⟨hi, rfl⟩ := List.getElem?_eq_some_iff.1 hx
    have := h4 a ha l[i] (hlt _ (List.getElem_mem _)) hm
    rw [idx_map, idx_map, hnd.idxOf_getElem] at this
    have hal := List.getElem_idxOf (List.idxOf_lt_length_iff.2 (hall a ha))
    rw [List.mem_iff_getElem]
    exact ⟨l.idxOf a, by rw [List.length_take]; omega, by rw [List.getElem_take]; exact hal⟩
  · rintro ⟨h, hl⟩
    refine ⟨by simpa using hl, fun x hx => ?_, ?_, fun a ha b hb hm => ?_⟩
    · obtain ⟨p, hp, rfl⟩ := List.mem_map.1 hx
      have := h.2.1 p hp; omega
    · exact List.pairwise_map.2 (h.1.imp fun h e => h (by omega))
    · rw [idx_map, idx_map]; exact h.idx ha (all_in h hl hb) hm
def linB (n : Nat) (M : Nat → Nat → Bool) (l : List Nat) : Bool := decide (LinP n M (l.map fun (p : Nat) => (p : Int)))
theorem linB_true {l : List Nat} : linB n M l = true ↔ Pre n M l ∧ l.length = n := by unfold linB; rw [decide_eq_true_eq, linP_pre]
/-- One point more behind a list, each that is not in it. -/
def extOne (n : Nat) (l : List Nat) : List (List Nat) := ((List.range n).filter fun p => !l.contains p).map fun p => l ++ [p]
def permL (n : Nat) : Nat → List (List Nat)
  | 0 => [[]]
  | k + 1 => (permL n k).flatMap (extOne n)
def permGo (n : Nat) : Nat → List Nat → List (List Nat)
  | 0, l => [l]
  | k + 1, l => (extOne n l).flatMap (permGo n k)
theorem permGo_last : ∀ (k : Nat) (l : List Nat), permGo n (k + 1) l = (permGo n k l).flatMap (extOne n)
  | 0, l => by simp [permGo]
  | k + 1, l => by
    show (extOne n l).flatMap (permGo n (k + 1)) = ((extOne n l).flatMap (permGo n k)).flatMap (extOne n)
    rw [List.flatMap_assoc]
    congr 1
    funext m
    exact permGo_last k m
theorem permL_go : ∀ k, permL n k = permGo n k []
  | 0 => rfl
  | k + 1 => by rw [permGo_last, ← permL_go k]; rfl
theorem permGo_pre : ∀ (k : Nat) (l m : List Nat), m ∈ permGo n k l → ∃ r, m = l ++ r ∧ r.length = k
  | 0, l, m, h => by simp [permGo] at h; subst h; exact ⟨[], by simp, rfl⟩
  | k + 1, l, m, h => by
    simp only [permGo, List.mem_flatMap, extOne, List.mem_map] at h
    obtain ⟨_, ⟨p, hp, rfl⟩, h⟩ := h
    obtain ⟨r, rfl, hr⟩ := permGo_pre k _ _ h
    exact ⟨p :: r, by simp, by simp [hr]⟩
theorem Pre.pfx {l r : List Nat} : Pre n M (l ++ r) → Pre n M l := by
  rintro ⟨h1, h2, h3⟩
  rw [List.nodup_append] at h1
  refine ⟨h1.1, fun x hx => h2 x (by simp [hx]), fun i x hi a ha hm => ?_⟩
  have hil := (List.getElem?_eq_some_iff.1 hi).1
  have := h3 i x (by rw [List.getElem?_append_left hil]; exact hi) a ha hm
  rwa [List.take_append_of_le_length (by omega)] at this
theorem ext_perm : ∀ (k : Nat) (l : List Nat), Pre n M l → l.length + k = n → extGo n M k l = (permGo n k l).filter (linB n M)
  | 0, l, hl, hk => by
    have : linB n M l = true := linB_true.2 ⟨hl, by omega⟩
    simp [extGo, permGo, this]
  | k + 1, l, hl, hk => by
    simp only [extGo, permGo, extOne, List.flatMap_map]
    rw [List.filter_flatMap]
    unfold rest
    rw [Nat.sub_zero, ← List.range_eq_range']
    have key : ∀ ps : List Nat, (∀ p ∈ ps, p < n) → (ps.filter (freeB n M l.contains)).flatMap (fun p => extGo n M k (l ++ [p])) = (ps.filter fun p => !l.contains p).flatMap fun p => (permGo n k (l ++ [p])).filter (linB n M) := by
      intro ps
      induction ps with
      | nil => intro _; rfl
      | cons p ps ih =>
        intro hps
        have ih := ih fun q hq => hps q (List.mem_cons_of_mem _ hq)
        have hp := hps p (List.mem_cons_self ..)
        by_cases hc : l.contains p = true
        · have hf : freeB n M l.contains p = false := by rw [Bool.eq_false_iff]; intro h; have := (freeB_true.1 h).1; rw [this] at hc; simp at hc
          rw [List.filter_cons_of_neg (by simp [hf]), List.filter_cons_of_neg (by rw [hc]; simp)]; exact ih
        · have hc : l.contains p = false := Bool.eq_false_iff.2 hc
          by_cases hf : freeB n M l.contains p = true
          · rw [List.filter_cons_of_pos hf, List.filter_cons_of_pos (by rw [hc]; rfl), List.flatMap_cons, List.flatMap_cons, ih, ext_perm k (l ++ [p]) (Pre.snoc.2 ⟨hl, hp, hf⟩) (by simp; omega)]
          · rw [List.filter_cons_of_neg hf, List.filter_cons_of_pos (by rw [hc]; rfl), List.flatMap_cons, ih]
            have : (permGo n k (l ++ [p])).filter (linB n M) = [] := by
              refine List.filter_eq_nil_iff.2 fun m hm hlin => ?_
              obtain ⟨r, rfl, -⟩ := permGo_pre k _ _ hm
              exact hf (Pre.snoc.1 ((linB_true.1 hlin).1.pfx)).2.2
            rw [this, List.nil_append]
    exact key _ fun p hp => List.mem_range.1 hp
theorem allS_eq : allS n M = (permL n n).filter (linB n M) := by
  rw [permL_go, ← ext_perm n [] Pre.nil (by simp)]
  unfold allS
  split
  · rfl
  · rename_i h
    symm
    rw [ext_perm n [] Pre.nil (by simp)]
    refine List.filter_eq_nil_iff.2 fun m _ hm => ?_
    obtain ⟨h1, h2⟩ := linB_true.1 hm
    exact h (irrB_true.2 (h1.acyc h2))
theorem sort_head : ∀ (k : Nat) (l m : List Nat), sortGo n M k l = some m → ∃ r, extGo n M k l = m :: r
  | 0, l, m, h => by simp [sortGo] at h; subst h; exact ⟨[], rfl⟩
  | k + 1, l, m, h => by
    simp only [sortGo] at h
    cases hx : lf (freeB n M l.contains) n 0 with
    | none => rw [hx] at h; simp at h
    | some p =>
      rw [hx] at h
      obtain ⟨r, hr⟩ := sort_head k _ _ h
      simp only [extGo]
      rw [rest_some hx, List.flatMap_cons, hr]
      exact ⟨_, rfl⟩
theorem sort_first {m : List Nat} (h : sortS n M = some m) : ∃ r, allS n M = m :: r := by
  have ha : irrB n (plusM n M) = true := by rw [← sort_acyc, h]; rfl
  obtain ⟨r, hr⟩ := sort_head n [] m h
  exact ⟨r, by unfold allS; rw [if_pos ha, hr]⟩
theorem sort_none (h : sortS n M = none) : allS n M = [] := by
  have ha : irrB n (plusM n M) = false := by rw [← sort_acyc, h]; rfl
  unfold allS; rw [if_neg (by simp [ha])]
end
end Go.Proofs.Tst
/-
  The document's own Extensions.
-/
namespace Go.Proofs.Tst
open Go Go.Vc
end Go.Proofs.Tst
/-
  Lists of lists that are written over, row by row; rows that are grown behind one's back.
-/
namespace Go.Vc
open Go
def mv (k : Nat) : Value := .int .i64 (-1 - (k : Int))
def rowM (k c : Nat) (l : List Value) : List Value := List.replicate (min c l.length) (mv k) ++ l.drop c
def mrk (L : List (List Value)) (i j : Nat) : List (List Value) := L.mapIdx fun k l => if k < i then rowM k l.length l else if k = i then rowM k j l else l
@[simp] theorem rowM_len {k c : Nat} {l : List Value} : (rowM k c l).length = l.length := by unfold rowM; simp; omega
@[simp] theorem mrk_len {L : List (List Value)} {i j : Nat} : (mrk L i j).length = L.length := by simp [mrk]
/-- A store behind what it holds. -/
theorem Holder.beyond {h h' : Heap} {b n c j : Nat} {xs : List Value} {x : Value} {lo : Nat} (w : Holder 1 h (.slice (some ⟨b, 0, Option.none⟩) n c) n xs lo) (hj : n ≤ j) (s : Sto h h' b j [x]) : Holder 1 h' (.slice (some ⟨b, 0, Option.none⟩) n c) n xs lo := by
  have hl := w.1
  obtain ⟨_, ⟨h1, _⟩ | ⟨b', c', rest, h1, h2, h3, h4⟩⟩ := w
  · simp at h1
  cases h1
  refine ⟨hl, .inr ⟨b, c, rest.set (j - n) x, rfl, ?_, by simpa using h3, h4⟩⟩
  have := s.row h2
  rw [putAt_one, List.set_append_right _ _ (by omega)] at this
  rwa [show j - xs.length = j - n from by omega] at this
/-- Grown, and the last one stored: what was there stays. -/
theorem grown {h8 h9 h10 : Heap} {u : Value} {b n m j c : Nat} {xs ys : List Value} {x : Value} {lo : Nat} (h0 : 0 < lo) (hlo : lo ≤ h8.size) (o : Holder 1 h9 (.slice (some ⟨b, 0, none⟩) m c) m ys lo) (w : Holder 1 h9 u n xs lo) (hj : n ≤ j)
    (f : Fr (bl u) (bh u) h8 h9) (e : b = bl u ∧ h9.size = h8.size ∨ b = h8.size ∧ h9.size = h8.size + 1 ∨ b + 1 = 0 ∧ h9 = h8) (s : Sto h9 h10 b j [x]) (hw : bh u ≤ h8.size) : Holder 1 h10 u n xs lo ∧ Fr (bl u) (bh u) h8 h10 := by
  have hb : lo ≤ b := by
    have := o.at_
    simp only [bl, bh] at this; omega
  have hu := bh_bl u
  have hf : Fr (bl u) (bh u) h8 h10 := f.freshIn s.fr (by omega)
  refine ⟨?_, hf⟩
  rcases e with ⟨e, -⟩ | ⟨e, -⟩ | ⟨e, -⟩
  · obtain ⟨_, ⟨h1, _⟩ | ⟨b', c', rest, h1, h2, h3, h4⟩⟩ := id w
    · subst h1; simp [bl] at e; omega
    · subst h1
      obtain rfl : b = b' := e
      exact w.beyond hj s
  · exact w.fr s.fr (by omega)
  · omega
end Go.Vc
/-
  Lists compared, cell by cell.
-/
namespace Go.Proofs.Tst
open Go Go.Vc
theorem c_law2_ints {l m : List Int} {a b : Value} {h : Heap} (hl : Rd 1 h a l.length (intsV l)) (hm : Rd 1 h b m.length (intsV m)) (hb : l.length ≤ 4611686018427387904) :
    Con Tryd.prog 18 #[a, b] h fun v h' => h' = h ∧ v = .bool (decide (l = m)) := by
  refine con_law2_ints ?_
  obtain ⟨aa, ac, rfl⟩ := hl.is
  obtain ⟨ba, bc, rfl⟩ := hm.is
  simp -dsimp only [go_sem, ↓reduceIte, reduceCtorEq, Nat.reduceEqDiff, Nat.reduceAdd, Nat.reduceLeDiff, Nat.reduceMul, Int.reduceBEq, Int.reduceBNe, Int.reduceLT, Int.reduceLE, Int.reduceGT, Int.reduceGE]
  refine ⟨fun hne => ?_, fun heq => ?_⟩
  · simp -dsimp only [go_sem, ↓reduceIte, reduceCtorEq, Nat.reduceEqDiff, Nat.reduceAdd, Nat.reduceLeDiff, Nat.reduceMul, Int.reduceBEq, Int.reduceBNe, Int.reduceLT, Int.reduceLE, Int.reduceGT, Int.reduceGE]
    have : l ≠ m := by rintro rfl; simp at hne
    simp [this]
  have heq : l.length = m.length := by have : (l.length : Int) = m.length := by simpa using heq
                                       omega
  simp -dsimp only [go_sem, ↓reduceIte, reduceCtorEq, Nat.reduceEqDiff, Nat.reduceAdd, Nat.reduceLeDiff, Nat.reduceMul, Int.reduceBEq, Int.reduceBNe, Int.reduceLT, Int.reduceLE, Int.reduceGT, Int.reduceGE]
  refine loop_intro (fun i : Nat => [(0, .slice aa l.length ac), (1, .slice ba m.length bc), (5, .int .i64 i)])
    (fun i h' => i ≤ l.length ∧ h' = h ∧ ∀ j, j < i → l[j]? = m[j]?) (fun i => l.length - i) 0 ?_ ?_ ?_
  · simp [Le, find]
  · exact ⟨by omega, rfl, fun j hj => by omega⟩
  rintro i _ ⟨hi, rfl, hinv⟩
  simp -dsimp only [go_sem, ↓reduceIte, reduceCtorEq, Nat.reduceEqDiff, Nat.reduceAdd, Nat.reduceLeDiff, Nat.reduceMul, Int.reduceBEq, Int.reduceBNe, Int.reduceLT, Int.reduceLE, Int.reduceGT, Int.reduceGE]
  refine ⟨fun hlt => ?_, fun hge => ?_⟩
  · have hlt : i < l.length := by omega
    simp -dsimp only [go_sem, ↓reduceIte, reduceCtorEq, Nat.reduceEqDiff, Nat.reduceAdd, Nat.reduceLeDiff, Nat.reduceMul, Int.reduceBEq, Int.reduceBNe, Int.reduceLT, Int.reduceLE, Int.reduceGT, Int.reduceGE]
    refine Chk_intro (by omega) (hl.idx (by omega) fun b1 o1 c1 => ?_)
    simp -dsimp only [go_sem, ↓reduceIte, reduceCtorEq, Nat.reduceEqDiff, Nat.reduceAdd, Nat.reduceLeDiff, Nat.reduceMul, Int.reduceBEq, Int.reduceBNe, Int.reduceLT, Int.reduceLE, Int.reduceGT, Int.reduceGE, c1 i _ (intsV_get (List.getElem?_eq_getElem hlt))]
    refine Chk_intro (by omega) (hm.idx (by omega) fun b2 o2 c2 => ?_)
    simp -dsimp only [go_sem, ↓reduceIte, reduceCtorEq, Nat.reduceEqDiff, Nat.reduceAdd, Nat.reduceLeDiff, Nat.reduceMul, Int.reduceBEq, Int.reduceBNe, Int.reduceLT, Int.reduceLE, Int.reduceGT, Int.reduceGE, c2 i _ (intsV_get (List.getElem?_eq_getElem (show i < m.length by omega)))]
    refine ⟨fun hne => ?_, fun he => ?_⟩
    · simp -dsimp only [go_sem, ↓reduceIte, reduceCtorEq, Nat.reduceEqDiff, Nat.reduceAdd, Nat.reduceLeDiff, Nat.reduceMul, Int.reduceBEq, Int.reduceBNe, Int.reduceLT, Int.reduceLE, Int.reduceGT, Int.reduceGE]
      have : l ≠ m := by rintro rfl; simp at hne
      simp [this]
    · simp -dsimp only [go_sem, ↓reduceIte, reduceCtorEq, Nat.reduceEqDiff, Nat.reduceAdd, Nat.reduceLeDiff, Nat.reduceMul, Int.reduceBEq, Int.reduceBNe, Int.reduceLT, Int.reduceLE, Int.reduceGT, Int.reduceGE]
      simp -dsimp (disch := omega) only [wrap64]
      refine ⟨i + 1, by omega, by simp [Le, find], by omega, fun j hj => ?_⟩
      by_cases hji : j = i
      · subst hji
        rw [List.getElem?_eq_getElem hlt, List.getElem?_eq_getElem (show j < m.length by omega)]
        simpa using he
      · exact hinv j (by omega)
  · simp -dsimp only [go_sem, ↓reduceIte, reduceCtorEq, Nat.reduceEqDiff, Nat.reduceAdd, Nat.reduceLeDiff, Nat.reduceMul, Int.reduceBEq, Int.reduceBNe, Int.reduceLT, Int.reduceLE, Int.reduceGT, Int.reduceGE]
    have : l = m := List.ext_getElem? fun j => by
      by_cases hj : j < i
      · exact hinv j hj
      · rw [List.getElem?_eq_none (by omega), List.getElem?_eq_none (by omega)]
    simp [this]
end Go.Proofs.Tst
namespace Go.Proofs.Tst
open Go Go.Vc
def smallL : List (Int × Int) := [(2, 0), (3, 1)]
def roundL : List (Int × Int) := [(0, 1), (1, 0), (1, 4), (3, 3), (4, 2)]
theorem c_law2_small (h : Heap) : Con Tryd.prog 69 #[] h fun v h' => Fr 0 0 h h' ∧ ProgAt h' h.size h'.size v 4 (ofM 4 smallL) := by
  refine con_law2_small ?_
  have p0 : Fr 0 0 h h := .refl _ _ _
  simp -dsimp only [go_sem, ↓reduceIte, reduceCtorEq, Nat.reduceEqDiff, Nat.reduceAdd, Nat.reduceLeDiff, Nat.reduceMul, Int.reduceBEq, Int.reduceBNe, Int.reduceLT, Int.reduceLE, Int.reduceGT, Int.reduceGE]
  intro b1 h1 n1
  have n1_a := n1.at_
  have n1_z := n1.size
  replace p0 := p0.fresh (n1.fr (lo := 0) (hi := 0)) (by omega)
  have r1 := n1.row
  simp -dsimp only [go_sem, ↓reduceIte, reduceCtorEq, Nat.reduceEqDiff, Nat.reduceAdd, Nat.reduceLeDiff, Nat.reduceMul, Int.reduceBEq, Int.reduceBNe, Int.reduceLT, Int.reduceLE, Int.reduceGT, Int.reduceGE, r1.cell]
  refine call_of (rel_Of 4 _ smallL h1 (r1.rd rfl) (by decide)) ?_
  rintro v h2 ⟨f2, t2⟩
  have f2_z := f2.size
  replace p0 := p0.fresh f2 (by omega)
  replace r1 := r1.fr f2 (by omega)
  simp -dsimp only [go_sem, ↓reduceIte, reduceCtorEq, Nat.reduceEqDiff, Nat.reduceAdd, Nat.reduceLeDiff, Nat.reduceMul, Int.reduceBEq, Int.reduceBNe, Int.reduceLT, Int.reduceLE, Int.reduceGT, Int.reduceGE, r1.cell]
  exact ⟨p0, t2.mono (by omega) (by omega)⟩
theorem c_law2_round (h : Heap) : Con Tryd.prog 70 #[] h fun v h' => Fr 0 0 h h' ∧ ProgAt h' h.size h'.size v 5 (ofM 5 roundL) := by
  refine con_law2_round ?_
  have p0 : Fr 0 0 h h := .refl _ _ _
  simp -dsimp only [go_sem, ↓reduceIte, reduceCtorEq, Nat.reduceEqDiff, Nat.reduceAdd, Nat.reduceLeDiff, Nat.reduceMul, Int.reduceBEq, Int.reduceBNe, Int.reduceLT, Int.reduceLE, Int.reduceGT, Int.reduceGE]
  intro b1 h1 n1
  have n1_a := n1.at_
  have n1_z := n1.size
  replace p0 := p0.fresh (n1.fr (lo := 0) (hi := 0)) (by omega)
  have r1 := n1.row
  simp -dsimp only [go_sem, ↓reduceIte, reduceCtorEq, Nat.reduceEqDiff, Nat.reduceAdd, Nat.reduceLeDiff, Nat.reduceMul, Int.reduceBEq, Int.reduceBNe, Int.reduceLT, Int.reduceLE, Int.reduceGT, Int.reduceGE, r1.cell]
  refine call_of (rel_Of 5 _ roundL h1 (r1.rd rfl) (by decide)) ?_
  rintro v h2 ⟨f2, t2⟩
  have f2_z := f2.size
  replace p0 := p0.fresh f2 (by omega)
  replace r1 := r1.fr f2 (by omega)
  simp -dsimp only [go_sem, ↓reduceIte, reduceCtorEq, Nat.reduceEqDiff, Nat.reduceAdd, Nat.reduceLeDiff, Nat.reduceMul, Int.reduceBEq, Int.reduceBNe, Int.reduceLT, Int.reduceLE, Int.reduceGT, Int.reduceGE, r1.cell]
  exact ⟨p0, t2.mono (by omega) (by omega)⟩
theorem k2_1 : sortS 4 (ofM 4 smallL) = some [2, 0, 3, 1] := by decide
theorem k2_2 : sortS 5 (ofM 5 roundL) = none := by decide
theorem k2_3 : glueS 4 (ofM 4 smallL) [(2, 3)] = .ok [2, 3, 0, 1] := by rfl
theorem k2_4 : LinP 4 (ofM 4 smallL) [2, 0, 3, 1] := by decide
theorem k2_5 : ¬ LinP 4 (ofM 4 smallL) [0, 1, 2, 3] := by decide
theorem c_law2_lives {h : Heap} (ht : TabAt h) : Con Tryd.prog 23 #[] h fun v h' => Fr 0 0 h h' ∧ v = .bool true := by
  refine con_law2_lives ?_
  have p0 : Fr 0 0 h h := .refl _ _ _
  simp -dsimp only [go_sem, ↓reduceIte, reduceCtorEq, Nat.reduceEqDiff, Nat.reduceAdd, Nat.reduceLeDiff, Nat.reduceMul, Int.reduceBEq, Int.reduceBNe, Int.reduceLT, Int.reduceLE, Int.reduceGT, Int.reduceGE]
  refine call_of (c_law2_small h) ?_
  rintro v1 h1 ⟨f1, t1⟩
  have f1_z := f1.size
  replace p0 := p0.fresh f1 (by omega)
  simp -dsimp only [go_sem, ↓reduceIte, reduceCtorEq, Nat.reduceEqDiff, Nat.reduceAdd, Nat.reduceLeDiff, Nat.reduceMul, Int.reduceBEq, Int.reduceBNe, Int.reduceLT, Int.reduceLE, Int.reduceGT, Int.reduceGE]
  refine call_of (order_Sort t1 (ht.fr p0 (by omega))) ?_
  rintro v2 h2 ⟨f2, o2⟩
  rw [k2_1] at o2
  obtain ⟨w2, rfl, o2⟩ := o2
  have f2_z := f2.size
  replace p0 := p0.fresh f2 (by omega)
  simp -dsimp only [go_sem, ↓reduceIte, reduceCtorEq, Nat.reduceEqDiff, Nat.reduceAdd, Nat.reduceLeDiff, Nat.reduceMul, Int.reduceBEq, Int.reduceBNe, Int.reduceLT, Int.reduceLE, Int.reduceGT, Int.reduceGE]
  refine call_of (c_law2_round h2) ?_
  rintro v3 h3 ⟨f3, t3⟩
  have f3_z := f3.size
  replace p0 := p0.fresh f3 (by omega)
  replace o2 := o2.fr f3 (by have := o2.at_; omega)
  simp -dsimp only [go_sem, ↓reduceIte, reduceCtorEq, Nat.reduceEqDiff, Nat.reduceAdd, Nat.reduceLeDiff, Nat.reduceMul, Int.reduceBEq, Int.reduceBNe, Int.reduceLT, Int.reduceLE, Int.reduceGT, Int.reduceGE]
  refine call_of (order_Sort t3 (ht.fr p0 (by omega))) ?_
  rintro v4 h4 ⟨f4, o4⟩
  rw [k2_2] at o4
  simp only [ListOr] at o4
  subst o4
  have f4_z := f4.size
  replace p0 := p0.fresh f4 (by omega)
  replace o2 := o2.fr f4 (by have := o2.at_; omega)
  simp -dsimp only [go_sem, ↓reduceIte, reduceCtorEq, Nat.reduceEqDiff, Nat.reduceAdd, Nat.reduceLeDiff, Nat.reduceMul, Int.reduceBEq, Int.reduceBNe, Int.reduceLT, Int.reduceLE, Int.reduceGT, Int.reduceGE]
  refine call_of (c_law2_small h4) ?_
  rintro v5 h5 ⟨f5, t5⟩
  have f5_z := f5.size
  replace p0 := p0.fresh f5 (by omega)
  replace o2 := o2.fr f5 (by have := o2.at_; omega)
  simp -dsimp only [go_sem, ↓reduceIte, reduceCtorEq, Nat.reduceEqDiff, Nat.reduceAdd, Nat.reduceLeDiff, Nat.reduceMul, Int.reduceBEq, Int.reduceBNe, Int.reduceLT, Int.reduceLE, Int.reduceGT, Int.reduceGE]
  intro b6 h6 n6
  have n6_a := n6.at_
  have n6_z := n6.size
  replace p0 := p0.fresh (n6.fr (lo := 0) (hi := 0)) (by omega)
  replace o2 := o2.fr (n6.fr (lo := 0) (hi := 0)) (by have := o2.at_; omega)
  replace t5 := t5.fr (n6.fr (lo := 0) (hi := 0)) (by omega)
  have r6 := n6.row
  simp -dsimp only [go_sem, ↓reduceIte, reduceCtorEq, Nat.reduceEqDiff, Nat.reduceAdd, Nat.reduceLeDiff, Nat.reduceMul, Int.reduceBEq, Int.reduceBNe, Int.reduceLT, Int.reduceLE, Int.reduceGT, Int.reduceGE, r6.cell]
  refine call_of (order_Glue (l := [(2, 3)]) t5 (ht.fr p0 (by omega)) (r6.rd rfl) (by decide)) ?_
  rintro v7 h7 ⟨f7, o7⟩
  rw [k2_3] at o7
  obtain ⟨w7, rfl, o7⟩ := o7
  have f7_z := f7.size
  replace p0 := p0.fresh f7 (by omega)
  replace o2 := o2.fr f7 (by have := o2.at_; omega)
  simp -dsimp only [go_sem, ↓reduceIte, reduceCtorEq, Nat.reduceEqDiff, Nat.reduceAdd, Nat.reduceLeDiff, Nat.reduceMul, Int.reduceBEq, Int.reduceBNe, Int.reduceLT, Int.reduceLE, Int.reduceGT, Int.reduceGE]
  intro b8 h8 n8
  have n8_a := n8.at_
  have n8_z := n8.size
  replace p0 := p0.fresh (n8.fr (lo := 0) (hi := 0)) (by omega)
  replace o2 := o2.fr (n8.fr (lo := 0) (hi := 0)) (by have := o2.at_; omega)
  replace o7 := o7.fr (n8.fr (lo := 0) (hi := 0)) (by have := o7.at_; omega)
  have r8 := n8.row
  simp -dsimp only [go_sem, ↓reduceIte, reduceCtorEq, Nat.reduceEqDiff, Nat.reduceAdd, Nat.reduceLeDiff, Nat.reduceMul, Int.reduceBEq, Int.reduceBNe, Int.reduceLT, Int.reduceLE, Int.reduceGT, Int.reduceGE, r8.cell]
  refine call_of (c_law2_ints (l := [2, 0, 3, 1]) (m := [2, 0, 3, 1]) o2.rd (r8.rd rfl) (by decide)) ?_
  rintro v h9 ⟨rfl, rfl⟩
  simp -dsimp only [go_sem, ↓reduceIte, reduceCtorEq, Nat.reduceEqDiff, Nat.reduceAdd, Nat.reduceLeDiff, Nat.reduceMul, Int.reduceBEq, Int.reduceBNe, Int.reduceLT, Int.reduceLE, Int.reduceGT, Int.reduceGE, r8.cell]
  intro b10 h10 n10
  have n10_a := n10.at_
  have n10_z := n10.size
  replace p0 := p0.fresh (n10.fr (lo := 0) (hi := 0)) (by omega)
  replace o2 := o2.fr (n10.fr (lo := 0) (hi := 0)) (by have := o2.at_; omega)
  replace o7 := o7.fr (n10.fr (lo := 0) (hi := 0)) (by have := o7.at_; omega)
  replace r8 := r8.fr (n10.fr (lo := 0) (hi := 0)) (by omega)
  have r10 := n10.row
  simp -dsimp only [go_sem, ↓reduceIte, reduceCtorEq, Nat.reduceEqDiff, Nat.reduceAdd, Nat.reduceLeDiff, Nat.reduceMul, Int.reduceBEq, Int.reduceBNe, Int.reduceLT, Int.reduceLE, Int.reduceGT, Int.reduceGE, r8.cell, r10.cell]
  refine call_of (c_law2_ints (l := [2, 3, 0, 1]) (m := [2, 3, 0, 1]) o7.rd (r10.rd rfl) (by decide)) ?_
  rintro v h11 ⟨rfl, rfl⟩
  simp -dsimp only [go_sem, ↓reduceIte, reduceCtorEq, Nat.reduceEqDiff, Nat.reduceAdd, Nat.reduceLeDiff, Nat.reduceMul, Int.reduceBEq, Int.reduceBNe, Int.reduceLT, Int.reduceLE, Int.reduceGT, Int.reduceGE, r8.cell, r10.cell]
  refine call_of (c_law2_small h11) ?_
  rintro v12 h12 ⟨f12, t12⟩
  have f12_z := f12.size
  replace p0 := p0.fresh f12 (by omega)
  replace o2 := o2.fr f12 (by have := o2.at_; omega)
  replace o7 := o7.fr f12 (by have := o7.at_; omega)
  replace r8 := r8.fr f12 (by omega)
  replace r10 := r10.fr f12 (by omega)
  simp -dsimp only [go_sem, ↓reduceIte, reduceCtorEq, Nat.reduceEqDiff, Nat.reduceAdd, Nat.reduceLeDiff, Nat.reduceMul, Int.reduceBEq, Int.reduceBNe, Int.reduceLT, Int.reduceLE, Int.reduceGT, Int.reduceGE, r8.cell, r10.cell]
  refine call_of (order_Linear (l := [2, 0, 3, 1]) t12 (ht.fr p0 (by omega)) o2.rd (by decide)) ?_
  rintro v13 h13 ⟨f13, rfl⟩
  rw [decide_eq_true k2_4]
  have f13_z := f13.size
  replace p0 := p0.fresh f13 (by omega)
  replace o2 := o2.fr f13 (by have := o2.at_; omega)
  replace o7 := o7.fr f13 (by have := o7.at_; omega)
  replace r8 := r8.fr f13 (by omega)
  replace r10 := r10.fr f13 (by omega)
  simp -dsimp only [go_sem, ↓reduceIte, reduceCtorEq, Nat.reduceEqDiff, Nat.reduceAdd, Nat.reduceLeDiff, Nat.reduceMul, Int.reduceBEq, Int.reduceBNe, Int.reduceLT, Int.reduceLE, Int.reduceGT, Int.reduceGE, r8.cell, r10.cell]
  refine call_of (c_law2_small h13) ?_
  rintro v14 h14 ⟨f14, t14⟩
  have f14_z := f14.size
  replace p0 := p0.fresh f14 (by omega)
  replace o2 := o2.fr f14 (by have := o2.at_; omega)
  replace o7 := o7.fr f14 (by have := o7.at_; omega)
  replace r8 := r8.fr f14 (by omega)
  replace r10 := r10.fr f14 (by omega)
  simp -dsimp only [go_sem, ↓reduceIte, reduceCtorEq, Nat.reduceEqDiff, Nat.reduceAdd, Nat.reduceLeDiff, Nat.reduceMul, Int.reduceBEq, Int.reduceBNe, Int.reduceLT, Int.reduceLE, Int.reduceGT, Int.reduceGE, r8.cell, r10.cell]
  intro b15 h15 n15
  have n15_a := n15.at_
  have n15_z := n15.size
  replace p0 := p0.fresh (n15.fr (lo := 0) (hi := 0)) (by omega)
  replace o2 := o2.fr (n15.fr (lo := 0) (hi := 0)) (by have := o2.at_; omega)
  replace o7 := o7.fr (n15.fr (lo := 0) (hi := 0)) (by have := o7.at_; omega)
  replace r8 := r8.fr (n15.fr (lo := 0) (hi := 0)) (by omega)
  replace r10 := r10.fr (n15.fr (lo := 0) (hi := 0)) (by omega)
  replace t14 := t14.fr (n15.fr (lo := 0) (hi := 0)) (by omega)
  have r15 := n15.row
  simp -dsimp only [go_sem, ↓reduceIte, reduceCtorEq, Nat.reduceEqDiff, Nat.reduceAdd, Nat.reduceLeDiff, Nat.reduceMul, Int.reduceBEq, Int.reduceBNe, Int.reduceLT, Int.reduceLE, Int.reduceGT, Int.reduceGE, r8.cell, r10.cell, r15.cell]
  refine call_of (order_Linear (l := [0, 1, 2, 3]) t14 (ht.fr p0 (by omega)) (r15.rd rfl) (by decide)) ?_
  rintro v16 h16 ⟨f16, rfl⟩
  rw [decide_eq_false k2_5]
  have f16_z := f16.size
  replace p0 := p0.fresh f16 (by omega)
  replace o2 := o2.fr f16 (by have := o2.at_; omega)
  replace o7 := o7.fr f16 (by have := o7.at_; omega)
  replace r8 := r8.fr f16 (by omega)
  replace r10 := r10.fr f16 (by omega)
  replace t14 := t14.fr f16 (by omega)
  replace r15 := r15.fr f16 (by omega)
  simp -dsimp only [go_sem, ↓reduceIte, reduceCtorEq, Nat.reduceEqDiff, Nat.reduceAdd, Nat.reduceLeDiff, Nat.reduceMul, Int.reduceBEq, Int.reduceBNe, Int.reduceLT, Int.reduceLE, Int.reduceGT, Int.reduceGE, r8.cell, r10.cell, r15.cell]
  exact p0
end Go.Proofs.Tst
/-
  Every Extensions, by the program and by the document; the lists are written over and grown.
-/
namespace Go.Proofs.Tst
open Go Go.Vc
theorem natsV_ints (l : List Nat) : natsV l = intsV (l.map fun (p : Nat) => (p : Int)) := by simp [natsV, intsV]
theorem c_law2_lists {L K : List (List Int)} {a b : Value} {h : Heap} (hl : RL h a (L.map intsV)) (hk : RL h b (K.map intsV)) (bL : L.length ≤ 4611686018427387904) (bl' : ∀ l ∈ L, l.length ≤ 4611686018427387904) :
    Con Tryd.prog 34 #[a, b] h fun v h' => h' = h ∧ v = .bool (decide (L = K)) := by
  refine con_law2_lists ?_
  obtain ⟨us, hu, hus⟩ := hl
  obtain ⟨ws, hw, hws⟩ := hk
  rw [List.length_map] at hu hw
  obtain ⟨aa, ac, rfl⟩ := hu.is
  obtain ⟨ba, bc, rfl⟩ := hw.is
  simp -dsimp only [go_sem, ↓reduceIte, reduceCtorEq, Nat.reduceEqDiff, Nat.reduceAdd, Nat.reduceLeDiff, Nat.reduceMul, Int.reduceBEq, Int.reduceBNe, Int.reduceLT, Int.reduceLE, Int.reduceGT, Int.reduceGE]
  refine ⟨fun hne => ?_, fun heq => ?_⟩
  · simp -dsimp only [go_sem, ↓reduceIte, reduceCtorEq, Nat.reduceEqDiff, Nat.reduceAdd, Nat.reduceLeDiff, Nat.reduceMul, Int.reduceBEq, Int.reduceBNe, Int.reduceLT, Int.reduceLE, Int.reduceGT, Int.reduceGE]
    have : L ≠ K := by rintro rfl; simp at hne
    simp [this]
  have heq : L.length = K.length := by have : (L.length : Int) = K.length := by simpa using heq
                                       omega
  simp -dsimp only [go_sem, ↓reduceIte, reduceCtorEq, Nat.reduceEqDiff, Nat.reduceAdd, Nat.reduceLeDiff, Nat.reduceMul, Int.reduceBEq, Int.reduceBNe, Int.reduceLT, Int.reduceLE, Int.reduceGT, Int.reduceGE]
  refine loop_intro (fun i : Nat => [(0, .slice aa L.length ac), (1, .slice ba K.length bc), (5, .int .i64 i)])
    (fun i h' => i ≤ L.length ∧ h' = h ∧ ∀ j, j < i → L[j]? = K[j]?) (fun i => L.length - i) 0 ?_ ?_ ?_
  · simp [Le, find]
  · exact ⟨by omega, rfl, fun j hj => by omega⟩
  rintro i h1 ⟨hi, hh, hinv⟩
  obtain rfl : h = h1 := hh.symm
  simp -dsimp only [go_sem, ↓reduceIte, reduceCtorEq, Nat.reduceEqDiff, Nat.reduceAdd, Nat.reduceLeDiff, Nat.reduceMul, Int.reduceBEq, Int.reduceBNe, Int.reduceLT, Int.reduceLE, Int.reduceGT, Int.reduceGE]
  refine ⟨fun hlt => ?_, fun hge => ?_⟩
  · have hlt : i < L.length := by omega
    have hx : L[i]? = some L[i] := List.getElem?_eq_getElem _
    have hy : K[i]? = some (K[i]'(by omega)) := List.getElem?_eq_getElem _
    have hxm : L[i] ∈ L := List.getElem_mem _
    generalize L[i] = x at hx hxm
    generalize (K[i]'(by omega)) = y at hy
    obtain ⟨u, hu1, hu2⟩ := hus i (intsV x) (by rw [List.getElem?_map, hx]; rfl)
    obtain ⟨w, hw1, hw2⟩ := hws i (intsV y) (by rw [List.getElem?_map, hy]; rfl)
    rw [length_intsV] at hu2 hw2
    simp -dsimp only [go_sem, ↓reduceIte, reduceCtorEq, Nat.reduceEqDiff, Nat.reduceAdd, Nat.reduceLeDiff, Nat.reduceMul, Int.reduceBEq, Int.reduceBNe, Int.reduceLT, Int.reduceLE, Int.reduceGT, Int.reduceGE]
    refine Chk_intro (by omega) (hu.idx (by omega) fun b1 o1 c1 => ?_)
    simp -dsimp only [go_sem, ↓reduceIte, reduceCtorEq, Nat.reduceEqDiff, Nat.reduceAdd, Nat.reduceLeDiff, Nat.reduceMul, Int.reduceBEq, Int.reduceBNe, Int.reduceLT, Int.reduceLE, Int.reduceGT, Int.reduceGE, c1 i _ hu1]
    refine Chk_intro (by omega) (hw.idx (by omega) fun b2 o2 c2 => ?_)
    simp -dsimp only [go_sem, ↓reduceIte, reduceCtorEq, Nat.reduceEqDiff, Nat.reduceAdd, Nat.reduceLeDiff, Nat.reduceMul, Int.reduceBEq, Int.reduceBNe, Int.reduceLT, Int.reduceLE, Int.reduceGT, Int.reduceGE, c2 i _ hw1]
    refine call_of (c_law2_ints hu2 hw2 (bl' x hxm)) ?_
    rintro v h2 ⟨hh, rfl⟩
    obtain rfl : h = h2 := hh.symm
    by_cases hxy : x = y
    · rw [decide_eq_true hxy]
      simp -dsimp only [go_sem, ↓reduceIte, reduceCtorEq, Nat.reduceEqDiff, Nat.reduceAdd, Nat.reduceLeDiff, Nat.reduceMul, Int.reduceBEq, Int.reduceBNe, Int.reduceLT, Int.reduceLE, Int.reduceGT, Int.reduceGE]
      simp -dsimp (disch := omega) only [wrap64]
      refine ⟨i + 1, by omega, by simp [Le, find], by omega, fun j hj => ?_⟩
      by_cases hji : j = i
      · subst hji; rw [hx, hy, hxy]
      · exact hinv j (by omega)
    · rw [decide_eq_false hxy]
      simp -dsimp only [go_sem, ↓reduceIte, reduceCtorEq, Nat.reduceEqDiff, Nat.reduceAdd, Nat.reduceLeDiff, Nat.reduceMul, Int.reduceBEq, Int.reduceBNe, Int.reduceLT, Int.reduceLE, Int.reduceGT, Int.reduceGE]
      have : L ≠ K := by rintro rfl; rw [hx] at hy; exact hxy (by simpa using hy)
      simp [this]
  · simp -dsimp only [go_sem, ↓reduceIte, reduceCtorEq, Nat.reduceEqDiff, Nat.reduceAdd, Nat.reduceLeDiff, Nat.reduceMul, Int.reduceBEq, Int.reduceBNe, Int.reduceLT, Int.reduceLE, Int.reduceGT, Int.reduceGE]
    have : L = K := List.ext_getElem? fun j => by
      by_cases hj : j < i
      · exact hinv j hj
      · rw [List.getElem?_eq_none (by omega), List.getElem?_eq_none (by omega)]
    simp [this]
theorem map_nats (L : List (List Nat)) : L.map natsV = (L.map fun l => l.map fun (p : Nat) => (p : Int)).map intsV := by
  rw [List.map_map]; apply List.map_congr_left; intro l _; exact natsV_ints l
theorem c_lists_nats {L K : List (List Nat)} {a b : Value} {h : Heap} (hl : RL h a (L.map natsV)) (hk : RL h b (K.map natsV)) (he : L = K) (bL : L.length ≤ 4611686018427387904) (bl' : ∀ l ∈ L, l.length ≤ 4611686018427387904) :
    Con Tryd.prog 34 #[a, b] h fun v h' => h' = h ∧ v = .bool true := by
  subst he
  rw [map_nats] at hl hk
  have := c_law2_lists hl hk (by simpa using bL) (by intro l hl; obtain ⟨x, hx, rfl⟩ := List.mem_map.1 hl; simpa using bl' x hx)
  rwa [decide_eq_true rfl] at this
end Go.Proofs.Tst
namespace Go.Proofs.Tst
open Go Go.Vc
end Go.Proofs.Tst
namespace Go.Proofs.Tst
open Go Go.Vc
end Go.Proofs.Tst
namespace Go.Proofs.Tst
open Go Go.Vc
end Go.Proofs.Tst
namespace Go.Proofs.Tst
open Go Go.Vc
end Go.Proofs.Tst
namespace Go.Proofs.Tst
open Go Go.Vc
/-- Relations that are joined. -/
def RelsAt (h : Heap) (L : List (Value × Nat × (Nat → Nat → Bool))) : Prop := ∀ x ∈ L, ∃ lo hi, ProgAt h lo hi x.1 x.2.1 x.2.2
theorem RelsAt.fr {h h' : Heap} {L : List (Value × Nat × (Nat → Nat → Bool))} (r : RelsAt h L) (f : Fr 0 0 h h') : RelsAt h' L := fun x hx => by
  obtain ⟨lo, hi, t⟩ := r x hx; exact ⟨lo, hi, t.fr f (by omega)⟩
end Go.Proofs.Tst
/-
  How many bits a word has: the library's way of adding them up.
-/
namespace Go.Vc
end Go.Vc
namespace Go.Proofs.Tst
open Go Go.Vc
end Go.Proofs.Tst
namespace Go.Proofs.Tst
open Go Go.Vc
end Go.Proofs.Tst
namespace Go.Proofs.Tst
open Go Go.Vc
/-- The points of a round. -/
def LayL (n : Nat) (M : Nat → Nat → Bool) (p k : Nat) (L : List Nat) : Prop := (k = 0 ∧ L = [p]) ∨ (0 < k ∧ ∀ i, i ∈ L ↔ i < n ∧ farK n M p k i = k)
theorem LayL.lay {n : Nat} {M : Nat → Nat → Bool} {p k : Nat} {L : List Nat} (h : LayL n M p k L) (i : Nat) : L.any (fun q => M i q) = lay n M p (farK n M p k) k i := by
  rcases h with ⟨rfl, rfl⟩ | ⟨hk, h⟩
  · simp [Go.Vc.lay]
  · obtain ⟨k, rfl⟩ : ∃ k', k = k' + 1 := ⟨k - 1, by omega⟩
    rw [Bool.eq_iff_iff, lay_succ, List.any_eq_true]
    exact ⟨fun ⟨q, hq, hm⟩ => ⟨q, ((h q).1 hq).1, hm, ((h q).1 hq).2⟩, fun ⟨q, hq, hm, hf⟩ => ⟨q, (h q).2 ⟨hq, hf⟩, hm⟩⟩
theorem LayL.lt {n : Nat} {M : Nat → Nat → Bool} {p k : Nat} {L : List Nat} (hp : p < n) (h : LayL n M p k L) {q : Nat} (hq : q ∈ L) : q < n := by
  rcases h with ⟨rfl, rfl⟩ | ⟨hk, h⟩
  · simp at hq; omega
  · exact ((h q).1 hq).1

end Go.Proofs.Tst
namespace Go.Proofs.Tst
open Go Go.Vc
end Go.Proofs.Tst
namespace Go.Proofs.Tst
open Go Go.Vc
end Go.Proofs.Tst
namespace Go.Proofs.Tst
open Go Go.Vc
end Go.Proofs.Tst
namespace Go.Proofs.Tst
open Go Go.Vc
end Go.Proofs.Tst
namespace Go.Proofs.Tst
open Go Go.Vc
end Go.Proofs.Tst
namespace Go.Proofs.Tst
open Go Go.Vc
end Go.Proofs.Tst
namespace Go.Proofs.Tst
open Go Go.Vc
end Go.Proofs.Tst
/-
  The laws of sets of pairs.
-/
namespace Go.Proofs.Tst
open Go Go.Vc
section
variable {k : Nat} {A B C : Nat → Nat → Bool} {i j : Nat}
end
theorem progPtr {h : Heap} {lo hi : Nat} {p : Value} {n : Nat} {M : Nat → Nat → Bool} (t : ProgAt h lo hi p n M) : ∃ pb, p = .pointer (some ⟨pb, 0, none⟩) := by
  obtain ⟨-, pb, rb, R, W, rfl, -⟩ := t; exact ⟨pb, rfl⟩
end Go.Proofs.Tst
