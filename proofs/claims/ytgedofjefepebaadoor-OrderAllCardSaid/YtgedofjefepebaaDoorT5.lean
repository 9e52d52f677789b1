/-
  Contracts of functions that the law reaches: what each returns and what it leaves in memory. Conditions stand in each.
-/
import Derived.Test.YtgedofjefepebaaDoorT4
set_option linter.all false
set_option maxRecDepth 2000
/-
  OrderAll: all lists of all points are gone through.
-/
namespace Go.Proofs.Tst
open Go Go.Vc
theorem mem_permGo {n : Nat} : ∀ (r l : List Nat), (l ++ r).Nodup → (∀ x ∈ r, x < n) → l ++ r ∈ permGo n r.length l
  | [], l, _, _ => by simp [permGo]
  | p :: r, l, hd, hl => by
    simp only [List.length_cons, permGo, extOne, List.mem_flatMap, List.mem_map, List.mem_filter]
    have hp : p ∉ l := by
      rw [List.nodup_append] at hd
      intro h; exact hd.2.2 p h p (List.mem_cons_self ..) rfl
    refine ⟨l ++ [p], ⟨p, ⟨List.mem_range.2 (hl p (List.mem_cons_self ..)), by simpa using hp⟩, rfl⟩, ?_⟩
    have := mem_permGo r (l ++ [p]) (by simpa using hd) fun x hx => hl x (List.mem_cons_of_mem _ hx)
    simpa using this
theorem mem_allS {n : Nat} {M : Nat → Nat → Bool} {m : List Nat} (h : Pre n M m) (hl : m.length = n) : m ∈ allS n M := by
  rw [allS_eq, permL_go, List.mem_filter]
  have := mem_permGo m [] (by simpa using h.1) h.2.1
  rw [hl] at this
  exact ⟨by simpa using this, linB_true.2 ⟨h, hl⟩⟩
theorem perm_few : ∀ k, k < 6 → ∀ i, i < 6 → (permL k i).length ≤ 120 := by decide +kernel
theorem perm_len {n : Nat} {k : Nat} {m : List Nat} (h : m ∈ permL n k) : m.length = k := by
  rw [permL_go] at h
  obtain ⟨r, rfl, hr⟩ := permGo_pre k _ _ h
  simpa using hr
def extP (x : List Nat) (p : Nat) : List (List Nat) := ((List.range p).filter fun q => !x.contains q).map fun q => x ++ [q]
theorem extP_succ {x : List Nat} {p : Nat} : extP x (p + 1) = if x.contains p = true then extP x p else extP x p ++ [x ++ [p]] := by
  unfold extP
  rw [List.range_succ, List.filter_append, List.map_append]
  by_cases h : x.contains p = true
  · rw [if_pos h, List.filter_cons_of_neg (by rw [h]; simp)]; simp
  · rw [if_neg h, List.filter_cons_of_pos (by rw [Bool.eq_false_iff.2 h]; rfl)]; simp
theorem extP_len {x : List Nat} {p : Nat} : (extP x p).length ≤ p := by
  unfold extP; rw [List.length_map]; exact Nat.le_trans (List.length_filter_le _ _) (by simp)
theorem ext_len {k : Nat} : ∀ (L : List (List Nat)), (L.flatMap (extOne k)).length ≤ L.length * k
  | [] => by simp
  | x :: L => by
    have h1 := ext_len (k := k) L
    have h2 : (extOne k x).length ≤ k := extP_len
    rw [List.flatMap_cons, List.length_append, List.length_cons, Nat.add_mul, Nat.one_mul]; omega
theorem c_law2_has {l : List Nat} {v : Value} {p : Nat} {h : Heap} (hl : Rd 1 h v l.length (natsV l)) (hb : l.length ≤ 65536) : Con Tryd.prog 35 #[v, .int .i64 p] h fun v h' => h' = h ∧ v = .bool (l.contains p) := by
  refine con_law2_has ?_
  obtain ⟨la, lc, rfl⟩ := hl.is
  simp -dsimp only [go_sem, ↓reduceIte, reduceCtorEq, Nat.reduceEqDiff, Nat.reduceAdd, Nat.reduceLeDiff, Nat.reduceMul, Int.reduceBEq, Int.reduceBNe, Int.reduceLT, Int.reduceLE, Int.reduceGT, Int.reduceGE]
  refine loop_intro (fun i : Nat => [(0, .slice la l.length lc), (1, .int .i64 p), (5, .int .i64 i)]) (fun i h' => i ≤ l.length ∧ h' = h ∧ p ∉ l.take i) (fun i => l.length - i) 0 ?_ ?_ ?_
  · simp [Le, find]
  · exact ⟨by omega, rfl, by simp⟩
  rintro i h1 ⟨hi, hh, hn⟩
  obtain rfl : h = h1 := hh.symm
  simp -dsimp only [go_sem, ↓reduceIte, reduceCtorEq, Nat.reduceEqDiff, Nat.reduceAdd, Nat.reduceLeDiff, Nat.reduceMul, Int.reduceBEq, Int.reduceBNe, Int.reduceLT, Int.reduceLE, Int.reduceGT, Int.reduceGE]
  refine ⟨fun hlt => ?_, fun hge => ?_⟩
  · have hlt : i < l.length := by omega
    have hx : l[i]? = some l[i] := List.getElem?_eq_getElem _
    have hmem : l[i] ∈ l := List.getElem_mem _
    have htk : l.take (i + 1) = l.take i ++ [l[i]] := by rw [List.take_succ_eq_append_getElem hlt]
    generalize l[i] = x at hx hmem htk
    simp -dsimp only [go_sem, ↓reduceIte, reduceCtorEq, Nat.reduceEqDiff, Nat.reduceAdd, Nat.reduceLeDiff, Nat.reduceMul, Int.reduceBEq, Int.reduceBNe, Int.reduceLT, Int.reduceLE, Int.reduceGT, Int.reduceGE]
    refine Chk_intro (by omega) (hl.idx (by omega) fun b o c => ?_)
    by_cases hxp : x = p
    · have e : ((x : Int) == (p : Int)) = true := by simp [hxp]
      simp -dsimp only [go_sem, ↓reduceIte, reduceCtorEq, Nat.reduceEqDiff, Nat.reduceAdd, Nat.reduceLeDiff, Nat.reduceMul, Int.reduceBEq, Int.reduceBNe, Int.reduceLT, Int.reduceLE, Int.reduceGT, Int.reduceGE, c i _ (natsV_get hx), e]
      subst hxp
      simp [hmem]
    · have e : ((x : Int) == (p : Int)) = false := by simp; omega
      simp -dsimp only [go_sem, ↓reduceIte, reduceCtorEq, Nat.reduceEqDiff, Nat.reduceAdd, Nat.reduceLeDiff, Nat.reduceMul, Int.reduceBEq, Int.reduceBNe, Int.reduceLT, Int.reduceLE, Int.reduceGT, Int.reduceGE, c i _ (natsV_get hx), e]
      simp -dsimp (disch := omega) only [wrap64]
      exact ⟨i + 1, by omega, by simp [Le, find], by omega, by rw [htk]; simp [hn]; omega⟩
  · have : i = l.length := by omega
    subst this
    rw [List.take_length] at hn
    simp -dsimp only [go_sem, ↓reduceIte, reduceCtorEq, Nat.reduceEqDiff, Nat.reduceAdd, Nat.reduceLeDiff, Nat.reduceMul, Int.reduceBEq, Int.reduceBNe, Int.reduceLT, Int.reduceLE, Int.reduceGT, Int.reduceGE]
    simp [hn]
def isAt (l : List Nat) (x : Nat) (A : Int) : Bool := l[x]?.map (fun (p : Nat) => (p : Int)) == some A
def tgB (l : List Nat) (A B : Int) (j : Nat) : Bool := (List.range j).any fun x => isAt l x A && isAt l (x + 1) B
theorem tgB_succ {l : List Nat} {A B : Int} {j : Nat} : tgB l A B (j + 1) = (tgB l A B j || (isAt l j A && isAt l (j + 1) B)) := by
  unfold tgB; rw [List.range_succ, List.any_append]; simp
theorem tgB_end {l : List Nat} {A B : Int} {j : Nat} (h : l.length ≤ j + 1) : tgB l A B j = true ↔ ∃ x, l[x]?.map (fun (p : Nat) => (p : Int)) = some A ∧ l[x + 1]?.map (fun (p : Nat) => (p : Int)) = some B := by
  unfold tgB isAt
  simp only [List.any_eq_true, List.mem_range, Bool.and_eq_true, beq_iff_eq]
  constructor
  · rintro ⟨x, -, h1, h2⟩; exact ⟨x, h1, h2⟩
  · rintro ⟨x, h1, h2⟩
    refine ⟨x, ?_, h1, h2⟩
    apply Classical.byContradiction; intro hx
    rw [List.getElem?_eq_none (by omega)] at h2; simp at h2
theorem c_law2_together {l : List Nat} {ps : List (Int × Int)} {v w : Value} {h : Heap} (hl : Rd 1 h v l.length (natsV l)) (hp : Rd 2 h w ps.length (pairsV ps)) (hb : l.length ≤ 65536) (hb2 : ps.length ≤ 4611686018427387904) :
    Con Tryd.prog 36 #[v, w] h fun v h' => h' = h ∧ ∃ b, v = .bool b ∧ (b = true ↔ TogP l ps) := by
  refine con_law2_together ?_
  obtain ⟨la, lc, rfl⟩ := hl.is
  obtain ⟨pa, pc, rfl⟩ := hp.is
  simp -dsimp only [go_sem, ↓reduceIte, reduceCtorEq, Nat.reduceEqDiff, Nat.reduceAdd, Nat.reduceLeDiff, Nat.reduceMul, Int.reduceBEq, Int.reduceBNe, Int.reduceLT, Int.reduceLE, Int.reduceGT, Int.reduceGE]
  refine loop_intro (fun i : Nat => [(0, .slice la l.length lc), (1, .slice pa ps.length pc), (5, .int .i64 i)]) (fun i h' => i ≤ ps.length ∧ h' = h ∧ TogP l (ps.take i)) (fun i => ps.length - i) 0 ?_ ?_ ?_
  · simp [Le, find]
  · exact ⟨by omega, rfl, by intro x hx; simp at hx⟩
  rintro i h1 ⟨hi, hh, hn⟩
  obtain rfl : h = h1 := hh.symm
  simp -dsimp only [go_sem, ↓reduceIte, reduceCtorEq, Nat.reduceEqDiff, Nat.reduceAdd, Nat.reduceLeDiff, Nat.reduceMul, Int.reduceBEq, Int.reduceBNe, Int.reduceLT, Int.reduceLE, Int.reduceGT, Int.reduceGE]
  refine ⟨fun hlt => ?_, fun hge => ?_⟩
  · have hlt : i < ps.length := by omega
    have hx : ps[i]? = some ps[i] := List.getElem?_eq_getElem _
    have hmem : ps[i] ∈ ps := List.getElem_mem _
    have htk : ps.take (i + 1) = ps.take i ++ [ps[i]] := by rw [List.take_succ_eq_append_getElem hlt]
    generalize ps[i] = x at hx hmem htk
    obtain ⟨A, B⟩ := x
    simp -dsimp only [go_sem, ↓reduceIte, reduceCtorEq, Nat.reduceEqDiff, Nat.reduceAdd, Nat.reduceLeDiff, Nat.reduceMul, Int.reduceBEq, Int.reduceBNe, Int.reduceLT, Int.reduceLE, Int.reduceGT, Int.reduceGE]
    refine loop_intro (fun j : Nat => [(0, .slice la l.length lc), (1, .slice pa ps.length pc), (5, .int .i64 i), (6, .bool (tgB l A B j)), (7, .int .i64 j)]) (fun j h' => j ≤ l.length ∧ h' = h) (fun j => l.length - j) 0 ?_ ?_ ?_
    · simp [Le, find, tgB]
    · exact ⟨by omega, rfl⟩
    rintro j h2 ⟨hj, hh⟩
    obtain rfl : h = h2 := hh.symm
    simp -dsimp only [go_sem, ↓reduceIte, reduceCtorEq, Nat.reduceEqDiff, Nat.reduceAdd, Nat.reduceLeDiff, Nat.reduceMul, Int.reduceBEq, Int.reduceBNe, Int.reduceLT, Int.reduceLE, Int.reduceGT, Int.reduceGE]
    simp -dsimp (disch := omega) only [wrap64]
    refine ⟨fun hlt2 => ?_, fun hge2 => ?_⟩
    · have hlt2 : j + 1 < l.length := by omega
      have hy : l[j]? = some (l[j]'(by omega)) := List.getElem?_eq_getElem _
      have hz : l[j + 1]? = some l[j + 1] := List.getElem?_eq_getElem _
      generalize (l[j]'(by omega)) = y at hy
      generalize l[j + 1] = z at hz
      have ey : isAt l j A = ((y : Int) == A) := by unfold isAt; rw [hy]; rfl
      have ez : isAt l (j + 1) B = ((z : Int) == B) := by unfold isAt; rw [hz]; rfl
      have hs := tgB_succ (l := l) (A := A) (B := B) (j := j)
      rw [ey, ez] at hs
      have ej : (IntKind.i64.wrap ((j : Int) + 1)).toNat = j + 1 := by rw [wrap64 (by omega) (by omega)]; omega
      cases ht : tgB l A B j with
      | true =>
        rw [ht, Bool.true_or] at hs
        simp -dsimp only [go_sem, ↓reduceIte, reduceCtorEq, Nat.reduceEqDiff, Nat.reduceAdd, Nat.reduceLeDiff, Nat.reduceMul, Int.reduceBEq, Int.reduceBNe, Int.reduceLT, Int.reduceLE, Int.reduceGT, Int.reduceGE]
        simp -dsimp (disch := omega) only [wrap64]
        exact ⟨j + 1, by omega, by simp [Le, find, hs], by omega⟩
      | false =>
        rw [ht, Bool.false_or] at hs
        simp -dsimp only [go_sem, ↓reduceIte, reduceCtorEq, Nat.reduceEqDiff, Nat.reduceAdd, Nat.reduceLeDiff, Nat.reduceMul, Int.reduceBEq, Int.reduceBNe, Int.reduceLT, Int.reduceLE, Int.reduceGT, Int.reduceGE]
        refine Chk_intro (by omega) (hl.idx (by omega) fun b1 o1 c1 => ?_)
        simp -dsimp only [go_sem, ↓reduceIte, reduceCtorEq, Nat.reduceEqDiff, Nat.reduceAdd, Nat.reduceLeDiff, Nat.reduceMul, Int.reduceBEq, Int.reduceBNe, Int.reduceLT, Int.reduceLE, Int.reduceGT, Int.reduceGE, c1 j _ (natsV_get hy)]
        refine Chk_intro (by omega) (hp.pair hx fun b2 o2 c2 c3 => ?_)
        simp -dsimp only [go_sem, ↓reduceIte, reduceCtorEq, Nat.reduceEqDiff, Nat.reduceAdd, Nat.reduceLeDiff, Nat.reduceMul, Int.reduceBEq, Int.reduceBNe, Int.reduceLT, Int.reduceLE, Int.reduceGT, Int.reduceGE, c2]
        cases e1 : ((y : Int) == A) with
        | false =>
          rw [e1, Bool.false_and] at hs
          simp -dsimp only [go_sem, ↓reduceIte, reduceCtorEq, Nat.reduceEqDiff, Nat.reduceAdd, Nat.reduceLeDiff, Nat.reduceMul, Int.reduceBEq, Int.reduceBNe, Int.reduceLT, Int.reduceLE, Int.reduceGT, Int.reduceGE]
          simp -dsimp (disch := omega) only [wrap64]
          exact ⟨j + 1, by omega, by simp [Le, find, hs], by omega⟩
        | true =>
          rw [e1, Bool.true_and] at hs
          simp -dsimp only [go_sem, ↓reduceIte, reduceCtorEq, Nat.reduceEqDiff, Nat.reduceAdd, Nat.reduceLeDiff, Nat.reduceMul, Int.reduceBEq, Int.reduceBNe, Int.reduceLT, Int.reduceLE, Int.reduceGT, Int.reduceGE]
          refine Chk_intro (by omega) (hl.idx (by omega) fun b3 o3 c4 => ?_)
          simp -dsimp only [go_sem, ↓reduceIte, reduceCtorEq, Nat.reduceEqDiff, Nat.reduceAdd, Nat.reduceLeDiff, Nat.reduceMul, Int.reduceBEq, Int.reduceBNe, Int.reduceLT, Int.reduceLE, Int.reduceGT, Int.reduceGE, ej, c4 (j + 1) _ (natsV_get hz)]
          refine Chk_intro (by omega) (hp.pair hx fun b5 o5 c5 c6 => ?_)
          simp -dsimp only [go_sem, ↓reduceIte, reduceCtorEq, Nat.reduceEqDiff, Nat.reduceAdd, Nat.reduceLeDiff, Nat.reduceMul, Int.reduceBEq, Int.reduceBNe, Int.reduceLT, Int.reduceLE, Int.reduceGT, Int.reduceGE, c6]
          simp -dsimp (disch := omega) only [wrap64]
          exact ⟨j + 1, by omega, by simp [Le, find, hs], by omega⟩
    · have he := tgB_end (l := l) (A := A) (B := B) (j := j) (by omega)
      cases ht : tgB l A B j with
      | true =>
        simp -dsimp only [go_sem, ↓reduceIte, reduceCtorEq, Nat.reduceEqDiff, Nat.reduceAdd, Nat.reduceLeDiff, Nat.reduceMul, Int.reduceBEq, Int.reduceBNe, Int.reduceLT, Int.reduceLE, Int.reduceGT, Int.reduceGE]
        simp -dsimp (disch := omega) only [wrap64]
        refine ⟨i + 1, by omega, by simp [Le, find], by omega, fun x hx => ?_⟩
        rw [htk] at hx
        rcases List.mem_append.1 hx with hx | hx
        · exact hn x hx
        · simp at hx; subst hx; exact he.1 ht
      | false =>
        simp -dsimp only [go_sem, ↓reduceIte, reduceCtorEq, Nat.reduceEqDiff, Nat.reduceAdd, Nat.reduceLeDiff, Nat.reduceMul, Int.reduceBEq, Int.reduceBNe, Int.reduceLT, Int.reduceLE, Int.reduceGT, Int.reduceGE]
        refine ⟨false, rfl, by simp; intro h; rw [he.2 (h _ hmem)] at ht; simp at ht⟩
  · have : i = ps.length := by omega
    subst this
    rw [List.take_length] at hn
    simp -dsimp only [go_sem, ↓reduceIte, reduceCtorEq, Nat.reduceEqDiff, Nat.reduceAdd, Nat.reduceLeDiff, Nat.reduceMul, Int.reduceBEq, Int.reduceBNe, Int.reduceLT, Int.reduceLE, Int.reduceGT, Int.reduceGE]
    exact ⟨true, rfl, by simp [hn]⟩
set_option maxHeartbeats 4000000 in
theorem c_law2_OrderAll {n : Int} {xv lv : Value} {x ps : List (Int × Int)} {h : Heap} (ht : TabAt h) (hx : Rd 2 h xv x.length (pairsV x)) (hps : Rd 2 h lv ps.length (pairsV ps)) (bx : x.length ≤ 8796093022208) (bp : ps.length ≤ 8796093022208) :
    Con Tryd.prog 7 #[.int .i64 n, xv, lv] h fun v h' => Fr 0 0 h h' ∧ v = .bool true := by
  refine con_law2_OrderAll ?_
  have hz : 0 < h.size := hcell_lt (ht 0 0 rfl)
  obtain ⟨pa, pc, rfl⟩ := hps.is
  refine w_joint (fun e h' => h' = h ∧ Le [(0, .int .i64 n), (1, xv), (2, .slice pa ps.length pc)] e) ?_ ?_
  · simp -dsimp only [go_sem, ↓reduceIte, reduceCtorEq, Nat.reduceEqDiff, Nat.reduceAdd, Nat.reduceLeDiff, Nat.reduceMul, Int.reduceBEq, Int.reduceBNe, Int.reduceLT, Int.reduceLE, Int.reduceGT, Int.reduceGE]
    simp [Le, find]
  rintro e h0 ⟨hh, e0, e1, e2, -⟩
  obtain rfl : h = h0 := hh.symm
  refine w_joint (fun e h' => h' = h ∧ ∃ k : Nat, k ≤ 5 ∧ Le [(0, .int .i64 k), (1, xv), (2, .slice pa ps.length pc)] e) ?_ ?_
  · by_cases h1 : n < 0
    · simp -dsimp only [go_sem, ↓reduceIte, reduceCtorEq, Nat.reduceEqDiff, Nat.reduceAdd, Nat.reduceLeDiff, Nat.reduceMul, Int.reduceBEq, Int.reduceBNe, Int.reduceLT, Int.reduceLE, Int.reduceGT, Int.reduceGE, e0, e1, e2, h1, decide_true]
      exact ⟨5, by omega, by simp [Le, find, e1, e2]⟩
    · by_cases h2 : n > 5
      · simp -dsimp only [go_sem, ↓reduceIte, reduceCtorEq, Nat.reduceEqDiff, Nat.reduceAdd, Nat.reduceLeDiff, Nat.reduceMul, Int.reduceBEq, Int.reduceBNe, Int.reduceLT, Int.reduceLE, Int.reduceGT, Int.reduceGE, e0, e1, e2, h1, h2, decide_true, decide_false]
        exact ⟨5, by omega, by simp [Le, find, e1, e2]⟩
      · simp -dsimp only [go_sem, ↓reduceIte, reduceCtorEq, Nat.reduceEqDiff, Nat.reduceAdd, Nat.reduceLeDiff, Nat.reduceMul, Int.reduceBEq, Int.reduceBNe, Int.reduceLT, Int.reduceLE, Int.reduceGT, Int.reduceGE, e0, e1, e2, h1, h2, decide_false]
        exact ⟨n.toNat, by omega, by simp [Le, find, e0, e1, e2]; omega⟩
  rintro e h0 ⟨hh, k, hk, e0, e1, e2, -⟩
  obtain rfl : h = h0 := hh.symm
  have hcl : clampN k = k := by unfold clampN; omega
  have p0 : Fr 0 0 h h := .refl _ _ _
  simp -dsimp only [go_sem, ↓reduceIte, reduceCtorEq, Nat.reduceEqDiff, Nat.reduceAdd, Nat.reduceLeDiff, Nat.reduceMul, Int.reduceBEq, Int.reduceBNe, Int.reduceLT, Int.reduceLE, Int.reduceGT, Int.reduceGE, e0, e1, e2]
  refine call_of (rel_Of k _ x h hx (by omega)) ?_
  rintro av h1 ⟨f1, ta⟩
  rw [hcl] at ta
  generalize ofM k x = M at ta
  obtain ⟨qa, rfl⟩ := progPtr ta
  have f1_z := f1.size
  replace p0 := p0.fresh f1 (by omega)
  simp -dsimp only [go_sem, ↓reduceIte, reduceCtorEq, Nat.reduceEqDiff, Nat.reduceAdd, Nat.reduceLeDiff, Nat.reduceMul, Int.reduceBEq, Int.reduceBNe, Int.reduceLT, Int.reduceLE, Int.reduceGT, Int.reduceGE, e0, e1, e2]
  refine call_of (c_law2_lives (ht.fr p0 (by omega))) ?_
  rintro v h2 ⟨f2, rfl⟩
  have f2_z := f2.size
  replace p0 := p0.fresh f2 (by omega)
  replace ta := ta.fr f2 (by omega)
  simp -dsimp only [go_sem, ↓reduceIte, reduceCtorEq, Nat.reduceEqDiff, Nat.reduceAdd, Nat.reduceLeDiff, Nat.reduceMul, Int.reduceBEq, Int.reduceBNe, Int.reduceLT, Int.reduceLE, Int.reduceGT, Int.reduceGE, e0, e1, e2]
  intro b3 h3 n3
  have n3_a := n3.at_
  have n3_z := n3.size
  replace p0 := p0.fresh (n3.fr (lo := 0) (hi := 0)) (by omega)
  replace ta := ta.fr (n3.fr (lo := 0) (hi := 0)) (by omega)
  have r3 := n3.row
  simp -dsimp only [go_sem, ↓reduceIte, reduceCtorEq, Nat.reduceEqDiff, Nat.reduceAdd, Nat.reduceLeDiff, Nat.reduceMul, Int.reduceBEq, Int.reduceBNe, Int.reduceLT, Int.reduceLE, Int.reduceGT, Int.reduceGE, r3.cell]
  have o3 : Holder 1 h3 (.slice none 0 0) 0 [] h2.size := .none _ _ _
  refine o3.append (by omega) rfl (by omega) (by simp) (by omega) fun tv h4 o4 f4 e4 => ?_
  replace f4 : Fr 0 0 h3 h4 := f4
  have f4_z := f4.size
  replace p0 := p0.fresh f4 (by omega)
  replace ta := ta.fr f4 (by omega)
  replace r3 := r3.fr f4 (by omega)
  have T0 : LL h4 tv [.slice none 0 0] ((permL k 0).map natsV) h2.size := ⟨o4, fun i w l h1 h2 => by
    cases i with
    | zero => simp [permL] at h1 h2; subst h1; subst h2; exact .none _ _ _
    | succ i => simp at h1, fun w hw => by simp at hw; subst hw; exact .inl rfl⟩
  have k4 : h.size ≤ h1.size ∧ h1.size ≤ h2.size ∧ h2.size < h3.size ∧ h3.size ≤ h4.size := by omega
  have few := perm_few k (by omega)
  have pH := p0
  clear p0
  have p0 : Fr 0 0 h4 h4 := .refl _ _ _
  simp -dsimp only [go_sem, ↓reduceIte, reduceCtorEq, Nat.reduceEqDiff, Nat.reduceAdd, Nat.reduceLeDiff, Nat.reduceMul, Int.reduceBEq, Int.reduceBNe, Int.reduceLT, Int.reduceLE, Int.reduceGT, Int.reduceGE, r3.cell]
  refine loop_intro (fun s : Nat × Value × List Value => [(0, .int .i64 k), (2, .slice pa ps.length pc), (7, .pointer (some ⟨qa, 0, none⟩)), (8, s.2.1), (9, .int .i64 s.1)])
    (fun s h' => s.1 ≤ k ∧ Fr 0 0 h4 h' ∧ h4.size ≤ h'.size ∧ LL h' s.2.1 s.2.2 ((permL k s.1).map natsV) h2.size) (fun s => k - s.1) (0, tv, [.slice none 0 0]) ?_ ?_ ?_
  · simp [Le, find]
  · exact ⟨by omega, p0, by omega, T0⟩
  have ta4 := ta
  clear ta
  clear T0 o3 o4 p0
  rintro ⟨i, tv, us⟩ h5 ⟨hi, p0, y5, LT⟩
  dsimp only at hi LT ⊢
  have p0_z := p0.size
  have LT_l := LT.own.top
  have elen : ((permL k i).map natsV).length = (permL k i).length := by simp
  have LTis := LT.own.is
  rw [elen] at LTis
  obtain ⟨sa, sc, rfl⟩ := LTis
  have few5 := few i (by omega)
  have hTl : ∀ m ∈ permL k i, m.length = i := fun m hm => perm_len hm
  have aTop := LT.top
  simp -dsimp only [go_sem, ↓reduceIte, reduceCtorEq, Nat.reduceEqDiff, Nat.reduceAdd, Nat.reduceLeDiff, Nat.reduceMul, Int.reduceBEq, Int.reduceBNe, Int.reduceLT, Int.reduceLE, Int.reduceGT, Int.reduceGE]
  refine ⟨fun hlt => ?_, fun hge => ?_⟩
  · have hlt : i < k := by omega
    simp -dsimp only [go_sem, ↓reduceIte, reduceCtorEq, Nat.reduceEqDiff, Nat.reduceAdd, Nat.reduceLeDiff, Nat.reduceMul, Int.reduceBEq, Int.reduceBNe, Int.reduceLT, Int.reduceLE, Int.reduceGT, Int.reduceGE]
    refine loop_intro (fun s : Nat × Value × List Value => [(0, .int .i64 k), (2, .slice pa ps.length pc), (7, .pointer (some ⟨qa, 0, none⟩)), (8, .slice sa (permL k i).length sc), (9, .int .i64 i), (10, s.2.1), (11, .int .i64 s.1)])
      (fun s h' => s.1 ≤ (permL k i).length ∧ Fr 0 0 h4 h' ∧ h5.size ≤ h'.size ∧ LL h' (.slice sa (permL k i).length sc) us ((permL k i).map natsV) h2.size ∧ LL h' s.2.1 s.2.2 ((((permL k i).take s.1).flatMap (extOne k)).map natsV) h5.size) (fun s => (permL k i).length - s.1) (0, .slice none 0 0, []) ?_ ?_ ?_
    · simp [Le, find]
    · exact ⟨by omega, p0, by omega, LT, .nil⟩
    clear p0 LT
    rintro ⟨a, nv, ws⟩ h6 ⟨ha, p0, y6, LT, LN⟩
    dsimp only at ha LN ⊢
    have p0_z := p0.size
    have LT_l := LT.own.top
    have LTown := LT.own
    rw [elen] at LTown
    simp -dsimp only [go_sem, ↓reduceIte, reduceCtorEq, Nat.reduceEqDiff, Nat.reduceAdd, Nat.reduceLeDiff, Nat.reduceMul, Int.reduceBEq, Int.reduceBNe, Int.reduceLT, Int.reduceLE, Int.reduceGT, Int.reduceGE]
    refine ⟨fun hlt1 => ?_, fun hge1 => ?_⟩
    · have hlt1 : a < (permL k i).length := by omega
      have hul : us.length = (permL k i).length := by rw [LT.len, elen]
      have hu : us[a]? = some (us[a]'(by omega)) := List.getElem?_eq_getElem _
      generalize (us[a]'(by omega)) = u at hu
      have hxx : (permL k i)[a]? = some (permL k i)[a] := List.getElem?_eq_getElem _
      have hxm : (permL k i)[a] ∈ permL k i := List.getElem_mem _
      have htk : (permL k i).take (a + 1) = (permL k i).take a ++ [(permL k i)[a]] := by rw [List.take_succ_eq_append_getElem hlt1]
      generalize (permL k i)[a] = m at hxx hxm htk
      have hml := hTl m hxm
      have hmu := LT.at_ a u (natsV m) hu (by rw [List.getElem?_map, hxx]; rfl)
      rw [length_natsV] at hmu
      obtain ⟨ua, uc, rfl⟩ := hmu.is
      have hpre : ((permL k i).take a |>.flatMap (extOne k)).length ≤ a * k := by
        have := ext_len (k := k) ((permL k i).take a)
        rw [List.length_take, Nat.min_eq_left (by omega)] at this; exact this
      have hak : a * k ≤ 120 * 5 := Nat.mul_le_mul (by omega) (by omega)
      generalize hpr : ((permL k i).take a).flatMap (extOne k) = pre at LN hpre
      clear hmu LTown
      simp -dsimp only [go_sem, ↓reduceIte, reduceCtorEq, Nat.reduceEqDiff, Nat.reduceAdd, Nat.reduceLeDiff, Nat.reduceMul, Int.reduceBEq, Int.reduceBNe, Int.reduceLT, Int.reduceLE, Int.reduceGT, Int.reduceGE]
      refine loop_intro (fun s : Nat × Value × List Value => [(0, .int .i64 k), (2, .slice pa ps.length pc), (7, .pointer (some ⟨qa, 0, none⟩)), (8, .slice sa (permL k i).length sc), (9, .int .i64 i), (10, s.2.1), (11, .int .i64 a), (12, .int .i64 s.1)])
        (fun s h' => s.1 ≤ k ∧ Fr 0 0 h4 h' ∧ h5.size ≤ h'.size ∧ LL h' (.slice sa (permL k i).length sc) us ((permL k i).map natsV) h2.size ∧ LL h' s.2.1 s.2.2 ((pre ++ extP m s.1).map natsV) h5.size) (fun s => k - s.1) (0, nv, ws) ?_ ?_ ?_
      · simp [Le, find]
      · exact ⟨by omega, p0, by omega, LT, by simpa [extP] using LN⟩
      clear p0 LT LN
      rintro ⟨p, nv, ws⟩ h7 ⟨hp, p0, y7, LT, LN⟩
      dsimp only at hp LN ⊢
      have p0_z := p0.size
      have LT_l := LT.own.top
      have LTown := LT.own
      rw [elen] at LTown
      have hmu := LT.at_ a _ (natsV m) hu (by rw [List.getElem?_map, hxx]; rfl)
      rw [length_natsV] at hmu
      have hxl := extP_len (x := m) (p := p)
      have nlen : ((pre ++ extP m p).map natsV).length = pre.length + (extP m p).length := by simp
      have LNis := LN.own.is
      rw [nlen] at LNis
      obtain ⟨na, nc, rfl⟩ := LNis
      simp -dsimp only [go_sem, ↓reduceIte, reduceCtorEq, Nat.reduceEqDiff, Nat.reduceAdd, Nat.reduceLeDiff, Nat.reduceMul, Int.reduceBEq, Int.reduceBNe, Int.reduceLT, Int.reduceLE, Int.reduceGT, Int.reduceGE]
      refine ⟨fun hlt2 => ?_, fun hge2 => ?_⟩
      · have hlt2 : p < k := by omega
        simp -dsimp only [go_sem, ↓reduceIte, reduceCtorEq, Nat.reduceEqDiff, Nat.reduceAdd, Nat.reduceLeDiff, Nat.reduceMul, Int.reduceBEq, Int.reduceBNe, Int.reduceLT, Int.reduceLE, Int.reduceGT, Int.reduceGE]
        refine Chk_intro (by omega) (LTown.rd.idx (by omega) fun b8 o8 c8 => ?_)
        simp -dsimp only [go_sem, ↓reduceIte, reduceCtorEq, Nat.reduceEqDiff, Nat.reduceAdd, Nat.reduceLeDiff, Nat.reduceMul, Int.reduceBEq, Int.reduceBNe, Int.reduceLT, Int.reduceLE, Int.reduceGT, Int.reduceGE, c8 a _ hu]
        refine call_of (c_law2_has hmu.rd (by omega)) ?_
        rintro v h8 ⟨hh, rfl⟩
        obtain rfl : h7 = h8 := hh.symm
        cases hc : m.contains p with
        | true =>
          have ex : extP m (p + 1) = extP m p := by rw [extP_succ, if_pos hc]
          simp -dsimp only [go_sem, ↓reduceIte, reduceCtorEq, Nat.reduceEqDiff, Nat.reduceAdd, Nat.reduceLeDiff, Nat.reduceMul, Int.reduceBEq, Int.reduceBNe, Int.reduceLT, Int.reduceLE, Int.reduceGT, Int.reduceGE]
          simp -dsimp (disch := omega) only [wrap64]
          exact ⟨(p + 1, .slice na (pre.length + (extP m p).length) nc, ws), by first | omega | (dsimp only; omega), by simp [Le, find], by first | omega | (dsimp only; omega), p0, by first | omega | (dsimp only; omega), LT, by dsimp only; rw [ex]; exact LN⟩
        | false =>
          have ex : extP m (p + 1) = extP m p ++ [m ++ [p]] := by rw [extP_succ, if_neg (by rw [hc]; simp)]
          have aTop2 := LN.top
          have hz5 : 0 < h5.size := by omega
          simp -dsimp only [go_sem, ↓reduceIte, reduceCtorEq, Nat.reduceEqDiff, Nat.reduceAdd, Nat.reduceLeDiff, Nat.reduceMul, Int.reduceBEq, Int.reduceBNe, Int.reduceLT, Int.reduceLE, Int.reduceGT, Int.reduceGE]
          intro b9 h9 n9
          have n9_a := n9.at_
          have n9_z := n9.size
          replace p0 := p0.fresh (n9.fr (lo := 0) (hi := 0)) (by omega)
          replace LT := LT.fr (n9.fr (lo := 0) (hi := 0)) (by first | exact Away.none (Nat.le_refl _) | exact LT.below (by omega) | exact LT.above (by omega) | assumption | exact fun w hw => (by have := aTop w hw; omega) | exact fun w hw => (by have := aTop2 w hw; omega))
          replace LN := LN.fr (n9.fr (lo := 0) (hi := 0)) (by first | exact Away.none (Nat.le_refl _) | exact LN.below (by omega) | exact LN.above (by omega) | assumption | exact fun w hw => (by have := aTop w hw; omega) | exact fun w hw => (by have := aTop2 w hw; omega))
          have r9 := n9.row
          have o9 : Holder 1 h9 (.slice (some ⟨b9, 0, none⟩) 0 0) 0 [] h7.size := ⟨rfl, .inr ⟨b9, 0, [], rfl, r9, rfl, by omega⟩⟩
          have hmu9 := LT.at_ a _ (natsV m) hu (by rw [List.getElem?_map, hxx]; rfl)
          rw [length_natsV] at hmu9
          have LTo := LT.own
          rw [elen] at LTo
          clear r9
          simp -dsimp only [go_sem, ↓reduceIte, reduceCtorEq, Nat.reduceEqDiff, Nat.reduceAdd, Nat.reduceLeDiff, Nat.reduceMul, Int.reduceBEq, Int.reduceBNe, Int.reduceLT, Int.reduceLE, Int.reduceGT, Int.reduceGE]
          refine Chk_intro (by omega) (LTo.rd.idx (by omega) fun b8' o8' c8' => ?_)
          simp -dsimp only [go_sem, ↓reduceIte, reduceCtorEq, Nat.reduceEqDiff, Nat.reduceAdd, Nat.reduceLeDiff, Nat.reduceMul, Int.reduceBEq, Int.reduceBNe, Int.reduceLT, Int.reduceLE, Int.reduceGT, Int.reduceGE, c8' a _ hu]
          refine o9.appendRd hmu9.rd (by omega) rfl (by omega) (oc_nats m) (by omega) fun v10 h10 o10 f10 e10 => ?_
          replace f10 : Fr b9 (b9 + 1) h9 h10 := f10
          rw [Nat.zero_add, List.nil_append] at o10
          have f10_z := f10.size
          replace p0 := p0.fresh f10 (by omega)
          replace LT := LT.fr f10 (by first | exact Away.none (Nat.le_refl _) | exact LT.below (by omega) | exact LT.above (by omega) | assumption | exact fun w hw => (by have := aTop w hw; omega) | exact fun w hw => (by have := aTop2 w hw; omega))
          replace LN := LN.fr f10 (by first | exact Away.none (Nat.le_refl _) | exact LN.below (by omega) | exact LN.above (by omega) | assumption | exact fun w hw => (by have := aTop w hw; omega) | exact fun w hw => (by have := aTop2 w hw; omega))
          have o10_a := o10.at_
          obtain ⟨ra, rc, rfl⟩ := o10.is
          simp -dsimp only [go_sem, ↓reduceIte, reduceCtorEq, Nat.reduceEqDiff, Nat.reduceAdd, Nat.reduceLeDiff, Nat.reduceMul, Int.reduceBEq, Int.reduceBNe, Int.reduceLT, Int.reduceLE, Int.reduceGT, Int.reduceGE]
          intro b11 h11 n11
          have n11_a := n11.at_
          have n11_z := n11.size
          replace p0 := p0.fresh (n11.fr (lo := 0) (hi := 0)) (by omega)
          replace LT := LT.fr (n11.fr (lo := 0) (hi := 0)) (by first | exact Away.none (Nat.le_refl _) | exact LT.below (by omega) | exact LT.above (by omega) | assumption | exact fun w hw => (by have := aTop w hw; omega) | exact fun w hw => (by have := aTop2 w hw; omega))
          replace LN := LN.fr (n11.fr (lo := 0) (hi := 0)) (by first | exact Away.none (Nat.le_refl _) | exact LN.below (by omega) | exact LN.above (by omega) | assumption | exact fun w hw => (by have := aTop w hw; omega) | exact fun w hw => (by have := aTop2 w hw; omega))
          have r11 := n11.row
          replace o10 := o10.fr (n11.fr (lo := 0) (hi := 0)) (by omega)
          simp -dsimp only [go_sem, ↓reduceIte, reduceCtorEq, Nat.reduceEqDiff, Nat.reduceAdd, Nat.reduceLeDiff, Nat.reduceMul, Int.reduceBEq, Int.reduceBNe, Int.reduceLT, Int.reduceLE, Int.reduceGT, Int.reduceGE, r11.cell]
          refine o10.append (by omega) rfl (by omega) (by simp) (by omega) fun v12 h12 o12 f12 e12 => ?_
          have f12_z := f12.size
          replace p0 := p0.fresh f12 (by omega)
          replace LT := LT.fr f12 (by first | exact Away.none (Nat.le_refl _) | exact LT.below (by omega) | exact LT.above (by omega) | assumption | exact fun w hw => (by have := aTop w hw; omega) | exact fun w hw => (by have := aTop2 w hw; omega))
          replace LN := LN.fr f12 (by first | exact Away.none (Nat.le_refl _) | exact LN.below (by omega) | exact LN.above (by omega) | assumption | exact fun w hw => (by have := aTop w hw; omega) | exact fun w hw => (by have := aTop2 w hw; omega))
          have o12_a := o12.at_
          obtain ⟨ta', tc', rfl⟩ := o12.is
          simp -dsimp only [go_sem, ↓reduceIte, reduceCtorEq, Nat.reduceEqDiff, Nat.reduceAdd, Nat.reduceLeDiff, Nat.reduceMul, Int.reduceBEq, Int.reduceBNe, Int.reduceLT, Int.reduceLE, Int.reduceGT, Int.reduceGE]
          intro b13 h13 n13
          have n13_a := n13.at_
          have n13_z := n13.size
          replace p0 := p0.fresh (n13.fr (lo := 0) (hi := 0)) (by omega)
          replace LT := LT.fr (n13.fr (lo := 0) (hi := 0)) (by first | exact Away.none (Nat.le_refl _) | exact LT.below (by omega) | exact LT.above (by omega) | assumption | exact fun w hw => (by have := aTop w hw; omega) | exact fun w hw => (by have := aTop2 w hw; omega))
          replace LN := LN.fr (n13.fr (lo := 0) (hi := 0)) (by first | exact Away.none (Nat.le_refl _) | exact LN.below (by omega) | exact LN.above (by omega) | assumption | exact fun w hw => (by have := aTop w hw; omega) | exact fun w hw => (by have := aTop2 w hw; omega))
          have r13 := n13.row
          replace o12 := o12.fr (n13.fr (lo := 0) (hi := 0)) (by omega)
          have LNo := LN.own
          rw [nlen] at LNo
          simp -dsimp only [go_sem, ↓reduceIte, reduceCtorEq, Nat.reduceEqDiff, Nat.reduceAdd, Nat.reduceLeDiff, Nat.reduceMul, Int.reduceBEq, Int.reduceBNe, Int.reduceLT, Int.reduceLE, Int.reduceGT, Int.reduceGE, r13.cell]
          refine LNo.append (by omega) rfl (by omega) (by simp) (by omega) fun v14 h14 o14 f14 e14 => ?_
          have lno := LNo.at_
          have hoff : Off (.slice ta' (m.length + 1) tc') (.slice na (pre.length + (extP m p).length) nc) := by
            have h1 := aTop2 _ (.inl rfl)
            have h2 := bh_bl (.slice ta' (m.length + 1) tc')
            have h3 := bh_bl (.slice na (pre.length + (extP m p).length) nc)
            unfold Off; omega
          have em : natsV m ++ [Value.int .i64 (p : Int)] = natsV (m ++ [p]) := by rw [natsV_append]; rfl
          rw [em] at o12
          have LN' := LN.push (l := natsV (m ++ [p])) hz5 (w := .slice ta' (m.length + 1) tc') (by rw [length_natsV, List.length_append]; exact o12.lower (by omega)) hoff (by rw [nlen]; exact o14) f14 e14
          have f14_z := f14.size
          replace p0 := p0.fresh f14 (by omega)
          replace LT := LT.fr f14 (by first | exact Away.none (Nat.le_refl _) | exact LT.below (by omega) | exact LT.above (by omega) | assumption | exact fun w hw => (by have := aTop w hw; omega) | exact fun w hw => (by have := aTop2 w hw; omega))
          simp -dsimp only [go_sem, ↓reduceIte, reduceCtorEq, Nat.reduceEqDiff, Nat.reduceAdd, Nat.reduceLeDiff, Nat.reduceMul, Int.reduceBEq, Int.reduceBNe, Int.reduceLT, Int.reduceLE, Int.reduceGT, Int.reduceGE]
          simp -dsimp (disch := omega) only [wrap64]
          exact ⟨(p + 1, v14, ws ++ [Value.slice ta' (m.length + 1) tc']), by first | omega | (dsimp only; omega), by simp [Le, find], by first | omega | (dsimp only; omega), p0, by first | omega | (dsimp only; omega), LT, by dsimp only; rw [ex, ← List.append_assoc, List.map_append]; exact LN'⟩
      · have hpk : p = k := by omega
        subst hpk
        have ee : pre ++ extP m p = ((permL p i).take (a + 1)).flatMap (extOne p) := by rw [htk, List.flatMap_append, hpr]; simp [extP, extOne]
        rw [ee] at LN
        simp -dsimp only [go_sem, ↓reduceIte, reduceCtorEq, Nat.reduceEqDiff, Nat.reduceAdd, Nat.reduceLeDiff, Nat.reduceMul, Int.reduceBEq, Int.reduceBNe, Int.reduceLT, Int.reduceLE, Int.reduceGT, Int.reduceGE]
        simp -dsimp (disch := omega) only [wrap64]
        exact ⟨(a + 1, _, ws), by first | omega | (dsimp only; omega), by simp [Le, find], by first | omega | (dsimp only; omega), p0, by first | omega | (dsimp only; omega), LT, LN⟩
    · have hal : a = (permL k i).length := by omega
      subst hal
      rw [List.take_length] at LN
      simp -dsimp only [go_sem, ↓reduceIte, reduceCtorEq, Nat.reduceEqDiff, Nat.reduceAdd, Nat.reduceLeDiff, Nat.reduceMul, Int.reduceBEq, Int.reduceBNe, Int.reduceLT, Int.reduceLE, Int.reduceGT, Int.reduceGE]
      simp -dsimp (disch := omega) only [wrap64]
      exact ⟨(i + 1, nv, ws), by first | omega | (dsimp only; omega), by simp [Le, find], by first | omega | (dsimp only; omega), p0, by omega, LN.lower (by omega)⟩
  have hik : i = k := by omega
  subst hik
  have hall := allS_eq (n := i) (M := M)
  have ta := ta4.fr p0 (by omega)
  have TLx : ∃ TL, TL = permL i i := ⟨_, rfl⟩
  obtain ⟨TL, hTL⟩ := TLx
  rw [← hTL] at LT elen few5 hTl hall aTop ⊢
  simp -dsimp only [go_sem, ↓reduceIte, reduceCtorEq, Nat.reduceEqDiff, Nat.reduceAdd, Nat.reduceLeDiff, Nat.reduceMul, Int.reduceBEq, Int.reduceBNe, Int.reduceLT, Int.reduceLE, Int.reduceGT, Int.reduceGE]
  refine loop_intro (fun s : Nat × Value × List Value × Bool => [(2, .slice pa ps.length pc), (7, .pointer (some ⟨qa, 0, none⟩)), (8, .slice sa TL.length sc), (13, s.2.1), (14, .bool s.2.2.2), (15, .int .i64 s.1)])
    (fun s h' => s.1 ≤ TL.length ∧ Fr 0 0 h5 h' ∧ LL h' (.slice sa TL.length sc) us (TL.map natsV) h2.size ∧ LL h' s.2.1 s.2.2.1 (((TL.take s.1).filter (linB i M)).map natsV) h2.size ∧ (bh s.2.1 = 0 ∧ bl s.2.1 = 0 ∨ h5.size ≤ bl s.2.1) ∧ (s.2.2.2 = true ↔ ∃ m, m ∈ (TL.take s.1).filter (linB i M) ∧ TogP m ps)) (fun s => TL.length - s.1) (0, .slice none 0 0, [], false) ?_ ?_ ?_
  · simp [Le, find]
  · exact ⟨by omega, .refl _ _ _, LT, .nil, .inl ⟨rfl, rfl⟩, by simp⟩
  have p05 := p0
  have ta5 := ta
  clear p0 LT ta
  rintro ⟨a, gv, gs, gl⟩ h6 ⟨ha, p0, LT, LG, hgv, hgl⟩
  dsimp only at ha LG hgv hgl ⊢
  have p0_z := p0.size
  have LT_l := LT.own.top
  have ta := ta5.fr p0 (by omega)
  have tT : TabAt h6 := ht.fr ((pH.trans p05).trans p0) (by omega)
  have LTown := LT.own
  rw [elen] at LTown
  have glen : (((TL.take a).filter (linB i M)).map natsV).length = ((TL.take a).filter (linB i M)).length := by simp
  have gle : ((TL.take a).filter (linB i M)).length ≤ a := Nat.le_trans (List.length_filter_le _ _) (by simp; omega)
  have LGis := LG.own.is
  rw [glen] at LGis
  obtain ⟨ga, gc, rfl⟩ := LGis
  simp -dsimp only [go_sem, ↓reduceIte, reduceCtorEq, Nat.reduceEqDiff, Nat.reduceAdd, Nat.reduceLeDiff, Nat.reduceMul, Int.reduceBEq, Int.reduceBNe, Int.reduceLT, Int.reduceLE, Int.reduceGT, Int.reduceGE]
  refine ⟨fun hlt => ?_, fun hge => ?_⟩
  · have hlt : a < TL.length := by omega
    have hul : us.length = TL.length := by rw [LT.len, elen]
    have hu : us[a]? = some (us[a]'(by omega)) := List.getElem?_eq_getElem _
    have hum : (us[a]'(by omega)) ∈ us := List.getElem_mem _
    generalize (us[a]'(by omega)) = u at hu hum
    have hxx : TL[a]? = some TL[a] := List.getElem?_eq_getElem _
    have hxm : TL[a] ∈ TL := List.getElem_mem _
    have htk : TL.take (a + 1) = TL.take a ++ [TL[a]] := by rw [List.take_succ_eq_append_getElem hlt]
    generalize TL[a] = m at hxx hxm htk
    have hml := hTl m hxm
    have hmu := LT.at_ a u (natsV m) hu (by rw [List.getElem?_map, hxx]; rfl)
    rw [length_natsV] at hmu
    obtain ⟨ua, uc, rfl⟩ := hmu.is
    have em := natsV_ints m
    have eml : m.length = (m.map fun (p : Nat) => (p : Int)).length := by simp
    simp -dsimp only [go_sem, ↓reduceIte, reduceCtorEq, Nat.reduceEqDiff, Nat.reduceAdd, Nat.reduceLeDiff, Nat.reduceMul, Int.reduceBEq, Int.reduceBNe, Int.reduceLT, Int.reduceLE, Int.reduceGT, Int.reduceGE]
    refine Chk_intro (by omega) (LTown.rd.idx (by omega) fun b8 o8 c8 => ?_)
    simp -dsimp only [go_sem, ↓reduceIte, reduceCtorEq, Nat.reduceEqDiff, Nat.reduceAdd, Nat.reduceLeDiff, Nat.reduceMul, Int.reduceBEq, Int.reduceBNe, Int.reduceLT, Int.reduceLE, Int.reduceGT, Int.reduceGE, c8 a _ hu]
    refine call_of (order_Linear (l := m.map fun (p : Nat) => (p : Int)) ta tT (by rw [← em, ← eml]; exact hmu.rd) (by simp; omega)) ?_
    rintro v h7 ⟨f7, rfl⟩
    have elin : decide (LinP i M (m.map fun (p : Nat) => (p : Int))) = linB i M m := rfl
    rw [elin]
    have hgv6 := LG.own.top
    have f7_z := f7.size
    replace p0 := p0.fresh f7 (by omega)
    replace LT := LT.fr f7 (by first | exact Away.none (Nat.le_refl _) | exact LT.below (by omega) | exact LT.above (by omega) | assumption | exact fun w hw => (by have := aTop w hw; omega) | exact fun w hw => (by have := aTop2 w hw; omega))
    replace LG := LG.fr f7 (by first | exact Away.none (Nat.le_refl _) | exact LG.below (by omega) | exact LG.above (by omega) | assumption | exact fun w hw => (by have := aTop w hw; omega) | exact fun w hw => (by have := aTop2 w hw; omega))
    replace ta := ta.fr f7 (by omega)
    cases hl : linB i M m with
    | false =>
      have ef : (TL.take (a + 1)).filter (linB i M) = (TL.take a).filter (linB i M) := by rw [htk, List.filter_append]; simp [hl]
      simp -dsimp only [go_sem, ↓reduceIte, reduceCtorEq, Nat.reduceEqDiff, Nat.reduceAdd, Nat.reduceLeDiff, Nat.reduceMul, Int.reduceBEq, Int.reduceBNe, Int.reduceLT, Int.reduceLE, Int.reduceGT, Int.reduceGE]
      simp -dsimp (disch := omega) only [wrap64]
      exact ⟨(a + 1, .slice ga ((TL.take a).filter (linB i M)).length gc, gs, gl), by first | omega | (dsimp only; omega), by simp [Le, find], by first | omega | (dsimp only; omega), p0, LT, by dsimp only; rw [ef]; exact LG, hgv, by dsimp only; rw [ef]; exact hgl⟩
    | true =>
      have ef : (TL.take (a + 1)).filter (linB i M) = (TL.take a).filter (linB i M) ++ [m] := by rw [htk, List.filter_append]; simp [hl]
      have LTo := LT.own
      rw [elen] at LTo
      have hmu7 := LT.at_ a _ (natsV m) hu (by rw [List.getElem?_map, hxx]; rfl)
      have hut := aTop _ (.inr hum)
      simp -dsimp only [go_sem, ↓reduceIte, reduceCtorEq, Nat.reduceEqDiff, Nat.reduceAdd, Nat.reduceLeDiff, Nat.reduceMul, Int.reduceBEq, Int.reduceBNe, Int.reduceLT, Int.reduceLE, Int.reduceGT, Int.reduceGE]
      refine Chk_intro (by omega) (LTo.rd.idx (by omega) fun b9 o9 c9 => ?_)
      simp -dsimp only [go_sem, ↓reduceIte, reduceCtorEq, Nat.reduceEqDiff, Nat.reduceAdd, Nat.reduceLeDiff, Nat.reduceMul, Int.reduceBEq, Int.reduceBNe, Int.reduceLT, Int.reduceLE, Int.reduceGT, Int.reduceGE, c9 a _ hu]
      intro b10 h10 n10
      have n10_a := n10.at_
      have n10_z := n10.size
      replace p0 := p0.fresh (n10.fr (lo := 0) (hi := 0)) (by omega)
      replace LT := LT.fr (n10.fr (lo := 0) (hi := 0)) (by first | exact Away.none (Nat.le_refl _) | exact LT.below (by omega) | exact LT.above (by omega) | assumption | exact fun w hw => (by have := aTop w hw; omega) | exact fun w hw => (by have := aTop2 w hw; omega))
      replace LG := LG.fr (n10.fr (lo := 0) (hi := 0)) (by first | exact Away.none (Nat.le_refl _) | exact LG.below (by omega) | exact LG.above (by omega) | assumption | exact fun w hw => (by have := aTop w hw; omega) | exact fun w hw => (by have := aTop2 w hw; omega))
      replace ta := ta.fr (n10.fr (lo := 0) (hi := 0)) (by omega)
      have r10 := n10.row
      replace hmu7 := hmu7.fr (n10.fr (lo := 0) (hi := 0)) (by omega)
      have LGo := LG.own
      rw [glen] at LGo
      simp -dsimp only [go_sem, ↓reduceIte, reduceCtorEq, Nat.reduceEqDiff, Nat.reduceAdd, Nat.reduceLeDiff, Nat.reduceMul, Int.reduceBEq, Int.reduceBNe, Int.reduceLT, Int.reduceLE, Int.reduceGT, Int.reduceGE, r10.cell]
      refine LGo.append (by omega) rfl (by omega) (by simp) (by omega) fun v11 h11 o11 f11 e11 => ?_
      have lgo := LGo.at_
      have o11_a := o11.at_
      have f11_z := f11.size
      have hoff : Off (.slice ua m.length uc) (.slice ga ((TL.take a).filter (linB i M)).length gc) := by
        have h2 := bh_bl (.slice ua m.length uc)
        have h3 := bh_bl (.slice ga ((TL.take a).filter (linB i M)).length gc)
        unfold Off; omega
      have LG' := LG.push (l := natsV m) (show 0 < h2.size by omega) (w := .slice ua m.length uc) (by rw [length_natsV] at hmu7 ⊢; exact hmu7) hoff (by rw [glen]; exact o11) f11 e11
      have hv11 : bh v11 = 0 ∧ bl v11 = 0 ∨ h5.size ≤ bl v11 := by
        have := bh_bl v11; have := bh_bl (.slice ga ((TL.take a).filter (linB i M)).length gc)
        omega
      have f11_z := f11.size
      replace p0 := p0.fresh f11 (by omega)
      replace LT := LT.fr f11 (by first | exact Away.none (Nat.le_refl _) | exact LT.below (by omega) | exact LT.above (by omega) | assumption | exact fun w hw => (by have := aTop w hw; omega) | exact fun w hw => (by have := aTop2 w hw; omega))
      replace ta := ta.fr f11 (by omega)
      have fin : ∀ gl' : Bool, (gl' = true ↔ gl = true ∨ TogP m ps) → (gl' = true ↔ ∃ m, m ∈ (TL.take (a + 1)).filter (linB i M) ∧ TogP m ps) := fun gl' h => by
        rw [h, hgl, ef]
        constructor
        · rintro (⟨y, h1, h2⟩ | h1)
          · exact ⟨y, by simp only [List.mem_append]; exact .inl h1, h2⟩
          · exact ⟨m, by simp, h1⟩
        · rintro ⟨y, h1, h2⟩
          rcases List.mem_append.1 h1 with h1 | h1
          · exact .inl ⟨y, h1, h2⟩
          · simp at h1; subst h1; exact .inr h2
      have LG2 : LL h11 v11 (gs ++ [Value.slice ua m.length uc]) (((TL.take (a + 1)).filter (linB i M)).map natsV) h2.size := by rw [ef, List.map_append]; exact LG'
      simp -dsimp only [go_sem, ↓reduceIte, reduceCtorEq, Nat.reduceEqDiff, Nat.reduceAdd, Nat.reduceLeDiff, Nat.reduceMul, Int.reduceBEq, Int.reduceBNe, Int.reduceLT, Int.reduceLE, Int.reduceGT, Int.reduceGE]
      cases gl with
      | true =>
        simp -dsimp only [go_sem, ↓reduceIte, reduceCtorEq, Nat.reduceEqDiff, Nat.reduceAdd, Nat.reduceLeDiff, Nat.reduceMul, Int.reduceBEq, Int.reduceBNe, Int.reduceLT, Int.reduceLE, Int.reduceGT, Int.reduceGE]
        simp -dsimp (disch := omega) only [wrap64]
        exact ⟨(a + 1, v11, gs ++ [Value.slice ua m.length uc], true), by first | omega | (dsimp only; omega), by simp [Le, find], by first | omega | (dsimp only; omega), p0, LT, LG2, hv11, fin true (by simp)⟩
      | false =>
        have LTo2 := LT.own
        rw [elen] at LTo2
        have hmu8 := LT.at_ a _ (natsV m) hu (by rw [List.getElem?_map, hxx]; rfl)
        rw [length_natsV] at hmu8
        simp -dsimp only [go_sem, ↓reduceIte, reduceCtorEq, Nat.reduceEqDiff, Nat.reduceAdd, Nat.reduceLeDiff, Nat.reduceMul, Int.reduceBEq, Int.reduceBNe, Int.reduceLT, Int.reduceLE, Int.reduceGT, Int.reduceGE]
        refine Chk_intro (by omega) (LTo2.rd.idx (by omega) fun b12 o12 c12 => ?_)
        simp -dsimp only [go_sem, ↓reduceIte, reduceCtorEq, Nat.reduceEqDiff, Nat.reduceAdd, Nat.reduceLeDiff, Nat.reduceMul, Int.reduceBEq, Int.reduceBNe, Int.reduceLT, Int.reduceLE, Int.reduceGT, Int.reduceGE, c12 a _ hu]
        refine call_of (c_law2_together hmu8.rd (hps.fr ((pH.trans p05).trans p0)) (by omega) (by omega)) ?_
        rintro v h13 ⟨hh, bb, rfl, hbb⟩
        obtain rfl : h11 = h13 := hh.symm
        simp -dsimp only [go_sem, ↓reduceIte, reduceCtorEq, Nat.reduceEqDiff, Nat.reduceAdd, Nat.reduceLeDiff, Nat.reduceMul, Int.reduceBEq, Int.reduceBNe, Int.reduceLT, Int.reduceLE, Int.reduceGT, Int.reduceGE]
        simp -dsimp (disch := omega) only [wrap64]
        exact ⟨(a + 1, v11, gs ++ [Value.slice ua m.length uc], bb), by first | omega | (dsimp only; omega), by simp [Le, find], by first | omega | (dsimp only; omega), p0, LT, LG2, hv11, fin bb (by simp [hbb])⟩
  have hal : a = TL.length := by omega
  subst hal
  rw [List.take_length, ← hall] at LG hgl
  rw [List.take_length, ← hall] at glen gle ⊢
  simp -dsimp only [go_sem, ↓reduceIte, reduceCtorEq, Nat.reduceEqDiff, Nat.reduceAdd, Nat.reduceLeDiff, Nat.reduceMul, Int.reduceBEq, Int.reduceBNe, Int.reduceLT, Int.reduceLE, Int.reduceGT, Int.reduceGE]
  have hS : extS i M 200 = allS i M := by rw [extS]; exact List.take_of_length_le (by show _ ≤ 200; omega)
  have hB : extB i M 200 = true := by rw [extB]; exact decide_eq_true (by show _ ≤ 200; omega)
  refine call_of (order_Extensions ta tT 200 (by omega) (by omega)) ?_
  rintro v h7 ⟨f7, lv', ls, rfl, LE, -⟩
  rw [hS] at LE
  rw [hB]
  have f7_z := f7.size
  replace p0 := p0.fresh f7 (by omega)
  replace LT := LT.fr f7 (by first | exact Away.none (Nat.le_refl _) | exact LT.below (by omega) | exact LT.above (by omega) | assumption | exact fun w hw => (by have := aTop w hw; omega) | exact fun w hw => (by have := aTop2 w hw; omega))
  replace LG := LG.fr f7 (by first | exact Away.none (Nat.le_refl _) | exact LG.below (by omega) | exact LG.above (by omega) | assumption | exact fun w hw => (by have := aTop w hw; omega) | exact fun w hw => (by have := aTop2 w hw; omega))
  replace ta := ta.fr f7 (by omega)
  have tT7 := tT.fr f7 (by omega)
  simp -dsimp only [go_sem, ↓reduceIte, reduceCtorEq, Nat.reduceEqDiff, Nat.reduceAdd, Nat.reduceLeDiff, Nat.reduceMul, Int.reduceBEq, Int.reduceBNe, Int.reduceLT, Int.reduceLE, Int.reduceGT, Int.reduceGE]
  refine call_of (order_Sort ta tT7) ?_
  rintro v h8 ⟨f8, o8⟩
  have f8_z := f8.size
  replace p0 := p0.fresh f8 (by omega)
  replace LT := LT.fr f8 (by first | exact Away.none (Nat.le_refl _) | exact LT.below (by omega) | exact LT.above (by omega) | assumption | exact fun w hw => (by have := aTop w hw; omega) | exact fun w hw => (by have := aTop2 w hw; omega))
  replace LG := LG.fr f8 (by first | exact Away.none (Nat.le_refl _) | exact LG.below (by omega) | exact LG.above (by omega) | assumption | exact fun w hw => (by have := aTop w hw; omega) | exact fun w hw => (by have := aTop2 w hw; omega))
  replace ta := ta.fr f8 (by omega)
  replace LE := LE.fr f8 (by first | exact Away.none (Nat.le_refl _) | exact LE.below (by omega) | exact LE.above (by omega) | assumption | exact fun w hw => (by have := aTop w hw; omega) | exact fun w hw => (by have := aTop2 w hw; omega))
  have tT8 := tT7.fr f8 (by omega)
  have hpsr := hps.fr ((pH.trans p05).trans p0)
  have bE : ∀ l ∈ allS i M, l.length ≤ 4611686018427387904 := fun l hl => by
    rw [hall] at hl; rw [hTl l (List.mem_filter.1 hl).1]; omega
  cases hs : sortS i M with
  | none =>
    rw [hs] at o8
    simp only [ListOr] at o8
    subst o8
    have hA : allS i M = [] := sort_none hs
    rw [hA] at hgl LE LG ⊢
    have hgf : gl = false := by rw [Bool.eq_false_iff]; intro h; obtain ⟨m, hm, -⟩ := hgl.1 h; simp at hm
    subst hgf
    simp -dsimp only [go_sem, ↓reduceIte, reduceCtorEq, Nat.reduceEqDiff, Nat.reduceAdd, Nat.reduceLeDiff, Nat.reduceMul, Int.reduceBEq, Int.reduceBNe, Int.reduceLT, Int.reduceLE, Int.reduceGT, Int.reduceGE]
    refine call_of (c_lists_nats (L := []) (K := []) LE.rl LG.rl rfl (by decide) (by simp)) ?_
    rintro v h9 ⟨hh, rfl⟩
    obtain rfl : h8 = h9 := hh.symm
    simp -dsimp only [go_sem, ↓reduceIte, reduceCtorEq, Nat.reduceEqDiff, Nat.reduceAdd, Nat.reduceLeDiff, Nat.reduceMul, Int.reduceBEq, Int.reduceBNe, Int.reduceLT, Int.reduceLE, Int.reduceGT, Int.reduceGE, List.length_nil, Int.cast_ofNat_Int]
    refine call_of (order_Glue ta tT8 hpsr (by omega)) ?_
    rintro v h10 ⟨f10, o10⟩
    cases hG : glueS i M ps with
    | ok g =>
      obtain ⟨g1, g2, g3⟩ := glue_sound hG
      have := mem_allS g1 g2
      rw [hA] at this; simp at this
    | error e =>
      rw [hG] at o10
      simp only [ResL] at o10
      subst o10
      have f10_z := f10.size
      replace p0 := p0.fresh f10 (by omega)
      replace LT := LT.fr f10 (by first | exact Away.none (Nat.le_refl _) | exact LT.below (by omega) | exact LT.above (by omega) | assumption | exact fun w hw => (by have := aTop w hw; omega) | exact fun w hw => (by have := aTop2 w hw; omega))
      replace LG := LG.fr f10 (by first | exact Away.none (Nat.le_refl _) | exact LG.below (by omega) | exact LG.above (by omega) | assumption | exact fun w hw => (by have := aTop w hw; omega) | exact fun w hw => (by have := aTop2 w hw; omega))
      replace ta := ta.fr f10 (by omega)
      replace LE := LE.fr f10 (by first | exact Away.none (Nat.le_refl _) | exact LE.below (by omega) | exact LE.above (by omega) | assumption | exact fun w hw => (by have := aTop w hw; omega) | exact fun w hw => (by have := aTop2 w hw; omega))
      rcases glue_err hG with rfl | ⟨rfl, -⟩
      · simp -dsimp only [go_sem, ↓reduceIte, reduceCtorEq, Nat.reduceEqDiff, Nat.reduceAdd, Nat.reduceLeDiff, Nat.reduceMul, Int.reduceBEq, Int.reduceBNe, Int.reduceLT, Int.reduceLE, Int.reduceGT, Int.reduceGE]
        exact ⟨(pH.trans p05).trans p0, rfl⟩
      · simp -dsimp only [go_sem, ↓reduceIte, reduceCtorEq, Nat.reduceEqDiff, Nat.reduceAdd, Nat.reduceLeDiff, Nat.reduceMul, Int.reduceBEq, Int.reduceBNe, Int.reduceLT, Int.reduceLE, Int.reduceGT, Int.reduceGE]
        exact ((pH.trans p05).trans p0)
  | some m =>
    rw [hs] at o8
    obtain ⟨sw, rfl, o8⟩ := o8
    obtain ⟨r, hA⟩ := sort_first hs
    have hpos : 0 < (allS i M).length := by rw [hA]; simp
    have hml : m.length = i := by
      have : m ∈ allS i M := by rw [hA]; exact List.mem_cons_self ..
      rw [hall] at this; exact hTl m (List.mem_filter.1 this).1
    have LGown := LG.own
    rw [glen] at LGown
    have hgsl : gs.length = (allS i M).length := by rw [LG.len, glen]
    have hu : gs[0]? = some (gs[0]'(by omega)) := List.getElem?_eq_getElem _
    generalize (gs[0]'(by omega)) = u at hu
    have hmu := LG.at_ 0 u (natsV m) hu (by rw [hA]; rfl)
    rw [length_natsV] at hmu
    obtain ⟨ua, uc, rfl⟩ := hmu.is
    have em := natsV_ints m
    have eml : m.length = (m.map fun (p : Nat) => (p : Int)).length := by simp
    simp -dsimp only [go_sem, ↓reduceIte, reduceCtorEq, Nat.reduceEqDiff, Nat.reduceAdd, Nat.reduceLeDiff, Nat.reduceMul, Int.reduceBEq, Int.reduceBNe, Int.reduceLT, Int.reduceLE, Int.reduceGT, Int.reduceGE]
    refine call_of (c_lists_nats LE.rl LG.rl rfl (by omega) bE) ?_
    rintro v h9 ⟨hh, rfl⟩
    obtain rfl : h8 = h9 := hh.symm
    have epos : ((allS i M).length : Int) > 0 := by omega
    simp -dsimp only [go_sem, ↓reduceIte, reduceCtorEq, Nat.reduceEqDiff, Nat.reduceAdd, Nat.reduceLeDiff, Nat.reduceMul, Int.reduceBEq, Int.reduceBNe, Int.reduceLT, Int.reduceLE, Int.reduceGT, Int.reduceGE, epos, decide_true]
    refine LGown.rd.idx (by omega) fun b12 o12 c12 => ?_
    have c12 := c12 0 _ hu
    rw [Nat.add_zero] at c12
    simp -dsimp only [go_sem, ↓reduceIte, reduceCtorEq, Nat.reduceEqDiff, Nat.reduceAdd, Nat.reduceLeDiff, Nat.reduceMul, Int.reduceBEq, Int.reduceBNe, Int.reduceLT, Int.reduceLE, Int.reduceGT, Int.reduceGE, c12, Int.toNat_zero, Nat.add_zero, epos, decide_true]
    refine call_of (c_law2_ints (l := m.map fun (p : Nat) => (p : Int)) (m := m.map fun (p : Nat) => (p : Int)) (by rw [← em, ← eml]; exact o8.rd) (by rw [← em, ← eml]; exact hmu.rd) (by simp; omega)) ?_
    rintro v h9 ⟨hh, rfl⟩
    obtain rfl : h8 = h9 := hh.symm
    rw [decide_eq_true rfl]
    simp -dsimp only [go_sem, ↓reduceIte, reduceCtorEq, Nat.reduceEqDiff, Nat.reduceAdd, Nat.reduceLeDiff, Nat.reduceMul, Int.reduceBEq, Int.reduceBNe, Int.reduceLT, Int.reduceLE, Int.reduceGT, Int.reduceGE, epos, decide_true]
    refine call_of (order_Glue ta tT8 hpsr (by omega)) ?_
    rintro v h10 ⟨f10, o10⟩
    have f10_z := f10.size
    replace p0 := p0.fresh f10 (by omega)
    replace LT := LT.fr f10 (by first | exact Away.none (Nat.le_refl _) | exact LT.below (by omega) | exact LT.above (by omega) | assumption | exact fun w hw => (by have := aTop w hw; omega) | exact fun w hw => (by have := aTop2 w hw; omega))
    replace LG := LG.fr f10 (by first | exact Away.none (Nat.le_refl _) | exact LG.below (by omega) | exact LG.above (by omega) | assumption | exact fun w hw => (by have := aTop w hw; omega) | exact fun w hw => (by have := aTop2 w hw; omega))
    replace ta := ta.fr f10 (by omega)
    replace LE := LE.fr f10 (by first | exact Away.none (Nat.le_refl _) | exact LE.below (by omega) | exact LE.above (by omega) | assumption | exact fun w hw => (by have := aTop w hw; omega) | exact fun w hw => (by have := aTop2 w hw; omega))
    replace o8 := o8.fr f10 (by have := o8.at_; omega)
    have tT10 := tT8.fr f10 (by omega)
    have hpsr10 := hpsr.fr f10
    cases hG : glueS i M ps with
    | ok g =>
      rw [hG] at o10
      obtain ⟨gw, rfl, og⟩ := o10
      obtain ⟨g1, g2, g3⟩ := glue_sound hG
      obtain rfl : gl = true := hgl.2 ⟨g, mem_allS g1 g2, g3⟩
      have eg := natsV_ints g
      have egl : g.length = (g.map fun (p : Nat) => (p : Int)).length := by simp
      simp -dsimp only [go_sem, ↓reduceIte, reduceCtorEq, Nat.reduceEqDiff, Nat.reduceAdd, Nat.reduceLeDiff, Nat.reduceMul, Int.reduceBEq, Int.reduceBNe, Int.reduceLT, Int.reduceLE, Int.reduceGT, Int.reduceGE]
      refine call_of (order_Linear (l := g.map fun (p : Nat) => (p : Int)) ta tT10 (by rw [← eg, ← egl]; exact og.rd) (by simp; omega)) ?_
      rintro v h11 ⟨f11, rfl⟩
      rw [decide_eq_true (linP_pre.2 ⟨g1, g2⟩)]
      have f11_z := f11.size
      replace p0 := p0.fresh f11 (by omega)
      replace LT := LT.fr f11 (by first | exact Away.none (Nat.le_refl _) | exact LT.below (by omega) | exact LT.above (by omega) | assumption | exact fun w hw => (by have := aTop w hw; omega) | exact fun w hw => (by have := aTop2 w hw; omega))
      replace LG := LG.fr f11 (by first | exact Away.none (Nat.le_refl _) | exact LG.below (by omega) | exact LG.above (by omega) | assumption | exact fun w hw => (by have := aTop w hw; omega) | exact fun w hw => (by have := aTop2 w hw; omega))
      replace ta := ta.fr f11 (by omega)
      replace LE := LE.fr f11 (by first | exact Away.none (Nat.le_refl _) | exact LE.below (by omega) | exact LE.above (by omega) | assumption | exact fun w hw => (by have := aTop w hw; omega) | exact fun w hw => (by have := aTop2 w hw; omega))
      replace o8 := o8.fr f11 (by have := o8.at_; omega)
      simp -dsimp only [go_sem, ↓reduceIte, reduceCtorEq, Nat.reduceEqDiff, Nat.reduceAdd, Nat.reduceLeDiff, Nat.reduceMul, Int.reduceBEq, Int.reduceBNe, Int.reduceLT, Int.reduceLE, Int.reduceGT, Int.reduceGE]
      refine call_of (c_law2_together (og.rd.fr f11) (hpsr10.fr f11) (by omega) (by omega)) ?_
      rintro v h12 ⟨hh, bb, rfl, hbb⟩
      obtain rfl : h11 = h12 := hh.symm
      obtain rfl : bb = true := hbb.2 g3
      simp -dsimp only [go_sem, ↓reduceIte, reduceCtorEq, Nat.reduceEqDiff, Nat.reduceAdd, Nat.reduceLeDiff, Nat.reduceMul, Int.reduceBEq, Int.reduceBNe, Int.reduceLT, Int.reduceLE, Int.reduceGT, Int.reduceGE]
      exact (pH.trans p05).trans p0
    | error e =>
      rw [hG] at o10
      simp only [ResL] at o10
      subst o10
      rcases glue_err hG with rfl | ⟨rfl, hno⟩
      · simp -dsimp only [go_sem, ↓reduceIte, reduceCtorEq, Nat.reduceEqDiff, Nat.reduceAdd, Nat.reduceLeDiff, Nat.reduceMul, Int.reduceBEq, Int.reduceBNe, Int.reduceLT, Int.reduceLE, Int.reduceGT, Int.reduceGE]
        exact ⟨(pH.trans p05).trans p0, rfl⟩
      · have hgf : gl = false := by
          rw [Bool.eq_false_iff]; intro h
          obtain ⟨y, hy, ht⟩ := hgl.1 h
          rw [hall] at hy
          obtain ⟨q1, q2⟩ := linB_true.1 (List.mem_filter.1 hy).2
          exact hno y q1 q2 ht
        subst hgf
        simp -dsimp only [go_sem, ↓reduceIte, reduceCtorEq, Nat.reduceEqDiff, Nat.reduceAdd, Nat.reduceLeDiff, Nat.reduceMul, Int.reduceBEq, Int.reduceBNe, Int.reduceLT, Int.reduceLE, Int.reduceGT, Int.reduceGE]
        exact (pH.trans p05).trans p0
end Go.Proofs.Tst
/-
  From a contract to a row: what a law's call leaves; how arguments are read.
-/
namespace Go.Vc
open Go Go.RowKit Go.ChangeShapes Go.WideShapes Go.ChangeAt Go.Deep
section
variable {H : Type} {enc : TypeId × Value → H} {P : Program}
theorem trodAll_below (hl : laidOutB P = true) {W W' : World} (hb : Below W.heap.size W W') : ∀ {ts : List TypeId} {vs : List Value} {ds : List (DataW H)} {ps : List MemPlace},
    ts.all (fun t => P.readableRec t && decide (t < P.types.size)) = true → DataW.TrodAll enc P W 0 (fun _ => true) true ts vs ds ps → DataW.TrodAll enc P W' 0 (fun b => decide (b < W.heap.size)) true ts vs ds ps
  | [], _, _, _, _, h => by
    obtain ⟨rfl, rfl, rfl⟩ := trodAll_nil h
    exact rfl
  | t :: ts, _, _, _, hr, h => by
    have hlt := h.lt
    obtain ⟨v, vs, d, ds, p, q, rfl, rfl, rfl, h1, h2⟩ := trodAll_cons h
    simp only [List.all_cons, Bool.and_eq_true, decide_eq_true_eq] at hr
    exact ⟨p, q, Below.trod hl hr.1.1 hr.1.2 h1 hb (fun x hx => hlt x (List.mem_append_left _ hx)), trodAll_below hl hb hr.2 h2, rfl⟩

/-- What a law that answers true leaves. -/
theorem law_post {f : Func} {s : ChangeSpec} {W W' : World} {args : Array Value} {ds gs : List (DataW H)} {before : List MemPlace} {tb : TypeId}
    (hl : laidOutB P = true) (hp : f.params.toList.all (fun t => P.readableRec t && decide (t < P.types.size)) = true) (hv : s.vars = [])
    (hrt : f.resultTypes = #[tb]) (htb : P.underlying tb = some .bool) (hW : DataW.Whole enc P f.params.toList s.vars false W args.toList ds gs before)
    (hb : Below W.heap.size W W') (hfn : s.fn H (ds ++ gs) = { results := [.lit (.bool true)], args := ds }) : s.post enc P f false true false false W args (.bool true) W' := by
  have hW0 := hW
  obtain ⟨p, q, hA, hV, rfl, hz, hn⟩ := hW0
  rw [hv] at hV
  obtain ⟨rfl, rfl⟩ := trodVars_none hV
  refine ⟨ds, [], _, [], p, [], hW, ?_, ?_, ?_, ?_, fun h => by cases h⟩
  · rw [hfn, hrt]; exact trodAll_cons_mk (shut_bool htb true) trodAll_mk0
  · rw [hfn]; exact trodAll_below hl hb hp hA
  · rw [hfn, hv]; exact rfl
  · refine World.keptBut_mono (fun p hp => ⟨hp, ?_⟩) (hb.frame (· ∈ p ++ []))
    rw [List.append_nil] at hp
    exact .inr (.inl hp)

/-- The heap's part of a call that keeps all that was. -/
theorem below_of {w w' : World} (hf : Fr 0 0 w.heap w'.heap) (hl : Like none w w') : Below w.heap.size w w' :=
  ⟨hl.os, hl.tape, hl.output, hl.size, fun k hk => hf.old k hk (.inr (Nat.zero_le _))⟩

/-! ### Arguments -/
theorem cell?_plain {w : World} {a : Addr} {v : Value} (h : w.cell? a = some v) : a.spot = none := by
  unfold World.cell? at h
  split at h
  · split at h
    · cases h
    · rename_i hs; simpa using hs
  · cases h
theorem addr_plain {a : Addr} (h : a.spot = none) : a = ⟨a.block, a.off, none⟩ := by cases a; simp_all
theorem cell?_add {w : World} {a : Addr} (ha : a.spot = none) (j : Nat) : w.cell? (a.add j) = hcell w.heap a.block (a.off + j) := by
  rw [← cell?_heap]
  unfold Addr.add
  split
  · rename_i h; subst h; rw [Nat.add_zero, ← addr_plain ha]
  · rw [← ha]
theorem rd_of {w : World} {s n c : Nat} {a : Addr} {xs : List Value} (hs : 0 < s) (hl : xs.length = n * s) (hc : ∀ j, j < n * s → ∃ v, xs[j]? = some v ∧ w.cell? (a.add j) = some v) : Rd s w.heap (.slice (some a) n c) n xs := by
  refine ⟨hl, _, _, rfl, ?_⟩
  rcases Nat.eq_zero_or_pos n with h0 | h0
  · exact .inl h0
  · have hp : 0 < n * s := Nat.mul_pos h0 hs
    obtain ⟨v, _, hv⟩ := hc 0 hp
    have ha : a.spot = none := cell?_plain (w := w) (a := a) (by simpa [Addr.add] using hv)
    refine .inr ⟨a.block, a.off, by rw [← addr_plain ha], fun j x hj => ?_⟩
    obtain ⟨v, h1, h2⟩ := hc j (by have := (List.getElem?_eq_some_iff.1 hj).1; omega)
    rw [hj] at h1; cases h1
    rw [← cell?_add ha]; exact h2
theorem wf64 {n : Int} (h : (Lit.int .i64 n).wf = true) : -9223372036854775808 ≤ n ∧ n ≤ 9223372036854775807 := by
  simp only [Lit.wf, Bool.and_eq_true, decide_eq_true_eq] at h
  have e1 : IntKind.i64.min = -9223372036854775808 := by decide
  have e2 : IntKind.i64.max = 9223372036854775807 := by decide
  rw [e1, e2] at h; exact h

variable {w : World} {base : Nat} {held : Bool}
/-- A list of pairs that came in. -/
theorem arg_pairs {r : Reach} {b0 : Nat} {t e : TypeId} {f0 f1 : Field} {v : Value} {d : DataW H} {ps : List MemPlace} (ht : P.underlying t = some (.slice e)) (he : P.underlying e = some (.struct #[f0, f1])) (ce : P.cellsOf e = 2) (hby : P.bytesOf e = 16)
    (o0 : f0.offset = 0) (o1 : f1.offset = 1) (c0 : P.cellsOf f0.type = 1) (c1 : P.cellsOf f1.type = 1) (u0 : P.underlying f0.type = some (.int .i64)) (u1 : P.underlying f1.type = some (.int .i64))
    (hval : Value.okWide P w r b0 t v) (hd : DataW.Trod enc P w base (fun _ => true) held t v d ps) (hw : ∀ x ∈ d.weights P t, x ≤ reachBytes) :
    ∃ l : List (Int × Int), Rd 2 w.heap v l.length (pairsV l) ∧ l.length ≤ 8796093022208 ∧ ∀ x ∈ l, (-9223372036854775808 ≤ x.1 ∧ x.1 ≤ 9223372036854775807) ∧ -9223372036854775808 ≤ x.2 ∧ x.2 ≤ 9223372036854775807 := by
  obtain ⟨a, n, c, rfl⟩ := okWide_slice ht hval
  obtain ⟨fuel, hf⟩ := hd
  rcases open_slice_pairs ht he ce o0 o1 c0 c1 hf with ⟨h1, h2⟩ | ⟨a', len, cap, m, k, V0, V1, D0, D1, P0, P1, h1, _, hlc, _, hm, hx, hcell⟩
  · have h1 : [Value.slice a n c] = [.slice none 0 0] := h1
    cases h1
    exact ⟨[], ⟨rfl, _, _, rfl, .inl rfl⟩, by simp, by simp⟩
  · have h1 : [Value.slice a n c] = [.slice (some a') len cap] := h1
    cases h1
    simp only [if_true] at hm
    subst hm
    simp only [Prod.mk.injEq] at hx
    obtain ⟨rfl, rfl⟩ := hx
    have hwt := hw _ (by simp only [DataW.weights, ht]; exact List.mem_cons_self ..)
    simp only [List.length_map, List.length_range, hby] at hwt
    unfold reachBytes at hwt
    obtain ⟨Z, hZ⟩ := choose_lt (α := Int × Int) (n := m) (p := fun i z => V0 i = .int .i64 z.1 ∧ V1 i = .int .i64 z.2 ∧ (Lit.int .i64 z.1).wf = true ∧ (Lit.int .i64 z.2).wf = true) (fun i hi => by
      obtain ⟨_, _, g1, g2⟩ := hcell i hi
      obtain ⟨x, hx, _, hxw⟩ := DataW.trod_int u0 g1
      obtain ⟨y, hy, _, hyw⟩ := DataW.trod_int u1 g2
      exact ⟨(x, y), by simpa using hx, by simpa using hy, hxw, hyw⟩)
    have hl : ((List.range n).map Z).length = n := by simp
    refine ⟨(List.range n).map Z, ?_, by rw [hl]; omega, fun x hx => ?_⟩
    · rw [hl]
      refine rd_of (by omega) (by simp) fun j hj => ?_
      obtain ⟨i, hij⟩ : ∃ i, j = i * 2 ∨ j = i * 2 + 1 := ⟨j / 2, by omega⟩
      have hi : i < n := by omega
      have hg : ((List.range n).map Z)[i]? = some (Z i) := by simp [hi]
      obtain ⟨g1, g2⟩ := pairsV_get _ _ _ hg
      obtain ⟨h3, h4, _, _⟩ := hcell i (by omega)
      obtain ⟨h5, h6, _, _⟩ := hZ i (by omega)
      rcases hij with rfl | rfl
      · exact ⟨_, g1, by rw [h3, h5]⟩
      · exact ⟨_, g2, by rw [h4, h6]⟩
    · obtain ⟨i, hi, rfl⟩ := List.mem_map.1 hx
      obtain ⟨_, _, h7, h8⟩ := hZ i (by have := List.mem_range.1 hi; omega)
      exact ⟨wf64 h7, wf64 h8⟩
end
end Go.Vc
