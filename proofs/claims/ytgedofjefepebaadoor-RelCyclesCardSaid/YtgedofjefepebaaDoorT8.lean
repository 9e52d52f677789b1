/-
  Contracts of functions that the law reaches: what each returns and what it leaves in memory. Conditions stand in each.
-/
import Derived.Test.YtgedofjefepebaaDoorT7
set_option linter.all false
set_option maxRecDepth 2000
namespace Go.Proofs.Tst
open Go Go.Vc
theorem c_law1_RelCycles {n : Int} {xv : Value} {x : List (Int × Int)} {h : Heap} (ht : TabAt h) (hx : Rd 2 h xv x.length (pairsV x)) (bx : x.length ≤ 8796093022208) :
    Con Tryd.prog 5 #[.int .i64 n, xv] h fun v h' => Fr 0 0 h h' ∧ v = .bool true := by
  refine con_law1_RelCycles ?_
  have hcl : clampN n ≤ 256 := by unfold clampN; omega
  have p0 : Fr 0 0 h h := .refl _ _ _
  simp -dsimp only [go_sem, ↓reduceIte, reduceCtorEq, Nat.reduceEqDiff, Nat.reduceAdd, Nat.reduceLeDiff, Nat.reduceMul, Int.reduceBEq, Int.reduceBNe, Int.reduceLT, Int.reduceLE, Int.reduceGT, Int.reduceGE]
  refine call_of (rel_Of n _ x h hx (by omega)) ?_
  rintro av h1 ⟨f1, ta⟩
  have f1_z := f1.size
  replace p0 := p0.fresh f1 (by omega)
  generalize hM : ofM (clampN n) x = M at ta
  generalize clampN n = k at ta hcl
  have hr := ta
  obtain ⟨-, pb, rb, R, W, rfl, -⟩ := hr
  simp -dsimp only [go_sem, ↓reduceIte, reduceCtorEq, Nat.reduceEqDiff, Nat.reduceAdd, Nat.reduceLeDiff, Nat.reduceMul, Int.reduceBEq, Int.reduceBNe, Int.reduceLT, Int.reduceLE, Int.reduceGT, Int.reduceGE]
  refine call_of (c_law1_lives (ht.fr p0 (by omega))) ?_
  rintro v h2 ⟨f2, rfl⟩
  have f2_z := f2.size
  replace p0 := p0.fresh f2 (by omega)
  replace ta := ta.fr f2 (by omega)
  simp -dsimp only [go_sem, ↓reduceIte, reduceCtorEq, Nat.reduceEqDiff, Nat.reduceAdd, Nat.reduceLeDiff, Nat.reduceMul, Int.reduceBEq, Int.reduceBNe, Int.reduceLT, Int.reduceLE, Int.reduceGT, Int.reduceGE]
  refine call_of (rel_Cycle ta (ht.fr p0 (by omega))) ?_
  rintro lv h3 ⟨f3, ol⟩
  have hlen := cycS_len (n := k) (M := M)
  have hnil := fun h => cycS_nil (n := k) (M := M) h
  have hcy := fun h => cycS_is (n := k) (M := M) h
  generalize cycS k M = l at ol hlen hnil hcy
  obtain ⟨la, lc, rfl⟩ := ol.is
  have ol_l := ol.top
  have f3_z := f3.size
  replace p0 := p0.fresh f3 (by omega)
  replace ta := ta.fr f3 (by omega)
  simp -dsimp only [go_sem, ↓reduceIte, reduceCtorEq, Nat.reduceEqDiff, Nat.reduceAdd, Nat.reduceLeDiff, Nat.reduceMul, Int.reduceBEq, Int.reduceBNe, Int.reduceLT, Int.reduceLE, Int.reduceGT, Int.reduceGE]
  refine ⟨fun h0 => ?_, fun h0 => ?_⟩
  · have hl : l = [] := by have : l.length = 0 := by simpa using h0
                           exact List.eq_nil_of_length_eq_zero this
    simp -dsimp only [go_sem, ↓reduceIte, reduceCtorEq, Nat.reduceEqDiff, Nat.reduceAdd, Nat.reduceLeDiff, Nat.reduceMul, Int.reduceBEq, Int.reduceBNe, Int.reduceLT, Int.reduceLE, Int.reduceGT, Int.reduceGE]
    refine call_of (c_law1_rises ta (ht.fr p0 (by omega)) (hnil hl)) ?_
    rintro v h4 ⟨f4, rfl⟩
    have f4_z := f4.size
    replace p0 := p0.fresh f4 (by omega)
    replace ta := ta.fr f4 (by omega)
    replace ol := ol.fr f4 (by have := ol.at_; omega)
    simp -dsimp only [go_sem, ↓reduceIte, reduceCtorEq, Nat.reduceEqDiff, Nat.reduceAdd, Nat.reduceLeDiff, Nat.reduceMul, Int.reduceBEq, Int.reduceBNe, Int.reduceLT, Int.reduceLE, Int.reduceGT, Int.reduceGE]
    exact p0
  have hlp : 0 < l.length := by
    have : ¬ l.length = 0 := by simpa using h0
    omega
  obtain ⟨p, hp, hp0, hpp, hleast, hstep, hdist⟩ := hcy (by rintro rfl; simp at hlp)
  simp -dsimp only [go_sem, ↓reduceIte, reduceCtorEq, Nat.reduceEqDiff, Nat.reduceAdd, Nat.reduceLeDiff, Nat.reduceMul, Int.reduceBEq, Int.reduceBNe, Int.reduceLT, Int.reduceLE, Int.reduceGT, Int.reduceGE]
  refine call_of (rel_Plus ta) ?_
  rintro pv h4 ⟨f4, tp⟩
  have f4_z := f4.size
  replace p0 := p0.fresh f4 (by omega)
  replace ta := ta.fr f4 (by omega)
  replace ol := ol.fr f4 (by have := ol.at_; omega)
  simp -dsimp only [go_sem, ↓reduceIte, reduceCtorEq, Nat.reduceEqDiff, Nat.reduceAdd, Nat.reduceLeDiff, Nat.reduceMul, Int.reduceBEq, Int.reduceBNe, Int.reduceLT, Int.reduceLE, Int.reduceGT, Int.reduceGE]
  refine loop_intro (fun i : Nat => [(5, .pointer (some ⟨pb, 0, none⟩)), (6, .slice la l.length lc), (7, pv), (8, .int .i64 i)])
    (fun i h' => h' = h4 ∧ i ≤ l.length) (fun i => l.length - i) 0 ?_ ?_ ?_
  · simp [Le, find]
  · exact ⟨rfl, by omega⟩
  rintro i h5 ⟨hh, hi⟩
  obtain rfl : h4 = h5 := hh.symm
  simp -dsimp only [go_sem, ↓reduceIte, reduceCtorEq, Nat.reduceEqDiff, Nat.reduceAdd, Nat.reduceLeDiff, Nat.reduceMul, Int.reduceBEq, Int.reduceBNe, Int.reduceLT, Int.reduceLE, Int.reduceGT, Int.reduceGE]
  refine ⟨fun hlt => ?_, fun hge => ?_⟩
  · have hil : i < l.length := by omega
    have hx : l[i]? = some l[i] := by simp [hil]
    generalize l[i] = x at hx
    obtain ⟨hxk, hpx, hnx, hlast⟩ := hstep i x hx
    simp -dsimp only [go_sem, ↓reduceIte, reduceCtorEq, Nat.reduceEqDiff, Nat.reduceAdd, Nat.reduceLeDiff, Nat.reduceMul, Int.reduceBEq, Int.reduceBNe, Int.reduceLT, Int.reduceLE, Int.reduceGT, Int.reduceGE]
    refine Chk_intro (by omega) (ol.rd.idx (by omega) fun b6 o6 c6 => ?_)
    have c6 := c6 0 _ (natsV_get hp0)
    rw [Nat.add_zero] at c6
    simp -dsimp only [go_sem, ↓reduceIte, reduceCtorEq, Nat.reduceEqDiff, Nat.reduceAdd, Nat.reduceLeDiff, Nat.reduceMul, Int.reduceBEq, Int.reduceBNe, Int.reduceLT, Int.reduceLE, Int.reduceGT, Int.reduceGE, c6, Int.toNat_zero, Nat.add_zero]
    simp -dsimp (disch := omega) only [wrap64]
    refine If_joint (fun y : Nat => [(5, .pointer (some ⟨pb, 0, none⟩)), (6, .slice la l.length lc), (7, pv), (8, .int .i64 i), (9, .int .i64 y)]) (fun y h' => h' = h4 ∧ y < k ∧ M x y = true) ?_ ?_ ?_
    · intro hy
      have hy : i + 1 < l.length := by omega
      have hx2 : l[i + 1]? = some l[i + 1] := by simp [hy]
      have hm2 := hnx _ hx2
      have hy2 := (hstep _ _ hx2).1
      generalize l[i + 1] = y at hx2 hm2 hy2
      simp -dsimp only [go_sem, ↓reduceIte, reduceCtorEq, Nat.reduceEqDiff, Nat.reduceAdd, Nat.reduceLeDiff, Nat.reduceMul, Int.reduceBEq, Int.reduceBNe, Int.reduceLT, Int.reduceLE, Int.reduceGT, Int.reduceGE]
      simp -dsimp (disch := omega) only [wrap64]
      refine Chk_intro (by omega) (ol.rd.idx (by omega) fun b7 o7 c7 => ?_)
      have e7 : (IntKind.i64.wrap ((i : Int) + 1)).toNat = i + 1 := by rw [wrap64 (by omega) (by omega)]; omega
      simp -dsimp only [go_sem, ↓reduceIte, reduceCtorEq, Nat.reduceEqDiff, Nat.reduceAdd, Nat.reduceLeDiff, Nat.reduceMul, Int.reduceBEq, Int.reduceBNe, Int.reduceLT, Int.reduceLE, Int.reduceGT, Int.reduceGE, e7, c7 _ _ (natsV_get hx2)]
      exact ⟨y, by simp [Le, find], by omega, hm2⟩
    · intro hy
      have hy : i + 1 = l.length := by omega
      simp -dsimp only [go_sem, ↓reduceIte, reduceCtorEq, Nat.reduceEqDiff, Nat.reduceAdd, Nat.reduceLeDiff, Nat.reduceMul, Int.reduceBEq, Int.reduceBNe, Int.reduceLT, Int.reduceLE, Int.reduceGT, Int.reduceGE]
      exact ⟨p, by simp [Le, find], hp, hlast hy⟩
    rintro y h5 ⟨hh, hyk, hmy⟩ e ⟨e5, e6, e7, e8, e9, -⟩
    obtain rfl : h4 = h5 := hh.symm
    simp -dsimp only [go_sem, ↓reduceIte, reduceCtorEq, Nat.reduceEqDiff, Nat.reduceAdd, Nat.reduceLeDiff, Nat.reduceMul, Int.reduceBEq, Int.reduceBNe, Int.reduceLT, Int.reduceLE, Int.reduceGT, Int.reduceGE, e5, e6, e7, e8, e9]
    refine Chk_intro (by omega) (ol.rd.idx (by omega) fun b8 o8 c8 => ?_)
    simp -dsimp only [go_sem, ↓reduceIte, reduceCtorEq, Nat.reduceEqDiff, Nat.reduceAdd, Nat.reduceLeDiff, Nat.reduceMul, Int.reduceBEq, Int.reduceBNe, Int.reduceLT, Int.reduceLE, Int.reduceGT, Int.reduceGE, e5, e6, e7, e8, e9, c8 _ _ (natsV_get hx)]
    refine call_of (rel_Has ta x y) ?_
    rintro v h5 ⟨hh, rfl⟩
    obtain rfl : h4 = h5 := hh.symm
    have eH : (inR k (x : Int) && inR k (y : Int) && M ((x : Int).toNat) ((y : Int).toNat)) = true := by simp [inR, hxk, hyk, hmy]
    rw [eH]
    simp -dsimp only [go_sem, ↓reduceIte, reduceCtorEq, Nat.reduceEqDiff, Nat.reduceAdd, Nat.reduceLeDiff, Nat.reduceMul, Int.reduceBEq, Int.reduceBNe, Int.reduceLT, Int.reduceLE, Int.reduceGT, Int.reduceGE, e5, e6, e7, e8, e9]
    refine Chk_intro (by omega) (ol.rd.idx (by omega) fun b9 o9 c9 => ?_)
    simp -dsimp only [go_sem, ↓reduceIte, reduceCtorEq, Nat.reduceEqDiff, Nat.reduceAdd, Nat.reduceLeDiff, Nat.reduceMul, Int.reduceBEq, Int.reduceBNe, Int.reduceLT, Int.reduceLE, Int.reduceGT, Int.reduceGE, e5, e6, e7, e8, e9, c9 _ _ (natsV_get hx)]
    refine Chk_intro (by omega) (ol.rd.idx (by omega) fun b10 o10 c10 => ?_)
    have c10 := c10 0 _ (natsV_get hp0)
    rw [Nat.add_zero] at c10
    have e11 : ¬ (x : Int) < (p : Int) := by omega
    simp -dsimp only [go_sem, ↓reduceIte, reduceCtorEq, Nat.reduceEqDiff, Nat.reduceAdd, Nat.reduceLeDiff, Nat.reduceMul, Int.reduceBEq, Int.reduceBNe, Int.reduceLT, Int.reduceLE, Int.reduceGT, Int.reduceGE, e5, e6, e7, e8, e9, c10, Int.toNat_zero, Nat.add_zero, e11]
    refine loop_intro (fun j : Nat => [(5, .pointer (some ⟨pb, 0, none⟩)), (6, .slice la l.length lc), (7, pv), (8, .int .i64 i), (10, .int .i64 j)])
      (fun j h' => h' = h4 ∧ j ≤ i) (fun j => i - j) 0 ?_ ?_ ?_
    · simp [Le, find]
    · exact ⟨rfl, by omega⟩
    rintro j h5 ⟨hh, hj⟩
    obtain rfl : h4 = h5 := hh.symm
    simp -dsimp only [go_sem, ↓reduceIte, reduceCtorEq, Nat.reduceEqDiff, Nat.reduceAdd, Nat.reduceLeDiff, Nat.reduceMul, Int.reduceBEq, Int.reduceBNe, Int.reduceLT, Int.reduceLE, Int.reduceGT, Int.reduceGE]
    refine ⟨fun hlt1 => ?_, fun hge1 => ?_⟩
    · have hji : j < i := by omega
      have hz : l[j]? = some (l[j]'(by omega)) := by simp [show j < l.length by omega]
      generalize (l[j]'(by omega)) = z at hz
      have hzx : ((z : Int) == (x : Int)) = false := by
        have : z ≠ x := by rintro rfl; have := hdist j i z hz hx; omega
        rw [beq_eq_false_iff_ne]; omega
      simp -dsimp only [go_sem, ↓reduceIte, reduceCtorEq, Nat.reduceEqDiff, Nat.reduceAdd, Nat.reduceLeDiff, Nat.reduceMul, Int.reduceBEq, Int.reduceBNe, Int.reduceLT, Int.reduceLE, Int.reduceGT, Int.reduceGE]
      refine Chk_intro (by omega) (ol.rd.idx (by omega) fun b12 o12 c12 => ?_)
      simp -dsimp only [go_sem, ↓reduceIte, reduceCtorEq, Nat.reduceEqDiff, Nat.reduceAdd, Nat.reduceLeDiff, Nat.reduceMul, Int.reduceBEq, Int.reduceBNe, Int.reduceLT, Int.reduceLE, Int.reduceGT, Int.reduceGE, c12 _ _ (natsV_get hz)]
      refine Chk_intro (by omega) (ol.rd.idx (by omega) fun b13 o13 c13 => ?_)
      simp -dsimp only [go_sem, ↓reduceIte, reduceCtorEq, Nat.reduceEqDiff, Nat.reduceAdd, Nat.reduceLeDiff, Nat.reduceMul, Int.reduceBEq, Int.reduceBNe, Int.reduceLT, Int.reduceLE, Int.reduceGT, Int.reduceGE, c13 _ _ (natsV_get hx)]
      rw [hzx]
      simp -dsimp only [go_sem, ↓reduceIte, reduceCtorEq, Nat.reduceEqDiff, Nat.reduceAdd, Nat.reduceLeDiff, Nat.reduceMul, Int.reduceBEq, Int.reduceBNe, Int.reduceLT, Int.reduceLE, Int.reduceGT, Int.reduceGE]
      simp -dsimp (disch := omega) only [wrap64]
      exact ⟨j + 1, by omega, by simp [Le, find], by omega⟩
    · simp -dsimp only [go_sem, ↓reduceIte, reduceCtorEq, Nat.reduceEqDiff, Nat.reduceAdd, Nat.reduceLeDiff, Nat.reduceMul, Int.reduceBEq, Int.reduceBNe, Int.reduceLT, Int.reduceLE, Int.reduceGT, Int.reduceGE]
      simp -dsimp (disch := omega) only [wrap64]
      exact ⟨i + 1, by omega, by simp [Le, find], by omega⟩
  · simp -dsimp only [go_sem, ↓reduceIte, reduceCtorEq, Nat.reduceEqDiff, Nat.reduceAdd, Nat.reduceLeDiff, Nat.reduceMul, Int.reduceBEq, Int.reduceBNe, Int.reduceLT, Int.reduceLE, Int.reduceGT, Int.reduceGE]
    refine loop_intro (fun q : Nat => [(6, .slice la l.length lc), (7, pv), (11, .int .i64 q)])
      (fun q h' => h' = h4 ∧ q ≤ p) (fun q => p - q) 0 ?_ ?_ ?_
    · simp [Le, find]
    · exact ⟨rfl, by omega⟩
    rintro q h5 ⟨hh, hq⟩
    obtain rfl : h4 = h5 := hh.symm
    simp -dsimp only [go_sem, ↓reduceIte, reduceCtorEq, Nat.reduceEqDiff, Nat.reduceAdd, Nat.reduceLeDiff, Nat.reduceMul, Int.reduceBEq, Int.reduceBNe, Int.reduceLT, Int.reduceLE, Int.reduceGT, Int.reduceGE]
    refine Chk_intro (by omega) (ol.rd.idx (by omega) fun b9 o9 c9 => ?_)
    have c9 := c9 0 _ (natsV_get hp0)
    rw [Nat.add_zero] at c9
    simp -dsimp only [go_sem, ↓reduceIte, reduceCtorEq, Nat.reduceEqDiff, Nat.reduceAdd, Nat.reduceLeDiff, Nat.reduceMul, Int.reduceBEq, Int.reduceBNe, Int.reduceLT, Int.reduceLE, Int.reduceGT, Int.reduceGE, c9, Int.toNat_zero, Nat.add_zero]
    refine ⟨fun hlt1 => ?_, fun hge1 => ?_⟩
    · have hqp : q < p := by omega
      simp -dsimp only [go_sem, ↓reduceIte, reduceCtorEq, Nat.reduceEqDiff, Nat.reduceAdd, Nat.reduceLeDiff, Nat.reduceMul, Int.reduceBEq, Int.reduceBNe, Int.reduceLT, Int.reduceLE, Int.reduceGT, Int.reduceGE]
      refine call_of (rel_Has tp q q) ?_
      rintro v h5 ⟨hh, rfl⟩
      obtain rfl : h4 = h5 := hh.symm
      have e9 : (inR k (q : Int) && inR k (q : Int) && plusM k M ((q : Int).toNat) ((q : Int).toNat)) = false := by simp [hleast q hqp]
      rw [e9]
      simp -dsimp only [go_sem, ↓reduceIte, reduceCtorEq, Nat.reduceEqDiff, Nat.reduceAdd, Nat.reduceLeDiff, Nat.reduceMul, Int.reduceBEq, Int.reduceBNe, Int.reduceLT, Int.reduceLE, Int.reduceGT, Int.reduceGE]
      simp -dsimp (disch := omega) only [wrap64]
      exact ⟨q + 1, by omega, by simp [Le, find], by omega⟩
    · simp -dsimp only [go_sem, ↓reduceIte, reduceCtorEq, Nat.reduceEqDiff, Nat.reduceAdd, Nat.reduceLeDiff, Nat.reduceMul, Int.reduceBEq, Int.reduceBNe, Int.reduceLT, Int.reduceLE, Int.reduceGT, Int.reduceGE]
      refine Chk_intro (by omega) (ol.rd.idx (by omega) fun b10 o10 c10 => ?_)
      have c10 := c10 0 _ (natsV_get hp0)
      rw [Nat.add_zero] at c10
      simp -dsimp only [go_sem, ↓reduceIte, reduceCtorEq, Nat.reduceEqDiff, Nat.reduceAdd, Nat.reduceLeDiff, Nat.reduceMul, Int.reduceBEq, Int.reduceBNe, Int.reduceLT, Int.reduceLE, Int.reduceGT, Int.reduceGE, c10, Int.toNat_zero, Nat.add_zero]
      refine Chk_intro (by omega) (ol.rd.idx (by omega) fun b11 o11 c11 => ?_)
      have c11 := c11 0 _ (natsV_get hp0)
      rw [Nat.add_zero] at c11
      simp -dsimp only [go_sem, ↓reduceIte, reduceCtorEq, Nat.reduceEqDiff, Nat.reduceAdd, Nat.reduceLeDiff, Nat.reduceMul, Int.reduceBEq, Int.reduceBNe, Int.reduceLT, Int.reduceLE, Int.reduceGT, Int.reduceGE, c11, Int.toNat_zero, Nat.add_zero]
      refine call_of (rel_Has tp p p) ?_
      rintro v h5 ⟨hh, rfl⟩
      obtain rfl : h4 = h5 := hh.symm
      have e9 : (inR k (p : Int) && inR k (p : Int) && plusM k M ((p : Int).toNat) ((p : Int).toNat)) = true := by simp [inR, hp, hpp]
      rw [e9]
      simp -dsimp only [go_sem, ↓reduceIte, reduceCtorEq, Nat.reduceEqDiff, Nat.reduceAdd, Nat.reduceLeDiff, Nat.reduceMul, Int.reduceBEq, Int.reduceBNe, Int.reduceLT, Int.reduceLE, Int.reduceGT, Int.reduceGE]
      exact p0
end Go.Proofs.Tst
/-
  From a contract to a row: what a law's call leaves; how arguments are read.
-/
namespace Go.Vc
open Go Go.RowKit Go.ChangeShapes Go.WideShapes Go.ChangeAt Go.Deep

section
variable {H : Type} {enc : TypeId × Value → H} {P : Program}

theorem trodAll_below (hl : laidOutB P = true) {W W' : World} (hb : Below W.heap.size W W') : ∀ {ts : List TypeId} {vs : List Value} {ds : List (DataW H)} {ps : List MemPlace},
    ts.all (fun t => P.readableRec t && decide (t < P.types.size)) = true → DataW.TrodAll enc P W 0 (fun _ => true) true ts vs ds ps → DataW.TrodAll enc P W' 0 (fun b => decide (b < W.heap.size)) true ts vs ds ps
  | [], _, _, _, _, h => by
    obtain ⟨rfl, rfl, rfl⟩ := trodAll_nil h
    exact rfl
  | t :: ts, _, _, _, hr, h => by
    have hlt := h.lt
    obtain ⟨v, vs, d, ds, p, q, rfl, rfl, rfl, h1, h2⟩ := trodAll_cons h
    simp only [List.all_cons, Bool.and_eq_true, decide_eq_true_eq] at hr
    exact ⟨p, q, Below.trod hl hr.1.1 hr.1.2 h1 hb (fun x hx => hlt x (List.mem_append_left _ hx)), trodAll_below hl hb hr.2 h2, rfl⟩

/-- What a law that answers true leaves. -/
theorem law_post {f : Func} {s : ChangeSpec} {W W' : World} {args : Array Value} {ds gs : List (DataW H)} {before : List MemPlace} {tb : TypeId}
    (hl : laidOutB P = true) (hp : f.params.toList.all (fun t => P.readableRec t && decide (t < P.types.size)) = true) (hv : s.vars = [])
    (hrt : f.resultTypes = #[tb]) (htb : P.underlying tb = some .bool) (hW : DataW.Whole enc P f.params.toList s.vars false W args.toList ds gs before)
    (hb : Below W.heap.size W W') (hfn : s.fn H (ds ++ gs) = { results := [.lit (.bool true)], args := ds }) : s.post enc P f false true false false W args (.bool true) W' := by
  have hW0 := hW
  obtain ⟨p, q, hA, hV, rfl, hz, hn⟩ := hW0
  rw [hv] at hV
  obtain ⟨rfl, rfl⟩ := trodVars_none hV
  refine ⟨ds, [], _, [], p, [], hW, ?_, ?_, ?_, ?_, fun h => by cases h⟩
  · rw [hfn, hrt]; exact trodAll_cons_mk (shut_bool htb true) trodAll_mk0
  · rw [hfn]; exact trodAll_below hl hb hp hA
  · rw [hfn, hv]; exact rfl
  · refine World.keptBut_mono (fun p hp => ⟨hp, ?_⟩) (hb.frame (· ∈ p ++ []))
    rw [List.append_nil] at hp
    exact .inr (.inl hp)

/-- The heap's part of a call that keeps all that was. -/
theorem below_of {w w' : World} (hf : Fr 0 0 w.heap w'.heap) (hl : Like none w w') : Below w.heap.size w w' :=
  ⟨hl.os, hl.tape, hl.output, hl.size, fun k hk => hf.old k hk (.inr (Nat.zero_le _))⟩

/-! ### Arguments -/
theorem cell?_plain {w : World} {a : Addr} {v : Value} (h : w.cell? a = some v) : a.spot = none := by
  unfold World.cell? at h
  split at h
  · split at h
    · cases h
    · rename_i hs; simpa using hs
  · cases h
theorem addr_plain {a : Addr} (h : a.spot = none) : a = ⟨a.block, a.off, none⟩ := by cases a; simp_all
theorem cell?_add {w : World} {a : Addr} (ha : a.spot = none) (j : Nat) : w.cell? (a.add j) = hcell w.heap a.block (a.off + j) := by
  rw [← cell?_heap]
  unfold Addr.add
  split
  · rename_i h; subst h; rw [Nat.add_zero, ← addr_plain ha]
  · rw [← ha]
theorem rd_of {w : World} {s n c : Nat} {a : Addr} {xs : List Value} (hs : 0 < s) (hl : xs.length = n * s) (hc : ∀ j, j < n * s → ∃ v, xs[j]? = some v ∧ w.cell? (a.add j) = some v) : Rd s w.heap (.slice (some a) n c) n xs := by
  refine ⟨hl, _, _, rfl, ?_⟩
  rcases Nat.eq_zero_or_pos n with h0 | h0
  · exact .inl h0
  · have hp : 0 < n * s := Nat.mul_pos h0 hs
    obtain ⟨v, _, hv⟩ := hc 0 hp
    have ha : a.spot = none := cell?_plain (w := w) (a := a) (by simpa [Addr.add] using hv)
    refine .inr ⟨a.block, a.off, by rw [← addr_plain ha], fun j x hj => ?_⟩
    obtain ⟨v, h1, h2⟩ := hc j (by have := (List.getElem?_eq_some_iff.1 hj).1; omega)
    rw [hj] at h1; cases h1
    rw [← cell?_add ha]; exact h2
theorem wf64 {n : Int} (h : (Lit.int .i64 n).wf = true) : -9223372036854775808 ≤ n ∧ n ≤ 9223372036854775807 := by
  simp only [Lit.wf, Bool.and_eq_true, decide_eq_true_eq] at h
  have e1 : IntKind.i64.min = -9223372036854775808 := by decide
  have e2 : IntKind.i64.max = 9223372036854775807 := by decide
  rw [e1, e2] at h; exact h

variable {w : World} {base : Nat} {held : Bool}
/-- A list of integers that came in. -/
theorem arg_ints {r : Reach} {b0 : Nat} {t e : TypeId} {v : Value} {d : DataW H} {ps : List MemPlace} (ht : P.underlying t = some (.slice e)) (he : P.underlying e = some (.int .i64)) (hc : P.cellsOf e = 1) (hby : P.bytesOf e = 8)
    (hval : Value.okWide P w r b0 t v) (hd : DataW.Trod enc P w base (fun _ => true) held t v d ps) (hw : ∀ x ∈ d.weights P t, x ≤ reachBytes) :
    ∃ l : List Int, Rd 1 w.heap v l.length (intsV l) ∧ l.length ≤ 17592186044416 ∧ ∀ x ∈ l, -9223372036854775808 ≤ x ∧ x ≤ 9223372036854775807 := by
  obtain ⟨a, n, c, rfl⟩ := okWide_slice ht hval
  obtain ⟨fuel, hf⟩ := hd
  rcases open_ints ht he hc hf with ⟨h1, h2⟩ | ⟨a', len, cap, zs, h1, _, hlc, _, hz, hx, hcell, hwf⟩
  · have h1 : [Value.slice a n c] = [.slice none 0 0] := h1
    cases h1
    exact ⟨[], ⟨rfl, _, _, rfl, .inl rfl⟩, by simp, by simp⟩
  · have h1 : [Value.slice a n c] = [.slice (some a') len cap] := h1
    cases h1
    simp only [if_true] at hz
    simp only [Prod.mk.injEq] at hx
    obtain ⟨rfl, rfl⟩ := hx
    have hwt := hw _ (by simp only [DataW.weights, ht]; exact List.mem_cons_self ..)
    simp only [lits, List.length_map, List.length_take, List.length_drop, hby] at hwt
    unfold reachBytes at hwt
    refine ⟨zs.take n, ?_, ?_, fun x hx => wf64 (hwf x (List.mem_of_mem_take hx))⟩
    · have hl : (zs.take n).length = n := by simp; omega
      rw [hl]
      refine rd_of (by omega) (by simp; omega) fun j hj => ?_
      have hj : j < zs.length := by omega
      refine ⟨.int .i64 (zs.getD j 0), ?_, hcell j hj⟩
      have : (zs.take n)[j]? = some (zs.getD j 0) := by
        rw [List.getElem?_take_of_lt (by omega)]; simp [hj]
      exact intsV_get this
    · simp; omega

/-- A list of pairs that came in. -/
theorem arg_pairs {r : Reach} {b0 : Nat} {t e : TypeId} {f0 f1 : Field} {v : Value} {d : DataW H} {ps : List MemPlace} (ht : P.underlying t = some (.slice e)) (he : P.underlying e = some (.struct #[f0, f1])) (ce : P.cellsOf e = 2) (hby : P.bytesOf e = 16)
    (o0 : f0.offset = 0) (o1 : f1.offset = 1) (c0 : P.cellsOf f0.type = 1) (c1 : P.cellsOf f1.type = 1) (u0 : P.underlying f0.type = some (.int .i64)) (u1 : P.underlying f1.type = some (.int .i64))
    (hval : Value.okWide P w r b0 t v) (hd : DataW.Trod enc P w base (fun _ => true) held t v d ps) (hw : ∀ x ∈ d.weights P t, x ≤ reachBytes) :
    ∃ l : List (Int × Int), Rd 2 w.heap v l.length (pairsV l) ∧ l.length ≤ 8796093022208 ∧ ∀ x ∈ l, (-9223372036854775808 ≤ x.1 ∧ x.1 ≤ 9223372036854775807) ∧ -9223372036854775808 ≤ x.2 ∧ x.2 ≤ 9223372036854775807 := by
  obtain ⟨a, n, c, rfl⟩ := okWide_slice ht hval
  obtain ⟨fuel, hf⟩ := hd
  rcases open_slice_pairs ht he ce o0 o1 c0 c1 hf with ⟨h1, h2⟩ | ⟨a', len, cap, m, k, V0, V1, D0, D1, P0, P1, h1, _, hlc, _, hm, hx, hcell⟩
  · have h1 : [Value.slice a n c] = [.slice none 0 0] := h1
    cases h1
    exact ⟨[], ⟨rfl, _, _, rfl, .inl rfl⟩, by simp, by simp⟩
  · have h1 : [Value.slice a n c] = [.slice (some a') len cap] := h1
    cases h1
    simp only [if_true] at hm
    subst hm
    simp only [Prod.mk.injEq] at hx
    obtain ⟨rfl, rfl⟩ := hx
    have hwt := hw _ (by simp only [DataW.weights, ht]; exact List.mem_cons_self ..)
    simp only [List.length_map, List.length_range, hby] at hwt
    unfold reachBytes at hwt
    obtain ⟨Z, hZ⟩ := choose_lt (α := Int × Int) (n := m) (p := fun i z => V0 i = .int .i64 z.1 ∧ V1 i = .int .i64 z.2 ∧ (Lit.int .i64 z.1).wf = true ∧ (Lit.int .i64 z.2).wf = true) (fun i hi => by
      obtain ⟨_, _, g1, g2⟩ := hcell i hi
      obtain ⟨x, hx, _, hxw⟩ := DataW.trod_int u0 g1
      obtain ⟨y, hy, _, hyw⟩ := DataW.trod_int u1 g2
      exact ⟨(x, y), by simpa using hx, by simpa using hy, hxw, hyw⟩)
    have hl : ((List.range n).map Z).length = n := by simp
    refine ⟨(List.range n).map Z, ?_, by rw [hl]; omega, fun x hx => ?_⟩
    · rw [hl]
      refine rd_of (by omega) (by simp) fun j hj => ?_
      obtain ⟨i, hij⟩ : ∃ i, j = i * 2 ∨ j = i * 2 + 1 := ⟨j / 2, by omega⟩
      have hi : i < n := by omega
      have hg : ((List.range n).map Z)[i]? = some (Z i) := by simp [hi]
      obtain ⟨g1, g2⟩ := pairsV_get _ _ _ hg
      obtain ⟨h3, h4, _, _⟩ := hcell i (by omega)
      obtain ⟨h5, h6, _, _⟩ := hZ i (by omega)
      rcases hij with rfl | rfl
      · exact ⟨_, g1, by rw [h3, h5]⟩
      · exact ⟨_, g2, by rw [h4, h6]⟩
    · obtain ⟨i, hi, rfl⟩ := List.mem_map.1 hx
      obtain ⟨_, _, h7, h8⟩ := hZ i (by have := List.mem_range.1 hi; omega)
      exact ⟨wf64 h7, wf64 h8⟩
end
end Go.Vc
