/-
  Contracts of functions that the law reaches: what each returns and what it leaves in memory. Conditions stand in each.
-/
import Derived.Test.YtmilaghhnaoidaaDoorT2
set_option linter.all false
set_option maxRecDepth 2000
/-
  Events, the last one first.
-/
namespace Go.Proofs.Tst
open Go Go.Vc
def backXs (g : Gr) : List (List Value) := (List.range g.n).map fun d => [.int .i64 ((g.n - 1 - d : Nat) : Int), .agg (g.ev (g.n - 1 - d)).cells.toArray]
theorem backXs_get {g : Gr} {d : Nat} (hd : d < g.n) : (backXs g)[d]? = some [.int .i64 ((g.n - 1 - d : Nat) : Int), .agg (g.ev (g.n - 1 - d)).cells.toArray] := by simp [backXs, hd]
theorem backXs_len (g : Gr) : (backXs g).length = g.n := by simp [backXs]
theorem slices_Backward {a : Option Addr} {n c : Nat} {h : Heap} : Con Tryd.prog 51 #[.slice a n c] h fun v h' => Fr 0 0 h h' ∧ v = .func (.func 91) #[] #[.pointer (some ⟨h.size, 0, none⟩)] ∧ Rw h' h.size [.slice a n c] ∧ h'.size = h.size + 1 := by
  refine con_slices_Backward ?_
  simp -dsimp only [go_sem]
  intro b h1 n1
  have r1 := n1.row
  have a1 := n1.at_
  subst a1
  simp -dsimp only [go_sem]
  exact ⟨n1.fr, r1, n1.size⟩
theorem backward_1 {b : Nat} {q : Option Addr} {c : Nat} {g : Gr} (hn : g.n ≤ 4611686018427387904) :
    Iter Tryd.prog 91 #[.pointer (some ⟨b, 0, none⟩)] (backXs g) (fun h => Rw h b [.slice q g.n c] ∧ Rd 5 h (.slice q g.n c) g.n (evsV g.evs)) := by
  refine ⟨by unfold goodF; rw [Tryd.func91]; rfl, fun lo I X hy h hI hC => ?_⟩
  show ConX (some lo) Tryd.prog 91 #[.func (.yield lo) #[] #[], .pointer (some ⟨b, 0, none⟩)] h _
  refine con_slices_Backward_1 ?_
  simp -dsimp only [go_sem, hC.1.cell]
  simp -dsimp (disch := omega) only [wrap64]
  refine loop_intro (fun d : Nat => [(0, .func (.yield lo) #[] #[]), (1, .pointer (some ⟨b, 0, none⟩)), (3, .int .i64 ((g.n : Int) - 1 - d))])
    (fun d h' => d ≤ g.n ∧ (Rw h' b [.slice q g.n c] ∧ Rd 5 h' (.slice q g.n c) g.n (evsV g.evs)) ∧ I d h') (fun d => g.n - d) 0 ?_ ?_ ?_
  · simp [Le, find]
  · exact ⟨by omega, hC, hI⟩
  rintro d h1 ⟨hd, hC1, hI1⟩
  by_cases hlt : d < g.n
  · have e1 : ((g.n : Int) - 1 - d) ≥ 0 := by omega
    have e2 : ((g.n : Int) - 1 - d) = ((g.n - 1 - d : Nat) : Int) := by omega
    have hdx := backXs_get hlt
    have hev := evsV_get (Gr.ev_get (show g.n - 1 - d < g.n by omega))
    rw [e2] at e1 ⊢
    generalize hk : g.n - 1 - d = k at *
    simp -dsimp only [go_sem, e1, hC1.1.cell]
    refine Chk_intro (by omega) (hC1.2.idx (by omega) fun b2 o2 c2 => ?_)
    have k0 : hcell h1 b2 (o2 + k * 5) = some (.int .i64 (g.ev k).thread) := c2 _ _ (by have := hev 0 (by omega); rw [Nat.add_zero] at this; rw [this]; rfl)
    have k1 : hcell h1 b2 (o2 + k * 5 + 1) = some (.int .i64 (g.ev k).kind) := by rw [Nat.add_assoc]; exact c2 _ _ (by rw [hev 1 (by omega)]; rfl)
    have k2 : hcell h1 b2 (o2 + k * 5 + 2) = some (.int .i64 (g.ev k).loc) := by rw [Nat.add_assoc]; exact c2 _ _ (by rw [hev 2 (by omega)]; rfl)
    have k3 : hcell h1 b2 (o2 + k * 5 + 3) = some (.int .u64 (g.ev k).val) := by rw [Nat.add_assoc]; exact c2 _ _ (by rw [hev 3 (by omega)]; rfl)
    have k4 : hcell h1 b2 (o2 + k * 5 + 4) = some (.int .i64 (g.ev k).mode) := by rw [Nat.add_assoc]; exact c2 _ _ (by rw [hev 4 (by omega)]; rfl)
    simp -dsimp only [go_sem, k0, k1, k2, k3, k4]
    refine yld_of (hy d _ _ hdx hI1 hC1) ?_
    rintro v h4 (⟨rfl, hI4, hC4⟩ | ⟨rfl, hX4⟩)
    · simp -dsimp only [go_sem]
      rw [show IntKind.i64.wrap ((k : Int) - 1) = (g.n : Int) - 1 - ((d + 1 : Nat) : Int) by rw [wrap64 (by omega) (by omega)]; omega]
      exact ⟨d + 1, by omega, by simp [Le, find], by omega, hC4, hI4⟩
    · simp -dsimp only [go_sem]
      exact .inr hX4
  · obtain rfl : d = g.n := by omega
    have e1 : ¬ ((g.n : Int) - 1 - (g.n : Int)) ≥ 0 := by omega
    simp -dsimp only [go_sem, e1]
    refine .inl ⟨?_, hC1⟩
    rw [backXs_len]
    exact hI1
/-- A range over the events, from the last one back. -/
theorem back_intro {P' : Program} {asg body : GC} {Q : Post} {e : Env} {h : Heap} {k1 k2 bk : Nat} {q : Option Addr} {c : Nat} {g : Gr} (hP : P' = Tryd.prog) (hn : g.n ≤ 4611686018427387904)
    (h0C : Rw h bk [.slice q g.n c] ∧ Rd 5 h (.slice q g.n c) g.n (evsV g.evs))
    (J : Nat → Heap → Prop) (keep : ∀ d h', J d h' → Rw h' bk [.slice q g.n c] ∧ Rd 5 h' (.slice q g.n c) g.n (evsV g.evs))
    (jext : ∀ i h1 h2, Ext h.size h1 h2 → J i h1 → J i h2) (h0 : J 0 h)
    (step : ∀ d h1, h.size ≤ h1.size → d < g.n → J d h1 →
      vc P' none asg (thenQ (fun e2 h2 => ∀ h2', Ext h.size h2 h2' → vc P' none body (roundQ (fun h3 => J (d + 1) h3) fun _ _ => False) e2 h2') (fun _ _ _ => False)) ((k2, .agg (g.ev (g.n - 1 - d)).cells.toArray) :: (k1, .int .i64 ((g.n - 1 - d : Nat) : Int)) :: e) h1)
    (fin : ∀ h', h.size ≤ h'.size → J g.n h' → Q .normal e h') :
    ∃ (xs : List (List Value)) (C : Heap → Prop) (I : Nat → Heap → Prop) (X : GX → Heap → Prop),
      Iter P' 91 #[.pointer (some ⟨bk, 0, none⟩)] xs C ∧ (∀ x ∈ xs, x.length = [k1, k2].length) ∧
      (∀ h1 h2, Ext h.size h1 h2 → C h1 → C h2) ∧ (∀ i h1 h2, Ext h.size h1 h2 → I i h1 → I i h2) ∧ (∀ x h1 h2, Ext h.size h1 h2 → X x h1 → X x h2) ∧
      I 0 h ∧ C h ∧
      (∀ i x h1, h.size ≤ h1.size → xs[i]? = some x → I i h1 → C h1 → vc P' none asg (thenQ (fun e2 h2 => ∀ h2', Ext h.size h2 h2' → vc P' none body (roundQ (fun h3 => I (i + 1) h3 ∧ C h3) X) e2 h2') (fun _ _ _ => False)) (zipE [k1, k2] x e) h1) ∧
      (∀ h', h.size ≤ h'.size → I xs.length h' → C h' → Q .normal e h') ∧
      (∀ x h', h.size ≤ h'.size → X x h' → x ≠ .normal ∧ Q x e h') := by
  subst hP
  refine ⟨_, _, J, fun _ _ => False, backward_1 (b := bk) (q := q) (c := c) hn, ?_, ?_, jext, fun _ _ _ _ h => h, h0, h0C, ?_, ?_, fun _ _ _ h => h.elim⟩
  · intro x hx; unfold backXs at hx; obtain ⟨d, _, rfl⟩ := List.mem_map.1 hx; rfl
  · rintro h1 h2 x ⟨c1, c2⟩; exact ⟨x.rw c1, x.rd c2⟩
  · rintro d x h1 hs hx hJ hC
    have hd : d < g.n := by have := (List.getElem?_eq_some_iff.1 hx).1; rwa [backXs_len] at this
    rw [backXs_get hd] at hx
    cases hx
    refine vc_mono (fun x e2 h2 h3 => ?_) (step d h1 hs hd hJ)
    cases x with
    | normal =>
      intro h2' x'
      refine vc_mono (fun x e4 h4 h5 => ?_) (h3 h2' x')
      cases x with
      | normal => exact ⟨h5, keep _ _ h5⟩
      | ret => exact h5
      | exit j => exact h5
    | ret => exact h3
    | exit j => exact h3
  · intro h' hs hJ hC
    rw [backXs_len] at hJ
    exact fin h' hs hJ
end Go.Proofs.Tst
/-
  Check.
-/
namespace Go.Proofs.Tst
open Go Go.Vc
def irow (n : Nat) (F : Nat → Int) : List Value := (List.range n).map fun j => .int .i64 (F j)
@[simp] theorem length_irow (n : Nat) (F : Nat → Int) : (irow n F).length = n := by simp [irow]
theorem irow_set {n : Nat} {F : Nat → Int} {j : Nat} {v : Int} : (irow n F).set j (.int .i64 v) = irow n (fun k => if k = j then v else F k) := by
  apply List.ext_getElem?
  intro k
  unfold irow
  rw [List.getElem?_set]
  by_cases hk : j = k
  · subst hk
    by_cases hl : j < n
    · simp [hl]
    · simp [hl]
  · by_cases hl : k < n
    · have : ¬ k = j := fun h => hk h.symm
      simp [hk, hl, this]
    · simp [hk, hl]
theorem irow_ints (n : Nat) (F : Nat → Int) : irow n F = intsV ((List.range n).map F) := by simp [irow, intsV]
/-- What is known of the last event of each thread, of the d last ones. -/
def lastTo (g : Gr) (d : Nat) (x : Int) : Option Value := ((List.range' (g.n - d) d).find? fun j => (g.ev j).thread == x).map fun (j : Nat) => .int .i64 (j : Int)
def nextTo (g : Gr) (d : Nat) (j : Nat) : Int := if g.n - d ≤ j then nextOf g j else 0
theorem lastTo_next {g : Gr} {d : Nat} (hd : d < g.n) (x : Int) : lastTo g (d + 1) x = if x = (g.ev (g.n - 1 - d)).thread then some (.int .i64 ((g.n - 1 - d : Nat) : Int)) else lastTo g d x := by
  unfold lastTo
  have e1 : g.n - (d + 1) = g.n - 1 - d := by omega
  have e2 : g.n - d = (g.n - 1 - d) + 1 := by omega
  rw [e1, e2, List.range'_succ, List.find?_cons]
  by_cases hx : x = (g.ev (g.n - 1 - d)).thread
  · subst hx; simp
  · have : ((g.ev (g.n - 1 - d)).thread == x) = false := by simpa using fun h => hx h.symm
    rw [this, if_neg hx]
theorem nextOf_last {g : Gr} {d : Nat} (hd : d < g.n) : nextOf g (g.n - 1 - d) = if 0 ≤ (g.ev (g.n - 1 - d)).thread then (match (List.range' (g.n - d) d).find? (fun j => (g.ev j).thread == (g.ev (g.n - 1 - d)).thread) with | some j => (j : Int) | none => -1) else -1 := by
  unfold nextOf
  have e1 : g.n - 1 - d + 1 = g.n - d := by omega
  have e2 : g.n - (g.n - d) = d := by omega
  rw [e1, e2]; rfl
theorem nexts_irow (g : Gr) : irow g.n (nextTo g g.n) = intsV (nexts g) := by
  rw [irow_ints]; unfold nexts; congr 1
  apply List.map_congr_left; intro j hj; rw [List.mem_range] at hj
  unfold nextTo; rw [if_pos (by omega)]
theorem sizeF {g : Gr} (h1 : 0 ≤ g.cells) (h2 : g.cells ≤ 4096) (h3 : g.cells ≤ (g.n : Int)) (h4 : g.n ≤ 256) : g.size = true := by
  unfold Gr.size; rw [dec_t h1, dec_t h2, dec_t h3, dec_t h4]; rfl
theorem first_eq (e : Ev) (words : Bool) (i : Nat) : (e.thread == -1 && (e.kind == 2 && (e.loc == (i : Int) && (e.val == 0 && e.mode == if words = true then 11 else 1)))) = (e == Gr.first words i) := by
  rw [Bool.eq_iff_iff]
  simp only [Bool.and_eq_true, beq_iff_eq]
  unfold Gr.first
  constructor
  · rintro ⟨h1, h2, h3, h4, h5⟩
    cases e
    simp only at *
    subst h1 h2 h3 h4 h5
    rfl
  · rintro rfl
    exact ⟨rfl, rfl, rfl, rfl, rfl⟩
theorem kinds1 : (fun k : Int => List.contains [2] k) = (fun k => k == 2) := by funext k; rw [Bool.eq_iff_iff]; simp
theorem kinds2 : (fun k : Int => List.contains [1, 2] k) = (fun k => k == 1 || k == 2) := by funext k; rw [Bool.eq_iff_iff]; simp
theorem kinds3 : (fun k : Int => List.contains [1, 2, 3] k) = (fun k => k == 1 || k == 2 || k == 3) := by funext k; rw [Bool.eq_iff_iff]; simp [or_assoc]
/-- Whatever writes has a cell. -/
theorem write_loc {g : Gr} {words : Bool} (hs : g.size = true) (h1 : ¬ 0 ≤ g.initAt words) (h2 : ¬ 0 ≤ g.evAt words) : ∀ i, i < g.n → (g.ev i).kind = 2 → 0 ≤ (g.ev i).loc := by
  have key : ∀ (f : Nat → Bool) (d i : Nat), ¬ 0 ≤ Gr.firstEv f d i → ∀ j, i ≤ j → j < i + d → f j = false := by
    intro f d
    induction d with
    | zero => intro i _ j h1 h2; omega
    | succ d ih =>
      intro i h j hj1 hj2
      cases hf : f i
      · rw [firstEv_ok hf] at h
        by_cases hji : j = i
        · subst hji; exact hf
        · exact ih (i + 1) h j (by omega) (by omega)
      · rw [firstEv_bad hf] at h; omega
  simp only [Gr.size, Bool.and_eq_true, decide_eq_true_eq] at hs
  obtain ⟨⟨⟨s1, s2⟩, s3⟩, s4⟩ := hs
  intro i hi hk
  by_cases hc : i < g.cells.toNat
  · have := key _ _ _ h1 i (by omega) (by omega)
    simp only [Bool.not_eq_false', beq_iff_eq] at this
    rw [this]; unfold Gr.first; dsimp only; omega
  · have := key _ _ _ h2 i (by omega) (by omega)
    simp only [Bool.not_eq_false'] at this
    unfold Gr.evOk at this
    rw [if_neg (by omega)] at this
    simp only [Bool.and_eq_true, decide_eq_true_eq] at this
    exact this.2.1
theorem graph_Check {h : Heap} {q : GV} {g : Gr} (t : GrAt h q g) (words : Bool) :
    Con Tryd.prog 12 #[.agg (gcells q g).toArray, .bool words] h fun v h' => Fr 0 0 h h' ∧ v = .tuple #[.int .i64 (g.check words).1, .int .i64 (g.check words).2] := by
  refine con_graph_Check (fun v h1 h2 x ⟨f, e⟩ => ⟨x.fr f (Nat.le_refl _), e⟩) ?_
  have hen : g.evs.length = g.n := rfl
  have hfe := t.fits.e
  unfold gcells
  have p0 : Fr 0 0 h h := .refl _ _ _
  have p0_z := p0.size
  simp -dsimp only [go_sem]
  intro b2 h1 n2
  have n2_a := n2.at_
  have n2_z := n2.size
  replace p0 := p0.fresh (n2.fr (lo := 0) (hi := 0)) (by omega)
  have r2 := n2.row
  have t1 := t.fr p0
  by_cases s1 : 0 ≤ g.cells
  rotate_left
  · have e1 : g.cells < 0 := by omega
    simp -dsimp only [go_sem, e1, r2.cell]
    refine ⟨p0, ?_⟩
    have : g.check words = (1, 0) := by unfold Gr.check Gr.size; rw [dec_f s1]; rfl
    rw [this]
  have e1 : ¬ g.cells < 0 := by omega
  by_cases s2 : g.cells ≤ 4096
  rotate_left
  · have e2 : g.cells > 4096 := by omega
    simp -dsimp only [go_sem, e1, e2, r2.cell]
    refine ⟨p0, ?_⟩
    have : g.check words = (1, 0) := by unfold Gr.check Gr.size; rw [dec_f s2, Bool.and_false]; rfl
    rw [this]
  have e2 : ¬ g.cells > 4096 := by omega
  by_cases s3 : g.cells ≤ (g.n : Int)
  rotate_left
  · have e3 : (g.n : Int) < g.cells := by omega
    simp -dsimp only [go_sem, e1, e2, e3, evs_len, r2.cell]
    refine ⟨p0, ?_⟩
    have : g.check words = (1, 0) := by unfold Gr.check Gr.size; rw [dec_f s3, Bool.and_false]; rfl
    rw [this]
  have e3 : ¬ (g.n : Int) < g.cells := by omega
  by_cases s4 : g.n ≤ 256
  rotate_left
  · have e4 : (g.n : Int) > 256 := by omega
    simp -dsimp only [go_sem, e1, e2, e3, e4, evs_len, r2.cell]
    refine ⟨p0, ?_⟩
    have : g.check words = (1, 0) := by unfold Gr.check Gr.size; rw [dec_f s4, Bool.and_false]; rfl
    rw [this]
  have e4 : ¬ (g.n : Int) > 256 := by omega
  have hsz := sizeF s1 s2 s3 s4
  obtain ⟨c, hc⟩ := Int.eq_ofNat_of_zero_le s1
  simp -dsimp only [go_sem, e1, e2, e3, e4, evs_len, r2.cell]
  intro b6 h3 n6
  have n6_a := n6.at_
  have n6_z := n6.size
  replace p0 := p0.fresh (n6.fr (lo := 0) (hi := 0)) (by omega)
  replace r2 := r2.fr (n6.fr (lo := 0) (hi := 0)) (by omega)
  have r6 := n6.row
  simp -dsimp only [go_sem, r2.cell, r6.cell]
  refine Chk_intro (r6.wr (by first | (simp; done) | (simp; omega))) fun h4 s4' => ?_
  have s4'_z := s4'.size
  replace p0 := p0.fresh s4'.fr (by omega)
  replace r2 := r2.fr s4'.fr (by omega)
  replace r6 := s4'.row r6
  try simp only [cl_int, cl_bool, cl_slice, cl_ptr, putAt_one, List.set_cons_zero, List.set_cons_succ, ivec_set, brow_upd] at r6
  simp -dsimp only [go_sem] at r6
  simp -dsimp only [go_sem, r2.cell, r6.cell]
  refine If_joint (fun _ : Unit => [(1, .bool words), (2, .pointer (some ⟨b2, 0, none⟩)), (4, .int .i64 0), (5, .int .i64 0), (6, .pointer (some ⟨b6, 0, none⟩))])
    (fun _ h' => Fr 0 0 h h' ∧ h'.size = h4.size ∧ Rw h' b2 (gcells q g) ∧ Rw h' b6 [.int .i64 (-1), .int .i64 2, .int .i64 0, .int .u64 0, .int .i64 (if words then 11 else 1)]) (fun hw => ?_) (fun hw => ?_) ?_
  · subst hw
    simp -dsimp only [go_sem, r2.cell, r6.cell]
    refine Chk_intro (r6.wr (by first | (simp; done) | (simp; omega))) fun h5 s5 => ?_
    have s5_z := s5.size
    replace p0 := p0.fresh s5.fr (by omega)
    replace r2 := r2.fr s5.fr (by omega)
    replace r6 := s5.row r6
    try simp only [cl_int, cl_bool, cl_slice, cl_ptr, putAt_one, List.set_cons_zero, List.set_cons_succ, ivec_set, brow_upd] at r6
    simp -dsimp only [go_sem, r2.cell, r6.cell]
    exact ⟨(), by simp [Le, find], p0, by omega, r2, r6⟩
  · have hw : words = false := by simpa using hw
    subst hw
    simp -dsimp only [go_sem, r2.cell, r6.cell]
    exact ⟨(), by simp [Le, find], p0, r2, r6⟩
  clear r2 r6 p0 t1
  rintro ⟨⟩ h5 ⟨p0, z5, r2, r6⟩ e ⟨el1, el2, el4, el5, el6, -⟩
  unfold gcells at r2
  have p0_z := p0.size
  have r2_l := r2.lt
  have r6_l := r6.lt
  simp -dsimp only [go_sem, el1, el2, el4, el5, el6, hc, r2.cell, r6.cell]
  refine loop_intro (fun s : Nat × Int => [(1, .bool words), (2, .pointer (some ⟨b2, 0, none⟩)), (4, .int .i64 0), (5, .int .i64 0), (6, .pointer (some ⟨b6, 0, none⟩)), (47, .int .i64 c), (48, .int .i64 s.1)])
    (fun s h' => s.1 ≤ c ∧ Fr 0 0 h h' ∧ h'.size = h5.size ∧ Rw h' b2 (gcells q g) ∧ Rw h' b6 [.int .i64 (-1), .int .i64 2, .int .i64 s.2, .int .u64 0, .int .i64 (if words then 11 else 1)] ∧ g.initAt words = Gr.firstEv (fun c => !(g.ev c == Gr.first words c)) (c - s.1) s.1) (fun s => c - s.1) (0, 0) ?_ ?_ ?_
  · simp [Le, find]
  · exact ⟨by omega, p0, rfl, r2, r6, by unfold Gr.initAt; rw [hc]; rfl⟩
  clear r2 r6 p0
  rintro ⟨i, lv⟩ h6 ⟨hi, p0, z6, r2, r6, hat⟩
  dsimp only at hi r6 hat ⊢
  unfold gcells at r2
  have p0_z := p0.size
  have r2_l := r2.lt
  have r6_l := r6.lt
  by_cases hlt : i < c
  · have f1 : ((i : Int) < (c : Int)) := by omega
    obtain ⟨d, hd⟩ : ∃ d, c - i = d + 1 := ⟨c - i - 1, by omega⟩
    rw [hd] at hat
    have hd2 : d = c - (i + 1) := by omega
    simp -dsimp only [go_sem, f1, r2.cell, r6.cell]
    refine Chk_intro (r6.wr (by first | (simp; done) | (simp; omega))) fun h7 s7 => ?_
    have s7_z := s7.size
    replace p0 := p0.fresh s7.fr (by omega)
    replace r2 := r2.fr s7.fr (by omega)
    replace r6 := s7.row r6
    try simp only [cl_int, cl_bool, cl_slice, cl_ptr, putAt_one, List.set_cons_zero, List.set_cons_succ, ivec_set, brow_upd] at r6
    obtain ⟨eb, eo, he, hev⟩ := t.evs (by omega)
    obtain ⟨c0, c1, c2, c3, c4⟩ := hev h7 p0 i (by omega)
    simp -dsimp only [go_sem, he, evs_len, r2.cell, r6.cell]
    refine Chk_intro (by omega) ?_
    simp -dsimp only [go_sem, c0, c1, c2, c3, c4, r2.cell, r6.cell]
    rw [first_eq]
    cases hb : (g.ev i == Gr.first words i)
    · simp -dsimp only [go_sem, r2.cell, r6.cell]
      refine ⟨p0, ?_⟩
      have hia : g.initAt words = (i : Int) := by rw [hat, firstEv_bad (by rw [hb]; rfl)]
      have : g.check words = (2, (i : Int)) := by unfold Gr.check; rw [hsz, hia, if_neg (by simp), if_pos (by omega)]
      rw [this]
    · simp -dsimp only [go_sem, r2.cell, r6.cell]
      simp -dsimp (disch := omega) only [wrap64]
      exact ⟨(i + 1, i), by omega, by simp [Le, find], by omega, p0, by omega, r2, r6, by rw [hat, firstEv_ok (by rw [hb]; rfl), hd2]⟩
  obtain rfl : i = c := by omega
  rw [Nat.sub_self] at hat
  have hia : ¬ 0 ≤ g.initAt words := by rw [hat]; simp [Gr.firstEv]
  have t6 := t.fr p0
  simp -dsimp only [go_sem, Int.lt_irrefl, r2.cell, r6.cell]
  have hir : List.replicate g.n (Value.int .i64 0) = irow g.n fun _ => 0 := by
    apply List.ext_getElem?; intro k; by_cases hk : k < g.n <;> simp [irow, hk]
  refine rvc_joint (fun s : Nat × Nat × Nat => [(2, .pointer (some ⟨b2, 0, none⟩)), (4, .int .i64 0), (5, .int .i64 0), (8, .pointer (some ⟨s.1, 0, none⟩))])
    (fun s h' => Fr 0 0 h h' ∧ h.size ≤ s.1 ∧ h.size ≤ s.2.1 ∧ h.size ≤ s.2.2 ∧ s.1 ≠ s.2.1 ∧ s.1 ≠ s.2.2 ∧ s.2.1 ≠ s.2.2 ∧ b2 ≠ s.2.2 ∧ Rw h' b2 (gcells q g) ∧ Rw h' s.1 [.pointer (some ⟨s.2.1, 0, none⟩)] ∧
      Rw h' s.2.1 [.int .i64 g.cells, .slice q.e g.evs.length q.ec, .slice q.f g.rf.length q.fc, .slice q.o g.co.length q.oc, .slice q.r g.rmw.length q.rc, .slice q.a g.addr.length q.ac, .slice q.d g.data.length q.dc, .slice q.c g.ctrl.length q.cc, .bool words, .slice (some ⟨s.2.2, 0, none⟩) g.n g.n] ∧
      Rw h' s.2.2 (irow g.n fun _ => 0)) ?_ ?_
  · have p0_z := p0.size
    have r2_l := r2.lt
    simp -dsimp only [go_sem, r_two, evs_len, r2.cell]
    refine ⟨?_, ?_⟩
    · refine Chk_intro (by omega) ?_
      rw [zeros_one, Int.toNat_natCast, hir]
      intro nb h7 n7
      have n7_a := n7.at_
      have n7_z := n7.size
      replace p0 := p0.fresh (n7.fr (lo := 0) (hi := 0)) (by omega)
      replace r2 := r2.fr (n7.fr (lo := 0) (hi := 0)) (by omega)
      have rn := n7.row
      simp -dsimp only [go_sem, r_two, r2.cell, rn.cell]
      refine ⟨?_, ?_⟩
      · intro lb h8 n8
        have n8_a := n8.at_
        have n8_z := n8.size
        replace p0 := p0.fresh (n8.fr (lo := 0) (hi := 0)) (by omega)
        replace r2 := r2.fr (n8.fr (lo := 0) (hi := 0)) (by omega)
        replace rn := rn.fr (n8.fr (lo := 0) (hi := 0)) (by omega)
        have rl := n8.row
        simp -dsimp only [go_sem, r2.cell, rn.cell, rl.cell]
        intro b8 h9 n9
        have n9_a := n9.at_
        have n9_z := n9.size
        replace p0 := p0.fresh (n9.fr (lo := 0) (hi := 0)) (by omega)
        replace r2 := r2.fr (n9.fr (lo := 0) (hi := 0)) (by omega)
        replace rn := rn.fr (n9.fr (lo := 0) (hi := 0)) (by omega)
        replace rl := rl.fr (n9.fr (lo := 0) (hi := 0)) (by omega)
        have r8 := n9.row
        simp -dsimp only [go_sem, r2.cell, rn.cell, rl.cell, r8.cell]
        refine Chk_intro (r8.wr (by first | (simp; done) | (simp; omega))) fun h10 s10 => ?_
        have s10_z := s10.size
        replace p0 := p0.fresh s10.fr (by omega)
        replace r2 := r2.fr s10.fr (by omega)
        replace rn := rn.fr s10.fr (by omega)
        replace rl := rl.fr s10.fr (by omega)
        replace r8 := s10.row r8
        try simp only [cl_int, cl_bool, cl_slice, cl_ptr, putAt_one, List.set_cons_zero, List.set_cons_succ, ivec_set, brow_upd] at r8
        simp -dsimp only [go_sem, r2.cell, rn.cell, rl.cell, r8.cell]
        exact ⟨(b8, lb, nb), by simp [Le, find], p0, by first | omega | (dsimp only; omega), by first | omega | (dsimp only; omega), by first | omega | (dsimp only; omega), by dsimp only; omega, by dsimp only; omega, by dsimp only; omega, by dsimp only; omega, r2, r8, rl, rn⟩
      · intro b8 h8 n8
        have n8_a := n8.at_
        have n8_z := n8.size
        replace p0 := p0.fresh (n8.fr (lo := 0) (hi := 0)) (by omega)
        replace r2 := r2.fr (n8.fr (lo := 0) (hi := 0)) (by omega)
        replace rn := rn.fr (n8.fr (lo := 0) (hi := 0)) (by omega)
        have r8 := n8.row
        simp -dsimp only [go_sem, r2.cell, rn.cell, r8.cell]
        intro lb h9 n9
        have n9_a := n9.at_
        have n9_z := n9.size
        replace p0 := p0.fresh (n9.fr (lo := 0) (hi := 0)) (by omega)
        replace r2 := r2.fr (n9.fr (lo := 0) (hi := 0)) (by omega)
        replace rn := rn.fr (n9.fr (lo := 0) (hi := 0)) (by omega)
        replace r8 := r8.fr (n9.fr (lo := 0) (hi := 0)) (by omega)
        have rl := n9.row
        simp -dsimp only [go_sem, r2.cell, rn.cell, r8.cell, rl.cell]
        refine Chk_intro (r8.wr (by first | (simp; done) | (simp; omega))) fun h10 s10 => ?_
        have s10_z := s10.size
        replace p0 := p0.fresh s10.fr (by omega)
        replace r2 := r2.fr s10.fr (by omega)
        replace rn := rn.fr s10.fr (by omega)
        replace rl := rl.fr s10.fr (by omega)
        replace r8 := s10.row r8
        try simp only [cl_int, cl_bool, cl_slice, cl_ptr, putAt_one, List.set_cons_zero, List.set_cons_succ, ivec_set, brow_upd] at r8
        simp -dsimp only [go_sem, r2.cell, rn.cell, r8.cell, rl.cell]
        exact ⟨(b8, lb, nb), by simp [Le, find], p0, by first | omega | (dsimp only; omega), by first | omega | (dsimp only; omega), by first | omega | (dsimp only; omega), by dsimp only; omega, by dsimp only; omega, by dsimp only; omega, by dsimp only; omega, r2, r8, rl, rn⟩
    · intro b8 h7 n7
      have n7_a := n7.at_
      have n7_z := n7.size
      replace p0 := p0.fresh (n7.fr (lo := 0) (hi := 0)) (by omega)
      replace r2 := r2.fr (n7.fr (lo := 0) (hi := 0)) (by omega)
      have r8 := n7.row
      simp -dsimp only [go_sem, evs_len, r2.cell, r8.cell]
      refine Chk_intro (by omega) ?_
      rw [zeros_one, Int.toNat_natCast, hir]
      intro nb h8 n8
      have n8_a := n8.at_
      have n8_z := n8.size
      replace p0 := p0.fresh (n8.fr (lo := 0) (hi := 0)) (by omega)
      replace r2 := r2.fr (n8.fr (lo := 0) (hi := 0)) (by omega)
      replace r8 := r8.fr (n8.fr (lo := 0) (hi := 0)) (by omega)
      have rn := n8.row
      simp -dsimp only [go_sem, r2.cell, r8.cell, rn.cell]
      intro lb h9 n9
      have n9_a := n9.at_
      have n9_z := n9.size
      replace p0 := p0.fresh (n9.fr (lo := 0) (hi := 0)) (by omega)
      replace r2 := r2.fr (n9.fr (lo := 0) (hi := 0)) (by omega)
      replace r8 := r8.fr (n9.fr (lo := 0) (hi := 0)) (by omega)
      replace rn := rn.fr (n9.fr (lo := 0) (hi := 0)) (by omega)
      have rl := n9.row
      simp -dsimp only [go_sem, r2.cell, r8.cell, rn.cell, rl.cell]
      refine Chk_intro (r8.wr (by first | (simp; done) | (simp; omega))) fun h10 s10 => ?_
      have s10_z := s10.size
      replace p0 := p0.fresh s10.fr (by omega)
      replace r2 := r2.fr s10.fr (by omega)
      replace rn := rn.fr s10.fr (by omega)
      replace rl := rl.fr s10.fr (by omega)
      replace r8 := s10.row r8
      try simp only [cl_int, cl_bool, cl_slice, cl_ptr, putAt_one, List.set_cons_zero, List.set_cons_succ, ivec_set, brow_upd] at r8
      simp -dsimp only [go_sem, r2.cell, r8.cell, rn.cell, rl.cell]
      exact ⟨(b8, lb, nb), by simp [Le, find], p0, by first | omega | (dsimp only; omega), by first | omega | (dsimp only; omega), by first | omega | (dsimp only; omega), by dsimp only; omega, by dsimp only; omega, by dsimp only; omega, by dsimp only; omega, r2, r8, rl, rn⟩
  clear r2 r6 p0 t6
  rintro ⟨b8, lb, nb⟩ h7 ⟨p0, k1, k2, k3, k4, k5, k6, k7, r2, r8, rl, rn⟩ e ⟨el2, el4, el5, el8, -⟩
  dsimp only at k1 k2 k3 k4 k5 k6 k7 r8 rl rn el8
  unfold gcells at r2
  have p0_z := p0.size
  have r2_l := r2.lt
  have r8_l := r8.lt
  have rl_l := rl.lt
  have rn_l := rn.lt
  simp -dsimp only [go_sem, el2, el4, el5, el8, r2.cell, r8.cell, rl.cell, rn.cell]
  intro b3 h8 n8
  have z8 := n8.size
  have a8 := n8.at_
  have M1 := n8.mapF
  have f8 : Fr 0 0 h7 h8 := n8.fr
  have f8_z := f8.size
  replace p0 := p0.fresh f8 (by omega)
  replace r2 := r2.fr f8 (by omega)
  replace r8 := r8.fr f8 (by omega)
  replace rl := rl.fr f8 (by omega)
  replace rn := rn.fr f8 (by omega)
  simp -dsimp only [go_sem, r2.cell, r8.cell, rl.cell, rn.cell]
  intro b9 h9 n9
  have n9_a := n9.at_
  have n9_z := n9.size
  replace p0 := p0.fresh (n9.fr (lo := 0) (hi := 0)) (by omega)
  replace r2 := r2.fr (n9.fr (lo := 0) (hi := 0)) (by omega)
  replace r8 := r8.fr (n9.fr (lo := 0) (hi := 0)) (by omega)
  replace rl := rl.fr (n9.fr (lo := 0) (hi := 0)) (by omega)
  replace rn := rn.fr (n9.fr (lo := 0) (hi := 0)) (by omega)
  have r9 := n9.row
  replace M1 := M1.fr (n9.fr (lo := 0) (hi := 0)) (by omega)
  simp -dsimp only [go_sem, r2.cell, r8.cell, rl.cell, rn.cell, r9.cell]
  refine Chk_intro (r9.wr (by first | (simp; done) | (simp; omega))) fun h10 s10 => ?_
  have s10_z := s10.size
  replace p0 := p0.fresh s10.fr (by omega)
  replace r2 := r2.fr s10.fr (by omega)
  replace r8 := r8.fr s10.fr (by omega)
  replace rl := rl.fr s10.fr (by omega)
  replace rn := rn.fr s10.fr (by omega)
  replace r9 := s10.row r9
  try simp only [cl_int, cl_bool, cl_slice, cl_ptr, putAt_one, List.set_cons_zero, List.set_cons_succ, ivec_set, brow_upd] at r9
  replace M1 := M1.fr s10.fr (by omega)
  simp -dsimp only [go_sem, r2.cell, r8.cell, rl.cell, rn.cell, r9.cell]
  refine call_of (slices_Backward) ?_
  rintro v11 h11 ⟨f11, rfl, rk, z11⟩
  have f11_z := f11.size
  replace p0 := p0.fresh f11 (by omega)
  replace r2 := r2.fr f11 (by omega)
  replace r8 := r8.fr f11 (by omega)
  replace rl := rl.fr f11 (by omega)
  replace rn := rn.fr f11 (by omega)
  replace r9 := r9.fr f11 (by omega)
  have M1l := M1.lt
  replace M1 := M1.fr f11 (by omega)
  generalize hbk : h10.size = bk at rk
  have rl_k := rk.lt
  have t11 := t.fr p0
  rw [hen] at rk
  simp -dsimp only [go_sem, r2.cell, r8.cell, rl.cell, rn.cell, r9.cell]
  refine ⟨rfl, back_intro rfl (by omega) ⟨rk, t11.e⟩
    (fun d h' => Fr 0 0 h h' ∧ h11.size ≤ h'.size ∧ Rw h' b2 (gcells q g) ∧ Rw h' b8 [.pointer (some ⟨lb, 0, none⟩)] ∧ Rw h' lb [.int .i64 g.cells, .slice q.e g.evs.length q.ec, .slice q.f g.rf.length q.fc, .slice q.o g.co.length q.oc, .slice q.r g.rmw.length q.rc, .slice q.a g.addr.length q.ac, .slice q.d g.data.length q.dc, .slice q.c g.ctrl.length q.cc, .bool words, .slice (some ⟨nb, 0, none⟩) g.n g.n] ∧
      Rw h' nb (irow g.n (nextTo g d)) ∧ Rw h' b9 [.map (some b3)] ∧ MapF h' b3 (lastTo g d) ∧ Rw h' bk [.slice q.e g.n q.ec]) ?_ ?_ ?_ ?_ ?_⟩
  · rintro d h' ⟨q0, -, -, -, -, -, -, -, q8⟩; exact ⟨q8, (t.fr q0).e⟩
  · rintro d h2 h3 x ⟨q0, q1, q2, q3, q4, q5, q6, q7, q8⟩; exact ⟨x.fr q0 (by omega), Nat.le_trans q1 x.size, x.rw q2, x.rw q3, x.rw q4, x.rw q5, x.rw q6, x.mapF q7, x.rw q8⟩
  · refine ⟨p0, by omega, r2, r8, rl, ?_, r9, M1.congr fun x => by unfold lastTo; simp, rk⟩
    have : irow g.n (nextTo g 0) = irow g.n fun _ => 0 := by
      unfold irow; apply List.map_congr_left; intro j hj; rw [List.mem_range] at hj; unfold nextTo; rw [if_neg (by omega)]
    rw [this]; exact rn
  · clear r2 r8 rl rn r9 M1 rk p0 t11
    rintro d h12 z12 hd ⟨p0, y12, r2, r8, rl, rn, r9, M1, rk⟩
    unfold gcells at r2
    have e5 := nextOf_last hd
    have e6 := lastTo_next hd
    obtain ⟨k, hk⟩ : ∃ k, k = g.n - 1 - d := ⟨_, rfl⟩
    rw [← hk] at e5 e6 ⊢
    unfold Ev.cells
    have p0_z := p0.size
    have r2_l := r2.lt
    have r8_l := r8.lt
    have rl_l := rl.lt
    have rn_l := rn.lt
    have r9_l := r9.lt
    have rk_l := rk.lt
    simp -dsimp only [go_sem, r2.cell, r8.cell, rl.cell, rn.cell, r9.cell, rk.cell]
    intro b11 h13 n13
    have n13_a := n13.at_
    have n13_z := n13.size
    replace p0 := p0.fresh (n13.fr (lo := 0) (hi := 0)) (by omega)
    replace r2 := r2.fr (n13.fr (lo := 0) (hi := 0)) (by omega)
    replace r8 := r8.fr (n13.fr (lo := 0) (hi := 0)) (by omega)
    replace rl := rl.fr (n13.fr (lo := 0) (hi := 0)) (by omega)
    replace rn := rn.fr (n13.fr (lo := 0) (hi := 0)) (by omega)
    replace r9 := r9.fr (n13.fr (lo := 0) (hi := 0)) (by omega)
    replace rk := rk.fr (n13.fr (lo := 0) (hi := 0)) (by omega)
    have r11 := n13.row
    replace M1 := M1.fr (n13.fr (lo := 0) (hi := 0)) (by omega)
    simp -dsimp only [go_sem, r2.cell, r8.cell, rl.cell, rn.cell, r9.cell, rk.cell, r11.cell]
    refine Chk_intro (r11.wr (by first | (simp; done) | (simp; omega))) fun h14 s14 => ?_
    have s14_z := s14.size
    replace p0 := p0.fresh s14.fr (by omega)
    replace r2 := r2.fr s14.fr (by omega)
    replace r8 := r8.fr s14.fr (by omega)
    replace rl := rl.fr s14.fr (by omega)
    replace rn := rn.fr s14.fr (by omega)
    replace r9 := r9.fr s14.fr (by omega)
    replace rk := rk.fr s14.fr (by omega)
    replace r11 := s14.row r11
    try simp only [cl_int, cl_bool, cl_slice, cl_ptr, putAt_one, List.set_cons_zero, List.set_cons_succ, ivec_set, brow_upd] at r11
    simp -dsimp only [go_sem] at r11
    have M1l2 := M1.lt
    replace M1 := M1.fr s14.fr (by omega)
    simp -dsimp only [go_sem, r2.cell, r8.cell, rl.cell, rn.cell, r9.cell, rk.cell, r11.cell]
    intro h15 x15
    have x15_z := x15.size
    replace p0 := p0.ext x15 (by omega)
    replace r2 := r2.ext x15
    replace r8 := r8.ext x15
    replace rl := rl.ext x15
    replace rn := rn.ext x15
    replace r9 := r9.ext x15
    replace rk := rk.ext x15
    replace r11 := r11.ext x15
    replace M1 := x15.mapF M1
    simp -dsimp only [go_sem, r2.cell, r8.cell, rl.cell, rn.cell, r9.cell, rk.cell, r11.cell]
    refine Chk_intro (by omega) ?_
    simp -dsimp only [go_sem, r2.cell, r8.cell, rl.cell, rn.cell, r9.cell, rk.cell, r11.cell]
    refine Chk_intro (rn.wr (by first | (simp; done) | (simp; omega))) fun h16 s16 => ?_
    have s16_z := s16.size
    replace p0 := p0.fresh s16.fr (by omega)
    replace r2 := r2.fr s16.fr (by omega)
    replace r8 := r8.fr s16.fr (by omega)
    replace rl := rl.fr s16.fr (by omega)
    replace r9 := r9.fr s16.fr (by omega)
    replace rk := rk.fr s16.fr (by omega)
    replace r11 := r11.fr s16.fr (by omega)
    replace rn := s16.row rn
    try simp only [cl_int, cl_bool, cl_slice, cl_ptr, putAt_one, List.set_cons_zero, List.set_cons_succ, ivec_set, brow_upd] at rn
    replace M1 := M1.fr s16.fr (by omega)
    rw [irow_set] at rn
    simp -dsimp only [go_sem, r2.cell, r8.cell, rl.cell, rn.cell, r9.cell, rk.cell, r11.cell]
    refine M1.look1 (z := .int .i64 0) (n := (g.ev k).thread) fun mm hm1 hm2 => ?_
    have hlast : lastTo g d (g.ev k).thread = ((List.range' (g.n - d) d).find? fun j => (g.ev j).thread == (g.ev k).thread).map fun (j : Nat) => .int .i64 (j : Int) := rfl
    rw [hlast] at hm1 hm2
    have fin : ∀ (F : Nat → Int) (h' : Heap), (∀ j, j < g.n → F j = nextTo g (d + 1) j) → irow g.n F = irow g.n (nextTo g (d + 1)) := fun F _ hF => by
      unfold irow; apply List.map_congr_left; intro j hj; rw [List.mem_range] at hj; rw [hF j hj]
    have hne : ∀ j, j < g.n → j ≠ k → nextTo g (d + 1) j = nextTo g d j := fun j hj hjk => by
      unfold nextTo
      by_cases h1 : g.n - d ≤ j
      · rw [if_pos h1, if_pos (by omega)]
      · rw [if_neg h1, if_neg (by omega)]
    have hek : nextTo g (d + 1) k = nextOf g k := by unfold nextTo; rw [if_pos (by omega)]
    -- the event is put down
    cases hf : (List.range' (g.n - d) d).find? (fun j => (g.ev j).thread == (g.ev k).thread) with
    | none =>
      rw [hf] at hm1 hm2 e5
      have hm1 : mget (.int .i64 0) mm (g.ev k).thread = .int .i64 0 := hm1
      have hm2 : mhas mm (g.ev k).thread = false := hm2
      have hnx : nextOf g k = -1 := by rw [e5]; split <;> rfl
      simp -dsimp only [go_sem, hm1, hm2, r2.cell, r8.cell, rl.cell, rn.cell, r9.cell, rk.cell, r11.cell]
      refine M1.set fun h17 M2 f17 z17 => ?_
      have f17_z := f17.size
      replace p0 := p0.fresh f17 (by omega)
      replace r2 := r2.fr f17 (by omega)
      replace r8 := r8.fr f17 (by omega)
      replace rl := rl.fr f17 (by omega)
      replace rn := rn.fr f17 (by omega)
      replace r9 := r9.fr f17 (by omega)
      replace rk := rk.fr f17 (by omega)
      replace r11 := r11.fr f17 (by omega)
      simp -dsimp only [go_sem, r2.cell, r8.cell, rl.cell, rn.cell, r9.cell, rk.cell, r11.cell]
      refine ⟨p0, by omega, r2, r8, rl, ?_, r9, M2.congr fun x => ?_, rk⟩
      · rw [← fin _ h16 fun j hj => ?_]; exact rn
        by_cases hjk : j = k
        · rw [if_pos hjk, hjk, hek, hnx]
        · rw [if_neg hjk, hne j hj hjk]
      · rw [e6]
    | some w =>
      rw [hf] at hm1 hm2 e5
      have hm1 : mget (.int .i64 0) mm (g.ev k).thread = .int .i64 (w : Int) := hm1
      have hm2 : mhas mm (g.ev k).thread = true := hm2
      by_cases ht : (g.ev k).thread ≥ 0
      · have hnx : nextOf g k = (w : Int) := by rw [e5, if_pos ht]
        simp -dsimp only [go_sem, hm1, hm2, ht, r2.cell, r8.cell, rl.cell, rn.cell, r9.cell, rk.cell, r11.cell]
        refine Chk_intro (by omega) ?_
        simp -dsimp only [go_sem, r2.cell, r8.cell, rl.cell, rn.cell, r9.cell, rk.cell, r11.cell]
        refine Chk_intro (rn.wr (by first | (simp; done) | (simp; omega))) fun h17 s17 => ?_
        have s17_z := s17.size
        replace p0 := p0.fresh s17.fr (by omega)
        replace r2 := r2.fr s17.fr (by omega)
        replace r8 := r8.fr s17.fr (by omega)
        replace rl := rl.fr s17.fr (by omega)
        replace r9 := r9.fr s17.fr (by omega)
        replace rk := rk.fr s17.fr (by omega)
        replace r11 := r11.fr s17.fr (by omega)
        replace rn := s17.row rn
        try simp only [cl_int, cl_bool, cl_slice, cl_ptr, putAt_one, List.set_cons_zero, List.set_cons_succ, ivec_set, brow_upd] at rn
        replace M1 := M1.fr s17.fr (by omega)
        rw [irow_set] at rn
        simp -dsimp only [go_sem, r2.cell, r8.cell, rl.cell, rn.cell, r9.cell, rk.cell, r11.cell]
        refine M1.set fun h18 M2 f18 z18 => ?_
        have f18_z := f18.size
        replace p0 := p0.fresh f18 (by omega)
        replace r2 := r2.fr f18 (by omega)
        replace r8 := r8.fr f18 (by omega)
        replace rl := rl.fr f18 (by omega)
        replace rn := rn.fr f18 (by omega)
        replace r9 := r9.fr f18 (by omega)
        replace rk := rk.fr f18 (by omega)
        replace r11 := r11.fr f18 (by omega)
        simp -dsimp only [go_sem, r2.cell, r8.cell, rl.cell, rn.cell, r9.cell, rk.cell, r11.cell]
        refine ⟨p0, by omega, r2, r8, rl, ?_, r9, M2.congr fun x => ?_, rk⟩
        · rw [← fin _ h16 fun j hj => ?_]; exact rn
          by_cases hjk : j = k
          · rw [if_pos hjk, hjk, hek, hnx]
          · rw [if_neg hjk, if_neg hjk, hne j hj hjk]
        · rw [e6]
      · have hnx : nextOf g k = -1 := by rw [e5, if_neg ht]
        simp -dsimp only [go_sem, hm1, hm2, ht, r2.cell, r8.cell, rl.cell, rn.cell, r9.cell, rk.cell, r11.cell]
        refine M1.set fun h17 M2 f17 z17 => ?_
        have f17_z := f17.size
        replace p0 := p0.fresh f17 (by omega)
        replace r2 := r2.fr f17 (by omega)
        replace r8 := r8.fr f17 (by omega)
        replace rl := rl.fr f17 (by omega)
        replace rn := rn.fr f17 (by omega)
        replace r9 := r9.fr f17 (by omega)
        replace rk := rk.fr f17 (by omega)
        replace r11 := r11.fr f17 (by omega)
        simp -dsimp only [go_sem, r2.cell, r8.cell, rl.cell, rn.cell, r9.cell, rk.cell, r11.cell]
        refine ⟨p0, by omega, r2, r8, rl, ?_, r9, M2.congr fun x => ?_, rk⟩
        · rw [← fin _ h16 fun j hj => ?_]; exact rn
          by_cases hjk : j = k
          · rw [if_pos hjk, hjk, hek, hnx]
          · rw [if_neg hjk, hne j hj hjk]
        · rw [e6]
  · clear r2 r8 rl rn r9 M1 rk p0 t11 M1l
    rintro h17 z17 ⟨p0, y17, r2, r8, rl, rn, r9, -, -⟩
    unfold gcells at r2
    have tl : LookAt h17 lb q g words (.slice (some ⟨nb, 0, none⟩) g.n g.n) := ⟨rl, t.fr p0⟩
    have tnx : Rd 1 h17 (.slice (some ⟨nb, 0, none⟩) g.n g.n) g.n (intsV (nexts g)) := by
      rw [nexts_irow] at rn
      exact ⟨by simp [nexts], _, _, rfl, .inr ⟨nb, 0, rfl, fun j x hj => by rw [rn.cell, Nat.zero_add, hj]⟩⟩
    have hchk : g.check words = if 0 ≤ g.evAt words then (3, g.evAt words) else if 0 ≤ g.rfAt then (4, g.rfAt) else if 0 ≤ g.coAt then (5, g.coAt) else if 0 ≤ g.rmwAt then (6, g.rmwAt)
      else if 0 ≤ g.depAt words g.addr (fun k => k == 1 || k == 2) then (7, g.depAt words g.addr (fun k => k == 1 || k == 2))
      else if 0 ≤ g.depAt words g.data (fun k => k == 2) then (8, g.depAt words g.data (fun k => k == 2))
      else if 0 ≤ g.depAt words g.ctrl (fun k => k == 1 || k == 2 || k == 3) then (9, g.depAt words g.ctrl (fun k => k == 1 || k == 2 || k == 3)) else (0, 0) := by
      unfold Gr.check; rw [hsz, if_neg (by simp), if_neg hia]
    clear rn r9
    have pz : Fr 0 0 h17 h17 := .refl _ _ _
    have p0_z := p0.size
    have pz_z := pz.size
    have r2_l := r2.lt
    have r8_l := r8.lt
    simp -dsimp only [go_sem, r2.cell, r8.cell]
    refine call_of (graph_look_events (tl.fr pz) hsz) ?_
    rintro v18 h18 ⟨f18, rfl⟩
    have f18_z := f18.size
    replace p0 := p0.fresh f18 (by omega)
    replace pz := pz.fresh f18 (by omega)
    replace r2 := r2.fr f18 (by omega)
    replace r8 := r8.fr f18 (by omega)
    by_cases c18 : 0 ≤ g.evAt words
    · rw [if_pos c18] at hchk
      have c18' : g.evAt words ≥ 0 := c18
      simp -dsimp only [go_sem, c18', r2.cell, r8.cell]
      exact ⟨p0, by rw [hchk]⟩
    rw [if_neg c18] at hchk
    have c18' : ¬ g.evAt words ≥ 0 := c18
    simp -dsimp only [go_sem, c18', r2.cell, r8.cell]
    refine call_of (graph_look_rf (tl.fr pz)) ?_
    rintro v19 h19 ⟨f19, rfl⟩
    have f19_z := f19.size
    replace p0 := p0.fresh f19 (by omega)
    replace pz := pz.fresh f19 (by omega)
    replace r2 := r2.fr f19 (by omega)
    replace r8 := r8.fr f19 (by omega)
    by_cases c19 : 0 ≤ g.rfAt
    · rw [if_pos c19] at hchk
      have c19' : g.rfAt ≥ 0 := c19
      simp -dsimp only [go_sem, c19', r2.cell, r8.cell]
      exact ⟨p0, by rw [hchk]⟩
    rw [if_neg c19] at hchk
    have c19' : ¬ g.rfAt ≥ 0 := c19
    simp -dsimp only [go_sem, c19', r2.cell, r8.cell]
    refine call_of (graph_look_co (tl.fr pz) s1 (write_loc hsz hia c18)) ?_
    rintro v20 h20 ⟨f20, rfl⟩
    have f20_z := f20.size
    replace p0 := p0.fresh f20 (by omega)
    replace pz := pz.fresh f20 (by omega)
    replace r2 := r2.fr f20 (by omega)
    replace r8 := r8.fr f20 (by omega)
    by_cases c20 : 0 ≤ g.coAt
    · rw [if_pos c20] at hchk
      have c20' : g.coAt ≥ 0 := c20
      simp -dsimp only [go_sem, c20', r2.cell, r8.cell]
      exact ⟨p0, by rw [hchk]⟩
    rw [if_neg c20] at hchk
    have c20' : ¬ g.coAt ≥ 0 := c20
    simp -dsimp only [go_sem, c20', r2.cell, r8.cell]
    refine call_of (graph_look_rmw (tl.fr pz) (tnx.fr pz)) ?_
    rintro v21 h21 ⟨f21, rfl⟩
    have f21_z := f21.size
    replace p0 := p0.fresh f21 (by omega)
    replace pz := pz.fresh f21 (by omega)
    replace r2 := r2.fr f21 (by omega)
    replace r8 := r8.fr f21 (by omega)
    by_cases c21 : 0 ≤ g.rmwAt
    · rw [if_pos c21] at hchk
      have c21' : g.rmwAt ≥ 0 := c21
      simp -dsimp only [go_sem, c21', r2.cell, r8.cell]
      exact ⟨p0, by rw [hchk]⟩
    rw [if_neg c21] at hchk
    have c21' : ¬ g.rmwAt ≥ 0 := c21
    simp -dsimp only [go_sem, c21', r2.cell, r8.cell]
    intro bx22 hx22 nx22
    have nx22_a := nx22.at_
    have nx22_z := nx22.size
    replace p0 := p0.fresh (nx22.fr (lo := 0) (hi := 0)) (by omega)
    replace pz := pz.fresh (nx22.fr (lo := 0) (hi := 0)) (by omega)
    replace r2 := r2.fr (nx22.fr (lo := 0) (hi := 0)) (by omega)
    replace r8 := r8.fr (nx22.fr (lo := 0) (hi := 0)) (by omega)
    simp -dsimp only [go_sem, r2.cell, r8.cell]
    refine call_of (graph_look_deps (ks := [1, 2]) (tl.fr pz) (t.fr p0).a t.fits.a (Rd.of_new (n := 2) (s := 1) nx22 rfl) (by decide)) ?_
    rintro v22 h22 ⟨f22, rfl⟩
    have f22_z := f22.size
    replace p0 := p0.fresh f22 (by omega)
    replace pz := pz.fresh f22 (by omega)
    replace r2 := r2.fr f22 (by omega)
    replace r8 := r8.fr f22 (by omega)
    rw [show (fun k : Int => List.contains [1, 2] k) = (fun k : Int => k == 1 || k == 2) from kinds2] 
    generalize hd22 : g.depAt words g.addr (fun k : Int => k == 1 || k == 2) = x22 at *
    by_cases c22 : 0 ≤ x22
    · rw [if_pos c22] at hchk
      have c22' : x22 ≥ 0 := c22
      simp -dsimp only [go_sem, c22', r2.cell, r8.cell]
      exact ⟨p0, by rw [hchk]⟩
    rw [if_neg c22] at hchk
    have c22' : ¬ x22 ≥ 0 := c22
    simp -dsimp only [go_sem, c22', r2.cell, r8.cell]
    intro bx23 hx23 nx23
    have nx23_a := nx23.at_
    have nx23_z := nx23.size
    replace p0 := p0.fresh (nx23.fr (lo := 0) (hi := 0)) (by omega)
    replace pz := pz.fresh (nx23.fr (lo := 0) (hi := 0)) (by omega)
    replace r2 := r2.fr (nx23.fr (lo := 0) (hi := 0)) (by omega)
    replace r8 := r8.fr (nx23.fr (lo := 0) (hi := 0)) (by omega)
    simp -dsimp only [go_sem, r2.cell, r8.cell]
    refine call_of (graph_look_deps (ks := [2]) (tl.fr pz) (t.fr p0).d t.fits.d (Rd.of_new (n := 1) (s := 1) nx23 rfl) (by decide)) ?_
    rintro v23 h23 ⟨f23, rfl⟩
    have f23_z := f23.size
    replace p0 := p0.fresh f23 (by omega)
    replace pz := pz.fresh f23 (by omega)
    replace r2 := r2.fr f23 (by omega)
    replace r8 := r8.fr f23 (by omega)
    rw [show (fun k : Int => List.contains [2] k) = (fun k : Int => k == 2) from kinds1] 
    generalize hd23 : g.depAt words g.data (fun k : Int => k == 2) = x23 at *
    by_cases c23 : 0 ≤ x23
    · rw [if_pos c23] at hchk
      have c23' : x23 ≥ 0 := c23
      simp -dsimp only [go_sem, c23', r2.cell, r8.cell]
      exact ⟨p0, by rw [hchk]⟩
    rw [if_neg c23] at hchk
    have c23' : ¬ x23 ≥ 0 := c23
    simp -dsimp only [go_sem, c23', r2.cell, r8.cell]
    intro bx24 hx24 nx24
    have nx24_a := nx24.at_
    have nx24_z := nx24.size
    replace p0 := p0.fresh (nx24.fr (lo := 0) (hi := 0)) (by omega)
    replace pz := pz.fresh (nx24.fr (lo := 0) (hi := 0)) (by omega)
    replace r2 := r2.fr (nx24.fr (lo := 0) (hi := 0)) (by omega)
    replace r8 := r8.fr (nx24.fr (lo := 0) (hi := 0)) (by omega)
    simp -dsimp only [go_sem, r2.cell, r8.cell]
    refine call_of (graph_look_deps (ks := [1, 2, 3]) (tl.fr pz) (t.fr p0).c t.fits.c (Rd.of_new (n := 3) (s := 1) nx24 rfl) (by decide)) ?_
    rintro v24 h24 ⟨f24, rfl⟩
    have f24_z := f24.size
    replace p0 := p0.fresh f24 (by omega)
    replace pz := pz.fresh f24 (by omega)
    replace r2 := r2.fr f24 (by omega)
    replace r8 := r8.fr f24 (by omega)
    rw [show (fun k : Int => List.contains [1, 2, 3] k) = (fun k : Int => k == 1 || k == 2 || k == 3) from kinds3] 
    generalize hd24 : g.depAt words g.ctrl (fun k : Int => k == 1 || k == 2 || k == 3) = x24 at *
    by_cases c24 : 0 ≤ x24
    · rw [if_pos c24] at hchk
      have c24' : x24 ≥ 0 := c24
      simp -dsimp only [go_sem, c24', r2.cell, r8.cell]
      exact ⟨p0, by rw [hchk]⟩
    rw [if_neg c24] at hchk
    have c24' : ¬ x24 ≥ 0 := c24
    simp -dsimp only [go_sem, c24', r2.cell, r8.cell]
    exact ⟨p0, by rw [hchk]⟩
end Go.Proofs.Tst
/-
  The document's answer: modes, events, kinds, po.
-/
namespace Go.Proofs.Tst
open Go Go.Vc
end Go.Proofs.Tst
/-
  The document's answer: rule 4.
-/
namespace Go.Proofs.Tst
open Go Go.Vc
end Go.Proofs.Tst
/-
  The document's answer: rule 6.
-/
namespace Go.Proofs.Tst
open Go Go.Vc
end Go.Proofs.Tst
/-
  The document's answer: rules 7 to 9.
-/
namespace Go.Proofs.Tst
open Go Go.Vc
end Go.Proofs.Tst
/-
  The document's answer: rule 5.
-/
namespace Go.Proofs.Tst
open Go Go.Vc
theorem rl_at {h : Heap} {q : Option Addr} {n c : Nat} {L : List (List Int)} (t : RL h (.slice q n c) (L.map intsV)) : ∀ i, i < L.length → ∃ ob oo, q = some ⟨ob, oo, none⟩ ∧ ∃ la lc, ∀ h', Fr 0 0 h h' →
    hcell h' ob (oo + i) = some (.slice la (L.getD i []).length lc) ∧ Rd 1 h' (.slice la (L.getD i []).length lc) (L.getD i []).length (intsV (L.getD i [])) := by
  obtain ⟨us, h1, h2⟩ := t
  intro i hi
  have hl : (L.map intsV)[i]? = some (intsV (L.getD i [])) := by simp [hi]
  obtain ⟨w, hw, hr⟩ := h2 i _ hl
  rw [length_intsV] at hr
  obtain ⟨la, lc, rfl⟩ := hr.is
  obtain ⟨hlen, a, c', e1, e2⟩ := h1
  cases e1
  rcases e2 with e2 | ⟨ob, oo, rfl, hc⟩
  · rw [List.length_map] at e2; omega
  · exact ⟨ob, oo, rfl, la, lc, fun h' f => ⟨f.keep (hc i _ hw) (by omega), hr.fr f⟩⟩
end Go.Proofs.Tst
/-
  The document's Check: plain.
-/
namespace Go.Proofs.Tst
open Go Go.Vc
end Go.Proofs.Tst
/-
  Is a graph well-formed? Both ask so.
-/
namespace Go.Proofs.Tst
open Go Go.Vc
theorem graph_good {h : Heap} {q : GV} {g : Gr} (t : GrAt h q g) : Con Tryd.prog 63 #[.agg (gcells q g).toArray] h fun v h' => Fr 0 0 h h' ∧ v = .bool g.good := by
  refine con_graph_good ?_
  have p0 : Fr 0 0 h h := .refl _ _ _
  unfold gcells
  simp -dsimp only [go_sem]
  intro b1 h1 n1
  have n1_a := n1.at_
  have n1_z := n1.size
  replace p0 := p0.fresh (n1.fr (lo := 0) (hi := 0)) (by omega)
  have r1 := n1.row
  simp -dsimp only [go_sem, r1.cell]
  refine call_of (graph_Check (t.fr p0) false) ?_
  rintro v2 h2 ⟨f2, rfl⟩
  have f2_z := f2.size
  replace p0 := p0.fresh f2 (by omega)
  replace r1 := r1.fr f2 (by omega)
  by_cases a1 : (g.check false).1 = 0
  · simp -dsimp only [go_sem, beq_t a1, r1.cell]
    exact ⟨p0, by unfold Gr.good; rw [beq_t a1]; rfl⟩
  · simp -dsimp only [go_sem, beq_f a1, r1.cell]
    refine call_of (graph_Check (t.fr p0) true) ?_
    rintro v3 h3 ⟨f3, rfl⟩
    have f3_z := f3.size
    replace p0 := p0.fresh f3 (by omega)
    replace r1 := r1.fr f3 (by omega)
    simp -dsimp only [go_sem, r1.cell]
    exact ⟨p0, by unfold Gr.good; rw [beq_f a1]; rfl⟩
end Go.Proofs.Tst
/-
  The document's copy of a graph: all of it in new memory.
-/
namespace Go.Proofs.Tst
open Go Go.Vc
/-- A graph whose memory is its own, from lo on. -/
structure GrOwn (h : Heap) (q : GV) (g : Gr) (lo : Nat) : Prop where
  e : Holder 5 h (.slice q.e g.evs.length q.ec) g.evs.length (evsV g.evs) lo
  f : Holder 2 h (.slice q.f g.rf.length q.fc) g.rf.length (pairsV g.rf) lo
  o : ∃ us, LL h (.slice q.o g.co.length q.oc) us (g.co.map intsV) lo ∧ us.Pairwise Off ∧ ∀ w, w = .slice q.o g.co.length q.oc ∨ w ∈ us → ∀ x ∈ [Value.slice q.e g.evs.length q.ec, .slice q.f g.rf.length q.fc, .slice q.r g.rmw.length q.rc, .slice q.a g.addr.length q.ac, .slice q.d g.data.length q.dc, .slice q.c g.ctrl.length q.cc], Off w x
  r : Holder 2 h (.slice q.r g.rmw.length q.rc) g.rmw.length (pairsV g.rmw) lo
  a : Holder 2 h (.slice q.a g.addr.length q.ac) g.addr.length (pairsV g.addr) lo
  d : Holder 2 h (.slice q.d g.data.length q.dc) g.data.length (pairsV g.data) lo
  c : Holder 2 h (.slice q.c g.ctrl.length q.cc) g.ctrl.length (pairsV g.ctrl) lo
  off : ∀ x ∈ [Value.slice q.f g.rf.length q.fc, .slice q.r g.rmw.length q.rc, .slice q.a g.addr.length q.ac, .slice q.d g.data.length q.dc, .slice q.c g.ctrl.length q.cc], Off (.slice q.e g.evs.length q.ec) x
  fits : GrFits g
theorem holder_cap {s : Nat} {h : Heap} {a : Option Addr} {n m c : Nat} {xs : List Value} {lo : Nat} (hs : 0 < s) (w : Holder s h (.slice a m c) n xs lo) : n ≤ c := by
  obtain ⟨hl, ⟨h1, rfl⟩ | ⟨b, c', rest, h1, h2, h3, h4⟩⟩ := w
  · omega
  · cases h1
    have : n * s ≤ c * s := by omega
    exact Nat.le_of_mul_le_mul_right this hs
theorem GrOwn.at_ {h : Heap} {q : GV} {g : Gr} {lo : Nat} (w : GrOwn h q g lo) : GrAt h q g := by
  obtain ⟨us, h1, -⟩ := w.o
  have := h1.own
  rw [List.length_map] at this
  exact ⟨w.e.rd, w.f.rd, h1.rl, w.r.rd, w.a.rd, w.d.rd, w.c.rd, w.fits, holder_cap (by omega) this, h1.rlc⟩
/-- Where a slice's block lies, if it has any. -/
def Bl (lo hi : Nat) (v : Value) : Prop := (bl v = 0 ∧ bh v = 0) ∨ (lo ≤ bl v ∧ bh v = bl v + 1 ∧ bh v ≤ hi)
theorem Bl.of {s : Nat} {h : Heap} {v : Value} {n : Nat} {xs : List Value} {lo : Nat} (o : Holder s h v n xs lo) : Bl lo h.size v := by
  have := o.at_; have := o.top; unfold Bl; omega
theorem Bl.off {lo hi lo' hi' : Nat} {v w : Value} (a : Bl lo hi v) (b : Bl lo' hi' w) (h : hi ≤ lo') : Off v w := by unfold Bl at a b; unfold Off; omega
end Go.Proofs.Tst
/-
  Lists compared, cell by cell.
-/
namespace Go.Proofs.Tst
open Go Go.Vc
theorem c_law8_ints {l m : List Int} {a b : Value} {h : Heap} (hl : Rd 1 h a l.length (intsV l)) (hm : Rd 1 h b m.length (intsV m)) (hb : l.length ≤ 4611686018427387904) :
    Con Tryd.prog 26 #[a, b] h fun v h' => h' = h ∧ v = .bool (decide (l = m)) := by
  refine con_law8_ints ?_
  obtain ⟨aa, ac, rfl⟩ := hl.is
  obtain ⟨ba, bc, rfl⟩ := hm.is
  simp -dsimp only [go_sem]
  refine ⟨fun hne => ?_, fun heq => ?_⟩
  · simp -dsimp only [go_sem]
    have : l ≠ m := by rintro rfl; simp at hne
    simp [this]
  have heq : l.length = m.length := by have : (l.length : Int) = m.length := by simpa using heq
                                       omega
  simp -dsimp only [go_sem]
  refine loop_intro (fun i : Nat => [(0, .slice aa l.length ac), (1, .slice ba m.length bc), (5, .int .i64 i)])
    (fun i h' => i ≤ l.length ∧ h' = h ∧ ∀ j, j < i → l[j]? = m[j]?) (fun i => l.length - i) 0 ?_ ?_ ?_
  · simp [Le, find]
  · exact ⟨by omega, rfl, fun j hj => by omega⟩
  rintro i _ ⟨hi, rfl, hinv⟩
  simp -dsimp only [go_sem]
  refine ⟨fun hlt => ?_, fun hge => ?_⟩
  · have hlt : i < l.length := by omega
    simp -dsimp only [go_sem]
    refine Chk_intro (by omega) (hl.idx (by omega) fun b1 o1 c1 => ?_)
    simp -dsimp only [go_sem, c1 i _ (intsV_get (List.getElem?_eq_getElem hlt))]
    refine Chk_intro (by omega) (hm.idx (by omega) fun b2 o2 c2 => ?_)
    simp -dsimp only [go_sem, c2 i _ (intsV_get (List.getElem?_eq_getElem (show i < m.length by omega)))]
    refine ⟨fun hne => ?_, fun he => ?_⟩
    · simp -dsimp only [go_sem]
      have : l ≠ m := by rintro rfl; simp at hne
      simp [this]
    · simp -dsimp only [go_sem]
      simp -dsimp (disch := omega) only [wrap64]
      refine ⟨i + 1, by omega, by simp [Le, find], by omega, fun j hj => ?_⟩
      by_cases hji : j = i
      · subst hji
        rw [List.getElem?_eq_getElem hlt, List.getElem?_eq_getElem (show j < m.length by omega)]
        simpa using he
      · exact hinv j (by omega)
  · simp -dsimp only [go_sem]
    have : l = m := List.ext_getElem? fun j => by
      by_cases hj : j < i
      · exact hinv j hj
      · rw [List.getElem?_eq_none (by omega), List.getElem?_eq_none (by omega)]
    simp [this]
theorem c_law8_pairs {l m : List (Int × Int)} {a b : Value} {h : Heap} (hl : Rd 2 h a l.length (pairsV l)) (hm : Rd 2 h b m.length (pairsV m)) (hb : l.length ≤ 4611686018427387904) :
    Con Tryd.prog 37 #[a, b] h fun v h' => h' = h ∧ v = .bool (decide (l = m)) := by
  refine con_law8_pairs ?_
  obtain ⟨aa, ac, rfl⟩ := hl.is
  obtain ⟨ba, bc, rfl⟩ := hm.is
  simp -dsimp only [go_sem]
  refine ⟨fun hne => ?_, fun heq => ?_⟩
  · simp -dsimp only [go_sem]
    have : l ≠ m := by rintro rfl; simp at hne
    simp [this]
  have heq : l.length = m.length := by have : (l.length : Int) = m.length := by simpa using heq
                                       omega
  simp -dsimp only [go_sem]
  refine loop_intro (fun i : Nat => [(0, .slice aa l.length ac), (1, .slice ba m.length bc), (5, .int .i64 i)])
    (fun i h' => i ≤ l.length ∧ h' = h ∧ ∀ j, j < i → l[j]? = m[j]?) (fun i => l.length - i) 0 ?_ ?_ ?_
  · simp [Le, find]
  · exact ⟨by omega, rfl, fun j hj => by omega⟩
  rintro i _ ⟨hi, rfl, hinv⟩
  simp -dsimp only [go_sem]
  refine ⟨fun hlt => ?_, fun hge => ?_⟩
  · have hlt : i < l.length := by omega
    simp -dsimp only [go_sem]
    refine Chk_intro (by omega) (hl.pair (List.getElem?_eq_getElem hlt) fun b1 o1 c1 d1 => ?_)
    simp -dsimp only [go_sem, c1, d1]
    refine Chk_intro (by omega) (hm.pair (List.getElem?_eq_getElem (show i < m.length by omega)) fun b2 o2 c2 d2 => ?_)
    simp -dsimp only [go_sem, c2, d2]
    refine ⟨fun hne => ?_, fun he => ?_⟩
    · simp -dsimp only [go_sem]
      have : l ≠ m := by rintro rfl; simp at hne
      simp [this]
    · simp -dsimp only [go_sem]
      simp -dsimp (disch := omega) only [wrap64]
      refine ⟨i + 1, by omega, by simp [Le, find], by omega, fun j hj => ?_⟩
      by_cases hji : j = i
      · subst hji
        rw [List.getElem?_eq_getElem hlt, List.getElem?_eq_getElem (show j < m.length by omega)]
        simp at he
        rw [Prod.ext he.1 he.2]
      · exact hinv j (by omega)
  · simp -dsimp only [go_sem]
    have : l = m := List.ext_getElem? fun j => by
      by_cases hj : j < i
      · exact hinv j hj
      · rw [List.getElem?_eq_none (by omega), List.getElem?_eq_none (by omega)]
    simp [this]
end Go.Proofs.Tst
/-
  Lists of truths and of words compared; two graphs that are the same.
-/
namespace Go.Proofs.Tst
open Go Go.Vc
def boolsV (l : List Bool) : List Value := l.map Value.bool
def wordsV (l : List Int) : List Value := l.map fun n => .int .u64 n
@[simp] theorem length_boolsV (l : List Bool) : (boolsV l).length = l.length := by simp [boolsV]
@[simp] theorem length_wordsV (l : List Int) : (wordsV l).length = l.length := by simp [wordsV]
theorem boolsV_get {l : List Bool} {i : Nat} {b : Bool} (h : l[i]? = some b) : (boolsV l)[i]? = some (.bool b) := by simp [boolsV, h]
theorem wordsV_get {l : List Int} {i : Nat} {n : Int} (h : l[i]? = some n) : (wordsV l)[i]? = some (.int .u64 n) := by simp [wordsV, h]
theorem bne_bool_t {a b : Bool} (h : a = b) : (a != b) = false := by simp [h]
theorem bne_bool_f {a b : Bool} (h : ¬ a = b) : (a != b) = true := by simpa using h
theorem c_law8_truths {l m : List Bool} {a b : Value} {h : Heap} (hl : Rd 1 h a l.length (boolsV l)) (hm : Rd 1 h b m.length (boolsV m)) (hb : l.length ≤ 4611686018427387904) :
    Con Tryd.prog 24 #[a, b] h fun v h' => h' = h ∧ v = .bool (decide (l = m)) := by
  refine con_law8_truths ?_
  obtain ⟨aa, ac, rfl⟩ := hl.is
  obtain ⟨ba, bc, rfl⟩ := hm.is
  simp -dsimp only [go_sem]
  refine ⟨fun hne => ?_, fun heq => ?_⟩
  · simp -dsimp only [go_sem]
    have : l ≠ m := by rintro rfl; simp at hne
    simp [this]
  have heq : l.length = m.length := by have : (l.length : Int) = m.length := by simpa using heq
                                       omega
  simp -dsimp only [go_sem]
  refine loop_intro (fun i : Nat => [(0, .slice aa l.length ac), (1, .slice ba m.length bc), (5, .int .i64 i)])
    (fun i h' => i ≤ l.length ∧ h' = h ∧ ∀ j, j < i → l[j]? = m[j]?) (fun i => l.length - i) 0 ?_ ?_ ?_
  · simp [Le, find]
  · exact ⟨by omega, rfl, fun j hj => by omega⟩
  rintro i _ ⟨hi, rfl, hinv⟩
  simp -dsimp only [go_sem]
  refine ⟨fun hlt => ?_, fun hge => ?_⟩
  · have hlt : i < l.length := by omega
    simp -dsimp only [go_sem]
    refine Chk_intro (by omega) (hl.idx (by omega) fun b1 o1 c1 => ?_)
    simp -dsimp only [go_sem, c1 i _ (boolsV_get (List.getElem?_eq_getElem hlt))]
    refine Chk_intro (by omega) (hm.idx (by omega) fun b2 o2 c2 => ?_)
    simp -dsimp only [go_sem, c2 i _ (boolsV_get (List.getElem?_eq_getElem (show i < m.length by omega)))]
    by_cases he : l[i] = m[i]
    · simp -dsimp only [go_sem, bne_bool_t he]
      simp -dsimp (disch := omega) only [wrap64]
      refine ⟨i + 1, by omega, by simp [Le, find], by omega, fun j hj => ?_⟩
      by_cases hji : j = i
      · subst hji
        rw [List.getElem?_eq_getElem hlt, List.getElem?_eq_getElem (show j < m.length by omega), he]
      · exact hinv j (by omega)
    · simp -dsimp only [go_sem, bne_bool_f he]
      have : l ≠ m := by rintro rfl; exact he rfl
      simp [this]
  · simp -dsimp only [go_sem]
    have : l = m := List.ext_getElem? fun j => by
      by_cases hj : j < i
      · exact hinv j hj
      · rw [List.getElem?_eq_none (by omega), List.getElem?_eq_none (by omega)]
    simp [this]
theorem c_law8_words {l m : List Int} {a b : Value} {h : Heap} (hl : Rd 1 h a l.length (wordsV l)) (hm : Rd 1 h b m.length (wordsV m)) (hb : l.length ≤ 4611686018427387904) :
    Con Tryd.prog 30 #[a, b] h fun v h' => h' = h ∧ v = .bool (decide (l = m)) := by
  refine con_law8_words ?_
  obtain ⟨aa, ac, rfl⟩ := hl.is
  obtain ⟨ba, bc, rfl⟩ := hm.is
  simp -dsimp only [go_sem]
  refine ⟨fun hne => ?_, fun heq => ?_⟩
  · simp -dsimp only [go_sem]
    have : l ≠ m := by rintro rfl; simp at hne
    simp [this]
  have heq : l.length = m.length := by have : (l.length : Int) = m.length := by simpa using heq
                                       omega
  simp -dsimp only [go_sem]
  refine loop_intro (fun i : Nat => [(0, .slice aa l.length ac), (1, .slice ba m.length bc), (5, .int .i64 i)])
    (fun i h' => i ≤ l.length ∧ h' = h ∧ ∀ j, j < i → l[j]? = m[j]?) (fun i => l.length - i) 0 ?_ ?_ ?_
  · simp [Le, find]
  · exact ⟨by omega, rfl, fun j hj => by omega⟩
  rintro i _ ⟨hi, rfl, hinv⟩
  simp -dsimp only [go_sem]
  refine ⟨fun hlt => ?_, fun hge => ?_⟩
  · have hlt : i < l.length := by omega
    simp -dsimp only [go_sem]
    refine Chk_intro (by omega) (hl.idx (by omega) fun b1 o1 c1 => ?_)
    simp -dsimp only [go_sem, c1 i _ (wordsV_get (List.getElem?_eq_getElem hlt))]
    refine Chk_intro (by omega) (hm.idx (by omega) fun b2 o2 c2 => ?_)
    simp -dsimp only [go_sem, c2 i _ (wordsV_get (List.getElem?_eq_getElem (show i < m.length by omega)))]
    by_cases he : l[i] = m[i]
    · simp -dsimp only [go_sem, bne_t he]
      simp -dsimp (disch := omega) only [wrap64]
      refine ⟨i + 1, by omega, by simp [Le, find], by omega, fun j hj => ?_⟩
      by_cases hji : j = i
      · subst hji
        rw [List.getElem?_eq_getElem hlt, List.getElem?_eq_getElem (show j < m.length by omega), he]
      · exact hinv j (by omega)
    · simp -dsimp only [go_sem, bne_f he]
      have : l ≠ m := by rintro rfl; exact he rfl
      simp [this]
  · simp -dsimp only [go_sem]
    have : l = m := List.ext_getElem? fun j => by
      by_cases hj : j < i
      · exact hinv j hj
      · rw [List.getElem?_eq_none (by omega), List.getElem?_eq_none (by omega)]
    simp [this]
end Go.Proofs.Tst
/-
  Several of the program's relations in memory, apart from each other.
-/
namespace Go.Vc
open Go
structure Der (h : Heap) (A B : Nat → Nat) (p : Nat → Value) (n : Nat) (M : Nat → Nat → Nat → Bool) (m : Nat) : Prop where
  at_ : ∀ k, k < m → ProgAt h (A k) (B k) (p k) n (M k)
  off : ∀ k l, k < m → l < m → k ≠ l → B k ≤ A l ∨ B l ≤ A k
section
variable {h h' : Heap} {A B : Nat → Nat} {p : Nat → Value} {n m : Nat} {M M' : Nat → Nat → Nat → Bool} {l r : Nat}
theorem Der.fr (t : Der h A B p n M m) (f : Fr l r h h') (hd : ∀ k, k < m → B k ≤ l ∨ r ≤ A k ∨ r ≤ l) : Der h' A B p n M m := ⟨fun k hk => (t.at_ k hk).fr f (hd k hk), t.off⟩
theorem Der.congr (t : Der h A B p n M m) (e : ∀ k, k < m → ∀ i j, i < n → j < n → M k i j = M' k i j) : Der h A B p n M' m := ⟨fun k hk => (t.at_ k hk).congr fun i j hi hj => e k hk i j hi hj, t.off⟩
theorem Der.put {k : Nat} {N : Nat → Nat → Bool} (t : Der h A B p n M m) (hk : k < m) (f : Fr (A k) (B k) h h') (q : ProgAt h' (A k) (B k) (p k) n N) : Der h' A B p n (fun l => if l = k then N else M l) m := by
  refine ⟨fun l hl => ?_, t.off⟩
  by_cases hlk : l = k
  · subst hlk; simp only [if_true]; exact q
  · simp only [if_neg hlk]
    have := t.off l k hl hk hlk
    exact (t.at_ l hl).fr f (by omega)
end
/-- All but these blocks lie as they lay. -/
structure FrX (S : Nat → Prop) (h h' : Heap) : Prop where
  size : h.size ≤ h'.size
  old : ∀ b, b < h.size → ¬ S b → h'[b]? = h[b]?
def InR (A B : Nat → Nat) (m x : Nat) : Prop := ∃ k, k < m ∧ A k ≤ x ∧ x < B k
section
variable {S : Nat → Prop} {h h' h'' : Heap} {l r : Nat}
theorem FrX.refl (S : Nat → Prop) (h : Heap) : FrX S h h := ⟨Nat.le_refl _, fun _ _ _ => rfl⟩
theorem FrX.trans (a : FrX S h h') (b : FrX S h' h'') : FrX S h h'' := ⟨Nat.le_trans a.size b.size, fun x hx hc => (b.old x (Nat.lt_of_lt_of_le hx a.size) hc).trans (a.old x hx hc)⟩
theorem FrX.of (f : Fr l r h h') (hs : ∀ x, l ≤ x → x < r → S x) : FrX S h h' := ⟨f.size, fun x hx hc => f.old x hx (by
  rcases Nat.lt_or_ge x l with h | h
  · exact .inl h
  · rcases Nat.lt_or_ge x r with h' | h'
    · exact absurd (hs x h h') hc
    · exact .inr h')⟩
theorem FrX.step (a : FrX S h h') (f : Fr l r h' h'') (hs : ∀ x, l ≤ x → x < r → S x ∨ h.size ≤ x) : FrX S h h'' := ⟨Nat.le_trans a.size f.size, fun x hx hc => (f.old x (Nat.lt_of_lt_of_le hx a.size) (by
  rcases Nat.lt_or_ge x l with h | h
  · exact .inl h
  · rcases Nat.lt_or_ge x r with h' | h'
    · rcases hs x h h' with h | h
      · exact absurd h hc
      · omega
    · exact .inr h')).trans (a.old x hx hc)⟩
theorem FrX.rw {b : Nat} {c : List Value} (a : FrX S h h') (w : Rw h b c) (hb : ¬ S b) : Rw h' b c := by
  have := w.lt
  obtain ⟨t, w⟩ := w; exact ⟨t, (a.old b this hb).trans w⟩
theorem FrX.holder {s : Nat} {v : Value} {n : Nat} {xs : List Value} {lo : Nat} (a : FrX S h h') (w : Holder s h v n xs lo) (hb : ∀ x, lo ≤ x → ¬ S x) : Holder s h' v n xs lo := by
  obtain ⟨hl, h1 | ⟨b, c, rest, rfl, h2, h3, h4⟩⟩ := w
  · exact ⟨hl, .inl h1⟩
  · exact ⟨hl, .inr ⟨b, c, rest, rfl, a.rw h2 (hb b h4), h3, h4⟩⟩
theorem FrX.fresh {h0 : Heap} (p : Fr 0 0 h0 h) (a : FrX S h h') (hs : ∀ x, S x → h0.size ≤ x) : Fr 0 0 h0 h' :=
  ⟨Nat.le_trans p.size a.size, fun x hx hc => (a.old x (Nat.lt_of_lt_of_le hx p.size) (fun h => by have := hs x h; omega)).trans (p.old x hx hc)⟩
end
/-- What ran in a free part, by number. -/
theorem Sep.at_ {V : Nat → Out} {lo hi : Nat} {l : List FI} {L : List Nat} (s : Sep V lo hi l) (hL : l.map (fun f => f.g.idx) = L) : (∀ i ∈ L, lo ≤ (V i).2.1 ∧ (V i).2.1 ≤ (V i).2.2 ∧ (V i).2.2 ≤ hi) ∧ ∀ i ∈ L, ∀ j ∈ L, i ≠ j → (V i).2.2 ≤ (V j).2.1 ∨ (V j).2.2 ≤ (V i).2.1 := by
  subst hL
  constructor
  · intro i hi
    obtain ⟨f, hf, rfl⟩ := List.mem_map.1 hi
    exact s.1 f hf
  · intro i hi j hj hij
    obtain ⟨f, hf, rfl⟩ := List.mem_map.1 hi
    obtain ⟨f', hf', rfl⟩ := List.mem_map.1 hj
    exact s.2 f hf f' hf' hij
end Go.Vc
namespace Go.Proofs.Tst
open Go Go.Vc
set_option maxHeartbeats 800000 in
theorem rel_Comp {n m : Nat} {M N : Nat → Nat → Bool} {p q : Value} {lo hi lo' hi' : Nat} {h : Heap} (hr : ProgAt h lo hi p n M) (hs : ProgAt h lo' hi' q m N) (ht : TabAt h) :
    Con Tryd.prog 33 #[p, q] h fun v h' => Fr 0 0 h h' ∧ ProgAt h' h.size h'.size v (max n m) (compM n M m N) := by
  refine con_rel_Comp (fun v h1 h2 x ⟨f, o⟩ => ⟨x.fr f (Nat.le_refl _), (o.ext x).mono (Nat.le_refl _) x.size⟩) ?_
  obtain ⟨hn, pb, rb, R, W, rfl, t⟩ := hr
  obtain ⟨hm, pb', rb', R', W', rfl, t'⟩ := hs
  have hmx : (if (m : Int) > (n : Int) then (m : Int) else (n : Int)) = ((max n m : Nat) : Int) := by split <;> omega
  have hcl : clampN (max n m : Nat) = max n m := by unfold clampN; omega
  have p0 : Fr 0 0 h h := .refl _ _ _
  simp -dsimp only [go_sem]
  intro b1 h1 n1
  have n1_a := n1.at_
  have n1_z := n1.size
  replace p0 := p0.fresh (n1.fr (lo := 0) (hi := 0)) (by omega)
  have r1 := n1.row
  have tp := t.fr p0 (by omega)
  have tq := t'.fr p0 (by omega)
  simp -dsimp only [go_sem, tp.ptr.cell, tq.ptr.cell, r1.cell]
  rw [hmx]
  refine rvc_joint (fun b2 : Nat => [(0, .pointer (some ⟨pb, 0, none⟩)), (3, .pointer (some ⟨b1, 0, none⟩)), (4, .pointer none), (5, .pointer (some ⟨b2, 0, none⟩))])
    (fun b2 h' => Fr 0 0 h h' ∧ Rw h' b1 [.pointer (some ⟨pb', 0, none⟩)] ∧ b1 < b2 ∧ ∃ pb1 rb1 R1 W1 lo1 hi1, h1.size ≤ lo1 ∧ hi1 ≤ h'.size ∧ (b2 < lo1 ∨ hi1 ≤ b2) ∧ Rw h' b2 [.pointer (some ⟨pb1, 0, none⟩)] ∧ PTab h' lo1 hi1 pb1 rb1 (max n m) R1 W1 fun _ _ => false) ?_ ?_
  · simp -dsimp only [go_sem, r_two, r1.cell]
    refine ⟨?_, ?_⟩
    · refine call_of (rel_New _ h1) ?_
      rintro v h2 ⟨f2, t2⟩
      rw [hcl] at t2
      obtain ⟨-, pb1, rb1, R1, W1, rfl, t2⟩ := t2
      have f2_z := f2.size
      replace p0 := p0.fresh f2 (by omega)
      replace r1 := r1.fr f2 (by omega)
      have tp := t.fr p0 (by omega)
      have tq := t'.fr p0 (by omega)
      simp -dsimp only [go_sem, tp.ptr.cell, tq.ptr.cell, r1.cell]
      intro b3 h3 n3
      have n3_a := n3.at_
      have n3_z := n3.size
      replace p0 := p0.fresh (n3.fr (lo := 0) (hi := 0)) (by omega)
      replace r1 := r1.fr (n3.fr (lo := 0) (hi := 0)) (by omega)
      replace t2 := t2.fr (n3.fr (lo := 0) (hi := 0)) (by omega)
      have r3 := n3.row
      simp -dsimp only [go_sem, r1.cell, r3.cell]
      refine Chk_intro (r3.wr (by first | (simp; done) | (simp; omega))) fun h4 s4 => ?_
      have s4_z := s4.size
      replace p0 := p0.fresh s4.fr (by omega)
      replace r1 := r1.fr s4.fr (by omega)
      replace t2 := t2.fr s4.fr (by omega)
      replace r3 := s4.row r3
      try simp only [cl_int, cl_bool, cl_slice, cl_ptr, putAt_one, List.set_cons_zero, List.set_cons_succ, ivec_set, brow_upd] at r3
      simp -dsimp only [go_sem, r1.cell, r3.cell]
      exact ⟨b3, by simp [Le, find], p0, r1, by omega, _, _, _, _, _, _, Nat.le_refl _, by omega, .inr (by omega), r3, t2⟩
    · intro b3 h3 n3
      have n3_a := n3.at_
      have n3_z := n3.size
      replace p0 := p0.fresh (n3.fr (lo := 0) (hi := 0)) (by omega)
      replace r1 := r1.fr (n3.fr (lo := 0) (hi := 0)) (by omega)
      have r3 := n3.row
      simp -dsimp only [go_sem, r1.cell, r3.cell]
      refine call_of (rel_New _ h3) ?_
      rintro v h2 ⟨f2, t2⟩
      rw [hcl] at t2
      obtain ⟨-, pb1, rb1, R1, W1, rfl, t2⟩ := t2
      have f2_z := f2.size
      replace p0 := p0.fresh f2 (by omega)
      replace r1 := r1.fr f2 (by omega)
      replace r3 := r3.fr f2 (by omega)
      have tp := t.fr p0 (by omega)
      have tq := t'.fr p0 (by omega)
      simp -dsimp only [go_sem, tp.ptr.cell, tq.ptr.cell, r1.cell, r3.cell]
      refine Chk_intro (r3.wr (by first | (simp; done) | (simp; omega))) fun h4 s4 => ?_
      have s4_z := s4.size
      replace p0 := p0.fresh s4.fr (by omega)
      replace r1 := r1.fr s4.fr (by omega)
      replace t2 := t2.fr s4.fr (by omega)
      replace r3 := s4.row r3
      try simp only [cl_int, cl_bool, cl_slice, cl_ptr, putAt_one, List.set_cons_zero, List.set_cons_succ, ivec_set, brow_upd] at r3
      simp -dsimp only [go_sem, r1.cell, r3.cell]
      exact ⟨b3, by simp [Le, find], p0, r1, by omega, _, _, _, _, h3.size, h2.size, by omega, by omega, .inl (by omega), r3, t2⟩
  rintro b2 h2 ⟨p0, r1, hb12, pb1, rb1, R1, W1, lo1, hi1, hlo, hhi, hb2, r2, t2⟩ e ⟨e0, e3, e4, e5, -⟩
  have p0_z := p0.size
  have r1_l := r1.lt
  have r2_l := r2.lt
  have at2 := t2.at_
  have tp := t.fr p0 (by omega)
  simp -dsimp only [go_sem, e0, e3, e4, e5, tp.ptr.cell, r1.cell, r2.cell]
  refine loop_intro (fun a : Nat => [(3, .pointer (some ⟨b1, 0, none⟩)), (5, .pointer (some ⟨b2, 0, none⟩)), (22, .slice (some ⟨rb, 0, none⟩) n n), (23, .int .i64 n), (24, .int .i64 a)])
    (fun a h' => a ≤ n ∧ Fr 0 0 h h' ∧ h2.size ≤ h'.size ∧ Rw h' b1 [.pointer (some ⟨pb', 0, none⟩)] ∧ Rw h' b2 [.pointer (some ⟨pb1, 0, none⟩)] ∧ ∃ W, PTab h' lo1 hi1 pb1 rb1 (max n m) R1 W fun i j => decide (i < a) && compM n M m N i j) (fun a => n - a) 0 ?_ ?_ ?_
  · simp [Le, find]
  · exact ⟨by omega, p0, by omega, r1, r2, _, t2.congr fun i j _ _ => by simp⟩
  rintro a h4 ⟨ha, p0, y4, r1, r2, W4, t4⟩
  have p0_z := p0.size
  have r1_l := r1.lt
  have r2_l := r2.lt
  simp -dsimp only [go_sem, r1.cell, r2.cell]
  refine ⟨fun hlt => ?_, fun hge => ?_⟩
  · have hlt : a < n := by omega
    simp -dsimp only [go_sem, r1.cell, r2.cell]
    refine Chk_intro (by omega) ?_
    simp -dsimp only [go_sem, (t.fr p0 (by omega)).rowsGet hlt, r1.cell, r2.cell]
    intro b5 h5 n5
    have n5_a := n5.at_
    have n5_z := n5.size
    replace p0 := p0.fresh (n5.fr (lo := 0) (hi := 0)) (by omega)
    replace r1 := r1.fr (n5.fr (lo := 0) (hi := 0)) (by omega)
    replace r2 := r2.fr (n5.fr (lo := 0) (hi := 0)) (by omega)
    replace t4 := t4.fr (n5.fr (lo := 0) (hi := 0)) (by omega)
    have r5 := n5.row
    simp -dsimp only [go_sem, r1.cell, r2.cell, r5.cell]
    refine Chk_intro (r5.wr (by first | (simp; done) | (simp; omega))) fun h6 s6 => ?_
    have s6_z := s6.size
    replace p0 := p0.fresh s6.fr (by omega)
    replace r1 := r1.fr s6.fr (by omega)
    replace r2 := r2.fr s6.fr (by omega)
    replace t4 := t4.fr s6.fr (by omega)
    replace r5 := s6.row r5
    try simp only [cl_int, cl_bool, cl_slice, cl_ptr, putAt_one, List.set_cons_zero, List.set_cons_succ, ivec_set, brow_upd] at r5
    simp -dsimp only [go_sem, r1.cell, r2.cell, r5.cell]
    refine call_of (rel_points _ _ _ h6) ?_
    rintro v h7 ⟨f7, rfl, c7, z7⟩
    have f7_z := f7.size
    replace p0 := p0.fresh f7 (by omega)
    replace r1 := r1.fr f7 (by omega)
    replace r2 := r2.fr f7 (by omega)
    replace t4 := t4.fr f7 (by omega)
    replace r5 := r5.fr f7 (by omega)
    simp -dsimp only [go_sem, r1.cell, r2.cell, r5.cell]
    have hbits := (t.row a hlt).2.2.2.2.2
    refine ⟨rfl, points_intro rfl hbits hn ⟨c7, ptab_rd (t.fr p0 (by omega)) hlt, ht.fr p0 (by omega)⟩
      (fun d h' => Fr 0 0 h h' ∧ h7.size ≤ h'.size ∧ Rw h' b1 [.pointer (some ⟨pb', 0, none⟩)] ∧ Rw h' b2 [.pointer (some ⟨pb1, 0, none⟩)] ∧ Rw h' b5 [.int .i64 a] ∧ hcell h' h6.size 0 = some (.slice (some ⟨R a, 0, none⟩) (nw n) (nw n)) ∧
        ∃ W, PTab h' lo1 hi1 pb1 rb1 (max n m) R1 W fun i j => (decide (i < a) && compM n M m N i j) || (i == a && ((rest (M a) n 0).take d).any fun q => inN m N q j))
      (fun _ _ => False) ?_ ?_ ?_ ?_ ?_ ?_ ?_⟩
    · rintro d h' ⟨q0, -, -, -, -, q1, -⟩
      exact ⟨q1, ptab_rd (t.fr q0 (by omega)) hlt, ht.fr q0 (by omega)⟩
    · rintro d h8 h9 x ⟨q0, q1, q2, q3, q3', q4, W', q5⟩
      exact ⟨q0.ext x (by omega), Nat.le_trans q1 x.size, q2.ext x, q3.ext x, q3'.ext x, x.cell q4, W', q5.ext x⟩
    · exact fun _ _ _ _ h => h
    · exact ⟨p0, Nat.le_refl _, r1, r2, r5, c7, _, t4.congr fun i j _ _ => by simp⟩
    · rintro d q h8 z8 hq hqn hqf ⟨p0, y8, r1, r2, r5, c8, W8, t8⟩
      have p0_z := p0.size
      have r1_l := r1.lt
      have r2_l := r2.lt
      have r5_l := r5.lt
      simp -dsimp only [go_sem, r1.cell, r2.cell, r5.cell]
      intro h9 x9
      have x9_z := x9.size
      replace p0 := p0.ext x9 (by omega)
      replace r1 := r1.ext x9
      replace r2 := r2.ext x9
      replace r5 := r5.ext x9
      replace t8 := t8.ext x9
      have c8 := x9.cell c8
      have tq := t'.fr p0 (by omega)
      simp -dsimp only [go_sem, tq.ptr.cell, r1.cell, r2.cell, r5.cell]
      refine ⟨fun hqm => ?_, fun hqm => ?_⟩
      · have hqm : q < m := by omega
        obtain ⟨g1, g2, g3, g4, g5, g6⟩ := t8.row a (by omega)
        simp -dsimp only [go_sem, tq.ptr.cell, t8.ptr.cell, r1.cell, r2.cell, r5.cell]
        refine Chk_intro (by omega) ?_
        simp -dsimp only [go_sem, t8.rowsGet (show a < max n m by omega), tq.ptr.cell, r1.cell, r2.cell, r5.cell]
        refine Chk_intro (by omega) ?_
        simp -dsimp only [go_sem, tq.rowsGet hqm, r1.cell, r2.cell, r5.cell]
        intro b10 h10 n10
        have n10_a := n10.at_
        have n10_z := n10.size
        replace p0 := p0.fresh (n10.fr (lo := 0) (hi := 0)) (by omega)
        replace r1 := r1.fr (n10.fr (lo := 0) (hi := 0)) (by omega)
        replace r2 := r2.fr (n10.fr (lo := 0) (hi := 0)) (by omega)
        replace r5 := r5.fr (n10.fr (lo := 0) (hi := 0)) (by omega)
        replace t8 := t8.fr (n10.fr (lo := 0) (hi := 0)) (by omega)
        have r10 := n10.row
        obtain ⟨g1, g2, g3, g4, g5, g6⟩ := t8.row a (by omega)
        have tq := t'.fr p0 (by omega)
        obtain ⟨f1, f2, f3, f4, f5, f6⟩ := tq.row q hqm
        simp -dsimp only [go_sem, tq.ptr.cell, t8.ptr.cell, t8.rowsGet (show a < max n m by omega), tq.rowsGet hqm, r1.cell, r2.cell, r5.cell, r10.cell]
        refine call_of (row_join g1 f1 (r10.rd rfl) (fun j => (g6 j).1) (fun j => (f6 j).1) (by unfold nw; omega) (by unfold nw; omega)) ?_
        rintro _ h11 ⟨f11, z11, r11⟩
        have t11 := t8.updRow (by omega) f11 r11 (g6.or f6 (by omega))
        have c10 := (n10.fr (lo := 0) (hi := 0)).keep c8 (by omega)
        have f11_z := f11.size
        replace p0 := p0.fresh f11 (by omega)
        replace r1 := r1.fr f11 (by omega)
        replace r2 := r2.fr f11 (by omega)
        replace r5 := r5.fr f11 (by omega)
        have tq := t'.fr p0 (by omega)
        simp -dsimp only [go_sem, t11.ptr.cell, t11.rowsGet (show a < max n m by omega), tq.ptr.cell, tq.rowsGet hqm, r1.cell, r2.cell, r5.cell]
        refine ⟨p0, by omega, r1, r2, r5, f11.keep c10 (by omega), _, t11.congr fun i j hi hj => ?_⟩
        rw [List.take_add_one, hq, Option.toList_some, List.any_append]
        by_cases hia : i = a
        · subst hia
          rw [upd_same]
          simp [inN, hqm]
        · rw [upd_ne _ _ hia]
          have e : (i == a) = false := by simpa using hia
          simp [e]
      · simp -dsimp only [go_sem, r1.cell, r2.cell, r5.cell]
        refine ⟨p0, by omega, r1, r2, r5, c8, _, t8.congr fun i j hi hj => ?_⟩
        rw [List.take_add_one, hq, Option.toList_some, List.any_append]
        have : inN m N q j = false := inN_out (by omega)
        simp [this]
    · rintro h8 z8 ⟨p0, y8, r1, r2, r5, c8, W8, t8⟩
      simp -dsimp only [go_sem, r1.cell, r2.cell, r5.cell]
      simp -dsimp (disch := omega) only [wrap64]
      refine ⟨a + 1, by omega, by simp [Le, find], by omega, p0, by omega, r1, r2, _, t8.congr fun i j hi hj => ?_⟩
      rw [List.take_length]
      by_cases hia : i = a
      · subst hia
        have : (rest (M i) n 0).any (fun q => inN m N q j) = compM n M m N i j := by
          rw [Bool.eq_iff_iff, compM_true, List.any_eq_true]
          constructor
          · rintro ⟨k, hk, h1⟩
            have := mem_rest.1 hk
            exact ⟨k, inN_true.2 ⟨hlt, this.2.1, this.2.2⟩, h1⟩
          · rintro ⟨k, h1, h2⟩
            have := inN_true.1 h1
            exact ⟨k, mem_rest.2 ⟨by omega, this.2.1, this.2.2⟩, h2⟩
        simp [this]
      · have e : (i == a) = false := by simpa using hia
        have : (i < a + 1) = (i < a) := by simp; omega
        simp [this, e]
    · exact fun _ _ _ h => h.elim
  · have : a = n := by omega
    subst this
    simp -dsimp only [go_sem, r1.cell, r2.cell]
    refine ⟨p0, by omega, _, _, _, _, rfl, ((t4.mono' (hi' := h4.size) (by omega)).lower (by omega)).congr fun i j hi hj => ?_⟩
    by_cases hia : i < a
    · simp [hia]
    · have : compM a M m N i j = false := by
        rw [Bool.eq_false_iff]; intro h'
        obtain ⟨k, h1, _⟩ := compM_true.1 h'
        exact hia (inN_true.1 h1).1
      simp [this]
end Go.Proofs.Tst
/-
  graph.Derive: how its relations are laid.
-/
namespace Go.Proofs.Tst
open Go Go.Vc
/-- The pairs of a list, each one ahead of the other. -/
def lpairs : List Int → List (Int × Int)
  | [] => []
  | a :: t => t.map (fun b => (a, b)) ++ lpairs t
def coPairs (g : Gr) : List (Int × Int) := g.co.flatMap lpairs
def relM (g : Gr) : Nat → Nat → Nat → Bool
  | 0 => g.poM
  | 1 => ofM g.n g.rf
  | 2 => ofM g.n (coPairs g)
  | 3 => ofM g.n g.rmw
  | 4 => g.sameM
  | 5 => g.extM
  | 6 => ofM g.n g.addr
  | 7 => ofM g.n g.data
  | 8 => ofM g.n g.ctrl
  | _ => compM g.n (invM (ofM g.n g.rf)) g.n (ofM g.n (coPairs g))
/-- As they are laid. -/
def relZ (g : Gr) : Nat → Nat → Nat → Bool
  | 0 => fun _ _ => false
  | 2 => fun _ _ => false
  | 4 => fun _ _ => false
  | 5 => fun _ _ => false
  | k => relM g k
def fcells (p : Nat → Value) (rd wr fe : Value) : List Value := [p 0, p 1, p 2, p 9, p 3, p 4, p 5, p 6, p 7, p 8, rd, wr, fe]
def fzero : List Value := [.pointer none, .pointer none, .pointer none, .pointer none, .pointer none, .pointer none, .pointer none, .pointer none, .pointer none, .pointer none, .slice none 0 0, .slice none 0 0, .slice none 0 0]
def ixD (k : Nat) : Nat := [1, 5, 7, 11, 13, 15, 19, 23, 27].getD k 0
def kindsV (g : Gr) (k : Int) (i : Nat) : List Bool := (g.evs.take i).map fun e => e.kind == k
theorem good_n {g : Gr} (h : g.good = true) : g.n ≤ 256 ∧ g.size = true := by
  have hs : g.size = true := by
    cases hs : g.size
    · unfold Gr.good Gr.check at h
      rw [hs] at h; simp at h
    · rfl
  have hs' := hs
  simp only [Gr.size, Bool.and_eq_true, decide_eq_true_eq] at hs
  exact ⟨hs.2, hs'⟩
theorem progPtr {h : Heap} {a b n : Nat} {v : Value} {M : Nat → Nat → Bool} (t : ProgAt h a b v n M) : ∃ pb, v = .pointer (some ⟨pb, 0, none⟩) := by
  obtain ⟨_, pb, _, _, _, e, _⟩ := t; exact ⟨pb, e⟩
def tellP (n : Nat) (M : Nat → Nat → Bool) : Tell := tell1 fun v a b h => ProgAt h a b v n M
theorem stabP (n : Nat) (M : Nat → Nat → Bool) : Stab (tellP n M) := Stab.one fun v a b h h' f t => t.fr f (by omega)
/-- The literal that is stored. -/
def tellF : Tell := fun us _ => match us with
  | [a, b, c, d, e, f, g, h, i, u] => u.1 = .agg #[a.1, b.1, c.1, .pointer none, d.1, e.1, f.1, g.1, h.1, i.1, .slice none 0 0, .slice none 0 0, .slice none 0 0]
  | _ => False
theorem tellF_eq (a b c d e f g h i u : Out) (hp : Heap) : tellF [a, b, c, d, e, f, g, h, i, u] hp = (u.1 = .agg #[a.1, b.1, c.1, .pointer none, d.1, e.1, f.1, g.1, h.1, i.1, .slice none 0 0, .slice none 0 0, .slice none 0 0]) := (rfl)
def tellA (c : List Value) : Tell := tell1 fun v a b h => v = .pointer (some ⟨a, 0, none⟩) ∧ b = a + 1 ∧ Rw h a c
theorem stabA (c : List Value) : Stab (tellA c) := Stab.one fun v a b h h' f ⟨h1, h2, h3⟩ => ⟨h1, h2, h3.fr f (by omega)⟩
theorem tellP_eq (n : Nat) (M : Nat → Nat → Bool) (u : Out) (h : Heap) : tellP n M [u] h = ProgAt h u.2.1 u.2.2 u.1 n M := (rfl)
theorem tellA_eq (c : List Value) (u : Out) (h : Heap) : tellA c [u] h = (u.1 = .pointer (some ⟨u.2.1, 0, none⟩) ∧ u.2.2 = u.2.1 + 1 ∧ Rw h u.2.1 c) := (rfl)
end Go.Proofs.Tst
