/-
  Contracts of functions that the law reaches: what each returns and what it leaves in memory. Conditions stand in each.
-/
import Derived.Test.YtmilaghhnaoidaaDoorT5
set_option linter.all false
set_option maxRecDepth 2000
/-
  Relations in memory, some at once; chains of steps.
-/
namespace Go.Proofs.Tst
open Go Go.Vc
abbrev Mx := Nat → Nat → Bool
def PA (h : Heap) (v : Value) (n : Nat) (M : Mx) : Prop := ∃ lo hi, ProgAt h lo hi v n M
/-- A new one, from lo on. -/
def PN (h : Heap) (lo : Nat) (v : Value) (n : Nat) (M : Mx) : Prop := ∃ a b, ProgAt h a b v n M ∧ lo ≤ a ∧ a ≤ b ∧ b ≤ h.size
section
variable {h h' : Heap} {v : Value} {n lo : Nat} {M N : Mx}
theorem PA.fr (t : PA h v n M) (f : Fr 0 0 h h') : PA h' v n M := by obtain ⟨a, b, t⟩ := t; exact ⟨a, b, t.fr f (by omega)⟩
theorem PA.ptr (t : PA h v n M) : ∃ b, v = .pointer (some ⟨b, 0, none⟩) := by obtain ⟨a, b, t⟩ := t; exact progPtr t
theorem PA.oc (t : PA h v n M) : v.oneCell' = true := by obtain ⟨b, rfl⟩ := t.ptr; rfl
theorem PA.cl (t : PA h v n M) : Vc.cl v = [v] := by obtain ⟨b, rfl⟩ := t.ptr; rfl
theorem PA.congr (t : PA h v n M) (e : ∀ i j, i < n → j < n → M i j = N i j) : PA h v n N := by obtain ⟨a, b, t⟩ := t; exact ⟨a, b, t.congr e⟩
theorem PA.le (t : PA h v n M) : n ≤ 256 := by obtain ⟨a, b, t⟩ := t; exact t.1
theorem PN.pa (t : PN h lo v n M) : PA h v n M := by obtain ⟨a, b, t, -⟩ := t; exact ⟨a, b, t⟩
theorem PN.of (t : ProgAt h lo h.size v n M) : PN h lo v n M := ⟨_, _, t, Nat.le_refl _, by obtain ⟨_, _, _, _, _, _, w⟩ := t; have := w.at_; omega, Nat.le_refl _⟩
theorem PN.congr (t : PN h lo v n M) (e : ∀ i j, i < n → j < n → M i j = N i j) : PN h lo v n N := by obtain ⟨a, b, t, k⟩ := t; exact ⟨a, b, t.congr e, k⟩
theorem PN.lower {lo' : Nat} (t : PN h lo v n M) (hl : lo' ≤ lo) : PN h lo' v n M := by obtain ⟨a, b, t, k⟩ := t; exact ⟨a, b, t, by omega, k.2⟩
theorem PN.fr {l r : Nat} (t : PN h lo v n M) (f : Fr l r h h') (hd : r ≤ lo ∨ h.size ≤ l ∨ r ≤ l) : PN h' lo v n M := by
  obtain ⟨a, b, t, k⟩ := t
  have := f.size
  exact ⟨a, b, t.fr f (by omega), by omega⟩
end
/-- Some at once, whose pairs together are these. -/
def UA (h : Heap) (lv : Value) (n : Nat) (M : Mx) : Prop := ∃ L : List (Value × Nat × Mx), Rd 1 h lv L.length (L.map (·.1)) ∧ RelsAt h L ∧ L.length ≤ 65536 ∧ maxN L = n ∧ ∀ i j, i < n → j < n → anyM L i j = M i j
theorem UA.fr {h h' : Heap} {v : Value} {n : Nat} {M : Mx} (t : UA h v n M) (f : Fr 0 0 h h') : UA h' v n M := by
  obtain ⟨L, h1, h2, h3⟩ := t; exact ⟨L, h1.fr f, h2.fr f, h3⟩
theorem maxN_same {n : Nat} : ∀ {l : List (Value × Mx)}, l ≠ [] → maxN (l.map fun x => (x.1, n, x.2)) = n := by
  have key : ∀ (l : List (Value × Mx)) (m : Nat), m ≤ n → (l.map fun x => (x.1, n, x.2)).foldl (fun m (x : Value × Nat × Mx) => max m x.2.1) m = if l = [] then m else n := by
    intro l
    induction l with
    | nil => intro m _; rfl
    | cons x l ih =>
      intro m hm
      simp only [List.map_cons, List.foldl_cons]
      rw [ih _ (by omega), if_neg (by simp : ¬ x :: l = [])]
      split
      · omega
      · rfl
  intro l hl
  unfold maxN
  rw [key l 0 (Nat.zero_le _), if_neg hl]
theorem UA.mk {h : Heap} {b n : Nat} {M : Mx} (l : List (Value × Mx)) (r : Rw h b (l.map (·.1))) (hp : ∀ x ∈ l, PA h x.1 n x.2) (hne : l ≠ []) (hl : l.length ≤ 65536) (hM : ∀ i j, i < n → j < n → (l.any fun x => x.2 i j) = M i j) :
    UA h (.slice (some ⟨b, 0, none⟩) l.length l.length) n M := by
  refine ⟨l.map fun x => (x.1, n, x.2), ?_, fun x hx => ?_, by rw [List.length_map]; exact hl, maxN_same hne, fun i j hi hj => ?_⟩
  · rw [List.length_map, List.map_map]
    exact Rw.rd (s := 1) r (by simp)
  · obtain ⟨y, hy, rfl⟩ := List.mem_map.1 hx
    exact hp y hy
  · rw [← hM i j hi hj]
    unfold anyM
    rw [List.any_map]
    congr 1
    funext x
    exact inN_in hi hj
theorem rel_UnionU {lv : Value} {n : Nat} {M : Mx} {h : Heap} (u : UA h lv n M) :
    Con Tryd.prog 50 #[lv] h fun v h' => Fr 0 0 h h' ∧ ProgAt h' h.size h'.size v n M := by
  obtain ⟨L, h1, h2, h3, h4, h5⟩ := u
  exact (rel_Union h1 h2 h3).mono fun v h' ⟨f, t⟩ => ⟨f, by rw [h4] at t; exact t.congr h5⟩
/-- One step of each, one behind the other. -/
def chM (n : Nat) (A : Mx) (l : List Mx) : Mx := l.foldl (fun X Y => compM n X n Y) A
/-- Some, one behind the other. -/
def CA (h : Heap) (lv : Value) (n : Nat) (l : List Mx) : Prop := ∃ ws : List Value, ws.length = l.length ∧ Rd 1 h lv ws.length ws ∧ ws.length ≤ 65536 ∧ ∀ (i : Nat) (w : Value) (M : Mx), ws[i]? = some w → l[i]? = some M → PA h w n M
theorem CA.fr {h h' : Heap} {v : Value} {n : Nat} {l : List Mx} (t : CA h v n l) (f : Fr 0 0 h h') : CA h' v n l := by
  obtain ⟨L, h1, h2, h3, h4⟩ := t; exact ⟨L, h1, h2.fr f, h3, fun i w M a b => (h4 i w M a b).fr f⟩
theorem CA.mk {h : Heap} {b n : Nat} (l : List (Value × Mx)) (r : Rw h b (l.map (·.1))) (hp : ∀ x ∈ l, PA h x.1 n x.2) (hl : l.length ≤ 65536) : CA h (.slice (some ⟨b, 0, none⟩) l.length l.length) n (l.map (·.2)) := by
  refine ⟨l.map (·.1), by simp, ?_, by simpa using hl, fun i w M h1 h2 => ?_⟩
  · rw [List.length_map]; exact Rw.rd (s := 1) r (by simp)
  · rw [List.getElem?_map, Option.map_eq_some_iff] at h1 h2
    obtain ⟨x, hx, rfl⟩ := h1
    obtain ⟨y, hy, rfl⟩ := h2
    rw [hx] at hy; cases hy
    exact hp x (List.mem_of_getElem? hx)
/-- The pairs of one of some. -/
def orM (l : List Mx) : Mx := fun i j => l.any fun X => X i j
theorem UA.mk' {h : Heap} {b n : Nat} (l : List (Value × Mx)) (r : Rw h b (l.map (·.1))) (hp : ∀ x ∈ l, PA h x.1 n x.2) (hne : l ≠ []) (hl : l.length ≤ 65536) : UA h (.slice (some ⟨b, 0, none⟩) l.length l.length) n (orM (l.map (·.2))) :=
  UA.mk l r hp hne hl fun i j _ _ => by unfold orM; rw [List.any_map]; rfl
theorem pa_nil {h : Heap} {n : Nat} : ∀ x ∈ ([] : List (Value × Mx)), PA h x.1 n x.2 := fun x hx => by cases hx
theorem pa_cons {h : Heap} {n : Nat} {v : Value} {M : Mx} {l : List (Value × Mx)} (a : PA h v n M) (t : ∀ x ∈ l, PA h x.1 n x.2) : ∀ x ∈ (v, M) :: l, PA h x.1 n x.2 := fun x hx => by
  rcases List.mem_cons.1 hx with rfl | hx
  · exact a
  · exact t x hx
def tC (n : Nat) (l : List Mx) : Tell := tell1 fun v _ _ h => CA h v n l
def tU (n : Nat) (M : Mx) : Tell := tell1 fun v _ _ h => UA h v n M
def tN (L n : Nat) (M : Mx) : Tell := tell1 fun v _ _ h => PN h L v n M
theorem stC (n : Nat) (l : List Mx) : Stab (tC n l) := Stab.one fun _ _ _ _ _ f t => t.fr f
theorem stU (n : Nat) (M : Mx) : Stab (tU n M) := Stab.one fun _ _ _ _ _ f t => t.fr f
theorem stN (L n : Nat) (M : Mx) : Stab (tN L n M) := Stab.one fun _ _ _ _ _ f t => t.fr f (.inr (.inr (Nat.le_refl _)))
theorem tC_eq (n : Nat) (l : List Mx) (u : Out) (h : Heap) : tC n l [u] h = CA h u.1 n l := (rfl)
theorem tU_eq (n : Nat) (M : Mx) (u : Out) (h : Heap) : tU n M [u] h = UA h u.1 n M := (rfl)
theorem tN_eq (L n : Nat) (M : Mx) (u : Out) (h : Heap) : tN L n M [u] h = PN h L u.1 n M := (rfl)
/-! ### What some operations make -/
def dM (f : Nat → Bool) : Mx := fun i j => i == j && f i
theorem exB_congr {n : Nat} {f g : Nat → Bool} (h : ∀ k, k < n → f k = g k) : exB n f = exB n g := by
  unfold exB
  rw [Bool.eq_iff_iff, List.any_eq_true, List.any_eq_true]
  exact ⟨fun ⟨k, hk, e⟩ => ⟨k, hk, by rw [← h k (List.mem_range.1 hk)]; exact e⟩, fun ⟨k, hk, e⟩ => ⟨k, hk, by rw [h k (List.mem_range.1 hk)]; exact e⟩⟩
section
variable {n i j : Nat} {A B : Mx} {f : Nat → Bool}
theorem interM_in (hi : i < n) (hj : j < n) : interM n A n B i j = (A i j && B i j) := by unfold interM; rw [inN_in hi hj, inN_in hi hj]
theorem minusM_in (hi : i < n) (hj : j < n) : minusM n A n B i j = (A i j && !B i j) := by unfold minusM; rw [inN_in hi hj, inN_in hi hj]
theorem compM_in (hi : i < n) (hj : j < n) : compM n A n B i j = exB n fun k => A i k && B k j := by
  show exB n (fun k => inN n A i k && inN n B k j) = _
  exact exB_congr fun k hk => by rw [inN_in hi hk, inN_in hk hj]
theorem exB_one (hi : i < n) {g : Nat → Bool} : (exB n fun k => i == k && g k) = g i := by
  rw [Bool.eq_iff_iff, exB_true]
  constructor
  · rintro ⟨k, hk, h⟩
    simp only [Bool.and_eq_true, beq_iff_eq] at h
    rw [h.1]; exact h.2
  · intro h; exact ⟨i, hi, by simp [h]⟩
theorem compM_dR (hi : i < n) (hj : j < n) : compM n A n (dM f) i j = (A i j && f j) := by
  rw [compM_in hi hj]
  have : (exB n fun k => A i k && dM f k j) = exB n fun k => j == k && (A i k && f k) := exB_congr fun k _ => by
    unfold dM
    have : (k == j) = (j == k) := by rw [Bool.eq_iff_iff, beq_iff_eq, beq_iff_eq]; exact eq_comm
    rw [this]
    cases A i k <;> cases (j == k) <;> cases f k <;> rfl
  rw [this, exB_one hj]
theorem compM_dL (hi : i < n) (hj : j < n) : compM n (dM f) n A i j = (f i && A i j) := by
  rw [compM_in hi hj]
  have : (exB n fun k => dM f i k && A k j) = exB n fun k => i == k && (f i && A k j) := exB_congr fun k _ => by
    unfold dM
    cases A k j <;> cases (i == k) <;> cases f i <;> rfl
  rw [this, exB_one hi]
end
theorem arm_chain {v0 lv : Value} {n : Nat} {A : Mx} {l : List Mx} {h : Heap} (h0 : PA h v0 n A) (hl : CA h lv n l) (ht : TabAt h) :
    Con Tryd.prog 122 #[v0, lv] h fun v h' => Fr 0 0 h h' ∧ PA h' v n (chM n A l) ∧ (l ≠ [] → PN h' h.size v n (chM n A l)) := by
  refine con_arm_chain ?_
  obtain ⟨ws', hwl, hr, hlen, hp⟩ := hl
  obtain ⟨la, lc, rfl⟩ := hr.is
  have p0 : Fr 0 0 h h := .refl _ _ _
  simp -dsimp only [go_sem]
  refine loop_intro (fun s : Nat × Value => [(0, s.2), (7, .slice la ws'.length lc), (8, .int .i64 ws'.length), (9, .int .i64 s.1)])
    (fun s h' => s.1 ≤ ws'.length ∧ Fr 0 0 h h' ∧ PA h' s.2 n (chM n A (l.take s.1)) ∧ (0 < s.1 → PN h' h.size s.2 n (chM n A (l.take s.1)))) (fun s => ws'.length - s.1) (0, v0) ?_ ?_ ?_
  · simp [Le, find]
  · exact ⟨by omega, p0, h0, by simp⟩
  clear p0
  rintro ⟨i, v⟩ h1 ⟨hi, p0, t, tn⟩
  dsimp only at hi t tn ⊢
  have p0_z := p0.size
  by_cases hlt : i < ws'.length
  · have e1 : ((i : Int) < (ws'.length : Int)) := by omega
    have hw : ws'[i]? = some ws'[i] := List.getElem?_eq_getElem hlt
    have hM : l[i]? = some (l[i]'(by omega)) := List.getElem?_eq_getElem (by omega)
    have tw := (hp i _ _ hw hM).fr p0
    generalize ws'[i] = w at hw tw
    have hs : l.take (i + 1) = l.take i ++ [l[i]'(by omega)] := by rw [List.take_add_one, hM]; rfl
    generalize l[i]'(by omega) = B at hM tw hs
    obtain ⟨hl1, a', c', k1, k2⟩ := hr
    cases k1
    rcases k2 with k2 | ⟨b, o, rfl, hc⟩
    · omega
    have hc := p0.keep (hc i _ hw) (by omega)
    simp -dsimp only [go_sem, e1, hc]
    obtain ⟨_, _, t1⟩ := t
    obtain ⟨_, _, t2⟩ := tw
    refine call_of (rel_Comp t1 t2 (ht.fr p0 (.inr rfl))) ?_
    rintro v2 h2 ⟨f2, t3⟩
    rw [Nat.max_self] at t3
    have q2 := f2.size
    have p0_z := p0.size
    have f2_z := f2.size
    replace p0 := p0.fresh f2 (by omega)
    have hch : chM n A (l.take (i + 1)) = compM n (chM n A (l.take i)) n B := by rw [hs]; unfold chM; rw [List.foldl_append]; rfl
    simp -dsimp only [go_sem]
    simp -dsimp (disch := omega) only [wrap64]
    refine ⟨(i + 1, v2), by dsimp only; omega, by simp [Le, find], by dsimp only; omega, p0, ?_, fun _ => ?_⟩
    · dsimp only; rw [hch]; exact ⟨_, _, t3⟩
    · dsimp only; rw [hch]; exact (PN.of t3).lower (by omega)
  · obtain rfl : i = ws'.length := by omega
    simp -dsimp only [go_sem, Int.lt_irrefl]
    rw [hwl, List.take_length] at t tn
    refine ⟨p0, t, fun hne => tn ?_⟩
    exact List.length_pos_iff.2 hne
end Go.Proofs.Tst
/-
  The words' memory model in memory: its parts.
-/
namespace Go.Proofs.Tst
open Go Go.Vc
def mcells (q : GV) (g : Gr) (c : Nat → Nat) (rd wr fe : Value) (d : Nat → Nat) : List Value := [.int .i64 g.cells, .slice q.e g.evs.length q.ec, .slice q.f g.rf.length q.fc, .slice q.o g.co.length q.oc, .slice q.r g.rmw.length q.rc, .slice q.a g.addr.length q.ac, .slice q.d g.data.length q.dc, .slice q.c g.ctrl.length q.cc,
  .pointer (some ⟨c 0, 0, none⟩), .pointer (some ⟨c 1, 0, none⟩), .pointer (some ⟨c 2, 0, none⟩), .pointer (some ⟨c 9, 0, none⟩), .pointer (some ⟨c 3, 0, none⟩), .pointer (some ⟨c 4, 0, none⟩), .pointer (some ⟨c 5, 0, none⟩), .pointer (some ⟨c 6, 0, none⟩), .pointer (some ⟨c 7, 0, none⟩), .pointer (some ⟨c 8, 0, none⟩), rd, wr, fe,
  .pointer (some ⟨d 0, 0, none⟩), .pointer (some ⟨d 1, 0, none⟩), .pointer (some ⟨d 2, 0, none⟩), .pointer (some ⟨d 3, 0, none⟩), .pointer (some ⟨d 4, 0, none⟩), .pointer (some ⟨d 5, 0, none⟩)]
def armM (g : Gr) : Nat → Mx
  | 0 => rfeM g
  | 1 => rfiM g
  | 2 => coeM g
  | 3 => coiM g
  | 4 => freM g
  | _ => dM (acqB g)
structure Md (h : Heap) (mb : Nat) (q : GV) (g : Gr) (c : Nat → Nat) (rd wr fe : Value) (d : Nat → Nat) : Prop where
  row : Rw h mb (mcells q g c rd wr fe d)
  gr : GrAt h q g
  n : g.n ≤ 256
  rel : ∀ k, k < 10 → PA h (.pointer (some ⟨c k, 0, none⟩)) g.n (relM g k)
  hm : ∀ k, k < 6 → PA h (.pointer (some ⟨d k, 0, none⟩)) g.n (armM g k)
  rd : Rd 1 h rd (kindsV g 1 g.n).length (boolsV (kindsV g 1 g.n))
  wr : Rd 1 h wr (kindsV g 2 g.n).length (boolsV (kindsV g 2 g.n))
  fe : Rd 1 h fe (kindsV g 3 g.n).length (boolsV (kindsV g 3 g.n))
theorem Md.fr {h h' : Heap} {mb : Nat} {q : GV} {g : Gr} {c : Nat → Nat} {rd wr fe : Value} {d : Nat → Nat} (m : Md h mb q g c rd wr fe d) (f : Fr 0 0 h h') : Md h' mb q g c rd wr fe d :=
  ⟨m.row.fr f (by omega), m.gr.fr f, m.n, fun k hk => (m.rel k hk).fr f, fun k hk => (m.hm k hk).fr f, m.rd.fr f, m.wr.fr f, m.fe.fr f⟩
/-- What it has of the graph. -/
structure Mg (h : Heap) (mb : Nat) (q : GV) (g : Gr) : Prop where
  row : ∃ rest, Rw h mb (gcells q g ++ rest)
  gr : GrAt h q g
  n : g.n ≤ 256
theorem Mg.fr {h h' : Heap} {mb : Nat} {q : GV} {g : Gr} (m : Mg h mb q g) (f : Fr 0 0 h h') : Mg h' mb q g :=
  ⟨by obtain ⟨r, w⟩ := m.row; exact ⟨r, w.fr f (by omega)⟩, m.gr.fr f, m.n⟩
theorem Md.mg {h : Heap} {mb : Nat} {q : GV} {g : Gr} {c : Nat → Nat} {rd wr fe : Value} {d : Nat → Nat} (m : Md h mb q g c rd wr fe d) : Mg h mb q g := ⟨⟨_, m.row⟩, m.gr, m.n⟩
theorem kinds_len (g : Gr) (k : Int) : (kindsV g k g.n).length = g.n := by simp [kindsV]; unfold Gr.n; omega
theorem atB_kinds {g : Gr} {k : Int} {i : Nat} (hi : i < g.n) : atB (kindsV g k g.n) i = isK g k i := atB_get (kindsV_get hi)
theorem atB_with {g : Gr} {x : Int} {i : Nat} (hi : i < g.n) : atB (withB g [x]) i = isM g x i := by
  refine atB_get ?_
  unfold withB isM
  rw [List.getElem?_map, Gr.ev_get hi]
  simp only [Option.map_some, Option.some.injEq]
  rw [Bool.eq_iff_iff]; simp
section
variable {h : Heap} {mb : Nat} {q : GV} {g : Gr} {c : Nat → Nat} {rd wr fe : Value} {d : Nat → Nat}
theorem arm_model_set (m : Mg h mb q g) {sv : Value} {l : List Bool} (hl : Rd 1 h sv l.length (boolsV l)) (hb : l.length ≤ 4611686018427387904) {f : Nat → Bool} (hf : ∀ i, i < g.n → atB l i = f i) :
    Con Tryd.prog 119 #[.pointer (some ⟨mb, 0, none⟩), sv] h fun v h' => Fr 0 0 h h' ∧ PN h' h.size v g.n (dM f) := by
  refine con_arm_model_set ?_
  have hn := m.n
  have hcl : clampN (g.n : Int) = g.n := by unfold clampN; omega
  have p0 : Fr 0 0 h h := .refl _ _ _
  obtain ⟨rest, r1⟩ := m.row
  unfold gcells at r1
  simp only [List.cons_append, List.nil_append] at r1
  simp -dsimp only [go_sem, evs_len, r1.cell]
  refine call_of (rel_Ident g.n hl hb) ?_
  rintro v h1 ⟨f1, t⟩
  rw [hcl] at t
  have f1_z := f1.size
  replace p0 := p0.fresh f1 (by omega)
  replace r1 := r1.fr f1 (by omega)
  simp -dsimp only [go_sem, r1.cell]
  exact ⟨p0, (PN.of t).congr fun i j hi hj => by
    show (i == j && atB l i) = (i == j && f i)
    rw [hf i hi]⟩
theorem arm_model_mode (m : Mg h mb q g) (x : Int) :
    Con Tryd.prog 109 #[.pointer (some ⟨mb, 0, none⟩), .int .i64 x] h fun v h' => Fr 0 0 h h' ∧ PN h' h.size v g.n (dM (isM g x)) := by
  refine con_arm_model_mode ?_
  have hn := m.n
  have p0 : Fr 0 0 h h := .refl _ _ _
  obtain ⟨rest, r1⟩ := m.row
  unfold gcells at r1
  simp only [List.cons_append, List.nil_append] at r1
  simp -dsimp only [go_sem, r1.cell]
  intro b2 h2 n2
  have n2_a := n2.at_
  have n2_z := n2.size
  replace p0 := p0.fresh (n2.fr (lo := 0) (hi := 0)) (by omega)
  replace r1 := r1.fr (n2.fr (lo := 0) (hi := 0)) (by omega)
  have r2 := n2.row
  simp -dsimp only [go_sem, r1.cell, r2.cell]
  refine call_of (graph_With (m.gr.fr p0) (by omega) (m := [x]) (Rw.rd (s := 1) (n := 1) (c := 1) r2 rfl) (by simp)) ?_
  rintro v3 h3 ⟨f3, o3⟩
  have f3_z := f3.size
  replace p0 := p0.fresh f3 (by omega)
  replace r1 := r1.fr f3 (by omega)
  replace r2 := r2.fr f3 (by omega)
  have hwl : (withB g [x]).length = g.n := by simp [withB, Gr.n]
  simp -dsimp only [go_sem, r1.cell, r2.cell]
  refine call_of (arm_model_set (m.fr p0) (l := withB g [x]) (by rw [hwl]; exact o3.rd) (by omega) (fun i hi => atB_with hi)) ?_
  rintro v4 h4 ⟨f4, t4⟩
  have f4_z := f4.size
  replace p0 := p0.fresh f4 (by omega)
  replace r1 := r1.fr f4 (by omega)
  replace r2 := r2.fr f4 (by omega)
  simp -dsimp only [go_sem, r1.cell, r2.cell]
  exact ⟨p0, t4.lower (by omega)⟩
theorem arm_model_obs (m : Md h mb q g c rd wr fe d) :
    Con Tryd.prog 112 #[.pointer (some ⟨mb, 0, none⟩)] h fun v h' => Fr 0 0 h h' ∧ PN h' h.size v g.n (obsM g) := by
  refine con_arm_model_obs ?_
  have p0 : Fr 0 0 h h := .refl _ _ _
  have r1 := m.row
  unfold mcells at r1
  simp -dsimp only [go_sem, r1.cell]
  intro b2 h2 n2
  have n2_a := n2.at_
  have n2_z := n2.size
  replace p0 := p0.fresh (n2.fr (lo := 0) (hi := 0)) (by omega)
  replace r1 := r1.fr (n2.fr (lo := 0) (hi := 0)) (by omega)
  have r2 := n2.row
  simp -dsimp only [go_sem, r1.cell, r2.cell]
  have m2 := m.fr p0
  refine call_of (rel_UnionU (UA.mk' [(.pointer (some ⟨d 0, 0, none⟩), rfeM g), (.pointer (some ⟨d 2, 0, none⟩), coeM g), (.pointer (some ⟨d 4, 0, none⟩), freM g)] r2 (pa_cons (m2.hm 0 (by decide)) (pa_cons (m2.hm 2 (by decide)) (pa_cons (m2.hm 4 (by decide)) pa_nil))) (by simp) (by simp))) ?_
  rintro v3 h3 ⟨f3, t3⟩
  have f3_z := f3.size
  replace p0 := p0.fresh f3 (by omega)
  replace r1 := r1.fr f3 (by omega)
  replace r2 := r2.fr f3 (by omega)
  simp -dsimp only [go_sem, r1.cell, r2.cell]
  exact ⟨p0, ((PN.of t3).lower (by omega)).congr fun i j _ _ => by simp [orM, obsM, Bool.or_assoc]⟩
set_option maxHeartbeats 2000000 in
theorem arm_model_dob (m : Md h mb q g c rd wr fe d) (ht : TabAt h) :
    Con Tryd.prog 113 #[.pointer (some ⟨mb, 0, none⟩)] h fun v h' => Fr 0 0 h h' ∧ PN h' h.size v g.n (dobM g) := by
  refine con_arm_model_dob ?_
  have hn := m.n
  have hkl := kinds_len g
  have p0 : Fr 0 0 h h := .refl _ _ _
  have r1 := m.row
  unfold mcells at r1
  simp -dsimp only [go_sem, r1.cell]
  refine call_of (arm_model_set (m.fr p0).mg (m.fr p0).wr (by rw [hkl]; omega) (fun i hi => atB_kinds hi)) ?_
  rintro v3 hL ⟨f3, w3⟩
  have f3_z := f3.size
  replace p0 := p0.fresh f3 (by omega)
  replace r1 := r1.fr f3 (by omega)
  obtain ⟨w, rfl⟩ := w3.pa.ptr
  simp -dsimp only [go_sem, r1.cell]
  have P0 : ∀ h', Fr 0 0 hL h' → Fr 0 0 h h' := fun h' f => p0.trans f
  have R : ∀ k, k < 10 → ∀ h', Fr 0 0 hL h' → PA h' (.pointer (some ⟨c k, 0, none⟩)) g.n (relM g k) := fun k hk h' f => (m.rel k hk).fr (P0 h' f)
  have E : ∀ k, k < 6 → ∀ h', Fr 0 0 hL h' → PA h' (.pointer (some ⟨d k, 0, none⟩)) g.n (armM g k) := fun k hk h' f => (m.hm k hk).fr (P0 h' f)
  have W : ∀ h', Fr 0 0 hL h' → PA h' (.pointer (some ⟨w, 0, none⟩)) g.n (dM (isK g 2)) := fun h' f => w3.pa.fr f
  have hLz : h.size ≤ hL.size := by omega
  clear p0 r1
  refine free_intro [(16, [16], tC g.n [(dM (isK g 2))]), (17, [17], tN hL.size g.n (chM g.n (relM g 8) [(dM (isK g 2))])), (29, [29], tC g.n [(relM g 0), (dM (isK g 2))]), (30, [30], tN hL.size g.n (chM g.n (relM g 6) [(relM g 0), (dM (isK g 2))])), (41, [41], tU g.n (orM [(relM g 8), (relM g 7)])), (42, [42], tN hL.size g.n (orM [(relM g 8), (relM g 7)])), (47, [47], tC g.n [(coiM g)]), (48, [48], tN hL.size g.n (chM g.n (orM [(relM g 8), (relM g 7)]) [(coiM g)])), (59, [59], tU g.n (orM [(relM g 6), (relM g 7)])), (60, [60], tN hL.size g.n (orM [(relM g 6), (relM g 7)])), (65, [65], tC g.n [(rfiM g)]), (66, [66], tN hL.size g.n (chM g.n (orM [(relM g 6), (relM g 7)]) [(rfiM g)])), (67, [67], tU g.n (orM [(relM g 6), (relM g 7), (chM g.n (relM g 8) [(dM (isK g 2))]), (chM g.n (relM g 6) [(relM g 0), (dM (isK g 2))]), (chM g.n (orM [(relM g 8), (relM g 7)]) [(coiM g)]), (chM g.n (orM [(relM g 6), (relM g 7)]) [(rfiM g)])])), (68, [68], tN hL.size g.n (orM [(relM g 6), (relM g 7), (chM g.n (relM g 8) [(dM (isK g 2))]), (chM g.n (relM g 6) [(relM g 0), (dM (isK g 2))]), (chM g.n (orM [(relM g 8), (relM g 7)]) [(coiM g)]), (chM g.n (orM [(relM g 6), (relM g 7)]) [(rfiM g)])])), (69, [69], tN hL.size g.n (orM [(relM g 6), (relM g 7), (chM g.n (relM g 8) [(dM (isK g 2))]), (chM g.n (relM g 6) [(relM g 0), (dM (isK g 2))]), (chM g.n (orM [(relM g 8), (relM g 7)]) [(coiM g)]), (chM g.n (orM [(relM g 6), (relM g 7)]) [(rfiM g)])]))] ?_ rfl ?_ ?_
  · exact ⟨stC _ _, stN _ _ _, stC _ _, stN _ _ _, stU _ _, stN _ _ _, stC _ _, stN _ _ _, stU _ _, stN _ _ _, stC _ _, stN _ _ _, stU _ _, stN _ _ _, stN _ _ _, trivial⟩
  · simp -dsimp only [go_sem, tC_eq, tU_eq, tN_eq]
    refine ⟨fun h4 f4 V => ?_, fun h4 f4 V a16 => ?_, fun h4 f4 V => ?_, fun h4 f4 V a29 a17 => ?_, fun h4 f4 V => ?_, fun h4 f4 V a41 a30 => ?_, fun h4 f4 V => ?_, fun h4 f4 V a47 a42 => ?_, fun h4 f4 V => ?_, fun h4 f4 V a59 a48 => ?_, fun h4 f4 V => ?_, fun h4 f4 V a65 a60 => ?_, fun h4 f4 V a17 a30 a48 a66 => ?_, fun h4 f4 V a67 a66 => ?_, fun h4 f4 V a16 a17 a29 a30 a41 a42 a47 a48 a59 a60 a65 a66 a67 a68 => ?_⟩
    · try simp -dsimp only [go_sem, putAt_one]
      intro b5 h5 n5
      try simp -dsimp only [go_sem] at n5
      simp -dsimp only [go_sem, tU_eq, tC_eq]
      exact ⟨n5.fr, CA.mk [(.pointer (some ⟨w, 0, none⟩), (dM (isK g 2)))] n5.row (pa_cons (PA.fr (W h4 f4) n5.fr) (pa_nil)) (by simp)⟩
    · try simp -dsimp only [go_sem]
      refine call_of (arm_chain (R 8 (by decide) h4 f4) a16 (ht.fr (P0 h4 f4) (.inr rfl))) ?_
      rintro v h5 ⟨f5, -, w⟩
      simp -dsimp only [go_sem, tN_eq]
      exact ⟨f5, PN.lower (w (by simp)) f4.size⟩
    · try simp -dsimp only [go_sem, putAt_one]
      intro b5 h5 n5
      try simp -dsimp only [go_sem] at n5
      simp -dsimp only [go_sem, tU_eq, tC_eq]
      exact ⟨n5.fr, CA.mk [(.pointer (some ⟨c 0, 0, none⟩), (relM g 0)), (.pointer (some ⟨w, 0, none⟩), (dM (isK g 2)))] n5.row (pa_cons (PA.fr (R 0 (by decide) h4 f4) n5.fr) (pa_cons (PA.fr (W h4 f4) n5.fr) (pa_nil))) (by simp)⟩
    · try simp -dsimp only [go_sem]
      refine call_of (arm_chain (R 6 (by decide) h4 f4) a29 (ht.fr (P0 h4 f4) (.inr rfl))) ?_
      rintro v h5 ⟨f5, -, w⟩
      simp -dsimp only [go_sem, tN_eq]
      exact ⟨f5, PN.lower (w (by simp)) f4.size⟩
    · try simp -dsimp only [go_sem, putAt_one]
      intro b5 h5 n5
      try simp -dsimp only [go_sem] at n5
      simp -dsimp only [go_sem, tU_eq, tC_eq]
      exact ⟨n5.fr, UA.mk' [(.pointer (some ⟨c 8, 0, none⟩), (relM g 8)), (.pointer (some ⟨c 7, 0, none⟩), (relM g 7))] n5.row (pa_cons (PA.fr (R 8 (by decide) h4 f4) n5.fr) (pa_cons (PA.fr (R 7 (by decide) h4 f4) n5.fr) (pa_nil))) (by simp) (by simp)⟩
    · try simp -dsimp only [go_sem]
      refine call_of (rel_UnionU a41) ?_
      rintro v h5 ⟨f5, w⟩
      simp -dsimp only [go_sem, tN_eq]
      exact ⟨f5, PN.lower (PN.of w) f4.size⟩
    · try simp -dsimp only [go_sem, putAt_one]
      intro b5 h5 n5
      try simp -dsimp only [go_sem] at n5
      simp -dsimp only [go_sem, tU_eq, tC_eq]
      exact ⟨n5.fr, CA.mk [(.pointer (some ⟨d 3, 0, none⟩), (coiM g))] n5.row (pa_cons (PA.fr (E 3 (by decide) h4 f4) n5.fr) (pa_nil)) (by simp)⟩
    · try simp -dsimp only [go_sem]
      refine call_of (arm_chain (a42.pa) a47 (ht.fr (P0 h4 f4) (.inr rfl))) ?_
      rintro v h5 ⟨f5, -, w⟩
      simp -dsimp only [go_sem, tN_eq]
      exact ⟨f5, PN.lower (w (by simp)) f4.size⟩
    · try simp -dsimp only [go_sem, putAt_one]
      intro b5 h5 n5
      try simp -dsimp only [go_sem] at n5
      simp -dsimp only [go_sem, tU_eq, tC_eq]
      exact ⟨n5.fr, UA.mk' [(.pointer (some ⟨c 6, 0, none⟩), (relM g 6)), (.pointer (some ⟨c 7, 0, none⟩), (relM g 7))] n5.row (pa_cons (PA.fr (R 6 (by decide) h4 f4) n5.fr) (pa_cons (PA.fr (R 7 (by decide) h4 f4) n5.fr) (pa_nil))) (by simp) (by simp)⟩
    · try simp -dsimp only [go_sem]
      refine call_of (rel_UnionU a59) ?_
      rintro v h5 ⟨f5, w⟩
      simp -dsimp only [go_sem, tN_eq]
      exact ⟨f5, PN.lower (PN.of w) f4.size⟩
    · try simp -dsimp only [go_sem, putAt_one]
      intro b5 h5 n5
      try simp -dsimp only [go_sem] at n5
      simp -dsimp only [go_sem, tU_eq, tC_eq]
      exact ⟨n5.fr, CA.mk [(.pointer (some ⟨d 1, 0, none⟩), (rfiM g))] n5.row (pa_cons (PA.fr (E 1 (by decide) h4 f4) n5.fr) (pa_nil)) (by simp)⟩
    · try simp -dsimp only [go_sem]
      refine call_of (arm_chain (a60.pa) a65 (ht.fr (P0 h4 f4) (.inr rfl))) ?_
      rintro v h5 ⟨f5, -, w⟩
      simp -dsimp only [go_sem, tN_eq]
      exact ⟨f5, PN.lower (w (by simp)) f4.size⟩
    · try simp -dsimp only [go_sem, a17.pa.cl, a30.pa.cl, a48.pa.cl, a66.pa.cl, putAt_one]
      intro b5 h5 n5
      try simp -dsimp only [go_sem] at n5
      simp -dsimp only [go_sem, tU_eq, tC_eq]
      exact ⟨n5.fr, UA.mk' [(.pointer (some ⟨c 6, 0, none⟩), (relM g 6)), (.pointer (some ⟨c 7, 0, none⟩), (relM g 7)), ((V 17).1, (chM g.n (relM g 8) [(dM (isK g 2))])), ((V 30).1, (chM g.n (relM g 6) [(relM g 0), (dM (isK g 2))])), ((V 48).1, (chM g.n (orM [(relM g 8), (relM g 7)]) [(coiM g)])), ((V 66).1, (chM g.n (orM [(relM g 6), (relM g 7)]) [(rfiM g)]))] n5.row (pa_cons (PA.fr (R 6 (by decide) h4 f4) n5.fr) (pa_cons (PA.fr (R 7 (by decide) h4 f4) n5.fr) (pa_cons (PA.fr (a17.pa) n5.fr) (pa_cons (PA.fr (a30.pa) n5.fr) (pa_cons (PA.fr (a48.pa) n5.fr) (pa_cons (PA.fr (a66.pa) n5.fr) (pa_nil))))))) (by simp) (by simp)⟩
    · try simp -dsimp only [go_sem]
      refine call_of (rel_UnionU a67) ?_
      rintro v h5 ⟨f5, w⟩
      simp -dsimp only [go_sem, tN_eq]
      exact ⟨f5, PN.lower (PN.of w) f4.size⟩
    · try simp -dsimp only [go_sem, tN_eq]
      exact ⟨.refl _ _ _, a68⟩
  · intro h4 f4 V _
    simp -dsimp only [go_sem, tC_eq, tU_eq, tN_eq]
    intro a16 a17 a29 a30 a41 a42 a47 a48 a59 a60 a65 a66 a67 a68 a69
    try simp -dsimp only [go_sem]
    refine ⟨P0 h4 f4, (a69.lower hLz).congr fun i j hi hj => ?_⟩
    unfold orM dobM chM
    simp only [List.foldl_cons, List.foldl_nil, List.any_cons, List.any_nil, Bool.or_false, compM_dR hi hj]
    rw [compM_in hi hj, compM_in hi hj, compM_in hi hj]
    simp only [Bool.or_assoc]
set_option maxHeartbeats 2000000 in
theorem arm_model_bob (m : Md h mb q g c rd wr fe d) (ht : TabAt h) :
    Con Tryd.prog 115 #[.pointer (some ⟨mb, 0, none⟩)] h fun v h' => Fr 0 0 h h' ∧ PN h' h.size v g.n (bobM g) := by
  refine con_arm_model_bob ?_
  have hn := m.n
  have hkl := kinds_len g
  have p0 : Fr 0 0 h h := .refl _ _ _
  have r1 := m.row
  unfold mcells at r1
  simp -dsimp only [go_sem, r1.cell]
  refine call_of (arm_model_mode (m.fr p0).mg 12) ?_
  rintro v3 h3 ⟨f3, w3⟩
  have f3_z := f3.size
  replace p0 := p0.fresh f3 (by omega)
  replace r1 := r1.fr f3 (by omega)
  obtain ⟨ra, rfl⟩ := w3.pa.ptr
  simp -dsimp only [go_sem, r1.cell]
  refine call_of (arm_model_mode (m.fr p0).mg 13) ?_
  rintro v4 hL ⟨f4', w4⟩
  have f4'_z := f4'.size
  replace p0 := p0.fresh f4' (by omega)
  replace r1 := r1.fr f4' (by omega)
  obtain ⟨rl, rfl⟩ := w4.pa.ptr
  have w3' := w3.pa.fr f4'
  simp -dsimp only [go_sem, r1.cell]
  have P0 : ∀ h', Fr 0 0 hL h' → Fr 0 0 h h' := fun h' f => p0.trans f
  have MD : ∀ h', Fr 0 0 hL h' → Md h' mb q g c rd wr fe d := fun h' f => m.fr (P0 h' f)
  have R : ∀ k, k < 10 → ∀ h', Fr 0 0 hL h' → PA h' (.pointer (some ⟨c k, 0, none⟩)) g.n (relM g k) := fun k hk h' f => (m.rel k hk).fr (P0 h' f)
  have E : ∀ k, k < 6 → ∀ h', Fr 0 0 hL h' → PA h' (.pointer (some ⟨d k, 0, none⟩)) g.n (armM g k) := fun k hk h' f => (m.hm k hk).fr (P0 h' f)
  have RA : ∀ h', Fr 0 0 hL h' → PA h' (.pointer (some ⟨ra, 0, none⟩)) g.n (dM (isM g 12)) := fun h' f => w3'.fr f
  have RL : ∀ h', Fr 0 0 hL h' → PA h' (.pointer (some ⟨rl, 0, none⟩)) g.n (dM (isM g 13)) := fun h' f => w4.pa.fr f
  have hLz : h.size ≤ hL.size := by omega
  clear p0 r1
  refine free_intro [(6, [6], tN hL.size g.n (dM (isM g 15))), (12, [12], tC g.n [(dM (isM g 15)), (relM g 0)]), (13, [13], tN hL.size g.n (chM g.n (relM g 0) [(dM (isM g 15)), (relM g 0)])), (20, [20], tN hL.size g.n (dM (isK g 1))), (27, [27], tN hL.size g.n (dM (isM g 14))), (33, [33], tC g.n [(relM g 0), (dM (isM g 14)), (relM g 0)]), (34, [34], tN hL.size g.n (chM g.n (dM (isK g 1)) [(relM g 0), (dM (isM g 14)), (relM g 0)])), (42, [42], tC g.n [(relM g 0), (dM (isM g 12))]), (43, [43], tN hL.size g.n (chM g.n (dM (isM g 13)) [(relM g 0), (dM (isM g 12))])), (53, [53], tC g.n [(relM g 0)]), (54, [54], tN hL.size g.n (chM g.n (dM (acqB g)) [(relM g 0)])), (61, [61], tC g.n [(dM (isM g 13))]), (62, [62], tN hL.size g.n (chM g.n (relM g 0) [(dM (isM g 13))])), (73, [73], tC g.n [(dM (isM g 13)), (coiM g)]), (74, [74], tN hL.size g.n (chM g.n (relM g 0) [(dM (isM g 13)), (coiM g)])), (75, [75], tU g.n (orM [(chM g.n (relM g 0) [(dM (isM g 15)), (relM g 0)]), (chM g.n (dM (isK g 1)) [(relM g 0), (dM (isM g 14)), (relM g 0)]), (chM g.n (dM (isM g 13)) [(relM g 0), (dM (isM g 12))]), (chM g.n (dM (acqB g)) [(relM g 0)]), (chM g.n (relM g 0) [(dM (isM g 13))]), (chM g.n (relM g 0) [(dM (isM g 13)), (coiM g)])])), (76, [76], tN hL.size g.n (orM [(chM g.n (relM g 0) [(dM (isM g 15)), (relM g 0)]), (chM g.n (dM (isK g 1)) [(relM g 0), (dM (isM g 14)), (relM g 0)]), (chM g.n (dM (isM g 13)) [(relM g 0), (dM (isM g 12))]), (chM g.n (dM (acqB g)) [(relM g 0)]), (chM g.n (relM g 0) [(dM (isM g 13))]), (chM g.n (relM g 0) [(dM (isM g 13)), (coiM g)])])), (77, [77], tN hL.size g.n (orM [(chM g.n (relM g 0) [(dM (isM g 15)), (relM g 0)]), (chM g.n (dM (isK g 1)) [(relM g 0), (dM (isM g 14)), (relM g 0)]), (chM g.n (dM (isM g 13)) [(relM g 0), (dM (isM g 12))]), (chM g.n (dM (acqB g)) [(relM g 0)]), (chM g.n (relM g 0) [(dM (isM g 13))]), (chM g.n (relM g 0) [(dM (isM g 13)), (coiM g)])]))] ?_ rfl ?_ ?_
  · exact ⟨stN _ _ _, stC _ _, stN _ _ _, stN _ _ _, stN _ _ _, stC _ _, stN _ _ _, stC _ _, stN _ _ _, stC _ _, stN _ _ _, stC _ _, stN _ _ _, stC _ _, stN _ _ _, stU _ _, stN _ _ _, stN _ _ _, trivial⟩
  · simp -dsimp only [go_sem, tC_eq, tU_eq, tN_eq]
    refine ⟨fun h4 f4 V => ?_, fun h4 f4 V a6 => ?_, fun h4 f4 V a12 a6 => ?_, fun h4 f4 V a13 => ?_, fun h4 f4 V a20 => ?_, fun h4 f4 V a27 => ?_, fun h4 f4 V a20 a33 a27 => ?_, fun h4 f4 V => ?_, fun h4 f4 V a42 a34 => ?_, fun h4 f4 V => ?_, fun h4 f4 V a53 a43 => ?_, fun h4 f4 V => ?_, fun h4 f4 V a61 a54 => ?_, fun h4 f4 V => ?_, fun h4 f4 V a73 a62 => ?_, fun h4 f4 V a13 a34 a43 a54 a62 a74 => ?_, fun h4 f4 V a75 a74 => ?_, fun h4 f4 V a6 a12 a13 a20 a27 a33 a34 a42 a43 a53 a54 a61 a62 a73 a74 a75 a76 => ?_⟩
    · try simp -dsimp only [go_sem]
      refine call_of (arm_model_mode (MD h4 f4).mg 15) ?_
      rintro v h5 ⟨f5, w⟩
      simp -dsimp only [go_sem, tN_eq]
      exact ⟨f5, PN.lower w f4.size⟩
    · try simp -dsimp only [go_sem, a6.pa.cl, putAt_one]
      intro b5 h5 n5
      try simp -dsimp only [go_sem] at n5
      simp -dsimp only [go_sem, tU_eq, tC_eq]
      exact ⟨n5.fr, CA.mk [((V 6).1, (dM (isM g 15))), (.pointer (some ⟨c 0, 0, none⟩), (relM g 0))] n5.row (pa_cons (PA.fr (a6.pa) n5.fr) (pa_cons (PA.fr (R 0 (by decide) h4 f4) n5.fr) (pa_nil))) (by simp)⟩
    · try simp -dsimp only [go_sem]
      refine call_of (arm_chain (R 0 (by decide) h4 f4) a12 (ht.fr (P0 h4 f4) (.inr rfl))) ?_
      rintro v h5 ⟨f5, -, w⟩
      simp -dsimp only [go_sem, tN_eq]
      exact ⟨f5, PN.lower (w (by simp)) f4.size⟩
    · try simp -dsimp only [go_sem]
      refine call_of (arm_model_set (MD h4 f4).mg (l := kindsV g 1 g.n) (MD h4 f4).rd (by rw [hkl]; omega) (fun i hi => atB_kinds hi)) ?_
      rintro v h5 ⟨f5, w⟩
      simp -dsimp only [go_sem, tN_eq]
      exact ⟨f5, PN.lower w f4.size⟩
    · try simp -dsimp only [go_sem]
      refine call_of (arm_model_mode (MD h4 f4).mg 14) ?_
      rintro v h5 ⟨f5, w⟩
      simp -dsimp only [go_sem, tN_eq]
      exact ⟨f5, PN.lower w f4.size⟩
    · try simp -dsimp only [go_sem, a27.pa.cl, putAt_one]
      intro b5 h5 n5
      try simp -dsimp only [go_sem] at n5
      simp -dsimp only [go_sem, tU_eq, tC_eq]
      exact ⟨n5.fr, CA.mk [(.pointer (some ⟨c 0, 0, none⟩), (relM g 0)), ((V 27).1, (dM (isM g 14))), (.pointer (some ⟨c 0, 0, none⟩), (relM g 0))] n5.row (pa_cons (PA.fr (R 0 (by decide) h4 f4) n5.fr) (pa_cons (PA.fr (a27.pa) n5.fr) (pa_cons (PA.fr (R 0 (by decide) h4 f4) n5.fr) (pa_nil)))) (by simp)⟩
    · try simp -dsimp only [go_sem]
      refine call_of (arm_chain (a20.pa) a33 (ht.fr (P0 h4 f4) (.inr rfl))) ?_
      rintro v h5 ⟨f5, -, w⟩
      simp -dsimp only [go_sem, tN_eq]
      exact ⟨f5, PN.lower (w (by simp)) f4.size⟩
    · try simp -dsimp only [go_sem, putAt_one]
      intro b5 h5 n5
      try simp -dsimp only [go_sem] at n5
      simp -dsimp only [go_sem, tU_eq, tC_eq]
      exact ⟨n5.fr, CA.mk [(.pointer (some ⟨c 0, 0, none⟩), (relM g 0)), (.pointer (some ⟨ra, 0, none⟩), (dM (isM g 12)))] n5.row (pa_cons (PA.fr (R 0 (by decide) h4 f4) n5.fr) (pa_cons (PA.fr (RA h4 f4) n5.fr) (pa_nil))) (by simp)⟩
    · try simp -dsimp only [go_sem]
      refine call_of (arm_chain (RL h4 f4) a42 (ht.fr (P0 h4 f4) (.inr rfl))) ?_
      rintro v h5 ⟨f5, -, w⟩
      simp -dsimp only [go_sem, tN_eq]
      exact ⟨f5, PN.lower (w (by simp)) f4.size⟩
    · try simp -dsimp only [go_sem, putAt_one]
      intro b5 h5 n5
      try simp -dsimp only [go_sem] at n5
      simp -dsimp only [go_sem, tU_eq, tC_eq]
      exact ⟨n5.fr, CA.mk [(.pointer (some ⟨c 0, 0, none⟩), (relM g 0))] n5.row (pa_cons (PA.fr (R 0 (by decide) h4 f4) n5.fr) (pa_nil)) (by simp)⟩
    · try simp -dsimp only [go_sem]
      refine call_of (arm_chain (E 5 (by decide) h4 f4) a53 (ht.fr (P0 h4 f4) (.inr rfl))) ?_
      rintro v h5 ⟨f5, -, w⟩
      simp -dsimp only [go_sem, tN_eq]
      exact ⟨f5, PN.lower (w (by simp)) f4.size⟩
    · try simp -dsimp only [go_sem, putAt_one]
      intro b5 h5 n5
      try simp -dsimp only [go_sem] at n5
      simp -dsimp only [go_sem, tU_eq, tC_eq]
      exact ⟨n5.fr, CA.mk [(.pointer (some ⟨rl, 0, none⟩), (dM (isM g 13)))] n5.row (pa_cons (PA.fr (RL h4 f4) n5.fr) (pa_nil)) (by simp)⟩
    · try simp -dsimp only [go_sem]
      refine call_of (arm_chain (R 0 (by decide) h4 f4) a61 (ht.fr (P0 h4 f4) (.inr rfl))) ?_
      rintro v h5 ⟨f5, -, w⟩
      simp -dsimp only [go_sem, tN_eq]
      exact ⟨f5, PN.lower (w (by simp)) f4.size⟩
    · try simp -dsimp only [go_sem, putAt_one]
      intro b5 h5 n5
      try simp -dsimp only [go_sem] at n5
      simp -dsimp only [go_sem, tU_eq, tC_eq]
      exact ⟨n5.fr, CA.mk [(.pointer (some ⟨rl, 0, none⟩), (dM (isM g 13))), (.pointer (some ⟨d 3, 0, none⟩), (coiM g))] n5.row (pa_cons (PA.fr (RL h4 f4) n5.fr) (pa_cons (PA.fr (E 3 (by decide) h4 f4) n5.fr) (pa_nil))) (by simp)⟩
    · try simp -dsimp only [go_sem]
      refine call_of (arm_chain (R 0 (by decide) h4 f4) a73 (ht.fr (P0 h4 f4) (.inr rfl))) ?_
      rintro v h5 ⟨f5, -, w⟩
      simp -dsimp only [go_sem, tN_eq]
      exact ⟨f5, PN.lower (w (by simp)) f4.size⟩
    · try simp -dsimp only [go_sem, a13.pa.cl, a34.pa.cl, a43.pa.cl, a54.pa.cl, a62.pa.cl, a74.pa.cl, putAt_one]
      intro b5 h5 n5
      try simp -dsimp only [go_sem] at n5
      simp -dsimp only [go_sem, tU_eq, tC_eq]
      exact ⟨n5.fr, UA.mk' [((V 13).1, (chM g.n (relM g 0) [(dM (isM g 15)), (relM g 0)])), ((V 34).1, (chM g.n (dM (isK g 1)) [(relM g 0), (dM (isM g 14)), (relM g 0)])), ((V 43).1, (chM g.n (dM (isM g 13)) [(relM g 0), (dM (isM g 12))])), ((V 54).1, (chM g.n (dM (acqB g)) [(relM g 0)])), ((V 62).1, (chM g.n (relM g 0) [(dM (isM g 13))])), ((V 74).1, (chM g.n (relM g 0) [(dM (isM g 13)), (coiM g)]))] n5.row (pa_cons (PA.fr (a13.pa) n5.fr) (pa_cons (PA.fr (a34.pa) n5.fr) (pa_cons (PA.fr (a43.pa) n5.fr) (pa_cons (PA.fr (a54.pa) n5.fr) (pa_cons (PA.fr (a62.pa) n5.fr) (pa_cons (PA.fr (a74.pa) n5.fr) (pa_nil))))))) (by simp) (by simp)⟩
    · try simp -dsimp only [go_sem]
      refine call_of (rel_UnionU a75) ?_
      rintro v h5 ⟨f5, w⟩
      simp -dsimp only [go_sem, tN_eq]
      exact ⟨f5, PN.lower (PN.of w) f4.size⟩
    · try simp -dsimp only [go_sem, tN_eq]
      exact ⟨.refl _ _ _, a76⟩
  · intro h4 f4 V _
    simp -dsimp only [go_sem, tC_eq, tU_eq, tN_eq]
    intro a6 a12 a13 a20 a27 a33 a34 a42 a43 a53 a54 a61 a62 a73 a74 a75 a76 a77
    try simp -dsimp only [go_sem]
    refine ⟨P0 h4 f4, (a77.lower hLz).congr fun i j hi hj => ?_⟩
    unfold orM bobM chM
    simp only [List.foldl_cons, List.foldl_nil, List.any_cons, List.any_nil, Bool.or_false, compM_dR hi hj]
    have e1 : compM g.n (compM g.n (relM g 0) g.n (dM (isM g 15))) g.n (relM g 0) i j = exB g.n fun k => relM g 0 i k && isM g 15 k && relM g 0 k j := by
      rw [compM_in hi hj]; exact exB_congr fun k hk => by rw [compM_dR hi hk]
    have e2 : compM g.n (compM g.n (compM g.n (dM (isK g 1)) g.n (relM g 0)) g.n (dM (isM g 14))) g.n (relM g 0) i j = exB g.n fun k => isK g 1 i && relM g 0 i k && isM g 14 k && relM g 0 k j := by
      rw [compM_in hi hj]; exact exB_congr fun k hk => by rw [compM_dR hi hk, compM_dL hi hk]
    have e3 : compM g.n (compM g.n (relM g 0) g.n (dM (isM g 13))) g.n (coiM g) i j = exB g.n fun k => relM g 0 i k && isM g 13 k && coiM g k j := by
      rw [compM_in hi hj]; exact exB_congr fun k hk => by rw [compM_dR hi hk]
    rw [e1, e2, e3]
    simp only [compM_dL hi hj, Bool.or_assoc]
end
end Go.Proofs.Tst
/-
  How many bits a word has: the library's way of adding them up.
-/
namespace Go.Vc
end Go.Vc
namespace Go.Proofs.Tst
open Go Go.Vc
end Go.Proofs.Tst
namespace Go.Proofs.Tst
open Go Go.Vc
end Go.Proofs.Tst
namespace Go.Proofs.Tst
open Go Go.Vc
theorem ite_inj {b1 b2 : Bool} {k : Nat} (h : (if b1 = true then k + 1 else 0) = if b2 = true then k + 1 else 0) : b1 = b2 := by
  cases b1 <;> cases b2 <;> simp at h ⊢
/-- What is known within a round. -/
def midF (n : Nat) (M : Nat → Nat → Bool) (p k : Nat) (S : Nat → Bool) (i : Nat) : Nat := if farK n M p k i ≠ 0 then farK n M p k i else if S i = true then k + 1 else 0
theorem midF_end {n : Nat} {M : Nat → Nat → Bool} {p k : Nat} {S : Nat → Bool} {i : Nat} (h : S i = lay n M p (farK n M p k) k i) : midF n M p k S i = farK n M p (k + 1) i := by
  simp only [midF, farK, h]
theorem midF_le {n : Nat} {M : Nat → Nat → Bool} {p k : Nat} {S : Nat → Bool} {i : Nat} : midF n M p k S i ≤ k + 1 := by
  have := farK_le (n := n) (M := M) (p := p) k i
  unfold midF; split
  · omega
  · split <;> omega
/-- The points of a round. -/
def LayL (n : Nat) (M : Nat → Nat → Bool) (p k : Nat) (L : List Nat) : Prop := (k = 0 ∧ L = [p]) ∨ (0 < k ∧ ∀ i, i ∈ L ↔ i < n ∧ farK n M p k i = k)
theorem LayL.lay {n : Nat} {M : Nat → Nat → Bool} {p k : Nat} {L : List Nat} (h : LayL n M p k L) (i : Nat) : L.any (fun q => M i q) = lay n M p (farK n M p k) k i := by
  rcases h with ⟨rfl, rfl⟩ | ⟨hk, h⟩
  · simp [Go.Vc.lay]
  · obtain ⟨k, rfl⟩ : ∃ k', k = k' + 1 := ⟨k - 1, by omega⟩
    rw [Bool.eq_iff_iff, lay_succ, List.any_eq_true]
    exact ⟨fun ⟨q, hq, hm⟩ => ⟨q, ((h q).1 hq).1, hm, ((h q).1 hq).2⟩, fun ⟨q, hq, hm, hf⟩ => ⟨q, (h q).2 ⟨hq, hf⟩, hm⟩⟩
theorem LayL.lt {n : Nat} {M : Nat → Nat → Bool} {p k : Nat} {L : List Nat} (hp : p < n) (h : LayL n M p k L) {q : Nat} (hq : q ∈ L) : q < n := by
  rcases h with ⟨rfl, rfl⟩ | ⟨hk, h⟩
  · simp at hq; omega
  · exact ((h q).1 hq).1

set_option maxHeartbeats 1600000 in
theorem rel_shortest {n p : Nat} {M : Nat → Nat → Bool} {pv : Value} {lo hi : Nat} {h : Heap} (hr : ProgAt h lo hi pv n M) (ht : TabAt h) (hp : p < n) (hpp : farS n M p p ≠ 0) :
    Con Tryd.prog 110 #[pv, .int .i64 p] h fun v h' => Fr 0 0 h h' ∧ Holder 1 h' v (shortS n M p).length (natsV (shortS n M p)) h.size := by
  refine con_rel_Rel_shortest (fun v h1 h2 x ⟨f, o⟩ => ⟨x.fr f (Nat.le_refl _), o.ext x⟩) ?_
  have hr0 := hr
  obtain ⟨hn, pb, rb, R, W, rfl, t⟩ := hr
  simp -dsimp only [go_sem]
  refine call_of (rel_Inverse hr0 ht) ?_
  rintro v1 h1 ⟨p0, -, pb1, rb1, R1, W1, rfl, t1⟩
  have at1 := t1.at_
  have h1_z := p0.size
  have tp := t.fr p0 (by omega)
  simp -dsimp only [go_sem, tp.ptr.cell]
  refine Chk_intro (by omega) ?_
  intro bF h2 n2
  have n2_a := n2.at_
  have n2_z := n2.size
  replace p0 := p0.fresh (n2.fr (lo := 0) (hi := 0)) (by omega)
  replace t1 := t1.fr (n2.fr (lo := 0) (hi := 0)) (by omega)
  have rF := n2.row
  rw [zeros_one, Int.toNat_natCast, ivec_rep] at rF
  simp -dsimp only [go_sem, rF.cell]
  intro b6 h3 n3
  have n3_a := n3.at_
  have n3_z := n3.size
  replace p0 := p0.fresh (n3.fr (lo := 0) (hi := 0)) (by omega)
  replace t1 := t1.fr (n3.fr (lo := 0) (hi := 0)) (by omega)
  replace rF := rF.fr (n3.fr (lo := 0) (hi := 0)) (by omega)
  have r6 := n3.row
  simp -dsimp only [go_sem, rF.cell, r6.cell]
  refine Chk_intro (r6.wr (by first | (simp; done) | (simp; omega))) fun h4 s4 => ?_
  have s4_z := s4.size
  replace p0 := p0.fresh s4.fr (by omega)
  replace t1 := t1.fr s4.fr (by omega)
  replace rF := rF.fr s4.fr (by omega)
  replace r6 := s4.row r6
  try simp only [cl_int, cl_bool, cl_slice, cl_ptr, putAt_one, List.set_cons_zero, List.set_cons_succ, ivec_set, brow_upd] at r6
  simp -dsimp only [go_sem, rF.cell, r6.cell]
  intro bL h5 n5
  have n5_a := n5.at_
  have n5_z := n5.size
  replace p0 := p0.fresh (n5.fr (lo := 0) (hi := 0)) (by omega)
  replace t1 := t1.fr (n5.fr (lo := 0) (hi := 0)) (by omega)
  replace rF := rF.fr (n5.fr (lo := 0) (hi := 0)) (by omega)
  replace r6 := r6.fr (n5.fr (lo := 0) (hi := 0)) (by omega)
  have rL := n5.row
  simp -dsimp only [go_sem, rF.cell, r6.cell, rL.cell]
  intro b8 h6 n6
  have n6_a := n6.at_
  have n6_z := n6.size
  replace p0 := p0.fresh (n6.fr (lo := 0) (hi := 0)) (by omega)
  replace t1 := t1.fr (n6.fr (lo := 0) (hi := 0)) (by omega)
  replace rF := rF.fr (n6.fr (lo := 0) (hi := 0)) (by omega)
  replace r6 := r6.fr (n6.fr (lo := 0) (hi := 0)) (by omega)
  replace rL := rL.fr (n6.fr (lo := 0) (hi := 0)) (by omega)
  have r8 := n6.row
  simp -dsimp only [go_sem, rF.cell, r6.cell, rL.cell, r8.cell]
  refine Chk_intro (r8.wr (by first | (simp; done) | (simp; omega))) fun h7 s7 => ?_
  have s7_z := s7.size
  replace p0 := p0.fresh s7.fr (by omega)
  replace t1 := t1.fr s7.fr (by omega)
  replace rF := rF.fr s7.fr (by omega)
  replace r6 := r6.fr s7.fr (by omega)
  replace rL := rL.fr s7.fr (by omega)
  replace r8 := s7.row r8
  try simp only [cl_int, cl_bool, cl_slice, cl_ptr, putAt_one, List.set_cons_zero, List.set_cons_succ, ivec_set, brow_upd] at r8
  simp -dsimp only [go_sem, rF.cell, r6.cell, rL.cell, r8.cell]
  refine loop_intro (fun s : Nat × Value × Nat × Nat => [(0, .pointer (some ⟨pb, 0, none⟩)), (1, .int .i64 p), (4, .slice none 0 0), (5, .pointer (some ⟨pb1, 0, none⟩)), (6, .pointer (some ⟨b6, 0, none⟩)), (7, s.2.1), (8, .pointer (some ⟨s.2.2.1, 0, none⟩))])
    (fun s h' => Fr 0 0 h h' ∧ h7.size ≤ h'.size ∧ PTab h' h.size h1.size pb1 rb1 n R1 W1 (invM M) ∧ Rw h' b6 [.slice (some ⟨bF, 0, none⟩) n n] ∧ Rw h' bF (ivec n fun i => (farK n M p s.1 i : Int)) ∧ Rw h' s.2.2.1 [.int .i64 (s.1 + 1 : Nat)] ∧ b6 < s.2.2.1 ∧ s.1 ≤ n + 1 ∧
      ∃ L : List Nat, L.length = s.2.2.2 ∧ Holder 1 h' s.2.1 L.length (natsV L) bL ∧ bl s.2.1 ≠ s.2.2.1 ∧ LayL n M p s.1 L ∧ L.Nodup)
    (fun s => (n - known n M p s.1) + (if s.2.2.2 = 0 then 0 else 1)) (0, .slice (some ⟨bL, 0, none⟩) 1 1, b8, 1) ?_ ?_ ?_
  · simp [Le, find]
  · exact ⟨p0, by omega, t1, r6, rF, r8, by first | omega | (dsimp only; omega), by first | omega | (dsimp only; omega), [p], rfl, ⟨rfl, .inr ⟨bL, 1, [], rfl, rL, rfl, Nat.le_refl _⟩⟩, by simp [bl]; omega, .inl ⟨rfl, rfl⟩, by simp⟩
  rintro ⟨k, lv, bk, len⟩ h8 ⟨p0, y8, t1, r6, rF, r8, hbk, hkn, L, hlen, oL, hne, hL, hnd⟩
  dsimp only at t1 rF r8 hbk hkn hlen oL hne hL ⊢
  subst hlen
  have p0_z := p0.size
  have r6_l := r6.lt
  have rF_l := rF.lt
  have r8_l := r8.lt
  have oL_l := oL.top
  have hLlen : L.length ≤ n := nodup_lt hnd fun x hx => hL.lt hp hx
  obtain ⟨la, lc, rfl⟩ := oL.is
  simp -dsimp only [go_sem, r6.cell, rF.cell, r8.cell]
  refine ⟨fun hgt => ?_, fun hle => ?_⟩
  · simp -dsimp only [go_sem, r6.cell, rF.cell, r8.cell]
    intro b9 h9 n9
    have n9_a := n9.at_
    have n9_z := n9.size
    replace p0 := p0.fresh (n9.fr (lo := 0) (hi := 0)) (by omega)
    replace r6 := r6.fr (n9.fr (lo := 0) (hi := 0)) (by omega)
    replace rF := rF.fr (n9.fr (lo := 0) (hi := 0)) (by omega)
    replace r8 := r8.fr (n9.fr (lo := 0) (hi := 0)) (by omega)
    replace oL := oL.fr (n9.fr (lo := 0) (hi := 0)) (by have := oL.at_; omega)
    replace t1 := t1.fr (n9.fr (lo := 0) (hi := 0)) (by omega)
    have r9 := n9.row
    simp -dsimp only [go_sem, r6.cell, rF.cell, r8.cell, r9.cell]
    refine loop_intro (fun j : Nat => [(0, .pointer (some ⟨pb, 0, none⟩)), (1, .int .i64 p), (4, .slice none 0 0), (5, .pointer (some ⟨pb1, 0, none⟩)), (6, .pointer (some ⟨b6, 0, none⟩)), (7, .slice la L.length lc), (8, .pointer (some ⟨bk, 0, none⟩)), (9, .pointer (some ⟨b9, 0, none⟩)), (30, .slice la L.length lc), (31, .int .i64 L.length), (32, .int .i64 j)])
      (fun j h' => j ≤ L.length ∧ Fr 0 0 h h' ∧ h9.size ≤ h'.size ∧ PTab h' h.size h1.size pb1 rb1 n R1 W1 (invM M) ∧ Rw h' b6 [.slice (some ⟨bF, 0, none⟩) n n] ∧ Rw h' bF (ivec n fun i => (midF n M p k (fun s => (L.take j).any fun q => M s q) i : Int)) ∧ Rw h' bk [.int .i64 (k + 1 : Nat)] ∧ Holder 1 h' (.slice la L.length lc) L.length (natsV L) bL ∧
        ∃ (nv : Value) (m : List Nat), Rw h' b9 [nv] ∧ Holder 1 h' nv m.length (natsV m) h9.size ∧ m.Nodup ∧ ∀ x, x ∈ m ↔ x < n ∧ farK n M p k x = 0 ∧ (L.take j).any (fun q => M x q) = true) (fun j => L.length - j) 0 ?_ ?_ ?_
    · simp [Le, find]
    · refine ⟨by omega, p0, by omega, t1, r6, ?_, r8, oL, _, [], r9, .none _ _ _, by simp, by simp⟩
      rw [ivec_congr fun i hi => ?_]; exact rF
      simp only [midF, List.take_zero, List.any_nil]; split <;> simp_all
    rintro j h10 ⟨hj, p0, y10, t1, r6, rF, r8, oL, nv, m, r9, om, hmn, hm⟩
    have p0_z := p0.size
    have r6_l := r6.lt
    have rF_l := rF.lt
    have r8_l := r8.lt
    have oL_l := oL.top
    have r9_l := r9.lt
    have om_l := om.top
    simp -dsimp only [go_sem, r6.cell, rF.cell, r8.cell, r9.cell]
    refine ⟨fun hlt => ?_, fun hge => ?_⟩
    · have hlt : j < L.length := by omega
      have hq : L[j]? = some L[j] := by simp [hlt]
      have htk : L.take (j + 1) = L.take j ++ [L[j]] := List.take_succ_eq_append_getElem hlt
      have hqn : L[j] < n := hL.lt hp (List.getElem_mem _)
      generalize L[j] = q at hq htk hqn
      simp -dsimp only [go_sem, r6.cell, rF.cell, r8.cell, r9.cell]
      refine Chk_intro (by omega) (oL.rd.idx (by omega) fun b11 o11 c11 => ?_)
      simp -dsimp only [go_sem, c11 j _ (natsV_get hq), t1.ptr.cell, r6.cell, rF.cell, r8.cell, r9.cell]
      refine Chk_intro (by omega) ?_
      simp -dsimp only [go_sem, t1.rowsGet hqn, r6.cell, rF.cell, r8.cell, r9.cell]
      refine call_of (rel_points _ _ _ _) ?_
      rintro v h11 ⟨f11, rfl, c11, z11⟩
      have hbits := (t1.row q hqn).2.2.2.2.2
      have f11_z := f11.size
      replace p0 := p0.fresh f11 (by omega)
      replace r6 := r6.fr f11 (by omega)
      replace rF := rF.fr f11 (by omega)
      replace r8 := r8.fr f11 (by omega)
      replace oL := oL.fr f11 (by have := oL.at_; omega)
      replace r9 := r9.fr f11 (by omega)
      replace om := om.fr f11 (by have := om.at_; omega)
      replace t1 := t1.fr f11 (by omega)
      simp -dsimp only [go_sem, r6.cell, rF.cell, r8.cell, r9.cell]
      have hC : ∀ h', Fr 0 0 h h' → hcell h' h10.size 0 = some (.slice (some ⟨R1 q, 0, none⟩) (nw n) (nw n)) → PTab h' h.size h1.size pb1 rb1 n R1 W1 (invM M) → RowC h10.size (.slice (some ⟨R1 q, 0, none⟩) (nw n) (nw n)) (nw n) (W1 q) h' := fun h' q0 q1 q2 => ⟨q1, ptab_rd q2 hqn, ht.fr q0 (by omega)⟩
      refine ⟨rfl, points_intro rfl hbits hn (hC _ p0 c11 t1)
        (fun d h' => Fr 0 0 h h' ∧ h11.size ≤ h'.size ∧ PTab h' h.size h1.size pb1 rb1 n R1 W1 (invM M) ∧ Rw h' b6 [.slice (some ⟨bF, 0, none⟩) n n] ∧ Rw h' bF (ivec n fun i => (midF n M p k (fun s => (L.take j).any (fun q => M s q) || ((rest (invM M q) n 0).take d).contains s) i : Int)) ∧ Rw h' bk [.int .i64 (k + 1 : Nat)] ∧ Holder 1 h' (.slice la L.length lc) L.length (natsV L) bL ∧ hcell h' h10.size 0 = some (.slice (some ⟨R1 q, 0, none⟩) (nw n) (nw n)) ∧
          ∃ (nv : Value) (m : List Nat), Rw h' b9 [nv] ∧ Holder 1 h' nv m.length (natsV m) h9.size ∧ bl nv ≠ h10.size ∧ m.Nodup ∧ ∀ x, x ∈ m ↔ x < n ∧ farK n M p k x = 0 ∧ ((L.take j).any (fun q => M x q) || ((rest (invM M q) n 0).take d).contains x) = true)
        (fun _ _ => False) ?_ ?_ ?_ ?_ ?_ ?_ ?_⟩
      · rintro d h' ⟨q0, -, q1, -, -, -, -, q2, -⟩; exact hC _ q0 q2 q1
      · rintro d g1 g2 x ⟨q0, q1, q2, q3, q4, q5, q6, q7, nv, m, q8, q9, q10⟩
        exact ⟨q0.ext x (by omega), Nat.le_trans q1 x.size, q2.ext x, q3.ext x, q4.ext x, q5.ext x, q6.ext x, x.cell q7, nv, m, q8.ext x, q9.ext x, q10⟩
      · exact fun _ _ _ _ h => h
      · refine ⟨p0, Nat.le_refl _, t1, r6, ?_, r8, oL, c11, nv, m, r9, om, by have := om.at_; omega, hmn, by simpa using hm⟩
        simpa using rF
      · rintro d s h12 z12 hs hsn hsf ⟨p0, y12, t1, r6, rF, r8, oL, c12, nv, m, r9, om, hnv, hmn, hm⟩
        have hfree : ∀ x, ((rest (invM M q) n 0).take (d + 1)).contains x = (((rest (invM M q) n 0).take d).contains x || x == s) := fun x => by
          rw [List.take_add_one, hs, Option.toList_some, List.contains_append, List.contains_cons, List.contains_nil, Bool.or_false]
        have hmlen : m.length ≤ n := nodup_lt hmn fun x hx => ((hm x).1 hx).1
        have om_t := om.top
        have p0_z := p0.size
        have r6_l := r6.lt
        have rF_l := rF.lt
        have r8_l := r8.lt
        have oL_l := oL.top
        have r9_l := r9.lt
        have om_l := om.top
        simp -dsimp only [go_sem, r6.cell, rF.cell, r8.cell, r9.cell]
        intro h13 x13
        have x13_z := x13.size
        replace p0 := p0.ext x13 (by omega)
        replace r6 := r6.ext x13
        replace rF := rF.ext x13
        replace r8 := r8.ext x13
        replace oL := oL.ext x13
        replace r9 := r9.ext x13
        replace om := om.ext x13
        replace t1 := t1.ext x13
        have c12 := x13.cell c12
        have hle := midF_le (n := n) (M := M) (p := p) (k := k) (S := fun s => (L.take j).any (fun q => M s q) || ((rest (invM M q) n 0).take d).contains s) (i := s)
        simp -dsimp only [go_sem, r6.cell, rF.cell, r8.cell, r9.cell]
        refine Chk_intro (by omega) ?_
        simp -dsimp only [go_sem, ivec_get hsn, r6.cell, rF.cell, r8.cell, r9.cell]
        cases hz : ((midF n M p k (fun s => (L.take j).any (fun q => M s q) || ((rest (invM M q) n 0).take d).contains s) s : Int) == 0) with
        | true =>
          have hz : midF n M p k (fun s => (L.take j).any (fun q => M s q) || ((rest (invM M q) n 0).take d).contains s) s = 0 := by have := eq_of_beq hz; omega
          have hf0 : farK n M p k s = 0 := by
            apply Classical.byContradiction; intro hh; rw [midF, if_pos hh] at hz; exact hh hz
          have hS0 : ((L.take j).any (fun q => M s q) || ((rest (invM M q) n 0).take d).contains s) = false := by
            rw [Bool.eq_false_iff]; intro hh; rw [midF, if_neg (by omega), if_pos hh] at hz; omega
          simp -dsimp only [go_sem, r6.cell, rF.cell, r8.cell, r9.cell]
          refine Chk_intro (by omega) ?_
          simp -dsimp only [go_sem, r6.cell, rF.cell, r8.cell, r9.cell]
          refine Chk_intro (rF.wr (by first | (simp; done) | (simp; omega))) fun h14 s14 => ?_
          have s14_z := s14.size
          replace p0 := p0.fresh s14.fr (by omega)
          replace r6 := r6.fr s14.fr (by omega)
          replace r8 := r8.fr s14.fr (by omega)
          replace oL := oL.fr s14.fr (by have := oL.at_; omega)
          replace r9 := r9.fr s14.fr (by omega)
          replace om := om.fr s14.fr (by have := om.at_; omega)
          replace t1 := t1.fr s14.fr (by omega)
          replace rF := s14.row rF
          try simp only [cl_int, cl_bool, cl_slice, cl_ptr, putAt_one, List.set_cons_zero, List.set_cons_succ, ivec_set, brow_upd] at rF
          obtain ⟨na, nc, rfl⟩ := om.is
          simp -dsimp only [go_sem, r6.cell, rF.cell, r8.cell, r9.cell]
          intro b15 h15 n15
          have n15_a := n15.at_
          have n15_z := n15.size
          replace p0 := p0.fresh (n15.fr (lo := 0) (hi := 0)) (by omega)
          replace r6 := r6.fr (n15.fr (lo := 0) (hi := 0)) (by omega)
          replace rF := rF.fr (n15.fr (lo := 0) (hi := 0)) (by omega)
          replace r8 := r8.fr (n15.fr (lo := 0) (hi := 0)) (by omega)
          replace oL := oL.fr (n15.fr (lo := 0) (hi := 0)) (by have := oL.at_; omega)
          replace r9 := r9.fr (n15.fr (lo := 0) (hi := 0)) (by omega)
          replace om := om.fr (n15.fr (lo := 0) (hi := 0)) (by have := om.at_; omega)
          replace t1 := t1.fr (n15.fr (lo := 0) (hi := 0)) (by omega)
          simp -dsimp only [go_sem, n15.row.cell, r6.cell, rF.cell, r8.cell, r9.cell]
          have c15 := (n15.fr (lo := 0) (hi := 0)).keep (s14.fr.keep c12 (by omega)) (by omega)
          have om_a := om.at_
          refine om.append (by omega) rfl (by omega) (by simp) (by omega) fun v16 h16 o_new f16 e16 => ?_
          have f16_z := f16.size
          have o_at := om.at_
          replace p0 := p0.fresh f16 (by omega)
          replace r6 := r6.fr f16 (by omega)
          replace rF := rF.fr f16 (by omega)
          replace r8 := r8.fr f16 (by omega)
          replace oL := oL.fr f16 (by have := oL.at_; omega)
          replace r9 := r9.fr f16 (by omega)
          replace t1 := t1.fr f16 (by omega)
          clear o_at
          replace om := o_new
          have om_l := om.top
          have c16 := f16.keep c15 (by omega)
          have om_b := om.at_
          obtain ⟨ua, uc, rfl⟩ := om.is
          simp -dsimp only [go_sem, r6.cell, rF.cell, r8.cell, r9.cell]
          refine Chk_intro (r9.wr (by simp)) fun h17 s17 => ?_
          have s17_z := s17.size
          have r17 := s17.row r9
          have om' := om.fr s17.fr (by omega)
          have s17.fr_z := s17.fr.size
          replace p0 := p0.fresh s17.fr (by omega)
          replace r6 := r6.fr s17.fr (by omega)
          replace rF := rF.fr s17.fr (by omega)
          replace r8 := r8.fr s17.fr (by omega)
          replace oL := oL.fr s17.fr (by have := oL.at_; omega)
          replace t1 := t1.fr s17.fr (by omega)
          simp -dsimp only [go_sem] at r17
          simp -dsimp only [go_sem, r6.cell, rF.cell, r8.cell]
          refine ⟨p0, by omega, t1, r6, ?_, r8, oL, s17.fr.keep c16 (by omega), _, m ++ [s], r17, by rw [natsV_append, List.length_append]; exact om', by omega, ?_, fun x => ?_⟩
          · rw [ivec_congr fun i hi => ?_]; exact rF
            by_cases his : i = s
            · subst his
              rw [upd_same]
              simp only [midF, hfree, hf0, beq_self_eq_true, Bool.or_true]
              rfl
            · rw [upd_ne _ _ his]
              have e : (i == s) = false := by simpa using his
              simp only [midF, hfree, e, Bool.or_false]
          · rw [List.nodup_append]
            refine ⟨hmn, by simp, fun x hx y hy => ?_⟩
            simp at hy; subst hy
            rintro rfl
            have := ((hm x).1 hx).2.2
            rw [hS0] at this; cases this
          · rw [hfree, List.mem_append, hm, List.mem_singleton]
            constructor
            · rintro (⟨g1, g2, g3⟩ | rfl)
              · exact ⟨g1, g2, by rw [← Bool.or_assoc, g3, Bool.true_or]⟩
              · exact ⟨hsn, hf0, by simp⟩
            · rintro ⟨g1, g2, g3⟩
              by_cases hxs : x = s
              · exact .inr hxs
              · have e : (x == s) = false := by simpa using hxs
                rw [e, Bool.or_false] at g3
                exact .inl ⟨g1, g2, g3⟩
        | false =>
          have hz : midF n M p k (fun s => (L.take j).any (fun q => M s q) || ((rest (invM M q) n 0).take d).contains s) s ≠ 0 := by have := ne_of_beq_false hz; omega
          have keep : ∀ x, x < n → midF n M p k (fun s => (L.take j).any (fun q => M s q) || ((rest (invM M q) n 0).take d).contains s) x = midF n M p k (fun s => (L.take j).any (fun q => M s q) || ((rest (invM M q) n 0).take (d + 1)).contains s) x := fun x hx => by
            by_cases hxs : x = s
            · subst hxs
              by_cases hf : farK n M p k x = 0
              · have h1 : ((L.take j).any (fun q => M x q) || ((rest (invM M q) n 0).take d).contains x) = true := by
                  cases h1 : ((L.take j).any (fun q => M x q) || ((rest (invM M q) n 0).take d).contains x) with
                  | true => rfl
                  | false => exact absurd (by simp only [midF]; rw [if_neg (show ¬ farK n M p k x ≠ 0 by omega)]; simp only [h1]; rfl) hz
                have h2 : ((L.take j).any (fun q => M x q) || ((rest (invM M q) n 0).take (d + 1)).contains x) = true := by
                  rw [hfree, ← Bool.or_assoc, h1, Bool.true_or]
                simp only [midF, h1, h2]
              · simp only [midF]; rw [if_pos hf, if_pos hf]
            · have e : (x == s) = false := by simpa using hxs
              simp only [midF, hfree, e, Bool.or_false]
          simp -dsimp only [go_sem, r6.cell, rF.cell, r8.cell]
          refine ⟨p0, by omega, t1, r6, ?_, r8, oL, c12, nv, m, r9, om, hnv, hmn, fun x => ?_⟩
          · rw [ivec_congr fun i hi => ?_]; exact rF
            rw [keep i hi]
          · rw [hm]
            refine and_congr_right fun hx => and_congr_right fun hf => ?_
            have := keep x hx
            simp only [midF] at this
            rw [if_neg (show ¬ farK n M p k x ≠ 0 by omega), if_neg (show ¬ farK n M p k x ≠ 0 by omega)] at this
            rw [ite_inj this]
      · rintro h12 z12 ⟨p0, y12, t1, r6, rF, r8, oL, c12, nv, m, r9, om, hnv, hmn, hm⟩
        have hS : ∀ s, s < n → ((L.take j).any (fun q => M s q) || ((rest (invM M q) n 0).take (rest (invM M q) n 0).length).contains s) = (L.take (j + 1)).any fun q => M s q := fun s hs => by
          rw [List.take_length, htk, List.any_append]
          congr 1
          rw [Bool.eq_iff_iff, List.contains_iff_mem, mem_rest]
          simp [hs, invM]
        simp -dsimp only [go_sem, r6.cell, rF.cell, r8.cell, r9.cell]
        simp -dsimp (disch := omega) only [wrap64]
        refine ⟨j + 1, by omega, by simp [Le, find], by omega, p0, by omega, t1, r6, ?_, r8, oL, nv, m, r9, om, hmn, fun x => ?_⟩
        · rw [ivec_congr fun i hi => ?_]; exact rF
          simp only [midF, hS i hi]
        · rw [hm]
          exact and_congr_right fun hx => by rw [hS x hx]
      · exact fun _ _ _ h => h.elim
    · obtain rfl : j = L.length := by omega
      rw [List.take_length] at rF hm
      have rF' : Rw h10 bF (ivec n fun i => (farK n M p (k + 1) i : Int)) := by
        rw [ivec_congr fun i hi => ?_]; exact rF
        rw [midF_end (hL.lay i)]
      clear rF
      have hm' : LayL n M p (k + 1) m := .inr ⟨by omega, fun x => by
        rw [hm]
        refine and_congr_right fun hx => ?_
        by_cases hf : farK n M p k x = 0
        · rw [farK_new hf, hL.lay]
          cases lay n M p (farK n M p k) k x <;> simp [hf]
        · rw [farK_keep hf]
          have := farK_le (n := n) (M := M) (p := p) k x
          constructor
          · rintro ⟨h1, _⟩; exact absurd h1 hf
          · intro h1; omega⟩
      have hkn1 : m ≠ [] → known n M p k < known n M p (k + 1) ∧ k + 1 ≤ n := fun hne => by
        obtain ⟨x, hx⟩ := List.exists_mem_of_ne_nil m hne
        rcases hm' with ⟨h, _⟩ | ⟨_, h⟩
        · omega
        · obtain ⟨h1, h2⟩ := (h x).1 hx
          have := known_ge h1 h2
          have := known_le (n := n) (M := M) (p := p) (k + 1)
          exact ⟨known_grows h1 h2, by omega⟩
      have hk1 := known_le (n := n) (M := M) (p := p) (k + 1)
      have hk0 := known_le (n := n) (M := M) (p := p) k
      have hkk : k ≤ n := by
        cases hL with
        | inl h => omega
        | inr h =>
          obtain ⟨x, hx⟩ := List.exists_mem_of_ne_nil L (by rintro rfl; simp at hgt)
          obtain ⟨h1, h2⟩ := (h.2 x).1 hx
          obtain ⟨k', rfl⟩ : ∃ k', k = k' + 1 := ⟨k - 1, by omega⟩
          have := known_ge h1 h2; omega
      have om_t := om.top
      have om_a := om.at_
      simp -dsimp only [go_sem, r6.cell, r8.cell, r9.cell, rF'.cell]
      intro b11 h11 n11
      have n11_a := n11.at_
      have n11_z := n11.size
      replace p0 := p0.fresh (n11.fr (lo := 0) (hi := 0)) (by omega)
      replace r6 := r6.fr (n11.fr (lo := 0) (hi := 0)) (by omega)
      replace r8 := r8.fr (n11.fr (lo := 0) (hi := 0)) (by omega)
      replace oL := oL.fr (n11.fr (lo := 0) (hi := 0)) (by have := oL.at_; omega)
      replace r9 := r9.fr (n11.fr (lo := 0) (hi := 0)) (by omega)
      replace om := om.fr (n11.fr (lo := 0) (hi := 0)) (by have := om.at_; omega)
      replace t1 := t1.fr (n11.fr (lo := 0) (hi := 0)) (by omega)
      replace rF' := rF'.fr (n11.fr (lo := 0) (hi := 0)) (by omega)
      have r11 := n11.row
      simp -dsimp only [go_sem, r6.cell, r8.cell, r9.cell, rF'.cell, r11.cell]
      refine Chk_intro (r11.wr (by first | (simp; done) | (simp; omega))) fun h12 s12 => ?_
      have s12_z := s12.size
      replace p0 := p0.fresh s12.fr (by omega)
      replace r6 := r6.fr s12.fr (by omega)
      replace r8 := r8.fr s12.fr (by omega)
      replace oL := oL.fr s12.fr (by have := oL.at_; omega)
      replace r9 := r9.fr s12.fr (by omega)
      replace om := om.fr s12.fr (by have := om.at_; omega)
      replace t1 := t1.fr s12.fr (by omega)
      replace rF' := rF'.fr s12.fr (by omega)
      replace r11 := s12.row r11
      try simp only [cl_int, cl_bool, cl_slice, cl_ptr, putAt_one, List.set_cons_zero, List.set_cons_succ, ivec_set, brow_upd] at r11
      simp -dsimp only [go_sem, r6.cell, r8.cell, r9.cell, rF'.cell, r11.cell]
      refine Chk_intro (r11.wr (by first | (simp; done) | (simp; omega))) fun h13 s13 => ?_
      have s13_z := s13.size
      replace p0 := p0.fresh s13.fr (by omega)
      replace r6 := r6.fr s13.fr (by omega)
      replace r8 := r8.fr s13.fr (by omega)
      replace oL := oL.fr s13.fr (by have := oL.at_; omega)
      replace r9 := r9.fr s13.fr (by omega)
      replace om := om.fr s13.fr (by have := om.at_; omega)
      replace t1 := t1.fr s13.fr (by omega)
      replace rF' := rF'.fr s13.fr (by omega)
      replace r11 := s13.row r11
      try simp only [cl_int, cl_bool, cl_slice, cl_ptr, putAt_one, List.set_cons_zero, List.set_cons_succ, ivec_set, brow_upd] at r11
      simp -dsimp only [go_sem, r6.cell, r8.cell, r9.cell, rF'.cell, r11.cell]
      refine ⟨(k + 1, nv, b11, m.length), ?_, by simp [Le, find], p0, by first | omega | (dsimp only; omega), t1, r6, rF', ?_, by first | omega | (dsimp only; omega), by first | omega | (dsimp only; omega), m, rfl, ?_, by first | omega | (dsimp only; omega), hm', hmn⟩
      · dsimp only
        have hLne : ¬ L.length = 0 := by omega
        rw [if_neg hLne]
        by_cases hme : m = []
        · subst hme
          have hmono : known n M p k ≤ known n M p (k + 1) := List.countP_mono_left fun i _ hi => by
            have : farK n M p k i ≠ 0 := by simpa using hi
            simpa [farK_keep this] using hi
          simp; omega
        · have := hkn1 hme
          rw [if_neg (by intro h; exact hme (List.length_eq_zero_iff.1 h))]
          omega
      · rw [wrap64 (by omega) (by omega)] at r11
        exact r11
      · exact (om).lower (by omega)
  · have hL0 : L = [] := List.length_eq_zero_iff.1 (by omega)
    subst hL0
    have rF' : Rw h8 bF (ivec n fun i => (farS n M p i : Int)) := by
      rw [ivec_congr fun i hi => ?_]; exact rF
      rcases hL with ⟨_, h⟩ | ⟨hk, h⟩
      · cases h
      · obtain ⟨k, rfl⟩ : ∃ k', k = k' + 1 := ⟨k - 1, by omega⟩
        have hno : ∀ i, i < n → farK n M p (k + 1) i ≠ k + 1 := fun i hi he => by have := (h i).2 ⟨hi, he⟩; simp at this
        rw [← farK_all hno hi, ← farK_stable hno 1 i hi]
    clear rF hle
    have rF := rF'
    clear rF'
    obtain ⟨m, hm⟩ : ∃ m, farS n M p p = m + 1 := ⟨farS n M p p - 1, by omega⟩
    have hmn := farS_le (n := n) (M := M) (p := p) p
    have p0_z := p0.size
    have r6_l := r6.lt
    have rF_l := rF.lt
    have h8_z := p0.size
    simp -dsimp only [go_sem, r6.cell, rF.cell]
    intro b9 h9 n9
    have n9_a := n9.at_
    have n9_z := n9.size
    replace p0 := p0.fresh (n9.fr (lo := 0) (hi := 0)) (by omega)
    replace r6 := r6.fr (n9.fr (lo := 0) (hi := 0)) (by omega)
    replace rF := rF.fr (n9.fr (lo := 0) (hi := 0)) (by omega)
    have r9 := n9.row
    simp -dsimp only [go_sem, r6.cell, rF.cell, r9.cell]
    intro b10 h10 n10
    have n10_a := n10.at_
    have n10_z := n10.size
    replace p0 := p0.fresh (n10.fr (lo := 0) (hi := 0)) (by omega)
    replace r6 := r6.fr (n10.fr (lo := 0) (hi := 0)) (by omega)
    replace rF := rF.fr (n10.fr (lo := 0) (hi := 0)) (by omega)
    replace r9 := r9.fr (n10.fr (lo := 0) (hi := 0)) (by omega)
    have r10 := n10.row
    simp -dsimp only [go_sem, r6.cell, rF.cell, r9.cell, r10.cell]
    refine Chk_intro (r10.wr (by first | (simp; done) | (simp; omega))) fun h11 s11 => ?_
    have s11_z := s11.size
    replace p0 := p0.fresh s11.fr (by omega)
    replace r6 := r6.fr s11.fr (by omega)
    replace rF := rF.fr s11.fr (by omega)
    replace r9 := r9.fr s11.fr (by omega)
    replace r10 := s11.row r10
    try simp only [cl_int, cl_bool, cl_slice, cl_ptr, putAt_one, List.set_cons_zero, List.set_cons_succ, ivec_set, brow_upd] at r10
    simp -dsimp only [go_sem, r6.cell, rF.cell, r9.cell, r10.cell]
    refine Chk_intro (by omega) ?_
    simp -dsimp only [go_sem, ivec_get hp, r6.cell, rF.cell, r9.cell, r10.cell]
    rw [hm, wrap64 (by omega) (by omega), show (((m + 1 : Nat) : Int) - 1) = (m : Int) by omega]
    intro b12 h12 n12
    have n12_a := n12.at_
    have n12_z := n12.size
    replace p0 := p0.fresh (n12.fr (lo := 0) (hi := 0)) (by omega)
    replace r6 := r6.fr (n12.fr (lo := 0) (hi := 0)) (by omega)
    replace rF := rF.fr (n12.fr (lo := 0) (hi := 0)) (by omega)
    replace r9 := r9.fr (n12.fr (lo := 0) (hi := 0)) (by omega)
    replace r10 := r10.fr (n12.fr (lo := 0) (hi := 0)) (by omega)
    have r12 := n12.row
    simp -dsimp only [go_sem, r6.cell, rF.cell, r9.cell, r10.cell, r12.cell]
    refine Chk_intro (r12.wr (by first | (simp; done) | (simp; omega))) fun h13 s13 => ?_
    have s13_z := s13.size
    replace p0 := p0.fresh s13.fr (by omega)
    replace r6 := r6.fr s13.fr (by omega)
    replace rF := rF.fr s13.fr (by omega)
    replace r9 := r9.fr s13.fr (by omega)
    replace r10 := r10.fr s13.fr (by omega)
    replace r12 := s13.row r12
    try simp only [cl_int, cl_bool, cl_slice, cl_ptr, putAt_one, List.set_cons_zero, List.set_cons_succ, ivec_set, brow_upd] at r12
    simp -dsimp only [go_sem, r6.cell, rF.cell, r9.cell, r10.cell, r12.cell]
    have o9 : Holder 1 h13 (.slice (some ⟨b9, 0, none⟩) 1 1) 1 (natsV [p]) h8.size := ⟨rfl, .inr ⟨b9, 1, [], rfl, r9, rfl, by omega⟩⟩
    refine loop_intro (fun s : Nat × Nat => [(0, .pointer (some ⟨pb, 0, none⟩)), (4, .slice none 0 0), (6, .pointer (some ⟨b6, 0, none⟩)), (13, .pointer (some ⟨b10, 0, none⟩)), (14, .pointer (some ⟨s.2, 0, none⟩))])
      (fun s h' => Fr 0 0 h h' ∧ h13.size ≤ h'.size ∧ Rw h' b6 [.slice (some ⟨bF, 0, none⟩) n n] ∧ Rw h' bF (ivec n fun i => (farS n M p i : Int)) ∧ Rw h' s.2 [.int .i64 s.1] ∧ b10 < s.2 ∧
        ∃ (lv : Value) (l : List Nat) (a : Nat), Rw h' b10 [lv] ∧ Holder 1 h' lv (l ++ [a]).length (natsV (l ++ [a])) h8.size ∧ bl lv ≠ b10 ∧ bl lv ≠ s.2 ∧ a < n ∧ farS n M p a = s.1 + 1 ∧ l ++ [a] ++ cycGo n M (farS n M p) s.1 a = shortS n M p ∧ l.length + s.1 ≤ n + 1)
      (fun s => s.1) (m, b12) ?_ ?_ ?_
    · simp [Le, find]
    · refine ⟨p0, by omega, r6, rF, r12, by first | omega | (dsimp only; omega), _, [], p, r10, o9, by simp [bl]; omega, by simp [bl]; omega, hp, hm, ?_, by simp; omega⟩
      simp [shortS, hm]
    clear hm hmn
    rintro ⟨k, bn⟩ h14 ⟨p0, y14, r6, rF, r12, hbn, lv, l, a, r10, ol, hl1, hl2, han, hfa, hcy, hlk⟩
    dsimp only at r12 hbn hl2 hfa hcy hlk ⊢
    have p0_z := p0.size
    have r6_l := r6.lt
    have rF_l := rF.lt
    have r12_l := r12.lt
    have r10_l := r10.lt
    have ol_l := ol.top
    obtain ⟨va, vc, rfl⟩ := ol.is
    simp -dsimp only [go_sem, r6.cell, rF.cell, r12.cell, r10.cell]
    refine ⟨fun hgt => ?_, fun hle => ?_⟩
    · obtain ⟨k, rfl⟩ : ∃ k', k = k' + 1 := ⟨k - 1, by omega⟩
      have hll : (l ++ [a]).length = l.length + 1 := by simp
      rw [hll] at r10 ol hl1 hl2
      have hla : (natsV (l ++ [a]))[l.length]? = some (.int .i64 (a : Int)) := natsV_get (by simp)
      have tp := t.fr p0 (by omega)
      simp -dsimp only [go_sem, tp.ptr.cell, r6.cell, rF.cell, r12.cell, r10.cell]
      rw [show (((l.length + 1 : Nat) : Int) - 1) = (l.length : Int) by omega, wrap64 (by omega) (by omega)]
      refine Chk_intro (by omega) (ol.rd.idx (by omega) fun b15 o15 c15 => ?_)
      simp -dsimp only [go_sem, c15 _ _ hla, r6.cell, rF.cell, r12.cell, r10.cell]
      refine Chk_intro (by omega) ?_
      simp -dsimp only [go_sem, tp.rowsGet han, r6.cell, rF.cell, r12.cell, r10.cell]
      refine call_of (rel_points _ _ _ _) ?_
      rintro v h15 ⟨f15, rfl, cc, z15⟩
      have c15' := f15.keep (c15 _ _ hla) (by omega)
      have f15_z := f15.size
      replace p0 := p0.fresh f15 (by omega)
      replace r6 := r6.fr f15 (by omega)
      replace rF := rF.fr f15 (by omega)
      replace r12 := r12.fr f15 (by omega)
      replace r10 := r10.fr f15 (by omega)
      replace ol := ol.fr f15 (by have := ol.at_; omega)
      have tp := t.fr p0 (by omega)
      simp -dsimp only [go_sem, tp.ptr.cell, tp.rowsGet han, c15', r6.cell, rF.cell, r12.cell, r10.cell]
      have hbits := (t.row a han).2.2.2.2.2
      have hC : ∀ h', Fr 0 0 h h' → hcell h' h14.size 0 = some (.slice (some ⟨R a, 0, none⟩) (nw n) (nw n)) → RowC h14.size (.slice (some ⟨R a, 0, none⟩) (nw n) (nw n)) (nw n) (W a) h' := fun h' q0 q1 => ⟨q1, ptab_rd (t.fr q0 (by omega)) han, ht.fr q0 (by omega)⟩
      have hex := (farS_step hfa).2 (by omega)
      refine ⟨rfl, points_intro rfl hbits hn (hC _ p0 cc)
        (fun d h' => Fr 0 0 h h' ∧ h15.size ≤ h'.size ∧ Rw h' b6 [.slice (some ⟨bF, 0, none⟩) n n] ∧ Rw h' bF (ivec n fun i => (farS n M p i : Int)) ∧ Rw h' bn [.int .i64 (k + 1 : Nat)] ∧ Rw h' b10 [.slice va (l.length + 1) vc] ∧ Holder 1 h' (.slice va (l.length + 1) vc) (l.length + 1) (natsV (l ++ [a])) h8.size ∧ hcell h' h14.size 0 = some (.slice (some ⟨R a, 0, none⟩) (nw n) (nw n)) ∧ ∀ x ∈ (rest (M a) n 0).take d, farS n M p x ≠ k + 1)
        (fun x h' => x = .exit 8 ∧ Fr 0 0 h h' ∧ h15.size ≤ h'.size ∧ Rw h' b6 [.slice (some ⟨bF, 0, none⟩) n n] ∧ Rw h' bF (ivec n fun i => (farS n M p i : Int)) ∧ Rw h' bn [.int .i64 (k + 1 : Nat)] ∧ ∃ (uv : Value) (s : Nat), Rw h' b10 [uv] ∧ Holder 1 h' uv (l ++ [a] ++ [s]).length (natsV (l ++ [a] ++ [s])) h8.size ∧ bl uv ≠ b10 ∧ bl uv ≠ bn ∧ s < n ∧ lf (fun q => M a q && farS n M p q == k + 1) n 0 = some s) ?_ ?_ ?_ ?_ ?_ ?_ ?_⟩
      · rintro d h' ⟨q0, -, -, -, -, -, -, q1, -⟩; exact hC _ q0 q1
      · rintro d g1 g2 x ⟨q0, q1, q2, q3, q4, q5, q6, q7, q8⟩
        exact ⟨q0.ext x (by omega), Nat.le_trans q1 x.size, q2.ext x, q3.ext x, q4.ext x, q5.ext x, q6.ext x, x.cell q7, q8⟩
      · rintro e g1 g2 x ⟨q', q0, q1, q2, q3, q4, uv, s, q5, q6, q7⟩
        exact ⟨q', q0.ext x (by omega), Nat.le_trans q1 x.size, q2.ext x, q3.ext x, q4.ext x, uv, s, q5.ext x, q6.ext x, q7⟩
      · exact ⟨p0, Nat.le_refl _, r6, rF, r12, r10, ol, cc, by simp⟩
      · rintro d s h16 z16 hs hsn hsf ⟨p0, y16, r6, rF, r12, r10, ol, c16, hnone⟩
        have ol_t := ol.top
        have p0_z := p0.size
        have r6_l := r6.lt
        have rF_l := rF.lt
        have r12_l := r12.lt
        have r10_l := r10.lt
        have ol_l := ol.top
        simp -dsimp only [go_sem, r6.cell, rF.cell, r12.cell, r10.cell]
        intro h17 x17
        have x17_z := x17.size
        replace p0 := p0.ext x17 (by omega)
        replace r6 := r6.ext x17
        replace rF := rF.ext x17
        replace r12 := r12.ext x17
        replace r10 := r10.ext x17
        replace ol := ol.ext x17
        have c16 := x17.cell c16
        simp -dsimp only [go_sem, r6.cell, rF.cell, r12.cell, r10.cell]
        refine Chk_intro (by omega) ?_
        simp -dsimp only [go_sem, ivec_get hsn, r6.cell, rF.cell, r12.cell, r10.cell]
        cases hz : ((farS n M p s : Int) == ((k + 1 : Nat) : Int)) with
        | true =>
          have hz : farS n M p s = k + 1 := by have := eq_of_beq hz; omega
          simp -dsimp only [go_sem, r6.cell, rF.cell, r12.cell, r10.cell]
          intro b18 h18 n18
          have n18_a := n18.at_
          have n18_z := n18.size
          replace p0 := p0.fresh (n18.fr (lo := 0) (hi := 0)) (by omega)
          replace r6 := r6.fr (n18.fr (lo := 0) (hi := 0)) (by omega)
          replace rF := rF.fr (n18.fr (lo := 0) (hi := 0)) (by omega)
          replace r12 := r12.fr (n18.fr (lo := 0) (hi := 0)) (by omega)
          replace r10 := r10.fr (n18.fr (lo := 0) (hi := 0)) (by omega)
          replace ol := ol.fr (n18.fr (lo := 0) (hi := 0)) (by have := ol.at_; omega)
          have c18 := (n18.fr (lo := 0) (hi := 0)).keep c16 (by omega)
          simp -dsimp only [go_sem, n18.row.cell, r6.cell, rF.cell, r12.cell, r10.cell]
          have ol_a := ol.at_
          refine ol.append (by omega) rfl (by omega) (by simp) (by omega) fun v19 h19 o_new f19 e19 => ?_
          have f19_z := f19.size
          have o_at := ol.at_
          replace p0 := p0.fresh f19 (by omega)
          replace r6 := r6.fr f19 (by omega)
          replace rF := rF.fr f19 (by omega)
          replace r12 := r12.fr f19 (by omega)
          replace r10 := r10.fr f19 (by omega)
          clear o_at
          replace ol := o_new
          have ol_l := ol.top
          obtain ⟨ua, uc, rfl⟩ := ol.is
          have ol_b := ol.at_
          simp -dsimp only [go_sem, r6.cell, rF.cell, r12.cell, r10.cell]
          refine Chk_intro (r10.wr (by simp)) fun h20 s20 => ?_
          have s20_z := s20.size
          have r20 := s20.row r10
          have ol' := ol.fr s20.fr (by omega)
          have s20.fr_z := s20.fr.size
          replace p0 := p0.fresh s20.fr (by omega)
          replace r6 := r6.fr s20.fr (by omega)
          replace rF := rF.fr s20.fr (by omega)
          replace r12 := r12.fr s20.fr (by omega)
          simp -dsimp only [go_sem] at r20
          simp -dsimp only [go_sem, r6.cell, rF.cell, r12.cell]
          refine ⟨rfl, p0, by omega, r6, rF, r12, _, s, r20, by rw [natsV_append, List.length_append, hll]; exact ol', by omega, by omega, hsn, lf_is (by omega) hsn (by simp [hsf, hz]) fun y _ hy => ?_⟩
          cases hM : M a y with
          | false => simp
          | true =>
            have := hnone y (rest_before hs hy hM)
            simp [this]
        | false =>
          have hz : farS n M p s ≠ k + 1 := by have := ne_of_beq_false hz; omega
          simp -dsimp only [go_sem, r6.cell, rF.cell, r12.cell]
          refine ⟨p0, by omega, r6, rF, r12, r10, ol, c16, fun x hx => ?_⟩
          rw [List.take_add_one, hs, Option.toList_some] at hx
          rcases List.mem_append.1 hx with hx | hx
          · exact hnone x hx
          · simp at hx; subst hx; exact hz
      · rintro h16 z16 ⟨p0, y16, r6, rF, r12, r10, ol, c16, hnone⟩
        obtain ⟨x, hx, hM, hf⟩ := hex
        rw [List.take_length] at hnone
        exact absurd hf (hnone x (mem_rest.2 ⟨by omega, hx, hM⟩))
      · rintro x h16 z16 ⟨rfl, p0, y16, r6, rF, r12, uv, s, r10, ol, hu1, hu2, hsn, hlf⟩
        have hfs : farS n M p s = k + 1 := by
          have := (lf_some hlf).2.2
          simp at this; exact this.2
        refine ⟨by simp, ?_⟩
        have ol_a := ol.at_
        have p0_z := p0.size
        have r6_l := r6.lt
        have rF_l := rF.lt
        have r12_l := r12.lt
        have r10_l := r10.lt
        have ol_l := ol.top
        simp -dsimp only [go_sem, r6.cell, rF.cell, r12.cell, r10.cell]
        intro b18 h18 n18
        have n18_a := n18.at_
        have n18_z := n18.size
        replace p0 := p0.fresh (n18.fr (lo := 0) (hi := 0)) (by omega)
        replace r6 := r6.fr (n18.fr (lo := 0) (hi := 0)) (by omega)
        replace rF := rF.fr (n18.fr (lo := 0) (hi := 0)) (by omega)
        replace r12 := r12.fr (n18.fr (lo := 0) (hi := 0)) (by omega)
        replace r10 := r10.fr (n18.fr (lo := 0) (hi := 0)) (by omega)
        replace ol := ol.fr (n18.fr (lo := 0) (hi := 0)) (by have := ol.at_; omega)
        have r18 := n18.row
        simp -dsimp only [go_sem, r6.cell, rF.cell, r12.cell, r10.cell, r18.cell]
        refine Chk_intro (r18.wr (by first | (simp; done) | (simp; omega))) fun h19 s19 => ?_
        have s19_z := s19.size
        replace p0 := p0.fresh s19.fr (by omega)
        replace r6 := r6.fr s19.fr (by omega)
        replace rF := rF.fr s19.fr (by omega)
        replace r12 := r12.fr s19.fr (by omega)
        replace r10 := r10.fr s19.fr (by omega)
        replace ol := ol.fr s19.fr (by have := ol.at_; omega)
        replace r18 := s19.row r18
        try simp only [cl_int, cl_bool, cl_slice, cl_ptr, putAt_one, List.set_cons_zero, List.set_cons_succ, ivec_set, brow_upd] at r18
        simp -dsimp only [go_sem, r6.cell, rF.cell, r12.cell, r10.cell, r18.cell]
        refine Chk_intro (r18.wr (by first | (simp; done) | (simp; omega))) fun h20 s20 => ?_
        have s20_z := s20.size
        replace p0 := p0.fresh s20.fr (by omega)
        replace r6 := r6.fr s20.fr (by omega)
        replace rF := rF.fr s20.fr (by omega)
        replace r12 := r12.fr s20.fr (by omega)
        replace r10 := r10.fr s20.fr (by omega)
        replace ol := ol.fr s20.fr (by have := ol.at_; omega)
        replace r18 := s20.row r18
        try simp only [cl_int, cl_bool, cl_slice, cl_ptr, putAt_one, List.set_cons_zero, List.set_cons_succ, ivec_set, brow_upd] at r18
        rw [wrap64 (by omega) (by omega)] at r18
        simp -dsimp only [go_sem, r6.cell, rF.cell, r12.cell, r10.cell, r18.cell]
        refine ⟨(k, b18), by first | omega | (dsimp only; omega), by simp [Le, find], p0, by first | omega | (dsimp only; omega), r6, rF, by rw [show (((k + 1 : Nat) : Int) - 1) = (k : Int) by omega] at r18; exact r18, by first | omega | (dsimp only; omega), uv, l ++ [a], s, r10, ol, hu1, by first | omega | (dsimp only; omega), hsn, hfs, ?_, by simp; omega⟩
        rw [← hcy]
        simp only [cycGo, hlf, List.append_assoc, List.cons_append, List.nil_append]
    · obtain rfl : k = 0 := by omega
      simp -dsimp only [go_sem, r6.cell, rF.cell, r12.cell, r10.cell]
      rw [← hcy]
      simp only [cycGo, List.append_nil]
      exact ⟨p0, ol.lower (by omega)⟩
theorem rel_Cycle {n : Nat} {M : Nat → Nat → Bool} {pv : Value} {lo hi : Nat} {h : Heap} (hr : ProgAt h lo hi pv n M) (ht : TabAt h) :
    Con Tryd.prog 88 #[pv] h fun v h' => Fr 0 0 h h' ∧ Holder 1 h' v (cycS n M).length (natsV (cycS n M)) h.size := by
  refine con_rel_Cycle ?_
  have hr0 := hr
  obtain ⟨hn, pb, rb, R, W, rfl, t⟩ := hr
  simp -dsimp only [go_sem]
  refine call_of (rel_Plus hr0) ?_
  rintro v1 h1 ⟨p0, -, pb1, rb1, R1, W1, rfl, t1⟩
  have tp := t.fr p0 (by omega)
  have h1_z := p0.size
  simp -dsimp only [go_sem, tp.ptr.cell]
  refine loop_intro (fun a : Nat => [(0, .pointer (some ⟨pb, 0, none⟩)), (3, .pointer (some ⟨pb1, 0, none⟩)), (10, .int .i64 n), (11, .int .i64 a)])
    (fun a h' => a ≤ n ∧ h' = h1 ∧ lf (fun p => plusM n M p p) n 0 = lf (fun p => plusM n M p p) n a) (fun a => n - a) 0 ?_ ?_ ?_
  · simp [Le, find]
  · exact ⟨by omega, rfl, rfl⟩
  rintro a h2 ⟨ha, hh, hlf⟩
  obtain rfl : h1 = h2 := hh.symm
  simp -dsimp only [go_sem]
  refine ⟨fun hlt => ?_, fun hge => ?_⟩
  · have hlt : a < n := by omega
    obtain ⟨g1, g2, g3, g4, g5, g6⟩ := t1.row a hlt
    simp -dsimp only [go_sem, t1.ptr.cell]
    refine Chk_intro (by omega) ?_
    simp -dsimp only [go_sem, t1.rowsGet hlt]
    refine call_of (row_has (p := a) (ptab_rd t1 hlt) (by unfold nw; omega) (g6 _).1 (by omega)) ?_
    rintro v h3 ⟨rfl, rfl⟩
    rw [g6.get hlt]
    rw [lf_step _ hlt] at hlf
    cases hm : plusM n M a a with
    | true =>
      rw [hm] at hlf
      simp -dsimp only [go_sem]
      refine call_of (rel_shortest (hr0.fr p0 (by omega)) (ht.fr p0 (by omega)) hlt (plus_far hlt hlt hm)) ?_
      rintro v4 h4 ⟨f4, o4⟩
      simp -dsimp only [go_sem]
      refine ⟨p0.trans f4, ?_⟩
      unfold cycS
      rw [hlf]
      exact o4.lower (by omega)
    | false =>
      rw [hm] at hlf
      simp -dsimp only [go_sem]
      simp -dsimp (disch := omega) only [wrap64]
      exact ⟨a + 1, by omega, by simp [Le, find], by omega, hlf⟩
  · obtain rfl : a = n := by omega
    simp -dsimp only [go_sem]
    refine ⟨p0, ?_⟩
    unfold cycS
    rw [hlf, lf_end _ (Nat.le_refl _)]
    exact .none _ _ _
end Go.Proofs.Tst
