/-
  Contracts of functions that the law reaches: what each returns and what it leaves in memory. Conditions stand in each.
-/
import Derived.Test.YtmilaghhnaoidaaDoorT3
set_option linter.all false
set_option maxRecDepth 2000
/-
  Lists compared, cell by cell.
-/
namespace Go.Proofs.Tst
open Go Go.Vc
theorem c_law11_ints {l m : List Int} {a b : Value} {h : Heap} (hl : Rd 1 h a l.length (intsV l)) (hm : Rd 1 h b m.length (intsV m)) (hb : l.length ≤ 4611686018427387904) :
    Con Tryd.prog 86 #[a, b] h fun v h' => h' = h ∧ v = .bool (decide (l = m)) := by
  refine con_law11_ints ?_
  obtain ⟨aa, ac, rfl⟩ := hl.is
  obtain ⟨ba, bc, rfl⟩ := hm.is
  simp -dsimp only [go_sem]
  refine ⟨fun hne => ?_, fun heq => ?_⟩
  · simp -dsimp only [go_sem]
    have : l ≠ m := by rintro rfl; simp at hne
    simp [this]
  have heq : l.length = m.length := by have : (l.length : Int) = m.length := by simpa using heq
                                       omega
  simp -dsimp only [go_sem]
  refine loop_intro (fun i : Nat => [(0, .slice aa l.length ac), (1, .slice ba m.length bc), (5, .int .i64 i)])
    (fun i h' => i ≤ l.length ∧ h' = h ∧ ∀ j, j < i → l[j]? = m[j]?) (fun i => l.length - i) 0 ?_ ?_ ?_
  · simp [Le, find]
  · exact ⟨by omega, rfl, fun j hj => by omega⟩
  rintro i _ ⟨hi, rfl, hinv⟩
  simp -dsimp only [go_sem]
  refine ⟨fun hlt => ?_, fun hge => ?_⟩
  · have hlt : i < l.length := by omega
    simp -dsimp only [go_sem]
    refine Chk_intro (by omega) (hl.idx (by omega) fun b1 o1 c1 => ?_)
    simp -dsimp only [go_sem, c1 i _ (intsV_get (List.getElem?_eq_getElem hlt))]
    refine Chk_intro (by omega) (hm.idx (by omega) fun b2 o2 c2 => ?_)
    simp -dsimp only [go_sem, c2 i _ (intsV_get (List.getElem?_eq_getElem (show i < m.length by omega)))]
    refine ⟨fun hne => ?_, fun he => ?_⟩
    · simp -dsimp only [go_sem]
      have : l ≠ m := by rintro rfl; simp at hne
      simp [this]
    · simp -dsimp only [go_sem]
      simp -dsimp (disch := omega) only [wrap64]
      refine ⟨i + 1, by omega, by simp [Le, find], by omega, fun j hj => ?_⟩
      by_cases hji : j = i
      · subst hji
        rw [List.getElem?_eq_getElem hlt, List.getElem?_eq_getElem (show j < m.length by omega)]
        simpa using he
      · exact hinv j (by omega)
  · simp -dsimp only [go_sem]
    have : l = m := List.ext_getElem? fun j => by
      by_cases hj : j < i
      · exact hinv j hj
      · rw [List.getElem?_eq_none (by omega), List.getElem?_eq_none (by omega)]
    simp [this]
theorem c_law11_pairs {l m : List (Int × Int)} {a b : Value} {h : Heap} (hl : Rd 2 h a l.length (pairsV l)) (hm : Rd 2 h b m.length (pairsV m)) (hb : l.length ≤ 4611686018427387904) :
    Con Tryd.prog 85 #[a, b] h fun v h' => h' = h ∧ v = .bool (decide (l = m)) := by
  refine con_law11_pairs ?_
  obtain ⟨aa, ac, rfl⟩ := hl.is
  obtain ⟨ba, bc, rfl⟩ := hm.is
  simp -dsimp only [go_sem]
  refine ⟨fun hne => ?_, fun heq => ?_⟩
  · simp -dsimp only [go_sem]
    have : l ≠ m := by rintro rfl; simp at hne
    simp [this]
  have heq : l.length = m.length := by have : (l.length : Int) = m.length := by simpa using heq
                                       omega
  simp -dsimp only [go_sem]
  refine loop_intro (fun i : Nat => [(0, .slice aa l.length ac), (1, .slice ba m.length bc), (5, .int .i64 i)])
    (fun i h' => i ≤ l.length ∧ h' = h ∧ ∀ j, j < i → l[j]? = m[j]?) (fun i => l.length - i) 0 ?_ ?_ ?_
  · simp [Le, find]
  · exact ⟨by omega, rfl, fun j hj => by omega⟩
  rintro i _ ⟨hi, rfl, hinv⟩
  simp -dsimp only [go_sem]
  refine ⟨fun hlt => ?_, fun hge => ?_⟩
  · have hlt : i < l.length := by omega
    simp -dsimp only [go_sem]
    refine Chk_intro (by omega) (hl.pair (List.getElem?_eq_getElem hlt) fun b1 o1 c1 d1 => ?_)
    simp -dsimp only [go_sem, c1, d1]
    refine Chk_intro (by omega) (hm.pair (List.getElem?_eq_getElem (show i < m.length by omega)) fun b2 o2 c2 d2 => ?_)
    simp -dsimp only [go_sem, c2, d2]
    refine ⟨fun hne => ?_, fun he => ?_⟩
    · simp -dsimp only [go_sem]
      have : l ≠ m := by rintro rfl; simp at hne
      simp [this]
    · simp -dsimp only [go_sem]
      simp -dsimp (disch := omega) only [wrap64]
      refine ⟨i + 1, by omega, by simp [Le, find], by omega, fun j hj => ?_⟩
      by_cases hji : j = i
      · subst hji
        rw [List.getElem?_eq_getElem hlt, List.getElem?_eq_getElem (show j < m.length by omega)]
        simp at he
        rw [Prod.ext he.1 he.2]
      · exact hinv j (by omega)
  · simp -dsimp only [go_sem]
    have : l = m := List.ext_getElem? fun j => by
      by_cases hj : j < i
      · exact hinv j hj
      · rw [List.getElem?_eq_none (by omega), List.getElem?_eq_none (by omega)]
    simp [this]
end Go.Proofs.Tst
/-
  Lists of truths and of words compared; two graphs that are the same.
-/
namespace Go.Proofs.Tst
open Go Go.Vc
def boolsV (l : List Bool) : List Value := l.map Value.bool
def wordsV (l : List Int) : List Value := l.map fun n => .int .u64 n
@[simp] theorem length_boolsV (l : List Bool) : (boolsV l).length = l.length := by simp [boolsV]
@[simp] theorem length_wordsV (l : List Int) : (wordsV l).length = l.length := by simp [wordsV]
theorem boolsV_get {l : List Bool} {i : Nat} {b : Bool} (h : l[i]? = some b) : (boolsV l)[i]? = some (.bool b) := by simp [boolsV, h]
end Go.Proofs.Tst
/-
  Several of the program's relations in memory, apart from each other.
-/
namespace Go.Vc
open Go
structure Der (h : Heap) (A B : Nat → Nat) (p : Nat → Value) (n : Nat) (M : Nat → Nat → Nat → Bool) (m : Nat) : Prop where
  at_ : ∀ k, k < m → ProgAt h (A k) (B k) (p k) n (M k)
  off : ∀ k l, k < m → l < m → k ≠ l → B k ≤ A l ∨ B l ≤ A k
section
variable {h h' : Heap} {A B : Nat → Nat} {p : Nat → Value} {n m : Nat} {M M' : Nat → Nat → Nat → Bool} {l r : Nat}
theorem Der.fr (t : Der h A B p n M m) (f : Fr l r h h') (hd : ∀ k, k < m → B k ≤ l ∨ r ≤ A k ∨ r ≤ l) : Der h' A B p n M m := ⟨fun k hk => (t.at_ k hk).fr f (hd k hk), t.off⟩
theorem Der.congr (t : Der h A B p n M m) (e : ∀ k, k < m → ∀ i j, i < n → j < n → M k i j = M' k i j) : Der h A B p n M' m := ⟨fun k hk => (t.at_ k hk).congr fun i j hi hj => e k hk i j hi hj, t.off⟩
theorem Der.put {k : Nat} {N : Nat → Nat → Bool} (t : Der h A B p n M m) (hk : k < m) (f : Fr (A k) (B k) h h') (q : ProgAt h' (A k) (B k) (p k) n N) : Der h' A B p n (fun l => if l = k then N else M l) m := by
  refine ⟨fun l hl => ?_, t.off⟩
  by_cases hlk : l = k
  · subst hlk; simp only [if_true]; exact q
  · simp only [if_neg hlk]
    have := t.off l k hl hk hlk
    exact (t.at_ l hl).fr f (by omega)
end
/-- All but these blocks lie as they lay. -/
structure FrX (S : Nat → Prop) (h h' : Heap) : Prop where
  size : h.size ≤ h'.size
  old : ∀ b, b < h.size → ¬ S b → h'[b]? = h[b]?
def InR (A B : Nat → Nat) (m x : Nat) : Prop := ∃ k, k < m ∧ A k ≤ x ∧ x < B k
section
variable {S : Nat → Prop} {h h' h'' : Heap} {l r : Nat}
theorem FrX.refl (S : Nat → Prop) (h : Heap) : FrX S h h := ⟨Nat.le_refl _, fun _ _ _ => rfl⟩
theorem FrX.trans (a : FrX S h h') (b : FrX S h' h'') : FrX S h h'' := ⟨Nat.le_trans a.size b.size, fun x hx hc => (b.old x (Nat.lt_of_lt_of_le hx a.size) hc).trans (a.old x hx hc)⟩
theorem FrX.of (f : Fr l r h h') (hs : ∀ x, l ≤ x → x < r → S x) : FrX S h h' := ⟨f.size, fun x hx hc => f.old x hx (by
  rcases Nat.lt_or_ge x l with h | h
  · exact .inl h
  · rcases Nat.lt_or_ge x r with h' | h'
    · exact absurd (hs x h h') hc
    · exact .inr h')⟩
theorem FrX.step (a : FrX S h h') (f : Fr l r h' h'') (hs : ∀ x, l ≤ x → x < r → S x ∨ h.size ≤ x) : FrX S h h'' := ⟨Nat.le_trans a.size f.size, fun x hx hc => (f.old x (Nat.lt_of_lt_of_le hx a.size) (by
  rcases Nat.lt_or_ge x l with h | h
  · exact .inl h
  · rcases Nat.lt_or_ge x r with h' | h'
    · rcases hs x h h' with h | h
      · exact absurd h hc
      · omega
    · exact .inr h')).trans (a.old x hx hc)⟩
theorem FrX.rw {b : Nat} {c : List Value} (a : FrX S h h') (w : Rw h b c) (hb : ¬ S b) : Rw h' b c := by
  have := w.lt
  obtain ⟨t, w⟩ := w; exact ⟨t, (a.old b this hb).trans w⟩
theorem FrX.holder {s : Nat} {v : Value} {n : Nat} {xs : List Value} {lo : Nat} (a : FrX S h h') (w : Holder s h v n xs lo) (hb : ∀ x, lo ≤ x → ¬ S x) : Holder s h' v n xs lo := by
  obtain ⟨hl, h1 | ⟨b, c, rest, rfl, h2, h3, h4⟩⟩ := w
  · exact ⟨hl, .inl h1⟩
  · exact ⟨hl, .inr ⟨b, c, rest, rfl, a.rw h2 (hb b h4), h3, h4⟩⟩
theorem FrX.fresh {h0 : Heap} (p : Fr 0 0 h0 h) (a : FrX S h h') (hs : ∀ x, S x → h0.size ≤ x) : Fr 0 0 h0 h' :=
  ⟨Nat.le_trans p.size a.size, fun x hx hc => (a.old x (Nat.lt_of_lt_of_le hx p.size) (fun h => by have := hs x h; omega)).trans (p.old x hx hc)⟩
end
/-- What ran in a free part, by number. -/
theorem Sep.at_ {V : Nat → Out} {lo hi : Nat} {l : List FI} {L : List Nat} (s : Sep V lo hi l) (hL : l.map (fun f => f.g.idx) = L) : (∀ i ∈ L, lo ≤ (V i).2.1 ∧ (V i).2.1 ≤ (V i).2.2 ∧ (V i).2.2 ≤ hi) ∧ ∀ i ∈ L, ∀ j ∈ L, i ≠ j → (V i).2.2 ≤ (V j).2.1 ∨ (V j).2.2 ≤ (V i).2.1 := by
  subst hL
  constructor
  · intro i hi
    obtain ⟨f, hf, rfl⟩ := List.mem_map.1 hi
    exact s.1 f hf
  · intro i hi j hj hij
    obtain ⟨f, hf, rfl⟩ := List.mem_map.1 hi
    obtain ⟨f', hf', rfl⟩ := List.mem_map.1 hj
    exact s.2 f hf f' hf' hij
end Go.Vc
namespace Go.Proofs.Tst
open Go Go.Vc
set_option maxHeartbeats 800000 in
theorem rel_Comp {n m : Nat} {M N : Nat → Nat → Bool} {p q : Value} {lo hi lo' hi' : Nat} {h : Heap} (hr : ProgAt h lo hi p n M) (hs : ProgAt h lo' hi' q m N) (ht : TabAt h) :
    Con Tryd.prog 33 #[p, q] h fun v h' => Fr 0 0 h h' ∧ ProgAt h' h.size h'.size v (max n m) (compM n M m N) := by
  refine con_rel_Comp (fun v h1 h2 x ⟨f, o⟩ => ⟨x.fr f (Nat.le_refl _), (o.ext x).mono (Nat.le_refl _) x.size⟩) ?_
  obtain ⟨hn, pb, rb, R, W, rfl, t⟩ := hr
  obtain ⟨hm, pb', rb', R', W', rfl, t'⟩ := hs
  have hmx : (if (m : Int) > (n : Int) then (m : Int) else (n : Int)) = ((max n m : Nat) : Int) := by split <;> omega
  have hcl : clampN (max n m : Nat) = max n m := by unfold clampN; omega
  have p0 : Fr 0 0 h h := .refl _ _ _
  simp -dsimp only [go_sem]
  intro b1 h1 n1
  have n1_a := n1.at_
  have n1_z := n1.size
  replace p0 := p0.fresh (n1.fr (lo := 0) (hi := 0)) (by omega)
  have r1 := n1.row
  have tp := t.fr p0 (by omega)
  have tq := t'.fr p0 (by omega)
  simp -dsimp only [go_sem, tp.ptr.cell, tq.ptr.cell, r1.cell]
  rw [hmx]
  refine rvc_joint (fun b2 : Nat => [(0, .pointer (some ⟨pb, 0, none⟩)), (3, .pointer (some ⟨b1, 0, none⟩)), (4, .pointer none), (5, .pointer (some ⟨b2, 0, none⟩))])
    (fun b2 h' => Fr 0 0 h h' ∧ Rw h' b1 [.pointer (some ⟨pb', 0, none⟩)] ∧ b1 < b2 ∧ ∃ pb1 rb1 R1 W1 lo1 hi1, h1.size ≤ lo1 ∧ hi1 ≤ h'.size ∧ (b2 < lo1 ∨ hi1 ≤ b2) ∧ Rw h' b2 [.pointer (some ⟨pb1, 0, none⟩)] ∧ PTab h' lo1 hi1 pb1 rb1 (max n m) R1 W1 fun _ _ => false) ?_ ?_
  · simp -dsimp only [go_sem, r_two, r1.cell]
    refine ⟨?_, ?_⟩
    · refine call_of (rel_New _ h1) ?_
      rintro v h2 ⟨f2, t2⟩
      rw [hcl] at t2
      obtain ⟨-, pb1, rb1, R1, W1, rfl, t2⟩ := t2
      have f2_z := f2.size
      replace p0 := p0.fresh f2 (by omega)
      replace r1 := r1.fr f2 (by omega)
      have tp := t.fr p0 (by omega)
      have tq := t'.fr p0 (by omega)
      simp -dsimp only [go_sem, tp.ptr.cell, tq.ptr.cell, r1.cell]
      intro b3 h3 n3
      have n3_a := n3.at_
      have n3_z := n3.size
      replace p0 := p0.fresh (n3.fr (lo := 0) (hi := 0)) (by omega)
      replace r1 := r1.fr (n3.fr (lo := 0) (hi := 0)) (by omega)
      replace t2 := t2.fr (n3.fr (lo := 0) (hi := 0)) (by omega)
      have r3 := n3.row
      simp -dsimp only [go_sem, r1.cell, r3.cell]
      refine Chk_intro (r3.wr (by first | (simp; done) | (simp; omega))) fun h4 s4 => ?_
      have s4_z := s4.size
      replace p0 := p0.fresh s4.fr (by omega)
      replace r1 := r1.fr s4.fr (by omega)
      replace t2 := t2.fr s4.fr (by omega)
      replace r3 := s4.row r3
      try simp only [cl_int, cl_bool, cl_slice, cl_ptr, putAt_one, List.set_cons_zero, List.set_cons_succ, ivec_set, brow_upd] at r3
      simp -dsimp only [go_sem, r1.cell, r3.cell]
      exact ⟨b3, by simp [Le, find], p0, r1, by omega, _, _, _, _, _, _, Nat.le_refl _, by omega, .inr (by omega), r3, t2⟩
    · intro b3 h3 n3
      have n3_a := n3.at_
      have n3_z := n3.size
      replace p0 := p0.fresh (n3.fr (lo := 0) (hi := 0)) (by omega)
      replace r1 := r1.fr (n3.fr (lo := 0) (hi := 0)) (by omega)
      have r3 := n3.row
      simp -dsimp only [go_sem, r1.cell, r3.cell]
      refine call_of (rel_New _ h3) ?_
      rintro v h2 ⟨f2, t2⟩
      rw [hcl] at t2
      obtain ⟨-, pb1, rb1, R1, W1, rfl, t2⟩ := t2
      have f2_z := f2.size
      replace p0 := p0.fresh f2 (by omega)
      replace r1 := r1.fr f2 (by omega)
      replace r3 := r3.fr f2 (by omega)
      have tp := t.fr p0 (by omega)
      have tq := t'.fr p0 (by omega)
      simp -dsimp only [go_sem, tp.ptr.cell, tq.ptr.cell, r1.cell, r3.cell]
      refine Chk_intro (r3.wr (by first | (simp; done) | (simp; omega))) fun h4 s4 => ?_
      have s4_z := s4.size
      replace p0 := p0.fresh s4.fr (by omega)
      replace r1 := r1.fr s4.fr (by omega)
      replace t2 := t2.fr s4.fr (by omega)
      replace r3 := s4.row r3
      try simp only [cl_int, cl_bool, cl_slice, cl_ptr, putAt_one, List.set_cons_zero, List.set_cons_succ, ivec_set, brow_upd] at r3
      simp -dsimp only [go_sem, r1.cell, r3.cell]
      exact ⟨b3, by simp [Le, find], p0, r1, by omega, _, _, _, _, h3.size, h2.size, by omega, by omega, .inl (by omega), r3, t2⟩
  rintro b2 h2 ⟨p0, r1, hb12, pb1, rb1, R1, W1, lo1, hi1, hlo, hhi, hb2, r2, t2⟩ e ⟨e0, e3, e4, e5, -⟩
  have p0_z := p0.size
  have r1_l := r1.lt
  have r2_l := r2.lt
  have at2 := t2.at_
  have tp := t.fr p0 (by omega)
  simp -dsimp only [go_sem, e0, e3, e4, e5, tp.ptr.cell, r1.cell, r2.cell]
  refine loop_intro (fun a : Nat => [(3, .pointer (some ⟨b1, 0, none⟩)), (5, .pointer (some ⟨b2, 0, none⟩)), (22, .slice (some ⟨rb, 0, none⟩) n n), (23, .int .i64 n), (24, .int .i64 a)])
    (fun a h' => a ≤ n ∧ Fr 0 0 h h' ∧ h2.size ≤ h'.size ∧ Rw h' b1 [.pointer (some ⟨pb', 0, none⟩)] ∧ Rw h' b2 [.pointer (some ⟨pb1, 0, none⟩)] ∧ ∃ W, PTab h' lo1 hi1 pb1 rb1 (max n m) R1 W fun i j => decide (i < a) && compM n M m N i j) (fun a => n - a) 0 ?_ ?_ ?_
  · simp [Le, find]
  · exact ⟨by omega, p0, by omega, r1, r2, _, t2.congr fun i j _ _ => by simp⟩
  rintro a h4 ⟨ha, p0, y4, r1, r2, W4, t4⟩
  have p0_z := p0.size
  have r1_l := r1.lt
  have r2_l := r2.lt
  simp -dsimp only [go_sem, r1.cell, r2.cell]
  refine ⟨fun hlt => ?_, fun hge => ?_⟩
  · have hlt : a < n := by omega
    simp -dsimp only [go_sem, r1.cell, r2.cell]
    refine Chk_intro (by omega) ?_
    simp -dsimp only [go_sem, (t.fr p0 (by omega)).rowsGet hlt, r1.cell, r2.cell]
    intro b5 h5 n5
    have n5_a := n5.at_
    have n5_z := n5.size
    replace p0 := p0.fresh (n5.fr (lo := 0) (hi := 0)) (by omega)
    replace r1 := r1.fr (n5.fr (lo := 0) (hi := 0)) (by omega)
    replace r2 := r2.fr (n5.fr (lo := 0) (hi := 0)) (by omega)
    replace t4 := t4.fr (n5.fr (lo := 0) (hi := 0)) (by omega)
    have r5 := n5.row
    simp -dsimp only [go_sem, r1.cell, r2.cell, r5.cell]
    refine Chk_intro (r5.wr (by first | (simp; done) | (simp; omega))) fun h6 s6 => ?_
    have s6_z := s6.size
    replace p0 := p0.fresh s6.fr (by omega)
    replace r1 := r1.fr s6.fr (by omega)
    replace r2 := r2.fr s6.fr (by omega)
    replace t4 := t4.fr s6.fr (by omega)
    replace r5 := s6.row r5
    try simp only [cl_int, cl_bool, cl_slice, cl_ptr, putAt_one, List.set_cons_zero, List.set_cons_succ, ivec_set, brow_upd] at r5
    simp -dsimp only [go_sem, r1.cell, r2.cell, r5.cell]
    refine call_of (rel_points _ _ _ h6) ?_
    rintro v h7 ⟨f7, rfl, c7, z7⟩
    have f7_z := f7.size
    replace p0 := p0.fresh f7 (by omega)
    replace r1 := r1.fr f7 (by omega)
    replace r2 := r2.fr f7 (by omega)
    replace t4 := t4.fr f7 (by omega)
    replace r5 := r5.fr f7 (by omega)
    simp -dsimp only [go_sem, r1.cell, r2.cell, r5.cell]
    have hbits := (t.row a hlt).2.2.2.2.2
    refine ⟨rfl, points_intro rfl hbits hn ⟨c7, ptab_rd (t.fr p0 (by omega)) hlt, ht.fr p0 (by omega)⟩
      (fun d h' => Fr 0 0 h h' ∧ h7.size ≤ h'.size ∧ Rw h' b1 [.pointer (some ⟨pb', 0, none⟩)] ∧ Rw h' b2 [.pointer (some ⟨pb1, 0, none⟩)] ∧ Rw h' b5 [.int .i64 a] ∧ hcell h' h6.size 0 = some (.slice (some ⟨R a, 0, none⟩) (nw n) (nw n)) ∧
        ∃ W, PTab h' lo1 hi1 pb1 rb1 (max n m) R1 W fun i j => (decide (i < a) && compM n M m N i j) || (i == a && ((rest (M a) n 0).take d).any fun q => inN m N q j))
      (fun _ _ => False) ?_ ?_ ?_ ?_ ?_ ?_ ?_⟩
    · rintro d h' ⟨q0, -, -, -, -, q1, -⟩
      exact ⟨q1, ptab_rd (t.fr q0 (by omega)) hlt, ht.fr q0 (by omega)⟩
    · rintro d h8 h9 x ⟨q0, q1, q2, q3, q3', q4, W', q5⟩
      exact ⟨q0.ext x (by omega), Nat.le_trans q1 x.size, q2.ext x, q3.ext x, q3'.ext x, x.cell q4, W', q5.ext x⟩
    · exact fun _ _ _ _ h => h
    · exact ⟨p0, Nat.le_refl _, r1, r2, r5, c7, _, t4.congr fun i j _ _ => by simp⟩
    · rintro d q h8 z8 hq hqn hqf ⟨p0, y8, r1, r2, r5, c8, W8, t8⟩
      have p0_z := p0.size
      have r1_l := r1.lt
      have r2_l := r2.lt
      have r5_l := r5.lt
      simp -dsimp only [go_sem, r1.cell, r2.cell, r5.cell]
      intro h9 x9
      have x9_z := x9.size
      replace p0 := p0.ext x9 (by omega)
      replace r1 := r1.ext x9
      replace r2 := r2.ext x9
      replace r5 := r5.ext x9
      replace t8 := t8.ext x9
      have c8 := x9.cell c8
      have tq := t'.fr p0 (by omega)
      simp -dsimp only [go_sem, tq.ptr.cell, r1.cell, r2.cell, r5.cell]
      refine ⟨fun hqm => ?_, fun hqm => ?_⟩
      · have hqm : q < m := by omega
        obtain ⟨g1, g2, g3, g4, g5, g6⟩ := t8.row a (by omega)
        simp -dsimp only [go_sem, tq.ptr.cell, t8.ptr.cell, r1.cell, r2.cell, r5.cell]
        refine Chk_intro (by omega) ?_
        simp -dsimp only [go_sem, t8.rowsGet (show a < max n m by omega), tq.ptr.cell, r1.cell, r2.cell, r5.cell]
        refine Chk_intro (by omega) ?_
        simp -dsimp only [go_sem, tq.rowsGet hqm, r1.cell, r2.cell, r5.cell]
        intro b10 h10 n10
        have n10_a := n10.at_
        have n10_z := n10.size
        replace p0 := p0.fresh (n10.fr (lo := 0) (hi := 0)) (by omega)
        replace r1 := r1.fr (n10.fr (lo := 0) (hi := 0)) (by omega)
        replace r2 := r2.fr (n10.fr (lo := 0) (hi := 0)) (by omega)
        replace r5 := r5.fr (n10.fr (lo := 0) (hi := 0)) (by omega)
        replace t8 := t8.fr (n10.fr (lo := 0) (hi := 0)) (by omega)
        have r10 := n10.row
        obtain ⟨g1, g2, g3, g4, g5, g6⟩ := t8.row a (by omega)
        have tq := t'.fr p0 (by omega)
        obtain ⟨f1, f2, f3, f4, f5, f6⟩ := tq.row q hqm
        simp -dsimp only [go_sem, tq.ptr.cell, t8.ptr.cell, t8.rowsGet (show a < max n m by omega), tq.rowsGet hqm, r1.cell, r2.cell, r5.cell, r10.cell]
        refine call_of (row_join g1 f1 (r10.rd rfl) (fun j => (g6 j).1) (fun j => (f6 j).1) (by unfold nw; omega) (by unfold nw; omega)) ?_
        rintro _ h11 ⟨f11, z11, r11⟩
        have t11 := t8.updRow (by omega) f11 r11 (g6.or f6 (by omega))
        have c10 := (n10.fr (lo := 0) (hi := 0)).keep c8 (by omega)
        have f11_z := f11.size
        replace p0 := p0.fresh f11 (by omega)
        replace r1 := r1.fr f11 (by omega)
        replace r2 := r2.fr f11 (by omega)
        replace r5 := r5.fr f11 (by omega)
        have tq := t'.fr p0 (by omega)
        simp -dsimp only [go_sem, t11.ptr.cell, t11.rowsGet (show a < max n m by omega), tq.ptr.cell, tq.rowsGet hqm, r1.cell, r2.cell, r5.cell]
        refine ⟨p0, by omega, r1, r2, r5, f11.keep c10 (by omega), _, t11.congr fun i j hi hj => ?_⟩
        rw [List.take_add_one, hq, Option.toList_some, List.any_append]
        by_cases hia : i = a
        · subst hia
          rw [upd_same]
          simp [inN, hqm]
        · rw [upd_ne _ _ hia]
          have e : (i == a) = false := by simpa using hia
          simp [e]
      · simp -dsimp only [go_sem, r1.cell, r2.cell, r5.cell]
        refine ⟨p0, by omega, r1, r2, r5, c8, _, t8.congr fun i j hi hj => ?_⟩
        rw [List.take_add_one, hq, Option.toList_some, List.any_append]
        have : inN m N q j = false := inN_out (by omega)
        simp [this]
    · rintro h8 z8 ⟨p0, y8, r1, r2, r5, c8, W8, t8⟩
      simp -dsimp only [go_sem, r1.cell, r2.cell, r5.cell]
      simp -dsimp (disch := omega) only [wrap64]
      refine ⟨a + 1, by omega, by simp [Le, find], by omega, p0, by omega, r1, r2, _, t8.congr fun i j hi hj => ?_⟩
      rw [List.take_length]
      by_cases hia : i = a
      · subst hia
        have : (rest (M i) n 0).any (fun q => inN m N q j) = compM n M m N i j := by
          rw [Bool.eq_iff_iff, compM_true, List.any_eq_true]
          constructor
          · rintro ⟨k, hk, h1⟩
            have := mem_rest.1 hk
            exact ⟨k, inN_true.2 ⟨hlt, this.2.1, this.2.2⟩, h1⟩
          · rintro ⟨k, h1, h2⟩
            have := inN_true.1 h1
            exact ⟨k, mem_rest.2 ⟨by omega, this.2.1, this.2.2⟩, h2⟩
        simp [this]
      · have e : (i == a) = false := by simpa using hia
        have : (i < a + 1) = (i < a) := by simp; omega
        simp [this, e]
    · exact fun _ _ _ h => h.elim
  · have : a = n := by omega
    subst this
    simp -dsimp only [go_sem, r1.cell, r2.cell]
    refine ⟨p0, by omega, _, _, _, _, rfl, ((t4.mono' (hi' := h4.size) (by omega)).lower (by omega)).congr fun i j hi hj => ?_⟩
    by_cases hia : i < a
    · simp [hia]
    · have : compM a M m N i j = false := by
        rw [Bool.eq_false_iff]; intro h'
        obtain ⟨k, h1, _⟩ := compM_true.1 h'
        exact hia (inN_true.1 h1).1
      simp [this]
end Go.Proofs.Tst
/-
  graph.Derive: how its relations are laid.
-/
namespace Go.Proofs.Tst
open Go Go.Vc
/-- The pairs of a list, each one ahead of the other. -/
def lpairs : List Int → List (Int × Int)
  | [] => []
  | a :: t => t.map (fun b => (a, b)) ++ lpairs t
def coPairs (g : Gr) : List (Int × Int) := g.co.flatMap lpairs
def relM (g : Gr) : Nat → Nat → Nat → Bool
  | 0 => g.poM
  | 1 => ofM g.n g.rf
  | 2 => ofM g.n (coPairs g)
  | 3 => ofM g.n g.rmw
  | 4 => g.sameM
  | 5 => g.extM
  | 6 => ofM g.n g.addr
  | 7 => ofM g.n g.data
  | 8 => ofM g.n g.ctrl
  | _ => compM g.n (invM (ofM g.n g.rf)) g.n (ofM g.n (coPairs g))
/-- As they are laid. -/
def relZ (g : Gr) : Nat → Nat → Nat → Bool
  | 0 => fun _ _ => false
  | 2 => fun _ _ => false
  | 4 => fun _ _ => false
  | 5 => fun _ _ => false
  | k => relM g k
def fcells (p : Nat → Value) (rd wr fe : Value) : List Value := [p 0, p 1, p 2, p 9, p 3, p 4, p 5, p 6, p 7, p 8, rd, wr, fe]
def fzero : List Value := [.pointer none, .pointer none, .pointer none, .pointer none, .pointer none, .pointer none, .pointer none, .pointer none, .pointer none, .pointer none, .slice none 0 0, .slice none 0 0, .slice none 0 0]
def ixD (k : Nat) : Nat := [1, 5, 7, 11, 13, 15, 19, 23, 27].getD k 0
def kindsV (g : Gr) (k : Int) (i : Nat) : List Bool := (g.evs.take i).map fun e => e.kind == k
theorem good_n {g : Gr} (h : g.good = true) : g.n ≤ 256 ∧ g.size = true := by
  have hs : g.size = true := by
    cases hs : g.size
    · unfold Gr.good Gr.check at h
      rw [hs] at h; simp at h
    · rfl
  have hs' := hs
  simp only [Gr.size, Bool.and_eq_true, decide_eq_true_eq] at hs
  exact ⟨hs.2, hs'⟩
theorem progPtr {h : Heap} {a b n : Nat} {v : Value} {M : Nat → Nat → Bool} (t : ProgAt h a b v n M) : ∃ pb, v = .pointer (some ⟨pb, 0, none⟩) := by
  obtain ⟨_, pb, _, _, _, e, _⟩ := t; exact ⟨pb, e⟩
def tellP (n : Nat) (M : Nat → Nat → Bool) : Tell := tell1 fun v a b h => ProgAt h a b v n M
theorem stabP (n : Nat) (M : Nat → Nat → Bool) : Stab (tellP n M) := Stab.one fun v a b h h' f t => t.fr f (by omega)
/-- The literal that is stored. -/
def tellF : Tell := fun us _ => match us with
  | [a, b, c, d, e, f, g, h, i, u] => u.1 = .agg #[a.1, b.1, c.1, .pointer none, d.1, e.1, f.1, g.1, h.1, i.1, .slice none 0 0, .slice none 0 0, .slice none 0 0]
  | _ => False
theorem tellF_eq (a b c d e f g h i u : Out) (hp : Heap) : tellF [a, b, c, d, e, f, g, h, i, u] hp = (u.1 = .agg #[a.1, b.1, c.1, .pointer none, d.1, e.1, f.1, g.1, h.1, i.1, .slice none 0 0, .slice none 0 0, .slice none 0 0]) := (rfl)
def tellA (c : List Value) : Tell := tell1 fun v a b h => v = .pointer (some ⟨a, 0, none⟩) ∧ b = a + 1 ∧ Rw h a c
theorem stabA (c : List Value) : Stab (tellA c) := Stab.one fun v a b h h' f ⟨h1, h2, h3⟩ => ⟨h1, h2, h3.fr f (by omega)⟩
theorem tellP_eq (n : Nat) (M : Nat → Nat → Bool) (u : Out) (h : Heap) : tellP n M [u] h = ProgAt h u.2.1 u.2.2 u.1 n M := (rfl)
theorem tellA_eq (c : List Value) (u : Out) (h : Heap) : tellA c [u] h = (u.1 = .pointer (some ⟨u.2.1, 0, none⟩) ∧ u.2.2 = u.2.1 + 1 ∧ Rw h u.2.1 c) := (rfl)
end Go.Proofs.Tst
/-
  graph.Derive: one row of po, same and ext.
-/
namespace Go.Proofs.Tst
open Go Go.Vc
/-- How far the tables are. -/
def relT (g : Gr) (i j k : Nat) : Nat → Nat → Bool := if k = 0 ∨ k = 4 ∨ k = 5 then mixM i j g.n (relM g k) (fun _ _ => false) else relZ g k
theorem putM_nat {n : Nat} {M : Nat → Nat → Bool} {i j : Nat} (hi : i < n) (hj : j < n) (v : Bool) (x y : Nat) : putM n M i j v x y = if x = i ∧ y = j then v else M x y := by
  unfold putM
  have h1 : inR n (i : Int) = true := by unfold inR; simp; omega
  have h2 : inR n (j : Int) = true := by unfold inR; simp; omega
  rw [h1, h2]
  by_cases hx : x = i
  · by_cases hy : y = j
    · subst hx; subst hy; simp
    · have : ((j : Int) == (y : Int)) = false := by simp; omega
      simp [this, hy]
  · have : ((i : Int) == (x : Int)) = false := by simp; omega
    simp [this, hx]
theorem relT_set {g : Gr} {i j k : Nat} (hk : k = 0 ∨ k = 4 ∨ k = 5) {v : Bool} (hv : v = relM g k i j) {x y : Nat} : (if x = i ∧ y = j then v else relT g i j k x y) = relT g i (j + 1) k x y := by
  unfold relT; rw [if_pos hk, if_pos hk]; exact mixM_set hv
theorem relT_step {g : Gr} {i j : Nat} (hi : i < g.n) (hj : j < g.n) {v0 v4 v5 : Bool} (h0 : v0 = relM g 0 i j) (h4 : v4 = relM g 4 i j) (h5 : v5 = relM g 5 i j) (k : Nat) {x y : Nat} (_ : x < g.n) (_ : y < g.n) :
    (if k = 5 then putM g.n ((fun l => if l = 4 then putM g.n ((fun l => if l = 0 then putM g.n (relT g i j 0) i j v0 else relT g i j l) 4) i j v4 else (fun l => if l = 0 then putM g.n (relT g i j 0) i j v0 else relT g i j l) l) 5) i j v5
      else (fun l => if l = 4 then putM g.n ((fun l => if l = 0 then putM g.n (relT g i j 0) i j v0 else relT g i j l) 4) i j v4 else (fun l => if l = 0 then putM g.n (relT g i j 0) i j v0 else relT g i j l) l) k) x y = relT g i (j + 1) k x y := by
  by_cases k5 : k = 5
  · subst k5
    simp only [if_true]
    rw [putM_nat hi hj]
    show (if x = i ∧ y = j then v5 else relT g i j 5 x y) = _
    exact relT_set (by decide) h5
  · rw [if_neg k5]
    by_cases k4 : k = 4
    · subst k4
      simp only [if_true]
      rw [putM_nat hi hj]
      show (if x = i ∧ y = j then v4 else relT g i j 4 x y) = _
      exact relT_set (by decide) h4
    · simp only [if_neg k4]
      by_cases k0 : k = 0
      · subst k0
        simp only [if_true]
        rw [putM_nat hi hj]
        show (if x = i ∧ y = j then v0 else relT g i j 0 x y) = _
        exact relT_set (by decide) h0
      · simp only [if_neg k0]
        unfold relT
        rw [if_neg (by omega), if_neg (by omega)]
theorem relT_next {g : Gr} {i k x y : Nat} : relT g i g.n k x y = relT g (i + 1) 0 k x y := by
  unfold relT
  split
  · exact mixM_next
  · rfl
set_option maxHeartbeats 4000000 in
theorem derive_row {Q : Post} {h hI : Heap} {q : GV} {g : Gr} {b1 b2 b5 b7 i H3 H4 : Nat} {A B : Nat → Nat} {p : Nat → Value} {v3 rd wr fe v53 v54 v55 : Value} (t : GrAt h q g) (p0 : Fr 0 0 h hI)
    (hAB : ∀ k, k < 9 → H3 ≤ A k ∧ A k ≤ B k ∧ B k ≤ H4) (hb5 : ∀ k, k < 9 → b5 < A k ∨ B k ≤ b5) (h34 : h.size ≤ H3) (hb7 : H4 ≤ b7) (h4I : H4 ≤ hI.size) (hi : i < g.n)
    (D : Der hI A B p g.n (relT g i 0) 9) (r5 : Rw hI b5 [p 0, p 1, p 2, v3, p 3, p 4, p 5, p 6, p 7, p 8, rd, wr, fe]) (r7 : Rw hI b7 (g.ev i).cells)
    (hQ : ∀ h', FrX (InR A B 9) hI h' → Der h' A B p g.n (relT g (i + 1) 0) 9 →
      Q (.exit 2) [(1, .pointer (some ⟨b1, 0, none⟩)), (2, .pointer (some ⟨b2, 0, none⟩)), (5, .pointer (some ⟨b5, 0, none⟩)), (6, .int .i64 i), (7, .pointer (some ⟨b7, 0, none⟩)), (53, v53), (54, v54), (55, v55), (85, .slice q.e g.evs.length q.ec), (86, .int .i64 g.evs.length), (87, .int .i64 g.n), (88, .bool false)] h') :
    loopVC (vc Tryd.prog none g_graph_Derive_l18) Q [(1, .pointer (some ⟨b1, 0, none⟩)), (2, .pointer (some ⟨b2, 0, none⟩)), (5, .pointer (some ⟨b5, 0, none⟩)), (6, .int .i64 i), (7, .pointer (some ⟨b7, 0, none⟩)), (53, v53), (54, v54), (55, v55), (85, .slice q.e g.evs.length q.ec), (86, .int .i64 g.evs.length), (87, .int .i64 0)] hI := by
  have be := t.fits.e
  have hen : g.evs.length = g.n := rfl
  have r5l := r5.lt
  have r7l := r7.lt
  unfold Ev.cells at r7
  refine loop_intro (fun j : Nat => [(1, .pointer (some ⟨b1, 0, none⟩)), (2, .pointer (some ⟨b2, 0, none⟩)), (5, .pointer (some ⟨b5, 0, none⟩)), (6, .int .i64 i), (7, .pointer (some ⟨b7, 0, none⟩)), (53, v53), (54, v54), (55, v55), (85, .slice q.e g.evs.length q.ec), (86, .int .i64 g.evs.length), (87, .int .i64 j)])
    (fun j h' => j ≤ g.n ∧ FrX (InR A B 9) hI h' ∧ Der h' A B p g.n (relT g i j) 9) (fun j => g.n - j) 0 ?_ ?_ ?_
  · simp [Le, find]
  · exact ⟨by omega, .refl _ _, D⟩
  clear D
  rintro j h2 ⟨hj, X, D⟩
  have X_z := X.size
  have p2 : Fr 0 0 h h2 := X.fresh p0 fun x ⟨k, hk, h1, _⟩ => by have := hAB k hk; omega
  have p2_z := p2.size
  replace r5 := X.rw r5 fun ⟨k, hk, h1, h2⟩ => by have := hb5 k hk; omega
  replace r7 := X.rw r7 fun ⟨k, hk, h1, h2⟩ => by have := hAB k hk; omega
  by_cases hlt : j < g.n
  · have e1 : ((j : Int) < (g.n : Int)) := by omega
    obtain ⟨eb, eo, he, hev⟩ := t.evs (by omega)
    obtain ⟨c0, c1, c2, c3, c4⟩ := hev h2 p2 j hlt
    simp -dsimp only [go_sem, he, e1, evs_len, c0, c1, c2, c3, c4, r5.cell, r7.cell]
    intro b9 h3 n9
    have n9_a := n9.at_
    have n9_z := n9.size
    replace p2 := p2.fresh (n9.fr (lo := 0) (hi := 0)) (by omega)
    replace X := X.step (n9.fr (lo := 0) (hi := 0)) (fun x h1 h2 => .inr (by omega))
    replace D := D.fr (n9.fr (lo := 0) (hi := 0)) (fun k hk => by have := hAB k hk; first | omega | (have := hb5 k hk; omega))
    replace r5 := r5.fr (n9.fr (lo := 0) (hi := 0)) (by omega)
    replace r7 := r7.fr (n9.fr (lo := 0) (hi := 0)) (by omega)
    have r9 := n9.row
    simp -dsimp only [go_sem, r5.cell, r7.cell, r9.cell]
    refine Chk_intro (r9.wr (by first | (simp; done) | (simp; omega))) fun h4 s9 => ?_
    have s9_z := s9.size
    replace p2 := p2.fresh s9.fr (by omega)
    replace X := X.step s9.fr (fun x h1 h2 => .inr (by omega))
    replace D := D.fr s9.fr (fun k hk => by have := hAB k hk; first | omega | (have := hb5 k hk; omega))
    replace r5 := r5.fr s9.fr (by omega)
    replace r7 := r7.fr s9.fr (by omega)
    replace r9 := s9.row r9
    try simp only [cl_int, cl_bool, cl_slice, cl_ptr, putAt_one, List.set_cons_zero, List.set_cons_succ, ivec_set, brow_upd] at r9
    simp -dsimp only [go_sem] at r9
    have hv5 : ((g.ev i).thread != (g.ev j).thread) = relM g 5 i j := rfl
    have hpo : relM g 0 i j = (decide (0 ≤ (i : Int)) && decide ((i : Int) < (j : Int)) && decide ((j : Int) < (g.n : Int)) && decide (0 ≤ (g.ev i).thread) && (g.ev i).thread == (g.ev j).thread) := by
      show g.before i j = _; unfold Gr.before; rw [Int.toNat_natCast, Int.toNat_natCast]
    rw [dec_t (show 0 ≤ (i : Int) by omega), dec_t e1] at hpo
    by_cases a1 : (i : Int) < (j : Int)
    · rw [dec_t a1] at hpo
      by_cases a2 : (g.ev i).thread ≥ 0
      · rw [dec_t (show 0 ≤ (g.ev i).thread from a2)] at hpo
        by_cases a3 : (g.ev i).thread = (g.ev j).thread
        · have hv1 : true = relM g 0 i j := by rw [hpo, beq_t a3]; rfl
          simp -dsimp only [go_sem, a1, a2, beq_t a3, r5.cell, r7.cell, r9.cell]
          refine call_of (rel_Put (D.at_ 0 (by decide)) i j (true)) ?_
          rintro vp h_p ⟨f_p, z_p, -, w_p⟩
          replace D := D.put (k := 0) (by decide) f_p w_p
          have ab_p := hAB 0 (by decide)
          have b5_p := hb5 0 (by decide)
          replace X := X.step f_p (fun x h1 h2 => .inl ⟨0, by decide, h1, h2⟩)
          replace p2 := p2.fresh f_p (by omega)
          replace r5 := r5.fr f_p (by omega)
          replace r7 := r7.fr f_p (by omega)
          replace r9 := r9.fr f_p (by omega)
          clear ab_p b5_p
          by_cases b1' : (g.ev i).loc ≥ 0
          · by_cases b2' : (g.ev i).loc = (g.ev j).loc
            · have hv4 : true = relM g 4 i j := by show true = g.sameM i j; unfold Gr.sameM; rw [dec_t (show 0 ≤ (g.ev i).loc from b1'), beq_t b2']; rfl
              simp -dsimp only [go_sem, b1', beq_t b2', r5.cell, r7.cell, r9.cell]
              refine call_of (rel_Put (D.at_ 4 (by decide)) i j (true)) ?_
              rintro vp h_p ⟨f_p, z_p, -, w_p⟩
              replace D := D.put (k := 4) (by decide) f_p w_p
              have ab_p := hAB 4 (by decide)
              have b5_p := hb5 4 (by decide)
              replace X := X.step f_p (fun x h1 h2 => .inl ⟨4, by decide, h1, h2⟩)
              replace p2 := p2.fresh f_p (by omega)
              replace r5 := r5.fr f_p (by omega)
              replace r7 := r7.fr f_p (by omega)
              replace r9 := r9.fr f_p (by omega)
              clear ab_p b5_p
              simp -dsimp only [go_sem, he, r5.cell, r7.cell, r9.cell]
              refine call_of (rel_Put (D.at_ 5 (by decide)) i j ((g.ev i).thread != (g.ev j).thread)) ?_
              rintro vp h_p ⟨f_p, z_p, -, w_p⟩
              replace D := D.put (k := 5) (by decide) f_p w_p
              have ab_p := hAB 5 (by decide)
              have b5_p := hb5 5 (by decide)
              replace X := X.step f_p (fun x h1 h2 => .inl ⟨5, by decide, h1, h2⟩)
              replace p2 := p2.fresh f_p (by omega)
              replace r5 := r5.fr f_p (by omega)
              replace r7 := r7.fr f_p (by omega)
              replace r9 := r9.fr f_p (by omega)
              clear ab_p b5_p
              simp -dsimp only [go_sem, he, evs_len, r5.cell, r7.cell, r9.cell]
              simp -dsimp (disch := omega) only [wrap64]
              refine ⟨j + 1, by omega, by simp [Le, find, he, evs_len], by omega, X, D.congr fun k hk x y hx hy => ?_⟩
              exact relT_step hi hlt hv1 hv4 hv5 k hx hy
            · have hv4 : false = relM g 4 i j := by show false = g.sameM i j; unfold Gr.sameM; rw [beq_f b2', Bool.and_false]
              simp -dsimp only [go_sem, b1', beq_f b2', r5.cell, r7.cell, r9.cell]
              refine call_of (rel_Put (D.at_ 4 (by decide)) i j (false)) ?_
              rintro vp h_p ⟨f_p, z_p, -, w_p⟩
              replace D := D.put (k := 4) (by decide) f_p w_p
              have ab_p := hAB 4 (by decide)
              have b5_p := hb5 4 (by decide)
              replace X := X.step f_p (fun x h1 h2 => .inl ⟨4, by decide, h1, h2⟩)
              replace p2 := p2.fresh f_p (by omega)
              replace r5 := r5.fr f_p (by omega)
              replace r7 := r7.fr f_p (by omega)
              replace r9 := r9.fr f_p (by omega)
              clear ab_p b5_p
              simp -dsimp only [go_sem, he, r5.cell, r7.cell, r9.cell]
              refine call_of (rel_Put (D.at_ 5 (by decide)) i j ((g.ev i).thread != (g.ev j).thread)) ?_
              rintro vp h_p ⟨f_p, z_p, -, w_p⟩
              replace D := D.put (k := 5) (by decide) f_p w_p
              have ab_p := hAB 5 (by decide)
              have b5_p := hb5 5 (by decide)
              replace X := X.step f_p (fun x h1 h2 => .inl ⟨5, by decide, h1, h2⟩)
              replace p2 := p2.fresh f_p (by omega)
              replace r5 := r5.fr f_p (by omega)
              replace r7 := r7.fr f_p (by omega)
              replace r9 := r9.fr f_p (by omega)
              clear ab_p b5_p
              simp -dsimp only [go_sem, he, evs_len, r5.cell, r7.cell, r9.cell]
              simp -dsimp (disch := omega) only [wrap64]
              refine ⟨j + 1, by omega, by simp [Le, find, he, evs_len], by omega, X, D.congr fun k hk x y hx hy => ?_⟩
              exact relT_step hi hlt hv1 hv4 hv5 k hx hy
          · have hv4 : false = relM g 4 i j := by show false = g.sameM i j; unfold Gr.sameM; rw [dec_f (show ¬ 0 ≤ (g.ev i).loc from b1')]; rfl
            simp -dsimp only [go_sem, b1', r5.cell, r7.cell, r9.cell]
            refine call_of (rel_Put (D.at_ 4 (by decide)) i j (false)) ?_
            rintro vp h_p ⟨f_p, z_p, -, w_p⟩
            replace D := D.put (k := 4) (by decide) f_p w_p
            have ab_p := hAB 4 (by decide)
            have b5_p := hb5 4 (by decide)
            replace X := X.step f_p (fun x h1 h2 => .inl ⟨4, by decide, h1, h2⟩)
            replace p2 := p2.fresh f_p (by omega)
            replace r5 := r5.fr f_p (by omega)
            replace r7 := r7.fr f_p (by omega)
            replace r9 := r9.fr f_p (by omega)
            clear ab_p b5_p
            simp -dsimp only [go_sem, he, r5.cell, r7.cell, r9.cell]
            refine call_of (rel_Put (D.at_ 5 (by decide)) i j ((g.ev i).thread != (g.ev j).thread)) ?_
            rintro vp h_p ⟨f_p, z_p, -, w_p⟩
            replace D := D.put (k := 5) (by decide) f_p w_p
            have ab_p := hAB 5 (by decide)
            have b5_p := hb5 5 (by decide)
            replace X := X.step f_p (fun x h1 h2 => .inl ⟨5, by decide, h1, h2⟩)
            replace p2 := p2.fresh f_p (by omega)
            replace r5 := r5.fr f_p (by omega)
            replace r7 := r7.fr f_p (by omega)
            replace r9 := r9.fr f_p (by omega)
            clear ab_p b5_p
            simp -dsimp only [go_sem, he, evs_len, r5.cell, r7.cell, r9.cell]
            simp -dsimp (disch := omega) only [wrap64]
            refine ⟨j + 1, by omega, by simp [Le, find, he, evs_len], by omega, X, D.congr fun k hk x y hx hy => ?_⟩
            exact relT_step hi hlt hv1 hv4 hv5 k hx hy
        · have hv1 : false = relM g 0 i j := by rw [hpo, beq_f a3]; rfl
          simp -dsimp only [go_sem, a1, a2, beq_f a3, r5.cell, r7.cell, r9.cell]
          refine call_of (rel_Put (D.at_ 0 (by decide)) i j (false)) ?_
          rintro vp h_p ⟨f_p, z_p, -, w_p⟩
          replace D := D.put (k := 0) (by decide) f_p w_p
          have ab_p := hAB 0 (by decide)
          have b5_p := hb5 0 (by decide)
          replace X := X.step f_p (fun x h1 h2 => .inl ⟨0, by decide, h1, h2⟩)
          replace p2 := p2.fresh f_p (by omega)
          replace r5 := r5.fr f_p (by omega)
          replace r7 := r7.fr f_p (by omega)
          replace r9 := r9.fr f_p (by omega)
          clear ab_p b5_p
          by_cases b1' : (g.ev i).loc ≥ 0
          · by_cases b2' : (g.ev i).loc = (g.ev j).loc
            · have hv4 : true = relM g 4 i j := by show true = g.sameM i j; unfold Gr.sameM; rw [dec_t (show 0 ≤ (g.ev i).loc from b1'), beq_t b2']; rfl
              simp -dsimp only [go_sem, b1', beq_t b2', r5.cell, r7.cell, r9.cell]
              refine call_of (rel_Put (D.at_ 4 (by decide)) i j (true)) ?_
              rintro vp h_p ⟨f_p, z_p, -, w_p⟩
              replace D := D.put (k := 4) (by decide) f_p w_p
              have ab_p := hAB 4 (by decide)
              have b5_p := hb5 4 (by decide)
              replace X := X.step f_p (fun x h1 h2 => .inl ⟨4, by decide, h1, h2⟩)
              replace p2 := p2.fresh f_p (by omega)
              replace r5 := r5.fr f_p (by omega)
              replace r7 := r7.fr f_p (by omega)
              replace r9 := r9.fr f_p (by omega)
              clear ab_p b5_p
              simp -dsimp only [go_sem, he, r5.cell, r7.cell, r9.cell]
              refine call_of (rel_Put (D.at_ 5 (by decide)) i j ((g.ev i).thread != (g.ev j).thread)) ?_
              rintro vp h_p ⟨f_p, z_p, -, w_p⟩
              replace D := D.put (k := 5) (by decide) f_p w_p
              have ab_p := hAB 5 (by decide)
              have b5_p := hb5 5 (by decide)
              replace X := X.step f_p (fun x h1 h2 => .inl ⟨5, by decide, h1, h2⟩)
              replace p2 := p2.fresh f_p (by omega)
              replace r5 := r5.fr f_p (by omega)
              replace r7 := r7.fr f_p (by omega)
              replace r9 := r9.fr f_p (by omega)
              clear ab_p b5_p
              simp -dsimp only [go_sem, he, evs_len, r5.cell, r7.cell, r9.cell]
              simp -dsimp (disch := omega) only [wrap64]
              refine ⟨j + 1, by omega, by simp [Le, find, he, evs_len], by omega, X, D.congr fun k hk x y hx hy => ?_⟩
              exact relT_step hi hlt hv1 hv4 hv5 k hx hy
            · have hv4 : false = relM g 4 i j := by show false = g.sameM i j; unfold Gr.sameM; rw [beq_f b2', Bool.and_false]
              simp -dsimp only [go_sem, b1', beq_f b2', r5.cell, r7.cell, r9.cell]
              refine call_of (rel_Put (D.at_ 4 (by decide)) i j (false)) ?_
              rintro vp h_p ⟨f_p, z_p, -, w_p⟩
              replace D := D.put (k := 4) (by decide) f_p w_p
              have ab_p := hAB 4 (by decide)
              have b5_p := hb5 4 (by decide)
              replace X := X.step f_p (fun x h1 h2 => .inl ⟨4, by decide, h1, h2⟩)
              replace p2 := p2.fresh f_p (by omega)
              replace r5 := r5.fr f_p (by omega)
              replace r7 := r7.fr f_p (by omega)
              replace r9 := r9.fr f_p (by omega)
              clear ab_p b5_p
              simp -dsimp only [go_sem, he, r5.cell, r7.cell, r9.cell]
              refine call_of (rel_Put (D.at_ 5 (by decide)) i j ((g.ev i).thread != (g.ev j).thread)) ?_
              rintro vp h_p ⟨f_p, z_p, -, w_p⟩
              replace D := D.put (k := 5) (by decide) f_p w_p
              have ab_p := hAB 5 (by decide)
              have b5_p := hb5 5 (by decide)
              replace X := X.step f_p (fun x h1 h2 => .inl ⟨5, by decide, h1, h2⟩)
              replace p2 := p2.fresh f_p (by omega)
              replace r5 := r5.fr f_p (by omega)
              replace r7 := r7.fr f_p (by omega)
              replace r9 := r9.fr f_p (by omega)
              clear ab_p b5_p
              simp -dsimp only [go_sem, he, evs_len, r5.cell, r7.cell, r9.cell]
              simp -dsimp (disch := omega) only [wrap64]
              refine ⟨j + 1, by omega, by simp [Le, find, he, evs_len], by omega, X, D.congr fun k hk x y hx hy => ?_⟩
              exact relT_step hi hlt hv1 hv4 hv5 k hx hy
          · have hv4 : false = relM g 4 i j := by show false = g.sameM i j; unfold Gr.sameM; rw [dec_f (show ¬ 0 ≤ (g.ev i).loc from b1')]; rfl
            simp -dsimp only [go_sem, b1', r5.cell, r7.cell, r9.cell]
            refine call_of (rel_Put (D.at_ 4 (by decide)) i j (false)) ?_
            rintro vp h_p ⟨f_p, z_p, -, w_p⟩
            replace D := D.put (k := 4) (by decide) f_p w_p
            have ab_p := hAB 4 (by decide)
            have b5_p := hb5 4 (by decide)
            replace X := X.step f_p (fun x h1 h2 => .inl ⟨4, by decide, h1, h2⟩)
            replace p2 := p2.fresh f_p (by omega)
            replace r5 := r5.fr f_p (by omega)
            replace r7 := r7.fr f_p (by omega)
            replace r9 := r9.fr f_p (by omega)
            clear ab_p b5_p
            simp -dsimp only [go_sem, he, r5.cell, r7.cell, r9.cell]
            refine call_of (rel_Put (D.at_ 5 (by decide)) i j ((g.ev i).thread != (g.ev j).thread)) ?_
            rintro vp h_p ⟨f_p, z_p, -, w_p⟩
            replace D := D.put (k := 5) (by decide) f_p w_p
            have ab_p := hAB 5 (by decide)
            have b5_p := hb5 5 (by decide)
            replace X := X.step f_p (fun x h1 h2 => .inl ⟨5, by decide, h1, h2⟩)
            replace p2 := p2.fresh f_p (by omega)
            replace r5 := r5.fr f_p (by omega)
            replace r7 := r7.fr f_p (by omega)
            replace r9 := r9.fr f_p (by omega)
            clear ab_p b5_p
            simp -dsimp only [go_sem, he, evs_len, r5.cell, r7.cell, r9.cell]
            simp -dsimp (disch := omega) only [wrap64]
            refine ⟨j + 1, by omega, by simp [Le, find, he, evs_len], by omega, X, D.congr fun k hk x y hx hy => ?_⟩
            exact relT_step hi hlt hv1 hv4 hv5 k hx hy
      · have hv1 : false = relM g 0 i j := by rw [hpo, dec_f (show ¬ 0 ≤ (g.ev i).thread from a2)]; rfl
        simp -dsimp only [go_sem, a1, a2, r5.cell, r7.cell, r9.cell]
        refine call_of (rel_Put (D.at_ 0 (by decide)) i j (false)) ?_
        rintro vp h_p ⟨f_p, z_p, -, w_p⟩
        replace D := D.put (k := 0) (by decide) f_p w_p
        have ab_p := hAB 0 (by decide)
        have b5_p := hb5 0 (by decide)
        replace X := X.step f_p (fun x h1 h2 => .inl ⟨0, by decide, h1, h2⟩)
        replace p2 := p2.fresh f_p (by omega)
        replace r5 := r5.fr f_p (by omega)
        replace r7 := r7.fr f_p (by omega)
        replace r9 := r9.fr f_p (by omega)
        clear ab_p b5_p
        by_cases b1' : (g.ev i).loc ≥ 0
        · by_cases b2' : (g.ev i).loc = (g.ev j).loc
          · have hv4 : true = relM g 4 i j := by show true = g.sameM i j; unfold Gr.sameM; rw [dec_t (show 0 ≤ (g.ev i).loc from b1'), beq_t b2']; rfl
            simp -dsimp only [go_sem, b1', beq_t b2', r5.cell, r7.cell, r9.cell]
            refine call_of (rel_Put (D.at_ 4 (by decide)) i j (true)) ?_
            rintro vp h_p ⟨f_p, z_p, -, w_p⟩
            replace D := D.put (k := 4) (by decide) f_p w_p
            have ab_p := hAB 4 (by decide)
            have b5_p := hb5 4 (by decide)
            replace X := X.step f_p (fun x h1 h2 => .inl ⟨4, by decide, h1, h2⟩)
            replace p2 := p2.fresh f_p (by omega)
            replace r5 := r5.fr f_p (by omega)
            replace r7 := r7.fr f_p (by omega)
            replace r9 := r9.fr f_p (by omega)
            clear ab_p b5_p
            simp -dsimp only [go_sem, he, r5.cell, r7.cell, r9.cell]
            refine call_of (rel_Put (D.at_ 5 (by decide)) i j ((g.ev i).thread != (g.ev j).thread)) ?_
            rintro vp h_p ⟨f_p, z_p, -, w_p⟩
            replace D := D.put (k := 5) (by decide) f_p w_p
            have ab_p := hAB 5 (by decide)
            have b5_p := hb5 5 (by decide)
            replace X := X.step f_p (fun x h1 h2 => .inl ⟨5, by decide, h1, h2⟩)
            replace p2 := p2.fresh f_p (by omega)
            replace r5 := r5.fr f_p (by omega)
            replace r7 := r7.fr f_p (by omega)
            replace r9 := r9.fr f_p (by omega)
            clear ab_p b5_p
            simp -dsimp only [go_sem, he, evs_len, r5.cell, r7.cell, r9.cell]
            simp -dsimp (disch := omega) only [wrap64]
            refine ⟨j + 1, by omega, by simp [Le, find, he, evs_len], by omega, X, D.congr fun k hk x y hx hy => ?_⟩
            exact relT_step hi hlt hv1 hv4 hv5 k hx hy
          · have hv4 : false = relM g 4 i j := by show false = g.sameM i j; unfold Gr.sameM; rw [beq_f b2', Bool.and_false]
            simp -dsimp only [go_sem, b1', beq_f b2', r5.cell, r7.cell, r9.cell]
            refine call_of (rel_Put (D.at_ 4 (by decide)) i j (false)) ?_
            rintro vp h_p ⟨f_p, z_p, -, w_p⟩
            replace D := D.put (k := 4) (by decide) f_p w_p
            have ab_p := hAB 4 (by decide)
            have b5_p := hb5 4 (by decide)
            replace X := X.step f_p (fun x h1 h2 => .inl ⟨4, by decide, h1, h2⟩)
            replace p2 := p2.fresh f_p (by omega)
            replace r5 := r5.fr f_p (by omega)
            replace r7 := r7.fr f_p (by omega)
            replace r9 := r9.fr f_p (by omega)
            clear ab_p b5_p
            simp -dsimp only [go_sem, he, r5.cell, r7.cell, r9.cell]
            refine call_of (rel_Put (D.at_ 5 (by decide)) i j ((g.ev i).thread != (g.ev j).thread)) ?_
            rintro vp h_p ⟨f_p, z_p, -, w_p⟩
            replace D := D.put (k := 5) (by decide) f_p w_p
            have ab_p := hAB 5 (by decide)
            have b5_p := hb5 5 (by decide)
            replace X := X.step f_p (fun x h1 h2 => .inl ⟨5, by decide, h1, h2⟩)
            replace p2 := p2.fresh f_p (by omega)
            replace r5 := r5.fr f_p (by omega)
            replace r7 := r7.fr f_p (by omega)
            replace r9 := r9.fr f_p (by omega)
            clear ab_p b5_p
            simp -dsimp only [go_sem, he, evs_len, r5.cell, r7.cell, r9.cell]
            simp -dsimp (disch := omega) only [wrap64]
            refine ⟨j + 1, by omega, by simp [Le, find, he, evs_len], by omega, X, D.congr fun k hk x y hx hy => ?_⟩
            exact relT_step hi hlt hv1 hv4 hv5 k hx hy
        · have hv4 : false = relM g 4 i j := by show false = g.sameM i j; unfold Gr.sameM; rw [dec_f (show ¬ 0 ≤ (g.ev i).loc from b1')]; rfl
          simp -dsimp only [go_sem, b1', r5.cell, r7.cell, r9.cell]
          refine call_of (rel_Put (D.at_ 4 (by decide)) i j (false)) ?_
          rintro vp h_p ⟨f_p, z_p, -, w_p⟩
          replace D := D.put (k := 4) (by decide) f_p w_p
          have ab_p := hAB 4 (by decide)
          have b5_p := hb5 4 (by decide)
          replace X := X.step f_p (fun x h1 h2 => .inl ⟨4, by decide, h1, h2⟩)
          replace p2 := p2.fresh f_p (by omega)
          replace r5 := r5.fr f_p (by omega)
          replace r7 := r7.fr f_p (by omega)
          replace r9 := r9.fr f_p (by omega)
          clear ab_p b5_p
          simp -dsimp only [go_sem, he, r5.cell, r7.cell, r9.cell]
          refine call_of (rel_Put (D.at_ 5 (by decide)) i j ((g.ev i).thread != (g.ev j).thread)) ?_
          rintro vp h_p ⟨f_p, z_p, -, w_p⟩
          replace D := D.put (k := 5) (by decide) f_p w_p
          have ab_p := hAB 5 (by decide)
          have b5_p := hb5 5 (by decide)
          replace X := X.step f_p (fun x h1 h2 => .inl ⟨5, by decide, h1, h2⟩)
          replace p2 := p2.fresh f_p (by omega)
          replace r5 := r5.fr f_p (by omega)
          replace r7 := r7.fr f_p (by omega)
          replace r9 := r9.fr f_p (by omega)
          clear ab_p b5_p
          simp -dsimp only [go_sem, he, evs_len, r5.cell, r7.cell, r9.cell]
          simp -dsimp (disch := omega) only [wrap64]
          refine ⟨j + 1, by omega, by simp [Le, find, he, evs_len], by omega, X, D.congr fun k hk x y hx hy => ?_⟩
          exact relT_step hi hlt hv1 hv4 hv5 k hx hy
    · have hv1 : false = relM g 0 i j := by rw [hpo, dec_f a1]; rfl
      simp -dsimp only [go_sem, a1, r5.cell, r7.cell, r9.cell]
      refine call_of (rel_Put (D.at_ 0 (by decide)) i j (false)) ?_
      rintro vp h_p ⟨f_p, z_p, -, w_p⟩
      replace D := D.put (k := 0) (by decide) f_p w_p
      have ab_p := hAB 0 (by decide)
      have b5_p := hb5 0 (by decide)
      replace X := X.step f_p (fun x h1 h2 => .inl ⟨0, by decide, h1, h2⟩)
      replace p2 := p2.fresh f_p (by omega)
      replace r5 := r5.fr f_p (by omega)
      replace r7 := r7.fr f_p (by omega)
      replace r9 := r9.fr f_p (by omega)
      clear ab_p b5_p
      by_cases b1' : (g.ev i).loc ≥ 0
      · by_cases b2' : (g.ev i).loc = (g.ev j).loc
        · have hv4 : true = relM g 4 i j := by show true = g.sameM i j; unfold Gr.sameM; rw [dec_t (show 0 ≤ (g.ev i).loc from b1'), beq_t b2']; rfl
          simp -dsimp only [go_sem, b1', beq_t b2', r5.cell, r7.cell, r9.cell]
          refine call_of (rel_Put (D.at_ 4 (by decide)) i j (true)) ?_
          rintro vp h_p ⟨f_p, z_p, -, w_p⟩
          replace D := D.put (k := 4) (by decide) f_p w_p
          have ab_p := hAB 4 (by decide)
          have b5_p := hb5 4 (by decide)
          replace X := X.step f_p (fun x h1 h2 => .inl ⟨4, by decide, h1, h2⟩)
          replace p2 := p2.fresh f_p (by omega)
          replace r5 := r5.fr f_p (by omega)
          replace r7 := r7.fr f_p (by omega)
          replace r9 := r9.fr f_p (by omega)
          clear ab_p b5_p
          simp -dsimp only [go_sem, he, r5.cell, r7.cell, r9.cell]
          refine call_of (rel_Put (D.at_ 5 (by decide)) i j ((g.ev i).thread != (g.ev j).thread)) ?_
          rintro vp h_p ⟨f_p, z_p, -, w_p⟩
          replace D := D.put (k := 5) (by decide) f_p w_p
          have ab_p := hAB 5 (by decide)
          have b5_p := hb5 5 (by decide)
          replace X := X.step f_p (fun x h1 h2 => .inl ⟨5, by decide, h1, h2⟩)
          replace p2 := p2.fresh f_p (by omega)
          replace r5 := r5.fr f_p (by omega)
          replace r7 := r7.fr f_p (by omega)
          replace r9 := r9.fr f_p (by omega)
          clear ab_p b5_p
          simp -dsimp only [go_sem, he, evs_len, r5.cell, r7.cell, r9.cell]
          simp -dsimp (disch := omega) only [wrap64]
          refine ⟨j + 1, by omega, by simp [Le, find, he, evs_len], by omega, X, D.congr fun k hk x y hx hy => ?_⟩
          exact relT_step hi hlt hv1 hv4 hv5 k hx hy
        · have hv4 : false = relM g 4 i j := by show false = g.sameM i j; unfold Gr.sameM; rw [beq_f b2', Bool.and_false]
          simp -dsimp only [go_sem, b1', beq_f b2', r5.cell, r7.cell, r9.cell]
          refine call_of (rel_Put (D.at_ 4 (by decide)) i j (false)) ?_
          rintro vp h_p ⟨f_p, z_p, -, w_p⟩
          replace D := D.put (k := 4) (by decide) f_p w_p
          have ab_p := hAB 4 (by decide)
          have b5_p := hb5 4 (by decide)
          replace X := X.step f_p (fun x h1 h2 => .inl ⟨4, by decide, h1, h2⟩)
          replace p2 := p2.fresh f_p (by omega)
          replace r5 := r5.fr f_p (by omega)
          replace r7 := r7.fr f_p (by omega)
          replace r9 := r9.fr f_p (by omega)
          clear ab_p b5_p
          simp -dsimp only [go_sem, he, r5.cell, r7.cell, r9.cell]
          refine call_of (rel_Put (D.at_ 5 (by decide)) i j ((g.ev i).thread != (g.ev j).thread)) ?_
          rintro vp h_p ⟨f_p, z_p, -, w_p⟩
          replace D := D.put (k := 5) (by decide) f_p w_p
          have ab_p := hAB 5 (by decide)
          have b5_p := hb5 5 (by decide)
          replace X := X.step f_p (fun x h1 h2 => .inl ⟨5, by decide, h1, h2⟩)
          replace p2 := p2.fresh f_p (by omega)
          replace r5 := r5.fr f_p (by omega)
          replace r7 := r7.fr f_p (by omega)
          replace r9 := r9.fr f_p (by omega)
          clear ab_p b5_p
          simp -dsimp only [go_sem, he, evs_len, r5.cell, r7.cell, r9.cell]
          simp -dsimp (disch := omega) only [wrap64]
          refine ⟨j + 1, by omega, by simp [Le, find, he, evs_len], by omega, X, D.congr fun k hk x y hx hy => ?_⟩
          exact relT_step hi hlt hv1 hv4 hv5 k hx hy
      · have hv4 : false = relM g 4 i j := by show false = g.sameM i j; unfold Gr.sameM; rw [dec_f (show ¬ 0 ≤ (g.ev i).loc from b1')]; rfl
        simp -dsimp only [go_sem, b1', r5.cell, r7.cell, r9.cell]
        refine call_of (rel_Put (D.at_ 4 (by decide)) i j (false)) ?_
        rintro vp h_p ⟨f_p, z_p, -, w_p⟩
        replace D := D.put (k := 4) (by decide) f_p w_p
        have ab_p := hAB 4 (by decide)
        have b5_p := hb5 4 (by decide)
        replace X := X.step f_p (fun x h1 h2 => .inl ⟨4, by decide, h1, h2⟩)
        replace p2 := p2.fresh f_p (by omega)
        replace r5 := r5.fr f_p (by omega)
        replace r7 := r7.fr f_p (by omega)
        replace r9 := r9.fr f_p (by omega)
        clear ab_p b5_p
        simp -dsimp only [go_sem, he, r5.cell, r7.cell, r9.cell]
        refine call_of (rel_Put (D.at_ 5 (by decide)) i j ((g.ev i).thread != (g.ev j).thread)) ?_
        rintro vp h_p ⟨f_p, z_p, -, w_p⟩
        replace D := D.put (k := 5) (by decide) f_p w_p
        have ab_p := hAB 5 (by decide)
        have b5_p := hb5 5 (by decide)
        replace X := X.step f_p (fun x h1 h2 => .inl ⟨5, by decide, h1, h2⟩)
        replace p2 := p2.fresh f_p (by omega)
        replace r5 := r5.fr f_p (by omega)
        replace r7 := r7.fr f_p (by omega)
        replace r9 := r9.fr f_p (by omega)
        clear ab_p b5_p
        simp -dsimp only [go_sem, he, evs_len, r5.cell, r7.cell, r9.cell]
        simp -dsimp (disch := omega) only [wrap64]
        refine ⟨j + 1, by omega, by simp [Le, find, he, evs_len], by omega, X, D.congr fun k hk x y hx hy => ?_⟩
        exact relT_step hi hlt hv1 hv4 hv5 k hx hy
  · obtain rfl : j = g.n := by omega
    simp -dsimp only [go_sem, evs_len, Int.lt_irrefl]
    exact hQ _ X (D.congr fun k _ x y _ _ => relT_next)
end Go.Proofs.Tst
/-
  graph.Derive: co.
-/
namespace Go.Proofs.Tst
open Go Go.Vc
def relC (g : Gr) (L : List (Int × Int)) (k : Nat) : Nat → Nat → Bool := if k = 2 then ofM g.n L else relM g k
theorem ofM_snoc {n : Nat} {L : List (Int × Int)} {a b : Int} (x y : Nat) : putM n (ofM n L) a b true x y = ofM n (L ++ [(a, b)]) x y := by
  unfold putM ofM
  rw [List.any_append]
  simp only [List.any_cons, List.any_nil, Bool.or_false]
  cases hc : (inR n a && inR n b && a == (x : Int) && b == (y : Int))
  · simp
  · simp
theorem relC_put {g : Gr} {L : List (Int × Int)} {a b : Int} (k x y : Nat) : (if k = 2 then putM g.n (relC g L 2) a b true else relC g L k) x y = relC g (L ++ [(a, b)]) k x y := by
  by_cases hk : k = 2
  · subst hk; exact ofM_snoc x y
  · rw [if_neg hk]; unfold relC; rw [if_neg hk, if_neg hk]
set_option maxHeartbeats 2000000 in
theorem derive_co {Q : Post} {h hI : Heap} {q : GV} {g : Gr} {b2 b5 H3 H4 : Nat} {A B : Nat → Nat} {p : Nat → Value} {v3 rd wr fe : Value} (t : GrAt h q g) (p0 : Fr 0 0 h hI)
    (hAB : ∀ k, k < 9 → H3 ≤ A k ∧ A k ≤ B k ∧ B k ≤ H4) (hb5 : ∀ k, k < 9 → b5 < A k ∨ B k ≤ b5) (h34 : h.size ≤ H3)
    (D : Der hI A B p g.n (relC g []) 9) (r5 : Rw hI b5 [p 0, p 1, p 2, v3, p 3, p 4, p 5, p 6, p 7, p 8, rd, wr, fe])
    (hQ : ∀ h', FrX (InR A B 9) hI h' → Der h' A B p g.n (relC g (coPairs g)) 9 →
      Q (.exit 4) [(2, .pointer (some ⟨b2, 0, none⟩)), (5, .pointer (some ⟨b5, 0, none⟩)), (140, .slice q.o g.co.length q.oc), (141, .int .i64 g.co.length), (142, .int .i64 g.co.length), (143, .bool false)] h') :
    loopVC (vc Tryd.prog none g_graph_Derive_l36) Q [(2, .pointer (some ⟨b2, 0, none⟩)), (5, .pointer (some ⟨b5, 0, none⟩)), (140, .slice q.o g.co.length q.oc), (141, .int .i64 g.co.length), (142, .int .i64 0)] hI := by
  have bo := t.fits.o
  have hrl := rlc_at t.l
  have r5l := r5.lt
  refine loop_intro (fun s : Nat × List (Int × Int) => [(2, .pointer (some ⟨b2, 0, none⟩)), (5, .pointer (some ⟨b5, 0, none⟩)), (140, .slice q.o g.co.length q.oc), (141, .int .i64 g.co.length), (142, .int .i64 s.1)])
    (fun s h' => s.1 ≤ g.co.length ∧ FrX (InR A B 9) hI h' ∧ Der h' A B p g.n (relC g s.2) 9 ∧ s.2 ++ (g.co.drop s.1).flatMap lpairs = coPairs g) (fun s => g.co.length - s.1) (0, []) ?_ ?_ ?_
  · simp [Le, find]
  · exact ⟨by omega, .refl _ _, D, rfl⟩
  clear D
  rintro ⟨c, L⟩ h2 ⟨hc, X, D, hL⟩
  dsimp only at hc D hL ⊢
  have notS : ¬ InR A B 9 b5 := fun ⟨k, hk, h1, h2⟩ => by have := hb5 k hk; omega
  have low : ∀ x, InR A B 9 x → h.size ≤ x := fun x ⟨k, hk, h1, _⟩ => by have := hAB k hk; omega
  by_cases hlt : c < g.co.length
  rotate_left
  · obtain rfl : c = g.co.length := by omega
    rw [List.drop_length] at hL
    simp only [List.flatMap_nil, List.append_nil] at hL
    simp -dsimp only [go_sem, Int.lt_irrefl]
    exact hQ _ X (hL ▸ D)
  have e1 : ((c : Int) < (g.co.length : Int)) := by omega
  obtain ⟨ob, oo, hoe, la, lc, hlc, hlist⟩ := hrl c hlt
  have hll := t.fits.l (g.co.getD c []) (by have : g.co[c]? = some (g.co.getD c []) := by { simp [hlt] }; exact List.mem_of_getElem? this)
  have hdr : g.co.drop c = g.co.getD c [] :: g.co.drop (c + 1) := by rw [List.drop_eq_getElem_cons hlt]; congr 1; simp [hlt]
  rw [hdr, List.flatMap_cons] at hL
  generalize g.co.getD c [] = l at hlist hll hL hlc
  obtain ⟨l1, l2⟩ := hlist h2 (X.fresh p0 low)
  simp -dsimp only [go_sem, e1, hoe, l1]
  refine loop_intro (fun s : Nat × List (Int × Int) => [(2, .pointer (some ⟨b2, 0, none⟩)), (5, .pointer (some ⟨b5, 0, none⟩)), (11, .slice la l.length lc), (140, .slice q.o g.co.length q.oc), (141, .int .i64 g.co.length), (142, .int .i64 c), (146, .slice la l.length lc), (147, .int .i64 l.length), (148, .int .i64 s.1)])
    (fun s h' => s.1 ≤ l.length ∧ FrX (InR A B 9) hI h' ∧ Der h' A B p g.n (relC g s.2) 9 ∧ s.2 ++ (lpairs (l.drop s.1) ++ (g.co.drop (c + 1)).flatMap lpairs) = coPairs g) (fun s => l.length - s.1) (0, L) ?_ ?_ ?_
  · simp [Le, find, hoe]
  · exact ⟨by omega, X, D, hL⟩
  clear X D hL l1 l2 L
  rintro ⟨i, L⟩ h2 ⟨hi, X, D, hL⟩
  dsimp only at hi D hL ⊢
  by_cases hil : i < l.length
  rotate_left
  · obtain rfl : i = l.length := by omega
    rw [List.drop_length] at hL
    simp -dsimp only [go_sem, Int.lt_irrefl]
    simp -dsimp (disch := omega) only [wrap64]
    exact ⟨(c + 1, L), by dsimp only; omega, by simp [Le, find, hoe], by dsimp only; omega, X, D, hL⟩
  have e2 : ((i : Int) < (l.length : Int)) := by omega
  have hq : l[i]? = some l[i] := by simp [hil]
  have hdi : l.drop i = l[i] :: l.drop (i + 1) := List.drop_eq_getElem_cons hil
  rw [hdi] at hL
  generalize l[i] = a at hq hL
  have hpr : lpairs (a :: l.drop (i + 1)) = (l.drop (i + 1)).map (fun b => (a, b)) ++ lpairs (l.drop (i + 1)) := rfl
  rw [hpr, List.append_assoc] at hL
  obtain ⟨lb, lo, hle, hlc2⟩ : ∃ b o, la = some ⟨b, o, none⟩ ∧ ∀ h', Fr 0 0 h h' → ∀ (i : Nat) (x : Int), l[i]? = some x → hcell h' b (o + i) = some (.int .i64 x) := by
    obtain ⟨hl1, a, c', k1, k2⟩ := (hlist h (.refl _ _ _)).2
    cases k1
    rcases k2 with k2 | ⟨b, o, k3, k4⟩
    · omega
    · refine ⟨b, o, k3, fun h' f i x hx => ?_⟩
      obtain ⟨-, a', c'', m1, m2⟩ := (hlist h' f).2
      cases m1
      rw [k3] at m2
      rcases m2 with m2 | ⟨b', o', m3, m4⟩
      · omega
      · cases m3; exact m4 i _ (intsV_get hx)
  have c1 := hlc2 h2 (X.fresh p0 low) i _ hq
  simp -dsimp only [go_sem, e2, hle, c1]
  have hw : IntKind.i64.wrap ((i : Int) + 1) = ((i + 1 : Nat) : Int) := by rw [wrap64 (by omega) (by omega)]; omega
  refine Chk_intro hlc ?_
  simp -dsimp only [go_sem, hw]
  refine Chk_intro (by omega) ?_
  simp -dsimp only [go_sem]
  have hY : 0 < l.length - (i + 1) → (if lc = i + 1 then some (⟨lb, lo, none⟩ : Addr) else some ⟨lb, lo + (i + 1), none⟩) = some ⟨lb, lo + (i + 1), none⟩ := fun h0 => by
    rw [if_neg (by omega)]
  generalize hYe : (if lc = i + 1 then some (⟨lb, lo, none⟩ : Addr) else some ⟨lb, lo + (i + 1), none⟩) = Y at hY
  refine loop_intro (fun s : Nat × List (Int × Int) => [(2, .pointer (some ⟨b2, 0, none⟩)), (5, .pointer (some ⟨b5, 0, none⟩)), (11, .slice la l.length lc), (13, .int .i64 a), (140, .slice q.o g.co.length q.oc), (141, .int .i64 g.co.length), (142, .int .i64 c), (146, .slice la l.length lc), (147, .int .i64 l.length), (148, .int .i64 i),
      (156, .slice Y (l.length - (i + 1)) (lc - (i + 1))), (157, .int .i64 (l.length - (i + 1) : Nat)), (158, .int .i64 s.1)])
    (fun s h' => s.1 ≤ l.length - (i + 1) ∧ FrX (InR A B 9) hI h' ∧ Der h' A B p g.n (relC g s.2) 9 ∧ s.2 ++ ((l.drop (i + 1 + s.1)).map (fun b => (a, b)) ++ (lpairs (l.drop (i + 1)) ++ (g.co.drop (c + 1)).flatMap lpairs)) = coPairs g) (fun s => l.length - (i + 1) - s.1) (0, L) ?_ ?_ ?_
  · simp [Le, find, hle, hoe]; exact hYe
  · exact ⟨by omega, X, D, hL⟩
  clear X D hL c1 L
  rintro ⟨j, L⟩ h2 ⟨hj, X, D, hL⟩
  dsimp only at hj D hL ⊢
  by_cases hjl : j < l.length - (i + 1)
  rotate_left
  · have hnil : l.drop (i + 1 + j) = [] := List.drop_eq_nil_of_le (by omega)
    rw [hnil] at hL
    have e3 : ¬ ((j : Int) < ((l.length - (i + 1) : Nat) : Int)) := by omega
    simp -dsimp only [go_sem, e3]
    simp -dsimp (disch := omega) only [wrap64]
    exact ⟨(i + 1, L), by dsimp only; omega, by simp [Le, find, hoe, hle], by dsimp only; omega, X, D, hL⟩
  have e3 : ((j : Int) < ((l.length - (i + 1) : Nat) : Int)) := by omega
  have hq2 : l[i + 1 + j]? = some l[i + 1 + j] := by simp [show i + 1 + j < l.length by omega]
  have hdj : l.drop (i + 1 + j) = l[i + 1 + j] :: l.drop (i + 1 + j + 1) := List.drop_eq_getElem_cons (by omega)
  rw [hdj, List.map_cons] at hL
  generalize l[i + 1 + j] = b at hq2 hL
  have c2 := hlc2 h2 (X.fresh p0 low) _ _ hq2
  rw [← Nat.add_assoc] at c2
  have r5' := X.rw r5 notS
  simp -dsimp only [go_sem, e3, hY (by omega), c2, r5'.cell]
  refine call_of (rel_Put (D.at_ 2 (by decide)) a b true) ?_
  rintro vp h3 ⟨f3, z3, -, w3⟩
  have D' := D.put (k := 2) (by decide) f3 w3
  have X' := X.step f3 (fun x h1 h2 => .inl ⟨2, by decide, h1, h2⟩)
  simp -dsimp only [go_sem, e3, hY (by omega), c2]
  simp -dsimp (disch := omega) only [wrap64]
  refine ⟨(j + 1, L ++ [(a, b)]), by dsimp only; omega, by simp [Le, find, hoe, hle], by dsimp only; omega, X', D'.congr fun k _ x y _ _ => relC_put k x y, ?_⟩
  rw [List.append_assoc]
  exact hL
end Go.Proofs.Tst
