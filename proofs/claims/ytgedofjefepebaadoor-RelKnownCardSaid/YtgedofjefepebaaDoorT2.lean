/-
  Contracts of functions that the law reaches: what each returns and what it leaves in memory. Conditions stand in each.
-/
import Derived.Test.YtgedofjefepebaaDoorT1
set_option linter.all false
set_option maxRecDepth 2000
namespace Go.Proofs.Tst
open Go Go.Vc
theorem rel_inside {n : Nat} {M : Nat → Nat → Bool} {p : Value} {lo hi : Nat} {h : Heap} (hr : ProgAt h lo hi p n M) (a b : Int) :
    Con Tryd.prog 78 #[p, .int .i64 a, .int .i64 b] h fun v h' => h' = h ∧ v = .bool (inR n a && inR n b) := by
  refine con_rel_Rel_inside ?_
  obtain ⟨hn, pb, rb, R, W, rfl, t⟩ := hr
  have hI : ∀ x : Int, 0 ≤ x → x < (n : Int) → inR n x = true := fun x h1 h2 => by simp [inR, h1, h2]
  by_cases h1 : a ≥ 0
  · by_cases h2 : a < (n : Int)
    · by_cases h3 : b ≥ 0
      · simp -dsimp only [go_sem, ↓reduceIte, reduceCtorEq, Nat.reduceEqDiff, Nat.reduceAdd, Nat.reduceLeDiff, Nat.reduceMul, Int.reduceBEq, Int.reduceBNe, Int.reduceLT, Int.reduceLE, Int.reduceGT, Int.reduceGE, h1, h2, h3, t.ptr.cell, decide_true]
        simp [inR, h1, h2, h3]
        try exact fun _ => h1
      · simp -dsimp only [go_sem, ↓reduceIte, reduceCtorEq, Nat.reduceEqDiff, Nat.reduceAdd, Nat.reduceLeDiff, Nat.reduceMul, Int.reduceBEq, Int.reduceBNe, Int.reduceLT, Int.reduceLE, Int.reduceGT, Int.reduceGE, h1, h2, h3, t.ptr.cell, decide_true, decide_false]
        simp [inR, h1, h2]; omega
    · simp -dsimp only [go_sem, ↓reduceIte, reduceCtorEq, Nat.reduceEqDiff, Nat.reduceAdd, Nat.reduceLeDiff, Nat.reduceMul, Int.reduceBEq, Int.reduceBNe, Int.reduceLT, Int.reduceLE, Int.reduceGT, Int.reduceGE, h1, h2, t.ptr.cell, decide_true, decide_false]
      simp [inR]; omega
  · simp -dsimp only [go_sem, ↓reduceIte, reduceCtorEq, Nat.reduceEqDiff, Nat.reduceAdd, Nat.reduceLeDiff, Nat.reduceMul, Int.reduceBEq, Int.reduceBNe, Int.reduceLT, Int.reduceLE, Int.reduceGT, Int.reduceGE, h1, decide_false]
    simp [inR]; omega
theorem row_has {W : Nat → Nat} {w p : Nat} {xv : Value} {h : Heap} (hx : Rd 1 h xv w (wrow w W)) (hp : p / 64 < w) (hW : W (p / 64) < 2 ^ 64) (hp6 : p ≤ 65536) :
    Con Tryd.prog 75 #[xv, .int .i64 p] h fun v h' => h' = h ∧ v = .bool ((W (p / 64)).testBit (p % 64)) := by
  refine con_rel_row_has ?_
  obtain ⟨xa, xc, rfl⟩ := hx.is
  simp -dsimp only [go_sem, ↓reduceIte, reduceCtorEq, Nat.reduceEqDiff, Nat.reduceAdd, Nat.reduceLeDiff, Nat.reduceMul, Int.reduceBEq, Int.reduceBNe, Int.reduceLT, Int.reduceLE, Int.reduceGT, Int.reduceGE]
  rw [tdiv64]
  refine Chk_intro (by decide) ?_
  rw [wrap64 (by omega) (by omega)]
  simp -dsimp only [go_sem, ↓reduceIte, reduceCtorEq, Nat.reduceEqDiff, Nat.reduceAdd, Nat.reduceLeDiff, Nat.reduceMul, Int.reduceBEq, Int.reduceBNe, Int.reduceLT, Int.reduceLE, Int.reduceGT, Int.reduceGE]
  refine Chk_intro (by omega) (hx.idx (by omega) fun b o c => ?_)
  have c := c _ _ (wrow_get hp)
  simp -dsimp only [go_sem, ↓reduceIte, reduceCtorEq, Nat.reduceEqDiff, Nat.reduceAdd, Nat.reduceLeDiff, Nat.reduceMul, Int.reduceBEq, Int.reduceBNe, Int.reduceLT, Int.reduceLE, Int.reduceGT, Int.reduceGE, c]
  rw [tmod64]
  refine Chk_intro (by decide) ?_
  simp -dsimp only [go_sem, ↓reduceIte, reduceCtorEq, Nat.reduceEqDiff, Nat.reduceAdd, Nat.reduceLeDiff, Nat.reduceMul, Int.reduceBEq, Int.reduceBNe, Int.reduceLT, Int.reduceLE, Int.reduceGT, Int.reduceGE]
  have e64 : ((W (p / 64) : Nat) : Int).fdiv (2 ^ min (p % 64) 64) = ((W (p / 64) / 2 ^ (p % 64) : Nat) : Int) := shr64 (W (p / 64)) (p % 64) (by omega)
  rw [e64]
  have hd : W (p / 64) / 2 ^ (p % 64) < 2 ^ 64 := Nat.lt_of_le_of_lt (Nat.div_le_self _ _) hW
  have ha : IntKind.u64.wrap ((BitVec.ofInt IntKind.u64.bits ((W (p / 64) / 2 ^ (p % 64) : Nat) : Int) &&& BitVec.ofInt IntKind.u64.bits 1).toNat : Int) = ((W (p / 64) / 2 ^ (p % 64) &&& 1 : Nat) : Int) := and64 (b := 1) hd (by decide)
  rw [ha, bit_has hW (by omega)]

theorem ptab_rd {h : Heap} {lo hi pb rb n : Nat} {R : Nat → Nat} {W : Nat → Nat → Nat} {M : Nat → Nat → Bool} (t : PTab h lo hi pb rb n R W M) {i : Nat} (hi' : i < n) : Rd 1 h (.slice (some ⟨R i, 0, none⟩) (nw n) (nw n)) (nw n) (wrow (nw n) (W i)) :=
  (t.row i hi').1.rd (by simp)

/-- A truth is put into a relation. -/
def putM (n : Nat) (M : Nat → Nat → Bool) (a b : Int) (put : Bool) (i j : Nat) : Bool := if inR n a && inR n b && a == i && b == j then put else M i j

theorem rel_PutT {n : Nat} {M : Nat → Nat → Bool} {lo hi pb rb : Nat} {R : Nat → Nat} {W : Nat → Nat → Nat} {h : Heap} (hn : n ≤ 256) (t : PTab h lo hi pb rb n R W M) (a b : Int) (put : Bool) :
    Con Tryd.prog 52 #[.pointer (some ⟨pb, 0, none⟩), .int .i64 a, .int .i64 b, .bool put] h fun v h' => Fr lo hi h h' ∧ h'.size = h.size ∧ v = .bool (inR n a && inR n b && (M a.toNat b.toNat != put)) ∧ ∃ W', PTab h' lo hi pb rb n R W' (putM n M a b put) := by
  refine con_rel_Rel_Put ?_
  have hr0 : ProgAt h lo hi (.pointer (some ⟨pb, 0, none⟩)) n M := ⟨hn, pb, rb, R, W, rfl, t⟩
  simp -dsimp only [go_sem, ↓reduceIte, reduceCtorEq, Nat.reduceEqDiff, Nat.reduceAdd, Nat.reduceLeDiff, Nat.reduceMul, Int.reduceBEq, Int.reduceBNe, Int.reduceLT, Int.reduceLE, Int.reduceGT, Int.reduceGE]
  refine call_of (rel_inside hr0 a b) ?_
  rintro v h1 ⟨rfl, rfl⟩
  simp -dsimp only [go_sem, ↓reduceIte, reduceCtorEq, Nat.reduceEqDiff, Nat.reduceAdd, Nat.reduceLeDiff, Nat.reduceMul, Int.reduceBEq, Int.reduceBNe, Int.reduceLT, Int.reduceLE, Int.reduceGT, Int.reduceGE]
  by_cases hin : (inR n a && inR n b) = true
  · have hin' := hin
    simp only [Bool.and_eq_true, inR, decide_eq_true_eq] at hin'
    obtain ⟨x, rfl⟩ : ∃ x : Nat, a = x := ⟨a.toNat, by omega⟩
    obtain ⟨y, rfl⟩ : ∃ y : Nat, b = y := ⟨b.toNat, by omega⟩
    have hx : x < n := by omega
    have hy : y < n := by omega
    obtain ⟨hrw, _, _, hnp, hnr, hbits⟩ := t.row x hx
    simp -dsimp only [go_sem, ↓reduceIte, reduceCtorEq, Nat.reduceEqDiff, Nat.reduceAdd, Nat.reduceLeDiff, Nat.reduceMul, Int.reduceBEq, Int.reduceBNe, Int.reduceLT, Int.reduceLE, Int.reduceGT, Int.reduceGE, hin, Bool.not_true, t.ptr.cell]
    refine Chk_intro (by omega) ?_
    simp -dsimp only [go_sem, ↓reduceIte, reduceCtorEq, Nat.reduceEqDiff, Nat.reduceAdd, Nat.reduceLeDiff, Nat.reduceMul, Int.reduceBEq, Int.reduceBNe, Int.reduceLT, Int.reduceLE, Int.reduceGT, Int.reduceGE, t.rowsGet hx, hin, Bool.not_true]
    refine call_of (row_has (p := y) (ptab_rd t hx) (by unfold nw; omega) (hbits _).1 (by omega)) ?_
    rintro v h2 ⟨rfl, rfl⟩
    rw [hbits.get hy]
    simp -dsimp only [go_sem, ↓reduceIte, reduceCtorEq, Nat.reduceEqDiff, Nat.reduceAdd, Nat.reduceLeDiff, Nat.reduceMul, Int.reduceBEq, Int.reduceBNe, Int.reduceLT, Int.reduceLE, Int.reduceGT, Int.reduceGE, hin, Bool.not_true]
    by_cases hM : M x y = put
    · simp -dsimp only [go_sem, ↓reduceIte, reduceCtorEq, Nat.reduceEqDiff, Nat.reduceAdd, Nat.reduceLeDiff, Nat.reduceMul, Int.reduceBEq, Int.reduceBNe, Int.reduceLT, Int.reduceLE, Int.reduceGT, Int.reduceGE, hin, Bool.not_true, hM, BEq.rfl]
      refine ⟨.refl _ _ _, by simp [hM], W, t.congr fun i j hi hj => ?_⟩
      simp only [putM]
      split
      · rename_i hc; simp at hc; obtain ⟨⟨_, e1⟩, e2⟩ := hc; have e1 : x = i := by omega
        have e2 : y = j := by omega
        subst e1 e2; exact hM
      · rfl
    · have hMb : (M x y == put) = false := by simpa using hM
      simp -dsimp only [go_sem, ↓reduceIte, reduceCtorEq, Nat.reduceEqDiff, Nat.reduceAdd, Nat.reduceLeDiff, Nat.reduceMul, Int.reduceBEq, Int.reduceBNe, Int.reduceLT, Int.reduceLE, Int.reduceGT, Int.reduceGE, hin, Bool.not_true, hMb, t.ptr.cell]
      refine Chk_intro (by omega) ?_
      simp -dsimp only [go_sem, ↓reduceIte, reduceCtorEq, Nat.reduceEqDiff, Nat.reduceAdd, Nat.reduceLeDiff, Nat.reduceMul, Int.reduceBEq, Int.reduceBNe, Int.reduceLT, Int.reduceLE, Int.reduceGT, Int.reduceGE, t.rowsGet hx]
      rw [tdiv64]
      refine Chk_intro (by decide) ?_
      rw [wrap64 (by omega) (by omega)]
      have hyw : y / 64 < nw n := by unfold nw; omega
      simp -dsimp only [go_sem, ↓reduceIte, reduceCtorEq, Nat.reduceEqDiff, Nat.reduceAdd, Nat.reduceLeDiff, Nat.reduceMul, Int.reduceBEq, Int.reduceBNe, Int.reduceLT, Int.reduceLE, Int.reduceGT, Int.reduceGE]
      refine Chk_intro (by omega) ?_
      simp -dsimp only [go_sem, ↓reduceIte, reduceCtorEq, Nat.reduceEqDiff, Nat.reduceAdd, Nat.reduceLeDiff, Nat.reduceMul, Int.reduceBEq, Int.reduceBNe, Int.reduceLT, Int.reduceLE, Int.reduceGT, Int.reduceGE, hrw.cell, wrow_get hyw]
      rw [tmod64]
      refine Chk_intro (by decide) ?_
      simp -dsimp only [go_sem, ↓reduceIte, reduceCtorEq, Nat.reduceEqDiff, Nat.reduceAdd, Nat.reduceLeDiff, Nat.reduceMul, Int.reduceBEq, Int.reduceBNe, Int.reduceLT, Int.reduceLE, Int.reduceGT, Int.reduceGE]
      have e64 : IntKind.u64.wrap (1 * 2 ^ min (y % 64) 64) = ((2 ^ (y % 64) : Nat) : Int) := shl64 (y % 64) (by omega)
      first | rw [e64] | rw [shl64 _ (by omega)]
      rw [xor64 (hbits _).1 (Nat.pow_lt_pow_right (by decide) (by omega))]
      refine Chk_intro (by omega) ?_
      simp -dsimp only [go_sem, ↓reduceIte, reduceCtorEq, Nat.reduceEqDiff, Nat.reduceAdd, Nat.reduceLeDiff, Nat.reduceMul, Int.reduceBEq, Int.reduceBNe, Int.reduceLT, Int.reduceLE, Int.reduceGT, Int.reduceGE]
      refine Chk_intro (hrw.wr (by simp; omega)) fun h2 s2 => ?_
      simp -dsimp only [go_sem, ↓reduceIte, reduceCtorEq, Nat.reduceEqDiff, Nat.reduceAdd, Nat.reduceLeDiff, Nat.reduceMul, Int.reduceBEq, Int.reduceBNe, Int.reduceLT, Int.reduceLE, Int.reduceGT, Int.reduceGE]
      refine ⟨s2.fr.mono (by omega), s2.size, by have := hin; simp at this; simp [this, hM], _, PTab.congr (M := fun i => if i = x then fun q => if q = y then !M x y else M x q else M i) (t.upd hx s2 wrow_set (hbits.flip hy)) fun i j hi hj => ?_⟩
      have hp : put = !M x y := by cases put <;> cases hm : M x y <;> simp_all
      simp only [putM, hin, hp]
      by_cases hix : i = x
      · subst hix
        by_cases hjy : j = y
        · subst hjy; simp
        · have : ((y : Int) == (j : Int)) = false := by simp; omega
          simp [hjy, this]
      · have : ((x : Int) == (i : Int)) = false := by simp; omega
        simp [hix, this]
  · have hin : (inR n a && inR n b) = false := by simpa using hin
    simp -dsimp only [go_sem, ↓reduceIte, reduceCtorEq, Nat.reduceEqDiff, Nat.reduceAdd, Nat.reduceLeDiff, Nat.reduceMul, Int.reduceBEq, Int.reduceBNe, Int.reduceLT, Int.reduceLE, Int.reduceGT, Int.reduceGE, hin, Bool.not_false]
    exact ⟨.refl _ _ _, by simp, W, t.congr fun i j hi hj => by simp [putM, hin]⟩
theorem rel_Put {n : Nat} {M : Nat → Nat → Bool} {p : Value} {lo hi : Nat} {h : Heap} (hr : ProgAt h lo hi p n M) (a b : Int) (put : Bool) :
    Con Tryd.prog 52 #[p, .int .i64 a, .int .i64 b, .bool put] h fun v h' => Fr lo hi h h' ∧ h'.size = h.size ∧ v = .bool (inR n a && inR n b && (M a.toNat b.toNat != put)) ∧ ProgAt h' lo hi p n (putM n M a b put) := by
  obtain ⟨hn, pb, rb, R, W, rfl, t⟩ := hr
  exact (rel_PutT hn t a b put).mono fun v h' ⟨h1, h2, h3, W', h4⟩ => ⟨h1, h2, h3, hn, pb, rb, R, W', rfl, h4⟩
end Go.Proofs.Tst
namespace Go.Proofs.Tst
open Go Go.Vc
theorem ite_max (n : Int) : (if (if (256 : Int) < n then 256 else n) > 0 then (if (256 : Int) < n then 256 else n) else 0) = (clampN n : Int) := by
  unfold clampN; split <;> split <;> omega

/-- The rows' slices, the first i of them made. -/
def rowsTo (k : Nat) (R : Nat → Nat) (i : Nat) : List Value := (List.range k).map fun (j : Nat) => if j < i then Value.slice (some ⟨R j, 0, none⟩) (nw k) (nw k) else Value.slice none 0 0
theorem length_rowsTo (k : Nat) (R : Nat → Nat) (i : Nat) : (rowsTo k R i).length = k := by simp [rowsTo]
theorem rowsTo_zero (k : Nat) (R : Nat → Nat) : List.replicate k (Value.slice none 0 0) = rowsTo k R 0 := by
  apply List.ext_getElem?; intro j
  by_cases hj : j < k
  · simp [rowsTo, hj]
  · simp [rowsTo, hj]
theorem rowsTo_set (k : Nat) (R : Nat → Nat) (i b : Nat) (hi : i < k) : (rowsTo k R i).set i (.slice (some ⟨b, 0, none⟩) (nw k) (nw k)) = rowsTo k (fun j => if j = i then b else R j) (i + 1) := by
  apply List.ext_getElem?; intro j
  by_cases hj : j < k
  · rw [List.getElem?_set]
    by_cases hij : i = j
    · subst hij; simp [rowsTo, hj]
    · have e1 : (j < i + 1) = (j < i) := by simp; omega
      simp [rowsTo, hij, hj, Ne.symm hij, e1]
  · rw [List.getElem?_eq_none (by simp [rowsTo]; omega), List.getElem?_eq_none (by simp [rowsTo]; omega)]

theorem rel_New (n : Int) (h : Heap) : Con Tryd.prog 55 #[.int .i64 n] h fun v h' => Fr 0 0 h h' ∧ ProgAt h' h.size h'.size v (clampN n) (fun _ _ => false) := by
  refine con_rel_New ?_
  simp -dsimp only [go_sem, ↓reduceIte, reduceCtorEq, Nat.reduceEqDiff, Nat.reduceAdd, Nat.reduceLeDiff, Nat.reduceMul, Int.reduceBEq, Int.reduceBNe, Int.reduceLT, Int.reduceLE, Int.reduceGT, Int.reduceGE]
  rw [ite_max]
  have hc : clampN n ≤ 256 := by unfold clampN; omega
  generalize clampN n = k at *
  refine Chk_intro (by omega) ?_
  intro rb h1 n1
  simp -dsimp only [go_sem, ↓reduceIte, reduceCtorEq, Nat.reduceEqDiff, Nat.reduceAdd, Nat.reduceLeDiff, Nat.reduceMul, Int.reduceBEq, Int.reduceBNe, Int.reduceLT, Int.reduceLE, Int.reduceGT, Int.reduceGE]
  intro pb h2 n2
  have r1 := n2.rw n1.row
  rw [zeros_one, Int.toNat_natCast, rowsTo_zero k fun _ => 0] at r1
  have r2 := n2.row
  have z1 := n1.size; have z2 := n2.size; have a1 := n1.at_; have a2 := n2.at_
  have p2 : Fr 0 0 h h2 := (n1.fr (lo := 0) (hi := 0)).trans n2.fr
  simp -dsimp only [go_sem, ↓reduceIte, reduceCtorEq, Nat.reduceEqDiff, Nat.reduceAdd, Nat.reduceLeDiff, Nat.reduceMul, Int.reduceBEq, Int.reduceBNe, Int.reduceLT, Int.reduceLE, Int.reduceGT, Int.reduceGE, r2.cell]
  refine loop_intro (fun i : Nat => [(0, .int .i64 k), (3, .pointer (some ⟨pb, 0, none⟩)), (17, .int .i64 k), (18, .int .i64 i)])
    (fun i h' => i ≤ k ∧ Fr 0 0 h h' ∧ h2.size ≤ h'.size ∧ Rw h' pb [.int .i64 k, .slice (some ⟨rb, 0, none⟩) k k] ∧ ∃ R, Rw h' rb (rowsTo k R i) ∧ (∀ j, j < i → Rw h' (R j) (wrow (nw k) fun _ => 0) ∧ h2.size ≤ R j ∧ R j < h'.size) ∧ ∀ x y, x < i → y < i → R x = R y → x = y)
    (fun i => k - i) 0 ?_ ?_ ?_
  · simp [Le, find]
  · exact ⟨by omega, p2, by omega, r2, _, r1, fun j hj => by omega, fun x y hx => by omega⟩
  rintro i h3 ⟨hi, p3, y3, r2, R, r1, hR, hinj⟩
  simp -dsimp only [go_sem, ↓reduceIte, reduceCtorEq, Nat.reduceEqDiff, Nat.reduceAdd, Nat.reduceLeDiff, Nat.reduceMul, Int.reduceBEq, Int.reduceBNe, Int.reduceLT, Int.reduceLE, Int.reduceGT, Int.reduceGE]
  refine ⟨fun hlt => ?_, fun hge => ?_⟩
  · have hlt : i < k := by omega
    simp -dsimp only [go_sem, ↓reduceIte, reduceCtorEq, Nat.reduceEqDiff, Nat.reduceAdd, Nat.reduceLeDiff, Nat.reduceMul, Int.reduceBEq, Int.reduceBNe, Int.reduceLT, Int.reduceLE, Int.reduceGT, Int.reduceGE, r2.cell]
    rw [wrap64 (by omega) (by omega), show ((k : Int) + 63) = ((k + 63 : Nat) : Int) from by omega, tdiv64, wrap64 (by omega) (by omega)]
    refine Chk_intro (by decide) ?_
    simp -dsimp only [go_sem, ↓reduceIte, reduceCtorEq, Nat.reduceEqDiff, Nat.reduceAdd, Nat.reduceLeDiff, Nat.reduceMul, Int.reduceBEq, Int.reduceBNe, Int.reduceLT, Int.reduceLE, Int.reduceGT, Int.reduceGE]
    refine Chk_intro (by omega) ?_
    intro b4 h4 n4
    have z4 := n4.size; have a4 := n4.at_
    have r4 := n4.row
    rw [zeros_one, Int.toNat_natCast, wrow_zero] at r4
    simp -dsimp only [go_sem, ↓reduceIte, reduceCtorEq, Nat.reduceEqDiff, Nat.reduceAdd, Nat.reduceLeDiff, Nat.reduceMul, Int.reduceBEq, Int.reduceBNe, Int.reduceLT, Int.reduceLE, Int.reduceGT, Int.reduceGE]
    refine Chk_intro (by omega) ?_
    simp -dsimp only [go_sem, ↓reduceIte, reduceCtorEq, Nat.reduceEqDiff, Nat.reduceAdd, Nat.reduceLeDiff, Nat.reduceMul, Int.reduceBEq, Int.reduceBNe, Int.reduceLT, Int.reduceLE, Int.reduceGT, Int.reduceGE]
    have r14 := n4.rw r1
    have r24 := n4.rw r2
    refine Chk_intro (r14.wr (by rw [length_rowsTo]; omega)) fun h5 s5 => ?_
    have r15 := s5.row r14
    rw [cl_slice, putAt_one, show (k + 63) / 64 = nw k from rfl, rowsTo_set _ _ _ _ hlt] at r15
    have z5 := s5.size
    simp -dsimp only [go_sem, ↓reduceIte, reduceCtorEq, Nat.reduceEqDiff, Nat.reduceAdd, Nat.reduceLeDiff, Nat.reduceMul, Int.reduceBEq, Int.reduceBNe, Int.reduceLT, Int.reduceLE, Int.reduceGT, Int.reduceGE]
    simp -dsimp (disch := omega) only [wrap64]
    refine ⟨i + 1, by omega, by simp [Le, find], by omega, (p3.trans n4.fr).fresh s5.fr (by omega), by omega, s5.rw r24 (by omega), _, r15, fun j hj => ?_, fun x y hx hy => ?_⟩
    · by_cases hji : j = i
      · subst hji; simp only [if_true]
        exact ⟨s5.rw r4 (by omega), by omega, by omega⟩
      · simp only [if_neg hji]
        obtain ⟨g1, g2, g3⟩ := hR j (by omega)
        exact ⟨s5.rw (n4.rw g1) (by omega), g2, by omega⟩
    · have gx : x < i → R x < b4 := fun h => by have := (hR x h).2.2; omega
      have gy : y < i → R y < b4 := fun h => by have := (hR y h).2.2; omega
      split <;> split <;> intro he
      · omega
      · have := gy (by omega); omega
      · have := gx (by omega); omega
      · exact hinj x y (by omega) (by omega) he
  · have hik : i = k := by omega
    subst hik
    simp -dsimp only [go_sem, ↓reduceIte, reduceCtorEq, Nat.reduceEqDiff, Nat.reduceAdd, Nat.reduceLeDiff, Nat.reduceMul, Int.reduceBEq, Int.reduceBNe, Int.reduceLT, Int.reduceLE, Int.reduceGT, Int.reduceGE]
    refine ⟨p3, hc, pb, rb, R, fun _ _ => 0, rfl, r2, ?_, fun j hj => ?_, fun x y hx hy => hinj x y hx hy, by omega⟩
    · have e : rowsTo i R i = (List.range i).map fun (j : Nat) => Value.slice (some ⟨R j, 0, none⟩) (nw i) (nw i) := by
        unfold rowsTo
        apply List.map_congr_left
        intro j hj
        rw [if_pos (List.mem_range.1 hj)]
      rw [e] at r1; exact r1
    · obtain ⟨g1, g2, g3⟩ := hR j hj
      exact ⟨g1, by omega, g3, by omega, by omega, Bits.zero _⟩

theorem rel_Of (n : Int) (lv : Value) (l : List (Int × Int)) (h : Heap) (hl : Rd 2 h lv l.length (pairsV l)) (hb : l.length ≤ 4611686018427387904) :
    Con Tryd.prog 14 #[.int .i64 n, lv] h fun v h' => Fr 0 0 h h' ∧ ProgAt h' h.size h'.size v (clampN n) (ofM (clampN n) l) := by
  refine con_rel_Of ?_
  obtain ⟨a, c, rfl⟩ := hl.is
  simp -dsimp only [go_sem, ↓reduceIte, reduceCtorEq, Nat.reduceEqDiff, Nat.reduceAdd, Nat.reduceLeDiff, Nat.reduceMul, Int.reduceBEq, Int.reduceBNe, Int.reduceLT, Int.reduceLE, Int.reduceGT, Int.reduceGE]
  refine call_of (rel_New n h) ?_
  rintro v h1 ⟨p1, t1⟩
  simp -dsimp only [go_sem, ↓reduceIte, reduceCtorEq, Nat.reduceEqDiff, Nat.reduceAdd, Nat.reduceLeDiff, Nat.reduceMul, Int.reduceBEq, Int.reduceBNe, Int.reduceLT, Int.reduceLE, Int.reduceGT, Int.reduceGE]
  refine loop_intro (fun i : Nat => [(5, v), (10, .slice a l.length c), (11, .int .i64 l.length), (12, .int .i64 i)])
    (fun i h' => i ≤ l.length ∧ Fr 0 0 h h' ∧ h1.size ≤ h'.size ∧ ProgAt h' h.size h1.size v (clampN n) (ofM (clampN n) (l.take i)))
    (fun i => l.length - i) 0 ?_ ?_ ?_
  · simp [Le, find]
  · exact ⟨by omega, p1, by omega, t1.congr fun _ _ _ _ => by simp [ofM]⟩
  rintro i h2 ⟨hi, p2, y2, t2⟩
  simp -dsimp only [go_sem, ↓reduceIte, reduceCtorEq, Nat.reduceEqDiff, Nat.reduceAdd, Nat.reduceLeDiff, Nat.reduceMul, Int.reduceBEq, Int.reduceBNe, Int.reduceLT, Int.reduceLE, Int.reduceGT, Int.reduceGE]
  refine ⟨fun hlt => ?_, fun hge => ?_⟩
  · have hlt : i < l.length := by omega
    have hp : l[i]? = some l[i] := by simp [hlt]
    generalize l[i] = p at hp
    simp -dsimp only [go_sem, ↓reduceIte, reduceCtorEq, Nat.reduceEqDiff, Nat.reduceAdd, Nat.reduceLeDiff, Nat.reduceMul, Int.reduceBEq, Int.reduceBNe, Int.reduceLT, Int.reduceLE, Int.reduceGT, Int.reduceGE]
    refine Chk_intro (by omega) ((hl.fr p2).pair hp fun b o c1 c2 => ?_)
    simp -dsimp only [go_sem, ↓reduceIte, reduceCtorEq, Nat.reduceEqDiff, Nat.reduceAdd, Nat.reduceLeDiff, Nat.reduceMul, Int.reduceBEq, Int.reduceBNe, Int.reduceLT, Int.reduceLE, Int.reduceGT, Int.reduceGE, c1, c2]
    intro b3 h3 n3
    have r3 := n3.row
    simp -dsimp only [go_sem, ↓reduceIte, reduceCtorEq, Nat.reduceEqDiff, Nat.reduceAdd, Nat.reduceLeDiff, Nat.reduceMul, Int.reduceBEq, Int.reduceBNe, Int.reduceLT, Int.reduceLE, Int.reduceGT, Int.reduceGE]
    refine ⟨r3.wr (by simp), fun h4 s4 => ?_⟩
    have r4 := s4.row r3
    simp -dsimp only [go_sem, ↓reduceIte, reduceCtorEq, Nat.reduceEqDiff, Nat.reduceAdd, Nat.reduceLeDiff, Nat.reduceMul, Int.reduceBEq, Int.reduceBNe, Int.reduceLT, Int.reduceLE, Int.reduceGT, Int.reduceGE] at r4
    have z3 := n3.size; have a3 := n3.at_; have z4 := s4.size; have z1 := p1.size
    have t4 := (t2.fr (n3.fr (lo := 0) (hi := 0)) (by omega)).fr s4.fr (by omega)
    have p4 := (p2.trans n3.fr).fresh s4.fr (by omega)
    simp -dsimp only [go_sem, ↓reduceIte, reduceCtorEq, Nat.reduceEqDiff, Nat.reduceAdd, Nat.reduceLeDiff, Nat.reduceMul, Int.reduceBEq, Int.reduceBNe, Int.reduceLT, Int.reduceLE, Int.reduceGT, Int.reduceGE, r4.cell]
    refine call_of (rel_Put t4 p.1 p.2 true) ?_
    rintro v5 h5 ⟨f5, z5, rfl, t5⟩
    simp -dsimp only [go_sem, ↓reduceIte, reduceCtorEq, Nat.reduceEqDiff, Nat.reduceAdd, Nat.reduceLeDiff, Nat.reduceMul, Int.reduceBEq, Int.reduceBNe, Int.reduceLT, Int.reduceLE, Int.reduceGT, Int.reduceGE]
    simp -dsimp (disch := omega) only [wrap64]
    refine ⟨i + 1, by omega, by simp [Le, find], by omega, p4.fresh f5 (by omega), by omega, t5.congr fun x y hx hy => ?_⟩
    rw [ofM_take hp]
    simp only [putM]
    split <;> rename_i hc
    · rw [hc]; simp
    · have : (inR (clampN n) p.1 && inR (clampN n) p.2 && p.1 == (x : Int) && p.2 == (y : Int)) = false := by simpa using hc
      rw [this]; simp
  · have hil : i = l.length := by omega
    subst hil
    rw [List.take_length] at t2
    simp -dsimp only [go_sem, ↓reduceIte, reduceCtorEq, Nat.reduceEqDiff, Nat.reduceAdd, Nat.reduceLeDiff, Nat.reduceMul, Int.reduceBEq, Int.reduceBNe, Int.reduceLT, Int.reduceLE, Int.reduceGT, Int.reduceGE]
    exact ⟨p2, t2.mono (Nat.le_refl _) y2⟩
end Go.Proofs.Tst
namespace Go.Proofs.Tst
open Go Go.Vc
theorem TrailingZeros64 {x k : Nat} {h : Heap} (hx : x < 2 ^ 64) (hk : Low x k) (ht : TabAt h) :
    Con Tryd.prog 106 #[.int .u64 x] h fun v h' => h' = h ∧ v = .int .i64 k := by
  refine con_math_bits_TrailingZeros64 ?_
  have h0 : x ≠ 0 := by rintro rfl; have := hk.1; simp at this
  simp -dsimp only [go_sem, ↓reduceIte, reduceCtorEq, Nat.reduceEqDiff, Nat.reduceAdd, Nat.reduceLeDiff, Nat.reduceMul, Int.reduceBEq, Int.reduceBNe, Int.reduceLT, Int.reduceLE, Int.reduceGT, Int.reduceGE]
  refine ⟨fun h => absurd h (by simp; omega), fun _ => ?_⟩
  simp -dsimp only [go_sem, ↓reduceIte, reduceCtorEq, Nat.reduceEqDiff, Nat.reduceAdd, Nat.reduceLeDiff, Nat.reduceMul, Int.reduceBEq, Int.reduceBNe, Int.reduceLT, Int.reduceLE, Int.reduceGT, Int.reduceGE]
  have hk64 := hk.lt hx
  obtain ⟨y, hy⟩ : ∃ y, x + y = 18446744073709551616 := ⟨18446744073709551616 - x, by omega⟩
  have hi := tab64_at k hk64
  obtain ⟨z, hz⟩ : ∃ z, 2 ^ k * 285870213051353865 % 18446744073709551616 = z := ⟨_, rfl⟩
  obtain ⟨p, hp⟩ : ∃ p, 2 ^ k = p := ⟨_, rfl⟩
  have hpl : p < 2 ^ 64 := by rw [← hp]; exact Nat.pow_lt_pow_right (by decide) hk64
  have e58 : (z : Int).fdiv (2 ^ min (Int.toNat 58) 64) = ((z / 2 ^ 58 : Nat) : Int) := shr64 z 58 (by decide)
  rw [neg64 x y hy (by omega), and64 hx (by omega), hk.and_neg' hy (by omega), hp, show (285870213051353865 : Int) = ((285870213051353865 : Nat) : Int) from rfl, mul64 _ _ z (by rw [← hp]; exact hz), e58]
  have hi : tab64[z / 2 ^ 58]? = some k := by rw [← hz]; exact hi
  generalize z / 2 ^ 58 = i at hi
  have hi64 : i < 64 := (List.getElem?_eq_some_iff.1 hi).1
  refine Chk_intro (by omega) ?_
  simp -dsimp only [go_sem, ↓reduceIte, reduceCtorEq, Nat.reduceEqDiff, Nat.reduceAdd, Nat.reduceLeDiff, Nat.reduceMul, Int.reduceBEq, Int.reduceBNe, Int.reduceLT, Int.reduceLE, Int.reduceGT, Int.reduceGE, ht i k hi]
  rw [wrap64 (by omega) (by omega)]
end Go.Proofs.Tst
namespace Go.Proofs.Tst
open Go Go.Vc
/-- What the iterator over a row reads. -/
def RowC (b : Nat) (xv : Value) (w : Nat) (W : Nat → Nat) (h : Heap) : Prop := hcell h b 0 = some xv ∧ Rd 1 h xv w (wrow w W) ∧ TabAt h

theorem points_1 {b w : Nat} {xv : Value} {W : Nat → Nat} (hW : ∀ j, W j < 2 ^ 64) (hw : w ≤ 1024) :
    Iter Tryd.prog 105 #[.pointer (some ⟨b, 0, none⟩)] ((rest (wbit W) (64 * w) 0).map fun (p : Nat) => [Value.int .i64 (p : Int)]) (RowC b xv w W) := by
  refine ⟨by unfold goodF; rw [Tryd.func105]; rfl, fun l I X hy h hI hC => ?_⟩
  show ConX (some l) Tryd.prog 105 #[.func (.yield l) #[] #[], .pointer (some ⟨b, 0, none⟩)] h _
  refine con_rel_row_points_1 ?_
  obtain ⟨xa, xc, rfl⟩ := hC.2.1.is
  simp -dsimp only [go_sem, ↓reduceIte, reduceCtorEq, Nat.reduceEqDiff, Nat.reduceAdd, Nat.reduceLeDiff, Nat.reduceMul, Int.reduceBEq, Int.reduceBNe, Int.reduceLT, Int.reduceLE, Int.reduceGT, Int.reduceGE, hC.1]
  refine loop_intro (fun i : Nat => [(0, .func (.yield l) #[] #[]), (5, .slice xa w xc), (6, .int .i64 w), (7, .int .i64 i)])
    (fun i h' => i ≤ w ∧ RowC b (.slice xa w xc) w W h' ∧ ∃ d, d ≤ (rest (wbit W) (64 * w) 0).length ∧ (rest (wbit W) (64 * w) 0).drop d = rest (wbit W) (64 * w) (64 * i) ∧ I d h') (fun i => w - i) 0 ?_ ?_ ?_
  · simp [Le, find]
  · exact ⟨by omega, hC, 0, Nat.zero_le _, rfl, hI⟩
  rintro i h1 ⟨hi, hC1, d, hdl, hd, hI1⟩
  simp -dsimp only [go_sem, ↓reduceIte, reduceCtorEq, Nat.reduceEqDiff, Nat.reduceAdd, Nat.reduceLeDiff, Nat.reduceMul, Int.reduceBEq, Int.reduceBNe, Int.reduceLT, Int.reduceLE, Int.reduceGT, Int.reduceGE]
  refine ⟨fun hlt => ?_, fun hge => ?_⟩
  · have hlt : i < w := by omega
    simp -dsimp only [go_sem, ↓reduceIte, reduceCtorEq, Nat.reduceEqDiff, Nat.reduceAdd, Nat.reduceLeDiff, Nat.reduceMul, Int.reduceBEq, Int.reduceBNe, Int.reduceLT, Int.reduceLE, Int.reduceGT, Int.reduceGE]
    refine Chk_intro (by omega) (hC1.2.1.idx (by omega) fun b2 o2 c2 => ?_)
    simp -dsimp only [go_sem, ↓reduceIte, reduceCtorEq, Nat.reduceEqDiff, Nat.reduceAdd, Nat.reduceLeDiff, Nat.reduceMul, Int.reduceBEq, Int.reduceBNe, Int.reduceLT, Int.reduceLE, Int.reduceGT, Int.reduceGE, c2 i _ (wrow_get hlt)]
    refine loop_intro (fun s : Nat × Nat => [(0, .func (.yield l) #[] #[]), (3, .int .i64 i), (4, .int .u64 s.2), (5, .slice xa w xc), (6, .int .i64 w), (7, .int .i64 i)])
      (fun s h' => s.1 ≤ 64 ∧ RowC b (.slice xa w xc) w W h' ∧ s.2 < 2 ^ 64 ∧ (∀ k, s.2.testBit k = ((W i).testBit k && decide (s.1 ≤ k))) ∧ ∃ d, d ≤ (rest (wbit W) (64 * w) 0).length ∧ (rest (wbit W) (64 * w) 0).drop d = rest (wbit W) (64 * w) (64 * i + s.1) ∧ I d h')
      (fun s => 64 - s.1) (0, W i) ?_ ?_ ?_
    · simp [Le, find]
    · exact ⟨Nat.zero_le _, hC1, hW i, by simp, d, hdl, hd, hI1⟩
    rintro ⟨c, x⟩ h2 ⟨hc, hC2, hx, hbit, d, hdl, hd, hI2⟩
    dsimp only at hc hC2 hx hbit hd hI2 ⊢
    simp -dsimp only [go_sem, ↓reduceIte, reduceCtorEq, Nat.reduceEqDiff, Nat.reduceAdd, Nat.reduceLeDiff, Nat.reduceMul, Int.reduceBEq, Int.reduceBNe, Int.reduceLT, Int.reduceLE, Int.reduceGT, Int.reduceGE]
    have hg : ∀ k, k < 64 → wbit W (64 * i + k) = (W i).testBit k := fun k hk => by
      unfold wbit; rw [show (64 * i + k) / 64 = i from by omega, show (64 * i + k) % 64 = k from by omega]
    refine ⟨fun hx0 => ?_, fun hx0 => ?_⟩
    · have hx0 : x ≠ 0 := by rintro rfl; simp at hx0
      obtain ⟨k, hk⟩ := low_exists hx0
      have hk64 := hk.lt hx
      have hbk := hk.1
      rw [hbit] at hbk
      simp only [Bool.and_eq_true, decide_eq_true_eq] at hbk
      have hrest : rest (wbit W) (64 * w) (64 * i + c) = (64 * i + k) :: rest (wbit W) (64 * w) (64 * i + (k + 1)) := by
        rw [rest_skip (q := 64 * i + c) (k - c) (by omega) fun j h1 h2 => ?_, show 64 * i + c + (k - c) = 64 * i + k from by omega, rest_step (by omega), if_pos (by rw [hg k hk64]; exact hbk.1)]
        · rfl
        · obtain ⟨m, rfl⟩ : ∃ m, j = 64 * i + m := ⟨j - 64 * i, by omega⟩
          rw [hg m (by omega)]
          have := hk.2 m (by omega)
          rw [hbit] at this
          simpa [show c ≤ m by omega] using this
      simp -dsimp only [go_sem, ↓reduceIte, reduceCtorEq, Nat.reduceEqDiff, Nat.reduceAdd, Nat.reduceLeDiff, Nat.reduceMul, Int.reduceBEq, Int.reduceBNe, Int.reduceLT, Int.reduceLE, Int.reduceGT, Int.reduceGE]
      refine call_of (TrailingZeros64 hx hk hC2.2.2) ?_
      rintro v h3 ⟨rfl, rfl⟩
      simp -dsimp only [go_sem, ↓reduceIte, reduceCtorEq, Nat.reduceEqDiff, Nat.reduceAdd, Nat.reduceLeDiff, Nat.reduceMul, Int.reduceBEq, Int.reduceBNe, Int.reduceLT, Int.reduceLE, Int.reduceGT, Int.reduceGE]
      rw [wrap64 (n := 64 * (i : Int)) (by omega) (by omega), wrap64 (n := 64 * (i : Int) + (k : Int)) (by omega) (by omega)]
      rw [hrest] at hd
      have hdx : ((rest (wbit W) (64 * w) 0).map fun (p : Nat) => [Value.int .i64 (p : Int)])[d]? = some [.int .i64 ((64 * i + k : Nat) : Int)] := by
        rw [List.getElem?_map, ← List.head?_drop, hd]; rfl
      refine yld_of (hy d _ _ hdx hI2 hC2) ?_
      rintro v h4 (⟨rfl, hI4, hC4⟩ | ⟨rfl, hX4⟩)
      · simp -dsimp only [go_sem, ↓reduceIte, reduceCtorEq, Nat.reduceEqDiff, Nat.reduceAdd, Nat.reduceLeDiff, Nat.reduceMul, Int.reduceBEq, Int.reduceBNe, Int.reduceLT, Int.reduceLE, Int.reduceGT, Int.reduceGE]
        have e1 : IntKind.u64.wrap ((x : Int) - 1) = ((x - 1 : Nat) : Int) := by
          rw [wrapu64 (by omega) (by omega)]; omega
        rw [e1, and64 hx (by omega)]
        refine ⟨(k + 1, x &&& (x - 1)), by dsimp only; omega, by simp [Le, find], by dsimp only; omega, hC4, Nat.lt_of_le_of_lt Nat.and_le_left hx, fun m => ?_, d + 1, ?_, ?_, hI4⟩
        · rw [hk.strike, hbit]
          have hm := hk.2 m
          rw [hbit] at hm
          by_cases h1 : m < k
          · have := hm h1
            rw [this]
            simp [show ¬ k + 1 ≤ m by omega]
          · by_cases h2 : m = k
            · subst h2; simp
            · simp [h2, show k + 1 ≤ m by omega, show c ≤ m by omega]
        · have := congrArg List.length hd
          simp only [List.length_drop, List.length_cons] at this
          omega
        · rw [show d + 1 = 1 + d from by omega, ← List.drop_drop, List.drop_drop, Nat.add_comm 1 d, ← List.drop_drop, hd]; rfl
      · simp -dsimp only [go_sem, ↓reduceIte, reduceCtorEq, Nat.reduceEqDiff, Nat.reduceAdd, Nat.reduceLeDiff, Nat.reduceMul, Int.reduceBEq, Int.reduceBNe, Int.reduceLT, Int.reduceLE, Int.reduceGT, Int.reduceGE]
        exact .inr hX4
    · have hx0 : x = 0 := by simpa using hx0
      subst hx0
      simp -dsimp only [go_sem, ↓reduceIte, reduceCtorEq, Nat.reduceEqDiff, Nat.reduceAdd, Nat.reduceLeDiff, Nat.reduceMul, Int.reduceBEq, Int.reduceBNe, Int.reduceLT, Int.reduceLE, Int.reduceGT, Int.reduceGE]
      simp -dsimp (disch := omega) only [wrap64]
      refine ⟨i + 1, by omega, by simp [Le, find], by omega, hC2, d, hdl, ?_, hI2⟩
      rw [hd, rest_skip (q := 64 * i + c) (64 - c) (by omega) fun j h1 h2 => ?_, show 64 * i + c + (64 - c) = 64 * (i + 1) from by omega]
      obtain ⟨m, rfl⟩ : ∃ m, j = 64 * i + m := ⟨j - 64 * i, by omega⟩
      rw [hg m (by omega)]
      have := hbit m
      simp only [Nat.zero_testBit] at this
      simpa [show c ≤ m by omega] using this.symm
  · have : i = w := by omega
    subst this
    simp -dsimp only [go_sem, ↓reduceIte, reduceCtorEq, Nat.reduceEqDiff, Nat.reduceAdd, Nat.reduceLeDiff, Nat.reduceMul, Int.reduceBEq, Int.reduceBNe, Int.reduceLT, Int.reduceLE, Int.reduceGT, Int.reduceGE]
    refine .inl ⟨?_, hC1⟩
    rw [rest_end (Nat.le_refl _)] at hd
    have hle := List.drop_eq_nil_iff.1 hd
    rw [List.length_map, ← Nat.le_antisymm hdl hle]
    exact hI1
end Go.Proofs.Tst
namespace Go.Proofs.Tst
open Go Go.Vc
theorem rel_points (a : Option Addr) (n c : Nat) (h : Heap) : Con Tryd.prog 81 #[.slice a n c] h fun v h' => Fr 0 0 h h' ∧ v = .func (.func 105) #[] #[.pointer (some ⟨h.size, 0, none⟩)] ∧ hcell h' h.size 0 = some (.slice a n c) ∧ h'.size = h.size + 1 := by
  refine con_rel_row_points ?_
  simp -dsimp only [go_sem, ↓reduceIte, reduceCtorEq, Nat.reduceEqDiff, Nat.reduceAdd, Nat.reduceLeDiff, Nat.reduceMul, Int.reduceBEq, Int.reduceBNe, Int.reduceLT, Int.reduceLE, Int.reduceGT, Int.reduceGE]
  intro b h1 n1
  have r1 := n1.row
  have a1 := n1.at_
  subst a1
  simp -dsimp only [go_sem, ↓reduceIte, reduceCtorEq, Nat.reduceEqDiff, Nat.reduceAdd, Nat.reduceLeDiff, Nat.reduceMul, Int.reduceBEq, Int.reduceBNe, Int.reduceLT, Int.reduceLE, Int.reduceGT, Int.reduceGE]
  exact ⟨n1.fr, by rw [r1.cell]; rfl, n1.size⟩

theorem rel_Pairs {n : Nat} {M : Nat → Nat → Bool} {p : Value} {lo hi : Nat} {h : Heap} (hr : ProgAt h lo hi p n M) (ht : TabAt h) :
    Con Tryd.prog 53 #[p] h fun v h' => Fr 0 0 h h' ∧ Holder 2 h' v (pairsOf n M).length (pairsV (pairsOf n M)) h.size := by
  refine con_rel_Rel_Pairs (fun v h1 h2 x ⟨f, o⟩ => ⟨x.fr f (Nat.le_refl _), x.holder o⟩) ?_
  have hr0 := hr
  obtain ⟨hn, pb, rb, R, W, rfl, t⟩ := hr
  simp -dsimp only [go_sem, ↓reduceIte, reduceCtorEq, Nat.reduceEqDiff, Nat.reduceAdd, Nat.reduceLeDiff, Nat.reduceMul, Int.reduceBEq, Int.reduceBNe, Int.reduceLT, Int.reduceLE, Int.reduceGT, Int.reduceGE]
  intro b3 h1 n3
  have z3 := n3.size; have a3 := n3.at_
  have p1 : Fr 0 0 h h1 := n3.fr
  have t1 := t.fr p1 (by omega)
  simp -dsimp only [go_sem, ↓reduceIte, reduceCtorEq, Nat.reduceEqDiff, Nat.reduceAdd, Nat.reduceLeDiff, Nat.reduceMul, Int.reduceBEq, Int.reduceBNe, Int.reduceLT, Int.reduceLE, Int.reduceGT, Int.reduceGE, t1.ptr.cell]
  refine loop_intro (fun i : Nat => [(2, .slice none 0 0), (3, .pointer (some ⟨b3, 0, none⟩)), (10, .slice (some ⟨rb, 0, none⟩) n n), (11, .int .i64 n), (12, .int .i64 i)])
    (fun i h' => i ≤ n ∧ Fr 0 0 h h' ∧ ∃ sv, Rw h' b3 [sv] ∧ Holder 2 h' sv (pairsTo n M i).length (pairsV (pairsTo n M i)) (b3 + 1)) (fun i => n - i) 0 ?_ ?_ ?_
  · simp [Le, find]
  · exact ⟨by omega, p1, _, n3.row, .none _ _ _⟩
  rintro i h2 ⟨hi', p2, sv, r3, o2⟩
  have t2 := t.fr p2 (by omega)
  simp -dsimp only [go_sem, ↓reduceIte, reduceCtorEq, Nat.reduceEqDiff, Nat.reduceAdd, Nat.reduceLeDiff, Nat.reduceMul, Int.reduceBEq, Int.reduceBNe, Int.reduceLT, Int.reduceLE, Int.reduceGT, Int.reduceGE]
  refine ⟨fun hlt => ?_, fun hge => ?_⟩
  · have hlt : i < n := by omega
    simp -dsimp only [go_sem, ↓reduceIte, reduceCtorEq, Nat.reduceEqDiff, Nat.reduceAdd, Nat.reduceLeDiff, Nat.reduceMul, Int.reduceBEq, Int.reduceBNe, Int.reduceLT, Int.reduceLE, Int.reduceGT, Int.reduceGE]
    refine Chk_intro (by omega) ?_
    simp -dsimp only [go_sem, ↓reduceIte, reduceCtorEq, Nat.reduceEqDiff, Nat.reduceAdd, Nat.reduceLeDiff, Nat.reduceMul, Int.reduceBEq, Int.reduceBNe, Int.reduceLT, Int.reduceLE, Int.reduceGT, Int.reduceGE, t2.rowsGet hlt]
    intro b4 h4 n4
    have a4 := n4.at_; have z4 := n4.size
    have p4 := p2.trans n4.fr
    simp -dsimp only [go_sem, ↓reduceIte, reduceCtorEq, Nat.reduceEqDiff, Nat.reduceAdd, Nat.reduceLeDiff, Nat.reduceMul, Int.reduceBEq, Int.reduceBNe, Int.reduceLT, Int.reduceLE, Int.reduceGT, Int.reduceGE]
    refine ⟨n4.row.wr (by simp), fun h5 s5 => ?_⟩
    have r45 := s5.row n4.row
    have z5 := s5.size
    have k3 := r3.lt
    have r35 := s5.rw (n4.rw r3) (by omega)
    have w2 := o2.at_
    have o5 := (o2.fr (n4.fr (lo := 0) (hi := 0)) (by omega)).fr s5.fr (by omega)
    have y2 := p2.size
    have p5 := p4.fresh s5.fr (by omega)
    simp -dsimp only [go_sem, ↓reduceIte, reduceCtorEq, Nat.reduceEqDiff, Nat.reduceAdd, Nat.reduceLeDiff, Nat.reduceMul, Int.reduceBEq, Int.reduceBNe, Int.reduceLT, Int.reduceLE, Int.reduceGT, Int.reduceGE] at r45
    simp -dsimp only [go_sem, ↓reduceIte, reduceCtorEq, Nat.reduceEqDiff, Nat.reduceAdd, Nat.reduceLeDiff, Nat.reduceMul, Int.reduceBEq, Int.reduceBNe, Int.reduceLT, Int.reduceLE, Int.reduceGT, Int.reduceGE]
    refine call_of (rel_points _ _ _ h5) ?_
    rintro v h6 ⟨p6, rfl, c6, z6⟩
    simp -dsimp only [go_sem, ↓reduceIte, reduceCtorEq, Nat.reduceEqDiff, Nat.reduceAdd, Nat.reduceLeDiff, Nat.reduceMul, Int.reduceBEq, Int.reduceBNe, Int.reduceLT, Int.reduceLE, Int.reduceGT, Int.reduceGE]
    refine ⟨rfl, ?_⟩
    have t5 := t.fr p5 (by omega)
    have rd6 := (ptab_rd t5 hlt).fr p6
    have hbits := (t.row i hlt).2.2.2.2.2
    refine ⟨_, RowC h5.size (.slice (some ⟨R i, 0, none⟩) (nw n) (nw n)) (nw n) (W i),
      fun d h' => Fr 0 0 h h' ∧ Rw h' b4 [.int .i64 i] ∧ ∃ sv, Rw h' b3 [sv] ∧ bl sv ≠ b4 ∧ bl sv ≠ h5.size ∧ Holder 2 h' sv ((pairsTo n M i).length + d) (pairsV (pairsTo n M i ++ ((rest (M i) n 0).take d).map fun (b : Nat) => ((i : Int), (b : Int)))) (b3 + 1),
      fun _ _ => False, points_1 (fun j => (hbits j).1) (by unfold nw; omega), ?_, ?_, ?_, ?_, ?_, ?_, ?_, ?_, ?_⟩
    · intro x hx; obtain ⟨q, _, rfl⟩ := List.mem_map.1 hx; rfl
    · exact fun h1 h2 x ⟨c1, c2, c3⟩ => ⟨x.cell c1, x.rd c2, x.tab c3⟩
    · rintro d h1 h2 x ⟨q1, q2, sv', q3, q4, q4', q5⟩
      exact ⟨x.fr q1 (by have := p5.size; have := p6.size; omega), x.rw q2, sv', x.rw q3, q4, q4', x.holder q5⟩
    · exact fun _ _ _ _ h => h
    · exact ⟨p5.trans p6, r45.fr p6 (by omega), sv, r35.fr p6 (by omega), by omega, by omega, by simpa using o5.fr p6 (by omega)⟩
    · exact ⟨c6, rd6, (ht.fr (p5.trans p6) (by omega))⟩
    · rintro d x h7 hs7 hx ⟨q1, q2, sv7, q3, q4, q4', q5⟩ hC7
      rw [rest_bits hbits, List.getElem?_map, Option.map_eq_some_iff] at hx
      obtain ⟨q, hq, rfl⟩ := hx
      simp only [zipE]
      simp -dsimp only [go_sem, ↓reduceIte, reduceCtorEq, Nat.reduceEqDiff, Nat.reduceAdd, Nat.reduceLeDiff, Nat.reduceMul, Int.reduceBEq, Int.reduceBNe, Int.reduceLT, Int.reduceLE, Int.reduceGT, Int.reduceGE]
      intro h7' x7
      have q1 := x7.fr q1 (by have := p5.size; have := p6.size; omega)
      have q2 := x7.rw q2
      have q3 := x7.rw q3
      have q5 := x7.holder q5
      have hC7 : RowC h5.size (.slice (some ⟨R i, 0, none⟩) (nw n) (nw n)) (nw n) (W i) h7' := ⟨x7.cell hC7.1, x7.rd hC7.2.1, x7.tab hC7.2.2⟩
      obtain ⟨sa, sc, rfl⟩ := q5.is
      simp -dsimp only [go_sem, ↓reduceIte, reduceCtorEq, Nat.reduceEqDiff, Nat.reduceAdd, Nat.reduceLeDiff, Nat.reduceMul, Int.reduceBEq, Int.reduceBNe, Int.reduceLT, Int.reduceLE, Int.reduceGT, Int.reduceGE, q3.cell, q2.cell]
      intro b8 h8 n8
      have z8 := n8.size; have a8 := n8.at_
      simp -dsimp only [go_sem, ↓reduceIte, reduceCtorEq, Nat.reduceEqDiff, Nat.reduceAdd, Nat.reduceLeDiff, Nat.reduceMul, Int.reduceBEq, Int.reduceBNe, Int.reduceLT, Int.reduceLE, Int.reduceGT, Int.reduceGE, n8.row.cell]
      have hd := (List.getElem?_eq_some_iff.1 hq).1
      have g1 := length_rest_le (M i) n 0
      have g2 := length_pairsTo_le n M i
      have g3 : i * n ≤ 256 * 256 := Nat.mul_le_mul (by omega) (by omega)
      have w7 := q5.at_
      have k7 := q3.lt; have k7' := q2.lt
      have y7 := x7.size; have y5 := p5.size; have y6 := p6.size
      refine (q5.fr (n8.fr (lo := 0) (hi := 0)) (by omega)).append (by omega) rfl (by omega) (by simp) (by omega) fun v9 h9 o9 f9 e9 => ?_
      obtain ⟨va, vc, rfl⟩ := o9.is
      have w9 := o9.at_
      have y9 := f9.size
      simp -dsimp only [go_sem, ↓reduceIte, reduceCtorEq, Nat.reduceEqDiff, Nat.reduceAdd, Nat.reduceLeDiff, Nat.reduceMul, Int.reduceBEq, Int.reduceBNe, Int.reduceLT, Int.reduceLE, Int.reduceGT, Int.reduceGE]
      have r9 := (n8.rw q3).fr f9 (by omega)
      refine ⟨r9.wr (by simp), fun h10 s10 => ?_⟩
      have r10 := s10.row r9
      have y10 := s10.size
      simp -dsimp only [go_sem, ↓reduceIte, reduceCtorEq, Nat.reduceEqDiff, Nat.reduceAdd, Nat.reduceLeDiff, Nat.reduceMul, Int.reduceBEq, Int.reduceBNe, Int.reduceLT, Int.reduceLE, Int.reduceGT, Int.reduceGE] at r10
      simp -dsimp only [go_sem, ↓reduceIte, reduceCtorEq, Nat.reduceEqDiff, Nat.reduceAdd, Nat.reduceLeDiff, Nat.reduceMul, Int.reduceBEq, Int.reduceBNe, Int.reduceLT, Int.reduceLE, Int.reduceGT, Int.reduceGE]
      have p10 : Fr 0 0 h h10 := ((q1.trans n8.fr).fresh f9 (by omega)).fresh s10.fr (by omega)
      have hh : Fr b3 (b3 + 1) h9 h10 := s10.fr
      refine ⟨⟨p10, ((n8.rw q2).fr f9 (by omega)).fr s10.fr (by omega), _, r10, by omega, by omega, ?_⟩, ?_⟩
      · have := o9.fr s10.fr (by omega)
        rw [List.take_add_one, hq, Option.toList_some, List.map_append, ← List.append_assoc, pairsV_append]
        exact this
      · have hsz : h5.size < h6.size := by omega
        refine ⟨?_, ?_, ht.fr p10 (by omega)⟩
        · refine s10.fr.keep (f9.keep ((n8.fr (lo := 0) (hi := 0)).keep hC7.1 (by omega)) (by omega)) (by omega)
        · exact (ptab_rd (t.fr p10 (by omega)) hlt)
    · rintro h7 hs7 ⟨q1, q2, sv7, q3, q4, q4', q5⟩ hC7
      rw [rest_bits hbits, List.length_map, List.take_length] at q5
      simp -dsimp only [go_sem, ↓reduceIte, reduceCtorEq, Nat.reduceEqDiff, Nat.reduceAdd, Nat.reduceLeDiff, Nat.reduceMul, Int.reduceBEq, Int.reduceBNe, Int.reduceLT, Int.reduceLE, Int.reduceGT, Int.reduceGE]
      simp -dsimp (disch := omega) only [wrap64]
      exact ⟨i + 1, by omega, by simp [Le, find], by omega, q1, sv7, q3, by rw [pairsTo_succ, List.length_append, List.length_map]; exact q5⟩
    · exact fun _ _ _ h => h.elim
  · have : i = n := by omega
    subst this
    simp -dsimp only [go_sem, ↓reduceIte, reduceCtorEq, Nat.reduceEqDiff, Nat.reduceAdd, Nat.reduceLeDiff, Nat.reduceMul, Int.reduceBEq, Int.reduceBNe, Int.reduceLT, Int.reduceLE, Int.reduceGT, Int.reduceGE, r3.cell]
    have := n3.size
    exact ⟨p2, o2.lower (by omega)⟩
end Go.Proofs.Tst
namespace Go.Proofs.Tst
open Go Go.Vc
theorem rel_Len {n : Nat} {M : Nat → Nat → Bool} {p : Value} {lo hi : Nat} {h : Heap} (hr : ProgAt h lo hi p n M) :
    Con Tryd.prog 51 #[p] h fun v h' => h' = h ∧ v = .int .i64 n := by
  refine con_rel_Rel_Len ?_
  obtain ⟨hn, pb, rb, R, W, rfl, t⟩ := hr
  simp -dsimp only [go_sem, ↓reduceIte, reduceCtorEq, Nat.reduceEqDiff, Nat.reduceAdd, Nat.reduceLeDiff, Nat.reduceMul, Int.reduceBEq, Int.reduceBNe, Int.reduceLT, Int.reduceLE, Int.reduceGT, Int.reduceGE, t.ptr.cell]

theorem rel_Has {n : Nat} {M : Nat → Nat → Bool} {p : Value} {lo hi : Nat} {h : Heap} (hr : ProgAt h lo hi p n M) (a b : Int) :
    Con Tryd.prog 31 #[p, .int .i64 a, .int .i64 b] h fun v h' => h' = h ∧ v = .bool (inR n a && inR n b && M a.toNat b.toNat) := by
  refine con_rel_Rel_Has ?_
  have hr0 := hr
  obtain ⟨hn, pb, rb, R, W, rfl, t⟩ := hr
  simp -dsimp only [go_sem, ↓reduceIte, reduceCtorEq, Nat.reduceEqDiff, Nat.reduceAdd, Nat.reduceLeDiff, Nat.reduceMul, Int.reduceBEq, Int.reduceBNe, Int.reduceLT, Int.reduceLE, Int.reduceGT, Int.reduceGE]
  refine call_of (rel_inside hr0 a b) ?_
  rintro v h1 ⟨rfl, rfl⟩
  simp -dsimp only [go_sem, ↓reduceIte, reduceCtorEq, Nat.reduceEqDiff, Nat.reduceAdd, Nat.reduceLeDiff, Nat.reduceMul, Int.reduceBEq, Int.reduceBNe, Int.reduceLT, Int.reduceLE, Int.reduceGT, Int.reduceGE]
  by_cases hin : (inR n a && inR n b) = true
  · have hin' := hin
    simp only [Bool.and_eq_true, inR, decide_eq_true_eq] at hin'
    obtain ⟨x, rfl⟩ : ∃ x : Nat, a = x := ⟨a.toNat, by omega⟩
    obtain ⟨y, rfl⟩ : ∃ y : Nat, b = y := ⟨b.toNat, by omega⟩
    have hx : x < n := by omega
    have hy : y < n := by omega
    obtain ⟨hrw, _, _, hnp, hnr, hbits⟩ := t.row x hx
    rw [hin]
    simp -dsimp only [go_sem, ↓reduceIte, reduceCtorEq, Nat.reduceEqDiff, Nat.reduceAdd, Nat.reduceLeDiff, Nat.reduceMul, Int.reduceBEq, Int.reduceBNe, Int.reduceLT, Int.reduceLE, Int.reduceGT, Int.reduceGE, t.ptr.cell]
    refine Chk_intro (by omega) ?_
    simp -dsimp only [go_sem, ↓reduceIte, reduceCtorEq, Nat.reduceEqDiff, Nat.reduceAdd, Nat.reduceLeDiff, Nat.reduceMul, Int.reduceBEq, Int.reduceBNe, Int.reduceLT, Int.reduceLE, Int.reduceGT, Int.reduceGE, t.rowsGet hx]
    refine call_of (row_has (p := y) (ptab_rd t hx) (by unfold nw; omega) (hbits _).1 (by omega)) ?_
    rintro v h2 ⟨rfl, rfl⟩
    rw [hbits.get hy]
    simp -dsimp only [go_sem, ↓reduceIte, reduceCtorEq, Nat.reduceEqDiff, Nat.reduceAdd, Nat.reduceLeDiff, Nat.reduceMul, Int.reduceBEq, Int.reduceBNe, Int.reduceLT, Int.reduceLE, Int.reduceGT, Int.reduceGE]
    simp
  · have hin : (inR n a && inR n b) = false := by simpa using hin
    rw [hin]
    simp -dsimp only [go_sem, ↓reduceIte, reduceCtorEq, Nat.reduceEqDiff, Nat.reduceAdd, Nat.reduceLeDiff, Nat.reduceMul, Int.reduceBEq, Int.reduceBNe, Int.reduceLT, Int.reduceLE, Int.reduceGT, Int.reduceGE]
    simp

theorem order_Linear {n : Nat} {M : Nat → Nat → Bool} {rv lv : Value} {l : List Int} {lo hi : Nat} {h : Heap} (hr : ProgAt h lo hi rv n M) (ht : TabAt h) (hl : Rd 1 h lv l.length (intsV l)) (hb : l.length ≤ 4611686018427387904) :
    Con Tryd.prog 16 #[rv, lv] h fun v h' => Fr 0 0 h h' ∧ v = .bool (decide (LinP n M l)) := by
  refine con_order_Linear ?_
  have hn := hr.1
  obtain ⟨la, lc, rfl⟩ := hl.is
  simp -dsimp only [go_sem, ↓reduceIte, reduceCtorEq, Nat.reduceEqDiff, Nat.reduceAdd, Nat.reduceLeDiff, Nat.reduceMul, Int.reduceBEq, Int.reduceBNe, Int.reduceLT, Int.reduceLE, Int.reduceGT, Int.reduceGE]
  refine call_of (rel_Len hr) ?_
  rintro v h1 ⟨rfl, rfl⟩
  simp -dsimp only [go_sem, ↓reduceIte, reduceCtorEq, Nat.reduceEqDiff, Nat.reduceAdd, Nat.reduceLeDiff, Nat.reduceMul, Int.reduceBEq, Int.reduceBNe, Int.reduceLT, Int.reduceLE, Int.reduceGT, Int.reduceGE]
  refine ⟨fun hne => ?_, fun heq => ?_⟩
  · simp -dsimp only [go_sem, ↓reduceIte, reduceCtorEq, Nat.reduceEqDiff, Nat.reduceAdd, Nat.reduceLeDiff, Nat.reduceMul, Int.reduceBEq, Int.reduceBNe, Int.reduceLT, Int.reduceLE, Int.reduceGT, Int.reduceGE]
    exact ⟨.refl _ _ _, by rw [decide_eq_false]; rintro ⟨hh, _⟩; simp [hh] at hne⟩
  have heq : l.length = n := by have : (l.length : Int) = n := by simpa using heq
                                omega
  simp -dsimp only [go_sem, ↓reduceIte, reduceCtorEq, Nat.reduceEqDiff, Nat.reduceAdd, Nat.reduceLeDiff, Nat.reduceMul, Int.reduceBEq, Int.reduceBNe, Int.reduceLT, Int.reduceLE, Int.reduceGT, Int.reduceGE]
  rw [heq] at hl ⊢
  refine Chk_intro (by omega) ?_
  intro b2 h2 n2
  have r2 := n2.row
  rw [zeros_one, Int.toNat_natCast, placeV_nil] at r2
  have p2 : Fr 0 0 h1 h2 := n2.fr
  have z2 := n2.size; have a2 := n2.at_
  simp -dsimp only [go_sem, ↓reduceIte, reduceCtorEq, Nat.reduceEqDiff, Nat.reduceAdd, Nat.reduceLeDiff, Nat.reduceMul, Int.reduceBEq, Int.reduceBNe, Int.reduceLT, Int.reduceLE, Int.reduceGT, Int.reduceGE]
  refine loop_intro (fun i : Nat => [(0, rv), (1, .slice la n lc), (5, .slice (some ⟨b2, 0, none⟩) n n), (18, .slice la n lc), (19, .int .i64 n), (20, .int .i64 i)])
    (fun i h' => i ≤ n ∧ Fr 0 0 h1 h' ∧ Rw h' b2 (placeV n (l.take i)) ∧ (∀ x ∈ l.take i, 0 ≤ x ∧ x < (n : Int)) ∧ (l.take i).Nodup) (fun i => n - i) 0 ?_ ?_ ?_
  · simp [Le, find]
  · exact ⟨by omega, p2, r2, by simp, by simp⟩
  rintro i h3 ⟨hi, p3, r23, hin, hnd⟩
  have k2 := r23.lt
  simp -dsimp only [go_sem, ↓reduceIte, reduceCtorEq, Nat.reduceEqDiff, Nat.reduceAdd, Nat.reduceLeDiff, Nat.reduceMul, Int.reduceBEq, Int.reduceBNe, Int.reduceLT, Int.reduceLE, Int.reduceGT, Int.reduceGE]
  refine ⟨fun hlt => ?_, fun hge => ?_⟩
  · have hlt : i < n := by omega
    have hx : l[i]? = some l[i] := by simp
    have htk : l.take (i + 1) = l.take i ++ [l[i]] := by rw [List.take_succ_eq_append_getElem (by omega)]
    have hmem : l[i] ∈ l := List.getElem_mem _
    generalize l[i] = x at hx htk hmem
    simp -dsimp only [go_sem, ↓reduceIte, reduceCtorEq, Nat.reduceEqDiff, Nat.reduceAdd, Nat.reduceLeDiff, Nat.reduceMul, Int.reduceBEq, Int.reduceBNe, Int.reduceLT, Int.reduceLE, Int.reduceGT, Int.reduceGE]
    refine Chk_intro (by omega) ((hl.fr p3).idx (by omega) fun b3 o3 c3 => ?_)
    have c3 := c3 i _ (intsV_get hx)
    have bad : ¬ (0 ≤ x ∧ x < (n : Int)) → ¬ LinP n M l := fun hb hP => hb (hP.2.1 x hmem)
    by_cases hA : x < 0
    · simp -dsimp only [go_sem, ↓reduceIte, reduceCtorEq, Nat.reduceEqDiff, Nat.reduceAdd, Nat.reduceLeDiff, Nat.reduceMul, Int.reduceBEq, Int.reduceBNe, Int.reduceLT, Int.reduceLE, Int.reduceGT, Int.reduceGE, c3, hA, decide_true]
      exact ⟨p3, by rw [decide_eq_false (bad (by omega))]⟩
    by_cases hB : x ≥ (n : Int)
    · simp -dsimp only [go_sem, ↓reduceIte, reduceCtorEq, Nat.reduceEqDiff, Nat.reduceAdd, Nat.reduceLeDiff, Nat.reduceMul, Int.reduceBEq, Int.reduceBNe, Int.reduceLT, Int.reduceLE, Int.reduceGT, Int.reduceGE, c3, hA, hB, decide_true, decide_false]
      exact ⟨p3, by rw [decide_eq_false (bad (by omega))]⟩
    obtain ⟨p, rfl⟩ : ∃ p : Nat, x = p := ⟨x.toNat, by omega⟩
    have hp : p < n := by omega
    simp -dsimp only [go_sem, ↓reduceIte, reduceCtorEq, Nat.reduceEqDiff, Nat.reduceAdd, Nat.reduceLeDiff, Nat.reduceMul, Int.reduceBEq, Int.reduceBNe, Int.reduceLT, Int.reduceLE, Int.reduceGT, Int.reduceGE, c3, hA, hB, decide_false]
    refine Chk_intro (by omega) ?_
    simp -dsimp only [go_sem, ↓reduceIte, reduceCtorEq, Nat.reduceEqDiff, Nat.reduceAdd, Nat.reduceLeDiff, Nat.reduceMul, Int.reduceBEq, Int.reduceBNe, Int.reduceLT, Int.reduceLE, Int.reduceGT, Int.reduceGE, r23.cell, placeV_get hp, hA, hB, decide_false]
    by_cases hm : (p : Int) ∈ l.take i
    · have : ¬ LinP n M l := by
        rintro ⟨_, _, hnd, _⟩
        have : (l.take (i + 1)).Nodup := hnd.sublist (List.take_sublist _ _)
        rw [htk, List.nodup_append] at this
        exact this.2.2 p hm p (by simp) rfl
      simp -dsimp only [go_sem, ↓reduceIte, reduceCtorEq, Nat.reduceEqDiff, Nat.reduceAdd, Nat.reduceLeDiff, Nat.reduceMul, Int.reduceBEq, Int.reduceBNe, Int.reduceLT, Int.reduceLE, Int.reduceGT, Int.reduceGE, hm, hA, hB, decide_false]
      refine ⟨fun _ => ?_, fun h => absurd (by simp; omega) h⟩
      simp -dsimp only [go_sem, ↓reduceIte, reduceCtorEq, Nat.reduceEqDiff, Nat.reduceAdd, Nat.reduceLeDiff, Nat.reduceMul, Int.reduceBEq, Int.reduceBNe, Int.reduceLT, Int.reduceLE, Int.reduceGT, Int.reduceGE]
      exact ⟨p3, by rw [decide_eq_false this]⟩
    · simp -dsimp only [go_sem, ↓reduceIte, reduceCtorEq, Nat.reduceEqDiff, Nat.reduceAdd, Nat.reduceLeDiff, Nat.reduceMul, Int.reduceBEq, Int.reduceBNe, Int.reduceLT, Int.reduceLE, Int.reduceGT, Int.reduceGE, hm, hA, hB, decide_false]
      refine Chk_intro (by omega) ?_
      simp -dsimp only [go_sem, ↓reduceIte, reduceCtorEq, Nat.reduceEqDiff, Nat.reduceAdd, Nat.reduceLeDiff, Nat.reduceMul, Int.reduceBEq, Int.reduceBNe, Int.reduceLT, Int.reduceLE, Int.reduceGT, Int.reduceGE]
      refine Chk_intro (r23.wr (by simp [length_placeV]; omega)) fun h4 s4 => ?_
      have r24 := s4.row r23
      rw [wrap64 (by omega) (by omega), cl_int, putAt_one, show ((i : Int) + 1) = (((l.take i).length + 1 : Nat) : Int) from by rw [List.length_take]; omega, placeV_put hp hm, ← htk] at r24
      simp -dsimp only [go_sem, ↓reduceIte, reduceCtorEq, Nat.reduceEqDiff, Nat.reduceAdd, Nat.reduceLeDiff, Nat.reduceMul, Int.reduceBEq, Int.reduceBNe, Int.reduceLT, Int.reduceLE, Int.reduceGT, Int.reduceGE]
      simp -dsimp (disch := omega) only [wrap64]
      refine ⟨i + 1, by omega, by simp [Le, find], by omega, p3.fresh s4.fr (by omega), r24, ?_, ?_⟩
      · rw [htk]; intro y hy
        rcases List.mem_append.1 hy with hy | hy
        · exact hin y hy
        · simp at hy; omega
      · rw [htk, List.nodup_append]
        exact ⟨hnd, by simp, fun y hy z hz => by simp at hz; subst hz; rintro rfl; exact hm hy⟩
  · have hin' : i = l.length := by omega
    rw [hin', List.take_length] at r23 hin hnd
    simp -dsimp only [go_sem, ↓reduceIte, reduceCtorEq, Nat.reduceEqDiff, Nat.reduceAdd, Nat.reduceLeDiff, Nat.reduceMul, Int.reduceBEq, Int.reduceBNe, Int.reduceLT, Int.reduceLE, Int.reduceGT, Int.reduceGE]
    refine call_of (rel_Pairs (hr.fr p3 (by omega)) (ht.fr p3 (by omega))) ?_
    rintro v h4 ⟨p4, o4⟩
    have r24 := r23.fr p4 (by omega)
    have q4 := p3.trans p4
    obtain ⟨pa, pc, rfl⟩ := o4.is
    have rd4 := o4.rd
    simp -dsimp only [go_sem, ↓reduceIte, reduceCtorEq, Nat.reduceEqDiff, Nat.reduceAdd, Nat.reduceLeDiff, Nat.reduceMul, Int.reduceBEq, Int.reduceBNe, Int.reduceLT, Int.reduceLE, Int.reduceGT, Int.reduceGE]
    refine loop_intro (fun j : Nat => [(5, .slice (some ⟨b2, 0, none⟩) n n), (47, .slice pa (pairsOf n M).length pc), (48, .int .i64 (pairsOf n M).length), (49, .int .i64 j)])
      (fun j h' => j ≤ (pairsOf n M).length ∧ Fr 0 0 h4 h' ∧ ∀ p ∈ (pairsOf n M).take j, l.idxOf p.1 < l.idxOf p.2) (fun j => (pairsOf n M).length - j) 0 ?_ ?_ ?_
    · simp [Le, find]
    · exact ⟨by omega, .refl _ _ _, by simp⟩
    rintro j h5 ⟨hj, p5, hord⟩
    have r25 := r24.fr p5 (by omega)
    have rd5 := rd4.fr p5
    simp -dsimp only [go_sem, ↓reduceIte, reduceCtorEq, Nat.reduceEqDiff, Nat.reduceAdd, Nat.reduceLeDiff, Nat.reduceMul, Int.reduceBEq, Int.reduceBNe, Int.reduceLT, Int.reduceLE, Int.reduceGT, Int.reduceGE]
    refine ⟨fun hlt => ?_, fun hge => ?_⟩
    · have hlt : j < (pairsOf n M).length := by omega
      have hq : (pairsOf n M)[j]? = some (pairsOf n M)[j] := by simp
      have htk : (pairsOf n M).take (j + 1) = (pairsOf n M).take j ++ [(pairsOf n M)[j]] := by rw [List.take_succ_eq_append_getElem hlt]
      have hmem : (pairsOf n M)[j] ∈ pairsOf n M := List.getElem_mem _
      generalize (pairsOf n M)[j] = q at hq htk hmem
      obtain ⟨a, b, ha, hb', hm, rfl⟩ := mem_pairsOf.1 hmem
      simp -dsimp only [go_sem, ↓reduceIte, reduceCtorEq, Nat.reduceEqDiff, Nat.reduceAdd, Nat.reduceLeDiff, Nat.reduceMul, Int.reduceBEq, Int.reduceBNe, Int.reduceLT, Int.reduceLE, Int.reduceGT, Int.reduceGE]
      refine Chk_intro (by omega) (rd5.pair hq fun b6 o6 c6 c7 => ?_)
      simp -dsimp only [go_sem, ↓reduceIte, reduceCtorEq, Nat.reduceEqDiff, Nat.reduceAdd, Nat.reduceLeDiff, Nat.reduceMul, Int.reduceBEq, Int.reduceBNe, Int.reduceLT, Int.reduceLE, Int.reduceGT, Int.reduceGE, c6, c7]
      intro b7 h7 n7
      simp -dsimp only [go_sem, ↓reduceIte, reduceCtorEq, Nat.reduceEqDiff, Nat.reduceAdd, Nat.reduceLeDiff, Nat.reduceMul, Int.reduceBEq, Int.reduceBNe, Int.reduceLT, Int.reduceLE, Int.reduceGT, Int.reduceGE]
      refine ⟨n7.row.wr (by simp), fun h8 s8 => ?_⟩
      have r8 := s8.row n7.row
      have k7 := n7.at_; have k5 := r25.lt
      have r28 := s8.rw (n7.rw r25) (by omega)
      have p8 := (p5.trans n7.fr).fresh s8.fr (by have := p5.size; omega)
      simp -dsimp only [go_sem, ↓reduceIte, reduceCtorEq, Nat.reduceEqDiff, Nat.reduceAdd, Nat.reduceLeDiff, Nat.reduceMul, Int.reduceBEq, Int.reduceBNe, Int.reduceLT, Int.reduceLE, Int.reduceGT, Int.reduceGE] at r8
      simp -dsimp only [go_sem, ↓reduceIte, reduceCtorEq, Nat.reduceEqDiff, Nat.reduceAdd, Nat.reduceLeDiff, Nat.reduceMul, Int.reduceBEq, Int.reduceBNe, Int.reduceLT, Int.reduceLE, Int.reduceGT, Int.reduceGE, r8.cell]
      refine Chk_intro (by omega) ?_
      simp -dsimp only [go_sem, ↓reduceIte, reduceCtorEq, Nat.reduceEqDiff, Nat.reduceAdd, Nat.reduceLeDiff, Nat.reduceMul, Int.reduceBEq, Int.reduceBNe, Int.reduceLT, Int.reduceLE, Int.reduceGT, Int.reduceGE, r28.cell, placeV_get ha, r8.cell]
      refine Chk_intro (by omega) ?_
      simp -dsimp only [go_sem, ↓reduceIte, reduceCtorEq, Nat.reduceEqDiff, Nat.reduceAdd, Nat.reduceLeDiff, Nat.reduceMul, Int.reduceBEq, Int.reduceBNe, Int.reduceLT, Int.reduceLE, Int.reduceGT, Int.reduceGE, r28.cell, placeV_get hb', nodup_all heq hin hnd ha, nodup_all heq hin hnd hb']
      refine ⟨fun hge => ?_, fun hlt3 => ?_⟩
      · simp -dsimp only [go_sem, ↓reduceIte, reduceCtorEq, Nat.reduceEqDiff, Nat.reduceAdd, Nat.reduceLeDiff, Nat.reduceMul, Int.reduceBEq, Int.reduceBNe, Int.reduceLT, Int.reduceLE, Int.reduceGT, Int.reduceGE]
        exact ⟨q4.trans p8, by rw [decide_eq_false]; rintro ⟨_, _, _, h⟩; have := h a ha b hb' hm; omega⟩
      · have hpl := length_pairsTo_le n M n
        have g3 : n * n ≤ 256 * 256 := Nat.mul_le_mul (by omega) (by omega)
        have g4 : (pairsOf n M).length ≤ n * n := hpl
        simp -dsimp only [go_sem, ↓reduceIte, reduceCtorEq, Nat.reduceEqDiff, Nat.reduceAdd, Nat.reduceLeDiff, Nat.reduceMul, Int.reduceBEq, Int.reduceBNe, Int.reduceLT, Int.reduceLE, Int.reduceGT, Int.reduceGE]
        simp -dsimp (disch := omega) only [wrap64]
        refine ⟨j + 1, by omega, by simp [Le, find], by omega, p8, fun x hx => ?_⟩
        rw [htk] at hx
        rcases List.mem_append.1 hx with hx | hx
        · exact hord x hx
        · simp at hx; subst hx; dsimp only; omega
    · have : j = (pairsOf n M).length := by omega
      subst this
      rw [List.take_length] at hord
      simp -dsimp only [go_sem, ↓reduceIte, reduceCtorEq, Nat.reduceEqDiff, Nat.reduceAdd, Nat.reduceLeDiff, Nat.reduceMul, Int.reduceBEq, Int.reduceBNe, Int.reduceLT, Int.reduceLE, Int.reduceGT, Int.reduceGE]
      exact ⟨q4.trans p5, by rw [decide_eq_true]; exact ⟨heq, hin, hnd, fun a ha b hb hm => hord _ (mem_pairsOf.2 ⟨a, b, ha, hb, hm, rfl⟩)⟩⟩
end Go.Proofs.Tst
namespace Go.Proofs.Tst
open Go Go.Vc
/-- Is each pair of one relation a pair of another? -/
def WithinP (n : Nat) (M : Nat → Nat → Bool) (m : Nat) (N : Nat → Nat → Bool) : Prop := ∀ a, a < n → ∀ b, b < n → M a b = true → a < m ∧ b < m ∧ N a b = true
instance (n : Nat) (M : Nat → Nat → Bool) (m : Nat) (N : Nat → Nat → Bool) : Decidable (WithinP n M m N) := by unfold WithinP; infer_instance

theorem rel_Within {n m : Nat} {M N : Nat → Nat → Bool} {p q : Value} {lo hi lo' hi' : Nat} {h : Heap} (hr : ProgAt h lo hi p n M) (hs : ProgAt h lo' hi' q m N) (ht : TabAt h) :
    Con Tryd.prog 42 #[p, q] h fun v h' => Fr 0 0 h h' ∧ v = .bool (decide (WithinP n M m N)) := by
  refine con_rel_Within (fun v h1 h2 x ⟨f, o⟩ => ⟨x.fr f (Nat.le_refl _), o⟩) ?_
  obtain ⟨hn, pb, rb, R, W, rfl, t⟩ := hr
  have hs0 := hs
  obtain ⟨hm, pb', rb', R', W', rfl, t'⟩ := hs
  simp -dsimp only [go_sem, ↓reduceIte, reduceCtorEq, Nat.reduceEqDiff, Nat.reduceAdd, Nat.reduceLeDiff, Nat.reduceMul, Int.reduceBEq, Int.reduceBNe, Int.reduceLT, Int.reduceLE, Int.reduceGT, Int.reduceGE]
  intro b3 h1 n1
  simp -dsimp only [go_sem, ↓reduceIte, reduceCtorEq, Nat.reduceEqDiff, Nat.reduceAdd, Nat.reduceLeDiff, Nat.reduceMul, Int.reduceBEq, Int.reduceBNe, Int.reduceLT, Int.reduceLE, Int.reduceGT, Int.reduceGE]
  intro b4 h2 n2
  have a1 := n1.at_; have z1 := n1.size; have a2 := n2.at_; have z2 := n2.size
  have r3 := n2.rw n1.row
  have r4 := n2.row
  have p2 : Fr 0 0 h h2 := (n1.fr (lo := 0) (hi := 0)).trans n2.fr
  have t2 := t.fr p2 (by omega)
  simp -dsimp only [go_sem, ↓reduceIte, reduceCtorEq, Nat.reduceEqDiff, Nat.reduceAdd, Nat.reduceLeDiff, Nat.reduceMul, Int.reduceBEq, Int.reduceBNe, Int.reduceLT, Int.reduceLE, Int.reduceGT, Int.reduceGE, t2.ptr.cell]
  refine loop_intro (fun i : Nat => [(3, .pointer (some ⟨b3, 0, none⟩)), (4, .pointer (some ⟨b4, 0, none⟩)), (11, .slice (some ⟨rb, 0, none⟩) n n), (12, .int .i64 n), (13, .int .i64 i)])
    (fun i h' => i ≤ n ∧ Fr 0 0 h h' ∧ h2.size ≤ h'.size ∧ Rw h' b3 [.pointer (some ⟨pb', 0, none⟩)] ∧ Rw h' b4 [.bool false] ∧ ∀ a, a < i → ∀ b, b < n → M a b = true → a < m ∧ b < m ∧ N a b = true) (fun i => n - i) 0 ?_ ?_ ?_
  · simp [Le, find]
  · exact ⟨by omega, p2, by omega, r3, r4, fun a ha => by omega⟩
  rintro i h3 ⟨hi1, p3, y3, r3, r4, hw⟩
  have t3 := t.fr p3 (by omega)
  simp -dsimp only [go_sem, ↓reduceIte, reduceCtorEq, Nat.reduceEqDiff, Nat.reduceAdd, Nat.reduceLeDiff, Nat.reduceMul, Int.reduceBEq, Int.reduceBNe, Int.reduceLT, Int.reduceLE, Int.reduceGT, Int.reduceGE]
  refine ⟨fun hlt => ?_, fun hge => ?_⟩
  · have hlt : i < n := by omega
    simp -dsimp only [go_sem, ↓reduceIte, reduceCtorEq, Nat.reduceEqDiff, Nat.reduceAdd, Nat.reduceLeDiff, Nat.reduceMul, Int.reduceBEq, Int.reduceBNe, Int.reduceLT, Int.reduceLE, Int.reduceGT, Int.reduceGE]
    refine Chk_intro (by omega) ?_
    simp -dsimp only [go_sem, ↓reduceIte, reduceCtorEq, Nat.reduceEqDiff, Nat.reduceAdd, Nat.reduceLeDiff, Nat.reduceMul, Int.reduceBEq, Int.reduceBNe, Int.reduceLT, Int.reduceLE, Int.reduceGT, Int.reduceGE, t3.rowsGet hlt]
    intro b5 h4 n4
    have a4 := n4.at_; have z4 := n4.size
    simp -dsimp only [go_sem, ↓reduceIte, reduceCtorEq, Nat.reduceEqDiff, Nat.reduceAdd, Nat.reduceLeDiff, Nat.reduceMul, Int.reduceBEq, Int.reduceBNe, Int.reduceLT, Int.reduceLE, Int.reduceGT, Int.reduceGE]
    refine ⟨n4.row.wr (by simp), fun h5 s5 => ?_⟩
    have r5 := s5.row n4.row
    have z5 := s5.size
    have k3 := r3.lt; have k4 := r4.lt
    have r35 := s5.rw (n4.rw r3) (by omega)
    have r45 := s5.rw (n4.rw r4) (by omega)
    have p5 := (p3.trans n4.fr).fresh s5.fr (by have := p3.size; omega)
    simp -dsimp only [go_sem, ↓reduceIte, reduceCtorEq, Nat.reduceEqDiff, Nat.reduceAdd, Nat.reduceLeDiff, Nat.reduceMul, Int.reduceBEq, Int.reduceBNe, Int.reduceLT, Int.reduceLE, Int.reduceGT, Int.reduceGE] at r5
    simp -dsimp only [go_sem, ↓reduceIte, reduceCtorEq, Nat.reduceEqDiff, Nat.reduceAdd, Nat.reduceLeDiff, Nat.reduceMul, Int.reduceBEq, Int.reduceBNe, Int.reduceLT, Int.reduceLE, Int.reduceGT, Int.reduceGE]
    refine call_of (rel_points _ _ _ h5) ?_
    rintro v h6 ⟨p6, rfl, c6, z6⟩
    simp -dsimp only [go_sem, ↓reduceIte, reduceCtorEq, Nat.reduceEqDiff, Nat.reduceAdd, Nat.reduceLeDiff, Nat.reduceMul, Int.reduceBEq, Int.reduceBNe, Int.reduceLT, Int.reduceLE, Int.reduceGT, Int.reduceGE]
    refine ⟨rfl, ?_⟩
    have rd6 := (ptab_rd (t.fr p5 (by omega)) hlt).fr p6
    have hbits := (t.row i hlt).2.2.2.2.2
    have y5 := p5.size; have y6 := p6.size
    refine ⟨_, RowC h5.size (.slice (some ⟨R i, 0, none⟩) (nw n) (nw n)) (nw n) (W i),
      fun d h' => Fr 0 0 h h' ∧ h2.size ≤ h'.size ∧ Rw h' b3 [.pointer (some ⟨pb', 0, none⟩)] ∧ Rw h' b4 [.bool false] ∧ Rw h' b5 [.int .i64 i] ∧ ∀ b ∈ (rest (M i) n 0).take d, i < m ∧ b < m ∧ N i b = true,
      fun x h' => x = .ret ∧ Fr 0 0 h h' ∧ Rw h' b4 [.bool false] ∧ ¬ WithinP n M m N, points_1 (fun j => (hbits j).1) (by unfold nw; omega), ?_, ?_, ?_, ?_, ?_, ?_, ?_, ?_, ?_⟩
    · intro x hx; obtain ⟨q, _, rfl⟩ := List.mem_map.1 hx; rfl
    · exact fun h1 h2 x ⟨c1, c2, c3⟩ => ⟨x.cell c1, x.rd c2, x.tab c3⟩
    · rintro d h1 h2 x ⟨q1, q2, q3, q4, q5, q6⟩
      exact ⟨x.fr q1 (by omega), Nat.le_trans q2 x.size, x.rw q3, x.rw q4, x.rw q5, q6⟩
    · rintro x h1 h2 x' ⟨e, q1, q2, q3⟩
      exact ⟨e, x'.fr q1 (by omega), x'.rw q2, q3⟩
    · exact ⟨p5.trans p6, by omega, r35.fr p6 (by omega), r45.fr p6 (by omega), r5.fr p6 (by omega), by simp⟩
    · exact ⟨c6, rd6, ht.fr (p5.trans p6) (by omega)⟩
    · rintro d x h7 hs7 hx ⟨q1, q2, q3, q4, q5, q6⟩ hC7
      rw [rest_bits hbits, List.getElem?_map, Option.map_eq_some_iff] at hx
      obtain ⟨b, hb, rfl⟩ := hx
      have hbm := mem_rest.1 (List.mem_of_getElem? hb)
      simp only [zipE]
      simp -dsimp only [go_sem, ↓reduceIte, reduceCtorEq, Nat.reduceEqDiff, Nat.reduceAdd, Nat.reduceLeDiff, Nat.reduceMul, Int.reduceBEq, Int.reduceBNe, Int.reduceLT, Int.reduceLE, Int.reduceGT, Int.reduceGE]
      intro h7' x7
      have q1 := x7.fr q1 (by omega)
      have q3 := x7.rw q3; have q4 := x7.rw q4; have q5 := x7.rw q5
      simp -dsimp only [go_sem, ↓reduceIte, reduceCtorEq, Nat.reduceEqDiff, Nat.reduceAdd, Nat.reduceLeDiff, Nat.reduceMul, Int.reduceBEq, Int.reduceBNe, Int.reduceLT, Int.reduceLE, Int.reduceGT, Int.reduceGE, q3.cell, q5.cell]
      refine call_of (rel_Has (hs0.fr q1 (by omega)) _ _) ?_
      rintro v h8 ⟨rfl, rfl⟩
      simp only [Int.toNat_natCast]
      cases hh : (inR m i && inR m b && N i b) with
      | true =>
        have hh' := hh
        simp only [Bool.and_eq_true, inR, decide_eq_true_eq] at hh'
        simp -dsimp only [go_sem, ↓reduceIte, reduceCtorEq, Nat.reduceEqDiff, Nat.reduceAdd, Nat.reduceLeDiff, Nat.reduceMul, Int.reduceBEq, Int.reduceBNe, Int.reduceLT, Int.reduceLE, Int.reduceGT, Int.reduceGE, hh]
        refine ⟨⟨q1, Nat.le_trans q2 x7.size, q3, q4, q5, fun y hy => ?_⟩, x7.cell hC7.1, x7.rd hC7.2.1, x7.tab hC7.2.2⟩
        rw [List.take_add_one, hb, Option.toList_some] at hy
        rcases List.mem_append.1 hy with hy | hy
        · exact q6 y hy
        · simp at hy; subst hy; exact ⟨by omega, by omega, hh'.2⟩
      | false =>
        simp -dsimp only [go_sem, ↓reduceIte, reduceCtorEq, Nat.reduceEqDiff, Nat.reduceAdd, Nat.reduceLeDiff, Nat.reduceMul, Int.reduceBEq, Int.reduceBNe, Int.reduceLT, Int.reduceLE, Int.reduceGT, Int.reduceGE, hh]
        refine ⟨q4.wr (by simp), fun h9 s9 => ?_⟩
        have r9 := s9.row q4
        simp -dsimp only [go_sem, ↓reduceIte, reduceCtorEq, Nat.reduceEqDiff, Nat.reduceAdd, Nat.reduceLeDiff, Nat.reduceMul, Int.reduceBEq, Int.reduceBNe, Int.reduceLT, Int.reduceLE, Int.reduceGT, Int.reduceGE] at r9
        simp -dsimp only [go_sem, ↓reduceIte, reduceCtorEq, Nat.reduceEqDiff, Nat.reduceAdd, Nat.reduceLeDiff, Nat.reduceMul, Int.reduceBEq, Int.reduceBNe, Int.reduceLT, Int.reduceLE, Int.reduceGT, Int.reduceGE]
        refine ⟨rfl, q1.fresh s9.fr (by omega), r9, fun hW => ?_⟩
        obtain ⟨g1, g2, g3⟩ := hW i hlt b hbm.2.1 hbm.2.2
        simp [inR, g1, g2, g3] at hh
    · rintro h7 hs7 ⟨q1, q2, q3, q4, q5, q6⟩ hC7
      rw [rest_bits hbits, List.length_map, List.take_length] at q6
      simp -dsimp only [go_sem, ↓reduceIte, reduceCtorEq, Nat.reduceEqDiff, Nat.reduceAdd, Nat.reduceLeDiff, Nat.reduceMul, Int.reduceBEq, Int.reduceBNe, Int.reduceLT, Int.reduceLE, Int.reduceGT, Int.reduceGE]
      simp -dsimp (disch := omega) only [wrap64]
      refine ⟨i + 1, by omega, by simp [Le, find], by omega, q1, q2, q3, q4, fun a ha b hb hM => ?_⟩
      by_cases hai : a = i
      · subst hai; exact q6 b (mem_rest.2 ⟨by omega, hb, hM⟩)
      · exact hw a (by omega) b hb hM
    · rintro x h7 hs7 ⟨rfl, q1, q2, q3⟩
      refine ⟨by simp, ?_⟩
      simp -dsimp only [go_sem, ↓reduceIte, reduceCtorEq, Nat.reduceEqDiff, Nat.reduceAdd, Nat.reduceLeDiff, Nat.reduceMul, Int.reduceBEq, Int.reduceBNe, Int.reduceLT, Int.reduceLE, Int.reduceGT, Int.reduceGE, q2.cell]
      exact ⟨q1, by rw [decide_eq_false q3]⟩
  · have : i = n := by omega
    subst this
    simp -dsimp only [go_sem, ↓reduceIte, reduceCtorEq, Nat.reduceEqDiff, Nat.reduceAdd, Nat.reduceLeDiff, Nat.reduceMul, Int.reduceBEq, Int.reduceBNe, Int.reduceLT, Int.reduceLE, Int.reduceGT, Int.reduceGE]
    refine ⟨r4.wr (by simp), fun h4 s4 => ?_⟩
    have r9 := s4.row r4
    simp -dsimp only [go_sem, ↓reduceIte, reduceCtorEq, Nat.reduceEqDiff, Nat.reduceAdd, Nat.reduceLeDiff, Nat.reduceMul, Int.reduceBEq, Int.reduceBNe, Int.reduceLT, Int.reduceLE, Int.reduceGT, Int.reduceGE] at r9
    simp -dsimp only [go_sem, ↓reduceIte, reduceCtorEq, Nat.reduceEqDiff, Nat.reduceAdd, Nat.reduceLeDiff, Nat.reduceMul, Int.reduceBEq, Int.reduceBNe, Int.reduceLT, Int.reduceLE, Int.reduceGT, Int.reduceGE, r9.cell]
    exact ⟨p3.fresh s4.fr (by omega), by rw [decide_eq_true]; exact fun a ha => hw a ha⟩
end Go.Proofs.Tst
namespace Go.Proofs.Tst
open Go Go.Vc
theorem rel_Equal {n m : Nat} {M N : Nat → Nat → Bool} {p q : Value} {lo hi lo' hi' : Nat} {h : Heap} (hr : ProgAt h lo hi p n M) (hs : ProgAt h lo' hi' q m N) (ht : TabAt h) :
    Con Tryd.prog 22 #[p, q] h fun v h' => Fr 0 0 h h' ∧ v = .bool (decide (n = m ∧ WithinP n M m N ∧ WithinP m N n M)) := by
  refine con_rel_Equal ?_
  have hr0 := hr; have hs0 := hs
  obtain ⟨hn, pb, rb, R, W, rfl, t⟩ := hr
  obtain ⟨hm, pb', rb', R', W', rfl, t'⟩ := hs
  simp -dsimp only [go_sem, ↓reduceIte, reduceCtorEq, Nat.reduceEqDiff, Nat.reduceAdd, Nat.reduceLeDiff, Nat.reduceMul, Int.reduceBEq, Int.reduceBNe, Int.reduceLT, Int.reduceLE, Int.reduceGT, Int.reduceGE, t.ptr.cell, t'.ptr.cell]
  cases hnm : ((n : Int) == (m : Int)) with
  | false =>
    simp -dsimp only [go_sem, ↓reduceIte, reduceCtorEq, Nat.reduceEqDiff, Nat.reduceAdd, Nat.reduceLeDiff, Nat.reduceMul, Int.reduceBEq, Int.reduceBNe, Int.reduceLT, Int.reduceLE, Int.reduceGT, Int.reduceGE, hnm]
    exact ⟨.refl _ _ _, by rw [decide_eq_false]; rintro ⟨rfl, _⟩; simp at hnm⟩
  | true =>
    simp -dsimp only [go_sem, ↓reduceIte, reduceCtorEq, Nat.reduceEqDiff, Nat.reduceAdd, Nat.reduceLeDiff, Nat.reduceMul, Int.reduceBEq, Int.reduceBNe, Int.reduceLT, Int.reduceLE, Int.reduceGT, Int.reduceGE, hnm]
    refine call_of (rel_Within hr0 hs0 ht) ?_
    rintro v h1 ⟨p1, rfl⟩
    simp -dsimp only [go_sem, ↓reduceIte, reduceCtorEq, Nat.reduceEqDiff, Nat.reduceAdd, Nat.reduceLeDiff, Nat.reduceMul, Int.reduceBEq, Int.reduceBNe, Int.reduceLT, Int.reduceLE, Int.reduceGT, Int.reduceGE, hnm, (t.ptr.fr p1 (by omega)).cell, (t'.ptr.fr p1 (by omega)).cell]
    by_cases hw : WithinP n M m N
    · simp -dsimp only [go_sem, ↓reduceIte, reduceCtorEq, Nat.reduceEqDiff, Nat.reduceAdd, Nat.reduceLeDiff, Nat.reduceMul, Int.reduceBEq, Int.reduceBNe, Int.reduceLT, Int.reduceLE, Int.reduceGT, Int.reduceGE, hw, decide_true]
      refine call_of (rel_Within (hs0.fr p1 (by omega)) (hr0.fr p1 (by omega)) (ht.fr p1 (by omega))) ?_
      rintro v h2 ⟨p2, rfl⟩
      have p12 := p1.trans p2
      simp -dsimp only [go_sem, ↓reduceIte, reduceCtorEq, Nat.reduceEqDiff, Nat.reduceAdd, Nat.reduceLeDiff, Nat.reduceMul, Int.reduceBEq, Int.reduceBNe, Int.reduceLT, Int.reduceLE, Int.reduceGT, Int.reduceGE, hnm, hw, (t.ptr.fr p12 (by omega)).cell, (t'.ptr.fr p12 (by omega)).cell]
      have hnm : n = m := by have := hnm; simp at this; omega
      subst hnm
      exact ⟨p12, by simp [hw]⟩
    · simp -dsimp only [go_sem, ↓reduceIte, reduceCtorEq, Nat.reduceEqDiff, Nat.reduceAdd, Nat.reduceLeDiff, Nat.reduceMul, Int.reduceBEq, Int.reduceBNe, Int.reduceLT, Int.reduceLE, Int.reduceGT, Int.reduceGE, hw, decide_false]
      exact ⟨p1, by simp [hw]⟩
end Go.Proofs.Tst
namespace Go.Proofs.Tst
open Go Go.Vc
/-- One row is joined into another (which may be the same). -/
theorem row_join {w v b b' : Nat} {W V : Nat → Nat} {ov : Value} {h : Heap} (hx : Rw h b (wrow w W)) (hy : Rw h b' (wrow v V)) (ho : Rd 1 h ov 1 [.slice (some ⟨b', 0, none⟩) v v]) (hW : ∀ i, W i < 2 ^ 64) (hV : ∀ i, V i < 2 ^ 64) (hw : w ≤ 1024) (hv : v ≤ 1024) :
    Con Tryd.prog 77 #[.slice (some ⟨b, 0, none⟩) w w, ov] h fun _ h' => Fr b (b + 1) h h' ∧ h'.size = h.size ∧ Rw h' b (wrow w fun i => if i < v then W i ||| V i else W i) := by
  refine con_rel_row_join ?_
  obtain ⟨oa, oc, rfl⟩ := ho.is
  simp -dsimp only [go_sem, ↓reduceIte, reduceCtorEq, Nat.reduceEqDiff, Nat.reduceAdd, Nat.reduceLeDiff, Nat.reduceMul, Int.reduceBEq, Int.reduceBNe, Int.reduceLT, Int.reduceLE, Int.reduceGT, Int.reduceGE]
  refine loop_intro (fun i : Nat => [(0, .slice (some ⟨b, 0, none⟩) w w), (7, .slice oa 1 oc), (8, .int .i64 1), (9, .int .i64 i)])
    (fun i h' => (i = 0 ∧ h' = h) ∨ (i = 1 ∧ Fr b (b + 1) h h' ∧ h'.size = h.size ∧ Rw h' b (wrow w fun i => if i < v then W i ||| V i else W i))) (fun i => 1 - i) 0 ?_ ?_ ?_
  · simp [Le, find]
  · exact .inl ⟨rfl, rfl⟩
  rintro i h1 (⟨rfl, rfl⟩ | ⟨rfl, hf, hz, hr⟩)
  · simp -dsimp only [go_sem, ↓reduceIte, reduceCtorEq, Nat.reduceEqDiff, Nat.reduceAdd, Nat.reduceLeDiff, Nat.reduceMul, Int.reduceBEq, Int.reduceBNe, Int.reduceLT, Int.reduceLE, Int.reduceGT, Int.reduceGE]
    refine ⟨fun _ => ?_, fun h => absurd (by omega) h⟩
    simp -dsimp only [go_sem, ↓reduceIte, reduceCtorEq, Nat.reduceEqDiff, Nat.reduceAdd, Nat.reduceLeDiff, Nat.reduceMul, Int.reduceBEq, Int.reduceBNe, Int.reduceLT, Int.reduceLE, Int.reduceGT, Int.reduceGE]
    refine Chk_intro (by omega) (ho.idx (by omega) fun b1 o1 c1 => ?_)
    have c1 : hcell h1 b1 o1 = some (.slice (some ⟨b', 0, none⟩) v v) := c1 0 _ rfl
    simp -dsimp only [go_sem, ↓reduceIte, reduceCtorEq, Nat.reduceEqDiff, Nat.reduceAdd, Nat.reduceLeDiff, Nat.reduceMul, Int.reduceBEq, Int.reduceBNe, Int.reduceLT, Int.reduceLE, Int.reduceGT, Int.reduceGE, c1]
    have hm : (if (v : Int) < (w : Int) then (v : Int) else (w : Int)) = ((min w v : Nat) : Int) := by split <;> omega
    rw [hm]
    refine loop_intro (fun i : Nat => [(0, .slice (some ⟨b, 0, none⟩) w w), (5, .slice (some ⟨b', 0, none⟩) v v), (7, .slice oa 1 oc), (8, .int .i64 1), (9, .int .i64 (0 : Nat)), (17, .int .i64 (min w v : Nat)), (18, .int .i64 i)])
      (fun i h' => i ≤ min w v ∧ Fr b (b + 1) h1 h' ∧ h'.size = h1.size ∧ Rw h' b (wrow w fun k => if k < i then W k ||| V k else W k)) (fun i => min w v - i) 0 ?_ ?_ ?_
    · simp [Le, find]
    · exact ⟨by omega, .refl _ _ _, rfl, by simpa using hx⟩
    rintro i h2 ⟨hi, f2, z2, r2⟩
    simp -dsimp only [go_sem, ↓reduceIte, reduceCtorEq, Nat.reduceEqDiff, Nat.reduceAdd, Nat.reduceLeDiff, Nat.reduceMul, Int.reduceBEq, Int.reduceBNe, Int.reduceLT, Int.reduceLE, Int.reduceGT, Int.reduceGE]
    refine ⟨fun hlt => ?_, fun hge => ?_⟩
    · have hlt : i < min w v := by omega
      have hy2 : hcell h2 b' i = some (.int .u64 (V i : Int)) := by
        by_cases hb : b' = b
        · subst hb
          obtain ⟨e1, e2⟩ := wrow_inj (hx.inj hy)
          rw [r2.cell, wrow_get (by omega), if_neg (by omega), e2 i (by omega)]
        · rw [(hy.fr f2 (by omega)).cell, wrow_get (by omega)]
      simp -dsimp only [go_sem, ↓reduceIte, reduceCtorEq, Nat.reduceEqDiff, Nat.reduceAdd, Nat.reduceLeDiff, Nat.reduceMul, Int.reduceBEq, Int.reduceBNe, Int.reduceLT, Int.reduceLE, Int.reduceGT, Int.reduceGE]
      refine Chk_intro (by omega) ?_
      simp -dsimp only [go_sem, ↓reduceIte, reduceCtorEq, Nat.reduceEqDiff, Nat.reduceAdd, Nat.reduceLeDiff, Nat.reduceMul, Int.reduceBEq, Int.reduceBNe, Int.reduceLT, Int.reduceLE, Int.reduceGT, Int.reduceGE, r2.cell, wrow_get (show i < w by omega)]
      refine Chk_intro (by omega) ?_
      simp -dsimp only [go_sem, ↓reduceIte, reduceCtorEq, Nat.reduceEqDiff, Nat.reduceAdd, Nat.reduceLeDiff, Nat.reduceMul, Int.reduceBEq, Int.reduceBNe, Int.reduceLT, Int.reduceLE, Int.reduceGT, Int.reduceGE, hy2, Nat.lt_irrefl]
      rw [or64 (hW i) (hV i)]
      refine Chk_intro (by omega) ?_
      simp -dsimp only [go_sem, ↓reduceIte, reduceCtorEq, Nat.reduceEqDiff, Nat.reduceAdd, Nat.reduceLeDiff, Nat.reduceMul, Int.reduceBEq, Int.reduceBNe, Int.reduceLT, Int.reduceLE, Int.reduceGT, Int.reduceGE]
      refine Chk_intro (r2.wr (by simp; omega)) fun h3 s3 => ?_
      have r3 := s3.row r2
      have z3 := s3.size
      rw [cl_int, putAt_one, wrow_upd] at r3
      simp -dsimp only [go_sem, ↓reduceIte, reduceCtorEq, Nat.reduceEqDiff, Nat.reduceAdd, Nat.reduceLeDiff, Nat.reduceMul, Int.reduceBEq, Int.reduceBNe, Int.reduceLT, Int.reduceLE, Int.reduceGT, Int.reduceGE]
      simp -dsimp (disch := omega) only [wrap64]
      refine ⟨i + 1, by omega, by simp [Le, find], by omega, f2.trans s3.fr, by omega, ?_⟩
      rw [wrow_congr fun k hk => ?_]; exact r3
      unfold upd
      dsimp only
      by_cases hki : k = i
      · subst hki; simp
      · rw [if_neg hki]
        by_cases h1 : k < i
        · rw [if_pos h1, if_pos (by omega)]
        · rw [if_neg h1, if_neg (by omega)]
    · have : i = min w v := by omega
      subst this
      simp -dsimp only [go_sem, ↓reduceIte, reduceCtorEq, Nat.reduceEqDiff, Nat.reduceAdd, Nat.reduceLeDiff, Nat.reduceMul, Int.reduceBEq, Int.reduceBNe, Int.reduceLT, Int.reduceLE, Int.reduceGT, Int.reduceGE]
      simp -dsimp (disch := omega) only [wrap64]
      refine ⟨1, by omega, by simp [Le, find], .inr ⟨rfl, f2, z2, ?_⟩⟩
      rw [wrow_congr fun k hk => ?_]; exact r2
      by_cases h1 : k < v
      · rw [if_pos h1, if_pos (by omega)]
      · rw [if_neg h1, if_neg (by omega)]
  · simp -dsimp only [go_sem, ↓reduceIte, reduceCtorEq, Nat.reduceEqDiff, Nat.reduceAdd, Nat.reduceLeDiff, Nat.reduceMul, Int.reduceBEq, Int.reduceBNe, Int.reduceLT, Int.reduceLE, Int.reduceGT, Int.reduceGE]
    refine ⟨fun h => absurd h (by omega), fun _ => ?_⟩
    simp -dsimp only [go_sem, ↓reduceIte, reduceCtorEq, Nat.reduceEqDiff, Nat.reduceAdd, Nat.reduceLeDiff, Nat.reduceMul, Int.reduceBEq, Int.reduceBNe, Int.reduceLT, Int.reduceLE, Int.reduceGT, Int.reduceGE]
    exact ⟨hf, hz, hr⟩
theorem row_set {w p b : Nat} {W : Nat → Nat} {h : Heap} (hx : Rw h b (wrow w W)) (hp : p / 64 < w) (hW : ∀ i, W i < 2 ^ 64) (hw : w ≤ 1024) :
    Con Tryd.prog 82 #[.slice (some ⟨b, 0, none⟩) w w, .int .i64 p] h fun _ h' => Fr b (b + 1) h h' ∧ h'.size = h.size ∧ Rw h' b (wrow w fun j => if j = p / 64 then W (p / 64) ||| 2 ^ (p % 64) else W j) := by
  refine con_rel_row_set ?_
  have e64 : IntKind.u64.wrap (1 * 2 ^ min (p % 64) 64) = ((2 ^ (p % 64) : Nat) : Int) := shl64 (p % 64) (by omega)
  simp -dsimp only [go_sem, ↓reduceIte, reduceCtorEq, Nat.reduceEqDiff, Nat.reduceAdd, Nat.reduceLeDiff, Nat.reduceMul, Int.reduceBEq, Int.reduceBNe, Int.reduceLT, Int.reduceLE, Int.reduceGT, Int.reduceGE]
  rw [tdiv64]
  refine Chk_intro (by decide) ?_
  rw [wrap64 (by omega) (by omega)]
  simp -dsimp only [go_sem, ↓reduceIte, reduceCtorEq, Nat.reduceEqDiff, Nat.reduceAdd, Nat.reduceLeDiff, Nat.reduceMul, Int.reduceBEq, Int.reduceBNe, Int.reduceLT, Int.reduceLE, Int.reduceGT, Int.reduceGE]
  refine Chk_intro (by omega) ?_
  simp -dsimp only [go_sem, ↓reduceIte, reduceCtorEq, Nat.reduceEqDiff, Nat.reduceAdd, Nat.reduceLeDiff, Nat.reduceMul, Int.reduceBEq, Int.reduceBNe, Int.reduceLT, Int.reduceLE, Int.reduceGT, Int.reduceGE, hx.cell, wrow_get hp]
  rw [tmod64]
  refine Chk_intro (by decide) ?_
  simp -dsimp only [go_sem, ↓reduceIte, reduceCtorEq, Nat.reduceEqDiff, Nat.reduceAdd, Nat.reduceLeDiff, Nat.reduceMul, Int.reduceBEq, Int.reduceBNe, Int.reduceLT, Int.reduceLE, Int.reduceGT, Int.reduceGE]
  rw [e64, or64 (hW _) (Nat.pow_lt_pow_right (by decide) (by omega))]
  refine Chk_intro (by omega) ?_
  simp -dsimp only [go_sem, ↓reduceIte, reduceCtorEq, Nat.reduceEqDiff, Nat.reduceAdd, Nat.reduceLeDiff, Nat.reduceMul, Int.reduceBEq, Int.reduceBNe, Int.reduceLT, Int.reduceLE, Int.reduceGT, Int.reduceGE]
  refine Chk_intro (hx.wr (by simp; omega)) fun h1 s1 => ?_
  have r1 := s1.row hx
  rw [cl_int, putAt_one, wrow_set] at r1
  simp -dsimp only [go_sem, ↓reduceIte, reduceCtorEq, Nat.reduceEqDiff, Nat.reduceAdd, Nat.reduceLeDiff, Nat.reduceMul, Int.reduceBEq, Int.reduceBNe, Int.reduceLT, Int.reduceLE, Int.reduceGT, Int.reduceGE]
  exact ⟨s1.fr, s1.size, r1⟩

theorem rel_wide {n : Nat} {M : Nat → Nat → Bool} {p : Value} {lo hi : Nat} {h : Heap} (hr : ProgAt h lo hi p n M) (k : Nat) (hk : k ≤ 256) :
    Con Tryd.prog 88 #[p, .int .i64 k] h fun v h' => Fr 0 0 h h' ∧ ProgAt h' h.size h'.size v (max k n) (inN n M) := by
  refine con_rel_Rel_wide ?_
  obtain ⟨hn, pb, rb, R, W, rfl, t⟩ := hr
  have hm : (if (n : Int) > (k : Int) then (n : Int) else (k : Int)) = ((max k n : Nat) : Int) := by split <;> omega
  have hcl : clampN (max k n : Nat) = max k n := by unfold clampN; omega
  simp -dsimp only [go_sem, ↓reduceIte, reduceCtorEq, Nat.reduceEqDiff, Nat.reduceAdd, Nat.reduceLeDiff, Nat.reduceMul, Int.reduceBEq, Int.reduceBNe, Int.reduceLT, Int.reduceLE, Int.reduceGT, Int.reduceGE, t.ptr.cell]
  rw [hm]
  refine call_of (rel_New _ h) ?_
  rintro v1 h1 ⟨p1, t1⟩
  rw [hcl] at t1
  obtain ⟨hx, pb1, rb1, R1, W1, rfl, t1⟩ := t1
  have t2 := t.fr p1 (by omega)
  simp -dsimp only [go_sem, ↓reduceIte, reduceCtorEq, Nat.reduceEqDiff, Nat.reduceAdd, Nat.reduceLeDiff, Nat.reduceMul, Int.reduceBEq, Int.reduceBNe, Int.reduceLT, Int.reduceLE, Int.reduceGT, Int.reduceGE, t2.ptr.cell]
  have at1 := t1.at_
  refine loop_intro (fun a : Nat => [(5, .pointer (some ⟨pb1, 0, none⟩)), (18, .slice (some ⟨rb, 0, none⟩) n n), (19, .int .i64 n), (20, .int .i64 a)])
    (fun a h' => a ≤ n ∧ Fr 0 0 h h' ∧ h1.size ≤ h'.size ∧ ∃ W, PTab h' h.size h1.size pb1 rb1 (max k n) R1 W fun i j => decide (i < a) && decide (j < n) && M i j) (fun a => n - a) 0 ?_ ?_ ?_
  · simp [Le, find]
  · exact ⟨by omega, p1, by omega, _, t1.congr fun i j _ _ => by simp⟩
  rintro a h2 ⟨ha, p0, y2, W2, t3⟩
  have p0_z := p0.size
  have t4 := t.fr p0 (by omega)
  simp -dsimp only [go_sem, ↓reduceIte, reduceCtorEq, Nat.reduceEqDiff, Nat.reduceAdd, Nat.reduceLeDiff, Nat.reduceMul, Int.reduceBEq, Int.reduceBNe, Int.reduceLT, Int.reduceLE, Int.reduceGT, Int.reduceGE]
  refine ⟨fun hlt => ?_, fun hge => ?_⟩
  · have hlt : a < n := by omega
    simp -dsimp only [go_sem, ↓reduceIte, reduceCtorEq, Nat.reduceEqDiff, Nat.reduceAdd, Nat.reduceLeDiff, Nat.reduceMul, Int.reduceBEq, Int.reduceBNe, Int.reduceLT, Int.reduceLE, Int.reduceGT, Int.reduceGE]
    refine Chk_intro (by omega) ?_
    simp -dsimp only [go_sem, ↓reduceIte, reduceCtorEq, Nat.reduceEqDiff, Nat.reduceAdd, Nat.reduceLeDiff, Nat.reduceMul, Int.reduceBEq, Int.reduceBNe, Int.reduceLT, Int.reduceLE, Int.reduceGT, Int.reduceGE, t4.rowsGet hlt, t3.ptr.cell]
    refine Chk_intro (by omega) ?_
    simp -dsimp only [go_sem, ↓reduceIte, reduceCtorEq, Nat.reduceEqDiff, Nat.reduceAdd, Nat.reduceLeDiff, Nat.reduceMul, Int.reduceBEq, Int.reduceBNe, Int.reduceLT, Int.reduceLE, Int.reduceGT, Int.reduceGE, t3.rowsGet (show a < max k n by omega)]
    intro b5 h5 n5
    have n5_a := n5.at_
    have n5_z := n5.size
    replace p0 := p0.fresh (n5.fr (lo := 0) (hi := 0)) (by omega)
    replace t3 := t3.fr (n5.fr (lo := 0) (hi := 0)) (by omega)
    have r5 := n5.row
    obtain ⟨g1, g2, g3, g4, g5, g6⟩ := t3.row a (by omega)
    obtain ⟨f1, f2, f3, f4, f5, f6⟩ := (t.fr p0 (by omega)).row a hlt
    simp -dsimp only [go_sem, ↓reduceIte, reduceCtorEq, Nat.reduceEqDiff, Nat.reduceAdd, Nat.reduceLeDiff, Nat.reduceMul, Int.reduceBEq, Int.reduceBNe, Int.reduceLT, Int.reduceLE, Int.reduceGT, Int.reduceGE, r5.cell]
    refine call_of (row_join g1 f1 (r5.rd rfl) (fun j => (g6 j).1) (fun j => (f6 j).1) (by unfold nw; omega) (by unfold nw; omega)) ?_
    rintro _ h6 ⟨q6, z6, r6⟩
    have t6 := t3.updRow (by omega) q6 r6 (g6.or f6 (by omega))
    have q6_z := q6.size
    replace p0 := p0.fresh q6 (by omega)
    simp -dsimp only [go_sem, ↓reduceIte, reduceCtorEq, Nat.reduceEqDiff, Nat.reduceAdd, Nat.reduceLeDiff, Nat.reduceMul, Int.reduceBEq, Int.reduceBNe, Int.reduceLT, Int.reduceLE, Int.reduceGT, Int.reduceGE]
    simp -dsimp (disch := omega) only [wrap64]
    refine ⟨a + 1, by omega, by simp [Le, find], by omega, p0, by omega, _, t6.congr fun i j hi hj => ?_⟩
    by_cases hia : i = a
    · subst hia
      rw [upd_same]; simp
    · rw [upd_ne _ _ hia]
      have : (i < a + 1) = (i < a) := by simp; omega
      simp [this]
  · have : a = n := by omega
    subst this
    simp -dsimp only [go_sem, ↓reduceIte, reduceCtorEq, Nat.reduceEqDiff, Nat.reduceAdd, Nat.reduceLeDiff, Nat.reduceMul, Int.reduceBEq, Int.reduceBNe, Int.reduceLT, Int.reduceLE, Int.reduceGT, Int.reduceGE]
    exact ⟨p0, hx, _, _, _, _, rfl, (t3.mono' y2).congr fun i j _ _ => rfl⟩
end Go.Proofs.Tst
