/-
  Contracts of functions that the law reaches: what each returns and what it leaves in memory. Conditions stand in each.
-/
import Derived.Test.YtgedofjefepebaaDoorT4
set_option linter.all false
set_option maxRecDepth 2000
namespace Go.Proofs.Tst
open Go Go.Vc
theorem sortGo_len {n : Nat} {M : Nat → Nat → Bool} : ∀ (k : Nat) (l m : List Nat), sortGo n M k l = some m → m.length = l.length + k
  | 0, l, m, h => by simp only [sortGo, Option.some.injEq] at h; subst h; rfl
  | k + 1, l, m, h => by
    simp only [sortGo] at h
    split at h
    · cases h
    · have := sortGo_len k _ m h; simp at this; omega
theorem sortS_len {n : Nat} {M : Nat → Nat → Bool} {m : List Nat} (h : sortS n M = some m) : m.length = n := by
  have := sortGo_len n [] m h; simpa using this
theorem glueGo_len {n : Nat} {F : Nat → Nat} {S : Nat → Int} {N : Nat → Nat → Bool} : ∀ (k : Nat) (l m : List Nat), l.length ≤ n + 1 → glueGo n F S N k l = some m → m.length ≤ n + 1
  | 0, l, m, hl, h => by simp only [glueGo, Option.some.injEq] at h; subst h; exact hl
  | k + 1, l, m, hl, h => by
    simp only [glueGo] at h
    split at h
    · simp only [Option.some.injEq] at h; subst h; exact hl
    · split at h
      · cases h
      · refine glueGo_len k _ m ?_ h
        split <;> simp <;> omega
theorem glueS_len {n : Nat} {M : Nat → Nat → Bool} {l : List (Int × Int)} {m : List Nat} (h : glueS n M l = .ok m) : m.length ≤ n + 1 := by
  unfold glueS at h
  split at h
  · cases h
  · unfold orCyc at h
    split at h
    · cases h
    · rename_i hg; simp only [Except.ok.injEq] at h; subst h
      exact glueGo_len n [] _ (by simp) hg
/-- A list of numbers, as a list of integers. -/
def toI (l : List Nat) : List Int := l.map fun (x : Nat) => (x : Int)
@[simp] theorem length_toI (l : List Nat) : (toI l).length = l.length := by simp [toI]
theorem natsV_toI (l : List Nat) : natsV l = intsV (toI l) := by simp [natsV, intsV, toI, Function.comp_def]
def listE (o : Except Int (List Nat)) : List Int := match o with | .ok l => toI l | .error _ => []
def codeE (o : Except Int (List Nat)) : Int := match o with | .ok _ => 0 | .error e => e
theorem ResL.tell {h : Heap} {lo : Nat} {v : Value} {o : Except Int (List Nat)} (r : ResL h lo v o) : ∃ s, v = .tuple #[s, .int .i64 (codeE o)] ∧ Holder 1 h s (listE o).length (intsV (listE o)) lo := by
  cases o with
  | error e => exact ⟨_, r, .none _ _ _⟩
  | ok l =>
    obtain ⟨s, h1, h2⟩ := r
    refine ⟨s, h1, ?_⟩
    simp only [listE, length_toI, ← natsV_toI]; exact h2
theorem ListOr.res {h : Heap} {lo : Nat} {v : Value} {o : Option (List Nat)} (r : ListOr h lo 3 v o) : ResL h lo v (orCyc o) := by
  cases o with
  | none => exact r
  | some l => exact r
theorem WithinP.refl (n : Nat) (M : Nat → Nat → Bool) : WithinP n M n M := fun _ ha _ hb hm => ⟨ha, hb, hm⟩

set_option maxHeartbeats 800000 in
theorem c_law2_OrderSorts {n : Int} {xv lv : Value} {x : List (Int × Int)} {l : List Int} {h : Heap} (ht : TabAt h) (hx : Rd 2 h xv x.length (pairsV x)) (hl : Rd 1 h lv l.length (intsV l)) (bx : x.length ≤ 8796093022208) (bl' : l.length ≤ 17592186044416) :
    Con Tryd.prog 3 #[.int .i64 n, xv, lv] h fun v h' => Fr 0 0 h h' ∧ v = .bool true := by
  refine con_law2_OrderSorts ?_
  obtain ⟨xa, xc, rfl⟩ := hx.is
  obtain ⟨la, lc, rfl⟩ := hl.is
  have hcl : clampN n ≤ 256 := by unfold clampN; omega
  have p0 : Fr 0 0 h h := .refl _ _ _
  simp -dsimp only [go_sem, ↓reduceIte, reduceCtorEq, Nat.reduceEqDiff, Nat.reduceAdd, Nat.reduceLeDiff, Nat.reduceMul, Int.reduceBEq, Int.reduceBNe, Int.reduceLT, Int.reduceLE, Int.reduceGT, Int.reduceGE]
  refine call_of (rel_Of n _ x h hx (by omega)) ?_
  rintro r h1 ⟨f1, tr⟩
  have f1_z := f1.size
  replace p0 := p0.fresh f1 (by omega)
  simp -dsimp only [go_sem, ↓reduceIte, reduceCtorEq, Nat.reduceEqDiff, Nat.reduceAdd, Nat.reduceLeDiff, Nat.reduceMul, Int.reduceBEq, Int.reduceBNe, Int.reduceLT, Int.reduceLE, Int.reduceGT, Int.reduceGE]
  refine call_of (ref1_Of n _ x h1 (hx.fr p0) (by omega)) ?_
  rintro d h2 ⟨f2, td⟩
  have f2_z := f2.size
  replace p0 := p0.fresh f2 (by omega)
  replace tr := tr.fr f2 (by omega)
  have hd := td
  have hr := tr
  obtain ⟨-, ds, dR, rfl, hd⟩ := hd
  obtain ⟨da, dc, rfl⟩ := hd.own.is
  obtain ⟨-, pb, rb, rR, rW, rfl, -⟩ := hr
  simp -dsimp only [go_sem, ↓reduceIte, reduceCtorEq, Nat.reduceEqDiff, Nat.reduceAdd, Nat.reduceLeDiff, Nat.reduceMul, Int.reduceBEq, Int.reduceBNe, Int.reduceLT, Int.reduceLE, Int.reduceGT, Int.reduceGE]
  intro b3 h3 n3
  have n3_a := n3.at_
  have n3_z := n3.size
  replace p0 := p0.fresh (n3.fr (lo := 0) (hi := 0)) (by omega)
  replace tr := tr.fr (n3.fr (lo := 0) (hi := 0)) (by omega)
  replace td := td.fr (n3.fr (lo := 0) (hi := 0)) (by omega)
  have r3 := n3.row
  simp -dsimp only [go_sem, ↓reduceIte, reduceCtorEq, Nat.reduceEqDiff, Nat.reduceAdd, Nat.reduceLeDiff, Nat.reduceMul, Int.reduceBEq, Int.reduceBNe, Int.reduceLT, Int.reduceLE, Int.reduceGT, Int.reduceGE, r3.cell]
  refine Chk_intro (r3.wr (by first | (simp; done) | (simp; omega))) fun h4 s4 => ?_
  have s4_z := s4.size
  replace p0 := p0.fresh s4.fr (by omega)
  replace tr := tr.fr s4.fr (by omega)
  replace td := td.fr s4.fr (by omega)
  replace r3 := s4.row r3
  try simp only [cl_int, cl_bool, cl_slice, cl_ptr, putAt_one, List.set_cons_zero, List.set_cons_succ, ivec_set, brow_upd] at r3
  simp -dsimp only [go_sem, ↓reduceIte, reduceCtorEq, Nat.reduceEqDiff, Nat.reduceAdd, Nat.reduceLeDiff, Nat.reduceMul, Int.reduceBEq, Int.reduceBNe, Int.reduceLT, Int.reduceLE, Int.reduceGT, Int.reduceGE] at r3
  simp -dsimp only [go_sem, ↓reduceIte, reduceCtorEq, Nat.reduceEqDiff, Nat.reduceAdd, Nat.reduceLeDiff, Nat.reduceMul, Int.reduceBEq, Int.reduceBNe, Int.reduceLT, Int.reduceLE, Int.reduceGT, Int.reduceGE, r3.cell]
  have om : Holder 1 h4 (.slice none 0 0) 0 [] h4.size := .none _ _ _
  refine om.appendRd (hl.fr p0) (by omega) rfl (by omega) (oc_ints _) (by omega) fun m h5 o_new f5 e_app => ?_
  have f5_z := f5.size
  have o_at := om.at_
  replace p0 := p0.fresh f5 (by omega)
  replace tr := tr.fr f5 (by omega)
  replace td := td.fr f5 (by omega)
  replace r3 := r3.fr f5 (by omega)
  clear o_at e_app
  replace om := o_new
  have om_l := om.top
  rw [Nat.zero_add, List.nil_append] at om
  obtain ⟨ma, mc, rfl⟩ := om.is
  simp -dsimp only [go_sem, ↓reduceIte, reduceCtorEq, Nat.reduceEqDiff, Nat.reduceAdd, Nat.reduceLeDiff, Nat.reduceMul, Int.reduceBEq, Int.reduceBNe, Int.reduceLT, Int.reduceLE, Int.reduceGT, Int.reduceGE, r3.cell]
  refine call_of (order_Linear tr (ht.fr p0 (by omega)) om.rd (by omega)) ?_
  rintro v h6 ⟨f6, rfl⟩
  generalize hb1 : decide (LinP _ _ l) = d1
  have f6_z := f6.size
  replace p0 := p0.fresh f6 (by omega)
  replace tr := tr.fr f6 (by omega)
  replace td := td.fr f6 (by omega)
  replace r3 := r3.fr f6 (by omega)
  replace om := om.fr f6 (by have := om.at_; omega)
  simp -dsimp only [go_sem, ↓reduceIte, reduceCtorEq, Nat.reduceEqDiff, Nat.reduceAdd, Nat.reduceLeDiff, Nat.reduceMul, Int.reduceBEq, Int.reduceBNe, Int.reduceLT, Int.reduceLE, Int.reduceGT, Int.reduceGE, r3.cell]
  refine call_of (ref2_Linear td (hl.fr p0) (by omega)) ?_
  rintro v h7 ⟨f7, rfl⟩
  rw [hb1]
  have f7_z := f7.size
  replace p0 := p0.fresh f7 (by omega)
  replace tr := tr.fr f7 (by omega)
  replace td := td.fr f7 (by omega)
  replace r3 := r3.fr f7 (by omega)
  replace om := om.fr f7 (by have := om.at_; omega)
  simp -dsimp only [go_sem, ↓reduceIte, reduceCtorEq, Nat.reduceEqDiff, Nat.reduceAdd, Nat.reduceLeDiff, Nat.reduceMul, Int.reduceBEq, Int.reduceBNe, Int.reduceLT, Int.reduceLE, Int.reduceGT, Int.reduceGE, r3.cell]
  refine call_of (c_law2_ints om.rd (hl.fr p0) (by omega)) ?_
  rintro v h8 ⟨rfl, rfl⟩
  simp -dsimp only [go_sem, ↓reduceIte, reduceCtorEq, Nat.reduceEqDiff, Nat.reduceAdd, Nat.reduceLeDiff, Nat.reduceMul, Int.reduceBEq, Int.reduceBNe, Int.reduceLT, Int.reduceLE, Int.reduceGT, Int.reduceGE, r3.cell]
  refine call_of (ref2_Sort td) ?_
  rintro v h9 ⟨f9, o9⟩
  obtain ⟨sw, rfl, ow⟩ := o9.res.tell
  have ow_l := ow.top
  have f9_z := f9.size
  replace p0 := p0.fresh f9 (by omega)
  replace tr := tr.fr f9 (by omega)
  replace td := td.fr f9 (by omega)
  replace r3 := r3.fr f9 (by omega)
  replace om := om.fr f9 (by have := om.at_; omega)
  simp -dsimp only [go_sem, ↓reduceIte, reduceCtorEq, Nat.reduceEqDiff, Nat.reduceAdd, Nat.reduceLeDiff, Nat.reduceMul, Int.reduceBEq, Int.reduceBNe, Int.reduceLT, Int.reduceLE, Int.reduceGT, Int.reduceGE, r3.cell]
  refine call_of (order_Sort tr (ht.fr p0 (by omega))) ?_
  rintro v h10 ⟨f10, o10⟩
  obtain ⟨sa, rfl, oa⟩ := o10.res.tell
  have oa_l := oa.top
  have f10_z := f10.size
  replace p0 := p0.fresh f10 (by omega)
  replace tr := tr.fr f10 (by omega)
  replace td := td.fr f10 (by omega)
  replace r3 := r3.fr f10 (by omega)
  replace om := om.fr f10 (by have := om.at_; omega)
  replace ow := ow.fr f10 (by have := ow.at_; omega)
  simp -dsimp only [go_sem, ↓reduceIte, reduceCtorEq, Nat.reduceEqDiff, Nat.reduceAdd, Nat.reduceLeDiff, Nat.reduceMul, Int.reduceBEq, Int.reduceBNe, Int.reduceLT, Int.reduceLE, Int.reduceGT, Int.reduceGE, r3.cell]
  refine call_of (order_Sort tr (ht.fr p0 (by omega))) ?_
  rintro v h11 ⟨f11, o11⟩
  obtain ⟨sb, rfl, ob⟩ := o11.res.tell
  have f11_z := f11.size
  replace p0 := p0.fresh f11 (by omega)
  replace tr := tr.fr f11 (by omega)
  replace td := td.fr f11 (by omega)
  replace r3 := r3.fr f11 (by omega)
  replace om := om.fr f11 (by have := om.at_; omega)
  replace ow := ow.fr f11 (by have := ow.at_; omega)
  replace oa := oa.fr f11 (by have := oa.at_; omega)
  have hlen : (listE (orCyc (sortS (clampN n) (ofM (clampN n) x)))).length ≤ 65536 := by
    cases hs : sortS (clampN n) (ofM (clampN n) x) with
    | none => simp [orCyc, listE]
    | some m => simp only [orCyc, listE, length_toI]; have := sortS_len hs; omega
  generalize listE (orCyc (sortS (clampN n) (ofM (clampN n) x))) = L at ow oa ob hlen
  generalize codeE (orCyc (sortS (clampN n) (ofM (clampN n) x))) = e
  simp -dsimp only [go_sem, ↓reduceIte, reduceCtorEq, Nat.reduceEqDiff, Nat.reduceAdd, Nat.reduceLeDiff, Nat.reduceMul, Int.reduceBEq, Int.reduceBNe, Int.reduceLT, Int.reduceLE, Int.reduceGT, Int.reduceGE, r3.cell]
  refine call_of (c_law2_twice oa ob.rd ow.rd hlen hlen (fun h' f => (ob.fr f (by have := ob.at_; omega)).rd) (fun h' f => (ow.fr f (by have := oa.at_; omega)).rd)) ?_
  rintro v h12 ⟨f12, z12, rfl⟩
  have oa_a := oa.at_
  have f12_z := f12.size
  replace p0 := p0.fresh f12 (by omega)
  replace tr := tr.fr f12 (by omega)
  replace td := td.fr f12 (by omega)
  replace r3 := r3.fr f12 (by omega)
  simp -dsimp only [go_sem, ↓reduceIte, reduceCtorEq, Nat.reduceEqDiff, Nat.reduceAdd, Nat.reduceLeDiff, Nat.reduceMul, Int.reduceBEq, Int.reduceBNe, Int.reduceLT, Int.reduceLE, Int.reduceGT, Int.reduceGE, r3.cell]
  refine call_of (rel_Of n _ x h12 (hx.fr p0) (by omega)) ?_
  rintro r' h13 ⟨f13, tr'⟩
  have f13_z := f13.size
  replace p0 := p0.fresh f13 (by omega)
  replace tr := tr.fr f13 (by omega)
  replace td := td.fr f13 (by omega)
  replace r3 := r3.fr f13 (by omega)
  simp -dsimp only [go_sem, ↓reduceIte, reduceCtorEq, Nat.reduceEqDiff, Nat.reduceAdd, Nat.reduceLeDiff, Nat.reduceMul, Int.reduceBEq, Int.reduceBNe, Int.reduceLT, Int.reduceLE, Int.reduceGT, Int.reduceGE, r3.cell]
  refine call_of (rel_Equal tr tr' (ht.fr p0 (by omega))) ?_
  rintro v h14 ⟨f14, rfl⟩
  have f14_z := f14.size
  replace p0 := p0.fresh f14 (by omega)
  replace tr := tr.fr f14 (by omega)
  replace td := td.fr f14 (by omega)
  replace r3 := r3.fr f14 (by omega)
  simp -dsimp only [go_sem, ↓reduceIte, reduceCtorEq, Nat.reduceEqDiff, Nat.reduceAdd, Nat.reduceLeDiff, Nat.reduceMul, Int.reduceBEq, Int.reduceBNe, Int.reduceLT, Int.reduceLE, Int.reduceGT, Int.reduceGE, WithinP.refl, r3.cell]
  refine call_of (c_law2_lives (ht.fr p0 (by omega))) ?_
  rintro v h15 ⟨f15, rfl⟩
  have f15_z := f15.size
  replace p0 := p0.fresh f15 (by omega)
  replace tr := tr.fr f15 (by omega)
  replace td := td.fr f15 (by omega)
  replace r3 := r3.fr f15 (by omega)
  simp -dsimp only [go_sem, ↓reduceIte, reduceCtorEq, Nat.reduceEqDiff, Nat.reduceAdd, Nat.reduceLeDiff, Nat.reduceMul, Int.reduceBEq, Int.reduceBNe, Int.reduceLT, Int.reduceLE, Int.reduceGT, Int.reduceGE, r3.cell]
  exact p0
end Go.Proofs.Tst
namespace Go.Proofs.Tst
open Go Go.Vc
set_option maxHeartbeats 800000 in
theorem c_law2_OrderGlues {n : Int} {xv lv : Value} {x l : List (Int × Int)} {h : Heap} (ht : TabAt h) (hx : Rd 2 h xv x.length (pairsV x)) (hl : Rd 2 h lv l.length (pairsV l)) (bx : x.length ≤ 8796093022208) (bl' : l.length ≤ 8796093022208) :
    Con Tryd.prog 4 #[.int .i64 n, xv, lv] h fun v h' => Fr 0 0 h h' ∧ v = .bool true := by
  refine con_law2_OrderGlues ?_
  obtain ⟨xa, xc, rfl⟩ := hx.is
  obtain ⟨la, lc, rfl⟩ := hl.is
  have hcl : clampN n ≤ 256 := by unfold clampN; omega
  have p0 : Fr 0 0 h h := .refl _ _ _
  simp -dsimp only [go_sem, ↓reduceIte, reduceCtorEq, Nat.reduceEqDiff, Nat.reduceAdd, Nat.reduceLeDiff, Nat.reduceMul, Int.reduceBEq, Int.reduceBNe, Int.reduceLT, Int.reduceLE, Int.reduceGT, Int.reduceGE]
  refine call_of (rel_Of n _ x h hx (by omega)) ?_
  rintro r h1 ⟨f1, tr⟩
  have f1_z := f1.size
  replace p0 := p0.fresh f1 (by omega)
  simp -dsimp only [go_sem, ↓reduceIte, reduceCtorEq, Nat.reduceEqDiff, Nat.reduceAdd, Nat.reduceLeDiff, Nat.reduceMul, Int.reduceBEq, Int.reduceBNe, Int.reduceLT, Int.reduceLE, Int.reduceGT, Int.reduceGE]
  refine call_of (ref1_Of n _ x h1 (hx.fr p0) (by omega)) ?_
  rintro d h2 ⟨f2, td⟩
  have f2_z := f2.size
  replace p0 := p0.fresh f2 (by omega)
  replace tr := tr.fr f2 (by omega)
  have hd := td
  have hr := tr
  obtain ⟨-, ds, dR, rfl, hd⟩ := hd
  obtain ⟨da, dc, rfl⟩ := hd.own.is
  obtain ⟨-, pb, rb, rR, rW, rfl, -⟩ := hr
  simp -dsimp only [go_sem, ↓reduceIte, reduceCtorEq, Nat.reduceEqDiff, Nat.reduceAdd, Nat.reduceLeDiff, Nat.reduceMul, Int.reduceBEq, Int.reduceBNe, Int.reduceLT, Int.reduceLE, Int.reduceGT, Int.reduceGE]
  intro b3 h3 n3
  have n3_a := n3.at_
  have n3_z := n3.size
  replace p0 := p0.fresh (n3.fr (lo := 0) (hi := 0)) (by omega)
  replace tr := tr.fr (n3.fr (lo := 0) (hi := 0)) (by omega)
  replace td := td.fr (n3.fr (lo := 0) (hi := 0)) (by omega)
  have r3 := n3.row
  simp -dsimp only [go_sem, ↓reduceIte, reduceCtorEq, Nat.reduceEqDiff, Nat.reduceAdd, Nat.reduceLeDiff, Nat.reduceMul, Int.reduceBEq, Int.reduceBNe, Int.reduceLT, Int.reduceLE, Int.reduceGT, Int.reduceGE, r3.cell]
  refine Chk_intro (r3.wr (by first | (simp; done) | (simp; omega))) fun h4 s4 => ?_
  have s4_z := s4.size
  replace p0 := p0.fresh s4.fr (by omega)
  replace tr := tr.fr s4.fr (by omega)
  replace td := td.fr s4.fr (by omega)
  replace r3 := s4.row r3
  try simp only [cl_int, cl_bool, cl_slice, cl_ptr, putAt_one, List.set_cons_zero, List.set_cons_succ, ivec_set, brow_upd] at r3
  simp -dsimp only [go_sem, ↓reduceIte, reduceCtorEq, Nat.reduceEqDiff, Nat.reduceAdd, Nat.reduceLeDiff, Nat.reduceMul, Int.reduceBEq, Int.reduceBNe, Int.reduceLT, Int.reduceLE, Int.reduceGT, Int.reduceGE] at r3
  simp -dsimp only [go_sem, ↓reduceIte, reduceCtorEq, Nat.reduceEqDiff, Nat.reduceAdd, Nat.reduceLeDiff, Nat.reduceMul, Int.reduceBEq, Int.reduceBNe, Int.reduceLT, Int.reduceLE, Int.reduceGT, Int.reduceGE, r3.cell]
  have om : Holder 2 h4 (.slice none 0 0) 0 [] h4.size := .none _ _ _
  refine om.appendRd (hl.fr p0) (by omega) rfl (by omega) (oc_pairs _) (by omega) fun m h5 o_new f5 e_app => ?_
  have f5_z := f5.size
  have o_at := om.at_
  replace p0 := p0.fresh f5 (by omega)
  replace tr := tr.fr f5 (by omega)
  replace td := td.fr f5 (by omega)
  replace r3 := r3.fr f5 (by omega)
  clear o_at e_app
  replace om := o_new
  have om_l := om.top
  rw [Nat.zero_add, List.nil_append] at om
  obtain ⟨ma, mc, rfl⟩ := om.is
  simp -dsimp only [go_sem, ↓reduceIte, reduceCtorEq, Nat.reduceEqDiff, Nat.reduceAdd, Nat.reduceLeDiff, Nat.reduceMul, Int.reduceBEq, Int.reduceBNe, Int.reduceLT, Int.reduceLE, Int.reduceGT, Int.reduceGE, r3.cell]
  refine call_of (ref2_Glue td (hl.fr p0) (by omega)) ?_
  rintro v h9 ⟨f9, o9⟩
  obtain ⟨sw, rfl, ow⟩ := o9.tell
  have ow_l := ow.top
  have f9_z := f9.size
  replace p0 := p0.fresh f9 (by omega)
  replace tr := tr.fr f9 (by omega)
  replace td := td.fr f9 (by omega)
  replace r3 := r3.fr f9 (by omega)
  replace om := om.fr f9 (by have := om.at_; omega)
  simp -dsimp only [go_sem, ↓reduceIte, reduceCtorEq, Nat.reduceEqDiff, Nat.reduceAdd, Nat.reduceLeDiff, Nat.reduceMul, Int.reduceBEq, Int.reduceBNe, Int.reduceLT, Int.reduceLE, Int.reduceGT, Int.reduceGE, r3.cell]
  refine call_of (order_Glue tr (ht.fr p0 (by omega)) om.rd (by omega)) ?_
  rintro v h10 ⟨f10, o10⟩
  obtain ⟨sa, rfl, oa⟩ := o10.tell
  have oa_l := oa.top
  have f10_z := f10.size
  replace p0 := p0.fresh f10 (by omega)
  replace tr := tr.fr f10 (by omega)
  replace td := td.fr f10 (by omega)
  replace r3 := r3.fr f10 (by omega)
  replace om := om.fr f10 (by have := om.at_; omega)
  replace ow := ow.fr f10 (by have := ow.at_; omega)
  simp -dsimp only [go_sem, ↓reduceIte, reduceCtorEq, Nat.reduceEqDiff, Nat.reduceAdd, Nat.reduceLeDiff, Nat.reduceMul, Int.reduceBEq, Int.reduceBNe, Int.reduceLT, Int.reduceLE, Int.reduceGT, Int.reduceGE, r3.cell]
  refine call_of (order_Glue tr (ht.fr p0 (by omega)) om.rd (by omega)) ?_
  rintro v h11 ⟨f11, o11⟩
  obtain ⟨sb, rfl, ob⟩ := o11.tell
  have f11_z := f11.size
  replace p0 := p0.fresh f11 (by omega)
  replace tr := tr.fr f11 (by omega)
  replace td := td.fr f11 (by omega)
  replace r3 := r3.fr f11 (by omega)
  replace om := om.fr f11 (by have := om.at_; omega)
  replace ow := ow.fr f11 (by have := ow.at_; omega)
  replace oa := oa.fr f11 (by have := oa.at_; omega)
  have hlen : (listE (glueS (clampN n) (ofM (clampN n) x) l)).length ≤ 65536 := by
    cases hs : glueS (clampN n) (ofM (clampN n) x) l with
    | error e => simp [listE]
    | ok m => simp only [listE, length_toI]; have := glueS_len hs; omega
  generalize listE (glueS (clampN n) (ofM (clampN n) x) l) = L at ow oa ob hlen
  generalize codeE (glueS (clampN n) (ofM (clampN n) x) l) = e
  simp -dsimp only [go_sem, ↓reduceIte, reduceCtorEq, Nat.reduceEqDiff, Nat.reduceAdd, Nat.reduceLeDiff, Nat.reduceMul, Int.reduceBEq, Int.reduceBNe, Int.reduceLT, Int.reduceLE, Int.reduceGT, Int.reduceGE, r3.cell]
  refine call_of (c_law2_twice oa ob.rd ow.rd hlen hlen (fun h' f => (ob.fr f (by have := ob.at_; omega)).rd) (fun h' f => (ow.fr f (by have := oa.at_; omega)).rd)) ?_
  rintro v h12 ⟨f12, z12, rfl⟩
  have oa_a := oa.at_
  have f12_z := f12.size
  replace p0 := p0.fresh f12 (by omega)
  replace tr := tr.fr f12 (by omega)
  replace td := td.fr f12 (by omega)
  replace r3 := r3.fr f12 (by omega)
  replace om := om.fr f12 (by have := om.at_; omega)
  simp -dsimp only [go_sem, ↓reduceIte, reduceCtorEq, Nat.reduceEqDiff, Nat.reduceAdd, Nat.reduceLeDiff, Nat.reduceMul, Int.reduceBEq, Int.reduceBNe, Int.reduceLT, Int.reduceLE, Int.reduceGT, Int.reduceGE, r3.cell]
  refine call_of (c_law2_same om.rd (hl.fr p0) (by omega)) ?_
  rintro v h16 ⟨rfl, rfl⟩
  simp -dsimp only [go_sem, ↓reduceIte, reduceCtorEq, Nat.reduceEqDiff, Nat.reduceAdd, Nat.reduceLeDiff, Nat.reduceMul, Int.reduceBEq, Int.reduceBNe, Int.reduceLT, Int.reduceLE, Int.reduceGT, Int.reduceGE, r3.cell]
  refine call_of (rel_Of n _ x h16 (hx.fr p0) (by omega)) ?_
  rintro r' h13 ⟨f13, tr'⟩
  have f13_z := f13.size
  replace p0 := p0.fresh f13 (by omega)
  replace tr := tr.fr f13 (by omega)
  replace td := td.fr f13 (by omega)
  replace r3 := r3.fr f13 (by omega)
  replace om := om.fr f13 (by have := om.at_; omega)
  simp -dsimp only [go_sem, ↓reduceIte, reduceCtorEq, Nat.reduceEqDiff, Nat.reduceAdd, Nat.reduceLeDiff, Nat.reduceMul, Int.reduceBEq, Int.reduceBNe, Int.reduceLT, Int.reduceLE, Int.reduceGT, Int.reduceGE, r3.cell]
  refine call_of (rel_Equal tr tr' (ht.fr p0 (by omega))) ?_
  rintro v h14 ⟨f14, rfl⟩
  have f14_z := f14.size
  replace p0 := p0.fresh f14 (by omega)
  replace tr := tr.fr f14 (by omega)
  replace td := td.fr f14 (by omega)
  replace r3 := r3.fr f14 (by omega)
  replace om := om.fr f14 (by have := om.at_; omega)
  simp -dsimp only [go_sem, ↓reduceIte, reduceCtorEq, Nat.reduceEqDiff, Nat.reduceAdd, Nat.reduceLeDiff, Nat.reduceMul, Int.reduceBEq, Int.reduceBNe, Int.reduceLT, Int.reduceLE, Int.reduceGT, Int.reduceGE, WithinP.refl, r3.cell]
  refine call_of (c_law2_lives (ht.fr p0 (by omega))) ?_
  rintro v h15 ⟨f15, rfl⟩
  have f15_z := f15.size
  replace p0 := p0.fresh f15 (by omega)
  replace tr := tr.fr f15 (by omega)
  replace td := td.fr f15 (by omega)
  replace r3 := r3.fr f15 (by omega)
  replace om := om.fr f15 (by have := om.at_; omega)
  simp -dsimp only [go_sem, ↓reduceIte, reduceCtorEq, Nat.reduceEqDiff, Nat.reduceAdd, Nat.reduceLeDiff, Nat.reduceMul, Int.reduceBEq, Int.reduceBNe, Int.reduceLT, Int.reduceLE, Int.reduceGT, Int.reduceGE, r3.cell]
  exact p0
end Go.Proofs.Tst
/-
  From a contract to a row: what a law's call leaves; how arguments are read.
-/
namespace Go.Vc
open Go Go.RowKit Go.ChangeShapes Go.WideShapes Go.ChangeAt Go.Deep

section
variable {H : Type} {enc : TypeId × Value → H} {P : Program}

theorem trodAll_below (hl : laidOutB P = true) {W W' : World} (hb : Below W.heap.size W W') : ∀ {ts : List TypeId} {vs : List Value} {ds : List (DataW H)} {ps : List MemPlace},
    ts.all (fun t => P.readableRec t && decide (t < P.types.size)) = true → DataW.TrodAll enc P W 0 (fun _ => true) true ts vs ds ps → DataW.TrodAll enc P W' 0 (fun b => decide (b < W.heap.size)) true ts vs ds ps
  | [], _, _, _, _, h => by
    obtain ⟨rfl, rfl, rfl⟩ := trodAll_nil h
    exact rfl
  | t :: ts, _, _, _, hr, h => by
    have hlt := h.lt
    obtain ⟨v, vs, d, ds, p, q, rfl, rfl, rfl, h1, h2⟩ := trodAll_cons h
    simp only [List.all_cons, Bool.and_eq_true, decide_eq_true_eq] at hr
    exact ⟨p, q, Below.trod hl hr.1.1 hr.1.2 h1 hb (fun x hx => hlt x (List.mem_append_left _ hx)), trodAll_below hl hb hr.2 h2, rfl⟩

/-- What a law that answers true leaves. -/
theorem law_post {f : Func} {s : ChangeSpec} {W W' : World} {args : Array Value} {ds gs : List (DataW H)} {before : List MemPlace} {tb : TypeId}
    (hl : laidOutB P = true) (hp : f.params.toList.all (fun t => P.readableRec t && decide (t < P.types.size)) = true) (hv : s.vars = [])
    (hrt : f.resultTypes = #[tb]) (htb : P.underlying tb = some .bool) (hW : DataW.Whole enc P f.params.toList s.vars false W args.toList ds gs before)
    (hb : Below W.heap.size W W') (hfn : s.fn H (ds ++ gs) = { results := [.lit (.bool true)], args := ds }) : s.post enc P f false true false false W args (.bool true) W' := by
  have hW0 := hW
  obtain ⟨p, q, hA, hV, rfl, hz, hn⟩ := hW0
  rw [hv] at hV
  obtain ⟨rfl, rfl⟩ := trodVars_none hV
  refine ⟨ds, [], _, [], p, [], hW, ?_, ?_, ?_, ?_, fun h => by cases h⟩
  · rw [hfn, hrt]; exact trodAll_cons_mk (shut_bool htb true) trodAll_mk0
  · rw [hfn]; exact trodAll_below hl hb hp hA
  · rw [hfn, hv]; exact rfl
  · refine World.keptBut_mono (fun p hp => ⟨hp, ?_⟩) (hb.frame (· ∈ p ++ []))
    rw [List.append_nil] at hp
    exact .inr (.inl hp)

/-- The heap's part of a call that keeps all that was. -/
theorem below_of {w w' : World} (hf : Fr 0 0 w.heap w'.heap) (hl : Like none w w') : Below w.heap.size w w' :=
  ⟨hl.os, hl.tape, hl.output, hl.size, fun k hk => hf.old k hk (.inr (Nat.zero_le _))⟩

/-! ### Arguments -/
theorem cell?_plain {w : World} {a : Addr} {v : Value} (h : w.cell? a = some v) : a.spot = none := by
  unfold World.cell? at h
  split at h
  · split at h
    · cases h
    · rename_i hs; simpa using hs
  · cases h
theorem addr_plain {a : Addr} (h : a.spot = none) : a = ⟨a.block, a.off, none⟩ := by cases a; simp_all
theorem cell?_add {w : World} {a : Addr} (ha : a.spot = none) (j : Nat) : w.cell? (a.add j) = hcell w.heap a.block (a.off + j) := by
  rw [← cell?_heap]
  unfold Addr.add
  split
  · rename_i h; subst h; rw [Nat.add_zero, ← addr_plain ha]
  · rw [← ha]
theorem rd_of {w : World} {s n c : Nat} {a : Addr} {xs : List Value} (hs : 0 < s) (hl : xs.length = n * s) (hc : ∀ j, j < n * s → ∃ v, xs[j]? = some v ∧ w.cell? (a.add j) = some v) : Rd s w.heap (.slice (some a) n c) n xs := by
  refine ⟨hl, _, _, rfl, ?_⟩
  rcases Nat.eq_zero_or_pos n with h0 | h0
  · exact .inl h0
  · have hp : 0 < n * s := Nat.mul_pos h0 hs
    obtain ⟨v, _, hv⟩ := hc 0 hp
    have ha : a.spot = none := cell?_plain (w := w) (a := a) (by simpa [Addr.add] using hv)
    refine .inr ⟨a.block, a.off, by rw [← addr_plain ha], fun j x hj => ?_⟩
    obtain ⟨v, h1, h2⟩ := hc j (by have := (List.getElem?_eq_some_iff.1 hj).1; omega)
    rw [hj] at h1; cases h1
    rw [← cell?_add ha]; exact h2
theorem wf64 {n : Int} (h : (Lit.int .i64 n).wf = true) : -9223372036854775808 ≤ n ∧ n ≤ 9223372036854775807 := by
  simp only [Lit.wf, Bool.and_eq_true, decide_eq_true_eq] at h
  have e1 : IntKind.i64.min = -9223372036854775808 := by decide
  have e2 : IntKind.i64.max = 9223372036854775807 := by decide
  rw [e1, e2] at h; exact h

variable {w : World} {base : Nat} {held : Bool}
/-- A list of integers that came in. -/
theorem arg_ints {r : Reach} {b0 : Nat} {t e : TypeId} {v : Value} {d : DataW H} {ps : List MemPlace} (ht : P.underlying t = some (.slice e)) (he : P.underlying e = some (.int .i64)) (hc : P.cellsOf e = 1) (hby : P.bytesOf e = 8)
    (hval : Value.okWide P w r b0 t v) (hd : DataW.Trod enc P w base (fun _ => true) held t v d ps) (hw : ∀ x ∈ d.weights P t, x ≤ reachBytes) :
    ∃ l : List Int, Rd 1 w.heap v l.length (intsV l) ∧ l.length ≤ 17592186044416 ∧ ∀ x ∈ l, -9223372036854775808 ≤ x ∧ x ≤ 9223372036854775807 := by
  obtain ⟨a, n, c, rfl⟩ := okWide_slice ht hval
  obtain ⟨fuel, hf⟩ := hd
  rcases open_ints ht he hc hf with ⟨h1, h2⟩ | ⟨a', len, cap, zs, h1, _, hlc, _, hz, hx, hcell, hwf⟩
  · have h1 : [Value.slice a n c] = [.slice none 0 0] := h1
    cases h1
    exact ⟨[], ⟨rfl, _, _, rfl, .inl rfl⟩, by simp, by simp⟩
  · have h1 : [Value.slice a n c] = [.slice (some a') len cap] := h1
    cases h1
    simp only [if_true] at hz
    simp only [Prod.mk.injEq] at hx
    obtain ⟨rfl, rfl⟩ := hx
    have hwt := hw _ (by simp only [DataW.weights, ht]; exact List.mem_cons_self ..)
    simp only [lits, List.length_map, List.length_take, List.length_drop, hby] at hwt
    unfold reachBytes at hwt
    refine ⟨zs.take n, ?_, ?_, fun x hx => wf64 (hwf x (List.mem_of_mem_take hx))⟩
    · have hl : (zs.take n).length = n := by simp; omega
      rw [hl]
      refine rd_of (by omega) (by simp; omega) fun j hj => ?_
      have hj : j < zs.length := by omega
      refine ⟨.int .i64 (zs.getD j 0), ?_, hcell j hj⟩
      have : (zs.take n)[j]? = some (zs.getD j 0) := by
        rw [List.getElem?_take_of_lt (by omega)]; simp [hj]
      exact intsV_get this
    · simp; omega

/-- A list of pairs that came in. -/
theorem arg_pairs {r : Reach} {b0 : Nat} {t e : TypeId} {f0 f1 : Field} {v : Value} {d : DataW H} {ps : List MemPlace} (ht : P.underlying t = some (.slice e)) (he : P.underlying e = some (.struct #[f0, f1])) (ce : P.cellsOf e = 2) (hby : P.bytesOf e = 16)
    (o0 : f0.offset = 0) (o1 : f1.offset = 1) (c0 : P.cellsOf f0.type = 1) (c1 : P.cellsOf f1.type = 1) (u0 : P.underlying f0.type = some (.int .i64)) (u1 : P.underlying f1.type = some (.int .i64))
    (hval : Value.okWide P w r b0 t v) (hd : DataW.Trod enc P w base (fun _ => true) held t v d ps) (hw : ∀ x ∈ d.weights P t, x ≤ reachBytes) :
    ∃ l : List (Int × Int), Rd 2 w.heap v l.length (pairsV l) ∧ l.length ≤ 8796093022208 ∧ ∀ x ∈ l, (-9223372036854775808 ≤ x.1 ∧ x.1 ≤ 9223372036854775807) ∧ -9223372036854775808 ≤ x.2 ∧ x.2 ≤ 9223372036854775807 := by
  obtain ⟨a, n, c, rfl⟩ := okWide_slice ht hval
  obtain ⟨fuel, hf⟩ := hd
  rcases open_slice_pairs ht he ce o0 o1 c0 c1 hf with ⟨h1, h2⟩ | ⟨a', len, cap, m, k, V0, V1, D0, D1, P0, P1, h1, _, hlc, _, hm, hx, hcell⟩
  · have h1 : [Value.slice a n c] = [.slice none 0 0] := h1
    cases h1
    exact ⟨[], ⟨rfl, _, _, rfl, .inl rfl⟩, by simp, by simp⟩
  · have h1 : [Value.slice a n c] = [.slice (some a') len cap] := h1
    cases h1
    simp only [if_true] at hm
    subst hm
    simp only [Prod.mk.injEq] at hx
    obtain ⟨rfl, rfl⟩ := hx
    have hwt := hw _ (by simp only [DataW.weights, ht]; exact List.mem_cons_self ..)
    simp only [List.length_map, List.length_range, hby] at hwt
    unfold reachBytes at hwt
    obtain ⟨Z, hZ⟩ := choose_lt (α := Int × Int) (n := m) (p := fun i z => V0 i = .int .i64 z.1 ∧ V1 i = .int .i64 z.2 ∧ (Lit.int .i64 z.1).wf = true ∧ (Lit.int .i64 z.2).wf = true) (fun i hi => by
      obtain ⟨_, _, g1, g2⟩ := hcell i hi
      obtain ⟨x, hx, _, hxw⟩ := DataW.trod_int u0 g1
      obtain ⟨y, hy, _, hyw⟩ := DataW.trod_int u1 g2
      exact ⟨(x, y), by simpa using hx, by simpa using hy, hxw, hyw⟩)
    have hl : ((List.range n).map Z).length = n := by simp
    refine ⟨(List.range n).map Z, ?_, by rw [hl]; omega, fun x hx => ?_⟩
    · rw [hl]
      refine rd_of (by omega) (by simp) fun j hj => ?_
      obtain ⟨i, hij⟩ : ∃ i, j = i * 2 ∨ j = i * 2 + 1 := ⟨j / 2, by omega⟩
      have hi : i < n := by omega
      have hg : ((List.range n).map Z)[i]? = some (Z i) := by simp [hi]
      obtain ⟨g1, g2⟩ := pairsV_get _ _ _ hg
      obtain ⟨h3, h4, _, _⟩ := hcell i (by omega)
      obtain ⟨h5, h6, _, _⟩ := hZ i (by omega)
      rcases hij with rfl | rfl
      · exact ⟨_, g1, by rw [h3, h5]⟩
      · exact ⟨_, g2, by rw [h4, h6]⟩
    · obtain ⟨i, hi, rfl⟩ := List.mem_map.1 hx
      obtain ⟨_, _, h7, h8⟩ := hZ i (by have := List.mem_range.1 hi; omega)
      exact ⟨wf64 h7, wf64 h8⟩
end
end Go.Vc
