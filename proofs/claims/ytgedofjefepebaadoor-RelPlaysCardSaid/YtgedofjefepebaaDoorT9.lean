/-
  Contracts of functions that the law reaches: what each returns and what it leaves in memory. Conditions stand in each.
-/
import Derived.Test.YtgedofjefepebaaDoorT8
set_option linter.all false
set_option maxRecDepth 2000
/-
  A step of a play: what it makes, by the program and by the document.
-/
namespace Go.Proofs.Tst
open Go Go.Vc
theorem c_law1_like {n : Nat} {M : Nat → Nat → Bool} {pv rv : Value} {lo hi lo' hi' : Nat} {h : Heap} (ht : TabAt h) (hr : ProgAt h lo hi pv n M) (hs : RefAt h lo' hi' rv n M) :
    Con Tryd.prog 68 #[pv, rv] h fun v h' => Fr 0 0 h h' ∧ v = .bool true := by
  refine con_law1_like ?_
  have hs0 := hs
  obtain ⟨hn, s, R, rfl, t⟩ := hs
  obtain ⟨sa, sc, rfl⟩ := t.own.is
  obtain ⟨pb, rfl⟩ := progPtr hr
  have p0 : Fr 0 0 h h := .refl _ _ _
  simp -dsimp only [go_sem, ↓reduceIte, reduceCtorEq, Nat.reduceEqDiff, Nat.reduceAdd, Nat.reduceLeDiff, Nat.reduceMul, Int.reduceBEq, Int.reduceBNe, Int.reduceLT, Int.reduceLE, Int.reduceGT, Int.reduceGE]
  intro b1 h1 n1
  have n1_a := n1.at_
  have n1_z := n1.size
  replace p0 := p0.fresh (n1.fr (lo := 0) (hi := 0)) (by omega)
  have r1 := n1.row
  simp -dsimp only [go_sem, ↓reduceIte, reduceCtorEq, Nat.reduceEqDiff, Nat.reduceAdd, Nat.reduceLeDiff, Nat.reduceMul, Int.reduceBEq, Int.reduceBNe, Int.reduceLT, Int.reduceLE, Int.reduceGT, Int.reduceGE, r1.cell]
  refine call_of (rel_Len (hr.fr p0 (by omega))) ?_
  rintro v h2 ⟨hh, rfl⟩
  obtain rfl : h1 = h2 := hh.symm
  simp -dsimp only [go_sem, ↓reduceIte, reduceCtorEq, Nat.reduceEqDiff, Nat.reduceAdd, Nat.reduceLeDiff, Nat.reduceMul, Int.reduceBEq, Int.reduceBNe, Int.reduceLT, Int.reduceLE, Int.reduceGT, Int.reduceGE, beq_self_eq_true, r1.cell]
  refine call_of (rel_Pairs (hr.fr p0 (by omega)) (ht.fr p0 (by omega))) ?_
  rintro v h3 ⟨f3, o3⟩
  have f3_z := f3.size
  replace p0 := p0.fresh f3 (by omega)
  replace r1 := r1.fr f3 (by omega)
  simp -dsimp only [go_sem, ↓reduceIte, reduceCtorEq, Nat.reduceEqDiff, Nat.reduceAdd, Nat.reduceLeDiff, Nat.reduceMul, Int.reduceBEq, Int.reduceBNe, Int.reduceLT, Int.reduceLE, Int.reduceGT, Int.reduceGE, beq_self_eq_true, r1.cell]
  refine call_of (ref1_Pairs (hs0.fr p0 (by omega))) ?_
  rintro v h4 ⟨f4, o4⟩
  have f4_z := f4.size
  replace p0 := p0.fresh f4 (by omega)
  replace r1 := r1.fr f4 (by omega)
  replace o3 := o3.fr f4 (by have := o3.at_; omega)
  have hpl : (pairsOf n M).length ≤ 4611686018427387904 := by
    have g4 : (pairsOf n M).length ≤ n * n := length_pairsTo_le n _ n
    have g3 : n * n ≤ 256 * 256 := Nat.mul_le_mul (by omega) (by omega)
    omega
  simp -dsimp only [go_sem, ↓reduceIte, reduceCtorEq, Nat.reduceEqDiff, Nat.reduceAdd, Nat.reduceLeDiff, Nat.reduceMul, Int.reduceBEq, Int.reduceBNe, Int.reduceLT, Int.reduceLE, Int.reduceGT, Int.reduceGE, beq_self_eq_true, r1.cell]
  refine call_of (c_law1_pairs o3.rd o4.rd hpl) ?_
  rintro v h5 ⟨hh, rfl⟩
  obtain rfl : h4 = h5 := hh.symm
  rw [decide_eq_true rfl]
  simp -dsimp only [go_sem, ↓reduceIte, reduceCtorEq, Nat.reduceEqDiff, Nat.reduceAdd, Nat.reduceLeDiff, Nat.reduceMul, Int.reduceBEq, Int.reduceBNe, Int.reduceLT, Int.reduceLE, Int.reduceGT, Int.reduceGE, beq_self_eq_true, r1.cell]
  exact p0
structure Stp where
  (op s t to a b : Int)
  inn : Bool
  (pv rv cv : Value)
  ps : List (Int × Int)
  (rs cs : List Bool)
def Stp.cells (x : Stp) : List Value := [.int .i64 x.op, .int .i64 x.s, .int .i64 x.t, .int .i64 x.to, .int .i64 x.a, .int .i64 x.b, .bool x.inn, x.pv, x.rv, x.cv]
instance : Inhabited Stp := ⟨⟨0, 0, 0, 0, 0, 0, false, .slice none 0 0, .slice none 0 0, .slice none 0 0, [], [], []⟩⟩
structure Stp.At (h : Heap) (x : Stp) : Prop where
  p : Rd 2 h x.pv x.ps.length (pairsV x.ps)
  r : Rd 1 h x.rv x.rs.length (boolsV x.rs)
  c : Rd 1 h x.cv x.cs.length (boolsV x.cs)
  bp : x.ps.length ≤ 8796093022208
  br : x.rs.length ≤ 4611686018427387904
  bc : x.cs.length ≤ 4611686018427387904
def MadeQ (h h' : Heap) (clo chi : Nat) (v : Value) : Prop :=
  (∃ pb w n M plo phi dlo dhi, v = .tuple #[.pointer (some ⟨pb, 0, none⟩), w, .bool true] ∧ ProgAt h' plo phi (.pointer (some ⟨pb, 0, none⟩)) n M ∧ RefAt h' dlo dhi w n M ∧ h.size ≤ plo ∧ phi ≤ h'.size ∧ (dlo = clo ∧ dhi = chi ∨ phi ≤ dlo ∧ dhi ≤ h'.size)) ∨
  ∃ a c, v = .tuple #[.pointer none, .agg #[.int .i64 ((0 : Nat) : Int), .slice a 0 c], .bool false]
theorem maxN2' {v w : Value} {n m : Nat} {A B : Nat → Nat → Bool} : maxN [(v, n, A), (w, m, B)] = max n m := by simp [maxN]
theorem any2' {v w : Value} {n m : Nat} {A B : Nat → Nat → Bool} : anyM [(v, n, A), (w, m, B)] = unionM n A m B := by funext i j; simp [anyM, unionM]
theorem maxN5 {v w u v' w' : Value} {n m k : Nat} {A B C : Nat → Nat → Bool} : maxN [(v, n, A), (w, m, B), (v', n, A), (u, k, C), (w', m, B)] = max (max n m) k := by simp [maxN]; omega
theorem inN_union {n m : Nat} {A B : Nat → Nat → Bool} {i j : Nat} : inN (max n m) (unionM n A m B) i j = unionM n A m B i j := by
  by_cases h : i < max n m ∧ j < max n m
  · exact inN_in h.1 h.2
  · rw [inN_out h]
    unfold unionM
    rw [inN_out (by omega), inN_out (by omega)]; rfl
theorem any5 {v w u v' w' : Value} {n m k : Nat} {A B C : Nat → Nat → Bool} : anyM [(v, n, A), (w, m, B), (v', n, A), (u, k, C), (w', m, B)] = unionM (max n m) (unionM n A m B) k C := by
  funext i j
  rw [show unionM (max n m) (unionM n A m B) k C i j = (inN (max n m) (unionM n A m B) i j || inN k C i j) from rfl, inN_union]
  simp only [anyM, unionM, List.any_cons, List.any_nil, Bool.or_false]
  cases inN n A i j <;> cases inN m B i j <;> cases inN k C i j <;> rfl
theorem rels5 {h : Heap} {v w u : Value} {n m k : Nat} {A B C : Nat → Nat → Bool} {lo hi lo' hi' lo2 hi2 : Nat} (t : ProgAt h lo hi v n A) (s : ProgAt h lo' hi' w m B) (q : ProgAt h lo2 hi2 u k C) : RelsAt h [(v, n, A), (w, m, B), (v, n, A), (u, k, C), (w, m, B)] := fun x hx => by
  simp only [List.mem_cons, List.not_mem_nil, or_false] at hx
  rcases hx with rfl | rfl | rfl | rfl | rfl
  · exact ⟨_, _, t⟩
  · exact ⟨_, _, s⟩
  · exact ⟨_, _, t⟩
  · exact ⟨_, _, q⟩
  · exact ⟨_, _, s⟩
end Go.Proofs.Tst
namespace Go.Vc
open Go
theorem Holder.putN {s : Nat} {h h' : Heap} {b n c j : Nat} {xs us : List Value} {lo : Nat} (w : Holder s h (.slice (some ⟨b, 0, Option.none⟩) n c) n xs lo) (hn : 0 < n) (st : Sto h h' b j us) : ∃ xs', Holder s h' (.slice (some ⟨b, 0, Option.none⟩) n c) n xs' lo := by
  have hl := w.1
  obtain ⟨b', c', rest, h1, h2, h3, h4⟩ := w.blk hn
  cases h1
  have hr := st.row h2
  have hlen : (putAt (xs ++ rest) j us).length = xs.length + rest.length := by rw [length_putAt, List.length_append]
  refine ⟨(putAt (xs ++ rest) j us).take (n * s), by rw [List.length_take]; omega, .inr ⟨b, c, (putAt (xs ++ rest) j us).drop (n * s), rfl, ?_, by rw [List.length_drop]; omega, h4⟩⟩
  rw [List.take_append_drop]; exact hr
end Go.Vc
namespace Go.Proofs.Tst
open Go Go.Vc
set_option maxHeartbeats 4000000 in
theorem c_law1_made {n m : Nat} {A B : Nat → Nat → Bool} {av bv cv dv : Value} {alo ahi blo bhi clo chi dlo dhi : Nat} {x : Stp} {h : Heap} (ht : TabAt h) (hx : x.At h) (ta : ProgAt h alo ahi av n A) (tb : ProgAt h blo bhi bv m B) (tc : RefAt h clo chi cv n A) (td : RefAt h dlo dhi dv m B)
    (ka : ahi ≤ h.size) (kb : bhi ≤ h.size) (kc : chi ≤ h.size) (kd : dhi ≤ h.size) :
    Con Tryd.prog 66 #[.agg x.cells.toArray, av, bv, cv, dv] h fun v h' => Fr 0 0 h h' ∧ MadeQ h h' clo chi v := by
  refine con_law1_made ?_
  obtain ⟨hx1, hx2, hx3, bp, br, bc⟩ := hx
  obtain ⟨xpa, xpc, hxp⟩ := hx1.is
  obtain ⟨pa, rfl⟩ := progPtr ta
  obtain ⟨pb, rfl⟩ := progPtr tb
  obtain ⟨-, cs, cR, rfl, tc2⟩ := id tc
  obtain ⟨ca, cc, rfl⟩ := tc2.own.is
  obtain ⟨-, ds, dR, rfl, td2⟩ := id td
  obtain ⟨da, dc, rfl⟩ := td2.own.is
  have p0 : Fr 0 0 h h := .refl _ _ _
  simp -dsimp only [go_sem, ↓reduceIte, reduceCtorEq, Nat.reduceEqDiff, Nat.reduceAdd, Nat.reduceLeDiff, Nat.reduceMul, Int.reduceBEq, Int.reduceBNe, Int.reduceLT, Int.reduceLE, Int.reduceGT, Int.reduceGE]
  intro b5 h1 n5
  have n5_a := n5.at_
  have n5_z := n5.size
  replace p0 := p0.fresh (n5.fr (lo := 0) (hi := 0)) (by omega)
  replace ta := ta.fr (n5.fr (lo := 0) (hi := 0)) (by omega)
  replace tb := tb.fr (n5.fr (lo := 0) (hi := 0)) (by omega)
  replace tc := tc.fr (n5.fr (lo := 0) (hi := 0)) (by omega)
  replace td := td.fr (n5.fr (lo := 0) (hi := 0)) (by omega)
  have r5 := n5.row
  rw [Stp.cells] at r5
  rw [hxp] at r5 hx1
  simp -dsimp only [go_sem, ↓reduceIte, reduceCtorEq, Nat.reduceEqDiff, Nat.reduceAdd, Nat.reduceLeDiff, Nat.reduceMul, Int.reduceBEq, Int.reduceBNe, Int.reduceLT, Int.reduceLE, Int.reduceGT, Int.reduceGE, r5.cell]
  intro b8 h2 n8
  have n8_a := n8.at_
  have n8_z := n8.size
  replace p0 := p0.fresh (n8.fr (lo := 0) (hi := 0)) (by omega)
  replace ta := ta.fr (n8.fr (lo := 0) (hi := 0)) (by omega)
  replace tb := tb.fr (n8.fr (lo := 0) (hi := 0)) (by omega)
  replace tc := tc.fr (n8.fr (lo := 0) (hi := 0)) (by omega)
  replace td := td.fr (n8.fr (lo := 0) (hi := 0)) (by omega)
  replace r5 := r5.fr (n8.fr (lo := 0) (hi := 0)) (by omega)
  have r8 := n8.row
  simp -dsimp only [go_sem, ↓reduceIte, reduceCtorEq, Nat.reduceEqDiff, Nat.reduceAdd, Nat.reduceLeDiff, Nat.reduceMul, Int.reduceBEq, Int.reduceBNe, Int.reduceLT, Int.reduceLE, Int.reduceGT, Int.reduceGE, r5.cell, r8.cell]
  intro b9 h3 n9
  have n9_a := n9.at_
  have n9_z := n9.size
  replace p0 := p0.fresh (n9.fr (lo := 0) (hi := 0)) (by omega)
  replace ta := ta.fr (n9.fr (lo := 0) (hi := 0)) (by omega)
  replace tb := tb.fr (n9.fr (lo := 0) (hi := 0)) (by omega)
  replace tc := tc.fr (n9.fr (lo := 0) (hi := 0)) (by omega)
  replace td := td.fr (n9.fr (lo := 0) (hi := 0)) (by omega)
  replace r5 := r5.fr (n9.fr (lo := 0) (hi := 0)) (by omega)
  replace r8 := r8.fr (n9.fr (lo := 0) (hi := 0)) (by omega)
  have r9 := n9.row
  simp -dsimp only [go_sem, ↓reduceIte, reduceCtorEq, Nat.reduceEqDiff, Nat.reduceAdd, Nat.reduceLeDiff, Nat.reduceMul, Int.reduceBEq, Int.reduceBNe, Int.reduceLT, Int.reduceLE, Int.reduceGT, Int.reduceGE, r5.cell, r8.cell, r9.cell]
  intro b11 h4 n11
  have n11_a := n11.at_
  have n11_z := n11.size
  replace p0 := p0.fresh (n11.fr (lo := 0) (hi := 0)) (by omega)
  replace ta := ta.fr (n11.fr (lo := 0) (hi := 0)) (by omega)
  replace tb := tb.fr (n11.fr (lo := 0) (hi := 0)) (by omega)
  replace tc := tc.fr (n11.fr (lo := 0) (hi := 0)) (by omega)
  replace td := td.fr (n11.fr (lo := 0) (hi := 0)) (by omega)
  replace r5 := r5.fr (n11.fr (lo := 0) (hi := 0)) (by omega)
  replace r8 := r8.fr (n11.fr (lo := 0) (hi := 0)) (by omega)
  replace r9 := r9.fr (n11.fr (lo := 0) (hi := 0)) (by omega)
  have r11 := n11.row
  simp -dsimp only [go_sem, ↓reduceIte, reduceCtorEq, Nat.reduceEqDiff, Nat.reduceAdd, Nat.reduceLeDiff, Nat.reduceMul, Int.reduceBEq, Int.reduceBNe, Int.reduceLT, Int.reduceLE, Int.reduceGT, Int.reduceGE, r5.cell, r8.cell, r9.cell, r11.cell]
  refine ⟨fun hk => ?_, fun hk => ?_⟩
  · skip
    have p0_z := p0.size
    have r5_l := r5.lt
    have r8_l := r8.lt
    have r9_l := r9.lt
    have r11_l := r11.lt
    simp -dsimp only [go_sem, ↓reduceIte, reduceCtorEq, Nat.reduceEqDiff, Nat.reduceAdd, Nat.reduceLeDiff, Nat.reduceMul, Int.reduceBEq, Int.reduceBNe, Int.reduceLT, Int.reduceLE, Int.reduceGT, Int.reduceGE, r5.cell, r8.cell, r9.cell, r11.cell]
    refine call_of (rel_New x.a _) ?_
    rintro v hP ⟨fP, tP⟩
    obtain ⟨qP, rfl⟩ := progPtr tP
    have fP_z := fP.size
    replace p0 := p0.fresh fP (by omega)
    replace r5 := r5.fr fP (by omega)
    replace r8 := r8.fr fP (by omega)
    replace r9 := r9.fr fP (by omega)
    replace r11 := r11.fr fP (by omega)
    replace ta := ta.fr fP (by omega)
    replace tb := tb.fr fP (by omega)
    replace tc := tc.fr fP (by omega)
    replace td := td.fr fP (by omega)
    simp -dsimp only [go_sem, ↓reduceIte, reduceCtorEq, Nat.reduceEqDiff, Nat.reduceAdd, Nat.reduceLeDiff, Nat.reduceMul, Int.reduceBEq, Int.reduceBNe, Int.reduceLT, Int.reduceLE, Int.reduceGT, Int.reduceGE, r5.cell, r8.cell, r9.cell, r11.cell]
    refine call_of (ref1_New x.a _) ?_
    rintro v hD ⟨fD, tD⟩
    have fD_z := fD.size
    replace p0 := p0.fresh fD (by omega)
    replace r5 := r5.fr fD (by omega)
    replace r8 := r8.fr fD (by omega)
    replace r9 := r9.fr fD (by omega)
    replace r11 := r11.fr fD (by omega)
    replace ta := ta.fr fD (by omega)
    replace tb := tb.fr fD (by omega)
    replace tc := tc.fr fD (by omega)
    replace td := td.fr fD (by omega)
    replace tP := tP.fr fD (by omega)
    have tD2 := tD
    obtain ⟨-, zs, zR, rfl, tz⟩ := tD2
    obtain ⟨za, zc, rfl⟩ := tz.own.is
    simp -dsimp only [go_sem, ↓reduceIte, reduceCtorEq, Nat.reduceEqDiff, Nat.reduceAdd, Nat.reduceLeDiff, Nat.reduceMul, Int.reduceBEq, Int.reduceBNe, Int.reduceLT, Int.reduceLE, Int.reduceGT, Int.reduceGE, r5.cell, r8.cell, r9.cell, r11.cell]
    refine Chk_intro (r11.wr (by first | (simp; done) | (simp; omega))) fun hE sE => ?_
    have sE_z := sE.size
    replace p0 := p0.fresh sE.fr (by omega)
    replace r5 := r5.fr sE.fr (by omega)
    replace r8 := r8.fr sE.fr (by omega)
    replace r9 := r9.fr sE.fr (by omega)
    replace ta := ta.fr sE.fr (by omega)
    replace tb := tb.fr sE.fr (by omega)
    replace tc := tc.fr sE.fr (by omega)
    replace td := td.fr sE.fr (by omega)
    replace tP := tP.fr sE.fr (by omega)
    replace tD := tD.fr sE.fr (by omega)
    replace r11 := sE.row r11
    try simp only [cl_int, cl_bool, cl_slice, cl_ptr, putAt_one, List.set_cons_zero, List.set_cons_succ, ivec_set, brow_upd] at r11
    try simp -dsimp only [go_sem, ↓reduceIte, reduceCtorEq, Nat.reduceEqDiff, Nat.reduceAdd, Nat.reduceLeDiff, Nat.reduceMul, Int.reduceBEq, Int.reduceBNe, Int.reduceLT, Int.reduceLE, Int.reduceGT, Int.reduceGE] at r11
    simp -dsimp only [go_sem, ↓reduceIte, reduceCtorEq, Nat.reduceEqDiff, Nat.reduceAdd, Nat.reduceLeDiff, Nat.reduceMul, Int.reduceBEq, Int.reduceBNe, Int.reduceLT, Int.reduceLE, Int.reduceGT, Int.reduceGE, r5.cell, r8.cell, r9.cell, r11.cell]
    exact ⟨p0, .inl ⟨_, _, _, _, _, _, _, _, rfl, tP, tD, by omega, by omega, .inr ⟨by omega, by omega⟩⟩⟩
  simp -dsimp only [go_sem, ↓reduceIte, reduceCtorEq, Nat.reduceEqDiff, Nat.reduceAdd, Nat.reduceLeDiff, Nat.reduceMul, Int.reduceBEq, Int.reduceBNe, Int.reduceLT, Int.reduceLE, Int.reduceGT, Int.reduceGE, r5.cell, r8.cell, r9.cell, r11.cell]
  refine ⟨fun hk => ?_, fun hk => ?_⟩
  · skip
    have p0_z := p0.size
    have r5_l := r5.lt
    have r8_l := r8.lt
    have r9_l := r9.lt
    have r11_l := r11.lt
    simp -dsimp only [go_sem, ↓reduceIte, reduceCtorEq, Nat.reduceEqDiff, Nat.reduceAdd, Nat.reduceLeDiff, Nat.reduceMul, Int.reduceBEq, Int.reduceBNe, Int.reduceLT, Int.reduceLE, Int.reduceGT, Int.reduceGE, r5.cell, r8.cell, r9.cell, r11.cell]
    have om : Holder 2 h4 (.slice none 0 0) 0 [] h4.size := .none _ _ _
    refine om.appendRd ((hx1.fr p0)) (by omega) rfl (by omega) (oc_pairs _) (by omega) fun m h5 o_new f5 e_app => ?_
    have f5_z := f5.size
    have o_at := om.at_
    replace p0 := p0.fresh f5 (by omega)
    replace r5 := r5.fr f5 (by omega)
    replace r8 := r8.fr f5 (by omega)
    replace r9 := r9.fr f5 (by omega)
    replace r11 := r11.fr f5 (by omega)
    replace ta := ta.fr f5 (by omega)
    replace tb := tb.fr f5 (by omega)
    replace tc := tc.fr f5 (by omega)
    replace td := td.fr f5 (by omega)
    clear o_at e_app
    replace om := o_new
    have om_l := om.top
    rw [Nat.zero_add, List.nil_append] at om
    obtain ⟨ma, mc, rfl⟩ := om.is
    simp -dsimp only [go_sem, ↓reduceIte, reduceCtorEq, Nat.reduceEqDiff, Nat.reduceAdd, Nat.reduceLeDiff, Nat.reduceMul, Int.reduceBEq, Int.reduceBNe, Int.reduceLT, Int.reduceLE, Int.reduceGT, Int.reduceGE, r5.cell, r8.cell, r9.cell, r11.cell]
    refine call_of (rel_Of x.a _ x.ps _ om.rd (by omega)) ?_
    rintro v hP ⟨fP, tP⟩
    obtain ⟨qP, rfl⟩ := progPtr tP
    have fP_z := fP.size
    replace p0 := p0.fresh fP (by omega)
    replace r5 := r5.fr fP (by omega)
    replace r8 := r8.fr fP (by omega)
    replace r9 := r9.fr fP (by omega)
    replace r11 := r11.fr fP (by omega)
    replace ta := ta.fr fP (by omega)
    replace tb := tb.fr fP (by omega)
    replace tc := tc.fr fP (by omega)
    replace td := td.fr fP (by omega)
    replace om := om.fr fP (by have := om.at_; omega)
    have om_b := om.at_
    have k5 : h4.size ≤ h5.size ∧ h5.size ≤ hP.size := by omega
    simp -dsimp only [go_sem, ↓reduceIte, reduceCtorEq, Nat.reduceEqDiff, Nat.reduceAdd, Nat.reduceLeDiff, Nat.reduceMul, Int.reduceBEq, Int.reduceBNe, Int.reduceLT, Int.reduceLE, Int.reduceGT, Int.reduceGE, r5.cell, r8.cell, r9.cell, r11.cell]
    refine loop_intro (fun i : Nat => [(5, .pointer (some ⟨b5, 0, none⟩)), (11, .pointer (some ⟨b11, 0, none⟩)), (13, .slice ma x.ps.length mc), (14, .pointer (some ⟨qP, 0, none⟩)), (15, .int .i64 i)])
      (fun i h' => i ≤ x.ps.length ∧ Fr (bl (.slice ma x.ps.length mc)) (bh (.slice ma x.ps.length mc)) hP h' ∧ h'.size = hP.size ∧ ∃ xs, Holder 2 h' (.slice ma x.ps.length mc) x.ps.length xs h4.size) (fun i => x.ps.length - i) 0 ?_ ?_ ?_
    · simp [Le, find]
    · exact ⟨by omega, .refl _ _ _, rfl, _, om⟩
    rintro i hQ ⟨hi, fQ, zQ, xs, oQ⟩
    simp -dsimp only [go_sem, ↓reduceIte, reduceCtorEq, Nat.reduceEqDiff, Nat.reduceAdd, Nat.reduceLeDiff, Nat.reduceMul, Int.reduceBEq, Int.reduceBNe, Int.reduceLT, Int.reduceLE, Int.reduceGT, Int.reduceGE, r5.cell, r8.cell, r9.cell, r11.cell]
    refine ⟨fun hlt => ?_, fun hge => ?_⟩
    · have hlt : i < x.ps.length := by omega
      obtain ⟨bb, cc, rest, hv, hrow, hcap, hlo⟩ := oQ.blk (by omega)
      cases hv
      have hxl := oQ.1
      simp -dsimp only [go_sem, ↓reduceIte, reduceCtorEq, Nat.reduceEqDiff, Nat.reduceAdd, Nat.reduceLeDiff, Nat.reduceMul, Int.reduceBEq, Int.reduceBNe, Int.reduceLT, Int.reduceLE, Int.reduceGT, Int.reduceGE, r5.cell, r8.cell, r9.cell, r11.cell]
      refine Chk_intro (by omega) ?_
      simp -dsimp only [go_sem, ↓reduceIte, reduceCtorEq, Nat.reduceEqDiff, Nat.reduceAdd, Nat.reduceLeDiff, Nat.reduceMul, Int.reduceBEq, Int.reduceBNe, Int.reduceLT, Int.reduceLE, Int.reduceGT, Int.reduceGE, r5.cell, r8.cell, r9.cell, r11.cell]
      refine Chk_intro (hrow.wr (by simp; omega)) fun hR sR => ?_
      obtain ⟨xs2, oR⟩ := oQ.putN (by omega) sR
      simp -dsimp only [go_sem, ↓reduceIte, reduceCtorEq, Nat.reduceEqDiff, Nat.reduceAdd, Nat.reduceLeDiff, Nat.reduceMul, Int.reduceBEq, Int.reduceBNe, Int.reduceLT, Int.reduceLE, Int.reduceGT, Int.reduceGE, r5.cell, r8.cell, r9.cell, r11.cell]
      simp -dsimp (disch := omega) only [wrap64]
      exact ⟨i + 1, by omega, by simp [Le, find], by omega, fQ.trans sR.fr, by rw [sR.size]; exact zQ, xs2, oR⟩
    have fQ_z := fQ.size
    replace p0 := p0.fresh fQ (by omega)
    replace r5 := r5.fr fQ (by omega)
    replace r8 := r8.fr fQ (by omega)
    replace r9 := r9.fr fQ (by omega)
    replace r11 := r11.fr fQ (by omega)
    replace ta := ta.fr fQ (by omega)
    replace tb := tb.fr fQ (by omega)
    replace tc := tc.fr fQ (by omega)
    replace td := td.fr fQ (by omega)
    replace tP := tP.fr fQ (by omega)
    simp -dsimp only [go_sem, ↓reduceIte, reduceCtorEq, Nat.reduceEqDiff, Nat.reduceAdd, Nat.reduceLeDiff, Nat.reduceMul, Int.reduceBEq, Int.reduceBNe, Int.reduceLT, Int.reduceLE, Int.reduceGT, Int.reduceGE, r5.cell, r8.cell, r9.cell, r11.cell]
    refine call_of (ref1_Of x.a _ x.ps _ (hx1.fr p0) (by omega)) ?_
    rintro v hD ⟨fD, tD⟩
    have fD_z := fD.size
    replace p0 := p0.fresh fD (by omega)
    replace r5 := r5.fr fD (by omega)
    replace r8 := r8.fr fD (by omega)
    replace r9 := r9.fr fD (by omega)
    replace r11 := r11.fr fD (by omega)
    replace ta := ta.fr fD (by omega)
    replace tb := tb.fr fD (by omega)
    replace tc := tc.fr fD (by omega)
    replace td := td.fr fD (by omega)
    replace tP := tP.fr fD (by omega)
    have tD2 := tD
    obtain ⟨-, zs, zR, rfl, tz⟩ := tD2
    obtain ⟨za, zc, rfl⟩ := tz.own.is
    simp -dsimp only [go_sem, ↓reduceIte, reduceCtorEq, Nat.reduceEqDiff, Nat.reduceAdd, Nat.reduceLeDiff, Nat.reduceMul, Int.reduceBEq, Int.reduceBNe, Int.reduceLT, Int.reduceLE, Int.reduceGT, Int.reduceGE, r5.cell, r8.cell, r9.cell, r11.cell]
    refine Chk_intro (r11.wr (by first | (simp; done) | (simp; omega))) fun hE sE => ?_
    have sE_z := sE.size
    replace p0 := p0.fresh sE.fr (by omega)
    replace r5 := r5.fr sE.fr (by omega)
    replace r8 := r8.fr sE.fr (by omega)
    replace r9 := r9.fr sE.fr (by omega)
    replace ta := ta.fr sE.fr (by omega)
    replace tb := tb.fr sE.fr (by omega)
    replace tc := tc.fr sE.fr (by omega)
    replace td := td.fr sE.fr (by omega)
    replace tP := tP.fr sE.fr (by omega)
    replace tD := tD.fr sE.fr (by omega)
    replace r11 := sE.row r11
    try simp only [cl_int, cl_bool, cl_slice, cl_ptr, putAt_one, List.set_cons_zero, List.set_cons_succ, ivec_set, brow_upd] at r11
    try simp -dsimp only [go_sem, ↓reduceIte, reduceCtorEq, Nat.reduceEqDiff, Nat.reduceAdd, Nat.reduceLeDiff, Nat.reduceMul, Int.reduceBEq, Int.reduceBNe, Int.reduceLT, Int.reduceLE, Int.reduceGT, Int.reduceGE] at r11
    simp -dsimp only [go_sem, ↓reduceIte, reduceCtorEq, Nat.reduceEqDiff, Nat.reduceAdd, Nat.reduceLeDiff, Nat.reduceMul, Int.reduceBEq, Int.reduceBNe, Int.reduceLT, Int.reduceLE, Int.reduceGT, Int.reduceGE, r5.cell, r8.cell, r9.cell, r11.cell]
    exact ⟨p0, .inl ⟨_, _, _, _, _, _, _, _, rfl, tP, tD, by omega, by omega, .inr ⟨by omega, by omega⟩⟩⟩
  simp -dsimp only [go_sem, ↓reduceIte, reduceCtorEq, Nat.reduceEqDiff, Nat.reduceAdd, Nat.reduceLeDiff, Nat.reduceMul, Int.reduceBEq, Int.reduceBNe, Int.reduceLT, Int.reduceLE, Int.reduceGT, Int.reduceGE, r5.cell, r8.cell, r9.cell, r11.cell]
  refine ⟨fun hk => ?_, fun hk => ?_⟩
  · skip
    have p0_z := p0.size
    have r5_l := r5.lt
    have r8_l := r8.lt
    have r9_l := r9.lt
    have r11_l := r11.lt
    simp -dsimp only [go_sem, ↓reduceIte, reduceCtorEq, Nat.reduceEqDiff, Nat.reduceAdd, Nat.reduceLeDiff, Nat.reduceMul, Int.reduceBEq, Int.reduceBNe, Int.reduceLT, Int.reduceLE, Int.reduceGT, Int.reduceGE, r5.cell, r8.cell, r9.cell, r11.cell]
    refine call_of (rel_Ident x.a (hx2.fr p0) (by omega)) ?_
    rintro v hP ⟨fP, tP⟩
    obtain ⟨qP, rfl⟩ := progPtr tP
    have fP_z := fP.size
    replace p0 := p0.fresh fP (by omega)
    replace r5 := r5.fr fP (by omega)
    replace r8 := r8.fr fP (by omega)
    replace r9 := r9.fr fP (by omega)
    replace r11 := r11.fr fP (by omega)
    replace ta := ta.fr fP (by omega)
    replace tb := tb.fr fP (by omega)
    replace tc := tc.fr fP (by omega)
    replace td := td.fr fP (by omega)
    simp -dsimp only [go_sem, ↓reduceIte, reduceCtorEq, Nat.reduceEqDiff, Nat.reduceAdd, Nat.reduceLeDiff, Nat.reduceMul, Int.reduceBEq, Int.reduceBNe, Int.reduceLT, Int.reduceLE, Int.reduceGT, Int.reduceGE, r5.cell, r8.cell, r9.cell, r11.cell]
    refine call_of (ref1_Ident x.a (hx2.fr p0)) ?_
    rintro v hD ⟨fD, tD⟩
    have fD_z := fD.size
    replace p0 := p0.fresh fD (by omega)
    replace r5 := r5.fr fD (by omega)
    replace r8 := r8.fr fD (by omega)
    replace r9 := r9.fr fD (by omega)
    replace r11 := r11.fr fD (by omega)
    replace ta := ta.fr fD (by omega)
    replace tb := tb.fr fD (by omega)
    replace tc := tc.fr fD (by omega)
    replace td := td.fr fD (by omega)
    replace tP := tP.fr fD (by omega)
    have tD2 := tD
    obtain ⟨-, zs, zR, rfl, tz⟩ := tD2
    obtain ⟨za, zc, rfl⟩ := tz.own.is
    simp -dsimp only [go_sem, ↓reduceIte, reduceCtorEq, Nat.reduceEqDiff, Nat.reduceAdd, Nat.reduceLeDiff, Nat.reduceMul, Int.reduceBEq, Int.reduceBNe, Int.reduceLT, Int.reduceLE, Int.reduceGT, Int.reduceGE, r5.cell, r8.cell, r9.cell, r11.cell]
    refine Chk_intro (r11.wr (by first | (simp; done) | (simp; omega))) fun hE sE => ?_
    have sE_z := sE.size
    replace p0 := p0.fresh sE.fr (by omega)
    replace r5 := r5.fr sE.fr (by omega)
    replace r8 := r8.fr sE.fr (by omega)
    replace r9 := r9.fr sE.fr (by omega)
    replace ta := ta.fr sE.fr (by omega)
    replace tb := tb.fr sE.fr (by omega)
    replace tc := tc.fr sE.fr (by omega)
    replace td := td.fr sE.fr (by omega)
    replace tP := tP.fr sE.fr (by omega)
    replace tD := tD.fr sE.fr (by omega)
    replace r11 := sE.row r11
    try simp only [cl_int, cl_bool, cl_slice, cl_ptr, putAt_one, List.set_cons_zero, List.set_cons_succ, ivec_set, brow_upd] at r11
    try simp -dsimp only [go_sem, ↓reduceIte, reduceCtorEq, Nat.reduceEqDiff, Nat.reduceAdd, Nat.reduceLeDiff, Nat.reduceMul, Int.reduceBEq, Int.reduceBNe, Int.reduceLT, Int.reduceLE, Int.reduceGT, Int.reduceGE] at r11
    simp -dsimp only [go_sem, ↓reduceIte, reduceCtorEq, Nat.reduceEqDiff, Nat.reduceAdd, Nat.reduceLeDiff, Nat.reduceMul, Int.reduceBEq, Int.reduceBNe, Int.reduceLT, Int.reduceLE, Int.reduceGT, Int.reduceGE, r5.cell, r8.cell, r9.cell, r11.cell]
    exact ⟨p0, .inl ⟨_, _, _, _, _, _, _, _, rfl, tP, tD, by omega, by omega, .inr ⟨by omega, by omega⟩⟩⟩
  simp -dsimp only [go_sem, ↓reduceIte, reduceCtorEq, Nat.reduceEqDiff, Nat.reduceAdd, Nat.reduceLeDiff, Nat.reduceMul, Int.reduceBEq, Int.reduceBNe, Int.reduceLT, Int.reduceLE, Int.reduceGT, Int.reduceGE, r5.cell, r8.cell, r9.cell, r11.cell]
  refine ⟨fun hk => ?_, fun hk => ?_⟩
  · skip
    have p0_z := p0.size
    have r5_l := r5.lt
    have r8_l := r8.lt
    have r9_l := r9.lt
    have r11_l := r11.lt
    simp -dsimp only [go_sem, ↓reduceIte, reduceCtorEq, Nat.reduceEqDiff, Nat.reduceAdd, Nat.reduceLeDiff, Nat.reduceMul, Int.reduceBEq, Int.reduceBNe, Int.reduceLT, Int.reduceLE, Int.reduceGT, Int.reduceGE, r5.cell, r8.cell, r9.cell, r11.cell]
    refine call_of (rel_Copy ta) ?_
    rintro v hP ⟨fP, tP⟩
    obtain ⟨qP, rfl⟩ := progPtr tP
    replace tP := tP.congr (M' := A) fun i j hi hj => inN_in hi hj
    have fP_z := fP.size
    replace p0 := p0.fresh fP (by omega)
    replace r5 := r5.fr fP (by omega)
    replace r8 := r8.fr fP (by omega)
    replace r9 := r9.fr fP (by omega)
    replace r11 := r11.fr fP (by omega)
    replace ta := ta.fr fP (by omega)
    replace tb := tb.fr fP (by omega)
    replace tc := tc.fr fP (by omega)
    replace td := td.fr fP (by omega)
    simp -dsimp only [go_sem, ↓reduceIte, reduceCtorEq, Nat.reduceEqDiff, Nat.reduceAdd, Nat.reduceLeDiff, Nat.reduceMul, Int.reduceBEq, Int.reduceBNe, Int.reduceLT, Int.reduceLE, Int.reduceGT, Int.reduceGE, r5.cell, r8.cell, r9.cell, r11.cell]
    refine Chk_intro (r11.wr (by first | (simp; done) | (simp; omega))) fun hE sE => ?_
    have sE_z := sE.size
    replace p0 := p0.fresh sE.fr (by omega)
    replace r5 := r5.fr sE.fr (by omega)
    replace r8 := r8.fr sE.fr (by omega)
    replace r9 := r9.fr sE.fr (by omega)
    replace ta := ta.fr sE.fr (by omega)
    replace tb := tb.fr sE.fr (by omega)
    replace tc := tc.fr sE.fr (by omega)
    replace td := td.fr sE.fr (by omega)
    replace tP := tP.fr sE.fr (by omega)
    replace r11 := sE.row r11
    try simp only [cl_int, cl_bool, cl_slice, cl_ptr, putAt_one, List.set_cons_zero, List.set_cons_succ, ivec_set, brow_upd] at r11
    try simp -dsimp only [go_sem, ↓reduceIte, reduceCtorEq, Nat.reduceEqDiff, Nat.reduceAdd, Nat.reduceLeDiff, Nat.reduceMul, Int.reduceBEq, Int.reduceBNe, Int.reduceLT, Int.reduceLE, Int.reduceGT, Int.reduceGE] at r11
    simp -dsimp only [go_sem, ↓reduceIte, reduceCtorEq, Nat.reduceEqDiff, Nat.reduceAdd, Nat.reduceLeDiff, Nat.reduceMul, Int.reduceBEq, Int.reduceBNe, Int.reduceLT, Int.reduceLE, Int.reduceGT, Int.reduceGE, r5.cell, r8.cell, r9.cell, r11.cell]
    exact ⟨p0, .inl ⟨_, _, _, _, _, _, _, _, rfl, tP, tc, by omega, by omega, .inl ⟨rfl, rfl⟩⟩⟩
  simp -dsimp only [go_sem, ↓reduceIte, reduceCtorEq, Nat.reduceEqDiff, Nat.reduceAdd, Nat.reduceLeDiff, Nat.reduceMul, Int.reduceBEq, Int.reduceBNe, Int.reduceLT, Int.reduceLE, Int.reduceGT, Int.reduceGE, r5.cell, r8.cell, r9.cell, r11.cell]
  refine ⟨fun hk => ?_, fun hk => ?_⟩
  · skip
    have p0_z := p0.size
    have r5_l := r5.lt
    have r8_l := r8.lt
    have r9_l := r9.lt
    have r11_l := r11.lt
    simp -dsimp only [go_sem, ↓reduceIte, reduceCtorEq, Nat.reduceEqDiff, Nat.reduceAdd, Nat.reduceLeDiff, Nat.reduceMul, Int.reduceBEq, Int.reduceBNe, Int.reduceLT, Int.reduceLE, Int.reduceGT, Int.reduceGE, r5.cell, r8.cell, r9.cell, r11.cell]
    intro b0 h0 n0
    have n0_a := n0.at_
    have n0_z := n0.size
    replace p0 := p0.fresh (n0.fr (lo := 0) (hi := 0)) (by omega)
    replace r5 := r5.fr (n0.fr (lo := 0) (hi := 0)) (by omega)
    replace r8 := r8.fr (n0.fr (lo := 0) (hi := 0)) (by omega)
    replace r9 := r9.fr (n0.fr (lo := 0) (hi := 0)) (by omega)
    replace r11 := r11.fr (n0.fr (lo := 0) (hi := 0)) (by omega)
    replace ta := ta.fr (n0.fr (lo := 0) (hi := 0)) (by omega)
    replace tb := tb.fr (n0.fr (lo := 0) (hi := 0)) (by omega)
    replace tc := tc.fr (n0.fr (lo := 0) (hi := 0)) (by omega)
    replace td := td.fr (n0.fr (lo := 0) (hi := 0)) (by omega)
    have r0 := n0.row
    simp -dsimp only [go_sem, ↓reduceIte, reduceCtorEq, Nat.reduceEqDiff, Nat.reduceAdd, Nat.reduceLeDiff, Nat.reduceMul, Int.reduceBEq, Int.reduceBNe, Int.reduceLT, Int.reduceLE, Int.reduceGT, Int.reduceGE, r5.cell, r8.cell, r9.cell, r11.cell, r0.cell]
    refine call_of (rel_Union (L := [(.pointer (some ⟨pa, 0, none⟩), n, A), (.pointer (some ⟨pb, 0, none⟩), m, B)]) (r0.rd rfl) (rels2' ta tb) (show 2 ≤ 65536 by decide)) ?_
    rintro v hP ⟨fP, tP⟩
    obtain ⟨qP, rfl⟩ := progPtr tP
    rw [maxN2', any2'] at tP
    have fP_z := fP.size
    replace p0 := p0.fresh fP (by omega)
    replace r5 := r5.fr fP (by omega)
    replace r8 := r8.fr fP (by omega)
    replace r9 := r9.fr fP (by omega)
    replace r11 := r11.fr fP (by omega)
    replace ta := ta.fr fP (by omega)
    replace tb := tb.fr fP (by omega)
    replace tc := tc.fr fP (by omega)
    replace td := td.fr fP (by omega)
    replace r0 := r0.fr fP (by omega)
    simp -dsimp only [go_sem, ↓reduceIte, reduceCtorEq, Nat.reduceEqDiff, Nat.reduceAdd, Nat.reduceLeDiff, Nat.reduceMul, Int.reduceBEq, Int.reduceBNe, Int.reduceLT, Int.reduceLE, Int.reduceGT, Int.reduceGE, r5.cell, r8.cell, r9.cell, r11.cell, r0.cell]
    refine call_of (ref1_Union tc td) ?_
    rintro v hD ⟨fD, tD⟩
    have fD_z := fD.size
    replace p0 := p0.fresh fD (by omega)
    replace r5 := r5.fr fD (by omega)
    replace r8 := r8.fr fD (by omega)
    replace r9 := r9.fr fD (by omega)
    replace r11 := r11.fr fD (by omega)
    replace ta := ta.fr fD (by omega)
    replace tb := tb.fr fD (by omega)
    replace tc := tc.fr fD (by omega)
    replace td := td.fr fD (by omega)
    replace r0 := r0.fr fD (by omega)
    replace tP := tP.fr fD (by omega)
    have tD2 := tD
    obtain ⟨-, zs, zR, rfl, tz⟩ := tD2
    obtain ⟨za, zc, rfl⟩ := tz.own.is
    simp -dsimp only [go_sem, ↓reduceIte, reduceCtorEq, Nat.reduceEqDiff, Nat.reduceAdd, Nat.reduceLeDiff, Nat.reduceMul, Int.reduceBEq, Int.reduceBNe, Int.reduceLT, Int.reduceLE, Int.reduceGT, Int.reduceGE, r5.cell, r8.cell, r9.cell, r11.cell, r0.cell]
    refine Chk_intro (r11.wr (by first | (simp; done) | (simp; omega))) fun hE sE => ?_
    have sE_z := sE.size
    replace p0 := p0.fresh sE.fr (by omega)
    replace r5 := r5.fr sE.fr (by omega)
    replace r8 := r8.fr sE.fr (by omega)
    replace r9 := r9.fr sE.fr (by omega)
    replace ta := ta.fr sE.fr (by omega)
    replace tb := tb.fr sE.fr (by omega)
    replace tc := tc.fr sE.fr (by omega)
    replace td := td.fr sE.fr (by omega)
    replace r0 := r0.fr sE.fr (by omega)
    replace tP := tP.fr sE.fr (by omega)
    replace tD := tD.fr sE.fr (by omega)
    replace r11 := sE.row r11
    try simp only [cl_int, cl_bool, cl_slice, cl_ptr, putAt_one, List.set_cons_zero, List.set_cons_succ, ivec_set, brow_upd] at r11
    try simp -dsimp only [go_sem, ↓reduceIte, reduceCtorEq, Nat.reduceEqDiff, Nat.reduceAdd, Nat.reduceLeDiff, Nat.reduceMul, Int.reduceBEq, Int.reduceBNe, Int.reduceLT, Int.reduceLE, Int.reduceGT, Int.reduceGE] at r11
    simp -dsimp only [go_sem, ↓reduceIte, reduceCtorEq, Nat.reduceEqDiff, Nat.reduceAdd, Nat.reduceLeDiff, Nat.reduceMul, Int.reduceBEq, Int.reduceBNe, Int.reduceLT, Int.reduceLE, Int.reduceGT, Int.reduceGE, r5.cell, r8.cell, r9.cell, r11.cell, r0.cell]
    exact ⟨p0, .inl ⟨_, _, _, _, _, _, _, _, rfl, tP, tD, by omega, by omega, .inr ⟨by omega, by omega⟩⟩⟩
  simp -dsimp only [go_sem, ↓reduceIte, reduceCtorEq, Nat.reduceEqDiff, Nat.reduceAdd, Nat.reduceLeDiff, Nat.reduceMul, Int.reduceBEq, Int.reduceBNe, Int.reduceLT, Int.reduceLE, Int.reduceGT, Int.reduceGE, r5.cell, r8.cell, r9.cell, r11.cell]
  refine ⟨fun hk => ?_, fun hk => ?_⟩
  · skip
    have p0_z := p0.size
    have r5_l := r5.lt
    have r8_l := r8.lt
    have r9_l := r9.lt
    have r11_l := r11.lt
    simp -dsimp only [go_sem, ↓reduceIte, reduceCtorEq, Nat.reduceEqDiff, Nat.reduceAdd, Nat.reduceLeDiff, Nat.reduceMul, Int.reduceBEq, Int.reduceBNe, Int.reduceLT, Int.reduceLE, Int.reduceGT, Int.reduceGE, r5.cell, r8.cell, r9.cell, r11.cell]
    refine call_of (rel_Inter ta tb (ht.fr p0 (by omega))) ?_
    rintro v hP ⟨fP, tP⟩
    obtain ⟨qP, rfl⟩ := progPtr tP
    have fP_z := fP.size
    replace p0 := p0.fresh fP (by omega)
    replace r5 := r5.fr fP (by omega)
    replace r8 := r8.fr fP (by omega)
    replace r9 := r9.fr fP (by omega)
    replace r11 := r11.fr fP (by omega)
    replace ta := ta.fr fP (by omega)
    replace tb := tb.fr fP (by omega)
    replace tc := tc.fr fP (by omega)
    replace td := td.fr fP (by omega)
    simp -dsimp only [go_sem, ↓reduceIte, reduceCtorEq, Nat.reduceEqDiff, Nat.reduceAdd, Nat.reduceLeDiff, Nat.reduceMul, Int.reduceBEq, Int.reduceBNe, Int.reduceLT, Int.reduceLE, Int.reduceGT, Int.reduceGE, r5.cell, r8.cell, r9.cell, r11.cell]
    refine call_of (ref1_Inter tc td) ?_
    rintro v hD ⟨fD, tD⟩
    have fD_z := fD.size
    replace p0 := p0.fresh fD (by omega)
    replace r5 := r5.fr fD (by omega)
    replace r8 := r8.fr fD (by omega)
    replace r9 := r9.fr fD (by omega)
    replace r11 := r11.fr fD (by omega)
    replace ta := ta.fr fD (by omega)
    replace tb := tb.fr fD (by omega)
    replace tc := tc.fr fD (by omega)
    replace td := td.fr fD (by omega)
    replace tP := tP.fr fD (by omega)
    have tD2 := tD
    obtain ⟨-, zs, zR, rfl, tz⟩ := tD2
    obtain ⟨za, zc, rfl⟩ := tz.own.is
    simp -dsimp only [go_sem, ↓reduceIte, reduceCtorEq, Nat.reduceEqDiff, Nat.reduceAdd, Nat.reduceLeDiff, Nat.reduceMul, Int.reduceBEq, Int.reduceBNe, Int.reduceLT, Int.reduceLE, Int.reduceGT, Int.reduceGE, r5.cell, r8.cell, r9.cell, r11.cell]
    refine Chk_intro (r11.wr (by first | (simp; done) | (simp; omega))) fun hE sE => ?_
    have sE_z := sE.size
    replace p0 := p0.fresh sE.fr (by omega)
    replace r5 := r5.fr sE.fr (by omega)
    replace r8 := r8.fr sE.fr (by omega)
    replace r9 := r9.fr sE.fr (by omega)
    replace ta := ta.fr sE.fr (by omega)
    replace tb := tb.fr sE.fr (by omega)
    replace tc := tc.fr sE.fr (by omega)
    replace td := td.fr sE.fr (by omega)
    replace tP := tP.fr sE.fr (by omega)
    replace tD := tD.fr sE.fr (by omega)
    replace r11 := sE.row r11
    try simp only [cl_int, cl_bool, cl_slice, cl_ptr, putAt_one, List.set_cons_zero, List.set_cons_succ, ivec_set, brow_upd] at r11
    try simp -dsimp only [go_sem, ↓reduceIte, reduceCtorEq, Nat.reduceEqDiff, Nat.reduceAdd, Nat.reduceLeDiff, Nat.reduceMul, Int.reduceBEq, Int.reduceBNe, Int.reduceLT, Int.reduceLE, Int.reduceGT, Int.reduceGE] at r11
    simp -dsimp only [go_sem, ↓reduceIte, reduceCtorEq, Nat.reduceEqDiff, Nat.reduceAdd, Nat.reduceLeDiff, Nat.reduceMul, Int.reduceBEq, Int.reduceBNe, Int.reduceLT, Int.reduceLE, Int.reduceGT, Int.reduceGE, r5.cell, r8.cell, r9.cell, r11.cell]
    exact ⟨p0, .inl ⟨_, _, _, _, _, _, _, _, rfl, tP, tD, by omega, by omega, .inr ⟨by omega, by omega⟩⟩⟩
  simp -dsimp only [go_sem, ↓reduceIte, reduceCtorEq, Nat.reduceEqDiff, Nat.reduceAdd, Nat.reduceLeDiff, Nat.reduceMul, Int.reduceBEq, Int.reduceBNe, Int.reduceLT, Int.reduceLE, Int.reduceGT, Int.reduceGE, r5.cell, r8.cell, r9.cell, r11.cell]
  refine ⟨fun hk => ?_, fun hk => ?_⟩
  · skip
    have p0_z := p0.size
    have r5_l := r5.lt
    have r8_l := r8.lt
    have r9_l := r9.lt
    have r11_l := r11.lt
    simp -dsimp only [go_sem, ↓reduceIte, reduceCtorEq, Nat.reduceEqDiff, Nat.reduceAdd, Nat.reduceLeDiff, Nat.reduceMul, Int.reduceBEq, Int.reduceBNe, Int.reduceLT, Int.reduceLE, Int.reduceGT, Int.reduceGE, r5.cell, r8.cell, r9.cell, r11.cell]
    refine call_of (rel_Minus ta tb (ht.fr p0 (by omega))) ?_
    rintro v hP ⟨fP, tP⟩
    obtain ⟨qP, rfl⟩ := progPtr tP
    have fP_z := fP.size
    replace p0 := p0.fresh fP (by omega)
    replace r5 := r5.fr fP (by omega)
    replace r8 := r8.fr fP (by omega)
    replace r9 := r9.fr fP (by omega)
    replace r11 := r11.fr fP (by omega)
    replace ta := ta.fr fP (by omega)
    replace tb := tb.fr fP (by omega)
    replace tc := tc.fr fP (by omega)
    replace td := td.fr fP (by omega)
    simp -dsimp only [go_sem, ↓reduceIte, reduceCtorEq, Nat.reduceEqDiff, Nat.reduceAdd, Nat.reduceLeDiff, Nat.reduceMul, Int.reduceBEq, Int.reduceBNe, Int.reduceLT, Int.reduceLE, Int.reduceGT, Int.reduceGE, r5.cell, r8.cell, r9.cell, r11.cell]
    refine call_of (ref1_Minus tc td) ?_
    rintro v hD ⟨fD, tD⟩
    have fD_z := fD.size
    replace p0 := p0.fresh fD (by omega)
    replace r5 := r5.fr fD (by omega)
    replace r8 := r8.fr fD (by omega)
    replace r9 := r9.fr fD (by omega)
    replace r11 := r11.fr fD (by omega)
    replace ta := ta.fr fD (by omega)
    replace tb := tb.fr fD (by omega)
    replace tc := tc.fr fD (by omega)
    replace td := td.fr fD (by omega)
    replace tP := tP.fr fD (by omega)
    have tD2 := tD
    obtain ⟨-, zs, zR, rfl, tz⟩ := tD2
    obtain ⟨za, zc, rfl⟩ := tz.own.is
    simp -dsimp only [go_sem, ↓reduceIte, reduceCtorEq, Nat.reduceEqDiff, Nat.reduceAdd, Nat.reduceLeDiff, Nat.reduceMul, Int.reduceBEq, Int.reduceBNe, Int.reduceLT, Int.reduceLE, Int.reduceGT, Int.reduceGE, r5.cell, r8.cell, r9.cell, r11.cell]
    refine Chk_intro (r11.wr (by first | (simp; done) | (simp; omega))) fun hE sE => ?_
    have sE_z := sE.size
    replace p0 := p0.fresh sE.fr (by omega)
    replace r5 := r5.fr sE.fr (by omega)
    replace r8 := r8.fr sE.fr (by omega)
    replace r9 := r9.fr sE.fr (by omega)
    replace ta := ta.fr sE.fr (by omega)
    replace tb := tb.fr sE.fr (by omega)
    replace tc := tc.fr sE.fr (by omega)
    replace td := td.fr sE.fr (by omega)
    replace tP := tP.fr sE.fr (by omega)
    replace tD := tD.fr sE.fr (by omega)
    replace r11 := sE.row r11
    try simp only [cl_int, cl_bool, cl_slice, cl_ptr, putAt_one, List.set_cons_zero, List.set_cons_succ, ivec_set, brow_upd] at r11
    try simp -dsimp only [go_sem, ↓reduceIte, reduceCtorEq, Nat.reduceEqDiff, Nat.reduceAdd, Nat.reduceLeDiff, Nat.reduceMul, Int.reduceBEq, Int.reduceBNe, Int.reduceLT, Int.reduceLE, Int.reduceGT, Int.reduceGE] at r11
    simp -dsimp only [go_sem, ↓reduceIte, reduceCtorEq, Nat.reduceEqDiff, Nat.reduceAdd, Nat.reduceLeDiff, Nat.reduceMul, Int.reduceBEq, Int.reduceBNe, Int.reduceLT, Int.reduceLE, Int.reduceGT, Int.reduceGE, r5.cell, r8.cell, r9.cell, r11.cell]
    exact ⟨p0, .inl ⟨_, _, _, _, _, _, _, _, rfl, tP, tD, by omega, by omega, .inr ⟨by omega, by omega⟩⟩⟩
  simp -dsimp only [go_sem, ↓reduceIte, reduceCtorEq, Nat.reduceEqDiff, Nat.reduceAdd, Nat.reduceLeDiff, Nat.reduceMul, Int.reduceBEq, Int.reduceBNe, Int.reduceLT, Int.reduceLE, Int.reduceGT, Int.reduceGE, r5.cell, r8.cell, r9.cell, r11.cell]
  refine ⟨fun hk => ?_, fun hk => ?_⟩
  · skip
    have p0_z := p0.size
    have r5_l := r5.lt
    have r8_l := r8.lt
    have r9_l := r9.lt
    have r11_l := r11.lt
    simp -dsimp only [go_sem, ↓reduceIte, reduceCtorEq, Nat.reduceEqDiff, Nat.reduceAdd, Nat.reduceLeDiff, Nat.reduceMul, Int.reduceBEq, Int.reduceBNe, Int.reduceLT, Int.reduceLE, Int.reduceGT, Int.reduceGE, r5.cell, r8.cell, r9.cell, r11.cell]
    refine call_of (rel_Comp ta tb (ht.fr p0 (by omega))) ?_
    rintro v hP ⟨fP, tP⟩
    obtain ⟨qP, rfl⟩ := progPtr tP
    have fP_z := fP.size
    replace p0 := p0.fresh fP (by omega)
    replace r5 := r5.fr fP (by omega)
    replace r8 := r8.fr fP (by omega)
    replace r9 := r9.fr fP (by omega)
    replace r11 := r11.fr fP (by omega)
    replace ta := ta.fr fP (by omega)
    replace tb := tb.fr fP (by omega)
    replace tc := tc.fr fP (by omega)
    replace td := td.fr fP (by omega)
    simp -dsimp only [go_sem, ↓reduceIte, reduceCtorEq, Nat.reduceEqDiff, Nat.reduceAdd, Nat.reduceLeDiff, Nat.reduceMul, Int.reduceBEq, Int.reduceBNe, Int.reduceLT, Int.reduceLE, Int.reduceGT, Int.reduceGE, r5.cell, r8.cell, r9.cell, r11.cell]
    refine call_of (ref1_Comp tc td) ?_
    rintro v hD ⟨fD, tD⟩
    have fD_z := fD.size
    replace p0 := p0.fresh fD (by omega)
    replace r5 := r5.fr fD (by omega)
    replace r8 := r8.fr fD (by omega)
    replace r9 := r9.fr fD (by omega)
    replace r11 := r11.fr fD (by omega)
    replace ta := ta.fr fD (by omega)
    replace tb := tb.fr fD (by omega)
    replace tc := tc.fr fD (by omega)
    replace td := td.fr fD (by omega)
    replace tP := tP.fr fD (by omega)
    have tD2 := tD
    obtain ⟨-, zs, zR, rfl, tz⟩ := tD2
    obtain ⟨za, zc, rfl⟩ := tz.own.is
    simp -dsimp only [go_sem, ↓reduceIte, reduceCtorEq, Nat.reduceEqDiff, Nat.reduceAdd, Nat.reduceLeDiff, Nat.reduceMul, Int.reduceBEq, Int.reduceBNe, Int.reduceLT, Int.reduceLE, Int.reduceGT, Int.reduceGE, r5.cell, r8.cell, r9.cell, r11.cell]
    refine Chk_intro (r11.wr (by first | (simp; done) | (simp; omega))) fun hE sE => ?_
    have sE_z := sE.size
    replace p0 := p0.fresh sE.fr (by omega)
    replace r5 := r5.fr sE.fr (by omega)
    replace r8 := r8.fr sE.fr (by omega)
    replace r9 := r9.fr sE.fr (by omega)
    replace ta := ta.fr sE.fr (by omega)
    replace tb := tb.fr sE.fr (by omega)
    replace tc := tc.fr sE.fr (by omega)
    replace td := td.fr sE.fr (by omega)
    replace tP := tP.fr sE.fr (by omega)
    replace tD := tD.fr sE.fr (by omega)
    replace r11 := sE.row r11
    try simp only [cl_int, cl_bool, cl_slice, cl_ptr, putAt_one, List.set_cons_zero, List.set_cons_succ, ivec_set, brow_upd] at r11
    try simp -dsimp only [go_sem, ↓reduceIte, reduceCtorEq, Nat.reduceEqDiff, Nat.reduceAdd, Nat.reduceLeDiff, Nat.reduceMul, Int.reduceBEq, Int.reduceBNe, Int.reduceLT, Int.reduceLE, Int.reduceGT, Int.reduceGE] at r11
    simp -dsimp only [go_sem, ↓reduceIte, reduceCtorEq, Nat.reduceEqDiff, Nat.reduceAdd, Nat.reduceLeDiff, Nat.reduceMul, Int.reduceBEq, Int.reduceBNe, Int.reduceLT, Int.reduceLE, Int.reduceGT, Int.reduceGE, r5.cell, r8.cell, r9.cell, r11.cell]
    exact ⟨p0, .inl ⟨_, _, _, _, _, _, _, _, rfl, tP, tD, by omega, by omega, .inr ⟨by omega, by omega⟩⟩⟩
  simp -dsimp only [go_sem, ↓reduceIte, reduceCtorEq, Nat.reduceEqDiff, Nat.reduceAdd, Nat.reduceLeDiff, Nat.reduceMul, Int.reduceBEq, Int.reduceBNe, Int.reduceLT, Int.reduceLE, Int.reduceGT, Int.reduceGE, r5.cell, r8.cell, r9.cell, r11.cell]
  refine ⟨fun hk => ?_, fun hk => ?_⟩
  · skip
    have p0_z := p0.size
    have r5_l := r5.lt
    have r8_l := r8.lt
    have r9_l := r9.lt
    have r11_l := r11.lt
    simp -dsimp only [go_sem, ↓reduceIte, reduceCtorEq, Nat.reduceEqDiff, Nat.reduceAdd, Nat.reduceLeDiff, Nat.reduceMul, Int.reduceBEq, Int.reduceBNe, Int.reduceLT, Int.reduceLE, Int.reduceGT, Int.reduceGE, r5.cell, r8.cell, r9.cell, r11.cell]
    refine call_of (rel_Inverse ta (ht.fr p0 (by omega))) ?_
    rintro v hP ⟨fP, tP⟩
    obtain ⟨qP, rfl⟩ := progPtr tP
    have fP_z := fP.size
    replace p0 := p0.fresh fP (by omega)
    replace r5 := r5.fr fP (by omega)
    replace r8 := r8.fr fP (by omega)
    replace r9 := r9.fr fP (by omega)
    replace r11 := r11.fr fP (by omega)
    replace ta := ta.fr fP (by omega)
    replace tb := tb.fr fP (by omega)
    replace tc := tc.fr fP (by omega)
    replace td := td.fr fP (by omega)
    simp -dsimp only [go_sem, ↓reduceIte, reduceCtorEq, Nat.reduceEqDiff, Nat.reduceAdd, Nat.reduceLeDiff, Nat.reduceMul, Int.reduceBEq, Int.reduceBNe, Int.reduceLT, Int.reduceLE, Int.reduceGT, Int.reduceGE, r5.cell, r8.cell, r9.cell, r11.cell]
    refine call_of (ref1_Inverse tc) ?_
    rintro v hD ⟨fD, tD⟩
    have fD_z := fD.size
    replace p0 := p0.fresh fD (by omega)
    replace r5 := r5.fr fD (by omega)
    replace r8 := r8.fr fD (by omega)
    replace r9 := r9.fr fD (by omega)
    replace r11 := r11.fr fD (by omega)
    replace ta := ta.fr fD (by omega)
    replace tb := tb.fr fD (by omega)
    replace tc := tc.fr fD (by omega)
    replace td := td.fr fD (by omega)
    replace tP := tP.fr fD (by omega)
    have tD2 := tD
    obtain ⟨-, zs, zR, rfl, tz⟩ := tD2
    obtain ⟨za, zc, rfl⟩ := tz.own.is
    simp -dsimp only [go_sem, ↓reduceIte, reduceCtorEq, Nat.reduceEqDiff, Nat.reduceAdd, Nat.reduceLeDiff, Nat.reduceMul, Int.reduceBEq, Int.reduceBNe, Int.reduceLT, Int.reduceLE, Int.reduceGT, Int.reduceGE, r5.cell, r8.cell, r9.cell, r11.cell]
    refine Chk_intro (r11.wr (by first | (simp; done) | (simp; omega))) fun hE sE => ?_
    have sE_z := sE.size
    replace p0 := p0.fresh sE.fr (by omega)
    replace r5 := r5.fr sE.fr (by omega)
    replace r8 := r8.fr sE.fr (by omega)
    replace r9 := r9.fr sE.fr (by omega)
    replace ta := ta.fr sE.fr (by omega)
    replace tb := tb.fr sE.fr (by omega)
    replace tc := tc.fr sE.fr (by omega)
    replace td := td.fr sE.fr (by omega)
    replace tP := tP.fr sE.fr (by omega)
    replace tD := tD.fr sE.fr (by omega)
    replace r11 := sE.row r11
    try simp only [cl_int, cl_bool, cl_slice, cl_ptr, putAt_one, List.set_cons_zero, List.set_cons_succ, ivec_set, brow_upd] at r11
    try simp -dsimp only [go_sem, ↓reduceIte, reduceCtorEq, Nat.reduceEqDiff, Nat.reduceAdd, Nat.reduceLeDiff, Nat.reduceMul, Int.reduceBEq, Int.reduceBNe, Int.reduceLT, Int.reduceLE, Int.reduceGT, Int.reduceGE] at r11
    simp -dsimp only [go_sem, ↓reduceIte, reduceCtorEq, Nat.reduceEqDiff, Nat.reduceAdd, Nat.reduceLeDiff, Nat.reduceMul, Int.reduceBEq, Int.reduceBNe, Int.reduceLT, Int.reduceLE, Int.reduceGT, Int.reduceGE, r5.cell, r8.cell, r9.cell, r11.cell]
    exact ⟨p0, .inl ⟨_, _, _, _, _, _, _, _, rfl, tP, tD, by omega, by omega, .inr ⟨by omega, by omega⟩⟩⟩
  simp -dsimp only [go_sem, ↓reduceIte, reduceCtorEq, Nat.reduceEqDiff, Nat.reduceAdd, Nat.reduceLeDiff, Nat.reduceMul, Int.reduceBEq, Int.reduceBNe, Int.reduceLT, Int.reduceLE, Int.reduceGT, Int.reduceGE, r5.cell, r8.cell, r9.cell, r11.cell]
  refine ⟨fun hk => ?_, fun hk => ?_⟩
  · skip
    have p0_z := p0.size
    have r5_l := r5.lt
    have r8_l := r8.lt
    have r9_l := r9.lt
    have r11_l := r11.lt
    simp -dsimp only [go_sem, ↓reduceIte, reduceCtorEq, Nat.reduceEqDiff, Nat.reduceAdd, Nat.reduceLeDiff, Nat.reduceMul, Int.reduceBEq, Int.reduceBNe, Int.reduceLT, Int.reduceLE, Int.reduceGT, Int.reduceGE, r5.cell, r8.cell, r9.cell, r11.cell]
    refine call_of (rel_Cut ta (ht.fr p0 (by omega)) (hx2.fr p0) (hx3.fr p0) (by omega) (by omega)) ?_
    rintro v hP ⟨fP, tP⟩
    obtain ⟨qP, rfl⟩ := progPtr tP
    have fP_z := fP.size
    replace p0 := p0.fresh fP (by omega)
    replace r5 := r5.fr fP (by omega)
    replace r8 := r8.fr fP (by omega)
    replace r9 := r9.fr fP (by omega)
    replace r11 := r11.fr fP (by omega)
    replace ta := ta.fr fP (by omega)
    replace tb := tb.fr fP (by omega)
    replace tc := tc.fr fP (by omega)
    replace td := td.fr fP (by omega)
    simp -dsimp only [go_sem, ↓reduceIte, reduceCtorEq, Nat.reduceEqDiff, Nat.reduceAdd, Nat.reduceLeDiff, Nat.reduceMul, Int.reduceBEq, Int.reduceBNe, Int.reduceLT, Int.reduceLE, Int.reduceGT, Int.reduceGE, r5.cell, r8.cell, r9.cell, r11.cell]
    refine call_of (ref1_Cut tc (hx2.fr p0) (hx3.fr p0)) ?_
    rintro v hD ⟨fD, tD⟩
    have fD_z := fD.size
    replace p0 := p0.fresh fD (by omega)
    replace r5 := r5.fr fD (by omega)
    replace r8 := r8.fr fD (by omega)
    replace r9 := r9.fr fD (by omega)
    replace r11 := r11.fr fD (by omega)
    replace ta := ta.fr fD (by omega)
    replace tb := tb.fr fD (by omega)
    replace tc := tc.fr fD (by omega)
    replace td := td.fr fD (by omega)
    replace tP := tP.fr fD (by omega)
    have tD2 := tD
    obtain ⟨-, zs, zR, rfl, tz⟩ := tD2
    obtain ⟨za, zc, rfl⟩ := tz.own.is
    simp -dsimp only [go_sem, ↓reduceIte, reduceCtorEq, Nat.reduceEqDiff, Nat.reduceAdd, Nat.reduceLeDiff, Nat.reduceMul, Int.reduceBEq, Int.reduceBNe, Int.reduceLT, Int.reduceLE, Int.reduceGT, Int.reduceGE, r5.cell, r8.cell, r9.cell, r11.cell]
    refine Chk_intro (r11.wr (by first | (simp; done) | (simp; omega))) fun hE sE => ?_
    have sE_z := sE.size
    replace p0 := p0.fresh sE.fr (by omega)
    replace r5 := r5.fr sE.fr (by omega)
    replace r8 := r8.fr sE.fr (by omega)
    replace r9 := r9.fr sE.fr (by omega)
    replace ta := ta.fr sE.fr (by omega)
    replace tb := tb.fr sE.fr (by omega)
    replace tc := tc.fr sE.fr (by omega)
    replace td := td.fr sE.fr (by omega)
    replace tP := tP.fr sE.fr (by omega)
    replace tD := tD.fr sE.fr (by omega)
    replace r11 := sE.row r11
    try simp only [cl_int, cl_bool, cl_slice, cl_ptr, putAt_one, List.set_cons_zero, List.set_cons_succ, ivec_set, brow_upd] at r11
    try simp -dsimp only [go_sem, ↓reduceIte, reduceCtorEq, Nat.reduceEqDiff, Nat.reduceAdd, Nat.reduceLeDiff, Nat.reduceMul, Int.reduceBEq, Int.reduceBNe, Int.reduceLT, Int.reduceLE, Int.reduceGT, Int.reduceGE] at r11
    simp -dsimp only [go_sem, ↓reduceIte, reduceCtorEq, Nat.reduceEqDiff, Nat.reduceAdd, Nat.reduceLeDiff, Nat.reduceMul, Int.reduceBEq, Int.reduceBNe, Int.reduceLT, Int.reduceLE, Int.reduceGT, Int.reduceGE, r5.cell, r8.cell, r9.cell, r11.cell]
    exact ⟨p0, .inl ⟨_, _, _, _, _, _, _, _, rfl, tP, tD, by omega, by omega, .inr ⟨by omega, by omega⟩⟩⟩
  simp -dsimp only [go_sem, ↓reduceIte, reduceCtorEq, Nat.reduceEqDiff, Nat.reduceAdd, Nat.reduceLeDiff, Nat.reduceMul, Int.reduceBEq, Int.reduceBNe, Int.reduceLT, Int.reduceLE, Int.reduceGT, Int.reduceGE, r5.cell, r8.cell, r9.cell, r11.cell]
  refine ⟨fun hk => ?_, fun hk => ?_⟩
  · skip
    have p0_z := p0.size
    have r5_l := r5.lt
    have r8_l := r8.lt
    have r9_l := r9.lt
    have r11_l := r11.lt
    simp -dsimp only [go_sem, ↓reduceIte, reduceCtorEq, Nat.reduceEqDiff, Nat.reduceAdd, Nat.reduceLeDiff, Nat.reduceMul, Int.reduceBEq, Int.reduceBNe, Int.reduceLT, Int.reduceLE, Int.reduceGT, Int.reduceGE, r5.cell, r8.cell, r9.cell, r11.cell]
    refine call_of (rel_Plus ta) ?_
    rintro v hP ⟨fP, tP⟩
    obtain ⟨qP, rfl⟩ := progPtr tP
    have fP_z := fP.size
    replace p0 := p0.fresh fP (by omega)
    replace r5 := r5.fr fP (by omega)
    replace r8 := r8.fr fP (by omega)
    replace r9 := r9.fr fP (by omega)
    replace r11 := r11.fr fP (by omega)
    replace ta := ta.fr fP (by omega)
    replace tb := tb.fr fP (by omega)
    replace tc := tc.fr fP (by omega)
    replace td := td.fr fP (by omega)
    simp -dsimp only [go_sem, ↓reduceIte, reduceCtorEq, Nat.reduceEqDiff, Nat.reduceAdd, Nat.reduceLeDiff, Nat.reduceMul, Int.reduceBEq, Int.reduceBNe, Int.reduceLT, Int.reduceLE, Int.reduceGT, Int.reduceGE, r5.cell, r8.cell, r9.cell, r11.cell]
    refine call_of (ref1_Plus tc) ?_
    rintro v hD ⟨fD, tD⟩
    have fD_z := fD.size
    replace p0 := p0.fresh fD (by omega)
    replace r5 := r5.fr fD (by omega)
    replace r8 := r8.fr fD (by omega)
    replace r9 := r9.fr fD (by omega)
    replace r11 := r11.fr fD (by omega)
    replace ta := ta.fr fD (by omega)
    replace tb := tb.fr fD (by omega)
    replace tc := tc.fr fD (by omega)
    replace td := td.fr fD (by omega)
    replace tP := tP.fr fD (by omega)
    have tD2 := tD
    obtain ⟨-, zs, zR, rfl, tz⟩ := tD2
    obtain ⟨za, zc, rfl⟩ := tz.own.is
    simp -dsimp only [go_sem, ↓reduceIte, reduceCtorEq, Nat.reduceEqDiff, Nat.reduceAdd, Nat.reduceLeDiff, Nat.reduceMul, Int.reduceBEq, Int.reduceBNe, Int.reduceLT, Int.reduceLE, Int.reduceGT, Int.reduceGE, r5.cell, r8.cell, r9.cell, r11.cell]
    refine Chk_intro (r11.wr (by first | (simp; done) | (simp; omega))) fun hE sE => ?_
    have sE_z := sE.size
    replace p0 := p0.fresh sE.fr (by omega)
    replace r5 := r5.fr sE.fr (by omega)
    replace r8 := r8.fr sE.fr (by omega)
    replace r9 := r9.fr sE.fr (by omega)
    replace ta := ta.fr sE.fr (by omega)
    replace tb := tb.fr sE.fr (by omega)
    replace tc := tc.fr sE.fr (by omega)
    replace td := td.fr sE.fr (by omega)
    replace tP := tP.fr sE.fr (by omega)
    replace tD := tD.fr sE.fr (by omega)
    replace r11 := sE.row r11
    try simp only [cl_int, cl_bool, cl_slice, cl_ptr, putAt_one, List.set_cons_zero, List.set_cons_succ, ivec_set, brow_upd] at r11
    try simp -dsimp only [go_sem, ↓reduceIte, reduceCtorEq, Nat.reduceEqDiff, Nat.reduceAdd, Nat.reduceLeDiff, Nat.reduceMul, Int.reduceBEq, Int.reduceBNe, Int.reduceLT, Int.reduceLE, Int.reduceGT, Int.reduceGE] at r11
    simp -dsimp only [go_sem, ↓reduceIte, reduceCtorEq, Nat.reduceEqDiff, Nat.reduceAdd, Nat.reduceLeDiff, Nat.reduceMul, Int.reduceBEq, Int.reduceBNe, Int.reduceLT, Int.reduceLE, Int.reduceGT, Int.reduceGE, r5.cell, r8.cell, r9.cell, r11.cell]
    exact ⟨p0, .inl ⟨_, _, _, _, _, _, _, _, rfl, tP, tD, by omega, by omega, .inr ⟨by omega, by omega⟩⟩⟩
  simp -dsimp only [go_sem, ↓reduceIte, reduceCtorEq, Nat.reduceEqDiff, Nat.reduceAdd, Nat.reduceLeDiff, Nat.reduceMul, Int.reduceBEq, Int.reduceBNe, Int.reduceLT, Int.reduceLE, Int.reduceGT, Int.reduceGE, r5.cell, r8.cell, r9.cell, r11.cell]
  refine ⟨fun hk => ?_, fun hk => ?_⟩
  · skip
    have p0_z := p0.size
    have r5_l := r5.lt
    have r8_l := r8.lt
    have r9_l := r9.lt
    have r11_l := r11.lt
    simp -dsimp only [go_sem, ↓reduceIte, reduceCtorEq, Nat.reduceEqDiff, Nat.reduceAdd, Nat.reduceLeDiff, Nat.reduceMul, Int.reduceBEq, Int.reduceBNe, Int.reduceLT, Int.reduceLE, Int.reduceGT, Int.reduceGE, r5.cell, r8.cell, r9.cell, r11.cell]
    refine call_of (rel_Star ta) ?_
    rintro v hP ⟨fP, tP⟩
    obtain ⟨qP, rfl⟩ := progPtr tP
    have fP_z := fP.size
    replace p0 := p0.fresh fP (by omega)
    replace r5 := r5.fr fP (by omega)
    replace r8 := r8.fr fP (by omega)
    replace r9 := r9.fr fP (by omega)
    replace r11 := r11.fr fP (by omega)
    replace ta := ta.fr fP (by omega)
    replace tb := tb.fr fP (by omega)
    replace tc := tc.fr fP (by omega)
    replace td := td.fr fP (by omega)
    simp -dsimp only [go_sem, ↓reduceIte, reduceCtorEq, Nat.reduceEqDiff, Nat.reduceAdd, Nat.reduceLeDiff, Nat.reduceMul, Int.reduceBEq, Int.reduceBNe, Int.reduceLT, Int.reduceLE, Int.reduceGT, Int.reduceGE, r5.cell, r8.cell, r9.cell, r11.cell]
    refine call_of (ref1_Star tc) ?_
    rintro v hD ⟨fD, tD⟩
    have fD_z := fD.size
    replace p0 := p0.fresh fD (by omega)
    replace r5 := r5.fr fD (by omega)
    replace r8 := r8.fr fD (by omega)
    replace r9 := r9.fr fD (by omega)
    replace r11 := r11.fr fD (by omega)
    replace ta := ta.fr fD (by omega)
    replace tb := tb.fr fD (by omega)
    replace tc := tc.fr fD (by omega)
    replace td := td.fr fD (by omega)
    replace tP := tP.fr fD (by omega)
    have tD2 := tD
    obtain ⟨-, zs, zR, rfl, tz⟩ := tD2
    obtain ⟨za, zc, rfl⟩ := tz.own.is
    simp -dsimp only [go_sem, ↓reduceIte, reduceCtorEq, Nat.reduceEqDiff, Nat.reduceAdd, Nat.reduceLeDiff, Nat.reduceMul, Int.reduceBEq, Int.reduceBNe, Int.reduceLT, Int.reduceLE, Int.reduceGT, Int.reduceGE, r5.cell, r8.cell, r9.cell, r11.cell]
    refine Chk_intro (r11.wr (by first | (simp; done) | (simp; omega))) fun hE sE => ?_
    have sE_z := sE.size
    replace p0 := p0.fresh sE.fr (by omega)
    replace r5 := r5.fr sE.fr (by omega)
    replace r8 := r8.fr sE.fr (by omega)
    replace r9 := r9.fr sE.fr (by omega)
    replace ta := ta.fr sE.fr (by omega)
    replace tb := tb.fr sE.fr (by omega)
    replace tc := tc.fr sE.fr (by omega)
    replace td := td.fr sE.fr (by omega)
    replace tP := tP.fr sE.fr (by omega)
    replace tD := tD.fr sE.fr (by omega)
    replace r11 := sE.row r11
    try simp only [cl_int, cl_bool, cl_slice, cl_ptr, putAt_one, List.set_cons_zero, List.set_cons_succ, ivec_set, brow_upd] at r11
    try simp -dsimp only [go_sem, ↓reduceIte, reduceCtorEq, Nat.reduceEqDiff, Nat.reduceAdd, Nat.reduceLeDiff, Nat.reduceMul, Int.reduceBEq, Int.reduceBNe, Int.reduceLT, Int.reduceLE, Int.reduceGT, Int.reduceGE] at r11
    simp -dsimp only [go_sem, ↓reduceIte, reduceCtorEq, Nat.reduceEqDiff, Nat.reduceAdd, Nat.reduceLeDiff, Nat.reduceMul, Int.reduceBEq, Int.reduceBNe, Int.reduceLT, Int.reduceLE, Int.reduceGT, Int.reduceGE, r5.cell, r8.cell, r9.cell, r11.cell]
    exact ⟨p0, .inl ⟨_, _, _, _, _, _, _, _, rfl, tP, tD, by omega, by omega, .inr ⟨by omega, by omega⟩⟩⟩
  simp -dsimp only [go_sem, ↓reduceIte, reduceCtorEq, Nat.reduceEqDiff, Nat.reduceAdd, Nat.reduceLeDiff, Nat.reduceMul, Int.reduceBEq, Int.reduceBNe, Int.reduceLT, Int.reduceLE, Int.reduceGT, Int.reduceGE, r5.cell, r8.cell, r9.cell, r11.cell]
  refine ⟨fun hk => ?_, fun hk => ?_⟩
  · skip
    have p0_z := p0.size
    have r5_l := r5.lt
    have r8_l := r8.lt
    have r9_l := r9.lt
    have r11_l := r11.lt
    simp -dsimp only [go_sem, ↓reduceIte, reduceCtorEq, Nat.reduceEqDiff, Nat.reduceAdd, Nat.reduceLeDiff, Nat.reduceMul, Int.reduceBEq, Int.reduceBNe, Int.reduceLT, Int.reduceLE, Int.reduceGT, Int.reduceGE, r5.cell, r8.cell, r9.cell, r11.cell]
    refine call_of (rel_Opt ta) ?_
    rintro v hP ⟨fP, tP⟩
    obtain ⟨qP, rfl⟩ := progPtr tP
    have fP_z := fP.size
    replace p0 := p0.fresh fP (by omega)
    replace r5 := r5.fr fP (by omega)
    replace r8 := r8.fr fP (by omega)
    replace r9 := r9.fr fP (by omega)
    replace r11 := r11.fr fP (by omega)
    replace ta := ta.fr fP (by omega)
    replace tb := tb.fr fP (by omega)
    replace tc := tc.fr fP (by omega)
    replace td := td.fr fP (by omega)
    simp -dsimp only [go_sem, ↓reduceIte, reduceCtorEq, Nat.reduceEqDiff, Nat.reduceAdd, Nat.reduceLeDiff, Nat.reduceMul, Int.reduceBEq, Int.reduceBNe, Int.reduceLT, Int.reduceLE, Int.reduceGT, Int.reduceGE, r5.cell, r8.cell, r9.cell, r11.cell]
    refine call_of (ref1_Opt tc) ?_
    rintro v hD ⟨fD, tD⟩
    have fD_z := fD.size
    replace p0 := p0.fresh fD (by omega)
    replace r5 := r5.fr fD (by omega)
    replace r8 := r8.fr fD (by omega)
    replace r9 := r9.fr fD (by omega)
    replace r11 := r11.fr fD (by omega)
    replace ta := ta.fr fD (by omega)
    replace tb := tb.fr fD (by omega)
    replace tc := tc.fr fD (by omega)
    replace td := td.fr fD (by omega)
    replace tP := tP.fr fD (by omega)
    have tD2 := tD
    obtain ⟨-, zs, zR, rfl, tz⟩ := tD2
    obtain ⟨za, zc, rfl⟩ := tz.own.is
    simp -dsimp only [go_sem, ↓reduceIte, reduceCtorEq, Nat.reduceEqDiff, Nat.reduceAdd, Nat.reduceLeDiff, Nat.reduceMul, Int.reduceBEq, Int.reduceBNe, Int.reduceLT, Int.reduceLE, Int.reduceGT, Int.reduceGE, r5.cell, r8.cell, r9.cell, r11.cell]
    refine Chk_intro (r11.wr (by first | (simp; done) | (simp; omega))) fun hE sE => ?_
    have sE_z := sE.size
    replace p0 := p0.fresh sE.fr (by omega)
    replace r5 := r5.fr sE.fr (by omega)
    replace r8 := r8.fr sE.fr (by omega)
    replace r9 := r9.fr sE.fr (by omega)
    replace ta := ta.fr sE.fr (by omega)
    replace tb := tb.fr sE.fr (by omega)
    replace tc := tc.fr sE.fr (by omega)
    replace td := td.fr sE.fr (by omega)
    replace tP := tP.fr sE.fr (by omega)
    replace tD := tD.fr sE.fr (by omega)
    replace r11 := sE.row r11
    try simp only [cl_int, cl_bool, cl_slice, cl_ptr, putAt_one, List.set_cons_zero, List.set_cons_succ, ivec_set, brow_upd] at r11
    try simp -dsimp only [go_sem, ↓reduceIte, reduceCtorEq, Nat.reduceEqDiff, Nat.reduceAdd, Nat.reduceLeDiff, Nat.reduceMul, Int.reduceBEq, Int.reduceBNe, Int.reduceLT, Int.reduceLE, Int.reduceGT, Int.reduceGE] at r11
    simp -dsimp only [go_sem, ↓reduceIte, reduceCtorEq, Nat.reduceEqDiff, Nat.reduceAdd, Nat.reduceLeDiff, Nat.reduceMul, Int.reduceBEq, Int.reduceBNe, Int.reduceLT, Int.reduceLE, Int.reduceGT, Int.reduceGE, r5.cell, r8.cell, r9.cell, r11.cell]
    exact ⟨p0, .inl ⟨_, _, _, _, _, _, _, _, rfl, tP, tD, by omega, by omega, .inr ⟨by omega, by omega⟩⟩⟩
  simp -dsimp only [go_sem, ↓reduceIte, reduceCtorEq, Nat.reduceEqDiff, Nat.reduceAdd, Nat.reduceLeDiff, Nat.reduceMul, Int.reduceBEq, Int.reduceBNe, Int.reduceLT, Int.reduceLE, Int.reduceGT, Int.reduceGE, r5.cell, r8.cell, r9.cell, r11.cell]
  refine ⟨fun hk => ?_, fun hk => ?_⟩
  · skip
    have p0_z := p0.size
    have r5_l := r5.lt
    have r8_l := r8.lt
    have r9_l := r9.lt
    have r11_l := r11.lt
    simp -dsimp only [go_sem, ↓reduceIte, reduceCtorEq, Nat.reduceEqDiff, Nat.reduceAdd, Nat.reduceLeDiff, Nat.reduceMul, Int.reduceBEq, Int.reduceBNe, Int.reduceLT, Int.reduceLE, Int.reduceGT, Int.reduceGE, r5.cell, r8.cell, r9.cell, r11.cell]
    refine call_of (rel_New 1 _) ?_
    rintro v h1 ⟨f1, t1⟩
    obtain ⟨q1, rfl⟩ := progPtr t1
    have f1_z := f1.size
    replace p0 := p0.fresh f1 (by omega)
    replace r5 := r5.fr f1 (by omega)
    replace r8 := r8.fr f1 (by omega)
    replace r9 := r9.fr f1 (by omega)
    replace r11 := r11.fr f1 (by omega)
    replace ta := ta.fr f1 (by omega)
    replace tb := tb.fr f1 (by omega)
    replace tc := tc.fr f1 (by omega)
    replace td := td.fr f1 (by omega)
    simp -dsimp only [go_sem, ↓reduceIte, reduceCtorEq, Nat.reduceEqDiff, Nat.reduceAdd, Nat.reduceLeDiff, Nat.reduceMul, Int.reduceBEq, Int.reduceBNe, Int.reduceLT, Int.reduceLE, Int.reduceGT, Int.reduceGE, r5.cell, r8.cell, r9.cell, r11.cell]
    intro b0 h0 n0
    have n0_a := n0.at_
    have n0_z := n0.size
    replace p0 := p0.fresh (n0.fr (lo := 0) (hi := 0)) (by omega)
    replace r5 := r5.fr (n0.fr (lo := 0) (hi := 0)) (by omega)
    replace r8 := r8.fr (n0.fr (lo := 0) (hi := 0)) (by omega)
    replace r9 := r9.fr (n0.fr (lo := 0) (hi := 0)) (by omega)
    replace r11 := r11.fr (n0.fr (lo := 0) (hi := 0)) (by omega)
    replace ta := ta.fr (n0.fr (lo := 0) (hi := 0)) (by omega)
    replace tb := tb.fr (n0.fr (lo := 0) (hi := 0)) (by omega)
    replace tc := tc.fr (n0.fr (lo := 0) (hi := 0)) (by omega)
    replace td := td.fr (n0.fr (lo := 0) (hi := 0)) (by omega)
    replace t1 := t1.fr (n0.fr (lo := 0) (hi := 0)) (by omega)
    have r0 := n0.row
    simp -dsimp only [go_sem, ↓reduceIte, reduceCtorEq, Nat.reduceEqDiff, Nat.reduceAdd, Nat.reduceLeDiff, Nat.reduceMul, Int.reduceBEq, Int.reduceBNe, Int.reduceLT, Int.reduceLE, Int.reduceGT, Int.reduceGE, r5.cell, r8.cell, r9.cell, r11.cell, r0.cell]
    refine call_of (rel_Union (L := [(.pointer (some ⟨pa, 0, none⟩), n, A), (.pointer (some ⟨pb, 0, none⟩), m, B), (.pointer (some ⟨pa, 0, none⟩), n, A), (.pointer (some ⟨q1, 0, none⟩), clampN 1, fun _ _ => false), (.pointer (some ⟨pb, 0, none⟩), m, B)]) (r0.rd rfl) (rels5 ta tb t1) (show 5 ≤ 65536 by decide)) ?_
    rintro v hP ⟨fP, tP⟩
    obtain ⟨qP, rfl⟩ := progPtr tP
    rw [maxN5, any5] at tP
    have fP_z := fP.size
    replace p0 := p0.fresh fP (by omega)
    replace r5 := r5.fr fP (by omega)
    replace r8 := r8.fr fP (by omega)
    replace r9 := r9.fr fP (by omega)
    replace r11 := r11.fr fP (by omega)
    replace ta := ta.fr fP (by omega)
    replace tb := tb.fr fP (by omega)
    replace tc := tc.fr fP (by omega)
    replace td := td.fr fP (by omega)
    replace t1 := t1.fr fP (by omega)
    replace r0 := r0.fr fP (by omega)
    simp -dsimp only [go_sem, ↓reduceIte, reduceCtorEq, Nat.reduceEqDiff, Nat.reduceAdd, Nat.reduceLeDiff, Nat.reduceMul, Int.reduceBEq, Int.reduceBNe, Int.reduceLT, Int.reduceLE, Int.reduceGT, Int.reduceGE, r5.cell, r8.cell, r9.cell, r11.cell, r0.cell]
    refine call_of (ref1_Union tc td) ?_
    rintro v0 hX0 ⟨fX0, tX0⟩
    have fX0_z := fX0.size
    replace p0 := p0.fresh fX0 (by omega)
    replace r5 := r5.fr fX0 (by omega)
    replace r8 := r8.fr fX0 (by omega)
    replace r9 := r9.fr fX0 (by omega)
    replace r11 := r11.fr fX0 (by omega)
    replace ta := ta.fr fX0 (by omega)
    replace tb := tb.fr fX0 (by omega)
    replace tc := tc.fr fX0 (by omega)
    replace td := td.fr fX0 (by omega)
    replace t1 := t1.fr fX0 (by omega)
    replace r0 := r0.fr fX0 (by omega)
    replace tP := tP.fr fX0 (by omega)
    obtain ⟨-, ys0, yR0, rfl, yz0⟩ := id tX0
    obtain ⟨ya0, yc0, rfl⟩ := yz0.own.is
    simp -dsimp only [go_sem, ↓reduceIte, reduceCtorEq, Nat.reduceEqDiff, Nat.reduceAdd, Nat.reduceLeDiff, Nat.reduceMul, Int.reduceBEq, Int.reduceBNe, Int.reduceLT, Int.reduceLE, Int.reduceGT, Int.reduceGE, r5.cell, r8.cell, r9.cell, r11.cell, r0.cell]
    refine call_of (ref1_New 1 _) ?_
    rintro v1 hX1 ⟨fX1, tX1⟩
    have fX1_z := fX1.size
    replace p0 := p0.fresh fX1 (by omega)
    replace r5 := r5.fr fX1 (by omega)
    replace r8 := r8.fr fX1 (by omega)
    replace r9 := r9.fr fX1 (by omega)
    replace r11 := r11.fr fX1 (by omega)
    replace ta := ta.fr fX1 (by omega)
    replace tb := tb.fr fX1 (by omega)
    replace tc := tc.fr fX1 (by omega)
    replace td := td.fr fX1 (by omega)
    replace t1 := t1.fr fX1 (by omega)
    replace r0 := r0.fr fX1 (by omega)
    replace tP := tP.fr fX1 (by omega)
    replace tX0 := tX0.fr fX1 (by omega)
    obtain ⟨-, ys1, yR1, rfl, yz1⟩ := id tX1
    obtain ⟨ya1, yc1, rfl⟩ := yz1.own.is
    simp -dsimp only [go_sem, ↓reduceIte, reduceCtorEq, Nat.reduceEqDiff, Nat.reduceAdd, Nat.reduceLeDiff, Nat.reduceMul, Int.reduceBEq, Int.reduceBNe, Int.reduceLT, Int.reduceLE, Int.reduceGT, Int.reduceGE, r5.cell, r8.cell, r9.cell, r11.cell, r0.cell]
    refine call_of (ref1_Union tX0 tX1) ?_
    rintro v hD ⟨fD, tD⟩
    have fD_z := fD.size
    replace p0 := p0.fresh fD (by omega)
    replace r5 := r5.fr fD (by omega)
    replace r8 := r8.fr fD (by omega)
    replace r9 := r9.fr fD (by omega)
    replace r11 := r11.fr fD (by omega)
    replace ta := ta.fr fD (by omega)
    replace tb := tb.fr fD (by omega)
    replace tc := tc.fr fD (by omega)
    replace td := td.fr fD (by omega)
    replace t1 := t1.fr fD (by omega)
    replace r0 := r0.fr fD (by omega)
    replace tP := tP.fr fD (by omega)
    replace tX0 := tX0.fr fD (by omega)
    replace tX1 := tX1.fr fD (by omega)
    have tD2 := tD
    obtain ⟨-, zs, zR, rfl, tz⟩ := tD2
    obtain ⟨za, zc, rfl⟩ := tz.own.is
    simp -dsimp only [go_sem, ↓reduceIte, reduceCtorEq, Nat.reduceEqDiff, Nat.reduceAdd, Nat.reduceLeDiff, Nat.reduceMul, Int.reduceBEq, Int.reduceBNe, Int.reduceLT, Int.reduceLE, Int.reduceGT, Int.reduceGE, r5.cell, r8.cell, r9.cell, r11.cell, r0.cell]
    refine Chk_intro (r11.wr (by first | (simp; done) | (simp; omega))) fun hE sE => ?_
    have sE_z := sE.size
    replace p0 := p0.fresh sE.fr (by omega)
    replace r5 := r5.fr sE.fr (by omega)
    replace r8 := r8.fr sE.fr (by omega)
    replace r9 := r9.fr sE.fr (by omega)
    replace ta := ta.fr sE.fr (by omega)
    replace tb := tb.fr sE.fr (by omega)
    replace tc := tc.fr sE.fr (by omega)
    replace td := td.fr sE.fr (by omega)
    replace t1 := t1.fr sE.fr (by omega)
    replace r0 := r0.fr sE.fr (by omega)
    replace tP := tP.fr sE.fr (by omega)
    replace tX0 := tX0.fr sE.fr (by omega)
    replace tX1 := tX1.fr sE.fr (by omega)
    replace tD := tD.fr sE.fr (by omega)
    replace r11 := sE.row r11
    try simp only [cl_int, cl_bool, cl_slice, cl_ptr, putAt_one, List.set_cons_zero, List.set_cons_succ, ivec_set, brow_upd] at r11
    try simp -dsimp only [go_sem, ↓reduceIte, reduceCtorEq, Nat.reduceEqDiff, Nat.reduceAdd, Nat.reduceLeDiff, Nat.reduceMul, Int.reduceBEq, Int.reduceBNe, Int.reduceLT, Int.reduceLE, Int.reduceGT, Int.reduceGE] at r11
    simp -dsimp only [go_sem, ↓reduceIte, reduceCtorEq, Nat.reduceEqDiff, Nat.reduceAdd, Nat.reduceLeDiff, Nat.reduceMul, Int.reduceBEq, Int.reduceBNe, Int.reduceLT, Int.reduceLE, Int.reduceGT, Int.reduceGE, r5.cell, r8.cell, r9.cell, r11.cell, r0.cell]
    exact ⟨p0, .inl ⟨_, _, _, _, _, _, _, _, rfl, tP, tD, by omega, by omega, .inr ⟨by omega, by omega⟩⟩⟩
  simp -dsimp only [go_sem, ↓reduceIte, reduceCtorEq, Nat.reduceEqDiff, Nat.reduceAdd, Nat.reduceLeDiff, Nat.reduceMul, Int.reduceBEq, Int.reduceBNe, Int.reduceLT, Int.reduceLE, Int.reduceGT, Int.reduceGE, r5.cell, r8.cell, r9.cell, r11.cell]
  have p0_z := p0.size
  have r5_l := r5.lt
  have r8_l := r8.lt
  have r9_l := r9.lt
  have r11_l := r11.lt
  refine call_of (ref1_New 0 _) ?_
  rintro v hD ⟨fD, tD⟩
  have fD_z := fD.size
  replace p0 := p0.fresh fD (by omega)
  replace r5 := r5.fr fD (by omega)
  replace r8 := r8.fr fD (by omega)
  replace r9 := r9.fr fD (by omega)
  replace r11 := r11.fr fD (by omega)
  have hcl : clampN 0 = 0 := by decide
  rw [hcl] at tD
  obtain ⟨-, zs, zR, rfl, tz⟩ := id tD
  obtain ⟨za, zc, rfl⟩ := tz.own.is
  simp -dsimp only [go_sem, ↓reduceIte, reduceCtorEq, Nat.reduceEqDiff, Nat.reduceAdd, Nat.reduceLeDiff, Nat.reduceMul, Int.reduceBEq, Int.reduceBNe, Int.reduceLT, Int.reduceLE, Int.reduceGT, Int.reduceGE, r5.cell, r8.cell, r9.cell, r11.cell]
  refine Chk_intro (r11.wr (by first | (simp; done) | (simp; omega))) fun hE sE => ?_
  have sE_z := sE.size
  replace p0 := p0.fresh sE.fr (by omega)
  replace r5 := r5.fr sE.fr (by omega)
  replace r8 := r8.fr sE.fr (by omega)
  replace r9 := r9.fr sE.fr (by omega)
  replace tD := tD.fr sE.fr (by omega)
  replace r11 := sE.row r11
  try simp only [cl_int, cl_bool, cl_slice, cl_ptr, putAt_one, List.set_cons_zero, List.set_cons_succ, ivec_set, brow_upd] at r11
  try simp -dsimp only [go_sem, ↓reduceIte, reduceCtorEq, Nat.reduceEqDiff, Nat.reduceAdd, Nat.reduceLeDiff, Nat.reduceMul, Int.reduceBEq, Int.reduceBNe, Int.reduceLT, Int.reduceLE, Int.reduceGT, Int.reduceGE] at r11
  simp -dsimp only [go_sem, ↓reduceIte, reduceCtorEq, Nat.reduceEqDiff, Nat.reduceAdd, Nat.reduceLeDiff, Nat.reduceMul, Int.reduceBEq, Int.reduceBNe, Int.reduceLT, Int.reduceLE, Int.reduceGT, Int.reduceGE, r5.cell, r8.cell, r9.cell, r11.cell]
  exact ⟨p0, .inr ⟨_, _, rfl⟩⟩
end Go.Proofs.Tst
