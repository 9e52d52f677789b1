/-
  Contracts of functions that the law reaches: what each returns and what it leaves in memory. Conditions stand in each.
-/
import Derived.Test.YtmcghihgeibgpaaDoorT1
set_option linter.all false
set_option maxRecDepth 2000
namespace Go.Proofs.Tst
open Go Go.Vc
theorem rel_points (a:Option Addr) (n c:Nat) (h:Heap):Con Tryd.prog 118 #[.slice a n c] h fun v h'=>Fr 0 0 h h'∧v=.func (.func 155) #[] #[.pointer (some ⟨h.size,0,none⟩)]∧hcell h' h.size 0=some (.slice a n c)∧h'.size=h.size+1:=by
 refine con_q132 ?_
 simp -dsimp only [go_sem]
 intro b h1 n1
 have r1:=n1.row
 have a1:=n1.at_
 subst a1
 simp -dsimp only [go_sem]
 exact ⟨n1.fr,by rw [r1.cell];rfl,n1.size⟩
theorem rel_Pairs {n:Nat} {M:Nat→Nat→Bool} {p:Value} {lo hi:Nat} {h:Heap} (hr:ProgAt h lo hi p n M) (ht:TabAt h) :
  Con Tryd.prog 98 #[p] h fun v h'=>Fr 0 0 h h'∧Holder 2 h' v (pairsOf n M).length (pairsV (pairsOf n M)) h.size:=by
 refine con_q122 (fun v h1 h2 x ⟨f,o⟩=>⟨x.fr f (Nat.le_refl _),x.holder o⟩) ?_
 have hr0:=hr
 obtain ⟨hn,pb,rb,R,W,rfl,t⟩:=hr
 simp -dsimp only [go_sem]
 intro b3 h1 n3
 have z3:=n3.size;have a3:=n3.at_
 have p1:Fr 0 0 h h1:=n3.fr
 have t1:=t.fr p1 (by omega)
 simp -dsimp only [go_sem,t1.ptr.cell]
 refine loop_intro (fun i:Nat=>[(2,.slice none 0 0),(3,.pointer (some ⟨b3,0,none⟩)),(10,.slice (some ⟨rb,0,none⟩) n n),(11,.int .i64 n),(12,.int .i64 i)])
  (fun i h'=>i≤n∧Fr 0 0 h h'∧∃ sv,Rw h' b3 [sv]∧Holder 2 h' sv (pairsTo n M i).length (pairsV (pairsTo n M i)) (b3+1)) (fun i=>n - i) 0 ?_ ?_ ?_
 ·simp [Le,find]
 ·exact ⟨by omega,p1,_,n3.row,.none _ _ _⟩
 rintro i h2 ⟨hi',p2,sv,r3,o2⟩
 have t2:=t.fr p2 (by omega)
 simp -dsimp only [go_sem]
 refine ⟨fun hlt=>?_,fun hge=>?_⟩
 ·have hlt:i<n:=by omega
  simp -dsimp only [go_sem]
  refine Chk_intro (by omega) ?_
  simp -dsimp only [go_sem,t2.rowsGet hlt]
  intro b4 h4 n4
  have a4:=n4.at_;have z4:=n4.size
  have p4:=p2.trans n4.fr
  simp -dsimp only [go_sem]
  refine ⟨n4.row.wr (by simp),fun h5 s5=>?_⟩
  have r45:=s5.row n4.row
  have z5:=s5.size
  have k3:=r3.lt
  have r35:=s5.rw (n4.rw r3) (by omega)
  have w2:=o2.at_
  have o5:=(o2.fr n4.f0 (by omega)).fr s5.fr (by omega)
  have y2:=p2.size
  have p5:=p4.fresh s5.fr (by omega)
  simp -dsimp only [go_sem] at r45
  simp -dsimp only [go_sem]
  refine call_of (rel_points _ _ _ h5) ?_
  rintro v h6 ⟨p6,rfl,c6,z6⟩
  simp -dsimp only [go_sem]
  refine ⟨rfl,?_⟩
  have t5:=t.fr p5 (by omega)
  have rd6:=(ptab_rd t5 hlt).fr p6
  have hbits:=(t.row i hlt).2.2.2.2.2
  refine ⟨_,RowC h5.size (.slice (some ⟨R i,0,none⟩) (nw n) (nw n)) (nw n) (W i),
   fun d h'=>Fr 0 0 h h'∧Rw h' b4 [.int .i64 i]∧∃ sv,Rw h' b3 [sv]∧bl sv≠b4∧bl sv≠h5.size∧Holder 2 h' sv ((pairsTo n M i).length+d) (pairsV (pairsTo n M i++((rest (M i) n 0).take d).map fun (b:Nat)=>((i:Int),(b:Int)))) (b3+1),
   fun _ _=>False,points_1 (fun j=>(hbits j).1) (by unfold nw;omega),?_,?_,?_,?_,?_,?_,?_,?_,?_⟩
  ·intro x hx;obtain ⟨q,_,rfl⟩:=List.mem_map.1 hx;rfl
  ·exact fun h1 h2 x ⟨c1,c2,c3⟩=>⟨x.cell c1,x.rd c2,x.tab c3⟩
  ·rintro d h1 h2 x ⟨q1,q2,sv',q3,q4,q4',q5⟩
   exact ⟨x.fr q1 (by have:=p5.size;have:=p6.size;omega),x.rw q2,sv',x.rw q3,q4,q4',x.holder q5⟩
  ·exact fun _ _ _ _ h=>h
  ·exact ⟨p5.trans p6,r45.fr p6 (by omega),sv,r35.fr p6 (by omega),by omega,by omega,by simpa using o5.fr p6 (by omega)⟩
  ·exact ⟨c6,rd6,(ht.fr (p5.trans p6) (by omega))⟩
  ·rintro d x h7 hs7 hx ⟨q1,q2,sv7,q3,q4,q4',q5⟩ hC7
   rw [rest_bits hbits,List.getElem?_map,Option.map_eq_some_iff] at hx
   obtain ⟨q,hq,rfl⟩:=hx
   simp only [zipE]
   simp -dsimp only [go_sem]
   intro h7' x7
   have q1:=x7.fr q1 (by have:=p5.size;have:=p6.size;omega)
   have q2:=x7.rw q2
   have q3:=x7.rw q3
   have q5:=x7.holder q5
   have hC7:RowC h5.size (.slice (some ⟨R i,0,none⟩) (nw n) (nw n)) (nw n) (W i) h7':=⟨x7.cell hC7.1,x7.rd hC7.2.1,x7.tab hC7.2.2⟩
   obtain ⟨sa,sc,rfl⟩:=q5.is
   simp -dsimp only [go_sem,q3.cell,q2.cell]
   intro b8 h8 n8
   have z8:=n8.size;have a8:=n8.at_
   simp -dsimp only [go_sem,n8.row.cell]
   have hd:=(List.getElem?_eq_some_iff.1 hq).1
   have g1:=length_rest_le (M i) n 0
   have g2:=length_pairsTo_le n M i
   have g3:i * n≤256 * 256:=Nat.mul_le_mul (by omega) (by omega)
   have w7:=q5.at_
   have k7:=q3.lt;have k7':=q2.lt
   have y7:=x7.size;have y5:=p5.size;have y6:=p6.size
   refine (q5.fr n8.f0 (by omega)).append (by omega) rfl (by omega) (by simp) (by omega) fun v9 h9 o9 f9 e9=>?_
   obtain ⟨va,vc,rfl⟩:=o9.is
   have w9:=o9.at_
   have y9:=f9.size
   simp -dsimp only [go_sem]
   have r9:=(n8.rw q3).fr f9 (by omega)
   refine ⟨r9.wr (by simp),fun h10 s10=>?_⟩
   have r10:=s10.row r9
   have y10:=s10.size
   simp -dsimp only [go_sem] at r10
   simp -dsimp only [go_sem]
   have p10:Fr 0 0 h h10:=((q1.trans n8.fr).fresh f9 (by omega)).fresh s10.fr (by omega)
   have hh:Fr b3 (b3+1) h9 h10:=s10.fr
   refine ⟨⟨p10,((n8.rw q2).fr f9 (by omega)).fr s10.fr (by omega),_,r10,by omega,by omega,?_⟩,?_⟩
   ·have:=o9.fr s10.fr (by omega)
    rw [List.take_add_one,hq,Option.toList_some,List.map_append,← List.append_assoc,pairsV_append]
    exact this
   ·have hsz:h5.size<h6.size:=by omega
    refine ⟨?_,?_,ht.fr p10 (by omega)⟩
    ·refine s10.fr.keep (f9.keep (n8.f0.keep hC7.1 (by omega)) (by omega)) (by omega)
    ·exact (ptab_rd (t.fr p10 (by omega)) hlt)
  ·rintro h7 hs7 ⟨q1,q2,sv7,q3,q4,q4',q5⟩ hC7
   rw [rest_bits hbits,List.length_map,List.take_length] at q5
   simp -dsimp only [go_sem]
   simp -dsimp (disch:=omega) only [wrap64]
   exact ⟨i+1,by omega,by simp [Le,find],by omega,q1,sv7,q3,by rw [pairsTo_succ,List.length_append,List.length_map];exact q5⟩
  ·exact fun _ _ _ h=>h.elim
 ·have:i=n:=by omega
  subst this
  simp -dsimp only [go_sem,r3.cell]
  have:=n3.size
  exact ⟨p2,o2.lower (by omega)⟩
end Go.Proofs.Tst
namespace Go.Proofs.Tst
open Go Go.Vc
theorem rel_Len {n:Nat} {M:Nat→Nat→Bool} {p:Value} {lo hi:Nat} {h:Heap} (hr:ProgAt h lo hi p n M) :
  Con Tryd.prog 97 #[p] h fun v h'=>h'=h∧v=.int .i64 n:=by
 refine con_q121 ?_
 obtain ⟨hn,pb,rb,R,W,rfl,t⟩:=hr
 simp -dsimp only [go_sem,t.ptr.cell]
theorem rel_Has {n:Nat} {M:Nat→Nat→Bool} {p:Value} {lo hi:Nat} {h:Heap} (hr:ProgAt h lo hi p n M) (a b:Int) :
  Con Tryd.prog 76 #[p,.int .i64 a,.int .i64 b] h fun v h'=>h'=h∧v=.bool (inR n a&&inR n b&&M a.toNat b.toNat):=by
 refine con_q120 ?_
 have hr0:=hr
 obtain ⟨hn,pb,rb,R,W,rfl,t⟩:=hr
 simp -dsimp only [go_sem]
 refine call_of (rel_inside hr0 a b) ?_
 rintro v h1 ⟨rfl,rfl⟩
 simp -dsimp only [go_sem]
 by_cases hin:(inR n a&&inR n b)=true
 ·have hin':=hin
  simp only [Bool.and_eq_true,inR,decide_eq_true_eq] at hin'
  obtain ⟨x,rfl⟩:∃ x:Nat,a=x:=⟨a.toNat,by omega⟩
  obtain ⟨y,rfl⟩:∃ y:Nat,b=y:=⟨b.toNat,by omega⟩
  have hx:x<n:=by omega
  have hy:y<n:=by omega
  obtain ⟨hrw,_,_,hnp,hnr,hbits⟩:=t.row x hx
  rw [hin]
  simp -dsimp only [go_sem,t.ptr.cell]
  refine Chk_intro (by omega) ?_
  simp -dsimp only [go_sem,t.rowsGet hx]
  refine call_of (row_has (p:=y) (ptab_rd t hx) (by unfold nw;omega) (hbits _).1 (by omega)) ?_
  rintro v h2 ⟨rfl,rfl⟩
  rw [hbits.get hy]
  simp -dsimp only [go_sem]
  simp
 ·have hin:(inR n a&&inR n b)=false:=by simpa using hin
  rw [hin]
  simp -dsimp only [go_sem]
  simp
theorem order_Linear {n : Nat} {M : Nat → Nat → Bool} {rv lv : Value} {l : List Int} {lo hi : Nat} {h : Heap} (hr : ProgAt h lo hi rv n M) (ht : TabAt h) (hl : Rd 1 h lv l.length (intsV l)) (hb : l.length ≤ 4611686018427387904) :
    Con Tryd.prog 55 #[rv, lv] h fun v h' => Fr 0 0 h h' ∧ v = .bool (decide (LinP n M l)) := by
  refine con_q52 ?_
  have hn := hr.1
  obtain ⟨la, lc, rfl⟩ := hl.is
  simp -dsimp only [go_sem]
  refine call_of (rel_Len hr) ?_
  rintro v h1 ⟨rfl, rfl⟩
  simp -dsimp only [go_sem]
  refine ⟨fun hne => ?_, fun heq => ?_⟩
  · simp -dsimp only [go_sem]
    exact ⟨.refl _ _ _, by rw [decide_eq_false]; rintro ⟨hh, _⟩; simp [hh] at hne⟩
  have heq : l.length = n := by have : (l.length : Int) = n := by simpa using heq
                                omega
  simp -dsimp only [go_sem]
  rw [heq] at hl ⊢
  refine Chk_intro (by omega) ?_
  intro b2 h2 n2
  have r2 := n2.row
  rw [zeros_one, Int.toNat_natCast, placeV_nil] at r2
  have p2 : Fr 0 0 h1 h2 := n2.fr
  have z2 := n2.size; have a2 := n2.at_
  simp -dsimp only [go_sem]
  refine loop_intro (fun i : Nat => [(0, rv), (1, .slice la n lc), (5, .slice (some ⟨b2, 0, none⟩) n n), (18, .slice la n lc), (19, .int .i64 n), (20, .int .i64 i)])
    (fun i h' => i ≤ n ∧ Fr 0 0 h1 h' ∧ Rw h' b2 (placeV n (l.take i)) ∧ (∀ x ∈ l.take i, 0 ≤ x ∧ x < (n : Int)) ∧ (l.take i).Nodup) (fun i => n - i) 0 ?_ ?_ ?_
  · simp [Le, find]
  · exact ⟨by omega, p2, r2, by simp, by simp⟩
  rintro i h3 ⟨hi, p3, r23, hin, hnd⟩
  have k2 := r23.lt
  simp -dsimp only [go_sem]
  refine ⟨fun hlt => ?_, fun hge => ?_⟩
  · have hlt : i < n := by omega
    have hx : l[i]? = some l[i] := by simp
    have htk : l.take (i + 1) = l.take i ++ [l[i]] := by rw [List.take_succ_eq_append_getElem (by omega)]
    have hmem : l[i] ∈ l := List.getElem_mem _
    generalize l[i] = x at hx htk hmem
    simp -dsimp only [go_sem]
    refine Chk_intro (by omega) ((hl.fr p3).idx (by omega) fun b3 o3 c3 => ?_)
    have c3 := c3 i _ (intsV_get hx)
    have bad : ¬ (0 ≤ x ∧ x < (n : Int)) → ¬ LinP n M l := fun hb hP => hb (hP.2.1 x hmem)
    by_cases hA : x < 0
    · simp -dsimp only [go_sem, c3, hA, decide_true]
      exact ⟨p3, by rw [decide_eq_false (bad (by omega))]⟩
    by_cases hB : x ≥ (n : Int)
    · simp -dsimp only [go_sem, c3, hA, hB, decide_true, decide_false]
      exact ⟨p3, by rw [decide_eq_false (bad (by omega))]⟩
    obtain ⟨p, rfl⟩ : ∃ p : Nat, x = p := ⟨x.toNat, by omega⟩
    have hp : p < n := by omega
    simp -dsimp only [go_sem, c3, hA, hB, decide_false]
    refine Chk_intro (by omega) ?_
    simp -dsimp only [go_sem, r23.cell, placeV_get hp, hA, hB, decide_false]
    by_cases hm : (p : Int) ∈ l.take i
    · have : ¬ LinP n M l := by
        rintro ⟨_, _, hnd, _⟩
        have : (l.take (i + 1)).Nodup := hnd.sublist (List.take_sublist _ _)
        rw [htk, List.nodup_append] at this
        exact this.2.2 p hm p (by simp) rfl
      simp -dsimp only [go_sem, hm, hA, hB, decide_false]
      refine ⟨fun _ => ?_, fun h => absurd (by simp; omega) h⟩
      simp -dsimp only [go_sem]
      exact ⟨p3, by rw [decide_eq_false this]⟩
    · simp -dsimp only [go_sem, hm, hA, hB, decide_false]
      refine Chk_intro (by omega) ?_
      simp -dsimp only [go_sem]
      refine Chk_intro (r23.wr (by simp [length_placeV]; omega)) fun h4 s4 => ?_
      have r24 := s4.row r23
      rw [wrap64 (by omega) (by omega), cl_int, putAt_one, show ((i : Int) + 1) = (((l.take i).length + 1 : Nat) : Int) from by rw [List.length_take]; omega, placeV_put hp hm, ← htk] at r24
      simp -dsimp only [go_sem]
      simp -dsimp (disch := omega) only [wrap64]
      refine ⟨i + 1, by omega, by simp [Le, find], by omega, p3.fresh s4.fr (by omega), r24, ?_, ?_⟩
      · rw [htk]; intro y hy
        rcases List.mem_append.1 hy with hy | hy
        · exact hin y hy
        · simp at hy; omega
      · rw [htk, List.nodup_append]
        exact ⟨hnd, by simp, fun y hy z hz => by simp at hz; subst hz; rintro rfl; exact hm hy⟩
  · have hin' : i = l.length := by omega
    rw [hin', List.take_length] at r23 hin hnd
    simp -dsimp only [go_sem]
    refine call_of (rel_Pairs (hr.fr p3 (by omega)) (ht.fr p3 (by omega))) ?_
    rintro v h4 ⟨p4, o4⟩
    have r24 := r23.fr p4 (by omega)
    have q4 := p3.trans p4
    obtain ⟨pa, pc, rfl⟩ := o4.is
    have rd4 := o4.rd
    simp -dsimp only [go_sem]
    refine loop_intro (fun j : Nat => [(5, .slice (some ⟨b2, 0, none⟩) n n), (47, .slice pa (pairsOf n M).length pc), (48, .int .i64 (pairsOf n M).length), (49, .int .i64 j)])
      (fun j h' => j ≤ (pairsOf n M).length ∧ Fr 0 0 h4 h' ∧ ∀ p ∈ (pairsOf n M).take j, l.idxOf p.1 < l.idxOf p.2) (fun j => (pairsOf n M).length - j) 0 ?_ ?_ ?_
    · simp [Le, find]
    · exact ⟨by omega, .refl _ _ _, by simp⟩
    rintro j h5 ⟨hj, p5, hord⟩
    have r25 := r24.fr p5 (by omega)
    have rd5 := rd4.fr p5
    simp -dsimp only [go_sem]
    refine ⟨fun hlt => ?_, fun hge => ?_⟩
    · have hlt : j < (pairsOf n M).length := by omega
      have hq : (pairsOf n M)[j]? = some (pairsOf n M)[j] := by simp
      have htk : (pairsOf n M).take (j + 1) = (pairsOf n M).take j ++ [(pairsOf n M)[j]] := by rw [List.take_succ_eq_append_getElem hlt]
      have hmem : (pairsOf n M)[j] ∈ pairsOf n M := List.getElem_mem _
      generalize (pairsOf n M)[j] = q at hq htk hmem
      obtain ⟨a, b, ha, hb', hm, rfl⟩ := mem_pairsOf.1 hmem
      simp -dsimp only [go_sem]
      refine Chk_intro (by omega) (rd5.pair hq fun b6 o6 c6 c7 => ?_)
      simp -dsimp only [go_sem, c6, c7]
      intro b7 h7 n7
      simp -dsimp only [go_sem]
      refine ⟨n7.row.wr (by simp), fun h8 s8 => ?_⟩
      have r8 := s8.row n7.row
      have k7 := n7.at_; have k5 := r25.lt
      have r28 := s8.rw (n7.rw r25) (by omega)
      have p8 := (p5.trans n7.fr).fresh s8.fr (by have := p5.size; omega)
      simp -dsimp only [go_sem] at r8
      simp -dsimp only [go_sem, r8.cell]
      refine Chk_intro (by omega) ?_
      simp -dsimp only [go_sem, r28.cell, placeV_get ha, r8.cell]
      refine Chk_intro (by omega) ?_
      simp -dsimp only [go_sem, r28.cell, placeV_get hb', nodup_all heq hin hnd ha, nodup_all heq hin hnd hb']
      refine ⟨fun hge => ?_, fun hlt3 => ?_⟩
      · simp -dsimp only [go_sem]
        exact ⟨q4.trans p8, by rw [decide_eq_false]; rintro ⟨_, _, _, h⟩; have := h a ha b hb' hm; omega⟩
      · have hpl := length_pairsTo_le n M n
        have g3 : n * n ≤ 256 * 256 := Nat.mul_le_mul (by omega) (by omega)
        have g4 : (pairsOf n M).length ≤ n * n := hpl
        simp -dsimp only [go_sem]
        simp -dsimp (disch := omega) only [wrap64]
        refine ⟨j + 1, by omega, by simp [Le, find], by omega, p8, fun x hx => ?_⟩
        rw [htk] at hx
        rcases List.mem_append.1 hx with hx | hx
        · exact hord x hx
        · simp at hx; subst hx; dsimp only; omega
    · have : j = (pairsOf n M).length := by omega
      subst this
      rw [List.take_length] at hord
      simp -dsimp only [go_sem]
      exact ⟨q4.trans p5, by rw [decide_eq_true]; exact ⟨heq, hin, hnd, fun a ha b hb hm => hord _ (mem_pairsOf.2 ⟨a, b, ha, hb, hm, rfl⟩)⟩⟩
end Go.Proofs.Tst
namespace Go.Proofs.Tst
open Go Go.Vc
def cnt (n:Nat) (M:Nat→Nat→Bool) (D:Nat→Bool) (p:Nat):Nat:=(List.range n).countP fun a=>M a p&&!D a
theorem cnt_zero {n:Nat} {M:Nat→Nat→Bool} {D:Nat→Bool} {p:Nat}:freeB n M D p=(!D p&&cnt n M D p==0):=by
 unfold freeB cnt
 congr 1
 rw [Bool.eq_iff_iff]
 simp only [List.all_eq_true,List.mem_range,beq_iff_eq,List.countP_eq_zero]
 refine forall_congr' fun a=>forall_congr' fun _=>?_
 cases M a p <;> cases D a <;> simp
theorem cnt_le (n:Nat) (M:Nat→Nat→Bool) (D:Nat→Bool) (p:Nat):cnt n M D p≤n:=by
 unfold cnt;refine Nat.le_trans List.countP_le_length (by simp)
def cntV (n:Nat) (c:Nat→Nat):List Value:=(List.range n).map fun (p:Nat)=>Value.int .i64 (c p:Int)
@[simp] theorem length_cntV (n:Nat) (c:Nat→Nat):(cntV n c).length=n:=by simp [cntV]
theorem cntV_get {n:Nat} {c:Nat→Nat} {p:Nat} (hp:p<n):(cntV n c)[p]?=some (.int .i64 (c p:Int)):=by simp [cntV,hp]
theorem cntV_congr {n:Nat} {c d:Nat→Nat} (h:∀ p,p<n→c p=d p):cntV n c=cntV n d:=by
 unfold cntV;apply List.map_congr_left;intro i hi;rw [h i (List.mem_range.1 hi)]
theorem cntV_set {n:Nat} {c:Nat→Nat} {p x:Nat}:(cntV n c).set p (.int .i64 (x:Int))=cntV n fun q=>if q=p then x else c q:=by
 apply List.ext_getElem?;intro k
 by_cases hk:k<n
 ·rw [cntV_get hk,List.getElem?_set]
  by_cases hj:p=k
  ·subst hj;simp [hk]
  ·rw [if_neg hj,cntV_get hk,if_neg (fun h=>hj h.symm)]
 ·rw [List.getElem?_eq_none (by simp;omega),List.getElem?_eq_none (by simp;omega)]
structure ChB where
 (bn bw bb bp ww bk pw:Nat)
 B:Nat→Value
structure Chs (h:Heap) (lo hi:Nat) (c:ChB) (n:Nat) (M:Nat→Nat→Bool) (D:Nat→Bool):Prop where
 rn:Rw h c.bn [.int .i64 n]
 rw_:Rw h c.bw [.slice (some ⟨c.ww,0,none⟩) n n]
 rb:Rw h c.bb [.slice (some ⟨c.bk,0,none⟩) n n]
 rp:Rw h c.bp [.slice (some ⟨c.pw,0,none⟩) n n]
 waits:Rw h c.ww (cntV n (cnt n M D))
 placed:Rw h c.pw (brow n D)
 behind:Rw h c.bk ((List.range n).map c.B)
 beh:∀ p,p<n→Holder 1 h (c.B p) (rest (M p) n 0).length (natsV (rest (M p) n 0)) lo∧bl (c.B p)≠c.ww∧bl (c.B p)≠c.pw∧bh (c.B p)≤hi
 at_:lo≤c.bn∧c.bn<hi∧lo≤c.bw∧c.bw<hi∧lo≤c.bb∧c.bb<hi∧lo≤c.bp∧c.bp<hi∧lo≤c.ww∧c.ww<hi∧lo≤c.pw∧c.pw<hi∧lo≤c.bk∧c.bk<hi
 ne:c.ww≠c.pw∧c.ww≠c.bn∧c.ww≠c.bw∧c.ww≠c.bb∧c.ww≠c.bp∧c.ww≠c.bk∧c.pw≠c.bn∧c.pw≠c.bw∧c.pw≠c.bb∧c.pw≠c.bp∧c.pw≠c.bk
 small:n≤256
theorem Chs.fr {h h':Heap} {lo hi l r n:Nat} {c:ChB} {M:Nat→Nat→Bool} {D:Nat→Bool} (t:Chs h lo hi c n M D) (f:Fr l r h h') (hd:hi≤l∨r≤lo∨r≤l):Chs h' lo hi c n M D:=by
 have a:=t.at_
 refine ⟨t.rn.fr f (by omega),t.rw_.fr f (by omega),t.rb.fr f (by omega),t.rp.fr f (by omega),t.waits.fr f (by omega),t.placed.fr f (by omega),t.behind.fr f (by omega),fun p hp=>?_,a,t.ne,t.small⟩
 obtain ⟨h1,h2,h3,h4⟩:=t.beh p hp
 have:=h1.at_
 exact ⟨h1.fr f (by omega),h2,h3,h4⟩
def ChB.next (c:ChB):Value:=.func (.func 141) #[] #[.pointer (some ⟨c.bn,0,none⟩),.pointer (some ⟨c.bp,0,none⟩),.pointer (some ⟨c.bw,0,none⟩)]
def ChB.place (c:ChB):Value:=.func (.func 142) #[] #[.pointer (some ⟨c.bp,0,none⟩),.pointer (some ⟨c.bb,0,none⟩),.pointer (some ⟨c.bw,0,none⟩)]
theorem chooser_next {h:Heap} {lo hi n:Nat} {c:ChB} {M:Nat→Nat→Bool} {D:Nat→Bool} (t:Chs h lo hi c n M D) {q:Nat} (hq:q≤n) :
  Con Tryd.prog 141 #[.int .i64 q,.pointer (some ⟨c.bn,0,none⟩),.pointer (some ⟨c.bp,0,none⟩),.pointer (some ⟨c.bw,0,none⟩)] h fun v h'=>h'=h∧v=.int .i64 (nx (lf (freeB n M D) n q)):=by
 refine con_q54 ?_
 have hs:=t.small
 simp -dsimp only [go_sem]
 refine loop_intro (fun i:Nat=>[(1,.pointer (some ⟨c.bn,0,none⟩)),(2,.pointer (some ⟨c.bp,0,none⟩)),(3,.pointer (some ⟨c.bw,0,none⟩)),(6,.int .i64 i)])
  (fun i h'=>h'=h∧i≤n∧lf (freeB n M D) n q=lf (freeB n M D) n i) (fun i=>n - i) q ?_ ?_ ?_
 ·simp [Le,find]
 ·exact ⟨rfl,hq,rfl⟩
 rintro i h1 ⟨rfl,hi',hlf⟩
 simp -dsimp only [go_sem,t.rn.cell]
 refine ⟨fun hlt=>?_,fun hge=>?_⟩
 ·have hlt:i<n:=by omega
  simp -dsimp only [go_sem,t.rp.cell]
  refine Chk_intro (by omega) ?_
  simp -dsimp only [go_sem,t.placed.cell,brow_get hlt]
  cases hD:D i with
  | true =>
   simp -dsimp only [go_sem]
   simp -dsimp (disch:=omega) only [wrap64]
   exact ⟨i+1,by omega,by simp [Le,find],by omega,by rw [hlf,lf_step _ hlt];simp [freeB,hD]⟩
  | false =>
   simp -dsimp only [go_sem,t.rw_.cell]
   refine Chk_intro (by omega) ?_
   simp -dsimp only [go_sem,t.waits.cell,cntV_get hlt]
   refine ⟨fun h0=>?_,fun h0=>?_⟩
   ·simp -dsimp only [go_sem]
    have:freeB n M D i=true:=by rw [cnt_zero,hD];simpa using h0
    rw [hlf,lf_step _ hlt,if_pos this];rfl
   ·simp -dsimp only [go_sem]
    simp -dsimp (disch:=omega) only [wrap64]
    have:freeB n M D i=false:=by rw [cnt_zero,hD];simpa using h0
    exact ⟨i+1,by omega,by simp [Le,find],by omega,by rw [hlf,lf_step _ hlt,if_neg (by rw [this];simp)]⟩
 ·simp -dsimp only [go_sem]
  have:i=n:=by omega
  rw [hlf,lf_end _ (by omega)];rfl
end Go.Proofs.Tst
namespace Go.Proofs.Tst
open Go Go.Vc
theorem countP_upd {f g:Nat→Bool} {p:Nat}:∀ (n:Nat),(∀ a,a≠p→f a=g a)→(List.range n).countP f+(if p<n then (g p).toNat else 0)=(List.range n).countP g+(if p<n then (f p).toNat else 0)
 | 0,_=>by simp
 | n+1,h=>by
  have ih:=countP_upd n h
  rw [List.range_succ,List.countP_append,List.countP_append]
  by_cases hp:p=n
  ·subst hp
   simp only [Nat.lt_irrefl,if_false,Nat.lt_succ_self,if_true] at ih ⊢
   rw [List.countP_singleton,List.countP_singleton]
   cases f p <;> cases g p <;> simp only [Bool.toNat_true,Bool.toNat_false,if_true,if_false,Bool.false_eq_true] <;> omega
  ·have:f n=g n:=h n (fun h=>hp h.symm)
   have e:(p<n+1)=(p<n):=by simp;omega
   simp only [e,List.countP_cons,List.countP_nil,this]
   omega
theorem cnt_upd {n:Nat} {M:Nat→Nat→Bool} {D:Nat→Bool} {p q:Nat} {b:Bool} (hp:p<n) (hD:D p=!b) :
  cnt n M (fun k=>if k=p then b else D k) q+(M p q&&b).toNat=cnt n M D q+(M p q&&!b).toNat:=by
 unfold cnt
 have:=countP_upd (f:=fun a=>M a q&&!(if a=p then b else D a)) (g:=fun a=>M a q&&!D a) (p:=p) n (fun a ha=>by simp [ha])
 simp only [hp,if_true,hD,Bool.not_not] at this
 exact this
theorem chooser_place {h:Heap} {lo hi n:Nat} {c:ChB} {M:Nat→Nat→Bool} {D:Nat→Bool} (t:Chs h lo hi c n M D) {p:Nat} (hp:p<n) (b:Bool) (hD:D p=!b) :
  Con Tryd.prog 142 #[.int .i64 p,.bool b,.pointer (some ⟨c.bp,0,none⟩),.pointer (some ⟨c.bb,0,none⟩),.pointer (some ⟨c.bw,0,none⟩)] h
   fun v h'=>Fr lo hi h h'∧h'.size=h.size∧Chs h' lo hi c n M (fun k=>if k=p then b else D k):=by
 refine con_q55 ?_
 have hs:=t.small
 have hne:=t.ne
 have hat:=t.at_
 simp -dsimp only [go_sem,t.rp.cell]
 refine Chk_intro (by omega) ?_
 simp -dsimp only [go_sem]
 refine Chk_intro (t.placed.wr (by simp;omega)) fun h1 s1=>?_
 have z1:=s1.size
 have rp1:=s1.row t.placed
 rw [cl_bool,putAt_one,brow_set] at rp1
 have rn1:=s1.rw t.rn (by omega);have rw1:=s1.rw t.rw_ (by omega);have rb1:=s1.rw t.rb (by omega);have rpp1:=s1.rw t.rp (by omega);have wt1:=s1.rw t.waits (by omega);have bk1:=s1.rw t.behind (by omega)
 have beh1:∀ p,p<n→Holder 1 h1 (c.B p) (rest (M p) n 0).length (natsV (rest (M p) n 0)) lo:=fun p hp=>(t.beh p hp).1.fr s1.fr (by
  have:=(t.beh p hp).1.at_;have:=(t.beh p hp).2;omega)
 simp -dsimp only [go_sem,rb1.cell]
 refine Chk_intro (by omega) ?_
 have hBp:((List.range n).map c.B)[p]?=some (c.B p):=by simp [hp]
 have hB1:=(beh1 p hp)
 obtain ⟨ba,bc,hBv⟩:=hB1.is
 rw [hBv] at hBp hB1
 have hB2:=(t.beh p hp).2
 rw [hBv] at hB2
 simp -dsimp only [go_sem,bk1.cell,hBp]
 have hLn:=length_rest_le (M p) n 0
 refine loop_intro (fun j:Nat=>[(1,.bool b),(4,.pointer (some ⟨c.bw,0,none⟩)),(16,.slice ba (rest (M p) n 0).length bc),(17,.int .i64 (rest (M p) n 0).length),(18,.int .i64 j)])
  (fun j h'=>j≤(rest (M p) n 0).length∧Fr c.ww (c.ww+1) h1 h'∧h'.size=h1.size∧Rw h' c.ww (cntV n fun q=>if q∈(rest (M p) n 0).take j then cnt n M (fun k=>if k=p then b else D k) q else cnt n M D q)) (fun j=>(rest (M p) n 0).length - j) 0 ?_ ?_ ?_
 ·simp [Le,find]
 ·exact ⟨by omega,.refl _ _ _,rfl,by simpa using wt1⟩
 rintro j h2 ⟨hj,f2,z2,wt2⟩
 have rw2:=rw1.fr f2 (by omega)
 simp -dsimp only [go_sem]
 refine ⟨fun hlt=>?_,fun hge=>?_⟩
 ·have hlt:j<(rest (M p) n 0).length:=by omega
  have hq:(rest (M p) n 0)[j]?=some (rest (M p) n 0)[j]:=by simp
  have htk:(rest (M p) n 0).take (j+1)=(rest (M p) n 0).take j++[(rest (M p) n 0)[j]]:=by rw [List.take_succ_eq_append_getElem hlt]
  have hmem:(rest (M p) n 0)[j]∈rest (M p) n 0:=List.getElem_mem _
  have hnot:(rest (M p) n 0)[j]∉(rest (M p) n 0).take j:=by
   have hnd:(rest (M p) n 0).Nodup:=by unfold rest;exact List.Nodup.sublist List.filter_sublist (List.nodup_range')
   have:((rest (M p) n 0).take (j+1)).Nodup:=hnd.sublist (List.take_sublist _ _)
   rw [htk,List.nodup_append] at this
   exact fun hm=>this.2.2 _ hm _ (by simp) rfl
  generalize (rest (M p) n 0)[j]=q at hq htk hmem hnot
  obtain ⟨_,hqn,hMq⟩:=mem_rest.1 hmem
  have hcu:=cnt_upd (q:=q) (M:=M) hp hD
  rw [hMq] at hcu
  have hc1:=cnt_le n M D q
  have hc2:=cnt_le n M (fun k=>if k=p then b else D k) q
  have hrd:Rd 1 h2 (.slice ba (rest (M p) n 0).length bc) (rest (M p) n 0).length (natsV (rest (M p) n 0)):=(hB1.fr f2 (by have:=hB1.at_;omega)).rd
  have fin:∀ h3,Sto h2 h3 c.ww q [.int .i64 ((cnt n M (fun k=>if k=p then b else D k) q:Nat):Int)]→Fr c.ww (c.ww+1) h1 h3∧h3.size=h1.size∧Rw h3 c.ww (cntV n fun x=>if x∈(rest (M p) n 0).take (j+1) then cnt n M (fun k=>if k=p then b else D k) x else cnt n M D x):=fun h3 s3=>by
   refine ⟨f2.trans s3.fr,by have:=s3.size;omega,?_⟩
   have r:=s3.row wt2
   rw [putAt_one,cntV_set] at r
   rw [cntV_congr (fun x hx=>?_)]
   ·exact r
   ·rw [htk]
    by_cases hxq:x=q
    ·subst hxq;simp
    ·simp [hxq]
  simp -dsimp only [go_sem]
  refine Chk_intro (by omega) (hrd.idx (by omega) fun b5 o5 c5=>?_)
  simp -dsimp only [go_sem,c5 j _ (natsV_get hq)]
  cases b with
  | true =>
   refine ⟨fun _=>?_,fun h=>absurd rfl h⟩
   simp -dsimp only [go_sem,rw2.cell]
   refine Chk_intro (by omega) ?_
   simp -dsimp only [go_sem,wt2.cell,cntV_get hqn,hnot]
   refine Chk_intro (by omega) ?_
   simp -dsimp only [go_sem]
   refine Chk_intro (wt2.wr (by simp;omega)) fun h3 s3=>?_
   rw [cl_int,wrap64 (by omega) (by omega),show ((cnt n M D q:Nat):Int) - 1=((cnt n M (fun k=>if k=p then true else D k) q:Nat):Int) from by simp only [Bool.true_and,Bool.not_true,Bool.not_false,Bool.toNat_true,Bool.toNat_false] at hcu;omega] at s3
   simp -dsimp only [go_sem]
   simp -dsimp (disch:=omega) only [wrap64]
   exact ⟨j+1,by omega,by simp [Le,find],by omega,fin h3 s3⟩
  | false =>
   refine ⟨fun h=>absurd h (by decide),fun _=>?_⟩
   simp -dsimp only [go_sem,rw2.cell]
   refine Chk_intro (by omega) ?_
   simp -dsimp only [go_sem,wt2.cell,cntV_get hqn,hnot]
   refine Chk_intro (by omega) ?_
   simp -dsimp only [go_sem]
   refine Chk_intro (wt2.wr (by simp;omega)) fun h3 s3=>?_
   rw [cl_int,wrap64 (by omega) (by omega),show ((cnt n M D q:Nat):Int)+1=((cnt n M (fun k=>if k=p then false else D k) q:Nat):Int) from by simp only [Bool.true_and,Bool.not_true,Bool.not_false,Bool.toNat_true,Bool.toNat_false] at hcu;omega] at s3
   simp -dsimp only [go_sem]
   simp -dsimp (disch:=omega) only [wrap64]
   exact ⟨j+1,by omega,by simp [Le,find],by omega,fin h3 s3⟩
 ·have:j=(rest (M p) n 0).length:=by omega
  subst this
  simp -dsimp only [go_sem]
  refine ⟨(s1.fr.mono (by omega)).trans (f2.mono (by omega)),by omega,rn1.fr f2 (by omega),rw2,rb1.fr f2 (by omega),rpp1.fr f2 (by omega),?_,rp1.fr f2 (by omega),bk1.fr f2 (by omega),fun x hx=>?_,hat,hne,hs⟩
  ·rw [cntV_congr (fun x hx=>?_)]
   ·exact wt2
   ·rw [List.take_length]
    have hcu:=cnt_upd (q:=x) (M:=M) hp hD
    by_cases hx':M p x=true
    ·rw [if_pos (mem_rest.2 ⟨by omega,hx,hx'⟩)]
    ·rw [if_neg (fun h=>hx' (mem_rest.1 h).2.2)]
     have:M p x=false:=by simpa using hx'
     rw [this] at hcu;simpa using hcu
  ·obtain ⟨g1,g2,g3,g4⟩:=t.beh x hx
   exact ⟨(beh1 x hx).fr f2 (by have:=g1.at_;omega),g2,g3,g4⟩
end Go.Proofs.Tst
namespace Go.Proofs.Tst
open Go Go.Vc
theorem order_chooser {n:Nat} {M:Nat→Nat→Bool} {p:Value} {lo hi:Nat} {h:Heap} (hr:ProgAt h lo hi p n M) (ht:TabAt h) :
  Con Tryd.prog 99 #[p] h fun v h'=>Fr 0 0 h h'∧∃ c:ChB,v=.tuple #[c.next,c.place]∧Chs h' h.size h'.size c n M fun _=>false:=by
 refine con_q53 ?_
 have hn:=hr.1
 simp -dsimp only [go_sem]
 refine call_of (rel_Len hr) ?_
 rintro v h0 ⟨rfl,rfl⟩
 simp -dsimp only [go_sem]
 intro bn h1 n1
 simp -dsimp only [go_sem]
 refine ⟨n1.row.wr (by simp),fun h2 s2=>?_⟩
 have rn2:=s2.row n1.row
 simp -dsimp only [go_sem] at rn2
 have a1:=n1.at_;have z1:=n1.size;have z2:=s2.size
 have p2:Fr 0 0 h0 h2:=n1.f0.fresh s2.fr (by omega)
 simp -dsimp only [go_sem,rn2.cell]
 refine Chk_intro (by omega) ?_
 intro ww h3 n3
 simp -dsimp only [go_sem]
 intro bw h4 n4
 simp -dsimp only [go_sem]
 refine ⟨n4.row.wr (by simp),fun h5 s5=>?_⟩
 have a3:=n3.at_;have z3:=n3.size;have a4:=n4.at_;have z4:=n4.size;have z5:=s5.size
 have rw5:=s5.row n4.row
 have rw_w5:=s5.rw (n4.rw n3.row) (by omega)
 have rn5:=s5.rw (n4.rw (n3.rw rn2)) (by omega)
 have p5:Fr 0 0 h0 h5:=((p2.trans n3.fr).trans n4.fr).fresh s5.fr (by omega)
 simp -dsimp only [go_sem] at rw5
 simp -dsimp only [go_sem,rn5.cell]
 refine Chk_intro (by omega) ?_
 intro bk h6 n6
 simp -dsimp only [go_sem]
 intro bb h7 n7
 simp -dsimp only [go_sem]
 refine ⟨n7.row.wr (by simp),fun h8 s8=>?_⟩
 have a6:=n6.at_;have z6:=n6.size;have a7:=n7.at_;have z7:=n7.size;have z8:=s8.size
 have rb8:=s8.row n7.row
 have rk8:=s8.rw (n7.rw n6.row) (by omega)
 have rw8:=s8.rw (n7.rw (n6.rw rw5)) (by omega)
 have rww8:=s8.rw (n7.rw (n6.rw rw_w5)) (by omega)
 have rn8:=s8.rw (n7.rw (n6.rw rn5)) (by omega)
 have p8:Fr 0 0 h0 h8:=((p5.trans n6.fr).trans n7.fr).fresh s8.fr (by omega)
 simp -dsimp only [go_sem] at rb8
 rw [zeros_one,Int.toNat_natCast] at rk8 rww8
 simp -dsimp only [go_sem]
 refine call_of (rel_Pairs (hr.fr p8 (by omega)) (ht.fr p8 (by omega))) ?_
 rintro v h9 ⟨p9,o9⟩
 obtain ⟨pa,pc,rfl⟩:=o9.is
 have y9:=p9.size
 have w9:=o9.at_
 simp -dsimp only [go_sem]
 refine loop_intro (fun j:Nat=>[(4,.pointer (some ⟨bn,0,none⟩)),(5,.pointer (some ⟨bw,0,none⟩)),(6,.pointer (some ⟨bb,0,none⟩)),(17,.slice pa (pairsOf n M).length pc),(18,.int .i64 (pairsOf n M).length),(19,.int .i64 j)])
  (fun j h'=>j≤(pairsOf n M).length∧Fr 0 0 h0 h'∧h9.size≤h'.size∧Rw h' bn [.int .i64 n]∧Rw h' bw [.slice (some ⟨ww,0,none⟩) n n]∧Rw h' bb [.slice (some ⟨bk,0,none⟩) n n] ∧
   Holder 2 h' (.slice pa (pairsOf n M).length pc) (pairsOf n M).length (pairsV (pairsOf n M)) h8.size ∧
   Rw h' ww (cntV n fun q=>((pairsOf n M).take j).countP fun p=>p.2==(q:Int)) ∧
   ∃ B:Nat→Value,Rw h' bk ((List.range n).map B)∧(∀ a,a<n→Holder 1 h' (B a) ((((pairsOf n M).take j).filter fun p=>p.1==(a:Int)).map (fun p=>p.2.toNat)).length (natsV ((((pairsOf n M).take j).filter fun p=>p.1==(a:Int)).map (fun p=>p.2.toNat))) h9.size) ∧
    ∀ a b,a<n→b<n→a≠b→bh (B a)=0∨bl (B a)≠bl (B b))
  (fun j=>(pairsOf n M).length - j) 0 ?_ ?_ ?_
 ·simp [Le,find]
 ·refine ⟨by omega,p8.trans p9,by omega,rn8.fr p9 (by omega),rw8.fr p9 (by omega),rb8.fr p9 (by omega),o9,?_,fun _=>.slice none 0 0,?_,fun a ha=>Holder.none _ _ _,fun a b ha hb hab=>.inl rfl⟩
  ·have:=rww8.fr p9 (by omega)
   have e:List.replicate n (Value.int .i64 0)=cntV n fun q=>((pairsOf n M).take 0).countP fun p=>p.2==(q:Int):=by
    apply List.ext_getElem?;intro k
    by_cases hk:k<n
    ·rw [cntV_get hk];simp [hk]
    ·rw [List.getElem?_eq_none (by simp;omega),List.getElem?_eq_none (by simp;omega)]
   rw [e] at this;exact this
  ·have:=rk8.fr p9 (by omega)
   have e:List.replicate n (Value.slice none 0 0)=(List.range n).map fun _=>Value.slice none 0 0:=by
    apply List.ext_getElem?;intro k
    by_cases hk:k<n
    ·simp [hk]
    ·simp [hk]
   rw [e] at this;exact this
 rintro j h10 ⟨hj,p10,y10,rn,rw',rb,od,rww,B,rk,hB,hBB⟩
 simp -dsimp only [go_sem]
 refine ⟨fun hlt=>?_,fun hge=>?_⟩
 ·have hlt:j<(pairsOf n M).length:=by omega
  have hq:(pairsOf n M)[j]?=some (pairsOf n M)[j]:=by simp
  have htk:(pairsOf n M).take (j+1)=(pairsOf n M).take j++[(pairsOf n M)[j]]:=by rw [List.take_succ_eq_append_getElem hlt]
  have hmem:(pairsOf n M)[j]∈pairsOf n M:=List.getElem_mem _
  generalize (pairsOf n M)[j]=q at hq htk hmem
  obtain ⟨a,b,ha,hb,hm,rfl⟩:=mem_pairsOf.1 hmem
  have hpl:=length_pairsTo_le n M n
  have g3:n * n≤256 * 256:=Nat.mul_le_mul (by omega) (by omega)
  have g4:(pairsOf n M).length≤n * n:=hpl
  have k1:=rn.lt;have k2:=rw'.lt;have k3:=rb.lt;have k4:=rww.lt;have k5:=rk.lt
  simp -dsimp only [go_sem]
  refine Chk_intro (by omega) (od.rd.pair hq fun b6 o6 c6 c7=>?_)
  simp -dsimp only [go_sem,c6,c7]
  intro b11 h11 n11
  simp -dsimp only [go_sem]
  refine ⟨n11.row.wr (by simp),fun h12 s12=>?_⟩
  have a11:=n11.at_;have z11:=n11.size;have z12:=s12.size
  have r12:=s12.row n11.row
  simp -dsimp only [go_sem] at r12
  have f12:Fr 0 0 h10 h12:=n11.f0.fresh s12.fr (by omega)
  have rww12:=rww.fr f12 (by omega)
  have rw12:=rw'.fr f12 (by omega)
  simp -dsimp only [go_sem,rw12.cell,r12.cell]
  refine Chk_intro (by omega) ?_
  simp -dsimp only [go_sem,rww12.cell,cntV_get hb]
  refine Chk_intro (by omega) ?_
  simp -dsimp only [go_sem]
  have hcl:(((pairsOf n M).take j).countP fun p=>p.2==(b:Int))≤j:=Nat.le_trans List.countP_le_length (by simp;omega)
  refine Chk_intro (rww12.wr (by simp;omega)) fun h13 s13=>?_
  have r13:=s13.row rww12
  rw [cl_int,wrap64 (by omega) (by omega),putAt_one,show (((((pairsOf n M).take j).countP fun p=>p.2==(b:Int)):Nat):Int)+1=((((pairsOf n M).take j).countP (fun p=>p.2==(b:Int))+1:Nat):Int) from by omega,cntV_set] at r13
  have z13:=s13.size
  have rb13:=s13.rw (rb.fr f12 (by omega)) (by omega)
  have rp13:=s13.rw r12 (by omega)
  have rk13:=s13.rw (rk.fr f12 (by omega)) (by omega)
  have hBa:((List.range n).map B)[a]?=some (B a):=by simp [ha]
  simp -dsimp only [go_sem,rb13.cell,rp13.cell]
  refine Chk_intro (by omega) ?_
  simp -dsimp only [go_sem,rk13.cell,hBa,rp13.cell]
  intro b14 h14 n14
  have a14:=n14.at_;have z14:=n14.size
  have wa:=(hB a ha).at_
  have hBf:∀ x,x<n→Holder 1 h14 (B x) ((((pairsOf n M).take j).filter fun p=>p.1==(x:Int)).map (fun p=>p.2.toNat)).length (natsV ((((pairsOf n M).take j).filter fun p=>p.1==(x:Int)).map (fun p=>p.2.toNat))) h9.size:=fun x hx =>
   (((hB x hx).fr f12 (by omega)).fr s13.fr (by have:=(hB x hx).at_;omega)).fr n14.f0 (by omega)
  have hfl:((((pairsOf n M).take j).filter fun p=>p.1==(a:Int)).map (fun p=>p.2.toNat)).length≤j:=by
   rw [List.length_map];exact Nat.le_trans (List.length_filter_le _ _) (by simp;omega)
  have hBh:=hBf a ha
  obtain ⟨ba,bc,hBv⟩:=hBh.is
  rw [hBv] at hBh hBa wa
  simp -dsimp only [go_sem,hBv,n14.row.cell]
  refine hBh.append (by omega) rfl (by omega) (by simp) (by omega) fun v15 h15 o15 f15 e15=>?_
  have y15:=f15.size
  have w15:=o15.at_
  have rb15:=(n14.rw rb13).fr f15 (by omega)
  have rp15:=(n14.rw rp13).fr f15 (by omega)
  have rk15:=(n14.rw rk13).fr f15 (by omega)
  obtain ⟨va,vc,rfl⟩:=o15.is
  simp -dsimp only [go_sem,rb15.cell,rp15.cell,rk15.cell,hBa,hBv]
  refine Chk_intro (by omega) ?_
  simp -dsimp only [go_sem]
  refine Chk_intro (rk15.wr (by simp;omega)) fun h16 s16=>?_
  have z16:=s16.size
  have rk16:=s16.row rk15
  simp -dsimp only [go_sem]
  simp -dsimp (disch:=omega) only [wrap64]
  have q15:Fr 0 0 h0 h15:=(((p10.trans f12).fresh s13.fr (by omega)).trans n14.fr).fresh f15 (by omega)
  have q16:=q15.fresh s16.fr (by omega)
  have step:∀ {x c},Rw h12 x c→x≠ww→x≠bk→(x<bl (.slice ba ((((pairsOf n M).take j).filter fun p=>p.1==(a:Int)).map (fun p=>p.2.toNat)).length bc)∨bh (.slice ba ((((pairsOf n M).take j).filter fun p=>p.1==(a:Int)).map (fun p=>p.2.toNat)).length bc)≤x)→Rw h16 x c:=fun r h1 h2 h3 =>
   s16.rw ((n14.rw (s13.rw r h1)).fr f15 h3) h2
  refine ⟨j+1,by omega,by simp [Le,find],by omega,q16,by omega,step (rn.fr f12 (by omega)) (by omega) (by omega) (by omega),step (rw12) (by omega) (by omega) (by omega),step (rb.fr f12 (by omega)) (by omega) (by omega) (by omega),?_,?_,fun x=>if x=a then .slice va (((((pairsOf n M).take j).filter fun p=>p.1==(a:Int)).map (fun p=>p.2.toNat)).length+1) vc else B x,?_,?_,?_⟩
  ·exact ((((od.fr f12 (by omega)).fr s13.fr (by omega)).fr n14.f0 (by omega)).fr f15 (by omega)).fr s16.fr (by omega)
  ·have:=s16.rw ((n14.rw r13).fr f15 (by omega)) (show ww≠bk by omega)
   rw [cntV_congr (fun x hx=>?_)]
   ·exact this
   ·rw [htk,List.countP_append,List.countP_singleton]
    by_cases hxb:x=b
    ·subst hxb;simp
    ·have:((b:Int)==(x:Int))=false:=by simp;omega
     simp [hxb,this]
  ·rw [cl_slice,putAt_one] at rk16
   have e:((List.range n).map B).set a (.slice va (((((pairsOf n M).take j).filter fun p=>p.1==(a:Int)).map (fun p=>p.2.toNat)).length+1) vc)=(List.range n).map fun x=>if x=a then .slice va (((((pairsOf n M).take j).filter fun p=>p.1==(a:Int)).map (fun p=>p.2.toNat)).length+1) vc else B x:=by
    apply List.ext_getElem?;intro k
    rw [List.getElem?_set]
    by_cases hka:a=k
    ·subst hka;simp [ha]
    ·rw [if_neg hka]
     by_cases hk:k<n
     ·simp [hk,Ne.symm hka]
     ·simp [hk]
   rw [e] at rk16;exact rk16
  ·intro x hx
   rw [htk,List.filter_append,List.map_append,natsV_append]
   by_cases hxa:x=a
   ·subst hxa
    have:=o15.fr s16.fr (by omega)
    have hnb:natsV [b]=[.int .i64 (b:Int)]:=rfl
    simpa [hnb] using this
   ·have hne:((a:Int)==(x:Int))=false:=by simp;omega
    have hx1:=(hBf x hx)
    have hx2:=(hB x hx).at_
    have hx3:=hBB a x ha hx (Ne.symm hxa)
    rw [hBv] at hx3
    have:=(hx1.fr f15 (by omega)).fr s16.fr (by omega)
    simpa [hxa,hne,natsV] using this
  ·intro x y hx hy hxy
   have hx2:=(hB x hx).at_
   have hy2:=(hB y hy).at_
   by_cases hxa:x=a
   ·subst hxa
    have hx3:=hBB x y ha hy hxy
    have hx4:=hBB y x hy ha (Ne.symm hxy)
    rw [hBv] at hx3 hx4
    simp only [if_true,if_neg (Ne.symm hxy)]
    omega
   ·by_cases hya:y=a
    ·subst hya
     have hx3:=hBB x y hx ha hxy
     rw [hBv] at hx3
     simp only [if_true,if_neg hxy]
     omega
    ·simp only [if_neg hxa,if_neg hya]
     exact hBB x y hx hy hxy
 ·have hjl:j=(pairsOf n M).length:=by omega
  subst hjl
  rw [List.take_length] at hB rww
  simp -dsimp only [go_sem,rn.cell]
  refine Chk_intro (by omega) ?_
  intro pw h11 n11
  simp -dsimp only [go_sem]
  intro bp h12 n12
  simp -dsimp only [go_sem]
  refine ⟨n12.row.wr (by simp),fun h13 s13=>?_⟩
  have a11:=n11.at_;have z11:=n11.size;have a12:=n12.at_;have z12:=n12.size;have z13:=s13.size
  have rp:=s13.row n12.row
  have rpw:=s13.rw (n12.rw n11.row) (by omega)
  rw [zeros_one,Int.toNat_natCast,brow_false] at rpw
  simp -dsimp only [go_sem] at rp
  simp -dsimp only [go_sem]
  have k1:=rn.lt;have k2:=rw'.lt;have k3:=rb.lt;have k4:=rww.lt;have k5:=rk.lt
  have y10':=p10.size
  have f13:Fr 0 0 h10 h13:=(n11.f0.trans n12.fr).fresh s13.fr (by omega)
  refine ⟨p10.trans f13,⟨bn,bw,bb,bp,ww,bk,pw,B⟩,rfl,rn.fr f13 (by omega),rw'.fr f13 (by omega),rb.fr f13 (by omega),rp,?_,rpw,rk.fr f13 (by omega),fun x hx=>?_,by dsimp only;omega,by dsimp only;omega,hn⟩
  ·have:=rww.fr f13 (by omega)
   rw [cntV_congr (fun x hx=>?_)]
   ·exact this
   ·unfold cnt pairsOf
    rw [pairsTo_waits n M x hx n]
    simp
  ·have hb:=hB x hx
   unfold pairsOf at hb
   rw [pairsTo_behind,if_pos hx] at hb
   have wb:=hb.at_
   dsimp only
   exact ⟨(hb.fr f13 (by omega)).lower (by omega),by omega,by omega,by omega⟩
end Go.Proofs.Tst
namespace Go.Proofs.Tst
open Go Go.Vc
end Go.Proofs.Tst
namespace Go.Proofs.Tst
open Go Go.Vc
def WithinP (n:Nat) (M:Nat→Nat→Bool) (m:Nat) (N:Nat→Nat→Bool):Prop:=∀ a,a<n→∀ b,b<n→M a b=true→a<m∧b<m∧N a b=true
instance (n:Nat) (M:Nat→Nat→Bool) (m:Nat) (N:Nat→Nat→Bool):Decidable (WithinP n M m N):=by unfold WithinP;infer_instance
end Go.Proofs.Tst
namespace Go.Proofs.Tst
open Go Go.Vc
end Go.Proofs.Tst
namespace Go.Proofs.Tst
open Go Go.Vc
def glueGo (n:Nat) (F:Nat→Nat) (S:Nat→Int) (N:Nat→Nat→Bool):Nat→List Nat→Option (List Nat)
 | 0,l=>some l
 | k+1,l=>if n≤l.length then some l else match lf (fun p=>F p==p&&freeB n N l.contains p) n 0 with
  | none=>none
  | some p=>glueGo n F S N k (if S p≥0 then l++[p]++[(S p).toNat] else l++[p])
def orCyc (o:Option (List Nat)):Except Int (List Nat):=match o with | none=>.error 3 | some l=>.ok l
def glueS (n:Nat) (M:Nat→Nat→Bool) (l:List (Int×Int)):Except Int (List Nat):=
 match glueFS n l with
 | none=>.error 1
 | some (F,S)=>orCyc (glueGo n F S (glueM n M F S) n [])
def ResL (h:Heap) (lo:Nat) (v:Value) (o:Except Int (List Nat)):Prop:=
 match o with
 | .ok l=>∃ s,v=.tuple #[s,.int .i64 0]∧Holder 1 h s l.length (natsV l) lo
 | .error e=>v=.tuple #[.slice none 0 0,.int .i64 e]
theorem glueGo_end {n:Nat} {F:Nat→Nat} {S:Nat→Int} {N:Nat→Nat→Bool} {k:Nat} {l:List Nat} (h:n≤l.length):glueGo n F S N k l=some l:=by
 cases k with
 | zero=>rfl
 | succ k=>simp [glueGo,h]
end Go.Proofs.Tst
namespace Go.Proofs.Tst
open Go Go.Vc
set_option maxHeartbeats 1600000 in
theorem order_Glue {n:Nat} {M:Nat→Nat→Bool} {rv lv:Value} {l:List (Int×Int)} {lo hi:Nat} {h:Heap} (hr:ProgAt h lo hi rv n M) (ht:TabAt h) (hl:Rd 2 h lv l.length (pairsV l)) (hb:l.length≤4611686018427387904) :
  Con Tryd.prog 57 #[rv,lv] h fun v h'=>Fr 0 0 h h'∧ResL h' h.size v (glueS n M l):=by
 refine con_q51 ?_
 have hn:=hr.1
 obtain ⟨la,lc,rfl⟩:=hl.is
 have p0:Fr 0 0 h h:=.refl _ _ _
 simp -dsimp only [go_sem]
 refine call_of (rel_Len hr) ?_
 rintro v h1 ⟨rfl,rfl⟩
 simp -dsimp only [go_sem]
 refine Chk_intro (by omega) ?_
 intro bo h2 n2
 have n2_z:=n2.az
 replace p0:=p0.F n2.f0
 have ro:=n2.row
 rw [zeros_one,Int.toNat_natCast,ivec_rep] at ro
 simp -dsimp only [go_sem,ro.cell]
 refine Chk_intro (by omega) ?_
 intro bx h3 n3
 have n3_z:=n3.az
 replace p0:=p0.F n3.f0
 replace ro:=ro.F n3.f0
 have rx:=n3.row
 rw [zeros_one,Int.toNat_natCast,ivec_rep] at rx
 simp -dsimp only [go_sem,ro.cell,rx.cell]
 refine loop_intro (fun i:Nat=>[(0,rv),(1,.slice la l.length lc),(6,.int .i64 n),(7,.slice (some ⟨bo,0,none⟩) n n),(8,.slice (some ⟨bx,0,none⟩) n n),(27,.int .i64 n),(28,.int .i64 i)])
  (fun i h'=>i≤n∧Fr 0 0 h1 h'∧h3.size≤h'.size∧Rw h' bo (ivec n fun p=>if p<i then (p:Int) else 0)∧Rw h' bx (ivec n fun p=>if p<i then -1 else 0)) (fun i=>n - i) 0 ?_ ?_ ?_
 ·simp [Le,find]
 ·exact ⟨by omega,p0,by omega,by simpa using ro,by simpa using rx⟩
 rintro i h4 ⟨hi,p0,y4,ro,rx⟩
 have p0_z:=p0.size
 have ro_l:=ro.lt
 have rx_l:=rx.lt
 simp -dsimp only [go_sem,ro.cell,rx.cell]
 refine ⟨fun hlt=>?_,fun hge=>?_⟩
 ·have hlt:i<n:=by omega
  simp -dsimp only [go_sem,ro.cell,rx.cell]
  refine Chk_intro (by omega) ?_
  simp -dsimp only [go_sem,ro.cell,rx.cell]
  refine Chk_intro (ro.W) fun h5 s5=>?_
  have s5_z:=s5.size
  replace p0:=p0.F s5.fr
  replace rx:=rx.F s5.fr
  replace ro:=s5.row ro
  try simp only [cl_int,cl_bool,cl_slice,cl_ptr,putAt_one,zs0,zs1,ivec_set,brow_upd] at ro
  simp -dsimp only [go_sem,ro.cell,rx.cell]
  refine Chk_intro (by omega) ?_
  simp -dsimp only [go_sem,ro.cell,rx.cell]
  refine Chk_intro (rx.W) fun h6 s6=>?_
  have s6_z:=s6.size
  replace p0:=p0.F s6.fr
  replace ro:=ro.F s6.fr
  replace rx:=s6.row rx
  try simp only [cl_int,cl_bool,cl_slice,cl_ptr,putAt_one,zs0,zs1,ivec_set,brow_upd] at rx
  simp -dsimp only [go_sem,ro.cell,rx.cell]
  simp -dsimp (disch:=omega) only [wrap64]
  refine ⟨i+1,by omega,by simp [Le,find],by omega,p0,by omega,?_,?_⟩
  ·rw [ivec_congr fun p hp=>?_];exact ro
   by_cases h:p=i
   ·subst h;rw [upd_same,if_pos (by omega)]
   ·rw [upd_ne _ _ h];congr 1;simp;omega
  ·rw [ivec_congr fun p hp=>?_];exact rx
   by_cases h:p=i
   ·subst h;rw [upd_same,if_pos (by omega)]
   ·rw [upd_ne _ _ h];congr 1;simp;omega
 obtain rfl:n=i:=by omega
 replace ro:Rw h4 bo (ivec n fun p=>((id p:Nat):Int)):=by rw [ivec_congr fun p hp=>?_];exact ro;simp [hp]
 replace rx:Rw h4 bx (ivec n fun _=>-1):=by rw [ivec_congr fun p hp=>?_];exact rx;simp [hp]
 have a3:=p0.size
 simp -dsimp only [go_sem,ro.cell,rx.cell]
 refine Chk_intro (by omega) ?_
 intro bu h5 n5
 have n5_z:=n5.az
 replace p0:=p0.F n5.f0
 replace ro:=ro.F n5.f0
 replace rx:=rx.F n5.f0
 have ru:=n5.row
 rw [zeros_one,Int.toNat_natCast,brow_false] at ru
 simp -dsimp only [go_sem,ro.cell,rx.cell,ru.cell]
 refine loop_intro (fun i:Nat=>[(0,rv),(6,.int .i64 n),(7,.slice (some ⟨bo,0,none⟩) n n),(8,.slice (some ⟨bx,0,none⟩) n n),(10,.slice (some ⟨bu,0,none⟩) n n),(41,.slice la l.length lc),(42,.int .i64 l.length),(43,.int .i64 i)])
  (fun i h'=>i≤l.length∧Fr 0 0 h1 h'∧h5.size≤h'.size∧∃ (U:Nat→Bool) (F:Nat→Nat) (S:Nat→Int),Rw h' bo (ivec n fun p=>(F p:Int))∧Rw h' bx (ivec n S)∧Rw h' bu (brow n U)∧GluI n U F S∧glueIn n (l.drop i) U F S=glueFS n l) (fun i=>l.length - i) 0 ?_ ?_ ?_
 ·simp [Le,find]
 ·exact ⟨by omega,p0,by omega,_,_,_,ro,rx,ru,.start n,rfl⟩
 rintro i h6 ⟨hi,p0,y6,U,F,S,ro,rx,ru,hG,hgl⟩
 have p0_z:=p0.size
 have ro_l:=ro.lt
 have rx_l:=rx.lt
 have ru_l:=ru.lt
 simp -dsimp only [go_sem,ro.cell,rx.cell,ru.cell]
 refine ⟨fun hlt=>?_,fun hge=>?_⟩
 ·have hlt:i<l.length:=by omega
  have hp:l[i]?=some l[i]:=by simp [hlt]
  rw [List.drop_eq_getElem_cons hlt] at hgl
  generalize l[i]=p at hp hgl
  obtain ⟨a,b⟩:=p
  have bad:badP n U (a,b)→glueFS n l=none:=fun hb=>by rw [← hgl];simp [glueIn,hb]
  have fin:glueFS n l=none→glueS n M l=.error 1:=fun hb=>by simp [glueS,hb]
  simp -dsimp only [go_sem,ro.cell,rx.cell,ru.cell]
  refine Chk_intro (by omega) ((hl.fr p0).pair hp fun b7 o7 c1 c2=>?_)
  simp -dsimp only [go_sem,c1,c2,ro.cell,rx.cell,ru.cell]
  intro b8 h8 n8
  have n8_z:=n8.az
  replace p0:=p0.F n8.f0
  replace ro:=ro.F n8.f0
  replace rx:=rx.F n8.f0
  replace ru:=ru.F n8.f0
  have r8:=n8.row
  simp -dsimp only [go_sem,ro.cell,rx.cell,ru.cell,r8.cell]
  refine Chk_intro (r8.W) fun h9 s9=>?_
  have s9_z:=s9.size
  replace p0:=p0.F s9.fr
  replace ro:=ro.F s9.fr
  replace rx:=rx.F s9.fr
  replace ru:=ru.F s9.fr
  replace r8:=s9.row r8
  try simp only [cl_int,cl_bool,cl_slice,cl_ptr,putAt_one,zs0,zs1,ivec_set,brow_upd] at r8
  simp -dsimp only [go_sem] at r8
  by_cases g1:a<0
  ·simp -dsimp only [go_sem,g1,decide_true,ro.cell,rx.cell,ru.cell,r8.cell]
   exact ⟨p0,by rw [fin (bad (.inl g1))];rfl⟩
  by_cases g2:a≥(n:Int)
  ·simp -dsimp only [go_sem,g1,g2,decide_true,decide_false,ro.cell,rx.cell,ru.cell,r8.cell]
   exact ⟨p0,by rw [fin (bad (.inr (.inl g2)))];rfl⟩
  by_cases g3:b<0
  ·simp -dsimp only [go_sem,g1,g2,g3,decide_true,decide_false,ro.cell,rx.cell,ru.cell,r8.cell]
   exact ⟨p0,by rw [fin (bad (.inr (.inr (.inl g3))))];rfl⟩
  by_cases g4:b≥(n:Int)
  ·simp -dsimp only [go_sem,g1,g2,g3,g4,decide_true,decide_false,ro.cell,rx.cell,ru.cell,r8.cell]
   exact ⟨p0,by rw [fin (bad (.inr (.inr (.inr (.inl g4)))))];rfl⟩
  obtain ⟨x,rfl⟩:∃ x:Nat,a=x:=⟨a.toNat,by omega⟩
  obtain ⟨y,rfl⟩:∃ y:Nat,b=y:=⟨b.toNat,by omega⟩
  have hx:x<n:=by omega
  have hy:y<n:=by omega
  by_cases g5:x=y
  ·subst g5
   simp -dsimp only [go_sem,g1,g2,g3,g4,decide_true,decide_false,beq_self_eq_true,ro.cell,rx.cell,ru.cell,r8.cell]
   exact ⟨p0,by rw [fin (bad (.inr (.inr (.inr (.inr (.inl rfl))))))];rfl⟩
  have g5':((x:Int)==(y:Int))=false:=by simp;omega
  simp -dsimp only [go_sem,g1,g2,g3,g4,g5',decide_true,decide_false,decide_eq_false,ro.cell,rx.cell,ru.cell,r8.cell]
  refine Chk_intro (by omega) ?_
  simp -dsimp only [go_sem,brow_get hx,ro.cell,rx.cell,ru.cell,r8.cell]
  by_cases g6:U x=true
  ·simp -dsimp only [go_sem,g6,g1,g2,g3,g4,g5',decide_true,decide_false,ro.cell,rx.cell,ru.cell,r8.cell]
   exact ⟨p0,by rw [fin (bad (.inr (.inr (.inr (.inr (.inr (.inl (by simpa using g6))))))))];rfl⟩
  replace g6:U x=false:=Bool.eq_false_iff.2 g6
  simp -dsimp only [go_sem,g6,g1,g2,g3,g4,g5',decide_true,decide_false,ro.cell,rx.cell,ru.cell,r8.cell]
  refine Chk_intro (by omega) ?_
  simp -dsimp only [go_sem,brow_get hy,g6,ro.cell,rx.cell,ru.cell,r8.cell]
  by_cases g7:U y=true
  ·simp -dsimp only [go_sem,g7,g1,g2,g3,g4,g5',decide_true,decide_false,ro.cell,rx.cell,ru.cell,r8.cell]
   exact ⟨p0,by rw [fin (bad (.inr (.inr (.inr (.inr (.inr (.inr (by simpa using g7))))))))];rfl⟩
  replace g7:U y=false:=Bool.eq_false_iff.2 g7
  simp -dsimp only [go_sem,g7,g6,ro.cell,rx.cell,ru.cell,r8.cell]
  have nb:¬ badP n U ((x:Int),(y:Int)):=by
   simp [badP,g6,g7];omega
  refine Chk_intro (by omega) ?_
  simp -dsimp only [go_sem,ro.cell,rx.cell,ru.cell,r8.cell]
  refine Chk_intro (ru.W) fun h10 s10=>?_
  have s10_z:=s10.size
  replace p0:=p0.F s10.fr
  replace ro:=ro.F s10.fr
  replace rx:=rx.F s10.fr
  replace r8:=r8.F s10.fr
  replace ru:=s10.row ru
  try simp only [cl_int,cl_bool,cl_slice,cl_ptr,putAt_one,zs0,zs1,ivec_set,brow_upd] at ru
  simp -dsimp only [go_sem,ro.cell,rx.cell,ru.cell,r8.cell]
  refine Chk_intro (by omega) ?_
  simp -dsimp only [go_sem,ro.cell,rx.cell,ru.cell,r8.cell]
  refine Chk_intro (ru.W) fun h11 s11=>?_
  have s11_z:=s11.size
  replace p0:=p0.F s11.fr
  replace ro:=ro.F s11.fr
  replace rx:=rx.F s11.fr
  replace r8:=r8.F s11.fr
  replace ru:=s11.row ru
  try simp only [cl_int,cl_bool,cl_slice,cl_ptr,putAt_one,zs0,zs1,ivec_set,brow_upd] at ru
  simp -dsimp only [go_sem,ro.cell,rx.cell,ru.cell,r8.cell]
  refine Chk_intro (by omega) ?_
  simp -dsimp only [go_sem,ro.cell,rx.cell,ru.cell,r8.cell]
  refine Chk_intro (ro.W) fun h12 s12=>?_
  have s12_z:=s12.size
  replace p0:=p0.F s12.fr
  replace rx:=rx.F s12.fr
  replace ru:=ru.F s12.fr
  replace r8:=r8.F s12.fr
  replace ro:=s12.row ro
  try simp only [cl_int,cl_bool,cl_slice,cl_ptr,putAt_one,zs0,zs1,ivec_set,brow_upd] at ro
  simp -dsimp only [go_sem,ro.cell,rx.cell,ru.cell,r8.cell]
  refine Chk_intro (by omega) ?_
  simp -dsimp only [go_sem,ro.cell,rx.cell,ru.cell,r8.cell]
  refine Chk_intro (rx.W) fun h13 s13=>?_
  have s13_z:=s13.size
  replace p0:=p0.F s13.fr
  replace ro:=ro.F s13.fr
  replace ru:=ru.F s13.fr
  replace r8:=r8.F s13.fr
  replace rx:=s13.row rx
  try simp only [cl_int,cl_bool,cl_slice,cl_ptr,putAt_one,zs0,zs1,ivec_set,brow_upd] at rx
  simp -dsimp only [go_sem,ro.cell,rx.cell,ru.cell,r8.cell]
  simp -dsimp (disch:=omega) only [wrap64]
  simp only [glueIn,if_neg nb,Int.toNat_natCast] at hgl
  refine ⟨i+1,by omega,by simp [Le,find],by omega,p0,by omega,upd (upd U x true) y true,upd F y x,upd S x (y:Int),?_,rx,ru,hG.step hx hy g5 g6 g7,hgl⟩
  rw [ivec_congr fun p hp=>?_];exact ro
  unfold upd;split <;> rfl
 have hil:i=l.length:=by omega
 subst hil
 rw [List.drop_length] at hgl
 simp only [glueIn] at hgl
 have y1:=p0.size
 simp -dsimp only [go_sem,ro.cell,rx.cell,ru.cell]
 refine call_of (rel_New n h6) ?_
 rintro v7 h7 ⟨f7,t7⟩
 have f7_z:=f7.size
 replace p0:=p0.F f7
 replace ro:=ro.F f7
 replace rx:=rx.F f7
 replace ru:=ru.F f7
 have hcl:clampN n=n:=by unfold clampN;omega
 rw [hcl] at t7
 simp -dsimp only [go_sem,ro.cell,rx.cell,ru.cell]
 refine call_of (rel_Pairs (hr.fr p0 (by omega)) (ht.fr p0 (by omega))) ?_
 rintro v h8 ⟨f8,o8⟩
 have f8_z:=f8.size
 replace p0:=p0.F f8
 replace ro:=ro.F f8
 replace rx:=rx.F f8
 replace ru:=ru.F f8
 replace t7:=t7.fr f8 (by omega)
 obtain ⟨pa,pc,rfl⟩:=o8.is
 have g3:n * n≤256 * 256:=Nat.mul_le_mul (by omega) (by omega)
 have g4:(pairsOf n M).length≤n * n:=length_pairsTo_le n M n
 simp -dsimp only [go_sem,ro.cell,rx.cell,ru.cell]
 refine loop_intro (fun j:Nat=>[(6,.int .i64 n),(7,.slice (some ⟨bo,0,none⟩) n n),(8,.slice (some ⟨bx,0,none⟩) n n),(13,v7),(112,.slice pa (pairsOf n M).length pc),(113,.int .i64 (pairsOf n M).length),(114,.int .i64 j)])
  (fun j h'=>j≤(pairsOf n M).length∧Fr 0 0 h1 h'∧h8.size≤h'.size∧Rw h' bo (ivec n fun p=>(F p:Int))∧Rw h' bx (ivec n S)∧Holder 2 h' (.slice pa (pairsOf n M).length pc) (pairsOf n M).length (pairsV (pairsOf n M)) h7.size ∧
   ∃ N,ProgAt h' h6.size h7.size v7 n N∧∀ x y,N x y=true↔∃ p:Nat×Nat,((p.1:Int),(p.2:Int))∈(pairsOf n M).take j∧S p.1≠(p.2:Int)∧F p.1=x∧F p.2=y) (fun j=>(pairsOf n M).length - j) 0 ?_ ?_ ?_
 ·simp [Le,find]
 ·exact ⟨by omega,p0,by omega,ro,rx,o8,_,t7,by simp⟩
 rintro j h9 ⟨hj,p0,y9,ro,rx,o8,N,t9,hN⟩
 have p0_z:=p0.size
 have ro_l:=ro.lt
 have rx_l:=rx.lt
 have o8_l:=o8.top
 simp -dsimp only [go_sem,ro.cell,rx.cell]
 refine ⟨fun hlt=>?_,fun hge=>?_⟩
 ·have hlt:j<(pairsOf n M).length:=by omega
  have hq:(pairsOf n M)[j]?=some (pairsOf n M)[j]:=by simp
  have htk:(pairsOf n M).take (j+1)=(pairsOf n M).take j++[(pairsOf n M)[j]]:=by rw [List.take_succ_eq_append_getElem hlt]
  have hmem:(pairsOf n M)[j]∈pairsOf n M:=List.getElem_mem _
  generalize (pairsOf n M)[j]=q at hq htk hmem
  obtain ⟨a,b,ha,hb',hm,rfl⟩:=mem_pairsOf.1 hmem
  simp -dsimp only [go_sem,ro.cell,rx.cell]
  refine Chk_intro (by omega) (o8.rd.pair hq fun b6 o6 c6 c7=>?_)
  simp -dsimp only [go_sem,c6,c7,ro.cell,rx.cell]
  intro b10 h10 n10
  have n10_z:=n10.az
  replace p0:=p0.F n10.f0
  replace ro:=ro.F n10.f0
  replace rx:=rx.F n10.f0
  replace o8:=o8.fr n10.f0 (by have:=o8.at_;omega)
  replace t9:=t9.fr n10.f0 (by omega)
  have r10:=n10.row
  simp -dsimp only [go_sem,ro.cell,rx.cell,r10.cell]
  refine Chk_intro (r10.W) fun h11 s11=>?_
  have s11_z:=s11.size
  replace p0:=p0.F s11.fr
  replace ro:=ro.F s11.fr
  replace rx:=rx.F s11.fr
  replace o8:=o8.fr s11.fr (by have:=o8.at_;omega)
  replace t9:=t9.fr s11.fr (by omega)
  replace r10:=s11.row r10
  try simp only [cl_int,cl_bool,cl_slice,cl_ptr,putAt_one,zs0,zs1,ivec_set,brow_upd] at r10
  simp -dsimp only [go_sem] at r10
  simp -dsimp only [go_sem,ro.cell,rx.cell,r10.cell]
  refine Chk_intro (by omega) ?_
  simp -dsimp only [go_sem,ivec_get ha,ro.cell,rx.cell,r10.cell]
  refine ⟨fun hne=>?_,fun heq=>?_⟩
  ·have hFa:=hG.lt a ha
   have hFb:=hG.lt b hb'
   simp -dsimp only [go_sem,ro.cell,rx.cell,r10.cell]
   refine Chk_intro (by omega) ?_
   simp -dsimp only [go_sem,ivec_get ha,ro.cell,rx.cell,r10.cell]
   refine Chk_intro (by omega) ?_
   simp -dsimp only [go_sem,ivec_get hb',ro.cell,rx.cell,r10.cell]
   refine call_of (rel_Put t9 (F a) (F b) true) ?_
   rintro v12 h12 ⟨f12,z12,rfl,t12⟩
   have f12_z:=f12.size
   replace p0:=p0.F f12
   replace ro:=ro.F f12
   replace rx:=rx.F f12
   replace o8:=o8.fr f12 (by have:=o8.at_;omega)
   replace r10:=r10.F f12
   simp -dsimp only [go_sem,ro.cell,rx.cell,r10.cell]
   simp -dsimp (disch:=omega) only [wrap64]
   refine ⟨j+1,by omega,by simp [Le,find],by omega,p0,by omega,ro,rx,o8,_,t12,fun x y=>?_⟩
   have e:(inR n (F a)&&inR n (F b))=true:=by simp [inR];omega
   simp only [putM,e,Bool.true_and]
   rw [htk]
   by_cases hxy:x=F a∧y=F b
   ·obtain ⟨rfl,rfl⟩:=hxy
    simp only [beq_self_eq_true,Bool.and_self,if_true,true_iff]
    exact ⟨(a,b),by simp,by simpa using hne,rfl,rfl⟩
   ·have:((F a:Int)==(x:Int)&&(F b:Int)==(y:Int))=false:=by
     rw [Bool.eq_false_iff];intro h;apply hxy;simp at h;omega
    rw [this]
    simp only [Bool.false_eq_true,if_false]
    rw [hN]
    refine exists_congr fun p=>?_
    simp only [List.mem_append,List.mem_singleton,Prod.mk.injEq]
    constructor
    ·rintro ⟨h1,h2⟩;exact ⟨.inl h1,h2⟩
    ·rintro ⟨h1 | ⟨h1,h1'⟩,h2,h3,h4⟩
     ·exact ⟨h1,h2,h3,h4⟩
     ·have e1:p.1=a:=by omega
      have e2:p.2=b:=by omega
      rw [e1] at h3;rw [e2] at h4
      exact absurd ⟨h3.symm,h4.symm⟩ hxy
  ·simp -dsimp only [go_sem,ro.cell,rx.cell,r10.cell]
   simp -dsimp (disch:=omega) only [wrap64]
   refine ⟨j+1,by omega,by simp [Le,find],by omega,p0,by omega,ro,rx,o8,N,t9,fun x y=>?_⟩
   rw [htk,hN]
   refine exists_congr fun p=>?_
   simp only [List.mem_append,List.mem_singleton,Prod.mk.injEq]
   constructor
   ·rintro ⟨h1,h2⟩;exact ⟨.inl h1,h2⟩
   ·rintro ⟨h1 | ⟨h1,h1'⟩,h2,h3,h4⟩
    ·exact ⟨h1,h2,h3,h4⟩
    ·have e1:p.1=a:=by omega
     have e2:p.2=b:=by omega
     rw [e1,e2] at h2
     exact absurd h2 (by simpa using heq)
 have hjl:j=(pairsOf n M).length:=by omega
 subst hjl
 rw [List.take_length] at hN
 have t9:=t9.congr (M':=glueM n M F S) fun x y hx hy=>Bool.eq_iff_iff.2 (by
  rw [hN,glueM_true]
  constructor
  ·rintro ⟨⟨p,q⟩,h1,h2,h3,h4⟩
   obtain ⟨a,b,ha,hb,hm,he⟩:=mem_pairsOf.1 h1
   simp only [Prod.mk.injEq] at he
   have e1:p=a:=by omega
   have e2:q=b:=by omega
   subst e1 e2
   exact ⟨p,ha,q,hb,hm,h2,h3,h4⟩
  ·rintro ⟨p,hp,q,hq,hm,h2,h3,h4⟩
   exact ⟨(p,q),mem_pairsOf.2 ⟨p,q,hp,hq,hm,rfl⟩,h2,h3,h4⟩)
 have hS:glueS n M l=orCyc (glueGo n F S (glueM n M F S) n []):=by simp only [glueS,← hgl]
 clear hN
 generalize glueM n M F S=G at hS t9
 simp -dsimp only [go_sem,ro.cell,rx.cell]
 refine call_of (order_chooser t9 (ht.fr p0 (by omega))) ?_
 rintro v h10 ⟨f10,c,rfl,t10⟩
 have f10_z:=f10.size
 replace p0:=p0.F f10
 replace ro:=ro.F f10
 replace rx:=rx.F f10
 replace o8:=o8.fr f10 (by have:=o8.at_;omega)
 replace t9:=t9.fr f10 (by omega)
 have y10:=p0.size
 simp -dsimp only [go_sem,ro.cell,rx.cell]
 refine loop_intro (fun s:Value×Nat=>[(6,.int .i64 n),(7,.slice (some ⟨bo,0,none⟩) n n),(8,.slice (some ⟨bx,0,none⟩) n n),(16,c.next),(17,c.place),(18,s.1)])
  (fun s h'=>Fr 0 0 h1 h'∧h10.size≤h'.size∧Rw h' bo (ivec n fun p=>(F p:Int))∧Rw h' bx (ivec n S)∧∃ m:List Nat,m.length=s.2∧m.length≤n+1∧Chs h' h9.size h10.size c n G m.contains∧Holder 1 h' s.1 m.length (natsV m) h10.size∧(∀ q,q<n→F q≠q→m.contains q=m.contains (F q))∧∃ k,n≤m.length+k∧glueGo n F S G k m=glueGo n F S G n []) (fun s=>n - s.2) (.slice none 0 0,0) ?_ ?_ ?_
 ·simp [Le,find]
 ·exact ⟨p0,by omega,ro,rx,[],rfl,by simp,t10,.none _ _ _,by simp,n,by simp,rfl⟩
 rintro ⟨lv,i⟩ h12 ⟨p0,y12,ro,rx,m,hmi,hmn,t12,ol,hpt,k,hk,hgo⟩
 dsimp only at hmi ol ⊢
 subst hmi
 have p0_z:=p0.size
 have ro_l:=ro.lt
 have rx_l:=rx.lt
 have ol_l:=ol.top
 obtain ⟨va,vc,rfl⟩:=ol.is
 simp -dsimp only [go_sem,ro.cell,rx.cell]
 refine ⟨fun hlt=>?_,fun hge=>?_⟩
 ·have hlt:m.length<n:=by omega
  simp -dsimp only [go_sem,ChB.next,ro.cell,rx.cell]
  refine call_of (chooser_next (q:=0) t12 (by omega)) ?_
  rintro v h13 ⟨rfl,rfl⟩
  simp -dsimp only [go_sem,ro.cell,rx.cell]
  refine loop_intro (fun q:Nat=>[(6,.int .i64 n),(7,.slice (some ⟨bo,0,none⟩) n n),(8,.slice (some ⟨bx,0,none⟩) n n),(16,c.next),(17,c.place),(18,.slice va m.length vc),(19,.int .i64 (nx (lf (freeB n G m.contains) n q)))])
   (fun q h'=>q≤n∧h'=h13∧lf (fun p=>F p==p&&freeB n G m.contains p) n 0=lf (fun p=>F p==p&&freeB n G m.contains p) n q) (fun q=>n - q) 0 ?_ ?_ ?_
  ·simp [Le,find,ChB.next,ChB.place]
  ·exact ⟨by omega,rfl,rfl⟩
  rintro q _ ⟨hq,rfl,hlf⟩
  obtain ⟨hl0,hl1⟩:=lf_and (freeB n G m.contains) (fun p=>F p==p) n (n - q) q rfl
  have step:∀ x,x<n→lf (fun p=>F p==p&&freeB n G m.contains p) n 0=some x→freeB n G m.contains x=true→F x=x→∃ k',k=k' + 1∧glueGo n F S G k' (if S x≥0 then m++[x]++[(S x).toNat] else m++[x])=glueGo n F S G n []:=fun x hxn hx hfx hFx=>by
   obtain ⟨k,rfl⟩:∃ k',k=k' + 1:=⟨k - 1,by omega⟩
   simp only [glueGo,if_neg (show ¬ n≤m.length by omega),hx] at hgo
   exact ⟨k,rfl,hgo⟩
  cases hx:lf (freeB n G m.contains) n q with
  | none =>
   have hx':=hl0 hx
   rw [← hlf] at hx'
   simp -dsimp only [go_sem,hx,ro.cell,rx.cell]
   obtain ⟨k,rfl⟩:∃ k',k=k' + 1:=⟨k - 1,by omega⟩
   simp only [glueGo,if_neg (show ¬ n≤m.length by omega),hx'] at hgo
   exact ⟨p0,by rw [hS,← hgo];rfl⟩
  | some x =>
   obtain ⟨hqx,hxn,hfx⟩:=lf_some hx
   obtain ⟨hl2,hl3⟩:=hl1 x hx
   simp -dsimp only [go_sem,hx,ro.cell,rx.cell]
   refine Chk_intro (by omega) ?_
   simp -dsimp only [go_sem,ivec_get hxn,ro.cell,rx.cell]
   refine ⟨fun hne=>?_,fun heq=>?_⟩
   ·have hF:(F x==x)=false:=by simp at hne ⊢;omega
    simp -dsimp only [go_sem,ro.cell,rx.cell]
    rw [wrap64 (by omega) (by omega)]
    simp -dsimp only [go_sem,ChB.next,ro.cell,rx.cell]
    refine call_of (chooser_next (q:=x+1) t12 (by omega)) ?_
    rintro v h14 ⟨rfl,rfl⟩
    simp -dsimp only [go_sem,ro.cell,rx.cell]
    exact ⟨x+1,by omega,by simp [Le,find,ChB.next,ChB.place],by omega,hlf.trans (hl3 hF)⟩
   ·have hFx:F x=x:=by simp at heq;omega
    obtain ⟨k',hk',hgo'⟩:=step x hxn (hlf.trans (hl2 (by simp [hFx]))) hfx hFx
    have hDx:m.contains x=false:=(freeB_true.1 hfx).1
    simp -dsimp only [go_sem,ChB.place,ro.cell,rx.cell]
    refine call_of (chooser_place t12 hxn true (by simpa using hDx)) ?_
    rintro v h14 ⟨f14,z14,t14⟩
    have f14_z:=f14.size
    replace p0:=p0.F f14
    replace ro:=ro.F f14
    replace rx:=rx.F f14
    replace ol:=ol.fr f14 (by have:=ol.at_;omega)
    simp -dsimp only [go_sem,ro.cell,rx.cell]
    intro b15 h15 n15
    have n15_z:=n15.az
    replace p0:=p0.F n15.f0
    replace ro:=ro.F n15.f0
    replace rx:=rx.F n15.f0
    replace ol:=ol.fr n15.f0 (by have:=ol.at_;omega)
    replace t14:=t14.fr n15.f0 (by omega)
    simp -dsimp only [go_sem,n15.row.cell,ro.cell,rx.cell]
    refine ol.append (by omega) rfl (by omega) (by simp) (by omega) fun v16 h16 o_new f16 e_app=>?_
    have f16_z:=f16.size
    have o_at:=ol.at_
    replace p0:=p0.F f16
    replace ro:=ro.F f16
    replace rx:=rx.F f16
    replace t14:=t14.fr f16 (by omega)
    clear o_at e_app
    replace ol:=o_new
    have ol_l:=ol.top
    simp -dsimp only [go_sem,ro.cell,rx.cell]
    refine Chk_intro (by omega) ?_
    simp -dsimp only [go_sem,ivec_get hxn,ro.cell,rx.cell]
    have e1:(fun k=>if k=x then true else m.contains k)=(m++[x]).contains:=by
     funext j;by_cases hj:j=x <;> simp [hj]
    rw [e1] at t14
    have ol2:Holder 1 h16 v16 (m++[x]).length (natsV (m++[x])) h10.size:=by simpa [natsV] using ol
    have ol2_l:=ol2.top
    have hml:(m++[x]).length=m.length+1:=by simp
    have hpt':=hG.keep hxn hpt hFx
    rcases hG.snd x hxn with hs | ⟨y,hy,hs,hyx,hyF,hxF⟩
    ·rw [hs,if_neg (by decide)] at hgo'
     rw [hs,if_neg (by decide)] at hpt'
     simp -dsimp only [go_sem,hs,ro.cell,rx.cell]
     exact ⟨(v16,(m++[x]).length),by dsimp only;omega,by simp [Le,find,ChB.next,ChB.place],p0,by omega,ro,rx,m++[x],rfl,by omega,t14,ol2,hpt',k',by omega,hgo'⟩
    ·rw [hs,if_pos (by omega),Int.toNat_natCast] at hgo'
     rw [hs,if_pos (by omega),Int.toNat_natCast] at hpt'
     obtain ⟨wa,wc,rfl⟩:=ol2.is
     have hDy:(m++[x]).contains y=false:=by
      have:=hpt y hy (by omega)
      rw [hyF,hDx] at this
      simp only [List.contains_append,this,List.contains_cons,List.contains_nil,Bool.or_false,Bool.false_or,beq_eq_false_iff_ne,ne_eq]
      exact hyx
     simp -dsimp only [go_sem,hs,ChB.place,ro.cell,rx.cell]
     refine call_of (chooser_place t14 hy true (by simpa using hDy)) ?_
     rintro v h17 ⟨f17,z17,t17⟩
     have f17_z:=f17.size
     replace p0:=p0.F f17
     replace ro:=ro.F f17
     replace rx:=rx.F f17
     replace ol2:=ol2.fr f17 (by have:=ol2.at_;omega)
     simp -dsimp only [go_sem,ro.cell,rx.cell]
     intro b18 h18 n18
     have n18_z:=n18.az
     replace p0:=p0.F n18.f0
     replace ro:=ro.F n18.f0
     replace rx:=rx.F n18.f0
     replace ol2:=ol2.fr n18.f0 (by have:=ol2.at_;omega)
     replace t17:=t17.fr n18.f0 (by omega)
     simp -dsimp only [go_sem,n18.row.cell,ro.cell,rx.cell]
     refine ol2.append (by omega) rfl (by omega) (by simp) (by omega) fun v19 h19 o_new f19 e_app=>?_
     have f19_z:=f19.size
     have o_at:=ol2.at_
     replace p0:=p0.F f19
     replace ro:=ro.F f19
     replace rx:=rx.F f19
     replace t17:=t17.fr f19 (by omega)
     clear o_at e_app
     replace ol2:=o_new
     have ol2_l:=ol2.top
     simp -dsimp only [go_sem,ro.cell,rx.cell]
     have e2:(fun k=>if k=y then true else (m++[x]).contains k)=(m++[x]++[y]).contains:=by
      funext j;by_cases hj:j=y <;> simp [hj]
     rw [e2] at t17
     have hml2:(m++[x]++[y]).length=m.length+2:=by simp
     refine ⟨(v19,(m++[x]++[y]).length),by dsimp only;omega,by simp [Le,find,ChB.next,ChB.place],p0,by omega,ro,rx,m++[x]++[y],rfl,by omega,t17,?_,hpt',k',by omega,hgo'⟩
     rw [natsV_append,List.length_append];first | exact ol2 | (rw [hs] at ol2;exact ol2)
 ·simp -dsimp only [go_sem,ro.cell,rx.cell]
  refine ⟨p0,?_⟩
  rw [hS,← hgo,glueGo_end (by omega)]
  exact ⟨_,rfl,ol.lower (by omega)⟩
end Go.Proofs.Tst
/-
  Lists compared, cell by cell.
-/
namespace Go.Proofs.Tst
open Go Go.Vc
theorem c_law21_ints {l m : List Int} {a b : Value} {h : Heap} (hl : Rd 1 h a l.length (intsV l)) (hm : Rd 1 h b m.length (intsV m)) (hb : l.length ≤ 4611686018427387904) :
    Con Tryd.prog 24 #[a, b] h fun v h' => h' = h ∧ v = .bool (decide (l = m)) := by
  refine con_q46 ?_
  obtain ⟨aa, ac, rfl⟩ := hl.is
  obtain ⟨ba, bc, rfl⟩ := hm.is
  simp -dsimp only [go_sem]
  refine ⟨fun hne => ?_, fun heq => ?_⟩
  · simp -dsimp only [go_sem]
    have : l ≠ m := by rintro rfl; simp at hne
    simp [this]
  have heq : l.length = m.length := by have : (l.length : Int) = m.length := by simpa using heq
                                       omega
  simp -dsimp only [go_sem]
  refine loop_intro (fun i : Nat => [(0, .slice aa l.length ac), (1, .slice ba m.length bc), (5, .int .i64 i)])
    (fun i h' => i ≤ l.length ∧ h' = h ∧ ∀ j, j < i → l[j]? = m[j]?) (fun i => l.length - i) 0 ?_ ?_ ?_
  · simp [Le, find]
  · exact ⟨by omega, rfl, fun j hj => by omega⟩
  rintro i _ ⟨hi, rfl, hinv⟩
  simp -dsimp only [go_sem]
  refine ⟨fun hlt => ?_, fun hge => ?_⟩
  · have hlt : i < l.length := by omega
    simp -dsimp only [go_sem]
    refine Chk_intro (by omega) (hl.idx (by omega) fun b1 o1 c1 => ?_)
    simp -dsimp only [go_sem, c1 i _ (intsV_get (List.getElem?_eq_getElem hlt))]
    refine Chk_intro (by omega) (hm.idx (by omega) fun b2 o2 c2 => ?_)
    simp -dsimp only [go_sem, c2 i _ (intsV_get (List.getElem?_eq_getElem (show i < m.length by omega)))]
    refine ⟨fun hne => ?_, fun he => ?_⟩
    · simp -dsimp only [go_sem]
      have : l ≠ m := by rintro rfl; simp at hne
      simp [this]
    · simp -dsimp only [go_sem]
      simp -dsimp (disch := omega) only [wrap64]
      refine ⟨i + 1, by omega, by simp [Le, find], by omega, fun j hj => ?_⟩
      by_cases hji : j = i
      · subst hji
        rw [List.getElem?_eq_getElem hlt, List.getElem?_eq_getElem (show j < m.length by omega)]
        simpa using he
      · exact hinv j (by omega)
  · simp -dsimp only [go_sem]
    have : l = m := List.ext_getElem? fun j => by
      by_cases hj : j < i
      · exact hinv j hj
      · rw [List.getElem?_eq_none (by omega), List.getElem?_eq_none (by omega)]
    simp [this]
end Go.Proofs.Tst
namespace Go.Proofs.Tst
open Go Go.Vc
theorem row_join {w v b b':Nat} {W V:Nat→Nat} {ov:Value} {h:Heap} (hx:Rw h b (wrow w W)) (hy:Rw h b' (wrow v V)) (ho:Rd 1 h ov 1 [.slice (some ⟨b',0,none⟩) v v]) (hW:∀ i,W i<2 ^ 64) (hV:∀ i,V i<2 ^ 64) (hw:w≤1024) (hv:v≤1024) :
  Con Tryd.prog 100 #[.slice (some ⟨b,0,none⟩) w w,ov] h fun _ h'=>Fr b (b+1) h h'∧h'.size=h.size∧Rw h' b (wrow w fun i=>if i<v then W i ||| V i else W i):=by
 refine con_q131 ?_
 obtain ⟨oa,oc,rfl⟩:=ho.is
 simp -dsimp only [go_sem]
 refine loop_intro (fun i:Nat=>[(0,.slice (some ⟨b,0,none⟩) w w),(7,.slice oa 1 oc),(8,.int .i64 1),(9,.int .i64 i)])
  (fun i h'=>(i=0∧h'=h)∨(i=1∧Fr b (b+1) h h'∧h'.size=h.size∧Rw h' b (wrow w fun i=>if i<v then W i ||| V i else W i))) (fun i=>1 - i) 0 ?_ ?_ ?_
 ·simp [Le,find]
 ·exact .inl ⟨rfl,rfl⟩
 rintro i h1 (⟨rfl,rfl⟩ | ⟨rfl,hf,hz,hr⟩)
 ·simp -dsimp only [go_sem]
  refine ⟨fun _=>?_,fun h=>absurd (by omega) h⟩
  simp -dsimp only [go_sem]
  refine Chk_intro (by omega) (ho.idx (by omega) fun b1 o1 c1=>?_)
  have c1:hcell h1 b1 o1=some (.slice (some ⟨b',0,none⟩) v v):=c1 0 _ rfl
  simp -dsimp only [go_sem,c1]
  have hm:(if (v:Int)<(w:Int) then (v:Int) else (w:Int))=((min w v:Nat):Int):=by split <;> omega
  rw [hm]
  refine loop_intro (fun i:Nat=>[(0,.slice (some ⟨b,0,none⟩) w w),(5,.slice (some ⟨b',0,none⟩) v v),(7,.slice oa 1 oc),(8,.int .i64 1),(9,.int .i64 (0:Nat)),(17,.int .i64 (min w v:Nat)),(18,.int .i64 i)])
   (fun i h'=>i≤min w v∧Fr b (b+1) h1 h'∧h'.size=h1.size∧Rw h' b (wrow w fun k=>if k<i then W k ||| V k else W k)) (fun i=>min w v - i) 0 ?_ ?_ ?_
  ·simp [Le,find]
  ·exact ⟨by omega,.refl _ _ _,rfl,by simpa using hx⟩
  rintro i h2 ⟨hi,f2,z2,r2⟩
  simp -dsimp only [go_sem]
  refine ⟨fun hlt=>?_,fun hge=>?_⟩
  ·have hlt:i<min w v:=by omega
   have hy2:hcell h2 b' i=some (.int .u64 (V i:Int)):=by
    by_cases hb:b'=b
    ·subst hb
     obtain ⟨e1,e2⟩:=wrow_inj (hx.inj hy)
     rw [r2.cell,wrow_get (by omega),if_neg (by omega),e2 i (by omega)]
    ·rw [(hy.fr f2 (by omega)).cell,wrow_get (by omega)]
   simp -dsimp only [go_sem]
   refine Chk_intro (by omega) ?_
   simp -dsimp only [go_sem,r2.cell,wrow_get (show i<w by omega)]
   refine Chk_intro (by omega) ?_
   simp -dsimp only [go_sem,hy2,Nat.lt_irrefl]
   rw [or64 (hW i) (hV i)]
   refine Chk_intro (by omega) ?_
   simp -dsimp only [go_sem]
   refine Chk_intro (r2.wr (by simp;omega)) fun h3 s3=>?_
   have r3:=s3.row r2
   have z3:=s3.size
   rw [cl_int,putAt_one,wrow_upd] at r3
   simp -dsimp only [go_sem]
   simp -dsimp (disch:=omega) only [wrap64]
   refine ⟨i+1,by omega,by simp [Le,find],by omega,f2.trans s3.fr,by omega,?_⟩
   rw [wrow_congr fun k hk=>?_];exact r3
   unfold upd
   dsimp only
   by_cases hki:k=i
   ·subst hki;simp
   ·rw [if_neg hki]
    by_cases h1:k<i
    ·rw [if_pos h1,if_pos (by omega)]
    ·rw [if_neg h1,if_neg (by omega)]
  ·have:i=min w v:=by omega
   subst this
   simp -dsimp only [go_sem]
   simp -dsimp (disch:=omega) only [wrap64]
   refine ⟨1,by omega,by simp [Le,find],.inr ⟨rfl,f2,z2,?_⟩⟩
   rw [wrow_congr fun k hk=>?_];exact r2
   by_cases h1:k<v
   ·rw [if_pos h1,if_pos (by omega)]
   ·rw [if_neg h1,if_neg (by omega)]
 ·simp -dsimp only [go_sem]
  refine ⟨fun h=>absurd h (by omega),fun _=>?_⟩
  simp -dsimp only [go_sem]
  exact ⟨hf,hz,hr⟩
theorem row_set {w p b:Nat} {W:Nat→Nat} {h:Heap} (hx:Rw h b (wrow w W)) (hp:p / 64<w) (hW:∀ i,W i<2 ^ 64) (hw:w≤1024) :
  Con Tryd.prog 140 #[.slice (some ⟨b,0,none⟩) w w,.int .i64 p] h fun _ h'=>Fr b (b+1) h h'∧h'.size=h.size∧Rw h' b (wrow w fun j=>if j=p / 64 then W (p / 64) ||| 2 ^ (p % 64) else W j):=by
 refine con_q134 ?_
 have e64:IntKind.u64.wrap (1 * 2 ^ min (p % 64) 64)=((2 ^ (p % 64):Nat):Int):=shl64 (p % 64) (by omega)
 simp -dsimp only [go_sem]
 rw [tdiv64]
 refine Chk_intro (by decide) ?_
 rw [wrap64 (by omega) (by omega)]
 simp -dsimp only [go_sem]
 refine Chk_intro (by omega) ?_
 simp -dsimp only [go_sem,hx.cell,wrow_get hp]
 rw [tmod64]
 refine Chk_intro (by decide) ?_
 simp -dsimp only [go_sem]
 rw [e64,or64 (hW _) (Nat.pow_lt_pow_right (by decide) (by omega))]
 refine Chk_intro (by omega) ?_
 simp -dsimp only [go_sem]
 refine Chk_intro (hx.wr (by simp;omega)) fun h1 s1=>?_
 have r1:=s1.row hx
 rw [cl_int,putAt_one,wrow_set] at r1
 simp -dsimp only [go_sem]
 exact ⟨s1.fr,s1.size,r1⟩
theorem rel_wide {n:Nat} {M:Nat→Nat→Bool} {p:Value} {lo hi:Nat} {h:Heap} (hr:ProgAt h lo hi p n M) (k:Nat) (hk:k≤256) :
  Con Tryd.prog 151 #[p,.int .i64 k] h fun v h'=>Fr 0 0 h h'∧ProgAt h' h.size h'.size v (max k n) (inN n M):=by
 refine con_q126 ?_
 obtain ⟨hn,pb,rb,R,W,rfl,t⟩:=hr
 have hm:(if (n:Int) > (k:Int) then (n:Int) else (k:Int))=((max k n:Nat):Int):=by split <;> omega
 have hcl:clampN (max k n:Nat)=max k n:=by unfold clampN;omega
 simp -dsimp only [go_sem,t.ptr.cell]
 rw [hm]
 refine call_of (rel_New _ h) ?_
 rintro v1 h1 ⟨p1,t1⟩
 rw [hcl] at t1
 obtain ⟨hx,pb1,rb1,R1,W1,rfl,t1⟩:=t1
 have t2:=t.fr p1 (by omega)
 simp -dsimp only [go_sem,t2.ptr.cell]
 have at1:=t1.at_
 refine loop_intro (fun a:Nat=>[(5,.pointer (some ⟨pb1,0,none⟩)),(18,.slice (some ⟨rb,0,none⟩) n n),(19,.int .i64 n),(20,.int .i64 a)])
  (fun a h'=>a≤n∧Fr 0 0 h h'∧h1.size≤h'.size∧∃ W,PTab h' h.size h1.size pb1 rb1 (max k n) R1 W fun i j=>decide (i<a)&&decide (j<n)&&M i j) (fun a=>n - a) 0 ?_ ?_ ?_
 ·simp [Le,find]
 ·exact ⟨by omega,p1,by omega,_,t1.congr fun i j _ _=>by simp⟩
 rintro a h2 ⟨ha,p0,y2,W2,t3⟩
 have p0_z:=p0.size
 have t4:=t.fr p0 (by omega)
 simp -dsimp only [go_sem]
 refine ⟨fun hlt=>?_,fun hge=>?_⟩
 ·have hlt:a<n:=by omega
  simp -dsimp only [go_sem]
  refine Chk_intro (by omega) ?_
  simp -dsimp only [go_sem,t4.rowsGet hlt,t3.ptr.cell]
  refine Chk_intro (by omega) ?_
  simp -dsimp only [go_sem,t3.rowsGet (show a<max k n by omega)]
  intro b5 h5 n5
  have n5_z:=n5.az
  replace p0:=p0.F n5.f0
  replace t3:=t3.fr n5.f0 (by omega)
  have r5:=n5.row
  obtain ⟨g1,g2,g3,g4,g5,g6⟩:=t3.row a (by omega)
  obtain ⟨f1,f2,f3,f4,f5,f6⟩:=(t.fr p0 (by omega)).row a hlt
  simp -dsimp only [go_sem,r5.cell]
  refine call_of (row_join g1 f1 (r5.rd rfl) (fun j=>(g6 j).1) (fun j=>(f6 j).1) (by unfold nw;omega) (by unfold nw;omega)) ?_
  rintro _ h6 ⟨q6,z6,r6⟩
  have t6:=t3.updRow (by omega) q6 r6 (g6.or f6 (by omega))
  have q6_z:=q6.size
  replace p0:=p0.F q6
  simp -dsimp only [go_sem]
  simp -dsimp (disch:=omega) only [wrap64]
  refine ⟨a+1,by omega,by simp [Le,find],by omega,p0,by omega,_,t6.congr fun i j hi hj=>?_⟩
  by_cases hia:i=a
  ·subst hia
   rw [upd_same];simp
  ·rw [upd_ne _ _ hia]
   have:(i<a+1)=(i<a):=by simp;omega
   simp [this]
 ·have:a=n:=by omega
  subst this
  simp -dsimp only [go_sem]
  exact ⟨p0,hx,_,_,_,_,rfl,(t3.mono' y2).congr fun i j _ _=>rfl⟩
end Go.Proofs.Tst
namespace Go.Proofs.Tst
open Go Go.Vc
theorem rel_Copy {n:Nat} {M:Nat→Nat→Bool} {p:Value} {lo hi:Nat} {h:Heap} (hr:ProgAt h lo hi p n M) :
  Con Tryd.prog 150 #[p] h fun v h'=>Fr 0 0 h h'∧ProgAt h' h.size h'.size v n (inN n M):=by
 refine con_q119 ?_
 simp -dsimp only [go_sem]
 refine call_of (rel_wide hr 0 (by omega)) ?_
 rintro v h1 ⟨p1,t1⟩
 simp -dsimp only [go_sem]
 exact ⟨p1,by rwa [Nat.zero_max] at t1⟩
theorem rel_Plus {n:Nat} {M:Nat→Nat→Bool} {p:Value} {lo hi:Nat} {h:Heap} (hr:ProgAt h lo hi p n M) :
  Con Tryd.prog 110 #[p] h fun v h'=>Fr 0 0 h h'∧ProgAt h' h.size h'.size v n (plusM n M):=by
 refine con_q118 ?_
 simp -dsimp only [go_sem]
 refine call_of (rel_Copy hr) ?_
 rintro v1 h1 ⟨p1,hn,pb1,rb1,R1,W1,rfl,t1⟩
 have at1:=t1.at_
 simp -dsimp only [go_sem,t1.ptr.cell]
 refine loop_intro (fun k:Nat=>[(3,.pointer (some ⟨pb1,0,none⟩)),(11,.int .i64 n),(12,.int .i64 k)])
  (fun k h'=>k≤n∧Fr 0 0 h h'∧h1.size≤h'.size∧∃ W,PTab h' h.size h1.size pb1 rb1 n R1 W (warM n M k)) (fun k=>n - k) 0 ?_ ?_ ?_
 ·simp [Le,find]
 ·exact ⟨by omega,p1,by omega,_,t1.congr fun i j hi hj=>inN_in hi hj⟩
 rintro k h2 ⟨hk,p0,y2,W2,t2⟩
 simp -dsimp only [go_sem]
 refine ⟨fun hlt=>?_,fun hge=>?_⟩
 ·have hlt:k<n:=by omega
  simp -dsimp only [go_sem,t2.ptr.cell]
  refine loop_intro (fun a:Nat=>[(3,.pointer (some ⟨pb1,0,none⟩)),(4,.int .i64 k),(11,.int .i64 n),(12,.int .i64 k),(18,.int .i64 n),(19,.int .i64 a)])
   (fun a h'=>a≤n∧Fr 0 0 h h'∧h1.size≤h'.size∧∃ W,PTab h' h.size h1.size pb1 rb1 n R1 W fun i j=>if i<a then warM n M (k+1) i j else warM n M k i j) (fun a=>n - a) 0 ?_ ?_ ?_
  ·simp [Le,find]
  ·exact ⟨by omega,p0,by omega,_,t2.congr fun i j hi hj=>by simp⟩
  rintro a h3 ⟨ha,p0,y3,W3,t3⟩
  have p0_z:=p0.size
  simp -dsimp only [go_sem]
  refine ⟨fun hlt2=>?_,fun hge2=>?_⟩
  ·have hlt2:a<n:=by omega
   obtain ⟨g1,g2,g3,g4,g5,g6⟩:=t3.row a hlt2
   obtain ⟨f1,f2,f3,f4,f5,f6⟩:=t3.row k hlt
   simp -dsimp only [go_sem,t3.ptr.cell]
   refine Chk_intro (by omega) ?_
   simp -dsimp only [go_sem,t3.rowsGet hlt2]
   refine call_of (row_has (p:=k) (ptab_rd t3 hlt2) (by unfold nw;omega) (g6 _).1 (by omega)) ?_
   rintro v h4 ⟨rfl,rfl⟩
   rw [g6.get hlt]
   simp only [Nat.lt_irrefl,if_false]
   cases hm:warM n M k a k with
   | true =>
    simp -dsimp only [go_sem,t3.ptr.cell]
    refine Chk_intro (by omega) ?_
    simp -dsimp only [go_sem,t3.rowsGet hlt2,t3.ptr.cell]
    refine Chk_intro (by omega) ?_
    simp -dsimp only [go_sem,t3.rowsGet hlt]
    intro b5 h5 n5
    have n5_z:=n5.az
    replace p0:=p0.F n5.f0
    replace t3:=t3.fr n5.f0 (by omega)
    have r5:=n5.row
    obtain ⟨g1,g2,g3,g4,g5,g6⟩:=t3.row a hlt2
    obtain ⟨f1,f2,f3,f4,f5,f6⟩:=t3.row k hlt
    simp -dsimp only [go_sem,t3.rowsGet hlt,t3.rowsGet hlt2,t3.ptr.cell,r5.cell]
    refine call_of (row_join g1 f1 (r5.rd rfl) (fun j=>(g6 j).1) (fun j=>(f6 j).1) (by unfold nw;omega) (by unfold nw;omega)) ?_
    rintro _ h6 ⟨q6,z6,r6⟩
    have t6:=t3.updRow hlt2 q6 r6 (g6.or f6 (by omega))
    have q6_z:=q6.size
    replace p0:=p0.F q6
    simp -dsimp only [go_sem,t6.ptr.cell,t6.rowsGet hlt,t6.rowsGet hlt2]
    simp -dsimp (disch:=omega) only [wrap64]
    refine ⟨a+1,by omega,by simp [Le,find],by omega,p0,by omega,_,t6.congr fun i j hi hj=>?_⟩
    by_cases hia:i=a
    ·subst hia
     have e:(if k<i then warM n M (k+1) k j else warM n M k k j)=warM n M k k j:=by split <;> simp [warM_self]
     rw [upd_same,if_pos (Nat.lt_succ_self _)]
     simp only [Nat.lt_irrefl,if_false,e,hj,decide_true,Bool.true_and]
     simp only [warM,hm,Bool.true_and]
    ·rw [upd_ne _ _ hia]
     have:(i<a+1)=(i<a):=by simp;omega
     simp [this]
   | false =>
    simp -dsimp only [go_sem]
    simp -dsimp (disch:=omega) only [wrap64]
    refine ⟨a+1,by omega,by simp [Le,find],by omega,p0,by omega,_,t3.congr fun i j hi hj=>?_⟩
    by_cases hia:i=a
    ·subst hia
     simp [warM,hm]
    ·have:(i<a+1)=(i<a):=by simp;omega
     simp [this]
  ·have:a=n:=by omega
   subst this
   simp -dsimp only [go_sem]
   simp -dsimp (disch:=omega) only [wrap64]
   exact ⟨k+1,by omega,by simp [Le,find],by omega,p0,by omega,_,t3.congr fun i j hi hj=>by simp [hi]⟩
 ·have:k=n:=by omega
  subst this
  simp -dsimp only [go_sem]
  exact ⟨p0,hn,_,_,_,_,rfl,t2.mono' y2⟩
end Go.Proofs.Tst
namespace Go.Proofs.Tst
open Go Go.Vc
theorem iter_intro {P:Program} {asg body:GC} {Q:Post} {e:Env} {h:Heap} {kk:Nat} {gf:FuncId} {lb:Array Value} {l:List Nat} {C:Heap→Prop} (hit:Iter P gf lb (l.map fun (p:Nat)=>[Value.int .i64 (p:Int)]) C)
  (cext:∀ h1 h2,Ext h.size h1 h2→C h1→C h2) (h0C:C h)
  (J:Nat→Heap→Prop) (X:GX→Heap→Prop) (keep:∀ d h',J d h'→C h')
  (jext:∀ i h1 h2,Ext h.size h1 h2→J i h1→J i h2) (xext:∀ x h1 h2,Ext h.size h1 h2→X x h1→X x h2) (h0:J 0 h)
  (step:∀ d q h1,h.size≤h1.size→l[d]?=some q→J d h1 →
   vc P none asg (thenQ (fun e2 h2=>∀ h2',Ext h.size h2 h2'→vc P none body (roundQ (fun h3=>J (d+1) h3) X) e2 h2') (fun _ _ _=>False)) ((kk,.int .i64 (q:Int)) :: e) h1)
  (fin:∀ h',h.size≤h'.size→J l.length h'→Q .normal e h')
  (esc:∀ x h',h.size≤h'.size→X x h'→x≠.normal∧Q x e h') :
  ∃ (xs:List (List Value)) (C:Heap→Prop) (I:Nat→Heap→Prop) (X:GX→Heap→Prop),
   Iter P gf lb xs C∧(∀ x∈xs,x.length=[kk].length) ∧
   (∀ h1 h2,Ext h.size h1 h2→C h1→C h2)∧(∀ i h1 h2,Ext h.size h1 h2→I i h1→I i h2)∧(∀ x h1 h2,Ext h.size h1 h2→X x h1→X x h2) ∧
   I 0 h∧C h ∧
   (∀ i x h1,h.size≤h1.size→xs[i]?=some x→I i h1→C h1→vc P none asg (thenQ (fun e2 h2=>∀ h2',Ext h.size h2 h2'→vc P none body (roundQ (fun h3=>I (i+1) h3∧C h3) X) e2 h2') (fun _ _ _=>False)) (zipE [kk] x e) h1) ∧
   (∀ h',h.size≤h'.size→I xs.length h'→C h'→Q .normal e h') ∧
   (∀ x h',h.size≤h'.size→X x h'→x≠.normal∧Q x e h'):=by
 refine ⟨_,C,J,X,hit,?_,cext,jext,xext,h0,h0C,?_,?_,esc⟩
 ·intro x hx;obtain ⟨q,_,rfl⟩:=List.mem_map.1 hx;rfl
 ·rintro d x h1 hs hx hJ hC
  rw [List.getElem?_map,Option.map_eq_some_iff] at hx
  obtain ⟨q,hq,rfl⟩:=hx
  refine vc_mono (fun x e2 h2 h3=>?_) (step d q h1 hs hq hJ)
  cases x with
  | normal =>
   intro h2' x'
   refine vc_mono (fun x e4 h4 h5=>?_) (h3 h2' x')
   cases x with
   | normal=>exact ⟨h5,keep _ _ h5⟩
   | ret=>exact h5
   | exit j=>exact h5
  | ret=>exact h3
  | exit j=>exact h3
 ·intro h' hs hJ hC
  rw [List.length_map] at hJ
  exact fin h' hs hJ
theorem points_intro {P':Program} {asg body:GC} {Q:Post} {e:Env} {h:Heap} {kk bk n:Nat} {xv:Value} {W:Nat→Nat} {f:Nat→Bool} (hP:P'=Tryd.prog) (hb:Bits n W f) (hn:n≤256) (h0C:RowC bk xv (nw n) W h)
  (J:Nat→Heap→Prop) (X:GX→Heap→Prop) (keep:∀ d h',J d h'→RowC bk xv (nw n) W h')
  (jext:∀ i h1 h2,Ext h.size h1 h2→J i h1→J i h2) (xext:∀ x h1 h2,Ext h.size h1 h2→X x h1→X x h2) (h0:J 0 h)
  (step:∀ d q h1,h.size≤h1.size→(rest f n 0)[d]?=some q→q<n→f q=true→J d h1 →
   vc P' none asg (thenQ (fun e2 h2=>∀ h2',Ext h.size h2 h2'→vc P' none body (roundQ (fun h3=>J (d+1) h3) X) e2 h2') (fun _ _ _=>False)) ((kk,.int .i64 (q:Int)) :: e) h1)
  (fin:∀ h',h.size≤h'.size→J (rest f n 0).length h'→Q .normal e h')
  (esc:∀ x h',h.size≤h'.size→X x h'→x≠.normal∧Q x e h') :
  ∃ (xs:List (List Value)) (C:Heap→Prop) (I:Nat→Heap→Prop) (X:GX→Heap→Prop),
   Iter P' 155 #[.pointer (some ⟨bk,0,none⟩)] xs C∧(∀ x∈xs,x.length=[kk].length) ∧
   (∀ h1 h2,Ext h.size h1 h2→C h1→C h2)∧(∀ i h1 h2,Ext h.size h1 h2→I i h1→I i h2)∧(∀ x h1 h2,Ext h.size h1 h2→X x h1→X x h2) ∧
   I 0 h∧C h ∧
   (∀ i x h1,h.size≤h1.size→xs[i]?=some x→I i h1→C h1→vc P' none asg (thenQ (fun e2 h2=>∀ h2',Ext h.size h2 h2'→vc P' none body (roundQ (fun h3=>I (i+1) h3∧C h3) X) e2 h2') (fun _ _ _=>False)) (zipE [kk] x e) h1) ∧
   (∀ h',h.size≤h'.size→I xs.length h'→C h'→Q .normal e h') ∧
   (∀ x h',h.size≤h'.size→X x h'→x≠.normal∧Q x e h'):=by
 subst hP
 have hit:=points_1 (b:=bk) (xv:=xv) (w:=nw n) (W:=W) (fun j=>(hb j).1) (by unfold nw;omega)
 rw [rest_bits hb] at hit
 exact iter_intro hit (fun h1 h2 x ⟨c1,c2,c3⟩=>⟨x.cell c1,x.rd c2,x.tab c3⟩) h0C J X keep jext xext h0
  (fun d q h1 hs hq hJ=>have hm:=mem_rest.1 (List.mem_of_getElem? hq);step d q h1 hs hq hm.2.1 hm.2.2 hJ) fin esc
theorem rel_Inverse {n:Nat} {M:Nat→Nat→Bool} {p:Value} {lo hi:Nat} {h:Heap} (hr:ProgAt h lo hi p n M) (ht:TabAt h) :
  Con Tryd.prog 96 #[p] h fun v h'=>Fr 0 0 h h'∧ProgAt h' h.size h'.size v n (invM M):=by
 refine con_q113 (fun v h1 h2 x ⟨f,o⟩=>⟨x.fr f (Nat.le_refl _),(o.ext x).mono (Nat.le_refl _) x.size⟩) ?_
 obtain ⟨hn,pb,rb,R,W,rfl,t⟩:=hr
 have hcl:clampN n=n:=by unfold clampN;omega
 simp -dsimp only [go_sem,t.ptr.cell]
 refine call_of (rel_New n h) ?_
 rintro v1 h1 ⟨p0,t1⟩
 rw [hcl] at t1
 obtain ⟨-,pb1,rb1,R1,W1,rfl,t1⟩:=t1
 have at1:=t1.at_
 have h1_z:=p0.size
 simp -dsimp only [go_sem]
 intro b2 h2 n2
 have n2_z:=n2.az
 replace p0:=p0.F n2.f0
 replace t1:=t1.fr n2.f0 (by omega)
 have r2:=n2.row
 simp -dsimp only [go_sem,r2.cell]
 refine Chk_intro (r2.W) fun h3 s3=>?_
 have s3_z:=s3.size
 replace p0:=p0.F s3.fr
 replace t1:=t1.fr s3.fr (by omega)
 replace r2:=s3.row r2
 try simp only [cl_int,cl_bool,cl_slice,cl_ptr,putAt_one,zs0,zs1,ivec_set,brow_upd] at r2
 have t3:=t.fr p0 (by omega)
 simp -dsimp only [go_sem,t3.ptr.cell,r2.cell]
 refine loop_intro (fun a:Nat=>[(3,.pointer (some ⟨b2,0,none⟩)),(15,.slice (some ⟨rb,0,none⟩) n n),(16,.int .i64 n),(17,.int .i64 a)])
  (fun a h'=>a≤n∧Fr 0 0 h h'∧h3.size≤h'.size∧Rw h' b2 [.pointer (some ⟨pb1,0,none⟩)]∧∃ W,PTab h' h.size h1.size pb1 rb1 n R1 W fun i j=>decide (j<a)&&M j i) (fun a=>n - a) 0 ?_ ?_ ?_
 ·simp [Le,find]
 ·exact ⟨by omega,p0,by omega,r2,_,t1.congr fun i j _ _=>by simp⟩
 rintro a h4 ⟨ha,p0,y4,r2,W4,t4⟩
 have p0_z:=p0.size
 have r2_l:=r2.lt
 simp -dsimp only [go_sem,r2.cell]
 refine ⟨fun hlt=>?_,fun hge=>?_⟩
 ·have hlt:a<n:=by omega
  simp -dsimp only [go_sem,r2.cell]
  refine Chk_intro (by omega) ?_
  simp -dsimp only [go_sem,(t.fr p0 (by omega)).rowsGet hlt,r2.cell]
  intro b5 h5 n5
  have n5_z:=n5.az
  replace p0:=p0.F n5.f0
  replace r2:=r2.F n5.f0
  replace t4:=t4.fr n5.f0 (by omega)
  have r5:=n5.row
  simp -dsimp only [go_sem,r2.cell,r5.cell]
  refine Chk_intro (r5.W) fun h6 s6=>?_
  have s6_z:=s6.size
  replace p0:=p0.F s6.fr
  replace r2:=r2.F s6.fr
  replace t4:=t4.fr s6.fr (by omega)
  replace r5:=s6.row r5
  try simp only [cl_int,cl_bool,cl_slice,cl_ptr,putAt_one,zs0,zs1,ivec_set,brow_upd] at r5
  simp -dsimp only [go_sem,r2.cell,r5.cell]
  refine call_of (rel_points _ _ _ h6) ?_
  rintro v h7 ⟨f7,rfl,c7,z7⟩
  have f7_z:=f7.size
  replace p0:=p0.F f7
  replace r2:=r2.F f7
  replace t4:=t4.fr f7 (by omega)
  replace r5:=r5.F f7
  simp -dsimp only [go_sem,r2.cell,r5.cell]
  have hbits:=(t.row a hlt).2.2.2.2.2
  refine ⟨rfl,points_intro rfl hbits hn ⟨c7,ptab_rd (t.fr p0 (by omega)) hlt,ht.fr p0 (by omega)⟩
   (fun d h'=>Fr 0 0 h h'∧h7.size≤h'.size∧Rw h' b2 [.pointer (some ⟨pb1,0,none⟩)]∧Rw h' b5 [.int .i64 a]∧hcell h' h6.size 0=some (.slice (some ⟨R a,0,none⟩) (nw n) (nw n))∧∃ W,PTab h' h.size h1.size pb1 rb1 n R1 W fun i j=>(decide (j<a)&&M j i)||(j==a&&((rest (M a) n 0).take d).contains i))
   (fun _ _=>False) ?_ ?_ ?_ ?_ ?_ ?_ ?_⟩
  ·rintro d h' ⟨q0,-,-,-,q1,-⟩
   exact ⟨q1,ptab_rd (t.fr q0 (by omega)) hlt,ht.fr q0 (by omega)⟩
  ·rintro d h8 h9 x ⟨q0,q1,q2,q3,q4,W',q5⟩
   exact ⟨q0.ext x (by omega),Nat.le_trans q1 x.size,q2.ext x,q3.ext x,x.cell q4,W',q5.ext x⟩
  ·exact fun _ _ _ _ h=>h
  ·exact ⟨p0,Nat.le_refl _,r2,r5,c7,_,t4.congr fun i j _ _=>by simp⟩
  ·rintro d q h8 z8 hq hqn hqf ⟨p0,y8,r2,r5,c8,W8,t8⟩
   have p0_z:=p0.size
   have r2_l:=r2.lt
   have r5_l:=r5.lt
   simp -dsimp only [go_sem,r2.cell,r5.cell]
   intro h9 x9
   have x9_z:=x9.size
   replace p0:=p0.ext x9 (by omega)
   replace r2:=r2.ext x9
   replace r5:=r5.ext x9
   replace t8:=t8.ext x9
   have c8:=x9.cell c8
   obtain ⟨g1,g2,g3,g4,g5,g6⟩:=t8.row q hqn
   simp -dsimp only [go_sem,t8.ptr.cell,r2.cell,r5.cell]
   refine Chk_intro (by omega) ?_
   simp -dsimp only [go_sem,t8.rowsGet hqn,r2.cell,r5.cell]
   refine call_of (row_set (p:=a) g1 (by unfold nw;omega) (fun j=>(g6 j).1) (by unfold nw;omega)) ?_
   rintro _ h10 ⟨f10,z10,r10⟩
   have t10:=t8.updRow hqn f10 r10 (g6.set hlt)
   have f10_z:=f10.size
   replace p0:=p0.F f10
   replace r2:=r2.F f10
   replace r5:=r5.F f10
   simp -dsimp only [go_sem,t10.ptr.cell,t10.rowsGet hqn,r2.cell,r5.cell]
   refine ⟨p0,by omega,r2,r5,f10.keep c8 (by omega),_,t10.congr fun i j hi hj=>?_⟩
   rw [List.take_add_one,hq,Option.toList_some,List.contains_append]
   by_cases hiq:i=q
   ·subst hiq
    rw [upd_same]
    by_cases hja:j=a
    ·subst hja;simp
    ·have e:(j==a)=false:=by simpa using hja
     simp [hja,e]
   ·rw [upd_ne _ _ hiq];simp [hiq]
  ·rintro h8 z8 ⟨p0,y8,r2,r5,c8,W8,t8⟩
   simp -dsimp only [go_sem,r2.cell,r5.cell]
   simp -dsimp (disch:=omega) only [wrap64]
   refine ⟨a+1,by omega,by simp [Le,find],by omega,p0,by omega,r2,_,t8.congr fun i j hi hj=>?_⟩
   rw [List.take_length]
   by_cases hja:j=a
   ·subst hja
    cases hm:M j i with
    | true=>simp [mem_rest,hm,hi]
    | false=>simp [mem_rest,hm]
   ·have:(j<a+1)=(j<a):=by simp;omega
    simp [this,hja]
  ·exact fun _ _ _ h=>h.elim
 ·have:a=n:=by omega
  subst this
  simp -dsimp only [go_sem,r2.cell]
  exact ⟨p0,hn,_,_,_,_,rfl,(t4.mono' (by omega)).congr fun i j hi hj=>by simp [invM,hj]⟩
end Go.Proofs.Tst
