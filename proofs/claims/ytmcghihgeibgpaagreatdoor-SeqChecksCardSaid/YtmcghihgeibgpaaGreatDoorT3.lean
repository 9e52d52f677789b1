/-
  Contracts of functions that the law reaches: what each returns and what it leaves in memory. Conditions stand in each.
-/
import Derived.Test.YtmcghihgeibgpaaGreatDoorT2
set_option linter.all false
set_option maxRecDepth 2000
namespace Go.Proofs.Tst
open Go Go.Vc
theorem ite_inj {b1 b2:Bool} {k:Nat} (h:(if b1=true then k+1 else 0)=if b2=true then k+1 else 0):b1=b2:=by
 cases b1 <;> cases b2 <;> simp at h ⊢
def midF (n:Nat) (M:Nat→Nat→Bool) (p k:Nat) (S:Nat→Bool) (i:Nat):Nat:=if farK n M p k i≠0 then farK n M p k i else if S i=true then k+1 else 0
theorem midF_end {n:Nat} {M:Nat→Nat→Bool} {p k:Nat} {S:Nat→Bool} {i:Nat} (h:S i=lay n M p (farK n M p k) k i):midF n M p k S i=farK n M p (k+1) i:=by
 simp only [midF,farK,h]
theorem midF_le {n:Nat} {M:Nat→Nat→Bool} {p k:Nat} {S:Nat→Bool} {i:Nat}:midF n M p k S i≤k+1:=by
 have:=farK_le (n:=n) (M:=M) (p:=p) k i
 unfold midF;split
 ·omega
 ·split <;> omega
def LayL (n:Nat) (M:Nat→Nat→Bool) (p k:Nat) (L:List Nat):Prop:=(k=0∧L=[p])∨(0<k∧∀ i,i∈L↔i<n∧farK n M p k i=k)
theorem LayL.lay {n:Nat} {M:Nat→Nat→Bool} {p k:Nat} {L:List Nat} (h:LayL n M p k L) (i:Nat):L.any (fun q=>M i q)=lay n M p (farK n M p k) k i:=by
 rcases h with ⟨rfl,rfl⟩ | ⟨hk,h⟩
 ·simp [Go.Vc.lay]
 ·obtain ⟨k,rfl⟩:∃ k',k=k' + 1:=⟨k - 1,by omega⟩
  rw [Bool.eq_iff_iff,lay_succ,List.any_eq_true]
  exact ⟨fun ⟨q,hq,hm⟩=>⟨q,((h q).1 hq).1,hm,((h q).1 hq).2⟩,fun ⟨q,hq,hm,hf⟩=>⟨q,(h q).2 ⟨hq,hf⟩,hm⟩⟩
theorem LayL.lt {n:Nat} {M:Nat→Nat→Bool} {p k:Nat} {L:List Nat} (hp:p<n) (h:LayL n M p k L) {q:Nat} (hq:q∈L):q<n:=by
 rcases h with ⟨rfl,rfl⟩ | ⟨hk,h⟩
 ·simp at hq;omega
 ·exact ((h q).1 hq).1
set_option maxHeartbeats 1600000 in
theorem rel_shortest {n p:Nat} {M:Nat→Nat→Bool} {pv:Value} {lo hi:Nat} {h:Heap} (hr:ProgAt h lo hi pv n M) (ht:TabAt h) (hp:p<n) (hpp:farS n M p p≠0) :
  Con Tryz.prog 81 #[pv,.int .i64 p] h fun v h'=>Fr 0 0 h h'∧Holder 1 h' v (shortS n M p).length (natsV (shortS n M p)) h.size:=by
 refine con_q79 (fun v h1 h2 x ⟨f,o⟩=>⟨x.fr f (Nat.le_refl _),o.ext x⟩) ?_
 have hr0:=hr
 obtain ⟨hn,pb,rb,R,W,rfl,t⟩:=hr
 simp -dsimp only [go_sem]
 refine call_of (rel_Inverse hr0 ht) ?_
 rintro v1 h1 ⟨p0,-,pb1,rb1,R1,W1,rfl,t1⟩
 have at1:=t1.at_
 have h1_z:=p0.size
 have tp:=t.fr p0 (by omega)
 simp -dsimp only [go_sem,tp.ptr.cell]
 refine Chk_intro (by omega) ?_
 intro bF h2 n2
 have n2_z:=n2.az
 replace p0:=p0.F n2.f0
 replace t1:=t1.fr n2.f0 (by omega)
 have rF:=n2.row
 rw [zeros_one,Int.toNat_natCast,ivec_rep] at rF
 simp -dsimp only [go_sem]
 intro b6 h3 n3
 have n3_z:=n3.az
 replace p0:=p0.F n3.f0
 replace t1:=t1.fr n3.f0 (by omega)
 replace rF:=rF.F n3.f0
 have r6:=n3.row
 simp -dsimp only [go_sem]
 refine Chk_intro (r6.W) fun h4 s4=>?_
 have s4_z:=s4.size
 replace p0:=p0.F s4.fr
 replace t1:=t1.fr s4.fr (by omega)
 replace rF:=rF.F s4.fr
 replace r6:=s4.row r6
 try simp only [cl_slice,putAt_one,List.set_cons_zero] at r6
 simp -dsimp only [go_sem]
 intro bL h5 n5
 have n5_z:=n5.az
 replace p0:=p0.F n5.f0
 replace t1:=t1.fr n5.f0 (by omega)
 replace rF:=rF.F n5.f0
 replace r6:=r6.F n5.f0
 have rL:=n5.row
 simp -dsimp only [go_sem]
 intro b8 h6 n6
 have n6_z:=n6.az
 replace p0:=p0.F n6.f0
 replace t1:=t1.fr n6.f0 (by omega)
 replace rF:=rF.F n6.f0
 replace r6:=r6.F n6.f0
 replace rL:=rL.F n6.f0
 have r8:=n6.row
 simp -dsimp only [go_sem]
 refine Chk_intro (r8.W) fun h7 s7=>?_
 have s7_z:=s7.size
 replace p0:=p0.F s7.fr
 replace t1:=t1.fr s7.fr (by omega)
 replace rF:=rF.F s7.fr
 replace r6:=r6.F s7.fr
 replace rL:=rL.F s7.fr
 replace r8:=s7.row r8
 try simp only [cl_int,putAt_one,List.set_cons_zero] at r8
 simp -dsimp only [go_sem]
 refine loop_intro (fun s:Nat×Value×Nat×Nat=>[(0,.pointer (some ⟨pb,0,none⟩)),(1,.int .i64 p),(4,.slice none 0 0),(5,.pointer (some ⟨pb1,0,none⟩)),(6,.pointer (some ⟨b6,0,none⟩)),(7,s.2.1),(8,.pointer (some ⟨s.2.2.1,0,none⟩))])
  (fun s h'=>Fr 0 0 h h'∧h7.size≤h'.size∧PTab h' h.size h1.size pb1 rb1 n R1 W1 (invM M)∧Rw h' b6 [.slice (some ⟨bF,0,none⟩) n n]∧Rw h' bF (ivec n fun i=>(farK n M p s.1 i:Int))∧Rw h' s.2.2.1 [.int .i64 (s.1+1:Nat)]∧b6<s.2.2.1∧s.1≤n+1 ∧
   ∃ L:List Nat,L.length=s.2.2.2∧Holder 1 h' s.2.1 L.length (natsV L) bL∧bl s.2.1≠s.2.2.1∧LayL n M p s.1 L∧L.Nodup)
  (fun s=>(n - known n M p s.1)+(if s.2.2.2=0 then 0 else 1)) (0,.slice (some ⟨bL,0,none⟩) 1 1,b8,1) ?_ ?_ ?_
 ·simp [Le,find]
 ·exact ⟨p0,by omega,t1,r6,rF,r8,by first | omega | (dsimp only;omega),by first | omega | (dsimp only;omega),[p],rfl,⟨rfl,.inr ⟨bL,1,[],rfl,rL,rfl,Nat.le_refl _⟩⟩,by simp [bl];omega,.inl ⟨rfl,rfl⟩,by simp⟩
 rintro ⟨k,lv,bk,len⟩ h8 ⟨p0,y8,t1,r6,rF,r8,hbk,hkn,L,hlen,oL,hne,hL,hnd⟩
 dsimp only at t1 rF r8 hbk hkn hlen oL hne hL ⊢
 subst hlen
 have p0_z:=p0.size
 have r6_l:=r6.lt
 have rF_l:=rF.lt
 have r8_l:=r8.lt
 have oL_l:=oL.top
 have hLlen:L.length≤n:=nodup_lt hnd fun x hx=>hL.lt hp hx
 obtain ⟨la,lc,rfl⟩:=oL.is
 simp -dsimp only [go_sem]
 refine ⟨fun hgt=>?_,fun hle=>?_⟩
 ·simp -dsimp only [go_sem]
  intro b9 h9 n9
  have n9_a:=n9.at_
  have n9_z:=n9.size
  replace p0:=p0.F n9.f0
  replace r6:=r6.F n9.f0
  replace rF:=rF.F n9.f0
  replace r8:=r8.F n9.f0
  replace oL:=oL.fr n9.f0 (by have:=oL.at_;omega)
  replace t1:=t1.fr n9.f0 (by omega)
  have r9:=n9.row
  simp -dsimp only [go_sem]
  refine loop_intro (fun j:Nat=>[(0,.pointer (some ⟨pb,0,none⟩)),(1,.int .i64 p),(4,.slice none 0 0),(5,.pointer (some ⟨pb1,0,none⟩)),(6,.pointer (some ⟨b6,0,none⟩)),(7,.slice la L.length lc),(8,.pointer (some ⟨bk,0,none⟩)),(9,.pointer (some ⟨b9,0,none⟩)),(30,.slice la L.length lc),(31,.int .i64 L.length),(32,.int .i64 j)])
   (fun j h'=>j≤L.length∧Fr 0 0 h h'∧h9.size≤h'.size∧PTab h' h.size h1.size pb1 rb1 n R1 W1 (invM M)∧Rw h' b6 [.slice (some ⟨bF,0,none⟩) n n]∧Rw h' bF (ivec n fun i=>(midF n M p k (fun s=>(L.take j).any fun q=>M s q) i:Int))∧Rw h' bk [.int .i64 (k+1:Nat)]∧Holder 1 h' (.slice la L.length lc) L.length (natsV L) bL ∧
    ∃ (nv:Value) (m:List Nat),Rw h' b9 [nv]∧Holder 1 h' nv m.length (natsV m) h9.size∧m.Nodup∧∀ x,x∈m↔x<n∧farK n M p k x=0∧(L.take j).any (fun q=>M x q)=true) (fun j=>L.length - j) 0 ?_ ?_ ?_
  ·simp [Le,find]
  ·refine ⟨by omega,p0,by omega,t1,r6,?_,r8,oL,_,[],r9,.none _ _ _,by simp,by simp⟩
   rw [ivec_congr fun i hi=>?_];exact rF
   simp only [midF,List.take_zero,List.any_nil];split <;> simp_all
  rintro j h10 ⟨hj,p0,y10,t1,r6,rF,r8,oL,nv,m,r9,om,hmn,hm⟩
  have p0_z:=p0.size
  have r6_l:=r6.lt
  have rF_l:=rF.lt
  have r8_l:=r8.lt
  have oL_l:=oL.top
  have r9_l:=r9.lt
  have om_l:=om.top
  simp -dsimp only [go_sem]
  refine ⟨fun hlt=>?_,fun hge=>?_⟩
  ·have hlt:j<L.length:=by omega
   have hq:L[j]?=some L[j]:=by simp [hlt]
   have htk:L.take (j+1)=L.take j++[L[j]]:=List.take_succ_eq_append_getElem hlt
   have hqn:L[j]<n:=hL.lt hp (List.getElem_mem _)
   generalize L[j]=q at hq htk hqn
   simp -dsimp only [go_sem]
   refine Chk_intro (by omega) (oL.rd.idx (by omega) fun b11 o11 c11=>?_)
   simp -dsimp only [go_sem,c11 j _ (natsV_get hq),t1.ptr.cell]
   refine Chk_intro (by omega) ?_
   simp -dsimp only [go_sem,t1.rowsGet hqn]
   refine call_of (rel_points _ _ _ _) ?_
   rintro v h11 ⟨f11,rfl,c11,z11⟩
   have hbits:=(t1.row q hqn).2.2.2.2.2
   have f11_z:=f11.size
   replace p0:=p0.F f11
   replace r6:=r6.F f11
   replace rF:=rF.F f11
   replace r8:=r8.F f11
   replace oL:=oL.fr f11 (by have:=oL.at_;omega)
   replace r9:=r9.F f11
   replace om:=om.fr f11 (by have:=om.at_;omega)
   replace t1:=t1.fr f11 (by omega)
   simp -dsimp only [go_sem]
   have hC:∀ h',Fr 0 0 h h'→hcell h' h10.size 0=some (.slice (some ⟨R1 q,0,none⟩) (nw n) (nw n))→PTab h' h.size h1.size pb1 rb1 n R1 W1 (invM M)→RowC h10.size (.slice (some ⟨R1 q,0,none⟩) (nw n) (nw n)) (nw n) (W1 q) h':=fun h' q0 q1 q2=>⟨q1,ptab_rd q2 hqn,ht.fr q0 (by omega)⟩
   refine ⟨rfl,points_intro rfl hbits hn (hC _ p0 c11 t1)
    (fun d h'=>Fr 0 0 h h'∧h11.size≤h'.size∧PTab h' h.size h1.size pb1 rb1 n R1 W1 (invM M)∧Rw h' b6 [.slice (some ⟨bF,0,none⟩) n n]∧Rw h' bF (ivec n fun i=>(midF n M p k (fun s=>(L.take j).any (fun q=>M s q)||((rest (invM M q) n 0).take d).contains s) i:Int))∧Rw h' bk [.int .i64 (k+1:Nat)]∧Holder 1 h' (.slice la L.length lc) L.length (natsV L) bL∧hcell h' h10.size 0=some (.slice (some ⟨R1 q,0,none⟩) (nw n) (nw n)) ∧
     ∃ (nv:Value) (m:List Nat),Rw h' b9 [nv]∧Holder 1 h' nv m.length (natsV m) h9.size∧bl nv≠h10.size∧m.Nodup∧∀ x,x∈m↔x<n∧farK n M p k x=0∧((L.take j).any (fun q=>M x q)||((rest (invM M q) n 0).take d).contains x)=true)
    (fun _ _=>False) ?_ ?_ ?_ ?_ ?_ ?_ ?_⟩
   ·rintro d h' ⟨q0,-,q1,-,-,-,-,q2,-⟩;exact hC _ q0 q2 q1
   ·rintro d g1 g2 x ⟨q0,q1,q2,q3,q4,q5,q6,q7,nv,m,q8,q9,q10⟩
    exact ⟨q0.ext x (by omega),Nat.le_trans q1 x.size,q2.ext x,q3.ext x,q4.ext x,q5.ext x,q6.ext x,x.cell q7,nv,m,q8.ext x,q9.ext x,q10⟩
   ·exact fun _ _ _ _ h=>h
   ·refine ⟨p0,Nat.le_refl _,t1,r6,?_,r8,oL,c11,nv,m,r9,om,by have:=om.at_;omega,hmn,by simpa using hm⟩
    simpa using rF
   ·rintro d s h12 z12 hs hsn hsf ⟨p0,y12,t1,r6,rF,r8,oL,c12,nv,m,r9,om,hnv,hmn,hm⟩
    have hfree:∀ x,((rest (invM M q) n 0).take (d+1)).contains x=(((rest (invM M q) n 0).take d).contains x||x==s):=fun x=>by
     rw [List.take_add_one,hs,Option.toList_some,List.contains_append,List.contains_cons,List.contains_nil,Bool.or_false]
    have hmlen:m.length≤n:=nodup_lt hmn fun x hx=>((hm x).1 hx).1
    have om_t:=om.top
    have p0_z:=p0.size
    have r6_l:=r6.lt
    have rF_l:=rF.lt
    have r8_l:=r8.lt
    have oL_l:=oL.top
    have r9_l:=r9.lt
    have om_l:=om.top
    simp -dsimp only [go_sem]
    intro h13 x13
    have x13_z:=x13.size
    replace p0:=p0.ext x13 (by omega)
    replace r6:=r6.ext x13
    replace rF:=rF.ext x13
    replace r8:=r8.ext x13
    replace oL:=oL.ext x13
    replace r9:=r9.ext x13
    replace om:=om.ext x13
    replace t1:=t1.ext x13
    have c12:=x13.cell c12
    have hle:=midF_le (n:=n) (M:=M) (p:=p) (k:=k) (S:=fun s=>(L.take j).any (fun q=>M s q)||((rest (invM M q) n 0).take d).contains s) (i:=s)
    simp -dsimp only [go_sem,r6.cell]
    refine Chk_intro (by omega) ?_
    simp -dsimp only [go_sem,ivec_get hsn,rF.cell]
    cases hz:((midF n M p k (fun s=>(L.take j).any (fun q=>M s q)||((rest (invM M q) n 0).take d).contains s) s:Int)==0) with
    | true =>
     have hz:midF n M p k (fun s=>(L.take j).any (fun q=>M s q)||((rest (invM M q) n 0).take d).contains s) s=0:=by have:=eq_of_beq hz;omega
     have hf0:farK n M p k s=0:=by
      apply Classical.byContradiction;intro hh;rw [midF,if_pos hh] at hz;exact hh hz
     have hS0:((L.take j).any (fun q=>M s q)||((rest (invM M q) n 0).take d).contains s)=false:=by
      rw [Bool.eq_false_iff];intro hh;rw [midF,if_neg (by omega),if_pos hh] at hz;omega
     simp -dsimp only [go_sem,r6.cell,r8.cell]
     refine Chk_intro (by omega) ?_
     simp -dsimp only [go_sem]
     refine Chk_intro (rF.W) fun h14 s14=>?_
     have s14_z:=s14.size
     replace p0:=p0.F s14.fr
     replace r6:=r6.F s14.fr
     replace r8:=r8.F s14.fr
     replace oL:=oL.fr s14.fr (by have:=oL.at_;omega)
     replace r9:=r9.F s14.fr
     replace om:=om.fr s14.fr (by have:=om.at_;omega)
     replace t1:=t1.fr s14.fr (by omega)
     replace rF:=s14.row rF
     try simp only [cl_int,putAt_one,ivec_set] at rF
     obtain ⟨na,nc,rfl⟩:=om.is
     simp -dsimp only [go_sem,r9.cell]
     intro b15 h15 n15
     have n15_z:=n15.az
     replace p0:=p0.F n15.f0
     replace r6:=r6.F n15.f0
     replace rF:=rF.F n15.f0
     replace r8:=r8.F n15.f0
     replace oL:=oL.fr n15.f0 (by have:=oL.at_;omega)
     replace r9:=r9.F n15.f0
     replace om:=om.fr n15.f0 (by have:=om.at_;omega)
     replace t1:=t1.fr n15.f0 (by omega)
     simp -dsimp only [go_sem,n15.row.cell]
     have c15:=n15.f0.keep (s14.fr.keep c12 (by omega)) (by omega)
     have om_a:=om.at_
     refine om.append (by omega) rfl (by omega) (by simp) (by omega) fun v16 h16 o_new f16 e16=>?_
     have f16_z:=f16.size
     have o_at:=om.at_
     replace p0:=p0.F f16
     replace r6:=r6.F f16
     replace rF:=rF.F f16
     replace r8:=r8.F f16
     replace oL:=oL.fr f16 (by have:=oL.at_;omega)
     replace r9:=r9.F f16
     replace t1:=t1.fr f16 (by omega)
     clear o_at
     replace om:=o_new
     have om_l:=om.top
     have c16:=f16.keep c15 (by omega)
     have om_b:=om.at_
     obtain ⟨ua,uc,rfl⟩:=om.is
     simp -dsimp only [go_sem]
     refine Chk_intro (r9.wr (by simp)) fun h17 s17=>?_
     have s17_z:=s17.size
     have r17:=s17.row r9
     have om':=om.fr s17.fr (by omega)
     have s17.fr_z:=s17.fr.size
     replace p0:=p0.F s17.fr
     replace r6:=r6.F s17.fr
     replace rF:=rF.F s17.fr
     replace r8:=r8.F s17.fr
     replace oL:=oL.fr s17.fr (by have:=oL.at_;omega)
     replace t1:=t1.fr s17.fr (by omega)
     simp -dsimp only [go_sem] at r17
     simp -dsimp only [go_sem]
     refine ⟨p0,by omega,t1,r6,?_,r8,oL,s17.fr.keep c16 (by omega),_,m++[s],r17,by rw [natsV_append,List.length_append];exact om',by omega,?_,fun x=>?_⟩
     ·rw [ivec_congr fun i hi=>?_];exact rF
      by_cases his:i=s
      ·subst his
       rw [upd_same]
       simp only [midF,hfree,hf0,beq_self_eq_true,Bool.or_true]
       rfl
      ·rw [upd_ne _ _ his]
       have e:(i==s)=false:=by simpa using his
       simp only [midF,hfree,e,Bool.or_false]
     ·rw [List.nodup_append]
      refine ⟨hmn,by simp,fun x hx y hy=>?_⟩
      simp at hy;subst hy
      rintro rfl
      have:=((hm x).1 hx).2.2
      rw [hS0] at this;cases this
     ·rw [hfree,List.mem_append,hm,List.mem_singleton]
      constructor
      ·rintro (⟨g1,g2,g3⟩ | rfl)
       ·exact ⟨g1,g2,by rw [← Bool.or_assoc,g3,Bool.true_or]⟩
       ·exact ⟨hsn,hf0,by simp⟩
      ·rintro ⟨g1,g2,g3⟩
       by_cases hxs:x=s
       ·exact .inr hxs
       ·have e:(x==s)=false:=by simpa using hxs
        rw [e,Bool.or_false] at g3
        exact .inl ⟨g1,g2,g3⟩
    | false =>
     have hz:midF n M p k (fun s=>(L.take j).any (fun q=>M s q)||((rest (invM M q) n 0).take d).contains s) s≠0:=by have:=ne_of_beq_false hz;omega
     have keep:∀ x,x<n→midF n M p k (fun s=>(L.take j).any (fun q=>M s q)||((rest (invM M q) n 0).take d).contains s) x=midF n M p k (fun s=>(L.take j).any (fun q=>M s q)||((rest (invM M q) n 0).take (d+1)).contains s) x:=fun x hx=>by
      by_cases hxs:x=s
      ·subst hxs
       by_cases hf:farK n M p k x=0
       ·have h1:((L.take j).any (fun q=>M x q)||((rest (invM M q) n 0).take d).contains x)=true:=by
         cases h1:((L.take j).any (fun q=>M x q)||((rest (invM M q) n 0).take d).contains x) with
         | true=>rfl
         | false=>exact absurd (by simp only [midF];rw [if_neg (show ¬ farK n M p k x≠0 by omega)];simp only [h1];rfl) hz
        have h2:((L.take j).any (fun q=>M x q)||((rest (invM M q) n 0).take (d+1)).contains x)=true:=by
         rw [hfree,← Bool.or_assoc,h1,Bool.true_or]
        simp only [midF,h1,h2]
       ·simp only [midF];rw [if_pos hf,if_pos hf]
      ·have e:(x==s)=false:=by simpa using hxs
       simp only [midF,hfree,e,Bool.or_false]
     simp -dsimp only [go_sem]
     refine ⟨p0,by omega,t1,r6,?_,r8,oL,c12,nv,m,r9,om,hnv,hmn,fun x=>?_⟩
     ·rw [ivec_congr fun i hi=>?_];exact rF
      rw [keep i hi]
     ·rw [hm]
      refine and_congr_right fun hx=>and_congr_right fun hf=>?_
      have:=keep x hx
      simp only [midF] at this
      rw [if_neg (show ¬ farK n M p k x≠0 by omega),if_neg (show ¬ farK n M p k x≠0 by omega)] at this
      rw [ite_inj this]
   ·rintro h12 z12 ⟨p0,y12,t1,r6,rF,r8,oL,c12,nv,m,r9,om,hnv,hmn,hm⟩
    have hS:∀ s,s<n→((L.take j).any (fun q=>M s q)||((rest (invM M q) n 0).take (rest (invM M q) n 0).length).contains s)=(L.take (j+1)).any fun q=>M s q:=fun s hs=>by
     rw [List.take_length,htk,List.any_append]
     congr 1
     rw [Bool.eq_iff_iff,List.contains_iff_mem,mem_rest]
     simp [hs,invM]
    simp -dsimp only [go_sem]
    simp -dsimp (disch:=omega) only [wrap64]
    refine ⟨j+1,by omega,by simp [Le,find],by omega,p0,by omega,t1,r6,?_,r8,oL,nv,m,r9,om,hmn,fun x=>?_⟩
    ·rw [ivec_congr fun i hi=>?_];exact rF
     simp only [midF,hS i hi]
    ·rw [hm]
     exact and_congr_right fun hx=>by rw [hS x hx]
   ·exact fun _ _ _ h=>h.elim
  ·obtain rfl:j=L.length:=by omega
   rw [List.take_length] at rF hm
   have rF':Rw h10 bF (ivec n fun i=>(farK n M p (k+1) i:Int)):=by
    rw [ivec_congr fun i hi=>?_];exact rF
    rw [midF_end (hL.lay i)]
   clear rF
   have hm':LayL n M p (k+1) m:=.inr ⟨by omega,fun x=>by
    rw [hm]
    refine and_congr_right fun hx=>?_
    by_cases hf:farK n M p k x=0
    ·rw [farK_new hf,hL.lay]
     cases lay n M p (farK n M p k) k x <;> simp [hf]
    ·rw [farK_keep hf]
     have:=farK_le (n:=n) (M:=M) (p:=p) k x
     constructor
     ·rintro ⟨h1,_⟩;exact absurd h1 hf
     ·intro h1;omega⟩
   have hkn1:m≠[]→known n M p k<known n M p (k+1)∧k+1≤n:=fun hne=>by
    obtain ⟨x,hx⟩:=List.exists_mem_of_ne_nil m hne
    rcases hm' with ⟨h,_⟩ | ⟨_,h⟩
    ·omega
    ·obtain ⟨h1,h2⟩:=(h x).1 hx
     have:=known_ge h1 h2
     have:=known_le (n:=n) (M:=M) (p:=p) (k+1)
     exact ⟨known_grows h1 h2,by omega⟩
   have hk1:=known_le (n:=n) (M:=M) (p:=p) (k+1)
   have hk0:=known_le (n:=n) (M:=M) (p:=p) k
   have hkk:k≤n:=by
    cases hL with
    | inl h=>omega
    | inr h =>
     obtain ⟨x,hx⟩:=List.exists_mem_of_ne_nil L (by rintro rfl;simp at hgt)
     obtain ⟨h1,h2⟩:=(h.2 x).1 hx
     obtain ⟨k',rfl⟩:∃ k',k=k' + 1:=⟨k - 1,by omega⟩
     have:=known_ge h1 h2;omega
   have om_t:=om.top
   have om_a:=om.at_
   simp -dsimp only [go_sem,r8.cell,r9.cell]
   intro b11 h11 n11
   have n11_z:=n11.az
   replace p0:=p0.F n11.f0
   replace r6:=r6.F n11.f0
   replace r8:=r8.F n11.f0
   replace oL:=oL.fr n11.f0 (by have:=oL.at_;omega)
   replace r9:=r9.F n11.f0
   replace om:=om.fr n11.f0 (by have:=om.at_;omega)
   replace t1:=t1.fr n11.f0 (by omega)
   replace rF':=rF'.fr n11.f0 (by omega)
   have r11:=n11.row
   simp -dsimp only [go_sem]
   refine Chk_intro (r11.W) fun h12 s12=>?_
   have s12_z:=s12.size
   replace p0:=p0.F s12.fr
   replace r6:=r6.F s12.fr
   replace r8:=r8.F s12.fr
   replace oL:=oL.fr s12.fr (by have:=oL.at_;omega)
   replace r9:=r9.F s12.fr
   replace om:=om.fr s12.fr (by have:=om.at_;omega)
   replace t1:=t1.fr s12.fr (by omega)
   replace rF':=rF'.fr s12.fr (by omega)
   replace r11:=s12.row r11
   try simp only [cl_int,putAt_one,List.set_cons_zero] at r11
   simp -dsimp only [go_sem,r11.cell]
   refine Chk_intro (r11.W) fun h13 s13=>?_
   have s13_z:=s13.size
   replace p0:=p0.F s13.fr
   replace r6:=r6.F s13.fr
   replace r8:=r8.F s13.fr
   replace oL:=oL.fr s13.fr (by have:=oL.at_;omega)
   replace r9:=r9.F s13.fr
   replace om:=om.fr s13.fr (by have:=om.at_;omega)
   replace t1:=t1.fr s13.fr (by omega)
   replace rF':=rF'.fr s13.fr (by omega)
   replace r11:=s13.row r11
   try simp only [cl_int,putAt_one,List.set_cons_zero] at r11
   simp -dsimp only [go_sem]
   refine ⟨(k+1,nv,b11,m.length),?_,by simp [Le,find],p0,by first | omega | (dsimp only;omega),t1,r6,rF',?_,by first | omega | (dsimp only;omega),by first | omega | (dsimp only;omega),m,rfl,?_,by first | omega | (dsimp only;omega),hm',hmn⟩
   ·dsimp only
    have hLne:¬ L.length=0:=by omega
    rw [if_neg hLne]
    by_cases hme:m=[]
    ·subst hme
     have hmono:known n M p k≤known n M p (k+1):=List.countP_mono_left fun i _ hi=>by
      have:farK n M p k i≠0:=by simpa using hi
      simpa [farK_keep this] using hi
     simp;omega
    ·have:=hkn1 hme
     rw [if_neg (by intro h;exact hme (List.length_eq_zero_iff.1 h))]
     omega
   ·rw [wrap64 (by omega) (by omega)] at r11
    exact r11
   ·exact (om).lower (by omega)
 ·have hL0:L=[]:=List.length_eq_zero_iff.1 (by omega)
  subst hL0
  have rF':Rw h8 bF (ivec n fun i=>(farS n M p i:Int)):=by
   rw [ivec_congr fun i hi=>?_];exact rF
   rcases hL with ⟨_,h⟩ | ⟨hk,h⟩
   ·cases h
   ·obtain ⟨k,rfl⟩:∃ k',k=k' + 1:=⟨k - 1,by omega⟩
    have hno:∀ i,i<n→farK n M p (k+1) i≠k+1:=fun i hi he=>by have:=(h i).2 ⟨hi,he⟩;simp at this
    rw [← farK_all hno hi,← farK_stable hno 1 i hi]
  clear rF hle
  have rF:=rF'
  clear rF'
  obtain ⟨m,hm⟩:∃ m,farS n M p p=m+1:=⟨farS n M p p - 1,by omega⟩
  have hmn:=farS_le (n:=n) (M:=M) (p:=p) p
  have p0_z:=p0.size
  have r6_l:=r6.lt
  have rF_l:=rF.lt
  have h8_z:=p0.size
  simp -dsimp only [go_sem]
  intro b9 h9 n9
  have n9_a:=n9.at_
  have n9_z:=n9.size
  replace p0:=p0.F n9.f0
  replace r6:=r6.F n9.f0
  replace rF:=rF.F n9.f0
  have r9:=n9.row
  simp -dsimp only [go_sem]
  intro b10 h10 n10
  have n10_z:=n10.az
  replace p0:=p0.F n10.f0
  replace r6:=r6.F n10.f0
  replace rF:=rF.F n10.f0
  replace r9:=r9.F n10.f0
  have r10:=n10.row
  simp -dsimp only [go_sem]
  refine Chk_intro (r10.W) fun h11 s11=>?_
  have s11_z:=s11.size
  replace p0:=p0.F s11.fr
  replace r6:=r6.F s11.fr
  replace rF:=rF.F s11.fr
  replace r9:=r9.F s11.fr
  replace r10:=s11.row r10
  try simp only [cl_slice,putAt_one,List.set_cons_zero] at r10
  simp -dsimp only [go_sem,r6.cell]
  refine Chk_intro (by omega) ?_
  simp -dsimp only [go_sem,ivec_get hp,rF.cell]
  rw [hm,wrap64 (by omega) (by omega),show (((m+1:Nat):Int) - 1)=(m:Int) by omega]
  intro b12 h12 n12
  have n12_z:=n12.az
  replace p0:=p0.F n12.f0
  replace r6:=r6.F n12.f0
  replace rF:=rF.F n12.f0
  replace r9:=r9.F n12.f0
  replace r10:=r10.F n12.f0
  have r12:=n12.row
  simp -dsimp only [go_sem]
  refine Chk_intro (r12.W) fun h13 s13=>?_
  have s13_z:=s13.size
  replace p0:=p0.F s13.fr
  replace r6:=r6.F s13.fr
  replace rF:=rF.F s13.fr
  replace r9:=r9.F s13.fr
  replace r10:=r10.F s13.fr
  replace r12:=s13.row r12
  try simp only [cl_int,putAt_one,List.set_cons_zero] at r12
  simp -dsimp only [go_sem]
  have o9:Holder 1 h13 (.slice (some ⟨b9,0,none⟩) 1 1) 1 (natsV [p]) h8.size:=⟨rfl,.inr ⟨b9,1,[],rfl,r9,rfl,by omega⟩⟩
  refine loop_intro (fun s:Nat×Nat=>[(0,.pointer (some ⟨pb,0,none⟩)),(4,.slice none 0 0),(6,.pointer (some ⟨b6,0,none⟩)),(13,.pointer (some ⟨b10,0,none⟩)),(14,.pointer (some ⟨s.2,0,none⟩))])
   (fun s h'=>Fr 0 0 h h'∧h13.size≤h'.size∧Rw h' b6 [.slice (some ⟨bF,0,none⟩) n n]∧Rw h' bF (ivec n fun i=>(farS n M p i:Int))∧Rw h' s.2 [.int .i64 s.1]∧b10<s.2 ∧
    ∃ (lv:Value) (l:List Nat) (a:Nat),Rw h' b10 [lv]∧Holder 1 h' lv (l++[a]).length (natsV (l++[a])) h8.size∧bl lv≠b10∧bl lv≠s.2∧a<n∧farS n M p a=s.1+1∧l++[a]++cycGo n M (farS n M p) s.1 a=shortS n M p∧l.length+s.1≤n+1)
   (fun s=>s.1) (m,b12) ?_ ?_ ?_
  ·simp [Le,find]
  ·refine ⟨p0,by omega,r6,rF,r12,by first | omega | (dsimp only;omega),_,[],p,r10,o9,by simp [bl];omega,by simp [bl];omega,hp,hm,?_,by simp;omega⟩
   simp [shortS,hm]
  clear hm hmn
  rintro ⟨k,bn⟩ h14 ⟨p0,y14,r6,rF,r12,hbn,lv,l,a,r10,ol,hl1,hl2,han,hfa,hcy,hlk⟩
  dsimp only at r12 hbn hl2 hfa hcy hlk ⊢
  have p0_z:=p0.size
  have r6_l:=r6.lt
  have rF_l:=rF.lt
  have r12_l:=r12.lt
  have r10_l:=r10.lt
  have ol_l:=ol.top
  obtain ⟨va,vc,rfl⟩:=ol.is
  simp -dsimp only [go_sem,r12.cell]
  refine ⟨fun hgt=>?_,fun hle=>?_⟩
  ·obtain ⟨k,rfl⟩:∃ k',k=k' + 1:=⟨k - 1,by omega⟩
   have hll:(l++[a]).length=l.length+1:=by simp
   rw [hll] at r10 ol hl1 hl2
   have hla:(natsV (l++[a]))[l.length]?=some (.int .i64 (a:Int)):=natsV_get (by simp)
   have tp:=t.fr p0 (by omega)
   simp -dsimp only [go_sem,tp.ptr.cell,r10.cell]
   rw [show (((l.length+1:Nat):Int) - 1)=(l.length:Int) by omega,wrap64 (by omega) (by omega)]
   refine Chk_intro (by omega) (ol.rd.idx (by omega) fun b15 o15 c15=>?_)
   simp -dsimp only [go_sem,c15 _ _ hla]
   refine Chk_intro (by omega) ?_
   simp -dsimp only [go_sem,tp.rowsGet han]
   refine call_of (rel_points _ _ _ _) ?_
   rintro v h15 ⟨f15,rfl,cc,z15⟩
   have c15':=f15.keep (c15 _ _ hla) (by omega)
   have f15_z:=f15.size
   replace p0:=p0.F f15
   replace r6:=r6.F f15
   replace rF:=rF.F f15
   replace r12:=r12.F f15
   replace r10:=r10.F f15
   replace ol:=ol.fr f15 (by have:=ol.at_;omega)
   have tp:=t.fr p0 (by omega)
   simp -dsimp only [go_sem,tp.ptr.cell,c15',r10.cell]
   have hbits:=(t.row a han).2.2.2.2.2
   have hC:∀ h',Fr 0 0 h h'→hcell h' h14.size 0=some (.slice (some ⟨R a,0,none⟩) (nw n) (nw n))→RowC h14.size (.slice (some ⟨R a,0,none⟩) (nw n) (nw n)) (nw n) (W a) h':=fun h' q0 q1=>⟨q1,ptab_rd (t.fr q0 (by omega)) han,ht.fr q0 (by omega)⟩
   have hex:=(farS_step hfa).2 (by omega)
   refine ⟨rfl,points_intro rfl hbits hn (hC _ p0 cc)
    (fun d h'=>Fr 0 0 h h'∧h15.size≤h'.size∧Rw h' b6 [.slice (some ⟨bF,0,none⟩) n n]∧Rw h' bF (ivec n fun i=>(farS n M p i:Int))∧Rw h' bn [.int .i64 (k+1:Nat)]∧Rw h' b10 [.slice va (l.length+1) vc]∧Holder 1 h' (.slice va (l.length+1) vc) (l.length+1) (natsV (l++[a])) h8.size∧hcell h' h14.size 0=some (.slice (some ⟨R a,0,none⟩) (nw n) (nw n))∧∀ x∈(rest (M a) n 0).take d,farS n M p x≠k+1)
    (fun x h'=>x=.exit 8∧Fr 0 0 h h'∧h15.size≤h'.size∧Rw h' b6 [.slice (some ⟨bF,0,none⟩) n n]∧Rw h' bF (ivec n fun i=>(farS n M p i:Int))∧Rw h' bn [.int .i64 (k+1:Nat)]∧∃ (uv:Value) (s:Nat),Rw h' b10 [uv]∧Holder 1 h' uv (l++[a]++[s]).length (natsV (l++[a]++[s])) h8.size∧bl uv≠b10∧bl uv≠bn∧s<n∧lf (fun q=>M a q&&farS n M p q==k+1) n 0=some s) ?_ ?_ ?_ ?_ ?_ ?_ ?_⟩
   ·rintro d h' ⟨q0,-,-,-,-,-,-,q1,-⟩;exact hC _ q0 q1
   ·rintro d g1 g2 x ⟨q0,q1,q2,q3,q4,q5,q6,q7,q8⟩
    exact ⟨q0.ext x (by omega),Nat.le_trans q1 x.size,q2.ext x,q3.ext x,q4.ext x,q5.ext x,q6.ext x,x.cell q7,q8⟩
   ·rintro e g1 g2 x ⟨q',q0,q1,q2,q3,q4,uv,s,q5,q6,q7⟩
    exact ⟨q',q0.ext x (by omega),Nat.le_trans q1 x.size,q2.ext x,q3.ext x,q4.ext x,uv,s,q5.ext x,q6.ext x,q7⟩
   ·exact ⟨p0,Nat.le_refl _,r6,rF,r12,r10,ol,cc,by simp⟩
   ·rintro d s h16 z16 hs hsn hsf ⟨p0,y16,r6,rF,r12,r10,ol,c16,hnone⟩
    have ol_t:=ol.top
    have p0_z:=p0.size
    have r6_l:=r6.lt
    have rF_l:=rF.lt
    have r12_l:=r12.lt
    have r10_l:=r10.lt
    have ol_l:=ol.top
    simp -dsimp only [go_sem]
    intro h17 x17
    have x17_z:=x17.size
    replace p0:=p0.ext x17 (by omega)
    replace r6:=r6.ext x17
    replace rF:=rF.ext x17
    replace r12:=r12.ext x17
    replace r10:=r10.ext x17
    replace ol:=ol.ext x17
    have c16:=x17.cell c16
    simp -dsimp only [go_sem,r6.cell]
    refine Chk_intro (by omega) ?_
    simp -dsimp only [go_sem,ivec_get hsn,rF.cell,r12.cell]
    cases hz:((farS n M p s:Int)==((k+1:Nat):Int)) with
    | true =>
     have hz:farS n M p s=k+1:=by have:=eq_of_beq hz;omega
     simp -dsimp only [go_sem,r10.cell]
     intro b18 h18 n18
     have n18_a:=n18.at_
     have n18_z:=n18.size
     replace p0:=p0.F n18.f0
     replace r6:=r6.F n18.f0
     replace rF:=rF.F n18.f0
     replace r12:=r12.F n18.f0
     replace r10:=r10.F n18.f0
     replace ol:=ol.fr n18.f0 (by have:=ol.at_;omega)
     have c18:=n18.f0.keep c16 (by omega)
     simp -dsimp only [go_sem,n18.row.cell]
     have ol_a:=ol.at_
     refine ol.append (by omega) rfl (by omega) (by simp) (by omega) fun v19 h19 o_new f19 e19=>?_
     have f19_z:=f19.size
     have o_at:=ol.at_
     replace p0:=p0.F f19
     replace r6:=r6.F f19
     replace rF:=rF.F f19
     replace r12:=r12.F f19
     replace r10:=r10.F f19
     clear o_at
     replace ol:=o_new
     have ol_l:=ol.top
     obtain ⟨ua,uc,rfl⟩:=ol.is
     have ol_b:=ol.at_
     simp -dsimp only [go_sem]
     refine Chk_intro (r10.wr (by simp)) fun h20 s20=>?_
     have s20_z:=s20.size
     have r20:=s20.row r10
     have ol':=ol.fr s20.fr (by omega)
     have s20.fr_z:=s20.fr.size
     replace p0:=p0.F s20.fr
     replace r6:=r6.F s20.fr
     replace rF:=rF.F s20.fr
     replace r12:=r12.F s20.fr
     simp -dsimp only [go_sem] at r20
     simp -dsimp only [go_sem]
     refine ⟨rfl,p0,by omega,r6,rF,r12,_,s,r20,by rw [natsV_append,List.length_append,hll];exact ol',by omega,by omega,hsn,lf_is (by omega) hsn (by simp [hsf,hz]) fun y _ hy=>?_⟩
     cases hM:M a y with
     | false=>simp
     | true =>
      have:=hnone y (rest_before hs hy hM)
      simp [this]
    | false =>
     have hz:farS n M p s≠k+1:=by have:=ne_of_beq_false hz;omega
     simp -dsimp only [go_sem]
     refine ⟨p0,by omega,r6,rF,r12,r10,ol,c16,fun x hx=>?_⟩
     rw [List.take_add_one,hs,Option.toList_some] at hx
     rcases List.mem_append.1 hx with hx | hx
     ·exact hnone x hx
     ·simp at hx;subst hx;exact hz
   ·rintro h16 z16 ⟨p0,y16,r6,rF,r12,r10,ol,c16,hnone⟩
    obtain ⟨x,hx,hM,hf⟩:=hex
    rw [List.take_length] at hnone
    exact absurd hf (hnone x (mem_rest.2 ⟨by omega,hx,hM⟩))
   ·rintro x h16 z16 ⟨rfl,p0,y16,r6,rF,r12,uv,s,r10,ol,hu1,hu2,hsn,hlf⟩
    have hfs:farS n M p s=k+1:=by
     have:=(lf_some hlf).2.2
     simp at this;exact this.2
    refine ⟨by simp,?_⟩
    have ol_a:=ol.at_
    have p0_z:=p0.size
    have r6_l:=r6.lt
    have rF_l:=rF.lt
    have r12_l:=r12.lt
    have r10_l:=r10.lt
    have ol_l:=ol.top
    simp -dsimp only [go_sem,r12.cell]
    intro b18 h18 n18
    have n18_a:=n18.at_
    have n18_z:=n18.size
    replace p0:=p0.F n18.f0
    replace r6:=r6.F n18.f0
    replace rF:=rF.F n18.f0
    replace r12:=r12.F n18.f0
    replace r10:=r10.F n18.f0
    replace ol:=ol.fr n18.f0 (by have:=ol.at_;omega)
    have r18:=n18.row
    simp -dsimp only [go_sem]
    refine Chk_intro (r18.W) fun h19 s19=>?_
    have s19_z:=s19.size
    replace p0:=p0.F s19.fr
    replace r6:=r6.F s19.fr
    replace rF:=rF.F s19.fr
    replace r12:=r12.F s19.fr
    replace r10:=r10.F s19.fr
    replace ol:=ol.fr s19.fr (by have:=ol.at_;omega)
    replace r18:=s19.row r18
    try simp only [cl_int,putAt_one,List.set_cons_zero] at r18
    simp -dsimp only [go_sem,r18.cell]
    refine Chk_intro (r18.W) fun h20 s20=>?_
    have s20_z:=s20.size
    replace p0:=p0.F s20.fr
    replace r6:=r6.F s20.fr
    replace rF:=rF.F s20.fr
    replace r12:=r12.F s20.fr
    replace r10:=r10.F s20.fr
    replace ol:=ol.fr s20.fr (by have:=ol.at_;omega)
    replace r18:=s20.row r18
    try simp only [cl_int,putAt_one,List.set_cons_zero] at r18
    rw [wrap64 (by omega) (by omega)] at r18
    simp -dsimp only [go_sem]
    refine ⟨(k,b18),by first | omega | (dsimp only;omega),by simp [Le,find],p0,by first | omega | (dsimp only;omega),r6,rF,by rw [show (((k+1:Nat):Int) - 1)=(k:Int) by omega] at r18;exact r18,by first | omega | (dsimp only;omega),uv,l++[a],s,r10,ol,hu1,by first | omega | (dsimp only;omega),hsn,hfs,?_,by simp;omega⟩
    rw [← hcy]
    simp only [cycGo,hlf,List.append_assoc,List.cons_append,List.nil_append]
  ·obtain rfl:k=0:=by omega
   simp -dsimp only [go_sem,r10.cell]
   rw [← hcy]
   simp only [cycGo,List.append_nil]
   exact ⟨p0,ol.lower (by omega)⟩
theorem rel_Cycle {n:Nat} {M:Nat→Nat→Bool} {pv:Value} {lo hi:Nat} {h:Heap} (hr:ProgAt h lo hi pv n M) (ht:TabAt h) :
  Con Tryz.prog 44 #[pv] h fun v h'=>Fr 0 0 h h'∧Holder 1 h' v (cycS n M).length (natsV (cycS n M)) h.size:=by
 refine con_q68 ?_
 have hr0:=hr
 obtain ⟨hn,pb,rb,R,W,rfl,t⟩:=hr
 simp -dsimp only [go_sem]
 refine call_of (rel_Plus hr0) ?_
 rintro v1 h1 ⟨p0,-,pb1,rb1,R1,W1,rfl,t1⟩
 have tp:=t.fr p0 (by omega)
 have h1_z:=p0.size
 simp -dsimp only [go_sem,tp.ptr.cell]
 refine loop_intro (fun a:Nat=>[(0,.pointer (some ⟨pb,0,none⟩)),(3,.pointer (some ⟨pb1,0,none⟩)),(10,.int .i64 n),(11,.int .i64 a)])
  (fun a h'=>a≤n∧h'=h1∧lf (fun p=>plusM n M p p) n 0=lf (fun p=>plusM n M p p) n a) (fun a=>n - a) 0 ?_ ?_ ?_
 ·simp [Le,find]
 ·exact ⟨by omega,rfl,rfl⟩
 rintro a h2 ⟨ha,hh,hlf⟩
 obtain rfl:h1=h2:=hh.symm
 simp -dsimp only [go_sem]
 refine ⟨fun hlt=>?_,fun hge=>?_⟩
 ·have hlt:a<n:=by omega
  obtain ⟨g1,g2,g3,g4,g5,g6⟩:=t1.row a hlt
  simp -dsimp only [go_sem,t1.ptr.cell]
  refine Chk_intro (by omega) ?_
  simp -dsimp only [go_sem,t1.rowsGet hlt]
  refine call_of (row_has (p:=a) (ptab_rd t1 hlt) (by unfold nw;omega) (g6 _).1 (by omega)) ?_
  rintro v h3 ⟨rfl,rfl⟩
  rw [g6.get hlt]
  rw [lf_step _ hlt] at hlf
  cases hm:plusM n M a a with
  | true =>
   rw [hm] at hlf
   simp -dsimp only [go_sem]
   refine call_of (rel_shortest (hr0.fr p0 (by omega)) (ht.fr p0 (by omega)) hlt (plus_far hlt hlt hm)) ?_
   rintro v4 h4 ⟨f4,o4⟩
   simp -dsimp only [go_sem]
   refine ⟨p0.trans f4,?_⟩
   unfold cycS
   rw [hlf]
   exact o4.lower (by omega)
  | false =>
   rw [hm] at hlf
   simp -dsimp only [go_sem]
   simp -dsimp (disch:=omega) only [wrap64]
   exact ⟨a+1,by omega,by simp [Le,find],by omega,hlf⟩
 ·obtain rfl:a=n:=by omega
  simp -dsimp only [go_sem]
  refine ⟨p0,?_⟩
  unfold cycS
  rw [hlf,lf_end _ (Nat.le_refl _)]
  exact .none _ _ _
end Go.Proofs.Tst
namespace Go.Proofs.Tst
open Go Go.Vc
theorem ref1_Wide {n:Nat} {M:Nat→Nat→Bool} {rv:Value} {lo hi:Nat} {h:Heap} (hr:RefAt h lo hi rv n M) (k:Nat) (hk:k≤256) :
  Con Tryz.prog 57 #[rv,.int .i64 k] h fun v h'=>Fr 0 0 h h'∧RefAt h' h.size h'.size v (max k n) (inN n M):=by
 refine con_q39 ?_
 obtain ⟨hn,s,R,rfl,t⟩:=hr
 obtain ⟨sa,sc,rfl⟩:=t.own.is
 have hcl:clampN (max k n:Nat)=max k n:=by unfold clampN;omega
 have p0:Fr 0 0 h h:=.refl _ _ _
 simp -dsimp only [go_sem]
 intro b2 h2 n2
 have n2_z:=n2.az
 replace p0:=p0.F n2.f0
 have r2:=n2.row
 simp -dsimp only [go_sem]
 intro b4 h4 n4
 have n4_z:=n4.az
 replace p0:=p0.F n4.f0
 replace r2:=r2.F n4.f0
 have r4:=n4.row
 simp -dsimp only [go_sem,r2.cell]
 refine If_joint (fun m:Int=>[(1,.int .i64 m),(2,.pointer (some ⟨b2,0,none⟩)),(4,.pointer (some ⟨b4,0,none⟩))]) (fun m h'=>h'=h4∧m=(max k n:Nat)) (fun hgt=>?_) (fun hle=>?_) ?_
 ·simp -dsimp only [go_sem,r2.cell]
  exact ⟨(n:Nat),by simp [Le,find],by omega⟩
 ·simp -dsimp only [go_sem]
  exact ⟨(k:Nat),by simp [Le,find],by omega⟩
 rintro m h5 ⟨rfl,rfl⟩ e ⟨e1,e2,e4,-⟩
 simp -dsimp only [go_sem,e1]
 refine call_of (ref1_New (max k n:Nat) h5) ?_
 rintro v h6 ⟨f6,t6⟩
 rw [hcl] at t6
 obtain ⟨hmx,z,Z,rfl,t6⟩:=t6
 obtain ⟨za,zc,rfl⟩:=t6.own.is
 have t6_a:=t6.own.at_
 have f6_z:=f6.size
 replace p0:=p0.F f6
 replace r2:=r2.F f6
 replace r4:=r4.F f6
 simp -dsimp only [go_sem]
 intro b7 h7 n7
 have n7_z:=n7.az
 replace p0:=p0.F n7.f0
 replace r2:=r2.F n7.f0
 replace r4:=r4.F n7.f0
 replace t6:=t6.fr n7.f0 (by omega)
 have r7:=n7.row
 simp -dsimp only [go_sem]
 refine Chk_intro (r7.W) fun h8 s8=>?_
 have s8_z:=s8.size
 replace p0:=p0.F s8.fr
 replace r2:=r2.F s8.fr
 replace r4:=r4.F s8.fr
 replace t6:=t6.fr s8.fr (by omega)
 replace r7:=s8.row r7
 try simp only [cl_int,cl_bool,cl_slice,cl_ptr,putAt_one,zs0,zs1,ivec_set,brow_upd] at r7
 simp -dsimp only [go_sem,e2,e4]
 refine loop_intro (fun p:Nat=>[(2,.pointer (some ⟨b2,0,none⟩)),(4,.pointer (some ⟨b4,0,none⟩)),(5,.pointer (some ⟨b7,0,none⟩)),(6,.int .i64 p)]) (fun p h'=>p≤n∧Fr 0 0 h h'∧h8.size≤h'.size∧Rw h' b2 [.int .i64 n,.slice sa n sc]∧Rw h' b4 [.int .i64 0,.slice none 0 0]∧Rw h' b7 [.int .i64 (max k n:Nat),.slice za (max k n) zc]∧Tab h' h5.size h6.size (.slice za (max k n) zc) (max k n) (max k n) Z (mixM p 0 n (M) (fun _ _=>false))) (fun p=>n - p) 0 ?_ ?_ ?_
 ·simp [Le,find]
 ·exact ⟨by omega,p0,by omega,r2,r4,r7,t6.congr fun i j _ _=>by rw [mixM_zero]⟩
 rintro p hP ⟨hp,p0,yP,r2,r4,r7,t6⟩
 have p0_z:=p0.size
 have r2_l:=r2.lt
 have r4_l:=r4.lt
 have r7_l:=r7.lt
 simp -dsimp only [go_sem,r2.cell]
 refine ⟨fun hlt1=>?_,fun hge1=>?_⟩
 ·have hlt1:p<n:=by omega
  simp -dsimp only [go_sem]
  refine loop_intro (fun q:Nat=>[(2,.pointer (some ⟨b2,0,none⟩)),(4,.pointer (some ⟨b4,0,none⟩)),(5,.pointer (some ⟨b7,0,none⟩)),(6,.int .i64 p),(7,.int .i64 q)]) (fun q h'=>q≤n∧Fr 0 0 h h'∧h8.size≤h'.size∧Rw h' b2 [.int .i64 n,.slice sa n sc]∧Rw h' b4 [.int .i64 0,.slice none 0 0]∧Rw h' b7 [.int .i64 (max k n:Nat),.slice za (max k n) zc]∧Tab h' h5.size h6.size (.slice za (max k n) zc) (max k n) (max k n) Z (mixM p q n (M) (fun _ _=>false))) (fun q=>n - q) 0 ?_ ?_ ?_
  ·simp [Le,find]
  ·exact ⟨by omega,p0,by omega,r2,r4,r7,t6⟩
  rintro q hQ ⟨hq,p0,yQ,r2,r4,r7,t6⟩
  have p0_z:=p0.size
  have r2_l:=r2.lt
  have r4_l:=r4.lt
  have r7_l:=r7.lt
  simp -dsimp only [go_sem,r2.cell]
  refine ⟨fun hlt2=>?_,fun hge2=>?_⟩
  ·have hlt2:q<n:=by omega
   have tp:=t.fr p0 (by omega)
   simp -dsimp only [go_sem,r7.cell]
   refine Chk_intro (by omega) (t6.idx (p:=p) (by omega) fun b9 o9 c9=>?_)
   simp -dsimp only [go_sem,c9,r2.cell]
   refine Chk_intro (by omega) (tp.idx hlt1 fun b10 o10 c10=>?_)
   simp -dsimp only [go_sem,c10]
   refine Chk_intro (by omega) ?_
   simp -dsimp only [go_sem,tp.cell hlt1 hlt2]
   refine Chk_intro (by omega) ?_
   simp -dsimp only [go_sem]
   refine Chk_intro (t6.wr (by omega) (by omega)) fun h9 s9=>?_
   have s9_z:=s9.size
   have w_row:=t6.row p (by omega)
   have t_new:=t6.set (p:=p) (q:=q) (by omega) s9
   replace p0:=p0.F s9.fr
   replace r2:=r2.F s9.fr
   replace r4:=r4.F s9.fr
   replace r7:=r7.F s9.fr
   simp -dsimp only [go_sem]
   simp -dsimp (disch:=omega) only [wrap64]
   exact ⟨q+1,by omega,by simp [Le,find],by omega,p0,by omega,r2,r4,r7,t_new.congr fun i j hi hj=>mixM_set (rfl)⟩
  ·have hqn:q=n:=by omega
   simp -dsimp only [go_sem]
   simp -dsimp (disch:=omega) only [wrap64]
   exact ⟨p+1,by omega,by simp [Le,find],by omega,p0,by omega,r2,r4,r7,t6.congr fun i j _ _=>by rw [hqn];exact mixM_next⟩
 have hpn:p=n:=by omega
 simp -dsimp only [go_sem,r7.cell]
 refine Chk_intro (r4.W) fun h9 s9=>?_
 have s9_z:=s9.size
 replace p0:=p0.F s9.fr
 replace r2:=r2.F s9.fr
 replace r7:=r7.F s9.fr
 replace t6:=t6.fr s9.fr (by omega)
 replace r4:=s9.row r4
 try simp only [cl_int,cl_bool,cl_slice,cl_ptr,putAt_one,zs0,zs1,ivec_set,brow_upd] at r4
 simp -dsimp only [go_sem,r4.cell]
 refine ⟨p0,hmx,_,Z,rfl,((t6.mono (by omega) (by omega)).congr fun i j hi hj=>?_)⟩
 rw [hpn]
 by_cases hij:i<n∧j<n
 ·rw [mixM_end hij.1 hij.2,inN_in hij.1 hij.2]
 ·rw [inN_out hij];unfold mixM;rw [if_neg (by omega)]
end Go.Proofs.Tst
namespace Go.Proofs.Tst
open Go Go.Vc
theorem ref1_Has {n:Nat} {M:Nat→Nat→Bool} {rv:Value} {lo hi:Nat} {h:Heap} (hr:RefAt h lo hi rv n M) (a b:Int) :
  Con Tryz.prog 58 #[rv,.int .i64 a,.int .i64 b] h fun v h'=>Fr 0 0 h h'∧v=.bool (inR n a&&inR n b&&M a.toNat b.toNat):=by
 refine con_q32 ?_
 obtain ⟨hn,s,R,rfl,t⟩:=hr
 obtain ⟨sa,sc,rfl⟩:=t.own.is
 have p0:Fr 0 0 h h:=.refl _ _ _
 simp -dsimp only [go_sem]
 intro b1 h1 n1
 have n1_z:=n1.az
 replace p0:=p0.F n1.f0
 have r1:=n1.row
 simp -dsimp only [go_sem,r1.cell]
 refine call_of (ref1_in n a _ h1) ?_
 rintro v h2 ⟨f2,rfl⟩
 have f2_z:=f2.size
 replace p0:=p0.F f2
 replace r1:=r1.F f2
 cases ha:inR n a with
 | false =>
  simp -dsimp only [go_sem]
  exact ⟨p0,by simp⟩
 | true =>
  simp -dsimp only [go_sem,r1.cell]
  refine call_of (ref1_in n b _ h2) ?_
  rintro v h3 ⟨f3,rfl⟩
  have f3_z:=f3.size
  replace p0:=p0.F f3
  replace r1:=r1.F f3
  cases hb:inR n b with
  | false =>
   simp -dsimp only [go_sem]
   exact ⟨p0,by simp⟩
  | true =>
   simp only [inR,decide_eq_true_eq] at ha hb
   obtain ⟨x,rfl⟩:∃ x:Nat,a=x:=⟨a.toNat,by omega⟩
   obtain ⟨y,rfl⟩:∃ y:Nat,b=y:=⟨b.toNat,by omega⟩
   have tp:=t.fr p0 (by omega)
   simp -dsimp only [go_sem,r1.cell]
   refine Chk_intro (by omega) (tp.idx (p:=x) (by omega) fun b4 o4 c4=>?_)
   simp -dsimp only [go_sem,c4]
   refine Chk_intro (by omega) ?_
   simp -dsimp only [go_sem,tp.cell (show x<n by omega) (show y<n by omega)]
   exact ⟨p0,by simp⟩
theorem inRN {n a:Nat}:inR n a=decide (a<n):=by unfold inR;congr 1;simp
theorem hasN {n a b:Nat} {M:Nat→Nat→Bool}:(inR n a&&inR n b&&M (a:Int).toNat (b:Int).toNat)=inN n M a b:=by
 simp only [inRN,Int.toNat_natCast,inN]
theorem ref1_Inter {n m:Nat} {M N:Nat→Nat→Bool} {rv sv:Value} {lo hi lo' hi':Nat} {h:Heap} (hr:RefAt h lo hi rv n M) (hs:RefAt h lo' hi' sv m N) :
  Con Tryz.prog 25 #[rv,sv] h fun v h'=>Fr 0 0 h h'∧RefAt h' h.size h'.size v (max n m) (interM n M m N):=by
 refine con_q33 ?_
 have hr0:=hr;have hs0:=hs
 obtain ⟨hn,s,R,rfl,t⟩:=hr
 obtain ⟨sa,sc,rfl⟩:=t.own.is
 obtain ⟨hm,s',R',rfl,t'⟩:=hs
 obtain ⟨sa',sc',rfl⟩:=t'.own.is
 have p0:Fr 0 0 h h:=.refl _ _ _
 simp -dsimp only [go_sem]
 intro b2 h2 n2
 have n2_z:=n2.az
 replace p0:=p0.F n2.f0
 have r2:=n2.row
 simp -dsimp only [go_sem]
 intro b3 h3 n3
 have n3_z:=n3.az
 replace p0:=p0.F n3.f0
 replace r2:=r2.F n3.f0
 have r3:=n3.row
 simp -dsimp only [go_sem]
 intro b4 h4 n4
 have n4_z:=n4.az
 replace p0:=p0.F n4.f0
 replace r2:=r2.F n4.f0
 replace r3:=r3.F n4.f0
 have r4:=n4.row
 simp -dsimp only [go_sem,r2.cell,r3.cell]
 refine call_of (ref1_Wide (hr0.fr p0 (by omega)) m hm) ?_
 rintro v h6 ⟨f6,hmx,z,Z,rfl,t6⟩
 rw [Nat.max_comm] at hmx t6
 obtain ⟨za,zc,rfl⟩:=t6.own.is
 rw [Nat.max_comm]
 have t6_a:=t6.own.at_
 have f6_z:=f6.size
 replace p0:=p0.F f6
 replace r2:=r2.F f6
 replace r3:=r3.F f6
 replace r4:=r4.F f6
 simp -dsimp only [go_sem]
 intro b7 h7 n7
 have n7_z:=n7.az
 replace p0:=p0.F n7.f0
 replace r2:=r2.F n7.f0
 replace r3:=r3.F n7.f0
 replace r4:=r4.F n7.f0
 replace t6:=t6.fr n7.f0 (by omega)
 have r7:=n7.row
 simp -dsimp only [go_sem]
 refine Chk_intro (r7.W) fun h8 s8=>?_
 have s8_z:=s8.size
 replace p0:=p0.F s8.fr
 replace r2:=r2.F s8.fr
 replace r3:=r3.F s8.fr
 replace r4:=r4.F s8.fr
 replace t6:=t6.fr s8.fr (by omega)
 replace r7:=s8.row r7
 try simp only [cl_int,cl_bool,cl_slice,cl_ptr,putAt_one,zs0,zs1,ivec_set,brow_upd] at r7
 simp -dsimp only [go_sem]
 refine loop_intro (fun p:Nat=>[(3,.pointer (some ⟨b3,0,none⟩)),(4,.pointer (some ⟨b4,0,none⟩)),(5,.pointer (some ⟨b7,0,none⟩)),(6,.int .i64 p)]) (fun p h'=>p≤(max n m)∧Fr 0 0 h h'∧h8.size≤h'.size∧Rw h' b3 [.int .i64 m,.slice sa' m sc']∧Rw h' b4 [.int .i64 0,.slice none 0 0]∧Rw h' b7 [.int .i64 (max n m:Nat),.slice za (max n m) zc]∧Tab h' h4.size h6.size (.slice za (max n m) zc) (max n m) (max n m) Z (mixM p 0 (max n m) (interM n M m N) (inN n M))) (fun p=>(max n m) - p) 0 ?_ ?_ ?_
 ·simp [Le,find]
 ·exact ⟨by omega,p0,by omega,r3,r4,r7,t6.congr fun i j _ _=>by rw [mixM_zero]⟩
 rintro p hP ⟨hp,p0,yP,r3,r4,r7,t6⟩
 have p0_z:=p0.size
 have r3_l:=r3.lt
 have r4_l:=r4.lt
 have r7_l:=r7.lt
 simp -dsimp only [go_sem,r7.cell]
 refine ⟨fun hlt1=>?_,fun hge1=>?_⟩
 ·have hlt1:p<(max n m):=by omega
  simp -dsimp only [go_sem]
  refine loop_intro (fun q:Nat=>[(3,.pointer (some ⟨b3,0,none⟩)),(4,.pointer (some ⟨b4,0,none⟩)),(5,.pointer (some ⟨b7,0,none⟩)),(6,.int .i64 p),(7,.int .i64 q)]) (fun q h'=>q≤(max n m)∧Fr 0 0 h h'∧h8.size≤h'.size∧Rw h' b3 [.int .i64 m,.slice sa' m sc']∧Rw h' b4 [.int .i64 0,.slice none 0 0]∧Rw h' b7 [.int .i64 (max n m:Nat),.slice za (max n m) zc]∧Tab h' h4.size h6.size (.slice za (max n m) zc) (max n m) (max n m) Z (mixM p q (max n m) (interM n M m N) (inN n M))) (fun q=>(max n m) - q) 0 ?_ ?_ ?_
  ·simp [Le,find]
  ·exact ⟨by omega,p0,by omega,r3,r4,r7,t6⟩
  rintro q hQ ⟨hq,p0,yQ,r3,r4,r7,t6⟩
  have p0_z:=p0.size
  have r3_l:=r3.lt
  have r4_l:=r4.lt
  have r7_l:=r7.lt
  simp -dsimp only [go_sem,r7.cell]
  refine ⟨fun hlt2=>?_,fun hge2=>?_⟩
  ·have hlt2:q<(max n m):=by omega
   have hold:mixM p q (max n m) (interM n M m N) (inN n M) p q=inN n M p q:=mixM_same rfl (Nat.le_refl _)
   simp -dsimp only [go_sem,r7.cell]
   refine Chk_intro (by omega) (t6.idx (p:=p) (by omega) fun b9 o9 c9=>?_)
   simp -dsimp only [go_sem,c9,r7.cell]
   refine Chk_intro (by omega) (t6.idx (p:=p) (by omega) fun b9' o9' d9=>?_)
   simp -dsimp only [go_sem,d9]
   refine Chk_intro (by omega) ?_
   simp -dsimp only [go_sem,t6.cell hlt1 hlt2]
   rw [hold]
   cases hM:inN n M p q with
   | false =>
    simp -dsimp only [go_sem]
    refine Chk_intro (by omega) ?_
    simp -dsimp only [go_sem]
    refine Chk_intro (t6.wr (by omega) (by omega)) fun h10 s10=>?_
    have s10_z:=s10.size
    have w_row:=t6.row p (by omega)
    have t_new:=t6.set (p:=p) (q:=q) (by omega) s10
    replace p0:=p0.F s10.fr
    replace r3:=r3.F s10.fr
    replace r4:=r4.F s10.fr
    replace r7:=r7.F s10.fr
    simp -dsimp only [go_sem]
    simp -dsimp (disch:=omega) only [wrap64]
    exact ⟨q+1,by omega,by simp [Le,find],by omega,p0,by omega,r3,r4,r7,t_new.congr fun i j hi hj=>mixM_set (by simp [interM,interM,hM])⟩
   | true =>
    simp -dsimp only [go_sem,r3.cell]
    refine call_of (ref1_Has (hs0.fr p0 (by omega)) p q) ?_
    rintro v h10 ⟨f10,rfl⟩
    rw [hasN]
    have c9':=f10.keep c9 (by omega)
    have d9':=f10.keep d9 (by omega)
    have c10:=t6.cell hlt1 hlt2
    rw [hold,hM] at c10
    have c10':=f10.keep c10 (by omega)
    have f10_z:=f10.size
    replace p0:=p0.F f10
    replace r3:=r3.F f10
    replace r4:=r4.F f10
    replace r7:=r7.F f10
    replace t6:=t6.fr f10 (by omega)
    simp -dsimp only [go_sem,c9',d9',c10',r7.cell]
    refine Chk_intro (by omega) ?_
    simp -dsimp only [go_sem]
    refine Chk_intro (t6.wr (by omega) (by omega)) fun h11 s11=>?_
    have s11_z:=s11.size
    have w_row:=t6.row p (by omega)
    have t_new:=t6.set (p:=p) (q:=q) (by omega) s11
    replace p0:=p0.F s11.fr
    replace r3:=r3.F s11.fr
    replace r4:=r4.F s11.fr
    replace r7:=r7.F s11.fr
    simp -dsimp only [go_sem]
    simp -dsimp (disch:=omega) only [wrap64]
    exact ⟨q+1,by omega,by simp [Le,find],by omega,p0,by omega,r3,r4,r7,t_new.congr fun i j hi hj=>mixM_set (by simp [interM,interM,hM])⟩
  ·have hqn:q=(max n m):=by omega
   simp -dsimp only [go_sem]
   simp -dsimp (disch:=omega) only [wrap64]
   exact ⟨p+1,by omega,by simp [Le,find],by omega,p0,by omega,r3,r4,r7,t6.congr fun i j _ _=>by rw [hqn];exact mixM_next⟩
 have hpn:p=(max n m):=by omega
 simp -dsimp only [go_sem,r7.cell]
 refine Chk_intro (r4.W) fun h9 s9=>?_
 have s9_z:=s9.size
 replace p0:=p0.F s9.fr
 replace r3:=r3.F s9.fr
 replace r7:=r7.F s9.fr
 replace t6:=t6.fr s9.fr (by omega)
 replace r4:=s9.row r4
 try simp only [cl_int,cl_bool,cl_slice,cl_ptr,putAt_one,zs0,zs1,ivec_set,brow_upd] at r4
 simp -dsimp only [go_sem,r4.cell]
 refine ⟨p0,hmx,_,Z,rfl,((t6.mono (by omega) (by omega)).congr fun i j hi hj=>?_)⟩
 rw [hpn,mixM_end hi hj]
end Go.Proofs.Tst
namespace Go.Proofs.Tst
open Go Go.Vc
theorem ref1_Union {n m:Nat} {M N:Nat→Nat→Bool} {rv sv:Value} {lo hi lo' hi':Nat} {h:Heap} (hr:RefAt h lo hi rv n M) (hs:RefAt h lo' hi' sv m N) :
  Con Tryz.prog 56 #[rv,sv] h fun v h'=>Fr 0 0 h h'∧RefAt h' h.size h'.size v (max n m) (unionM n M m N):=by
 refine con_q38 ?_
 have hr0:=hr;have hs0:=hs
 obtain ⟨hn,s,R,rfl,t⟩:=hr
 obtain ⟨sa,sc,rfl⟩:=t.own.is
 obtain ⟨hm,s',R',rfl,t'⟩:=hs
 obtain ⟨sa',sc',rfl⟩:=t'.own.is
 have p0:Fr 0 0 h h:=.refl _ _ _
 simp -dsimp only [go_sem]
 intro b2 h2 n2
 have n2_z:=n2.az
 replace p0:=p0.F n2.f0
 have r2:=n2.row
 simp -dsimp only [go_sem]
 intro b3 h3 n3
 have n3_z:=n3.az
 replace p0:=p0.F n3.f0
 replace r2:=r2.F n3.f0
 have r3:=n3.row
 simp -dsimp only [go_sem]
 intro b4 h4 n4
 have n4_z:=n4.az
 replace p0:=p0.F n4.f0
 replace r2:=r2.F n4.f0
 replace r3:=r3.F n4.f0
 have r4:=n4.row
 simp -dsimp only [go_sem,r2.cell,r3.cell]
 refine call_of (ref1_Wide (hr0.fr p0 (by omega)) m hm) ?_
 rintro v h6 ⟨f6,hmx,z,Z,rfl,t6⟩
 rw [Nat.max_comm] at hmx t6
 obtain ⟨za,zc,rfl⟩:=t6.own.is
 rw [Nat.max_comm]
 have t6_a:=t6.own.at_
 have f6_z:=f6.size
 replace p0:=p0.F f6
 replace r2:=r2.F f6
 replace r3:=r3.F f6
 replace r4:=r4.F f6
 simp -dsimp only [go_sem]
 intro b7 h7 n7
 have n7_z:=n7.az
 replace p0:=p0.F n7.f0
 replace r2:=r2.F n7.f0
 replace r3:=r3.F n7.f0
 replace r4:=r4.F n7.f0
 replace t6:=t6.fr n7.f0 (by omega)
 have r7:=n7.row
 simp -dsimp only [go_sem]
 refine Chk_intro (r7.W) fun h8 s8=>?_
 have s8_z:=s8.size
 replace p0:=p0.F s8.fr
 replace r2:=r2.F s8.fr
 replace r3:=r3.F s8.fr
 replace r4:=r4.F s8.fr
 replace t6:=t6.fr s8.fr (by omega)
 replace r7:=s8.row r7
 try simp only [cl_int,cl_bool,cl_slice,cl_ptr,putAt_one,zs0,zs1,ivec_set,brow_upd] at r7
 simp -dsimp only [go_sem]
 refine loop_intro (fun p:Nat=>[(3,.pointer (some ⟨b3,0,none⟩)),(4,.pointer (some ⟨b4,0,none⟩)),(5,.pointer (some ⟨b7,0,none⟩)),(6,.int .i64 p)]) (fun p h'=>p≤m∧Fr 0 0 h h'∧h8.size≤h'.size∧Rw h' b3 [.int .i64 m,.slice sa' m sc']∧Rw h' b4 [.int .i64 0,.slice none 0 0]∧Rw h' b7 [.int .i64 (max n m:Nat),.slice za (max n m) zc]∧Tab h' h4.size h6.size (.slice za (max n m) zc) (max n m) (max n m) Z (mixM p 0 m (unionM n M m N) (inN n M))) (fun p=>m - p) 0 ?_ ?_ ?_
 ·simp [Le,find]
 ·exact ⟨by omega,p0,by omega,r3,r4,r7,t6.congr fun i j _ _=>by rw [mixM_zero]⟩
 rintro p hP ⟨hp,p0,yP,r3,r4,r7,t6⟩
 have p0_z:=p0.size
 have r3_l:=r3.lt
 have r4_l:=r4.lt
 have r7_l:=r7.lt
 simp -dsimp only [go_sem,r3.cell]
 refine ⟨fun hlt1=>?_,fun hge1=>?_⟩
 ·have hlt1:p<m:=by omega
  simp -dsimp only [go_sem]
  refine loop_intro (fun q:Nat=>[(3,.pointer (some ⟨b3,0,none⟩)),(4,.pointer (some ⟨b4,0,none⟩)),(5,.pointer (some ⟨b7,0,none⟩)),(6,.int .i64 p),(7,.int .i64 q)]) (fun q h'=>q≤m∧Fr 0 0 h h'∧h8.size≤h'.size∧Rw h' b3 [.int .i64 m,.slice sa' m sc']∧Rw h' b4 [.int .i64 0,.slice none 0 0]∧Rw h' b7 [.int .i64 (max n m:Nat),.slice za (max n m) zc]∧Tab h' h4.size h6.size (.slice za (max n m) zc) (max n m) (max n m) Z (mixM p q m (unionM n M m N) (inN n M))) (fun q=>m - q) 0 ?_ ?_ ?_
  ·simp [Le,find]
  ·exact ⟨by omega,p0,by omega,r3,r4,r7,t6⟩
  rintro q hQ ⟨hq,p0,yQ,r3,r4,r7,t6⟩
  have p0_z:=p0.size
  have r3_l:=r3.lt
  have r4_l:=r4.lt
  have r7_l:=r7.lt
  simp -dsimp only [go_sem,r3.cell]
  refine ⟨fun hlt2=>?_,fun hge2=>?_⟩
  ·have hlt2:q<m:=by omega
   have hold:mixM p q m (unionM n M m N) (inN n M) p q=inN n M p q:=mixM_same rfl (Nat.le_refl _)
   simp -dsimp only [go_sem,r7.cell]
   refine Chk_intro (by omega) (t6.idx (p:=p) (by omega) fun b9 o9 c9=>?_)
   simp -dsimp only [go_sem,c9,r7.cell]
   refine Chk_intro (by omega) (t6.idx (p:=p) (by omega) fun b9' o9' d9=>?_)
   simp -dsimp only [go_sem,d9]
   refine Chk_intro (by omega) ?_
   simp -dsimp only [go_sem,t6.cell (show p<max n m by omega) (show q<max n m by omega)]
   rw [hold]
   cases hM:inN n M p q with
   | true =>
    simp -dsimp only [go_sem]
    refine Chk_intro (by omega) ?_
    simp -dsimp only [go_sem]
    refine Chk_intro (t6.wr (by omega) (by omega)) fun h10 s10=>?_
    have s10_z:=s10.size
    have w_row:=t6.row p (by omega)
    have t_new:=t6.set (p:=p) (q:=q) (by omega) s10
    replace p0:=p0.F s10.fr
    replace r3:=r3.F s10.fr
    replace r4:=r4.F s10.fr
    replace r7:=r7.F s10.fr
    simp -dsimp only [go_sem]
    simp -dsimp (disch:=omega) only [wrap64]
    exact ⟨q+1,by omega,by simp [Le,find],by omega,p0,by omega,r3,r4,r7,t_new.congr fun i j hi hj=>mixM_set (by simp [unionM,hM])⟩
   | false =>
    have tq:=t'.fr p0 (by omega)
    simp -dsimp only [go_sem,r3.cell]
    refine Chk_intro (by omega) (tq.idx (p:=p) (by omega) fun b10 o10 c10=>?_)
    simp -dsimp only [go_sem,c10]
    refine Chk_intro (by omega) ?_
    simp -dsimp only [go_sem,tq.cell hlt1 hlt2]
    refine Chk_intro (by omega) ?_
    simp -dsimp only [go_sem]
    refine Chk_intro (t6.wr (by omega) (by omega)) fun h11 s11=>?_
    have s11_z:=s11.size
    have w_row:=t6.row p (by omega)
    have t_new:=t6.set (p:=p) (q:=q) (by omega) s11
    replace p0:=p0.F s11.fr
    replace r3:=r3.F s11.fr
    replace r4:=r4.F s11.fr
    replace r7:=r7.F s11.fr
    simp -dsimp only [go_sem]
    simp -dsimp (disch:=omega) only [wrap64]
    exact ⟨q+1,by omega,by simp [Le,find],by omega,p0,by omega,r3,r4,r7,t_new.congr fun i j hi hj=>mixM_set (by simp [unionM,hM,inN_in hlt1 hlt2])⟩
  ·have hqn:q=m:=by omega
   simp -dsimp only [go_sem]
   simp -dsimp (disch:=omega) only [wrap64]
   exact ⟨p+1,by omega,by simp [Le,find],by omega,p0,by omega,r3,r4,r7,t6.congr fun i j _ _=>by rw [hqn];exact mixM_next⟩
 have hpn:p=m:=by omega
 simp -dsimp only [go_sem,r7.cell]
 refine Chk_intro (r4.W) fun h9 s9=>?_
 have s9_z:=s9.size
 replace p0:=p0.F s9.fr
 replace r3:=r3.F s9.fr
 replace r7:=r7.F s9.fr
 replace t6:=t6.fr s9.fr (by omega)
 replace r4:=s9.row r4
 try simp only [cl_int,cl_bool,cl_slice,cl_ptr,putAt_one,zs0,zs1,ivec_set,brow_upd] at r4
 simp -dsimp only [go_sem,r4.cell]
 refine ⟨p0,hmx,_,Z,rfl,((t6.mono (by omega) (by omega)).congr fun i j hi hj=>?_)⟩
 rw [hpn]
 by_cases hij:i<m∧j<m
 ·rw [mixM_end hij.1 hij.2]
 ·unfold mixM;rw [if_neg (by omega)];simp [unionM,inN_out hij]
theorem ref1_Inverse {n:Nat} {M:Nat→Nat→Bool} {rv:Value} {lo hi:Nat} {h:Heap} (hr:RefAt h lo hi rv n M) :
  Con Tryz.prog 62 #[rv] h fun v h'=>Fr 0 0 h h'∧RefAt h' h.size h'.size v n (invM M):=by
 refine con_q34 ?_
 obtain ⟨hn,s,R,rfl,t⟩:=hr
 obtain ⟨sa,sc,rfl⟩:=t.own.is
 have hcl:clampN (n:Nat)=n:=by unfold clampN;omega
 have p0:Fr 0 0 h h:=.refl _ _ _
 simp -dsimp only [go_sem]
 intro b2 h2 n2
 have n2_z:=n2.az
 replace p0:=p0.F n2.f0
 have r2:=n2.row
 simp -dsimp only [go_sem]
 intro b4 h4 n4
 have n4_z:=n4.az
 replace p0:=p0.F n4.f0
 replace r2:=r2.F n4.f0
 have r4:=n4.row
 simp -dsimp only [go_sem,r2.cell]
 refine call_of (ref1_New n h4) ?_
 rintro v h6 ⟨f6,t6⟩
 rw [hcl] at t6
 obtain ⟨-,z,Z,rfl,t6⟩:=t6
 obtain ⟨za,zc,rfl⟩:=t6.own.is
 have t6_a:=t6.own.at_
 have f6_z:=f6.size
 replace p0:=p0.F f6
 replace r2:=r2.F f6
 replace r4:=r4.F f6
 simp -dsimp only [go_sem]
 intro b7 h7 n7
 have n7_z:=n7.az
 replace p0:=p0.F n7.f0
 replace r2:=r2.F n7.f0
 replace r4:=r4.F n7.f0
 replace t6:=t6.fr n7.f0 (by omega)
 have r7:=n7.row
 simp -dsimp only [go_sem]
 refine Chk_intro (r7.W) fun h8 s8=>?_
 have s8_z:=s8.size
 replace p0:=p0.F s8.fr
 replace r2:=r2.F s8.fr
 replace r4:=r4.F s8.fr
 replace t6:=t6.fr s8.fr (by omega)
 replace r7:=s8.row r7
 try simp only [cl_int,cl_bool,cl_slice,cl_ptr,putAt_one,zs0,zs1,ivec_set,brow_upd] at r7
 simp -dsimp only [go_sem]
 refine loop_intro (fun p:Nat=>[(1,.pointer (some ⟨b2,0,none⟩)),(2,.pointer (some ⟨b4,0,none⟩)),(3,.pointer (some ⟨b7,0,none⟩)),(4,.int .i64 p)]) (fun p h'=>p≤n∧Fr 0 0 h h'∧h8.size≤h'.size∧Rw h' b2 [.int .i64 n,.slice sa n sc]∧Rw h' b4 [.int .i64 0,.slice none 0 0]∧Rw h' b7 [.int .i64 n,.slice za n zc]∧Tab h' h4.size h6.size (.slice za n zc) n n Z (fun i j=>mixM p 0 n (M) (fun _ _=>false) j i)) (fun p=>n - p) 0 ?_ ?_ ?_
 ·simp [Le,find]
 ·exact ⟨by omega,p0,by omega,r2,r4,r7,t6.congr fun i j _ _=>by rw [mixM_zero]⟩
 rintro p hP ⟨hp,p0,yP,r2,r4,r7,t6⟩
 have p0_z:=p0.size
 have r2_l:=r2.lt
 have r4_l:=r4.lt
 have r7_l:=r7.lt
 simp -dsimp only [go_sem,r7.cell]
 refine ⟨fun hlt1=>?_,fun hge1=>?_⟩
 ·have hlt1:p<n:=by omega
  simp -dsimp only [go_sem]
  refine loop_intro (fun q:Nat=>[(1,.pointer (some ⟨b2,0,none⟩)),(2,.pointer (some ⟨b4,0,none⟩)),(3,.pointer (some ⟨b7,0,none⟩)),(4,.int .i64 p),(5,.int .i64 q)]) (fun q h'=>q≤n∧Fr 0 0 h h'∧h8.size≤h'.size∧Rw h' b2 [.int .i64 n,.slice sa n sc]∧Rw h' b4 [.int .i64 0,.slice none 0 0]∧Rw h' b7 [.int .i64 n,.slice za n zc]∧Tab h' h4.size h6.size (.slice za n zc) n n Z (fun i j=>mixM p q n (M) (fun _ _=>false) j i)) (fun q=>n - q) 0 ?_ ?_ ?_
  ·simp [Le,find]
  ·exact ⟨by omega,p0,by omega,r2,r4,r7,t6⟩
  rintro q hQ ⟨hq,p0,yQ,r2,r4,r7,t6⟩
  have p0_z:=p0.size
  have r2_l:=r2.lt
  have r4_l:=r4.lt
  have r7_l:=r7.lt
  simp -dsimp only [go_sem,r7.cell]
  refine ⟨fun hlt2=>?_,fun hge2=>?_⟩
  ·have hlt2:q<n:=by omega
   have tp:=t.fr p0 (by omega)
   simp -dsimp only [go_sem,r7.cell]
   refine Chk_intro (by omega) (t6.idx (p:=q) (by omega) fun b9 o9 c9=>?_)
   simp -dsimp only [go_sem,c9,r2.cell]
   refine Chk_intro (by omega) (tp.idx (p:=p) (by omega) fun b9' o9' d9=>?_)
   simp -dsimp only [go_sem,d9]
   refine Chk_intro (by omega) ?_
   simp -dsimp only [go_sem,tp.cell hlt1 hlt2]
   refine Chk_intro (by omega) ?_
   simp -dsimp only [go_sem]
   refine Chk_intro (t6.wr (by omega) (by omega)) fun h10 s10=>?_
   have s10_z:=s10.size
   have w_row:=t6.row q (by omega)
   have t_new:=t6.set (p:=q) (q:=p) (by omega) s10
   replace p0:=p0.F s10.fr
   replace r2:=r2.F s10.fr
   replace r4:=r4.F s10.fr
   replace r7:=r7.F s10.fr
   simp -dsimp only [go_sem]
   simp -dsimp (disch:=omega) only [wrap64]
   exact ⟨q+1,by omega,by simp [Le,find],by omega,p0,by omega,r2,r4,r7,t_new.congr fun i j hi hj=>mixM_set' (rfl)⟩
  ·have hqn:q=n:=by omega
   simp -dsimp only [go_sem]
   simp -dsimp (disch:=omega) only [wrap64]
   exact ⟨p+1,by omega,by simp [Le,find],by omega,p0,by omega,r2,r4,r7,t6.congr fun i j _ _=>by rw [hqn];exact mixM_next⟩
 have hpn:p=n:=by omega
 simp -dsimp only [go_sem,r7.cell]
 refine Chk_intro (r4.W) fun h9 s9=>?_
 have s9_z:=s9.size
 replace p0:=p0.F s9.fr
 replace r2:=r2.F s9.fr
 replace r7:=r7.F s9.fr
 replace t6:=t6.fr s9.fr (by omega)
 replace r4:=s9.row r4
 try simp only [cl_int,cl_bool,cl_slice,cl_ptr,putAt_one,zs0,zs1,ivec_set,brow_upd] at r4
 simp -dsimp only [go_sem,r4.cell]
 refine ⟨p0,hn,_,Z,rfl,((t6.mono (by omega) (by omega)).congr fun i j hi hj=>?_)⟩
 rw [hpn,mixM_end hj hi];rfl
end Go.Proofs.Tst
namespace Go.Proofs.Tst
open Go Go.Vc
set_option maxHeartbeats 800000 in
theorem ref1_Plus {n:Nat} {M:Nat→Nat→Bool} {rv:Value} {lo hi:Nat} {h:Heap} (hr:RefAt h lo hi rv n M) :
  Con Tryz.prog 48 #[rv] h fun v h'=>Fr 0 0 h h'∧RefAt h' h.size h'.size v n (plusM n M):=by
 refine con_q37 ?_
 have hr0:=hr
 obtain ⟨hn,s,R,rfl,t⟩:=hr
 obtain ⟨sa,sc,rfl⟩:=t.own.is
 have p0:Fr 0 0 h h:=.refl _ _ _
 simp -dsimp only [go_sem]
 intro b1 h1 n1
 have n1_z:=n1.az
 replace p0:=p0.F n1.f0
 have r1:=n1.row
 simp -dsimp only [go_sem]
 intro b4 h4 n4
 have n4_z:=n4.az
 replace p0:=p0.F n4.f0
 replace r1:=r1.F n4.f0
 have r4:=n4.row
 simp -dsimp only [go_sem,r1.cell]
 refine call_of (ref1_Wide (hr0.fr p0 (by omega)) 0 (by omega)) ?_
 rw [Nat.zero_max]
 rintro v h6 ⟨f6,-,z,Z,rfl,t6⟩
 obtain ⟨za,zc,rfl⟩:=t6.own.is
 have t6_a:=t6.own.at_
 have f6_z:=f6.size
 replace p0:=p0.F f6
 replace r1:=r1.F f6
 replace r4:=r4.F f6
 simp -dsimp only [go_sem]
 intro b7 h7 n7
 have n7_z:=n7.az
 replace p0:=p0.F n7.f0
 replace r1:=r1.F n7.f0
 replace r4:=r4.F n7.f0
 replace t6:=t6.fr n7.f0 (by omega)
 have r7:=n7.row
 simp -dsimp only [go_sem]
 refine Chk_intro (r7.W) fun h8 s8=>?_
 have s8_z:=s8.size
 replace p0:=p0.F s8.fr
 replace r1:=r1.F s8.fr
 replace r4:=r4.F s8.fr
 replace t6:=t6.fr s8.fr (by omega)
 replace r7:=s8.row r7
 try simp only [cl_int,cl_bool,cl_slice,cl_ptr,putAt_one,zs0,zs1,ivec_set,brow_upd] at r7
 simp -dsimp only [go_sem]
 refine loop_intro (fun k:Nat=>[(2,.pointer (some ⟨b4,0,none⟩)),(3,.pointer (some ⟨b7,0,none⟩)),(4,.int .i64 k)])
  (fun k h'=>k≤n∧Fr 0 0 h h'∧h8.size≤h'.size∧Rw h' b4 [.int .i64 0,.slice none 0 0]∧Rw h' b7 [.int .i64 n,.slice za n zc]∧Tab h' h4.size h6.size (.slice za n zc) n n Z (warM n M k)) (fun k=>n - k) 0 ?_ ?_ ?_
 ·simp [Le,find]
 ·exact ⟨by omega,p0,by omega,r4,r7,t6.congr fun i j hi hj=>by rw [inN_in hi hj];rfl⟩
 rintro k h9 ⟨hk,p0,y9,r4,r7,t6⟩
 have p0_z:=p0.size
 have r4_l:=r4.lt
 have r7_l:=r7.lt
 simp -dsimp only [go_sem,r7.cell]
 refine ⟨fun hlt=>?_,fun hge=>?_⟩
 ·have hlt:k<n:=by omega
  simp -dsimp only [go_sem]
  refine loop_intro (fun p:Nat=>[(2,.pointer (some ⟨b4,0,none⟩)),(3,.pointer (some ⟨b7,0,none⟩)),(4,.int .i64 k),(5,.int .i64 p)])
   (fun p h'=>p≤n∧Fr 0 0 h h'∧h8.size≤h'.size∧Rw h' b4 [.int .i64 0,.slice none 0 0]∧Rw h' b7 [.int .i64 n,.slice za n zc]∧Tab h' h4.size h6.size (.slice za n zc) n n Z (mixM p 0 n (warM n M (k+1)) (warM n M k))) (fun p=>n - p) 0 ?_ ?_ ?_
  ·simp [Le,find]
  ·exact ⟨by omega,p0,by omega,r4,r7,t6.congr fun i j _ _=>by rw [mixM_zero]⟩
  rintro p h10 ⟨hp,p0,y10,r4,r7,t6⟩
  have p0_z:=p0.size
  have r4_l:=r4.lt
  have r7_l:=r7.lt
  simp -dsimp only [go_sem,r7.cell]
  refine ⟨fun hlt1=>?_,fun hge1=>?_⟩
  ·have hlt1:p<n:=by omega
   simp -dsimp only [go_sem]
   refine loop_intro (fun q:Nat=>[(2,.pointer (some ⟨b4,0,none⟩)),(3,.pointer (some ⟨b7,0,none⟩)),(4,.int .i64 k),(5,.int .i64 p),(6,.int .i64 q)])
    (fun q h'=>q≤n∧(warM n M k p k=false→q=0)∧Fr 0 0 h h'∧h8.size≤h'.size∧Rw h' b4 [.int .i64 0,.slice none 0 0]∧Rw h' b7 [.int .i64 n,.slice za n zc]∧Tab h' h4.size h6.size (.slice za n zc) n n Z (mixM p q n (warM n M (k+1)) (warM n M k))) (fun q=>n - q) 0 ?_ ?_ ?_
   ·simp [Le,find]
   ·exact ⟨by omega,fun _=>rfl,p0,by omega,r4,r7,t6⟩
   rintro q h11 ⟨hq,hq0,p0,y11,r4,r7,t6⟩
   have p0_z:=p0.size
   have r4_l:=r4.lt
   have r7_l:=r7.lt
   have hpk:mixM p q n (warM n M (k+1)) (warM n M k) p k=warM n M k p k:=by
    unfold mixM;split
    ·have:warM n M (k+1) p k=warM n M k p k:=by simp only [warM];cases warM n M k p k <;> simp
     exact this
    ·rfl
   have hkq:q<n→mixM p q n (warM n M (k+1)) (warM n M k) k q=warM n M k k q:=fun _=>by
    unfold mixM;split
    ·exact warM_self n M k q
    ·rfl
   have hpq:mixM p q n (warM n M (k+1)) (warM n M k) p q=warM n M k p q:=mixM_same rfl (Nat.le_refl _)
   simp -dsimp only [go_sem,r7.cell]
   refine Chk_intro (by omega) (t6.idx (p:=p) (by omega) fun b9 o9 c9=>?_)
   simp -dsimp only [go_sem,c9]
   refine Chk_intro (by omega) ?_
   simp -dsimp only [go_sem,t6.cell hlt1 hlt]
   rw [hpk]
   cases hM:warM n M k p k with
   | false =>
    have hq0:=hq0 hM
    subst hq0
    simp -dsimp only [go_sem]
    simp -dsimp (disch:=omega) only [wrap64]
    refine ⟨p+1,by omega,by simp [Le,find],by omega,p0,by omega,r4,r7,t6.congr fun i j hi hj=>?_⟩
    unfold mixM
    by_cases hip:i=p
    ·subst hip
     rw [if_neg (by omega),if_pos (by omega)];simp [warM,hM]
    ·by_cases h1:i<p
     ·rw [if_pos (by omega),if_pos (by omega)]
     ·rw [if_neg (by omega),if_neg (by omega)]
   | true =>
    simp -dsimp only [go_sem,r7.cell]
    refine ⟨fun hlt2=>?_,fun hge2=>?_⟩
    ·have hlt2:q<n:=by omega
     simp -dsimp only [go_sem,r7.cell]
     refine Chk_intro (by omega) (t6.idx (p:=p) (by omega) fun b10 o10 c10=>?_)
     simp -dsimp only [go_sem,c10,r7.cell]
     refine Chk_intro (by omega) (t6.idx (p:=p) (by omega) fun b11 o11 c11=>?_)
     simp -dsimp only [go_sem,c11]
     refine Chk_intro (by omega) ?_
     simp -dsimp only [go_sem,t6.cell hlt1 hlt2]
     rw [hpq]
     cases hM2:warM n M k p q with
     | true =>
      simp -dsimp only [go_sem]
      refine Chk_intro (by omega) ?_
      simp -dsimp only [go_sem]
      refine Chk_intro (t6.wr hlt1 hlt2) fun h12 s12=>?_
      have s12_z:=s12.size
      have w_row:=t6.row p hlt1
      have t7:=t6.set hlt1 s12
      have s12.fr_z:=s12.fr.size
      replace p0:=p0.F s12.fr
      replace r4:=r4.F s12.fr
      replace r7:=r7.F s12.fr
      simp -dsimp only [go_sem]
      simp -dsimp (disch:=omega) only [wrap64]
      exact ⟨q+1,by omega,by simp [Le,find],by omega,by simp,p0,by omega,r4,r7,t7.congr fun i j hi hj=>mixM_set (by simp [warM,hM2])⟩
     | false =>
      simp -dsimp only [go_sem,r7.cell]
      refine Chk_intro (by omega) (t6.idx (p:=k) (by omega) fun b12 o12 c12=>?_)
      simp -dsimp only [go_sem,c12]
      refine Chk_intro (by omega) ?_
      simp -dsimp only [go_sem,t6.cell hlt hlt2]
      rw [hkq hlt2]
      refine Chk_intro (by omega) ?_
      simp -dsimp only [go_sem]
      refine Chk_intro (t6.wr hlt1 hlt2) fun h12 s12=>?_
      have s12_z:=s12.size
      have w_row:=t6.row p hlt1
      have t7:=t6.set hlt1 s12
      have s12.fr_z:=s12.fr.size
      replace p0:=p0.F s12.fr
      replace r4:=r4.F s12.fr
      replace r7:=r7.F s12.fr
      simp -dsimp only [go_sem]
      simp -dsimp (disch:=omega) only [wrap64]
      exact ⟨q+1,by omega,by simp [Le,find],by omega,by simp,p0,by omega,r4,r7,t7.congr fun i j hi hj=>mixM_set (by simp [warM,hM,hM2])⟩
    ·have hqn:q=n:=by omega
     simp -dsimp only [go_sem]
     simp -dsimp (disch:=omega) only [wrap64]
     exact ⟨p+1,by omega,by simp [Le,find],by omega,p0,by omega,r4,r7,t6.congr fun i j _ _=>by rw [hqn];exact mixM_next⟩
  ·have hpn:p=n:=by omega
   simp -dsimp only [go_sem]
   simp -dsimp (disch:=omega) only [wrap64]
   exact ⟨k+1,by omega,by simp [Le,find],by omega,p0,by omega,r4,r7,t6.congr fun i j hi hj=>by rw [hpn,mixM_end hi hj]⟩
 ·have hkn:k=n:=by omega
  simp -dsimp only [go_sem,r7.cell]
  refine Chk_intro (r4.W) fun h10 s10=>?_
  have s10_z:=s10.size
  replace p0:=p0.F s10.fr
  replace r7:=r7.F s10.fr
  replace t6:=t6.fr s10.fr (by omega)
  replace r4:=s10.row r4
  try simp only [cl_int,cl_bool,cl_slice,cl_ptr,putAt_one,zs0,zs1,ivec_set,brow_upd] at r4
  simp -dsimp only [go_sem,r4.cell]
  refine ⟨p0,hn,_,Z,rfl,((t6.mono (by omega) (by omega)).congr fun i j hi hj=>by rw [hkn];rfl)⟩
theorem ref1_Comp {n m:Nat} {M N:Nat→Nat→Bool} {rv sv:Value} {lo hi lo' hi':Nat} {h:Heap} (hr:RefAt h lo hi rv n M) (hs:RefAt h lo' hi' sv m N) :
  Con Tryz.prog 50 #[rv,sv] h fun v h'=>Fr 0 0 h h'∧RefAt h' h.size h'.size v (max n m) (compM n M m N):=by
 refine con_q30 ?_
 have hr0:=hr;have hs0:=hs
 obtain ⟨hn,s,R,rfl,t⟩:=hr
 obtain ⟨sa,sc,rfl⟩:=t.own.is
 obtain ⟨hm,s',R',rfl,t'⟩:=hs
 obtain ⟨sa',sc',rfl⟩:=t'.own.is
 have hcl:clampN (max n m:Nat)=max n m:=by unfold clampN;omega
 have p0:Fr 0 0 h h:=.refl _ _ _
 simp -dsimp only [go_sem]
 intro b2 h2 n2
 have n2_z:=n2.az
 replace p0:=p0.F n2.f0
 have r2:=n2.row
 simp -dsimp only [go_sem]
 intro b3 h3 n3
 have n3_z:=n3.az
 replace p0:=p0.F n3.f0
 replace r2:=r2.F n3.f0
 have r3:=n3.row
 simp -dsimp only [go_sem]
 intro b4 h4 n4
 have n4_z:=n4.az
 replace p0:=p0.F n4.f0
 replace r2:=r2.F n4.f0
 replace r3:=r3.F n4.f0
 have r4:=n4.row
 simp -dsimp only [go_sem,r2.cell,r3.cell]
 refine call_of (ref1_Wide (hr0.fr p0 (by omega)) m hm) ?_
 rw [Nat.max_comm]
 rintro v h6 ⟨f6,hmx,x,X,rfl,tx⟩
 obtain ⟨xa,xc,rfl⟩:=tx.own.is
 have tx_a:=tx.own.at_
 have f6_z:=f6.size
 replace p0:=p0.F f6
 replace r2:=r2.F f6
 replace r3:=r3.F f6
 replace r4:=r4.F f6
 simp -dsimp only [go_sem]
 intro b7 h7 n7
 have n7_z:=n7.az
 replace p0:=p0.F n7.f0
 replace r2:=r2.F n7.f0
 replace r3:=r3.F n7.f0
 replace r4:=r4.F n7.f0
 replace tx:=tx.fr n7.f0 (by omega)
 have r7:=n7.row
 simp -dsimp only [go_sem]
 refine Chk_intro (r7.W) fun h8 s8=>?_
 have s8_z:=s8.size
 replace p0:=p0.F s8.fr
 replace r2:=r2.F s8.fr
 replace r3:=r3.F s8.fr
 replace r4:=r4.F s8.fr
 replace tx:=tx.fr s8.fr (by omega)
 replace r7:=s8.row r7
 try simp only [cl_int,cl_bool,cl_slice,cl_ptr,putAt_one,zs0,zs1,ivec_set,brow_upd] at r7
 simp -dsimp only [go_sem,r2.cell,r3.cell]
 refine call_of (ref1_Wide (hs0.fr p0 (by omega)) n hn) ?_
 rintro v h9 ⟨f9,-,y,Y,rfl,ty⟩
 obtain ⟨ya,yc,rfl⟩:=ty.own.is
 have ty_a:=ty.own.at_
 have f9_z:=f9.size
 replace p0:=p0.F f9
 replace r2:=r2.F f9
 replace r3:=r3.F f9
 replace r4:=r4.F f9
 replace tx:=tx.fr f9 (by omega)
 replace r7:=r7.F f9
 simp -dsimp only [go_sem]
 intro b10 h10 n10
 have n10_z:=n10.az
 replace p0:=p0.F n10.f0
 replace r2:=r2.F n10.f0
 replace r3:=r3.F n10.f0
 replace r4:=r4.F n10.f0
 replace tx:=tx.fr n10.f0 (by omega)
 replace r7:=r7.F n10.f0
 replace ty:=ty.fr n10.f0 (by omega)
 have r10:=n10.row
 simp -dsimp only [go_sem]
 refine Chk_intro (r10.W) fun h11 s11=>?_
 have s11_z:=s11.size
 replace p0:=p0.F s11.fr
 replace r2:=r2.F s11.fr
 replace r3:=r3.F s11.fr
 replace r4:=r4.F s11.fr
 replace tx:=tx.fr s11.fr (by omega)
 replace r7:=r7.F s11.fr
 replace ty:=ty.fr s11.fr (by omega)
 replace r10:=s11.row r10
 try simp only [cl_int,cl_bool,cl_slice,cl_ptr,putAt_one,zs0,zs1,ivec_set,brow_upd] at r10
 simp -dsimp only [go_sem,r7.cell]
 refine call_of (ref1_New (max n m:Nat) h11) ?_
 rintro v h12 ⟨f12,t12⟩
 rw [hcl] at t12
 obtain ⟨-,z,Z,rfl,t12⟩:=t12
 obtain ⟨za,zc,rfl⟩:=t12.own.is
 have t12_a:=t12.own.at_
 have f12_z:=f12.size
 replace p0:=p0.F f12
 replace r2:=r2.F f12
 replace r3:=r3.F f12
 replace r4:=r4.F f12
 replace tx:=tx.fr f12 (by omega)
 replace r7:=r7.F f12
 replace ty:=ty.fr f12 (by omega)
 replace r10:=r10.F f12
 simp -dsimp only [go_sem]
 intro b13 h13 n13
 have n13_z:=n13.az
 replace p0:=p0.F n13.f0
 replace r2:=r2.F n13.f0
 replace r3:=r3.F n13.f0
 replace r4:=r4.F n13.f0
 replace tx:=tx.fr n13.f0 (by omega)
 replace r7:=r7.F n13.f0
 replace ty:=ty.fr n13.f0 (by omega)
 replace r10:=r10.F n13.f0
 replace t12:=t12.fr n13.f0 (by omega)
 have r13:=n13.row
 simp -dsimp only [go_sem]
 refine Chk_intro (r13.W) fun h14 s14=>?_
 have s14_z:=s14.size
 replace p0:=p0.F s14.fr
 replace r2:=r2.F s14.fr
 replace r3:=r3.F s14.fr
 replace r4:=r4.F s14.fr
 replace tx:=tx.fr s14.fr (by omega)
 replace r7:=r7.F s14.fr
 replace ty:=ty.fr s14.fr (by omega)
 replace r10:=r10.F s14.fr
 replace t12:=t12.fr s14.fr (by omega)
 replace r13:=s14.row r13
 try simp only [cl_int,cl_bool,cl_slice,cl_ptr,putAt_one,zs0,zs1,ivec_set,brow_upd] at r13
 simp -dsimp only [go_sem]
 have htx:=tx;have hty:=ty
 have q0:=p0
 refine loop_intro (fun p:Nat=>[(4,.pointer (some ⟨b4,0,none⟩)),(5,.pointer (some ⟨b7,0,none⟩)),(6,.pointer (some ⟨b10,0,none⟩)),(7,.pointer (some ⟨b13,0,none⟩)),(8,.int .i64 p)])
  (fun p h'=>p≤max n m∧Fr 0 0 h h'∧h14.size≤h'.size∧Rw h' b4 [.int .i64 0,.slice none 0 0]∧Rw h' b7 [.int .i64 (max n m:Nat),.slice xa (max n m) xc]∧Rw h' b10 [.int .i64 (max n m:Nat),.slice ya (max n m) yc]∧Rw h' b13 [.int .i64 (max n m:Nat),.slice za (max n m) zc] ∧
   Tab h' h4.size h6.size (.slice xa (max n m) xc) (max n m) (max n m) X (inN n M)∧Tab h' h8.size h9.size (.slice ya (max n m) yc) (max n m) (max n m) Y (inN m N)∧Tab h' h11.size h12.size (.slice za (max n m) zc) (max n m) (max n m) Z fun i j=>decide (i<p)&&compM n M m N i j) (fun p=>max n m - p) 0 ?_ ?_ ?_
 ·simp [Le,find]
 ·exact ⟨by omega,p0,by omega,r4,r7,r10,r13,tx,ty,t12.congr fun i j _ _=>by simp⟩
 rintro p hP ⟨hp,p0,yP,r4,r7,r10,r13,tx,ty,t12⟩
 have p0_z:=p0.size
 have r4_l:=r4.lt
 have r7_l:=r7.lt
 have r10_l:=r10.lt
 have r13_l:=r13.lt
 simp -dsimp only [go_sem,r13.cell]
 refine ⟨fun hlt1=>?_,fun hge1=>?_⟩
 ·have hlt1:p<max n m:=by omega
  simp -dsimp only [go_sem]
  refine loop_intro (fun q:Nat=>[(4,.pointer (some ⟨b4,0,none⟩)),(5,.pointer (some ⟨b7,0,none⟩)),(6,.pointer (some ⟨b10,0,none⟩)),(7,.pointer (some ⟨b13,0,none⟩)),(8,.int .i64 p),(9,.int .i64 q)])
   (fun q h'=>q≤max n m∧Fr 0 0 h h'∧h14.size≤h'.size∧Rw h' b4 [.int .i64 0,.slice none 0 0]∧Rw h' b7 [.int .i64 (max n m:Nat),.slice xa (max n m) xc]∧Rw h' b10 [.int .i64 (max n m:Nat),.slice ya (max n m) yc]∧Rw h' b13 [.int .i64 (max n m:Nat),.slice za (max n m) zc] ∧
    Tab h' h4.size h6.size (.slice xa (max n m) xc) (max n m) (max n m) X (inN n M)∧Tab h' h8.size h9.size (.slice ya (max n m) yc) (max n m) (max n m) Y (inN m N)∧Tab h' h11.size h12.size (.slice za (max n m) zc) (max n m) (max n m) Z fun i j=>(decide (i<p)&&compM n M m N i j)||(i==p&&(List.range q).any fun k=>inN n M p k&&inN m N k j)) (fun q=>max n m - q) 0 ?_ ?_ ?_
  ·simp [Le,find]
  ·exact ⟨by omega,p0,by omega,r4,r7,r10,r13,tx,ty,t12.congr fun i j _ _=>by simp⟩
  rintro q hQ ⟨hq,p0,yQ,r4,r7,r10,r13,tx,ty,t12⟩
  have p0_z:=p0.size
  have r4_l:=r4.lt
  have r7_l:=r7.lt
  have r10_l:=r10.lt
  have r13_l:=r13.lt
  simp -dsimp only [go_sem,r13.cell]
  refine ⟨fun hlt2=>?_,fun hge2=>?_⟩
  ·have hlt2:q<max n m:=by omega
   have hstep:∀ j,(List.range (q+1)).any (fun k=>inN n M p k&&inN m N k j)=((List.range q).any (fun k=>inN n M p k&&inN m N k j)||(inN n M p q&&inN m N q j)):=fun j=>by
    rw [List.range_succ,List.any_append];simp
   simp -dsimp only [go_sem]
   refine loop_intro (fun c:Nat=>[(4,.pointer (some ⟨b4,0,none⟩)),(5,.pointer (some ⟨b7,0,none⟩)),(6,.pointer (some ⟨b10,0,none⟩)),(7,.pointer (some ⟨b13,0,none⟩)),(8,.int .i64 p),(9,.int .i64 q),(10,.int .i64 c)])
    (fun c h'=>c≤max n m∧(inN n M p q=false→c=0)∧Fr 0 0 h h'∧h14.size≤h'.size∧Rw h' b4 [.int .i64 0,.slice none 0 0]∧Rw h' b7 [.int .i64 (max n m:Nat),.slice xa (max n m) xc]∧Rw h' b10 [.int .i64 (max n m:Nat),.slice ya (max n m) yc]∧Rw h' b13 [.int .i64 (max n m:Nat),.slice za (max n m) zc] ∧
     Tab h' h4.size h6.size (.slice xa (max n m) xc) (max n m) (max n m) X (inN n M)∧Tab h' h8.size h9.size (.slice ya (max n m) yc) (max n m) (max n m) Y (inN m N)∧Tab h' h11.size h12.size (.slice za (max n m) zc) (max n m) (max n m) Z fun i j=>(decide (i<p)&&compM n M m N i j)||(i==p&&((List.range q).any (fun k=>inN n M p k&&inN m N k j)||(decide (j<c)&&inN m N q j)))) (fun c=>max n m - c) 0 ?_ ?_ ?_
   ·simp [Le,find]
   ·exact ⟨by omega,fun _=>rfl,p0,by omega,r4,r7,r10,r13,tx,ty,t12.congr fun i j _ _=>by simp⟩
   rintro c hC ⟨hc,hc0,p0,yC,r4,r7,r10,r13,tx,ty,t12⟩
   have p0_z:=p0.size
   have r4_l:=r4.lt
   have r7_l:=r7.lt
   have r10_l:=r10.lt
   have r13_l:=r13.lt
   simp -dsimp only [go_sem,r7.cell]
   refine Chk_intro (by omega) (tx.idx (p:=p) (by omega) fun b15 o15 c15=>?_)
   simp -dsimp only [go_sem,c15]
   refine Chk_intro (by omega) ?_
   simp -dsimp only [go_sem,tx.cell hlt1 hlt2]
   cases hM:inN n M p q with
   | false =>
    have hc0:=hc0 hM
    subst hc0
    simp -dsimp only [go_sem]
    simp -dsimp (disch:=omega) only [wrap64]
    refine ⟨q+1,by omega,by simp [Le,find],by omega,p0,by omega,r4,r7,r10,r13,tx,ty,t12.congr fun i j hi hj=>?_⟩
    rw [hstep,hM];simp
   | true =>
    simp -dsimp only [go_sem,r13.cell]
    refine ⟨fun hlt3=>?_,fun hge3=>?_⟩
    ·have hlt3:c<max n m:=by omega
     have hold:((decide (p<p)&&compM n M m N p c)||(true&&((List.range q).any (fun k=>inN n M p k&&inN m N k c)||(decide (c<c)&&inN m N q c))))=(List.range q).any (fun k=>inN n M p k&&inN m N k c):=by simp
     have hnew:∀ (v:Bool),v=((List.range q).any (fun k=>inN n M p k&&inN m N k c)||inN m N q c)→∀ i j,(if i=p∧j=c then v else ((decide (i<p)&&compM n M m N i j)||(i==p&&((List.range q).any (fun k=>inN n M p k&&inN m N k j)||(decide (j<c)&&inN m N q j)))))=((decide (i<p)&&compM n M m N i j)||(i==p&&((List.range q).any (fun k=>inN n M p k&&inN m N k j)||(decide (j<c+1)&&inN m N q j)))):=fun v hv i j=>by
      by_cases hij:i=p∧j=c
      ·obtain ⟨rfl,rfl⟩:=hij
       rw [if_pos ⟨rfl,rfl⟩,hv];simp
      ·rw [if_neg hij]
       by_cases hip:i=p
       ·have:(j<c+1)=(j<c):=by simp;omega
        simp [this]
       ·have e:(i==p)=false:=by simpa using hip
        simp [e]
     simp -dsimp only [go_sem,r13.cell]
     refine Chk_intro (by omega) (t12.idx (p:=p) (by omega) fun b16 o16 c16=>?_)
     simp -dsimp only [go_sem,c16,r13.cell]
     refine Chk_intro (by omega) (t12.idx (p:=p) (by omega) fun b17 o17 c17=>?_)
     simp -dsimp only [go_sem,c17]
     refine Chk_intro (by omega) ?_
     simp -dsimp only [go_sem,t12.cell hlt1 hlt3]
     rw [hold]
     cases hA:(List.range q).any (fun k=>inN n M p k&&inN m N k c) with
     | true =>
      simp -dsimp only [go_sem]
      refine Chk_intro (by omega) ?_
      simp -dsimp only [go_sem]
      refine Chk_intro (t12.wr hlt1 hlt3) fun h18 s18=>?_
      have s18_z:=s18.size
      have w_row:=t12.row p hlt1
      have t13:=t12.set hlt1 s18
      have s18.fr_z:=s18.fr.size
      replace p0:=p0.F s18.fr
      replace r4:=r4.F s18.fr
      replace r7:=r7.F s18.fr
      replace r10:=r10.F s18.fr
      replace r13:=r13.F s18.fr
      replace tx:=tx.fr s18.fr (by omega)
      replace ty:=ty.fr s18.fr (by omega)
      simp -dsimp only [go_sem]
      simp -dsimp (disch:=omega) only [wrap64]
      exact ⟨c+1,by omega,by simp [Le,find],by omega,by simp,p0,by omega,r4,r7,r10,r13,tx,ty,t13.congr fun i j _ _=>hnew _ (by rw [hA,Bool.true_or]) i j⟩
     | false =>
      simp -dsimp only [go_sem,r10.cell]
      refine Chk_intro (by omega) (ty.idx (p:=q) (by omega) fun b18 o18 c18=>?_)
      simp -dsimp only [go_sem,c18]
      refine Chk_intro (by omega) ?_
      simp -dsimp only [go_sem,ty.cell hlt2 hlt3]
      refine Chk_intro (by omega) ?_
      simp -dsimp only [go_sem]
      refine Chk_intro (t12.wr hlt1 hlt3) fun h18 s18=>?_
      have s18_z:=s18.size
      have w_row:=t12.row p hlt1
      have t13:=t12.set hlt1 s18
      have s18.fr_z:=s18.fr.size
      replace p0:=p0.F s18.fr
      replace r4:=r4.F s18.fr
      replace r7:=r7.F s18.fr
      replace r10:=r10.F s18.fr
      replace r13:=r13.F s18.fr
      replace tx:=tx.fr s18.fr (by omega)
      replace ty:=ty.fr s18.fr (by omega)
      simp -dsimp only [go_sem]
      simp -dsimp (disch:=omega) only [wrap64]
      exact ⟨c+1,by omega,by simp [Le,find],by omega,by simp,p0,by omega,r4,r7,r10,r13,tx,ty,t13.congr fun i j _ _=>hnew _ (by rw [hA,Bool.false_or]) i j⟩
    ·have hcn:c=max n m:=by omega
     simp -dsimp only [go_sem]
     simp -dsimp (disch:=omega) only [wrap64]
     refine ⟨q+1,by omega,by simp [Le,find],by omega,p0,by omega,r4,r7,r10,r13,tx,ty,t12.congr fun i j hi hj=>?_⟩
     have:j<c:=by omega
     rw [hstep,hM];simp [this]
  ·have hqn:q=max n m:=by omega
   simp -dsimp only [go_sem]
   simp -dsimp (disch:=omega) only [wrap64]
   refine ⟨p+1,by omega,by simp [Le,find],by omega,p0,by omega,r4,r7,r10,r13,tx,ty,t12.congr fun i j hi hj=>?_⟩
   by_cases hip:i=p
   ·subst hip
    have e:(List.range q).any (fun k=>inN n M i k&&inN m N k j)=compM n M m N i j:=by
     rw [Bool.eq_iff_iff,compM_true,List.any_eq_true]
     simp only [List.mem_range,Bool.and_eq_true]
     refine exists_congr fun k=>⟨fun ⟨_,h⟩=>h,fun h=>⟨?_,h⟩⟩
     have:=(inN_true.1 h.1).2.1;omega
    rw [e];simp
   ·have e:(i==p)=false:=by simpa using hip
    have e4:(i<p+1)=(i<p):=by simp;omega
    simp [e,e4]
 ·have hpn:p=max n m:=by omega
  simp -dsimp only [go_sem,r13.cell]
  refine Chk_intro (r4.W) fun h15 s15=>?_
  have s15_z:=s15.size
  replace p0:=p0.F s15.fr
  replace r7:=r7.F s15.fr
  replace r10:=r10.F s15.fr
  replace r13:=r13.F s15.fr
  replace tx:=tx.fr s15.fr (by omega)
  replace ty:=ty.fr s15.fr (by omega)
  replace t12:=t12.fr s15.fr (by omega)
  replace r4:=s15.row r4
  try simp only [cl_int,cl_bool,cl_slice,cl_ptr,putAt_one,zs0,zs1,ivec_set,brow_upd] at r4
  simp -dsimp only [go_sem,r4.cell]
  refine ⟨p0,hmx,_,Z,rfl,((t12.mono (by omega) (by omega)).congr fun i j hi hj=>?_)⟩
  have:i<p:=by omega
  simp [this]
end Go.Proofs.Tst
/-
  All orders that begin with a list, in their order; how they are gone through.
-/
namespace Go.Proofs.Tst
open Go Go.Vc
section
variable {n : Nat} {M : Nat → Nat → Bool}
def extGo (n:Nat) (M:Nat→Nat→Bool):Nat→List Nat→List (List Nat)
 | 0,l=>[l]
 | k+1,l=>(rest (freeB n M l.contains) n 0).flatMap fun p=>extGo n M k (l++[p])
def extFrom (n:Nat) (M:Nat→Nat→Bool) (l:List Nat) (q:Nat):List (List Nat):=(rest (freeB n M l.contains) n q).flatMap fun p=>extGo n M (n - l.length - 1) (l++[p])
def later (n:Nat) (M:Nat→Nat→Bool):List Nat→List (List Nat)
 | []=>[]
 | p :: r=>extFrom n M r.reverse (p+1)++later n M r
end
end Go.Proofs.Tst
/-
  order.Extensions: the lists are those of extGo, in their order.
-/
namespace Go.Proofs.Tst
open Go Go.Vc
theorem slices_Clone {a:Option Addr} {n c:Nat} {xs:List Value} {h:Heap} (hr:Rd 1 h (.slice a n c) n xs) (hoc:xs.all Value.oneCell'=true) (hb:n≤65536) :
  Con Tryz.prog 70 #[.slice a n c] h fun v h'=>Fr 0 0 h h'∧Holder 1 h' v n xs h.size:=by
 refine con_q101 ?_
 have p0:Fr 0 0 h h:=.refl _ _ _
 have hl:=hr.1
 cases a with
 | none =>
  obtain ⟨-,a',c',h1,h2⟩:=hr
  cases h1
  have hn:n=0:=by rcases h2 with h2 | ⟨b,o,h2,-⟩ <;> simp_all
  subst hn
  obtain rfl:xs=[]:=List.eq_nil_of_length_eq_zero (by simpa using hl)
  simp -dsimp only [go_sem]
  exact ⟨p0,.none _ _ _⟩
 | some a =>
  simp -dsimp only [go_sem]
  intro b1 h1 n1
  have n1_z:=n1.az
  replace p0:=p0.F n1.f0
  have r1:=n1.row
  have o1:Holder 1 h1 (.slice (some ⟨b1,0,none⟩) 0 0) 0 [] h.size:=⟨rfl,.inr ⟨b1,0,[],rfl,r1,rfl,by omega⟩⟩
  simp -dsimp only [go_sem]
  refine o1.appendRd (hr.fr p0) (by omega) rfl (by omega) hoc (by omega) fun v2 h2 o2 f2 e2=>?_
  simp -dsimp only [go_sem]
  rw [Nat.zero_add,List.nil_append] at o2
  exact ⟨p0.fresh f2 (by simp [bl,bh];omega),o2⟩
end Go.Proofs.Tst
/-
  The document's own Pairs.
-/
namespace Go.Proofs.Tst
open Go Go.Vc
def upto (f:Nat→Bool) (i j:Nat):List (Int×Int):=((List.range j).filter f).map fun (b:Nat)=>((i:Int),(b:Int))
end Go.Proofs.Tst
/-
  The document's own Image, Within, Equal, Put, far, Cycle.
-/
namespace Go.Proofs.Tst
open Go Go.Vc
end Go.Proofs.Tst
namespace Go.Proofs.Tst
open Go Go.Vc
end Go.Proofs.Tst
