/-
  Contracts of functions that the law reaches: what each returns and what it leaves in memory. Conditions stand in each.
-/
import Derived.Test.YtpocfojbfodlmaaGreatDoorT7
set_option linter.all false
set_option maxRecDepth 2000
/-
  The document's relations of a graph.
-/
namespace Go.Proofs.Tst
open Go Go.Vc
theorem good_loc {g:Gr} (hg:g.good=true) {i:Nat} (hi:i<g.n):((g.ev i).kind=3∧(g.ev i).loc = -1)∨((g.ev i).kind≠3∧0≤(g.ev i).loc):=by
 obtain ⟨words,hz⟩:=good_check hg
 obtain ⟨hs,h2,h3,-⟩:=check_zero hz
 have hs':=hs
 simp only [Gr.size,Bool.and_eq_true,decide_eq_true_eq] at hs'
 by_cases hc:i<g.cells.toNat
 ·have:=firstEv_neg _ _ h2 i (by omega) (by omega)
  simp only [Bool.not_eq_false',beq_iff_eq] at this
  rw [this];unfold Gr.first;dsimp only;omega
 ·have:=firstEv_neg _ _ h3 i (by omega) (by omega)
  simp only [Bool.not_eq_false'] at this
  unfold Gr.evOk at this
  simp only [Bool.and_eq_true] at this
  obtain ⟨-,h4⟩:=this
  by_cases hk:(g.ev i).kind=3
  ·rw [if_pos hk] at h4
   simp only [Bool.and_eq_true,beq_iff_eq] at h4
   exact .inl ⟨hk,h4.1⟩
  ·rw [if_neg hk] at h4
   simp only [Bool.and_eq_true,decide_eq_true_eq] at h4
   exact .inr ⟨hk,h4.1⟩
theorem same_good {g:Gr} (hg:g.good=true) {i j:Nat} (hi:i<g.n) (hj:j<g.n):relM g 4 i j=(!((g.ev i).kind==3)&&!((g.ev j).kind==3)&&(g.ev i).loc==(g.ev j).loc):=by
 show g.sameM i j=_
 unfold Gr.sameM
 rw [Bool.eq_iff_iff]
 simp only [Bool.and_eq_true,decide_eq_true_eq,beq_iff_eq,Bool.not_eq_true',beq_eq_false_iff_ne]
 have h1:=good_loc hg hi
 have h2:=good_loc hg hj
 omega
set_option maxHeartbeats 1000000 in
theorem ref8_Po {h:Heap} {w:GV} {g:Gr} (t:GrAt h w g) (hn:g.n≤256) :
  Con Tryz.prog 34 #[.agg (gcells w g).toArray] h fun v h'=>Fr 0 0 h h'∧RefAt h' h.size h'.size v g.n (relM g 0):=by
 refine con_q67 ?_
 have hcl:clampN (g.n:Int)=g.n:=by unfold clampN;omega
 have p0:Fr 0 0 h h:=.refl _ _ _
 have be:=t.fits.e
 have hen:g.evs.length=g.n:=rfl
 unfold gcells
 simp -dsimp only [go_sem]
 intro b1 h1 n1
 have n1_z:=n1.az
 replace p0:=p0.F n1.f0
 have r1:=n1.row
 simp -dsimp only [go_sem]
 intro b2 h2 n2
 have n2_z:=n2.az
 replace p0:=p0.F n2.f0
 replace r1:=r1.F n2.f0
 have r2:=n2.row
 simp -dsimp only [go_sem,evs_len,r1.cell]
 refine call_of (ref1_New g.n h2) ?_
 rintro v3 h3 ⟨f3,t3⟩
 rw [hcl] at t3
 obtain ⟨-,z,Z,rfl,t3⟩:=t3
 obtain ⟨za,zc,rfl⟩:=t3.own.is
 have t3_a:=t3.own.at_
 have f3_z:=f3.size
 replace p0:=p0.F f3
 replace r1:=r1.F f3
 replace r2:=r2.F f3
 simp -dsimp only [go_sem]
 intro b4 h4 n4
 have n4_z:=n4.az
 replace p0:=p0.F n4.f0
 replace r1:=r1.F n4.f0
 replace r2:=r2.F n4.f0
 replace t3:=t3.fr n4.f0 (by omega)
 have r4:=n4.row
 simp -dsimp only [go_sem]
 refine Chk_intro (r4.W) fun h5 s5=>?_
 have s5_z:=s5.size
 replace p0:=p0.F s5.fr
 replace r1:=r1.F s5.fr
 replace r2:=r2.F s5.fr
 replace t3:=t3.fr s5.fr (by omega)
 replace r4:=s5.row r4
 try simp only [cl_int,cl_bool,cl_slice,cl_ptr,putAt_one,zs0,zs1,ivec_set,brow_upd] at r4
 simp -dsimp only [go_sem]
 refine loop_intro (fun p:Nat=>[(1,.pointer (some ⟨b1,0,none⟩)),(2,.pointer (some ⟨b2,0,none⟩)),(3,.pointer (some ⟨b4,0,none⟩)),(4,.int .i64 p)]) (fun p h'=>p≤(g.n)∧Fr 0 0 h h'∧h5.size≤h'.size∧Rw h' b1 [.int .i64 g.cells,.slice w.e g.evs.length w.ec,.slice w.f g.rf.length w.fc,.slice w.o g.co.length w.oc,.slice w.r g.rmw.length w.rc,.slice w.a g.addr.length w.ac,.slice w.d g.data.length w.dc,.slice w.c g.ctrl.length w.cc]∧Rw h' b2 [.int .i64 0,.slice none 0 0]∧Rw h' b4 [.int .i64 g.n,.slice za g.n zc]∧Tab h' h2.size h3.size (.slice za g.n zc) (g.n) (g.n) Z (mixM p 0 (g.n) (relM g 0) (fun _ _=>false))) (fun p=>(g.n) - p) 0 ?_ ?_ ?_
 ·simp [Le,find]
 ·exact ⟨by omega,p0,by omega,r1,r2,r4,t3.congr fun i j _ _=>by rw [mixM_zero]⟩
 rintro p hP ⟨hp,p0,yP,r1,r2,r4,t3⟩
 have p0_z:=p0.size
 have r1_l:=r1.lt
 have r2_l:=r2.lt
 have r4_l:=r4.lt
 simp -dsimp only [go_sem,r4.cell]
 refine ⟨fun hlt1=>?_,fun hge1=>?_⟩
 ·have hlt1:p<(g.n):=by omega
  simp -dsimp only [go_sem]
  refine loop_intro (fun q:Nat=>[(1,.pointer (some ⟨b1,0,none⟩)),(2,.pointer (some ⟨b2,0,none⟩)),(3,.pointer (some ⟨b4,0,none⟩)),(4,.int .i64 p),(5,.int .i64 q)]) (fun q h'=>q≤(g.n)∧Fr 0 0 h h'∧h5.size≤h'.size∧Rw h' b1 [.int .i64 g.cells,.slice w.e g.evs.length w.ec,.slice w.f g.rf.length w.fc,.slice w.o g.co.length w.oc,.slice w.r g.rmw.length w.rc,.slice w.a g.addr.length w.ac,.slice w.d g.data.length w.dc,.slice w.c g.ctrl.length w.cc]∧Rw h' b2 [.int .i64 0,.slice none 0 0]∧Rw h' b4 [.int .i64 g.n,.slice za g.n zc]∧Tab h' h2.size h3.size (.slice za g.n zc) (g.n) (g.n) Z (mixM p q (g.n) (relM g 0) (fun _ _=>false))) (fun q=>(g.n) - q) 0 ?_ ?_ ?_
  ·simp [Le,find]
  ·exact ⟨by omega,p0,by omega,r1,r2,r4,t3⟩
  rintro q hQ ⟨hq,p0,yQ,r1,r2,r4,t3⟩
  have p0_z:=p0.size
  have r1_l:=r1.lt
  have r2_l:=r2.lt
  have r4_l:=r4.lt
  simp -dsimp only [go_sem,r4.cell]
  refine ⟨fun hlt2=>?_,fun hge2=>?_⟩
  ·have hlt2:q<(g.n):=by omega
   simp -dsimp only [go_sem,r4.cell]
   refine Chk_intro (by omega) (t3.idx (p:=p) (by omega) fun b9 o9 c9=>?_)
   simp -dsimp only [go_sem,c9,r1.cell]
   refine call_of (ref8_before (t.fr p0) p q) ?_
   rintro v6 h6 ⟨f6,rfl⟩
   have f6_z:=f6.size
   replace p0:=p0.F f6
   replace r1:=r1.F f6
   replace r2:=r2.F f6
   replace r4:=r4.F f6
   replace t3:=t3.fr f6 (by omega)
   replace c9:=f6.keep c9 (by omega)
   simp -dsimp only [go_sem,c9,r4.cell]
   refine Chk_intro (by omega) ?_
   simp -dsimp only [go_sem]
   refine Chk_intro (t3.wr (by omega) (by omega)) fun h10 s10=>?_
   have s10_z:=s10.size
   have w_row:=t3.row p (by omega)
   have t_new:=t3.set (p:=p) (q:=q) (by omega) s10
   replace p0:=p0.F s10.fr
   replace r1:=r1.F s10.fr
   replace r2:=r2.F s10.fr
   replace r4:=r4.F s10.fr
   simp -dsimp only [go_sem]
   simp -dsimp (disch:=omega) only [wrap64]
   exact ⟨q+1,by omega,by simp [Le,find],by omega,p0,by omega,r1,r2,r4,t_new.congr fun i j hi hj=>mixM_set (rfl)⟩
  ·have hqn:q=(g.n):=by omega
   simp -dsimp only [go_sem]
   simp -dsimp (disch:=omega) only [wrap64]
   exact ⟨p+1,by omega,by simp [Le,find],by omega,p0,by omega,r1,r2,r4,t3.congr fun i j _ _=>by rw [hqn];exact mixM_next⟩
 have hpn:p=(g.n):=by omega
 simp -dsimp only [go_sem,r4.cell]
 refine Chk_intro (r2.W) fun h9 s9=>?_
 have s9_z:=s9.size
 replace p0:=p0.F s9.fr
 replace r1:=r1.F s9.fr
 replace r4:=r4.F s9.fr
 replace t3:=t3.fr s9.fr (by omega)
 replace r2:=s9.row r2
 try simp only [cl_int,cl_bool,cl_slice,cl_ptr,putAt_one,zs0,zs1,ivec_set,brow_upd] at r2
 simp -dsimp only [go_sem,r2.cell]
 refine ⟨p0,hn,_,Z,rfl,((t3.mono (by omega) (by omega)).congr fun i j hi hj=>?_)⟩
 rw [hpn,mixM_end hi hj]
set_option maxHeartbeats 1000000 in
theorem ref8_Same {h:Heap} {w:GV} {g:Gr} (t:GrAt h w g) (hg:g.good=true) :
  Con Tryz.prog 39 #[.agg (gcells w g).toArray] h fun v h'=>Fr 0 0 h h'∧RefAt h' h.size h'.size v g.n (relM g 4):=by
 refine con_q70 ?_
 have hn:=(good_n hg).1
 have hcl:clampN (g.n:Int)=g.n:=by unfold clampN;omega
 have p0:Fr 0 0 h h:=.refl _ _ _
 have be:=t.fits.e
 have hen:g.evs.length=g.n:=rfl
 unfold gcells
 simp -dsimp only [go_sem]
 intro b1 h1 n1
 have n1_z:=n1.az
 replace p0:=p0.F n1.f0
 have r1:=n1.row
 simp -dsimp only [go_sem]
 intro b2 h2 n2
 have n2_z:=n2.az
 replace p0:=p0.F n2.f0
 replace r1:=r1.F n2.f0
 have r2:=n2.row
 simp -dsimp only [go_sem,evs_len,r1.cell]
 refine call_of (ref1_New g.n h2) ?_
 rintro v3 h3 ⟨f3,t3⟩
 rw [hcl] at t3
 obtain ⟨-,z,Z,rfl,t3⟩:=t3
 obtain ⟨za,zc,rfl⟩:=t3.own.is
 have t3_a:=t3.own.at_
 have f3_z:=f3.size
 replace p0:=p0.F f3
 replace r1:=r1.F f3
 replace r2:=r2.F f3
 simp -dsimp only [go_sem]
 intro b4 h4 n4
 have n4_z:=n4.az
 replace p0:=p0.F n4.f0
 replace r1:=r1.F n4.f0
 replace r2:=r2.F n4.f0
 replace t3:=t3.fr n4.f0 (by omega)
 have r4:=n4.row
 simp -dsimp only [go_sem]
 refine Chk_intro (r4.W) fun h5 s5=>?_
 have s5_z:=s5.size
 replace p0:=p0.F s5.fr
 replace r1:=r1.F s5.fr
 replace r2:=r2.F s5.fr
 replace t3:=t3.fr s5.fr (by omega)
 replace r4:=s5.row r4
 try simp only [cl_int,cl_bool,cl_slice,cl_ptr,putAt_one,zs0,zs1,ivec_set,brow_upd] at r4
 simp -dsimp only [go_sem]
 refine loop_intro (fun p:Nat=>[(1,.pointer (some ⟨b1,0,none⟩)),(2,.pointer (some ⟨b2,0,none⟩)),(3,.pointer (some ⟨b4,0,none⟩)),(4,.int .i64 p)]) (fun p h'=>p≤(g.n)∧Fr 0 0 h h'∧h5.size≤h'.size∧Rw h' b1 [.int .i64 g.cells,.slice w.e g.evs.length w.ec,.slice w.f g.rf.length w.fc,.slice w.o g.co.length w.oc,.slice w.r g.rmw.length w.rc,.slice w.a g.addr.length w.ac,.slice w.d g.data.length w.dc,.slice w.c g.ctrl.length w.cc]∧Rw h' b2 [.int .i64 0,.slice none 0 0]∧Rw h' b4 [.int .i64 g.n,.slice za g.n zc]∧Tab h' h2.size h3.size (.slice za g.n zc) (g.n) (g.n) Z (mixM p 0 (g.n) (relM g 4) (fun _ _=>false))) (fun p=>(g.n) - p) 0 ?_ ?_ ?_
 ·simp [Le,find]
 ·exact ⟨by omega,p0,by omega,r1,r2,r4,t3.congr fun i j _ _=>by rw [mixM_zero]⟩
 rintro p hP ⟨hp,p0,yP,r1,r2,r4,t3⟩
 have p0_z:=p0.size
 have r1_l:=r1.lt
 have r2_l:=r2.lt
 have r4_l:=r4.lt
 simp -dsimp only [go_sem,r4.cell]
 refine ⟨fun hlt1=>?_,fun hge1=>?_⟩
 ·have hlt1:p<(g.n):=by omega
  simp -dsimp only [go_sem]
  refine loop_intro (fun q:Nat=>[(1,.pointer (some ⟨b1,0,none⟩)),(2,.pointer (some ⟨b2,0,none⟩)),(3,.pointer (some ⟨b4,0,none⟩)),(4,.int .i64 p),(5,.int .i64 q)]) (fun q h'=>q≤(g.n)∧Fr 0 0 h h'∧h5.size≤h'.size∧Rw h' b1 [.int .i64 g.cells,.slice w.e g.evs.length w.ec,.slice w.f g.rf.length w.fc,.slice w.o g.co.length w.oc,.slice w.r g.rmw.length w.rc,.slice w.a g.addr.length w.ac,.slice w.d g.data.length w.dc,.slice w.c g.ctrl.length w.cc]∧Rw h' b2 [.int .i64 0,.slice none 0 0]∧Rw h' b4 [.int .i64 g.n,.slice za g.n zc]∧Tab h' h2.size h3.size (.slice za g.n zc) (g.n) (g.n) Z (mixM p q (g.n) (relM g 4) (fun _ _=>false))) (fun q=>(g.n) - q) 0 ?_ ?_ ?_
  ·simp [Le,find]
  ·exact ⟨by omega,p0,by omega,r1,r2,r4,t3⟩
  rintro q hQ ⟨hq,p0,yQ,r1,r2,r4,t3⟩
  have p0_z:=p0.size
  have r1_l:=r1.lt
  have r2_l:=r2.lt
  have r4_l:=r4.lt
  simp -dsimp only [go_sem,r4.cell]
  refine ⟨fun hlt2=>?_,fun hge2=>?_⟩
  ·have hlt2:q<(g.n):=by omega
   obtain ⟨eb,eo,he,hev⟩:=t.evs (by omega)
   obtain ⟨c0,c1,c2,c3,c4⟩:=hev _ p0 p hlt1
   obtain ⟨d0,d1,d2,d3,d4⟩:=hev _ p0 q hlt2
   have e1:((p:Int)<(g.n:Int)):=by omega
   have e2:((q:Int)<(g.n:Int)):=by omega
   simp -dsimp only [go_sem,r4.cell]
   refine Chk_intro (by omega) (t3.idx (p:=p) (by omega) fun b9 o9 c9=>?_)
   have hsm:=same_good hg hlt1 hlt2
   by_cases k1:(g.ev p).kind=3
   ·rw [beq_t k1] at hsm
    simp -dsimp only [go_sem,c9,he,evs_len,e1,e2,c1,bne_t k1,r1.cell]
    refine Chk_intro (t3.wr (by omega) (by omega)) fun h10 s10=>?_
    have s10_z:=s10.size
    have w_row:=t3.row p (by omega)
    have t_new:=t3.set (p:=p) (q:=q) (by omega) s10
    have s10.fr_z:=s10.fr.size
    replace p0:=p0.F s10.fr
    replace r1:=r1.F s10.fr
    replace r2:=r2.F s10.fr
    replace r4:=r4.F s10.fr
    obtain ⟨c0,c1,c2,c3,c4⟩:=hev _ p0 p hlt1
    obtain ⟨d0,d1,d2,d3,d4⟩:=hev _ p0 q hlt2
    simp -dsimp only [go_sem,he,evs_len,e2,bne_t k1]
    simp -dsimp (disch:=omega) only [wrap64]
    exact ⟨q+1,by omega,by simp [Le,find],by omega,p0,by omega,by (have:=r1;rw [he] at this;exact this),r2,r4,t_new.congr fun i j hi hj=>mixM_set (by rw [hsm];rfl)⟩
   by_cases k2:(g.ev q).kind=3
   ·rw [beq_f k1,beq_t k2] at hsm
    simp -dsimp only [go_sem,c9,he,evs_len,e1,e2,c1,d1,bne_f k1,bne_t k2,r1.cell]
    refine Chk_intro (t3.wr (by omega) (by omega)) fun h10 s10=>?_
    have s10_z:=s10.size
    have w_row:=t3.row p (by omega)
    have t_new:=t3.set (p:=p) (q:=q) (by omega) s10
    have s10.fr_z:=s10.fr.size
    replace p0:=p0.F s10.fr
    replace r1:=r1.F s10.fr
    replace r2:=r2.F s10.fr
    replace r4:=r4.F s10.fr
    obtain ⟨c0,c1,c2,c3,c4⟩:=hev _ p0 p hlt1
    obtain ⟨d0,d1,d2,d3,d4⟩:=hev _ p0 q hlt2
    simp -dsimp only [go_sem,he,evs_len,e2,bne_f k1,bne_t k2]
    simp -dsimp (disch:=omega) only [wrap64]
    exact ⟨q+1,by omega,by simp [Le,find],by omega,p0,by omega,by (have:=r1;rw [he] at this;exact this),r2,r4,t_new.congr fun i j hi hj=>mixM_set (by rw [hsm];rfl)⟩
   rw [beq_f k1,beq_f k2] at hsm
   simp -dsimp only [go_sem,c9,he,evs_len,e1,e2,c1,d1,c2,d2,bne_f k1,bne_f k2,r1.cell]
   refine Chk_intro (t3.wr (by omega) (by omega)) fun h10 s10=>?_
   have s10_z:=s10.size
   have w_row:=t3.row p (by omega)
   have t_new:=t3.set (p:=p) (q:=q) (by omega) s10
   have s10.fr_z:=s10.fr.size
   replace p0:=p0.F s10.fr
   replace r1:=r1.F s10.fr
   replace r2:=r2.F s10.fr
   replace r4:=r4.F s10.fr
   obtain ⟨c0,c1,c2,c3,c4⟩:=hev _ p0 p hlt1
   obtain ⟨d0,d1,d2,d3,d4⟩:=hev _ p0 q hlt2
   simp -dsimp only [go_sem,he,evs_len,e2,bne_f k1,bne_f k2]
   simp -dsimp (disch:=omega) only [wrap64]
   exact ⟨q+1,by omega,by simp [Le,find],by omega,p0,by omega,by (have:=r1;rw [he] at this;exact this),r2,r4,t_new.congr fun i j hi hj=>mixM_set (by rw [hsm];rfl)⟩
  ·have hqn:q=(g.n):=by omega
   simp -dsimp only [go_sem]
   simp -dsimp (disch:=omega) only [wrap64]
   exact ⟨p+1,by omega,by simp [Le,find],by omega,p0,by omega,r1,r2,r4,t3.congr fun i j _ _=>by rw [hqn];exact mixM_next⟩
 have hpn:p=(g.n):=by omega
 simp -dsimp only [go_sem,r4.cell]
 refine Chk_intro (r2.W) fun h9 s9=>?_
 have s9_z:=s9.size
 replace p0:=p0.F s9.fr
 replace r1:=r1.F s9.fr
 replace r4:=r4.F s9.fr
 replace t3:=t3.fr s9.fr (by omega)
 replace r2:=s9.row r2
 try simp only [cl_int,cl_bool,cl_slice,cl_ptr,putAt_one,zs0,zs1,ivec_set,brow_upd] at r2
 simp -dsimp only [go_sem,r2.cell]
 refine ⟨p0,hn,_,Z,rfl,((t3.mono (by omega) (by omega)).congr fun i j hi hj=>?_)⟩
 rw [hpn,mixM_end hi hj]
theorem co_nat {g:Gr} (hg:g.good=true) {c:Nat} (hc:c<g.co.length) {i:Nat} {a:Int} (h:(g.co.getD c [])[i]?=some a):∃ x:Nat,a=(x:Int)∧x<g.n:=by
 obtain ⟨l1,l2,-⟩:=is_lt ((co_list hg hc).2.1 a (List.mem_of_getElem? h)).1
 exact ⟨a.toNat,by omega,by omega⟩
set_option maxHeartbeats 4000000 in
theorem ref8_Co {h:Heap} {w:GV} {g:Gr} (t:GrAt h w g) (hg:g.good=true) :
  Con Tryz.prog 36 #[.agg (gcells w g).toArray] h fun v h'=>Fr 0 0 h h'∧RefAt h' h.size h'.size v g.n (relM g 2):=by
 refine con_q61 ?_
 have hn:=(good_n hg).1
 have hcl:clampN (g.n:Int)=g.n:=by unfold clampN;omega
 have p0:Fr 0 0 h h:=.refl _ _ _
 have be:=t.fits.e
 have bo:=t.fits.o
 have hrl:=rlc_at t.l
 have hen:g.evs.length=g.n:=rfl
 unfold gcells
 simp -dsimp only [go_sem]
 intro b1 h1 n1
 have n1_a:=n1.at_
 have n1_z:=n1.size
 replace p0:=p0.F n1.f0
 have r1:=n1.row
 simp -dsimp only [go_sem]
 intro b2 h2 n2
 have n2_a:=n2.at_
 have n2_z:=n2.size
 replace p0:=p0.F n2.f0
 replace r1:=r1.F n2.f0
 have r2:=n2.row
 simp -dsimp only [go_sem,evs_len,r1.cell]
 refine call_of (ref1_New g.n h2) ?_
 rintro v3 h3 ⟨f3,t3⟩
 rw [hcl] at t3
 obtain ⟨-,z,Z,rfl,t3⟩:=t3
 obtain ⟨za,zc,rfl⟩:=t3.own.is
 have t3_a:=t3.own.at_
 have f3_z:=f3.size
 replace p0:=p0.F f3
 replace r1:=r1.F f3
 replace r2:=r2.F f3
 simp -dsimp only [go_sem]
 intro b4 h4 n4
 have n4_a:=n4.at_
 have n4_z:=n4.size
 replace p0:=p0.F n4.f0
 replace r1:=r1.F n4.f0
 replace r2:=r2.F n4.f0
 replace t3:=t3.fr n4.f0 (by omega)
 have r4:=n4.row
 simp -dsimp only [go_sem]
 refine Chk_intro (r4.W) fun h5 s5=>?_
 have s5_z:=s5.size
 replace p0:=p0.F s5.fr
 replace r1:=r1.F s5.fr
 replace r2:=r2.F s5.fr
 replace t3:=t3.fr s5.fr (by omega)
 replace r4:=s5.row r4
 try simp only [cl_int,cl_bool,cl_slice,cl_ptr,putAt_one,zs0,zs1,ivec_set,brow_upd] at r4
 simp -dsimp only [go_sem] at r4
 simp -dsimp only [go_sem]
 refine loop_intro (fun s:Nat×List (Int×Int)=>[(1,.pointer (some ⟨b1,0,none⟩)),(2,.pointer (some ⟨b2,0,none⟩)),(3,.pointer (some ⟨b4,0,none⟩)),(4,.int .i64 s.1)])
  (fun s h'=>s.1≤g.co.length∧Fr 0 0 h h'∧h5.size≤h'.size∧Rw h' b1 (gcells w g)∧Rw h' b2 [.int .i64 0,.slice none 0 0]∧Rw h' b4 [.int .i64 g.n,.slice za g.n zc]∧Tab h' h2.size h3.size (.slice za g.n zc) g.n g.n Z (ofM g.n s.2)∧s.2++(g.co.drop s.1).flatMap lpairs=coPairs g) (fun s=>g.co.length - s.1) (0,[]) ?_ ?_ ?_
 ·simp [Le,find]
 ·exact ⟨by omega,p0,by omega,r1,r2,r4,t3.congr fun i j _ _=>rfl,rfl⟩
 have gb:h.size≤b1∧b1<h2.size∧h.size≤b2∧b2<h2.size∧b1<b2∧h.size≤h2.size∧h2.size≤h3.size∧h3.size≤b4∧b4<h5.size∧h3.size≤h5.size:=by omega
 clear p0 r1 r2 r4 t3 t3_a n1_a n1_z n2_a n2_z n4_a n4_z s5_z f3_z
 rintro ⟨c,L⟩ h6 ⟨hc,p0,y6,r1,r2,r4,t3,hL⟩
 dsimp only at hc t3 hL ⊢
 unfold gcells at r1
 have p0_z:=p0.size
 have r1_l:=r1.lt
 have r2_l:=r2.lt
 have r4_l:=r4.lt
 by_cases hlt:c<g.co.length
 rotate_left
 ·obtain rfl:c=g.co.length:=by omega
  rw [List.drop_length] at hL
  simp only [List.flatMap_nil,List.append_nil] at hL
  simp -dsimp only [go_sem,Int.lt_irrefl,r1.cell,r4.cell]
  refine Chk_intro (r2.W) fun h9 s9=>?_
  have s9_z:=s9.size
  replace p0:=p0.F s9.fr
  replace r1:=r1.F s9.fr
  replace r4:=r4.F s9.fr
  replace t3:=t3.fr s9.fr (by omega)
  replace r2:=s9.row r2
  try simp only [cl_int,cl_bool,cl_slice,cl_ptr,putAt_one,zs0,zs1,ivec_set,brow_upd] at r2
  simp -dsimp only [go_sem,r2.cell]
  exact ⟨p0,hn,_,Z,rfl,((t3.mono (by omega) (by omega)).congr fun i j hi hj=>by rw [hL];rfl)⟩
 have e1:((c:Int)<(g.co.length:Int)):=by omega
 obtain ⟨ob,oo,hoe,la,lc,hlc,hlist⟩:=hrl c hlt
 have hnat:=fun {i:Nat} {a:Int}=>co_nat hg hlt (i:=i) (a:=a)
 have hll:=t.fits.l (g.co.getD c []) (by have:g.co[c]?=some (g.co.getD c []):=by { simp [hlt] };exact List.mem_of_getElem? this)
 have hdr:g.co.drop c=g.co.getD c [] :: g.co.drop (c+1):=by rw [List.drop_eq_getElem_cons hlt];congr 1;simp [hlt]
 rw [hdr,List.flatMap_cons] at hL
 generalize g.co.getD c []=l at hlist hll hL hlc hnat
 simp -dsimp only [go_sem,e1,r1.cell]
 refine loop_intro (fun s:Nat×List (Int×Int)=>[(1,.pointer (some ⟨b1,0,none⟩)),(2,.pointer (some ⟨b2,0,none⟩)),(3,.pointer (some ⟨b4,0,none⟩)),(4,.int .i64 c),(5,.int .i64 s.1)])
  (fun s h'=>s.1≤l.length∧Fr 0 0 h h'∧h5.size≤h'.size∧Rw h' b1 (gcells w g)∧Rw h' b2 [.int .i64 0,.slice none 0 0]∧Rw h' b4 [.int .i64 g.n,.slice za g.n zc]∧Tab h' h2.size h3.size (.slice za g.n zc) g.n g.n Z (ofM g.n s.2)∧s.2++(lpairs (l.drop s.1)++(g.co.drop (c+1)).flatMap lpairs)=coPairs g) (fun s=>l.length - s.1) (0,L) ?_ ?_ ?_
 ·simp [Le,find]
 ·exact ⟨by omega,p0,y6,r1,r2,r4,t3,hL⟩
 clear p0 y6 r1 r2 r4 t3 hL L
 rintro ⟨i,L⟩ h7 ⟨hi,p0,y7,r1,r2,r4,t3,hL⟩
 dsimp only at hi t3 hL ⊢
 unfold gcells at r1
 have p0_z:=p0.size
 have r1_l:=r1.lt
 have r2_l:=r2.lt
 have r4_l:=r4.lt
 obtain ⟨l1,l2⟩:=hlist h7 p0
 by_cases hil:i<l.length
 rotate_left
 ·obtain rfl:i=l.length:=by omega
  rw [List.drop_length] at hL
  simp -dsimp only [go_sem,e1,hoe,l1,Int.lt_irrefl,r1.cell]
  simp -dsimp (disch:=omega) only [wrap64]
  exact ⟨(c+1,L),by dsimp only;omega,by simp [Le,find],by dsimp only;omega,p0,by omega,r1,r2,r4,t3,hL⟩
 have e2:((i:Int)<(l.length:Int)):=by omega
 have hq:l[i]?=some l[i]:=by simp [hil]
 have hdi:l.drop i=l[i] :: l.drop (i+1):=List.drop_eq_getElem_cons hil
 rw [hdi] at hL
 obtain ⟨x,hx,hxn⟩:=hnat hq
 rw [hx] at hq hL
 have hpr:lpairs ((x:Int) :: l.drop (i+1))=(l.drop (i+1)).map (fun b=>((x:Int),b))++lpairs (l.drop (i+1)):=rfl
 rw [hpr,List.append_assoc] at hL
 obtain ⟨lb,lo,hle,hlc2⟩:=list_at (h:=h) (la:=la) (lc:=lc) (l:=l) (by omega) fun h' f=>(hlist h' f).2
 simp -dsimp only [go_sem,e1,hoe,l1,e2,r1.cell]
 simp -dsimp (disch:=omega) only [wrap64]
 refine loop_intro (fun s:Nat×List (Int×Int)=>[(1,.pointer (some ⟨b1,0,none⟩)),(2,.pointer (some ⟨b2,0,none⟩)),(3,.pointer (some ⟨b4,0,none⟩)),(4,.int .i64 c),(5,.int .i64 i),(6,.int .i64 (i+1+s.1:Nat))])
  (fun s h'=>i+1+s.1≤l.length∧Fr 0 0 h h'∧h5.size≤h'.size∧Rw h' b1 (gcells w g)∧Rw h' b2 [.int .i64 0,.slice none 0 0]∧Rw h' b4 [.int .i64 g.n,.slice za g.n zc]∧Tab h' h2.size h3.size (.slice za g.n zc) g.n g.n Z (ofM g.n s.2)∧s.2++((l.drop (i+1+s.1)).map (fun b=>((x:Int),b))++(lpairs (l.drop (i+1))++(g.co.drop (c+1)).flatMap lpairs))=coPairs g) (fun s=>l.length - (i+1) - s.1) (0,L) ?_ ?_ ?_
 ·simp [Le,find]
 ·exact ⟨by dsimp only;omega,p0,y7,r1,r2,r4,t3,hL⟩
 clear p0 y7 r1 r2 r4 t3 hL L l1 l2
 rintro ⟨j,L⟩ h8 ⟨hj,p0,y8,r1,r2,r4,t3,hL⟩
 dsimp only at hj t3 hL ⊢
 unfold gcells at r1
 have p0_z:=p0.size
 have r1_l:=r1.lt
 have r2_l:=r2.lt
 have r4_l:=r4.lt
 obtain ⟨l1,l2⟩:=hlist h8 p0
 by_cases hjl:i+1+j<l.length
 rotate_left
 ·have hnil:l.drop (i+1+j)=[]:=List.drop_eq_nil_of_le (by omega)
  rw [hnil] at hL
  have e3:¬ (((i+1+j:Nat):Int)<(l.length:Int)):=by omega
  simp -dsimp only [go_sem,e1,hoe,l1,e3,r1.cell]
  simp -dsimp (disch:=omega) only [wrap64]
  exact ⟨(i+1,L),by dsimp only;omega,by simp [Le,find],by dsimp only;omega,p0,by omega,r1,r2,r4,t3,hL⟩
 have e3:(((i+1+j:Nat):Int)<(l.length:Int)):=by omega
 have hq2:l[i+1+j]?=some l[i+1+j]:=by simp [hjl]
 have hdj:l.drop (i+1+j)=l[i+1+j] :: l.drop (i+1+j+1):=List.drop_eq_getElem_cons (by omega)
 rw [hdj,List.map_cons] at hL
 obtain ⟨y,hy,hyn⟩:=hnat hq2
 rw [hy] at hq2 hL
 have k1:=hlc2 h8 p0 i _ hq
 have k2:=hlc2 h8 p0 _ _ hq2
 simp -dsimp only [go_sem,e1,hoe,l1,e3,hle,e2,k1,r1.cell,r4.cell]
 refine Chk_intro (by omega) (t3.idx (p:=x) (by omega) fun b9 o9 c9=>?_)
 simp -dsimp only [go_sem,e1,hoe,l1,e3,hle,k2,c9,r1.cell]
 refine Chk_intro (by omega) ?_
 simp -dsimp only [go_sem]
 refine Chk_intro (t3.wr (by omega) (by omega)) fun h10 s10=>?_
 have s10_z:=s10.size
 have w_row:=t3.row x (by omega)
 have t_new:=t3.set (p:=x) (q:=y) (by omega) s10
 have s10.fr_z:=s10.fr.size
 replace p0:=p0.F s10.fr
 replace r1:=r1.F s10.fr
 replace r2:=r2.F s10.fr
 replace r4:=r4.F s10.fr
 simp -dsimp only [go_sem]
 simp -dsimp (disch:=omega) only [wrap64]
 refine ⟨(j+1,L++[((x:Int),(y:Int))]),by dsimp only;omega,by simp [Le,find];omega,by dsimp only;omega,p0,by omega,r1,r2,r4,t_new.congr fun u v hu hv=>?_,?_⟩
 ·rw [← putM_nat hxn hyn];exact ofM_snoc u v
 ·rw [List.append_assoc];exact hL
theorem ref8_Of {h:Heap} {w:GV} {g:Gr} (t:GrAt h w g) (hn:g.n≤256) {lv:Value} {l:List (Int×Int)} (hl:Rd 2 h lv l.length (pairsV l)) (hb:l.length≤4611686018427387904) :
  Con Tryz.prog 81 #[.agg (gcells w g).toArray,lv] h fun v h'=>Fr 0 0 h h'∧RefAt h' h.size h'.size v g.n (ofM g.n l):=by
 refine con_q66 ?_
 have hcl:clampN (g.n:Int)=g.n:=by unfold clampN;omega
 have p0:Fr 0 0 h h:=.refl _ _ _
 have hen:g.evs.length=g.n:=rfl
 have be:=t.fits.e
 unfold gcells
 simp -dsimp only [go_sem]
 intro b1 h1 n1
 have n1_z:=n1.az
 replace p0:=p0.F n1.f0
 have r1:=n1.row
 simp -dsimp only [go_sem]
 intro b2 h2 n2
 have n2_z:=n2.az
 replace p0:=p0.F n2.f0
 replace r1:=r1.F n2.f0
 have r2:=n2.row
 simp -dsimp only [go_sem,evs_len,r1.cell]
 refine call_of (ref1_Of g.n _ l h2 (hl.fr p0) hb) ?_
 rintro v3 h3 ⟨f3,t3⟩
 rw [hcl] at t3
 obtain ⟨-,z,Z,rfl,t3⟩:=t3
 obtain ⟨za,zc,rfl⟩:=t3.own.is
 have t3_a:=t3.own.at_
 have f3_z:=f3.size
 replace p0:=p0.F f3
 replace r1:=r1.F f3
 replace r2:=r2.F f3
 simp -dsimp only [go_sem]
 refine Chk_intro (r2.W) fun h5 s5=>?_
 have s5_z:=s5.size
 replace p0:=p0.F s5.fr
 replace r1:=r1.F s5.fr
 replace t3:=t3.fr s5.fr (by omega)
 replace r2:=s5.row r2
 try simp only [cl_int,cl_bool,cl_slice,cl_ptr,putAt_one,zs0,zs1,ivec_set,brow_upd] at r2
 simp -dsimp only [go_sem,r2.cell]
 exact ⟨p0,hn,_,Z,rfl,t3.mono (by omega) (by omega)⟩
theorem ref8_Rf {h:Heap} {w:GV} {g:Gr} (t:GrAt h w g) (hn:g.n≤256) :
  Con Tryz.prog 35 #[.agg (gcells w g).toArray] h fun v h'=>Fr 0 0 h h'∧RefAt h' h.size h'.size v g.n (relM g 1):=by
 refine con_q68 ?_
 have p0:Fr 0 0 h h:=.refl _ _ _
 have bf:=t.fits.f
 unfold gcells
 simp -dsimp only [go_sem]
 intro b1 h1 n1
 have n1_z:=n1.az
 replace p0:=p0.F n1.f0
 have r1:=n1.row
 simp -dsimp only [go_sem]
 intro b2 h2 n2
 have n2_z:=n2.az
 replace p0:=p0.F n2.f0
 replace r1:=r1.F n2.f0
 have r2:=n2.row
 simp -dsimp only [go_sem,r1.cell]
 refine call_of (ref8_Of (t.fr p0) hn (t.f.fr p0) (by omega)) ?_
 rintro v3 h3 ⟨f3,t3⟩
 obtain ⟨-,z,Z,rfl,t3⟩:=t3
 obtain ⟨za,zc,rfl⟩:=t3.own.is
 have t3_a:=t3.own.at_
 have f3_z:=f3.size
 replace p0:=p0.F f3
 replace r1:=r1.F f3
 replace r2:=r2.F f3
 simp -dsimp only [go_sem]
 refine Chk_intro (r2.W) fun h5 s5=>?_
 have s5_z:=s5.size
 replace p0:=p0.F s5.fr
 replace r1:=r1.F s5.fr
 replace t3:=t3.fr s5.fr (by omega)
 replace r2:=s5.row r2
 try simp only [cl_int,cl_bool,cl_slice,cl_ptr,putAt_one,zs0,zs1,ivec_set,brow_upd] at r2
 simp -dsimp only [go_sem,r2.cell]
 exact ⟨p0,hn,_,Z,rfl,t3.mono (by omega) (by omega)⟩
theorem ref8_Rmw {h:Heap} {w:GV} {g:Gr} (t:GrAt h w g) (hn:g.n≤256) :
  Con Tryz.prog 38 #[.agg (gcells w g).toArray] h fun v h'=>Fr 0 0 h h'∧RefAt h' h.size h'.size v g.n (relM g 3):=by
 refine con_q69 ?_
 have p0:Fr 0 0 h h:=.refl _ _ _
 have bf:=t.fits.r
 unfold gcells
 simp -dsimp only [go_sem]
 intro b1 h1 n1
 have n1_z:=n1.az
 replace p0:=p0.F n1.f0
 have r1:=n1.row
 simp -dsimp only [go_sem]
 intro b2 h2 n2
 have n2_z:=n2.az
 replace p0:=p0.F n2.f0
 replace r1:=r1.F n2.f0
 have r2:=n2.row
 simp -dsimp only [go_sem,r1.cell]
 refine call_of (ref8_Of (t.fr p0) hn (t.r.fr p0) (by omega)) ?_
 rintro v3 h3 ⟨f3,t3⟩
 obtain ⟨-,z,Z,rfl,t3⟩:=t3
 obtain ⟨za,zc,rfl⟩:=t3.own.is
 have t3_a:=t3.own.at_
 have f3_z:=f3.size
 replace p0:=p0.F f3
 replace r1:=r1.F f3
 replace r2:=r2.F f3
 simp -dsimp only [go_sem]
 refine Chk_intro (r2.W) fun h5 s5=>?_
 have s5_z:=s5.size
 replace p0:=p0.F s5.fr
 replace r1:=r1.F s5.fr
 replace t3:=t3.fr s5.fr (by omega)
 replace r2:=s5.row r2
 try simp only [cl_int,cl_bool,cl_slice,cl_ptr,putAt_one,zs0,zs1,ivec_set,brow_upd] at r2
 simp -dsimp only [go_sem,r2.cell]
 exact ⟨p0,hn,_,Z,rfl,t3.mono (by omega) (by omega)⟩
set_option maxHeartbeats 1000000 in
theorem ref8_Fr {h:Heap} {w:GV} {g:Gr} (t:GrAt h w g) (hg:g.good=true) :
  Con Tryz.prog 37 #[.agg (gcells w g).toArray] h fun v h'=>Fr 0 0 h h'∧RefAt h' h.size h'.size v g.n (relM g 9):=by
 refine con_q64 ?_
 have hn:=(good_n hg).1
 have p0:Fr 0 0 h h:=.refl _ _ _
 unfold gcells
 simp -dsimp only [go_sem]
 intro b1 h1 n1
 have n1_z:=n1.az
 replace p0:=p0.F n1.f0
 have r1:=n1.row
 simp -dsimp only [go_sem]
 intro b2 h2 n2
 have n2_z:=n2.az
 replace p0:=p0.F n2.f0
 replace r1:=r1.F n2.f0
 have r2:=n2.row
 simp -dsimp only [go_sem,r1.cell]
 refine call_of (ref8_Rf (t.fr p0) hn) ?_
 rintro v3 h3 ⟨f3,t3⟩
 have f3_z:=f3.size
 replace p0:=p0.F f3
 replace r1:=r1.F f3
 replace r2:=r2.F f3
 simp -dsimp only [go_sem,r1.cell]
 refine call_of (ref1_Inverse t3) ?_
 rintro v4 h4 ⟨f4,t4⟩
 have f4_z:=f4.size
 replace p0:=p0.F f4
 replace r1:=r1.F f4
 replace r2:=r2.F f4
 simp -dsimp only [go_sem,r1.cell]
 refine call_of (ref8_Co (t.fr p0) hg) ?_
 rintro v5 h5 ⟨f5,t5⟩
 have f5_z:=f5.size
 replace p0:=p0.F f5
 replace r1:=r1.F f5
 replace r2:=r2.F f5
 have t4_z:=f4.size
 replace t4:=t4.fr f5 (by omega)
 simp -dsimp only [go_sem,r1.cell]
 refine call_of (ref1_Comp t4 t5) ?_
 rintro v6 h6 ⟨f6,t6⟩
 rw [Nat.max_self] at t6
 obtain ⟨-,z,Z,rfl,t6⟩:=t6
 obtain ⟨za,zc,rfl⟩:=t6.own.is
 have t6_a:=t6.own.at_
 have f6_z:=f6.size
 replace p0:=p0.F f6
 replace r1:=r1.F f6
 replace r2:=r2.F f6
 simp -dsimp only [go_sem,r1.cell]
 refine Chk_intro (r2.W) fun h7 s7=>?_
 have s7_z:=s7.size
 replace p0:=p0.F s7.fr
 replace r1:=r1.F s7.fr
 replace t6:=t6.fr s7.fr (by omega)
 replace r2:=s7.row r2
 try simp only [cl_int,cl_bool,cl_slice,cl_ptr,putAt_one,zs0,zs1,ivec_set,brow_upd] at r2
 simp -dsimp only [go_sem,r2.cell]
 exact ⟨p0,hn,_,Z,rfl,t6.mono (by omega) (by omega)⟩
end Go.Proofs.Tst
/-
  GraphLaws.
-/
namespace Go.Proofs.Tst
open Go Go.Vc
theorem bools_at {h:Heap} {a:Option Addr} {n c:Nat} {l:List Bool} (w:Rd 1 h (.slice a n c) n (boolsV l)) (hn:0<n):∃ b o,a=some ⟨b,o,none⟩∧∀ h',Fr 0 0 h h'→∀ i x,l[i]?=some x→hcell h' b (o+i)=some (.bool x):=by
 obtain ⟨hl,a',c',k1,k2⟩:=w
 cases k1
 rcases k2 with k2 | ⟨b,o,k3,k4⟩
 ·omega
 ·exact ⟨b,o,k3,fun h' f i x hx=>f.keep (k4 i _ (boolsV_get hx)) (by omega)⟩
theorem kindsV_get {g:Gr} {k:Int} {i:Nat} (hi:i<g.n):(kindsV g k g.n)[i]?=some ((g.ev i).kind==k):=by
 unfold kindsV
 rw [List.getElem?_map,List.getElem?_take_of_lt hi,Gr.ev_get hi];rfl
end Go.Proofs.Tst
/-
  whole: are facts the document's?
-/
namespace Go.Proofs.Tst
open Go Go.Vc
def tV (v:Value):Tell:=tell1 fun u _ _ _=>u=v
theorem stV (v:Value):Stab (tV v):=Stab.one fun _ _ _ _ _ _ t=>t
end Go.Proofs.Tst
/-
  GraphDerives.
-/
namespace Go.Proofs.Tst
open Go Go.Vc
theorem FactsAt.fr {h h':Heap} {lo l r:Nat} {p:Nat→Value} {rd wr fe:Value} {g:Gr} (F:FactsAt h lo p rd wr fe g) (f:Fr l r h h') (hd:r≤lo):FactsAt h' lo p rd wr fe g:=by
 obtain ⟨A,B,D,dlo,dap⟩:=F.rel
 have a1:=F.hrd.at_
 have a2:=F.hwr.at_
 have a3:=F.hfe.at_
 have fz:=f.size
 exact ⟨F.n,⟨A,B,D.fr f (fun k hk=>by have:=dlo k hk;omega),fun k hk=>by have:=dlo k hk;omega,dap⟩,F.hrd.fr f (by omega),F.hwr.fr f (by omega),F.hfe.fr f (by omega),F.off⟩
end Go.Proofs.Tst
/-
  Events changed in place.
-/
namespace Go.Proofs.Tst
open Go Go.Vc
def setMode (E:List Ev) (i:Nat) (m:Int):List Ev:=E.set i { E.getD i default with mode:=m }
@[simp] theorem length_setMode {E:List Ev} {i:Nat} {m:Int}:(setMode E i m).length=E.length:=by simp [setMode]
theorem evsV_setMode:∀ {E:List Ev} {i:Nat} {m:Int},i<E.length→(evsV E).set (i * 5+4) (.int .i64 m)=evsV (setMode E i m)
 | [],i,_,h=>by simp at h
 | e :: E,0,m,_=>rfl
 | e :: E,i+1,m,h=>by
  have ih:=evsV_setMode (E:=E) (i:=i) (m:=m) (by simpa using h)
  have h1:setMode (e :: E) (i+1) m=e :: setMode E i m:=by simp [setMode]
  have h2:e.cells.length=5:=rfl
  rw [h1,evsV_cons,evsV_cons,← ih,List.set_append_right _ _ (by omega),h2]
  congr 2;omega
theorem putAt_right {a:List Value}:∀ (ws r:List Value) (o:Nat),putAt (a++r) (a.length+o) ws=a++putAt r o ws
 | [],_,_=>rfl
 | v :: ws,r,o=>by
  show putAt ((a++r).set (a.length+o) v) (a.length+o+1) ws=a++putAt (r.set o v) (o+1) ws
  rw [List.set_append_right _ _ (by omega),Nat.add_sub_cancel_left,Nat.add_assoc]
  exact putAt_right ws _ _
theorem putAt_left {r:List Value}:∀ (ws a:List Value) (o:Nat),o+ws.length≤a.length→putAt (a++r) o ws=putAt a o ws++r
 | [],_,_,_=>rfl
 | v :: ws,a,o,h=>by
  show putAt ((a++r).set o v) (o+1) ws=putAt (a.set o v) (o+1) ws++r
  simp at h
  rw [List.set_append_left _ _ (by omega)]
  exact putAt_left ws _ _ (by simp;omega)
theorem evsV_put:∀ {E:List Ev} {i:Nat} {e:Ev},i<E.length→putAt (evsV E) (i * 5) e.cells=evsV (E.set i e)
 | [],i,_,h=>by simp at h
 | x :: E,0,e,_=>rfl
 | x :: E,i+1,e,h=>by
  have ih:=evsV_put (E:=E) (i:=i) (e:=e) (by simpa using h)
  have h2:(i+1) * 5=x.cells.length+i * 5:=by show _=5 + _;omega
  rw [List.set_cons_succ,evsV_cons,evsV_cons,← ih,h2]
  exact putAt_right _ _ _
theorem holder_ev {h:Heap} {b n c lo:Nat} {E:List Ev} (w:Holder 5 h (.slice (some ⟨b,0,none⟩) n c) n (evsV E) lo) {i:Nat} (hi:i<n) :
  Wr h b (i * 5+4) 1∧Wr h b (i * 5) 5∧(∀ h' m,Sto h h' b (i * 5+4) [.int .i64 m]→Holder 5 h' (.slice (some ⟨b,0,none⟩) n c) n (evsV (setMode E i m)) lo)∧∀ h' e,Sto h h' b (i * 5) e.cells→Holder 5 h' (.slice (some ⟨b,0,none⟩) n c) n (evsV (E.set i e)) lo:=by
 have hl:=w.1
 rw [length_evsV] at hl
 have hE:i<E.length:=by omega
 obtain ⟨b',c',rest,h1,h2,h3,h4⟩:=w.blk (by omega)
 cases h1
 refine ⟨h2.wr (by simp;omega),h2.wr (by simp;omega),fun h' m s=>⟨by simp;omega,.inr ⟨b,c,rest,rfl,?_,h3,h4⟩⟩,fun h' e s=>⟨by simp;omega,.inr ⟨b,c,rest,rfl,?_,h3,h4⟩⟩⟩
 ·have:=s.row h2
  rw [putAt_one,List.set_append_left _ _ (by simp;omega),evsV_setMode hE] at this
  exact this
 ·have:=s.row h2
  rw [putAt_left _ _ _ (by simp [Ev.cells];omega),evsV_put hE] at this
  exact this
section
variable {h h' : Heap} {q : GV} {g : Gr} {lo : Nat}
theorem GrOwn.evs' {E':List Ev} {b:Nat} (w:GrOwn h q g lo) (f:Fr b (b+1) h h') (hb:q.e=some ⟨b,0,none⟩) (hl:E'.length=g.evs.length) (he:Holder 5 h' (.slice (some ⟨b,0,none⟩) g.evs.length q.ec) g.evs.length (evsV E') lo) :
  GrOwn h' q { g with evs:=E' } lo:=by
 obtain ⟨us,o1,o2,o3⟩:=w.o
 have lb:bl (.slice q.e g.evs.length q.ec)=b∧bh (.slice q.e g.evs.length q.ec)=b+1:=by rw [hb];exact ⟨rfl,rfl⟩
 have key:∀ x,Off (.slice q.e g.evs.length q.ec) x→bh x≤b∨b+1≤bl x∨b+1≤b:=fun x hx=>by
  unfold Off at hx
  have:=bh_bl x
  omega
 have ha:Away b (b+1) (.slice q.o g.co.length q.oc) us:=fun x hx=>key x (o3 x hx _ (by simp)).symm
 have hw:=w.off
 refine ⟨?_,w.f.fr f (key _ (hw _ (by simp))),⟨us,o1.fr f ha,o2,?_⟩,w.r.fr f (key _ (hw _ (by simp))),w.a.fr f (key _ (hw _ (by simp))),w.d.fr f (key _ (hw _ (by simp))),w.c.fr f (key _ (hw _ (by simp))),?_,⟨?_,w.fits.f,w.fits.o,w.fits.r,w.fits.a,w.fits.d,w.fits.c,w.fits.l⟩⟩
 ·dsimp only;rw [hl,hb];exact he
 ·dsimp only;rw [hl];exact o3
 ·dsimp only;rw [hl];exact hw
 ·dsimp only;rw [hl];exact w.fits.e
theorem GrOwn.fr {l r:Nat} (w:GrOwn h q g lo) (f:Fr l r h h') (hd:r≤lo∨h.size≤l∨r≤l):GrOwn h' q g lo:=by
 obtain ⟨us,o1,o2,o3⟩:=w.o
 have k:∀ {s n:Nat} {v:Value} {xs:List Value},Holder s h v n xs lo→Holder s h' v n xs lo:=fun o=>o.fr f (by have:=o.at_;have:=o.top;omega)
 refine ⟨k w.e,k w.f,⟨us,o1.fr f ?_,o2,o3⟩,k w.r,k w.a,k w.d,k w.c,w.off,w.fits⟩
 rcases hd with hd | hd | hd
 ·exact o1.below hd
 ·exact o1.above hd
 ·exact Away.none hd
theorem GrOwn.lower {lo':Nat} (w:GrOwn h q g lo) (hl:lo'≤lo):GrOwn h q g lo':=by
 obtain ⟨us,o1,o2⟩:=w.o
 exact ⟨w.e.lower hl,w.f.lower hl,⟨us,o1.lower hl,o2⟩,w.r.lower hl,w.a.lower hl,w.d.lower hl,w.c.lower hl,w.off,w.fits⟩
theorem GrOwn.ev (w:GrOwn h q g lo) (hn:0<g.n):∃ b,q.e=some ⟨b,0,none⟩∧lo≤b∧b<h.size∧(∀ i,i<g.n→Wr h b (i * 5+4) 1∧Wr h b (i * 5) 5) ∧
  (∀ h' i m,i<g.n→Sto h h' b (i * 5+4) [.int .i64 m]→GrOwn h' q { g with evs:=setMode g.evs i m } lo)∧∀ h' i e,i<g.n→Sto h h' b (i * 5) e.cells→GrOwn h' q { g with evs:=g.evs.set i e } lo:=by
 have we:=w.e
 obtain ⟨b,c,rest,h1,h2,h3,h4⟩:=we.blk hn
 have hq:q.e=some ⟨b,0,none⟩:=by injection h1
 rw [hq] at we
 exact ⟨b,hq,h4,h2.lt,fun i hi=>⟨(holder_ev we hi).1,(holder_ev we hi).2.1⟩,fun h' i m hi s=>w.evs' s.fr hq (by simp) ((holder_ev we hi).2.2.1 _ _ s),fun h' i e hi s=>w.evs' s.fr hq (by simp) ((holder_ev we hi).2.2.2 _ _ s)⟩
end
end Go.Proofs.Tst
/-
  Relations in memory, some at once; chains of steps.
-/
namespace Go.Proofs.Tst
open Go Go.Vc
abbrev Mx:=Nat→Nat→Bool
def PA (h:Heap) (v:Value) (n:Nat) (M:Mx):Prop:=∃ lo hi,ProgAt h lo hi v n M
def PN (h:Heap) (lo:Nat) (v:Value) (n:Nat) (M:Mx):Prop:=∃ a b,ProgAt h a b v n M∧lo≤a∧a≤b∧b≤h.size
section
variable {h h' : Heap} {v : Value} {n lo : Nat} {M N : Mx}
theorem PA.fr (t:PA h v n M) (f:Fr 0 0 h h'):PA h' v n M:=by obtain ⟨a,b,t⟩:=t;exact ⟨a,b,t.fr f (by omega)⟩
theorem PA.ptr (t:PA h v n M):∃ b,v=.pointer (some ⟨b,0,none⟩):=by obtain ⟨a,b,t⟩:=t;exact progPtr t
theorem PA.oc (t:PA h v n M):v.oneCell'=true:=by obtain ⟨b,rfl⟩:=t.ptr;rfl
theorem PA.cl (t:PA h v n M):Vc.cl v=[v]:=by obtain ⟨b,rfl⟩:=t.ptr;rfl
theorem PA.congr (t:PA h v n M) (e:∀ i j,i<n→j<n→M i j=N i j):PA h v n N:=by obtain ⟨a,b,t⟩:=t;exact ⟨a,b,t.congr e⟩
theorem PA.le (t:PA h v n M):n≤256:=by obtain ⟨a,b,t⟩:=t;exact t.1
theorem PN.pa (t:PN h lo v n M):PA h v n M:=by obtain ⟨a,b,t,-⟩:=t;exact ⟨a,b,t⟩
theorem PN.of (t:ProgAt h lo h.size v n M):PN h lo v n M:=⟨_,_,t,Nat.le_refl _,by obtain ⟨_,_,_,_,_,_,w⟩:=t;have:=w.at_;omega,Nat.le_refl _⟩
theorem PN.congr (t:PN h lo v n M) (e:∀ i j,i<n→j<n→M i j=N i j):PN h lo v n N:=by obtain ⟨a,b,t,k⟩:=t;exact ⟨a,b,t.congr e,k⟩
theorem PN.lower {lo':Nat} (t:PN h lo v n M) (hl:lo'≤lo):PN h lo' v n M:=by obtain ⟨a,b,t,k⟩:=t;exact ⟨a,b,t,by omega,k.2⟩
theorem PN.fr {l r:Nat} (t:PN h lo v n M) (f:Fr l r h h') (hd:r≤lo∨h.size≤l∨r≤l):PN h' lo v n M:=by
 obtain ⟨a,b,t,k⟩:=t
 have:=f.size
 exact ⟨a,b,t.fr f (by omega),by omega⟩
end
def UA (h:Heap) (lv:Value) (n:Nat) (M:Mx):Prop:=∃ L:List (Value×Nat×Mx),Rd 1 h lv L.length (L.map (·.1))∧RelsAt h L∧L.length≤65536∧maxN L=n∧∀ i j,i<n→j<n→anyM L i j=M i j
theorem UA.fr {h h':Heap} {v:Value} {n:Nat} {M:Mx} (t:UA h v n M) (f:Fr 0 0 h h'):UA h' v n M:=by
 obtain ⟨L,h1,h2,h3⟩:=t;exact ⟨L,h1.fr f,h2.fr f,h3⟩
theorem maxN_same {n:Nat}:∀ {l:List (Value×Mx)},l≠[]→maxN (l.map fun x=>(x.1,n,x.2))=n:=by
 have key:∀ (l:List (Value×Mx)) (m:Nat),m≤n→(l.map fun x=>(x.1,n,x.2)).foldl (fun m (x:Value×Nat×Mx)=>max m x.2.1) m=if l=[] then m else n:=by
  intro l
  induction l with
  | nil=>intro m _;rfl
  | cons x l ih =>
   intro m hm
   simp only [List.map_cons,List.foldl_cons]
   rw [ih _ (by omega),if_neg (by simp:¬ x :: l=[])]
   split
   ·omega
   ·rfl
 intro l hl
 unfold maxN
 rw [key l 0 (Nat.zero_le _),if_neg hl]
theorem UA.mk {h:Heap} {b n:Nat} {M:Mx} (l:List (Value×Mx)) (r:Rw h b (l.map (·.1))) (hp:∀ x∈l,PA h x.1 n x.2) (hne:l≠[]) (hl:l.length≤65536) (hM:∀ i j,i<n→j<n→(l.any fun x=>x.2 i j)=M i j) :
  UA h (.slice (some ⟨b,0,none⟩) l.length l.length) n M:=by
 refine ⟨l.map fun x=>(x.1,n,x.2),?_,fun x hx=>?_,by rw [List.length_map];exact hl,maxN_same hne,fun i j hi hj=>?_⟩
 ·rw [List.length_map,List.map_map]
  exact Rw.rd (s:=1) r (by simp)
 ·obtain ⟨y,hy,rfl⟩:=List.mem_map.1 hx
  exact hp y hy
 ·rw [← hM i j hi hj]
  unfold anyM
  rw [List.any_map]
  congr 1
  funext x
  exact inN_in hi hj
theorem rel_UnionU {lv:Value} {n:Nat} {M:Mx} {h:Heap} (u:UA h lv n M) :
  Con Tryz.prog 58 #[lv] h fun v h'=>Fr 0 0 h h'∧ProgAt h' h.size h'.size v n M:=by
 obtain ⟨L,h1,h2,h3,h4,h5⟩:=u
 exact (rel_Union h1 h2 h3).mono fun v h' ⟨f,t⟩=>⟨f,by rw [h4] at t;exact t.congr h5⟩
def chM (n:Nat) (A:Mx) (l:List Mx):Mx:=l.foldl (fun X Y=>compM n X n Y) A
def CA (h:Heap) (lv:Value) (n:Nat) (l:List Mx):Prop:=∃ ws:List Value,ws.length=l.length∧Rd 1 h lv ws.length ws∧ws.length≤65536∧∀ (i:Nat) (w:Value) (M:Mx),ws[i]?=some w→l[i]?=some M→PA h w n M
theorem CA.fr {h h':Heap} {v:Value} {n:Nat} {l:List Mx} (t:CA h v n l) (f:Fr 0 0 h h'):CA h' v n l:=by
 obtain ⟨L,h1,h2,h3,h4⟩:=t;exact ⟨L,h1,h2.fr f,h3,fun i w M a b=>(h4 i w M a b).fr f⟩
theorem CA.mk {h:Heap} {b n:Nat} (l:List (Value×Mx)) (r:Rw h b (l.map (·.1))) (hp:∀ x∈l,PA h x.1 n x.2) (hl:l.length≤65536):CA h (.slice (some ⟨b,0,none⟩) l.length l.length) n (l.map (·.2)):=by
 refine ⟨l.map (·.1),by simp,?_,by simpa using hl,fun i w M h1 h2=>?_⟩
 ·rw [List.length_map];exact Rw.rd (s:=1) r (by simp)
 ·rw [List.getElem?_map,Option.map_eq_some_iff] at h1 h2
  obtain ⟨x,hx,rfl⟩:=h1
  obtain ⟨y,hy,rfl⟩:=h2
  rw [hx] at hy;cases hy
  exact hp x (List.mem_of_getElem? hx)
def orM (l:List Mx):Mx:=fun i j=>l.any fun X=>X i j
theorem UA.mk' {h:Heap} {b n:Nat} (l:List (Value×Mx)) (r:Rw h b (l.map (·.1))) (hp:∀ x∈l,PA h x.1 n x.2) (hne:l≠[]) (hl:l.length≤65536):UA h (.slice (some ⟨b,0,none⟩) l.length l.length) n (orM (l.map (·.2))):=
 UA.mk l r hp hne hl fun i j _ _=>by unfold orM;rw [List.any_map];rfl
theorem pa_nil {h:Heap} {n:Nat}:∀ x∈([]:List (Value×Mx)),PA h x.1 n x.2:=fun x hx=>by cases hx
theorem pa_cons {h:Heap} {n:Nat} {v:Value} {M:Mx} {l:List (Value×Mx)} (a:PA h v n M) (t:∀ x∈l,PA h x.1 n x.2):∀ x∈(v,M) :: l,PA h x.1 n x.2:=fun x hx=>by
 rcases List.mem_cons.1 hx with rfl | hx
 ·exact a
 ·exact t x hx
def tC (n:Nat) (l:List Mx):Tell:=tell1 fun v _ _ h=>CA h v n l
def tU (n:Nat) (M:Mx):Tell:=tell1 fun v _ _ h=>UA h v n M
def tN (L n:Nat) (M:Mx):Tell:=tell1 fun v _ _ h=>PN h L v n M
theorem stC (n:Nat) (l:List Mx):Stab (tC n l):=Stab.one fun _ _ _ _ _ f t=>t.fr f
theorem stU (n:Nat) (M:Mx):Stab (tU n M):=Stab.one fun _ _ _ _ _ f t=>t.fr f
theorem stN (L n:Nat) (M:Mx):Stab (tN L n M):=Stab.one fun _ _ _ _ _ f t=>t.fr f (.inr (.inr (Nat.le_refl _)))
theorem tC_eq (n:Nat) (l:List Mx) (u:Out) (h:Heap):tC n l [u] h=CA h u.1 n l:=(rfl)
theorem tU_eq (n:Nat) (M:Mx) (u:Out) (h:Heap):tU n M [u] h=UA h u.1 n M:=(rfl)
theorem tN_eq (L n:Nat) (M:Mx) (u:Out) (h:Heap):tN L n M [u] h=PN h L u.1 n M:=(rfl)
def dM (f:Nat→Bool):Mx:=fun i j=>i==j&&f i
theorem exB_congr {n:Nat} {f g:Nat→Bool} (h:∀ k,k<n→f k=g k):exB n f=exB n g:=by
 unfold exB
 rw [Bool.eq_iff_iff,List.any_eq_true,List.any_eq_true]
 exact ⟨fun ⟨k,hk,e⟩=>⟨k,hk,by rw [← h k (List.mem_range.1 hk)];exact e⟩,fun ⟨k,hk,e⟩=>⟨k,hk,by rw [h k (List.mem_range.1 hk)];exact e⟩⟩
section
variable {n i j : Nat} {A B : Mx} {f : Nat → Bool}
theorem interM_in (hi:i<n) (hj:j<n):interM n A n B i j=(A i j&&B i j):=by unfold interM;rw [inN_in hi hj,inN_in hi hj]
theorem minusM_in (hi:i<n) (hj:j<n):minusM n A n B i j=(A i j&&!B i j):=by unfold minusM;rw [inN_in hi hj,inN_in hi hj]
theorem unionM_in (hi:i<n) (hj:j<n):unionM n A n B i j=(A i j||B i j):=by unfold unionM;rw [inN_in hi hj,inN_in hi hj]
theorem compM_in (hi:i<n) (hj:j<n):compM n A n B i j=exB n fun k=>A i k&&B k j:=by
 show exB n (fun k=>inN n A i k&&inN n B k j)=_
 exact exB_congr fun k hk=>by rw [inN_in hi hk,inN_in hk hj]
theorem exB_one (hi:i<n) {g:Nat→Bool}:(exB n fun k=>i==k&&g k)=g i:=by
 rw [Bool.eq_iff_iff,exB_true]
 constructor
 ·rintro ⟨k,hk,h⟩
  simp only [Bool.and_eq_true,beq_iff_eq] at h
  rw [h.1];exact h.2
 ·intro h;exact ⟨i,hi,by simp [h]⟩
theorem compM_dR (hi:i<n) (hj:j<n):compM n A n (dM f) i j=(A i j&&f j):=by
 rw [compM_in hi hj]
 have:(exB n fun k=>A i k&&dM f k j)=exB n fun k=>j==k&&(A i k&&f k):=exB_congr fun k _=>by
  unfold dM
  have:(k==j)=(j==k):=by rw [Bool.eq_iff_iff,beq_iff_eq,beq_iff_eq];exact eq_comm
  rw [this]
  cases A i k <;> cases (j==k) <;> cases f k <;> rfl
 rw [this,exB_one hj]
theorem compM_dL (hi:i<n) (hj:j<n):compM n (dM f) n A i j=(f i&&A i j):=by
 rw [compM_in hi hj]
 have:(exB n fun k=>dM f i k&&A k j)=exB n fun k=>i==k&&(f i&&A k j):=exB_congr fun k _=>by
  unfold dM
  cases A k j <;> cases (i==k) <;> cases f i <;> rfl
 rw [this,exB_one hi]
end
theorem rc11_chain {v0 lv:Value} {n:Nat} {A:Mx} {l:List Mx} {h:Heap} (h0:PA h v0 n A) (hl:CA h lv n l) (ht:TabAt h) :
  Con Tryz.prog 59 #[v0,lv] h fun v h'=>Fr 0 0 h h'∧PA h' v n (chM n A l)∧(l≠[]→PN h' h.size v n (chM n A l)):=by
 refine con_q31 ?_
 obtain ⟨ws',hwl,hr,hlen,hp⟩:=hl
 obtain ⟨la,lc,rfl⟩:=hr.is
 have p0:Fr 0 0 h h:=.refl _ _ _
 simp -dsimp only [go_sem]
 refine loop_intro (fun s:Nat×Value=>[(0,s.2),(7,.slice la ws'.length lc),(8,.int .i64 ws'.length),(9,.int .i64 s.1)])
  (fun s h'=>s.1≤ws'.length∧Fr 0 0 h h'∧PA h' s.2 n (chM n A (l.take s.1))∧(0<s.1→PN h' h.size s.2 n (chM n A (l.take s.1)))) (fun s=>ws'.length - s.1) (0,v0) ?_ ?_ ?_
 ·simp [Le,find]
 ·exact ⟨by omega,p0,h0,by simp⟩
 clear p0
 rintro ⟨i,v⟩ h1 ⟨hi,p0,t,tn⟩
 dsimp only at hi t tn ⊢
 have p0_z:=p0.size
 by_cases hlt:i<ws'.length
 ·have e1:((i:Int)<(ws'.length:Int)):=by omega
  have hw:ws'[i]?=some ws'[i]:=List.getElem?_eq_getElem hlt
  have hM:l[i]?=some (l[i]'(by omega)):=List.getElem?_eq_getElem (by omega)
  have tw:=(hp i _ _ hw hM).fr p0
  generalize ws'[i]=w at hw tw
  have hs:l.take (i+1)=l.take i++[l[i]'(by omega)]:=by rw [List.take_add_one,hM];rfl
  generalize l[i]'(by omega)=B at hM tw hs
  obtain ⟨hl1,a',c',k1,k2⟩:=hr
  cases k1
  rcases k2 with k2 | ⟨b,o,rfl,hc⟩
  ·omega
  have hc:=p0.keep (hc i _ hw) (by omega)
  simp -dsimp only [go_sem,e1,hc]
  obtain ⟨_,_,t1⟩:=t
  obtain ⟨_,_,t2⟩:=tw
  refine call_of (rel_Comp t1 t2 (ht.fr p0 (.inr rfl))) ?_
  rintro v2 h2 ⟨f2,t3⟩
  rw [Nat.max_self] at t3
  have q2:=f2.size
  have p0_z:=p0.size
  have f2_z:=f2.size
  replace p0:=p0.F f2
  have hch:chM n A (l.take (i+1))=compM n (chM n A (l.take i)) n B:=by rw [hs];unfold chM;rw [List.foldl_append];rfl
  simp -dsimp only [go_sem]
  simp -dsimp (disch:=omega) only [wrap64]
  refine ⟨(i+1,v2),by dsimp only;omega,by simp [Le,find],by dsimp only;omega,p0,?_,fun _=>?_⟩
  ·dsimp only;rw [hch];exact ⟨_,_,t3⟩
  ·dsimp only;rw [hch];exact (PN.of t3).lower (by omega)
 ·obtain rfl:i=ws'.length:=by omega
  simp -dsimp only [go_sem,Int.lt_irrefl]
  rw [hwl,List.take_length] at t tn
  refine ⟨p0,t,fun hne=>tn ?_⟩
  exact List.length_pos_iff.2 hne
end Go.Proofs.Tst
/-
  The words' memory model in memory: its parts.
-/
namespace Go.Proofs.Tst
open Go Go.Vc
def mcells (q:GV) (g:Gr) (c:Nat→Nat) (rd wr fe:Value) (d:Nat→Nat):List Value:=[.int .i64 g.cells,.slice q.e g.evs.length q.ec,.slice q.f g.rf.length q.fc,.slice q.o g.co.length q.oc,.slice q.r g.rmw.length q.rc,.slice q.a g.addr.length q.ac,.slice q.d g.data.length q.dc,.slice q.c g.ctrl.length q.cc,
 .pointer (some ⟨c 0,0,none⟩),.pointer (some ⟨c 1,0,none⟩),.pointer (some ⟨c 2,0,none⟩),.pointer (some ⟨c 9,0,none⟩),.pointer (some ⟨c 3,0,none⟩),.pointer (some ⟨c 4,0,none⟩),.pointer (some ⟨c 5,0,none⟩),.pointer (some ⟨c 6,0,none⟩),.pointer (some ⟨c 7,0,none⟩),.pointer (some ⟨c 8,0,none⟩),rd,wr,fe,
 .pointer (some ⟨d 0,0,none⟩),.pointer (some ⟨d 1,0,none⟩),.pointer (some ⟨d 2,0,none⟩),.pointer (some ⟨d 3,0,none⟩),.pointer (some ⟨d 4,0,none⟩),.pointer (some ⟨d 5,0,none⟩)]
def armM (g:Gr):Nat→Mx
 | 0=>rfeM g
 | 1=>rfiM g
 | 2=>coeM g
 | 3=>coiM g
 | 4=>freM g
 | _=>dM (acqB g)
structure Md (h:Heap) (mb:Nat) (q:GV) (g:Gr) (c:Nat→Nat) (rd wr fe:Value) (d:Nat→Nat):Prop where
 row:Rw h mb (mcells q g c rd wr fe d)
 gr:GrAt h q g
 n:g.n≤256
 rel:∀ k,k<10→PA h (.pointer (some ⟨c k,0,none⟩)) g.n (relM g k)
 hm:∀ k,k<6→PA h (.pointer (some ⟨d k,0,none⟩)) g.n (armM g k)
 rd:Rd 1 h rd (kindsV g 1 g.n).length (boolsV (kindsV g 1 g.n))
 wr:Rd 1 h wr (kindsV g 2 g.n).length (boolsV (kindsV g 2 g.n))
 fe:Rd 1 h fe (kindsV g 3 g.n).length (boolsV (kindsV g 3 g.n))
theorem Md.fr {h h':Heap} {mb:Nat} {q:GV} {g:Gr} {c:Nat→Nat} {rd wr fe:Value} {d:Nat→Nat} (m:Md h mb q g c rd wr fe d) (f:Fr 0 0 h h'):Md h' mb q g c rd wr fe d:=
 ⟨m.row.fr f (by omega),m.gr.fr f,m.n,fun k hk=>(m.rel k hk).fr f,fun k hk=>(m.hm k hk).fr f,m.rd.fr f,m.wr.fr f,m.fe.fr f⟩
structure Mg (h:Heap) (mb:Nat) (q:GV) (g:Gr):Prop where
 row:∃ rest,Rw h mb (gcells q g++rest)
 gr:GrAt h q g
 n:g.n≤256
theorem Mg.fr {h h':Heap} {mb:Nat} {q:GV} {g:Gr} (m:Mg h mb q g) (f:Fr 0 0 h h'):Mg h' mb q g:=
 ⟨by obtain ⟨r,w⟩:=m.row;exact ⟨r,w.fr f (by omega)⟩,m.gr.fr f,m.n⟩
theorem kinds_len (g:Gr) (k:Int):(kindsV g k g.n).length=g.n:=by simp [kindsV];unfold Gr.n;omega
theorem atB_kinds {g:Gr} {k:Int} {i:Nat} (hi:i<g.n):atB (kindsV g k g.n) i=isK g k i:=atB_get (kindsV_get hi)
theorem atB_with {g:Gr} {x:Int} {i:Nat} (hi:i<g.n):atB (withB g [x]) i=isM g x i:=by
 refine atB_get ?_
 unfold withB isM
 rw [List.getElem?_map,Gr.ev_get hi]
 simp only [Option.map_some,Option.some.injEq]
 rw [Bool.eq_iff_iff];simp
section
variable {h : Heap} {mb : Nat} {q : GV} {g : Gr} {c : Nat → Nat} {rd wr fe : Value} {d : Nat → Nat}
end
end Go.Proofs.Tst
/-
  The words' memory model: aob, all relations, the model of a graph, Check.
-/
namespace Go.Proofs.Tst
open Go Go.Vc
section
variable {h : Heap} {mb : Nat} {q : GV} {g : Gr} {c : Nat → Nat} {rd wr fe : Value} {d : Nat → Nat}
end
end Go.Proofs.Tst
/-
  The words' memory model: all its relations.
-/
namespace Go.Proofs.Tst
open Go Go.Vc
section
variable {h : Heap} {mb : Nat} {q : GV} {g : Gr} {c : Nat → Nat} {rd wr fe : Value} {d : Nat → Nat}
end
end Go.Proofs.Tst
/-
  The words' memory model of a graph; Derive, Check.
-/
namespace Go.Proofs.Tst
open Go Go.Vc
theorem facts_ptr {p:Nat→Value} {h:Heap} {lo:Nat} {rd wr fe:Value} {g:Gr} (F:FactsAt h lo p rd wr fe g):∃ c:Nat→Nat,∀ k,k<10→p k=.pointer (some ⟨c k,0,none⟩):=by
 obtain ⟨A,B,D,-⟩:=F.rel
 exact ⟨fun k=>if hk:k<10 then (progPtr (D.at_ k hk)).choose else 0,fun k hk=>by dsimp only;rw [dif_pos hk];exact (progPtr (D.at_ k hk)).choose_spec⟩
theorem good_false {g:Gr} (h:(g.check false).1=0):g.good=true:=by unfold Gr.good;rw [h];simp
section
variable {h : Heap} {q : GV} {g : Gr}
end
end Go.Proofs.Tst
/-
  What the source model's chains make (plain).
-/
namespace Go.Proofs.Tst
open Go Go.Vc
def In (n:Nat) (M N:Mx):Prop:=∀ i j,i<n→j<n→M i j=N i j
theorem In.rfl' {n:Nat} {M:Mx}:In n M M:=fun _ _ _ _=>rfl
theorem plus_in {n:Nat} {M N:Mx} (e:In n M N):In n (plusM n M) (plusM n N):=fun i j hi hj=>by
 rw [Bool.eq_iff_iff]
 constructor
 ·exact fun h=>plus_least (N:=fun x y=>plusM n N x y=true) (fun i j hi hj hr=>plus_sub (by rw [← e i j hi hj];exact hr)) (fun _ _ _ _ hx _ h1 h2=>plus_trans hx h1 h2) hi hj h
 ·exact fun h=>plus_least (N:=fun x y=>plusM n M x y=true) (fun i j hi hj hr=>plus_sub (by rw [e i j hi hj];exact hr)) (fun _ _ _ _ hx _ h1 h2=>plus_trans hx h1 h2) hi hj h
theorem opt_in {n:Nat} {M N:Mx} (e:In n M N):In n (optM M) (optM N):=fun i j hi hj=>by unfold optM;rw [e i j hi hj]
theorem dM_in {n:Nat} {f g:Nat→Bool} (e:∀ i,i<n→f i=g i):In n (dM f) (dM g):=fun i j hi _=>by unfold dM;rw [e i hi]
theorem dM_true {f:Nat→Bool} {i j:Nat} (h:dM f i j=true):i=j∧f i=true:=by
 unfold dM at h;simpa using h
theorem chM_nil {n:Nat} {A:Mx}:chM n A []=A:=rfl
theorem chM_cons {n:Nat}:∀ (l:List Mx) (A B:Mx) {i j:Nat},i<n→j<n→chM n A (B :: l) i j=exB n fun a=>A i a&&chM n B l a j
 | [],A,B,i,j,hi,hj=>compM_in hi hj
 | C :: l,A,B,i,j,hi,hj=>by
  show chM n (compM n A n B) (C :: l) i j=_
  rw [chM_cons l _ C hi hj,Bool.eq_iff_iff,exB_true,exB_true]
  constructor
  ·rintro ⟨c,hc,h⟩
   rw [compM_in hi hc,Bool.and_eq_true,exB_true] at h
   obtain ⟨⟨a,ha,h1⟩,h2⟩:=h
   rw [Bool.and_eq_true] at h1
   refine ⟨a,ha,?_⟩
   rw [Bool.and_eq_true,chM_cons l B C ha hj,exB_true]
   exact ⟨h1.1,c,hc,by rw [h1.2,h2];rfl⟩
  ·rintro ⟨a,ha,h⟩
   rw [Bool.and_eq_true,chM_cons l B C ha hj,exB_true] at h
   obtain ⟨h1,c,hc,h2⟩:=h
   rw [Bool.and_eq_true] at h2
   refine ⟨c,hc,?_⟩
   rw [compM_in hi hc,Bool.and_eq_true,exB_true]
   exact ⟨⟨a,ha,by rw [h1,h2.1];rfl⟩,h2.2⟩
theorem chM_ex {n:Nat} {l:List Mx} {A B:Mx} {i j:Nat} (hi:i<n) (hj:j<n):chM n A (B :: l) i j=true↔∃ a,a<n∧A i a=true∧chM n B l a j=true:=by
 rw [chM_cons l A B hi hj,exB_true]
 exact ⟨fun ⟨a,ha,h⟩=>⟨a,ha,by rwa [Bool.and_eq_true] at h⟩,fun ⟨a,ha,h⟩=>⟨a,ha,by rwa [Bool.and_eq_true]⟩⟩
section
variable {g : Gr}
theorem rr_of:In g.n (compM g.n (relM g 1) g.n (relM g 3)) (rrM g):=fun i j hi hj=>compM_in hi hj
theorem ploc_of:In g.n (interM g.n (relM g 0) g.n (relM g 4)) (plocM g):=fun i j hi hj=>interM_in hi hj
theorem other_of:In g.n (minusM g.n (relM g 0) g.n (relM g 4)) (otherM g):=fun i j hi hj=>minusM_in hi hj
theorem rs_of {P R:Mx} (hP:In g.n P (plocM g)) (hR:In g.n R (rrM g)):In g.n (chM g.n (dM (isK g 2)) [optM P,dM (isK g 2),optM (plusM g.n R)]) (rsM g):=fun i j hi hj=>by
 rw [Bool.eq_iff_iff,rs_spec,chM_ex hi hj]
 constructor
 ·rintro ⟨a,ha,h1,h⟩
  obtain ⟨rfl,q1⟩:=dM_true h1
  rw [chM_ex ha hj] at h
  obtain ⟨b,hb,h2,h⟩:=h
  rw [chM_ex hb hj] at h
  obtain ⟨c,hc,h3,h⟩:=h
  obtain ⟨rfl,q3⟩:=dM_true h3
  rw [chM_nil,opt_in (plus_in hR) _ _ hb hj] at h
  rw [opt_in hP _ _ ha hb] at h2
  unfold optM at h h2
  simp only [Bool.or_eq_true,beq_iff_eq] at h h2
  exact ⟨q1,b,hb,h2,q3,h⟩
 ·rintro ⟨h1,b,hb,h2,h3,h⟩
  refine ⟨i,hi,by unfold dM;simp [h1],?_⟩
  rw [chM_ex hi hj]
  refine ⟨b,hb,?_,?_⟩
  ·rw [opt_in hP _ _ hi hb];unfold optM;simpa using h2
  ·rw [chM_ex hb hj]
   refine ⟨b,hb,by unfold dM;simp [h3],?_⟩
   rw [chM_nil,opt_in (plus_in hR) _ _ hb hj];unfold optM;simpa using h
theorem fpo_of:In g.n (compM g.n (dM (isK g 3)) g.n (relM g 0)) (fun i j=>isK g 3 i&&relM g 0 i j):=fun i j hi hj=>compM_dL hi hj
theorem pof_of:In g.n (compM g.n (relM g 0) g.n (dM (isK g 3))) (fun i j=>relM g 0 i j&&isK g 3 j):=fun i j hi hj=>compM_dR hi hj
theorem sw_of {A C F1 F2 S:Mx} (hA:In g.n A (dM (relB g))) (hC:In g.n C (dM (acrB g))) (h1:In g.n F1 fun i j=>isK g 3 i&&relM g 0 i j) (h2:In g.n F2 fun i j=>relM g 0 i j&&isK g 3 j) (hS:In g.n S (rsM g)) :
  In g.n (chM g.n A [optM F1,S,relM g 1,dM (isK g 1),optM F2,C]) (swM g):=fun i j hi hj=>by
 rw [Bool.eq_iff_iff,sw_spec,chM_ex hi hj]
 constructor
 ·rintro ⟨i',hi',k1,h⟩
  rw [hA _ _ hi hi'] at k1
  obtain ⟨rfl,q1⟩:=dM_true k1
  rw [chM_ex hi hj] at h
  obtain ⟨a,ha,k2,h⟩:=h
  rw [chM_ex ha hj] at h
  obtain ⟨b,hb,k3,h⟩:=h
  rw [chM_ex hb hj] at h
  obtain ⟨c,hc,k4,h⟩:=h
  rw [chM_ex hc hj] at h
  obtain ⟨d,hd,k5,h⟩:=h
  obtain ⟨rfl,q5⟩:=dM_true k5
  rw [chM_ex hc hj] at h
  obtain ⟨e,he,k6,h⟩:=h
  rw [chM_nil,hC _ _ he hj] at h
  obtain ⟨rfl,q7⟩:=dM_true h
  rw [opt_in h1 _ _ hi ha] at k2
  rw [hS _ _ ha hb] at k3
  rw [opt_in h2 _ _ hc he] at k6
  unfold optM at k2 k6
  simp only [Bool.or_eq_true,Bool.and_eq_true,beq_iff_eq] at k2 k6
  exact ⟨q1,q7,a,ha,k2,b,hb,k3,c,hc,k4,q5,k6⟩
 ·rintro ⟨k1,k7,a,ha,k2,b,hb,k3,c,hc,k4,k5,k6⟩
  refine ⟨i,hi,by rw [hA _ _ hi hi];unfold dM;simp [k1],?_⟩
  rw [chM_ex hi hj]
  refine ⟨a,ha,by rw [opt_in h1 _ _ hi ha];unfold optM;simpa using k2,?_⟩
  rw [chM_ex ha hj]
  refine ⟨b,hb,by rw [hS _ _ ha hb];exact k3,?_⟩
  rw [chM_ex hb hj]
  refine ⟨c,hc,k4,?_⟩
  rw [chM_ex hc hj]
  refine ⟨c,hc,by unfold dM;simp [k5],?_⟩
  rw [chM_ex hc hj]
  refine ⟨j,hj,by rw [opt_in h2 _ _ hc hj];unfold optM;simpa using k6,?_⟩
  rw [chM_nil,hC _ _ hj hj];unfold dM;simp [k7]
theorem chM3 {n:Nat} {A B C:Mx} {i j:Nat} (hi:i<n) (hj:j<n):chM n A [B,C] i j=exB n fun a=>A i a&&exB n fun b=>B a b&&C b j:=by
 rw [chM_cons _ _ _ hi hj]
 exact exB_congr fun a ha=>by rw [chM_cons _ _ _ ha hj];rfl
theorem chM3_in {n:Nat} {A B C A' B' C':Mx} (hA:In n A A') (hB:In n B B') (hC:In n C C'):In n (chM n A [B,C]) (fun i j=>exB n fun a=>A' i a&&exB n fun b=>B' a b&&C' b j):=fun i j hi hj=>by
 rw [chM3 hi hj]
 exact exB_congr fun a ha=>by rw [hA i a hi ha];congr 1;exact exB_congr fun b hb=>by rw [hB a b ha hb,hC b j hb hj]
theorem heh_of {H E:Mx} (hH:In g.n H (hbM g)) (hE:In g.n E (ecoM g)):In g.n (chM g.n H [E,H]) (hehM g):=chM3_in hH hE hH
theorem oho_of {O H:Mx} (hO:In g.n O (otherM g)) (hH:In g.n H (hbM g)):In g.n (chM g.n O [H,O]) (fun i j=>exB g.n fun a=>otherM g i a&&exB g.n fun b=>hbM g a b&&otherM g b j):=chM3_in hO hH hO
theorem base_of {B S E:Mx} (hB:In g.n B (beginM g)) (hS:In g.n S (scbM g)) (hE:In g.n E (endM g)):In g.n (chM g.n B [S,E]) (baseM g):=chM3_in hB hS hE
theorem fsc_of {X Y F:Mx} (hF:In g.n F (dM (fscB g))) (hX:In g.n X Y):In g.n (chM g.n F [X,F]) (fun i j=>fscB g i&&Y i j&&fscB g j):=fun i j hi hj=>by
 rw [chM3_in hF hX hF i j hi hj,Bool.eq_iff_iff,exB_true]
 simp only [Bool.and_eq_true,exB_true]
 constructor
 ·rintro ⟨a,ha,h1,b,hb,h2,h3⟩
  obtain ⟨rfl,q1⟩:=dM_true h1
  obtain ⟨rfl,q3⟩:=dM_true h3
  exact ⟨⟨q1,h2⟩,q3⟩
 ·rintro ⟨⟨h1,h2⟩,h3⟩
  exact ⟨i,hi,by unfold dM;simp [h1],j,hj,h2,by unfold dM;simp [h3]⟩
theorem fh_of {F H:Mx} (hF:In g.n F (dM (fscB g))) (hH:In g.n H (hbM g)):In g.n (compM g.n F g.n (optM H)) (fun i j=>fscB g i&&(hbM g i j||i==j)):=fun i j hi hj=>by
 rw [compM_in hi hj]
 have:(exB g.n fun k=>F i k&&optM H k j)=exB g.n fun k=>dM (fscB g) i k&&optM (hbM g) k j:=exB_congr fun k hk=>by rw [hF i k hi hk,opt_in hH k j hk hj]
 rw [this,← compM_in hi hj,compM_dL hi hj];rfl
theorem hf_of {F H:Mx} (hF:In g.n F (dM (fscB g))) (hH:In g.n H (hbM g)):In g.n (compM g.n (optM H) g.n F) (fun i j=>(hbM g i j||i==j)&&fscB g j):=fun i j hi hj=>by
 rw [compM_in hi hj]
 have:(exB g.n fun k=>optM H i k&&F k j)=exB g.n fun k=>optM (hbM g) i k&&dM (fscB g) k j:=exB_congr fun k hk=>by rw [hF k j hk hj,opt_in hH i k hi hk]
 rw [this,← compM_in hi hj,compM_dR hi hj];rfl
theorem dOr {f1 f2 f:Nat→Bool} {n:Nat} (e:∀ i,i<n→(f1 i||f2 i)=f i):In n (orM [dM f1,dM f2]) (dM f):=fun i j hi _=>by
 unfold orM dM;rw [← e i hi];cases h:(i==j) <;> simp [h]
theorem fsc_pts:In g.n (dM fun i=>isK g 3 i&&isM g 5 i) (dM (fscB g)):=dM_in fun i _=>by unfold fscB;rw [Bool.and_comm]
theorem begin_of:In g.n (orM [dM (escB g),compM g.n (dM (fscB g)) g.n (optM (hbM g))]) (beginM g):=fun i j hi hj=>by
 show (dM (escB g) i j||(compM g.n (dM (fscB g)) g.n (optM (hbM g)) i j||false))=_
 rw [fh_of In.rfl' In.rfl' i j hi hj,Bool.or_false];rfl
theorem end_of:In g.n (orM [dM (escB g),compM g.n (optM (hbM g)) g.n (dM (fscB g))]) (endM g):=fun i j hi hj=>by
 show (dM (escB g) i j||(compM g.n (optM (hbM g)) g.n (dM (fscB g)) i j||false))=_
 rw [hf_of In.rfl' In.rfl' i j hi hj,Bool.or_false];rfl
theorem hb_of:In g.n (plusM g.n (orM [relM g 0,swM g])) (hbM g):=plus_in fun i j _ _=>by simp [orM,poswM]
theorem eco_of:In g.n (plusM g.n (orM [relM g 1,relM g 2,relM g 9])) (ecoM g):=plus_in fun i j _ _=>by simp [orM,comM,Bool.or_assoc]
theorem scb_of:In g.n (orM [relM g 0,chM g.n (otherM g) [hbM g,otherM g],interM g.n (hbM g) g.n (relM g 4),relM g 2,relM g 9]) (scbM g):=fun i j hi hj=>by
 show (relM g 0 i j||(chM g.n (otherM g) [hbM g,otherM g] i j||(interM g.n (hbM g) g.n (relM g 4) i j||(relM g 2 i j||(relM g 9 i j||false)))))=_
 rw [oho_of In.rfl' In.rfl' i j hi hj,interM_in hi hj];unfold scbM;simp only [Bool.or_assoc,Bool.or_false]
theorem pscf_of:In g.n (chM g.n (dM (fscB g)) [orM [hbM g,chM g.n (hbM g) [ecoM g,hbM g]],dM (fscB g)]) (pscfM g):=
 fsc_of In.rfl' (Y:=fun i j=>hbM g i j||hehM g i j) fun i j hi hj=>by
  show (hbM g i j||(chM g.n (hbM g) [ecoM g,hbM g] i j||false))=_
  rw [heh_of In.rfl' In.rfl' i j hi hj,Bool.or_false]
theorem rs_of':In g.n (chM g.n (dM (isK g 2)) [optM (plocM g),dM (isK g 2),optM (plusM g.n (rrM g))]) (rsM g):=rs_of In.rfl' In.rfl'
theorem sw_of':In g.n (chM g.n (dM (relB g)) [optM (chM g.n (dM (isK g 3)) [relM g 0]),rsM g,relM g 1,dM (isK g 1),optM (chM g.n (relM g 0) [dM (isK g 3)]),dM (acrB g)]) (swM g):=sw_of In.rfl' In.rfl' fpo_of pof_of In.rfl'
theorem base_of':In g.n (chM g.n (beginM g) [scbM g,endM g]) (baseM g):=base_of In.rfl' In.rfl' In.rfl'
theorem rel_pts:In g.n (orM [dM fun i=>isK g 2 i&&(isM g 3 i||isM g 4 i||isM g 5 i),dM fun i=>isK g 3 i&&(isM g 3 i||isM g 4 i||isM g 5 i)]) (dM (relB g)):=dOr fun i _=>by
 unfold relB;cases isK g 2 i <;> cases isK g 3 i <;> simp
theorem acr_pts:In g.n (orM [dM fun i=>isK g 1 i&&(isM g 2 i||isM g 4 i||isM g 5 i),dM fun i=>isK g 3 i&&(isM g 2 i||isM g 4 i||isM g 5 i)]) (dM (acrB g)):=dOr fun i _=>by
 unfold acrB;cases isK g 1 i <;> cases isK g 3 i <;> simp
theorem esc_pts:In g.n (orM [dM fun i=>isK g 2 i&&isM g 5 i,dM fun i=>isK g 1 i&&isM g 5 i]) (dM (escB g)):=dOr fun i _=>by
 unfold escB;cases isK g 1 i <;> cases isK g 2 i <;> cases isM g 5 i <;> rfl
end
end Go.Proofs.Tst
/-
  The source's memory model in memory: its parts.
-/
namespace Go.Proofs.Tst
open Go Go.Vc
def tI (ms:List Int):Tell:=tell1 fun v _ _ h=>Rd 1 h v ms.length (intsV ms)
theorem stI (ms:List Int):Stab (tI ms):=Stab.one fun _ _ _ _ _ f t=>t.fr f
theorem tI_eq (ms:List Int) (u:Out) (h:Heap):tI ms [u] h=Rd 1 h u.1 ms.length (intsV ms):=(rfl)
theorem tV_eq (v:Value) (u:Out) (h:Heap):tV v [u] h=(u.1=v):=(rfl)
def rcM (g:Gr):Nat→Mx
 | 0=>rsM g
 | 1=>swM g
 | 2=>hbM g
 | 3=>ecoM g
 | 4=>scbM g
 | 5=>baseM g
 | _=>pscfM g
theorem atB_w3 {g:Gr} {a b c:Int} {i:Nat} (hi:i<g.n):atB (withB g [a,b,c]) i=(isM g a i||isM g b i||isM g c i):=by
 refine atB_get ?_
 unfold withB isM
 rw [List.getElem?_map,Gr.ev_get hi]
 simp only [Option.map_some,Option.some.injEq]
 rw [Bool.eq_iff_iff];simp [or_assoc]
theorem atB_list {l:List Bool} {i:Nat} (hi:i<l.length):l[i]?=some (atB l i):=by simp [atB,hi]
theorem row_step {f:Nat→Bool} {i:Nat} {v:Bool} (hv:v=f i) (j:Nat):(decide (j<i+1)&&f j)=upd (fun j=>decide (j<i)&&f j) i v j:=by
 unfold upd
 by_cases hj:j=i
 ·subst hj;rw [if_pos rfl,hv];simp
 ·rw [if_neg hj]
  have:(j<i+1)=(j<i):=propext ⟨fun _=>by omega,fun _=>by omega⟩
  simp only [this]
section
variable {h : Heap} {mb : Nat} {q : GV} {g : Gr}
set_option maxHeartbeats 1000000 in
theorem rc11_model_some (m:Mg h mb q g) {sv mv:Value} {l:List Bool} {ms:List Int} (hl:Rd 1 h sv l.length (boolsV l)) (hn:l.length=g.n) (hm:Rd 1 h mv ms.length (intsV ms)) (bm:ms.length≤17592186044416) {f:Nat→Bool} (hf:∀ i,i<g.n→(atB l i&&(decide (ms.length=0)||atB (withB g ms) i))=f i) :
  Con Tryz.prog 57 #[.pointer (some ⟨mb,0,none⟩),sv,mv] h fun v h'=>Fr 0 0 h h'∧PN h' h.size v g.n (dM f):=by
 refine con_q35 ?_
 have hn256:=m.n
 have hcl:clampN (g.n:Int)=g.n:=by unfold clampN;omega
 have p0:Fr 0 0 h h:=.refl _ _ _
 obtain ⟨rest,r1⟩:=m.row
 unfold gcells at r1
 simp only [List.cons_append,List.nil_append] at r1
 rw [hn] at hl
 obtain ⟨sa,sc,rfl⟩:=hl.is
 obtain ⟨ma,mc,rfl⟩:=hm.is
 simp -dsimp only [go_sem,r1.cell]
 refine call_of (graph_With (m.gr.fr p0) (by omega) (m:=ms) (hm.fr p0) (by omega)) ?_
 rintro v2 h2 ⟨f2,o2⟩
 have f2_z:=f2.size
 replace p0:=p0.F f2
 replace r1:=r1.F f2
 obtain ⟨wa,wc,rfl⟩:=o2.is
 have hwl:(withB g ms).length=g.n:=by simp [withB,Gr.n]
 have hw2:=o2.rd
 have p2:Fr 0 0 h2 h2:=.refl _ _ _
 simp -dsimp only [go_sem]
 refine Chk_intro (by omega) ?_
 rw [zeros_one,Int.toNat_natCast,brow_false]
 intro b3 h3 n3
 have n3_z:=n3.az
 replace p0:=p0.F n3.f0
 replace r1:=r1.F n3.f0
 replace p2:=p2.F n3.f0
 have r3:=n3.row
 simp -dsimp only [go_sem]
 have P0:=p0
 refine loop_intro (fun i:Nat=>[(2,.slice ma ms.length mc),(7,.slice wa g.n wc),(8,.slice (some ⟨b3,0,none⟩) g.n g.n),(20,.slice sa g.n sc),(21,.int .i64 g.n),(22,.int .i64 i)])
  (fun i h'=>i≤g.n∧Fr b3 (b3+1) h3 h'∧Rw h' b3 (brow g.n fun j=>decide (j<i)&&f j)) (fun i=>g.n - i) 0 ?_ ?_ ?_
 ·simp [Le,find]
 ·exact ⟨by omega,.refl _ _ _,by simpa using r3⟩
 have P23:Fr 0 0 h2 h3:=p2
 clear p0 r1 r3 o2 p2
 rintro i h4 ⟨hi,q4,r3⟩
 have hb3:h.size≤b3∧h2.size=b3:=by omega
 by_cases hlt:i<g.n
 ·have e1:((i:Int)<(g.n:Int)):=by omega
  have hfi:=hf i hlt
  have p4:=P0.fresh q4 (by omega)
  have p24:=P23.fresh q4 (by omega)
  obtain ⟨ab,ao,rfl,hac⟩:=bools_at hl (by omega)
  obtain ⟨bb,bo,rfl,hbc⟩:=bools_at hw2 (by omega)
  have k1:=hac h4 p4 i _ (atB_list (by omega))
  have k2:=hbc h4 p24 i _ (atB_list (by omega))
  generalize atB l i=x at k1 hfi
  generalize atB (withB g ms) i=y at k2 hfi
  cases x
  ·simp -dsimp only [go_sem,e1,k1]
   refine Chk_intro (r3.W) fun h5 s5=>?_
   have s5_z:=s5.size
   replace r3:=s5.row r3
   try simp only [cl_bool,putAt_one,brow_upd] at r3
   simp -dsimp only [go_sem]
   simp -dsimp (disch:=omega) only [wrap64]
   refine ⟨i+1,by omega,by simp [Le,find],by omega,q4.freshIn s5.fr (by omega),?_⟩
   rw [brow_congr (g:=upd (fun j=>decide (j<i)&&f j) i false) fun j _=>row_step hfi j]
   exact r3
  ·rw [Bool.true_and] at hfi
   by_cases hms:ms.length=0
   ·have e2:((ms.length:Int)==0)=true:=by simpa using hms
    rw [decide_eq_true hms,Bool.true_or] at hfi
    simp -dsimp only [go_sem,e1,k1,e2]
    refine Chk_intro (r3.W) fun h5 s5=>?_
    have s5_z:=s5.size
    replace r3:=s5.row r3
    try simp only [cl_bool,putAt_one,brow_upd] at r3
    simp -dsimp only [go_sem]
    simp -dsimp (disch:=omega) only [wrap64]
    refine ⟨i+1,by omega,by simp [Le,find],by omega,q4.freshIn s5.fr (by omega),?_⟩
    rw [brow_congr (g:=upd (fun j=>decide (j<i)&&f j) i true) fun j _=>row_step hfi j]
    exact r3
   ·have e2:((ms.length:Int)==0)=false:=by simpa using hms
    rw [decide_eq_false hms,Bool.false_or] at hfi
    simp -dsimp only [go_sem,e1,k1,k2,e2]
    refine Chk_intro (r3.W) fun h5 s5=>?_
    have s5_z:=s5.size
    replace r3:=s5.row r3
    try simp only [cl_bool,putAt_one,brow_upd] at r3
    simp -dsimp only [go_sem]
    simp -dsimp (disch:=omega) only [wrap64]
    refine ⟨i+1,by omega,by simp [Le,find],by omega,q4.freshIn s5.fr (by omega),?_⟩
    rw [brow_congr (g:=upd (fun j=>decide (j<i)&&f j) i y) fun j _=>row_step hfi j]
    exact r3
 ·obtain rfl:i=g.n:=by omega
  simp -dsimp only [go_sem,Int.lt_irrefl]
  have p4:=P0.fresh q4 (by omega)
  have hr:Rd 1 h4 (.slice (some ⟨b3,0,none⟩) g.n g.n) ((List.range g.n).map f).length (boolsV ((List.range g.n).map f)):=by
   have e:brow g.n (fun j=>decide (j<g.n)&&f j)=boolsV ((List.range g.n).map f):=by
    rw [brow_congr (g:=f) fun j hj=>by simp [hj]]
    unfold brow boolsV;rw [List.map_map];rfl
   rw [e] at r3
   have:=Rw.rd (s:=1) (n:=g.n) (c:=g.n) r3 (by simp [boolsV])
   simpa using this
  refine call_of (rel_Ident g.n hr (by simp;omega)) ?_
  rintro v5 h5 ⟨f5,t5⟩
  rw [hcl] at t5
  simp -dsimp only [go_sem]
  exact ⟨p4.fresh f5 (by omega),((PN.of t5).lower (by have:=q4.size;omega)).congr fun i j hi hj=>by
   show (i==j&&atB ((List.range g.n).map f) i)=dM f i j
   unfold dM;rw [atB_get (b:=f i) (by simp [hi])]⟩
end
end Go.Proofs.Tst
