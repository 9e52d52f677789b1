/-
  Contracts of functions that the law reaches: what each returns and what it leaves in memory. Conditions stand in each.
-/
import Derived.Test.YtmcghihgeibgpaaGreatDoorT7
set_option linter.all false
set_option maxRecDepth 2000
/-
  The document's relations of a graph.
-/
namespace Go.Proofs.Tst
open Go Go.Vc
theorem good_loc {g:Gr} (hg:g.good=true) {i:Nat} (hi:i<g.n):((g.ev i).kind=3∧(g.ev i).loc = -1)∨((g.ev i).kind≠3∧0≤(g.ev i).loc):=by
 obtain ⟨words,hz⟩:=good_check hg
 obtain ⟨hs,h2,h3,-⟩:=check_zero hz
 have hs':=hs
 simp only [Gr.size,Bool.and_eq_true,decide_eq_true_eq] at hs'
 by_cases hc:i<g.cells.toNat
 ·have:=firstEv_neg _ _ h2 i (by omega) (by omega)
  simp only [Bool.not_eq_false',beq_iff_eq] at this
  rw [this];unfold Gr.first;dsimp only;omega
 ·have:=firstEv_neg _ _ h3 i (by omega) (by omega)
  simp only [Bool.not_eq_false'] at this
  unfold Gr.evOk at this
  simp only [Bool.and_eq_true] at this
  obtain ⟨-,h4⟩:=this
  by_cases hk:(g.ev i).kind=3
  ·rw [if_pos hk] at h4
   simp only [Bool.and_eq_true,beq_iff_eq] at h4
   exact .inl ⟨hk,h4.1⟩
  ·rw [if_neg hk] at h4
   simp only [Bool.and_eq_true,decide_eq_true_eq] at h4
   exact .inr ⟨hk,h4.1⟩
theorem same_good {g:Gr} (hg:g.good=true) {i j:Nat} (hi:i<g.n) (hj:j<g.n):relM g 4 i j=(!((g.ev i).kind==3)&&!((g.ev j).kind==3)&&(g.ev i).loc==(g.ev j).loc):=by
 show g.sameM i j=_
 unfold Gr.sameM
 rw [Bool.eq_iff_iff]
 simp only [Bool.and_eq_true,decide_eq_true_eq,beq_iff_eq,Bool.not_eq_true',beq_eq_false_iff_ne]
 have h1:=good_loc hg hi
 have h2:=good_loc hg hj
 omega
set_option maxHeartbeats 1000000 in
theorem ref8_Po {h:Heap} {w:GV} {g:Gr} (t:GrAt h w g) (hn:g.n≤256) :
  Con Tryz.prog 26 #[.agg (gcells w g).toArray] h fun v h'=>Fr 0 0 h h'∧RefAt h' h.size h'.size v g.n (relM g 0):=by
 refine con_q52 ?_
 have hcl:clampN (g.n:Int)=g.n:=by unfold clampN;omega
 have p0:Fr 0 0 h h:=.refl _ _ _
 have be:=t.fits.e
 have hen:g.evs.length=g.n:=rfl
 unfold gcells
 simp -dsimp only [go_sem]
 intro b1 h1 n1
 have n1_z:=n1.az
 replace p0:=p0.F n1.f0
 have r1:=n1.row
 simp -dsimp only [go_sem]
 intro b2 h2 n2
 have n2_z:=n2.az
 replace p0:=p0.F n2.f0
 replace r1:=r1.F n2.f0
 have r2:=n2.row
 simp -dsimp only [go_sem,evs_len,r1.cell]
 refine call_of (ref1_New g.n h2) ?_
 rintro v3 h3 ⟨f3,t3⟩
 rw [hcl] at t3
 obtain ⟨-,z,Z,rfl,t3⟩:=t3
 obtain ⟨za,zc,rfl⟩:=t3.own.is
 have t3_a:=t3.own.at_
 have f3_z:=f3.size
 replace p0:=p0.F f3
 replace r1:=r1.F f3
 replace r2:=r2.F f3
 simp -dsimp only [go_sem]
 intro b4 h4 n4
 have n4_z:=n4.az
 replace p0:=p0.F n4.f0
 replace r1:=r1.F n4.f0
 replace r2:=r2.F n4.f0
 replace t3:=t3.fr n4.f0 (by omega)
 have r4:=n4.row
 simp -dsimp only [go_sem]
 refine Chk_intro (r4.W) fun h5 s5=>?_
 have s5_z:=s5.size
 replace p0:=p0.F s5.fr
 replace r1:=r1.F s5.fr
 replace r2:=r2.F s5.fr
 replace t3:=t3.fr s5.fr (by omega)
 replace r4:=s5.row r4
 try simp only [cl_int,cl_bool,cl_slice,cl_ptr,putAt_one,zs0,zs1,ivec_set,brow_upd] at r4
 simp -dsimp only [go_sem]
 refine loop_intro (fun p:Nat=>[(1,.pointer (some ⟨b1,0,none⟩)),(2,.pointer (some ⟨b2,0,none⟩)),(3,.pointer (some ⟨b4,0,none⟩)),(4,.int .i64 p)]) (fun p h'=>p≤(g.n)∧Fr 0 0 h h'∧h5.size≤h'.size∧Rw h' b1 [.int .i64 g.cells,.slice w.e g.evs.length w.ec,.slice w.f g.rf.length w.fc,.slice w.o g.co.length w.oc,.slice w.r g.rmw.length w.rc,.slice w.a g.addr.length w.ac,.slice w.d g.data.length w.dc,.slice w.c g.ctrl.length w.cc]∧Rw h' b2 [.int .i64 0,.slice none 0 0]∧Rw h' b4 [.int .i64 g.n,.slice za g.n zc]∧Tab h' h2.size h3.size (.slice za g.n zc) (g.n) (g.n) Z (mixM p 0 (g.n) (relM g 0) (fun _ _=>false))) (fun p=>(g.n) - p) 0 ?_ ?_ ?_
 ·simp [Le,find]
 ·exact ⟨by omega,p0,by omega,r1,r2,r4,t3.congr fun i j _ _=>by rw [mixM_zero]⟩
 rintro p hP ⟨hp,p0,yP,r1,r2,r4,t3⟩
 have p0_z:=p0.size
 have r1_l:=r1.lt
 have r2_l:=r2.lt
 have r4_l:=r4.lt
 simp -dsimp only [go_sem,r4.cell]
 refine ⟨fun hlt1=>?_,fun hge1=>?_⟩
 ·have hlt1:p<(g.n):=by omega
  simp -dsimp only [go_sem]
  refine loop_intro (fun q:Nat=>[(1,.pointer (some ⟨b1,0,none⟩)),(2,.pointer (some ⟨b2,0,none⟩)),(3,.pointer (some ⟨b4,0,none⟩)),(4,.int .i64 p),(5,.int .i64 q)]) (fun q h'=>q≤(g.n)∧Fr 0 0 h h'∧h5.size≤h'.size∧Rw h' b1 [.int .i64 g.cells,.slice w.e g.evs.length w.ec,.slice w.f g.rf.length w.fc,.slice w.o g.co.length w.oc,.slice w.r g.rmw.length w.rc,.slice w.a g.addr.length w.ac,.slice w.d g.data.length w.dc,.slice w.c g.ctrl.length w.cc]∧Rw h' b2 [.int .i64 0,.slice none 0 0]∧Rw h' b4 [.int .i64 g.n,.slice za g.n zc]∧Tab h' h2.size h3.size (.slice za g.n zc) (g.n) (g.n) Z (mixM p q (g.n) (relM g 0) (fun _ _=>false))) (fun q=>(g.n) - q) 0 ?_ ?_ ?_
  ·simp [Le,find]
  ·exact ⟨by omega,p0,by omega,r1,r2,r4,t3⟩
  rintro q hQ ⟨hq,p0,yQ,r1,r2,r4,t3⟩
  have p0_z:=p0.size
  have r1_l:=r1.lt
  have r2_l:=r2.lt
  have r4_l:=r4.lt
  simp -dsimp only [go_sem,r4.cell]
  refine ⟨fun hlt2=>?_,fun hge2=>?_⟩
  ·have hlt2:q<(g.n):=by omega
   simp -dsimp only [go_sem,r4.cell]
   refine Chk_intro (by omega) (t3.idx (p:=p) (by omega) fun b9 o9 c9=>?_)
   simp -dsimp only [go_sem,c9,r1.cell]
   refine call_of (ref8_before (t.fr p0) p q) ?_
   rintro v6 h6 ⟨f6,rfl⟩
   have f6_z:=f6.size
   replace p0:=p0.F f6
   replace r1:=r1.F f6
   replace r2:=r2.F f6
   replace r4:=r4.F f6
   replace t3:=t3.fr f6 (by omega)
   replace c9:=f6.keep c9 (by omega)
   simp -dsimp only [go_sem,c9,r4.cell]
   refine Chk_intro (by omega) ?_
   simp -dsimp only [go_sem]
   refine Chk_intro (t3.wr (by omega) (by omega)) fun h10 s10=>?_
   have s10_z:=s10.size
   have w_row:=t3.row p (by omega)
   have t_new:=t3.set (p:=p) (q:=q) (by omega) s10
   replace p0:=p0.F s10.fr
   replace r1:=r1.F s10.fr
   replace r2:=r2.F s10.fr
   replace r4:=r4.F s10.fr
   simp -dsimp only [go_sem]
   simp -dsimp (disch:=omega) only [wrap64]
   exact ⟨q+1,by omega,by simp [Le,find],by omega,p0,by omega,r1,r2,r4,t_new.congr fun i j hi hj=>mixM_set (rfl)⟩
  ·have hqn:q=(g.n):=by omega
   simp -dsimp only [go_sem]
   simp -dsimp (disch:=omega) only [wrap64]
   exact ⟨p+1,by omega,by simp [Le,find],by omega,p0,by omega,r1,r2,r4,t3.congr fun i j _ _=>by rw [hqn];exact mixM_next⟩
 have hpn:p=(g.n):=by omega
 simp -dsimp only [go_sem,r4.cell]
 refine Chk_intro (r2.W) fun h9 s9=>?_
 have s9_z:=s9.size
 replace p0:=p0.F s9.fr
 replace r1:=r1.F s9.fr
 replace r4:=r4.F s9.fr
 replace t3:=t3.fr s9.fr (by omega)
 replace r2:=s9.row r2
 try simp only [cl_int,cl_bool,cl_slice,cl_ptr,putAt_one,zs0,zs1,ivec_set,brow_upd] at r2
 simp -dsimp only [go_sem,r2.cell]
 refine ⟨p0,hn,_,Z,rfl,((t3.mono (by omega) (by omega)).congr fun i j hi hj=>?_)⟩
 rw [hpn,mixM_end hi hj]
set_option maxHeartbeats 1000000 in
theorem ref8_Ext {h:Heap} {w:GV} {g:Gr} (t:GrAt h w g) (hn:g.n≤256) :
  Con Tryz.prog 66 #[.agg (gcells w g).toArray] h fun v h'=>Fr 0 0 h h'∧RefAt h' h.size h'.size v g.n (relM g 5):=by
 refine con_q47 ?_
 have hcl:clampN (g.n:Int)=g.n:=by unfold clampN;omega
 have p0:Fr 0 0 h h:=.refl _ _ _
 have be:=t.fits.e
 have hen:g.evs.length=g.n:=rfl
 unfold gcells
 simp -dsimp only [go_sem]
 intro b1 h1 n1
 have n1_z:=n1.az
 replace p0:=p0.F n1.f0
 have r1:=n1.row
 simp -dsimp only [go_sem]
 intro b2 h2 n2
 have n2_z:=n2.az
 replace p0:=p0.F n2.f0
 replace r1:=r1.F n2.f0
 have r2:=n2.row
 simp -dsimp only [go_sem,evs_len,r1.cell]
 refine call_of (ref1_New g.n h2) ?_
 rintro v3 h3 ⟨f3,t3⟩
 rw [hcl] at t3
 obtain ⟨-,z,Z,rfl,t3⟩:=t3
 obtain ⟨za,zc,rfl⟩:=t3.own.is
 have t3_a:=t3.own.at_
 have f3_z:=f3.size
 replace p0:=p0.F f3
 replace r1:=r1.F f3
 replace r2:=r2.F f3
 simp -dsimp only [go_sem]
 intro b4 h4 n4
 have n4_z:=n4.az
 replace p0:=p0.F n4.f0
 replace r1:=r1.F n4.f0
 replace r2:=r2.F n4.f0
 replace t3:=t3.fr n4.f0 (by omega)
 have r4:=n4.row
 simp -dsimp only [go_sem]
 refine Chk_intro (r4.W) fun h5 s5=>?_
 have s5_z:=s5.size
 replace p0:=p0.F s5.fr
 replace r1:=r1.F s5.fr
 replace r2:=r2.F s5.fr
 replace t3:=t3.fr s5.fr (by omega)
 replace r4:=s5.row r4
 try simp only [cl_int,cl_bool,cl_slice,cl_ptr,putAt_one,zs0,zs1,ivec_set,brow_upd] at r4
 simp -dsimp only [go_sem]
 refine loop_intro (fun p:Nat=>[(1,.pointer (some ⟨b1,0,none⟩)),(2,.pointer (some ⟨b2,0,none⟩)),(3,.pointer (some ⟨b4,0,none⟩)),(4,.int .i64 p)]) (fun p h'=>p≤(g.n)∧Fr 0 0 h h'∧h5.size≤h'.size∧Rw h' b1 [.int .i64 g.cells,.slice w.e g.evs.length w.ec,.slice w.f g.rf.length w.fc,.slice w.o g.co.length w.oc,.slice w.r g.rmw.length w.rc,.slice w.a g.addr.length w.ac,.slice w.d g.data.length w.dc,.slice w.c g.ctrl.length w.cc]∧Rw h' b2 [.int .i64 0,.slice none 0 0]∧Rw h' b4 [.int .i64 g.n,.slice za g.n zc]∧Tab h' h2.size h3.size (.slice za g.n zc) (g.n) (g.n) Z (mixM p 0 (g.n) (relM g 5) (fun _ _=>false))) (fun p=>(g.n) - p) 0 ?_ ?_ ?_
 ·simp [Le,find]
 ·exact ⟨by omega,p0,by omega,r1,r2,r4,t3.congr fun i j _ _=>by rw [mixM_zero]⟩
 rintro p hP ⟨hp,p0,yP,r1,r2,r4,t3⟩
 have p0_z:=p0.size
 have r1_l:=r1.lt
 have r2_l:=r2.lt
 have r4_l:=r4.lt
 simp -dsimp only [go_sem,r4.cell]
 refine ⟨fun hlt1=>?_,fun hge1=>?_⟩
 ·have hlt1:p<(g.n):=by omega
  simp -dsimp only [go_sem]
  refine loop_intro (fun q:Nat=>[(1,.pointer (some ⟨b1,0,none⟩)),(2,.pointer (some ⟨b2,0,none⟩)),(3,.pointer (some ⟨b4,0,none⟩)),(4,.int .i64 p),(5,.int .i64 q)]) (fun q h'=>q≤(g.n)∧Fr 0 0 h h'∧h5.size≤h'.size∧Rw h' b1 [.int .i64 g.cells,.slice w.e g.evs.length w.ec,.slice w.f g.rf.length w.fc,.slice w.o g.co.length w.oc,.slice w.r g.rmw.length w.rc,.slice w.a g.addr.length w.ac,.slice w.d g.data.length w.dc,.slice w.c g.ctrl.length w.cc]∧Rw h' b2 [.int .i64 0,.slice none 0 0]∧Rw h' b4 [.int .i64 g.n,.slice za g.n zc]∧Tab h' h2.size h3.size (.slice za g.n zc) (g.n) (g.n) Z (mixM p q (g.n) (relM g 5) (fun _ _=>false))) (fun q=>(g.n) - q) 0 ?_ ?_ ?_
  ·simp [Le,find]
  ·exact ⟨by omega,p0,by omega,r1,r2,r4,t3⟩
  rintro q hQ ⟨hq,p0,yQ,r1,r2,r4,t3⟩
  have p0_z:=p0.size
  have r1_l:=r1.lt
  have r2_l:=r2.lt
  have r4_l:=r4.lt
  simp -dsimp only [go_sem,r4.cell]
  refine ⟨fun hlt2=>?_,fun hge2=>?_⟩
  ·have hlt2:q<(g.n):=by omega
   obtain ⟨eb,eo,he,hev⟩:=t.evs (by omega)
   obtain ⟨c0,c1,c2,c3,c4⟩:=hev _ p0 p hlt1
   obtain ⟨d0,d1,d2,d3,d4⟩:=hev _ p0 q hlt2
   have e1:((p:Int)<(g.n:Int)):=by omega
   have e2:((q:Int)<(g.n:Int)):=by omega
   simp -dsimp only [go_sem,r4.cell]
   refine Chk_intro (by omega) (t3.idx (p:=p) (by omega) fun b9 o9 c9=>?_)
   simp -dsimp only [go_sem,c9,he,evs_len,e1,e2,c0,d0,r1.cell]
   refine Chk_intro (t3.wr (by omega) (by omega)) fun h10 s10=>?_
   have s10_z:=s10.size
   have w_row:=t3.row p (by omega)
   have t_new:=t3.set (p:=p) (q:=q) (by omega) s10
   have s10.fr_z:=s10.fr.size
   replace p0:=p0.F s10.fr
   replace r1:=r1.F s10.fr
   replace r2:=r2.F s10.fr
   replace r4:=r4.F s10.fr
   obtain ⟨c0,c1,c2,c3,c4⟩:=hev _ p0 p hlt1
   obtain ⟨d0,d1,d2,d3,d4⟩:=hev _ p0 q hlt2
   simp -dsimp only [go_sem,he,evs_len,e2]
   simp -dsimp (disch:=omega) only [wrap64]
   exact ⟨q+1,by omega,by simp [Le,find],by omega,p0,by omega,by (have:=r1;rw [he] at this;exact this),r2,r4,t_new.congr fun i j hi hj=>mixM_set (rfl)⟩
  ·have hqn:q=(g.n):=by omega
   simp -dsimp only [go_sem]
   simp -dsimp (disch:=omega) only [wrap64]
   exact ⟨p+1,by omega,by simp [Le,find],by omega,p0,by omega,r1,r2,r4,t3.congr fun i j _ _=>by rw [hqn];exact mixM_next⟩
 have hpn:p=(g.n):=by omega
 simp -dsimp only [go_sem,r4.cell]
 refine Chk_intro (r2.W) fun h9 s9=>?_
 have s9_z:=s9.size
 replace p0:=p0.F s9.fr
 replace r1:=r1.F s9.fr
 replace r4:=r4.F s9.fr
 replace t3:=t3.fr s9.fr (by omega)
 replace r2:=s9.row r2
 try simp only [cl_int,cl_bool,cl_slice,cl_ptr,putAt_one,zs0,zs1,ivec_set,brow_upd] at r2
 simp -dsimp only [go_sem,r2.cell]
 refine ⟨p0,hn,_,Z,rfl,((t3.mono (by omega) (by omega)).congr fun i j hi hj=>?_)⟩
 rw [hpn,mixM_end hi hj]
set_option maxHeartbeats 1000000 in
theorem ref8_Same {h:Heap} {w:GV} {g:Gr} (t:GrAt h w g) (hg:g.good=true) :
  Con Tryz.prog 27 #[.agg (gcells w g).toArray] h fun v h'=>Fr 0 0 h h'∧RefAt h' h.size h'.size v g.n (relM g 4):=by
 refine con_q54 ?_
 have hn:=(good_n hg).1
 have hcl:clampN (g.n:Int)=g.n:=by unfold clampN;omega
 have p0:Fr 0 0 h h:=.refl _ _ _
 have be:=t.fits.e
 have hen:g.evs.length=g.n:=rfl
 unfold gcells
 simp -dsimp only [go_sem]
 intro b1 h1 n1
 have n1_z:=n1.az
 replace p0:=p0.F n1.f0
 have r1:=n1.row
 simp -dsimp only [go_sem]
 intro b2 h2 n2
 have n2_z:=n2.az
 replace p0:=p0.F n2.f0
 replace r1:=r1.F n2.f0
 have r2:=n2.row
 simp -dsimp only [go_sem,evs_len,r1.cell]
 refine call_of (ref1_New g.n h2) ?_
 rintro v3 h3 ⟨f3,t3⟩
 rw [hcl] at t3
 obtain ⟨-,z,Z,rfl,t3⟩:=t3
 obtain ⟨za,zc,rfl⟩:=t3.own.is
 have t3_a:=t3.own.at_
 have f3_z:=f3.size
 replace p0:=p0.F f3
 replace r1:=r1.F f3
 replace r2:=r2.F f3
 simp -dsimp only [go_sem]
 intro b4 h4 n4
 have n4_z:=n4.az
 replace p0:=p0.F n4.f0
 replace r1:=r1.F n4.f0
 replace r2:=r2.F n4.f0
 replace t3:=t3.fr n4.f0 (by omega)
 have r4:=n4.row
 simp -dsimp only [go_sem]
 refine Chk_intro (r4.W) fun h5 s5=>?_
 have s5_z:=s5.size
 replace p0:=p0.F s5.fr
 replace r1:=r1.F s5.fr
 replace r2:=r2.F s5.fr
 replace t3:=t3.fr s5.fr (by omega)
 replace r4:=s5.row r4
 try simp only [cl_int,cl_bool,cl_slice,cl_ptr,putAt_one,zs0,zs1,ivec_set,brow_upd] at r4
 simp -dsimp only [go_sem]
 refine loop_intro (fun p:Nat=>[(1,.pointer (some ⟨b1,0,none⟩)),(2,.pointer (some ⟨b2,0,none⟩)),(3,.pointer (some ⟨b4,0,none⟩)),(4,.int .i64 p)]) (fun p h'=>p≤(g.n)∧Fr 0 0 h h'∧h5.size≤h'.size∧Rw h' b1 [.int .i64 g.cells,.slice w.e g.evs.length w.ec,.slice w.f g.rf.length w.fc,.slice w.o g.co.length w.oc,.slice w.r g.rmw.length w.rc,.slice w.a g.addr.length w.ac,.slice w.d g.data.length w.dc,.slice w.c g.ctrl.length w.cc]∧Rw h' b2 [.int .i64 0,.slice none 0 0]∧Rw h' b4 [.int .i64 g.n,.slice za g.n zc]∧Tab h' h2.size h3.size (.slice za g.n zc) (g.n) (g.n) Z (mixM p 0 (g.n) (relM g 4) (fun _ _=>false))) (fun p=>(g.n) - p) 0 ?_ ?_ ?_
 ·simp [Le,find]
 ·exact ⟨by omega,p0,by omega,r1,r2,r4,t3.congr fun i j _ _=>by rw [mixM_zero]⟩
 rintro p hP ⟨hp,p0,yP,r1,r2,r4,t3⟩
 have p0_z:=p0.size
 have r1_l:=r1.lt
 have r2_l:=r2.lt
 have r4_l:=r4.lt
 simp -dsimp only [go_sem,r4.cell]
 refine ⟨fun hlt1=>?_,fun hge1=>?_⟩
 ·have hlt1:p<(g.n):=by omega
  simp -dsimp only [go_sem]
  refine loop_intro (fun q:Nat=>[(1,.pointer (some ⟨b1,0,none⟩)),(2,.pointer (some ⟨b2,0,none⟩)),(3,.pointer (some ⟨b4,0,none⟩)),(4,.int .i64 p),(5,.int .i64 q)]) (fun q h'=>q≤(g.n)∧Fr 0 0 h h'∧h5.size≤h'.size∧Rw h' b1 [.int .i64 g.cells,.slice w.e g.evs.length w.ec,.slice w.f g.rf.length w.fc,.slice w.o g.co.length w.oc,.slice w.r g.rmw.length w.rc,.slice w.a g.addr.length w.ac,.slice w.d g.data.length w.dc,.slice w.c g.ctrl.length w.cc]∧Rw h' b2 [.int .i64 0,.slice none 0 0]∧Rw h' b4 [.int .i64 g.n,.slice za g.n zc]∧Tab h' h2.size h3.size (.slice za g.n zc) (g.n) (g.n) Z (mixM p q (g.n) (relM g 4) (fun _ _=>false))) (fun q=>(g.n) - q) 0 ?_ ?_ ?_
  ·simp [Le,find]
  ·exact ⟨by omega,p0,by omega,r1,r2,r4,t3⟩
  rintro q hQ ⟨hq,p0,yQ,r1,r2,r4,t3⟩
  have p0_z:=p0.size
  have r1_l:=r1.lt
  have r2_l:=r2.lt
  have r4_l:=r4.lt
  simp -dsimp only [go_sem,r4.cell]
  refine ⟨fun hlt2=>?_,fun hge2=>?_⟩
  ·have hlt2:q<(g.n):=by omega
   obtain ⟨eb,eo,he,hev⟩:=t.evs (by omega)
   obtain ⟨c0,c1,c2,c3,c4⟩:=hev _ p0 p hlt1
   obtain ⟨d0,d1,d2,d3,d4⟩:=hev _ p0 q hlt2
   have e1:((p:Int)<(g.n:Int)):=by omega
   have e2:((q:Int)<(g.n:Int)):=by omega
   simp -dsimp only [go_sem,r4.cell]
   refine Chk_intro (by omega) (t3.idx (p:=p) (by omega) fun b9 o9 c9=>?_)
   have hsm:=same_good hg hlt1 hlt2
   by_cases k1:(g.ev p).kind=3
   ·rw [beq_t k1] at hsm
    simp -dsimp only [go_sem,c9,he,evs_len,e1,e2,c1,bne_t k1,r1.cell]
    refine Chk_intro (t3.wr (by omega) (by omega)) fun h10 s10=>?_
    have s10_z:=s10.size
    have w_row:=t3.row p (by omega)
    have t_new:=t3.set (p:=p) (q:=q) (by omega) s10
    have s10.fr_z:=s10.fr.size
    replace p0:=p0.F s10.fr
    replace r1:=r1.F s10.fr
    replace r2:=r2.F s10.fr
    replace r4:=r4.F s10.fr
    obtain ⟨c0,c1,c2,c3,c4⟩:=hev _ p0 p hlt1
    obtain ⟨d0,d1,d2,d3,d4⟩:=hev _ p0 q hlt2
    simp -dsimp only [go_sem,he,evs_len,e2,bne_t k1]
    simp -dsimp (disch:=omega) only [wrap64]
    exact ⟨q+1,by omega,by simp [Le,find],by omega,p0,by omega,by (have:=r1;rw [he] at this;exact this),r2,r4,t_new.congr fun i j hi hj=>mixM_set (by rw [hsm];rfl)⟩
   by_cases k2:(g.ev q).kind=3
   ·rw [beq_f k1,beq_t k2] at hsm
    simp -dsimp only [go_sem,c9,he,evs_len,e1,e2,c1,d1,bne_f k1,bne_t k2,r1.cell]
    refine Chk_intro (t3.wr (by omega) (by omega)) fun h10 s10=>?_
    have s10_z:=s10.size
    have w_row:=t3.row p (by omega)
    have t_new:=t3.set (p:=p) (q:=q) (by omega) s10
    have s10.fr_z:=s10.fr.size
    replace p0:=p0.F s10.fr
    replace r1:=r1.F s10.fr
    replace r2:=r2.F s10.fr
    replace r4:=r4.F s10.fr
    obtain ⟨c0,c1,c2,c3,c4⟩:=hev _ p0 p hlt1
    obtain ⟨d0,d1,d2,d3,d4⟩:=hev _ p0 q hlt2
    simp -dsimp only [go_sem,he,evs_len,e2,bne_f k1,bne_t k2]
    simp -dsimp (disch:=omega) only [wrap64]
    exact ⟨q+1,by omega,by simp [Le,find],by omega,p0,by omega,by (have:=r1;rw [he] at this;exact this),r2,r4,t_new.congr fun i j hi hj=>mixM_set (by rw [hsm];rfl)⟩
   rw [beq_f k1,beq_f k2] at hsm
   simp -dsimp only [go_sem,c9,he,evs_len,e1,e2,c1,d1,c2,d2,bne_f k1,bne_f k2,r1.cell]
   refine Chk_intro (t3.wr (by omega) (by omega)) fun h10 s10=>?_
   have s10_z:=s10.size
   have w_row:=t3.row p (by omega)
   have t_new:=t3.set (p:=p) (q:=q) (by omega) s10
   have s10.fr_z:=s10.fr.size
   replace p0:=p0.F s10.fr
   replace r1:=r1.F s10.fr
   replace r2:=r2.F s10.fr
   replace r4:=r4.F s10.fr
   obtain ⟨c0,c1,c2,c3,c4⟩:=hev _ p0 p hlt1
   obtain ⟨d0,d1,d2,d3,d4⟩:=hev _ p0 q hlt2
   simp -dsimp only [go_sem,he,evs_len,e2,bne_f k1,bne_f k2]
   simp -dsimp (disch:=omega) only [wrap64]
   exact ⟨q+1,by omega,by simp [Le,find],by omega,p0,by omega,by (have:=r1;rw [he] at this;exact this),r2,r4,t_new.congr fun i j hi hj=>mixM_set (by rw [hsm];rfl)⟩
  ·have hqn:q=(g.n):=by omega
   simp -dsimp only [go_sem]
   simp -dsimp (disch:=omega) only [wrap64]
   exact ⟨p+1,by omega,by simp [Le,find],by omega,p0,by omega,r1,r2,r4,t3.congr fun i j _ _=>by rw [hqn];exact mixM_next⟩
 have hpn:p=(g.n):=by omega
 simp -dsimp only [go_sem,r4.cell]
 refine Chk_intro (r2.W) fun h9 s9=>?_
 have s9_z:=s9.size
 replace p0:=p0.F s9.fr
 replace r1:=r1.F s9.fr
 replace r4:=r4.F s9.fr
 replace t3:=t3.fr s9.fr (by omega)
 replace r2:=s9.row r2
 try simp only [cl_int,cl_bool,cl_slice,cl_ptr,putAt_one,zs0,zs1,ivec_set,brow_upd] at r2
 simp -dsimp only [go_sem,r2.cell]
 refine ⟨p0,hn,_,Z,rfl,((t3.mono (by omega) (by omega)).congr fun i j hi hj=>?_)⟩
 rw [hpn,mixM_end hi hj]
theorem co_nat {g:Gr} (hg:g.good=true) {c:Nat} (hc:c<g.co.length) {i:Nat} {a:Int} (h:(g.co.getD c [])[i]?=some a):∃ x:Nat,a=(x:Int)∧x<g.n:=by
 obtain ⟨l1,l2,-⟩:=is_lt ((co_list hg hc).2.1 a (List.mem_of_getElem? h)).1
 exact ⟨a.toNat,by omega,by omega⟩
set_option maxHeartbeats 4000000 in
theorem ref8_Co {h:Heap} {w:GV} {g:Gr} (t:GrAt h w g) (hg:g.good=true) :
  Con Tryz.prog 29 #[.agg (gcells w g).toArray] h fun v h'=>Fr 0 0 h h'∧RefAt h' h.size h'.size v g.n (relM g 2):=by
 refine con_q45 ?_
 have hn:=(good_n hg).1
 have hcl:clampN (g.n:Int)=g.n:=by unfold clampN;omega
 have p0:Fr 0 0 h h:=.refl _ _ _
 have be:=t.fits.e
 have bo:=t.fits.o
 have hrl:=rlc_at t.l
 have hen:g.evs.length=g.n:=rfl
 unfold gcells
 simp -dsimp only [go_sem]
 intro b1 h1 n1
 have n1_a:=n1.at_
 have n1_z:=n1.size
 replace p0:=p0.F n1.f0
 have r1:=n1.row
 simp -dsimp only [go_sem]
 intro b2 h2 n2
 have n2_a:=n2.at_
 have n2_z:=n2.size
 replace p0:=p0.F n2.f0
 replace r1:=r1.F n2.f0
 have r2:=n2.row
 simp -dsimp only [go_sem,evs_len,r1.cell]
 refine call_of (ref1_New g.n h2) ?_
 rintro v3 h3 ⟨f3,t3⟩
 rw [hcl] at t3
 obtain ⟨-,z,Z,rfl,t3⟩:=t3
 obtain ⟨za,zc,rfl⟩:=t3.own.is
 have t3_a:=t3.own.at_
 have f3_z:=f3.size
 replace p0:=p0.F f3
 replace r1:=r1.F f3
 replace r2:=r2.F f3
 simp -dsimp only [go_sem]
 intro b4 h4 n4
 have n4_a:=n4.at_
 have n4_z:=n4.size
 replace p0:=p0.F n4.f0
 replace r1:=r1.F n4.f0
 replace r2:=r2.F n4.f0
 replace t3:=t3.fr n4.f0 (by omega)
 have r4:=n4.row
 simp -dsimp only [go_sem]
 refine Chk_intro (r4.W) fun h5 s5=>?_
 have s5_z:=s5.size
 replace p0:=p0.F s5.fr
 replace r1:=r1.F s5.fr
 replace r2:=r2.F s5.fr
 replace t3:=t3.fr s5.fr (by omega)
 replace r4:=s5.row r4
 try simp only [cl_int,cl_bool,cl_slice,cl_ptr,putAt_one,zs0,zs1,ivec_set,brow_upd] at r4
 simp -dsimp only [go_sem] at r4
 simp -dsimp only [go_sem]
 refine loop_intro (fun s:Nat×List (Int×Int)=>[(1,.pointer (some ⟨b1,0,none⟩)),(2,.pointer (some ⟨b2,0,none⟩)),(3,.pointer (some ⟨b4,0,none⟩)),(4,.int .i64 s.1)])
  (fun s h'=>s.1≤g.co.length∧Fr 0 0 h h'∧h5.size≤h'.size∧Rw h' b1 (gcells w g)∧Rw h' b2 [.int .i64 0,.slice none 0 0]∧Rw h' b4 [.int .i64 g.n,.slice za g.n zc]∧Tab h' h2.size h3.size (.slice za g.n zc) g.n g.n Z (ofM g.n s.2)∧s.2++(g.co.drop s.1).flatMap lpairs=coPairs g) (fun s=>g.co.length - s.1) (0,[]) ?_ ?_ ?_
 ·simp [Le,find]
 ·exact ⟨by omega,p0,by omega,r1,r2,r4,t3.congr fun i j _ _=>rfl,rfl⟩
 have gb:h.size≤b1∧b1<h2.size∧h.size≤b2∧b2<h2.size∧b1<b2∧h.size≤h2.size∧h2.size≤h3.size∧h3.size≤b4∧b4<h5.size∧h3.size≤h5.size:=by omega
 clear p0 r1 r2 r4 t3 t3_a n1_a n1_z n2_a n2_z n4_a n4_z s5_z f3_z
 rintro ⟨c,L⟩ h6 ⟨hc,p0,y6,r1,r2,r4,t3,hL⟩
 dsimp only at hc t3 hL ⊢
 unfold gcells at r1
 have p0_z:=p0.size
 have r1_l:=r1.lt
 have r2_l:=r2.lt
 have r4_l:=r4.lt
 by_cases hlt:c<g.co.length
 rotate_left
 ·obtain rfl:c=g.co.length:=by omega
  rw [List.drop_length] at hL
  simp only [List.flatMap_nil,List.append_nil] at hL
  simp -dsimp only [go_sem,Int.lt_irrefl,r1.cell,r4.cell]
  refine Chk_intro (r2.W) fun h9 s9=>?_
  have s9_z:=s9.size
  replace p0:=p0.F s9.fr
  replace r1:=r1.F s9.fr
  replace r4:=r4.F s9.fr
  replace t3:=t3.fr s9.fr (by omega)
  replace r2:=s9.row r2
  try simp only [cl_int,cl_bool,cl_slice,cl_ptr,putAt_one,zs0,zs1,ivec_set,brow_upd] at r2
  simp -dsimp only [go_sem,r2.cell]
  exact ⟨p0,hn,_,Z,rfl,((t3.mono (by omega) (by omega)).congr fun i j hi hj=>by rw [hL];rfl)⟩
 have e1:((c:Int)<(g.co.length:Int)):=by omega
 obtain ⟨ob,oo,hoe,la,lc,hlc,hlist⟩:=hrl c hlt
 have hnat:=fun {i:Nat} {a:Int}=>co_nat hg hlt (i:=i) (a:=a)
 have hll:=t.fits.l (g.co.getD c []) (by have:g.co[c]?=some (g.co.getD c []):=by { simp [hlt] };exact List.mem_of_getElem? this)
 have hdr:g.co.drop c=g.co.getD c [] :: g.co.drop (c+1):=by rw [List.drop_eq_getElem_cons hlt];congr 1;simp [hlt]
 rw [hdr,List.flatMap_cons] at hL
 generalize g.co.getD c []=l at hlist hll hL hlc hnat
 simp -dsimp only [go_sem,e1,r1.cell]
 refine loop_intro (fun s:Nat×List (Int×Int)=>[(1,.pointer (some ⟨b1,0,none⟩)),(2,.pointer (some ⟨b2,0,none⟩)),(3,.pointer (some ⟨b4,0,none⟩)),(4,.int .i64 c),(5,.int .i64 s.1)])
  (fun s h'=>s.1≤l.length∧Fr 0 0 h h'∧h5.size≤h'.size∧Rw h' b1 (gcells w g)∧Rw h' b2 [.int .i64 0,.slice none 0 0]∧Rw h' b4 [.int .i64 g.n,.slice za g.n zc]∧Tab h' h2.size h3.size (.slice za g.n zc) g.n g.n Z (ofM g.n s.2)∧s.2++(lpairs (l.drop s.1)++(g.co.drop (c+1)).flatMap lpairs)=coPairs g) (fun s=>l.length - s.1) (0,L) ?_ ?_ ?_
 ·simp [Le,find]
 ·exact ⟨by omega,p0,y6,r1,r2,r4,t3,hL⟩
 clear p0 y6 r1 r2 r4 t3 hL L
 rintro ⟨i,L⟩ h7 ⟨hi,p0,y7,r1,r2,r4,t3,hL⟩
 dsimp only at hi t3 hL ⊢
 unfold gcells at r1
 have p0_z:=p0.size
 have r1_l:=r1.lt
 have r2_l:=r2.lt
 have r4_l:=r4.lt
 obtain ⟨l1,l2⟩:=hlist h7 p0
 by_cases hil:i<l.length
 rotate_left
 ·obtain rfl:i=l.length:=by omega
  rw [List.drop_length] at hL
  simp -dsimp only [go_sem,e1,hoe,l1,Int.lt_irrefl,r1.cell]
  simp -dsimp (disch:=omega) only [wrap64]
  exact ⟨(c+1,L),by dsimp only;omega,by simp [Le,find],by dsimp only;omega,p0,by omega,r1,r2,r4,t3,hL⟩
 have e2:((i:Int)<(l.length:Int)):=by omega
 have hq:l[i]?=some l[i]:=by simp [hil]
 have hdi:l.drop i=l[i] :: l.drop (i+1):=List.drop_eq_getElem_cons hil
 rw [hdi] at hL
 obtain ⟨x,hx,hxn⟩:=hnat hq
 rw [hx] at hq hL
 have hpr:lpairs ((x:Int) :: l.drop (i+1))=(l.drop (i+1)).map (fun b=>((x:Int),b))++lpairs (l.drop (i+1)):=rfl
 rw [hpr,List.append_assoc] at hL
 obtain ⟨lb,lo,hle,hlc2⟩:=list_at (h:=h) (la:=la) (lc:=lc) (l:=l) (by omega) fun h' f=>(hlist h' f).2
 simp -dsimp only [go_sem,e1,hoe,l1,e2,r1.cell]
 simp -dsimp (disch:=omega) only [wrap64]
 refine loop_intro (fun s:Nat×List (Int×Int)=>[(1,.pointer (some ⟨b1,0,none⟩)),(2,.pointer (some ⟨b2,0,none⟩)),(3,.pointer (some ⟨b4,0,none⟩)),(4,.int .i64 c),(5,.int .i64 i),(6,.int .i64 (i+1+s.1:Nat))])
  (fun s h'=>i+1+s.1≤l.length∧Fr 0 0 h h'∧h5.size≤h'.size∧Rw h' b1 (gcells w g)∧Rw h' b2 [.int .i64 0,.slice none 0 0]∧Rw h' b4 [.int .i64 g.n,.slice za g.n zc]∧Tab h' h2.size h3.size (.slice za g.n zc) g.n g.n Z (ofM g.n s.2)∧s.2++((l.drop (i+1+s.1)).map (fun b=>((x:Int),b))++(lpairs (l.drop (i+1))++(g.co.drop (c+1)).flatMap lpairs))=coPairs g) (fun s=>l.length - (i+1) - s.1) (0,L) ?_ ?_ ?_
 ·simp [Le,find]
 ·exact ⟨by dsimp only;omega,p0,y7,r1,r2,r4,t3,hL⟩
 clear p0 y7 r1 r2 r4 t3 hL L l1 l2
 rintro ⟨j,L⟩ h8 ⟨hj,p0,y8,r1,r2,r4,t3,hL⟩
 dsimp only at hj t3 hL ⊢
 unfold gcells at r1
 have p0_z:=p0.size
 have r1_l:=r1.lt
 have r2_l:=r2.lt
 have r4_l:=r4.lt
 obtain ⟨l1,l2⟩:=hlist h8 p0
 by_cases hjl:i+1+j<l.length
 rotate_left
 ·have hnil:l.drop (i+1+j)=[]:=List.drop_eq_nil_of_le (by omega)
  rw [hnil] at hL
  have e3:¬ (((i+1+j:Nat):Int)<(l.length:Int)):=by omega
  simp -dsimp only [go_sem,e1,hoe,l1,e3,r1.cell]
  simp -dsimp (disch:=omega) only [wrap64]
  exact ⟨(i+1,L),by dsimp only;omega,by simp [Le,find],by dsimp only;omega,p0,by omega,r1,r2,r4,t3,hL⟩
 have e3:(((i+1+j:Nat):Int)<(l.length:Int)):=by omega
 have hq2:l[i+1+j]?=some l[i+1+j]:=by simp [hjl]
 have hdj:l.drop (i+1+j)=l[i+1+j] :: l.drop (i+1+j+1):=List.drop_eq_getElem_cons (by omega)
 rw [hdj,List.map_cons] at hL
 obtain ⟨y,hy,hyn⟩:=hnat hq2
 rw [hy] at hq2 hL
 have k1:=hlc2 h8 p0 i _ hq
 have k2:=hlc2 h8 p0 _ _ hq2
 simp -dsimp only [go_sem,e1,hoe,l1,e3,hle,e2,k1,r1.cell,r4.cell]
 refine Chk_intro (by omega) (t3.idx (p:=x) (by omega) fun b9 o9 c9=>?_)
 simp -dsimp only [go_sem,e1,hoe,l1,e3,hle,k2,c9,r1.cell]
 refine Chk_intro (by omega) ?_
 simp -dsimp only [go_sem]
 refine Chk_intro (t3.wr (by omega) (by omega)) fun h10 s10=>?_
 have s10_z:=s10.size
 have w_row:=t3.row x (by omega)
 have t_new:=t3.set (p:=x) (q:=y) (by omega) s10
 have s10.fr_z:=s10.fr.size
 replace p0:=p0.F s10.fr
 replace r1:=r1.F s10.fr
 replace r2:=r2.F s10.fr
 replace r4:=r4.F s10.fr
 simp -dsimp only [go_sem]
 simp -dsimp (disch:=omega) only [wrap64]
 refine ⟨(j+1,L++[((x:Int),(y:Int))]),by dsimp only;omega,by simp [Le,find];omega,by dsimp only;omega,p0,by omega,r1,r2,r4,t_new.congr fun u v hu hv=>?_,?_⟩
 ·rw [← putM_nat hxn hyn];exact ofM_snoc u v
 ·rw [List.append_assoc];exact hL
theorem ref8_Of {h:Heap} {w:GV} {g:Gr} (t:GrAt h w g) (hn:g.n≤256) {lv:Value} {l:List (Int×Int)} (hl:Rd 2 h lv l.length (pairsV l)) (hb:l.length≤4611686018427387904) :
  Con Tryz.prog 61 #[.agg (gcells w g).toArray,lv] h fun v h'=>Fr 0 0 h h'∧RefAt h' h.size h'.size v g.n (ofM g.n l):=by
 refine con_q51 ?_
 have hcl:clampN (g.n:Int)=g.n:=by unfold clampN;omega
 have p0:Fr 0 0 h h:=.refl _ _ _
 have hen:g.evs.length=g.n:=rfl
 have be:=t.fits.e
 unfold gcells
 simp -dsimp only [go_sem]
 intro b1 h1 n1
 have n1_z:=n1.az
 replace p0:=p0.F n1.f0
 have r1:=n1.row
 simp -dsimp only [go_sem]
 intro b2 h2 n2
 have n2_z:=n2.az
 replace p0:=p0.F n2.f0
 replace r1:=r1.F n2.f0
 have r2:=n2.row
 simp -dsimp only [go_sem,evs_len,r1.cell]
 refine call_of (ref1_Of g.n _ l h2 (hl.fr p0) hb) ?_
 rintro v3 h3 ⟨f3,t3⟩
 rw [hcl] at t3
 obtain ⟨-,z,Z,rfl,t3⟩:=t3
 obtain ⟨za,zc,rfl⟩:=t3.own.is
 have t3_a:=t3.own.at_
 have f3_z:=f3.size
 replace p0:=p0.F f3
 replace r1:=r1.F f3
 replace r2:=r2.F f3
 simp -dsimp only [go_sem]
 refine Chk_intro (r2.W) fun h5 s5=>?_
 have s5_z:=s5.size
 replace p0:=p0.F s5.fr
 replace r1:=r1.F s5.fr
 replace t3:=t3.fr s5.fr (by omega)
 replace r2:=s5.row r2
 try simp only [cl_int,cl_bool,cl_slice,cl_ptr,putAt_one,zs0,zs1,ivec_set,brow_upd] at r2
 simp -dsimp only [go_sem,r2.cell]
 exact ⟨p0,hn,_,Z,rfl,t3.mono (by omega) (by omega)⟩
theorem ref8_Rf {h:Heap} {w:GV} {g:Gr} (t:GrAt h w g) (hn:g.n≤256) :
  Con Tryz.prog 28 #[.agg (gcells w g).toArray] h fun v h'=>Fr 0 0 h h'∧RefAt h' h.size h'.size v g.n (relM g 1):=by
 refine con_q53 ?_
 have p0:Fr 0 0 h h:=.refl _ _ _
 have bf:=t.fits.f
 unfold gcells
 simp -dsimp only [go_sem]
 intro b1 h1 n1
 have n1_z:=n1.az
 replace p0:=p0.F n1.f0
 have r1:=n1.row
 simp -dsimp only [go_sem]
 intro b2 h2 n2
 have n2_z:=n2.az
 replace p0:=p0.F n2.f0
 replace r1:=r1.F n2.f0
 have r2:=n2.row
 simp -dsimp only [go_sem,r1.cell]
 refine call_of (ref8_Of (t.fr p0) hn (t.f.fr p0) (by omega)) ?_
 rintro v3 h3 ⟨f3,t3⟩
 obtain ⟨-,z,Z,rfl,t3⟩:=t3
 obtain ⟨za,zc,rfl⟩:=t3.own.is
 have t3_a:=t3.own.at_
 have f3_z:=f3.size
 replace p0:=p0.F f3
 replace r1:=r1.F f3
 replace r2:=r2.F f3
 simp -dsimp only [go_sem]
 refine Chk_intro (r2.W) fun h5 s5=>?_
 have s5_z:=s5.size
 replace p0:=p0.F s5.fr
 replace r1:=r1.F s5.fr
 replace t3:=t3.fr s5.fr (by omega)
 replace r2:=s5.row r2
 try simp only [cl_int,cl_bool,cl_slice,cl_ptr,putAt_one,zs0,zs1,ivec_set,brow_upd] at r2
 simp -dsimp only [go_sem,r2.cell]
 exact ⟨p0,hn,_,Z,rfl,t3.mono (by omega) (by omega)⟩
set_option maxHeartbeats 1000000 in
theorem ref8_Fr {h:Heap} {w:GV} {g:Gr} (t:GrAt h w g) (hg:g.good=true) :
  Con Tryz.prog 30 #[.agg (gcells w g).toArray] h fun v h'=>Fr 0 0 h h'∧RefAt h' h.size h'.size v g.n (relM g 9):=by
 refine con_q48 ?_
 have hn:=(good_n hg).1
 have p0:Fr 0 0 h h:=.refl _ _ _
 unfold gcells
 simp -dsimp only [go_sem]
 intro b1 h1 n1
 have n1_z:=n1.az
 replace p0:=p0.F n1.f0
 have r1:=n1.row
 simp -dsimp only [go_sem]
 intro b2 h2 n2
 have n2_z:=n2.az
 replace p0:=p0.F n2.f0
 replace r1:=r1.F n2.f0
 have r2:=n2.row
 simp -dsimp only [go_sem,r1.cell]
 refine call_of (ref8_Rf (t.fr p0) hn) ?_
 rintro v3 h3 ⟨f3,t3⟩
 have f3_z:=f3.size
 replace p0:=p0.F f3
 replace r1:=r1.F f3
 replace r2:=r2.F f3
 simp -dsimp only [go_sem,r1.cell]
 refine call_of (ref1_Inverse t3) ?_
 rintro v4 h4 ⟨f4,t4⟩
 have f4_z:=f4.size
 replace p0:=p0.F f4
 replace r1:=r1.F f4
 replace r2:=r2.F f4
 simp -dsimp only [go_sem,r1.cell]
 refine call_of (ref8_Co (t.fr p0) hg) ?_
 rintro v5 h5 ⟨f5,t5⟩
 have f5_z:=f5.size
 replace p0:=p0.F f5
 replace r1:=r1.F f5
 replace r2:=r2.F f5
 have t4_z:=f4.size
 replace t4:=t4.fr f5 (by omega)
 simp -dsimp only [go_sem,r1.cell]
 refine call_of (ref1_Comp t4 t5) ?_
 rintro v6 h6 ⟨f6,t6⟩
 rw [Nat.max_self] at t6
 obtain ⟨-,z,Z,rfl,t6⟩:=t6
 obtain ⟨za,zc,rfl⟩:=t6.own.is
 have t6_a:=t6.own.at_
 have f6_z:=f6.size
 replace p0:=p0.F f6
 replace r1:=r1.F f6
 replace r2:=r2.F f6
 simp -dsimp only [go_sem,r1.cell]
 refine Chk_intro (r2.W) fun h7 s7=>?_
 have s7_z:=s7.size
 replace p0:=p0.F s7.fr
 replace r1:=r1.F s7.fr
 replace t6:=t6.fr s7.fr (by omega)
 replace r2:=s7.row r2
 try simp only [cl_int,cl_bool,cl_slice,cl_ptr,putAt_one,zs0,zs1,ivec_set,brow_upd] at r2
 simp -dsimp only [go_sem,r2.cell]
 exact ⟨p0,hn,_,Z,rfl,t6.mono (by omega) (by omega)⟩
end Go.Proofs.Tst
/-
  GraphLaws.
-/
namespace Go.Proofs.Tst
open Go Go.Vc
theorem bools_at {h:Heap} {a:Option Addr} {n c:Nat} {l:List Bool} (w:Rd 1 h (.slice a n c) n (boolsV l)) (hn:0<n):∃ b o,a=some ⟨b,o,none⟩∧∀ h',Fr 0 0 h h'→∀ i x,l[i]?=some x→hcell h' b (o+i)=some (.bool x):=by
 obtain ⟨hl,a',c',k1,k2⟩:=w
 cases k1
 rcases k2 with k2 | ⟨b,o,k3,k4⟩
 ·omega
 ·exact ⟨b,o,k3,fun h' f i x hx=>f.keep (k4 i _ (boolsV_get hx)) (by omega)⟩
theorem kindsV_get {g:Gr} {k:Int} {i:Nat} (hi:i<g.n):(kindsV g k g.n)[i]?=some ((g.ev i).kind==k):=by
 unfold kindsV
 rw [List.getElem?_map,List.getElem?_take_of_lt hi,Gr.ev_get hi];rfl
end Go.Proofs.Tst
/-
  whole: are facts the document's?
-/
namespace Go.Proofs.Tst
open Go Go.Vc
end Go.Proofs.Tst
/-
  GraphDerives.
-/
namespace Go.Proofs.Tst
open Go Go.Vc
end Go.Proofs.Tst
/-
  Events changed in place.
-/
namespace Go.Proofs.Tst
open Go Go.Vc
def setMode (E:List Ev) (i:Nat) (m:Int):List Ev:=E.set i { E.getD i default with mode:=m }
@[simp] theorem length_setMode {E:List Ev} {i:Nat} {m:Int}:(setMode E i m).length=E.length:=by simp [setMode]
theorem evsV_setMode:∀ {E:List Ev} {i:Nat} {m:Int},i<E.length→(evsV E).set (i * 5+4) (.int .i64 m)=evsV (setMode E i m)
 | [],i,_,h=>by simp at h
 | e :: E,0,m,_=>rfl
 | e :: E,i+1,m,h=>by
  have ih:=evsV_setMode (E:=E) (i:=i) (m:=m) (by simpa using h)
  have h1:setMode (e :: E) (i+1) m=e :: setMode E i m:=by simp [setMode]
  have h2:e.cells.length=5:=rfl
  rw [h1,evsV_cons,evsV_cons,← ih,List.set_append_right _ _ (by omega),h2]
  congr 2;omega
theorem putAt_right {a:List Value}:∀ (ws r:List Value) (o:Nat),putAt (a++r) (a.length+o) ws=a++putAt r o ws
 | [],_,_=>rfl
 | v :: ws,r,o=>by
  show putAt ((a++r).set (a.length+o) v) (a.length+o+1) ws=a++putAt (r.set o v) (o+1) ws
  rw [List.set_append_right _ _ (by omega),Nat.add_sub_cancel_left,Nat.add_assoc]
  exact putAt_right ws _ _
theorem putAt_left {r:List Value}:∀ (ws a:List Value) (o:Nat),o+ws.length≤a.length→putAt (a++r) o ws=putAt a o ws++r
 | [],_,_,_=>rfl
 | v :: ws,a,o,h=>by
  show putAt ((a++r).set o v) (o+1) ws=putAt (a.set o v) (o+1) ws++r
  simp at h
  rw [List.set_append_left _ _ (by omega)]
  exact putAt_left ws _ _ (by simp;omega)
theorem evsV_put:∀ {E:List Ev} {i:Nat} {e:Ev},i<E.length→putAt (evsV E) (i * 5) e.cells=evsV (E.set i e)
 | [],i,_,h=>by simp at h
 | x :: E,0,e,_=>rfl
 | x :: E,i+1,e,h=>by
  have ih:=evsV_put (E:=E) (i:=i) (e:=e) (by simpa using h)
  have h2:(i+1) * 5=x.cells.length+i * 5:=by show _=5 + _;omega
  rw [List.set_cons_succ,evsV_cons,evsV_cons,← ih,h2]
  exact putAt_right _ _ _
theorem holder_ev {h:Heap} {b n c lo:Nat} {E:List Ev} (w:Holder 5 h (.slice (some ⟨b,0,none⟩) n c) n (evsV E) lo) {i:Nat} (hi:i<n) :
  Wr h b (i * 5+4) 1∧Wr h b (i * 5) 5∧(∀ h' m,Sto h h' b (i * 5+4) [.int .i64 m]→Holder 5 h' (.slice (some ⟨b,0,none⟩) n c) n (evsV (setMode E i m)) lo)∧∀ h' e,Sto h h' b (i * 5) e.cells→Holder 5 h' (.slice (some ⟨b,0,none⟩) n c) n (evsV (E.set i e)) lo:=by
 have hl:=w.1
 rw [length_evsV] at hl
 have hE:i<E.length:=by omega
 obtain ⟨b',c',rest,h1,h2,h3,h4⟩:=w.blk (by omega)
 cases h1
 refine ⟨h2.wr (by simp;omega),h2.wr (by simp;omega),fun h' m s=>⟨by simp;omega,.inr ⟨b,c,rest,rfl,?_,h3,h4⟩⟩,fun h' e s=>⟨by simp;omega,.inr ⟨b,c,rest,rfl,?_,h3,h4⟩⟩⟩
 ·have:=s.row h2
  rw [putAt_one,List.set_append_left _ _ (by simp;omega),evsV_setMode hE] at this
  exact this
 ·have:=s.row h2
  rw [putAt_left _ _ _ (by simp [Ev.cells];omega),evsV_put hE] at this
  exact this
section
variable {h h' : Heap} {q : GV} {g : Gr} {lo : Nat}
end
end Go.Proofs.Tst
/-
  Relations in memory, some at once; chains of steps.
-/
namespace Go.Proofs.Tst
open Go Go.Vc
abbrev Mx:=Nat→Nat→Bool
def PA (h:Heap) (v:Value) (n:Nat) (M:Mx):Prop:=∃ lo hi,ProgAt h lo hi v n M
section
variable {h h' : Heap} {v : Value} {n lo : Nat} {M N : Mx}
theorem PA.fr (t:PA h v n M) (f:Fr 0 0 h h'):PA h' v n M:=by obtain ⟨a,b,t⟩:=t;exact ⟨a,b,t.fr f (by omega)⟩
theorem PA.ptr (t:PA h v n M):∃ b,v=.pointer (some ⟨b,0,none⟩):=by obtain ⟨a,b,t⟩:=t;exact progPtr t
theorem PA.congr (t:PA h v n M) (e:∀ i j,i<n→j<n→M i j=N i j):PA h v n N:=by obtain ⟨a,b,t⟩:=t;exact ⟨a,b,t.congr e⟩
end
def UA (h:Heap) (lv:Value) (n:Nat) (M:Mx):Prop:=∃ L:List (Value×Nat×Mx),Rd 1 h lv L.length (L.map (·.1))∧RelsAt h L∧L.length≤65536∧maxN L=n∧∀ i j,i<n→j<n→anyM L i j=M i j
theorem maxN_same {n:Nat}:∀ {l:List (Value×Mx)},l≠[]→maxN (l.map fun x=>(x.1,n,x.2))=n:=by
 have key:∀ (l:List (Value×Mx)) (m:Nat),m≤n→(l.map fun x=>(x.1,n,x.2)).foldl (fun m (x:Value×Nat×Mx)=>max m x.2.1) m=if l=[] then m else n:=by
  intro l
  induction l with
  | nil=>intro m _;rfl
  | cons x l ih =>
   intro m hm
   simp only [List.map_cons,List.foldl_cons]
   rw [ih _ (by omega),if_neg (by simp:¬ x :: l=[])]
   split
   ·omega
   ·rfl
 intro l hl
 unfold maxN
 rw [key l 0 (Nat.zero_le _),if_neg hl]
theorem UA.mk {h:Heap} {b n:Nat} {M:Mx} (l:List (Value×Mx)) (r:Rw h b (l.map (·.1))) (hp:∀ x∈l,PA h x.1 n x.2) (hne:l≠[]) (hl:l.length≤65536) (hM:∀ i j,i<n→j<n→(l.any fun x=>x.2 i j)=M i j) :
  UA h (.slice (some ⟨b,0,none⟩) l.length l.length) n M:=by
 refine ⟨l.map fun x=>(x.1,n,x.2),?_,fun x hx=>?_,by rw [List.length_map];exact hl,maxN_same hne,fun i j hi hj=>?_⟩
 ·rw [List.length_map,List.map_map]
  exact Rw.rd (s:=1) r (by simp)
 ·obtain ⟨y,hy,rfl⟩:=List.mem_map.1 hx
  exact hp y hy
 ·rw [← hM i j hi hj]
  unfold anyM
  rw [List.any_map]
  congr 1
  funext x
  exact inN_in hi hj
theorem rel_UnionU {lv:Value} {n:Nat} {M:Mx} {h:Heap} (u:UA h lv n M) :
  Con Tryz.prog 45 #[lv] h fun v h'=>Fr 0 0 h h'∧ProgAt h' h.size h'.size v n M:=by
 obtain ⟨L,h1,h2,h3,h4,h5⟩:=u
 exact (rel_Union h1 h2 h3).mono fun v h' ⟨f,t⟩=>⟨f,by rw [h4] at t;exact t.congr h5⟩
def orM (l:List Mx):Mx:=fun i j=>l.any fun X=>X i j
theorem UA.mk' {h:Heap} {b n:Nat} (l:List (Value×Mx)) (r:Rw h b (l.map (·.1))) (hp:∀ x∈l,PA h x.1 n x.2) (hne:l≠[]) (hl:l.length≤65536):UA h (.slice (some ⟨b,0,none⟩) l.length l.length) n (orM (l.map (·.2))):=
 UA.mk l r hp hne hl fun i j _ _=>by unfold orM;rw [List.any_map];rfl
theorem pa_nil {h:Heap} {n:Nat}:∀ x∈([]:List (Value×Mx)),PA h x.1 n x.2:=fun x hx=>by cases hx
theorem pa_cons {h:Heap} {n:Nat} {v:Value} {M:Mx} {l:List (Value×Mx)} (a:PA h v n M) (t:∀ x∈l,PA h x.1 n x.2):∀ x∈(v,M) :: l,PA h x.1 n x.2:=fun x hx=>by
 rcases List.mem_cons.1 hx with rfl | hx
 ·exact a
 ·exact t x hx
def dM (f:Nat→Bool):Mx:=fun i j=>i==j&&f i
theorem exB_congr {n:Nat} {f g:Nat→Bool} (h:∀ k,k<n→f k=g k):exB n f=exB n g:=by
 unfold exB
 rw [Bool.eq_iff_iff,List.any_eq_true,List.any_eq_true]
 exact ⟨fun ⟨k,hk,e⟩=>⟨k,hk,by rw [← h k (List.mem_range.1 hk)];exact e⟩,fun ⟨k,hk,e⟩=>⟨k,hk,by rw [h k (List.mem_range.1 hk)];exact e⟩⟩
section
variable {n i j : Nat} {A B : Mx} {f : Nat → Bool}
theorem interM_in (hi:i<n) (hj:j<n):interM n A n B i j=(A i j&&B i j):=by unfold interM;rw [inN_in hi hj,inN_in hi hj]
theorem unionM_in (hi:i<n) (hj:j<n):unionM n A n B i j=(A i j||B i j):=by unfold unionM;rw [inN_in hi hj,inN_in hi hj]
theorem compM_in (hi:i<n) (hj:j<n):compM n A n B i j=exB n fun k=>A i k&&B k j:=by
 show exB n (fun k=>inN n A i k&&inN n B k j)=_
 exact exB_congr fun k hk=>by rw [inN_in hi hk,inN_in hk hj]
theorem exB_one (hi:i<n) {g:Nat→Bool}:(exB n fun k=>i==k&&g k)=g i:=by
 rw [Bool.eq_iff_iff,exB_true]
 constructor
 ·rintro ⟨k,hk,h⟩
  simp only [Bool.and_eq_true,beq_iff_eq] at h
  rw [h.1];exact h.2
 ·intro h;exact ⟨i,hi,by simp [h]⟩
theorem compM_dR (hi:i<n) (hj:j<n):compM n A n (dM f) i j=(A i j&&f j):=by
 rw [compM_in hi hj]
 have:(exB n fun k=>A i k&&dM f k j)=exB n fun k=>j==k&&(A i k&&f k):=exB_congr fun k _=>by
  unfold dM
  have:(k==j)=(j==k):=by rw [Bool.eq_iff_iff,beq_iff_eq,beq_iff_eq];exact eq_comm
  rw [this]
  cases A i k <;> cases (j==k) <;> cases f k <;> rfl
 rw [this,exB_one hj]
theorem compM_dL (hi:i<n) (hj:j<n):compM n (dM f) n A i j=(f i&&A i j):=by
 rw [compM_in hi hj]
 have:(exB n fun k=>dM f i k&&A k j)=exB n fun k=>i==k&&(f i&&A k j):=exB_congr fun k _=>by
  unfold dM
  cases A k j <;> cases (i==k) <;> cases f i <;> rfl
 rw [this,exB_one hi]
end
end Go.Proofs.Tst
/-
  The words' memory model in memory: its parts.
-/
namespace Go.Proofs.Tst
open Go Go.Vc
theorem kinds_len (g:Gr) (k:Int):(kindsV g k g.n).length=g.n:=by simp [kindsV];unfold Gr.n;omega
theorem atB_kinds {g:Gr} {k:Int} {i:Nat} (hi:i<g.n):atB (kindsV g k g.n) i=isK g k i:=atB_get (kindsV_get hi)
section
variable {h : Heap} {mb : Nat} {q : GV} {g : Gr} {c : Nat → Nat} {rd wr fe : Value} {d : Nat → Nat}
end
end Go.Proofs.Tst
/-
  The words' memory model: aob, all relations, the model of a graph, Check.
-/
namespace Go.Proofs.Tst
open Go Go.Vc
section
variable {h : Heap} {mb : Nat} {q : GV} {g : Gr} {c : Nat → Nat} {rd wr fe : Value} {d : Nat → Nat}
theorem words_rmw {words:Bool} (hg:(g.check words).1=0) {p:Int×Int} (hp:p∈g.rmw):∃ a b:Nat,p=((a:Int),(b:Int))∧a<b∧b<g.n:=by
 obtain ⟨-,-,-,-,-,h6,-⟩:=check_zero hg
 obtain ⟨b1,b2,b3⟩:=before_lt (rmw_before h6 hp)
 exact ⟨p.1.toNat,p.2.toNat,Prod.ext (by dsimp only;omega) (by dsimp only;omega),by omega,by omega⟩
end
end Go.Proofs.Tst
/-
  The words' memory model: all its relations.
-/
namespace Go.Proofs.Tst
open Go Go.Vc
section
variable {h : Heap} {mb : Nat} {q : GV} {g : Gr} {c : Nat → Nat} {rd wr fe : Value} {d : Nat → Nat}
end
end Go.Proofs.Tst
/-
  The words' memory model of a graph; Derive, Check.
-/
namespace Go.Proofs.Tst
open Go Go.Vc
theorem good_false {g:Gr} (h:(g.check false).1=0):g.good=true:=by unfold Gr.good;rw [h];simp
section
variable {h : Heap} {q : GV} {g : Gr}
end
end Go.Proofs.Tst
/-
  The events in another order that keeps po (plain).
-/
namespace Go.Proofs.Tst
open Go Go.Vc
namespace Relist
variable {g h : Gr} {s t : Nat → Nat}
end Relist
end Go.Proofs.Tst
/-
  What the source model's chains make (plain).
-/
namespace Go.Proofs.Tst
open Go Go.Vc
section
variable {g : Gr}
end
end Go.Proofs.Tst
/-
  The source's memory model in memory: its parts.
-/
namespace Go.Proofs.Tst
open Go Go.Vc
section
variable {h : Heap} {mb : Nat} {q : GV} {g : Gr}
end
end Go.Proofs.Tst
/-
  The source's memory model of a graph.
-/
namespace Go.Proofs.Tst
open Go Go.Vc
section
variable {h : Heap} {q : GV} {g : Gr}
end
end Go.Proofs.Tst
/-
  The words' memory model: Derive, Check.
-/
namespace Go.Proofs.Tst
open Go Go.Vc
theorem natsV_ints (l:List Nat):natsV l=intsV (l.map fun (x:Nat)=>(x:Int)):=by unfold natsV intsV;rw [List.map_map];rfl
theorem find_at {α:Type} {f:α→Bool} {l:List α} {i:Nat} {x:α} (h:l[i]?=some x) (hn:(l.take i).find? f=none) (hx:f x=true):l.find? f=some x:=by
 have hlt:=(List.getElem?_eq_some_iff.1 h).1
 have hd:l.drop i=x :: l.drop (i+1):=by rw [List.drop_eq_getElem_cons hlt];congr 1;exact (List.getElem?_eq_some_iff.1 h).2
 rw [← List.take_append_drop i l,List.find?_append,hn,hd]
 simp [hx]
theorem find_next {α:Type} {f:α→Bool} {l:List α} {i:Nat} {x:α} (h:l[i]?=some x) (hn:(l.take i).find? f=none) (hx:f x=false):(l.take (i+1)).find? f=none:=by
 rw [List.take_add_one,h,List.find?_append,hn]
 simp [hx]
section
variable {h : Heap} {q : GV} {g : Gr}
end
end Go.Proofs.Tst
/-
  The source's memory model: Derive, the axioms, Check.
-/
namespace Go.Proofs.Tst
open Go Go.Vc
theorem tornS_has {g:Gr} {p:Int×Int}:(inR g.n p.1&&inR g.n p.2&&compM g.n (relM g 9) g.n (relM g 2) p.1.toNat p.2.toNat)=tornS g p:=by
 unfold tornS
 cases h1:inR g.n p.1
 ·rfl
 cases h2:inR g.n p.2
 ·rfl
 unfold inR at h1 h2
 simp only [decide_eq_true_eq] at h1 h2
 rw [compM_in (by omega) (by omega)]
section
variable {h : Heap} {lo mb : Nat} {q : GV} {g : Gr} {c : Nat → Nat} {rd wr fe : Value} {d L : Nat → Nat}
end
end Go.Proofs.Tst
/-
  The source's memory model: Derive, Check.
-/
namespace Go.Proofs.Tst
open Go Go.Vc
section
variable {h : Heap} {q : GV} {g : Gr}
end
end Go.Proofs.Tst
/-
  Sequential consistency and TSO (plain).
-/
namespace Go.Proofs.Tst
open Go Go.Vc
def allM (g:Gr) (i j:Nat):Bool:=relM g 0 i j||relM g 1 i j||relM g 2 i j||relM g 9 i j
def fullB (g:Gr) (i:Nat):Bool:=isK g 3 i&&(isM g 5 i||isM g 15 i)
def tiedB (g:Gr) (i:Nat):Bool:=g.rmw.any fun p=>p.1==(i:Int)||p.2==(i:Int)
def keptM (g:Gr) (i j:Nat):Bool:=(relM g 0 i j&&(!isK g 3 i&&!isK g 3 j&&(isK g 1 i||isK g 2 j)))||(relM g 0 i j&&(tiedB g i||tiedB g j))||exB g.n fun f=>fullB g f&&relM g 0 i f&&relM g 0 f j
def globM (g:Gr) (i j:Nat):Bool:=keptM g i j||rfeM g i j||relM g 2 i j||relM g 9 i j
def scAx (g:Gr):Int×List Int:=
 if cycS g.n (allM g)≠[] then (1,natsI (cycS g.n (allM g)))
 else if atomS g≠[] then (2,atomS g)
 else (0,[])
def tsoAx (g:Gr):Int×List Int:=
 if cycS g.n (inM g)≠[] then (1,natsI (cycS g.n (inM g)))
 else if atomS g≠[] then (2,atomS g)
 else if cycS g.n (globM g)≠[] then (3,natsI (cycS g.n (globM g)))
 else (0,[])
section
variable {g : Gr}
end
end Go.Proofs.Tst
/-
  Sequential consistency and TSO: the axioms in a row (plain).
-/
namespace Go.Proofs.Tst
open Go Go.Vc
def scL (g:Gr) (k:Nat):List Int:=match k with | 0=>natsI (cycS g.n (allM g)) | _=>atomS g
def tsoL (g:Gr) (k:Nat):List Int:=match k with | 0=>natsI (cycS g.n (inM g)) | 1=>atomS g | _=>natsI (cycS g.n (globM g))
theorem natsI_nil {l:List Nat}:natsI l=[]↔l=[]:=by unfold natsI;simp
theorem scAx_at {g:Gr} {k:Nat} (hk:k<2) (h0:∀ l,l<k→scL g l=[]) (h1:scL g k≠[]):scAx g=(((k+1:Nat):Int),scL g k):=by
 unfold scAx
 have hk:k=0∨k=1:=by omega
 rcases hk with rfl | rfl
 ·rw [if_pos (show cycS g.n (allM g)≠[] from fun e=>h1 (natsI_nil.2 e))];rfl
 ·have e0:cycS g.n (allM g)=[]:=natsI_nil.1 (h0 0 (by decide))
  rw [if_neg (by simp [e0]),if_pos (show atomS g≠[] from h1)];rfl
theorem scAx_none {g:Gr} (h0:∀ l,l<2→scL g l=[]):scAx g=(0,[]):=by
 have e0:cycS g.n (allM g)=[]:=natsI_nil.1 (h0 0 (by decide))
 have e1:atomS g=[]:=h0 1 (by decide)
 unfold scAx
 rw [if_neg (by simp [e0]),if_neg (by simp [e1])]
theorem tsoAx_at {g:Gr} {k:Nat} (hk:k<3) (h0:∀ l,l<k→tsoL g l=[]) (h1:tsoL g k≠[]):tsoAx g=(((k+1:Nat):Int),tsoL g k):=by
 unfold tsoAx
 have hk:k=0∨k=1∨k=2:=by omega
 rcases hk with rfl | rfl | rfl
 ·rw [if_pos (show cycS g.n (inM g)≠[] from fun e=>h1 (natsI_nil.2 e))];rfl
 ·have e0:cycS g.n (inM g)=[]:=natsI_nil.1 (h0 0 (by decide))
  rw [if_neg (by simp [e0]),if_pos (show atomS g≠[] from h1)];rfl
 ·have e0:cycS g.n (inM g)=[]:=natsI_nil.1 (h0 0 (by decide))
  have e1:atomS g=[]:=h0 1 (by decide)
  rw [if_neg (by simp [e0]),if_neg (by simp [e1]),if_pos (show cycS g.n (globM g)≠[] from fun e=>h1 (natsI_nil.2 e))];rfl
theorem tsoAx_none {g:Gr} (h0:∀ l,l<3→tsoL g l=[]):tsoAx g=(0,[]):=by
 have e0:cycS g.n (inM g)=[]:=natsI_nil.1 (h0 0 (by decide))
 have e1:atomS g=[]:=h0 1 (by decide)
 have e2:cycS g.n (globM g)=[]:=natsI_nil.1 (h0 2 (by decide))
 unfold tsoAx
 rw [if_neg (by simp [e0]),if_neg (by simp [e1]),if_neg (by simp [e2])]
def keptP (g:Gr) (i j:Nat):Bool:=
 (relM g 0 i j&&isK g 1 i&&!isK g 3 j)||(relM g 0 i j&&!isK g 3 i&&isK g 2 j)||(exB g.n fun f=>relM g 0 i f&&fullB g f&&relM g 0 f j)||(relM g 0 i j&&tiedB g j)||(tiedB g i&&relM g 0 i j)
theorem keptP_in {g:Gr} {i j:Nat}:keptP g i j=keptM g i j:=by
 have hx:(exB g.n fun f=>relM g 0 i f&&fullB g f&&relM g 0 f j)=exB g.n fun f=>fullB g f&&relM g 0 i f&&relM g 0 f j:=by
  congr 1;funext f;cases relM g 0 i f <;> cases fullB g f <;> rfl
 unfold keptP keptM
 rw [hx]
 have k1:isK g 1 i=true→isK g 3 i=false:=fun h=>by unfold isK at *;simp only [beq_iff_eq] at h;rw [h];rfl
 have k2:isK g 2 j=true→isK g 3 j=false:=fun h=>by unfold isK at *;simp only [beq_iff_eq] at h;rw [h];rfl
 cases relM g 0 i j <;> cases h1:isK g 1 i <;> cases h3:isK g 3 i <;> cases h4:isK g 2 j <;> cases h5:isK g 3 j <;> cases tiedB g i <;> cases tiedB g j <;> cases (exB g.n fun f=>fullB g f&&relM g 0 i f&&relM g 0 f j) <;> simp_all
end Go.Proofs.Tst
/-
  A source graph as one of words (plain).
-/
namespace Go.Proofs.Tst
open Go Go.Vc
def mapMode (k m:Int):Int:=if k=3 then (if m=2 then 14 else 15) else if m=1 then 11 else if k=1 then 12 else 13
def pairB (g:Gr) (i:Nat):Bool:=g.rmw.any fun p=>p.1==(i:Int)
def lseB (g:Gr) (lse:Bool) (i:Nat):Bool:=lse&&(g.ev i).kind==1&&(g.ev i).mode==2&&!pairB g i
def mapEv (g:Gr) (lse:Bool) (i:Nat):Ev:={ g.ev i with mode:=if lseB g lse i=true then 16 else mapMode (g.ev i).kind (g.ev i).mode }
def rlxB (g:Gr) (i:Nat):Bool:=(g.ev i).kind==1&&(g.ev i).mode==1
def ctrlTo (g:Gr) (i k:Nat):List (Int×Int):=((List.range k).filter fun b=>relM g 0 i b).map fun (b:Nat)=>((i:Int),(b:Int))
def ctrlOf (g:Gr) (i:Nat):List (Int×Int):=if rlxB g i=true then ctrlTo g i g.n else []
def mapTo (g:Gr) (k:Nat):List (Int×Int):=(List.range k).flatMap (ctrlOf g)
def evsTo (g:Gr) (lse:Bool) (k:Nat):List Ev:=(List.range g.n).map fun j=>if j<k then mapEv g lse j else g.ev j
def mapG (g:Gr) (lse:Bool):Gr:=⟨g.cells,evsTo g lse g.n,g.rf,g.co,g.rmw,[],[],mapTo g g.n⟩
section
variable {g : Gr} {lse : Bool}
theorem ctrlTo_len {i k:Nat}:(ctrlTo g i k).length≤k:=by
 unfold ctrlTo
 rw [List.length_map]
 exact Nat.le_trans (List.length_filter_le _ _) (by simp)
theorem ctrlOf_len {i:Nat}:(ctrlOf g i).length≤g.n:=by
 unfold ctrlOf
 split
 ·exact ctrlTo_len
 ·simp
theorem mapTo_succ {k:Nat}:mapTo g (k+1)=mapTo g k++ctrlOf g k:=by unfold mapTo;rw [List.range_succ,List.flatMap_append];simp
theorem mapTo_len:∀ {k:Nat},(mapTo g k).length≤k * g.n
 | 0=>by simp [mapTo]
 | k+1=>by
  have ih:=mapTo_len (k:=k)
  have:=ctrlOf_len (g:=g) (i:=k)
  rw [mapTo_succ,List.length_append,Nat.add_mul];omega
@[simp] theorem evsTo_len {k:Nat}:(evsTo g lse k).length=g.n:=by unfold evsTo;simp
theorem evsTo_get {k i:Nat} (hi:i<g.n):(evsTo g lse k)[i]?=some (if i<k then mapEv g lse i else g.ev i):=by
 unfold evsTo
 rw [List.getElem?_map,List.getElem?_range hi];rfl
theorem ev_get {i:Nat} (hi:i<g.n):g.evs[i]?=some (g.ev i):=by
 unfold Gr.ev
 rw [List.getD_eq_getElem?_getD]
 have:i<g.evs.length:=hi
 rw [List.getElem?_eq_getElem this];rfl
theorem evsTo_zero:evsTo g lse 0=g.evs:=by
 apply List.ext_getElem?
 intro i
 by_cases hi:i<g.n
 ·rw [evsTo_get hi,ev_get hi];simp
 ·rw [List.getElem?_eq_none (by simp;omega),List.getElem?_eq_none (by exact Nat.le_of_not_lt hi)]
theorem evsTo_succ {k:Nat} (hk:k<g.n):evsTo g lse (k+1)=(evsTo g lse k).set k (mapEv g lse k):=by
 apply List.ext_getElem?
 intro i
 by_cases hi:i<g.n
 ·rw [evsTo_get hi,List.getElem?_set]
  by_cases he:k=i
  ·subst he;simp [hk]
  ·rw [if_neg he,evsTo_get hi]
   by_cases h1:i<k
   ·rw [if_pos h1,if_pos (by omega)]
   ·rw [if_neg h1,if_neg (by omega)]
 ·rw [List.getElem?_eq_none (by simp;omega),List.getElem?_eq_none (by simp;omega)]
theorem mapG_n:(mapG g lse).n=g.n:=by show (evsTo g lse g.n).length=g.n;simp
end
end Go.Proofs.Tst
/-
  The order of a graph's events: where the graph is sequentially consistent there is one (plain).
-/
namespace Go.Proofs.Tst
open Go Go.Vc
section
variable {n : Nat} {M : Nat → Nat → Bool} {F : Nat → Nat} {S : Nat → Int}
end
/-! ### The order -/
section
variable {g : Gr}
structure PairOk (g:Gr) (a b:Nat):Prop where
 la:a<g.n
 lb:b<g.n
 ka:(g.ev a).kind=1
 kb:(g.ev b).kind=2
 po:relM g 0 a b=true
 nx:∀ i,a<i→i<b→(g.ev i).thread≠(g.ev a).thread
 loc:(g.ev a).loc=(g.ev b).loc
theorem pair_ok (hg:g.good=true) {p:Int×Int} (hp:p∈g.rmw):∃ a b:Nat,p=((a:Int),(b:Int))∧PairOk g a b:=by
 obtain ⟨words,hz⟩:=good_check hg
 obtain ⟨-,-,-,-,-,h6,-⟩:=check_iff.1 hz
 have hok:=(rmw_iff.1 h6).2 p hp
 unfold rmwOk Gr.is Gr.isNext at hok
 simp only [Bool.and_eq_true,decide_eq_true_eq,beq_iff_eq,List.all_eq_true,List.mem_range'_1,Bool.not_eq_true',beq_eq_false_iff_ne] at hok
 obtain ⟨⟨⟨⟨⟨a1,a2⟩,a3⟩,⟨b1,b2⟩,b3⟩,c1,c2⟩,d⟩:=hok
 obtain ⟨x,y⟩:=p
 obtain ⟨a,rfl⟩:∃ a:Nat,x=a:=⟨x.toNat,by dsimp only at a1;omega⟩
 obtain ⟨b,rfl⟩:∃ b:Nat,y=b:=⟨y.toNat,by dsimp only at b1;omega⟩
 simp only [Int.toNat_natCast] at a3 b3 c2 d
 dsimp only at a2 b2 c1
 exact ⟨a,b,rfl,by omega,by omega,a3,b3,c1,fun i h1 h2=>c2 i (by omega),d⟩
end
end Go.Proofs.Tst
/-
  Orders of a graph's events: what is right; the replay (plain).
-/
namespace Go.Proofs.Tst
open Go Go.Vc
section
variable {g : Gr}
namespace Right
variable {m : List Nat}
end Right
end
/-! ### The order that is made -/
section
variable {n : Nat} {N : Nat → Nat → Bool} {F : Nat → Nat} {S : Nat → Int}
end
section
variable {g : Gr} {m : List Nat}
end
end Go.Proofs.Tst
/-
  Orders of a graph's events: each write stands at its place of its cell's list (plain).
-/
namespace Go.Proofs.Tst
open Go Go.Vc
section
variable {g : Gr}
end
end Go.Proofs.Tst
/-
  Orders of a graph's events: the forms that the code works out (plain).
-/
namespace Go.Proofs.Tst
open Go Go.Vc
section
variable {g : Gr}
end
end Go.Proofs.Tst
/-
  The document's relations, some at once; its lists of truths.
-/
namespace Go.Proofs.Tst
open Go Go.Vc
def RA (h:Heap) (v:Value) (n:Nat) (M:Mx):Prop:=∃ lo hi,RefAt h lo hi v n M
theorem RA.fr {h h':Heap} {v:Value} {n:Nat} {M:Mx} (t:RA h v n M) (f:Fr 0 0 h h'):RA h' v n M:=by obtain ⟨a,b,t⟩:=t;exact ⟨a,b,t.fr f (by omega)⟩
theorem RA.is {h:Heap} {v:Value} {n:Nat} {M:Mx} (t:RA h v n M):∃ a c,v=.agg #[.int .i64 n,.slice a n c]:=by
 obtain ⟨_,_,_,s,R,rfl,t⟩:=t
 obtain ⟨a,c,rfl⟩:=t.own.is
 exact ⟨a,c,rfl⟩
theorem RefAt.congr {h:Heap} {lo hi:Nat} {v:Value} {n:Nat} {M N:Mx} (t:RefAt h lo hi v n M) (e:∀ i j,i<n→j<n→M i j=N i j):RefAt h lo hi v n N:=by
 obtain ⟨hn,s,R,hv,ht⟩:=t;exact ⟨hn,s,R,hv,ht.congr e⟩
theorem RA.congr {h:Heap} {v:Value} {n:Nat} {M N:Mx} (t:RA h v n M) (e:∀ i j,i<n→j<n→M i j=N i j):RA h v n N:=by obtain ⟨a,b,t⟩:=t;exact ⟨a,b,RefAt.congr t e⟩
def refCells (n:Nat) (ss:List Value):List Value:=ss.flatMap fun s=>[.int .i64 n,s]
@[simp] theorem length_refCells (n:Nat):∀ ss:List Value,(refCells n ss).length=ss.length * 2
 | []=>rfl
 | s :: ss=>by show (_ :: _ :: refCells n ss).length=_;simp [length_refCells n ss];omega
theorem refCells_get {n:Nat}:∀ {ss:List Value} {i:Nat} {s:Value},ss[i]?=some s→(refCells n ss)[i * 2]?=some (.int .i64 n)∧(refCells n ss)[i * 2+1]?=some s
 | [],i,s,h=>by simp at h
 | x :: ss,0,s,h=>by simp at h;subst h;exact ⟨rfl,rfl⟩
 | x :: ss,i+1,s,h=>by
  have:=refCells_get (n:=n) (ss:=ss) (i:=i) (s:=s) (by simpa using h)
  rw [show (i+1) * 2=i * 2+2 from by omega]
  exact this
def CR (h:Heap) (lv:Value) (n:Nat) (l:List Mx):Prop:=∃ ss:List Value,ss.length=l.length∧Rd 2 h lv ss.length (refCells n ss)∧ss.length≤65536∧∀ (i:Nat) (s:Value) (M:Mx),ss[i]?=some s→l[i]?=some M→RA h (.agg #[.int .i64 n,s]) n M
theorem CR.mk {h:Heap} {b n:Nat} (l:List (Value×Mx)) (r:Rw h b (refCells n (l.map (·.1)))) (hp:∀ x∈l,RA h (.agg #[.int .i64 n,x.1]) n x.2) (hl:l.length≤65536):CR h (.slice (some ⟨b,0,none⟩) l.length l.length) n (l.map (·.2)):=by
 refine ⟨l.map (·.1),by simp,?_,by simpa using hl,fun i w M h1 h2=>?_⟩
 ·rw [List.length_map];exact Rw.rd (s:=2) r (by simp)
 ·rw [List.getElem?_map,Option.map_eq_some_iff] at h1 h2
  obtain ⟨x,hx,rfl⟩:=h1
  obtain ⟨y,hy,rfl⟩:=h2
  rw [hx] at hy;cases hy
  exact hp x (List.mem_of_getElem? hx)
theorem ra_nil {h:Heap} {n:Nat}:∀ x∈([]:List (Value×Mx)),RA h (.agg #[.int .i64 n,x.1]) n x.2:=fun x hx=>by cases hx
theorem ra_cons {h:Heap} {n:Nat} {v:Value} {M:Mx} {l:List (Value×Mx)} (a:RA h (.agg #[.int .i64 n,v]) n M) (t:∀ x∈l,RA h (.agg #[.int .i64 n,x.1]) n x.2):∀ x∈(v,M) :: l,RA h (.agg #[.int .i64 n,x.1]) n x.2:=fun x hx=>by
 rcases List.mem_cons.1 hx with rfl | hx
 ·exact a
 ·exact t x hx
def oM (n:Nat) (A:Mx) (l:List Mx):Mx:=l.foldl (fun X Y=>unionM n X n Y) A
theorem oM_in {n i j:Nat} (hi:i<n) (hj:j<n):∀ (l:List Mx) (A:Mx),oM n A l i j=(A i j||l.any fun X=>X i j)
 | [],A=>by simp [oM]
 | B :: l,A=>by
  show oM n (unionM n A n B) l i j=_
  rw [oM_in hi hj l,unionM_in hi hj,List.any_cons,Bool.or_assoc]
theorem ref12_any {lv:Value} {n:Nat} {A:Mx} {l:List Mx} {h:Heap} (hl:CR h lv n (A :: l)) :
  Con Tryz.prog 24 #[lv] h fun v h'=>Fr 0 0 h h'∧RA h' v n (oM n A l)∧(l≠[]→RefAt h' h.size h'.size v n (oM n A l)):=by
 refine con_q28 ?_
 obtain ⟨ss,hwl,hr,hlen,hp⟩:=hl
 obtain ⟨la,lc,rfl⟩:=hr.is
 have hsl:ss.length=l.length+1:=by simpa using hwl
 have p0:Fr 0 0 h h:=.refl _ _ _
 obtain ⟨hl1,a',c',k1,k2⟩:=hr
 cases k1
 rcases k2 with k2 | ⟨b,o,rfl,hc⟩
 ·omega
 have h0:ss[0]?=some ss[0]:=List.getElem?_eq_getElem (by omega)
 have t0:=hp 0 _ A h0 rfl
 generalize ss[0]=s0 at h0 t0
 obtain ⟨a0,c0,e0⟩:=t0.is
 simp only [Value.agg.injEq,Array.mk.injEq,List.cons.injEq,and_true,true_and] at e0
 subst e0
 simp -dsimp only [go_sem]
 intro b2 h1 n1
 have n1_a:=n1.at_
 have n1_z:=n1.size
 replace p0:=p0.F n1.f0
 have r2:=n1.row
 obtain ⟨k3,k4⟩:=refCells_get (n:=n) h0
 have k3:=p0.keep (hc _ _ k3) (by omega)
 have k4:=p0.keep (hc _ _ k4) (by omega)
 have e1:((0:Int)<(ss.length:Int)):=by omega
 replace k3:hcell h1 b (o+Int.toNat 0 * 2)=some (.int .i64 n):=k3
 replace k4:hcell h1 b (o+Int.toNat 0 * 2+1)=some (.slice a0 n c0):=by rw [Nat.add_assoc];exact k4
 simp -dsimp only [go_sem,e1]
 simp -dsimp only [go_sem,k3,k4]
 intro b3 h2 n3
 have n3_a:=n3.at_
 have n3_z:=n3.size
 replace p0:=p0.F n3.f0
 replace r2:=r2.F n3.f0
 have r3:=n3.row
 simp -dsimp only [go_sem]
 refine Chk_intro (r3.W) fun h3 s3=>?_
 have s3_z:=s3.size
 replace p0:=p0.F s3.fr
 replace r2:=r2.F s3.fr
 replace r3:=s3.row r3
 try simp only [cl_int,cl_bool,cl_slice,cl_ptr,putAt_one,zs0,zs1,ivec_set,brow_upd] at r3
 have th:=t0
 replace r3:Rw h3 b3 [.int .i64 n,.slice a0 n c0]:=r3
 have gb:h.size≤b2∧b2<b3∧b3<h3.size:=by omega
 simp -dsimp only [go_sem]
 refine loop_intro (fun j:Nat=>[(0,.slice (some ⟨b,o,none⟩) ss.length lc),(2,.pointer (some ⟨b2,0,none⟩)),(3,.pointer (some ⟨b3,0,none⟩)),(4,.int .i64 (j+1:Nat))])
  (fun j h'=>j≤l.length∧Fr 0 0 h h'∧h3.size≤h'.size∧Rw h' b2 [.int .i64 0,.slice none 0 0]∧∃ s,Rw h' b3 [.int .i64 n,s]∧∀ h2,Fr b2 (b2+1) h' h2→RA h2 (.agg #[.int .i64 n,s]) n (oM n A (l.take j))∧(j≠0→RefAt h2 h3.size h'.size (.agg #[.int .i64 n,s]) n (oM n A (l.take j)))) (fun j=>l.length - j) 0 ?_ ?_ ?_
 ·simp [Le,find]
 ·exact ⟨by omega,p0,by omega,r2,_,r3,fun h2 f2=>⟨th.fr (p0.fresh f2 (by omega)),fun hz=>absurd rfl hz⟩⟩
 clear p0 r2 r3 t0 th k3 k4 n1_a n1_z n3_a n3_z s3_z
 rintro j h4 ⟨hj,p0,y4,r2,s,r3,T⟩
 have p0_z:=p0.size
 have r2_l:=r2.lt
 have r3_l:=r3.lt
 have t0:=(T h4 (.refl _ _ _)).1
 obtain ⟨a1,c1,e0⟩:=t0.is
 simp only [Value.agg.injEq,Array.mk.injEq,List.cons.injEq,and_true,true_and] at e0
 subst e0
 by_cases hlt:j<l.length
 ·have e2:(((j+1:Nat):Int)<(ss.length:Int)):=by omega
  have hs:ss[j+1]?=some ss[j+1]:=List.getElem?_eq_getElem (by omega)
  have hM:(A :: l)[j+1]?=some l[j]:=by rw [List.getElem?_cons_succ];exact List.getElem?_eq_getElem hlt
  have tw:=(hp _ _ _ hs hM).fr p0
  generalize ss[j+1]=s1 at hs tw
  have hsu:l.take (j+1)=l.take j++[l[j]]:=by rw [List.take_add_one,List.getElem?_eq_getElem hlt];rfl
  generalize l[j]=B at tw hsu
  obtain ⟨a2,c2,e0⟩:=tw.is
  simp only [Value.agg.injEq,Array.mk.injEq,List.cons.injEq,and_true,true_and] at e0
  subst e0
  obtain ⟨k3,k4⟩:=refCells_get (n:=n) hs
  have k3:=p0.keep (hc _ _ k3) (by omega)
  have k4:=p0.keep (hc _ _ k4) (by omega)
  rw [← Nat.add_assoc] at k4
  obtain ⟨_,_,u0⟩:=t0
  obtain ⟨_,_,u1⟩:=tw
  simp -dsimp only [go_sem,e2,r3.cell]
  simp -dsimp only [go_sem,k3,k4]
  refine call_of (ref1_Union u0 u1) ?_
  rintro v5 h5 ⟨f5,u5⟩
  rw [Nat.max_self] at u5
  have f5_z:=f5.size
  replace p0:=p0.F f5
  replace r2:=r2.F f5
  replace r3:=r3.F f5
  have t5:RA h5 v5 n (oM n A (l.take (j+1))):=by
   rw [hsu];unfold oM;rw [List.foldl_append];exact ⟨_,_,u5⟩
  obtain ⟨a3,c3,e0⟩:=t5.is
  subst e0
  have hz5:h3.size≤h5.size:=by omega
  simp -dsimp only [go_sem]
  have u5t:=u5
  refine Chk_intro (r3.W) fun h6 s6=>?_
  have s6_z:=s6.size
  replace p0:=p0.F s6.fr
  replace r2:=r2.F s6.fr
  replace r3:=s6.row r3
  try simp only [cl_int,cl_bool,cl_slice,cl_ptr,putAt_one,zs0,zs1,ivec_set,brow_upd] at r3
  have t6:∀ h2,Fr b2 (b2+1) h6 h2→RA h2 (.agg #[.int .i64 n,.slice a3 n c3]) n (oM n A (l.take (j+1)))∧(j+1≠0→RefAt h2 h3.size h6.size (.agg #[.int .i64 n,.slice a3 n c3]) n (oM n A (l.take (j+1)))):=fun h2 f2=>by
   have w:=(u5.fr s6.fr (by omega)).fr f2 (by omega)
   rw [hsu];unfold oM;rw [List.foldl_append];exact ⟨⟨_,_,w⟩,fun _=>w.mono (by omega) (by omega)⟩
  replace r3:Rw h6 b3 [.int .i64 n,.slice a3 n c3]:=r3
  simp -dsimp only [go_sem]
  simp -dsimp (disch:=omega) only [wrap64]
  exact ⟨j+1,by omega,by simp [Le,find],by omega,p0,by omega,r2,_,r3,t6⟩
 ·obtain rfl:j=l.length:=by omega
  have e2:¬ (((l.length+1:Nat):Int)<(ss.length:Int)):=by omega
  rw [List.take_length] at t0
  simp -dsimp only [go_sem,e2,r3.cell]
  refine Chk_intro (r2.W) fun h5 s5=>?_
  have s5_z:=s5.size
  replace p0:=p0.F s5.fr
  replace r3:=r3.F s5.fr
  replace r2:=s5.row r2
  try simp only [cl_int,cl_bool,cl_slice,cl_ptr,putAt_one,zs0,zs1,ivec_set,brow_upd] at r2
  replace r2:Rw h5 b2 [.int .i64 n,.slice a1 n c1]:=r2
  simp -dsimp only [go_sem,r2.cell]
  rw [List.take_length] at T
  have w:=T h5 s5.fr
  exact ⟨p0,w.1,fun hl0=>(w.2 (by intro e;exact hl0 (List.eq_nil_of_length_eq_zero e))).mono (by omega) (by omega)⟩
end Go.Proofs.Tst
/-
  The document's Both and Either; the points that have some modes.
-/
namespace Go.Proofs.Tst
open Go Go.Vc
def bothL (n:Nat) (f:Nat→Bool):List Bool:=(List.range n).map f
theorem bothL_succ (n:Nat) (f:Nat→Bool):bothL (n+1) f=bothL n f++[f n]:=by simp [bothL,List.range_succ]
theorem list_atB {l:List Bool} {i:Nat} (hi:i<l.length):l[i]?=some (atB l i):=by simp [atB,hi]
theorem ref8_Both {av bv:Value} {la lb:List Bool} {n:Nat} {h:Heap} (ha:Rd 1 h av la.length (boolsV la)) (hb:Rd 1 h bv lb.length (boolsV lb)) (ea:la.length=n) (eb:lb.length=n) (hn:n≤140737488355328) :
  Con Tryz.prog 63 #[av,bv] h fun v h'=>Fr 0 0 h h'∧Holder 1 h' v n (boolsV (bothL n fun i=>atB la i&&atB lb i)) h.size:=by
 refine con_q43 ?_
 obtain ⟨aa,ac,rfl⟩:=ha.is
 obtain ⟨ba,bc,rfl⟩:=hb.is
 have p0:Fr 0 0 h h:=.refl _ _ _
 simp -dsimp only [go_sem]
 refine loop_intro (fun s:Nat×Value=>[(0,.slice aa la.length ac),(1,.slice ba lb.length bc),(5,s.2),(6,.int .i64 s.1)])
  (fun s h'=>s.1≤n∧Fr 0 0 h h'∧Holder 1 h' s.2 s.1 (boolsV (bothL s.1 fun i=>atB la i&&atB lb i)) h.size) (fun s=>n - s.1) (0,.slice none 0 0) ?_ ?_ ?_
 ·simp [Le,find]
 ·exact ⟨by omega,p0,.none _ _ _⟩
 clear p0
 rintro ⟨i,v⟩ h1 ⟨hi,p0,o1⟩
 dsimp only at hi o1 ⊢
 have p0_z:=p0.size
 have o1_l:=o1.top
 by_cases hlt:i<n
 ·have e1:((i:Int)<(la.length:Int)):=by omega
  have e2:((i:Int)<(lb.length:Int)):=by omega
  obtain ⟨ab,ao,rfl,hac⟩:=bools_at ha (by omega)
  obtain ⟨bb,bo,rfl,hbc⟩:=bools_at hb (by omega)
  have k1:=hac h1 p0 i _ (list_atB (by omega))
  have k2:=hbc h1 p0 i _ (list_atB (by omega))
  obtain ⟨va,vc,rfl⟩:=o1.is
  have o1_a:=o1.at_
  have hs:=bothL_succ i fun i=>atB la i&&atB lb i
  generalize atB la i=x at k1 hs
  generalize atB lb i=y at k2 hs
  cases x
  ·simp -dsimp only [go_sem,e1,e2,k1]
   intro b2 h2 n2
   have n2_a:=n2.at_
   have n2_z:=n2.size
   replace p0:=p0.F n2.f0
   replace o1:=o1.fr n2.f0 (by have:=o1.at_;omega)
   have r2:=n2.row
   simp -dsimp only [go_sem,r2.cell]
   refine o1.append (by omega) rfl (by omega) (by simp) (by omega) fun v3 h3 o_new f3 e_app=>?_
   have f3_z:=f3.size
   have o_at:=o1.at_
   replace p0:=p0.F f3
   replace r2:=r2.F f3
   clear o_at e_app
   replace o1:=o_new
   have o1_l:=o1.top
   simp -dsimp only [go_sem]
   simp -dsimp (disch:=omega) only [wrap64]
   refine ⟨(i+1,v3),by dsimp only;omega,by simp [Le,find],by dsimp only;omega,p0,?_⟩
   dsimp only
   rw [hs,boolsV_append];exact o1
  ·simp -dsimp only [go_sem,e1,e2,k1,k2]
   intro b2 h2 n2
   have n2_a:=n2.at_
   have n2_z:=n2.size
   replace p0:=p0.F n2.f0
   replace o1:=o1.fr n2.f0 (by have:=o1.at_;omega)
   have r2:=n2.row
   simp -dsimp only [go_sem,r2.cell]
   refine o1.append (by omega) rfl (by omega) (by simp) (by omega) fun v3 h3 o_new f3 e_app=>?_
   have f3_z:=f3.size
   have o_at:=o1.at_
   replace p0:=p0.F f3
   replace r2:=r2.F f3
   clear o_at e_app
   replace o1:=o_new
   have o1_l:=o1.top
   simp -dsimp only [go_sem]
   simp -dsimp (disch:=omega) only [wrap64]
   refine ⟨(i+1,v3),by dsimp only;omega,by simp [Le,find],by dsimp only;omega,p0,?_⟩
   dsimp only
   rw [hs,boolsV_append];exact o1
 ·obtain rfl:i=n:=by omega
  have e1:¬ ((i:Int)<(la.length:Int)):=by omega
  simp -dsimp only [go_sem,e1]
  exact ⟨p0,o1⟩
end Go.Proofs.Tst
/-
  The graphs of two cells that the laws lay.
-/
namespace Go.Vc
open Go
theorem Fr.wide {l r b:Nat} {h h':Heap} (f:Fr l r h h') (hr:r≤b):Fr 0 b h h':=⟨f.size,fun x hx hc=>f.old x hx (by omega)⟩
end Go.Vc
namespace Go.Proofs.Tst
open Go Go.Vc
def twoG (m:Int) (E:List Ev) (rf:List (Int×Int)) (x y:List Int):Gr:=⟨2,[⟨-1,2,0,0,m⟩,⟨-1,2,1,0,m⟩]++E,rf,[[0]++x,[1]++y],[],[],[],[]⟩
theorem nilP {h:Heap}:Rd 2 h (.slice none ([]:List (Int×Int)).length 0) ([]:List (Int×Int)).length (pairsV []):=⟨rfl,_,_,rfl,.inl rfl⟩
end Go.Proofs.Tst
/-
  law11: says, buffering, passing.
-/
namespace Go.Proofs.Tst
open Go Go.Vc
def bufE (w r:Int):List Ev:=[⟨0,2,0,1,w⟩,⟨0,1,1,0,r⟩,⟨1,2,1,1,w⟩,⟨1,1,0,0,r⟩]
def bufG (m w r:Int):Gr:=twoG m (bufE w r) [(1,3),(0,5)] [2] [4]
end Go.Proofs.Tst
/-
  law10: two, says, buffering, passing, fenced.
-/
namespace Go.Proofs.Tst
open Go Go.Vc
end Go.Proofs.Tst
/-
  Go's library: Clone of events and of pairs; Grow, Concat.
-/
namespace Go.Proofs.Tst
open Go Go.Vc
theorem slices_CloneE {a:Option Addr} {n c:Nat} {xs:List Value} {h:Heap} (hr:Rd 5 h (.slice a n c) n xs) (hoc:xs.all Value.oneCell'=true) (hb:n≤65536) :
  Con Tryz.prog 68 #[.slice a n c] h fun v h'=>Fr 0 0 h h'∧Holder 5 h' v n xs h.size:=by
 refine con_q102 ?_
 have p0:Fr 0 0 h h:=.refl _ _ _
 have hl:=hr.1
 cases a with
 | none =>
  obtain ⟨-,a',c',h1,h2⟩:=hr
  cases h1
  have hn:n=0:=by rcases h2 with h2 | ⟨b,o,h2,-⟩ <;> simp_all
  subst hn
  obtain rfl:xs=[]:=List.eq_nil_of_length_eq_zero (by simpa using hl)
  simp -dsimp only [go_sem]
  exact ⟨p0,.none _ _ _⟩
 | some a =>
  simp -dsimp only [go_sem]
  intro b1 h1 n1
  have n1_z:=n1.az
  replace p0:=p0.F n1.f0
  have r1:=n1.row
  have o1:Holder 5 h1 (.slice (some ⟨b1,0,none⟩) 0 0) 0 [] h.size:=⟨rfl,.inr ⟨b1,0,[],rfl,r1,rfl,by omega⟩⟩
  simp -dsimp only [go_sem]
  refine o1.appendRd (hr.fr p0) (by omega) rfl (by omega) hoc (by omega) fun v2 h2 o2 f2 e2=>?_
  simp -dsimp only [go_sem]
  rw [Nat.zero_add,List.nil_append] at o2
  exact ⟨p0.fresh f2 (by simp [bl,bh];omega),o2⟩
theorem slices_CloneP {a:Option Addr} {n c:Nat} {xs:List Value} {h:Heap} (hr:Rd 2 h (.slice a n c) n xs) (hoc:xs.all Value.oneCell'=true) (hb:n≤65536) :
  Con Tryz.prog 69 #[.slice a n c] h fun v h'=>Fr 0 0 h h'∧Holder 2 h' v n xs h.size:=by
 refine con_q103 ?_
 have p0:Fr 0 0 h h:=.refl _ _ _
 have hl:=hr.1
 cases a with
 | none =>
  obtain ⟨-,a',c',h1,h2⟩:=hr
  cases h1
  have hn:n=0:=by rcases h2 with h2 | ⟨b,o,h2,-⟩ <;> simp_all
  subst hn
  obtain rfl:xs=[]:=List.eq_nil_of_length_eq_zero (by simpa using hl)
  simp -dsimp only [go_sem]
  exact ⟨p0,.none _ _ _⟩
 | some a =>
  simp -dsimp only [go_sem]
  intro b1 h1 n1
  have n1_z:=n1.az
  replace p0:=p0.F n1.f0
  have r1:=n1.row
  have o1:Holder 2 h1 (.slice (some ⟨b1,0,none⟩) 0 0) 0 [] h.size:=⟨rfl,.inr ⟨b1,0,[],rfl,r1,rfl,by omega⟩⟩
  simp -dsimp only [go_sem]
  refine o1.appendRd (hr.fr p0) (by omega) rfl (by omega) hoc (by omega) fun v2 h2 o2 f2 e2=>?_
  simp -dsimp only [go_sem]
  rw [Nat.zero_add,List.nil_append] at o2
  exact ⟨p0.fresh f2 (by simp [bl,bh];omega),o2⟩
theorem zeros_len (z:Value):∀ n,(zeros [z] n).length=n
 | 0=>rfl
 | n+1=>by simp [zeros,zeros_len z n]
theorem slices_Grow {m:Nat} {h:Heap} (hm:m≤65536) :
  Con Tryz.prog 91 #[.slice none 0 0,.int .i64 m] h fun v h'=>Fr 0 0 h h'∧Holder 1 h' v 0 [] h.size:=by
 refine con_q107 ?_
 have p0:Fr 0 0 h h:=.refl _ _ _
 have e1:¬ ((m:Int)<0):=by omega
 have e2:(m:Int) - (((0:Nat):Int) - ((0:Nat):Int))=m:=by omega
 simp -dsimp only [go_sem,e1]
 simp -dsimp (disch:=omega) only [wrap64]
 rw [e2]
 by_cases h0:0<m
 ·have e3:(m:Int) > 0:=by omega
  simp -dsimp only [go_sem,e3]
  simp -dsimp (disch:=omega) only [wrap64]
  simp only [e2]
  refine Chk_intro (by omega) ?_
  intro c' b1 h1 hc n1
  have ew:IntKind.i64.wrap ((m:Int) - IntKind.i64.wrap (((0:Nat):Int) - ((0:Nat):Int)))=m:=by
   rw [show (((0:Nat):Int) - ((0:Nat):Int))=0 by omega,show IntKind.i64.wrap 0=0 from rfl,IntKind.wrap_i64];omega
  rw [ew] at hc n1 ⊢
  rw [Int.toNat_natCast] at hc n1 ⊢
  have r1:=n1.row
  have z1:=n1.size
  have a1:=n1.at_
  have f1:Fr 0 0 h h1:=n1.fr
  simp -dsimp only [go_sem]
  refine Chk_intro (by omega) ?_
  simp -dsimp only [go_sem]
  refine ⟨f1,by simp,.inr ⟨b1,c',_,?_,r1,by simp [zeros_len];omega,by omega⟩⟩
  by_cases hc0:c'=0 <;> simp [hc0]
 ·have e3:¬ (m:Int) > 0:=by omega
  obtain rfl:m=0:=by omega
  simp -dsimp only [go_sem,e3]
  exact ⟨p0,.none _ _ _⟩
def lenTo (L:List (List Value)) (i:Nat):Nat:=(L.take i).flatten.length
theorem cat_at {L:List (List Value)} {i:Nat} {l:List Value} (h:L[i]?=some l):(L.take (i+1)).flatten=(L.take i).flatten++l:=by
 rw [List.take_add_one,h];simp
theorem lenTo_at {L:List (List Value)} {i:Nat} {l:List Value} (h:L[i]?=some l):lenTo L (i+1)=lenTo L i+l.length:=by
 unfold lenTo;rw [cat_at h,List.length_append]
theorem lenTo_le {L:List (List Value)} {i:Nat}:lenTo L i≤L.flatten.length:=by
 unfold lenTo
 conv=>rhs;rw [← List.take_append_drop i L,List.flatten_append,List.length_append]
 omega
set_option maxHeartbeats 1000000 in
theorem slices_Concat {a:Option Addr} {c:Nat} {L:List (List Value)} {h:Heap} (hr:RLc h (.slice a L.length c) L) (hoc:∀ l∈L,l.all Value.oneCell'=true) (hb:L.flatten.length≤65536) (hL:L.length≤65536) :
  Con Tryz.prog 55 #[.slice a L.length c] h fun v h'=>Fr 0 0 h h'∧Holder 1 h' v L.flatten.length L.flatten h.size:=by
 refine con_q105 ?_
 have p0:Fr 0 0 h h:=.refl _ _ _
 obtain ⟨us,hu,hl⟩:=hr
 simp -dsimp only [go_sem]
 refine loop_intro (fun i:Nat=>[(0,.slice a L.length c),(3,.int .i64 (lenTo L i:Nat)),(9,.slice a L.length c),(10,.int .i64 L.length),(11,.int .i64 i)])
  (fun i h'=>i≤L.length∧Fr 0 0 h h') (fun i=>L.length - i) 0 ?_ ?_ ?_
 ·simp [Le,find,lenTo]
 ·exact ⟨by omega,p0⟩
 clear p0
 rintro i h1 ⟨hi,p0⟩
 have p0_z:=p0.size
 by_cases hlt:i<L.length
 ·have e1:((i:Int)<(L.length:Int)):=by omega
  have hq:L[i]?=some L[i]:=List.getElem?_eq_getElem hlt
  obtain ⟨ua,uc,h3,h4,h5⟩:=hl i _ hq
  have h6:=lenTo_at hq
  have h7:=lenTo_le (L:=L) (i:=i+1)
  generalize L[i]=l at hq h3 h4 h5 h6
  simp -dsimp only [go_sem,e1]
  refine (hu.fr p0).idx (by omega) fun b o hc=>?_
  have k1:=hc i _ h3
  have e2:((lenTo L i:Nat):Int)+(l.length:Nat)=(lenTo L (i+1):Nat):=by rw [h6];omega
  have e3:¬ (((lenTo L (i+1):Nat):Int)<0):=by omega
  simp -dsimp only [go_sem,k1]
  simp -dsimp (disch:=omega) only [wrap64]
  rw [e2]
  simp -dsimp only [go_sem,e3]
  simp -dsimp (disch:=omega) only [wrap64]
  exact ⟨i+1,by omega,by simp [Le,find],by omega,p0⟩
 obtain rfl:i=L.length:=by omega
 have hal:lenTo L L.length=L.flatten.length:=by unfold lenTo;rw [List.take_length]
 rw [hal]
 simp -dsimp only [go_sem,Int.lt_irrefl]
 refine call_of (slices_Grow (m:=L.flatten.length) (by omega)) ?_
 rintro v2 h2 ⟨f2,o2⟩
 have f2_z:=f2.size
 replace p0:=p0.F f2
 have zz:h1.size≤h2.size:=f2.size
 have z1:h.size≤h1.size:=by omega
 simp -dsimp only [go_sem]
 have o2':=o2.lower (lo':=h.size) (by omega)
 refine loop_intro (fun s:Nat×Value=>[(6,s.2),(25,.slice a L.length c),(26,.int .i64 L.length),(27,.int .i64 s.1)])
  (fun s h'=>s.1≤L.length∧Fr 0 0 h h'∧Holder 1 h' s.2 (lenTo L s.1) (L.take s.1).flatten h.size) (fun s=>L.length - s.1) (0,v2) ?_ ?_ ?_
 ·simp [Le,find]
 ·exact ⟨by omega,p0,by simpa [lenTo] using o2'⟩
 clear p0 o2 o2'
 rintro ⟨i,v⟩ h3 ⟨hi,p0,ov⟩
 dsimp only at hi ov ⊢
 obtain ⟨va,vc,rfl⟩:=ov.is
 have p0_z:=p0.size
 have ov_l:=ov.top
 by_cases hlt:i<L.length
 ·have e1:((i:Int)<(L.length:Int)):=by omega
  have hq:L[i]?=some L[i]:=List.getElem?_eq_getElem hlt
  obtain ⟨ua,uc,h4,h5,h6⟩:=hl i _ hq
  have h7:=lenTo_at hq
  have h8:=lenTo_le (L:=L) (i:=i+1)
  have h9:=cat_at hq
  have h10:=hoc _ (List.mem_of_getElem? hq)
  generalize L[i]=l at hq h4 h5 h6 h7 h9 h10
  simp -dsimp only [go_sem,e1]
  refine (hu.fr p0).idx (by omega) fun b o hc=>?_
  have k1:=hc i _ h4
  simp -dsimp only [go_sem,k1]
  refine ov.appendRd (h6.fr p0) (by omega) rfl (by omega) h10 (by omega) fun v11 h11 o11 f11 e11=>?_
  simp -dsimp only [go_sem]
  simp -dsimp (disch:=omega) only [wrap64]
  refine ⟨(i+1,v11),by dsimp only;omega,by simp [Le,find],by omega,?_,?_⟩
  ·have:=ov.at_
   exact p0.fresh f11 (by omega)
  ·dsimp only;rw [h9,h7];exact o11
 ·obtain rfl:i=L.length:=by omega
  rw [List.take_length] at ov
  simp -dsimp only [go_sem,Int.lt_irrefl]
  refine ⟨p0,?_⟩
  rw [← hal];exact ov
end Go.Proofs.Tst
/-
  seq: a graph's model; torn, together, global, first.
-/
namespace Go.Proofs.Tst
open Go Go.Vc
def smC (q : GV) (g : Gr) (c : Nat → Nat) (ra wa fa : Option Addr) (rn wn fn : Nat) : List Value :=
  [.int .i64 g.cells, .slice q.e g.evs.length q.ec, .slice q.f g.rf.length q.fc, .slice q.o g.co.length q.oc, .slice q.r g.rmw.length q.rc, .slice q.a g.addr.length q.ac, .slice q.d g.data.length q.dc, .slice q.c g.ctrl.length q.cc,
   .pointer (some ⟨c 0, 0, none⟩), .pointer (some ⟨c 1, 0, none⟩), .pointer (some ⟨c 2, 0, none⟩), .pointer (some ⟨c 9, 0, none⟩), .pointer (some ⟨c 3, 0, none⟩), .pointer (some ⟨c 4, 0, none⟩), .pointer (some ⟨c 5, 0, none⟩), .pointer (some ⟨c 6, 0, none⟩), .pointer (some ⟨c 7, 0, none⟩), .pointer (some ⟨c 8, 0, none⟩), .slice ra g.n rn, .slice wa g.n wn, .slice fa g.n fn]
structure Sm (h:Heap) (q:GV) (g:Gr) (c:Nat→Nat) (ra wa fa:Option Addr) (rn wn fn:Nat):Prop where
 gr:GrAt h q g
 good:g.good=true
 rel:∀ k,k<10→PA h (.pointer (some ⟨c k,0,none⟩)) g.n (relM g k)
 rd:Rd 1 h (.slice ra g.n rn) g.n (boolsV (kindsV g 1 g.n))
 wr:Rd 1 h (.slice wa g.n wn) g.n (boolsV (kindsV g 2 g.n))
 fe:Rd 1 h (.slice fa g.n fn) g.n (boolsV (kindsV g 3 g.n))
theorem UA.mkR {h:Heap} {a:Option Addr} {c n k:Nat} {M:Mx} (l:List (Value×Mx)) (hk:k=l.length) (r:Rd 1 h (.slice a k c) k (l.map (·.1))) (hp:∀ x∈l,PA h x.1 n x.2) (hne:l≠[]) (hl:l.length≤65536) (hM:∀ i j,i<n→j<n→(l.any fun x=>x.2 i j)=M i j) :
  UA h (.slice a k c) n M:=by
 subst hk
 refine ⟨l.map fun x=>(x.1,n,x.2),?_,fun x hx=>?_,by rw [List.length_map];exact hl,maxN_same hne,fun i j hi hj=>?_⟩
 ·rw [List.length_map,List.map_map]
  exact r
 ·obtain ⟨y,hy,rfl⟩:=List.mem_map.1 hx
  exact hp y hy
 ·rw [← hM i j hi hj]
  unfold anyM
  rw [List.any_map]
  congr 1
  funext x
  exact inN_in hi hj
theorem allAt_of {h:Heap}:∀ {rs:List (Nat×Nat×Value)},(∀ r∈rs,hcell h r.1 r.2.1=some r.2.2)→allAt rs h
 | [],_=>trivial
 | (b,o,v) :: rs,hr=>⟨hr (b,o,v) (by simp),allAt_of fun r hm=>hr r (by simp [hm])⟩
theorem row_allAt {h:Heap} {b:Nat} {xs:List Value} (r:Rw h b xs):allAt (rdAtN (some (.pointer (some ⟨b,0,none⟩))) xs) h:=allAt_of fun t ht=>by
 simp only [rdAtN,List.mem_map] at ht
 obtain ⟨⟨v,j⟩,hm,rfl⟩:=ht
 have:=List.mk_mem_zipIdx_iff_getElem?.1 hm
 dsimp only
 rw [r.cell,Nat.zero_add];exact this
section
variable {h : Heap} {q : GV} {g : Gr} {c : Nat → Nat} {ra wa fa : Option Addr} {rn wn fn : Nat}
theorem Sm.fr {h':Heap} (m:Sm h q g c ra wa fa rn wn fn) (f:Fr 0 0 h h'):Sm h' q g c ra wa fa rn wn fn:=
 ⟨m.gr.fr f,m.good,fun k hk=>(m.rel k hk).fr f,m.rd.fr f,m.wr.fr f,m.fe.fr f⟩
theorem Sm.of {lo:Nat} {p:Nat→Value} {rd wr fe:Value} (t:GrAt h q g) (hg:g.good=true) (F:FactsAt h lo p rd wr fe g):∃ c ra wa fa rn wn fn,fcells p rd wr fe=[.pointer (some ⟨c 0,0,none⟩),.pointer (some ⟨c 1,0,none⟩),.pointer (some ⟨c 2,0,none⟩),.pointer (some ⟨c 9,0,none⟩),.pointer (some ⟨c 3,0,none⟩),.pointer (some ⟨c 4,0,none⟩),.pointer (some ⟨c 5,0,none⟩),.pointer (some ⟨c 6,0,none⟩),.pointer (some ⟨c 7,0,none⟩),.pointer (some ⟨c 8,0,none⟩),.slice ra g.n rn,.slice wa g.n wn,.slice fa g.n fn]∧Sm h q g c ra wa fa rn wn fn:=by
 obtain ⟨A,B,D,-,-⟩:=F.rel
 have hx:∃ c:Nat→Nat,∀ k,k<10→p k=.pointer (some ⟨c k,0,none⟩):=
  ⟨fun k=>if hk:k<10 then (progPtr (D.at_ k hk)).choose else 0,fun k hk=>by simp only [dif_pos hk];exact (progPtr (D.at_ k hk)).choose_spec⟩
 obtain ⟨c,hc⟩:=hx
 obtain ⟨ra,rn,e1⟩:=F.hrd.is
 obtain ⟨wa,wn,e2⟩:=F.hwr.is
 obtain ⟨fa,fn,e3⟩:=F.hfe.is
 refine ⟨c,ra,wa,fa,rn,wn,fn,?_,t,hg,fun k hk=>?_,e1▸F.hrd.rd,e2▸F.hwr.rd,e3▸F.hfe.rd⟩
 ·unfold fcells
  rw [hc 0 (by decide),hc 1 (by decide),hc 2 (by decide),hc 9 (by decide),hc 3 (by decide),hc 4 (by decide),hc 5 (by decide),hc 6 (by decide),hc 7 (by decide),hc 8 (by decide),e1,e2,e3]
 ·rw [← hc k hk];exact ⟨_,_,D.at_ k hk⟩
theorem seq_torn (m:Sm h q g c ra wa fa rn wn fn) (ht:TabAt h) :
  Con Tryz.prog 16 #[.agg (smC q g c ra wa fa rn wn fn).toArray] h fun v h'=>Fr 0 0 h h'∧Holder 1 h' v (atomS g).length (intsV (atomS g)) h.size:=by
 refine con_q97 ?_
 have br:=m.gr.fits.r
 have p0:Fr 0 0 h h:=.refl _ _ _
 unfold smC
 simp -dsimp only [go_sem]
 intro b1 h1 n1
 have n1_z:=n1.az
 replace p0:=p0.F n1.f0
 have r1:=n1.row
 simp -dsimp only [go_sem,r1.cell]
 obtain ⟨_,_,ta⟩:=(m.fr p0).rel 9 (by decide)
 obtain ⟨_,_,tb⟩:=(m.fr p0).rel 2 (by decide)
 refine call_of (rel_Comp ta tb (ht.fr p0 (.inr rfl))) ?_
 rintro v2 h2 ⟨f2,t2⟩
 rw [Nat.max_self] at t2
 have f2_z:=f2.size
 replace p0:=p0.F f2
 replace r1:=r1.F f2
 obtain ⟨bt,rfl⟩:=progPtr t2
 simp -dsimp only [go_sem,r1.cell]
 have p2:Fr 0 0 h2 h2:=.refl _ _ _
 have g2:h.size≤h2.size:=by omega
 refine loop_intro (fun i:Nat=>[(3,.pointer (some ⟨bt,0,none⟩)),(15,.slice q.r g.rmw.length q.rc),(16,.int .i64 g.rmw.length),(17,.int .i64 i)])
  (fun i h'=>i≤g.rmw.length∧Fr 0 0 h h'∧Fr 0 0 h2 h'∧(g.rmw.take i).find? (tornS g)=none) (fun i=>g.rmw.length - i) 0 ?_ ?_ ?_
 ·simp [Le,find]
 ·exact ⟨by omega,p0,p2,rfl⟩
 clear p0 r1 p2
 rintro i h3 ⟨hi,p0,p2,hfn⟩
 have p0_z:=p0.size
 have p2_z:=p2.size
 by_cases hlt:i<g.rmw.length
 ·have e1:((i:Int)<(g.rmw.length:Int)):=by omega
  have hq:g.rmw[i]?=some g.rmw[i]:=List.getElem?_eq_getElem hlt
  generalize g.rmw[i]=pr at hq
  obtain ⟨rb,ro,hre,hrc⟩:=m.gr.r.pairsAt (by omega)
  obtain ⟨k1,k2⟩:=hrc h3 p0 i _ hq
  simp -dsimp only [go_sem,e1,hre,k1,k2]
  intro b4 h4 n4
  have n4_z:=n4.az
  replace p0:=p0.F n4.f0
  replace p2:=p2.F n4.f0
  have r4:=n4.row
  simp -dsimp only [go_sem]
  refine Chk_intro (r4.W) fun h5 s5=>?_
  have s5_z:=s5.size
  replace p0:=p0.F s5.fr
  replace p2:=p2.F s5.fr
  replace r4:=s5.row r4
  try simp only [cl_int,cl_bool,cl_slice,cl_ptr,putAt_one,zs0,zs1,ivec_set,brow_upd] at r4
  try simp -dsimp only [go_sem] at r4
  simp -dsimp only [go_sem,r4.cell]
  refine call_of (rel_Has (t2.fr p2 (by omega)) pr.1 pr.2) ?_
  rintro v6 h6 ⟨hh,rfl⟩
  obtain rfl:h5=h6:=hh.symm
  have htn:=tornS_has (g:=g) (p:=pr)
  rw [htn]
  cases hb:tornS g pr
  ·simp -dsimp only [go_sem]
   simp -dsimp (disch:=omega) only [wrap64]
   exact ⟨i+1,by omega,by simp [Le,find,hre],by omega,p0,p2,find_next hq hfn hb⟩
  ·simp -dsimp only [go_sem,r4.cell]
   intro b7 h7 n7
   have n7_z:=n7.az
   replace p0:=p0.F n7.f0
   replace p2:=p2.F n7.f0
   replace r4:=r4.F n7.f0
   have r7:=n7.row
   simp -dsimp only [go_sem]
   have hA:atomS g=[pr.1,pr.2]:=by unfold atomS;rw [find_at hq hfn hb]
   rw [hA]
   exact ⟨p0,holder_row (s:=1) (n:=2) r7 rfl (by omega)⟩
 ·obtain rfl:i=g.rmw.length:=by omega
  simp -dsimp only [go_sem,Int.lt_irrefl]
  rw [List.take_length] at hfn
  have hA:atomS g=[]:=by unfold atomS;rw [hfn]
  rw [hA]
  exact ⟨p0,.none _ _ _⟩
theorem natsI_V (l:List Nat):natsV l=intsV (natsI l):=natsV_ints l
theorem natsI_len (l:List Nat):(natsI l).length=l.length:=by simp [natsI]
theorem seq_together {v:Value} {M:Mx} (m:Sm h q g c ra wa fa rn wn fn) (ht:TabAt h) (hv:PA h v g.n M) :
  Con Tryz.prog 15 #[.agg (smC q g c ra wa fa rn wn fn).toArray,v] h fun w h'=>Fr 0 0 h h'∧Holder 1 h' w (natsI (cycS g.n (orM [M,relM g 1,relM g 2,relM g 9]))).length (intsV (natsI (cycS g.n (orM [M,relM g 1,relM g 2,relM g 9])))) h.size:=by
 refine con_q96 ?_
 have p0:Fr 0 0 h h:=.refl _ _ _
 unfold smC
 obtain ⟨bv,rfl⟩:=hv.ptr
 simp -dsimp only [go_sem]
 intro b1 h1 n1
 have n1_z:=n1.az
 replace p0:=p0.F n1.f0
 have r1:=n1.row
 simp -dsimp only [go_sem,r1.cell]
 intro b2 h2 n2
 have n2_z:=n2.az
 replace p0:=p0.F n2.f0
 replace r1:=r1.F n2.f0
 have r2:=n2.row
 simp -dsimp only [go_sem]
 have m2:=m.fr p0
 refine call_of (rel_UnionU (UA.mk' [(.pointer (some ⟨bv,0,none⟩),M),(.pointer (some ⟨c 1,0,none⟩),relM g 1),(.pointer (some ⟨c 2,0,none⟩),relM g 2),(.pointer (some ⟨c 9,0,none⟩),relM g 9)] r2 (pa_cons (hv.fr p0) (pa_cons (m2.rel 1 (by decide)) (pa_cons (m2.rel 2 (by decide)) (pa_cons (m2.rel 9 (by decide)) pa_nil)))) (by simp) (by simp))) ?_
 rintro v3 h3 ⟨f3,t3⟩
 have f3_z:=f3.size
 replace p0:=p0.F f3
 replace r1:=r1.F f3
 replace r2:=r2.F f3
 simp -dsimp only [go_sem]
 refine call_of (rel_Cycle t3 (ht.fr p0 (.inr rfl))) ?_
 rintro v4 h4 ⟨f4,o4⟩
 have f4_z:=f4.size
 replace p0:=p0.F f4
 replace r1:=r1.F f4
 replace r2:=r2.F f4
 simp -dsimp only [go_sem]
 rw [natsI_V] at o4
 rw [natsI_len]
 exact ⟨p0,o4.lower (by omega)⟩
theorem seq_Sc_1 (m:Sm h q g c ra wa fa rn wn fn) (ht:TabAt h) :
  Con Tryz.prog 14 #[.agg (smC q g c ra wa fa rn wn fn).toArray] h fun v h'=>Fr 0 0 h h'∧Holder 1 h' v (scL g 0).length (intsV (scL g 0)) h.size:=by
 refine con_q90 ?_
 have p0:Fr 0 0 h h:=.refl _ _ _
 have e:orM [relM g 0,relM g 1,relM g 2,relM g 9]=allM g:=by funext i j;simp [orM,allM,Bool.or_assoc]
 unfold smC
 simp -dsimp only [go_sem]
 intro b1 h1 n1
 have n1_z:=n1.az
 replace p0:=p0.F n1.f0
 have r1:=n1.row
 simp -dsimp only [go_sem,r1.cell]
 have m1:=m.fr p0
 refine withC_of (smC q g c ra wa fa rn wn fn) 0 (fun j x hj=>by rw [r1.cell,Nat.zero_add];exact hj) ?_
 try simp -dsimp only [go_sem,r1.cell]
 refine call_of (seq_together m1 (ht.fr p0 (.inr rfl)) (m1.rel 0 (by decide))) ?_
 rintro v2 h2 ⟨f2,o2⟩
 have f2_z:=f2.size
 replace p0:=p0.F f2
 replace r1:=r1.F f2
 rw [e] at o2
 simp -dsimp only [go_sem]
 exact ⟨p0,o2.lower (by omega)⟩
theorem seq_Tso_1 (m:Sm h q g c ra wa fa rn wn fn) (ht:TabAt h) :
  Con Tryz.prog 21 #[.agg (smC q g c ra wa fa rn wn fn).toArray] h fun v h'=>Fr 0 0 h h'∧Holder 1 h' v (tsoL g 0).length (intsV (tsoL g 0)) h.size:=by
 refine con_q92 ?_
 have p0:Fr 0 0 h h:=.refl _ _ _
 have e:orM [(fun i j=>relM g 0 i j&&relM g 4 i j),relM g 1,relM g 2,relM g 9]=inM g:=by funext i j;simp [orM,inM,Bool.or_assoc]
 unfold smC
 simp -dsimp only [go_sem]
 intro b1 h1 n1
 have n1_z:=n1.az
 replace p0:=p0.F n1.f0
 have r1:=n1.row
 simp -dsimp only [go_sem,r1.cell]
 refine withC_of (smC q g c ra wa fa rn wn fn) 0 (fun j x hj=>by rw [r1.cell,Nat.zero_add];exact hj) ?_
 unfold smC
 try simp -dsimp only [go_sem,r1.cell]
 obtain ⟨_,_,ta⟩:=(m.fr p0).rel 0 (by decide)
 obtain ⟨_,_,tb⟩:=(m.fr p0).rel 4 (by decide)
 refine call_of (rel_Inter ta tb (ht.fr p0 (.inr rfl))) ?_
 rintro v2 h2 ⟨f2,t2⟩
 rw [Nat.max_self] at t2
 have f2_z:=f2.size
 replace p0:=p0.F f2
 replace r1:=r1.F f2
 have t2:PA h2 v2 g.n (fun i j=>relM g 0 i j&&relM g 4 i j):=PA.congr ⟨_,_,t2⟩ fun i j hi hj=>interM_in hi hj
 simp -dsimp only [go_sem]
 refine Chk_intro (row_allAt r1) ?_
 try simp -dsimp only [go_sem]
 refine call_of (seq_together (m.fr p0) (ht.fr p0 (.inr rfl)) t2) ?_
 rintro v3 h3 ⟨f3,o3⟩
 have f3_z:=f3.size
 replace p0:=p0.F f3
 replace r1:=r1.F f3
 rw [e] at o3
 simp -dsimp only [go_sem,r1.cell]
 exact ⟨p0,o3.lower (by omega)⟩
def firstA (N:Nat) (num:Nat→Int) (L:Nat→List Int):Int×List Int:=match (List.range N).find? (fun i=>!(L i).isEmpty) with | some i=>(num i,L i) | none=>(0,[])
def axV (N:Nat) (num:Nat→Int) (F:Nat→FuncId):List Value:=(List.range N).flatMap fun i=>[.int .i64 (num i),.func (.func (F i)) #[] #[]]
theorem axV_succ {N:Nat} {num:Nat→Int} {F:Nat→FuncId}:axV (N+1) num F=axV N num F++[.int .i64 (num N),.func (.func (F N)) #[] #[]]:=by
 unfold axV;rw [List.range_succ,List.flatMap_append];simp
theorem axV_len {N:Nat} {num:Nat→Int} {F:Nat→FuncId}:(axV N num F).length=N * 2:=by
 induction N with
 | zero=>rfl
 | succ N ih=>rw [axV_succ,List.length_append,ih];simp;omega
theorem axV_get {num:Nat→Int} {F:Nat→FuncId}:∀ {N i:Nat},i<N→(axV N num F)[i * 2]?=some (.int .i64 (num i))∧(axV N num F)[i * 2+1]?=some (.func (.func (F i)) #[] #[])
 | N+1,i,h=>by
  rw [axV_succ]
  by_cases he:i=N
  ·subst he
   rw [List.getElem?_append_right (by rw [axV_len];omega),List.getElem?_append_right (by rw [axV_len];omega),axV_len]
   simp
  ·have:=axV_get (num:=num) (F:=F) (N:=N) (i:=i) (by omega)
   rw [List.getElem?_append_left (by rw [axV_len];omega),List.getElem?_append_left (by rw [axV_len];omega)]
   exact this
set_option maxHeartbeats 1000000 in
theorem seq_first {b:Nat} {N:Nat} {num:Nat→Int} {F:Nat→FuncId} {L:Nat→List Int} (hax:Rw h b (axV N num F)) (hN:N≤1000) (hF:∀ i,i<N→∀ h1,Fr 0 0 h h1→Con Tryz.prog (F i) #[.agg (smC q g c ra wa fa rn wn fn).toArray] h1 fun v h'=>Fr 0 0 h1 h'∧Holder 1 h' v (L i).length (intsV (L i)) h1.size) :
  Con Tryz.prog 13 #[.agg (smC q g c ra wa fa rn wn fn).toArray,.slice (some ⟨b,0,none⟩) N N] h fun v h'=>Fr 0 0 h h'∧∃ w,v=.tuple #[.int .i64 (firstA N num L).1,w,.int .i64 0]∧Holder 1 h' w (firstA N num L).2.length (intsV (firstA N num L).2) h.size:=by
 refine con_q93 ?_
 have p0:Fr 0 0 h h:=.refl _ _ _
 unfold smC
 simp -dsimp only [go_sem]
 intro b2 h2 n2
 have n2_z:=n2.az
 replace p0:=p0.F n2.f0
 have r2:=n2.row
 simp -dsimp only [go_sem]
 have g2:h.size≤b2:=by omega
 refine loop_intro (fun i:Nat=>[(2,.pointer (some ⟨b2,0,none⟩)),(10,.slice (some ⟨b,0,none⟩) N N),(11,.int .i64 N),(12,.int .i64 i)])
  (fun i h'=>i≤N∧Fr 0 0 h h'∧Rw h' b2 (smC q g c ra wa fa rn wn fn)∧(List.range i).find? (fun i=>!(L i).isEmpty)=none) (fun i=>N - i) 0 ?_ ?_ ?_
 ·simp [Le,find]
 ·exact ⟨by omega,p0,r2,rfl⟩
 clear p0 r2
 rintro i h3 ⟨hi,p0,r2,hfn⟩
 unfold smC at r2
 have p0_z:=p0.size
 have r2_l:=r2.lt
 by_cases hlt:i<N
 ·have e1:((i:Int)<(N:Int)):=by omega
  have ax3:=hax.fr p0 (.inr (Nat.zero_le _))
  obtain ⟨k1,k2⟩:=axV_get (num:=num) (F:=F) hlt
  have k1:hcell h3 b (i * 2)=some (.int .i64 (num i)):=by rw [ax3.cell];exact k1
  have k2:hcell h3 b (i * 2+1)=some (.func (.func (F i)) #[] #[]):=by rw [ax3.cell];exact k2
  simp -dsimp only [go_sem,e1,k1,k2]
  intro b4 h4 n4
  have n4_z:=n4.az
  replace p0:=p0.F n4.f0
  replace r2:=r2.F n4.f0
  have r4:=n4.row
  simp -dsimp only [go_sem]
  refine Chk_intro (r4.W) fun h5 s5=>?_
  have s5_z:=s5.size
  replace p0:=p0.F s5.fr
  replace r2:=r2.F s5.fr
  replace r4:=s5.row r4
  try simp only [cl_int,cl_bool,cl_slice,cl_ptr,putAt_one,zs0,zs1,ivec_set,brow_upd] at r4
  try simp -dsimp only [go_sem] at r4
  simp -dsimp only [go_sem,r4.cell]
  refine withC_of (smC q g c ra wa fa rn wn fn) 0 (fun j x hj=>by rw [r2.cell,Nat.zero_add];exact hj) ?_
  try simp -dsimp only [go_sem,r2.cell,r4.cell]
  refine call_of (hF i hlt h5 p0) ?_
  rintro v6 h6 ⟨f6,o6⟩
  have f6_z:=f6.size
  replace p0:=p0.F f6
  replace r2:=r2.F f6
  replace r4:=r4.F f6
  obtain ⟨a6,c6,rfl⟩:=o6.is
  simp -dsimp only [go_sem]
  by_cases hk:L i=[]
  ·have hl:¬ (((L i).length:Nat):Int) > 0:=by rw [hk];decide
   simp -dsimp only [go_sem,hl]
   simp -dsimp (disch:=omega) only [wrap64]
   exact ⟨i+1,by omega,by simp [Le,find],by omega,p0,r2,by rw [List.range_succ,List.find?_append,hfn];simp [hk]⟩
  ·have hl:(((L i).length:Nat):Int) > 0:=by have:=List.length_pos_iff.2 hk;omega
   simp -dsimp only [go_sem,hl,r4.cell]
   have hA:firstA N num L=(num i,L i):=by
    unfold firstA
    rw [find_at (l:=List.range N) (i:=i) (x:=i) (List.getElem?_range hlt) (by rw [List.take_range,Nat.min_eq_left (by omega)];exact hfn) (by simp [hk])]
   rw [hA]
   exact ⟨p0,_,rfl,o6.lower (by omega)⟩
 ·obtain rfl:i=N:=by omega
  simp -dsimp only [go_sem,Int.lt_irrefl]
  have hA:firstA i num L=(0,[]):=by unfold firstA;rw [hfn]
  rw [hA]
  exact ⟨p0,_,rfl,.none _ _ _⟩
end
end Go.Proofs.Tst
