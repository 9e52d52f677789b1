/-
  Contracts of functions that the law reaches: what each returns and what it leaves in memory. Conditions stand in each.
-/
import Derived.Test.YtmilaghhnaoidaaGreatDoorT8
set_option linter.all false
set_option maxRecDepth 2000
/-
  The words' memory model: all its relations.
-/
namespace Go.Proofs.Tst
open Go Go.Vc
def aM (g:Gr):Nat→Mx
 | 0=>obsM g
 | 1=>dobM g
 | 2=>aobM g
 | 3=>bobM g
 | _=>obM g
def rangeM (M:Nat→Mx) (m:Nat):Mx:=fun i j=>(List.range m).any fun k=>M k i j
theorem Der.snoc {h:Heap} {A B:Nat→Nat} {p:Nat→Value} {n m lo L L':Nat} {M:Nat→Mx} {v:Value} (D:Der h A B p n M m) (hd:∀ k,k<m→lo≤A k∧A k≤B k∧B k≤L) (w:∃ a b,ProgAt h a b v n (M m)∧L≤a∧a≤b∧b≤L') (hl:lo≤L:=by omega) :
  ∃ A' B',Der h A' B' (upd p m v) n M (m+1)∧∀ k,k<m+1→lo≤A' k∧A' k≤B' k∧B' k≤L':=by
 obtain ⟨a,b,w,w1,w2,w3⟩:=w
 refine ⟨upd A m a,upd B m b,⟨fun k hk=>?_,fun k l hk hl hkl=>?_⟩,fun k hk=>?_⟩
 ·by_cases hkm:k=m
  ·subst hkm;rw [upd_same,upd_same,upd_same];exact w
  ·rw [upd_ne _ _ hkm,upd_ne _ _ hkm,upd_ne _ _ hkm];exact D.at_ k (by omega)
 ·by_cases hkm:k=m
  ·subst hkm
   rw [upd_same,upd_same,upd_ne _ _ (Ne.symm hkl),upd_ne _ _ (Ne.symm hkl)]
   have:=hd l (by omega);omega
  ·by_cases hlm:l=m
   ·subst hlm
    rw [upd_same,upd_same,upd_ne _ _ hkm,upd_ne _ _ hkm]
    have:=hd k (by omega);omega
   ·rw [upd_ne _ _ hkm,upd_ne _ _ hkm,upd_ne _ _ hlm,upd_ne _ _ hlm]
    exact D.off k l (by omega) (by omega) hkl
 ·by_cases hkm:k=m
  ·subst hkm;rw [upd_same,upd_same];omega
  ·rw [upd_ne _ _ hkm,upd_ne _ _ hkm];have:=hd k (by omega);omega
section
variable {h : Heap} {mb : Nat} {q : GV} {g : Gr} {c : Nat → Nat} {rd wr fe : Value} {d : Nat → Nat}
set_option maxHeartbeats 4000000 in
theorem arm_model_facts (m:Md h mb q g c rd wr fe d) (hg:(g.check true).1=0) (ht:TabAt h) :
  Con Tryz.prog 22 #[.pointer (some ⟨mb,0,none⟩)] h fun v h'=>Fr 0 0 h h'∧∃ x A B,v=.agg #[x 0,x 1,x 2,x 3,x 4]∧Der h' A B x g.n (aM g) 5∧∀ k,k<5→h.size≤A k∧A k≤B k∧B k≤h'.size:=by
 refine con_arm_model_facts ?_
 have hn:=m.n
 have hmb:=m.row.lt
 have hcl:clampN (g.n:Int)=g.n:=by unfold clampN;omega
 have p0:Fr 0 0 h h:=.refl _ _ _
 have r1:=m.row
 unfold mcells at r1
 simp -dsimp only [go_sem]
 intro b2 h1 n2
 have n2_a:=n2.at_
 have n2_z:=n2.size
 replace p0:=p0.F n2.f0
 replace r1:=r1.F n2.f0
 have r2:=n2.row
 simp -dsimp only [go_sem]
 intro b3 h2 n3
 have n3_a:=n3.at_
 have n3_z:=n3.size
 replace p0:=p0.F n3.f0
 replace r1:=r1.F n3.f0
 replace r2:=r2.F n3.f0
 have r3:=n3.row
 simp -dsimp only [go_sem]
 intro b4 hs n4
 have n4_a:=n4.at_
 have n4_z:=n4.size
 replace p0:=p0.F n4.f0
 replace r1:=r1.F n4.f0
 replace r2:=r2.F n4.f0
 replace r3:=r3.F n4.f0
 have r4:=n4.row
 try simp -dsimp only [go_sem] at r4
 simp -dsimp only [go_sem,evs_len,r1.cell]
 refine call_of (rel_New g.n hs) ?_
 rintro v3 h3 ⟨f3,t3⟩
 rw [hcl] at t3
 have f3_z:=f3.size
 replace p0:=p0.F f3
 replace r1:=r1.F f3
 replace r2:=r2.F f3
 replace r3:=r3.F f3
 replace r4:=r4.F f3
 have t3:=PN.of t3
 obtain ⟨u0,rfl⟩:=t3.pa.ptr
 have hL3:hs.size≤h3.size:=by omega
 simp -dsimp only [go_sem]
 refine Chk_intro (r3.wr (by first | (simp;done) | (simp;omega))) fun h4 s4=>?_
 have s4_z:=s4.size
 replace p0:=p0.F s4.fr
 replace r1:=r1.F s4.fr
 replace r2:=r2.F s4.fr
 replace r4:=r4.F s4.fr
 replace r3:=s4.row r3
 try simp only [cl_ptr,putAt_one,List.set_cons_zero,List.set_cons_succ] at r3
 try simp -dsimp only [go_sem] at r3
 have t4:=t3.fr s4.fr (by omega)
 have gb:h.size≤b2∧h.size≤b3∧h.size≤b4∧b2<b3∧b3<b4∧b4<hs.size∧h.size≤hs.size:=by omega
 simp -dsimp only [go_sem]
 have hLh:hs.size≤hs.size:=Nat.le_refl _
 refine loop_intro (fun i:Nat=>[(2,.pointer (some ⟨b2,0,none⟩)),(3,.pointer (some ⟨b3,0,none⟩)),(32,.slice (some ⟨b4,0,none⟩) 4 4),(33,.int .i64 (4:Nat)),(34,.int .i64 i)])
  (fun i h'=>i≤4∧Fr 0 0 h h'∧Rw h' b2 [.pointer none,.pointer none,.pointer none,.pointer none,.pointer none]∧Rw h' b4 [.pointer (some ⟨b3,0,none⟩),.func (.func 65) #[.pointer (some ⟨mb,0,none⟩)] #[],.pointer (some ⟨b3,1,none⟩),.func (.func 66) #[.pointer (some ⟨mb,0,none⟩)] #[],.pointer (some ⟨b3,2,none⟩),.func (.func 67) #[.pointer (some ⟨mb,0,none⟩)] #[],.pointer (some ⟨b3,3,none⟩),.func (.func 68) #[.pointer (some ⟨mb,0,none⟩)] #[]] ∧
   ∃ x u A B L,Rw h' b3 [x 0,x 1,x 2,x 3,.pointer (some ⟨u,0,none⟩)]∧Der h' A B x g.n (aM g) i∧(∀ k,k<i→hs.size≤A k∧A k≤B k∧B k≤L)∧PN h' L (.pointer (some ⟨u,0,none⟩)) g.n (rangeM (aM g) i)∧hs.size≤L∧L≤h'.size) (fun i=>4 - i) 0 ?_ ?_ ?_
 ·simp [Le,find]
 ·exact ⟨by omega,p0,r2,r4,fun _=>.pointer none,u0,fun _=>0,fun _=>0,hs.size,r3,⟨fun k hk=>by omega,fun k l hk=>by omega⟩,fun k hk=>by omega,t4.congr fun i j _ _=>rfl,Nat.le_refl _,by omega⟩
 clear p0 r1 r2 r3 r4 t3 t4
 rintro i h3 ⟨hi,p0,r2,r4,x,u,A,B,L,r3,D,dlo,t,hsL,hLh'⟩
 have p0_z:=p0.size
 have r2_l:=r2.lt
 have r3_l:=r3.lt
 have r4_l:=r4.lt
 have hx:∀ k,k<i→∃ y,x k=.pointer (some ⟨y,0,none⟩):=fun k hk=>progPtr (D.at_ k hk)
 by_cases hlt:i<4
 ·have e1:((i:Int)<((4:Nat):Int)):=by omega
  have hi':i=0∨i=1∨i=2∨i=3:=by omega
  rcases hi' with rfl | rfl | rfl | rfl
  ·skip
   have pA:Fr 0 0 h3 h3:=.refl _ _ _
   simp -dsimp only [go_sem,e1,r4.cell]
   intro b6 h4 n6
   have n6_a:=n6.at_
   have n6_z:=n6.size
   replace p0:=p0.F n6.f0
   replace r2:=r2.F n6.f0
   replace r3:=r3.F n6.f0
   replace r4:=r4.F n6.f0
   replace pA:=pA.fresh n6.f0 (by omega)
   have r6:=n6.row
   simp -dsimp only [go_sem]
   refine Chk_intro (r6.wr (by first | (simp;done) | (simp;omega))) fun h5 s5=>?_
   have s5_z:=s5.size
   replace p0:=p0.F s5.fr
   replace r2:=r2.F s5.fr
   replace r3:=r3.F s5.fr
   replace r4:=r4.F s5.fr
   replace pA:=pA.fresh s5.fr (by omega)
   replace r6:=s5.row r6
   try simp only [cl_int,cl_bool,cl_slice,cl_ptr,putAt_one,List.set_cons_zero,List.set_cons_succ,ivec_set,brow_upd] at r6
   try simp -dsimp only [go_sem] at r6
   simp -dsimp only [go_sem,r6.cell]
   have D5:=(D.fr n6.f0 (fun k hk=>by omega)).fr s5.fr (fun k hk=>by have:=dlo k hk;omega)
   refine call_of (arm_model_obs (m.fr p0)) ?_
   rintro v6 h6 ⟨f6,w6⟩
   have D6:=D5.fr f6 (fun k hk=>by omega)
   have f6_z:=f6.size
   replace p0:=p0.F f6
   replace r2:=r2.F f6
   replace r3:=r3.F f6
   replace r4:=r4.F f6
   replace pA:=pA.fresh f6 (by omega)
   replace r6:=r6.F f6
   have t6:=t.fr pA (by omega)
   obtain ⟨y,rfl⟩:=w6.pa.ptr
   have hL6:L≤h5.size∧h5.size≤h6.size∧hs.size≤h5.size:=by omega
   simp -dsimp only [go_sem,r6.cell]
   refine Chk_intro (r3.wr (by first | (simp;done) | (simp;omega))) fun h7 s7=>?_
   have s7_z:=s7.size
   replace p0:=p0.F s7.fr
   replace r2:=r2.F s7.fr
   replace r4:=r4.F s7.fr
   replace r6:=r6.F s7.fr
   replace r3:=s7.row r3
   try simp only [cl_ptr,putAt_one,List.set_cons_zero] at r3
   try simp -dsimp only [go_sem] at r3
   have D7:=D6.fr s7.fr (fun k hk=>by have:=dlo k hk;omega)
   have t7:=t6.fr s7.fr (by omega)
   have w7:=w6.fr s7.fr (by omega)
   simp -dsimp only [go_sem,r3.cell,r6.cell]
   intro b8 h8 n8
   have n8_a:=n8.at_
   have n8_z:=n8.size
   replace p0:=p0.F n8.f0
   replace r2:=r2.F n8.f0
   replace r3:=r3.F n8.f0
   replace r4:=r4.F n8.f0
   replace r6:=r6.F n8.f0
   have r8:=n8.row
   have D8:=D7.fr n8.f0 (fun k hk=>by omega)
   have t8:=t7.fr n8.f0 (by omega)
   have w8:=w7.fr n8.f0 (by omega)
   simp -dsimp only [go_sem]
   refine call_of (rel_UnionU (UA.mk' [(.pointer (some ⟨u,0,none⟩),rangeM (aM g) 0),(.pointer (some ⟨y,0,none⟩),aM g 0)] r8 (pa_cons t8.pa (pa_cons w8.pa pa_nil)) (by simp) (by simp))) ?_
   rintro v9 h9 ⟨f9,t9⟩
   have D9:=D8.fr f9 (fun k hk=>by omega)
   have w9:=w8.fr f9 (by omega)
   have f9_z:=f9.size
   replace p0:=p0.F f9
   replace r2:=r2.F f9
   replace r3:=r3.F f9
   replace r4:=r4.F f9
   replace r6:=r6.F f9
   replace r8:=r8.F f9
   have t9:=PN.of t9
   obtain ⟨u9,rfl⟩:=t9.pa.ptr
   simp -dsimp only [go_sem,r3.cell,r6.cell]
   refine Chk_intro (r3.wr (by first | (simp;done) | (simp;omega))) fun h10 s10=>?_
   have s10_z:=s10.size
   replace p0:=p0.F s10.fr
   replace r2:=r2.F s10.fr
   replace r4:=r4.F s10.fr
   replace r6:=r6.F s10.fr
   replace r8:=r8.F s10.fr
   replace r3:=s10.row r3
   try simp only [cl_ptr,putAt_one,List.set_cons_zero,List.set_cons_succ] at r3
   try simp -dsimp only [go_sem] at r3
   have D10:=D9.fr s10.fr (fun k hk=>by have:=dlo k hk;omega)
   have w10:=w9.fr s10.fr (by omega)
   have t10:=t9.fr s10.fr (by omega)
   obtain ⟨A',B',D',dlo'⟩:=Der.snoc (L:=h5.size) (L':=h8.size) (lo:=hs.size) D10 (fun k hk=>by have:=dlo k hk;omega) (by
    obtain ⟨a,b,w,k1,k2,k3⟩:=w8
    exact ⟨a,b,(w.fr f9 (by omega)).fr s10.fr (by omega),k1,k2,k3⟩)
   simp -dsimp only [go_sem]
   simp -dsimp (disch:=omega) only [wrap64]
   exact ⟨0+1,by omega,by simp [Le,find],by omega,p0,r2,r4,upd x 0 (.pointer (some ⟨y,0,none⟩)),u9,A',B',h8.size,r3,D',fun k hk=>by have:=dlo' k hk;omega,(t10.congr fun i j _ _=>by simp [orM,rangeM,List.range_succ]),by omega,by omega⟩
  ·skip
   have pA:Fr 0 0 h3 h3:=.refl _ _ _
   simp -dsimp only [go_sem,e1,r4.cell]
   intro b6 h4 n6
   have n6_a:=n6.at_
   have n6_z:=n6.size
   replace p0:=p0.F n6.f0
   replace r2:=r2.F n6.f0
   replace r3:=r3.F n6.f0
   replace r4:=r4.F n6.f0
   replace pA:=pA.fresh n6.f0 (by omega)
   have r6:=n6.row
   simp -dsimp only [go_sem]
   refine Chk_intro (r6.wr (by first | (simp;done) | (simp;omega))) fun h5 s5=>?_
   have s5_z:=s5.size
   replace p0:=p0.F s5.fr
   replace r2:=r2.F s5.fr
   replace r3:=r3.F s5.fr
   replace r4:=r4.F s5.fr
   replace pA:=pA.fresh s5.fr (by omega)
   replace r6:=s5.row r6
   try simp only [cl_int,cl_bool,cl_slice,cl_ptr,putAt_one,List.set_cons_zero,List.set_cons_succ,ivec_set,brow_upd] at r6
   try simp -dsimp only [go_sem] at r6
   simp -dsimp only [go_sem,r6.cell]
   have D5:=(D.fr n6.f0 (fun k hk=>by omega)).fr s5.fr (fun k hk=>by have:=dlo k hk;omega)
   refine call_of (arm_model_dob (m.fr p0) (ht.fr p0 (.inr rfl))) ?_
   rintro v6 h6 ⟨f6,w6⟩
   have D6:=D5.fr f6 (fun k hk=>by omega)
   have f6_z:=f6.size
   replace p0:=p0.F f6
   replace r2:=r2.F f6
   replace r3:=r3.F f6
   replace r4:=r4.F f6
   replace pA:=pA.fresh f6 (by omega)
   replace r6:=r6.F f6
   have t6:=t.fr pA (by omega)
   obtain ⟨y,rfl⟩:=w6.pa.ptr
   have hL6:L≤h5.size∧h5.size≤h6.size∧hs.size≤h5.size:=by omega
   simp -dsimp only [go_sem,r6.cell]
   refine Chk_intro (r3.wr (by first | (simp;done) | (simp;omega))) fun h7 s7=>?_
   have s7_z:=s7.size
   replace p0:=p0.F s7.fr
   replace r2:=r2.F s7.fr
   replace r4:=r4.F s7.fr
   replace r6:=r6.F s7.fr
   replace r3:=s7.row r3
   try simp only [cl_ptr,putAt_one,List.set_cons_zero,List.set_cons_succ] at r3
   try simp -dsimp only [go_sem] at r3
   have D7:=D6.fr s7.fr (fun k hk=>by have:=dlo k hk;omega)
   have t7:=t6.fr s7.fr (by omega)
   have w7:=w6.fr s7.fr (by omega)
   simp -dsimp only [go_sem,r3.cell,r6.cell]
   intro b8 h8 n8
   have n8_a:=n8.at_
   have n8_z:=n8.size
   replace p0:=p0.F n8.f0
   replace r2:=r2.F n8.f0
   replace r3:=r3.F n8.f0
   replace r4:=r4.F n8.f0
   replace r6:=r6.F n8.f0
   have r8:=n8.row
   have D8:=D7.fr n8.f0 (fun k hk=>by omega)
   have t8:=t7.fr n8.f0 (by omega)
   have w8:=w7.fr n8.f0 (by omega)
   simp -dsimp only [go_sem]
   refine call_of (rel_UnionU (UA.mk' [(.pointer (some ⟨u,0,none⟩),rangeM (aM g) 1),(.pointer (some ⟨y,0,none⟩),aM g 1)] r8 (pa_cons t8.pa (pa_cons w8.pa pa_nil)) (by simp) (by simp))) ?_
   rintro v9 h9 ⟨f9,t9⟩
   have D9:=D8.fr f9 (fun k hk=>by omega)
   have w9:=w8.fr f9 (by omega)
   have f9_z:=f9.size
   replace p0:=p0.F f9
   replace r2:=r2.F f9
   replace r3:=r3.F f9
   replace r4:=r4.F f9
   replace r6:=r6.F f9
   replace r8:=r8.F f9
   have t9:=PN.of t9
   obtain ⟨u9,rfl⟩:=t9.pa.ptr
   simp -dsimp only [go_sem,r3.cell,r6.cell]
   refine Chk_intro (r3.wr (by first | (simp;done) | (simp;omega))) fun h10 s10=>?_
   have s10_z:=s10.size
   replace p0:=p0.F s10.fr
   replace r2:=r2.F s10.fr
   replace r4:=r4.F s10.fr
   replace r6:=r6.F s10.fr
   replace r8:=r8.F s10.fr
   replace r3:=s10.row r3
   try simp only [cl_ptr,putAt_one,List.set_cons_zero,List.set_cons_succ] at r3
   try simp -dsimp only [go_sem] at r3
   have D10:=D9.fr s10.fr (fun k hk=>by have:=dlo k hk;omega)
   have w10:=w9.fr s10.fr (by omega)
   have t10:=t9.fr s10.fr (by omega)
   obtain ⟨A',B',D',dlo'⟩:=Der.snoc (L:=h5.size) (L':=h8.size) (lo:=hs.size) D10 (fun k hk=>by have:=dlo k hk;omega) (by
    obtain ⟨a,b,w,k1,k2,k3⟩:=w8
    exact ⟨a,b,(w.fr f9 (by omega)).fr s10.fr (by omega),k1,k2,k3⟩)
   simp -dsimp only [go_sem]
   simp -dsimp (disch:=omega) only [wrap64]
   exact ⟨1+1,by omega,by simp [Le,find],by omega,p0,r2,r4,upd x 1 (.pointer (some ⟨y,0,none⟩)),u9,A',B',h8.size,r3,D',fun k hk=>by have:=dlo' k hk;omega,(t10.congr fun i j _ _=>by simp [orM,rangeM,List.range_succ]),by omega,by omega⟩
  ·skip
   have pA:Fr 0 0 h3 h3:=.refl _ _ _
   simp -dsimp only [go_sem,e1,r4.cell]
   intro b6 h4 n6
   have n6_a:=n6.at_
   have n6_z:=n6.size
   replace p0:=p0.F n6.f0
   replace r2:=r2.F n6.f0
   replace r3:=r3.F n6.f0
   replace r4:=r4.F n6.f0
   replace pA:=pA.fresh n6.f0 (by omega)
   have r6:=n6.row
   simp -dsimp only [go_sem]
   refine Chk_intro (r6.wr (by first | (simp;done) | (simp;omega))) fun h5 s5=>?_
   have s5_z:=s5.size
   replace p0:=p0.F s5.fr
   replace r2:=r2.F s5.fr
   replace r3:=r3.F s5.fr
   replace r4:=r4.F s5.fr
   replace pA:=pA.fresh s5.fr (by omega)
   replace r6:=s5.row r6
   try simp only [cl_int,cl_bool,cl_slice,cl_ptr,putAt_one,List.set_cons_zero,List.set_cons_succ,ivec_set,brow_upd] at r6
   try simp -dsimp only [go_sem] at r6
   simp -dsimp only [go_sem,r6.cell]
   have D5:=(D.fr n6.f0 (fun k hk=>by omega)).fr s5.fr (fun k hk=>by have:=dlo k hk;omega)
   refine call_of (arm_model_aob (m.fr p0) hg (ht.fr p0 (.inr rfl))) ?_
   rintro v6 h6 ⟨f6,w6⟩
   have D6:=D5.fr f6 (fun k hk=>by omega)
   have f6_z:=f6.size
   replace p0:=p0.F f6
   replace r2:=r2.F f6
   replace r3:=r3.F f6
   replace r4:=r4.F f6
   replace pA:=pA.fresh f6 (by omega)
   replace r6:=r6.F f6
   have t6:=t.fr pA (by omega)
   obtain ⟨y,rfl⟩:=w6.pa.ptr
   have hL6:L≤h5.size∧h5.size≤h6.size∧hs.size≤h5.size:=by omega
   simp -dsimp only [go_sem,r6.cell]
   refine Chk_intro (r3.wr (by first | (simp;done) | (simp;omega))) fun h7 s7=>?_
   have s7_z:=s7.size
   replace p0:=p0.F s7.fr
   replace r2:=r2.F s7.fr
   replace r4:=r4.F s7.fr
   replace r6:=r6.F s7.fr
   replace r3:=s7.row r3
   try simp only [cl_ptr,putAt_one,List.set_cons_zero,List.set_cons_succ] at r3
   try simp -dsimp only [go_sem] at r3
   have D7:=D6.fr s7.fr (fun k hk=>by have:=dlo k hk;omega)
   have t7:=t6.fr s7.fr (by omega)
   have w7:=w6.fr s7.fr (by omega)
   simp -dsimp only [go_sem,r3.cell,r6.cell]
   intro b8 h8 n8
   have n8_a:=n8.at_
   have n8_z:=n8.size
   replace p0:=p0.F n8.f0
   replace r2:=r2.F n8.f0
   replace r3:=r3.F n8.f0
   replace r4:=r4.F n8.f0
   replace r6:=r6.F n8.f0
   have r8:=n8.row
   have D8:=D7.fr n8.f0 (fun k hk=>by omega)
   have t8:=t7.fr n8.f0 (by omega)
   have w8:=w7.fr n8.f0 (by omega)
   simp -dsimp only [go_sem]
   refine call_of (rel_UnionU (UA.mk' [(.pointer (some ⟨u,0,none⟩),rangeM (aM g) 2),(.pointer (some ⟨y,0,none⟩),aM g 2)] r8 (pa_cons t8.pa (pa_cons w8.pa pa_nil)) (by simp) (by simp))) ?_
   rintro v9 h9 ⟨f9,t9⟩
   have D9:=D8.fr f9 (fun k hk=>by omega)
   have w9:=w8.fr f9 (by omega)
   have f9_z:=f9.size
   replace p0:=p0.F f9
   replace r2:=r2.F f9
   replace r3:=r3.F f9
   replace r4:=r4.F f9
   replace r6:=r6.F f9
   replace r8:=r8.F f9
   have t9:=PN.of t9
   obtain ⟨u9,rfl⟩:=t9.pa.ptr
   simp -dsimp only [go_sem,r3.cell,r6.cell]
   refine Chk_intro (r3.wr (by first | (simp;done) | (simp;omega))) fun h10 s10=>?_
   have s10_z:=s10.size
   replace p0:=p0.F s10.fr
   replace r2:=r2.F s10.fr
   replace r4:=r4.F s10.fr
   replace r6:=r6.F s10.fr
   replace r8:=r8.F s10.fr
   replace r3:=s10.row r3
   try simp only [cl_ptr,putAt_one,List.set_cons_zero,List.set_cons_succ] at r3
   try simp -dsimp only [go_sem] at r3
   have D10:=D9.fr s10.fr (fun k hk=>by have:=dlo k hk;omega)
   have w10:=w9.fr s10.fr (by omega)
   have t10:=t9.fr s10.fr (by omega)
   obtain ⟨A',B',D',dlo'⟩:=Der.snoc (L:=h5.size) (L':=h8.size) (lo:=hs.size) D10 (fun k hk=>by have:=dlo k hk;omega) (by
    obtain ⟨a,b,w,k1,k2,k3⟩:=w8
    exact ⟨a,b,(w.fr f9 (by omega)).fr s10.fr (by omega),k1,k2,k3⟩)
   simp -dsimp only [go_sem]
   simp -dsimp (disch:=omega) only [wrap64]
   exact ⟨2+1,by omega,by simp [Le,find],by omega,p0,r2,r4,upd x 2 (.pointer (some ⟨y,0,none⟩)),u9,A',B',h8.size,r3,D',fun k hk=>by have:=dlo' k hk;omega,(t10.congr fun i j _ _=>by simp [orM,rangeM,List.range_succ,Bool.or_assoc]),by omega,by omega⟩
  ·skip
   have pA:Fr 0 0 h3 h3:=.refl _ _ _
   simp -dsimp only [go_sem,e1,r4.cell]
   intro b6 h4 n6
   have n6_a:=n6.at_
   have n6_z:=n6.size
   replace p0:=p0.F n6.f0
   replace r2:=r2.F n6.f0
   replace r3:=r3.F n6.f0
   replace r4:=r4.F n6.f0
   replace pA:=pA.fresh n6.f0 (by omega)
   have r6:=n6.row
   simp -dsimp only [go_sem]
   refine Chk_intro (r6.wr (by first | (simp;done) | (simp;omega))) fun h5 s5=>?_
   have s5_z:=s5.size
   replace p0:=p0.F s5.fr
   replace r2:=r2.F s5.fr
   replace r3:=r3.F s5.fr
   replace r4:=r4.F s5.fr
   replace pA:=pA.fresh s5.fr (by omega)
   replace r6:=s5.row r6
   try simp only [cl_int,cl_bool,cl_slice,cl_ptr,putAt_one,List.set_cons_zero,List.set_cons_succ,ivec_set,brow_upd] at r6
   try simp -dsimp only [go_sem] at r6
   simp -dsimp only [go_sem,r6.cell]
   have D5:=(D.fr n6.f0 (fun k hk=>by omega)).fr s5.fr (fun k hk=>by have:=dlo k hk;omega)
   refine call_of (arm_model_bob (m.fr p0) (ht.fr p0 (.inr rfl))) ?_
   rintro v6 h6 ⟨f6,w6⟩
   have D6:=D5.fr f6 (fun k hk=>by omega)
   have f6_z:=f6.size
   replace p0:=p0.F f6
   replace r2:=r2.F f6
   replace r3:=r3.F f6
   replace r4:=r4.F f6
   replace pA:=pA.fresh f6 (by omega)
   replace r6:=r6.F f6
   have t6:=t.fr pA (by omega)
   obtain ⟨y,rfl⟩:=w6.pa.ptr
   have hL6:L≤h5.size∧h5.size≤h6.size∧hs.size≤h5.size:=by omega
   simp -dsimp only [go_sem,r6.cell]
   refine Chk_intro (r3.wr (by first | (simp;done) | (simp;omega))) fun h7 s7=>?_
   have s7_z:=s7.size
   replace p0:=p0.F s7.fr
   replace r2:=r2.F s7.fr
   replace r4:=r4.F s7.fr
   replace r6:=r6.F s7.fr
   replace r3:=s7.row r3
   try simp only [cl_ptr,putAt_one,List.set_cons_zero,List.set_cons_succ] at r3
   try simp -dsimp only [go_sem] at r3
   have D7:=D6.fr s7.fr (fun k hk=>by have:=dlo k hk;omega)
   have t7:=t6.fr s7.fr (by omega)
   have w7:=w6.fr s7.fr (by omega)
   simp -dsimp only [go_sem,r3.cell,r6.cell]
   intro b8 h8 n8
   have n8_a:=n8.at_
   have n8_z:=n8.size
   replace p0:=p0.F n8.f0
   replace r2:=r2.F n8.f0
   replace r3:=r3.F n8.f0
   replace r4:=r4.F n8.f0
   replace r6:=r6.F n8.f0
   have r8:=n8.row
   have D8:=D7.fr n8.f0 (fun k hk=>by omega)
   have t8:=t7.fr n8.f0 (by omega)
   have w8:=w7.fr n8.f0 (by omega)
   simp -dsimp only [go_sem]
   refine call_of (rel_UnionU (UA.mk' [(.pointer (some ⟨u,0,none⟩),rangeM (aM g) 3),(.pointer (some ⟨y,0,none⟩),aM g 3)] r8 (pa_cons t8.pa (pa_cons w8.pa pa_nil)) (by simp) (by simp))) ?_
   rintro v9 h9 ⟨f9,t9⟩
   have D9:=D8.fr f9 (fun k hk=>by omega)
   have w9:=w8.fr f9 (by omega)
   have f9_z:=f9.size
   replace p0:=p0.F f9
   replace r2:=r2.F f9
   replace r3:=r3.F f9
   replace r4:=r4.F f9
   replace r6:=r6.F f9
   replace r8:=r8.F f9
   have t9:=PN.of t9
   obtain ⟨u9,rfl⟩:=t9.pa.ptr
   simp -dsimp only [go_sem,r3.cell,r6.cell]
   refine Chk_intro (r3.wr (by first | (simp;done) | (simp;omega))) fun h10 s10=>?_
   have s10_z:=s10.size
   replace p0:=p0.F s10.fr
   replace r2:=r2.F s10.fr
   replace r4:=r4.F s10.fr
   replace r6:=r6.F s10.fr
   replace r8:=r8.F s10.fr
   replace r3:=s10.row r3
   try simp only [cl_ptr,putAt_one,List.set_cons_zero,List.set_cons_succ] at r3
   try simp -dsimp only [go_sem] at r3
   have D10:=D9.fr s10.fr (fun k hk=>by have:=dlo k hk;omega)
   have w10:=w9.fr s10.fr (by omega)
   have t10:=t9.fr s10.fr (by omega)
   obtain ⟨A',B',D',dlo'⟩:=Der.snoc (L:=h5.size) (L':=h8.size) (lo:=hs.size) D10 (fun k hk=>by have:=dlo k hk;omega) (by
    obtain ⟨a,b,w,k1,k2,k3⟩:=w8
    exact ⟨a,b,(w.fr f9 (by omega)).fr s10.fr (by omega),k1,k2,k3⟩)
   simp -dsimp only [go_sem]
   simp -dsimp (disch:=omega) only [wrap64]
   exact ⟨3+1,by omega,by simp [Le,find],by omega,p0,r2,r4,upd x 3 (.pointer (some ⟨y,0,none⟩)),u9,A',B',h8.size,r3,D',fun k hk=>by have:=dlo' k hk;omega,(t10.congr fun i j _ _=>by simp [orM,rangeM,List.range_succ,Bool.or_assoc]),by omega,by omega⟩
 ·obtain rfl:i=4:=by omega
  have ocx:∀ k,k<4→(x k).oneCell'=true:=fun k hk=>by obtain ⟨_,e⟩:=hx k hk;rw [e];rfl
  simp -dsimp only [go_sem,Int.lt_irrefl,ocx 0 (by decide),ocx 1 (by decide),ocx 2 (by decide),ocx 3 (by decide),r3.cell]
  have hD:∀ k,k<4→B k≤h3.size:=fun k hk=>by have:=dlo k hk;omega
  obtain ⟨a,b,w,w1,w2,w3⟩:=t
  obtain ⟨A',B',D',dlo'⟩:=Der.snoc (v:=.pointer (some ⟨u,0,none⟩)) (lo:=hs.size) (L:=L) (L':=h3.size) D dlo ⟨a,b,w.congr fun i j _ _=>by simp [rangeM,List.range_succ,aM,obM,Bool.or_assoc],w1,w2,w3⟩
  have hz3:h.size≤h3.size:=by omega
  refine Chk_intro (r2.wr (by first | (simp;done) | (simp;omega))) fun h5 s5=>?_
  have s5_z:=s5.size
  replace p0:=p0.F s5.fr
  replace r3:=r3.F s5.fr
  replace r4:=r4.F s5.fr
  replace r2:=s5.row r2
  try simp only [cl_int,cl_bool,cl_slice,cl_ptr,putAt_one,List.set_cons_zero,List.set_cons_succ,ivec_set,brow_upd] at r2
  have z5:=s5.size
  have D5:=D'.fr s5.fr (fun k hk=>by have:=dlo' k hk;omega)
  replace r2:Rw h5 b2 [x 0,x 1,x 2,x 3,.pointer (some ⟨u,0,none⟩)]:=r2
  simp -dsimp only [go_sem,r2.cell]
  exact ⟨p0,upd x 4 (.pointer (some ⟨u,0,none⟩)),A',B',rfl,D5,fun k hk=>by have:=dlo' k hk;omega⟩
end
end Go.Proofs.Tst
/-
  The words' memory model of a graph; Derive, Check.
-/
namespace Go.Proofs.Tst
open Go Go.Vc
theorem facts_ptr {p:Nat→Value} {h:Heap} {lo:Nat} {rd wr fe:Value} {g:Gr} (F:FactsAt h lo p rd wr fe g):∃ c:Nat→Nat,∀ k,k<10→p k=.pointer (some ⟨c k,0,none⟩):=by
 obtain ⟨A,B,D,-⟩:=F.rel
 exact ⟨fun k=>if hk:k<10 then (progPtr (D.at_ k hk)).choose else 0,fun k hk=>by dsimp only;rw [dif_pos hk];exact (progPtr (D.at_ k hk)).choose_spec⟩
theorem good_true {g:Gr} (h:(g.check true).1=0):g.good=true:=by unfold Gr.good;rw [h];simp
section
variable {h : Heap} {q : GV} {g : Gr}
set_option maxHeartbeats 4000000 in
theorem arm_derive (t:GrAt h q g) (ht:TabAt h) :
  Con Tryz.prog 18 #[.agg (gcells q g).toArray] h fun v h'=>Fr 0 0 h h'∧if (g.check true).1=0 then ∃ mb c rd wr fe d,v=.tuple #[.pointer (some ⟨mb,0,none⟩),.int .i64 0]∧Md h' mb q g c rd wr fe d else v=.tuple #[.pointer none,.int .i64 4]:=by
 have p0:Fr 0 0 h h:=.refl _ _ _
 have hen:g.evs.length=g.n:=rfl
 by_cases hc:(g.check true).1=0
 rotate_left
 ·simp only [if_neg hc]
  refine con_arm_derive ?_
  unfold gcells
  simp -dsimp only [go_sem]
  intro b1 h1 n1
  have n1_a:=n1.at_
  have n1_z:=n1.size
  replace p0:=p0.F n1.f0
  have r1:=n1.row
  simp -dsimp only [go_sem,r1.cell]
  refine call_of (graph_Check (t.fr p0) true) ?_
  rintro v2 h2 ⟨f2,rfl⟩
  have f2_z:=f2.size
  replace p0:=p0.F f2
  replace r1:=r1.F f2
  simp -dsimp only [go_sem,bne_f hc]
  exact p0
 simp only [if_pos hc]
 refine con_arm_derive ?_
 unfold gcells
 simp -dsimp only [go_sem]
 intro b1 h1 n1
 have n1_a:=n1.at_
 have n1_z:=n1.size
 replace p0:=p0.F n1.f0
 have r1:=n1.row
 simp -dsimp only [go_sem,r1.cell]
 refine call_of (graph_Check (t.fr p0) true) ?_
 rintro v2 h2 ⟨f2,rfl⟩
 have f2_z:=f2.size
 replace p0:=p0.F f2
 replace r1:=r1.F f2
 have hg:=good_true hc
 simp -dsimp only [go_sem,bne_t hc,r1.cell]
 refine call_of (graph_Derive (t.fr p0) (ht.fr p0 (.inr rfl))) ?_
 rintro v3 h3 ⟨f3,w3⟩
 have f3_z:=f3.size
 replace p0:=p0.F f3
 replace r1:=r1.F f3
 rw [if_pos hg] at w3
 obtain ⟨p,rd,wr,fe,rfl,F⟩:=w3
 obtain ⟨c,hp⟩:=facts_ptr F
 obtain ⟨A,B,D,dlo,dap⟩:=F.rel
 have hn:=F.n
 have R:∀ k,k<10→PA h3 (.pointer (some ⟨c k,0,none⟩)) g.n (relM g k):=fun k hk=>by rw [← hp k hk];exact ⟨_,_,D.at_ k hk⟩
 have dR:Rd 1 h3 rd (kindsV g 1 g.n).length (boolsV (kindsV g 1 g.n)):=by rw [kinds_len];exact F.hrd.rd
 have dW:Rd 1 h3 wr (kindsV g 2 g.n).length (boolsV (kindsV g 2 g.n)):=by rw [kinds_len];exact F.hwr.rd
 have dF:Rd 1 h3 fe (kindsV g 3 g.n).length (boolsV (kindsV g 3 g.n)):=by rw [kinds_len];exact F.hfe.rd
 obtain ⟨rda,rdc,e1⟩:=F.hrd.is
 obtain ⟨wra,wrc,e2⟩:=F.hwr.is
 obtain ⟨fea,fec,e3⟩:=F.hfe.is
 subst e1;subst e2;subst e3
 clear F D dap dlo
 have p3:Fr 0 0 h3 h3:=.refl _ _ _
 unfold fcells
 rw [hp 0 (by decide),hp 1 (by decide),hp 2 (by decide),hp 3 (by decide),hp 4 (by decide),hp 5 (by decide),hp 6 (by decide),hp 7 (by decide),hp 8 (by decide),hp 9 (by decide)]
 simp -dsimp only [go_sem]
 intro b6 h4 n4
 have n4_a:=n4.at_
 have n4_z:=n4.size
 replace p0:=p0.F n4.f0
 replace r1:=r1.F n4.f0
 replace p3:=p3.F n4.f0
 have r6:=n4.row
 simp -dsimp only [go_sem]
 refine Chk_intro (r6.wr (by first | (simp;done) | (simp;omega))) fun h5 s5=>?_
 have s5_z:=s5.size
 replace p0:=p0.F s5.fr
 replace r1:=r1.F s5.fr
 replace p3:=p3.F s5.fr
 replace r6:=s5.row r6
 try simp only [cl_int,cl_bool,cl_slice,cl_ptr,putAt_one,List.set_cons_zero,List.set_cons_succ,ivec_set,brow_upd] at r6
 try simp -dsimp only [go_sem] at r6
 simp -dsimp only [go_sem,r1.cell]
 refine withC_of [.pointer (some ⟨c 0,0,none⟩),.pointer (some ⟨c 1,0,none⟩),.pointer (some ⟨c 2,0,none⟩),.pointer (some ⟨c 9,0,none⟩),.pointer (some ⟨c 3,0,none⟩),.pointer (some ⟨c 4,0,none⟩),.pointer (some ⟨c 5,0,none⟩),.pointer (some ⟨c 6,0,none⟩),.pointer (some ⟨c 7,0,none⟩),.pointer (some ⟨c 8,0,none⟩),.slice rda g.n rdc,.slice wra g.n wrc,.slice fea g.n fec] 0 (fun j x hj=>by rw [r6.cell,Nat.zero_add];exact hj) ?_
 refine Chk_intro rfl ?_
 simp -dsimp only [go_sem]
 intro mb h6 n6
 have n6_a:=n6.at_
 have n6_z:=n6.size
 replace p0:=p0.F n6.f0
 replace r1:=r1.F n6.f0
 replace p3:=p3.F n6.f0
 replace r6:=r6.F n6.f0
 have rm:=n6.row
 replace rm:Rw h6 mb [.int .i64 g.cells,.slice q.e g.evs.length q.ec,.slice q.f g.rf.length q.fc,.slice q.o g.co.length q.oc,.slice q.r g.rmw.length q.rc,.slice q.a g.addr.length q.ac,.slice q.d g.data.length q.dc,.slice q.c g.ctrl.length q.cc,.pointer (some ⟨c 0,0,none⟩),.pointer (some ⟨c 1,0,none⟩),.pointer (some ⟨c 2,0,none⟩),.pointer (some ⟨c 9,0,none⟩),.pointer (some ⟨c 3,0,none⟩),.pointer (some ⟨c 4,0,none⟩),.pointer (some ⟨c 5,0,none⟩),.pointer (some ⟨c 6,0,none⟩),.pointer (some ⟨c 7,0,none⟩),.pointer (some ⟨c 8,0,none⟩),.slice rda g.n rdc,.slice wra g.n wrc,.slice fea g.n fec,.pointer none,.pointer none,.pointer none,.pointer none,.pointer none,.pointer none]:=rm
 have gb:h.size≤mb:=by omega
 simp -dsimp only [go_sem,r6.cell]
 obtain ⟨_,_,ta⟩:=(R 1 (by decide)).fr p3
 obtain ⟨_,_,tb⟩:=(R 5 (by decide)).fr p3
 refine call_of (rel_Inter ta tb (ht.fr p0 (.inr rfl))) ?_
 rintro vm0 h_m0 ⟨f_m0,t_m0⟩
 rw [Nat.max_self] at t_m0
 have f_m0_z:=f_m0.size
 replace p0:=p0.F f_m0
 replace r1:=r1.F f_m0
 replace p3:=p3.F f_m0
 replace r6:=r6.F f_m0
 replace rm:=rm.fr f_m0 (by omega)
 have e_m0:PN h_m0 h6.size vm0 g.n (rfeM g):=((PN.of t_m0).lower (by omega)).congr fun i j hi hj=>interM_in hi hj
 obtain ⟨m0,rfl⟩:=e_m0.pa.ptr
 clear t_m0 ta tb
 simp -dsimp only [go_sem,r6.cell]
 obtain ⟨_,_,ta⟩:=(R 1 (by decide)).fr p3
 obtain ⟨_,_,tb⟩:=(R 5 (by decide)).fr p3
 refine call_of (rel_Minus ta tb (ht.fr p0 (.inr rfl))) ?_
 rintro vm1 h_m1 ⟨f_m1,t_m1⟩
 rw [Nat.max_self] at t_m1
 have f_m1_z:=f_m1.size
 replace p0:=p0.F f_m1
 replace r1:=r1.F f_m1
 replace p3:=p3.F f_m1
 replace r6:=r6.F f_m1
 replace rm:=rm.fr f_m1 (by omega)
 replace e_m0:=e_m0.fr f_m1 (by omega)
 have e_m1:PN h_m1 h6.size vm1 g.n (rfiM g):=((PN.of t_m1).lower (by omega)).congr fun i j hi hj=>minusM_in hi hj
 obtain ⟨m1,rfl⟩:=e_m1.pa.ptr
 clear t_m1 ta tb
 simp -dsimp only [go_sem,r6.cell]
 refine Chk_intro (rm.wr (by first | (simp;done) | (simp;omega))) fun hs_a ss_a=>?_
 have ss_a_z:=ss_a.size
 replace p0:=p0.F ss_a.fr
 replace r1:=r1.F ss_a.fr
 replace p3:=p3.F ss_a.fr
 replace r6:=r6.F ss_a.fr
 replace e_m0:=e_m0.fr ss_a.fr (by omega)
 replace e_m1:=e_m1.fr ss_a.fr (by omega)
 replace rm:=ss_a.row rm
 try simp only [cl_ptr,putAt_one,List.set_cons_zero,List.set_cons_succ] at rm
 try simp -dsimp only [go_sem] at rm
 simp -dsimp only [go_sem,r6.cell]
 refine Chk_intro (rm.wr (by first | (simp;done) | (simp;omega))) fun hs_b ss_b=>?_
 have ss_b_z:=ss_b.size
 replace p0:=p0.F ss_b.fr
 replace r1:=r1.F ss_b.fr
 replace p3:=p3.F ss_b.fr
 replace r6:=r6.F ss_b.fr
 replace e_m0:=e_m0.fr ss_b.fr (by omega)
 replace e_m1:=e_m1.fr ss_b.fr (by omega)
 replace rm:=ss_b.row rm
 try simp only [cl_ptr,putAt_one,List.set_cons_zero,List.set_cons_succ] at rm
 try simp -dsimp only [go_sem] at rm
 simp -dsimp only [go_sem,r6.cell]
 obtain ⟨_,_,ta⟩:=(R 2 (by decide)).fr p3
 obtain ⟨_,_,tb⟩:=(R 5 (by decide)).fr p3
 refine call_of (rel_Inter ta tb (ht.fr p0 (.inr rfl))) ?_
 rintro vm2 h_m2 ⟨f_m2,t_m2⟩
 rw [Nat.max_self] at t_m2
 have f_m2_z:=f_m2.size
 replace p0:=p0.F f_m2
 replace r1:=r1.F f_m2
 replace p3:=p3.F f_m2
 replace r6:=r6.F f_m2
 replace rm:=rm.fr f_m2 (by omega)
 replace e_m0:=e_m0.fr f_m2 (by omega)
 replace e_m1:=e_m1.fr f_m2 (by omega)
 have e_m2:PN h_m2 h6.size vm2 g.n (coeM g):=((PN.of t_m2).lower (by omega)).congr fun i j hi hj=>interM_in hi hj
 obtain ⟨m2,rfl⟩:=e_m2.pa.ptr
 clear t_m2 ta tb
 simp -dsimp only [go_sem,r6.cell]
 obtain ⟨_,_,ta⟩:=(R 2 (by decide)).fr p3
 obtain ⟨_,_,tb⟩:=(R 5 (by decide)).fr p3
 refine call_of (rel_Minus ta tb (ht.fr p0 (.inr rfl))) ?_
 rintro vm3 h_m3 ⟨f_m3,t_m3⟩
 rw [Nat.max_self] at t_m3
 have f_m3_z:=f_m3.size
 replace p0:=p0.F f_m3
 replace r1:=r1.F f_m3
 replace p3:=p3.F f_m3
 replace r6:=r6.F f_m3
 replace rm:=rm.fr f_m3 (by omega)
 replace e_m0:=e_m0.fr f_m3 (by omega)
 replace e_m1:=e_m1.fr f_m3 (by omega)
 replace e_m2:=e_m2.fr f_m3 (by omega)
 have e_m3:PN h_m3 h6.size vm3 g.n (coiM g):=((PN.of t_m3).lower (by omega)).congr fun i j hi hj=>minusM_in hi hj
 obtain ⟨m3,rfl⟩:=e_m3.pa.ptr
 clear t_m3 ta tb
 simp -dsimp only [go_sem,r6.cell]
 refine Chk_intro (rm.wr (by first | (simp;done) | (simp;omega))) fun hs_c ss_c=>?_
 have ss_c_z:=ss_c.size
 replace p0:=p0.F ss_c.fr
 replace r1:=r1.F ss_c.fr
 replace p3:=p3.F ss_c.fr
 replace r6:=r6.F ss_c.fr
 replace e_m0:=e_m0.fr ss_c.fr (by omega)
 replace e_m1:=e_m1.fr ss_c.fr (by omega)
 replace e_m2:=e_m2.fr ss_c.fr (by omega)
 replace e_m3:=e_m3.fr ss_c.fr (by omega)
 replace rm:=ss_c.row rm
 try simp only [cl_ptr,putAt_one,List.set_cons_zero,List.set_cons_succ] at rm
 try simp -dsimp only [go_sem] at rm
 simp -dsimp only [go_sem,r6.cell]
 refine Chk_intro (rm.wr (by first | (simp;done) | (simp;omega))) fun hs_d ss_d=>?_
 have ss_d_z:=ss_d.size
 replace p0:=p0.F ss_d.fr
 replace r1:=r1.F ss_d.fr
 replace p3:=p3.F ss_d.fr
 replace r6:=r6.F ss_d.fr
 replace e_m0:=e_m0.fr ss_d.fr (by omega)
 replace e_m1:=e_m1.fr ss_d.fr (by omega)
 replace e_m2:=e_m2.fr ss_d.fr (by omega)
 replace e_m3:=e_m3.fr ss_d.fr (by omega)
 replace rm:=ss_d.row rm
 try simp only [cl_ptr,putAt_one,List.set_cons_zero,List.set_cons_succ] at rm
 try simp -dsimp only [go_sem] at rm
 simp -dsimp only [go_sem,r6.cell]
 obtain ⟨_,_,ta⟩:=(R 9 (by decide)).fr p3
 obtain ⟨_,_,tb⟩:=(R 5 (by decide)).fr p3
 refine call_of (rel_Inter ta tb (ht.fr p0 (.inr rfl))) ?_
 rintro vm4 h_m4 ⟨f_m4,t_m4⟩
 rw [Nat.max_self] at t_m4
 have f_m4_z:=f_m4.size
 replace p0:=p0.F f_m4
 replace r1:=r1.F f_m4
 replace p3:=p3.F f_m4
 replace r6:=r6.F f_m4
 replace rm:=rm.fr f_m4 (by omega)
 replace e_m0:=e_m0.fr f_m4 (by omega)
 replace e_m1:=e_m1.fr f_m4 (by omega)
 replace e_m2:=e_m2.fr f_m4 (by omega)
 replace e_m3:=e_m3.fr f_m4 (by omega)
 have e_m4:PN h_m4 h6.size vm4 g.n (freM g):=((PN.of t_m4).lower (by omega)).congr fun i j hi hj=>interM_in hi hj
 obtain ⟨m4,rfl⟩:=e_m4.pa.ptr
 clear t_m4 ta tb
 simp -dsimp only [go_sem]
 refine Chk_intro (rm.wr (by first | (simp;done) | (simp;omega))) fun hs_e ss_e=>?_
 have ss_e_z:=ss_e.size
 replace p0:=p0.F ss_e.fr
 replace r1:=r1.F ss_e.fr
 replace p3:=p3.F ss_e.fr
 replace r6:=r6.F ss_e.fr
 replace e_m0:=e_m0.fr ss_e.fr (by omega)
 replace e_m1:=e_m1.fr ss_e.fr (by omega)
 replace e_m2:=e_m2.fr ss_e.fr (by omega)
 replace e_m3:=e_m3.fr ss_e.fr (by omega)
 replace e_m4:=e_m4.fr ss_e.fr (by omega)
 replace rm:=ss_e.row rm
 try simp only [cl_ptr,putAt_one,List.set_cons_zero,List.set_cons_succ] at rm
 try simp -dsimp only [go_sem] at rm
 simp -dsimp only [go_sem]
 have gh:Mg hs_e mb q g:=⟨⟨_,rm⟩,t.fr p0,hn⟩
 have pz:Fr 0 0 hs_e hs_e:=.refl _ _ _
 refine call_of (arm_model_mode (gh.fr pz) 12) ?_
 rintro v7 h7 ⟨f7,w7⟩
 have f7_z:=f7.size
 replace p0:=p0.F f7
 replace r1:=r1.F f7
 replace p3:=p3.F f7
 replace r6:=r6.F f7
 replace rm:=rm.fr f7 (by omega)
 replace e_m0:=e_m0.fr f7 (by omega)
 replace e_m1:=e_m1.fr f7 (by omega)
 replace e_m2:=e_m2.fr f7 (by omega)
 replace e_m3:=e_m3.fr f7 (by omega)
 replace e_m4:=e_m4.fr f7 (by omega)
 replace pz:=pz.fresh f7 (by omega)
 simp -dsimp only [go_sem]
 refine call_of (arm_model_mode (gh.fr pz) 16) ?_
 rintro v8 h8 ⟨f8,w8⟩
 have w7:=w7.fr f8 (by omega)
 have f8_z:=f8.size
 replace p0:=p0.F f8
 replace r1:=r1.F f8
 replace p3:=p3.F f8
 replace r6:=r6.F f8
 replace rm:=rm.fr f8 (by omega)
 replace e_m0:=e_m0.fr f8 (by omega)
 replace e_m1:=e_m1.fr f8 (by omega)
 replace e_m2:=e_m2.fr f8 (by omega)
 replace e_m3:=e_m3.fr f8 (by omega)
 replace e_m4:=e_m4.fr f8 (by omega)
 replace pz:=pz.fresh f8 (by omega)
 simp -dsimp only [go_sem,w7.pa.cl,w8.pa.cl]
 intro b9 h9 n9
 have n9_a:=n9.at_
 have n9_z:=n9.size
 replace p0:=p0.F n9.f0
 replace r1:=r1.F n9.f0
 replace p3:=p3.F n9.f0
 replace r6:=r6.F n9.f0
 replace rm:=rm.fr n9.f0 (by omega)
 replace e_m0:=e_m0.fr n9.f0 (by omega)
 replace e_m1:=e_m1.fr n9.f0 (by omega)
 replace e_m2:=e_m2.fr n9.f0 (by omega)
 replace e_m3:=e_m3.fr n9.f0 (by omega)
 replace e_m4:=e_m4.fr n9.f0 (by omega)
 replace pz:=pz.fresh n9.f0 (by omega)
 have r9:=n9.row
 have w7:=w7.fr n9.f0 (by omega)
 have w8:=w8.fr n9.f0 (by omega)
 simp -dsimp only [go_sem]
 refine call_of (rel_UnionU (UA.mk' [(v7,_),(v8,_)] r9 (pa_cons w7.pa (pa_cons w8.pa pa_nil)) (by simp) (by simp))) ?_
 rintro v10 h10 ⟨f10,t10⟩
 have f10_z:=f10.size
 replace p0:=p0.F f10
 replace r1:=r1.F f10
 replace p3:=p3.F f10
 replace r6:=r6.F f10
 replace rm:=rm.fr f10 (by omega)
 replace e_m0:=e_m0.fr f10 (by omega)
 replace e_m1:=e_m1.fr f10 (by omega)
 replace e_m2:=e_m2.fr f10 (by omega)
 replace e_m3:=e_m3.fr f10 (by omega)
 replace e_m4:=e_m4.fr f10 (by omega)
 replace pz:=pz.fresh f10 (by omega)
 replace r9:=r9.F f10
 have e_m5:PN h10 h6.size v10 g.n (dM (acqB g)):=((PN.of t10).lower (by omega)).congr fun i j hi hj=>by
  unfold orM dM acqB
  cases h1:(i==j) <;> simp [h1]
 obtain ⟨m5,rfl⟩:=e_m5.pa.ptr
 simp -dsimp only [go_sem]
 refine Chk_intro (rm.wr (by first | (simp;done) | (simp;omega))) fun h11 s11=>?_
 have s11_z:=s11.size
 replace p0:=p0.F s11.fr
 replace r1:=r1.F s11.fr
 replace p3:=p3.F s11.fr
 replace r6:=r6.F s11.fr
 replace e_m0:=e_m0.fr s11.fr (by omega)
 replace e_m1:=e_m1.fr s11.fr (by omega)
 replace e_m2:=e_m2.fr s11.fr (by omega)
 replace e_m3:=e_m3.fr s11.fr (by omega)
 replace e_m4:=e_m4.fr s11.fr (by omega)
 replace r9:=r9.F s11.fr
 replace e_m5:=e_m5.fr s11.fr (by omega)
 replace rm:=s11.row rm
 try simp only [cl_ptr,putAt_one,List.set_cons_zero,List.set_cons_succ] at rm
 try simp -dsimp only [go_sem] at rm
 simp -dsimp only [go_sem]
 refine ⟨p0,mb,c,.slice rda g.n rdc,.slice wra g.n wrc,.slice fea g.n fec,fun k=>[m0,m1,m2,m3,m4,m5].getD k 0,rfl,⟨rm,t.fr p0,hn,fun k hk=>(R k hk).fr p3,fun k hk=>?_,dR.fr p3,dW.fr p3,dF.fr p3⟩⟩
 match k,hk with
 | 0,_=>exact e_m0.pa
 | 1,_=>exact e_m1.pa
 | 2,_=>exact e_m2.pa
 | 3,_=>exact e_m3.pa
 | 4,_=>exact e_m4.pa
 | 5,_=>exact e_m5.pa
end
end Go.Proofs.Tst
/-
  The words' memory model: Derive, Check.
-/
namespace Go.Proofs.Tst
open Go Go.Vc
theorem natsV_ints (l:List Nat):natsV l=intsV (l.map fun (x:Nat)=>(x:Int)):=by unfold natsV intsV;rw [List.map_map];rfl
theorem find_at {α:Type} {f:α→Bool} {l:List α} {i:Nat} {x:α} (h:l[i]?=some x) (hn:(l.take i).find? f=none) (hx:f x=true):l.find? f=some x:=by
 have hlt:=(List.getElem?_eq_some_iff.1 h).1
 have hd:l.drop i=x :: l.drop (i+1):=by rw [List.drop_eq_getElem_cons hlt];congr 1;exact (List.getElem?_eq_some_iff.1 h).2
 rw [← List.take_append_drop i l,List.find?_append,hn,hd]
 simp [hx]
theorem find_next {α:Type} {f:α→Bool} {l:List α} {i:Nat} {x:α} (h:l[i]?=some x) (hn:(l.take i).find? f=none) (hx:f x=false):(l.take (i+1)).find? f=none:=by
 rw [List.take_add_one,h,List.find?_append,hn]
 simp [hx]
theorem torn_has {g:Gr} {p:Int×Int}:(inR g.n p.1&&inR g.n p.2&&compM g.n (freM g) g.n (coeM g) p.1.toNat p.2.toNat)=tornB g p:=by
 unfold tornB
 cases h1:inR g.n p.1
 ·rfl
 cases h2:inR g.n p.2
 ·rfl
 unfold inR at h1 h2
 simp only [decide_eq_true_eq] at h1 h2
 rw [compM_in (by omega) (by omega)]
section
variable {h : Heap} {q : GV} {g : Gr}
set_option maxHeartbeats 1000000 in
theorem arm_Derive (t:GrAt h q g) (ht:TabAt h) :
  Con Tryz.prog 11 #[.agg (gcells q g).toArray] h fun v h'=>Fr 0 0 h h'∧if (g.check true).1=0 then ∃ x A B,v=.tuple #[.agg #[x 0,x 1,x 2,x 3,x 4],.int .i64 0]∧Der h' A B x g.n (aM g) 5∧∀ k,k<5→h.size≤A k∧A k≤B k∧B k≤h'.size
   else v=.tuple #[.agg #[.pointer none,.pointer none,.pointer none,.pointer none,.pointer none],.int .i64 4]:=by
 have p0:Fr 0 0 h h:=.refl _ _ _
 by_cases hc:(g.check true).1=0
 rotate_left
 ·simp only [if_neg hc]
  refine con_arm_Derive ?_
  unfold gcells
  simp -dsimp only [go_sem]
  intro b1 h1 n1
  have n1_a:=n1.at_
  have n1_z:=n1.size
  replace p0:=p0.F n1.f0
  have r1:=n1.row
  simp -dsimp only [go_sem]
  intro b2 h2 n2
  have n2_a:=n2.at_
  have n2_z:=n2.size
  replace p0:=p0.F n2.f0
  replace r1:=r1.F n2.f0
  have r2:=n2.row
  simp -dsimp only [go_sem,r1.cell]
  refine call_of (arm_derive (t.fr p0) (ht.fr p0 (.inr rfl))) ?_
  rintro v2 h3 ⟨f2,w⟩
  have f2_z:=f2.size
  replace p0:=p0.F f2
  replace r1:=r1.F f2
  replace r2:=r2.F f2
  rw [if_neg hc] at w
  subst w
  simp -dsimp only [go_sem]
  refine Chk_intro (r2.wr (by first | (simp;done) | (simp;omega))) fun h4 s4=>?_
  have s4_z:=s4.size
  replace p0:=p0.F s4.fr
  replace r1:=r1.F s4.fr
  replace r2:=s4.row r2
  try simp only [cl_int,cl_bool,cl_slice,cl_ptr,putAt_one,List.set_cons_zero,List.set_cons_succ,ivec_set,brow_upd] at r2
  try simp -dsimp only [go_sem] at r2
  simp -dsimp only [go_sem,r2.cell]
  exact p0
 simp only [if_pos hc]
 refine con_arm_Derive ?_
 unfold gcells
 simp -dsimp only [go_sem]
 intro b1 h1 n1
 have n1_a:=n1.at_
 have n1_z:=n1.size
 replace p0:=p0.F n1.f0
 have r1:=n1.row
 simp -dsimp only [go_sem]
 intro b2 h2 n2
 have n2_a:=n2.at_
 have n2_z:=n2.size
 replace p0:=p0.F n2.f0
 replace r1:=r1.F n2.f0
 have r2:=n2.row
 simp -dsimp only [go_sem,r1.cell]
 refine call_of (arm_derive (t.fr p0) (ht.fr p0 (.inr rfl))) ?_
 rintro v2 h3 ⟨f2,w⟩
 have f2_z:=f2.size
 replace p0:=p0.F f2
 replace r1:=r1.F f2
 replace r2:=r2.F f2
 rw [if_pos hc] at w
 obtain ⟨mb,c,rd,wr,fe,d,rfl,m⟩:=w
 have g3:h.size≤h3.size∧b2<h3.size:=by omega
 simp -dsimp only [go_sem]
 refine call_of (arm_model_facts m hc (ht.fr p0 (.inr rfl))) ?_
 rintro v4 h4 ⟨f4,x,A,B,rfl,D,dlo⟩
 have f4_z:=f4.size
 replace p0:=p0.F f4
 replace r1:=r1.F f4
 replace r2:=r2.F f4
 have ocx:∀ k,k<5→(x k).oneCell'=true:=fun k hk=>by obtain ⟨_,e⟩:=progPtr (D.at_ k hk);rw [e];rfl
 simp -dsimp only [go_sem,ocx 0 (by decide),ocx 1 (by decide),ocx 2 (by decide),ocx 3 (by decide),ocx 4 (by decide)]
 refine Chk_intro (r2.wr (by first | (simp;done) | (simp;omega))) fun h5 s5=>?_
 have s5_z:=s5.size
 replace p0:=p0.F s5.fr
 replace r1:=r1.F s5.fr
 replace r2:=s5.row r2
 try simp only [cl_int,cl_bool,cl_slice,cl_ptr,putAt_one,List.set_cons_zero,List.set_cons_succ,ivec_set,brow_upd] at r2
 have D5:=D.fr s5.fr (fun k hk=>by have:=dlo k hk;omega)
 replace r2:Rw h5 b2 [x 0,x 1,x 2,x 3,x 4]:=r2
 simp -dsimp only [go_sem,r2.cell]
 exact ⟨p0,x,A,B,rfl,D5,fun k hk=>by have:=dlo k hk;omega⟩
set_option maxHeartbeats 2000000 in
theorem arm_Check (t:GrAt h q g) (ht:TabAt h) :
  Con Tryz.prog 6 #[.agg (gcells q g).toArray] h fun v h'=>Fr 0 0 h h'∧if (g.check true).1=0 then ∃ w,v=.tuple #[.int .i64 (armAx g).1,w,.int .i64 0]∧Holder 1 h' w (armAx g).2.length (intsV (armAx g).2) h.size
   else v=.tuple #[.int .i64 0,.slice none 0 0,.int .i64 4]:=by
 have p0:Fr 0 0 h h:=.refl _ _ _
 have br:=t.fits.r
 by_cases hc:(g.check true).1=0
 rotate_left
 ·simp only [if_neg hc]
  refine con_arm_Check ?_
  unfold gcells
  simp -dsimp only [go_sem]
  intro b1 h1 n1
  have n1_a:=n1.at_
  have n1_z:=n1.size
  replace p0:=p0.F n1.f0
  have r1:=n1.row
  simp -dsimp only [go_sem,r1.cell]
  refine call_of (arm_derive (t.fr p0) (ht.fr p0 (.inr rfl))) ?_
  rintro v2 h3 ⟨f2,w⟩
  have f2_z:=f2.size
  replace p0:=p0.F f2
  replace r1:=r1.F f2
  rw [if_neg hc] at w
  subst w
  simp -dsimp only [go_sem]
  exact p0
 simp only [if_pos hc]
 refine con_arm_Check ?_
 unfold gcells
 simp -dsimp only [go_sem]
 intro b1 h1 n1
 have n1_a:=n1.at_
 have n1_z:=n1.size
 replace p0:=p0.F n1.f0
 have r1:=n1.row
 simp -dsimp only [go_sem,r1.cell]
 refine call_of (arm_derive (t.fr p0) (ht.fr p0 (.inr rfl))) ?_
 rintro v2 h3 ⟨f2,w⟩
 have f2_z:=f2.size
 replace p0:=p0.F f2
 replace r1:=r1.F f2
 rw [if_pos hc] at w
 obtain ⟨mb,c,rd,wr,fe,d,rfl,m⟩:=w
 have g3:h.size≤h3.size∧h.size≤b1:=by omega
 have p3:Fr 0 0 h3 h3:=.refl _ _ _
 have rm:=m.row
 unfold mcells at rm
 simp -dsimp only [go_sem,rm.cell]
 obtain ⟨_,_,ta⟩:=m.rel 0 (by decide)
 obtain ⟨_,_,tb⟩:=m.rel 4 (by decide)
 refine call_of (rel_Inter ta tb (ht.fr p0 (.inr rfl))) ?_
 rintro v4 h4 ⟨f4,t4⟩
 rw [Nat.max_self] at t4
 have f4_z:=f4.size
 replace p0:=p0.F f4
 replace r1:=r1.F f4
 replace p3:=p3.F f4
 replace rm:=rm.fr f4 (by omega)
 have t4:PA h4 v4 g.n (fun i j=>relM g 0 i j&&relM g 4 i j):=PA.congr ⟨_,_,t4⟩ fun i j hi hj=>interM_in hi hj
 simp -dsimp only [go_sem,t4.cl,rm.cell]
 intro b5 h5 n5
 have n5_a:=n5.at_
 have n5_z:=n5.size
 replace p0:=p0.F n5.f0
 replace r1:=r1.F n5.f0
 replace p3:=p3.F n5.f0
 replace rm:=rm.fr n5.f0 (by omega)
 have r5:=n5.row
 have t5:=t4.fr n5.f0
 simp -dsimp only [go_sem]
 have m5:=m.fr p3
 refine call_of (rel_UnionU (UA.mk' [(v4,_),(.pointer (some ⟨c 1,0,none⟩),relM g 1),(.pointer (some ⟨c 2,0,none⟩),relM g 2),(.pointer (some ⟨c 9,0,none⟩),relM g 9)] r5 (pa_cons t5 (pa_cons (m5.rel 1 (by decide)) (pa_cons (m5.rel 2 (by decide)) (pa_cons (m5.rel 9 (by decide)) pa_nil)))) (by simp) (by simp))) ?_
 rintro v6 h6 ⟨f6,t6⟩
 have f6_z:=f6.size
 replace p0:=p0.F f6
 replace r1:=r1.F f6
 replace p3:=p3.F f6
 replace rm:=rm.fr f6 (by omega)
 replace r5:=r5.F f6
 have t6:=t6.congr (M':=inM g) fun i j _ _=>by simp [orM,inM,Bool.or_assoc]
 simp -dsimp only [go_sem,rm.cell]
 refine call_of (rel_Cycle t6 (ht.fr p0 (.inr rfl))) ?_
 rintro v7 h7 ⟨f7,o7⟩
 have f7_z:=f7.size
 replace p0:=p0.F f7
 replace r1:=r1.F f7
 replace p3:=p3.F f7
 replace rm:=rm.fr f7 (by omega)
 replace r5:=r5.F f7
 obtain ⟨a7,c7,rfl⟩:=o7.is
 by_cases h1:cycS g.n (inM g)=[]
 rotate_left
 ·have hl:(((cycS g.n (inM g)).length:Nat):Int) > 0:=by have:=List.length_pos_iff.2 h1;omega
  simp -dsimp only [go_sem,hl,rm.cell]
  have hA:armAx g=(1,(cycS g.n (inM g)).map fun (x:Nat)=>(x:Int)):=by unfold armAx;rw [if_pos h1]
  rw [hA]
  refine ⟨p0,_,rfl,?_⟩
  dsimp only
  rw [List.length_map,← natsV_ints]
  exact o7.lower (by omega)
 have hl:¬ (((cycS g.n (inM g)).length:Nat):Int) > 0:=by rw [h1];decide
 clear o7
 simp -dsimp only [go_sem,hl,rm.cell]
 refine call_of (arm_model_facts (m.fr p3) hc (ht.fr p0 (.inr rfl))) ?_
 rintro v8 h8 ⟨f8,x,A,B,rfl,D,dlo⟩
 have f8_z:=f8.size
 replace p0:=p0.F f8
 replace r1:=r1.F f8
 replace p3:=p3.F f8
 replace rm:=rm.fr f8 (by omega)
 replace r5:=r5.F f8
 simp -dsimp only [go_sem]
 refine call_of (rel_Cycle (D.at_ 4 (by decide)) (ht.fr p0 (.inr rfl))) ?_
 rintro v9 h9 ⟨f9,o9⟩
 have f9_z:=f9.size
 replace p0:=p0.F f9
 replace r1:=r1.F f9
 replace p3:=p3.F f9
 replace rm:=rm.fr f9 (by omega)
 replace r5:=r5.F f9
 replace o9:Holder 1 h9 v9 (cycS g.n (obM g)).length (natsV (cycS g.n (obM g))) h8.size:=o9
 obtain ⟨a9,c9,rfl⟩:=o9.is
 by_cases h2:cycS g.n (obM g)=[]
 rotate_left
 ·have hl:(((cycS g.n (obM g)).length:Nat):Int) > 0:=by have:=List.length_pos_iff.2 h2;omega
  simp -dsimp only [go_sem,hl]
  have hA:armAx g=(2,(cycS g.n (obM g)).map fun (x:Nat)=>(x:Int)):=by unfold armAx;rw [if_neg (by simp [h1]),if_pos h2]
  rw [hA]
  refine ⟨p0,_,rfl,?_⟩
  dsimp only
  rw [List.length_map,← natsV_ints]
  exact o9.lower (by omega)
 have hl:¬ (((cycS g.n (obM g)).length:Nat):Int) > 0:=by rw [h2];decide
 clear o9
 simp -dsimp only [go_sem,hl,rm.cell]
 obtain ⟨_,_,ta⟩:=(m.fr p3).hm 4 (by decide)
 obtain ⟨_,_,tb⟩:=(m.fr p3).hm 2 (by decide)
 refine call_of (rel_Comp ta tb (ht.fr p0 (.inr rfl))) ?_
 rintro v10 h10 ⟨f10,t10⟩
 rw [Nat.max_self] at t10
 have f10_z:=f10.size
 replace p0:=p0.F f10
 replace r1:=r1.F f10
 replace p3:=p3.F f10
 replace rm:=rm.fr f10 (by omega)
 replace r5:=r5.F f10
 obtain ⟨bt,rfl⟩:=progPtr t10
 have g10:h.size≤h10.size:=by omega
 simp -dsimp only [go_sem,r1.cell]
 refine loop_intro (fun i:Nat=>[(8,.pointer (some ⟨bt,0,none⟩)),(70,.slice q.r g.rmw.length q.rc),(71,.int .i64 g.rmw.length),(72,.int .i64 i)])
  (fun i h'=>i≤g.rmw.length∧Fr 0 0 h h'∧Fr 0 0 h10 h'∧(g.rmw.take i).find? (tornB g)=none) (fun i=>g.rmw.length - i) 0 ?_ ?_ ?_
 ·simp [Le,find]
 ·exact ⟨by omega,p0,.refl _ _ _,rfl⟩
 clear p0 r1 p3 rm
 rintro i h11 ⟨hi,p0,p10,hfn⟩
 have p0_z:=p0.size
 have p10_z:=p10.size
 by_cases hlt:i<g.rmw.length
 ·have e1:((i:Int)<(g.rmw.length:Int)):=by omega
  have hq:g.rmw[i]?=some g.rmw[i]:=List.getElem?_eq_getElem hlt
  generalize g.rmw[i]=pr at hq
  obtain ⟨rb,ro,hre,hrc⟩:=t.r.pairsAt (by omega)
  obtain ⟨k1,k2⟩:=hrc h11 p0 i _ hq
  simp -dsimp only [go_sem,e1,hre,k1,k2]
  intro b12 h12 n12
  have n12_a:=n12.at_
  have n12_z:=n12.size
  replace p0:=p0.F n12.f0
  replace p10:=p10.F n12.f0
  have r12:=n12.row
  simp -dsimp only [go_sem]
  refine Chk_intro (r12.wr (by first | (simp;done) | (simp;omega))) fun h13 s13=>?_
  have s13_z:=s13.size
  replace p0:=p0.F s13.fr
  replace p10:=p10.F s13.fr
  replace r12:=s13.row r12
  try simp only [cl_int,cl_bool,cl_slice,cl_ptr,putAt_one,List.set_cons_zero,List.set_cons_succ,ivec_set,brow_upd] at r12
  try simp -dsimp only [go_sem] at r12
  simp -dsimp only [go_sem,r12.cell]
  refine call_of (rel_Has (t10.fr p10 (by omega)) pr.1 pr.2) ?_
  rintro v14 h14 ⟨hh,rfl⟩
  obtain rfl:h13=h14:=hh.symm
  have htn:=torn_has (g:=g) (p:=pr)
  replace htn:(inR g.n pr.1&&inR g.n pr.2&&compM g.n (armM g 4) g.n (armM g 2) pr.1.toNat pr.2.toNat)=tornB g pr:=htn
  rw [htn]
  cases hb:tornB g pr
  ·simp -dsimp only [go_sem]
   simp -dsimp (disch:=omega) only [wrap64]
   exact ⟨i+1,by omega,by simp [Le,find,hre],by omega,p0,p10,find_next hq hfn hb⟩
  ·simp -dsimp only [go_sem,r12.cell]
   intro b15 h15 n15
   have n15_a:=n15.at_
   have n15_z:=n15.size
   replace p0:=p0.F n15.f0
   replace p10:=p10.F n15.f0
   replace r12:=r12.F n15.f0
   have r15:=n15.row
   simp -dsimp only [go_sem]
   have hA:armAx g=(3,[pr.1,pr.2]):=by unfold armAx;rw [if_neg (by simp [h1]),if_neg (by simp [h2]),find_at hq hfn hb]
   rw [hA]
   exact ⟨p0,_,rfl,holder_row (s:=1) (n:=2) r15 rfl (by omega)⟩
 ·obtain rfl:i=g.rmw.length:=by omega
  simp -dsimp only [go_sem,Int.lt_irrefl]
  rw [List.take_length] at hfn
  have hA:armAx g=(0,[]):=by unfold armAx;rw [if_neg (by simp [h1]),if_neg (by simp [h2]),hfn]
  rw [hA]
  exact ⟨p0,_,rfl,.none _ _ _⟩
end
end Go.Proofs.Tst
/-
  The graphs of two cells that the laws lay.
-/
namespace Go.Vc
open Go
theorem Fr.wide {l r b:Nat} {h h':Heap} (f:Fr l r h h') (hr:r≤b):Fr 0 b h h':=⟨f.size,fun x hx hc=>f.old x hx (by omega)⟩
end Go.Vc
namespace Go.Proofs.Tst
open Go Go.Vc
def twoG (m:Int) (E:List Ev) (rf:List (Int×Int)) (x y:List Int):Gr:=⟨2,[⟨-1,2,0,0,m⟩,⟨-1,2,1,0,m⟩]++E,rf,[[0]++x,[1]++y],[],[],[],[]⟩
theorem nilP {h:Heap}:Rd 2 h (.slice none ([]:List (Int×Int)).length 0) ([]:List (Int×Int)).length (pairsV []):=⟨rfl,_,_,rfl,.inl rfl⟩
theorem c_law11_ev (a b c:Int) (d:Int) (m:Int) {h:Heap}:Con Tryz.prog 79 #[.int .i64 a,.int .i64 b,.int .i64 c,.int .u64 d,.int .i64 m] h fun v h'=>Fr 0 0 h h'∧v=.agg #[.int .i64 a,.int .i64 b,.int .i64 c,.int .u64 d,.int .i64 m]:=by
 refine con_law11_ev ?_
 have p0:Fr 0 0 h h:=.refl _ _ _
 simp -dsimp only [go_sem]
 intro b1 h1 n1
 have n1_a:=n1.at_
 have n1_z:=n1.size
 replace p0:=p0.F n1.f0
 have r1:=n1.row
 simp -dsimp only [go_sem]
 refine Chk_intro (r1.wr (by first | (simp;done) | (simp;omega))) fun h2 s2=>?_
 have s2_z:=s2.size
 replace p0:=p0.F s2.fr
 replace r1:=s2.row r1
 try simp only [cl_int,cl_bool,cl_slice,cl_ptr,putAt_one,List.set_cons_zero,List.set_cons_succ,ivec_set,brow_upd] at r1
 try simp -dsimp only [go_sem] at r1
 simp -dsimp only [go_sem,r1.cell]
 exact p0
set_option maxHeartbeats 2000000 in
theorem c_law11_two {h:Heap} {ea fa xa ya:Option Addr} {ec fc xc yc:Nat} {E:List Ev} {rf:List (Int×Int)} {x y:List Int} {lo:Nat} (hlo:lo≤h.size) (he:Rd 5 h (.slice ea E.length ec) E.length (evsV E)) (hf:∀ h',Fr 0 lo h h'→Rd 2 h' (.slice fa rf.length fc) rf.length (pairsV rf)) (hx:Rd 1 h (.slice xa x.length xc) x.length (intsV x)) (hy:Rd 1 h (.slice ya y.length yc) y.length (intsV y))
  (be:E.length≤1000) (bf:rf.length≤1000) (bx:x.length≤1000) (by_:y.length≤1000) :
  Con Tryz.prog 78 #[.slice ea E.length ec,.slice fa rf.length fc,.slice xa x.length xc,.slice ya y.length yc] h fun v h'=>Fr 0 0 h h'∧∃ q,v=.agg (gcells q (twoG 11 E rf x y)).toArray∧∀ h2,Fr 0 lo h' h2→GrAt h2 q (twoG 11 E rf x y):=by
 refine con_law11_two ?_
 have p0:Fr 0 0 h h:=.refl _ _ _
 simp -dsimp only [go_sem]
 intro b8 h1 n1
 have n1_a:=n1.at_
 have n1_z:=n1.size
 replace p0:=p0.F n1.f0
 have r8:=n1.row
 simp -dsimp only [go_sem]
 refine call_of (c_law11_ev (-1) 2 0 0 11) ?_
 rintro v2 h2 ⟨f2,rfl⟩
 have f2_z:=f2.size
 replace p0:=p0.F f2
 replace r8:=r8.F f2
 simp -dsimp only [go_sem]
 refine call_of (c_law11_ev (-1) 2 1 0 11) ?_
 rintro v3 h3 ⟨f3,rfl⟩
 have f3_z:=f3.size
 replace p0:=p0.F f3
 replace r8:=r8.F f3
 simp -dsimp only [go_sem]
 intro b14 h4 n4
 have n4_a:=n4.at_
 have n4_z:=n4.size
 replace p0:=p0.F n4.f0
 replace r8:=r8.F n4.f0
 have r14:=n4.row
 replace r14:Rw h4 b14 (evsV [⟨-1,2,0,0,11⟩,⟨-1,2,1,0,11⟩]):=r14
 simp -dsimp only [go_sem]
 intro b9 h5 n5
 have n5_a:=n5.at_
 have n5_z:=n5.size
 replace p0:=p0.F n5.f0
 replace r8:=r8.F n5.f0
 replace r14:=r14.F n5.f0
 have r9:=n5.row
 simp -dsimp only [go_sem]
 refine Chk_intro (r9.wr (by first | (simp;done) | (simp;omega))) fun h6 s6=>?_
 have s6_z:=s6.size
 replace p0:=p0.F s6.fr
 replace r8:=r8.F s6.fr
 replace r14:=r14.F s6.fr
 replace r9:=s6.row r9
 try simp only [cl_int,cl_bool,cl_slice,cl_ptr,putAt_one,List.set_cons_zero,List.set_cons_succ,ivec_set,brow_upd] at r9
 try simp -dsimp only [go_sem] at r9
 have gb:b8<b14∧b14<b9∧b9<h6.size∧h.size≤b8:=by omega
 simp -dsimp only [go_sem,r9.cell]
 refine (holder_row (s:=5) (n:=2) (lo:=b14) r14 rfl (Nat.le_refl _)).appendRd (he.fr p0) (by omega) rfl (by omega) (oc_evs _) (by omega) fun v7 h7 o7 f7 e7=>?_
 have lb:bl (.slice (some ⟨b14,0,none⟩) 2 2)=b14∧bh (.slice (some ⟨b14,0,none⟩) 2 2)=b14+1:=⟨rfl,rfl⟩
 rw [lb.1,lb.2] at f7
 clear r14
 have z7:=f7.size
 have f7_z:=f7.size
 replace p0:=p0.F f7
 replace r8:=r8.F f7
 replace r9:=r9.F f7
 rw [← evsV_append] at o7
 obtain ⟨a7,c7,rfl⟩:=o7.is
 have a7_a:=o7.at_
 have e7':=e7
 clear e7
 simp -dsimp only [go_sem]
 refine Chk_intro (r9.wr (by first | (simp;done) | (simp;omega))) fun h8 s8=>?_
 have s8_z:=s8.size
 replace p0:=p0.F s8.fr
 replace r8:=r8.F s8.fr
 replace r9:=s8.row r9
 try simp only [cl_slice,putAt_one,List.set_cons_zero,List.set_cons_succ] at r9
 replace o7:=o7.fr s8.fr (by omega)
 simp -dsimp only [go_sem]
 intro b10 h9 n9
 have n9_a:=n9.at_
 have n9_z:=n9.size
 replace p0:=p0.F n9.f0
 replace r8:=r8.F n9.f0
 replace r9:=r9.F n9.f0
 have r10:=n9.row
 replace r10:Rw h9 b10 (intsV [0]):=r10
 replace o7:=o7.fr n9.f0 (by omega)
 simp -dsimp only [go_sem]
 have p9:Fr 0 0 h8 h9:=n9.fr
 refine (holder_row (s:=1) (n:=1) (lo:=b10) r10 rfl (Nat.le_refl _)).appendRd (hx.fr p0) (by omega) rfl (by omega) (oc_ints _) (by omega) fun v10 h10 o10 f10 e10=>?_
 have lb:bl (.slice (some ⟨b10,0,none⟩) 1 1)=b10∧bh (.slice (some ⟨b10,0,none⟩) 1 1)=b10+1:=⟨rfl,rfl⟩
 rw [lb.1,lb.2] at f10
 clear r10
 have z10:=f10.size
 have f10_z:=f10.size
 replace p0:=p0.F f10
 replace r8:=r8.F f10
 replace r9:=r9.F f10
 have o7t:=o7.top
 replace o7:=o7.fr f10 (by omega)
 rw [← intsV_append] at o10
 obtain ⟨a10,c10,rfl⟩:=o10.is
 have a10_a:=o10.at_
 clear e10
 simp -dsimp only [go_sem]
 intro b11 h11 n11
 have n11_a:=n11.at_
 have n11_z:=n11.size
 replace p0:=p0.F n11.f0
 replace r8:=r8.F n11.f0
 replace r9:=r9.F n11.f0
 have r11:=n11.row
 replace r11:Rw h11 b11 (intsV [1]):=r11
 replace o7:=o7.fr n11.f0 (by omega)
 have o10t:=o10.top
 replace o10:=o10.fr n11.f0 (by omega)
 simp -dsimp only [go_sem]
 refine (holder_row (s:=1) (n:=1) (lo:=b11) r11 rfl (Nat.le_refl _)).appendRd (hy.fr p0) (by omega) rfl (by omega) (oc_ints _) (by omega) fun v12 h12 o12 f12 e12=>?_
 have lb:bl (.slice (some ⟨b11,0,none⟩) 1 1)=b11∧bh (.slice (some ⟨b11,0,none⟩) 1 1)=b11+1:=⟨rfl,rfl⟩
 rw [lb.1,lb.2] at f12
 clear r11
 have z12:=f12.size
 have f12_z:=f12.size
 replace p0:=p0.F f12
 replace r8:=r8.F f12
 replace r9:=r9.F f12
 have o7t:=o7.top
 replace o7:=o7.fr f12 (by omega)
 replace o10:=o10.fr f12 (by omega)
 rw [← intsV_append] at o12
 obtain ⟨a12,c12,rfl⟩:=o12.is
 have a12_a:=o12.at_
 clear e12
 simp -dsimp only [go_sem]
 intro b13 h13 n13
 have n13_a:=n13.at_
 have n13_z:=n13.size
 replace p0:=p0.F n13.f0
 replace r8:=r8.F n13.f0
 replace r9:=r9.F n13.f0
 have r13:=n13.row
 try simp -dsimp only [go_sem] at r13
 replace o7:=o7.fr n13.f0 (by omega)
 replace o10:=o10.fr n13.f0 (by omega)
 replace o12:=o12.fr n13.f0 (by omega)
 simp -dsimp only [go_sem]
 refine Chk_intro (r9.wr (by first | (simp;done) | (simp;omega))) fun h14 s14=>?_
 have s14_z:=s14.size
 replace p0:=p0.F s14.fr
 replace r8:=r8.F s14.fr
 replace r13:=r13.F s14.fr
 replace r9:=s14.row r9
 try simp only [cl_slice,putAt_one,List.set_cons_zero,List.set_cons_succ] at r9
 try simp -dsimp only [go_sem] at r9
 have z14:=s14.size
 replace o7:=o7.fr s14.fr (by omega)
 replace o10:=o10.fr s14.fr (by omega)
 replace o12:=o12.fr s14.fr (by omega)
 simp -dsimp only [go_sem,r9.cell]
 refine Chk_intro (r8.wr (by first | (simp;done) | (simp;omega))) fun h15 s15=>?_
 have s15_z:=s15.size
 replace p0:=p0.F s15.fr
 replace r9:=r9.F s15.fr
 replace r13:=r13.F s15.fr
 replace r8:=s15.row r8
 try simp only [cl_int,cl_bool,cl_slice,cl_ptr,putAt_one,List.set_cons_zero,List.set_cons_succ,ivec_set,brow_upd] at r8
 have z15:=s15.size
 replace o7:=o7.fr s15.fr (by omega)
 replace o10:=o10.fr s15.fr (by omega)
 replace o12:=o12.fr s15.fr (by omega)
 simp -dsimp only [go_sem,r8.cell]
 have hl:(twoG 11 E rf x y).evs.length=2+E.length:=by simp [twoG];omega
 have hx2:(intsV ([0]++x)).length=1+x.length:=by simp;omega
 have hy2:(intsV ([1]++y)).length=1+y.length:=by simp;omega
 refine ⟨p0,⟨a7,fa,some ⟨b13,0,none⟩,none,none,none,none,c7,fc,2,0,0,0,0⟩,by unfold gcells;rw [hl];rfl,fun h16 f16=>?_⟩
 replace o7:=o7.fr f16 (by have:=o7.at_;omega)
 replace o10:=o10.fr f16 (by have:=o10.at_;omega)
 replace o12:=o12.fr f16 (by have:=o12.at_;omega)
 replace r13:=r13.F f16
 obtain ⟨u1,v1,k1,k1'⟩:=o10.room (by omega)
 cases k1
 obtain ⟨u2,v2,k2,k2'⟩:=o12.room (by omega)
 cases k2
 have hrl:RLc h16 (.slice (some ⟨b13,0,none⟩) 2 2) [intsV ([0]++x),intsV ([1]++y)]:=by
  refine ⟨_,Rw.rd (s:=1) r13 rfl,fun i l hi=>?_⟩
  match i,hi with
  | 0,hi =>
   cases hi
   exact ⟨_,_,by rw [hx2];rfl,by rw [hx2];exact k1',by rw [hx2];exact o10.rd⟩
  | 1,hi =>
   cases hi
   exact ⟨_,_,by rw [hy2];rfl,by rw [hy2];exact k2',by rw [hy2];exact o12.rd⟩
  | i+2,hi=>simp at hi
 refine ⟨by rw [hl];exact o7.rd,hf _ ((p0.wide (Nat.zero_le _)).trans f16),rlc_rl hrl,nilP,nilP,nilP,nilP,⟨by rw [hl];omega,by show rf.length≤_;omega,by show 2≤_;omega,by show 0≤_;omega,by show 0≤_;omega,by show 0≤_;omega,by show 0≤_;omega,fun l hl=>?_⟩,by show 2≤2;omega,hrl⟩
 have hl:l=[0]++x∨l=[1]++y:=by simpa [twoG] using hl
 rcases hl with rfl | rfl <;> (simp;omega)
end Go.Proofs.Tst
/-
  law11: says, buffering, passing.
-/
namespace Go.Proofs.Tst
open Go Go.Vc
theorem armAx_len {g:Gr}:(armAx g).2.length≤g.n+2:=by
 have h1:=cycS_len (n:=g.n) (M:=inM g)
 have h2:=cycS_len (n:=g.n) (M:=obM g)
 unfold armAx
 split
 ·simp;omega
 split
 ·simp;omega
 ·split <;> simp
theorem c_law11_says {h:Heap} {q:GV} {g:Gr} (t:GrAt h q g) (ht:TabAt h) {bv:Value} {l:List Int} (hm:Rd 1 h bv l.length (intsV l)) (ax:Int) :
  Con Tryz.prog 36 #[.agg (gcells q g).toArray,.int .i64 ax,bv] h fun v h'=>Fr 0 0 h h'∧v=.bool (decide ((g.check true).1=0∧armAx g=(ax,l))):=by
 have p0:Fr 0 0 h h:=.refl _ _ _
 obtain ⟨ba,bc,rfl⟩:=hm.is
 by_cases hc:(g.check true).1=0
 rotate_left
 ·have e:decide ((g.check true).1=0∧armAx g=(ax,l))=false:=decide_eq_false fun h=>hc h.1
  rw [e]
  refine con_law11_says ?_
  unfold gcells
  simp -dsimp only [go_sem]
  intro b1 h1 n1
  have n1_a:=n1.at_
  have n1_z:=n1.size
  replace p0:=p0.F n1.f0
  have r1:=n1.row
  simp -dsimp only [go_sem,r1.cell]
  refine call_of (arm_Check (t.fr p0) (ht.fr p0 (.inr rfl))) ?_
  rintro v2 h2 ⟨f2,w⟩
  have f2_z:=f2.size
  replace p0:=p0.F f2
  replace r1:=r1.F f2
  rw [if_neg hc] at w
  subst w
  simp -dsimp only [go_sem]
  exact p0
 have hn:=(good_n (good_true hc)).1
 have hal:=armAx_len (g:=g)
 refine con_law11_says ?_
 unfold gcells
 simp -dsimp only [go_sem]
 intro b1 h1 n1
 have n1_a:=n1.at_
 have n1_z:=n1.size
 replace p0:=p0.F n1.f0
 have r1:=n1.row
 simp -dsimp only [go_sem,r1.cell]
 refine call_of (arm_Check (t.fr p0) (ht.fr p0 (.inr rfl))) ?_
 rintro v2 h2 ⟨f2,w⟩
 have f2_z:=f2.size
 replace p0:=p0.F f2
 replace r1:=r1.F f2
 rw [if_pos hc] at w
 obtain ⟨w,rfl,o⟩:=w
 obtain ⟨oa,oc,rfl⟩:=o.is
 by_cases ha:(armAx g).1=ax
 rotate_left
 ·have e:decide ((g.check true).1=0∧armAx g=(ax,l))=false:=decide_eq_false fun h=>ha (by rw [h.2])
  rw [e]
  simp -dsimp only [go_sem,beq_f ha]
  exact p0
 simp -dsimp only [go_sem,beq_t ha]
 refine call_of (c_law11_ints (l:=(armAx g).2) (m:=l) o.rd (hm.fr p0) (by omega)) ?_
 rintro v3 h2 ⟨rfl,rfl⟩
 have e:decide ((armAx g).2=l)=decide ((g.check true).1=0∧armAx g=(ax,l)):=by
  rw [Bool.eq_iff_iff,decide_eq_true_iff,decide_eq_true_iff]
  exact ⟨fun h=>⟨hc,Prod.ext ha h⟩,fun h=>by rw [h.2]⟩
 rw [e]
 simp -dsimp only [go_sem]
 exact p0
def bufE (w r:Int):List Ev:=[⟨0,2,0,1,w⟩,⟨0,1,1,0,r⟩,⟨1,2,1,1,w⟩,⟨1,1,0,0,r⟩]
def bufG (m w r:Int):Gr:=twoG m (bufE w r) [(1,3),(0,5)] [2] [4]
def pasE (m w r:Int):List Ev:=[⟨0,2,0,1,m⟩,⟨0,2,1,1,w⟩,⟨1,1,1,1,r⟩,⟨1,1,0,0,m⟩]
def pasG (m w r:Int):Gr:=twoG m (pasE m w r) [(3,4),(0,5)] [2] [3]
theorem c_law11_buffering (w r:Int) {h:Heap}:Con Tryz.prog 37 #[.int .i64 w,.int .i64 r] h fun v h'=>Fr 0 0 h h'∧∃ q,v=.agg (gcells q (bufG 11 w r)).toArray∧GrAt h' q (bufG 11 w r):=by
 refine con_law11_buffering ?_
 have p0:Fr 0 0 h h:=.refl _ _ _
 simp -dsimp only [go_sem]
 intro b4 h1 n1
 have n1_a:=n1.at_
 have n1_z:=n1.size
 replace p0:=p0.F n1.f0
 have r4:=n1.row
 simp -dsimp only [go_sem]
 refine call_of (c_law11_ev 0 2 0 1 w) ?_
 rintro v h2 ⟨f2,rfl⟩
 have f2_z:=f2.size
 replace p0:=p0.F f2
 replace r4:=r4.F f2
 simp -dsimp only [go_sem]
 refine call_of (c_law11_ev 0 1 1 0 r) ?_
 rintro v h3 ⟨f3,rfl⟩
 have f3_z:=f3.size
 replace p0:=p0.F f3
 replace r4:=r4.F f3
 simp -dsimp only [go_sem]
 refine call_of (c_law11_ev 1 2 1 1 w) ?_
 rintro v h4 ⟨f4,rfl⟩
 have f4_z:=f4.size
 replace p0:=p0.F f4
 replace r4:=r4.F f4
 simp -dsimp only [go_sem]
 refine call_of (c_law11_ev 1 1 0 0 r) ?_
 rintro v h5 ⟨f5,rfl⟩
 have f5_z:=f5.size
 replace p0:=p0.F f5
 replace r4:=r4.F f5
 simp -dsimp only [go_sem]
 intro b6 h6 n6
 have n6_a:=n6.at_
 have n6_z:=n6.size
 replace p0:=p0.F n6.f0
 replace r4:=r4.F n6.f0
 have r6:=n6.row
 simp -dsimp only [go_sem]
 intro b7 h7 n7
 have n7_a:=n7.at_
 have n7_z:=n7.size
 replace p0:=p0.F n7.f0
 replace r4:=r4.F n7.f0
 replace r6:=r6.F n7.f0
 have r7:=n7.row
 simp -dsimp only [go_sem]
 intro b8 h8 n8
 have n8_a:=n8.at_
 have n8_z:=n8.size
 replace p0:=p0.F n8.f0
 replace r4:=r4.F n8.f0
 replace r6:=r6.F n8.f0
 replace r7:=r7.F n8.f0
 have r8:=n8.row
 simp -dsimp only [go_sem]
 intro b9 h9 n9
 have n9_a:=n9.at_
 have n9_z:=n9.size
 replace p0:=p0.F n9.f0
 replace r4:=r4.F n9.f0
 replace r6:=r6.F n9.f0
 replace r7:=r7.F n9.f0
 replace r8:=r8.F n9.f0
 have r9:=n9.row
 simp -dsimp only [go_sem]
 refine call_of (c_law11_two (E:=bufE w r) (rf:=[(1,3),(0,5)]) (x:=[2]) (y:=[4]) (lo:=b4+1) (by omega) (Rw.rd (s:=5) (n:=4) (c:=4) r6 rfl) (fun h' f=>Rw.rd (s:=2) (n:=2) (c:=2) (r7.fr f (by omega)) rfl) (Rw.rd (s:=1) (n:=1) (c:=1) r8 rfl) (Rw.rd (s:=1) (n:=1) (c:=1) r9 rfl) (Nat.le_of_ble_eq_true rfl) (by simp) (by simp) (by simp)) ?_
 rintro v h10 ⟨f10,q,rfl,t⟩
 have f10_z:=f10.size
 replace p0:=p0.F f10
 replace r4:=r4.F f10
 replace r6:=r6.F f10
 replace r7:=r7.F f10
 replace r8:=r8.F f10
 replace r9:=r9.F f10
 unfold gcells
 simp -dsimp only [go_sem]
 refine Chk_intro (r4.wr (by first | (simp;done) | (simp;omega))) fun h11 s11=>?_
 have s11_z:=s11.size
 replace p0:=p0.F s11.fr
 replace r6:=r6.F s11.fr
 replace r7:=r7.F s11.fr
 replace r8:=r8.F s11.fr
 replace r9:=r9.F s11.fr
 replace r4:=s11.row r4
 try simp only [cl_int,cl_bool,cl_slice,cl_ptr,putAt_one,List.set_cons_zero,List.set_cons_succ,ivec_set,brow_upd] at r4
 have t:=t _ (s11.fr.wide (Nat.le_refl _))
 simp -dsimp only [go_sem,r4.cell]
 exact ⟨p0,q,rfl,t⟩
theorem c_law11_passing (w r:Int) {h:Heap}:Con Tryz.prog 35 #[.int .i64 w,.int .i64 r] h fun v h'=>Fr 0 0 h h'∧∃ q,v=.agg (gcells q (pasG 11 w r)).toArray∧GrAt h' q (pasG 11 w r):=by
 refine con_law11_passing ?_
 have p0:Fr 0 0 h h:=.refl _ _ _
 simp -dsimp only [go_sem]
 intro b4 h1 n1
 have n1_a:=n1.at_
 have n1_z:=n1.size
 replace p0:=p0.F n1.f0
 have r4:=n1.row
 simp -dsimp only [go_sem]
 refine call_of (c_law11_ev 0 2 0 1 11) ?_
 rintro v h2 ⟨f2,rfl⟩
 have f2_z:=f2.size
 replace p0:=p0.F f2
 replace r4:=r4.F f2
 simp -dsimp only [go_sem]
 refine call_of (c_law11_ev 0 2 1 1 w) ?_
 rintro v h3 ⟨f3,rfl⟩
 have f3_z:=f3.size
 replace p0:=p0.F f3
 replace r4:=r4.F f3
 simp -dsimp only [go_sem]
 refine call_of (c_law11_ev 1 1 1 1 r) ?_
 rintro v h4 ⟨f4,rfl⟩
 have f4_z:=f4.size
 replace p0:=p0.F f4
 replace r4:=r4.F f4
 simp -dsimp only [go_sem]
 refine call_of (c_law11_ev 1 1 0 0 11) ?_
 rintro v h5 ⟨f5,rfl⟩
 have f5_z:=f5.size
 replace p0:=p0.F f5
 replace r4:=r4.F f5
 simp -dsimp only [go_sem]
 intro b6 h6 n6
 have n6_a:=n6.at_
 have n6_z:=n6.size
 replace p0:=p0.F n6.f0
 replace r4:=r4.F n6.f0
 have r6:=n6.row
 simp -dsimp only [go_sem]
 intro b7 h7 n7
 have n7_a:=n7.at_
 have n7_z:=n7.size
 replace p0:=p0.F n7.f0
 replace r4:=r4.F n7.f0
 replace r6:=r6.F n7.f0
 have r7:=n7.row
 simp -dsimp only [go_sem]
 intro b8 h8 n8
 have n8_a:=n8.at_
 have n8_z:=n8.size
 replace p0:=p0.F n8.f0
 replace r4:=r4.F n8.f0
 replace r6:=r6.F n8.f0
 replace r7:=r7.F n8.f0
 have r8:=n8.row
 simp -dsimp only [go_sem]
 intro b9 h9 n9
 have n9_a:=n9.at_
 have n9_z:=n9.size
 replace p0:=p0.F n9.f0
 replace r4:=r4.F n9.f0
 replace r6:=r6.F n9.f0
 replace r7:=r7.F n9.f0
 replace r8:=r8.F n9.f0
 have r9:=n9.row
 simp -dsimp only [go_sem]
 refine call_of (c_law11_two (E:=pasE 11 w r) (rf:=[(3,4),(0,5)]) (x:=[2]) (y:=[3]) (lo:=b4+1) (by omega) (Rw.rd (s:=5) (n:=4) (c:=4) r6 rfl) (fun h' f=>Rw.rd (s:=2) (n:=2) (c:=2) (r7.fr f (by omega)) rfl) (Rw.rd (s:=1) (n:=1) (c:=1) r8 rfl) (Rw.rd (s:=1) (n:=1) (c:=1) r9 rfl) (Nat.le_of_ble_eq_true rfl) (by simp) (by simp) (by simp)) ?_
 rintro v h10 ⟨f10,q,rfl,t⟩
 have f10_z:=f10.size
 replace p0:=p0.F f10
 replace r4:=r4.F f10
 replace r6:=r6.F f10
 replace r7:=r7.F f10
 replace r8:=r8.F f10
 replace r9:=r9.F f10
 unfold gcells
 simp -dsimp only [go_sem]
 refine Chk_intro (r4.wr (by first | (simp;done) | (simp;omega))) fun h11 s11=>?_
 have s11_z:=s11.size
 replace p0:=p0.F s11.fr
 replace r6:=r6.F s11.fr
 replace r7:=r7.F s11.fr
 replace r8:=r8.F s11.fr
 replace r9:=r9.F s11.fr
 replace r4:=s11.row r4
 try simp only [cl_int,cl_bool,cl_slice,cl_ptr,putAt_one,List.set_cons_zero,List.set_cons_succ,ivec_set,brow_upd] at r4
 have t:=t _ (s11.fr.wide (Nat.le_refl _))
 simp -dsimp only [go_sem,r4.cell]
 exact ⟨p0,q,rfl,t⟩
end Go.Proofs.Tst
/-
  law11: lives.
-/
namespace Go.Proofs.Tst
open Go Go.Vc
theorem kb1:decide (((bufG 11 11 11).check true).1=0∧armAx (bufG 11 11 11)=(0,[]))=true:=by decide +kernel
theorem kb2:decide (((bufG 11 13 12).check true).1=0∧armAx (bufG 11 13 12)=(2,[2,3,4,5]))=true:=by decide +kernel
theorem kp1:decide (((pasG 11 11 11).check true).1=0∧armAx (pasG 11 11 11)=(0,[]))=true:=by decide +kernel
theorem kp2:decide (((pasG 11 13 12).check true).1=0∧armAx (pasG 11 13 12)=(2,[2,3,4,5]))=true:=by decide +kernel
theorem kp3:((pasG 11 13 12).check true).1=0:=by decide +kernel
theorem kp4:pairsOf (pasG 11 13 12).n (obsM (pasG 11 13 12))=[(0,2),(0,5),(1,3),(3,4),(5,2)]:=by decide +kernel
theorem nilI {h:Heap}:Rd 1 h (.slice none 0 0) ([]:List Int).length (intsV []):=⟨rfl,_,_,rfl,.inl rfl⟩
set_option maxHeartbeats 2000000 in
theorem law11_lives {h:Heap} (ht:TabAt h):Con Tryz.prog 10 #[] h fun v h'=>Fr 0 0 h h'∧v=.bool true:=by
 refine con_law11_lives ?_
 have p0:Fr 0 0 h h:=.refl _ _ _
 simp -dsimp only [go_sem]
 refine call_of (c_law11_passing 13 12) ?_
 rintro v1 h1 ⟨f1,q1,rfl,t1⟩
 have f1_z:=f1.size
 replace p0:=p0.F f1
 simp -dsimp only [go_sem]
 refine call_of (arm_Derive t1 (ht.fr p0 (.inr rfl))) ?_
 rintro v2 h2 ⟨f2,w⟩
 have f2_z:=f2.size
 replace p0:=p0.F f2
 rw [if_pos kp3] at w
 obtain ⟨x,A,B,rfl,D,dlo⟩:=w
 have g0:=D.at_ 0 (by decide)
 have ab:=dlo 0 (by decide)
 obtain ⟨c0,e0⟩:=progPtr (D.at_ 0 (by decide))
 obtain ⟨c1,e1⟩:=progPtr (D.at_ 1 (by decide))
 obtain ⟨c2,e2⟩:=progPtr (D.at_ 2 (by decide))
 obtain ⟨c3,e3⟩:=progPtr (D.at_ 3 (by decide))
 obtain ⟨c4,e4⟩:=progPtr (D.at_ 4 (by decide))
 rw [e0,e1,e2,e3,e4]
 rw [e0] at g0
 have p2:Fr 0 0 h2 h2:=.refl _ _ _
 simp -dsimp only [go_sem]
 intro b3 h3 n3
 have n3_a:=n3.at_
 have n3_z:=n3.size
 replace p0:=p0.F n3.f0
 replace p2:=p2.F n3.f0
 have r3:=n3.row
 simp -dsimp only [go_sem]
 refine Chk_intro (r3.wr (by first | (simp;done) | (simp;omega))) fun h4 s4=>?_
 have s4_z:=s4.size
 replace p0:=p0.F s4.fr
 replace p2:=p2.F s4.fr
 replace r3:=s4.row r3
 try simp only [cl_int,cl_bool,cl_slice,cl_ptr,putAt_one,List.set_cons_zero,List.set_cons_succ,ivec_set,brow_upd] at r3
 try simp -dsimp only [go_sem] at r3
 simp -dsimp only [go_sem,r3.cell]
 refine call_of (c_law11_buffering 11 11) ?_
 rintro v5 h5 ⟨f5,q5,rfl,t5⟩
 have f5_z:=f5.size
 replace p0:=p0.F f5
 replace p2:=p2.F f5
 replace r3:=r3.F f5
 simp -dsimp only [go_sem]
 refine call_of (c_law11_says t5 (ht.fr p0 (.inr rfl)) nilI 0) ?_
 rintro v6 h6 ⟨f6,rfl⟩
 have f6_z:=f6.size
 replace p0:=p0.F f6
 replace p2:=p2.F f6
 replace r3:=r3.F f6
 rw [kb1]
 simp -dsimp only [go_sem]
 refine call_of (c_law11_buffering 13 12) ?_
 rintro v7 h7 ⟨f7,q7,rfl,t7⟩
 have f7_z:=f7.size
 replace p0:=p0.F f7
 replace p2:=p2.F f7
 replace r3:=r3.F f7
 simp -dsimp only [go_sem]
 intro b8 h8 n8
 have n8_a:=n8.at_
 have n8_z:=n8.size
 replace p0:=p0.F n8.f0
 replace p2:=p2.F n8.f0
 replace r3:=r3.F n8.f0
 have r8:=n8.row
 have t8:=t7.fr n8.fr
 simp -dsimp only [go_sem]
 refine call_of (c_law11_says t8 (ht.fr p0 (.inr rfl)) (l:=[2,3,4,5]) (Rw.rd (s:=1) (n:=4) (c:=4) r8 rfl) 2) ?_
 rintro v9 h9 ⟨f9,rfl⟩
 have f9_z:=f9.size
 replace p0:=p0.F f9
 replace p2:=p2.F f9
 replace r3:=r3.F f9
 replace r8:=r8.F f9
 rw [kb2]
 simp -dsimp only [go_sem]
 refine call_of (c_law11_passing 11 11) ?_
 rintro v10 h10 ⟨f10,q10,rfl,t10⟩
 have f10_z:=f10.size
 replace p0:=p0.F f10
 replace p2:=p2.F f10
 replace r3:=r3.F f10
 replace r8:=r8.F f10
 simp -dsimp only [go_sem]
 refine call_of (c_law11_says t10 (ht.fr p0 (.inr rfl)) nilI 0) ?_
 rintro v11 h11 ⟨f11,rfl⟩
 have f11_z:=f11.size
 replace p0:=p0.F f11
 replace p2:=p2.F f11
 replace r3:=r3.F f11
 replace r8:=r8.F f11
 rw [kp1]
 simp -dsimp only [go_sem]
 refine call_of (c_law11_passing 13 12) ?_
 rintro v12 h12 ⟨f12,q12,rfl,t12⟩
 have f12_z:=f12.size
 replace p0:=p0.F f12
 replace p2:=p2.F f12
 replace r3:=r3.F f12
 replace r8:=r8.F f12
 simp -dsimp only [go_sem]
 intro b13 h13 n13
 have n13_a:=n13.at_
 have n13_z:=n13.size
 replace p0:=p0.F n13.f0
 replace p2:=p2.F n13.f0
 replace r3:=r3.F n13.f0
 replace r8:=r8.F n13.f0
 have r13:=n13.row
 have t13:=t12.fr n13.fr
 simp -dsimp only [go_sem]
 refine call_of (c_law11_says t13 (ht.fr p0 (.inr rfl)) (l:=[2,3,4,5]) (Rw.rd (s:=1) (n:=4) (c:=4) r13 rfl) 2) ?_
 rintro v14 h14 ⟨f14,rfl⟩
 have f14_z:=f14.size
 replace p0:=p0.F f14
 replace p2:=p2.F f14
 replace r3:=r3.F f14
 replace r8:=r8.F f14
 replace r13:=r13.F f14
 rw [kp2]
 simp -dsimp only [go_sem,r3.cell]
 refine call_of (rel_Pairs (g0.fr p2 (by omega)) (ht.fr p0 (.inr rfl))) ?_
 rintro v15 h15 ⟨f15,o15⟩
 have f15_z:=f15.size
 replace p0:=p0.F f15
 replace p2:=p2.F f15
 replace r3:=r3.F f15
 replace r8:=r8.F f15
 replace r13:=r13.F f15
 replace o15:Holder 2 h15 v15 (pairsOf (pasG 11 13 12).n (obsM (pasG 11 13 12))).length (pairsV (pairsOf (pasG 11 13 12).n (obsM (pasG 11 13 12)))) h14.size:=o15
 rw [kp4] at o15
 simp -dsimp only [go_sem]
 intro b16 h16 n16
 have n16_a:=n16.at_
 have n16_z:=n16.size
 replace p0:=p0.F n16.f0
 replace p2:=p2.F n16.f0
 replace r3:=r3.F n16.f0
 replace r8:=r8.F n16.f0
 replace r13:=r13.F n16.f0
 have r16:=n16.row
 have o16:=o15.rd.fr n16.fr
 simp -dsimp only [go_sem]
 refine call_of (c_law11_pairs (l:=[(0,2),(0,5),(1,3),(3,4),(5,2)]) (m:=[(0,2),(0,5),(1,3),(3,4),(5,2)]) o16 (Rw.rd (s:=2) (n:=5) (c:=5) r16 rfl) (by decide)) ?_
 rintro v17 h16 ⟨rfl,rfl⟩
 simp -dsimp only [go_sem]
 exact p0
end Go.Proofs.Tst
/-
  The document's relations, some at once; its lists of truths.
-/
namespace Go.Proofs.Tst
open Go Go.Vc
def RA (h:Heap) (v:Value) (n:Nat) (M:Mx):Prop:=∃ lo hi,RefAt h lo hi v n M
theorem RA.fr {h h':Heap} {v:Value} {n:Nat} {M:Mx} (t:RA h v n M) (f:Fr 0 0 h h'):RA h' v n M:=by obtain ⟨a,b,t⟩:=t;exact ⟨a,b,t.fr f (by omega)⟩
theorem RA.is {h:Heap} {v:Value} {n:Nat} {M:Mx} (t:RA h v n M):∃ a c,v=.agg #[.int .i64 n,.slice a n c]:=by
 obtain ⟨_,_,_,s,R,rfl,t⟩:=t
 obtain ⟨a,c,rfl⟩:=t.own.is
 exact ⟨a,c,rfl⟩
theorem RA.le {h:Heap} {v:Value} {n:Nat} {M:Mx} (t:RA h v n M):n≤256:=by obtain ⟨_,_,t⟩:=t;exact t.1
theorem RefAt.congr {h:Heap} {lo hi:Nat} {v:Value} {n:Nat} {M N:Mx} (t:RefAt h lo hi v n M) (e:∀ i j,i<n→j<n→M i j=N i j):RefAt h lo hi v n N:=by
 obtain ⟨hn,s,R,hv,ht⟩:=t;exact ⟨hn,s,R,hv,ht.congr e⟩
theorem RA.congr {h:Heap} {v:Value} {n:Nat} {M N:Mx} (t:RA h v n M) (e:∀ i j,i<n→j<n→M i j=N i j):RA h v n N:=by obtain ⟨a,b,t⟩:=t;exact ⟨a,b,RefAt.congr t e⟩
def refCells (n:Nat) (ss:List Value):List Value:=ss.flatMap fun s=>[.int .i64 n,s]
@[simp] theorem length_refCells (n:Nat):∀ ss:List Value,(refCells n ss).length=ss.length * 2
 | []=>rfl
 | s :: ss=>by show (_ :: _ :: refCells n ss).length=_;simp [length_refCells n ss];omega
theorem refCells_get {n:Nat}:∀ {ss:List Value} {i:Nat} {s:Value},ss[i]?=some s→(refCells n ss)[i * 2]?=some (.int .i64 n)∧(refCells n ss)[i * 2+1]?=some s
 | [],i,s,h=>by simp at h
 | x :: ss,0,s,h=>by simp at h;subst h;exact ⟨rfl,rfl⟩
 | x :: ss,i+1,s,h=>by
  have:=refCells_get (n:=n) (ss:=ss) (i:=i) (s:=s) (by simpa using h)
  rw [show (i+1) * 2=i * 2+2 from by omega]
  exact this
def CR (h:Heap) (lv:Value) (n:Nat) (l:List Mx):Prop:=∃ ss:List Value,ss.length=l.length∧Rd 2 h lv ss.length (refCells n ss)∧ss.length≤65536∧∀ (i:Nat) (s:Value) (M:Mx),ss[i]?=some s→l[i]?=some M→RA h (.agg #[.int .i64 n,s]) n M
theorem CR.fr {h h':Heap} {v:Value} {n:Nat} {l:List Mx} (t:CR h v n l) (f:Fr 0 0 h h'):CR h' v n l:=by
 obtain ⟨L,h1,h2,h3,h4⟩:=t;exact ⟨L,h1,h2.fr f,h3,fun i w M a b=>(h4 i w M a b).fr f⟩
theorem CR.mk {h:Heap} {b n:Nat} (l:List (Value×Mx)) (r:Rw h b (refCells n (l.map (·.1)))) (hp:∀ x∈l,RA h (.agg #[.int .i64 n,x.1]) n x.2) (hl:l.length≤65536):CR h (.slice (some ⟨b,0,none⟩) l.length l.length) n (l.map (·.2)):=by
 refine ⟨l.map (·.1),by simp,?_,by simpa using hl,fun i w M h1 h2=>?_⟩
 ·rw [List.length_map];exact Rw.rd (s:=2) r (by simp)
 ·rw [List.getElem?_map,Option.map_eq_some_iff] at h1 h2
  obtain ⟨x,hx,rfl⟩:=h1
  obtain ⟨y,hy,rfl⟩:=h2
  rw [hx] at hy;cases hy
  exact hp x (List.mem_of_getElem? hx)
theorem ra_nil {h:Heap} {n:Nat}:∀ x∈([]:List (Value×Mx)),RA h (.agg #[.int .i64 n,x.1]) n x.2:=fun x hx=>by cases hx
theorem ra_cons {h:Heap} {n:Nat} {v:Value} {M:Mx} {l:List (Value×Mx)} (a:RA h (.agg #[.int .i64 n,v]) n M) (t:∀ x∈l,RA h (.agg #[.int .i64 n,x.1]) n x.2):∀ x∈(v,M) :: l,RA h (.agg #[.int .i64 n,x.1]) n x.2:=fun x hx=>by
 rcases List.mem_cons.1 hx with rfl | hx
 ·exact a
 ·exact t x hx
def oM (n:Nat) (A:Mx) (l:List Mx):Mx:=l.foldl (fun X Y=>unionM n X n Y) A
theorem oM_in {n i j:Nat} (hi:i<n) (hj:j<n):∀ (l:List Mx) (A:Mx),oM n A l i j=(A i j||l.any fun X=>X i j)
 | [],A=>by simp [oM]
 | B :: l,A=>by
  show oM n (unionM n A n B) l i j=_
  rw [oM_in hi hj l,unionM_in hi hj,List.any_cons,Bool.or_assoc]
def VA (h:Heap) (n:Nat) (L:List (Nat×Value×Mx)):Prop:=∀ x∈L,Rw h x.1 [.int .i64 n,x.2.1]∧RA h (.agg #[.int .i64 n,x.2.1]) n x.2.2
theorem VA.fr {h h':Heap} {n:Nat} {L:List (Nat×Value×Mx)} (t:VA h n L) (f:Fr 0 0 h h'):VA h' n L:=fun x hx=>⟨(t x hx).1.fr f (by omega),(t x hx).2.fr f⟩
theorem VA.nil {h:Heap} {n:Nat}:VA h n []:=fun x hx=>by cases hx
theorem VA.cons {h:Heap} {n b:Nat} {s:Value} {M:Mx} {L:List (Nat×Value×Mx)} (r:Rw h b [.int .i64 n,s]) (a:RA h (.agg #[.int .i64 n,s]) n M) (t:VA h n L):VA h n ((b,s,M) :: L):=fun x hx=>by
 rcases List.mem_cons.1 hx with rfl | hx
 ·exact ⟨r,a⟩
 ·exact t x hx
theorem VA.drop {h:Heap} {n:Nat} {L L':List (Nat×Value×Mx)} (t:VA h n L) (hs:∀ x∈L',x∈L):VA h n L':=fun x hx=>t x (hs x hx)
theorem ref11_seq {lv:Value} {n:Nat} {A:Mx} {l:List Mx} {h:Heap} (hl:CR h lv n (A :: l)) :
  Con Tryz.prog 51 #[lv] h fun v h'=>Fr 0 0 h h'∧RA h' v n (chM n A l):=by
 refine con_ref11_seq ?_
 obtain ⟨ss,hwl,hr,hlen,hp⟩:=hl
 obtain ⟨la,lc,rfl⟩:=hr.is
 have hsl:ss.length=l.length+1:=by simpa using hwl
 have p0:Fr 0 0 h h:=.refl _ _ _
 obtain ⟨hl1,a',c',k1,k2⟩:=hr
 cases k1
 rcases k2 with k2 | ⟨b,o,rfl,hc⟩
 ·omega
 have h0:ss[0]?=some ss[0]:=List.getElem?_eq_getElem (by omega)
 have t0:=hp 0 _ A h0 rfl
 generalize ss[0]=s0 at h0 t0
 obtain ⟨a0,c0,e0⟩:=t0.is
 simp only [Value.agg.injEq,Array.mk.injEq,List.cons.injEq,and_true,true_and] at e0
 subst e0
 simp -dsimp only [go_sem]
 intro b2 h1 n1
 have n1_a:=n1.at_
 have n1_z:=n1.size
 replace p0:=p0.F n1.f0
 have r2:=n1.row
 obtain ⟨k3,k4⟩:=refCells_get (n:=n) h0
 have k3:=p0.keep (hc _ _ k3) (by omega)
 have k4:=p0.keep (hc _ _ k4) (by omega)
 have e1:((0:Int)<(ss.length:Int)):=by omega
 replace k3:hcell h1 b (o+Int.toNat 0 * 2)=some (.int .i64 n):=k3
 replace k4:hcell h1 b (o+Int.toNat 0 * 2+1)=some (.slice a0 n c0):=by rw [Nat.add_assoc];exact k4
 simp -dsimp only [go_sem,e1]
 simp -dsimp only [go_sem,k3,k4]
 intro b3 h2 n3
 have n3_a:=n3.at_
 have n3_z:=n3.size
 replace p0:=p0.F n3.f0
 replace r2:=r2.F n3.f0
 have r3:=n3.row
 simp -dsimp only [go_sem]
 refine Chk_intro (r3.wr (by first | (simp;done) | (simp;omega))) fun h3 s3=>?_
 have s3_z:=s3.size
 replace p0:=p0.F s3.fr
 replace r2:=r2.F s3.fr
 replace r3:=s3.row r3
 try simp only [cl_int,cl_bool,cl_slice,cl_ptr,putAt_one,List.set_cons_zero,List.set_cons_succ,ivec_set,brow_upd] at r3
 have th:=t0
 replace r3:Rw h3 b3 [.int .i64 n,.slice a0 n c0]:=r3
 have gb:h.size≤b2∧b2<b3∧b3<h3.size:=by omega
 simp -dsimp only [go_sem]
 refine loop_intro (fun j:Nat=>[(0,.slice (some ⟨b,o,none⟩) ss.length lc),(2,.pointer (some ⟨b2,0,none⟩)),(3,.pointer (some ⟨b3,0,none⟩)),(4,.int .i64 (j+1:Nat))])
  (fun j h'=>j≤l.length∧Fr 0 0 h h'∧h3.size≤h'.size∧Rw h' b2 [.int .i64 0,.slice none 0 0]∧∃ s,Rw h' b3 [.int .i64 n,s]∧∀ h2,Fr b2 (b2+1) h' h2→RA h2 (.agg #[.int .i64 n,s]) n (chM n A (l.take j))) (fun j=>l.length - j) 0 ?_ ?_ ?_
 ·simp [Le,find]
 ·exact ⟨by omega,p0,by omega,r2,_,r3,fun h2 f2=>th.fr (p0.fresh f2 (by omega))⟩
 clear p0 r2 r3 t0 th k3 k4 n1_a n1_z n3_a n3_z s3_z
 rintro j h4 ⟨hj,p0,y4,r2,s,r3,T⟩
 have p0_z:=p0.size
 have r2_l:=r2.lt
 have r3_l:=r3.lt
 have t0:=T h4 (.refl _ _ _)
 obtain ⟨a1,c1,e0⟩:=t0.is
 simp only [Value.agg.injEq,Array.mk.injEq,List.cons.injEq,and_true,true_and] at e0
 subst e0
 by_cases hlt:j<l.length
 ·have e2:(((j+1:Nat):Int)<(ss.length:Int)):=by omega
  have hs:ss[j+1]?=some ss[j+1]:=List.getElem?_eq_getElem (by omega)
  have hM:(A :: l)[j+1]?=some l[j]:=by rw [List.getElem?_cons_succ];exact List.getElem?_eq_getElem hlt
  have tw:=(hp _ _ _ hs hM).fr p0
  generalize ss[j+1]=s1 at hs tw
  have hsu:l.take (j+1)=l.take j++[l[j]]:=by rw [List.take_add_one,List.getElem?_eq_getElem hlt];rfl
  generalize l[j]=B at tw hsu
  obtain ⟨a2,c2,e0⟩:=tw.is
  simp only [Value.agg.injEq,Array.mk.injEq,List.cons.injEq,and_true,true_and] at e0
  subst e0
  obtain ⟨k3,k4⟩:=refCells_get (n:=n) hs
  have k3:=p0.keep (hc _ _ k3) (by omega)
  have k4:=p0.keep (hc _ _ k4) (by omega)
  rw [← Nat.add_assoc] at k4
  obtain ⟨_,_,u0⟩:=t0
  obtain ⟨_,_,u1⟩:=tw
  simp -dsimp only [go_sem,e2,r3.cell]
  simp -dsimp only [go_sem,k3,k4]
  refine call_of (ref1_Comp u0 u1) ?_
  rintro v5 h5 ⟨f5,u5⟩
  rw [Nat.max_self] at u5
  have f5_z:=f5.size
  replace p0:=p0.F f5
  replace r2:=r2.F f5
  replace r3:=r3.F f5
  have t5:RA h5 v5 n (chM n A (l.take (j+1))):=by
   rw [hsu];unfold chM;rw [List.foldl_append];exact ⟨_,_,u5⟩
  obtain ⟨a3,c3,e0⟩:=t5.is
  subst e0
  have hz5:h3.size≤h5.size:=by omega
  simp -dsimp only [go_sem]
  have u5t:=u5
  refine Chk_intro (r3.wr (by first | (simp;done) | (simp;omega))) fun h6 s6=>?_
  have s6_z:=s6.size
  replace p0:=p0.F s6.fr
  replace r2:=r2.F s6.fr
  replace r3:=s6.row r3
  try simp only [cl_int,cl_bool,cl_slice,cl_ptr,putAt_one,List.set_cons_zero,List.set_cons_succ,ivec_set,brow_upd] at r3
  have t6:∀ h2,Fr b2 (b2+1) h6 h2→RA h2 (.agg #[.int .i64 n,.slice a3 n c3]) n (chM n A (l.take (j+1))):=fun h2 f2=>by
   rw [hsu];unfold chM;rw [List.foldl_append];exact ⟨_,_,(u5.fr s6.fr (by omega)).fr f2 (by omega)⟩
  replace r3:Rw h6 b3 [.int .i64 n,.slice a3 n c3]:=r3
  simp -dsimp only [go_sem]
  simp -dsimp (disch:=omega) only [wrap64]
  exact ⟨j+1,by omega,by simp [Le,find],by omega,p0,by omega,r2,_,r3,t6⟩
 ·obtain rfl:j=l.length:=by omega
  have e2:¬ (((l.length+1:Nat):Int)<(ss.length:Int)):=by omega
  rw [List.take_length] at t0
  simp -dsimp only [go_sem,e2,r3.cell]
  refine Chk_intro (r2.wr (by first | (simp;done) | (simp;omega))) fun h5 s5=>?_
  have s5_z:=s5.size
  replace p0:=p0.F s5.fr
  replace r3:=r3.F s5.fr
  replace r2:=s5.row r2
  try simp only [cl_int,cl_bool,cl_slice,cl_ptr,putAt_one,List.set_cons_zero,List.set_cons_succ,ivec_set,brow_upd] at r2
  replace r2:Rw h5 b2 [.int .i64 n,.slice a1 n c1]:=r2
  simp -dsimp only [go_sem,r2.cell]
  rw [List.take_length] at T
  exact ⟨p0,T h5 s5.fr⟩
theorem ref11_any {lv:Value} {n:Nat} {A:Mx} {l:List Mx} {h:Heap} (hl:CR h lv n (A :: l)) :
  Con Tryz.prog 29 #[lv] h fun v h'=>Fr 0 0 h h'∧RA h' v n (oM n A l)∧(l≠[]→RefAt h' h.size h'.size v n (oM n A l)):=by
 refine con_ref11_any ?_
 obtain ⟨ss,hwl,hr,hlen,hp⟩:=hl
 obtain ⟨la,lc,rfl⟩:=hr.is
 have hsl:ss.length=l.length+1:=by simpa using hwl
 have p0:Fr 0 0 h h:=.refl _ _ _
 obtain ⟨hl1,a',c',k1,k2⟩:=hr
 cases k1
 rcases k2 with k2 | ⟨b,o,rfl,hc⟩
 ·omega
 have h0:ss[0]?=some ss[0]:=List.getElem?_eq_getElem (by omega)
 have t0:=hp 0 _ A h0 rfl
 generalize ss[0]=s0 at h0 t0
 obtain ⟨a0,c0,e0⟩:=t0.is
 simp only [Value.agg.injEq,Array.mk.injEq,List.cons.injEq,and_true,true_and] at e0
 subst e0
 simp -dsimp only [go_sem]
 intro b2 h1 n1
 have n1_a:=n1.at_
 have n1_z:=n1.size
 replace p0:=p0.F n1.f0
 have r2:=n1.row
 obtain ⟨k3,k4⟩:=refCells_get (n:=n) h0
 have k3:=p0.keep (hc _ _ k3) (by omega)
 have k4:=p0.keep (hc _ _ k4) (by omega)
 have e1:((0:Int)<(ss.length:Int)):=by omega
 replace k3:hcell h1 b (o+Int.toNat 0 * 2)=some (.int .i64 n):=k3
 replace k4:hcell h1 b (o+Int.toNat 0 * 2+1)=some (.slice a0 n c0):=by rw [Nat.add_assoc];exact k4
 simp -dsimp only [go_sem,e1]
 simp -dsimp only [go_sem,k3,k4]
 intro b3 h2 n3
 have n3_a:=n3.at_
 have n3_z:=n3.size
 replace p0:=p0.F n3.f0
 replace r2:=r2.F n3.f0
 have r3:=n3.row
 simp -dsimp only [go_sem]
 refine Chk_intro (r3.wr (by first | (simp;done) | (simp;omega))) fun h3 s3=>?_
 have s3_z:=s3.size
 replace p0:=p0.F s3.fr
 replace r2:=r2.F s3.fr
 replace r3:=s3.row r3
 try simp only [cl_int,cl_bool,cl_slice,cl_ptr,putAt_one,List.set_cons_zero,List.set_cons_succ,ivec_set,brow_upd] at r3
 have th:=t0
 replace r3:Rw h3 b3 [.int .i64 n,.slice a0 n c0]:=r3
 have gb:h.size≤b2∧b2<b3∧b3<h3.size:=by omega
 simp -dsimp only [go_sem]
 refine loop_intro (fun j:Nat=>[(0,.slice (some ⟨b,o,none⟩) ss.length lc),(2,.pointer (some ⟨b2,0,none⟩)),(3,.pointer (some ⟨b3,0,none⟩)),(4,.int .i64 (j+1:Nat))])
  (fun j h'=>j≤l.length∧Fr 0 0 h h'∧h3.size≤h'.size∧Rw h' b2 [.int .i64 0,.slice none 0 0]∧∃ s,Rw h' b3 [.int .i64 n,s]∧∀ h2,Fr b2 (b2+1) h' h2→RA h2 (.agg #[.int .i64 n,s]) n (oM n A (l.take j))∧(j≠0→RefAt h2 h3.size h'.size (.agg #[.int .i64 n,s]) n (oM n A (l.take j)))) (fun j=>l.length - j) 0 ?_ ?_ ?_
 ·simp [Le,find]
 ·exact ⟨by omega,p0,by omega,r2,_,r3,fun h2 f2=>⟨th.fr (p0.fresh f2 (by omega)),fun hz=>absurd rfl hz⟩⟩
 clear p0 r2 r3 t0 th k3 k4 n1_a n1_z n3_a n3_z s3_z
 rintro j h4 ⟨hj,p0,y4,r2,s,r3,T⟩
 have p0_z:=p0.size
 have r2_l:=r2.lt
 have r3_l:=r3.lt
 have t0:=(T h4 (.refl _ _ _)).1
 obtain ⟨a1,c1,e0⟩:=t0.is
 simp only [Value.agg.injEq,Array.mk.injEq,List.cons.injEq,and_true,true_and] at e0
 subst e0
 by_cases hlt:j<l.length
 ·have e2:(((j+1:Nat):Int)<(ss.length:Int)):=by omega
  have hs:ss[j+1]?=some ss[j+1]:=List.getElem?_eq_getElem (by omega)
  have hM:(A :: l)[j+1]?=some l[j]:=by rw [List.getElem?_cons_succ];exact List.getElem?_eq_getElem hlt
  have tw:=(hp _ _ _ hs hM).fr p0
  generalize ss[j+1]=s1 at hs tw
  have hsu:l.take (j+1)=l.take j++[l[j]]:=by rw [List.take_add_one,List.getElem?_eq_getElem hlt];rfl
  generalize l[j]=B at tw hsu
  obtain ⟨a2,c2,e0⟩:=tw.is
  simp only [Value.agg.injEq,Array.mk.injEq,List.cons.injEq,and_true,true_and] at e0
  subst e0
  obtain ⟨k3,k4⟩:=refCells_get (n:=n) hs
  have k3:=p0.keep (hc _ _ k3) (by omega)
  have k4:=p0.keep (hc _ _ k4) (by omega)
  rw [← Nat.add_assoc] at k4
  obtain ⟨_,_,u0⟩:=t0
  obtain ⟨_,_,u1⟩:=tw
  simp -dsimp only [go_sem,e2,r3.cell]
  simp -dsimp only [go_sem,k3,k4]
  refine call_of (ref1_Union u0 u1) ?_
  rintro v5 h5 ⟨f5,u5⟩
  rw [Nat.max_self] at u5
  have f5_z:=f5.size
  replace p0:=p0.F f5
  replace r2:=r2.F f5
  replace r3:=r3.F f5
  have t5:RA h5 v5 n (oM n A (l.take (j+1))):=by
   rw [hsu];unfold oM;rw [List.foldl_append];exact ⟨_,_,u5⟩
  obtain ⟨a3,c3,e0⟩:=t5.is
  subst e0
  have hz5:h3.size≤h5.size:=by omega
  simp -dsimp only [go_sem]
  have u5t:=u5
  refine Chk_intro (r3.wr (by first | (simp;done) | (simp;omega))) fun h6 s6=>?_
  have s6_z:=s6.size
  replace p0:=p0.F s6.fr
  replace r2:=r2.F s6.fr
  replace r3:=s6.row r3
  try simp only [cl_int,cl_bool,cl_slice,cl_ptr,putAt_one,List.set_cons_zero,List.set_cons_succ,ivec_set,brow_upd] at r3
  have t6:∀ h2,Fr b2 (b2+1) h6 h2→RA h2 (.agg #[.int .i64 n,.slice a3 n c3]) n (oM n A (l.take (j+1)))∧(j+1≠0→RefAt h2 h3.size h6.size (.agg #[.int .i64 n,.slice a3 n c3]) n (oM n A (l.take (j+1)))):=fun h2 f2=>by
   have w:=(u5.fr s6.fr (by omega)).fr f2 (by omega)
   rw [hsu];unfold oM;rw [List.foldl_append];exact ⟨⟨_,_,w⟩,fun _=>w.mono (by omega) (by omega)⟩
  replace r3:Rw h6 b3 [.int .i64 n,.slice a3 n c3]:=r3
  simp -dsimp only [go_sem]
  simp -dsimp (disch:=omega) only [wrap64]
  exact ⟨j+1,by omega,by simp [Le,find],by omega,p0,by omega,r2,_,r3,t6⟩
 ·obtain rfl:j=l.length:=by omega
  have e2:¬ (((l.length+1:Nat):Int)<(ss.length:Int)):=by omega
  rw [List.take_length] at t0
  simp -dsimp only [go_sem,e2,r3.cell]
  refine Chk_intro (r2.wr (by first | (simp;done) | (simp;omega))) fun h5 s5=>?_
  have s5_z:=s5.size
  replace p0:=p0.F s5.fr
  replace r3:=r3.F s5.fr
  replace r2:=s5.row r2
  try simp only [cl_int,cl_bool,cl_slice,cl_ptr,putAt_one,List.set_cons_zero,List.set_cons_succ,ivec_set,brow_upd] at r2
  replace r2:Rw h5 b2 [.int .i64 n,.slice a1 n c1]:=r2
  simp -dsimp only [go_sem,r2.cell]
  rw [List.take_length] at T
  have w:=T h5 s5.fr
  exact ⟨p0,w.1,fun hl0=>(w.2 (by intro e;exact hl0 (List.eq_nil_of_length_eq_zero e))).mono (by omega) (by omega)⟩
end Go.Proofs.Tst
/-
  The document's Both and Either; the points that have some modes.
-/
namespace Go.Proofs.Tst
open Go Go.Vc
def bothL (n:Nat) (f:Nat→Bool):List Bool:=(List.range n).map f
theorem bothL_len (n:Nat) (f:Nat→Bool):(bothL n f).length=n:=by simp [bothL]
theorem bothL_succ (n:Nat) (f:Nat→Bool):bothL (n+1) f=bothL n f++[f n]:=by simp [bothL,List.range_succ]
theorem atB_both {n:Nat} {f:Nat→Bool} {i:Nat} (hi:i<n):atB (bothL n f) i=f i:=atB_get (by simp [bothL,hi])
theorem list_atB {l:List Bool} {i:Nat} (hi:i<l.length):l[i]?=some (atB l i):=by simp [atB,hi]
theorem ref8_Both {av bv:Value} {la lb:List Bool} {n:Nat} {h:Heap} (ha:Rd 1 h av la.length (boolsV la)) (hb:Rd 1 h bv lb.length (boolsV lb)) (ea:la.length=n) (eb:lb.length=n) (hn:n≤140737488355328) :
  Con Tryz.prog 48 #[av,bv] h fun v h'=>Fr 0 0 h h'∧Holder 1 h' v n (boolsV (bothL n fun i=>atB la i&&atB lb i)) h.size:=by
 refine con_ref8_Both ?_
 obtain ⟨aa,ac,rfl⟩:=ha.is
 obtain ⟨ba,bc,rfl⟩:=hb.is
 have p0:Fr 0 0 h h:=.refl _ _ _
 simp -dsimp only [go_sem]
 refine loop_intro (fun s:Nat×Value=>[(0,.slice aa la.length ac),(1,.slice ba lb.length bc),(5,s.2),(6,.int .i64 s.1)])
  (fun s h'=>s.1≤n∧Fr 0 0 h h'∧Holder 1 h' s.2 s.1 (boolsV (bothL s.1 fun i=>atB la i&&atB lb i)) h.size) (fun s=>n - s.1) (0,.slice none 0 0) ?_ ?_ ?_
 ·simp [Le,find]
 ·exact ⟨by omega,p0,.none _ _ _⟩
 clear p0
 rintro ⟨i,v⟩ h1 ⟨hi,p0,o1⟩
 dsimp only at hi o1 ⊢
 have p0_z:=p0.size
 have o1_l:=o1.top
 by_cases hlt:i<n
 ·have e1:((i:Int)<(la.length:Int)):=by omega
  have e2:((i:Int)<(lb.length:Int)):=by omega
  obtain ⟨ab,ao,rfl,hac⟩:=bools_at ha (by omega)
  obtain ⟨bb,bo,rfl,hbc⟩:=bools_at hb (by omega)
  have k1:=hac h1 p0 i _ (list_atB (by omega))
  have k2:=hbc h1 p0 i _ (list_atB (by omega))
  obtain ⟨va,vc,rfl⟩:=o1.is
  have o1_a:=o1.at_
  have hs:=bothL_succ i fun i=>atB la i&&atB lb i
  generalize atB la i=x at k1 hs
  generalize atB lb i=y at k2 hs
  cases x
  ·simp -dsimp only [go_sem,e1,e2,k1]
   intro b2 h2 n2
   have n2_a:=n2.at_
   have n2_z:=n2.size
   replace p0:=p0.F n2.f0
   replace o1:=o1.fr n2.f0 (by have:=o1.at_;omega)
   have r2:=n2.row
   simp -dsimp only [go_sem,r2.cell]
   refine o1.append (by omega) rfl (by omega) (by simp) (by omega) fun v3 h3 o_new f3 e_app=>?_
   have f3_z:=f3.size
   have o_at:=o1.at_
   replace p0:=p0.F f3
   replace r2:=r2.F f3
   clear o_at e_app
   replace o1:=o_new
   have o1_l:=o1.top
   simp -dsimp only [go_sem]
   simp -dsimp (disch:=omega) only [wrap64]
   refine ⟨(i+1,v3),by dsimp only;omega,by simp [Le,find],by dsimp only;omega,p0,?_⟩
   dsimp only
   rw [hs,boolsV_append];exact o1
  ·simp -dsimp only [go_sem,e1,e2,k1,k2]
   intro b2 h2 n2
   have n2_a:=n2.at_
   have n2_z:=n2.size
   replace p0:=p0.F n2.f0
   replace o1:=o1.fr n2.f0 (by have:=o1.at_;omega)
   have r2:=n2.row
   simp -dsimp only [go_sem,r2.cell]
   refine o1.append (by omega) rfl (by omega) (by simp) (by omega) fun v3 h3 o_new f3 e_app=>?_
   have f3_z:=f3.size
   have o_at:=o1.at_
   replace p0:=p0.F f3
   replace r2:=r2.F f3
   clear o_at e_app
   replace o1:=o_new
   have o1_l:=o1.top
   simp -dsimp only [go_sem]
   simp -dsimp (disch:=omega) only [wrap64]
   refine ⟨(i+1,v3),by dsimp only;omega,by simp [Le,find],by dsimp only;omega,p0,?_⟩
   dsimp only
   rw [hs,boolsV_append];exact o1
 ·obtain rfl:i=n:=by omega
  have e1:¬ ((i:Int)<(la.length:Int)):=by omega
  simp -dsimp only [go_sem,e1]
  exact ⟨p0,o1⟩
end Go.Proofs.Tst
