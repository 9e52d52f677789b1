/-
  Contracts of functions that the law reaches: what each returns and what it leaves in memory. Conditions stand in each.
-/
import Derived.Test.YtmcghihgeibgpaaDoorT6
set_option linter.all false
set_option maxRecDepth 2000
/-
  The words' memory model: all its relations.
-/
namespace Go.Proofs.Tst
open Go Go.Vc
def aM (g:Gr):Nat→Mx
 | 0=>obsM g
 | 1=>dobM g
 | 2=>aobM g
 | 3=>bobM g
 | _=>obM g
def rangeM (M:Nat→Mx) (m:Nat):Mx:=fun i j=>(List.range m).any fun k=>M k i j
theorem Der.snoc {h:Heap} {A B:Nat→Nat} {p:Nat→Value} {n m lo L L':Nat} {M:Nat→Mx} {v:Value} (D:Der h A B p n M m) (hd:∀ k,k<m→lo≤A k∧A k≤B k∧B k≤L) (w:∃ a b,ProgAt h a b v n (M m)∧L≤a∧a≤b∧b≤L') (hl:lo≤L:=by omega) :
  ∃ A' B',Der h A' B' (upd p m v) n M (m+1)∧∀ k,k<m+1→lo≤A' k∧A' k≤B' k∧B' k≤L':=by
 obtain ⟨a,b,w,w1,w2,w3⟩:=w
 refine ⟨upd A m a,upd B m b,⟨fun k hk=>?_,fun k l hk hl hkl=>?_⟩,fun k hk=>?_⟩
 ·by_cases hkm:k=m
  ·subst hkm;rw [upd_same,upd_same,upd_same];exact w
  ·rw [upd_ne _ _ hkm,upd_ne _ _ hkm,upd_ne _ _ hkm];exact D.at_ k (by omega)
 ·by_cases hkm:k=m
  ·subst hkm
   rw [upd_same,upd_same,upd_ne _ _ (Ne.symm hkl),upd_ne _ _ (Ne.symm hkl)]
   have:=hd l (by omega);omega
  ·by_cases hlm:l=m
   ·subst hlm
    rw [upd_same,upd_same,upd_ne _ _ hkm,upd_ne _ _ hkm]
    have:=hd k (by omega);omega
   ·rw [upd_ne _ _ hkm,upd_ne _ _ hkm,upd_ne _ _ hlm,upd_ne _ _ hlm]
    exact D.off k l (by omega) (by omega) hkl
 ·by_cases hkm:k=m
  ·subst hkm;rw [upd_same,upd_same];omega
  ·rw [upd_ne _ _ hkm,upd_ne _ _ hkm];have:=hd k (by omega);omega
section
variable {h : Heap} {mb : Nat} {q : GV} {g : Gr} {c : Nat → Nat} {rd wr fe : Value} {d : Nat → Nat}
set_option maxHeartbeats 4000000 in
theorem arm_model_facts (m:Md h mb q g c rd wr fe d) (hg:(g.check true).1=0) (ht:TabAt h) :
  Con Tryd.prog 74 #[.pointer (some ⟨mb,0,none⟩)] h fun v h'=>Fr 0 0 h h'∧∃ x A B,v=.agg #[x 0,x 1,x 2,x 3,x 4]∧Der h' A B x g.n (aM g) 5∧∀ k,k<5→h.size≤A k∧A k≤B k∧B k≤h'.size:=by
 refine con_q6 ?_
 have hn:=m.n
 have hmb:=m.row.lt
 have hcl:clampN (g.n:Int)=g.n:=by unfold clampN;omega
 have p0:Fr 0 0 h h:=.refl _ _ _
 have r1:=m.row
 unfold mcells at r1
 simp -dsimp only [go_sem,r1.cell]
 intro b2 h1 n2
 have n2_z:=n2.az
 replace p0:=p0.F n2.f0
 replace r1:=r1.F n2.f0
 have r2:=n2.row
 simp -dsimp only [go_sem,r1.cell,r2.cell]
 intro b3 h2 n3
 have n3_z:=n3.az
 replace p0:=p0.F n3.f0
 replace r1:=r1.F n3.f0
 replace r2:=r2.F n3.f0
 have r3:=n3.row
 simp -dsimp only [go_sem,r1.cell,r2.cell,r3.cell]
 intro b4 hs n4
 have n4_z:=n4.az
 replace p0:=p0.F n4.f0
 replace r1:=r1.F n4.f0
 replace r2:=r2.F n4.f0
 replace r3:=r3.F n4.f0
 have r4:=n4.row
 try simp -dsimp only [go_sem] at r4
 simp -dsimp only [go_sem,evs_len,r1.cell,r2.cell,r3.cell,r4.cell]
 refine call_of (rel_New g.n hs) ?_
 rintro v3 h3 ⟨f3,t3⟩
 rw [hcl] at t3
 have f3_z:=f3.size
 replace p0:=p0.F f3
 replace r1:=r1.F f3
 replace r2:=r2.F f3
 replace r3:=r3.F f3
 replace r4:=r4.F f3
 have t3:=PN.of t3
 obtain ⟨u0,rfl⟩:=t3.pa.ptr
 have hL3:hs.size≤h3.size:=by omega
 simp -dsimp only [go_sem,r1.cell,r2.cell,r3.cell,r4.cell]
 refine Chk_intro (r3.W) fun h4 s4=>?_
 have s4_z:=s4.size
 replace p0:=p0.F s4.fr
 replace r1:=r1.F s4.fr
 replace r2:=r2.F s4.fr
 replace r4:=r4.F s4.fr
 replace r3:=s4.row r3
 try simp only [cl_int,cl_bool,cl_slice,cl_ptr,putAt_one,zs0,zs1,ivec_set,brow_upd] at r3
 try simp -dsimp only [go_sem] at r3
 have t4:=t3.fr s4.fr (by omega)
 have gb:h.size≤b2∧h.size≤b3∧h.size≤b4∧b2<b3∧b3<b4∧b4<hs.size∧h.size≤hs.size:=by omega
 simp -dsimp only [go_sem,r1.cell,r2.cell,r3.cell,r4.cell]
 have hLh:hs.size≤hs.size:=Nat.le_refl _
 refine loop_intro (fun i:Nat=>[(2,.pointer (some ⟨b2,0,none⟩)),(3,.pointer (some ⟨b3,0,none⟩)),(32,.slice (some ⟨b4,0,none⟩) 4 4),(33,.int .i64 (4:Nat)),(34,.int .i64 i)])
  (fun i h'=>i≤4∧Fr 0 0 h h'∧Rw h' b2 [.pointer none,.pointer none,.pointer none,.pointer none,.pointer none]∧Rw h' b4 [.pointer (some ⟨b3,0,none⟩),.func (.func 114) #[.pointer (some ⟨mb,0,none⟩)] #[],.pointer (some ⟨b3,1,none⟩),.func (.func 115) #[.pointer (some ⟨mb,0,none⟩)] #[],.pointer (some ⟨b3,2,none⟩),.func (.func 116) #[.pointer (some ⟨mb,0,none⟩)] #[],.pointer (some ⟨b3,3,none⟩),.func (.func 117) #[.pointer (some ⟨mb,0,none⟩)] #[]] ∧
   ∃ x u A B L,Rw h' b3 [x 0,x 1,x 2,x 3,.pointer (some ⟨u,0,none⟩)]∧Der h' A B x g.n (aM g) i∧(∀ k,k<i→hs.size≤A k∧A k≤B k∧B k≤L)∧PN h' L (.pointer (some ⟨u,0,none⟩)) g.n (rangeM (aM g) i)∧hs.size≤L∧L≤h'.size) (fun i=>4 - i) 0 ?_ ?_ ?_
 ·simp [Le,find]
 ·exact ⟨by omega,p0,r2,r4,fun _=>.pointer none,u0,fun _=>0,fun _=>0,hs.size,r3,⟨fun k hk=>by omega,fun k l hk=>by omega⟩,fun k hk=>by omega,t4.congr fun i j _ _=>rfl,Nat.le_refl _,by omega⟩
 clear p0 r1 r2 r3 r4 t3 t4
 rintro i h3 ⟨hi,p0,r2,r4,x,u,A,B,L,r3,D,dlo,t,hsL,hLh'⟩
 have p0_z:=p0.size
 have r2_l:=r2.lt
 have r3_l:=r3.lt
 have r4_l:=r4.lt
 have hx:∀ k,k<i→∃ y,x k=.pointer (some ⟨y,0,none⟩):=fun k hk=>progPtr (D.at_ k hk)
 by_cases hlt:i<4
 ·have e1:((i:Int)<((4:Nat):Int)):=by omega
  have hi':i=0∨i=1∨i=2∨i=3:=by omega
  rcases hi' with rfl | rfl | rfl | rfl
  ·skip
   have pA:Fr 0 0 h3 h3:=.refl _ _ _
   simp -dsimp only [go_sem,e1,r2.cell,r3.cell,r4.cell]
   intro b6 h4 n6
   have n6_a:=n6.at_
   have n6_z:=n6.size
   replace p0:=p0.F n6.f0
   replace r2:=r2.F n6.f0
   replace r3:=r3.F n6.f0
   replace r4:=r4.F n6.f0
   replace pA:=pA.F n6.f0
   have r6:=n6.row
   simp -dsimp only [go_sem,r2.cell,r3.cell,r4.cell,r6.cell]
   refine Chk_intro (r6.W) fun h5 s5=>?_
   have s5_z:=s5.size
   replace p0:=p0.F s5.fr
   replace r2:=r2.F s5.fr
   replace r3:=r3.F s5.fr
   replace r4:=r4.F s5.fr
   replace pA:=pA.F s5.fr
   replace r6:=s5.row r6
   try simp only [cl_int,cl_bool,cl_slice,cl_ptr,putAt_one,zs0,zs1,ivec_set,brow_upd] at r6
   try simp -dsimp only [go_sem] at r6
   simp -dsimp only [go_sem,r2.cell,r3.cell,r4.cell,r6.cell]
   have D5:=(D.fr n6.f0 (fun k hk=>by omega)).fr s5.fr (fun k hk=>by have:=dlo k hk;omega)
   refine call_of (arm_model_obs (m.fr p0)) ?_
   rintro v6 h6 ⟨f6,w6⟩
   have D6:=D5.fr f6 (fun k hk=>by omega)
   have f6_z:=f6.size
   replace p0:=p0.F f6
   replace r2:=r2.F f6
   replace r3:=r3.F f6
   replace r4:=r4.F f6
   replace pA:=pA.F f6
   replace r6:=r6.F f6
   have t6:=t.fr pA (by omega)
   obtain ⟨y,rfl⟩:=w6.pa.ptr
   have hL6:L≤h5.size∧h5.size≤h6.size∧hs.size≤h5.size:=by omega
   simp -dsimp only [go_sem,r2.cell,r3.cell,r4.cell,r6.cell]
   refine Chk_intro (r3.W) fun h7 s7=>?_
   have s7_z:=s7.size
   replace p0:=p0.F s7.fr
   replace r2:=r2.F s7.fr
   replace r4:=r4.F s7.fr
   replace r6:=r6.F s7.fr
   replace r3:=s7.row r3
   try simp only [cl_int,cl_bool,cl_slice,cl_ptr,putAt_one,zs0,zs1,ivec_set,brow_upd] at r3
   try simp -dsimp only [go_sem] at r3
   have D7:=D6.fr s7.fr (fun k hk=>by have:=dlo k hk;omega)
   have t7:=t6.fr s7.fr (by omega)
   have w7:=w6.fr s7.fr (by omega)
   simp -dsimp only [go_sem,r2.cell,r3.cell,r4.cell,r6.cell]
   intro b8 h8 n8
   have n8_a:=n8.at_
   have n8_z:=n8.size
   replace p0:=p0.F n8.f0
   replace r2:=r2.F n8.f0
   replace r3:=r3.F n8.f0
   replace r4:=r4.F n8.f0
   replace r6:=r6.F n8.f0
   have r8:=n8.row
   have D8:=D7.fr n8.f0 (fun k hk=>by omega)
   have t8:=t7.fr n8.f0 (by omega)
   have w8:=w7.fr n8.f0 (by omega)
   simp -dsimp only [go_sem,r2.cell,r3.cell,r4.cell,r6.cell,r8.cell]
   refine call_of (rel_UnionU (UA.mk' [(.pointer (some ⟨u,0,none⟩),rangeM (aM g) 0),(.pointer (some ⟨y,0,none⟩),aM g 0)] r8 (pa_cons t8.pa (pa_cons w8.pa pa_nil)) (by simp) (by simp))) ?_
   rintro v9 h9 ⟨f9,t9⟩
   have D9:=D8.fr f9 (fun k hk=>by omega)
   have w9:=w8.fr f9 (by omega)
   have f9_z:=f9.size
   replace p0:=p0.F f9
   replace r2:=r2.F f9
   replace r3:=r3.F f9
   replace r4:=r4.F f9
   replace r6:=r6.F f9
   replace r8:=r8.F f9
   have t9:=PN.of t9
   obtain ⟨u9,rfl⟩:=t9.pa.ptr
   simp -dsimp only [go_sem,r2.cell,r3.cell,r4.cell,r6.cell,r8.cell]
   refine Chk_intro (r3.W) fun h10 s10=>?_
   have s10_z:=s10.size
   replace p0:=p0.F s10.fr
   replace r2:=r2.F s10.fr
   replace r4:=r4.F s10.fr
   replace r6:=r6.F s10.fr
   replace r8:=r8.F s10.fr
   replace r3:=s10.row r3
   try simp only [cl_int,cl_bool,cl_slice,cl_ptr,putAt_one,zs0,zs1,ivec_set,brow_upd] at r3
   try simp -dsimp only [go_sem] at r3
   have D10:=D9.fr s10.fr (fun k hk=>by have:=dlo k hk;omega)
   have w10:=w9.fr s10.fr (by omega)
   have t10:=t9.fr s10.fr (by omega)
   obtain ⟨A',B',D',dlo'⟩:=Der.snoc (L:=h5.size) (L':=h8.size) (lo:=hs.size) D10 (fun k hk=>by have:=dlo k hk;omega) (by
    obtain ⟨a,b,w,k1,k2,k3⟩:=w8
    exact ⟨a,b,(w.fr f9 (by omega)).fr s10.fr (by omega),k1,k2,k3⟩)
   simp -dsimp only [go_sem,r2.cell,r3.cell,r4.cell,r6.cell,r8.cell]
   simp -dsimp (disch:=omega) only [wrap64]
   exact ⟨0+1,by omega,by simp [Le,find],by omega,p0,r2,r4,upd x 0 (.pointer (some ⟨y,0,none⟩)),u9,A',B',h8.size,r3,D',fun k hk=>by have:=dlo' k hk;omega,(t10.congr fun i j _ _=>by simp [orM,rangeM,List.range_succ,Bool.or_assoc]),by omega,by omega⟩
  ·skip
   have pA:Fr 0 0 h3 h3:=.refl _ _ _
   simp -dsimp only [go_sem,e1,r2.cell,r3.cell,r4.cell]
   intro b6 h4 n6
   have n6_a:=n6.at_
   have n6_z:=n6.size
   replace p0:=p0.F n6.f0
   replace r2:=r2.F n6.f0
   replace r3:=r3.F n6.f0
   replace r4:=r4.F n6.f0
   replace pA:=pA.F n6.f0
   have r6:=n6.row
   simp -dsimp only [go_sem,r2.cell,r3.cell,r4.cell,r6.cell]
   refine Chk_intro (r6.W) fun h5 s5=>?_
   have s5_z:=s5.size
   replace p0:=p0.F s5.fr
   replace r2:=r2.F s5.fr
   replace r3:=r3.F s5.fr
   replace r4:=r4.F s5.fr
   replace pA:=pA.F s5.fr
   replace r6:=s5.row r6
   try simp only [cl_int,cl_bool,cl_slice,cl_ptr,putAt_one,zs0,zs1,ivec_set,brow_upd] at r6
   try simp -dsimp only [go_sem] at r6
   simp -dsimp only [go_sem,r2.cell,r3.cell,r4.cell,r6.cell]
   have D5:=(D.fr n6.f0 (fun k hk=>by omega)).fr s5.fr (fun k hk=>by have:=dlo k hk;omega)
   refine call_of (arm_model_dob (m.fr p0) (ht.fr p0 (.inr rfl))) ?_
   rintro v6 h6 ⟨f6,w6⟩
   have D6:=D5.fr f6 (fun k hk=>by omega)
   have f6_z:=f6.size
   replace p0:=p0.F f6
   replace r2:=r2.F f6
   replace r3:=r3.F f6
   replace r4:=r4.F f6
   replace pA:=pA.F f6
   replace r6:=r6.F f6
   have t6:=t.fr pA (by omega)
   obtain ⟨y,rfl⟩:=w6.pa.ptr
   have hL6:L≤h5.size∧h5.size≤h6.size∧hs.size≤h5.size:=by omega
   simp -dsimp only [go_sem,r2.cell,r3.cell,r4.cell,r6.cell]
   refine Chk_intro (r3.W) fun h7 s7=>?_
   have s7_z:=s7.size
   replace p0:=p0.F s7.fr
   replace r2:=r2.F s7.fr
   replace r4:=r4.F s7.fr
   replace r6:=r6.F s7.fr
   replace r3:=s7.row r3
   try simp only [cl_int,cl_bool,cl_slice,cl_ptr,putAt_one,zs0,zs1,ivec_set,brow_upd] at r3
   try simp -dsimp only [go_sem] at r3
   have D7:=D6.fr s7.fr (fun k hk=>by have:=dlo k hk;omega)
   have t7:=t6.fr s7.fr (by omega)
   have w7:=w6.fr s7.fr (by omega)
   simp -dsimp only [go_sem,r2.cell,r3.cell,r4.cell,r6.cell]
   intro b8 h8 n8
   have n8_a:=n8.at_
   have n8_z:=n8.size
   replace p0:=p0.F n8.f0
   replace r2:=r2.F n8.f0
   replace r3:=r3.F n8.f0
   replace r4:=r4.F n8.f0
   replace r6:=r6.F n8.f0
   have r8:=n8.row
   have D8:=D7.fr n8.f0 (fun k hk=>by omega)
   have t8:=t7.fr n8.f0 (by omega)
   have w8:=w7.fr n8.f0 (by omega)
   simp -dsimp only [go_sem,r2.cell,r3.cell,r4.cell,r6.cell,r8.cell]
   refine call_of (rel_UnionU (UA.mk' [(.pointer (some ⟨u,0,none⟩),rangeM (aM g) 1),(.pointer (some ⟨y,0,none⟩),aM g 1)] r8 (pa_cons t8.pa (pa_cons w8.pa pa_nil)) (by simp) (by simp))) ?_
   rintro v9 h9 ⟨f9,t9⟩
   have D9:=D8.fr f9 (fun k hk=>by omega)
   have w9:=w8.fr f9 (by omega)
   have f9_z:=f9.size
   replace p0:=p0.F f9
   replace r2:=r2.F f9
   replace r3:=r3.F f9
   replace r4:=r4.F f9
   replace r6:=r6.F f9
   replace r8:=r8.F f9
   have t9:=PN.of t9
   obtain ⟨u9,rfl⟩:=t9.pa.ptr
   simp -dsimp only [go_sem,r2.cell,r3.cell,r4.cell,r6.cell,r8.cell]
   refine Chk_intro (r3.W) fun h10 s10=>?_
   have s10_z:=s10.size
   replace p0:=p0.F s10.fr
   replace r2:=r2.F s10.fr
   replace r4:=r4.F s10.fr
   replace r6:=r6.F s10.fr
   replace r8:=r8.F s10.fr
   replace r3:=s10.row r3
   try simp only [cl_int,cl_bool,cl_slice,cl_ptr,putAt_one,zs0,zs1,ivec_set,brow_upd] at r3
   try simp -dsimp only [go_sem] at r3
   have D10:=D9.fr s10.fr (fun k hk=>by have:=dlo k hk;omega)
   have w10:=w9.fr s10.fr (by omega)
   have t10:=t9.fr s10.fr (by omega)
   obtain ⟨A',B',D',dlo'⟩:=Der.snoc (L:=h5.size) (L':=h8.size) (lo:=hs.size) D10 (fun k hk=>by have:=dlo k hk;omega) (by
    obtain ⟨a,b,w,k1,k2,k3⟩:=w8
    exact ⟨a,b,(w.fr f9 (by omega)).fr s10.fr (by omega),k1,k2,k3⟩)
   simp -dsimp only [go_sem,r2.cell,r3.cell,r4.cell,r6.cell,r8.cell]
   simp -dsimp (disch:=omega) only [wrap64]
   exact ⟨1+1,by omega,by simp [Le,find],by omega,p0,r2,r4,upd x 1 (.pointer (some ⟨y,0,none⟩)),u9,A',B',h8.size,r3,D',fun k hk=>by have:=dlo' k hk;omega,(t10.congr fun i j _ _=>by simp [orM,rangeM,List.range_succ,Bool.or_assoc]),by omega,by omega⟩
  ·skip
   have pA:Fr 0 0 h3 h3:=.refl _ _ _
   simp -dsimp only [go_sem,e1,r2.cell,r3.cell,r4.cell]
   intro b6 h4 n6
   have n6_a:=n6.at_
   have n6_z:=n6.size
   replace p0:=p0.F n6.f0
   replace r2:=r2.F n6.f0
   replace r3:=r3.F n6.f0
   replace r4:=r4.F n6.f0
   replace pA:=pA.F n6.f0
   have r6:=n6.row
   simp -dsimp only [go_sem,r2.cell,r3.cell,r4.cell,r6.cell]
   refine Chk_intro (r6.W) fun h5 s5=>?_
   have s5_z:=s5.size
   replace p0:=p0.F s5.fr
   replace r2:=r2.F s5.fr
   replace r3:=r3.F s5.fr
   replace r4:=r4.F s5.fr
   replace pA:=pA.F s5.fr
   replace r6:=s5.row r6
   try simp only [cl_int,cl_bool,cl_slice,cl_ptr,putAt_one,zs0,zs1,ivec_set,brow_upd] at r6
   try simp -dsimp only [go_sem] at r6
   simp -dsimp only [go_sem,r2.cell,r3.cell,r4.cell,r6.cell]
   have D5:=(D.fr n6.f0 (fun k hk=>by omega)).fr s5.fr (fun k hk=>by have:=dlo k hk;omega)
   refine call_of (arm_model_aob (m.fr p0) hg (ht.fr p0 (.inr rfl))) ?_
   rintro v6 h6 ⟨f6,w6⟩
   have D6:=D5.fr f6 (fun k hk=>by omega)
   have f6_z:=f6.size
   replace p0:=p0.F f6
   replace r2:=r2.F f6
   replace r3:=r3.F f6
   replace r4:=r4.F f6
   replace pA:=pA.F f6
   replace r6:=r6.F f6
   have t6:=t.fr pA (by omega)
   obtain ⟨y,rfl⟩:=w6.pa.ptr
   have hL6:L≤h5.size∧h5.size≤h6.size∧hs.size≤h5.size:=by omega
   simp -dsimp only [go_sem,r2.cell,r3.cell,r4.cell,r6.cell]
   refine Chk_intro (r3.W) fun h7 s7=>?_
   have s7_z:=s7.size
   replace p0:=p0.F s7.fr
   replace r2:=r2.F s7.fr
   replace r4:=r4.F s7.fr
   replace r6:=r6.F s7.fr
   replace r3:=s7.row r3
   try simp only [cl_int,cl_bool,cl_slice,cl_ptr,putAt_one,zs0,zs1,ivec_set,brow_upd] at r3
   try simp -dsimp only [go_sem] at r3
   have D7:=D6.fr s7.fr (fun k hk=>by have:=dlo k hk;omega)
   have t7:=t6.fr s7.fr (by omega)
   have w7:=w6.fr s7.fr (by omega)
   simp -dsimp only [go_sem,r2.cell,r3.cell,r4.cell,r6.cell]
   intro b8 h8 n8
   have n8_a:=n8.at_
   have n8_z:=n8.size
   replace p0:=p0.F n8.f0
   replace r2:=r2.F n8.f0
   replace r3:=r3.F n8.f0
   replace r4:=r4.F n8.f0
   replace r6:=r6.F n8.f0
   have r8:=n8.row
   have D8:=D7.fr n8.f0 (fun k hk=>by omega)
   have t8:=t7.fr n8.f0 (by omega)
   have w8:=w7.fr n8.f0 (by omega)
   simp -dsimp only [go_sem,r2.cell,r3.cell,r4.cell,r6.cell,r8.cell]
   refine call_of (rel_UnionU (UA.mk' [(.pointer (some ⟨u,0,none⟩),rangeM (aM g) 2),(.pointer (some ⟨y,0,none⟩),aM g 2)] r8 (pa_cons t8.pa (pa_cons w8.pa pa_nil)) (by simp) (by simp))) ?_
   rintro v9 h9 ⟨f9,t9⟩
   have D9:=D8.fr f9 (fun k hk=>by omega)
   have w9:=w8.fr f9 (by omega)
   have f9_z:=f9.size
   replace p0:=p0.F f9
   replace r2:=r2.F f9
   replace r3:=r3.F f9
   replace r4:=r4.F f9
   replace r6:=r6.F f9
   replace r8:=r8.F f9
   have t9:=PN.of t9
   obtain ⟨u9,rfl⟩:=t9.pa.ptr
   simp -dsimp only [go_sem,r2.cell,r3.cell,r4.cell,r6.cell,r8.cell]
   refine Chk_intro (r3.W) fun h10 s10=>?_
   have s10_z:=s10.size
   replace p0:=p0.F s10.fr
   replace r2:=r2.F s10.fr
   replace r4:=r4.F s10.fr
   replace r6:=r6.F s10.fr
   replace r8:=r8.F s10.fr
   replace r3:=s10.row r3
   try simp only [cl_int,cl_bool,cl_slice,cl_ptr,putAt_one,zs0,zs1,ivec_set,brow_upd] at r3
   try simp -dsimp only [go_sem] at r3
   have D10:=D9.fr s10.fr (fun k hk=>by have:=dlo k hk;omega)
   have w10:=w9.fr s10.fr (by omega)
   have t10:=t9.fr s10.fr (by omega)
   obtain ⟨A',B',D',dlo'⟩:=Der.snoc (L:=h5.size) (L':=h8.size) (lo:=hs.size) D10 (fun k hk=>by have:=dlo k hk;omega) (by
    obtain ⟨a,b,w,k1,k2,k3⟩:=w8
    exact ⟨a,b,(w.fr f9 (by omega)).fr s10.fr (by omega),k1,k2,k3⟩)
   simp -dsimp only [go_sem,r2.cell,r3.cell,r4.cell,r6.cell,r8.cell]
   simp -dsimp (disch:=omega) only [wrap64]
   exact ⟨2+1,by omega,by simp [Le,find],by omega,p0,r2,r4,upd x 2 (.pointer (some ⟨y,0,none⟩)),u9,A',B',h8.size,r3,D',fun k hk=>by have:=dlo' k hk;omega,(t10.congr fun i j _ _=>by simp [orM,rangeM,List.range_succ,Bool.or_assoc]),by omega,by omega⟩
  ·skip
   have pA:Fr 0 0 h3 h3:=.refl _ _ _
   simp -dsimp only [go_sem,e1,r2.cell,r3.cell,r4.cell]
   intro b6 h4 n6
   have n6_a:=n6.at_
   have n6_z:=n6.size
   replace p0:=p0.F n6.f0
   replace r2:=r2.F n6.f0
   replace r3:=r3.F n6.f0
   replace r4:=r4.F n6.f0
   replace pA:=pA.F n6.f0
   have r6:=n6.row
   simp -dsimp only [go_sem,r2.cell,r3.cell,r4.cell,r6.cell]
   refine Chk_intro (r6.W) fun h5 s5=>?_
   have s5_z:=s5.size
   replace p0:=p0.F s5.fr
   replace r2:=r2.F s5.fr
   replace r3:=r3.F s5.fr
   replace r4:=r4.F s5.fr
   replace pA:=pA.F s5.fr
   replace r6:=s5.row r6
   try simp only [cl_int,cl_bool,cl_slice,cl_ptr,putAt_one,zs0,zs1,ivec_set,brow_upd] at r6
   try simp -dsimp only [go_sem] at r6
   simp -dsimp only [go_sem,r2.cell,r3.cell,r4.cell,r6.cell]
   have D5:=(D.fr n6.f0 (fun k hk=>by omega)).fr s5.fr (fun k hk=>by have:=dlo k hk;omega)
   refine call_of (arm_model_bob (m.fr p0) (ht.fr p0 (.inr rfl))) ?_
   rintro v6 h6 ⟨f6,w6⟩
   have D6:=D5.fr f6 (fun k hk=>by omega)
   have f6_z:=f6.size
   replace p0:=p0.F f6
   replace r2:=r2.F f6
   replace r3:=r3.F f6
   replace r4:=r4.F f6
   replace pA:=pA.F f6
   replace r6:=r6.F f6
   have t6:=t.fr pA (by omega)
   obtain ⟨y,rfl⟩:=w6.pa.ptr
   have hL6:L≤h5.size∧h5.size≤h6.size∧hs.size≤h5.size:=by omega
   simp -dsimp only [go_sem,r2.cell,r3.cell,r4.cell,r6.cell]
   refine Chk_intro (r3.W) fun h7 s7=>?_
   have s7_z:=s7.size
   replace p0:=p0.F s7.fr
   replace r2:=r2.F s7.fr
   replace r4:=r4.F s7.fr
   replace r6:=r6.F s7.fr
   replace r3:=s7.row r3
   try simp only [cl_int,cl_bool,cl_slice,cl_ptr,putAt_one,zs0,zs1,ivec_set,brow_upd] at r3
   try simp -dsimp only [go_sem] at r3
   have D7:=D6.fr s7.fr (fun k hk=>by have:=dlo k hk;omega)
   have t7:=t6.fr s7.fr (by omega)
   have w7:=w6.fr s7.fr (by omega)
   simp -dsimp only [go_sem,r2.cell,r3.cell,r4.cell,r6.cell]
   intro b8 h8 n8
   have n8_a:=n8.at_
   have n8_z:=n8.size
   replace p0:=p0.F n8.f0
   replace r2:=r2.F n8.f0
   replace r3:=r3.F n8.f0
   replace r4:=r4.F n8.f0
   replace r6:=r6.F n8.f0
   have r8:=n8.row
   have D8:=D7.fr n8.f0 (fun k hk=>by omega)
   have t8:=t7.fr n8.f0 (by omega)
   have w8:=w7.fr n8.f0 (by omega)
   simp -dsimp only [go_sem,r2.cell,r3.cell,r4.cell,r6.cell,r8.cell]
   refine call_of (rel_UnionU (UA.mk' [(.pointer (some ⟨u,0,none⟩),rangeM (aM g) 3),(.pointer (some ⟨y,0,none⟩),aM g 3)] r8 (pa_cons t8.pa (pa_cons w8.pa pa_nil)) (by simp) (by simp))) ?_
   rintro v9 h9 ⟨f9,t9⟩
   have D9:=D8.fr f9 (fun k hk=>by omega)
   have w9:=w8.fr f9 (by omega)
   have f9_z:=f9.size
   replace p0:=p0.F f9
   replace r2:=r2.F f9
   replace r3:=r3.F f9
   replace r4:=r4.F f9
   replace r6:=r6.F f9
   replace r8:=r8.F f9
   have t9:=PN.of t9
   obtain ⟨u9,rfl⟩:=t9.pa.ptr
   simp -dsimp only [go_sem,r2.cell,r3.cell,r4.cell,r6.cell,r8.cell]
   refine Chk_intro (r3.W) fun h10 s10=>?_
   have s10_z:=s10.size
   replace p0:=p0.F s10.fr
   replace r2:=r2.F s10.fr
   replace r4:=r4.F s10.fr
   replace r6:=r6.F s10.fr
   replace r8:=r8.F s10.fr
   replace r3:=s10.row r3
   try simp only [cl_int,cl_bool,cl_slice,cl_ptr,putAt_one,zs0,zs1,ivec_set,brow_upd] at r3
   try simp -dsimp only [go_sem] at r3
   have D10:=D9.fr s10.fr (fun k hk=>by have:=dlo k hk;omega)
   have w10:=w9.fr s10.fr (by omega)
   have t10:=t9.fr s10.fr (by omega)
   obtain ⟨A',B',D',dlo'⟩:=Der.snoc (L:=h5.size) (L':=h8.size) (lo:=hs.size) D10 (fun k hk=>by have:=dlo k hk;omega) (by
    obtain ⟨a,b,w,k1,k2,k3⟩:=w8
    exact ⟨a,b,(w.fr f9 (by omega)).fr s10.fr (by omega),k1,k2,k3⟩)
   simp -dsimp only [go_sem,r2.cell,r3.cell,r4.cell,r6.cell,r8.cell]
   simp -dsimp (disch:=omega) only [wrap64]
   exact ⟨3+1,by omega,by simp [Le,find],by omega,p0,r2,r4,upd x 3 (.pointer (some ⟨y,0,none⟩)),u9,A',B',h8.size,r3,D',fun k hk=>by have:=dlo' k hk;omega,(t10.congr fun i j _ _=>by simp [orM,rangeM,List.range_succ,Bool.or_assoc]),by omega,by omega⟩
 ·obtain rfl:i=4:=by omega
  have ocx:∀ k,k<4→(x k).oneCell'=true:=fun k hk=>by obtain ⟨_,e⟩:=hx k hk;rw [e];rfl
  simp -dsimp only [go_sem,Int.lt_irrefl,ocx 0 (by decide),ocx 1 (by decide),ocx 2 (by decide),ocx 3 (by decide),r2.cell,r3.cell,r4.cell]
  have hD:∀ k,k<4→B k≤h3.size:=fun k hk=>by have:=dlo k hk;omega
  obtain ⟨a,b,w,w1,w2,w3⟩:=t
  obtain ⟨A',B',D',dlo'⟩:=Der.snoc (v:=.pointer (some ⟨u,0,none⟩)) (lo:=hs.size) (L:=L) (L':=h3.size) D dlo ⟨a,b,w.congr fun i j _ _=>by simp [rangeM,List.range_succ,aM,obM,Bool.or_assoc],w1,w2,w3⟩
  have hz3:h.size≤h3.size:=by omega
  refine Chk_intro (r2.W) fun h5 s5=>?_
  have s5_z:=s5.size
  replace p0:=p0.F s5.fr
  replace r3:=r3.F s5.fr
  replace r4:=r4.F s5.fr
  replace r2:=s5.row r2
  try simp only [cl_int,cl_bool,cl_slice,cl_ptr,putAt_one,zs0,zs1,ivec_set,brow_upd] at r2
  have z5:=s5.size
  have D5:=D'.fr s5.fr (fun k hk=>by have:=dlo' k hk;omega)
  replace r2:Rw h5 b2 [x 0,x 1,x 2,x 3,.pointer (some ⟨u,0,none⟩)]:=r2
  simp -dsimp only [go_sem,r2.cell,r3.cell,r4.cell]
  exact ⟨p0,upd x 4 (.pointer (some ⟨u,0,none⟩)),A',B',rfl,D5,fun k hk=>by have:=dlo' k hk;omega⟩
end
end Go.Proofs.Tst
/-
  The words' memory model of a graph; Derive, Check.
-/
namespace Go.Proofs.Tst
open Go Go.Vc
theorem facts_ptr {p:Nat→Value} {h:Heap} {lo:Nat} {rd wr fe:Value} {g:Gr} (F:FactsAt h lo p rd wr fe g):∃ c:Nat→Nat,∀ k,k<10→p k=.pointer (some ⟨c k,0,none⟩):=by
 obtain ⟨A,B,D,-⟩:=F.rel
 exact ⟨fun k=>if hk:k<10 then (progPtr (D.at_ k hk)).choose else 0,fun k hk=>by dsimp only;rw [dif_pos hk];exact (progPtr (D.at_ k hk)).choose_spec⟩
theorem good_true {g:Gr} (h:(g.check true).1=0):g.good=true:=by unfold Gr.good;rw [h];simp
theorem good_false {g:Gr} (h:(g.check false).1=0):g.good=true:=by unfold Gr.good;rw [h];simp
section
variable {h : Heap} {q : GV} {g : Gr}
set_option maxHeartbeats 4000000 in
theorem arm_derive (t:GrAt h q g) (ht:TabAt h) :
  Con Tryd.prog 71 #[.agg (gcells q g).toArray] h fun v h'=>Fr 0 0 h h'∧if (g.check true).1=0 then ∃ mb c rd wr fe d,v=.tuple #[.pointer (some ⟨mb,0,none⟩),.int .i64 0]∧Md h' mb q g c rd wr fe d else v=.tuple #[.pointer none,.int .i64 4]:=by
 have p0:Fr 0 0 h h:=.refl _ _ _
 have hen:g.evs.length=g.n:=rfl
 by_cases hc:(g.check true).1=0
 rotate_left
 ·simp only [if_neg hc]
  refine con_q2 ?_
  unfold gcells
  simp -dsimp only [go_sem]
  intro b1 h1 n1
  have n1_a:=n1.at_
  have n1_z:=n1.size
  replace p0:=p0.F n1.f0
  have r1:=n1.row
  simp -dsimp only [go_sem,r1.cell]
  refine call_of (graph_Check (t.fr p0) true) ?_
  rintro v2 h2 ⟨f2,rfl⟩
  have f2_z:=f2.size
  replace p0:=p0.F f2
  replace r1:=r1.F f2
  simp -dsimp only [go_sem,bne_f hc,r1.cell]
  exact p0
 simp only [if_pos hc]
 refine con_q2 ?_
 unfold gcells
 simp -dsimp only [go_sem]
 intro b1 h1 n1
 have n1_a:=n1.at_
 have n1_z:=n1.size
 replace p0:=p0.F n1.f0
 have r1:=n1.row
 simp -dsimp only [go_sem,r1.cell]
 refine call_of (graph_Check (t.fr p0) true) ?_
 rintro v2 h2 ⟨f2,rfl⟩
 have f2_z:=f2.size
 replace p0:=p0.F f2
 replace r1:=r1.F f2
 have hg:=good_true hc
 simp -dsimp only [go_sem,bne_t hc,r1.cell]
 refine call_of (graph_Derive (t.fr p0) (ht.fr p0 (.inr rfl))) ?_
 rintro v3 h3 ⟨f3,w3⟩
 have f3_z:=f3.size
 replace p0:=p0.F f3
 replace r1:=r1.F f3
 rw [if_pos hg] at w3
 obtain ⟨p,rd,wr,fe,rfl,F⟩:=w3
 obtain ⟨c,hp⟩:=facts_ptr F
 obtain ⟨A,B,D,dlo,dap⟩:=F.rel
 have hn:=F.n
 have R:∀ k,k<10→PA h3 (.pointer (some ⟨c k,0,none⟩)) g.n (relM g k):=fun k hk=>by rw [← hp k hk];exact ⟨_,_,D.at_ k hk⟩
 have dR:Rd 1 h3 rd (kindsV g 1 g.n).length (boolsV (kindsV g 1 g.n)):=by rw [kinds_len];exact F.hrd.rd
 have dW:Rd 1 h3 wr (kindsV g 2 g.n).length (boolsV (kindsV g 2 g.n)):=by rw [kinds_len];exact F.hwr.rd
 have dF:Rd 1 h3 fe (kindsV g 3 g.n).length (boolsV (kindsV g 3 g.n)):=by rw [kinds_len];exact F.hfe.rd
 obtain ⟨rda,rdc,e1⟩:=F.hrd.is
 obtain ⟨wra,wrc,e2⟩:=F.hwr.is
 obtain ⟨fea,fec,e3⟩:=F.hfe.is
 subst e1;subst e2;subst e3
 clear F D dap dlo
 have p3:Fr 0 0 h3 h3:=.refl _ _ _
 unfold fcells
 rw [hp 0 (by decide),hp 1 (by decide),hp 2 (by decide),hp 3 (by decide),hp 4 (by decide),hp 5 (by decide),hp 6 (by decide),hp 7 (by decide),hp 8 (by decide),hp 9 (by decide)]
 simp -dsimp only [go_sem,r1.cell]
 intro b6 h4 n4
 have n4_z:=n4.az
 replace p0:=p0.F n4.f0
 replace r1:=r1.F n4.f0
 replace p3:=p3.F n4.f0
 have r6:=n4.row
 simp -dsimp only [go_sem,r1.cell,r6.cell]
 refine Chk_intro (r6.W) fun h5 s5=>?_
 have s5_z:=s5.size
 replace p0:=p0.F s5.fr
 replace r1:=r1.F s5.fr
 replace p3:=p3.F s5.fr
 replace r6:=s5.row r6
 try simp only [cl_int,cl_bool,cl_slice,cl_ptr,putAt_one,zs0,zs1,ivec_set,brow_upd] at r6
 try simp -dsimp only [go_sem] at r6
 simp -dsimp only [go_sem,r1.cell,r6.cell]
 refine withC_of [.pointer (some ⟨c 0,0,none⟩),.pointer (some ⟨c 1,0,none⟩),.pointer (some ⟨c 2,0,none⟩),.pointer (some ⟨c 9,0,none⟩),.pointer (some ⟨c 3,0,none⟩),.pointer (some ⟨c 4,0,none⟩),.pointer (some ⟨c 5,0,none⟩),.pointer (some ⟨c 6,0,none⟩),.pointer (some ⟨c 7,0,none⟩),.pointer (some ⟨c 8,0,none⟩),.slice rda g.n rdc,.slice wra g.n wrc,.slice fea g.n fec] 0 (fun j x hj=>by rw [r6.cell,Nat.zero_add];exact hj) ?_
 refine Chk_intro rfl ?_
 simp -dsimp only [go_sem,r1.cell,r6.cell]
 intro mb h6 n6
 have n6_z:=n6.az
 replace p0:=p0.F n6.f0
 replace r1:=r1.F n6.f0
 replace p3:=p3.F n6.f0
 replace r6:=r6.F n6.f0
 have rm:=n6.row
 replace rm:Rw h6 mb [.int .i64 g.cells,.slice q.e g.evs.length q.ec,.slice q.f g.rf.length q.fc,.slice q.o g.co.length q.oc,.slice q.r g.rmw.length q.rc,.slice q.a g.addr.length q.ac,.slice q.d g.data.length q.dc,.slice q.c g.ctrl.length q.cc,.pointer (some ⟨c 0,0,none⟩),.pointer (some ⟨c 1,0,none⟩),.pointer (some ⟨c 2,0,none⟩),.pointer (some ⟨c 9,0,none⟩),.pointer (some ⟨c 3,0,none⟩),.pointer (some ⟨c 4,0,none⟩),.pointer (some ⟨c 5,0,none⟩),.pointer (some ⟨c 6,0,none⟩),.pointer (some ⟨c 7,0,none⟩),.pointer (some ⟨c 8,0,none⟩),.slice rda g.n rdc,.slice wra g.n wrc,.slice fea g.n fec,.pointer none,.pointer none,.pointer none,.pointer none,.pointer none,.pointer none]:=rm
 have gb:h.size≤mb:=by omega
 simp -dsimp only [go_sem,r1.cell,r6.cell,rm.cell]
 obtain ⟨_,_,ta⟩:=(R 1 (by decide)).fr p3
 obtain ⟨_,_,tb⟩:=(R 5 (by decide)).fr p3
 refine call_of (rel_Inter ta tb (ht.fr p0 (.inr rfl))) ?_
 rintro vm0 h_m0 ⟨f_m0,t_m0⟩
 rw [Nat.max_self] at t_m0
 have f_m0_z:=f_m0.size
 replace p0:=p0.F f_m0
 replace r1:=r1.F f_m0
 replace p3:=p3.F f_m0
 replace r6:=r6.F f_m0
 replace rm:=rm.F f_m0
 have e_m0:PN h_m0 h6.size vm0 g.n (rfeM g):=((PN.of t_m0).lower (by omega)).congr fun i j hi hj=>interM_in hi hj
 obtain ⟨m0,rfl⟩:=e_m0.pa.ptr
 clear t_m0 ta tb
 simp -dsimp only [go_sem,r1.cell,r6.cell,rm.cell]
 obtain ⟨_,_,ta⟩:=(R 1 (by decide)).fr p3
 obtain ⟨_,_,tb⟩:=(R 5 (by decide)).fr p3
 refine call_of (rel_Minus ta tb (ht.fr p0 (.inr rfl))) ?_
 rintro vm1 h_m1 ⟨f_m1,t_m1⟩
 rw [Nat.max_self] at t_m1
 have f_m1_z:=f_m1.size
 replace p0:=p0.F f_m1
 replace r1:=r1.F f_m1
 replace p3:=p3.F f_m1
 replace r6:=r6.F f_m1
 replace rm:=rm.F f_m1
 replace e_m0:=e_m0.fr f_m1 (by omega)
 have e_m1:PN h_m1 h6.size vm1 g.n (rfiM g):=((PN.of t_m1).lower (by omega)).congr fun i j hi hj=>minusM_in hi hj
 obtain ⟨m1,rfl⟩:=e_m1.pa.ptr
 clear t_m1 ta tb
 simp -dsimp only [go_sem,r1.cell,r6.cell,rm.cell]
 refine Chk_intro (rm.W) fun hs_a ss_a=>?_
 have ss_a_z:=ss_a.size
 replace p0:=p0.F ss_a.fr
 replace r1:=r1.F ss_a.fr
 replace p3:=p3.F ss_a.fr
 replace r6:=r6.F ss_a.fr
 replace e_m0:=e_m0.fr ss_a.fr (by omega)
 replace e_m1:=e_m1.fr ss_a.fr (by omega)
 replace rm:=ss_a.row rm
 try simp only [cl_int,cl_bool,cl_slice,cl_ptr,putAt_one,zs0,zs1,ivec_set,brow_upd] at rm
 try simp -dsimp only [go_sem] at rm
 simp -dsimp only [go_sem,r1.cell,r6.cell,rm.cell]
 refine Chk_intro (rm.W) fun hs_b ss_b=>?_
 have ss_b_z:=ss_b.size
 replace p0:=p0.F ss_b.fr
 replace r1:=r1.F ss_b.fr
 replace p3:=p3.F ss_b.fr
 replace r6:=r6.F ss_b.fr
 replace e_m0:=e_m0.fr ss_b.fr (by omega)
 replace e_m1:=e_m1.fr ss_b.fr (by omega)
 replace rm:=ss_b.row rm
 try simp only [cl_int,cl_bool,cl_slice,cl_ptr,putAt_one,zs0,zs1,ivec_set,brow_upd] at rm
 try simp -dsimp only [go_sem] at rm
 simp -dsimp only [go_sem,r1.cell,r6.cell,rm.cell]
 obtain ⟨_,_,ta⟩:=(R 2 (by decide)).fr p3
 obtain ⟨_,_,tb⟩:=(R 5 (by decide)).fr p3
 refine call_of (rel_Inter ta tb (ht.fr p0 (.inr rfl))) ?_
 rintro vm2 h_m2 ⟨f_m2,t_m2⟩
 rw [Nat.max_self] at t_m2
 have f_m2_z:=f_m2.size
 replace p0:=p0.F f_m2
 replace r1:=r1.F f_m2
 replace p3:=p3.F f_m2
 replace r6:=r6.F f_m2
 replace rm:=rm.F f_m2
 replace e_m0:=e_m0.fr f_m2 (by omega)
 replace e_m1:=e_m1.fr f_m2 (by omega)
 have e_m2:PN h_m2 h6.size vm2 g.n (coeM g):=((PN.of t_m2).lower (by omega)).congr fun i j hi hj=>interM_in hi hj
 obtain ⟨m2,rfl⟩:=e_m2.pa.ptr
 clear t_m2 ta tb
 simp -dsimp only [go_sem,r1.cell,r6.cell,rm.cell]
 obtain ⟨_,_,ta⟩:=(R 2 (by decide)).fr p3
 obtain ⟨_,_,tb⟩:=(R 5 (by decide)).fr p3
 refine call_of (rel_Minus ta tb (ht.fr p0 (.inr rfl))) ?_
 rintro vm3 h_m3 ⟨f_m3,t_m3⟩
 rw [Nat.max_self] at t_m3
 have f_m3_z:=f_m3.size
 replace p0:=p0.F f_m3
 replace r1:=r1.F f_m3
 replace p3:=p3.F f_m3
 replace r6:=r6.F f_m3
 replace rm:=rm.F f_m3
 replace e_m0:=e_m0.fr f_m3 (by omega)
 replace e_m1:=e_m1.fr f_m3 (by omega)
 replace e_m2:=e_m2.fr f_m3 (by omega)
 have e_m3:PN h_m3 h6.size vm3 g.n (coiM g):=((PN.of t_m3).lower (by omega)).congr fun i j hi hj=>minusM_in hi hj
 obtain ⟨m3,rfl⟩:=e_m3.pa.ptr
 clear t_m3 ta tb
 simp -dsimp only [go_sem,r1.cell,r6.cell,rm.cell]
 refine Chk_intro (rm.W) fun hs_c ss_c=>?_
 have ss_c_z:=ss_c.size
 replace p0:=p0.F ss_c.fr
 replace r1:=r1.F ss_c.fr
 replace p3:=p3.F ss_c.fr
 replace r6:=r6.F ss_c.fr
 replace e_m0:=e_m0.fr ss_c.fr (by omega)
 replace e_m1:=e_m1.fr ss_c.fr (by omega)
 replace e_m2:=e_m2.fr ss_c.fr (by omega)
 replace e_m3:=e_m3.fr ss_c.fr (by omega)
 replace rm:=ss_c.row rm
 try simp only [cl_int,cl_bool,cl_slice,cl_ptr,putAt_one,zs0,zs1,ivec_set,brow_upd] at rm
 try simp -dsimp only [go_sem] at rm
 simp -dsimp only [go_sem,r1.cell,r6.cell,rm.cell]
 refine Chk_intro (rm.W) fun hs_d ss_d=>?_
 have ss_d_z:=ss_d.size
 replace p0:=p0.F ss_d.fr
 replace r1:=r1.F ss_d.fr
 replace p3:=p3.F ss_d.fr
 replace r6:=r6.F ss_d.fr
 replace e_m0:=e_m0.fr ss_d.fr (by omega)
 replace e_m1:=e_m1.fr ss_d.fr (by omega)
 replace e_m2:=e_m2.fr ss_d.fr (by omega)
 replace e_m3:=e_m3.fr ss_d.fr (by omega)
 replace rm:=ss_d.row rm
 try simp only [cl_int,cl_bool,cl_slice,cl_ptr,putAt_one,zs0,zs1,ivec_set,brow_upd] at rm
 try simp -dsimp only [go_sem] at rm
 simp -dsimp only [go_sem,r1.cell,r6.cell,rm.cell]
 obtain ⟨_,_,ta⟩:=(R 9 (by decide)).fr p3
 obtain ⟨_,_,tb⟩:=(R 5 (by decide)).fr p3
 refine call_of (rel_Inter ta tb (ht.fr p0 (.inr rfl))) ?_
 rintro vm4 h_m4 ⟨f_m4,t_m4⟩
 rw [Nat.max_self] at t_m4
 have f_m4_z:=f_m4.size
 replace p0:=p0.F f_m4
 replace r1:=r1.F f_m4
 replace p3:=p3.F f_m4
 replace r6:=r6.F f_m4
 replace rm:=rm.F f_m4
 replace e_m0:=e_m0.fr f_m4 (by omega)
 replace e_m1:=e_m1.fr f_m4 (by omega)
 replace e_m2:=e_m2.fr f_m4 (by omega)
 replace e_m3:=e_m3.fr f_m4 (by omega)
 have e_m4:PN h_m4 h6.size vm4 g.n (freM g):=((PN.of t_m4).lower (by omega)).congr fun i j hi hj=>interM_in hi hj
 obtain ⟨m4,rfl⟩:=e_m4.pa.ptr
 clear t_m4 ta tb
 simp -dsimp only [go_sem,r1.cell,r6.cell,rm.cell]
 refine Chk_intro (rm.W) fun hs_e ss_e=>?_
 have ss_e_z:=ss_e.size
 replace p0:=p0.F ss_e.fr
 replace r1:=r1.F ss_e.fr
 replace p3:=p3.F ss_e.fr
 replace r6:=r6.F ss_e.fr
 replace e_m0:=e_m0.fr ss_e.fr (by omega)
 replace e_m1:=e_m1.fr ss_e.fr (by omega)
 replace e_m2:=e_m2.fr ss_e.fr (by omega)
 replace e_m3:=e_m3.fr ss_e.fr (by omega)
 replace e_m4:=e_m4.fr ss_e.fr (by omega)
 replace rm:=ss_e.row rm
 try simp only [cl_int,cl_bool,cl_slice,cl_ptr,putAt_one,zs0,zs1,ivec_set,brow_upd] at rm
 try simp -dsimp only [go_sem] at rm
 simp -dsimp only [go_sem,r1.cell,r6.cell,rm.cell]
 have gh:Mg hs_e mb q g:=⟨⟨_,rm⟩,t.fr p0,hn⟩
 have pz:Fr 0 0 hs_e hs_e:=.refl _ _ _
 refine call_of (arm_model_mode (gh.fr pz) 12) ?_
 rintro v7 h7 ⟨f7,w7⟩
 have f7_z:=f7.size
 replace p0:=p0.F f7
 replace r1:=r1.F f7
 replace p3:=p3.F f7
 replace r6:=r6.F f7
 replace rm:=rm.F f7
 replace e_m0:=e_m0.fr f7 (by omega)
 replace e_m1:=e_m1.fr f7 (by omega)
 replace e_m2:=e_m2.fr f7 (by omega)
 replace e_m3:=e_m3.fr f7 (by omega)
 replace e_m4:=e_m4.fr f7 (by omega)
 replace pz:=pz.F f7
 simp -dsimp only [go_sem,r1.cell,r6.cell,rm.cell]
 refine call_of (arm_model_mode (gh.fr pz) 16) ?_
 rintro v8 h8 ⟨f8,w8⟩
 have w7:=w7.fr f8 (by omega)
 have f8_z:=f8.size
 replace p0:=p0.F f8
 replace r1:=r1.F f8
 replace p3:=p3.F f8
 replace r6:=r6.F f8
 replace rm:=rm.F f8
 replace e_m0:=e_m0.fr f8 (by omega)
 replace e_m1:=e_m1.fr f8 (by omega)
 replace e_m2:=e_m2.fr f8 (by omega)
 replace e_m3:=e_m3.fr f8 (by omega)
 replace e_m4:=e_m4.fr f8 (by omega)
 replace pz:=pz.F f8
 simp -dsimp only [go_sem,w7.pa.cl,w8.pa.cl,r1.cell,r6.cell,rm.cell]
 intro b9 h9 n9
 have n9_z:=n9.az
 replace p0:=p0.F n9.f0
 replace r1:=r1.F n9.f0
 replace p3:=p3.F n9.f0
 replace r6:=r6.F n9.f0
 replace rm:=rm.F n9.f0
 replace e_m0:=e_m0.fr n9.f0 (by omega)
 replace e_m1:=e_m1.fr n9.f0 (by omega)
 replace e_m2:=e_m2.fr n9.f0 (by omega)
 replace e_m3:=e_m3.fr n9.f0 (by omega)
 replace e_m4:=e_m4.fr n9.f0 (by omega)
 replace pz:=pz.F n9.f0
 have r9:=n9.row
 have w7:=w7.fr n9.f0 (by omega)
 have w8:=w8.fr n9.f0 (by omega)
 simp -dsimp only [go_sem,r1.cell,r6.cell,rm.cell,r9.cell]
 refine call_of (rel_UnionU (UA.mk' [(v7,_),(v8,_)] r9 (pa_cons w7.pa (pa_cons w8.pa pa_nil)) (by simp) (by simp))) ?_
 rintro v10 h10 ⟨f10,t10⟩
 have f10_z:=f10.size
 replace p0:=p0.F f10
 replace r1:=r1.F f10
 replace p3:=p3.F f10
 replace r6:=r6.F f10
 replace rm:=rm.F f10
 replace e_m0:=e_m0.fr f10 (by omega)
 replace e_m1:=e_m1.fr f10 (by omega)
 replace e_m2:=e_m2.fr f10 (by omega)
 replace e_m3:=e_m3.fr f10 (by omega)
 replace e_m4:=e_m4.fr f10 (by omega)
 replace pz:=pz.F f10
 replace r9:=r9.F f10
 have e_m5:PN h10 h6.size v10 g.n (dM (acqB g)):=((PN.of t10).lower (by omega)).congr fun i j hi hj=>by
  unfold orM dM acqB
  cases h1:(i==j) <;> simp [h1]
 obtain ⟨m5,rfl⟩:=e_m5.pa.ptr
 simp -dsimp only [go_sem,r1.cell,r6.cell,rm.cell,r9.cell]
 refine Chk_intro (rm.W) fun h11 s11=>?_
 have s11_z:=s11.size
 replace p0:=p0.F s11.fr
 replace r1:=r1.F s11.fr
 replace p3:=p3.F s11.fr
 replace r6:=r6.F s11.fr
 replace e_m0:=e_m0.fr s11.fr (by omega)
 replace e_m1:=e_m1.fr s11.fr (by omega)
 replace e_m2:=e_m2.fr s11.fr (by omega)
 replace e_m3:=e_m3.fr s11.fr (by omega)
 replace e_m4:=e_m4.fr s11.fr (by omega)
 replace r9:=r9.F s11.fr
 replace e_m5:=e_m5.fr s11.fr (by omega)
 replace rm:=s11.row rm
 try simp only [cl_int,cl_bool,cl_slice,cl_ptr,putAt_one,zs0,zs1,ivec_set,brow_upd] at rm
 try simp -dsimp only [go_sem] at rm
 simp -dsimp only [go_sem,r1.cell,r6.cell,rm.cell,r9.cell]
 refine ⟨p0,mb,c,.slice rda g.n rdc,.slice wra g.n wrc,.slice fea g.n fec,fun k=>[m0,m1,m2,m3,m4,m5].getD k 0,rfl,⟨rm,t.fr p0,hn,fun k hk=>(R k hk).fr p3,fun k hk=>?_,dR.fr p3,dW.fr p3,dF.fr p3⟩⟩
 match k,hk with
 | 0,_=>exact e_m0.pa
 | 1,_=>exact e_m1.pa
 | 2,_=>exact e_m2.pa
 | 3,_=>exact e_m3.pa
 | 4,_=>exact e_m4.pa
 | 5,_=>exact e_m5.pa
end
end Go.Proofs.Tst
/-
  The events in another order that keeps po (plain).
-/
namespace Go.Proofs.Tst
open Go Go.Vc
def mapP (s:Nat→Nat) (p:Int×Int):Int×Int:=((s p.1.toNat:Int),(s p.2.toNat:Int))
structure Relist (g h:Gr) (s t:Nat→Nat):Prop where
 cells:h.cells=g.cells
 n:h.n=g.n
 iso:Iso g.n s t
 fix:∀ c:Nat,(c:Int)<g.cells→c<g.n→s c=c
 up:∀ i j,i<j→j<g.n→(g.ev i).thread=(g.ev j).thread→0≤(g.ev i).thread→s i<s j
 ev:∀ i,i<g.n→h.ev (s i)=g.ev i
 rf:h.rf.Perm (g.rf.map (mapP s))
 rfs:h.rf.Pairwise fun p q=>p.2<q.2
 rmw:h.rmw.Perm (g.rmw.map (mapP s))
 rmws:h.rmw.Pairwise fun p q=>p.1<q.1
 co:h.co=g.co.map fun l=>l.map fun x=>(s x.toNat:Int)
 addr:h.addr=[]
 data:h.data=[]
 ctrl:h.ctrl=[]
theorem strict_ext:∀ {l m:List Int},l.Pairwise (· < ·)→m.Pairwise (· < ·)→(∀ x,x∈l↔x∈m)→l=m
 | [],[],_,_,_=>rfl
 | [],y :: m,_,_,h=>absurd ((h y).2 (by simp)) (by simp)
 | x :: l,[],_,_,h=>absurd ((h x).1 (by simp)) (by simp)
 | x :: l,y :: m,hl,hm,h=>by
  obtain ⟨h1,h2⟩:=List.pairwise_cons.1 hl
  obtain ⟨h3,h4⟩:=List.pairwise_cons.1 hm
  have e:x=y:=by
   rcases List.mem_cons.1 ((h x).1 (by simp)) with e | e
   ·exact e
   ·rcases List.mem_cons.1 ((h y).2 (by simp)) with e' | e'
    ·exact e'.symm
    ·have:=h3 x e;have:=h1 y e';omega
  subst e
  congr 1
  refine strict_ext h2 h4 fun z=>?_
  constructor
  ·intro hz
   rcases List.mem_cons.1 ((h z).1 (List.mem_cons_of_mem _ hz)) with e | e
   ·subst e;have:=h1 z hz;omega
   ·exact e
  ·intro hz
   rcases List.mem_cons.1 ((h z).2 (List.mem_cons_of_mem _ hz)) with e | e
   ·subst e;have:=h3 z hz;omega
   ·exact e
theorem reads_sorted {g:Gr}:(readsFrom g 0 g.n).Pairwise (· < ·):=by
 unfold readsFrom
 rw [List.pairwise_map]
 refine List.Pairwise.filter _ ?_
 rw [← List.range_eq_range']
 exact List.pairwise_lt_range.imp fun h=>by omega
theorem reads_mem {g:Gr} {x:Int}:x∈readsFrom g 0 g.n↔∃ i:Nat,i<g.n∧(g.ev i).kind=1∧x=(i:Int):=by
 unfold readsFrom
 rw [← List.range_eq_range',List.mem_map]
 constructor
 ·rintro ⟨i,hi,rfl⟩
  rw [List.mem_filter,List.mem_range,beq_iff_eq] at hi
  exact ⟨i,hi.1,hi.2,rfl⟩
 ·rintro ⟨i,h1,h2,rfl⟩
  exact ⟨i,List.mem_filter.2 ⟨List.mem_range.2 h1,by simpa using h2⟩,rfl⟩
namespace Relist
variable {g h : Gr} {s t : Nat → Nat}
theorem back (w:Relist g h s t) {i:Nat} (hi:i<g.n):h.ev i=g.ev (t i):=by rw [← w.ev _ (w.iso.lt i hi),w.iso.st i hi]
theorem is_s (w:Relist g h s t) {i:Nat} (hi:i<g.n) (k:Int):h.is (s i:Int) k=g.is (i:Int) k:=by
 have:=w.iso.ls i hi
 unfold Gr.is
 rw [Int.toNat_natCast,Int.toNat_natCast,w.ev i hi,w.n]
 have e1:decide (0≤(s i:Int))=true:=by simp
 have e2:decide ((s i:Int)<(g.n:Int))=true:=by simp;omega
 have e3:decide (0≤(i:Int))=true:=by simp
 have e4:decide ((i:Int)<(g.n:Int))=true:=by simp;omega
 rw [e1,e2,e3,e4]
theorem before_s (w:Relist g h s t) {i j:Nat} (hi:i<g.n) (hj:j<g.n):h.before (s i:Int) (s j:Int)=g.before (i:Int) (j:Int):=by
 have:=w.iso.ls i hi
 have:=w.iso.ls j hj
 unfold Gr.before
 simp only [Int.toNat_natCast,w.ev i hi,w.ev j hj,w.n]
 rw [Bool.eq_iff_iff]
 simp only [Bool.and_eq_true,decide_eq_true_eq,beq_iff_eq]
 constructor
 ·rintro ⟨⟨⟨⟨-,h1⟩,-⟩,h2⟩,h3⟩
  refine ⟨⟨⟨⟨by omega,?_⟩,by omega⟩,h2⟩,h3⟩
  apply Classical.byContradiction;intro hn
  rcases Nat.lt_trichotomy i j with c | c | c
  ·omega
  ·subst c;omega
  ·have:=w.up j i c hi h3.symm (by rw [← h3];exact h2);omega
 ·rintro ⟨⟨⟨⟨-,h1⟩,-⟩,h2⟩,h3⟩
  have:=w.up i j (by omega) hj h3 h2
  exact ⟨⟨⟨⟨by omega,by omega⟩,by omega⟩,h2⟩,h3⟩
theorem next_s (w:Relist g h s t) {a b:Nat} (ha:a<g.n) (hb:b<g.n) (hn:g.isNext (a:Int) (b:Int)=true):h.isNext (s a:Int) (s b:Int)=true:=by
 unfold Gr.isNext at hn ⊢
 rw [w.before_s ha hb]
 rw [Bool.and_eq_true,List.all_eq_true] at hn ⊢
 obtain ⟨h1,h2⟩:=hn
 refine ⟨h1,fun k hk=>?_⟩
 simp only [Int.toNat_natCast,List.mem_range'_1] at hk h2 ⊢
 have hbn:=w.iso.ls b hb
 have hkn:k<g.n:=by omega
 rw [w.back hkn,w.ev a ha]
 have htk:=w.iso.lt k hkn
 simp only [Bool.not_eq_true',beq_eq_false_iff_ne]
 intro hth
 have hba:=h1
 unfold Gr.before at hba
 simp only [Bool.and_eq_true,decide_eq_true_eq,beq_iff_eq,Int.toNat_natCast] at hba
 obtain ⟨⟨⟨⟨-,b1⟩,-⟩,b2⟩,b3⟩:=hba
 have k1:a<t k:=by
  rcases Nat.lt_trichotomy a (t k) with c | c | c
  ·exact c
  ·have:=w.iso.st k hkn;rw [← c] at this;omega
  ·have:=w.up (t k) a c ha hth (by rw [hth];exact b2)
   rw [w.iso.st k hkn] at this;omega
 have k2:t k<b:=by
  rcases Nat.lt_trichotomy (t k) b with c | c | c
  ·exact c
  ·have:=w.iso.st k hkn;rw [c] at this;omega
  ·have:=w.up b (t k) c htk (by rw [← b3,hth]) (by rw [← b3];exact b2)
   rw [w.iso.st k hkn] at this;omega
 have:=h2 (t k) (by omega)
 simp only [Bool.not_eq_true',beq_eq_false_iff_ne] at this
 exact this hth
theorem writes (w:Relist g h s t) (c:Int):h.writesOf c=g.writesOf c:=by
 rw [writesOf_range,writesOf_range,w.n]
 have inj:∀ (l:List Nat) (f:Nat→Nat) (f':Nat→Nat),l.Nodup→(∀ k∈l,f' (f k)=k)→(l.map fun k=>((f k:Nat):Int)).Nodup:=fun l f f' hn hf=>by
  rw [List.nodup_iff_pairwise_ne] at hn ⊢
  rw [List.pairwise_map]
  refine hn.imp_of_mem fun {a b} ha hb hab h=>hab ?_
  have h:f a=f b:=by omega
  rw [← hf a ha,← hf b hb,h]
 have nd:∀ p:Nat→Bool,((List.range g.n).filter p).Nodup:=fun p=>List.nodup_range.filter _
 apply Nat.le_antisymm
 ·have:=nodup_le (l:=((List.range g.n).filter fun i=>(h.ev i).kind==2&&(h.ev i).loc==c).map fun k=>((t k:Nat):Int)) (m:=((List.range g.n).filter fun i=>(g.ev i).kind==2&&(g.ev i).loc==c).map fun (k:Nat)=>(k:Int)) (inj _ t s (nd _) fun k hk=>w.iso.st k (List.mem_range.1 (List.mem_filter.1 hk).1)) fun x hx=>by
   obtain ⟨k,hk,rfl⟩:=List.mem_map.1 hx
   obtain ⟨k1,k2⟩:=List.mem_filter.1 hk
   have k1:=List.mem_range.1 k1
   rw [w.back k1] at k2
   exact List.mem_map.2 ⟨t k,List.mem_filter.2 ⟨List.mem_range.2 (w.iso.lt k k1),k2⟩,rfl⟩
  simpa using this
 ·have:=nodup_le (l:=((List.range g.n).filter fun i=>(g.ev i).kind==2&&(g.ev i).loc==c).map fun k=>((s k:Nat):Int)) (m:=((List.range g.n).filter fun i=>(h.ev i).kind==2&&(h.ev i).loc==c).map fun (k:Nat)=>(k:Int)) (inj _ s t (nd _) fun k hk=>w.iso.ts k (List.mem_range.1 (List.mem_filter.1 hk).1)) fun x hx=>by
   obtain ⟨k,hk,rfl⟩:=List.mem_map.1 hx
   obtain ⟨k1,k2⟩:=List.mem_filter.1 hk
   have k1:=List.mem_range.1 k1
   rw [← w.ev k k1] at k2
   exact List.mem_map.2 ⟨s k,List.mem_filter.2 ⟨List.mem_range.2 (w.iso.ls k k1),k2⟩,rfl⟩
  simpa using this
theorem rf_nat (hg:(g.check false).1=0) {p:Int×Int} (hp:p∈g.rf):∃ a b:Nat,p=((a:Int),(b:Int))∧a<g.n∧b<g.n:=by
 obtain ⟨a,b,e,h1,h2,-⟩:=rf_pair hg hp
 exact ⟨a,b,e,h1,h2⟩
theorem rmw_nat (hg:(g.check false).1=0) {p:Int×Int} (hp:p∈g.rmw):∃ a b:Nat,p=((a:Int),(b:Int))∧a<g.n∧b<g.n:=by
 obtain ⟨-,-,-,-,-,h6,-⟩:=check_iff.1 hg
 obtain ⟨b1,b2,b3⟩:=before_lt (rmw_before h6 hp)
 exact ⟨p.1.toNat,p.2.toNat,Prod.ext (by dsimp only;omega) (by dsimp only;omega),by omega,by omega⟩
theorem co_nat' (hg:(g.check false).1=0) {l:List Int} (hl:l∈g.co) {x:Int} (hx:x∈l):0≤x∧x.toNat<g.n:=by
 have hgd:=good_false hg
 obtain ⟨c,hc⟩:=List.mem_iff_getElem?.1 hl
 have hcl:=(List.getElem?_eq_some_iff.1 hc).1
 have hd:g.co.getD c []=l:=by simp [hc]
 obtain ⟨-,h2,-⟩:=co_list hgd hcl
 rw [hd] at h2
 obtain ⟨l1,l2,-⟩:=is_lt (h2 x hx).1
 exact ⟨l1,by omega⟩
theorem good (w:Relist g h s t) (hg:(g.check false).1=0):(h.check false).1=0:=by
 have hgd:=good_false hg
 obtain ⟨h1,h2,h3,h4,h5,h6,h7,h8,h9⟩:=check_iff.1 hg
 have hs:=h1
 simp only [Gr.size,Bool.and_eq_true,decide_eq_true_eq] at hs
 have fixed:∀ c:Nat,(c:Int)<g.cells→h.ev c=g.ev c:=fun c hc=>by
  have:=w.fix c hc (by omega)
  have h:=w.ev c (by omega)
  rw [this] at h;exact h
 have tcell:∀ k,k<g.n→g.cells≤(k:Int)→g.cells≤(t k:Int):=fun k hk hc=>by
  apply Classical.byContradiction;intro hn
  have:=w.fix (t k) (by omega) (w.iso.lt k hk)
  rw [w.iso.st k hk] at this;omega
 refine check_iff.2 ⟨?_,?_,?_,?_,?_,?_,?_,?_,?_⟩
 ·unfold Gr.size at h1 ⊢;rw [w.cells,w.n];exact h1
 ·unfold Gr.initAt at h2 ⊢
  refine firstEv_all _ _ fun c hc hc'=>?_
  rw [w.cells] at hc'
  have:=firstEv_neg _ _ h2 c hc hc'
  rw [fixed c (by omega)];exact this
 ·unfold Gr.evAt at h3 ⊢
  refine firstEv_all _ _ fun k hk hk'=>?_
  rw [w.cells] at hk hk'
  rw [w.n] at hk'
  have hkn:k<g.n:=by omega
  have:=tcell k hkn (by omega)
  have htk:=w.iso.lt k hkn
  have:=firstEv_neg _ _ h3 (t k) (by omega) (by omega)
  rw [w.back hkn]
  unfold Gr.evOk at this ⊢
  rw [w.cells];exact this
 ·obtain ⟨k1,k2⟩:=rf_iff.1 h4
  refine rf_iff.2 ⟨strict_ext (by rw [List.pairwise_map];exact w.rfs) reads_sorted fun x=>?_,fun p hp=>?_⟩
  ·rw [reads_mem,List.mem_map]
   constructor
   ·rintro ⟨p,hp,rfl⟩
    obtain ⟨p',hp',rfl⟩:=List.mem_map.1 (w.rf.mem_iff.1 hp)
    obtain ⟨a,b,e,ha,hb,-,hk,-⟩:=rf_pair hg hp'
    subst e
    exact ⟨s b,by rw [w.n];exact w.iso.ls b hb,by rw [w.ev b hb];exact hk,by unfold mapP;simp⟩
   ·rintro ⟨i,hi,hk,rfl⟩
    rw [w.n] at hi
    rw [w.back hi] at hk
    have hm:((t i:Nat):Int)∈g.rf.map (·.2):=by rw [k1];exact reads_mem.2 ⟨t i,w.iso.lt i hi,hk,rfl⟩
    obtain ⟨p,hp,e⟩:=List.mem_map.1 hm
    refine ⟨mapP s p,w.rf.mem_iff.2 (List.mem_map.2 ⟨p,hp,rfl⟩),?_⟩
    have e:p.2=((t i:Nat):Int):=e
    unfold mapP
    rw [e,Int.toNat_natCast,w.iso.st i hi]
  ·obtain ⟨p',hp',rfl⟩:=List.mem_map.1 (w.rf.mem_iff.1 hp)
   have hok:=k2 p' hp'
   obtain ⟨a,b,rfl,ha,hb⟩:=rf_nat hg hp'
   unfold rfOk at hok ⊢
   unfold mapP
   simp only [Int.toNat_natCast] at hok ⊢
   rw [w.is_s ha,w.ev a ha,w.ev b hb];exact hok
 ·obtain ⟨k1,k2⟩:=co_iff.1 h5
  have hcl:h.co.length=g.co.length:=by rw [w.co,List.length_map]
  refine co_iff.2 ⟨by rw [hcl,w.cells];exact k1,fun c hc=>?_⟩
  rw [hcl] at hc
  have hb:=k2 c hc
  have hl:g.co[c]?=some (g.co.getD c []):=by simp [hc]
  have hl':h.co.getD c []=(g.co.getD c []).map fun x=>(s x.toNat:Int):=by rw [w.co];simp [hc]
  have hmem:=List.mem_of_getElem? hl
  rw [hl']
  generalize g.co.getD c []=l at hb hmem
  unfold Gr.coBad at hb ⊢
  simp only [Bool.or_eq_false_iff,Bool.not_eq_false',beq_iff_eq,List.all_eq_true,Bool.and_eq_true,decide_eq_true_eq] at hb ⊢
  obtain ⟨⟨⟨b1,b2⟩,b3⟩,b4⟩:=hb
  have hnat:∀ x∈l,0≤x∧x.toNat<g.n:=fun x hx=>co_nat' hg hmem hx
  refine ⟨⟨⟨?_,by rw [List.length_map,w.writes];exact b2⟩,fun y hy=>?_⟩,?_⟩
  ·rw [List.head?_map,b1]
   simp only [Option.map_some,Int.toNat_natCast]
   rw [w.fix c (by omega) (by omega)]
  ·obtain ⟨x,hx,rfl⟩:=List.mem_map.1 hy
   obtain ⟨x1,x2⟩:=hnat x hx
   obtain ⟨y1,y2⟩:=b3 x hx
   obtain ⟨x',rfl⟩:=Int.eq_ofNat_of_zero_le x1
   simp only [Int.toNat_natCast] at x2 y2 ⊢
   rw [w.is_s x2,w.ev x' x2];exact ⟨y1,y2⟩
  ·rw [List.nodup_iff_pairwise_ne] at b4 ⊢
   rw [List.pairwise_map]
   refine b4.imp_of_mem fun {a b} ha hb hab e=>hab ?_
   obtain ⟨a1,a2⟩:=hnat a ha
   obtain ⟨b1,b2⟩:=hnat b hb
   have e1:s a.toNat=s b.toNat:=by omega
   have e2:a.toNat=b.toNat:=by rw [← w.iso.ts _ a2,← w.iso.ts _ b2,e1]
   omega
 ·obtain ⟨k1,k2⟩:=rmw_iff.1 h6
  refine rmw_iff.2 ⟨w.rmws,fun p hp=>?_⟩
  obtain ⟨p',hp',rfl⟩:=List.mem_map.1 (w.rmw.mem_iff.1 hp)
  have hok:=k2 p' hp'
  obtain ⟨a,b,rfl,ha,hb⟩:=rmw_nat hg hp'
  unfold rmwOk at hok ⊢
  unfold mapP
  simp only [Int.toNat_natCast,Bool.and_eq_true] at hok ⊢
  rw [w.is_s ha,w.is_s hb,w.ev a ha,w.ev b hb]
  exact ⟨⟨hok.1.1,w.next_s ha hb hok.1.2⟩,hok.2⟩
 ·rw [w.addr];exact dep_src.2 rfl
 ·rw [w.data];exact dep_src.2 rfl
 ·rw [w.ctrl];exact dep_src.2 rfl
end Relist
end Go.Proofs.Tst
/-
  What the source model's chains make (plain).
-/
namespace Go.Proofs.Tst
open Go Go.Vc
section
variable {g : Gr}
end
end Go.Proofs.Tst
/-
  The source's memory model in memory: its parts.
-/
namespace Go.Proofs.Tst
open Go Go.Vc
def rcM (g:Gr):Nat→Mx
 | 0=>rsM g
 | 1=>swM g
 | 2=>hbM g
 | 3=>ecoM g
 | 4=>scbM g
 | 5=>baseM g
 | _=>pscfM g
section
variable {h : Heap} {mb : Nat} {q : GV} {g : Gr}
end
end Go.Proofs.Tst
/-
  The source's memory model of a graph.
-/
namespace Go.Proofs.Tst
open Go Go.Vc
def scells (q:GV) (g:Gr) (c:Nat→Nat) (rd wr fe:Value) (d:Nat→Nat):List Value:=[.int .i64 g.cells,.slice q.e g.evs.length q.ec,.slice q.f g.rf.length q.fc,.slice q.o g.co.length q.oc,.slice q.r g.rmw.length q.rc,.slice q.a g.addr.length q.ac,.slice q.d g.data.length q.dc,.slice q.c g.ctrl.length q.cc,
 .pointer (some ⟨c 0,0,none⟩),.pointer (some ⟨c 1,0,none⟩),.pointer (some ⟨c 2,0,none⟩),.pointer (some ⟨c 9,0,none⟩),.pointer (some ⟨c 3,0,none⟩),.pointer (some ⟨c 4,0,none⟩),.pointer (some ⟨c 5,0,none⟩),.pointer (some ⟨c 6,0,none⟩),.pointer (some ⟨c 7,0,none⟩),.pointer (some ⟨c 8,0,none⟩),rd,wr,fe,
 .pointer (some ⟨d 0,0,none⟩),.pointer (some ⟨d 1,0,none⟩),.pointer (some ⟨d 2,0,none⟩),.pointer (some ⟨d 3,0,none⟩),.pointer (some ⟨d 4,0,none⟩),.pointer (some ⟨d 5,0,none⟩),.pointer (some ⟨d 6,0,none⟩)]
def PB (h:Heap) (lo hi:Nat) (v:Value) (n:Nat) (M:Mx):Prop:=∃ a b,ProgAt h a b v n M∧lo≤a∧a≤b∧b≤hi
theorem PB.fr {h h':Heap} {lo hi l r n:Nat} {v:Value} {M:Mx} (t:PB h lo hi v n M) (f:Fr l r h h') (hd:r≤lo∨hi≤l∨r≤l):PB h' lo hi v n M:=by
 obtain ⟨a,b,t,k⟩:=t
 exact ⟨a,b,t.fr f (by omega),k⟩
theorem PB.wide {h:Heap} {lo hi lo' hi' n:Nat} {v:Value} {M:Mx} (t:PB h lo hi v n M) (h1:lo'≤lo) (h2:hi≤hi'):PB h lo' hi' v n M:=by
 obtain ⟨a,b,t,k⟩:=t
 exact ⟨a,b,t,by omega,k.2.1,by omega⟩
theorem PB.pa {h:Heap} {lo hi n:Nat} {v:Value} {M:Mx} (t:PB h lo hi v n M):PA h v n M:=by obtain ⟨a,b,t,-⟩:=t;exact ⟨a,b,t⟩
structure Ms (h:Heap) (lo mb:Nat) (q:GV) (g:Gr) (c:Nat→Nat) (rd wr fe:Value) (d L:Nat→Nat):Prop where
 row:Rw h mb (scells q g c rd wr fe d)
 gr:GrAt h q g
 n:g.n≤256
 rel:∀ k,k<10→PA h (.pointer (some ⟨c k,0,none⟩)) g.n (relM g k)
 hm:∀ k,k<7→PB h (L k) (L (k+1)) (.pointer (some ⟨d k,0,none⟩)) g.n (rcM g k)
 mono:∀ k,k<7→L k≤L (k+1)
 lo:lo≤L 0
 hi:L 7≤h.size
theorem Ms.fr {h h':Heap} {lo mb:Nat} {q:GV} {g:Gr} {c:Nat→Nat} {rd wr fe:Value} {d L:Nat→Nat} (m:Ms h lo mb q g c rd wr fe d L) (f:Fr 0 0 h h'):Ms h' lo mb q g c rd wr fe d L:=
 ⟨m.row.fr f (by omega),m.gr.fr f,m.n,fun k hk=>(m.rel k hk).fr f,fun k hk=>(m.hm k hk).fr f (by omega),m.mono,m.lo,Nat.le_trans m.hi f.size⟩
theorem PN.F {h h' : Heap} {lo n l r : Nat} {v : Value} {M : Mx} (t : PN h lo v n M) (f : Fr l r h h') (hd : r ≤ lo ∨ h.size ≤ l ∨ r ≤ l := by omega) : PN h' lo v n M := t.fr f hd
theorem PB.F {h h' : Heap} {lo hi n l r : Nat} {v : Value} {M : Mx} (t : PB h lo hi v n M) (f : Fr l r h h') (hd : r ≤ lo ∨ hi ≤ l ∨ r ≤ l := by omega) : PB h' lo hi v n M := t.fr f hd
section
variable {h : Heap} {q : GV} {g : Gr}
end
end Go.Proofs.Tst
/-
  The words' memory model: Derive, Check.
-/
namespace Go.Proofs.Tst
open Go Go.Vc
theorem natsV_ints (l:List Nat):natsV l=intsV (l.map fun (x:Nat)=>(x:Int)):=by unfold natsV intsV;rw [List.map_map];rfl
theorem find_at {α:Type} {f:α→Bool} {l:List α} {i:Nat} {x:α} (h:l[i]?=some x) (hn:(l.take i).find? f=none) (hx:f x=true):l.find? f=some x:=by
 have hlt:=(List.getElem?_eq_some_iff.1 h).1
 have hd:l.drop i=x :: l.drop (i+1):=by rw [List.drop_eq_getElem_cons hlt];congr 1;exact (List.getElem?_eq_some_iff.1 h).2
 rw [← List.take_append_drop i l,List.find?_append,hn,hd]
 simp [hx]
theorem find_next {α:Type} {f:α→Bool} {l:List α} {i:Nat} {x:α} (h:l[i]?=some x) (hn:(l.take i).find? f=none) (hx:f x=false):(l.take (i+1)).find? f=none:=by
 rw [List.take_add_one,h,List.find?_append,hn]
 simp [hx]
theorem torn_has {g:Gr} {p:Int×Int}:(inR g.n p.1&&inR g.n p.2&&compM g.n (freM g) g.n (coeM g) p.1.toNat p.2.toNat)=tornB g p:=by
 unfold tornB
 cases h1:inR g.n p.1
 ·rfl
 cases h2:inR g.n p.2
 ·rfl
 unfold inR at h1 h2
 simp only [Bool.and_eq_true,decide_eq_true_eq] at h1 h2
 rw [compM_in (by omega) (by omega)]
section
variable {h : Heap} {q : GV} {g : Gr}
set_option maxHeartbeats 2000000 in
theorem arm_Check (t:GrAt h q g) (ht:TabAt h) :
  Con Tryd.prog 39 #[.agg (gcells q g).toArray] h fun v h'=>Fr 0 0 h h'∧if (g.check true).1=0 then ∃ w,v=.tuple #[.int .i64 (armAx g).1,w,.int .i64 0]∧Holder 1 h' w (armAx g).2.length (intsV (armAx g).2) h.size
   else v=.tuple #[.int .i64 0,.slice none 0 0,.int .i64 4]:=by
 have p0:Fr 0 0 h h:=.refl _ _ _
 have br:=t.fits.r
 by_cases hc:(g.check true).1=0
 rotate_left
 ·simp only [if_neg hc]
  refine con_q0 ?_
  unfold gcells
  simp -dsimp only [go_sem]
  intro b1 h1 n1
  have n1_a:=n1.at_
  have n1_z:=n1.size
  replace p0:=p0.F n1.f0
  have r1:=n1.row
  simp -dsimp only [go_sem,r1.cell]
  refine call_of (arm_derive (t.fr p0) (ht.fr p0 (.inr rfl))) ?_
  rintro v2 h3 ⟨f2,w⟩
  have f2_z:=f2.size
  replace p0:=p0.F f2
  replace r1:=r1.F f2
  rw [if_neg hc] at w
  subst w
  simp -dsimp only [go_sem,r1.cell]
  exact p0
 simp only [if_pos hc]
 refine con_q0 ?_
 unfold gcells
 simp -dsimp only [go_sem]
 intro b1 h1 n1
 have n1_a:=n1.at_
 have n1_z:=n1.size
 replace p0:=p0.F n1.f0
 have r1:=n1.row
 simp -dsimp only [go_sem,r1.cell]
 refine call_of (arm_derive (t.fr p0) (ht.fr p0 (.inr rfl))) ?_
 rintro v2 h3 ⟨f2,w⟩
 have f2_z:=f2.size
 replace p0:=p0.F f2
 replace r1:=r1.F f2
 rw [if_pos hc] at w
 obtain ⟨mb,c,rd,wr,fe,d,rfl,m⟩:=w
 have g3:h.size≤h3.size∧h.size≤b1:=by omega
 have p3:Fr 0 0 h3 h3:=.refl _ _ _
 have rm:=m.row
 unfold mcells at rm
 simp -dsimp only [go_sem,r1.cell,rm.cell]
 obtain ⟨_,_,ta⟩:=m.rel 0 (by decide)
 obtain ⟨_,_,tb⟩:=m.rel 4 (by decide)
 refine call_of (rel_Inter ta tb (ht.fr p0 (.inr rfl))) ?_
 rintro v4 h4 ⟨f4,t4⟩
 rw [Nat.max_self] at t4
 have f4_z:=f4.size
 replace p0:=p0.F f4
 replace r1:=r1.F f4
 replace p3:=p3.F f4
 replace rm:=rm.F f4
 have t4:PA h4 v4 g.n (fun i j=>relM g 0 i j&&relM g 4 i j):=PA.congr ⟨_,_,t4⟩ fun i j hi hj=>interM_in hi hj
 simp -dsimp only [go_sem,t4.cl,r1.cell,rm.cell]
 intro b5 h5 n5
 have n5_z:=n5.az
 replace p0:=p0.F n5.f0
 replace r1:=r1.F n5.f0
 replace p3:=p3.F n5.f0
 replace rm:=rm.F n5.f0
 have r5:=n5.row
 have t5:=t4.fr n5.f0
 simp -dsimp only [go_sem,r1.cell,rm.cell,r5.cell]
 have m5:=m.fr p3
 refine call_of (rel_UnionU (UA.mk' [(v4,_),(.pointer (some ⟨c 1,0,none⟩),relM g 1),(.pointer (some ⟨c 2,0,none⟩),relM g 2),(.pointer (some ⟨c 9,0,none⟩),relM g 9)] r5 (pa_cons t5 (pa_cons (m5.rel 1 (by decide)) (pa_cons (m5.rel 2 (by decide)) (pa_cons (m5.rel 9 (by decide)) pa_nil)))) (by simp) (by simp))) ?_
 rintro v6 h6 ⟨f6,t6⟩
 have f6_z:=f6.size
 replace p0:=p0.F f6
 replace r1:=r1.F f6
 replace p3:=p3.F f6
 replace rm:=rm.F f6
 replace r5:=r5.F f6
 have t6:=t6.congr (M':=inM g) fun i j _ _=>by simp [orM,inM,Bool.or_assoc]
 simp -dsimp only [go_sem,r1.cell,rm.cell,r5.cell]
 refine call_of (rel_Cycle t6 (ht.fr p0 (.inr rfl))) ?_
 rintro v7 h7 ⟨f7,o7⟩
 have f7_z:=f7.size
 replace p0:=p0.F f7
 replace r1:=r1.F f7
 replace p3:=p3.F f7
 replace rm:=rm.F f7
 replace r5:=r5.F f7
 obtain ⟨a7,c7,rfl⟩:=o7.is
 by_cases h1:cycS g.n (inM g)=[]
 rotate_left
 ·have hl:(((cycS g.n (inM g)).length:Nat):Int) > 0:=by have:=List.length_pos_iff.2 h1;omega
  simp -dsimp only [go_sem,hl,r1.cell,rm.cell,r5.cell]
  have hA:armAx g=(1,(cycS g.n (inM g)).map fun (x:Nat)=>(x:Int)):=by unfold armAx;rw [if_pos h1]
  rw [hA]
  refine ⟨p0,_,rfl,?_⟩
  dsimp only
  rw [List.length_map,← natsV_ints]
  exact o7.lower (by omega)
 have hl:¬ (((cycS g.n (inM g)).length:Nat):Int) > 0:=by rw [h1];decide
 clear o7
 simp -dsimp only [go_sem,hl,r1.cell,rm.cell,r5.cell]
 refine call_of (arm_model_facts (m.fr p3) hc (ht.fr p0 (.inr rfl))) ?_
 rintro v8 h8 ⟨f8,x,A,B,rfl,D,dlo⟩
 have f8_z:=f8.size
 replace p0:=p0.F f8
 replace r1:=r1.F f8
 replace p3:=p3.F f8
 replace rm:=rm.F f8
 replace r5:=r5.F f8
 simp -dsimp only [go_sem,r1.cell,rm.cell,r5.cell]
 refine call_of (rel_Cycle (D.at_ 4 (by decide)) (ht.fr p0 (.inr rfl))) ?_
 rintro v9 h9 ⟨f9,o9⟩
 have f9_z:=f9.size
 replace p0:=p0.F f9
 replace r1:=r1.F f9
 replace p3:=p3.F f9
 replace rm:=rm.F f9
 replace r5:=r5.F f9
 replace o9:Holder 1 h9 v9 (cycS g.n (obM g)).length (natsV (cycS g.n (obM g))) h8.size:=o9
 obtain ⟨a9,c9,rfl⟩:=o9.is
 by_cases h2:cycS g.n (obM g)=[]
 rotate_left
 ·have hl:(((cycS g.n (obM g)).length:Nat):Int) > 0:=by have:=List.length_pos_iff.2 h2;omega
  simp -dsimp only [go_sem,hl,r1.cell,rm.cell,r5.cell]
  have hA:armAx g=(2,(cycS g.n (obM g)).map fun (x:Nat)=>(x:Int)):=by unfold armAx;rw [if_neg (by simp [h1]),if_pos h2]
  rw [hA]
  refine ⟨p0,_,rfl,?_⟩
  dsimp only
  rw [List.length_map,← natsV_ints]
  exact o9.lower (by omega)
 have hl:¬ (((cycS g.n (obM g)).length:Nat):Int) > 0:=by rw [h2];decide
 clear o9
 simp -dsimp only [go_sem,hl,r1.cell,rm.cell,r5.cell]
 obtain ⟨_,_,ta⟩:=(m.fr p3).hm 4 (by decide)
 obtain ⟨_,_,tb⟩:=(m.fr p3).hm 2 (by decide)
 refine call_of (rel_Comp ta tb (ht.fr p0 (.inr rfl))) ?_
 rintro v10 h10 ⟨f10,t10⟩
 rw [Nat.max_self] at t10
 have f10_z:=f10.size
 replace p0:=p0.F f10
 replace r1:=r1.F f10
 replace p3:=p3.F f10
 replace rm:=rm.F f10
 replace r5:=r5.F f10
 obtain ⟨bt,rfl⟩:=progPtr t10
 have g10:h.size≤h10.size:=by omega
 simp -dsimp only [go_sem,r1.cell,rm.cell,r5.cell]
 refine loop_intro (fun i:Nat=>[(8,.pointer (some ⟨bt,0,none⟩)),(70,.slice q.r g.rmw.length q.rc),(71,.int .i64 g.rmw.length),(72,.int .i64 i)])
  (fun i h'=>i≤g.rmw.length∧Fr 0 0 h h'∧Fr 0 0 h10 h'∧(g.rmw.take i).find? (tornB g)=none) (fun i=>g.rmw.length - i) 0 ?_ ?_ ?_
 ·simp [Le,find]
 ·exact ⟨by omega,p0,.refl _ _ _,rfl⟩
 clear p0 r1 p3 rm
 rintro i h11 ⟨hi,p0,p10,hfn⟩
 have p0_z:=p0.size
 have p10_z:=p10.size
 by_cases hlt:i<g.rmw.length
 ·have e1:((i:Int)<(g.rmw.length:Int)):=by omega
  have hq:g.rmw[i]?=some g.rmw[i]:=List.getElem?_eq_getElem hlt
  generalize g.rmw[i]=pr at hq
  obtain ⟨rb,ro,hre,hrc⟩:=t.r.pairsAt (by omega)
  obtain ⟨k1,k2⟩:=hrc h11 p0 i _ hq
  simp -dsimp only [go_sem,e1,hre,k1,k2]
  intro b12 h12 n12
  have n12_z:=n12.az
  replace p0:=p0.F n12.f0
  replace p10:=p10.F n12.f0
  have r12:=n12.row
  simp -dsimp only [go_sem,r12.cell]
  refine Chk_intro (r12.W) fun h13 s13=>?_
  have s13_z:=s13.size
  replace p0:=p0.F s13.fr
  replace p10:=p10.F s13.fr
  replace r12:=s13.row r12
  try simp only [cl_int,cl_bool,cl_slice,cl_ptr,putAt_one,zs0,zs1,ivec_set,brow_upd] at r12
  try simp -dsimp only [go_sem] at r12
  simp -dsimp only [go_sem,r12.cell]
  refine call_of (rel_Has (t10.fr p10 (by omega)) pr.1 pr.2) ?_
  rintro v14 h14 ⟨hh,rfl⟩
  obtain rfl:h13=h14:=hh.symm
  have htn:=torn_has (g:=g) (p:=pr)
  replace htn:(inR g.n pr.1&&inR g.n pr.2&&compM g.n (armM g 4) g.n (armM g 2) pr.1.toNat pr.2.toNat)=tornB g pr:=htn
  rw [htn]
  cases hb:tornB g pr
  ·simp -dsimp only [go_sem,r12.cell]
   simp -dsimp (disch:=omega) only [wrap64]
   exact ⟨i+1,by omega,by simp [Le,find,hre],by omega,p0,p10,find_next hq hfn hb⟩
  ·simp -dsimp only [go_sem,r12.cell]
   intro b15 h15 n15
   have n15_z:=n15.az
   replace p0:=p0.F n15.f0
   replace p10:=p10.F n15.f0
   replace r12:=r12.F n15.f0
   have r15:=n15.row
   simp -dsimp only [go_sem,r12.cell,r15.cell]
   have hA:armAx g=(3,[pr.1,pr.2]):=by unfold armAx;rw [if_neg (by simp [h1]),if_neg (by simp [h2]),find_at hq hfn hb]
   rw [hA]
   exact ⟨p0,_,rfl,holder_row (s:=1) (n:=2) r15 rfl (by omega)⟩
 ·obtain rfl:i=g.rmw.length:=by omega
  simp -dsimp only [go_sem,Int.lt_irrefl]
  rw [List.take_length] at hfn
  have hA:armAx g=(0,[]):=by unfold armAx;rw [if_neg (by simp [h1]),if_neg (by simp [h2]),hfn]
  rw [hA]
  exact ⟨p0,_,rfl,.none _ _ _⟩
end
end Go.Proofs.Tst
/-
  The source's memory model: Derive, the axioms, Check.
-/
namespace Go.Proofs.Tst
open Go Go.Vc
theorem tornS_has {g:Gr} {p:Int×Int}:(inR g.n p.1&&inR g.n p.2&&compM g.n (relM g 9) g.n (relM g 2) p.1.toNat p.2.toNat)=tornS g p:=by
 unfold tornS
 cases h1:inR g.n p.1
 ·rfl
 cases h2:inR g.n p.2
 ·rfl
 unfold inR at h1 h2
 simp only [Bool.and_eq_true,decide_eq_true_eq] at h1 h2
 rw [compM_in (by omega) (by omega)]
section
variable {h : Heap} {lo mb : Nat} {q : GV} {g : Gr} {c : Nat → Nat} {rd wr fe : Value} {d L : Nat → Nat}
end
end Go.Proofs.Tst
/-
  The source's memory model: Derive, Check.
-/
namespace Go.Proofs.Tst
open Go Go.Vc
section
variable {h : Heap} {q : GV} {g : Gr}
end
end Go.Proofs.Tst
/-
  Sequential consistency and TSO (plain).
-/
namespace Go.Proofs.Tst
open Go Go.Vc
def allM (g:Gr) (i j:Nat):Bool:=relM g 0 i j||relM g 1 i j||relM g 2 i j||relM g 9 i j
def fullB (g:Gr) (i:Nat):Bool:=isK g 3 i&&(isM g 5 i||isM g 15 i)
def tiedB (g:Gr) (i:Nat):Bool:=g.rmw.any fun p=>p.1==(i:Int)||p.2==(i:Int)
def keptM (g:Gr) (i j:Nat):Bool:=(relM g 0 i j&&(!isK g 3 i&&!isK g 3 j&&(isK g 1 i||isK g 2 j)))||(relM g 0 i j&&(tiedB g i||tiedB g j))||exB g.n fun f=>fullB g f&&relM g 0 i f&&relM g 0 f j
def globM (g:Gr) (i j:Nat):Bool:=keptM g i j||rfeM g i j||relM g 2 i j||relM g 9 i j
def scAx (g:Gr):Int×List Int:=
 if cycS g.n (allM g)≠[] then (1,natsI (cycS g.n (allM g)))
 else if atomS g≠[] then (2,atomS g)
 else (0,[])
def tsoAx (g:Gr):Int×List Int:=
 if cycS g.n (inM g)≠[] then (1,natsI (cycS g.n (inM g)))
 else if atomS g≠[] then (2,atomS g)
 else if cycS g.n (globM g)≠[] then (3,natsI (cycS g.n (globM g)))
 else (0,[])
theorem scAx_zero {g:Gr}:(scAx g).1=0↔cycS g.n (allM g)=[]∧∀ p∈g.rmw,tornS g p=false:=by
 rw [← atomS_nil]
 unfold scAx
 by_cases h1:cycS g.n (allM g)=[]
 ·rw [if_neg (by simp [h1])]
  by_cases h2:atomS g=[]
  ·rw [if_neg (by simp [h2])];simp [h1,h2]
  ·rw [if_pos h2];simp [h2]
 ·rw [if_pos h1];simp [h1]
section
variable {g : Gr}
end
end Go.Proofs.Tst
/-
  Sequential consistency of a graph all of whose accesses are SC (plain).
-/
namespace Go.Proofs.Tst
open Go Go.Vc
section
variable {g : Gr}
end
end Go.Proofs.Tst
/-
  Sequential consistency and TSO: the axioms in a row (plain).
-/
namespace Go.Proofs.Tst
open Go Go.Vc
def scL (g:Gr) (k:Nat):List Int:=match k with | 0=>natsI (cycS g.n (allM g)) | _=>atomS g
def tsoL (g:Gr) (k:Nat):List Int:=match k with | 0=>natsI (cycS g.n (inM g)) | 1=>atomS g | _=>natsI (cycS g.n (globM g))
theorem natsI_nil {l:List Nat}:natsI l=[]↔l=[]:=by unfold natsI;simp
theorem scAx_at {g:Gr} {k:Nat} (hk:k<2) (h0:∀ l,l<k→scL g l=[]) (h1:scL g k≠[]):scAx g=(((k+1:Nat):Int),scL g k):=by
 unfold scAx
 have hk:k=0∨k=1:=by omega
 rcases hk with rfl | rfl
 ·rw [if_pos (show cycS g.n (allM g)≠[] from fun e=>h1 (natsI_nil.2 e))];rfl
 ·have e0:cycS g.n (allM g)=[]:=natsI_nil.1 (h0 0 (by decide))
  rw [if_neg (by simp [e0]),if_pos (show atomS g≠[] from h1)];rfl
theorem scAx_none {g:Gr} (h0:∀ l,l<2→scL g l=[]):scAx g=(0,[]):=by
 have e0:cycS g.n (allM g)=[]:=natsI_nil.1 (h0 0 (by decide))
 have e1:atomS g=[]:=h0 1 (by decide)
 unfold scAx
 rw [if_neg (by simp [e0]),if_neg (by simp [e1])]
theorem tsoAx_at {g:Gr} {k:Nat} (hk:k<3) (h0:∀ l,l<k→tsoL g l=[]) (h1:tsoL g k≠[]):tsoAx g=(((k+1:Nat):Int),tsoL g k):=by
 unfold tsoAx
 have hk:k=0∨k=1∨k=2:=by omega
 rcases hk with rfl | rfl | rfl
 ·rw [if_pos (show cycS g.n (inM g)≠[] from fun e=>h1 (natsI_nil.2 e))];rfl
 ·have e0:cycS g.n (inM g)=[]:=natsI_nil.1 (h0 0 (by decide))
  rw [if_neg (by simp [e0]),if_pos (show atomS g≠[] from h1)];rfl
 ·have e0:cycS g.n (inM g)=[]:=natsI_nil.1 (h0 0 (by decide))
  have e1:atomS g=[]:=h0 1 (by decide)
  rw [if_neg (by simp [e0]),if_neg (by simp [e1]),if_pos (show cycS g.n (globM g)≠[] from fun e=>h1 (natsI_nil.2 e))];rfl
theorem tsoAx_none {g:Gr} (h0:∀ l,l<3→tsoL g l=[]):tsoAx g=(0,[]):=by
 have e0:cycS g.n (inM g)=[]:=natsI_nil.1 (h0 0 (by decide))
 have e1:atomS g=[]:=h0 1 (by decide)
 have e2:cycS g.n (globM g)=[]:=natsI_nil.1 (h0 2 (by decide))
 unfold tsoAx
 rw [if_neg (by simp [e0]),if_neg (by simp [e1]),if_neg (by simp [e2])]
def keptP (g:Gr) (i j:Nat):Bool:=
 (relM g 0 i j&&isK g 1 i&&!isK g 3 j)||(relM g 0 i j&&!isK g 3 i&&isK g 2 j)||(exB g.n fun f=>relM g 0 i f&&fullB g f&&relM g 0 f j)||(relM g 0 i j&&tiedB g j)||(tiedB g i&&relM g 0 i j)
theorem keptP_in {g:Gr} {i j:Nat}:keptP g i j=keptM g i j:=by
 have hx:(exB g.n fun f=>relM g 0 i f&&fullB g f&&relM g 0 f j)=exB g.n fun f=>fullB g f&&relM g 0 i f&&relM g 0 f j:=by
  congr 1;funext f;cases relM g 0 i f <;> cases fullB g f <;> rfl
 unfold keptP keptM
 rw [hx]
 have k1:isK g 1 i=true→isK g 3 i=false:=fun h=>by unfold isK at *;simp only [beq_iff_eq] at h;rw [h];rfl
 have k2:isK g 2 j=true→isK g 3 j=false:=fun h=>by unfold isK at *;simp only [beq_iff_eq] at h;rw [h];rfl
 cases relM g 0 i j <;> cases h1:isK g 1 i <;> cases h3:isK g 3 i <;> cases h4:isK g 2 j <;> cases h5:isK g 3 j <;> cases tiedB g i <;> cases tiedB g j <;> cases (exB g.n fun f=>fullB g f&&relM g 0 i f&&relM g 0 f j) <;> simp_all
end Go.Proofs.Tst
/-
  A source graph as one of words (plain).
-/
namespace Go.Proofs.Tst
open Go Go.Vc
def mapMode (k m:Int):Int:=if k=3 then (if m=2 then 14 else 15) else if m=1 then 11 else if k=1 then 12 else 13
def pairB (g:Gr) (i:Nat):Bool:=g.rmw.any fun p=>p.1==(i:Int)
def lseB (g:Gr) (lse:Bool) (i:Nat):Bool:=lse&&(g.ev i).kind==1&&(g.ev i).mode==2&&!pairB g i
def mapEv (g:Gr) (lse:Bool) (i:Nat):Ev:={ g.ev i with mode:=if lseB g lse i=true then 16 else mapMode (g.ev i).kind (g.ev i).mode }
def rlxB (g:Gr) (i:Nat):Bool:=(g.ev i).kind==1&&(g.ev i).mode==1
def ctrlTo (g:Gr) (i k:Nat):List (Int×Int):=((List.range k).filter fun b=>relM g 0 i b).map fun (b:Nat)=>((i:Int),(b:Int))
def ctrlOf (g:Gr) (i:Nat):List (Int×Int):=if rlxB g i=true then ctrlTo g i g.n else []
def mapTo (g:Gr) (k:Nat):List (Int×Int):=(List.range k).flatMap (ctrlOf g)
def evsTo (g:Gr) (lse:Bool) (k:Nat):List Ev:=(List.range g.n).map fun j=>if j<k then mapEv g lse j else g.ev j
def mapG (g:Gr) (lse:Bool):Gr:=⟨g.cells,evsTo g lse g.n,g.rf,g.co,g.rmw,[],[],mapTo g g.n⟩
def zeroG:Gr:=⟨0,[],[],[],[],[],[],[]⟩
section
variable {g : Gr} {lse : Bool}
theorem ctrlTo_len {i k:Nat}:(ctrlTo g i k).length≤k:=by
 unfold ctrlTo
 rw [List.length_map]
 exact Nat.le_trans (List.length_filter_le _ _) (by simp)
theorem ctrlOf_len {i:Nat}:(ctrlOf g i).length≤g.n:=by
 unfold ctrlOf
 split
 ·exact ctrlTo_len
 ·simp
theorem mapTo_succ {k:Nat}:mapTo g (k+1)=mapTo g k++ctrlOf g k:=by unfold mapTo;rw [List.range_succ,List.flatMap_append];simp
theorem mapTo_len:∀ {k:Nat},(mapTo g k).length≤k * g.n
 | 0=>by simp [mapTo]
 | k+1=>by
  have ih:=mapTo_len (k:=k)
  have:=ctrlOf_len (g:=g) (i:=k)
  rw [mapTo_succ,List.length_append,Nat.add_mul];omega
@[simp] theorem evsTo_len {k:Nat}:(evsTo g lse k).length=g.n:=by unfold evsTo;simp
theorem evsTo_get {k i:Nat} (hi:i<g.n):(evsTo g lse k)[i]?=some (if i<k then mapEv g lse i else g.ev i):=by
 unfold evsTo
 rw [List.getElem?_map,List.getElem?_range hi];rfl
theorem ev_get {i:Nat} (hi:i<g.n):g.evs[i]?=some (g.ev i):=by
 unfold Gr.ev
 rw [List.getD_eq_getElem?_getD]
 have:i<g.evs.length:=hi
 rw [List.getElem?_eq_getElem this];rfl
theorem evsTo_zero:evsTo g lse 0=g.evs:=by
 apply List.ext_getElem?
 intro i
 by_cases hi:i<g.n
 ·rw [evsTo_get hi,ev_get hi];simp
 ·rw [List.getElem?_eq_none (by simp;omega),List.getElem?_eq_none (by exact Nat.le_of_not_lt hi)]
theorem evsTo_succ {k:Nat} (hk:k<g.n):evsTo g lse (k+1)=(evsTo g lse k).set k (mapEv g lse k):=by
 apply List.ext_getElem?
 intro i
 by_cases hi:i<g.n
 ·rw [evsTo_get hi,List.getElem?_set]
  by_cases he:k=i
  ·subst he;simp [hk]
  ·rw [if_neg he,evsTo_get hi]
   by_cases h1:i<k
   ·rw [if_pos h1,if_pos (by omega)]
   ·rw [if_neg h1,if_neg (by omega)]
 ·rw [List.getElem?_eq_none (by simp;omega),List.getElem?_eq_none (by simp;omega)]
theorem mapG_n:(mapG g lse).n=g.n:=by show (evsTo g lse g.n).length=g.n;simp
end
end Go.Proofs.Tst
/-
  The order of a graph's events: where the graph is sequentially consistent there is one (plain).
-/
namespace Go.Proofs.Tst
open Go Go.Vc
section
variable {n : Nat} {M : Nat → Nat → Bool} {F : Nat → Nat} {S : Nat → Int}
end
/-! ### The order -/
section
variable {g : Gr}
structure PairOk (g:Gr) (a b:Nat):Prop where
 la:a<g.n
 lb:b<g.n
 ka:(g.ev a).kind=1
 kb:(g.ev b).kind=2
 po:relM g 0 a b=true
 nx:∀ i,a<i→i<b→(g.ev i).thread≠(g.ev a).thread
 loc:(g.ev a).loc=(g.ev b).loc
theorem pair_ok (hg:g.good=true) {p:Int×Int} (hp:p∈g.rmw):∃ a b:Nat,p=((a:Int),(b:Int))∧PairOk g a b:=by
 obtain ⟨words,hz⟩:=good_check hg
 obtain ⟨-,-,-,-,-,h6,-⟩:=check_iff.1 hz
 have hok:=(rmw_iff.1 h6).2 p hp
 unfold rmwOk Gr.is Gr.isNext at hok
 simp only [Bool.and_eq_true,decide_eq_true_eq,beq_iff_eq,List.all_eq_true,List.mem_range'_1,Bool.not_eq_true',beq_eq_false_iff_ne] at hok
 obtain ⟨⟨⟨⟨⟨a1,a2⟩,a3⟩,⟨b1,b2⟩,b3⟩,c1,c2⟩,d⟩:=hok
 obtain ⟨x,y⟩:=p
 obtain ⟨a,rfl⟩:∃ a:Nat,x=a:=⟨x.toNat,by dsimp only at a1;omega⟩
 obtain ⟨b,rfl⟩:∃ b:Nat,y=b:=⟨y.toNat,by dsimp only at b1;omega⟩
 simp only [Int.toNat_natCast] at a3 b3 c2 d
 dsimp only at a2 b2 c1
 exact ⟨a,b,rfl,by omega,by omega,a3,b3,c1,fun i h1 h2=>c2 i (by omega),d⟩
end
end Go.Proofs.Tst
/-
  Orders of a graph's events: what is right; the replay (plain).
-/
namespace Go.Proofs.Tst
open Go Go.Vc
section
variable {g : Gr}
theorem ev_init (hg:g.good=true) {i:Nat} (hi:i<g.n):((g.ev i).thread = -1∧(g.ev i).kind=2∧(i:Int)<g.cells∧(g.ev i).loc=(i:Int))∨(0≤(g.ev i).thread∧g.cells≤(i:Int)):=by
 obtain ⟨words,h⟩:=good_check hg
 obtain ⟨hs,h2,h3,-⟩:=check_zero h
 simp only [Gr.size,Bool.and_eq_true,decide_eq_true_eq] at hs
 by_cases hc:i<g.cells.toNat
 ·have:=firstEv_neg _ _ h2 i (by omega) (by omega)
  simp only [Bool.not_eq_false',beq_iff_eq] at this
  left;rw [this];unfold Gr.first;exact ⟨rfl,rfl,by omega,rfl⟩
 ·have:=firstEv_neg _ _ h3 i (by omega) (by omega)
  simp only [Bool.not_eq_false'] at this
  unfold Gr.evOk at this
  simp only [Bool.and_eq_true,decide_eq_true_eq] at this
  right;exact ⟨this.1.1.1,by omega⟩
theorem co_in (hg:g.good=true) {i j:Nat} (h:relM g 2 i j=true):0≤(g.ev j).thread∧(g.ev i).kind=2∧(g.ev j).kind=2∧(g.ev i).loc=(g.ev j).loc∧0≤(g.ev j).loc∧i<g.n∧j<g.n:=by
 obtain ⟨hin,hjn⟩:=ofM_in (n:=g.n) (l:=coPairs g) h
 obtain ⟨c,hcl,hp⟩:=coPairs_list (ofM_mem' (L:=coPairs g) h)
 obtain ⟨hnd,hall,-⟩:=co_list hg hcl
 obtain ⟨x1,x2⟩:=hall _ (lpairs_mem hp).1
 obtain ⟨y1,y2⟩:=hall _ (lpairs_mem hp).2
 have hb:=(good_co hg).2 c hcl
 unfold Gr.coBad at hb
 simp only [Bool.or_eq_false_iff,Bool.not_eq_false',beq_iff_eq,List.all_eq_true,Bool.and_eq_true,decide_eq_true_eq] at hb
 obtain ⟨⟨⟨b1,-⟩,-⟩,b4⟩:=hb
 have hidx:=lpairs_idx b4 hp
 have k1:=(is_lt x1).2.2
 have k2:=(is_lt y1).2.2
 rw [Int.toNat_natCast] at k1 k2 x2 y2
 refine ⟨?_,k1,k2,by omega,by omega,hin,hjn⟩
 rcases ev_init hg hjn with ⟨-,-,-,hl⟩ | ⟨h0,-⟩
 ·rw [y2] at hl
  cases hlist:g.co.getD c [] with
  | nil=>rw [hlist] at b1;cases b1
  | cons a t =>
   rw [hlist] at b1 hidx
   simp at b1
   subst b1
   rw [← hl,List.idxOf_cons_self] at hidx
   omega
 ·exact h0
theorem rf_in (hg:g.good=true) {i j:Nat} (h:relM g 1 i j=true):(g.ev i).kind=2∧(g.ev j).kind=1∧(g.ev i).loc=(g.ev j).loc∧0≤(g.ev i).loc∧0≤(g.ev j).thread∧i<g.n∧j<g.n:=by
 obtain ⟨words,hz⟩:=good_check hg
 obtain ⟨w,r,e,hw,hr,k1,k2,k3,k4⟩:=rf_pair hz (ofM_mem' (L:=g.rf) h)
 simp only [Prod.mk.injEq] at e
 obtain rfl:i=w:=by omega
 obtain rfl:j=r:=by omega
 refine ⟨k1,k2,k3,k4,?_,hw,hr⟩
 rcases ev_init hg hr with ⟨-,hk,-⟩ | ⟨h0,-⟩
 ·rw [hk] at k2;cases k2
 ·exact h0
theorem fr_in {i j:Nat} (hi:i<g.n) (hj:j<g.n):relM g 9 i j=true↔∃ u,u<g.n∧relM g 1 u i=true∧relM g 2 u j=true:=by
 have e:relM g 9 i j=compM g.n (invM (ofM g.n g.rf)) g.n (ofM g.n (coPairs g)) i j:=rfl
 rw [e,compM_in hi hj,exB_true]
 constructor
 ·rintro ⟨k,hk,h⟩
  rw [Bool.and_eq_true] at h
  exact ⟨k,hk,h.1,h.2⟩
 ·rintro ⟨k,hk,h1,h2⟩
  exact ⟨k,hk,by rw [Bool.and_eq_true];exact ⟨h1,h2⟩⟩
def wrB (g:Gr) (c:Int) (x:Nat):Bool:=(g.ev x).kind==2&&(g.ev x).loc==c
theorem wrB_iff {c:Int} {x:Nat}:wrB g c x=true↔(g.ev x).kind=2∧(g.ev x).loc=c:=by unfold wrB;simp
def lastW (g:Gr):List Nat→Int→Option Nat
 | [],_=>none
 | x :: l,c=>match lastW g l c with
  | some w=>some w
  | none=>if wrB g c x then some x else none
theorem lastW_none:∀ {l:List Nat} {c:Int},lastW g l c=none↔∀ x∈l,wrB g c x=false
 | [],c=>by simp [lastW]
 | y :: l,c=>by
  have ih:=lastW_none (l:=l) (c:=c)
  have e:lastW g (y :: l) c=match lastW g l c with | some w=>some w | none=>if wrB g c y then some y else none:=rfl
  rw [e]
  cases h:lastW g l c with
  | some w =>
   dsimp only
   constructor
   ·intro e;cases e
   ·intro hall
    have:=ih.2 fun x hx=>hall x (by simp [hx])
    rw [h] at this;cases this
  | none =>
   dsimp only
   cases hy:wrB g c y
   ·constructor
    ·intro _ x hx
     rcases List.mem_cons.1 hx with rfl | hx
     ·exact hy
     ·exact ih.1 h x hx
    ·intro _;simp
   ·constructor
    ·intro e;simp at e
    ·intro hall
     have:=hall y (by simp)
     rw [hy] at this;cases this
theorem lastW_some:∀ {l:List Nat} {c:Int} {w:Nat},lastW g l c=some w→∃ i:Nat,l[i]?=some w∧wrB g c w=true∧∀ (j y:Nat),i<j→l[j]?=some y→wrB g c y=false
 | [],_,_,h=>by simp [lastW] at h
 | x :: l,c,w,h=>by
  unfold lastW at h
  cases hl:lastW g l c with
  | some v =>
   rw [hl] at h
   simp only [Option.some.injEq] at h
   subst h
   obtain ⟨i,h1,h2,h3⟩:=lastW_some hl
   refine ⟨i+1,by simpa using h1,h2,fun j y hj hy=>?_⟩
   obtain ⟨j,rfl⟩:∃ k,j=k+1:=⟨j - 1,by omega⟩
   exact h3 j y (by omega) (by simpa using hy)
  | none =>
   rw [hl] at h
   cases hw:wrB g c x
   ·simp [hw] at h
   ·simp [hw] at h
    subst h
    refine ⟨0,by simp,hw,fun j y hj hy=>?_⟩
    obtain ⟨j,rfl⟩:∃ k,j=k+1:=⟨j - 1,by omega⟩
    exact lastW_none.1 hl y (List.mem_of_getElem? (i:=j) (by simpa using hy))
def pcM (g:Gr) (i j:Nat):Bool:=relM g 0 i j||relM g 2 i j
def natO (o:Option Nat):Option Int:=o.map fun (w:Nat)=>(w:Int)
def okAt (g:Gr) (m:List Nat) (i x:Nat):Bool:=
 (!decide ((i:Int)<g.cells)||decide ((g.ev x).thread<0))&&(g.rf.all fun p=>!(p.2==(x:Int))||natO (lastW g (m.take i) (g.ev x).loc)==some p.1)&&(g.rmw.all fun p=>!(p.1==(x:Int))||natO m[i+1]? == some p.2)
theorem okAt_iff {m:List Nat} {i x:Nat}:okAt g m i x=true↔((i:Int)<g.cells→(g.ev x).thread<0)∧(∀ p∈g.rf,p.2=(x:Int)→natO (lastW g (m.take i) (g.ev x).loc)=some p.1)∧(∀ p∈g.rmw,p.1=(x:Int)→natO m[i+1]?=some p.2):=by
 unfold okAt
 simp only [Bool.and_eq_true,List.all_eq_true,Bool.or_eq_true,Bool.not_eq_true',decide_eq_false_iff_not,decide_eq_true_eq,beq_eq_false_iff_ne,beq_iff_eq,and_assoc]
 refine and_congr ?_ (and_congr ?_ ?_)
 ·constructor
  ·rintro (h | h) h1
   ·exact absurd h1 h
   ·exact h
  ·intro h
   by_cases h1:(i:Int)<g.cells
   ·exact .inr (h h1)
   ·exact .inl h1
 ·refine forall_congr' fun p=>forall_congr' fun _=>?_
  constructor
  ·rintro (h | h) h1
   ·exact absurd h1 h
   ·exact h
  ·intro h
   by_cases h1:p.2=(x:Int)
   ·exact .inr (h h1)
   ·exact .inl h1
 ·refine forall_congr' fun p=>forall_congr' fun _=>?_
  constructor
  ·rintro (h | h) h1
   ·exact absurd h1 h
   ·exact h
  ·intro h
   by_cases h1:p.1=(x:Int)
   ·exact .inr (h h1)
   ·exact .inl h1
structure Right (g:Gr) (m:List Nat):Prop where
 pre:Pre g.n (pcM g) m
 len:m.length=g.n
 ok:∀ i x,m[i]?=some x→okAt g m i x=true
theorem nodup_at {m:List Nat} (hm:m.Nodup) {i x:Nat} (h:m[i]?=some x):m.idxOf x=i:=by
 obtain ⟨hi,rfl⟩:=List.getElem?_eq_some_iff.1 h
 exact hm.idxOf_getElem i hi
theorem at_nodup {m:List Nat} {x:Nat} (h:x∈m):m[m.idxOf x]?=some x:=by
 have hi:=List.idxOf_lt_length_iff.2 h
 rw [List.getElem?_eq_getElem hi,List.getElem_idxOf]
theorem natO_some {o:Option Nat} {w:Nat}:natO o=some (w:Int)↔o=some w:=by
 unfold natO
 cases o with
 | none=>simp
 | some v=>simp;omega
theorem take_at {m:List Nat} {i j x:Nat}:(m.take i)[j]?=some x↔j<i∧m[j]?=some x:=by
 rw [List.getElem?_take]
 by_cases h:j<i
 ·rw [if_pos h];simp [h]
 ·rw [if_neg h];simp [h]
namespace Right
variable {m : List Nat}
theorem mem (R:Right g m) {x:Nat} (hx:x<g.n):x∈m:=all_in R.pre R.len hx
theorem lt (R:Right g m) {i x:Nat} (h:m[i]?=some x):x<g.n:=R.pre.2.1 x (List.mem_of_getElem? h)
theorem po (R:Right g m) {i j:Nat} (h:relM g 0 i j=true):m.idxOf i<m.idxOf j:=by
 obtain ⟨-,-,h1,h2⟩:=po_th h
 exact R.pre.idx (by omega) (R.mem h2) (by unfold pcM;rw [h];rfl)
theorem co (R:Right g m) (hg:g.good=true) {i j:Nat} (h:relM g 2 i j=true):m.idxOf i<m.idxOf j:=by
 obtain ⟨-,-,-,-,-,h1,h2⟩:=co_in hg h
 exact R.pre.idx h1 (R.mem h2) (by unfold pcM;rw [h];simp)
theorem rd (R:Right g m) (hg:g.good=true) {w x:Nat} (h:relM g 1 w x=true):lastW g (m.take (m.idxOf x)) (g.ev x).loc=some w:=by
 obtain ⟨-,-,-,-,-,h1,h2⟩:=rf_in hg h
 have hok:=(okAt_iff.1 (R.ok _ _ (at_nodup (R.mem h2)))).2.1 ((w:Int),(x:Int)) (ofM_mem' (L:=g.rf) h) rfl
 exact natO_some.1 hok
theorem rf (R:Right g m) (hg:g.good=true) {i j:Nat} (h:relM g 1 i j=true):m.idxOf i<m.idxOf j:=by
 obtain ⟨k,h1,-,-⟩:=lastW_some (R.rd hg h)
 rw [take_at] at h1
 rw [nodup_at R.pre.1 h1.2];exact h1.1
theorem fr (R:Right g m) (hg:g.good=true) {i j:Nat} (hi:i<g.n) (hj:j<g.n) (h:relM g 9 i j=true):m.idxOf i<m.idxOf j:=by
 obtain ⟨u,hu,h1,h2⟩:=(fr_in hi hj).1 h
 have k1:=rf_in hg h1
 have k2:=co_in hg h2
 obtain ⟨k,e1,e2,e3⟩:=lastW_some (R.rd hg h1)
 rw [take_at] at e1
 have ek:=nodup_at R.pre.1 e1.2
 have hc:=R.co hg h2
 apply Classical.byContradiction;intro hlt
 have hne:m.idxOf i≠m.idxOf j:=fun e=>by
  have a:=at_nodup (R.mem hi)
  have b:=at_nodup (R.mem hj)
  rw [e,b] at a
  simp only [Option.some.injEq] at a
  subst a
  rw [k1.2.1] at k2;omega
 have:=e3 (m.idxOf j) j (by omega) (take_at.2 ⟨by omega,at_nodup (R.mem hj)⟩)
 rw [Bool.eq_false_iff] at this
 exact this (wrB_iff.2 ⟨k2.2.2.1,by omega⟩)
theorem all (R:Right g m) (hg:g.good=true) {i j:Nat} (hi:i<g.n) (hj:j<g.n) (hm:allM g i j=true):m.idxOf i<m.idxOf j:=by
 unfold allM at hm
 simp only [Bool.or_eq_true] at hm
 rcases hm with ((hm | hm) | hm) | hm
 ·exact R.po hm
 ·exact R.rf hg hm
 ·exact R.co hg hm
 ·exact R.fr hg hi hj hm
theorem adj (R:Right g m) (hg:g.good=true) {a b:Nat} (h:((a:Int),(b:Int))∈g.rmw):m.idxOf b=m.idxOf a+1:=by
 obtain ⟨a',b',e,P⟩:=pair_ok hg h
 simp only [Prod.mk.injEq] at e
 obtain rfl:a=a':=by omega
 obtain rfl:b=b':=by omega
 have:=(okAt_iff.1 (R.ok _ _ (at_nodup (R.mem P.la)))).2.2 _ h rfl
 exact nodup_at R.pre.1 (natO_some.1 this)
theorem sc (R:Right g m) (hg:g.good=true):(scAx g).1=0:=by
 refine scAx_zero.2 ⟨?_,fun p hp=>?_⟩
 ·rw [cyc_acyc]
  exact acyc_rank (fun i=>m.idxOf i) fun i j hi hj hm=>R.all hg hi hj hm
 ·obtain ⟨a,b,rfl,P⟩:=pair_ok hg hp
  have had:=R.adj hg hp
  cases ht:tornS g ((a:Int),(b:Int))
  ·rfl
  ·unfold tornS at ht
   simp only [Bool.and_eq_true,exB_true,Int.toNat_natCast] at ht
   obtain ⟨-,k,hk,h1,h2⟩:=ht
   have:=R.fr hg P.la hk h1
   have:=R.co hg h2
   omega
end Right
def readOk (g:Gr) (m:List Nat) (i x:Nat):Bool:=!((g.ev x).kind==1)||match lastW g (m.take i) (g.ev x).loc with | some w=>(g.ev w).val==(g.ev x).val | none=>false
theorem Right.reads {m:List Nat} (R:Right g m) (hg:g.good=true) {i x:Nat} (h:m[i]?=some x):readOk g m i x=true:=by
 unfold readOk
 by_cases hk:(g.ev x).kind=1
 rotate_left
 ·simp [hk]
 obtain ⟨words,hz⟩:=good_check hg
 obtain ⟨-,-,-,h4,-⟩:=check_iff.1 hz
 have hr:=rf_iff.1 h4
 have hx:=R.lt h
 have hm:(x:Int)∈g.rf.map (·.2):=by
  rw [hr.1];exact List.mem_map.2 ⟨x,List.mem_filter.2 ⟨List.mem_range'_1.2 ⟨by omega,by omega⟩,by simp [hk]⟩,rfl⟩
 obtain ⟨p,hp,he⟩:=List.mem_map.1 hm
 obtain ⟨w,r,e,hw,hrn,-⟩:=rf_pair hz hp
 subst e
 dsimp only at he
 obtain rfl:r=x:=by omega
 have h1:=R.rd hg ((ofM_mem hw hrn).2 hp:relM g 1 w r=true)
 rw [nodup_at R.pre.1 h] at h1
 rw [h1]
 have:=hr.2 _ hp
 unfold rfOk at this
 simp only [Bool.and_eq_true,Int.toNat_natCast] at this
 simp only [this.2,Bool.or_true]
end
/-! ### The order that is made -/
section
variable {n : Nat} {N : Nat → Nat → Bool} {F : Nat → Nat} {S : Nat → Int}
end
section
variable {g : Gr} {m : List Nat}
end
end Go.Proofs.Tst
/-
  Orders of a graph's events: each write stands at its place of its cell's list (plain).
-/
namespace Go.Proofs.Tst
open Go Go.Vc
section
variable {g : Gr}
end
end Go.Proofs.Tst
/-
  Orders of a graph's events: the forms that the code works out (plain).
-/
namespace Go.Proofs.Tst
open Go Go.Vc
section
variable {g : Gr}
end
end Go.Proofs.Tst
/-
  The graphs of two cells that the laws lay.
-/
namespace Go.Vc
open Go
theorem Fr.wide {l r b:Nat} {h h':Heap} (f:Fr l r h h') (hr:r≤b):Fr 0 b h h':=⟨f.size,fun x hx hc=>f.old x hx (by omega)⟩
end Go.Vc
namespace Go.Proofs.Tst
open Go Go.Vc
def twoG (m:Int) (E:List Ev) (rf:List (Int×Int)) (x y:List Int):Gr:=⟨2,[⟨-1,2,0,0,m⟩,⟨-1,2,1,0,m⟩]++E,rf,[[0]++x,[1]++y],[],[],[],[]⟩
theorem nilP {h:Heap}:Rd 2 h (.slice none ([]:List (Int×Int)).length 0) ([]:List (Int×Int)).length (pairsV []):=⟨rfl,_,_,rfl,.inl rfl⟩
end Go.Proofs.Tst
/-
  law11: says, buffering, passing.
-/
namespace Go.Proofs.Tst
open Go Go.Vc
def bufE (w r:Int):List Ev:=[⟨0,2,0,1,w⟩,⟨0,1,1,0,r⟩,⟨1,2,1,1,w⟩,⟨1,1,0,0,r⟩]
def bufG (m w r:Int):Gr:=twoG m (bufE w r) [(1,3),(0,5)] [2] [4]
end Go.Proofs.Tst
/-
  law10: two, says, buffering, passing, fenced.
-/
namespace Go.Proofs.Tst
open Go Go.Vc
def fenE (m:Int):List Ev:=[⟨0,2,0,1,1⟩,⟨0,3,-1,0,m⟩,⟨0,1,1,0,1⟩,⟨1,2,1,1,1⟩,⟨1,3,-1,0,m⟩,⟨1,1,0,0,1⟩]
def fenG (m:Int):Gr:=twoG 1 (fenE m) [(1,4),(0,7)] [2] [5]
end Go.Proofs.Tst
/-
  Go's library: Clone of events and of pairs; Grow, Concat.
-/
namespace Go.Proofs.Tst
open Go Go.Vc
theorem slices_CloneE {a:Option Addr} {n c:Nat} {xs:List Value} {h:Heap} (hr:Rd 5 h (.slice a n c) n xs) (hoc:xs.all Value.oneCell'=true) (hb:n≤65536) :
  Con Tryd.prog 44 #[.slice a n c] h fun v h'=>Fr 0 0 h h'∧Holder 5 h' v n xs h.size:=by
 refine con_q149 ?_
 have p0:Fr 0 0 h h:=.refl _ _ _
 have hl:=hr.1
 cases a with
 | none =>
  obtain ⟨-,a',c',h1,h2⟩:=hr
  cases h1
  have hn:n=0:=by rcases h2 with h2 | ⟨b,o,h2,-⟩ <;> simp_all
  subst hn
  obtain rfl:xs=[]:=List.eq_nil_of_length_eq_zero (by simpa using hl)
  simp -dsimp only [go_sem]
  exact ⟨p0,.none _ _ _⟩
 | some a =>
  simp -dsimp only [go_sem]
  intro b1 h1 n1
  have n1_z:=n1.az
  replace p0:=p0.F n1.f0
  have r1:=n1.row
  have o1:Holder 5 h1 (.slice (some ⟨b1,0,none⟩) 0 0) 0 [] h.size:=⟨rfl,.inr ⟨b1,0,[],rfl,r1,rfl,by omega⟩⟩
  simp -dsimp only [go_sem,r1.cell]
  refine o1.appendRd (hr.fr p0) (by omega) rfl (by omega) hoc (by omega) fun v2 h2 o2 f2 e2=>?_
  simp -dsimp only [go_sem,r1.cell]
  rw [Nat.zero_add,List.nil_append] at o2
  exact ⟨p0.fresh f2 (by simp [bl,bh];omega),o2⟩
theorem slices_CloneP {a:Option Addr} {n c:Nat} {xs:List Value} {h:Heap} (hr:Rd 2 h (.slice a n c) n xs) (hoc:xs.all Value.oneCell'=true) (hb:n≤65536) :
  Con Tryd.prog 45 #[.slice a n c] h fun v h'=>Fr 0 0 h h'∧Holder 2 h' v n xs h.size:=by
 refine con_q150 ?_
 have p0:Fr 0 0 h h:=.refl _ _ _
 have hl:=hr.1
 cases a with
 | none =>
  obtain ⟨-,a',c',h1,h2⟩:=hr
  cases h1
  have hn:n=0:=by rcases h2 with h2 | ⟨b,o,h2,-⟩ <;> simp_all
  subst hn
  obtain rfl:xs=[]:=List.eq_nil_of_length_eq_zero (by simpa using hl)
  simp -dsimp only [go_sem]
  exact ⟨p0,.none _ _ _⟩
 | some a =>
  simp -dsimp only [go_sem]
  intro b1 h1 n1
  have n1_z:=n1.az
  replace p0:=p0.F n1.f0
  have r1:=n1.row
  have o1:Holder 2 h1 (.slice (some ⟨b1,0,none⟩) 0 0) 0 [] h.size:=⟨rfl,.inr ⟨b1,0,[],rfl,r1,rfl,by omega⟩⟩
  simp -dsimp only [go_sem,r1.cell]
  refine o1.appendRd (hr.fr p0) (by omega) rfl (by omega) hoc (by omega) fun v2 h2 o2 f2 e2=>?_
  simp -dsimp only [go_sem,r1.cell]
  rw [Nat.zero_add,List.nil_append] at o2
  exact ⟨p0.fresh f2 (by simp [bl,bh];omega),o2⟩
theorem zeros_len (z:Value):∀ n,(zeros [z] n).length=n
 | 0=>rfl
 | n+1=>by simp [zeros,zeros_len z n]
theorem slices_Grow {m:Nat} {h:Heap} (hm:m≤65536) :
  Con Tryd.prog 157 #[.slice none 0 0,.int .i64 m] h fun v h'=>Fr 0 0 h h'∧Holder 1 h' v 0 [] h.size:=by
 refine con_q154 ?_
 have p0:Fr 0 0 h h:=.refl _ _ _
 have e1:¬ ((m:Int)<0):=by omega
 have e2:(m:Int) - (((0:Nat):Int) - ((0:Nat):Int))=m:=by omega
 simp -dsimp only [go_sem,e1]
 simp -dsimp (disch:=omega) only [wrap64]
 rw [e2]
 by_cases h0:0<m
 ·have e3:(m:Int) > 0:=by omega
  simp -dsimp only [go_sem,e3]
  simp -dsimp (disch:=omega) only [wrap64]
  simp only [e2]
  refine Chk_intro (by omega) ?_
  intro c' b1 h1 hc n1
  have ew:IntKind.i64.wrap ((m:Int) - IntKind.i64.wrap (((0:Nat):Int) - ((0:Nat):Int)))=m:=by
   rw [show (((0:Nat):Int) - ((0:Nat):Int))=0 by omega,show IntKind.i64.wrap 0=0 from rfl,IntKind.wrap_i64];omega
  rw [ew] at hc n1 ⊢
  rw [Int.toNat_natCast] at hc n1 ⊢
  have r1:=n1.row
  have z1:=n1.size
  have a1:=n1.at_
  have f1:Fr 0 0 h h1:=n1.fr
  simp -dsimp only [go_sem]
  refine Chk_intro (by omega) ?_
  simp -dsimp only [go_sem]
  refine ⟨f1,by simp,.inr ⟨b1,c',_,?_,r1,by simp [zeros_len];omega,by omega⟩⟩
  by_cases hc0:c'=0 <;> simp [hc0]
 ·have e3:¬ (m:Int) > 0:=by omega
  obtain rfl:m=0:=by omega
  simp -dsimp only [go_sem,e3]
  exact ⟨p0,.none _ _ _⟩
def lenTo (L:List (List Value)) (i:Nat):Nat:=(L.take i).flatten.length
theorem cat_at {L:List (List Value)} {i:Nat} {l:List Value} (h:L[i]?=some l):(L.take (i+1)).flatten=(L.take i).flatten++l:=by
 rw [List.take_add_one,h];simp
theorem lenTo_at {L:List (List Value)} {i:Nat} {l:List Value} (h:L[i]?=some l):lenTo L (i+1)=lenTo L i+l.length:=by
 unfold lenTo;rw [cat_at h,List.length_append]
theorem lenTo_le {L:List (List Value)} {i:Nat}:lenTo L i≤L.flatten.length:=by
 unfold lenTo
 conv=>rhs;rw [← List.take_append_drop i L,List.flatten_append,List.length_append]
 omega
set_option maxHeartbeats 1000000 in
theorem slices_Concat {a:Option Addr} {c:Nat} {L:List (List Value)} {h:Heap} (hr:RLc h (.slice a L.length c) L) (hoc:∀ l∈L,l.all Value.oneCell'=true) (hb:L.flatten.length≤65536) (hL:L.length≤65536) :
  Con Tryd.prog 123 #[.slice a L.length c] h fun v h'=>Fr 0 0 h h'∧Holder 1 h' v L.flatten.length L.flatten h.size:=by
 refine con_q152 ?_
 have p0:Fr 0 0 h h:=.refl _ _ _
 obtain ⟨us,hu,hl⟩:=hr
 simp -dsimp only [go_sem]
 refine loop_intro (fun i:Nat=>[(0,.slice a L.length c),(3,.int .i64 (lenTo L i:Nat)),(9,.slice a L.length c),(10,.int .i64 L.length),(11,.int .i64 i)])
  (fun i h'=>i≤L.length∧Fr 0 0 h h') (fun i=>L.length - i) 0 ?_ ?_ ?_
 ·simp [Le,find,lenTo]
 ·exact ⟨by omega,p0⟩
 clear p0
 rintro i h1 ⟨hi,p0⟩
 have p0_z:=p0.size
 by_cases hlt:i<L.length
 ·have e1:((i:Int)<(L.length:Int)):=by omega
  have hq:L[i]?=some L[i]:=List.getElem?_eq_getElem hlt
  obtain ⟨ua,uc,h3,h4,h5⟩:=hl i _ hq
  have h6:=lenTo_at hq
  have h7:=lenTo_le (L:=L) (i:=i+1)
  generalize L[i]=l at hq h3 h4 h5 h6
  simp -dsimp only [go_sem,e1]
  refine (hu.fr p0).idx (by omega) fun b o hc=>?_
  have k1:=hc i _ h3
  have e2:((lenTo L i:Nat):Int)+(l.length:Nat)=(lenTo L (i+1):Nat):=by rw [h6];omega
  have e3:¬ (((lenTo L (i+1):Nat):Int)<0):=by omega
  simp -dsimp only [go_sem,k1]
  simp -dsimp (disch:=omega) only [wrap64]
  rw [e2]
  simp -dsimp only [go_sem,e3]
  simp -dsimp (disch:=omega) only [wrap64]
  exact ⟨i+1,by omega,by simp [Le,find],by omega,p0⟩
 obtain rfl:i=L.length:=by omega
 have hal:lenTo L L.length=L.flatten.length:=by unfold lenTo;rw [List.take_length]
 rw [hal]
 simp -dsimp only [go_sem,Int.lt_irrefl]
 refine call_of (slices_Grow (m:=L.flatten.length) (by omega)) ?_
 rintro v2 h2 ⟨f2,o2⟩
 have f2_z:=f2.size
 replace p0:=p0.F f2
 have zz:h1.size≤h2.size:=f2.size
 have z1:h.size≤h1.size:=by omega
 simp -dsimp only [go_sem]
 have o2':=o2.lower (lo':=h.size) (by omega)
 refine loop_intro (fun s:Nat×Value=>[(6,s.2),(25,.slice a L.length c),(26,.int .i64 L.length),(27,.int .i64 s.1)])
  (fun s h'=>s.1≤L.length∧Fr 0 0 h h'∧Holder 1 h' s.2 (lenTo L s.1) (L.take s.1).flatten h.size) (fun s=>L.length - s.1) (0,v2) ?_ ?_ ?_
 ·simp [Le,find]
 ·exact ⟨by omega,p0,by simpa [lenTo] using o2'⟩
 clear p0 o2 o2'
 rintro ⟨i,v⟩ h3 ⟨hi,p0,ov⟩
 dsimp only at hi ov ⊢
 obtain ⟨va,vc,rfl⟩:=ov.is
 have p0_z:=p0.size
 have ov_l:=ov.top
 by_cases hlt:i<L.length
 ·have e1:((i:Int)<(L.length:Int)):=by omega
  have hq:L[i]?=some L[i]:=List.getElem?_eq_getElem hlt
  obtain ⟨ua,uc,h4,h5,h6⟩:=hl i _ hq
  have h7:=lenTo_at hq
  have h8:=lenTo_le (L:=L) (i:=i+1)
  have h9:=cat_at hq
  have h10:=hoc _ (List.mem_of_getElem? hq)
  generalize L[i]=l at hq h4 h5 h6 h7 h9 h10
  simp -dsimp only [go_sem,e1]
  refine (hu.fr p0).idx (by omega) fun b o hc=>?_
  have k1:=hc i _ h4
  simp -dsimp only [go_sem,k1]
  refine ov.appendRd (h6.fr p0) (by omega) rfl (by omega) h10 (by omega) fun v11 h11 o11 f11 e11=>?_
  simp -dsimp only [go_sem]
  simp -dsimp (disch:=omega) only [wrap64]
  refine ⟨(i+1,v11),by dsimp only;omega,by simp [Le,find],by omega,?_,?_⟩
  ·have:=ov.at_
   exact p0.fresh f11 (by omega)
  ·dsimp only;rw [h9,h7];exact o11
 ·obtain rfl:i=L.length:=by omega
  rw [List.take_length] at ov
  simp -dsimp only [go_sem,Int.lt_irrefl]
  refine ⟨p0,?_⟩
  rw [← hal];exact ov
end Go.Proofs.Tst
