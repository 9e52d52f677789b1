/-
  Contracts of functions that the law reaches: what each returns and what it leaves in memory. Conditions stand in each.
-/
import Derived.Test.YtpocfojbfodlmaaGreatDoorT11
set_option linter.all false
set_option maxRecDepth 2000
/-
  RcDerives.
-/
namespace Go.Proofs.Tst
open Go Go.Vc
theorem lix7 {p:Nat→Value} {i:Nat} (h:i<7):[p 0,p 1,p 2,p 3,p 4,p 5,p 6][i]?=some (p i):=by
 match i,h with
 | 0,_=>rfl
 | 1,_=>rfl
 | 2,_=>rfl
 | 3,_=>rfl
 | 4,_=>rfl
 | 5,_=>rfl
 | 6,_=>rfl
theorem derS_eq {n:Nat} {s:Nat→Value} {x0 x1 x2 x3 x4 x5 x6 x7 x8 x9 x10:Value} (e0:s 0=x0) (e1:s 1=x1) (e2:s 2=x2) (e3:s 3=x3) (e4:s 4=x4) (e5:s 5=x5) (e6:s 6=x6) (e7:s 7=x7) (e8:s 8=x8) (e9:s 9=x9) (e10:s 10=x10):derS n s=[.int .i64 n,x0,.int .i64 n,x1,.int .i64 n,x2,.int .i64 n,x3,.int .i64 n,x4,.int .i64 n,x5,.int .i64 n,x6,.int .i64 n,x7,.int .i64 n,x8,.int .i64 n,x9,.int .i64 n,x10]:=by unfold derS;rw [e0,e1,e2,e3,e4,e5,e6,e7,e8,e9,e10]
set_option maxHeartbeats 4000000 in
theorem c_law10_RcDerives {h:Heap} {q:GV} {g:Gr} (t:GrAt h q g) (ht:TabAt h) :
  Con Tryz.prog 4 #[.agg (gcells q g).toArray] h fun v h'=>Fr 0 0 h h'∧v=.bool true:=by
 refine con_q14 ?_
 have hz:0<h.size:=hcell_lt (ht 0 0 rfl)
 have be:=t.fits.e
 have bo:=t.fits.o
 have hen:g.evs.length=g.n:=rfl
 have p0:Fr 0 0 h h:=.refl _ _ _
 unfold gcells
 simp -dsimp only [go_sem]
 intro b1 h1 n1
 have n1_z:=n1.az
 replace p0:=p0.F n1.f0
 have r1:=n1.row
 simp -dsimp only [go_sem,r1.cell]
 refine call_of (ref8_Copied (t.fr p0) (by omega)) ?_
 rintro v2 h2 ⟨f2,q',rfl,w⟩
 have f2_z:=f2.size
 replace p0:=p0.F f2
 replace r1:=r1.F f2
 have t':=w.at_
 have p2:Fr 0 0 h2 h2:=.refl _ _ _
 unfold gcells
 simp -dsimp only [go_sem,r1.cell]
 intro b3 h3 n3
 have n3_z:=n3.az
 replace p0:=p0.F n3.f0
 replace r1:=r1.F n3.f0
 replace p2:=p2.F n3.f0
 have r3:=n3.row
 simp -dsimp only [go_sem,r1.cell,r3.cell]
 refine Chk_intro (r3.W) fun h4 s4=>?_
 have s4_z:=s4.size
 replace p0:=p0.F s4.fr
 replace r1:=r1.F s4.fr
 replace p2:=p2.F s4.fr
 replace r3:=s4.row r3
 try simp only [cl_int,cl_bool,cl_slice,cl_ptr,putAt_one,zs0,zs1,ivec_set,brow_upd] at r3
 simp -dsimp only [go_sem] at r3
 simp -dsimp only [go_sem,r1.cell,r3.cell]
 refine call_of (rc11_Derive (t'.fr p2) (ht.fr p0 (.inr rfl))) ?_
 rintro v5 h5 ⟨f5,w5⟩
 have f5_z:=f5.size
 replace p0:=p0.F f5
 replace r1:=r1.F f5
 replace p2:=p2.F f5
 replace r3:=r3.F f5
 by_cases hc:(g.check false).1=0
 rotate_left
 ·rw [if_neg hc] at w5
  subst w5
  simp -dsimp only [go_sem,r1.cell,r3.cell]
  intro b4 h6 n6
  have n6_a:=n6.at_
  have n6_z:=n6.size
  replace p0:=p0.F n6.f0
  replace r1:=r1.F n6.f0
  replace p2:=p2.F n6.f0
  replace r3:=r3.F n6.f0
  have r4:=n6.row
  simp -dsimp only [go_sem,r1.cell,r3.cell,r4.cell]
  refine Chk_intro (r4.W) fun h7 s7=>?_
  have s7_z:=s7.size
  replace p0:=p0.F s7.fr
  replace r1:=r1.F s7.fr
  replace p2:=p2.F s7.fr
  replace r3:=r3.F s7.fr
  replace r4:=s7.row r4
  try simp only [cl_int,cl_bool,cl_slice,cl_ptr,putAt_one,zs0,zs1,ivec_set,brow_upd] at r4
  simp -dsimp only [go_sem] at r4
  simp -dsimp only [go_sem,r1.cell,r3.cell,r4.cell]
  refine call_of (rc11_Derive (t'.fr p2) (ht.fr p0 (.inr rfl))) ?_
  rintro v8 h8 ⟨f8,w8⟩
  have f8_z:=f8.size
  replace p0:=p0.F f8
  replace r1:=r1.F f8
  replace p2:=p2.F f8
  replace r3:=r3.F f8
  replace r4:=r4.F f8
  rw [if_neg hc] at w8
  subst w8
  simp -dsimp only [go_sem,r1.cell,r3.cell,r4.cell]
  intro b6 h9 n9
  have n9_a:=n9.at_
  have n9_z:=n9.size
  replace p0:=p0.F n9.f0
  replace r1:=r1.F n9.f0
  replace p2:=p2.F n9.f0
  replace r3:=r3.F n9.f0
  replace r4:=r4.F n9.f0
  have r6:=n9.row
  simp -dsimp only [go_sem,r1.cell,r3.cell,r4.cell,r6.cell]
  refine Chk_intro (r6.W) fun h10 s10=>?_
  have s10_z:=s10.size
  replace p0:=p0.F s10.fr
  replace r1:=r1.F s10.fr
  replace p2:=p2.F s10.fr
  replace r3:=r3.F s10.fr
  replace r4:=r4.F s10.fr
  replace r6:=s10.row r6
  try simp only [cl_int,cl_bool,cl_slice,cl_ptr,putAt_one,zs0,zs1,ivec_set,brow_upd] at r6
  simp -dsimp only [go_sem] at r6
  simp -dsimp only [go_sem,r1.cell,r3.cell,r4.cell,r6.cell]
  refine call_of (ref8_Check (t.fr p0) false) ?_
  rintro v11 h11 ⟨f11,rfl⟩
  have f11_z:=f11.size
  replace p0:=p0.F f11
  replace r1:=r1.F f11
  replace p2:=p2.F f11
  replace r3:=r3.F f11
  replace r4:=r4.F f11
  replace r6:=r6.F f11
  simp -dsimp only [go_sem,bne_f hc,r1.cell,r3.cell,r4.cell,r6.cell]
  refine call_of (law10_lives (ht.fr p0 (.inr rfl))) ?_
  rintro v12 h12 ⟨f12,rfl⟩
  have f12_z:=f12.size
  replace p0:=p0.F f12
  replace r1:=r1.F f12
  replace p2:=p2.F f12
  replace r3:=r3.F f12
  replace r4:=r4.F f12
  replace r6:=r6.F f12
  simp -dsimp only [go_sem,r1.cell,r3.cell,r4.cell,r6.cell]
  exact p0
 rw [if_pos hc] at w5
 obtain ⟨p,A,B,rfl,D,dlo⟩:=w5
 have hn:=(good_n (good_false hc)).1
 have oc:∀ k,k<7→(p k).oneCell'=true:=fun k hk=>by obtain ⟨_,e⟩:=progPtr (D.at_ k hk);rw [e];rfl
 have hcl:∀ k,k<7→cl (p k)=[p k]:=fun k hk=>by obtain ⟨_,e⟩:=progPtr (D.at_ k hk);rw [e];rfl
 have g5:h4.size≤h5.size:=by omega
 have p5:Fr 0 0 h5 h5:=.refl _ _ _
 simp -dsimp only [go_sem,r1.cell,r3.cell]
 intro b4 h6 n6
 have n6_a:=n6.at_
 have n6_z:=n6.size
 replace p0:=p0.F n6.f0
 replace r1:=r1.F n6.f0
 replace p2:=p2.F n6.f0
 replace r3:=r3.F n6.f0
 replace p5:=p5.F n6.f0
 have r4:=n6.row
 simp -dsimp only [go_sem,oc 0 (by decide),oc 1 (by decide),oc 2 (by decide),oc 3 (by decide),oc 4 (by decide),oc 5 (by decide),oc 6 (by decide),r1.cell,r3.cell,r4.cell]
 refine Chk_intro (r4.W) fun h7 s7=>?_
 have s7_z:=s7.size
 replace p0:=p0.F s7.fr
 replace r1:=r1.F s7.fr
 replace p2:=p2.F s7.fr
 replace r3:=r3.F s7.fr
 replace p5:=p5.F s7.fr
 replace r4:=s7.row r4
 try simp only [cl_int,cl_bool,cl_slice,cl_ptr,putAt_one,zs0,zs1,ivec_set,brow_upd] at r4
 replace r4:Rw h7 b4 [p 0,p 1,p 2,p 3,p 4,p 5,p 6]:=r4
 simp -dsimp only [go_sem,r1.cell,r3.cell,r4.cell]
 refine call_of (rc11_Derive (t'.fr p2) (ht.fr p0 (.inr rfl))) ?_
 rintro v8 h8 ⟨f8,w8⟩
 have f8_z:=f8.size
 replace p0:=p0.F f8
 replace r1:=r1.F f8
 replace p2:=p2.F f8
 replace r3:=r3.F f8
 replace p5:=p5.F f8
 replace r4:=r4.F f8
 rw [if_pos hc] at w8
 obtain ⟨p',A',B',rfl,D',dlo'⟩:=w8
 have hg7:h5.size≤h7.size∧b4<h7.size∧h5.size≤b4:=by omega
 have oc':∀ k,k<7→(p' k).oneCell'=true:=fun k hk=>by obtain ⟨_,e⟩:=progPtr (D'.at_ k hk);rw [e];rfl
 have p8:Fr 0 0 h8 h8:=.refl _ _ _
 simp -dsimp only [go_sem,r1.cell,r3.cell,r4.cell]
 intro b6 h9 n9
 have n9_a:=n9.at_
 have n9_z:=n9.size
 replace p0:=p0.F n9.f0
 replace r1:=r1.F n9.f0
 replace p2:=p2.F n9.f0
 replace r3:=r3.F n9.f0
 replace p5:=p5.F n9.f0
 replace r4:=r4.F n9.f0
 replace p8:=p8.F n9.f0
 have r6:=n9.row
 simp -dsimp only [go_sem,oc' 0 (by decide),oc' 1 (by decide),oc' 2 (by decide),oc' 3 (by decide),oc' 4 (by decide),oc' 5 (by decide),oc' 6 (by decide),r1.cell,r3.cell,r4.cell,r6.cell]
 refine Chk_intro (r6.W) fun h10 s10=>?_
 have s10_z:=s10.size
 replace p0:=p0.F s10.fr
 replace r1:=r1.F s10.fr
 replace p2:=p2.F s10.fr
 replace r3:=r3.F s10.fr
 replace p5:=p5.F s10.fr
 replace r4:=r4.F s10.fr
 replace p8:=p8.F s10.fr
 replace r6:=s10.row r6
 try simp only [cl_int,cl_bool,cl_slice,cl_ptr,putAt_one,zs0,zs1,ivec_set,brow_upd] at r6
 replace r6:Rw h10 b6 [p' 0,p' 1,p' 2,p' 3,p' 4,p' 5,p' 6]:=r6
 simp -dsimp only [go_sem,r1.cell,r3.cell,r4.cell,r6.cell]
 refine call_of (ref8_Check (t.fr p0) false) ?_
 rintro v11 h11 ⟨f11,rfl⟩
 have f11_z:=f11.size
 replace p0:=p0.F f11
 replace r1:=r1.F f11
 replace p2:=p2.F f11
 replace r3:=r3.F f11
 replace p5:=p5.F f11
 replace r4:=r4.F f11
 replace p8:=p8.F f11
 replace r6:=r6.F f11
 simp -dsimp only [go_sem,bne_t hc,r1.cell,r3.cell,r4.cell,r6.cell]
 refine call_of (ref10_Derive (t.fr p0) hc) ?_
 rintro v12 h12 ⟨f12,s,rfl,D12⟩
 have f12_z:=f12.size
 replace p0:=p0.F f12
 replace r1:=r1.F f12
 replace p2:=p2.F f12
 replace r3:=r3.F f12
 replace p5:=p5.F f12
 replace r4:=r4.F f12
 replace p8:=p8.F f12
 replace r6:=r6.F f12
 have ex:∀ k,k<11→∃ a c,s k=.slice a g.n c:=fun k hk=>by
  obtain ⟨a,c,e⟩:=(D12 k hk).is
  simp only [Value.agg.injEq,Array.mk.injEq,List.cons.injEq,and_true,true_and] at e
  exact ⟨a,c,e⟩
 obtain ⟨a0,c0,e0⟩:=ex 0 (by decide)
 obtain ⟨a1,c1,e1⟩:=ex 1 (by decide)
 obtain ⟨a2,c2,e2⟩:=ex 2 (by decide)
 obtain ⟨a3,c3,e3⟩:=ex 3 (by decide)
 obtain ⟨a4,c4,e4⟩:=ex 4 (by decide)
 obtain ⟨a5,c5,e5⟩:=ex 5 (by decide)
 obtain ⟨a6,c6,e6⟩:=ex 6 (by decide)
 obtain ⟨a7,c7,e7⟩:=ex 7 (by decide)
 obtain ⟨a8,c8,e8⟩:=ex 8 (by decide)
 obtain ⟨a9,c9,e9⟩:=ex 9 (by decide)
 obtain ⟨a10,c10,e10⟩:=ex 10 (by decide)
 clear ex
 have p12:Fr 0 0 h12 h12:=.refl _ _ _
 unfold derS
 rw [e0,e1,e2,e3,e4,e5,e6,e7,e8,e9,e10]
 simp -dsimp only [go_sem,r1.cell,r3.cell,r4.cell,r6.cell]
 intro b10 h13 n13
 have n13_z:=n13.az
 replace p0:=p0.F n13.f0
 replace r1:=r1.F n13.f0
 replace p2:=p2.F n13.f0
 replace r3:=r3.F n13.f0
 replace p5:=p5.F n13.f0
 replace r4:=r4.F n13.f0
 replace p8:=p8.F n13.f0
 replace r6:=r6.F n13.f0
 replace p12:=p12.F n13.f0
 have r10:=n13.row
 simp -dsimp only [go_sem,r1.cell,r3.cell,r4.cell,r6.cell,r10.cell]
 refine Chk_intro (r10.wr (by simp)) fun h14 s14=>?_
 have y_s14:Fr b10 (b10+1) _ _:=s14.fr
 have q_s14:=s14.row r10
 have y_s14_z:=y_s14.size
 replace p0:=p0.F y_s14
 replace r1:=r1.F y_s14
 replace p2:=p2.F y_s14
 replace r3:=r3.F y_s14
 replace p5:=p5.F y_s14
 replace r4:=r4.F y_s14
 replace p8:=p8.F y_s14
 replace r6:=r6.F y_s14
 replace p12:=p12.F y_s14
 rw [putAt_all] at q_s14
 rotate_left
 ·rfl
 replace r10:Rw h14 b10 [.int .i64 g.n,.slice a0 g.n c0,.int .i64 g.n,.slice a1 g.n c1,.int .i64 g.n,.slice a2 g.n c2,.int .i64 g.n,.slice a3 g.n c3,.int .i64 g.n,.slice a4 g.n c4,.int .i64 g.n,.slice a5 g.n c5,.int .i64 g.n,.slice a6 g.n c6,.int .i64 g.n,.slice a7 g.n c7,.int .i64 g.n,.slice a8 g.n c8,.int .i64 g.n,.slice a9 g.n c9,.int .i64 g.n,.slice a10 g.n c10]:=q_s14
 clear q_s14
 simp -dsimp only [go_sem,bne_self_eq_false,r1.cell,r3.cell,r4.cell,r6.cell,r10.cell]
 refine withC_of [p 0,p 1,p 2,p 3,p 4,p 5,p 6] 0 (fun j x hj=>by rw [r4.cell,Nat.zero_add];exact hj) ?_
 try simp -dsimp only [go_sem,r1.cell,r3.cell,r4.cell,r6.cell,r10.cell]
 refine withC_of [.int .i64 g.n,.slice a0 g.n c0,.int .i64 g.n,.slice a1 g.n c1,.int .i64 g.n,.slice a2 g.n c2,.int .i64 g.n,.slice a3 g.n c3,.int .i64 g.n,.slice a4 g.n c4,.int .i64 g.n,.slice a5 g.n c5,.int .i64 g.n,.slice a6 g.n c6,.int .i64 g.n,.slice a7 g.n c7,.int .i64 g.n,.slice a8 g.n c8,.int .i64 g.n,.slice a9 g.n c9,.int .i64 g.n,.slice a10 g.n c10] 0 (fun j x hj=>by rw [r10.cell,Nat.zero_add];exact hj) ?_
 have gA:∀ k,k<7→h4.size≤A k∧A k≤B k∧B k≤h5.size:=dlo
 have gB:∀ k,k<7→h7.size≤A' k∧A' k≤B' k∧B' k≤h8.size:=dlo'
 have hws:=derS_eq (n:=g.n) e0 e1 e2 e3 e4 e5 e6 e7 e8 e9 e10
 refine call_of ((hws▸c_law10_whole (ht.fr p0 (.inr rfl)) (D.fr p5 (fun k hk=>by omega)) (fun k hk=>(D12 k hk).ra.fr p12))) ?_
 rintro v15 h15 ⟨f15,rfl⟩
 have f15_z:=f15.size
 replace p0:=p0.F f15
 replace r1:=r1.F f15
 replace p2:=p2.F f15
 replace r3:=r3.F f15
 replace p5:=p5.F f15
 replace r4:=r4.F f15
 replace p8:=p8.F f15
 replace r6:=r6.F f15
 replace p12:=p12.F f15
 replace r10:=r10.F f15
 simp -dsimp only [go_sem,hcl 0 (by decide),hcl 1 (by decide),hcl 2 (by decide),hcl 3 (by decide),hcl 4 (by decide),hcl 5 (by decide),hcl 6 (by decide),putAt_one,r1.cell,r3.cell,r4.cell,r6.cell,r10.cell]
 intro b8 h16 n16
 have n16_z:=n16.az
 replace p0:=p0.F n16.f0
 replace r1:=r1.F n16.f0
 replace p2:=p2.F n16.f0
 replace r3:=r3.F n16.f0
 replace p5:=p5.F n16.f0
 replace r4:=r4.F n16.f0
 replace p8:=p8.F n16.f0
 replace r6:=r6.F n16.f0
 replace p12:=p12.F n16.f0
 replace r10:=r10.F n16.f0
 have r8:=n16.row
 have g16:h5.size≤h12.size∧h12.size≤h15.size∧h15.size≤h16.size∧h8.size≤h12.size∧h7.size≤h8.size∧h.size≤h2.size∧h2.size≤h4.size∧b1<h4.size∧b3<h4.size∧h8.size≤b6∧h12.size≤b10∧h15.size≤b8:=by omega
 simp -dsimp only [go_sem,r1.cell,r3.cell,r4.cell,r6.cell,r10.cell,r8.cell]
 replace D:=D.fr p5 (fun k hk=>by omega)
 replace D':=D'.fr p8 (fun k hk=>by omega)
 have E12:∀ k,k<11→RG h11.size h16 (.agg #[.int .i64 g.n,s k]) g.n (docM g k):=fun k hk=>(D12 k hk).fr p12
 have q13:Fr h4.size h5.size h16 h16:=.refl _ _ _
 have k1:=r1
 have k3:=r3
 have k6:=r6
 have k8:=r8
 have k10:=r10
 have P0:=p0
 have P2:=p2
 refine loop_intro (fun i:Nat=>[(1,.pointer (some ⟨b1,0,none⟩)),(3,.pointer (some ⟨b3,0,none⟩)),(6,.pointer (some ⟨b6,0,none⟩)),(10,.pointer (some ⟨b10,0,none⟩)),(11,.slice (some ⟨b8,0,none⟩) 7 7),(12,.int .i64 i)])
  (fun i h'=>i≤7∧Fr h4.size h5.size h16 h'∧∃ M,Der h' A B p g.n M 7) (fun i=>7 - i) 0 ?_ ?_ ?_
 ·simp [Le,find]
 ·exact ⟨by omega,q13,_,D⟩
 clear p0 p2 p5 p8 p12 r1 r3 r4 r6 r8 r10 D q13
 rintro i h17 ⟨hi,q,M,D⟩
 have r8:=k8.fr q (by omega)
 by_cases hlt:i<7
 ·have e1:((i:Int)<((7:Nat):Int)):=by omega
  simp -dsimp only [go_sem,e1,r8.cell]
  have hc':=lix7 (p:=p) hlt
  have ab:=gA _ hlt
  refine loop_intro (fun x:Nat=>[(1,.pointer (some ⟨b1,0,none⟩)),(3,.pointer (some ⟨b3,0,none⟩)),(6,.pointer (some ⟨b6,0,none⟩)),(10,.pointer (some ⟨b10,0,none⟩)),(11,.slice (some ⟨b8,0,none⟩) 7 7),(12,.int .i64 i),(13,.int .i64 x)])
   (fun x h'=>x≤g.n∧Fr h4.size h5.size h16 h'∧∃ M,Der h' A B p g.n M 7) (fun x=>g.n - x) 0 ?_ ?_ ?_
  ·simp [Le,find]
  ·exact ⟨by omega,q,_,D⟩
  clear q D r8 M
  rintro x h18 ⟨hx,q,M,D⟩
  have r8:=k8.fr q (by omega)
  simp -dsimp only [go_sem,e1,hc',r8.cell]
  refine call_of (rel_Len (D.at_ i hlt)) ?_
  rintro v19 h19 ⟨hh,rfl⟩
  obtain rfl:h18=h19:=hh.symm
  by_cases hxl:x<g.n
  ·have e2:((x:Int)<(g.n:Int)):=by omega
   simp -dsimp only [go_sem,e1,e2,hc',r8.cell]
   refine call_of (rel_Has (D.at_ i hlt) x x) ?_
   rintro v20 h20 ⟨hh,rfl⟩
   obtain rfl:h18=h20:=hh.symm
   simp -dsimp only [go_sem,e1,e2,hc',r8.cell]
   refine call_of (rel_Put (D.at_ i hlt) x x _) ?_
   rintro v21 h21 ⟨f21,z21,-,w21⟩
   replace D:=D.put hlt f21 w21
   replace q:=q.freshIn f21 (by omega)
   replace r8:=r8.F f21
   simp -dsimp only [go_sem,e1,e2,hc',r8.cell]
   simp -dsimp (disch:=omega) only [wrap64]
   exact ⟨x+1,by omega,by simp [Le,find],by omega,q,_,D⟩
  ·obtain rfl:x=g.n:=by omega
   simp -dsimp only [go_sem,e1,Int.lt_irrefl,r8.cell]
   simp -dsimp (disch:=omega) only [wrap64]
   exact ⟨i+1,by omega,by simp [Le,find],by omega,q,_,D⟩
 obtain rfl:i=7:=by omega
 simp -dsimp only [go_sem,Int.lt_irrefl]
 have p0:=P0.fresh q (by omega)
 have p2:=P2.fresh q (by omega)
 have r1:=k1.fr q (by omega)
 have r3:=k3.fr q (by omega)
 have r6:=k6.fr q (by omega)
 have r10:=k10.fr q (by omega)
 replace D':=D'.fr q (fun k hk=>by have:=gB k hk;omega)
 have E17:∀ k,k<11→RG h11.size _ (.agg #[.int .i64 g.n,s k]) g.n (docM g k):=fun k hk=>(E12 k hk).fr q (by omega)
 clear r8 q D
 try simp -dsimp only [go_sem,r1.cell,r3.cell,r6.cell,r10.cell]
 refine withC_of [p' 0,p' 1,p' 2,p' 3,p' 4,p' 5,p' 6] 0 (fun j x hj=>by rw [r6.cell,Nat.zero_add];exact hj) ?_
 try simp -dsimp only [go_sem,r1.cell,r3.cell,r6.cell,r10.cell]
 refine withC_of [.int .i64 g.n,.slice a0 g.n c0,.int .i64 g.n,.slice a1 g.n c1,.int .i64 g.n,.slice a2 g.n c2,.int .i64 g.n,.slice a3 g.n c3,.int .i64 g.n,.slice a4 g.n c4,.int .i64 g.n,.slice a5 g.n c5,.int .i64 g.n,.slice a6 g.n c6,.int .i64 g.n,.slice a7 g.n c7,.int .i64 g.n,.slice a8 g.n c8,.int .i64 g.n,.slice a9 g.n c9,.int .i64 g.n,.slice a10 g.n c10] 0 (fun j x hj=>by rw [r10.cell,Nat.zero_add];exact hj) ?_
 have hws:=derS_eq (n:=g.n) e0 e1 e2 e3 e4 e5 e6 e7 e8 e9 e10
 refine call_of ((hws▸c_law10_whole (ht.fr p0 (.inr rfl)) D' (fun k hk=>(E17 k hk).ra))) ?_
 rintro v24 h24 ⟨f24,rfl⟩
 have f24_z:=f24.size
 replace p0:=p0.F f24
 replace p2:=p2.F f24
 replace r1:=r1.F f24
 replace r3:=r3.F f24
 replace r6:=r6.F f24
 replace r10:=r10.F f24
 simp -dsimp only [go_sem,r1.cell,r3.cell,r6.cell,r10.cell]
 refine call_of (ref8_Alike (t'.fr p2) (t.fr p0)) ?_
 rintro v25 h25 ⟨f25,rfl⟩
 have f25_z:=f25.size
 replace p0:=p0.F f25
 replace p2:=p2.F f25
 replace r1:=r1.F f25
 replace r3:=r3.F f25
 replace r6:=r6.F f25
 replace r10:=r10.F f25
 simp -dsimp only [go_sem,r1.cell,r3.cell,r6.cell,r10.cell]
 refine call_of (law10_lives (ht.fr p0 (.inr rfl))) ?_
 rintro v26 h26 ⟨f26,rfl⟩
 have f26_z:=f26.size
 replace p0:=p0.F f26
 replace p2:=p2.F f26
 replace r1:=r1.F f26
 replace r3:=r3.F f26
 replace r6:=r6.F f26
 replace r10:=r10.F f26
 simp -dsimp only [go_sem,r1.cell,r3.cell,r6.cell,r10.cell]
 exact p0
end Go.Proofs.Tst
/-
  RcDerives and its arguments.
-/
namespace Go.Proofs.Tst
end Go.Proofs.Tst
