/-
  Contracts of functions that the law reaches: what each returns and what it leaves in memory. Conditions stand in each.
-/
import Derived.Test.YtpocfojbfodlmaaGreatDoorT10
set_option linter.all false
set_option maxRecDepth 2000
/-
  The document's relations of a source graph: Derive.
-/
namespace Go.Proofs.Tst
open Go Go.Vc
def derS (n:Nat) (s:Nat→Value):List Value:=[.int .i64 n,s 0,.int .i64 n,s 1,.int .i64 n,s 2,.int .i64 n,s 3,.int .i64 n,s 4,.int .i64 n,s 5,.int .i64 n,s 6,.int .i64 n,s 7,.int .i64 n,s 8,.int .i64 n,s 9,.int .i64 n,s 10]
def docM (g:Gr):Nat→Mx
 | 0=>rsM g
 | 1=>swM g
 | 2=>hbM g
 | 3=>ecoM g
 | 4=>scbM g
 | 5=>baseM g
 | 6=>pscfM g
 | 7=>relM g 0
 | 8=>relM g 1
 | 9=>relM g 2
 | _=>relM g 9
set_option maxHeartbeats 16000000 in
theorem ref10_Derive {h:Heap} {q:GV} {g:Gr} (t:GrAt h q g) (hc:(g.check false).1=0) :
  Con Tryz.prog 13 #[.agg (gcells q g).toArray] h fun v h'=>Fr 0 0 h h'∧∃ s:Nat→Value,v=.agg (derS g.n s).toArray∧∀ k,k<11→RG h.size h' (.agg #[.int .i64 g.n,s k]) g.n (docM g k):=by
 refine con_q37 ?_
 have hg:g.good=true:=good_false hc
 have hn:=(good_n hg).1
 have hcl:clampN (g.n:Int)=g.n:=by unfold clampN;omega
 have p0:Fr 0 0 h h:=.refl _ _ _
 have be:=t.fits.e
 have hen:g.evs.length=g.n:=rfl
 have lk_:∀ k,(kindsV g k g.n).length=g.n:=fun k=>kinds_len g k
 have lw_:∀ {m:List Int},(withB g m).length=g.n:=by intro m;unfold withB;simp;rfl
 unfold gcells
 simp -dsimp only [go_sem]
 intro b1 h1 n1
 have n1_z:=n1.az
 replace p0:=p0.F n1.f0
 have r1:=n1.row
 simp -dsimp only [go_sem]
 intro b2 h2 n2
 have n2_z:=n2.az
 replace p0:=p0.F n2.f0
 replace r1:=r1.F n2.f0
 have r2:=n2.row
 have hb12:h.size≤b1∧b1<b2∧b2<h2.size:=by omega
 have dE:VG (b2+1) h2 g.n []:=VG.nil
 try simp -dsimp only [go_sem,evs_len,r1.cell]
 try simp -dsimp only [go_sem,evs_len,r1.cell,r2.cell]
 refine call_of (ref8_Po (t.fr p0) hn) ?_
 rintro v3 h3 ⟨f3,u3⟩
 have f3_z:=f3.size
 replace p0:=p0.F f3
 replace r1:=r1.F f3
 replace r2:=r2.F f3
 have dU3:RG (b2+1) h3 v3 g.n (relM g 0):=RG.congr (M:=relM g 0) ⟨_,_,by omega,u3⟩ (In.rfl')
 obtain ⟨a3,c3,rfl⟩:=dU3.is
 clear u3
 simp -dsimp only [go_sem]
 intro b4 h4 n4
 have n4_z:=n4.az
 replace p0:=p0.F n4.f0
 replace r1:=r1.F n4.f0
 replace r2:=r2.F n4.f0
 have r4:=n4.row
 simp -dsimp only [go_sem]
 refine Chk_intro (r4.W) fun h5 s5=>?_
 have s5_z:=s5.size
 replace p0:=p0.F s5.fr
 replace r1:=r1.F s5.fr
 replace r2:=r2.F s5.fr
 replace r4:=s5.row r4
 try simp only [cl_int,cl_bool,cl_slice,cl_ptr,putAt_one,zs0,zs1,ivec_set,brow_upd] at r4
 have fz5:Fr 0 0 h3 h5:=n4.f0.fresh s5.fr (by omega)
 have dV3:=dU3.fr fz5
 replace r4:Rw h5 b4 [.int .i64 g.n,.slice a3 g.n c3]:=r4
 have ab5:Fr 0 0 h2 h5:=((f3).trans n4.f0).fresh s5.fr (by omega)
 replace dE:=VG.cons r4 dV3 (dE.fr ab5)
 clear dU3 dV3 r4
 have g_5:b1<h5.size∧b2<h5.size∧h.size≤h5.size:=by omega
 simp -dsimp only [go_sem,r1.cell]
 try simp -dsimp only [go_sem,evs_len]
 refine call_of (ref8_Rf (t.fr p0) hn) ?_
 rintro v6 h6 ⟨f6,u6⟩
 have f6_z:=f6.size
 replace p0:=p0.F f6
 replace r1:=r1.F f6
 replace r2:=r2.F f6
 have dU6:RG (b2+1) h6 v6 g.n (relM g 1):=RG.congr (M:=relM g 1) ⟨_,_,by omega,u6⟩ (In.rfl')
 obtain ⟨a6,c6,rfl⟩:=dU6.is
 clear u6
 simp -dsimp only [go_sem]
 intro b7 h7 n7
 have n7_z:=n7.az
 replace p0:=p0.F n7.f0
 replace r1:=r1.F n7.f0
 replace r2:=r2.F n7.f0
 have r7:=n7.row
 simp -dsimp only [go_sem]
 refine Chk_intro (r7.W) fun h8 s8=>?_
 have s8_z:=s8.size
 replace p0:=p0.F s8.fr
 replace r1:=r1.F s8.fr
 replace r2:=r2.F s8.fr
 replace r7:=s8.row r7
 try simp only [cl_int,cl_bool,cl_slice,cl_ptr,putAt_one,zs0,zs1,ivec_set,brow_upd] at r7
 have fz8:Fr 0 0 h6 h8:=n7.f0.fresh s8.fr (by omega)
 have dV6:=dU6.fr fz8
 replace r7:Rw h8 b7 [.int .i64 g.n,.slice a6 g.n c6]:=r7
 have ab8:Fr 0 0 h5 h8:=((f6).trans n7.f0).fresh s8.fr (by omega)
 replace dE:=VG.cons r7 dV6 (dE.fr ab8)
 clear dU6 dV6 r7
 have g_8:b1<h8.size∧b2<h8.size∧h.size≤h8.size:=by omega
 simp -dsimp only [go_sem,r1.cell]
 try simp -dsimp only [go_sem,evs_len]
 refine call_of (ref8_Co (t.fr p0) hg) ?_
 rintro v9 h9 ⟨f9,u9⟩
 have f9_z:=f9.size
 replace p0:=p0.F f9
 replace r1:=r1.F f9
 replace r2:=r2.F f9
 have dU9:RG (b2+1) h9 v9 g.n (relM g 2):=RG.congr (M:=relM g 2) ⟨_,_,by omega,u9⟩ (In.rfl')
 obtain ⟨a9,c9,rfl⟩:=dU9.is
 clear u9
 simp -dsimp only [go_sem]
 intro b10 h10 n10
 have n10_z:=n10.az
 replace p0:=p0.F n10.f0
 replace r1:=r1.F n10.f0
 replace r2:=r2.F n10.f0
 have r10:=n10.row
 simp -dsimp only [go_sem]
 refine Chk_intro (r10.W) fun h11 s11=>?_
 have s11_z:=s11.size
 replace p0:=p0.F s11.fr
 replace r1:=r1.F s11.fr
 replace r2:=r2.F s11.fr
 replace r10:=s11.row r10
 try simp only [cl_int,cl_bool,cl_slice,cl_ptr,putAt_one,zs0,zs1,ivec_set,brow_upd] at r10
 have fz11:Fr 0 0 h9 h11:=n10.f0.fresh s11.fr (by omega)
 have dV9:=dU9.fr fz11
 replace r10:Rw h11 b10 [.int .i64 g.n,.slice a9 g.n c9]:=r10
 have ab11:Fr 0 0 h8 h11:=((f9).trans n10.f0).fresh s11.fr (by omega)
 replace dE:=VG.cons r10 dV9 (dE.fr ab11)
 clear dU9 dV9 r10
 have g_11:b1<h11.size∧b2<h11.size∧h.size≤h11.size:=by omega
 simp -dsimp only [go_sem,r1.cell]
 try simp -dsimp only [go_sem,evs_len]
 refine call_of (ref8_Fr (t.fr p0) hg) ?_
 rintro v12 h12 ⟨f12,u12⟩
 have f12_z:=f12.size
 replace p0:=p0.F f12
 replace r1:=r1.F f12
 replace r2:=r2.F f12
 have dU12:RG (b2+1) h12 v12 g.n (relM g 9):=RG.congr (M:=relM g 9) ⟨_,_,by omega,u12⟩ (In.rfl')
 obtain ⟨a12,c12,rfl⟩:=dU12.is
 clear u12
 simp -dsimp only [go_sem]
 intro b13 h13 n13
 have n13_z:=n13.az
 replace p0:=p0.F n13.f0
 replace r1:=r1.F n13.f0
 replace r2:=r2.F n13.f0
 have r13:=n13.row
 simp -dsimp only [go_sem]
 refine Chk_intro (r13.W) fun h14 s14=>?_
 have s14_z:=s14.size
 replace p0:=p0.F s14.fr
 replace r1:=r1.F s14.fr
 replace r2:=r2.F s14.fr
 replace r13:=s14.row r13
 try simp only [cl_int,cl_bool,cl_slice,cl_ptr,putAt_one,zs0,zs1,ivec_set,brow_upd] at r13
 have fz14:Fr 0 0 h12 h14:=n13.f0.fresh s14.fr (by omega)
 have dV12:=dU12.fr fz14
 replace r13:Rw h14 b13 [.int .i64 g.n,.slice a12 g.n c12]:=r13
 have ab14:Fr 0 0 h11 h14:=((f12).trans n13.f0).fresh s14.fr (by omega)
 replace dE:=VG.cons r13 dV12 (dE.fr ab14)
 clear dU12 dV12 r13
 have g_14:b1<h14.size∧b2<h14.size∧h.size≤h14.size:=by omega
 simp -dsimp only [go_sem,r1.cell]
 try simp -dsimp only [go_sem,evs_len]
 refine call_of (ref8_Rmw (t.fr p0) hn) ?_
 rintro v15 h15 ⟨f15,u15⟩
 have f15_z:=f15.size
 replace p0:=p0.F f15
 replace r1:=r1.F f15
 replace r2:=r2.F f15
 have dU15:RG (b2+1) h15 v15 g.n (relM g 3):=RG.congr (M:=relM g 3) ⟨_,_,by omega,u15⟩ (In.rfl')
 obtain ⟨a15,c15,rfl⟩:=dU15.is
 clear u15
 simp -dsimp only [go_sem]
 intro b16 h16 n16
 have n16_z:=n16.az
 replace p0:=p0.F n16.f0
 replace r1:=r1.F n16.f0
 replace r2:=r2.F n16.f0
 have r16:=n16.row
 simp -dsimp only [go_sem]
 refine Chk_intro (r16.W) fun h17 s17=>?_
 have s17_z:=s17.size
 replace p0:=p0.F s17.fr
 replace r1:=r1.F s17.fr
 replace r2:=r2.F s17.fr
 replace r16:=s17.row r16
 try simp only [cl_int,cl_bool,cl_slice,cl_ptr,putAt_one,zs0,zs1,ivec_set,brow_upd] at r16
 have fz17:Fr 0 0 h15 h17:=n16.f0.fresh s17.fr (by omega)
 have dV15:=dU15.fr fz17
 replace r16:Rw h17 b16 [.int .i64 g.n,.slice a15 g.n c15]:=r16
 have ab17:Fr 0 0 h14 h17:=((f15).trans n16.f0).fresh s17.fr (by omega)
 replace dE:=VG.cons r16 dV15 (dE.fr ab17)
 clear dU15 dV15 r16
 have g_17:b1<h17.size∧b2<h17.size∧h.size≤h17.size:=by omega
 simp -dsimp only [go_sem,r1.cell]
 try simp -dsimp only [go_sem,evs_len]
 refine call_of (ref8_Same (t.fr p0) hg) ?_
 rintro v18 h18 ⟨f18,u18⟩
 have f18_z:=f18.size
 replace p0:=p0.F f18
 replace r1:=r1.F f18
 replace r2:=r2.F f18
 have dU18:RG (b2+1) h18 v18 g.n (relM g 4):=RG.congr (M:=relM g 4) ⟨_,_,by omega,u18⟩ (In.rfl')
 obtain ⟨a18,c18,rfl⟩:=dU18.is
 clear u18
 simp -dsimp only [go_sem]
 intro b19 h19 n19
 have n19_z:=n19.az
 replace p0:=p0.F n19.f0
 replace r1:=r1.F n19.f0
 replace r2:=r2.F n19.f0
 have r19:=n19.row
 simp -dsimp only [go_sem]
 refine Chk_intro (r19.W) fun h20 s20=>?_
 have s20_z:=s20.size
 replace p0:=p0.F s20.fr
 replace r1:=r1.F s20.fr
 replace r2:=r2.F s20.fr
 replace r19:=s20.row r19
 try simp only [cl_int,cl_bool,cl_slice,cl_ptr,putAt_one,zs0,zs1,ivec_set,brow_upd] at r19
 have fz20:Fr 0 0 h18 h20:=n19.f0.fresh s20.fr (by omega)
 have dV18:=dU18.fr fz20
 replace r19:Rw h20 b19 [.int .i64 g.n,.slice a18 g.n c18]:=r19
 have ab20:Fr 0 0 h17 h20:=((f18).trans n19.f0).fresh s20.fr (by omega)
 replace dE:=VG.cons r19 dV18 (dE.fr ab20)
 clear dU18 dV18 r19
 have g_20:b1<h20.size∧b2<h20.size∧h.size≤h20.size:=by omega
 simp -dsimp only [go_sem,r1.cell]
 try simp -dsimp only [go_sem,evs_len]
 refine call_of (ref8_Kinds (t.fr p0) (by omega) 1) ?_
 rintro v21 h21 ⟨f21,o21⟩
 have f21_z:=f21.size
 replace p0:=p0.F f21
 replace r1:=r1.F f21
 replace r2:=r2.F f21
 obtain ⟨a21,c21,rfl⟩:=o21.is
 simp -dsimp only [go_sem,r1.cell]
 replace dE:=dE.fr (f21)
 have dK10:=o21.rd
 clear o21
 try simp -dsimp only [go_sem,evs_len]
 refine call_of (ref8_Kinds (t.fr p0) (by omega) 2) ?_
 rintro v22 h22 ⟨f22,o22⟩
 have f22_z:=f22.size
 replace p0:=p0.F f22
 replace r1:=r1.F f22
 replace r2:=r2.F f22
 obtain ⟨a22,c22,rfl⟩:=o22.is
 simp -dsimp only [go_sem,r1.cell]
 replace dE:=dE.fr (f22)
 have dK11:=o22.rd
 replace dK10:=dK10.fr (f22)
 clear o22
 try simp -dsimp only [go_sem,evs_len]
 refine call_of (ref8_Kinds (t.fr p0) (by omega) 3) ?_
 rintro v23 h23 ⟨f23,o23⟩
 have f23_z:=f23.size
 replace p0:=p0.F f23
 replace r1:=r1.F f23
 replace r2:=r2.F f23
 obtain ⟨a23,c23,rfl⟩:=o23.is
 simp -dsimp only [go_sem,r1.cell]
 replace dE:=dE.fr (f23)
 have dK12:=o23.rd
 replace dK10:=dK10.fr (f23)
 replace dK11:=dK11.fr (f23)
 clear o23
 try simp -dsimp only [go_sem,evs_len]
 refine free_intro [(2,[2],tLB g.n (bothL g.n fun i=>atB (kindsV g 2 g.n) i||atB (kindsV g 3 g.n) i)),(4,[4],tI [3,4,5]),(5,[5],tLB g.n (withB g [3,4,5])),(6,[6],tLB g.n (bothL g.n fun i=>atB (bothL g.n fun i=>atB (kindsV g 2 g.n) i||atB (kindsV g 3 g.n) i) i&&atB (withB g [3,4,5]) i)),(7,[7],tLB g.n (bothL g.n fun i=>atB (bothL g.n fun i=>atB (kindsV g 2 g.n) i||atB (kindsV g 3 g.n) i) i&&atB (withB g [3,4,5]) i))] ?_ rfl ?_ ?_
 ·exact ⟨stLB _ _,stI _,stLB _ _,stLB _ _,stLB _ _,trivial⟩
 ·simp -dsimp only [go_sem,tLB_eq,tI_eq]
  refine ⟨fun h4 f4 V=>?_,fun h4 f4 V=>?_,fun h4 f4 V a4 a2=>?_,fun h4 f4 V a2 a5=>?_,fun h4 f4 V a2 a4 a5 a6=>?_⟩
  ·try simp -dsimp only [go_sem,r1.cell,r2.cell]
   refine call_of (ref8_Either (la:=kindsV g 2 g.n) (lb:=kindsV g 3 g.n) (n:=g.n) (by rw [lk_];exact dK11.fr f4) (by rw [lk_];exact dK12.fr f4) (lk_ _) (lk_ _) (by omega)) ?_
   rintro v h5 ⟨f5,w⟩
   simp -dsimp only [go_sem,tLB_eq]
   exact ⟨f5,w.rd⟩
  ·intro b5 h5 n5
   try simp -dsimp only [go_sem] at n5
   simp -dsimp only [go_sem,tI_eq]
   exact ⟨n5.fr,Rw.rd (s:=1) (n:=3) (c:=3) n5.row rfl⟩
  ·try simp -dsimp only [go_sem,r1.cell,r2.cell]
   refine call_of (ref8_With (t.fr (p0.trans f4)) (by omega) (m:=[3,4,5]) a4 (by simp)) ?_
   rintro v h5 ⟨f5,w⟩
   simp -dsimp only [go_sem,tLB_eq]
   exact ⟨f5,w.rd⟩
  ·try simp -dsimp only [go_sem,r1.cell,r2.cell]
   refine call_of (ref8_Both (la:=bothL g.n fun i=>atB (kindsV g 2 g.n) i||atB (kindsV g 3 g.n) i) (lb:=withB g [3,4,5]) (n:=g.n) (by rw [bothL_len];exact a2) (by rw [lw_];exact a5) (bothL_len _ _) (lw_) (by omega)) ?_
   rintro v h5 ⟨f5,w⟩
   simp -dsimp only [go_sem,tLB_eq]
   exact ⟨f5,w.rd⟩
  ·try simp -dsimp only [go_sem,tLB_eq,r1.cell,r2.cell]
   exact ⟨.refl _ _ _,a6⟩
 intro h24 f24 V _
 simp -dsimp only [go_sem,tLB_eq,tI_eq]
 intro _ _ _ _ a_7
 have dK13:=a_7
 obtain ⟨a24,c24,z_24⟩:=dK13.is
 generalize (V 7).1=w_24 at *
 subst z_24
 have f24_z:=f24.size
 replace p0:=p0.F f24
 replace r1:=r1.F f24
 replace r2:=r2.F f24
 clear a_7
 replace dE:=dE.fr f24
 replace dK10:=dK10.fr f24
 replace dK11:=dK11.fr f24
 replace dK12:=dK12.fr f24
 try simp -dsimp only [go_sem,r1.cell]
 skip
 try simp -dsimp only [go_sem,evs_len]
 refine free_intro [(2,[2],tLB g.n (bothL g.n fun i=>atB (kindsV g 1 g.n) i||atB (kindsV g 3 g.n) i)),(4,[4],tI [2,4,5]),(5,[5],tLB g.n (withB g [2,4,5])),(6,[6],tLB g.n (bothL g.n fun i=>atB (bothL g.n fun i=>atB (kindsV g 1 g.n) i||atB (kindsV g 3 g.n) i) i&&atB (withB g [2,4,5]) i)),(7,[7],tLB g.n (bothL g.n fun i=>atB (bothL g.n fun i=>atB (kindsV g 1 g.n) i||atB (kindsV g 3 g.n) i) i&&atB (withB g [2,4,5]) i))] ?_ rfl ?_ ?_
 ·exact ⟨stLB _ _,stI _,stLB _ _,stLB _ _,stLB _ _,trivial⟩
 ·simp -dsimp only [go_sem,tLB_eq,tI_eq]
  refine ⟨fun h4 f4 V=>?_,fun h4 f4 V=>?_,fun h4 f4 V a4 a2=>?_,fun h4 f4 V a2 a5=>?_,fun h4 f4 V a2 a4 a5 a6=>?_⟩
  ·try simp -dsimp only [go_sem,r1.cell,r2.cell]
   refine call_of (ref8_Either (la:=kindsV g 1 g.n) (lb:=kindsV g 3 g.n) (n:=g.n) (by rw [lk_];exact dK10.fr f4) (by rw [lk_];exact dK12.fr f4) (lk_ _) (lk_ _) (by omega)) ?_
   rintro v h5 ⟨f5,w⟩
   simp -dsimp only [go_sem,tLB_eq]
   exact ⟨f5,w.rd⟩
  ·intro b5 h5 n5
   try simp -dsimp only [go_sem] at n5
   simp -dsimp only [go_sem,tI_eq]
   exact ⟨n5.fr,Rw.rd (s:=1) (n:=3) (c:=3) n5.row rfl⟩
  ·try simp -dsimp only [go_sem,r1.cell,r2.cell]
   refine call_of (ref8_With (t.fr (p0.trans f4)) (by omega) (m:=[2,4,5]) a4 (by simp)) ?_
   rintro v h5 ⟨f5,w⟩
   simp -dsimp only [go_sem,tLB_eq]
   exact ⟨f5,w.rd⟩
  ·try simp -dsimp only [go_sem,r1.cell,r2.cell]
   refine call_of (ref8_Both (la:=bothL g.n fun i=>atB (kindsV g 1 g.n) i||atB (kindsV g 3 g.n) i) (lb:=withB g [2,4,5]) (n:=g.n) (by rw [bothL_len];exact a2) (by rw [lw_];exact a5) (bothL_len _ _) (lw_) (by omega)) ?_
   rintro v h5 ⟨f5,w⟩
   simp -dsimp only [go_sem,tLB_eq]
   exact ⟨f5,w.rd⟩
  ·try simp -dsimp only [go_sem,tLB_eq,r1.cell,r2.cell]
   exact ⟨.refl _ _ _,a6⟩
 intro h25 f25 V _
 simp -dsimp only [go_sem,tLB_eq,tI_eq]
 intro _ _ _ _ a_7
 have dK14:=a_7
 obtain ⟨a25,c25,z_25⟩:=dK14.is
 generalize (V 7).1=w_25 at *
 subst z_25
 have f25_z:=f25.size
 replace p0:=p0.F f25
 replace r1:=r1.F f25
 replace r2:=r2.F f25
 clear a_7
 replace dE:=dE.fr f25
 replace dK10:=dK10.fr f25
 replace dK11:=dK11.fr f25
 replace dK12:=dK12.fr f25
 replace dK13:=dK13.fr f25
 try simp -dsimp only [go_sem,r1.cell]
 skip
 try simp -dsimp only [go_sem,evs_len,r1.cell,r2.cell]
 intro b26 h26 n26
 have n26_z:=n26.az
 replace p0:=p0.F n26.f0
 replace r1:=r1.F n26.f0
 replace r2:=r2.F n26.f0
 have r26:=n26.row
 simp -dsimp only [go_sem]
 refine call_of (ref8_With (t.fr p0) (by omega) (m:=[5]) (Rw.rd (s:=1) (n:=1) (c:=1) r26 rfl) (by simp)) ?_
 rintro v27 h27 ⟨f27,o27⟩
 have f27_z:=f27.size
 replace p0:=p0.F f27
 replace r1:=r1.F f27
 replace r2:=r2.F f27
 replace r26:=r26.F f27
 obtain ⟨a27,c27,rfl⟩:=o27.is
 simp -dsimp only [go_sem]
 replace dE:=dE.fr (n26.f0.trans (f27))
 have dK15:=o27.rd
 replace dK10:=dK10.fr (n26.f0.trans (f27))
 replace dK11:=dK11.fr (n26.f0.trans (f27))
 replace dK12:=dK12.fr (n26.f0.trans (f27))
 replace dK13:=dK13.fr (n26.f0.trans (f27))
 replace dK14:=dK14.fr (n26.f0.trans (f27))
 clear r26 o27
 try simp -dsimp only [go_sem,evs_len,r1.cell,r2.cell]
 refine call_of (ref1_Ident g.n (l:=kindsV g 2 g.n) (by rw [lk_];exact dK11)) ?_
 rintro v28 h28 ⟨f28,u28⟩
 rw [hcl] at u28
 have f28_z:=f28.size
 replace p0:=p0.F f28
 replace r1:=r1.F f28
 replace r2:=r2.F f28
 have dU28:RG (b2+1) h28 v28 g.n (dM (isK g 2)):=RG.congr (M:=idM (kindsV g 2 g.n)) ⟨_,_,by omega,u28⟩ (id2 fun i hi=>atB_kinds hi)
 obtain ⟨a28,c28,rfl⟩:=dU28.is
 clear u28
 simp -dsimp only [go_sem]
 intro b29 h29 n29
 have n29_z:=n29.az
 replace p0:=p0.F n29.f0
 replace r1:=r1.F n29.f0
 replace r2:=r2.F n29.f0
 have r29:=n29.row
 simp -dsimp only [go_sem]
 refine Chk_intro (r29.W) fun h30 s30=>?_
 have s30_z:=s30.size
 replace p0:=p0.F s30.fr
 replace r1:=r1.F s30.fr
 replace r2:=r2.F s30.fr
 replace r29:=s30.row r29
 try simp only [cl_int,cl_bool,cl_slice,cl_ptr,putAt_one,zs0,zs1,ivec_set,brow_upd] at r29
 have fz30:Fr 0 0 h28 h30:=n29.f0.fresh s30.fr (by omega)
 have dV28:=dU28.fr fz30
 replace r29:Rw h30 b29 [.int .i64 g.n,.slice a28 g.n c28]:=r29
 have ab30:Fr 0 0 h27 h30:=((f28).trans n29.f0).fresh s30.fr (by omega)
 replace dE:=VG.cons r29 dV28 (dE.fr ab30)
 replace dK10:=dK10.fr ab30
 replace dK11:=dK11.fr ab30
 replace dK12:=dK12.fr ab30
 replace dK13:=dK13.fr ab30
 replace dK14:=dK14.fr ab30
 replace dK15:=dK15.fr ab30
 clear dU28 dV28 r29
 have g_30:b1<h30.size∧b2<h30.size∧h.size≤h30.size:=by omega
 simp -dsimp only [go_sem]
 try simp -dsimp only [go_sem,evs_len,r1.cell,r2.cell]
 refine call_of (ref1_Ident g.n (l:=kindsV g 1 g.n) (by rw [lk_];exact dK10)) ?_
 rintro v31 h31 ⟨f31,u31⟩
 rw [hcl] at u31
 have f31_z:=f31.size
 replace p0:=p0.F f31
 replace r1:=r1.F f31
 replace r2:=r2.F f31
 have dU31:RG (b2+1) h31 v31 g.n (dM (isK g 1)):=RG.congr (M:=idM (kindsV g 1 g.n)) ⟨_,_,by omega,u31⟩ (id2 fun i hi=>atB_kinds hi)
 obtain ⟨a31,c31,rfl⟩:=dU31.is
 clear u31
 simp -dsimp only [go_sem]
 intro b32 h32 n32
 have n32_z:=n32.az
 replace p0:=p0.F n32.f0
 replace r1:=r1.F n32.f0
 replace r2:=r2.F n32.f0
 have r32:=n32.row
 simp -dsimp only [go_sem]
 refine Chk_intro (r32.W) fun h33 s33=>?_
 have s33_z:=s33.size
 replace p0:=p0.F s33.fr
 replace r1:=r1.F s33.fr
 replace r2:=r2.F s33.fr
 replace r32:=s33.row r32
 try simp only [cl_int,cl_bool,cl_slice,cl_ptr,putAt_one,zs0,zs1,ivec_set,brow_upd] at r32
 have fz33:Fr 0 0 h31 h33:=n32.f0.fresh s33.fr (by omega)
 have dV31:=dU31.fr fz33
 replace r32:Rw h33 b32 [.int .i64 g.n,.slice a31 g.n c31]:=r32
 have ab33:Fr 0 0 h30 h33:=((f31).trans n32.f0).fresh s33.fr (by omega)
 replace dE:=VG.cons r32 dV31 (dE.fr ab33)
 replace dK10:=dK10.fr ab33
 replace dK11:=dK11.fr ab33
 replace dK12:=dK12.fr ab33
 replace dK13:=dK13.fr ab33
 replace dK14:=dK14.fr ab33
 replace dK15:=dK15.fr ab33
 clear dU31 dV31 r32
 have g_33:b1<h33.size∧b2<h33.size∧h.size≤h33.size:=by omega
 simp -dsimp only [go_sem]
 try simp -dsimp only [go_sem,evs_len,r1.cell,r2.cell]
 refine call_of (ref1_Ident g.n (l:=kindsV g 3 g.n) (by rw [lk_];exact dK12)) ?_
 rintro v34 h34 ⟨f34,u34⟩
 rw [hcl] at u34
 have f34_z:=f34.size
 replace p0:=p0.F f34
 replace r1:=r1.F f34
 replace r2:=r2.F f34
 have dU34:RG (b2+1) h34 v34 g.n (dM (isK g 3)):=RG.congr (M:=idM (kindsV g 3 g.n)) ⟨_,_,by omega,u34⟩ (id2 fun i hi=>atB_kinds hi)
 obtain ⟨a34,c34,rfl⟩:=dU34.is
 clear u34
 simp -dsimp only [go_sem]
 intro b35 h35 n35
 have n35_z:=n35.az
 replace p0:=p0.F n35.f0
 replace r1:=r1.F n35.f0
 replace r2:=r2.F n35.f0
 have r35:=n35.row
 simp -dsimp only [go_sem]
 refine Chk_intro (r35.W) fun h36 s36=>?_
 have s36_z:=s36.size
 replace p0:=p0.F s36.fr
 replace r1:=r1.F s36.fr
 replace r2:=r2.F s36.fr
 replace r35:=s36.row r35
 try simp only [cl_int,cl_bool,cl_slice,cl_ptr,putAt_one,zs0,zs1,ivec_set,brow_upd] at r35
 have fz36:Fr 0 0 h34 h36:=n35.f0.fresh s36.fr (by omega)
 have dV34:=dU34.fr fz36
 replace r35:Rw h36 b35 [.int .i64 g.n,.slice a34 g.n c34]:=r35
 have ab36:Fr 0 0 h33 h36:=((f34).trans n35.f0).fresh s36.fr (by omega)
 replace dE:=VG.cons r35 dV34 (dE.fr ab36)
 replace dK10:=dK10.fr ab36
 replace dK11:=dK11.fr ab36
 replace dK12:=dK12.fr ab36
 replace dK13:=dK13.fr ab36
 replace dK14:=dK14.fr ab36
 replace dK15:=dK15.fr ab36
 clear dU34 dV34 r35
 have g_36:b1<h36.size∧b2<h36.size∧h.size≤h36.size:=by omega
 simp -dsimp only [go_sem]
 try simp -dsimp only [go_sem,evs_len,r1.cell,r2.cell]
 refine call_of (ref8_Either (la:=kindsV g 1 g.n) (lb:=kindsV g 2 g.n) (n:=g.n) (by rw [lk_];exact dK10) (by rw [lk_];exact dK11) (lk_ _) (lk_ _) (by omega)) ?_
 rintro v37 h37 ⟨f37,o37⟩
 have f37_z:=f37.size
 replace p0:=p0.F f37
 replace r1:=r1.F f37
 replace r2:=r2.F f37
 obtain ⟨a37,c37,rfl⟩:=o37.is
 simp -dsimp only [go_sem]
 refine call_of (ref8_Both (la:=withB g [5]) (lb:=bothL g.n fun i=>atB (kindsV g 1 g.n) i||atB (kindsV g 2 g.n) i) (n:=g.n) (by rw [lw_];exact dK15.fr (f37)) (by rw [bothL_len];exact o37.rd) (lw_) (bothL_len _ _) (by omega)) ?_
 rintro v38 h38 ⟨f38,o38⟩
 have f38_z:=f38.size
 replace p0:=p0.F f38
 replace r1:=r1.F f38
 replace r2:=r2.F f38
 replace o37:=o37.fr f38 (by have:=o37.at_;omega)
 obtain ⟨a38,c38,rfl⟩:=o38.is
 simp -dsimp only [go_sem]
 refine call_of (ref1_Ident g.n (l:=bothL g.n fun i=>atB (withB g [5]) i&&atB (bothL g.n fun i=>atB (kindsV g 1 g.n) i||atB (kindsV g 2 g.n) i) i) (by rw [bothL_len];exact o38.rd)) ?_
 rintro v39 h39 ⟨f39,u39⟩
 rw [hcl] at u39
 have f39_z:=f39.size
 replace p0:=p0.F f39
 replace r1:=r1.F f39
 replace r2:=r2.F f39
 replace o37:=o37.fr f39 (by have:=o37.at_;omega)
 replace o38:=o38.fr f39 (by have:=o38.at_;omega)
 have dU39:RG (b2+1) h39 v39 g.n (dM (escB g)):=RG.congr (M:=idM (bothL g.n fun i=>atB (withB g [5]) i&&atB (bothL g.n fun i=>atB (kindsV g 1 g.n) i||atB (kindsV g 2 g.n) i) i)) ⟨_,_,by omega,u39⟩ (id2 fun i hi=>esc_at hi)
 obtain ⟨a39,c39,rfl⟩:=dU39.is
 clear u39
 simp -dsimp only [go_sem]
 intro b40 h40 n40
 have n40_z:=n40.az
 replace p0:=p0.F n40.f0
 replace r1:=r1.F n40.f0
 replace r2:=r2.F n40.f0
 have r40:=n40.row
 simp -dsimp only [go_sem]
 refine Chk_intro (r40.W) fun h41 s41=>?_
 have s41_z:=s41.size
 replace p0:=p0.F s41.fr
 replace r1:=r1.F s41.fr
 replace r2:=r2.F s41.fr
 replace r40:=s41.row r40
 try simp only [cl_int,cl_bool,cl_slice,cl_ptr,putAt_one,zs0,zs1,ivec_set,brow_upd] at r40
 have fz41:Fr 0 0 h39 h41:=n40.f0.fresh s41.fr (by omega)
 have dV39:=dU39.fr fz41
 replace r40:Rw h41 b40 [.int .i64 g.n,.slice a39 g.n c39]:=r40
 have ab41:Fr 0 0 h36 h41:=((((f37).trans (f38)).trans (f39)).trans n40.f0).fresh s41.fr (by omega)
 replace dE:=VG.cons r40 dV39 (dE.fr ab41)
 replace dK10:=dK10.fr ab41
 replace dK11:=dK11.fr ab41
 replace dK12:=dK12.fr ab41
 replace dK13:=dK13.fr ab41
 replace dK14:=dK14.fr ab41
 replace dK15:=dK15.fr ab41
 clear o37 o38 dU39 dV39 r40
 have g_41:b1<h41.size∧b2<h41.size∧h.size≤h41.size:=by omega
 simp -dsimp only [go_sem]
 try simp -dsimp only [go_sem,evs_len,r1.cell,r2.cell]
 refine call_of (ref8_Both (la:=withB g [5]) (lb:=kindsV g 3 g.n) (n:=g.n) (by rw [lw_];exact dK15) (by rw [lk_];exact dK12) (lw_) (lk_ _) (by omega)) ?_
 rintro v42 h42 ⟨f42,o42⟩
 have f42_z:=f42.size
 replace p0:=p0.F f42
 replace r1:=r1.F f42
 replace r2:=r2.F f42
 obtain ⟨a42,c42,rfl⟩:=o42.is
 simp -dsimp only [go_sem]
 refine call_of (ref1_Ident g.n (l:=bothL g.n fun i=>atB (withB g [5]) i&&atB (kindsV g 3 g.n) i) (by rw [bothL_len];exact o42.rd)) ?_
 rintro v43 h43 ⟨f43,u43⟩
 rw [hcl] at u43
 have f43_z:=f43.size
 replace p0:=p0.F f43
 replace r1:=r1.F f43
 replace r2:=r2.F f43
 replace o42:=o42.fr f43 (by have:=o42.at_;omega)
 have dU43:RG (b2+1) h43 v43 g.n (dM (fscB g)):=RG.congr (M:=idM (bothL g.n fun i=>atB (withB g [5]) i&&atB (kindsV g 3 g.n) i)) ⟨_,_,by omega,u43⟩ (id2 fun i hi=>fsc_at hi)
 obtain ⟨a43,c43,rfl⟩:=dU43.is
 clear u43
 simp -dsimp only [go_sem]
 intro b44 h44 n44
 have n44_z:=n44.az
 replace p0:=p0.F n44.f0
 replace r1:=r1.F n44.f0
 replace r2:=r2.F n44.f0
 have r44:=n44.row
 simp -dsimp only [go_sem]
 refine Chk_intro (r44.W) fun h45 s45=>?_
 have s45_z:=s45.size
 replace p0:=p0.F s45.fr
 replace r1:=r1.F s45.fr
 replace r2:=r2.F s45.fr
 replace r44:=s45.row r44
 try simp only [cl_int,cl_bool,cl_slice,cl_ptr,putAt_one,zs0,zs1,ivec_set,brow_upd] at r44
 have fz45:Fr 0 0 h43 h45:=n44.f0.fresh s45.fr (by omega)
 have dV43:=dU43.fr fz45
 replace r44:Rw h45 b44 [.int .i64 g.n,.slice a43 g.n c43]:=r44
 have ab45:Fr 0 0 h41 h45:=(((f42).trans (f43)).trans n44.f0).fresh s45.fr (by omega)
 replace dE:=VG.cons r44 dV43 (dE.fr ab45)
 replace dK10:=dK10.fr ab45
 replace dK11:=dK11.fr ab45
 replace dK12:=dK12.fr ab45
 replace dK13:=dK13.fr ab45
 replace dK14:=dK14.fr ab45
 replace dK15:=dK15.fr ab45
 clear o42 dU43 dV43 r44
 have g_45:b1<h45.size∧b2<h45.size∧h.size≤h45.size:=by omega
 simp -dsimp only [go_sem]
 have rY4:=(dE.at_ 10 (x:=(b4,.slice a3 g.n c3,relM g 0)) rfl).1
 have dW4:=(dE.at_ 10 (x:=(b4,.slice a3 g.n c3,relM g 0)) rfl).2
 have dZ4:=dW4.ra
 replace rY4:Rw _ b4 [.int .i64 g.n,.slice a3 g.n c3]:=rY4
 have rY9:=(dE.at_ 5 (x:=(b19,.slice a18 g.n c18,relM g 4)) rfl).1
 have dW9:=(dE.at_ 5 (x:=(b19,.slice a18 g.n c18,relM g 4)) rfl).2
 have dZ9:=dW9.ra
 replace rY9:Rw _ b19 [.int .i64 g.n,.slice a18 g.n c18]:=rY9
 try simp -dsimp only [go_sem,rY4.cell,rY9.cell]
 refine call_of (ref1_Inter (dZ4).choose_spec.choose_spec (dZ9).choose_spec.choose_spec) ?_
 rintro v46 h46 ⟨f46,u46⟩
 rw [Nat.max_self] at u46
 have f46_z:=f46.size
 replace p0:=p0.F f46
 replace r1:=r1.F f46
 replace r2:=r2.F f46
 replace rY4:=rY4.F f46
 replace rY9:=rY9.F f46
 have dU46:RG (b2+1) h46 v46 g.n (plocM g):=RG.congr (M:=interM g.n (relM g 0) g.n (relM g 4)) ⟨_,_,by omega,u46⟩ (ploc_of)
 obtain ⟨a46,c46,rfl⟩:=dU46.is
 clear u46
 simp -dsimp only [go_sem]
 intro b47 h47 n47
 have n47_z:=n47.az
 replace p0:=p0.F n47.f0
 replace r1:=r1.F n47.f0
 replace r2:=r2.F n47.f0
 have r47:=n47.row
 simp -dsimp only [go_sem]
 refine Chk_intro (r47.W) fun h48 s48=>?_
 have s48_z:=s48.size
 replace p0:=p0.F s48.fr
 replace r1:=r1.F s48.fr
 replace r2:=r2.F s48.fr
 replace r47:=s48.row r47
 try simp only [cl_int,cl_bool,cl_slice,cl_ptr,putAt_one,zs0,zs1,ivec_set,brow_upd] at r47
 have fz48:Fr 0 0 h46 h48:=n47.f0.fresh s48.fr (by omega)
 have dV46:=dU46.fr fz48
 replace r47:Rw h48 b47 [.int .i64 g.n,.slice a46 g.n c46]:=r47
 have ab48:Fr 0 0 h45 h48:=((f46).trans n47.f0).fresh s48.fr (by omega)
 replace dE:=VG.cons r47 dV46 (dE.fr ab48)
 replace dK10:=dK10.fr ab48
 replace dK11:=dK11.fr ab48
 replace dK12:=dK12.fr ab48
 replace dK13:=dK13.fr ab48
 replace dK14:=dK14.fr ab48
 replace dK15:=dK15.fr ab48
 clear dU46 dV46 r47 rY4 dZ4 dW4 rY9 dZ9 dW9
 have g_48:b1<h48.size∧b2<h48.size∧h.size≤h48.size:=by omega
 simp -dsimp only [go_sem]
 have rY16:=(dE.at_ 5 (x:=(b29,.slice a28 g.n c28,dM (isK g 2))) rfl).1
 have dW16:=(dE.at_ 5 (x:=(b29,.slice a28 g.n c28,dM (isK g 2))) rfl).2
 have dZ16:=dW16.ra
 replace rY16:Rw _ b29 [.int .i64 g.n,.slice a28 g.n c28]:=rY16
 have rY21:=(dE.at_ 0 (x:=(b47,.slice a46 g.n c46,plocM g)) rfl).1
 have dW21:=(dE.at_ 0 (x:=(b47,.slice a46 g.n c46,plocM g)) rfl).2
 have dZ21:=dW21.ra
 replace rY21:Rw _ b47 [.int .i64 g.n,.slice a46 g.n c46]:=rY21
 have rY5:=(dE.at_ 10 (x:=(b7,.slice a6 g.n c6,relM g 1)) rfl).1
 have dW5:=(dE.at_ 10 (x:=(b7,.slice a6 g.n c6,relM g 1)) rfl).2
 have dZ5:=dW5.ra
 replace rY5:Rw _ b7 [.int .i64 g.n,.slice a6 g.n c6]:=rY5
 have rY8:=(dE.at_ 7 (x:=(b16,.slice a15 g.n c15,relM g 3)) rfl).1
 have dW8:=(dE.at_ 7 (x:=(b16,.slice a15 g.n c15,relM g 3)) rfl).2
 have dZ8:=dW8.ra
 replace rY8:Rw _ b16 [.int .i64 g.n,.slice a15 g.n c15]:=rY8
 try simp -dsimp only [go_sem,rY16.cell,rY21.cell,rY5.cell,rY8.cell]
 refine free_intro [(2,[2],tRR g.n (optM (plocM g))),(6,[6],tCR g.n [relM g 1,relM g 3]),(7,[7],tRR g.n (chM g.n (relM g 1) [relM g 3])),(8,[8],tRR g.n (optM (plusM g.n (chM g.n (relM g 1) [relM g 3])))),(9,[9],tCR g.n [dM (isK g 2),optM (plocM g),dM (isK g 2),optM (plusM g.n (chM g.n (relM g 1) [relM g 3]))]),(10,[10],tRR g.n (chM g.n (dM (isK g 2)) [optM (plocM g),dM (isK g 2),optM (plusM g.n (chM g.n (relM g 1) [relM g 3]))])),(11,[11],tellA [.int .i64 0,.slice none 0 0])] ?_ rfl ?_ ?_
 ·exact ⟨stRR _ _,stCR _ _,stRR _ _,stRR _ _,stCR _ _,stRR _ _,stabA _,trivial⟩
 ·simp -dsimp only [go_sem,tCR_eq,tRR_eq]
  refine ⟨fun h4 f4 V=>?_,fun h4 f4 V=>?_,fun h4 f4 V a6 a2=>?_,fun h4 f4 V a7=>?_,fun h4 f4 V a2 a8=>?_,fun h4 f4 V a9 a8=>?_,fun h4 f4 V=>?_⟩
  ·try simp -dsimp only [go_sem,r1.cell,r2.cell,rY16.cell,rY21.cell,rY5.cell,rY8.cell]
   refine call_of (ref1_Opt (dZ21.fr f4).choose_spec.choose_spec) ?_
   rintro v h5 ⟨f5,w⟩
   simp -dsimp only [go_sem,tRR_eq]
   exact ⟨f5,w⟩
  ·try simp -dsimp only [go_sem,r1.cell,r2.cell,rY16.cell,rY21.cell,rY5.cell,rY8.cell]
   intro b5 h5 n5
   try simp -dsimp only [go_sem] at n5
   simp -dsimp only [go_sem,tCR_eq]
   exact ⟨n5.fr,CR.mk [(.slice a6 g.n c6,relM g 1),(.slice a15 g.n c15,relM g 3)] n5.row (ra_cons (RA.fr (dZ5.fr f4) n5.fr) (ra_cons (RA.fr (dZ8.fr f4) n5.fr) (ra_nil))) (by simp)⟩
  ·try simp -dsimp only [go_sem,r1.cell,r2.cell,rY16.cell,rY21.cell,rY5.cell,rY8.cell]
   refine call_of (ref10_seq a6) ?_
   rintro v h5 ⟨f5,-,w⟩
   simp -dsimp only [go_sem,tRR_eq]
   exact ⟨f5,w (by simp)⟩
  ·try simp -dsimp only [go_sem,r1.cell,r2.cell,rY16.cell,rY21.cell,rY5.cell,rY8.cell]
   refine call_of (ref1_Star (ra_of a7).choose_spec.choose_spec) ?_
   rintro v h5 ⟨f5,w⟩
   simp -dsimp only [go_sem,tRR_eq]
   exact ⟨f5,w⟩
  ·refine Exists.elim (ra_of a2).is fun x2 t2=>Exists.elim t2 fun y2 e2=>?_
   rw [e2] at a2
   refine Exists.elim (ra_of a8).is fun x8 t8=>Exists.elim t8 fun y8 e8=>?_
   rw [e8] at a8
   try simp -dsimp only [go_sem,e2,e8]
   intro b5 h5 n5
   try simp -dsimp only [go_sem] at n5
   simp -dsimp only [go_sem,tCR_eq]
   exact ⟨n5.fr,CR.mk [(.slice a28 g.n c28,dM (isK g 2)),(.slice x2 g.n y2,optM (plocM g)),(.slice a28 g.n c28,dM (isK g 2)),(.slice x8 g.n y8,optM (plusM g.n (chM g.n (relM g 1) [relM g 3])))] n5.row (ra_cons (RA.fr (dZ16.fr f4) n5.fr) (ra_cons (RA.fr (ra_of a2) n5.fr) (ra_cons (RA.fr (dZ16.fr f4) n5.fr) (ra_cons (RA.fr (ra_of a8) n5.fr) (ra_nil))))) (by simp)⟩
  ·try simp -dsimp only [go_sem,r1.cell,r2.cell,rY16.cell,rY21.cell,rY5.cell,rY8.cell]
   refine call_of (ref10_seq a9) ?_
   rintro v h5 ⟨f5,-,w⟩
   simp -dsimp only [go_sem,tRR_eq]
   exact ⟨f5,w (by simp)⟩
  ·intro b5 h5 n5
   simp -dsimp only [go_sem,tellA_eq]
   exact ⟨n5.fr,n5.at_.symm▸rfl,n5.size,n5.at_▸n5.row⟩
 intro h49 f49 V sep
 have q1:=(sep.at_ (L:=[2,6,7,8,9,10,11]) rfl).1 11 (by decide)
 have q3:=(sep.at_ (L:=[2,6,7,8,9,10,11]) rfl).1 10 (by decide)
 have q2:=(sep.at_ (L:=[2,6,7,8,9,10,11]) rfl).2 10 (by decide) 11 (by decide) (by decide)
 clear sep
 simp -dsimp only [go_sem,tCR_eq,tRR_eq,tellA_eq]
 intro _ _ _ _ _ a_10 a_11
 obtain ⟨e_1,z_1,r50⟩:=a_11
 obtain ⟨a49,c49,e_2⟩:=(ra_of a_10).is
 rw [e_2] at a_10
 generalize (V 11).2.1=b50 at *
 generalize (V 10).2.1=l_1 at *
 generalize (V 10).2.2=l_2 at *
 rw [z_1] at q1 q2
 generalize (V 11).1=w_1 at *
 subst e_1
 have f49_z:=f49.size
 replace p0:=p0.F f49
 replace r1:=r1.F f49
 replace r2:=r2.F f49
 replace rY16:=rY16.F f49
 replace rY21:=rY21.F f49
 replace rY5:=rY5.F f49
 replace rY8:=rY8.F f49
 simp -dsimp only [go_sem,e_2]
 refine Chk_intro (r50.W) fun h50 s50=>?_
 have s50_z:=s50.size
 replace p0:=p0.F s50.fr
 replace r1:=r1.F s50.fr
 replace r2:=r2.F s50.fr
 replace r50:=s50.row r50
 try simp only [cl_int,cl_bool,cl_slice,cl_ptr,putAt_one,zs0,zs1,ivec_set,brow_upd] at r50
 have dU49:RG (b2+1) h50 (.agg #[.int .i64 g.n,.slice a49 g.n c49]) g.n (rsM g):=RG.congr (M:=chM g.n (dM (isK g 2)) [optM (plocM g),dM (isK g 2),optM (plusM g.n (chM g.n (relM g 1) [relM g 3]))]) ⟨_,_,by omega,a_10.fr s50.fr (by omega)⟩ (rs_ofD)
 replace r50:Rw h50 b50 [.int .i64 g.n,.slice a49 g.n c49]:=r50
 have ab50:Fr 0 0 h48 h50:=f49.fresh s50.fr (by omega)
 replace dE:=VG.cons r50 dU49 (dE.fr ab50)
 replace dK10:=dK10.fr ab50
 replace dK11:=dK11.fr ab50
 replace dK12:=dK12.fr ab50
 replace dK13:=dK13.fr ab50
 replace dK14:=dK14.fr ab50
 replace dK15:=dK15.fr ab50
 have g_50:b1<h50.size∧b2<h50.size∧h.size≤h50.size:=by omega
 clear r50 dU49 a_10 e_2 z_1 q1 q2 q3 rY16 dZ16 dW16 rY21 dZ21 dW21 rY5 dZ5 dW5 rY8 dZ8 dW8
 simp -dsimp only [go_sem]
 have rY18:=(dE.at_ 4 (x:=(b35,.slice a34 g.n c34,dM (isK g 3))) rfl).1
 have dW18:=(dE.at_ 4 (x:=(b35,.slice a34 g.n c34,dM (isK g 3))) rfl).2
 have dZ18:=dW18.ra
 replace rY18:Rw _ b35 [.int .i64 g.n,.slice a34 g.n c34]:=rY18
 have rY4:=(dE.at_ 12 (x:=(b4,.slice a3 g.n c3,relM g 0)) rfl).1
 have dW4:=(dE.at_ 12 (x:=(b4,.slice a3 g.n c3,relM g 0)) rfl).2
 have dZ4:=dW4.ra
 replace rY4:Rw _ b4 [.int .i64 g.n,.slice a3 g.n c3]:=rY4
 have rY22:=(dE.at_ 0 (x:=(b50,.slice a49 g.n c49,rsM g)) rfl).1
 have dW22:=(dE.at_ 0 (x:=(b50,.slice a49 g.n c49,rsM g)) rfl).2
 have dZ22:=dW22.ra
 replace rY22:Rw _ b50 [.int .i64 g.n,.slice a49 g.n c49]:=rY22
 have rY5:=(dE.at_ 11 (x:=(b7,.slice a6 g.n c6,relM g 1)) rfl).1
 have dW5:=(dE.at_ 11 (x:=(b7,.slice a6 g.n c6,relM g 1)) rfl).2
 have dZ5:=dW5.ra
 replace rY5:Rw _ b7 [.int .i64 g.n,.slice a6 g.n c6]:=rY5
 have rY17:=(dE.at_ 5 (x:=(b32,.slice a31 g.n c31,dM (isK g 1))) rfl).1
 have dW17:=(dE.at_ 5 (x:=(b32,.slice a31 g.n c31,dM (isK g 1))) rfl).2
 have dZ17:=dW17.ra
 replace rY17:Rw _ b32 [.int .i64 g.n,.slice a31 g.n c31]:=rY17
 try simp -dsimp only [go_sem,rY18.cell,rY4.cell,rY22.cell,rY5.cell,rY17.cell]
 refine free_intro [(2,[2],tRR g.n (dM (relB g))),(5,[5],tCR g.n [dM (isK g 3),relM g 0]),(6,[6],tRR g.n (chM g.n (dM (isK g 3)) [relM g 0])),(7,[7],tRR g.n (optM (chM g.n (dM (isK g 3)) [relM g 0]))),(13,[13],tCR g.n [relM g 0,dM (isK g 3)]),(14,[14],tRR g.n (chM g.n (relM g 0) [dM (isK g 3)])),(15,[15],tRR g.n (optM (chM g.n (relM g 0) [dM (isK g 3)]))),(18,[18],tRR g.n (dM (acrB g))),(19,[19],tCR g.n [dM (relB g),optM (chM g.n (dM (isK g 3)) [relM g 0]),rsM g,relM g 1,dM (isK g 1),optM (chM g.n (relM g 0) [dM (isK g 3)]),dM (acrB g)]),(20,[20],tRR g.n (chM g.n (dM (relB g)) [optM (chM g.n (dM (isK g 3)) [relM g 0]),rsM g,relM g 1,dM (isK g 1),optM (chM g.n (relM g 0) [dM (isK g 3)]),dM (acrB g)])),(21,[21],tellA [.int .i64 0,.slice none 0 0])] ?_ rfl ?_ ?_
 ·exact ⟨stRR _ _,stCR _ _,stRR _ _,stRR _ _,stCR _ _,stRR _ _,stRR _ _,stRR _ _,stCR _ _,stRR _ _,stabA _,trivial⟩
 ·simp -dsimp only [go_sem,tCR_eq,tRR_eq]
  refine ⟨fun h4 f4 V=>?_,fun h4 f4 V=>?_,fun h4 f4 V a5 a2=>?_,fun h4 f4 V a6=>?_,fun h4 f4 V=>?_,fun h4 f4 V a13 a7=>?_,fun h4 f4 V a14=>?_,fun h4 f4 V a15=>?_,fun h4 f4 V a2 a7 a15 a18=>?_,fun h4 f4 V a19 a18=>?_,fun h4 f4 V=>?_⟩
  ·try simp -dsimp only [go_sem,r1.cell,r2.cell,rY18.cell,rY4.cell,rY22.cell,rY5.cell,rY17.cell]
   refine call_of (ref1_Ident g.n (l:=bothL g.n fun i=>atB (bothL g.n fun i=>atB (kindsV g 2 g.n) i||atB (kindsV g 3 g.n) i) i&&atB (withB g [3,4,5]) i) (by rw [bothL_len];exact dK13.fr f4)) ?_
   rintro v h5 ⟨f5,w⟩
   rw [hcl] at w
   simp -dsimp only [go_sem,tRR_eq]
   exact ⟨f5,RefAt.congr w (id2 fun i hi=>erel_at hi)⟩
  ·try simp -dsimp only [go_sem,r1.cell,r2.cell,rY18.cell,rY4.cell,rY22.cell,rY5.cell,rY17.cell]
   intro b5 h5 n5
   try simp -dsimp only [go_sem] at n5
   simp -dsimp only [go_sem,tCR_eq]
   exact ⟨n5.fr,CR.mk [(.slice a34 g.n c34,dM (isK g 3)),(.slice a3 g.n c3,relM g 0)] n5.row (ra_cons (RA.fr (dZ18.fr f4) n5.fr) (ra_cons (RA.fr (dZ4.fr f4) n5.fr) (ra_nil))) (by simp)⟩
  ·try simp -dsimp only [go_sem,r1.cell,r2.cell,rY18.cell,rY4.cell,rY22.cell,rY5.cell,rY17.cell]
   refine call_of (ref10_seq a5) ?_
   rintro v h5 ⟨f5,-,w⟩
   simp -dsimp only [go_sem,tRR_eq]
   exact ⟨f5,w (by simp)⟩
  ·try simp -dsimp only [go_sem,r1.cell,r2.cell,rY18.cell,rY4.cell,rY22.cell,rY5.cell,rY17.cell]
   refine call_of (ref1_Opt (ra_of a6).choose_spec.choose_spec) ?_
   rintro v h5 ⟨f5,w⟩
   simp -dsimp only [go_sem,tRR_eq]
   exact ⟨f5,w⟩
  ·try simp -dsimp only [go_sem,r1.cell,r2.cell,rY18.cell,rY4.cell,rY22.cell,rY5.cell,rY17.cell]
   intro b5 h5 n5
   try simp -dsimp only [go_sem] at n5
   simp -dsimp only [go_sem,tCR_eq]
   exact ⟨n5.fr,CR.mk [(.slice a3 g.n c3,relM g 0),(.slice a34 g.n c34,dM (isK g 3))] n5.row (ra_cons (RA.fr (dZ4.fr f4) n5.fr) (ra_cons (RA.fr (dZ18.fr f4) n5.fr) (ra_nil))) (by simp)⟩
  ·try simp -dsimp only [go_sem,r1.cell,r2.cell,rY18.cell,rY4.cell,rY22.cell,rY5.cell,rY17.cell]
   refine call_of (ref10_seq a13) ?_
   rintro v h5 ⟨f5,-,w⟩
   simp -dsimp only [go_sem,tRR_eq]
   exact ⟨f5,w (by simp)⟩
  ·try simp -dsimp only [go_sem,r1.cell,r2.cell,rY18.cell,rY4.cell,rY22.cell,rY5.cell,rY17.cell]
   refine call_of (ref1_Opt (ra_of a14).choose_spec.choose_spec) ?_
   rintro v h5 ⟨f5,w⟩
   simp -dsimp only [go_sem,tRR_eq]
   exact ⟨f5,w⟩
  ·try simp -dsimp only [go_sem,r1.cell,r2.cell,rY18.cell,rY4.cell,rY22.cell,rY5.cell,rY17.cell]
   refine call_of (ref1_Ident g.n (l:=bothL g.n fun i=>atB (bothL g.n fun i=>atB (kindsV g 1 g.n) i||atB (kindsV g 3 g.n) i) i&&atB (withB g [2,4,5]) i) (by rw [bothL_len];exact dK14.fr f4)) ?_
   rintro v h5 ⟨f5,w⟩
   rw [hcl] at w
   simp -dsimp only [go_sem,tRR_eq]
   exact ⟨f5,RefAt.congr w (id2 fun i hi=>eacq_at hi)⟩
  ·refine Exists.elim (ra_of a2).is fun x2 t2=>Exists.elim t2 fun y2 e2=>?_
   rw [e2] at a2
   refine Exists.elim (ra_of a7).is fun x7 t7=>Exists.elim t7 fun y7 e7=>?_
   rw [e7] at a7
   refine Exists.elim (ra_of a15).is fun x15 t15=>Exists.elim t15 fun y15 e15=>?_
   rw [e15] at a15
   refine Exists.elim (ra_of a18).is fun x18 t18=>Exists.elim t18 fun y18 e18=>?_
   rw [e18] at a18
   try simp -dsimp only [go_sem,e2,e7,e15,e18]
   intro b5 h5 n5
   try simp -dsimp only [go_sem] at n5
   simp -dsimp only [go_sem,tCR_eq]
   exact ⟨n5.fr,CR.mk [(.slice x2 g.n y2,dM (relB g)),(.slice x7 g.n y7,optM (chM g.n (dM (isK g 3)) [relM g 0])),(.slice a49 g.n c49,rsM g),(.slice a6 g.n c6,relM g 1),(.slice a31 g.n c31,dM (isK g 1)),(.slice x15 g.n y15,optM (chM g.n (relM g 0) [dM (isK g 3)])),(.slice x18 g.n y18,dM (acrB g))] n5.row (ra_cons (RA.fr (ra_of a2) n5.fr) (ra_cons (RA.fr (ra_of a7) n5.fr) (ra_cons (RA.fr (dZ22.fr f4) n5.fr) (ra_cons (RA.fr (dZ5.fr f4) n5.fr) (ra_cons (RA.fr (dZ17.fr f4) n5.fr) (ra_cons (RA.fr (ra_of a15) n5.fr) (ra_cons (RA.fr (ra_of a18) n5.fr) (ra_nil)))))))) (by simp)⟩
  ·try simp -dsimp only [go_sem,r1.cell,r2.cell,rY18.cell,rY4.cell,rY22.cell,rY5.cell,rY17.cell]
   refine call_of (ref10_seq a19) ?_
   rintro v h5 ⟨f5,-,w⟩
   simp -dsimp only [go_sem,tRR_eq]
   exact ⟨f5,w (by simp)⟩
  ·intro b5 h5 n5
   simp -dsimp only [go_sem,tellA_eq]
   exact ⟨n5.fr,n5.at_.symm▸rfl,n5.size,n5.at_▸n5.row⟩
 intro h51 f51 V sep
 have q1:=(sep.at_ (L:=[2,5,6,7,13,14,15,18,19,20,21]) rfl).1 21 (by decide)
 have q3:=(sep.at_ (L:=[2,5,6,7,13,14,15,18,19,20,21]) rfl).1 20 (by decide)
 have q2:=(sep.at_ (L:=[2,5,6,7,13,14,15,18,19,20,21]) rfl).2 20 (by decide) 21 (by decide) (by decide)
 clear sep
 simp -dsimp only [go_sem,tCR_eq,tRR_eq,tellA_eq]
 intro _ _ _ _ _ _ _ _ _ a_20 a_21
 obtain ⟨e_1,z_1,r52⟩:=a_21
 obtain ⟨a51,c51,e_2⟩:=(ra_of a_20).is
 rw [e_2] at a_20
 generalize (V 21).2.1=b52 at *
 generalize (V 20).2.1=l_1 at *
 generalize (V 20).2.2=l_2 at *
 rw [z_1] at q1 q2
 generalize (V 21).1=w_1 at *
 subst e_1
 have f51_z:=f51.size
 replace p0:=p0.F f51
 replace r1:=r1.F f51
 replace r2:=r2.F f51
 replace rY18:=rY18.F f51
 replace rY4:=rY4.F f51
 replace rY22:=rY22.F f51
 replace rY5:=rY5.F f51
 replace rY17:=rY17.F f51
 simp -dsimp only [go_sem,e_2]
 refine Chk_intro (r52.W) fun h52 s52=>?_
 have s52_z:=s52.size
 replace p0:=p0.F s52.fr
 replace r1:=r1.F s52.fr
 replace r2:=r2.F s52.fr
 replace r52:=s52.row r52
 try simp only [cl_int,cl_bool,cl_slice,cl_ptr,putAt_one,zs0,zs1,ivec_set,brow_upd] at r52
 have dU51:RG (b2+1) h52 (.agg #[.int .i64 g.n,.slice a51 g.n c51]) g.n (swM g):=RG.congr (M:=chM g.n (dM (relB g)) [optM (chM g.n (dM (isK g 3)) [relM g 0]),rsM g,relM g 1,dM (isK g 1),optM (chM g.n (relM g 0) [dM (isK g 3)]),dM (acrB g)]) ⟨_,_,by omega,a_20.fr s52.fr (by omega)⟩ (sw_of')
 replace r52:Rw h52 b52 [.int .i64 g.n,.slice a51 g.n c51]:=r52
 have ab52:Fr 0 0 h50 h52:=f51.fresh s52.fr (by omega)
 replace dE:=VG.cons r52 dU51 (dE.fr ab52)
 replace dK10:=dK10.fr ab52
 replace dK11:=dK11.fr ab52
 replace dK12:=dK12.fr ab52
 replace dK13:=dK13.fr ab52
 replace dK14:=dK14.fr ab52
 replace dK15:=dK15.fr ab52
 have g_52:b1<h52.size∧b2<h52.size∧h.size≤h52.size:=by omega
 clear r52 dU51 a_20 e_2 z_1 q1 q2 q3 rY18 dZ18 dW18 rY4 dZ4 dW4 rY22 dZ22 dW22 rY5 dZ5 dW5 rY17 dZ17 dW17
 simp -dsimp only [go_sem]
 have rY4:=(dE.at_ 13 (x:=(b4,.slice a3 g.n c3,relM g 0)) rfl).1
 have dW4:=(dE.at_ 13 (x:=(b4,.slice a3 g.n c3,relM g 0)) rfl).2
 have dZ4:=dW4.ra
 replace rY4:Rw _ b4 [.int .i64 g.n,.slice a3 g.n c3]:=rY4
 have rY23:=(dE.at_ 0 (x:=(b52,.slice a51 g.n c51,swM g)) rfl).1
 have dW23:=(dE.at_ 0 (x:=(b52,.slice a51 g.n c51,swM g)) rfl).2
 have dZ23:=dW23.ra
 replace rY23:Rw _ b52 [.int .i64 g.n,.slice a51 g.n c51]:=rY23
 try simp -dsimp only [go_sem,rY4.cell,rY23.cell]
 intro b53 h53 n53
 have n53_z:=n53.az
 replace p0:=p0.F n53.f0
 replace r1:=r1.F n53.f0
 replace r2:=r2.F n53.f0
 replace rY4:=rY4.F n53.f0
 replace rY23:=rY23.F n53.f0
 have r53:=n53.row
 simp -dsimp only [go_sem]
 refine call_of (ref10_any (CR.mk [(.slice a3 g.n c3,relM g 0),(.slice a51 g.n c51,swM g)] r53 (ra_cons (dZ4.fr n53.f0) (ra_cons (dZ23.fr n53.f0) (ra_nil))) (by simp))) ?_
 rintro v54 h54 ⟨f54,-,u54⟩
 have f54_z:=f54.size
 replace p0:=p0.F f54
 replace r1:=r1.F f54
 replace r2:=r2.F f54
 replace rY4:=rY4.F f54
 replace rY23:=rY23.F f54
 replace r53:=r53.F f54
 have dU54:RG (b2+1) h54 v54 g.n (oM g.n (relM g 0) [swM g]):=⟨_,_,by omega,u54 (by simp)⟩
 obtain ⟨a54,c54,rfl⟩:=dU54.is
 clear u54
 simp -dsimp only [go_sem]
 refine call_of (ref1_Plus (dU54.ra).choose_spec.choose_spec) ?_
 rintro v55 h55 ⟨f55,u55⟩
 have f55_z:=f55.size
 replace p0:=p0.F f55
 replace r1:=r1.F f55
 replace r2:=r2.F f55
 replace rY4:=rY4.F f55
 replace rY23:=rY23.F f55
 replace r53:=r53.F f55
 replace dU54:=dU54.fr f55
 have dU55:RG (b2+1) h55 v55 g.n (hbM g):=RG.congr (M:=plusM g.n (oM g.n (relM g 0) [swM g])) ⟨_,_,by omega,u55⟩ (hb_ofD)
 obtain ⟨a55,c55,rfl⟩:=dU55.is
 clear u55
 simp -dsimp only [go_sem]
 intro b56 h56 n56
 have n56_z:=n56.az
 replace p0:=p0.F n56.f0
 replace r1:=r1.F n56.f0
 replace r2:=r2.F n56.f0
 have r56:=n56.row
 simp -dsimp only [go_sem]
 refine Chk_intro (r56.W) fun h57 s57=>?_
 have s57_z:=s57.size
 replace p0:=p0.F s57.fr
 replace r1:=r1.F s57.fr
 replace r2:=r2.F s57.fr
 replace r56:=s57.row r56
 try simp only [cl_int,cl_bool,cl_slice,cl_ptr,putAt_one,zs0,zs1,ivec_set,brow_upd] at r56
 have fz57:Fr 0 0 h55 h57:=n56.f0.fresh s57.fr (by omega)
 have dV55:=dU55.fr fz57
 replace r56:Rw h57 b56 [.int .i64 g.n,.slice a55 g.n c55]:=r56
 have ab57:Fr 0 0 h52 h57:=(((n53.f0.trans (f54)).trans (f55)).trans n56.f0).fresh s57.fr (by omega)
 replace dE:=VG.cons r56 dV55 (dE.fr ab57)
 replace dK10:=dK10.fr ab57
 replace dK11:=dK11.fr ab57
 replace dK12:=dK12.fr ab57
 replace dK13:=dK13.fr ab57
 replace dK14:=dK14.fr ab57
 replace dK15:=dK15.fr ab57
 clear r53 dU54 dU55 dV55 r56 rY4 dZ4 dW4 rY23 dZ23 dW23
 have g_57:b1<h57.size∧b2<h57.size∧h.size≤h57.size:=by omega
 simp -dsimp only [go_sem]
 have rY5:=(dE.at_ 13 (x:=(b7,.slice a6 g.n c6,relM g 1)) rfl).1
 have dW5:=(dE.at_ 13 (x:=(b7,.slice a6 g.n c6,relM g 1)) rfl).2
 have dZ5:=dW5.ra
 replace rY5:Rw _ b7 [.int .i64 g.n,.slice a6 g.n c6]:=rY5
 have rY6:=(dE.at_ 12 (x:=(b10,.slice a9 g.n c9,relM g 2)) rfl).1
 have dW6:=(dE.at_ 12 (x:=(b10,.slice a9 g.n c9,relM g 2)) rfl).2
 have dZ6:=dW6.ra
 replace rY6:Rw _ b10 [.int .i64 g.n,.slice a9 g.n c9]:=rY6
 have rY7:=(dE.at_ 11 (x:=(b13,.slice a12 g.n c12,relM g 9)) rfl).1
 have dW7:=(dE.at_ 11 (x:=(b13,.slice a12 g.n c12,relM g 9)) rfl).2
 have dZ7:=dW7.ra
 replace rY7:Rw _ b13 [.int .i64 g.n,.slice a12 g.n c12]:=rY7
 try simp -dsimp only [go_sem,rY5.cell,rY6.cell,rY7.cell]
 intro b58 h58 n58
 have n58_z:=n58.az
 replace p0:=p0.F n58.f0
 replace r1:=r1.F n58.f0
 replace r2:=r2.F n58.f0
 replace rY5:=rY5.F n58.f0
 replace rY6:=rY6.F n58.f0
 replace rY7:=rY7.F n58.f0
 have r58:=n58.row
 simp -dsimp only [go_sem]
 refine call_of (ref10_any (CR.mk [(.slice a6 g.n c6,relM g 1),(.slice a9 g.n c9,relM g 2),(.slice a12 g.n c12,relM g 9)] r58 (ra_cons (dZ5.fr n58.f0) (ra_cons (dZ6.fr n58.f0) (ra_cons (dZ7.fr n58.f0) (ra_nil)))) (by simp))) ?_
 rintro v59 h59 ⟨f59,-,u59⟩
 have f59_z:=f59.size
 replace p0:=p0.F f59
 replace r1:=r1.F f59
 replace r2:=r2.F f59
 replace rY5:=rY5.F f59
 replace rY6:=rY6.F f59
 replace rY7:=rY7.F f59
 replace r58:=r58.F f59
 have dU59:RG (b2+1) h59 v59 g.n (oM g.n (relM g 1) [relM g 2,relM g 9]):=⟨_,_,by omega,u59 (by simp)⟩
 obtain ⟨a59,c59,rfl⟩:=dU59.is
 clear u59
 simp -dsimp only [go_sem]
 refine call_of (ref1_Plus (dU59.ra).choose_spec.choose_spec) ?_
 rintro v60 h60 ⟨f60,u60⟩
 have f60_z:=f60.size
 replace p0:=p0.F f60
 replace r1:=r1.F f60
 replace r2:=r2.F f60
 replace rY5:=rY5.F f60
 replace rY6:=rY6.F f60
 replace rY7:=rY7.F f60
 replace r58:=r58.F f60
 replace dU59:=dU59.fr f60
 have dU60:RG (b2+1) h60 v60 g.n (ecoM g):=RG.congr (M:=plusM g.n (oM g.n (relM g 1) [relM g 2,relM g 9])) ⟨_,_,by omega,u60⟩ (eco_ofD)
 obtain ⟨a60,c60,rfl⟩:=dU60.is
 clear u60
 simp -dsimp only [go_sem]
 intro b61 h61 n61
 have n61_z:=n61.az
 replace p0:=p0.F n61.f0
 replace r1:=r1.F n61.f0
 replace r2:=r2.F n61.f0
 have r61:=n61.row
 simp -dsimp only [go_sem]
 refine Chk_intro (r61.W) fun h62 s62=>?_
 have s62_z:=s62.size
 replace p0:=p0.F s62.fr
 replace r1:=r1.F s62.fr
 replace r2:=r2.F s62.fr
 replace r61:=s62.row r61
 try simp only [cl_int,cl_bool,cl_slice,cl_ptr,putAt_one,zs0,zs1,ivec_set,brow_upd] at r61
 have fz62:Fr 0 0 h60 h62:=n61.f0.fresh s62.fr (by omega)
 have dV60:=dU60.fr fz62
 replace r61:Rw h62 b61 [.int .i64 g.n,.slice a60 g.n c60]:=r61
 have ab62:Fr 0 0 h57 h62:=(((n58.f0.trans (f59)).trans (f60)).trans n61.f0).fresh s62.fr (by omega)
 replace dE:=VG.cons r61 dV60 (dE.fr ab62)
 replace dK10:=dK10.fr ab62
 replace dK11:=dK11.fr ab62
 replace dK12:=dK12.fr ab62
 replace dK13:=dK13.fr ab62
 replace dK14:=dK14.fr ab62
 replace dK15:=dK15.fr ab62
 clear r58 dU59 dU60 dV60 r61 rY5 dZ5 dW5 rY6 dZ6 dW6 rY7 dZ7 dW7
 have g_62:b1<h62.size∧b2<h62.size∧h.size≤h62.size:=by omega
 simp -dsimp only [go_sem]
 have rY4:=(dE.at_ 15 (x:=(b4,.slice a3 g.n c3,relM g 0)) rfl).1
 have dW4:=(dE.at_ 15 (x:=(b4,.slice a3 g.n c3,relM g 0)) rfl).2
 have dZ4:=dW4.ra
 replace rY4:Rw _ b4 [.int .i64 g.n,.slice a3 g.n c3]:=rY4
 have rY9:=(dE.at_ 10 (x:=(b19,.slice a18 g.n c18,relM g 4)) rfl).1
 have dW9:=(dE.at_ 10 (x:=(b19,.slice a18 g.n c18,relM g 4)) rfl).2
 have dZ9:=dW9.ra
 replace rY9:Rw _ b19 [.int .i64 g.n,.slice a18 g.n c18]:=rY9
 try simp -dsimp only [go_sem,rY4.cell,rY9.cell]
 refine call_of (ref1_Minus (dZ4).choose_spec.choose_spec (dZ9).choose_spec.choose_spec) ?_
 rintro v63 h63 ⟨f63,u63⟩
 rw [Nat.max_self] at u63
 have f63_z:=f63.size
 replace p0:=p0.F f63
 replace r1:=r1.F f63
 replace r2:=r2.F f63
 replace rY4:=rY4.F f63
 replace rY9:=rY9.F f63
 have dU63:RG (b2+1) h63 v63 g.n (otherM g):=RG.congr (M:=minusM g.n (relM g 0) g.n (relM g 4)) ⟨_,_,by omega,u63⟩ (other_of)
 obtain ⟨a63,c63,rfl⟩:=dU63.is
 clear u63
 simp -dsimp only [go_sem]
 intro b64 h64 n64
 have n64_z:=n64.az
 replace p0:=p0.F n64.f0
 replace r1:=r1.F n64.f0
 replace r2:=r2.F n64.f0
 have r64:=n64.row
 simp -dsimp only [go_sem]
 refine Chk_intro (r64.W) fun h65 s65=>?_
 have s65_z:=s65.size
 replace p0:=p0.F s65.fr
 replace r1:=r1.F s65.fr
 replace r2:=r2.F s65.fr
 replace r64:=s65.row r64
 try simp only [cl_int,cl_bool,cl_slice,cl_ptr,putAt_one,zs0,zs1,ivec_set,brow_upd] at r64
 have fz65:Fr 0 0 h63 h65:=n64.f0.fresh s65.fr (by omega)
 have dV63:=dU63.fr fz65
 replace r64:Rw h65 b64 [.int .i64 g.n,.slice a63 g.n c63]:=r64
 have ab65:Fr 0 0 h62 h65:=((f63).trans n64.f0).fresh s65.fr (by omega)
 replace dE:=VG.cons r64 dV63 (dE.fr ab65)
 replace dK10:=dK10.fr ab65
 replace dK11:=dK11.fr ab65
 replace dK12:=dK12.fr ab65
 replace dK13:=dK13.fr ab65
 replace dK14:=dK14.fr ab65
 replace dK15:=dK15.fr ab65
 clear dU63 dV63 r64 rY4 dZ4 dW4 rY9 dZ9 dW9
 have g_65:b1<h65.size∧b2<h65.size∧h.size≤h65.size:=by omega
 simp -dsimp only [go_sem]
 have rY4:=(dE.at_ 16 (x:=(b4,.slice a3 g.n c3,relM g 0)) rfl).1
 have dW4:=(dE.at_ 16 (x:=(b4,.slice a3 g.n c3,relM g 0)) rfl).2
 have dZ4:=dW4.ra
 replace rY4:Rw _ b4 [.int .i64 g.n,.slice a3 g.n c3]:=rY4
 have rY26:=(dE.at_ 0 (x:=(b64,.slice a63 g.n c63,otherM g)) rfl).1
 have dW26:=(dE.at_ 0 (x:=(b64,.slice a63 g.n c63,otherM g)) rfl).2
 have dZ26:=dW26.ra
 replace rY26:Rw _ b64 [.int .i64 g.n,.slice a63 g.n c63]:=rY26
 have rY24:=(dE.at_ 2 (x:=(b56,.slice a55 g.n c55,hbM g)) rfl).1
 have dW24:=(dE.at_ 2 (x:=(b56,.slice a55 g.n c55,hbM g)) rfl).2
 have dZ24:=dW24.ra
 replace rY24:Rw _ b56 [.int .i64 g.n,.slice a55 g.n c55]:=rY24
 have rY9:=(dE.at_ 11 (x:=(b19,.slice a18 g.n c18,relM g 4)) rfl).1
 have dW9:=(dE.at_ 11 (x:=(b19,.slice a18 g.n c18,relM g 4)) rfl).2
 have dZ9:=dW9.ra
 replace rY9:Rw _ b19 [.int .i64 g.n,.slice a18 g.n c18]:=rY9
 have rY6:=(dE.at_ 14 (x:=(b10,.slice a9 g.n c9,relM g 2)) rfl).1
 have dW6:=(dE.at_ 14 (x:=(b10,.slice a9 g.n c9,relM g 2)) rfl).2
 have dZ6:=dW6.ra
 replace rY6:Rw _ b10 [.int .i64 g.n,.slice a9 g.n c9]:=rY6
 have rY7:=(dE.at_ 13 (x:=(b13,.slice a12 g.n c12,relM g 9)) rfl).1
 have dW7:=(dE.at_ 13 (x:=(b13,.slice a12 g.n c12,relM g 9)) rfl).2
 have dZ7:=dW7.ra
 replace rY7:Rw _ b13 [.int .i64 g.n,.slice a12 g.n c12]:=rY7
 try simp -dsimp only [go_sem,rY4.cell,rY26.cell,rY24.cell,rY9.cell,rY6.cell,rY7.cell]
 refine free_intro [(4,[4],tCR g.n [otherM g,hbM g,otherM g]),(5,[5],tRR g.n (chM g.n (otherM g) [hbM g,otherM g])),(8,[8],tRR g.n (interM g.n (hbM g) g.n (relM g 4))),(11,[11],tCR g.n [relM g 0,chM g.n (otherM g) [hbM g,otherM g],interM g.n (hbM g) g.n (relM g 4),relM g 2,relM g 9]),(12,[12],tRR g.n (oM g.n (relM g 0) [chM g.n (otherM g) [hbM g,otherM g],interM g.n (hbM g) g.n (relM g 4),relM g 2,relM g 9])),(13,[13],tellA [.int .i64 0,.slice none 0 0])] ?_ rfl ?_ ?_
 ·exact ⟨stCR _ _,stRR _ _,stRR _ _,stCR _ _,stRR _ _,stabA _,trivial⟩
 ·simp -dsimp only [go_sem,tCR_eq,tRR_eq]
  refine ⟨fun h4 f4 V=>?_,fun h4 f4 V a4=>?_,fun h4 f4 V a5=>?_,fun h4 f4 V a5 a8=>?_,fun h4 f4 V a11 a8=>?_,fun h4 f4 V=>?_⟩
  ·try simp -dsimp only [go_sem,r1.cell,r2.cell,rY4.cell,rY26.cell,rY24.cell,rY9.cell,rY6.cell,rY7.cell]
   intro b5 h5 n5
   try simp -dsimp only [go_sem] at n5
   simp -dsimp only [go_sem,tCR_eq]
   exact ⟨n5.fr,CR.mk [(.slice a63 g.n c63,otherM g),(.slice a55 g.n c55,hbM g),(.slice a63 g.n c63,otherM g)] n5.row (ra_cons (RA.fr (dZ26.fr f4) n5.fr) (ra_cons (RA.fr (dZ24.fr f4) n5.fr) (ra_cons (RA.fr (dZ26.fr f4) n5.fr) (ra_nil)))) (by simp)⟩
  ·try simp -dsimp only [go_sem,r1.cell,r2.cell,rY4.cell,rY26.cell,rY24.cell,rY9.cell,rY6.cell,rY7.cell]
   refine call_of (ref10_seq a4) ?_
   rintro v h5 ⟨f5,-,w⟩
   simp -dsimp only [go_sem,tRR_eq]
   exact ⟨f5,w (by simp)⟩
  ·try simp -dsimp only [go_sem,r1.cell,r2.cell,rY4.cell,rY26.cell,rY24.cell,rY9.cell,rY6.cell,rY7.cell]
   refine call_of (ref1_Inter (dZ24.fr f4).choose_spec.choose_spec (dZ9.fr f4).choose_spec.choose_spec) ?_
   rintro v h5 ⟨f5,w⟩
   rw [Nat.max_self] at w
   simp -dsimp only [go_sem,tRR_eq]
   exact ⟨f5,w⟩
  ·refine Exists.elim (ra_of a5).is fun x5 t5=>Exists.elim t5 fun y5 e5=>?_
   rw [e5] at a5
   refine Exists.elim (ra_of a8).is fun x8 t8=>Exists.elim t8 fun y8 e8=>?_
   rw [e8] at a8
   try simp -dsimp only [go_sem,e5,e8]
   intro b5 h5 n5
   try simp -dsimp only [go_sem] at n5
   simp -dsimp only [go_sem,tCR_eq]
   exact ⟨n5.fr,CR.mk [(.slice a3 g.n c3,relM g 0),(.slice x5 g.n y5,chM g.n (otherM g) [hbM g,otherM g]),(.slice x8 g.n y8,interM g.n (hbM g) g.n (relM g 4)),(.slice a9 g.n c9,relM g 2),(.slice a12 g.n c12,relM g 9)] n5.row (ra_cons (RA.fr (dZ4.fr f4) n5.fr) (ra_cons (RA.fr (ra_of a5) n5.fr) (ra_cons (RA.fr (ra_of a8) n5.fr) (ra_cons (RA.fr (dZ6.fr f4) n5.fr) (ra_cons (RA.fr (dZ7.fr f4) n5.fr) (ra_nil)))))) (by simp)⟩
  ·try simp -dsimp only [go_sem,r1.cell,r2.cell,rY4.cell,rY26.cell,rY24.cell,rY9.cell,rY6.cell,rY7.cell]
   refine call_of (ref10_any a11) ?_
   rintro v h5 ⟨f5,-,w⟩
   simp -dsimp only [go_sem,tRR_eq]
   exact ⟨f5,w (by simp)⟩
  ·intro b5 h5 n5
   simp -dsimp only [go_sem,tellA_eq]
   exact ⟨n5.fr,n5.at_.symm▸rfl,n5.size,n5.at_▸n5.row⟩
 intro h66 f66 V sep
 have q1:=(sep.at_ (L:=[4,5,8,11,12,13]) rfl).1 13 (by decide)
 have q3:=(sep.at_ (L:=[4,5,8,11,12,13]) rfl).1 12 (by decide)
 have q2:=(sep.at_ (L:=[4,5,8,11,12,13]) rfl).2 12 (by decide) 13 (by decide) (by decide)
 clear sep
 simp -dsimp only [go_sem,tCR_eq,tRR_eq,tellA_eq]
 intro _ _ _ _ a_12 a_13
 obtain ⟨e_1,z_1,r67⟩:=a_13
 obtain ⟨a66,c66,e_2⟩:=(ra_of a_12).is
 rw [e_2] at a_12
 generalize (V 13).2.1=b67 at *
 generalize (V 12).2.1=l_1 at *
 generalize (V 12).2.2=l_2 at *
 rw [z_1] at q1 q2
 generalize (V 13).1=w_1 at *
 subst e_1
 have f66_z:=f66.size
 replace p0:=p0.F f66
 replace r1:=r1.F f66
 replace r2:=r2.F f66
 replace rY4:=rY4.F f66
 replace rY26:=rY26.F f66
 replace rY24:=rY24.F f66
 replace rY9:=rY9.F f66
 replace rY6:=rY6.F f66
 replace rY7:=rY7.F f66
 simp -dsimp only [go_sem,e_2]
 refine Chk_intro (r67.W) fun h67 s67=>?_
 have s67_z:=s67.size
 replace p0:=p0.F s67.fr
 replace r1:=r1.F s67.fr
 replace r2:=r2.F s67.fr
 replace r67:=s67.row r67
 try simp only [cl_int,cl_bool,cl_slice,cl_ptr,putAt_one,zs0,zs1,ivec_set,brow_upd] at r67
 have dU66:RG (b2+1) h67 (.agg #[.int .i64 g.n,.slice a66 g.n c66]) g.n (scbM g):=RG.congr (M:=oM g.n (relM g 0) [chM g.n (otherM g) [hbM g,otherM g],interM g.n (hbM g) g.n (relM g 4),relM g 2,relM g 9]) ⟨_,_,by omega,a_12.fr s67.fr (by omega)⟩ (scb_ofD)
 replace r67:Rw h67 b67 [.int .i64 g.n,.slice a66 g.n c66]:=r67
 have ab67:Fr 0 0 h65 h67:=f66.fresh s67.fr (by omega)
 replace dE:=VG.cons r67 dU66 (dE.fr ab67)
 replace dK10:=dK10.fr ab67
 replace dK11:=dK11.fr ab67
 replace dK12:=dK12.fr ab67
 replace dK13:=dK13.fr ab67
 replace dK14:=dK14.fr ab67
 replace dK15:=dK15.fr ab67
 have g_67:b1<h67.size∧b2<h67.size∧h.size≤h67.size:=by omega
 clear r67 dU66 a_12 e_2 z_1 q1 q2 q3 rY4 dZ4 dW4 rY26 dZ26 dW26 rY24 dZ24 dW24 rY9 dZ9 dW9 rY6 dZ6 dW6 rY7 dZ7 dW7
 simp -dsimp only [go_sem]
 have rY19:=(dE.at_ 8 (x:=(b40,.slice a39 g.n c39,dM (escB g))) rfl).1
 have dW19:=(dE.at_ 8 (x:=(b40,.slice a39 g.n c39,dM (escB g))) rfl).2
 have dZ19:=dW19.ra
 replace rY19:Rw _ b40 [.int .i64 g.n,.slice a39 g.n c39]:=rY19
 have rY20:=(dE.at_ 7 (x:=(b44,.slice a43 g.n c43,dM (fscB g))) rfl).1
 have dW20:=(dE.at_ 7 (x:=(b44,.slice a43 g.n c43,dM (fscB g))) rfl).2
 have dZ20:=dW20.ra
 replace rY20:Rw _ b44 [.int .i64 g.n,.slice a43 g.n c43]:=rY20
 have rY24:=(dE.at_ 3 (x:=(b56,.slice a55 g.n c55,hbM g)) rfl).1
 have dW24:=(dE.at_ 3 (x:=(b56,.slice a55 g.n c55,hbM g)) rfl).2
 have dZ24:=dW24.ra
 replace rY24:Rw _ b56 [.int .i64 g.n,.slice a55 g.n c55]:=rY24
 try simp -dsimp only [go_sem,rY19.cell,rY20.cell,rY24.cell]
 refine free_intro [(3,[3],tRR g.n (optM (hbM g))),(4,[4],tCR g.n [dM (fscB g),optM (hbM g)]),(5,[5],tRR g.n (chM g.n (dM (fscB g)) [optM (hbM g)])),(6,[6],tCR g.n [dM (escB g),chM g.n (dM (fscB g)) [optM (hbM g)]]),(7,[7],tRR g.n (oM g.n (dM (escB g)) [chM g.n (dM (fscB g)) [optM (hbM g)]])),(8,[8],tellA [.int .i64 0,.slice none 0 0])] ?_ rfl ?_ ?_
 ·exact ⟨stRR _ _,stCR _ _,stRR _ _,stCR _ _,stRR _ _,stabA _,trivial⟩
 ·simp -dsimp only [go_sem,tCR_eq,tRR_eq]
  refine ⟨fun h4 f4 V=>?_,fun h4 f4 V a3=>?_,fun h4 f4 V a4 a3=>?_,fun h4 f4 V a5=>?_,fun h4 f4 V a6 a5=>?_,fun h4 f4 V=>?_⟩
  ·try simp -dsimp only [go_sem,r1.cell,r2.cell,rY19.cell,rY20.cell,rY24.cell]
   refine call_of (ref1_Opt (dZ24.fr f4).choose_spec.choose_spec) ?_
   rintro v h5 ⟨f5,w⟩
   simp -dsimp only [go_sem,tRR_eq]
   exact ⟨f5,w⟩
  ·refine Exists.elim (ra_of a3).is fun x3 t3=>Exists.elim t3 fun y3 e3=>?_
   rw [e3] at a3
   try simp -dsimp only [go_sem,e3]
   intro b5 h5 n5
   try simp -dsimp only [go_sem] at n5
   simp -dsimp only [go_sem,tCR_eq]
   exact ⟨n5.fr,CR.mk [(.slice a43 g.n c43,dM (fscB g)),(.slice x3 g.n y3,optM (hbM g))] n5.row (ra_cons (RA.fr (dZ20.fr f4) n5.fr) (ra_cons (RA.fr (ra_of a3) n5.fr) (ra_nil))) (by simp)⟩
  ·try simp -dsimp only [go_sem,r1.cell,r2.cell,rY19.cell,rY20.cell,rY24.cell]
   refine call_of (ref10_seq a4) ?_
   rintro v h5 ⟨f5,-,w⟩
   simp -dsimp only [go_sem,tRR_eq]
   exact ⟨f5,w (by simp)⟩
  ·refine Exists.elim (ra_of a5).is fun x5 t5=>Exists.elim t5 fun y5 e5=>?_
   rw [e5] at a5
   try simp -dsimp only [go_sem,e5]
   intro b5 h5 n5
   try simp -dsimp only [go_sem] at n5
   simp -dsimp only [go_sem,tCR_eq]
   exact ⟨n5.fr,CR.mk [(.slice a39 g.n c39,dM (escB g)),(.slice x5 g.n y5,chM g.n (dM (fscB g)) [optM (hbM g)])] n5.row (ra_cons (RA.fr (dZ19.fr f4) n5.fr) (ra_cons (RA.fr (ra_of a5) n5.fr) (ra_nil))) (by simp)⟩
  ·try simp -dsimp only [go_sem,r1.cell,r2.cell,rY19.cell,rY20.cell,rY24.cell]
   refine call_of (ref10_any a6) ?_
   rintro v h5 ⟨f5,-,w⟩
   simp -dsimp only [go_sem,tRR_eq]
   exact ⟨f5,w (by simp)⟩
  ·intro b5 h5 n5
   simp -dsimp only [go_sem,tellA_eq]
   exact ⟨n5.fr,n5.at_.symm▸rfl,n5.size,n5.at_▸n5.row⟩
 intro h68 f68 V sep
 have q1:=(sep.at_ (L:=[3,4,5,6,7,8]) rfl).1 8 (by decide)
 have q3:=(sep.at_ (L:=[3,4,5,6,7,8]) rfl).1 7 (by decide)
 have q2:=(sep.at_ (L:=[3,4,5,6,7,8]) rfl).2 7 (by decide) 8 (by decide) (by decide)
 clear sep
 simp -dsimp only [go_sem,tCR_eq,tRR_eq,tellA_eq]
 intro _ _ _ _ a_7 a_8
 obtain ⟨e_1,z_1,r69⟩:=a_8
 obtain ⟨a68,c68,e_2⟩:=(ra_of a_7).is
 rw [e_2] at a_7
 generalize (V 8).2.1=b69 at *
 generalize (V 7).2.1=l_1 at *
 generalize (V 7).2.2=l_2 at *
 rw [z_1] at q1 q2
 generalize (V 8).1=w_1 at *
 subst e_1
 have f68_z:=f68.size
 replace p0:=p0.F f68
 replace r1:=r1.F f68
 replace r2:=r2.F f68
 replace rY19:=rY19.F f68
 replace rY20:=rY20.F f68
 replace rY24:=rY24.F f68
 simp -dsimp only [go_sem,e_2]
 refine Chk_intro (r69.W) fun h69 s69=>?_
 have s69_z:=s69.size
 replace p0:=p0.F s69.fr
 replace r1:=r1.F s69.fr
 replace r2:=r2.F s69.fr
 replace r69:=s69.row r69
 try simp only [cl_int,cl_bool,cl_slice,cl_ptr,putAt_one,zs0,zs1,ivec_set,brow_upd] at r69
 have dU68:RG (b2+1) h69 (.agg #[.int .i64 g.n,.slice a68 g.n c68]) g.n (beginM g):=RG.congr (M:=oM g.n (dM (escB g)) [chM g.n (dM (fscB g)) [optM (hbM g)]]) ⟨_,_,by omega,a_7.fr s69.fr (by omega)⟩ (begin_ofD)
 replace r69:Rw h69 b69 [.int .i64 g.n,.slice a68 g.n c68]:=r69
 have ab69:Fr 0 0 h67 h69:=f68.fresh s69.fr (by omega)
 replace dE:=VG.cons r69 dU68 (dE.fr ab69)
 replace dK10:=dK10.fr ab69
 replace dK11:=dK11.fr ab69
 replace dK12:=dK12.fr ab69
 replace dK13:=dK13.fr ab69
 replace dK14:=dK14.fr ab69
 replace dK15:=dK15.fr ab69
 have g_69:b1<h69.size∧b2<h69.size∧h.size≤h69.size:=by omega
 clear r69 dU68 a_7 e_2 z_1 q1 q2 q3 rY19 dZ19 dW19 rY20 dZ20 dW20 rY24 dZ24 dW24
 simp -dsimp only [go_sem]
 have rY19:=(dE.at_ 9 (x:=(b40,.slice a39 g.n c39,dM (escB g))) rfl).1
 have dW19:=(dE.at_ 9 (x:=(b40,.slice a39 g.n c39,dM (escB g))) rfl).2
 have dZ19:=dW19.ra
 replace rY19:Rw _ b40 [.int .i64 g.n,.slice a39 g.n c39]:=rY19
 have rY24:=(dE.at_ 4 (x:=(b56,.slice a55 g.n c55,hbM g)) rfl).1
 have dW24:=(dE.at_ 4 (x:=(b56,.slice a55 g.n c55,hbM g)) rfl).2
 have dZ24:=dW24.ra
 replace rY24:Rw _ b56 [.int .i64 g.n,.slice a55 g.n c55]:=rY24
 have rY20:=(dE.at_ 8 (x:=(b44,.slice a43 g.n c43,dM (fscB g))) rfl).1
 have dW20:=(dE.at_ 8 (x:=(b44,.slice a43 g.n c43,dM (fscB g))) rfl).2
 have dZ20:=dW20.ra
 replace rY20:Rw _ b44 [.int .i64 g.n,.slice a43 g.n c43]:=rY20
 try simp -dsimp only [go_sem,rY19.cell,rY24.cell,rY20.cell]
 refine free_intro [(2,[2],tRR g.n (optM (hbM g))),(4,[4],tCR g.n [optM (hbM g),dM (fscB g)]),(5,[5],tRR g.n (chM g.n (optM (hbM g)) [dM (fscB g)])),(6,[6],tCR g.n [dM (escB g),chM g.n (optM (hbM g)) [dM (fscB g)]]),(7,[7],tRR g.n (oM g.n (dM (escB g)) [chM g.n (optM (hbM g)) [dM (fscB g)]])),(8,[8],tellA [.int .i64 0,.slice none 0 0])] ?_ rfl ?_ ?_
 ·exact ⟨stRR _ _,stCR _ _,stRR _ _,stCR _ _,stRR _ _,stabA _,trivial⟩
 ·simp -dsimp only [go_sem,tCR_eq,tRR_eq]
  refine ⟨fun h4 f4 V=>?_,fun h4 f4 V a2=>?_,fun h4 f4 V a4 a2=>?_,fun h4 f4 V a5=>?_,fun h4 f4 V a6 a5=>?_,fun h4 f4 V=>?_⟩
  ·try simp -dsimp only [go_sem,r1.cell,r2.cell,rY19.cell,rY24.cell,rY20.cell]
   refine call_of (ref1_Opt (dZ24.fr f4).choose_spec.choose_spec) ?_
   rintro v h5 ⟨f5,w⟩
   simp -dsimp only [go_sem,tRR_eq]
   exact ⟨f5,w⟩
  ·refine Exists.elim (ra_of a2).is fun x2 t2=>Exists.elim t2 fun y2 e2=>?_
   rw [e2] at a2
   try simp -dsimp only [go_sem,e2]
   intro b5 h5 n5
   try simp -dsimp only [go_sem] at n5
   simp -dsimp only [go_sem,tCR_eq]
   exact ⟨n5.fr,CR.mk [(.slice x2 g.n y2,optM (hbM g)),(.slice a43 g.n c43,dM (fscB g))] n5.row (ra_cons (RA.fr (ra_of a2) n5.fr) (ra_cons (RA.fr (dZ20.fr f4) n5.fr) (ra_nil))) (by simp)⟩
  ·try simp -dsimp only [go_sem,r1.cell,r2.cell,rY19.cell,rY24.cell,rY20.cell]
   refine call_of (ref10_seq a4) ?_
   rintro v h5 ⟨f5,-,w⟩
   simp -dsimp only [go_sem,tRR_eq]
   exact ⟨f5,w (by simp)⟩
  ·refine Exists.elim (ra_of a5).is fun x5 t5=>Exists.elim t5 fun y5 e5=>?_
   rw [e5] at a5
   try simp -dsimp only [go_sem,e5]
   intro b5 h5 n5
   try simp -dsimp only [go_sem] at n5
   simp -dsimp only [go_sem,tCR_eq]
   exact ⟨n5.fr,CR.mk [(.slice a39 g.n c39,dM (escB g)),(.slice x5 g.n y5,chM g.n (optM (hbM g)) [dM (fscB g)])] n5.row (ra_cons (RA.fr (dZ19.fr f4) n5.fr) (ra_cons (RA.fr (ra_of a5) n5.fr) (ra_nil))) (by simp)⟩
  ·try simp -dsimp only [go_sem,r1.cell,r2.cell,rY19.cell,rY24.cell,rY20.cell]
   refine call_of (ref10_any a6) ?_
   rintro v h5 ⟨f5,-,w⟩
   simp -dsimp only [go_sem,tRR_eq]
   exact ⟨f5,w (by simp)⟩
  ·intro b5 h5 n5
   simp -dsimp only [go_sem,tellA_eq]
   exact ⟨n5.fr,n5.at_.symm▸rfl,n5.size,n5.at_▸n5.row⟩
 intro h70 f70 V sep
 have q1:=(sep.at_ (L:=[2,4,5,6,7,8]) rfl).1 8 (by decide)
 have q3:=(sep.at_ (L:=[2,4,5,6,7,8]) rfl).1 7 (by decide)
 have q2:=(sep.at_ (L:=[2,4,5,6,7,8]) rfl).2 7 (by decide) 8 (by decide) (by decide)
 clear sep
 simp -dsimp only [go_sem,tCR_eq,tRR_eq,tellA_eq]
 intro _ _ _ _ a_7 a_8
 obtain ⟨e_1,z_1,r71⟩:=a_8
 obtain ⟨a70,c70,e_2⟩:=(ra_of a_7).is
 rw [e_2] at a_7
 generalize (V 8).2.1=b71 at *
 generalize (V 7).2.1=l_1 at *
 generalize (V 7).2.2=l_2 at *
 rw [z_1] at q1 q2
 generalize (V 8).1=w_1 at *
 subst e_1
 have f70_z:=f70.size
 replace p0:=p0.F f70
 replace r1:=r1.F f70
 replace r2:=r2.F f70
 replace rY19:=rY19.F f70
 replace rY24:=rY24.F f70
 replace rY20:=rY20.F f70
 simp -dsimp only [go_sem,e_2]
 refine Chk_intro (r71.W) fun h71 s71=>?_
 have s71_z:=s71.size
 replace p0:=p0.F s71.fr
 replace r1:=r1.F s71.fr
 replace r2:=r2.F s71.fr
 replace r71:=s71.row r71
 try simp only [cl_int,cl_bool,cl_slice,cl_ptr,putAt_one,zs0,zs1,ivec_set,brow_upd] at r71
 have dU70:RG (b2+1) h71 (.agg #[.int .i64 g.n,.slice a70 g.n c70]) g.n (endM g):=RG.congr (M:=oM g.n (dM (escB g)) [chM g.n (optM (hbM g)) [dM (fscB g)]]) ⟨_,_,by omega,a_7.fr s71.fr (by omega)⟩ (end_ofD)
 replace r71:Rw h71 b71 [.int .i64 g.n,.slice a70 g.n c70]:=r71
 have ab71:Fr 0 0 h69 h71:=f70.fresh s71.fr (by omega)
 replace dE:=VG.cons r71 dU70 (dE.fr ab71)
 replace dK10:=dK10.fr ab71
 replace dK11:=dK11.fr ab71
 replace dK12:=dK12.fr ab71
 replace dK13:=dK13.fr ab71
 replace dK14:=dK14.fr ab71
 replace dK15:=dK15.fr ab71
 have g_71:b1<h71.size∧b2<h71.size∧h.size≤h71.size:=by omega
 clear r71 dU70 a_7 e_2 z_1 q1 q2 q3 rY19 dZ19 dW19 rY24 dZ24 dW24 rY20 dZ20 dW20
 simp -dsimp only [go_sem]
 have rY28:=(dE.at_ 1 (x:=(b69,.slice a68 g.n c68,beginM g)) rfl).1
 have dW28:=(dE.at_ 1 (x:=(b69,.slice a68 g.n c68,beginM g)) rfl).2
 have dZ28:=dW28.ra
 replace rY28:Rw _ b69 [.int .i64 g.n,.slice a68 g.n c68]:=rY28
 have rY27:=(dE.at_ 2 (x:=(b67,.slice a66 g.n c66,scbM g)) rfl).1
 have dW27:=(dE.at_ 2 (x:=(b67,.slice a66 g.n c66,scbM g)) rfl).2
 have dZ27:=dW27.ra
 replace rY27:Rw _ b67 [.int .i64 g.n,.slice a66 g.n c66]:=rY27
 have rY29:=(dE.at_ 0 (x:=(b71,.slice a70 g.n c70,endM g)) rfl).1
 have dW29:=(dE.at_ 0 (x:=(b71,.slice a70 g.n c70,endM g)) rfl).2
 have dZ29:=dW29.ra
 replace rY29:Rw _ b71 [.int .i64 g.n,.slice a70 g.n c70]:=rY29
 try simp -dsimp only [go_sem,rY28.cell,rY27.cell,rY29.cell]
 intro b72 h72 n72
 have n72_z:=n72.az
 replace p0:=p0.F n72.f0
 replace r1:=r1.F n72.f0
 replace r2:=r2.F n72.f0
 replace rY28:=rY28.F n72.f0
 replace rY27:=rY27.F n72.f0
 replace rY29:=rY29.F n72.f0
 have r72:=n72.row
 simp -dsimp only [go_sem]
 refine call_of (ref10_seq (CR.mk [(.slice a68 g.n c68,beginM g),(.slice a66 g.n c66,scbM g),(.slice a70 g.n c70,endM g)] r72 (ra_cons (dZ28.fr n72.f0) (ra_cons (dZ27.fr n72.f0) (ra_cons (dZ29.fr n72.f0) (ra_nil)))) (by simp))) ?_
 rintro v73 h73 ⟨f73,-,u73⟩
 have f73_z:=f73.size
 replace p0:=p0.F f73
 replace r1:=r1.F f73
 replace r2:=r2.F f73
 replace rY28:=rY28.F f73
 replace rY27:=rY27.F f73
 replace rY29:=rY29.F f73
 replace r72:=r72.F f73
 have dU73:RG (b2+1) h73 v73 g.n (baseM g):=RG.congr (M:=chM g.n (beginM g) [scbM g,endM g]) ⟨_,_,by omega,u73 (by simp)⟩ (base_of')
 obtain ⟨a73,c73,rfl⟩:=dU73.is
 clear u73
 simp -dsimp only [go_sem]
 intro b74 h74 n74
 have n74_z:=n74.az
 replace p0:=p0.F n74.f0
 replace r1:=r1.F n74.f0
 replace r2:=r2.F n74.f0
 have r74:=n74.row
 simp -dsimp only [go_sem]
 refine Chk_intro (r74.W) fun h75 s75=>?_
 have s75_z:=s75.size
 replace p0:=p0.F s75.fr
 replace r1:=r1.F s75.fr
 replace r2:=r2.F s75.fr
 replace r74:=s75.row r74
 try simp only [cl_int,cl_bool,cl_slice,cl_ptr,putAt_one,zs0,zs1,ivec_set,brow_upd] at r74
 have fz75:Fr 0 0 h73 h75:=n74.f0.fresh s75.fr (by omega)
 have dV73:=dU73.fr fz75
 replace r74:Rw h75 b74 [.int .i64 g.n,.slice a73 g.n c73]:=r74
 have ab75:Fr 0 0 h71 h75:=((n72.f0.trans (f73)).trans n74.f0).fresh s75.fr (by omega)
 replace dE:=VG.cons r74 dV73 (dE.fr ab75)
 replace dK10:=dK10.fr ab75
 replace dK11:=dK11.fr ab75
 replace dK12:=dK12.fr ab75
 replace dK13:=dK13.fr ab75
 replace dK14:=dK14.fr ab75
 replace dK15:=dK15.fr ab75
 clear r72 dU73 dV73 r74 rY28 dZ28 dW28 rY27 dZ27 dW27 rY29 dZ29 dW29
 have g_75:b1<h75.size∧b2<h75.size∧h.size≤h75.size:=by omega
 simp -dsimp only [go_sem]
 have rY20:=(dE.at_ 10 (x:=(b44,.slice a43 g.n c43,dM (fscB g))) rfl).1
 have dW20:=(dE.at_ 10 (x:=(b44,.slice a43 g.n c43,dM (fscB g))) rfl).2
 have dZ20:=dW20.ra
 replace rY20:Rw _ b44 [.int .i64 g.n,.slice a43 g.n c43]:=rY20
 have rY24:=(dE.at_ 6 (x:=(b56,.slice a55 g.n c55,hbM g)) rfl).1
 have dW24:=(dE.at_ 6 (x:=(b56,.slice a55 g.n c55,hbM g)) rfl).2
 have dZ24:=dW24.ra
 replace rY24:Rw _ b56 [.int .i64 g.n,.slice a55 g.n c55]:=rY24
 have rY25:=(dE.at_ 5 (x:=(b61,.slice a60 g.n c60,ecoM g)) rfl).1
 have dW25:=(dE.at_ 5 (x:=(b61,.slice a60 g.n c60,ecoM g)) rfl).2
 have dZ25:=dW25.ra
 replace rY25:Rw _ b61 [.int .i64 g.n,.slice a60 g.n c60]:=rY25
 try simp -dsimp only [go_sem,rY20.cell,rY24.cell,rY25.cell]
 refine free_intro [(5,[5],tCR g.n [hbM g,ecoM g,hbM g]),(6,[6],tRR g.n (chM g.n (hbM g) [ecoM g,hbM g])),(7,[7],tCR g.n [hbM g,chM g.n (hbM g) [ecoM g,hbM g]]),(8,[8],tRR g.n (oM g.n (hbM g) [chM g.n (hbM g) [ecoM g,hbM g]])),(10,[10],tCR g.n [dM (fscB g),oM g.n (hbM g) [chM g.n (hbM g) [ecoM g,hbM g]],dM (fscB g)]),(11,[11],tRR g.n (chM g.n (dM (fscB g)) [oM g.n (hbM g) [chM g.n (hbM g) [ecoM g,hbM g]],dM (fscB g)])),(12,[12],tellA [.int .i64 0,.slice none 0 0])] ?_ rfl ?_ ?_
 ·exact ⟨stCR _ _,stRR _ _,stCR _ _,stRR _ _,stCR _ _,stRR _ _,stabA _,trivial⟩
 ·simp -dsimp only [go_sem,tCR_eq,tRR_eq]
  refine ⟨fun h4 f4 V=>?_,fun h4 f4 V a5=>?_,fun h4 f4 V a6=>?_,fun h4 f4 V a7 a6=>?_,fun h4 f4 V a8=>?_,fun h4 f4 V a10 a8=>?_,fun h4 f4 V=>?_⟩
  ·try simp -dsimp only [go_sem,r1.cell,r2.cell,rY20.cell,rY24.cell,rY25.cell]
   intro b5 h5 n5
   try simp -dsimp only [go_sem] at n5
   simp -dsimp only [go_sem,tCR_eq]
   exact ⟨n5.fr,CR.mk [(.slice a55 g.n c55,hbM g),(.slice a60 g.n c60,ecoM g),(.slice a55 g.n c55,hbM g)] n5.row (ra_cons (RA.fr (dZ24.fr f4) n5.fr) (ra_cons (RA.fr (dZ25.fr f4) n5.fr) (ra_cons (RA.fr (dZ24.fr f4) n5.fr) (ra_nil)))) (by simp)⟩
  ·try simp -dsimp only [go_sem,r1.cell,r2.cell,rY20.cell,rY24.cell,rY25.cell]
   refine call_of (ref10_seq a5) ?_
   rintro v h5 ⟨f5,-,w⟩
   simp -dsimp only [go_sem,tRR_eq]
   exact ⟨f5,w (by simp)⟩
  ·refine Exists.elim (ra_of a6).is fun x6 t6=>Exists.elim t6 fun y6 e6=>?_
   rw [e6] at a6
   try simp -dsimp only [go_sem,e6]
   intro b5 h5 n5
   try simp -dsimp only [go_sem] at n5
   simp -dsimp only [go_sem,tCR_eq]
   exact ⟨n5.fr,CR.mk [(.slice a55 g.n c55,hbM g),(.slice x6 g.n y6,chM g.n (hbM g) [ecoM g,hbM g])] n5.row (ra_cons (RA.fr (dZ24.fr f4) n5.fr) (ra_cons (RA.fr (ra_of a6) n5.fr) (ra_nil))) (by simp)⟩
  ·try simp -dsimp only [go_sem,r1.cell,r2.cell,rY20.cell,rY24.cell,rY25.cell]
   refine call_of (ref10_any a7) ?_
   rintro v h5 ⟨f5,-,w⟩
   simp -dsimp only [go_sem,tRR_eq]
   exact ⟨f5,w (by simp)⟩
  ·refine Exists.elim (ra_of a8).is fun x8 t8=>Exists.elim t8 fun y8 e8=>?_
   rw [e8] at a8
   try simp -dsimp only [go_sem,e8]
   intro b5 h5 n5
   try simp -dsimp only [go_sem] at n5
   simp -dsimp only [go_sem,tCR_eq]
   exact ⟨n5.fr,CR.mk [(.slice a43 g.n c43,dM (fscB g)),(.slice x8 g.n y8,oM g.n (hbM g) [chM g.n (hbM g) [ecoM g,hbM g]]),(.slice a43 g.n c43,dM (fscB g))] n5.row (ra_cons (RA.fr (dZ20.fr f4) n5.fr) (ra_cons (RA.fr (ra_of a8) n5.fr) (ra_cons (RA.fr (dZ20.fr f4) n5.fr) (ra_nil)))) (by simp)⟩
  ·try simp -dsimp only [go_sem,r1.cell,r2.cell,rY20.cell,rY24.cell,rY25.cell]
   refine call_of (ref10_seq a10) ?_
   rintro v h5 ⟨f5,-,w⟩
   simp -dsimp only [go_sem,tRR_eq]
   exact ⟨f5,w (by simp)⟩
  ·intro b5 h5 n5
   simp -dsimp only [go_sem,tellA_eq]
   exact ⟨n5.fr,n5.at_.symm▸rfl,n5.size,n5.at_▸n5.row⟩
 intro h76 f76 V sep
 have q1:=(sep.at_ (L:=[5,6,7,8,10,11,12]) rfl).1 12 (by decide)
 have q3:=(sep.at_ (L:=[5,6,7,8,10,11,12]) rfl).1 11 (by decide)
 have q2:=(sep.at_ (L:=[5,6,7,8,10,11,12]) rfl).2 11 (by decide) 12 (by decide) (by decide)
 clear sep
 simp -dsimp only [go_sem,tCR_eq,tRR_eq,tellA_eq]
 intro _ _ _ _ _ a_11 a_12
 obtain ⟨e_1,z_1,r77⟩:=a_12
 obtain ⟨a76,c76,e_2⟩:=(ra_of a_11).is
 rw [e_2] at a_11
 generalize (V 12).2.1=b77 at *
 generalize (V 11).2.1=l_1 at *
 generalize (V 11).2.2=l_2 at *
 rw [z_1] at q1 q2
 generalize (V 12).1=w_1 at *
 subst e_1
 have f76_z:=f76.size
 replace p0:=p0.F f76
 replace r1:=r1.F f76
 replace r2:=r2.F f76
 replace rY20:=rY20.F f76
 replace rY24:=rY24.F f76
 replace rY25:=rY25.F f76
 simp -dsimp only [go_sem,e_2]
 refine Chk_intro (r77.W) fun h77 s77=>?_
 have s77_z:=s77.size
 replace p0:=p0.F s77.fr
 replace r1:=r1.F s77.fr
 replace r2:=r2.F s77.fr
 replace r77:=s77.row r77
 try simp only [cl_int,cl_bool,cl_slice,cl_ptr,putAt_one,zs0,zs1,ivec_set,brow_upd] at r77
 have dU76:RG (b2+1) h77 (.agg #[.int .i64 g.n,.slice a76 g.n c76]) g.n (pscfM g):=RG.congr (M:=chM g.n (dM (fscB g)) [oM g.n (hbM g) [chM g.n (hbM g) [ecoM g,hbM g]],dM (fscB g)]) ⟨_,_,by omega,a_11.fr s77.fr (by omega)⟩ (pscf_ofD)
 replace r77:Rw h77 b77 [.int .i64 g.n,.slice a76 g.n c76]:=r77
 have ab77:Fr 0 0 h75 h77:=f76.fresh s77.fr (by omega)
 replace dE:=VG.cons r77 dU76 (dE.fr ab77)
 replace dK10:=dK10.fr ab77
 replace dK11:=dK11.fr ab77
 replace dK12:=dK12.fr ab77
 replace dK13:=dK13.fr ab77
 replace dK14:=dK14.fr ab77
 replace dK15:=dK15.fr ab77
 have g_77:b1<h77.size∧b2<h77.size∧h.size≤h77.size:=by omega
 clear r77 dU76 a_11 e_2 z_1 q1 q2 q3 rY20 dZ20 dW20 rY24 dZ24 dW24 rY25 dZ25 dW25
 simp -dsimp only [go_sem]
 have rY22:=(dE.at_ 9 (x:=(b50,.slice a49 g.n c49,rsM g)) rfl).1
 have dW22:=(dE.at_ 9 (x:=(b50,.slice a49 g.n c49,rsM g)) rfl).2
 replace rY22:Rw _ b50 [.int .i64 g.n,.slice a49 g.n c49]:=rY22
 have rY23:=(dE.at_ 8 (x:=(b52,.slice a51 g.n c51,swM g)) rfl).1
 have dW23:=(dE.at_ 8 (x:=(b52,.slice a51 g.n c51,swM g)) rfl).2
 replace rY23:Rw _ b52 [.int .i64 g.n,.slice a51 g.n c51]:=rY23
 have rY24:=(dE.at_ 7 (x:=(b56,.slice a55 g.n c55,hbM g)) rfl).1
 have dW24:=(dE.at_ 7 (x:=(b56,.slice a55 g.n c55,hbM g)) rfl).2
 replace rY24:Rw _ b56 [.int .i64 g.n,.slice a55 g.n c55]:=rY24
 have rY25:=(dE.at_ 6 (x:=(b61,.slice a60 g.n c60,ecoM g)) rfl).1
 have dW25:=(dE.at_ 6 (x:=(b61,.slice a60 g.n c60,ecoM g)) rfl).2
 replace rY25:Rw _ b61 [.int .i64 g.n,.slice a60 g.n c60]:=rY25
 have rY27:=(dE.at_ 4 (x:=(b67,.slice a66 g.n c66,scbM g)) rfl).1
 have dW27:=(dE.at_ 4 (x:=(b67,.slice a66 g.n c66,scbM g)) rfl).2
 replace rY27:Rw _ b67 [.int .i64 g.n,.slice a66 g.n c66]:=rY27
 have rY30:=(dE.at_ 1 (x:=(b74,.slice a73 g.n c73,baseM g)) rfl).1
 have dW30:=(dE.at_ 1 (x:=(b74,.slice a73 g.n c73,baseM g)) rfl).2
 replace rY30:Rw _ b74 [.int .i64 g.n,.slice a73 g.n c73]:=rY30
 have rY31:=(dE.at_ 0 (x:=(b77,.slice a76 g.n c76,pscfM g)) rfl).1
 have dW31:=(dE.at_ 0 (x:=(b77,.slice a76 g.n c76,pscfM g)) rfl).2
 replace rY31:Rw _ b77 [.int .i64 g.n,.slice a76 g.n c76]:=rY31
 have rY4:=(dE.at_ 21 (x:=(b4,.slice a3 g.n c3,relM g 0)) rfl).1
 have dW4:=(dE.at_ 21 (x:=(b4,.slice a3 g.n c3,relM g 0)) rfl).2
 replace rY4:Rw _ b4 [.int .i64 g.n,.slice a3 g.n c3]:=rY4
 have rY5:=(dE.at_ 20 (x:=(b7,.slice a6 g.n c6,relM g 1)) rfl).1
 have dW5:=(dE.at_ 20 (x:=(b7,.slice a6 g.n c6,relM g 1)) rfl).2
 replace rY5:Rw _ b7 [.int .i64 g.n,.slice a6 g.n c6]:=rY5
 have rY6:=(dE.at_ 19 (x:=(b10,.slice a9 g.n c9,relM g 2)) rfl).1
 have dW6:=(dE.at_ 19 (x:=(b10,.slice a9 g.n c9,relM g 2)) rfl).2
 replace rY6:Rw _ b10 [.int .i64 g.n,.slice a9 g.n c9]:=rY6
 have rY7:=(dE.at_ 18 (x:=(b13,.slice a12 g.n c12,relM g 9)) rfl).1
 have dW7:=(dE.at_ 18 (x:=(b13,.slice a12 g.n c12,relM g 9)) rfl).2
 replace rY7:Rw _ b13 [.int .i64 g.n,.slice a12 g.n c12]:=rY7
 try simp -dsimp only [go_sem,rY22.cell,rY23.cell,rY24.cell,rY25.cell,rY27.cell,rY30.cell,rY31.cell,rY4.cell,rY5.cell,rY6.cell,rY7.cell]
 refine Chk_intro (r2.wr (by simp)) fun h92 s92=>?_
 have s92_z:=s92.size
 replace p0:=p0.F s92.fr
 have r3:=s92.row r2
 rw [putAt_all] at r3
 rotate_left
 ·rfl
 clear r2
 simp -dsimp only [go_sem]
 refine withC_of [.int .i64 g.n,.slice a49 g.n c49,.int .i64 g.n,.slice a51 g.n c51,.int .i64 g.n,.slice a55 g.n c55,.int .i64 g.n,.slice a60 g.n c60,.int .i64 g.n,.slice a66 g.n c66,.int .i64 g.n,.slice a73 g.n c73,.int .i64 g.n,.slice a76 g.n c76,.int .i64 g.n,.slice a3 g.n c3,.int .i64 g.n,.slice a6 g.n c6,.int .i64 g.n,.slice a9 g.n c9,.int .i64 g.n,.slice a12 g.n c12] 0 (fun j x hj=>by rw [r3.cell,Nat.zero_add];exact hj) ?_
 refine ⟨p0,fun k=>[.slice a49 g.n c49,.slice a51 g.n c51,.slice a55 g.n c55,.slice a60 g.n c60,.slice a66 g.n c66,.slice a73 g.n c73,.slice a76 g.n c76,.slice a3 g.n c3,.slice a6 g.n c6,.slice a9 g.n c9,.slice a12 g.n c12].getD k (.int .i64 0),rfl,fun k hk=>?_⟩
 match k,hk with
 | 0,_=>exact (dW22.fr s92.fr).lower (by omega)
 | 1,_=>exact (dW23.fr s92.fr).lower (by omega)
 | 2,_=>exact (dW24.fr s92.fr).lower (by omega)
 | 3,_=>exact (dW25.fr s92.fr).lower (by omega)
 | 4,_=>exact (dW27.fr s92.fr).lower (by omega)
 | 5,_=>exact (dW30.fr s92.fr).lower (by omega)
 | 6,_=>exact (dW31.fr s92.fr).lower (by omega)
 | 7,_=>exact (dW4.fr s92.fr).lower (by omega)
 | 8,_=>exact (dW5.fr s92.fr).lower (by omega)
 | 9,_=>exact (dW6.fr s92.fr).lower (by omega)
 | 10,_=>exact (dW7.fr s92.fr).lower (by omega)
end Go.Proofs.Tst
/-
  law10: whole.
-/
namespace Go.Proofs.Tst
open Go Go.Vc
set_option maxHeartbeats 1000000 in
theorem c_law10_whole {h:Heap} {g:Gr} {x s:Nat→Value} {A B:Nat→Nat} (ht:TabAt h) (D:Der h A B x g.n (rcM g) 7) (d:∀ k,k<11→RA h (.agg #[.int .i64 g.n,s k]) g.n (docM g k)) :
  Con Tryz.prog 14 #[.agg #[x 0,x 1,x 2,x 3,x 4,x 5,x 6],.agg (derS g.n s).toArray] h fun v h'=>Fr 0 0 h h'∧v=.bool true:=by
 refine con_q24 ?_
 have oc:∀ k,k<7→(x k).oneCell'=true:=fun k hk=>by obtain ⟨_,e⟩:=progPtr (D.at_ k hk);rw [e];rfl
 have ex:∀ k,k<11→∃ a c,s k=.slice a g.n c:=fun k hk=>by
  obtain ⟨a,c,e⟩:=(d k hk).is
  simp only [Value.agg.injEq,Array.mk.injEq,List.cons.injEq,and_true,true_and] at e
  exact ⟨a,c,e⟩
 obtain ⟨a0,c0,e0⟩:=ex 0 (by decide)
 obtain ⟨a1,c1,e1⟩:=ex 1 (by decide)
 obtain ⟨a2,c2,e2⟩:=ex 2 (by decide)
 obtain ⟨a3,c3,e3⟩:=ex 3 (by decide)
 obtain ⟨a4,c4,e4⟩:=ex 4 (by decide)
 obtain ⟨a5,c5,e5⟩:=ex 5 (by decide)
 obtain ⟨a6,c6,e6⟩:=ex 6 (by decide)
 obtain ⟨a7,c7,e7⟩:=ex 7 (by decide)
 obtain ⟨a8,c8,e8⟩:=ex 8 (by decide)
 obtain ⟨a9,c9,e9⟩:=ex 9 (by decide)
 obtain ⟨a10,c10,e10⟩:=ex 10 (by decide)
 have p0:Fr 0 0 h h:=.refl _ _ _
 have de:∀ k,k<11→RA h (.agg #[.int .i64 g.n,s k]) g.n (docM g k):=d
 unfold derS
 rw [e0,e1,e2,e3,e4,e5,e6,e7,e8,e9,e10]
 simp -dsimp only [go_sem,oc 0 (by decide),oc 1 (by decide),oc 2 (by decide),oc 3 (by decide),oc 4 (by decide),oc 5 (by decide),oc 6 (by decide)]
 intro b2 h2 n2
 have n2_z:=n2.az
 replace p0:=p0.F n2.f0
 have r2:=n2.row
 simp -dsimp only [go_sem,r2.cell]
 intro b3 h3 n3
 have n3_z:=n3.az
 replace p0:=p0.F n3.f0
 replace r2:=r2.F n3.f0
 have r3:=n3.row
 simp -dsimp only [go_sem,r2.cell,r3.cell]
 have q0:=(de 0 (by decide)).fr p0
 rw [e0] at q0
 refine call_of (c_law10_is (ht.fr p0 (.inr rfl)) ((D.at_ 0 (by decide)).fr p0 (by omega)) q0.choose_spec.choose_spec) ?_
 rintro v h4 ⟨f4,rfl⟩
 have f4_z:=f4.size
 replace p0:=p0.F f4
 replace r2:=r2.F f4
 replace r3:=r3.F f4
 simp -dsimp only [go_sem,r2.cell,r3.cell]
 have q1:=(de 1 (by decide)).fr p0
 rw [e1] at q1
 refine call_of (c_law10_is (ht.fr p0 (.inr rfl)) ((D.at_ 1 (by decide)).fr p0 (by omega)) q1.choose_spec.choose_spec) ?_
 rintro v h5 ⟨f5,rfl⟩
 have f5_z:=f5.size
 replace p0:=p0.F f5
 replace r2:=r2.F f5
 replace r3:=r3.F f5
 simp -dsimp only [go_sem,r2.cell,r3.cell]
 have q2:=(de 2 (by decide)).fr p0
 rw [e2] at q2
 refine call_of (c_law10_is (ht.fr p0 (.inr rfl)) ((D.at_ 2 (by decide)).fr p0 (by omega)) q2.choose_spec.choose_spec) ?_
 rintro v h6 ⟨f6,rfl⟩
 have f6_z:=f6.size
 replace p0:=p0.F f6
 replace r2:=r2.F f6
 replace r3:=r3.F f6
 simp -dsimp only [go_sem,r2.cell,r3.cell]
 have q3:=(de 3 (by decide)).fr p0
 rw [e3] at q3
 refine call_of (c_law10_is (ht.fr p0 (.inr rfl)) ((D.at_ 3 (by decide)).fr p0 (by omega)) q3.choose_spec.choose_spec) ?_
 rintro v h7 ⟨f7,rfl⟩
 have f7_z:=f7.size
 replace p0:=p0.F f7
 replace r2:=r2.F f7
 replace r3:=r3.F f7
 simp -dsimp only [go_sem,r2.cell,r3.cell]
 have q4:=(de 4 (by decide)).fr p0
 rw [e4] at q4
 refine call_of (c_law10_is (ht.fr p0 (.inr rfl)) ((D.at_ 4 (by decide)).fr p0 (by omega)) q4.choose_spec.choose_spec) ?_
 rintro v h8 ⟨f8,rfl⟩
 have f8_z:=f8.size
 replace p0:=p0.F f8
 replace r2:=r2.F f8
 replace r3:=r3.F f8
 simp -dsimp only [go_sem,r2.cell,r3.cell]
 have q5:=(de 5 (by decide)).fr p0
 rw [e5] at q5
 refine call_of (c_law10_is (ht.fr p0 (.inr rfl)) ((D.at_ 5 (by decide)).fr p0 (by omega)) q5.choose_spec.choose_spec) ?_
 rintro v h9 ⟨f9,rfl⟩
 have f9_z:=f9.size
 replace p0:=p0.F f9
 replace r2:=r2.F f9
 replace r3:=r3.F f9
 simp -dsimp only [go_sem,r2.cell,r3.cell]
 have q6:=(de 6 (by decide)).fr p0
 rw [e6] at q6
 refine call_of (c_law10_is (ht.fr p0 (.inr rfl)) ((D.at_ 6 (by decide)).fr p0 (by omega)) q6.choose_spec.choose_spec) ?_
 rintro v h10 ⟨f10,rfl⟩
 have f10_z:=f10.size
 replace p0:=p0.F f10
 replace r2:=r2.F f10
 replace r3:=r3.F f10
 simp -dsimp only [go_sem,r2.cell,r3.cell]
 exact p0
end Go.Proofs.Tst
