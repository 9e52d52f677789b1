/-
  Contracts of functions that the law reaches: what each returns and what it leaves in memory. Conditions stand in each.
-/
import Derived.Test.YtmcghihgeibgpaaDoorT9
set_option linter.all false
set_option maxRecDepth 2000
/-
  SeqKnown.
-/
namespace Go.Proofs.Tst
open Go Go.Vc
abbrev kpG:Gr:={ twoG 1 [⟨0,1,0,0,1⟩,⟨0,2,0,1,1⟩,⟨0,1,1,0,1⟩,⟨1,2,1,1,1⟩,⟨1,1,0,0,1⟩] [(0,2),(1,4),(0,6)] [3] [5] with rmw:=[(2,3)] }
abbrev ktG:Gr:={ twoG 1 [⟨0,1,0,0,1⟩,⟨0,2,0,1,1⟩,⟨1,2,0,2,1⟩] [(0,2)] [4,3] [] with rmw:=[(2,3)] }
theorem zero_at {h:Heap}:GrAt h ⟨none,none,none,none,none,none,none,0,0,0,0,0,0,0⟩ zeroG:=
 ⟨⟨rfl,_,_,rfl,.inl rfl⟩,nilP,rlc_rl rlc_nil,nilP,nilP,nilP,nilP,⟨by decide,by decide,by decide,by decide,by decide,by decide,by decide,by decide⟩,by decide,rlc_nil⟩
theorem kz29:decide ((fenG 5).good=true∧scAx (fenG 5)=(1,[2,4,5,7]))=true:=by decide +kernel
theorem kz32:decide ((fenG 4).good=true∧scAx (fenG 4)=(1,[2,4,5,7]))=true:=by decide +kernel
theorem kz35:decide ((fenG 5).good=true∧tsoAx (fenG 5)=(3,[2,4,5,7]))=true:=by decide +kernel
theorem kz37:decide ((fenG 4).good=true∧tsoAx (fenG 4)=(0,[]))=true:=by decide +kernel
theorem kz40:decide (lodG.good=true∧scAx lodG=(1,[2,3,4,5]))=true:=by decide +kernel
theorem kz42:decide (kpG.good=true∧scAx kpG=(1,[3,4,5,6]))=true:=by decide +kernel
theorem kz43:decide (kpG.good=true∧tsoAx kpG=(0,[]))=true:=by decide +kernel
theorem kz45:decide (ktG.good=true∧scAx ktG=(2,[2,3]))=true:=by decide +kernel
theorem kz47:decide (ktG.good=true∧tsoAx ktG=(2,[2,3]))=true:=by decide +kernel
theorem kc49:((fenG 5).check false).1=0:=by decide +kernel
theorem ke49:evsTo (fenG 5) true (fenG 5).n=[⟨-1,2,0,0,11⟩,⟨-1,2,1,0,11⟩,⟨0,2,0,1,11⟩,⟨0,3,-1,0,15⟩,⟨0,1,1,0,11⟩,⟨1,2,1,1,11⟩,⟨1,3,-1,0,15⟩,⟨1,1,0,0,11⟩]:=by decide +kernel
theorem kd49:mapTo (fenG 5) (fenG 5).n=[]:=by decide +kernel
abbrev km49:Gr:=⟨(fenG 5).cells,[⟨-1,2,0,0,11⟩,⟨-1,2,1,0,11⟩,⟨0,2,0,1,11⟩,⟨0,3,-1,0,15⟩,⟨0,1,1,0,11⟩,⟨1,2,1,1,11⟩,⟨1,3,-1,0,15⟩,⟨1,1,0,0,11⟩],(fenG 5).rf,(fenG 5).co,(fenG 5).rmw,[],[],[]⟩
theorem kg49:mapG (fenG 5) true=km49:=by unfold mapG;rw [ke49,kd49]
theorem kc53:((fenG 4).check false).1=0:=by decide +kernel
theorem ke53:evsTo (fenG 4) false (fenG 4).n=[⟨-1,2,0,0,11⟩,⟨-1,2,1,0,11⟩,⟨0,2,0,1,11⟩,⟨0,3,-1,0,15⟩,⟨0,1,1,0,11⟩,⟨1,2,1,1,11⟩,⟨1,3,-1,0,15⟩,⟨1,1,0,0,11⟩]:=by decide +kernel
theorem kd53:mapTo (fenG 4) (fenG 4).n=[]:=by decide +kernel
abbrev km53:Gr:=⟨(fenG 4).cells,[⟨-1,2,0,0,11⟩,⟨-1,2,1,0,11⟩,⟨0,2,0,1,11⟩,⟨0,3,-1,0,15⟩,⟨0,1,1,0,11⟩,⟨1,2,1,1,11⟩,⟨1,3,-1,0,15⟩,⟨1,1,0,0,11⟩],(fenG 4).rf,(fenG 4).co,(fenG 4).rmw,[],[],[]⟩
theorem kg53:mapG (fenG 4) false=km53:=by unfold mapG;rw [ke53,kd53]
theorem kc56:(kpG.check false).1=0:=by decide +kernel
theorem ke56:evsTo kpG true kpG.n=[⟨-1,2,0,0,11⟩,⟨-1,2,1,0,11⟩,⟨0,1,0,0,11⟩,⟨0,2,0,1,11⟩,⟨0,1,1,0,11⟩,⟨1,2,1,1,11⟩,⟨1,1,0,0,11⟩]:=by decide +kernel
theorem kd56:mapTo kpG kpG.n=[(2,3),(2,4)]:=by decide +kernel
abbrev km56:Gr:=⟨kpG.cells,[⟨-1,2,0,0,11⟩,⟨-1,2,1,0,11⟩,⟨0,1,0,0,11⟩,⟨0,2,0,1,11⟩,⟨0,1,1,0,11⟩,⟨1,2,1,1,11⟩,⟨1,1,0,0,11⟩],kpG.rf,kpG.co,kpG.rmw,[],[],[(2,3),(2,4)]⟩
theorem kg56:mapG kpG true=km56:=by unfold mapG;rw [ke56,kd56]
theorem kc60:(lodG.check false).1=0:=by decide +kernel
theorem ke60:evsTo lodG true lodG.n=[⟨-1,2,0,0,11⟩,⟨-1,2,1,0,11⟩,⟨0,1,0,1,11⟩,⟨0,2,1,1,11⟩,⟨1,1,1,1,11⟩,⟨1,2,0,1,11⟩]:=by decide +kernel
theorem kd60:mapTo lodG lodG.n=[(2,3),(4,5)]:=by decide +kernel
abbrev km60:Gr:=⟨lodG.cells,[⟨-1,2,0,0,11⟩,⟨-1,2,1,0,11⟩,⟨0,1,0,1,11⟩,⟨0,2,1,1,11⟩,⟨1,1,1,1,11⟩,⟨1,2,0,1,11⟩],lodG.rf,lodG.co,lodG.rmw,[],[],[(2,3),(4,5)]⟩
theorem kg60:mapG lodG true=km60:=by unfold mapG;rw [ke60,kd60]
theorem ka1:(km60.check true).1=0:=by decide +kernel
theorem ka2:(armAx km60).1=2:=by decide +kernel
theorem kh1:(zeroG.check false).1=0:=by decide +kernel
theorem kh2:mapG zeroG false=zeroG:=by decide +kernel
theorem kx1:decide (zeroG.good=true∧scAx zeroG=(0,[]))=true:=by decide +kernel
theorem kx2:decide (zeroG.good=true∧tsoAx zeroG=(0,[]))=true:=by decide +kernel
set_option maxHeartbeats 8000000 in
theorem c_law12_SeqKnown {h:Heap} (ht:TabAt h):Con Tryd.prog 9 #[] h fun v h'=>Fr 0 0 h h'∧v=.bool true:=by
 refine con_q25 ?_
 have hz:0<h.size:=hcell_lt (ht 0 0 rfl)
 have p0:Fr 0 0 h h:=.refl _ _ _
 simp -dsimp only [go_sem]
 refine call_of (law12_lives (ht.fr p0 (.inr rfl))) ?_
 rintro v1 h1 ⟨f1,rfl⟩
 have f1_z:=f1.size
 replace p0:=p0.F f1
 simp -dsimp only [go_sem]
 refine call_of (c_law12_ev 0 1 0 0 1) ?_
 rintro v2 h2 ⟨f2,rfl⟩
 have f2_z:=f2.size
 replace p0:=p0.F f2
 simp -dsimp only [go_sem]
 refine call_of (c_law12_ev 0 2 0 1 1) ?_
 rintro v3 h3 ⟨f3,rfl⟩
 have f3_z:=f3.size
 replace p0:=p0.F f3
 simp -dsimp only [go_sem]
 refine call_of (c_law12_ev 0 1 1 0 1) ?_
 rintro v4 h4 ⟨f4,rfl⟩
 have f4_z:=f4.size
 replace p0:=p0.F f4
 simp -dsimp only [go_sem]
 refine call_of (c_law12_ev 1 2 1 1 1) ?_
 rintro v5 h5 ⟨f5,rfl⟩
 have f5_z:=f5.size
 replace p0:=p0.F f5
 simp -dsimp only [go_sem]
 refine call_of (c_law12_ev 1 1 0 0 1) ?_
 rintro v6 h6 ⟨f6,rfl⟩
 have f6_z:=f6.size
 replace p0:=p0.F f6
 simp -dsimp only [go_sem]
 intro b7 h7 n7
 have n7_z:=n7.az
 replace p0:=p0.F n7.f0
 have r7:=n7.row
 simp -dsimp only [go_sem,r7.cell]
 intro b8 h8 n8
 have n8_z:=n8.az
 replace p0:=p0.F n8.f0
 replace r7:=r7.F n8.f0
 have r8:=n8.row
 simp -dsimp only [go_sem,r7.cell,r8.cell]
 intro b9 h9 n9
 have n9_z:=n9.az
 replace p0:=p0.F n9.f0
 replace r7:=r7.F n9.f0
 replace r8:=r8.F n9.f0
 have r9:=n9.row
 simp -dsimp only [go_sem,r7.cell,r8.cell,r9.cell]
 intro b10 h10 n10
 have n10_z:=n10.az
 replace p0:=p0.F n10.f0
 replace r7:=r7.F n10.f0
 replace r8:=r8.F n10.f0
 replace r9:=r9.F n10.f0
 have r10:=n10.row
 simp -dsimp only [go_sem,r7.cell,r8.cell,r9.cell,r10.cell]
 refine call_of (c_law12_two (E:=[⟨0,1,0,0,1⟩,⟨0,2,0,1,1⟩,⟨0,1,1,0,1⟩,⟨1,2,1,1,1⟩,⟨1,1,0,0,1⟩]) (rf:=[(0,2),(1,4),(0,6)]) (x:=[3]) (y:=[5]) (lo:=0) (Nat.zero_le _) (Rw.rd (s:=5) (n:=5) (c:=5) r7 rfl) (fun h' f=>Rw.rd (s:=2) (n:=3) (c:=3) (r8.fr f (by omega)) rfl) (Rw.rd (s:=1) (n:=1) (c:=1) r9 rfl) (Rw.rd (s:=1) (n:=1) (c:=1) r10 rfl) (by simp) (by simp) (by simp) (by simp)) ?_
 rintro v11 h11 ⟨f11,q11,rfl,t11⟩
 have f11_z:=f11.size
 replace p0:=p0.F f11
 replace r7:=r7.F f11
 replace r8:=r8.F f11
 replace r9:=r9.F f11
 replace r10:=r10.F f11
 clear r7 r8 r9 r10
 replace t11:=t11 _ (.refl _ _ _)
 have p11:Fr 0 0 h11 h11:=.refl _ _ _
 unfold gcells
 simp -dsimp only [go_sem]
 intro b12 h12 n12
 have n12_z:=n12.az
 replace p0:=p0.F n12.f0
 replace p11:=p11.F n12.f0
 have r12:=n12.row
 simp -dsimp only [go_sem,r12.cell]
 refine Chk_intro (r12.W) fun h13 s13=>?_
 have s13_z:=s13.size
 replace p0:=p0.F s13.fr
 replace p11:=p11.F s13.fr
 replace r12:=s13.row r12
 try simp only [cl_int,cl_bool,cl_slice,cl_ptr,putAt_one,zs0,zs1,ivec_set,brow_upd] at r12
 try simp -dsimp only [go_sem] at r12
 simp -dsimp only [go_sem,r12.cell]
 intro b14 h14 n14
 have n14_z:=n14.az
 replace p0:=p0.F n14.f0
 replace p11:=p11.F n14.f0
 replace r12:=r12.F n14.f0
 have r14:=n14.row
 simp -dsimp only [go_sem,r12.cell,r14.cell]
 refine Chk_intro (r12.W) fun h15 s15=>?_
 have s15_z:=s15.size
 replace p0:=p0.F s15.fr
 replace p11:=p11.F s15.fr
 replace r14:=r14.F s15.fr
 replace r12:=s15.row r12
 try simp only [cl_int,cl_bool,cl_slice,cl_ptr,putAt_one,zs0,zs1,ivec_set,brow_upd] at r12
 try simp -dsimp only [go_sem] at r12
 have u12:GrAt h15 _ kpG:=GrAt.setR (t11.fr p11) (Rw.rd (s:=2) (n:=1) (c:=1) r14 rfl) (by decide)
 have p12:Fr 0 0 h15 h15:=.refl _ _ _
 clear r14 t11 p11
 simp -dsimp only [go_sem,r12.cell]
 refine call_of (c_law12_ev 0 1 0 0 1) ?_
 rintro v16 h16 ⟨f16,rfl⟩
 have f16_z:=f16.size
 replace p0:=p0.F f16
 replace r12:=r12.F f16
 replace p12:=p12.F f16
 simp -dsimp only [go_sem,r12.cell]
 refine call_of (c_law12_ev 0 2 0 1 1) ?_
 rintro v17 h17 ⟨f17,rfl⟩
 have f17_z:=f17.size
 replace p0:=p0.F f17
 replace r12:=r12.F f17
 replace p12:=p12.F f17
 simp -dsimp only [go_sem,r12.cell]
 refine call_of (c_law12_ev 1 2 0 2 1) ?_
 rintro v18 h18 ⟨f18,rfl⟩
 have f18_z:=f18.size
 replace p0:=p0.F f18
 replace r12:=r12.F f18
 replace p12:=p12.F f18
 simp -dsimp only [go_sem,r12.cell]
 intro b19 h19 n19
 have n19_z:=n19.az
 replace p0:=p0.F n19.f0
 replace r12:=r12.F n19.f0
 replace p12:=p12.F n19.f0
 have r19:=n19.row
 simp -dsimp only [go_sem,r12.cell,r19.cell]
 intro b20 h20 n20
 have n20_z:=n20.az
 replace p0:=p0.F n20.f0
 replace r12:=r12.F n20.f0
 replace p12:=p12.F n20.f0
 replace r19:=r19.F n20.f0
 have r20:=n20.row
 simp -dsimp only [go_sem,r12.cell,r19.cell,r20.cell]
 intro b21 h21 n21
 have n21_z:=n21.az
 replace p0:=p0.F n21.f0
 replace r12:=r12.F n21.f0
 replace p12:=p12.F n21.f0
 replace r19:=r19.F n21.f0
 replace r20:=r20.F n21.f0
 have r21:=n21.row
 simp -dsimp only [go_sem,r12.cell,r19.cell,r20.cell,r21.cell]
 refine call_of (c_law12_two (E:=[⟨0,1,0,0,1⟩,⟨0,2,0,1,1⟩,⟨1,2,0,2,1⟩]) (rf:=[(0,2)]) (x:=[4,3]) (y:=[]) (lo:=0) (Nat.zero_le _) (Rw.rd (s:=5) (n:=3) (c:=3) r19 rfl) (fun h' f=>Rw.rd (s:=2) (n:=1) (c:=1) (r20.fr f (by omega)) rfl) (Rw.rd (s:=1) (n:=2) (c:=2) r21 rfl) nilJ (by simp) (by simp) (by simp) (by simp)) ?_
 rintro v22 h22 ⟨f22,q22,rfl,t22⟩
 have f22_z:=f22.size
 replace p0:=p0.F f22
 replace r12:=r12.F f22
 replace p12:=p12.F f22
 replace r19:=r19.F f22
 replace r20:=r20.F f22
 replace r21:=r21.F f22
 clear r19 r20 r21
 replace t22:=t22 _ (.refl _ _ _)
 have p22:Fr 0 0 h22 h22:=.refl _ _ _
 unfold gcells
 simp -dsimp only [go_sem,r12.cell]
 intro b23 h23 n23
 have n23_z:=n23.az
 replace p0:=p0.F n23.f0
 replace r12:=r12.F n23.f0
 replace p12:=p12.F n23.f0
 replace p22:=p22.F n23.f0
 have r23:=n23.row
 simp -dsimp only [go_sem,r12.cell,r23.cell]
 refine Chk_intro (r23.W) fun h24 s24=>?_
 have s24_z:=s24.size
 replace p0:=p0.F s24.fr
 replace r12:=r12.F s24.fr
 replace p12:=p12.F s24.fr
 replace p22:=p22.F s24.fr
 replace r23:=s24.row r23
 try simp only [cl_int,cl_bool,cl_slice,cl_ptr,putAt_one,zs0,zs1,ivec_set,brow_upd] at r23
 try simp -dsimp only [go_sem] at r23
 simp -dsimp only [go_sem,r12.cell,r23.cell]
 intro b25 h25 n25
 have n25_z:=n25.az
 replace p0:=p0.F n25.f0
 replace r12:=r12.F n25.f0
 replace p12:=p12.F n25.f0
 replace p22:=p22.F n25.f0
 replace r23:=r23.F n25.f0
 have r25:=n25.row
 simp -dsimp only [go_sem,r12.cell,r23.cell,r25.cell]
 refine Chk_intro (r23.W) fun h26 s26=>?_
 have s26_z:=s26.size
 replace p0:=p0.F s26.fr
 replace r12:=r12.F s26.fr
 replace p12:=p12.F s26.fr
 replace p22:=p22.F s26.fr
 replace r25:=r25.F s26.fr
 replace r23:=s26.row r23
 try simp only [cl_int,cl_bool,cl_slice,cl_ptr,putAt_one,zs0,zs1,ivec_set,brow_upd] at r23
 try simp -dsimp only [go_sem] at r23
 have u23:GrAt h26 _ ktG:=GrAt.setR (t22.fr p22) (Rw.rd (s:=2) (n:=1) (c:=1) r25 rfl) (by decide)
 have p23:Fr 0 0 h26 h26:=.refl _ _ _
 clear r25 t22 p22
 simp -dsimp only [go_sem,r12.cell,r23.cell]
 refine call_of (c_law12_fenced 5) ?_
 rintro v27 h27 ⟨f27,q27,rfl,t27⟩
 have f27_z:=f27.size
 replace p0:=p0.F f27
 replace r12:=r12.F f27
 replace p12:=p12.F f27
 replace r23:=r23.F f27
 replace p23:=p23.F f27
 have p27:Fr 0 0 h27 h27:=.refl _ _ _
 simp -dsimp only [go_sem,r12.cell,r23.cell]
 intro b28 h28 n28
 have n28_z:=n28.az
 replace p0:=p0.F n28.f0
 replace r12:=r12.F n28.f0
 replace p12:=p12.F n28.f0
 replace r23:=r23.F n28.f0
 replace p23:=p23.F n28.f0
 replace p27:=p27.F n28.f0
 have r28:=n28.row
 simp -dsimp only [go_sem,r12.cell,r23.cell,r28.cell]
 refine call_of (c_law12_sc (g:=(fenG 5)) (t27.fr p27) (ht.fr p0 (.inr rfl)) (l:=[2,4,5,7]) (Rw.rd (s:=1) (n:=4) (c:=4) r28 rfl) 1) ?_
 rintro v29 h29 ⟨f29,rfl⟩
 have f29_z:=f29.size
 replace p0:=p0.F f29
 replace r12:=r12.F f29
 replace p12:=p12.F f29
 replace r23:=r23.F f29
 replace p23:=p23.F f29
 replace p27:=p27.F f29
 replace r28:=r28.F f29
 rw [kz29]
 clear r28
 simp -dsimp only [go_sem,r12.cell,r23.cell]
 clear t27 p27
 refine call_of (c_law12_fenced 4) ?_
 rintro v30 h30 ⟨f30,q30,rfl,t30⟩
 have f30_z:=f30.size
 replace p0:=p0.F f30
 replace r12:=r12.F f30
 replace p12:=p12.F f30
 replace r23:=r23.F f30
 replace p23:=p23.F f30
 have p30:Fr 0 0 h30 h30:=.refl _ _ _
 simp -dsimp only [go_sem,r12.cell,r23.cell]
 intro b31 h31 n31
 have n31_z:=n31.az
 replace p0:=p0.F n31.f0
 replace r12:=r12.F n31.f0
 replace p12:=p12.F n31.f0
 replace r23:=r23.F n31.f0
 replace p23:=p23.F n31.f0
 replace p30:=p30.F n31.f0
 have r31:=n31.row
 simp -dsimp only [go_sem,r12.cell,r23.cell,r31.cell]
 refine call_of (c_law12_sc (g:=(fenG 4)) (t30.fr p30) (ht.fr p0 (.inr rfl)) (l:=[2,4,5,7]) (Rw.rd (s:=1) (n:=4) (c:=4) r31 rfl) 1) ?_
 rintro v32 h32 ⟨f32,rfl⟩
 have f32_z:=f32.size
 replace p0:=p0.F f32
 replace r12:=r12.F f32
 replace p12:=p12.F f32
 replace r23:=r23.F f32
 replace p23:=p23.F f32
 replace p30:=p30.F f32
 replace r31:=r31.F f32
 rw [kz32]
 clear r31
 simp -dsimp only [go_sem,r12.cell,r23.cell]
 clear t30 p30
 refine call_of (c_law12_fenced 5) ?_
 rintro v33 h33 ⟨f33,q33,rfl,t33⟩
 have f33_z:=f33.size
 replace p0:=p0.F f33
 replace r12:=r12.F f33
 replace p12:=p12.F f33
 replace r23:=r23.F f33
 replace p23:=p23.F f33
 have p33:Fr 0 0 h33 h33:=.refl _ _ _
 simp -dsimp only [go_sem,r12.cell,r23.cell]
 intro b34 h34 n34
 have n34_z:=n34.az
 replace p0:=p0.F n34.f0
 replace r12:=r12.F n34.f0
 replace p12:=p12.F n34.f0
 replace r23:=r23.F n34.f0
 replace p23:=p23.F n34.f0
 replace p33:=p33.F n34.f0
 have r34:=n34.row
 simp -dsimp only [go_sem,r12.cell,r23.cell,r34.cell]
 refine call_of (c_law12_tso (g:=(fenG 5)) (t33.fr p33) (ht.fr p0 (.inr rfl)) (l:=[2,4,5,7]) (Rw.rd (s:=1) (n:=4) (c:=4) r34 rfl) 3) ?_
 rintro v35 h35 ⟨f35,rfl⟩
 have f35_z:=f35.size
 replace p0:=p0.F f35
 replace r12:=r12.F f35
 replace p12:=p12.F f35
 replace r23:=r23.F f35
 replace p23:=p23.F f35
 replace p33:=p33.F f35
 replace r34:=r34.F f35
 rw [kz35]
 clear r34
 simp -dsimp only [go_sem,r12.cell,r23.cell]
 clear t33 p33
 refine call_of (c_law12_fenced 4) ?_
 rintro v36 h36 ⟨f36,q36,rfl,t36⟩
 have f36_z:=f36.size
 replace p0:=p0.F f36
 replace r12:=r12.F f36
 replace p12:=p12.F f36
 replace r23:=r23.F f36
 replace p23:=p23.F f36
 have p36:Fr 0 0 h36 h36:=.refl _ _ _
 simp -dsimp only [go_sem,r12.cell,r23.cell]
 refine call_of (c_law12_tso (g:=(fenG 4)) (t36.fr p36) (ht.fr p0 (.inr rfl)) (l:=[]) nilJ 0) ?_
 rintro v37 h37 ⟨f37,rfl⟩
 have f37_z:=f37.size
 replace p0:=p0.F f37
 replace r12:=r12.F f37
 replace p12:=p12.F f37
 replace r23:=r23.F f37
 replace p23:=p23.F f37
 replace p36:=p36.F f37
 rw [kz37]
 simp -dsimp only [go_sem,r12.cell,r23.cell]
 clear t36 p36
 refine call_of (c_law12_load) ?_
 rintro v38 h38 ⟨f38,q38,rfl,t38⟩
 have f38_z:=f38.size
 replace p0:=p0.F f38
 replace r12:=r12.F f38
 replace p12:=p12.F f38
 replace r23:=r23.F f38
 replace p23:=p23.F f38
 have p38:Fr 0 0 h38 h38:=.refl _ _ _
 simp -dsimp only [go_sem,r12.cell,r23.cell]
 intro b39 h39 n39
 have n39_z:=n39.az
 replace p0:=p0.F n39.f0
 replace r12:=r12.F n39.f0
 replace p12:=p12.F n39.f0
 replace r23:=r23.F n39.f0
 replace p23:=p23.F n39.f0
 replace p38:=p38.F n39.f0
 have r39:=n39.row
 simp -dsimp only [go_sem,r12.cell,r23.cell,r39.cell]
 refine call_of (c_law12_sc (g:=lodG) (t38.fr p38) (ht.fr p0 (.inr rfl)) (l:=[2,3,4,5]) (Rw.rd (s:=1) (n:=4) (c:=4) r39 rfl) 1) ?_
 rintro v40 h40 ⟨f40,rfl⟩
 have f40_z:=f40.size
 replace p0:=p0.F f40
 replace r12:=r12.F f40
 replace p12:=p12.F f40
 replace r23:=r23.F f40
 replace p23:=p23.F f40
 replace p38:=p38.F f40
 replace r39:=r39.F f40
 rw [kz40]
 clear r39
 simp -dsimp only [go_sem,r12.cell,r23.cell]
 clear t38 p38
 intro b41 h41 n41
 have n41_z:=n41.az
 replace p0:=p0.F n41.f0
 replace r12:=r12.F n41.f0
 replace p12:=p12.F n41.f0
 replace r23:=r23.F n41.f0
 replace p23:=p23.F n41.f0
 have r41:=n41.row
 simp -dsimp only [go_sem,r12.cell,r23.cell,r41.cell]
 refine call_of (c_law12_sc (g:=kpG) (u12.fr p12) (ht.fr p0 (.inr rfl)) (l:=[3,4,5,6]) (Rw.rd (s:=1) (n:=4) (c:=4) r41 rfl) 1) ?_
 rintro v42 h42 ⟨f42,rfl⟩
 have f42_z:=f42.size
 replace p0:=p0.F f42
 replace r12:=r12.F f42
 replace p12:=p12.F f42
 replace r23:=r23.F f42
 replace p23:=p23.F f42
 replace r41:=r41.F f42
 rw [kz42]
 clear r41
 simp -dsimp only [go_sem,r12.cell,r23.cell]
 refine call_of (c_law12_tso (g:=kpG) (u12.fr p12) (ht.fr p0 (.inr rfl)) (l:=[]) nilJ 0) ?_
 rintro v43 h43 ⟨f43,rfl⟩
 have f43_z:=f43.size
 replace p0:=p0.F f43
 replace r12:=r12.F f43
 replace p12:=p12.F f43
 replace r23:=r23.F f43
 replace p23:=p23.F f43
 rw [kz43]
 simp -dsimp only [go_sem,r12.cell,r23.cell]
 intro b44 h44 n44
 have n44_z:=n44.az
 replace p0:=p0.F n44.f0
 replace r12:=r12.F n44.f0
 replace p12:=p12.F n44.f0
 replace r23:=r23.F n44.f0
 replace p23:=p23.F n44.f0
 have r44:=n44.row
 simp -dsimp only [go_sem,r12.cell,r23.cell,r44.cell]
 refine call_of (c_law12_sc (g:=ktG) (u23.fr p23) (ht.fr p0 (.inr rfl)) (l:=[2,3]) (Rw.rd (s:=1) (n:=2) (c:=2) r44 rfl) 2) ?_
 rintro v45 h45 ⟨f45,rfl⟩
 have f45_z:=f45.size
 replace p0:=p0.F f45
 replace r12:=r12.F f45
 replace p12:=p12.F f45
 replace r23:=r23.F f45
 replace p23:=p23.F f45
 replace r44:=r44.F f45
 rw [kz45]
 clear r44
 simp -dsimp only [go_sem,r12.cell,r23.cell]
 intro b46 h46 n46
 have n46_z:=n46.az
 replace p0:=p0.F n46.f0
 replace r12:=r12.F n46.f0
 replace p12:=p12.F n46.f0
 replace r23:=r23.F n46.f0
 replace p23:=p23.F n46.f0
 have r46:=n46.row
 simp -dsimp only [go_sem,r12.cell,r23.cell,r46.cell]
 refine call_of (c_law12_tso (g:=ktG) (u23.fr p23) (ht.fr p0 (.inr rfl)) (l:=[2,3]) (Rw.rd (s:=1) (n:=2) (c:=2) r46 rfl) 2) ?_
 rintro v47 h47 ⟨f47,rfl⟩
 have f47_z:=f47.size
 replace p0:=p0.F f47
 replace r12:=r12.F f47
 replace p12:=p12.F f47
 replace r23:=r23.F f47
 replace p23:=p23.F f47
 replace r46:=r46.F f47
 rw [kz47]
 clear r46
 simp -dsimp only [go_sem,r12.cell,r23.cell]
 clear u23 p23 r23
 refine call_of (c_law12_fenced 5) ?_
 rintro v48 h48 ⟨f48,q48,rfl,t48⟩
 have f48_z:=f48.size
 replace p0:=p0.F f48
 replace r12:=r12.F f48
 replace p12:=p12.F f48
 have p48:Fr 0 0 h48 h48:=.refl _ _ _
 simp -dsimp only [go_sem,r12.cell]
 refine call_of (seq_Mapped (g:=(fenG 5)) (t48.fr p48) true (by omega)) ?_
 rintro v49 h49 ⟨f49,w49⟩
 have f49_z:=f49.size
 replace p0:=p0.F f49
 replace r12:=r12.F f49
 replace p12:=p12.F f49
 replace p48:=p48.F f49
 rw [if_pos kc49,kg49] at w49
 obtain ⟨q49,rfl,o49⟩:=w49
 have t49:=o49.at_
 clear o49
 have p49:Fr 0 0 h49 h49:=.refl _ _ _
 unfold gcells
 simp -dsimp only [go_sem,r12.cell]
 intro b50 h50 n50
 have n50_z:=n50.az
 replace p0:=p0.F n50.f0
 replace r12:=r12.F n50.f0
 replace p12:=p12.F n50.f0
 replace p48:=p48.F n50.f0
 replace p49:=p49.F n50.f0
 have r50:=n50.row
 simp -dsimp only [go_sem,r12.cell,r50.cell]
 refine Chk_intro (r50.W) fun h51 s51=>?_
 have s51_z:=s51.size
 replace p0:=p0.F s51.fr
 replace r12:=r12.F s51.fr
 replace p12:=p12.F s51.fr
 replace p48:=p48.F s51.fr
 replace p49:=p49.F s51.fr
 replace r50:=s51.row r50
 try simp only [cl_int,cl_bool,cl_slice,cl_ptr,putAt_one,zs0,zs1,ivec_set,brow_upd] at r50
 try simp -dsimp only [go_sem] at r50
 simp -dsimp only [go_sem,r12.cell,r50.cell]
 clear t48 p48
 refine call_of (c_law12_fenced 4) ?_
 rintro v52 h52 ⟨f52,q52,rfl,t52⟩
 have f52_z:=f52.size
 replace p0:=p0.F f52
 replace r12:=r12.F f52
 replace p12:=p12.F f52
 replace p49:=p49.F f52
 replace r50:=r50.F f52
 have p52:Fr 0 0 h52 h52:=.refl _ _ _
 simp -dsimp only [go_sem,r12.cell,r50.cell]
 refine call_of (seq_Mapped (g:=(fenG 4)) (t52.fr p52) false (by omega)) ?_
 rintro v53 h53 ⟨f53,w53⟩
 have f53_z:=f53.size
 replace p0:=p0.F f53
 replace r12:=r12.F f53
 replace p12:=p12.F f53
 replace p49:=p49.F f53
 replace r50:=r50.F f53
 replace p52:=p52.F f53
 rw [if_pos kc53,kg53] at w53
 obtain ⟨q53,rfl,o53⟩:=w53
 have t53:=o53.at_
 clear o53
 have p53:Fr 0 0 h53 h53:=.refl _ _ _
 unfold gcells
 simp -dsimp only [go_sem,r12.cell,r50.cell]
 intro b54 h54 n54
 have n54_z:=n54.az
 replace p0:=p0.F n54.f0
 replace r12:=r12.F n54.f0
 replace p12:=p12.F n54.f0
 replace p49:=p49.F n54.f0
 replace r50:=r50.F n54.f0
 replace p52:=p52.F n54.f0
 replace p53:=p53.F n54.f0
 have r54:=n54.row
 simp -dsimp only [go_sem,r12.cell,r50.cell,r54.cell]
 refine Chk_intro (r54.W) fun h55 s55=>?_
 have s55_z:=s55.size
 replace p0:=p0.F s55.fr
 replace r12:=r12.F s55.fr
 replace p12:=p12.F s55.fr
 replace p49:=p49.F s55.fr
 replace r50:=r50.F s55.fr
 replace p52:=p52.F s55.fr
 replace p53:=p53.F s55.fr
 replace r54:=s55.row r54
 try simp only [cl_int,cl_bool,cl_slice,cl_ptr,putAt_one,zs0,zs1,ivec_set,brow_upd] at r54
 try simp -dsimp only [go_sem] at r54
 simp -dsimp only [go_sem,r12.cell,r50.cell,r54.cell]
 clear t52 p52
 refine call_of (seq_Mapped (g:=kpG) (u12.fr p12) true (by omega)) ?_
 rintro v56 h56 ⟨f56,w56⟩
 have f56_z:=f56.size
 replace p0:=p0.F f56
 replace r12:=r12.F f56
 replace p12:=p12.F f56
 replace p49:=p49.F f56
 replace r50:=r50.F f56
 replace p53:=p53.F f56
 replace r54:=r54.F f56
 rw [if_pos kc56,kg56] at w56
 obtain ⟨q56,rfl,o56⟩:=w56
 have t56:=o56.at_
 clear o56
 have p56:Fr 0 0 h56 h56:=.refl _ _ _
 unfold gcells
 simp -dsimp only [go_sem,r12.cell,r50.cell,r54.cell]
 intro b57 h57 n57
 have n57_z:=n57.az
 replace p0:=p0.F n57.f0
 replace r12:=r12.F n57.f0
 replace p12:=p12.F n57.f0
 replace p49:=p49.F n57.f0
 replace r50:=r50.F n57.f0
 replace p53:=p53.F n57.f0
 replace r54:=r54.F n57.f0
 replace p56:=p56.F n57.f0
 have r57:=n57.row
 simp -dsimp only [go_sem,r12.cell,r50.cell,r54.cell,r57.cell]
 refine Chk_intro (r57.W) fun h58 s58=>?_
 have s58_z:=s58.size
 replace p0:=p0.F s58.fr
 replace r12:=r12.F s58.fr
 replace p12:=p12.F s58.fr
 replace p49:=p49.F s58.fr
 replace r50:=r50.F s58.fr
 replace p53:=p53.F s58.fr
 replace r54:=r54.F s58.fr
 replace p56:=p56.F s58.fr
 replace r57:=s58.row r57
 try simp only [cl_int,cl_bool,cl_slice,cl_ptr,putAt_one,zs0,zs1,ivec_set,brow_upd] at r57
 try simp -dsimp only [go_sem] at r57
 simp -dsimp only [go_sem,r12.cell,r50.cell,r54.cell,r57.cell]
 clear u12 p12 r12
 refine call_of (c_law12_load) ?_
 rintro v59 h59 ⟨f59,q59,rfl,t59⟩
 have f59_z:=f59.size
 replace p0:=p0.F f59
 replace p49:=p49.F f59
 replace r50:=r50.F f59
 replace p53:=p53.F f59
 replace r54:=r54.F f59
 replace p56:=p56.F f59
 replace r57:=r57.F f59
 have p59:Fr 0 0 h59 h59:=.refl _ _ _
 simp -dsimp only [go_sem,r50.cell,r54.cell,r57.cell]
 refine call_of (seq_Mapped (g:=lodG) (t59.fr p59) true (by omega)) ?_
 rintro v60 h60 ⟨f60,w60⟩
 have f60_z:=f60.size
 replace p0:=p0.F f60
 replace p49:=p49.F f60
 replace r50:=r50.F f60
 replace p53:=p53.F f60
 replace r54:=r54.F f60
 replace p56:=p56.F f60
 replace r57:=r57.F f60
 replace p59:=p59.F f60
 rw [if_pos kc60,kg60] at w60
 obtain ⟨q60,rfl,o60⟩:=w60
 have t60:=o60.at_
 clear o60
 have p60:Fr 0 0 h60 h60:=.refl _ _ _
 unfold gcells
 simp -dsimp only [go_sem,r50.cell,r54.cell,r57.cell]
 intro b61 h61 n61
 have n61_z:=n61.az
 replace p0:=p0.F n61.f0
 replace p49:=p49.F n61.f0
 replace r50:=r50.F n61.f0
 replace p53:=p53.F n61.f0
 replace r54:=r54.F n61.f0
 replace p56:=p56.F n61.f0
 replace r57:=r57.F n61.f0
 replace p59:=p59.F n61.f0
 replace p60:=p60.F n61.f0
 have r61:=n61.row
 simp -dsimp only [go_sem,r50.cell,r54.cell,r57.cell,r61.cell]
 refine Chk_intro (r61.W) fun h62 s62=>?_
 have s62_z:=s62.size
 replace p0:=p0.F s62.fr
 replace p49:=p49.F s62.fr
 replace r50:=r50.F s62.fr
 replace p53:=p53.F s62.fr
 replace r54:=r54.F s62.fr
 replace p56:=p56.F s62.fr
 replace r57:=r57.F s62.fr
 replace p59:=p59.F s62.fr
 replace p60:=p60.F s62.fr
 replace r61:=s62.row r61
 try simp only [cl_int,cl_bool,cl_slice,cl_ptr,putAt_one,zs0,zs1,ivec_set,brow_upd] at r61
 try simp -dsimp only [go_sem] at r61
 simp -dsimp only [go_sem,r50.cell,r54.cell,r57.cell,r61.cell]
 clear t59 p59
 obtain ⟨eb1,eo1,ee1,ev1⟩:=t49.evs (by decide)
 obtain ⟨-,-,-,-,m1⟩:=ev1 h62 p49 3 (by decide)
 obtain ⟨eb2,eo2,ee2,ev2⟩:=t53.evs (by decide)
 obtain ⟨-,-,-,-,m2⟩:=ev2 h62 p53 3 (by decide)
 have ee1:q49.e=some ⟨eb1,eo1,none⟩:=ee1
 have ee2:q53.e=some ⟨eb2,eo2,none⟩:=ee2
 have m1:hcell h62 eb1 (eo1+Int.toNat 3 * 5+4)=some (.int .i64 15):=m1
 have m2:hcell h62 eb2 (eo2+Int.toNat 3 * 5+4)=some (.int .i64 15):=m2
 have e8:(((8:Nat):Int) != 8)=false:=rfl
 have e8l:((3:Int)<((8:Nat):Int)):=by decide
 have e0:(((0:Nat):Int) != 0)=false:=rfl
 have e15:((15:Int) != 15)=false:=rfl
 simp -dsimp only [go_sem,e8,e8l,e0,e15,ee1,ee2,m1,m2,r50.cell,r54.cell,r57.cell,r61.cell]
 clear m1 m2 ev1 ev2 t49 t53 p49 p53 r50 r54
 refine call_of (arm_Check (t60.fr p60) (ht.fr p0 (.inr rfl))) ?_
 rintro v63 h63 ⟨f63,w63⟩
 have f63_z:=f63.size
 replace p0:=p0.F f63
 replace p56:=p56.F f63
 replace r57:=r57.F f63
 replace p60:=p60.F f63
 replace r61:=r61.F f63
 rw [if_pos ka1] at w63
 obtain ⟨x63,rfl,y63⟩:=w63
 clear y63
 rw [ka2]
 clear t60 p60 r61
 simp -dsimp only [go_sem,r57.cell]
 refine call_of (seq_Mapped (g:=zeroG) zero_at false (by omega)) ?_
 rintro v64 h64 ⟨f64,w64⟩
 have f64_z:=f64.size
 replace p0:=p0.F f64
 replace p56:=p56.F f64
 replace r57:=r57.F f64
 rw [if_pos kh1,kh2] at w64
 obtain ⟨q64,rfl,o64⟩:=w64
 clear o64
 unfold gcells
 simp -dsimp only [go_sem,r57.cell]
 intro b65 h65 n65
 have n65_z:=n65.az
 replace p0:=p0.F n65.f0
 replace p56:=p56.F n65.f0
 replace r57:=r57.F n65.f0
 have r65:=n65.row
 simp -dsimp only [go_sem,r57.cell,r65.cell]
 refine Chk_intro (r65.W) fun h66 s66=>?_
 have s66_z:=s66.size
 replace p0:=p0.F s66.fr
 replace p56:=p56.F s66.fr
 replace r57:=r57.F s66.fr
 replace r65:=s66.row r65
 try simp only [cl_int,cl_bool,cl_slice,cl_ptr,putAt_one,zs0,zs1,ivec_set,brow_upd] at r65
 try simp -dsimp only [go_sem] at r65
 simp -dsimp only [go_sem,r57.cell,r65.cell]
 obtain ⟨cb,co,ce,ch⟩:=t56.c.pairsAt (by decide)
 obtain ⟨c1,c2⟩:=ch h66 p56 0 _ rfl
 obtain ⟨c3,c4⟩:=ch h66 p56 1 _ rfl
 have ce:q56.c=some ⟨cb,co,none⟩:=ce
 have c1:hcell h66 cb (co+Int.toNat 0 * 2)=some (.int .i64 2):=c1
 have c2:hcell h66 cb (co+Int.toNat 0 * 2+1)=some (.int .i64 3):=c2
 have c3:hcell h66 cb (co+Int.toNat 1 * 2)=some (.int .i64 2):=c3
 have c4:hcell h66 cb (co+Int.toNat 1 * 2+1)=some (.int .i64 4):=c4
 have i0:((0:Int)<((2:Nat):Int)):=by decide
 have i1:((1:Int)<((2:Nat):Int)):=by decide
 have j2:(((2:Nat):Int)==2)=true:=rfl
 have j0:((zeroG.evs.length:Int)==0)=true:=rfl
 simp -dsimp only [go_sem,j2,j0,i0,i1,ce,c1,c2,c3,c4,r57.cell,r65.cell]
 refine call_of (c_law12_sc (g:=zeroG) zero_at (ht.fr p0 (.inr rfl)) (l:=[]) nilJ 0) ?_
 rintro v67 h67 ⟨f67,rfl⟩
 have f67_z:=f67.size
 replace p0:=p0.F f67
 replace p56:=p56.F f67
 replace r57:=r57.F f67
 replace r65:=r65.F f67
 rw [kx1]
 simp -dsimp only [go_sem,r57.cell,r65.cell]
 refine call_of (c_law12_tso (g:=zeroG) zero_at (ht.fr p0 (.inr rfl)) (l:=[]) nilJ 0) ?_
 rintro v68 h68 ⟨f68,rfl⟩
 have f68_z:=f68.size
 replace p0:=p0.F f68
 replace p56:=p56.F f68
 replace r57:=r57.F f68
 replace r65:=r65.F f68
 rw [kx2]
 simp -dsimp only [go_sem,r57.cell,r65.cell]
 exact p0
end Go.Proofs.Tst
/-
  SeqKnown and its arguments.
-/
namespace Go.Proofs.Tst
end Go.Proofs.Tst
