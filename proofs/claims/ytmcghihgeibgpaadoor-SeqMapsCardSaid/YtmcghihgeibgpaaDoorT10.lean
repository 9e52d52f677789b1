/-
  Contracts of functions that the law reaches: what each returns and what it leaves in memory. Conditions stand in each.
-/
import Derived.Test.YtmcghihgeibgpaaDoorT9
set_option linter.all false
set_option maxRecDepth 2000
/-
  The document's answers of chapter 12: mapped, Mapped.
-/
namespace Go.Proofs.Tst
open Go Go.Vc
theorem ref12_mapped {h:Heap} (k m:Int):Con Tryd.prog 51 #[.int .i64 k,.int .i64 m] h fun v h'=>h'=h∧v=.int .i64 (mapMode k m):=by
 refine con_q69 ?_
 unfold mapMode
 by_cases h3:k=3
 ·by_cases h2:m=2
  ·simp -dsimp only [go_sem,h3,h2,beq_self_eq_true]
  ·simp -dsimp only [go_sem,h3,beq_self_eq_true,beq_f h2,h2]
 ·by_cases h1':m=1
  ·simp -dsimp only [go_sem,beq_f h3,h3,h1',beq_self_eq_true]
  ·by_cases hk:k=1
   ·simp -dsimp only [go_sem,beq_f h3,h3,beq_f h1',h1',hk,beq_self_eq_true]
    simp
   ·simp -dsimp only [go_sem,beq_f h3,h3,beq_f h1',h1',beq_f hk,hk]
theorem tab_addrY {h:Heap} {lo hi:Nat} {a:Option Addr} {c n:Nat} {R:Nat→Nat} {M:Mx} (t:Tab h lo hi (.slice a n c) n n R M) (hn:0<n):∃ b o,a=some ⟨b,o,none⟩∧∀ p,p<n→hcell h b (o+p)=some (sl (R p) n n):=by
 obtain ⟨hl,a',c',h1,h2⟩:=t.own.rd
 cases h1
 rcases h2 with h2 | ⟨b,o,rfl,hc⟩
 ·omega
 ·exact ⟨b,o,rfl,fun p hp=>hc p _ (rowsV_get hp)⟩
theorem seq_shift {P:Program} {y:Option Nat} {a X X':GC} {Q:Post} {J:Env→Heap→Prop} {e:Env} {h:Heap} (k:∀ e h,vc P y X' (thenQ J Q) e h→vc P y X Q e h) (w:vc P y (.seq a X') (thenQ J Q) e h):vc P y (.seq a X) Q e h:=
 vc_mono (c:=a) (Q:=thenQ (vc P y X' (thenQ J Q)) (thenQ J Q)) (Q':=thenQ (vc P y X Q) Q) (fun x e h hq=>by
  cases x with
  | normal=>exact k _ _ hq
  | ret=>exact hq
  | exit j=>exact hq) w
theorem w_joint4 {P:Program} {y:Option Nat} {a b c d r:GC} {Q:Post} {e:Env} {h:Heap} (J:Env→Heap→Prop) (h1:vc P y (.seq a (.seq b (.seq c d))) (thenQ J Q) e h) (h2:∀ e h,J e h→vc P y r Q e h):vc P y (.seq a (.seq b (.seq c (.seq d r)))) Q e h:=
 seq_shift (fun _ _=>seq_shift fun _ _=>seq_shift fun _ _ w=>w_joint J w h2) h1
section
variable {h : Heap} {q : GV} {g : Gr}
set_option maxHeartbeats 16000000 in
theorem ref12_Mapped (t:GrAt h q g) (lse:Bool) (hz:0<h.size) :
  Con Tryd.prog 14 #[.agg (gcells q g).toArray,.bool lse] h fun v h'=>Fr 0 0 h h'∧if (g.check false).1=0 then ∃ q',v=.tuple #[.agg (gcells q' (mapG g lse)).toArray,.int .i64 0]∧GrOwn h' q' (mapG g lse) h.size
   else v=.tuple #[.agg nil8.toArray,.int .i64 4]:=by
 have p0:Fr 0 0 h h:=.refl _ _ _
 refine con_q66 ?_
 by_cases hc:(g.check false).1=0
 rotate_left
 ·simp only [if_neg hc]
  unfold gcells
  simp -dsimp only [go_sem]
  intro b2 h1 n1
  have n1_a:=n1.at_
  have n1_z:=n1.size
  replace p0:=p0.F n1.f0
  have r2:=n1.row
  simp -dsimp only [go_sem,r2.cell]
  intro b4 h2 n2
  have n2_a:=n2.at_
  have n2_z:=n2.size
  replace p0:=p0.F n2.f0
  replace r2:=r2.F n2.f0
  have r4:=n2.row
  simp -dsimp only [go_sem,r2.cell,r4.cell]
  refine call_of (ref8_Check (t.fr p0) false) ?_
  rintro v3 h3 ⟨f3,rfl⟩
  have f3_z:=f3.size
  replace p0:=p0.F f3
  replace r2:=r2.F f3
  replace r4:=r4.F f3
  simp -dsimp only [go_sem,bne_f hc,r2.cell,r4.cell]
  refine Chk_intro (r4.W) fun h4 s4=>?_
  have s4_z:=s4.size
  replace p0:=p0.F s4.fr
  replace r2:=r2.F s4.fr
  replace r4:=s4.row r4
  try simp only [cl_int,cl_bool,cl_slice,cl_ptr,putAt_one,zs0,zs1,ivec_set,brow_upd] at r4
  try simp -dsimp only [go_sem] at r4
  simp -dsimp only [go_sem,r2.cell,r4.cell]
  first | exact p0 | exact ⟨p0,rfl⟩
 simp only [if_pos hc]
 have hg:g.good=true:=good_false hc
 have hn:=(good_n hg).1
 have hen:g.evs.length=g.n:=rfl
 have br:=t.fits.r
 obtain ⟨hda,hdd,hdc⟩:=src_deps hc
 unfold gcells
 simp -dsimp only [go_sem]
 intro b2 h1 n1
 have n1_a:=n1.at_
 have n1_z:=n1.size
 replace p0:=p0.F n1.f0
 have r2:=n1.row
 simp -dsimp only [go_sem,r2.cell]
 intro b4 h2 n2
 have n2_a:=n2.at_
 have n2_z:=n2.size
 replace p0:=p0.F n2.f0
 replace r2:=r2.F n2.f0
 have r4:=n2.row
 simp -dsimp only [go_sem,r2.cell,r4.cell]
 refine call_of (ref8_Check (t.fr p0) false) ?_
 rintro v3 h3 ⟨f3,rfl⟩
 have f3_z:=f3.size
 replace p0:=p0.F f3
 replace r2:=r2.F f3
 replace r4:=r4.F f3
 simp -dsimp only [go_sem,bne_t hc,r2.cell,r4.cell]
 refine call_of (ref8_CopiedX (t.fr p0) (by omega)) ?_
 rintro v5 h5 ⟨f5,q',rfl,w5,x5⟩
 have f5_z:=f5.size
 replace p0:=p0.F f5
 replace r2:=r2.F f5
 replace r4:=r4.F f5
 obtain ⟨us,M,B,ob,ov⟩:=w5.mm hda hdd hdc x5
 clear w5 x5
 have ovt:=ov.top
 unfold gcells
 rw [hda,hdd,hdc]
 simp -dsimp only [go_sem,r2.cell,r4.cell]
 intro b8 h6 n8
 have n8_z:=n8.az
 replace p0:=p0.F n8.f0
 replace r2:=r2.F n8.f0
 replace r4:=r4.F n8.f0
 have r8:=n8.row
 replace M:=M.up B n8.f0 (by omega)
 replace ov:=ov.fr n8.f0 (by omega)
 simp -dsimp only [go_sem,r2.cell,r4.cell,r8.cell]
 refine Chk_intro (r8.W) fun h7 s7=>?_
 have s7_z:=s7.size
 replace p0:=p0.F s7.fr
 replace r2:=r2.F s7.fr
 replace r4:=r4.F s7.fr
 replace r8:=s7.row r8
 try simp only [cl_int,cl_bool,cl_slice,cl_ptr,putAt_one,zs0,zs1,ivec_set,brow_upd] at r8
 replace M:=M.up B s7.fr (by omega)
 replace ov:=ov.fr s7.fr (by omega)
 try simp -dsimp only [go_sem] at r8
 simp -dsimp only [go_sem,r2.cell,r4.cell,r8.cell]
 refine call_of (ref8_Po (t.fr p0) hn) ?_
 rintro v9 h9 ⟨f9,t9⟩
 have f9_z:=f9.size
 replace p0:=p0.F f9
 replace r2:=r2.F f9
 replace r4:=r4.F f9
 replace r8:=r8.F f9
 replace M:=M.up B f9 (by omega)
 replace ov:=ov.fr f9 (by omega)
 obtain ⟨ap,cp,rfl⟩:=ra_is' t9
 simp -dsimp only [go_sem,r2.cell,r4.cell,r8.cell]
 intro b9 h10 n10
 have n10_z:=n10.az
 replace p0:=p0.F n10.f0
 replace r2:=r2.F n10.f0
 replace r4:=r4.F n10.f0
 replace r8:=r8.F n10.f0
 have r9:=n10.row
 replace M:=M.up B n10.f0 (by omega)
 replace ov:=ov.fr n10.f0 (by omega)
 replace t9:=t9.fr n10.f0 (by omega)
 simp -dsimp only [go_sem,r2.cell,r4.cell,r8.cell,r9.cell]
 refine Chk_intro (r9.W) fun h11 s11=>?_
 have s11_z:=s11.size
 replace p0:=p0.F s11.fr
 replace r2:=r2.F s11.fr
 replace r4:=r4.F s11.fr
 replace r8:=r8.F s11.fr
 replace r9:=s11.row r9
 try simp only [cl_int,cl_bool,cl_slice,cl_ptr,putAt_one,zs0,zs1,ivec_set,brow_upd] at r9
 replace M:=M.up B s11.fr (by omega)
 replace ov:=ov.fr s11.fr (by omega)
 replace t9:=t9.fr s11.fr (by omega)
 try simp -dsimp only [go_sem] at r9
 obtain ⟨Rp,tp⟩:=refAt_row t9
 clear t9
 simp -dsimp only [go_sem,r2.cell,r4.cell,r8.cell,r9.cell]
 have hv:∀ i,i<0→False:=fun i hi=>absurd hi (by omega)
 clear hv
 have hlE:g.evs.length=g.n:=rfl
 have R8:Rw h11 b8 [.int .i64 g.cells,.slice q'.e g.n q'.ec,.slice q'.f g.rf.length q'.fc,.slice q'.o g.co.length q'.oc,.slice q'.r g.rmw.length q'.rc,.slice q'.a 0 q'.ac,.slice q'.d 0 q'.dc,.slice q'.c 0 q'.cc]:=r8
 have R4:Rw h11 b4 nil8:=r4
 have R2:Rw h11 b2 (gcells q g):=r2
 have gz:h.size≤h3.size∧h.size≤b2∧b2<h3.size∧h.size≤b4∧b4<h3.size∧b2≠b4∧h3.size≤h5.size∧h5.size≤b8∧b8<h7.size∧h7.size≤h9.size∧h9.size≤b9∧b9<h11.size∧0<h3.size:=by omega
 have m0:mapTo g 0=[]:=rfl
 clear r2 r4 r8 hen
 refine loop_intro (fun s:Nat×Option Addr×Nat=>[(1,.bool lse),(2,.pointer (some ⟨b2,0,none⟩)),(4,.pointer (some ⟨b4,0,none⟩)),(8,.pointer (some ⟨b8,0,none⟩)),(9,.pointer (some ⟨b9,0,none⟩)),(10,.int .i64 s.1)])
  (fun s h'=>s.1≤g.n∧Fr 0 0 h h'∧h11.size≤h'.size∧Rw h' b2 (gcells q g)∧Rw h' b4 nil8 ∧
   Rw h' b8 [.int .i64 g.cells,.slice q'.e g.n q'.ec,.slice q'.f g.rf.length q'.fc,.slice q'.o g.co.length q'.oc,.slice q'.r g.rmw.length q'.rc,.slice q'.a 0 q'.ac,.slice q'.d 0 q'.dc,.slice s.2.1 (mapTo g s.1).length s.2.2] ∧
   Rw h' b9 [.int .i64 g.n,.slice ap g.n cp]∧MMem h' q' us g (evsTo g lse s.1) h3.size∧Holder 2 h' (.slice s.2.1 (mapTo g s.1).length s.2.2) (mapTo g s.1).length (pairsV (mapTo g s.1)) h3.size ∧
   OffAll q' us g (.slice s.2.1 (mapTo g s.1).length s.2.2)∧(bh (.slice s.2.1 (mapTo g s.1).length s.2.2)≤h5.size∨h11.size≤bl (.slice s.2.1 (mapTo g s.1).length s.2.2)) ∧
   Tab h' h7.size h9.size (.slice ap g.n cp) g.n g.n Rp (relM g 0)) (fun s=>g.n - s.1) (0,q'.c,q'.cc) ?_ ?_ ?_
 ·simp [Le,find]
 ·exact ⟨by omega,p0,by omega,R2,R4,R8,r9,by rw [evsTo_zero];exact M,ov,ob,.inl ovt,tp⟩
 clear p0 r9 M ov ob ovt tp R2 R4 R8 m0
 rintro ⟨i,va,vc⟩ h12 ⟨hi,p0,z12,r2,r4,r8,r9,M,ov,ob,od,tp⟩
 dsimp only at hi r8 M ov ob od ⊢
 unfold gcells at r2
 unfold nil8 at r4
 by_cases hlt:i<g.n
 rotate_left
 ·obtain rfl:i=g.n:=by omega
  have p0_z:=p0.size
  have r2_l:=r2.lt
  have r4_l:=r4.lt
  have r8_l:=r8.lt
  simp -dsimp only [go_sem,Int.lt_irrefl,r2.cell,r4.cell,r8.cell]
  refine Chk_intro (r4.W) fun h13 s13=>?_
  have s13_z:=s13.size
  replace p0:=p0.F s13.fr
  replace r2:=r2.F s13.fr
  replace r8:=r8.F s13.fr
  replace r4:=s13.row r4
  try simp only [cl_int,cl_bool,cl_slice,cl_ptr,putAt_one,zs0,zs1,ivec_set,brow_upd] at r4
  have f13:=s13.fr
  have hE:(mapG g lse).evs.length=g.n:=mapG_n
  have obl:=bh_bl (.slice va (mapTo g g.n).length vc)
  have oat:=ov.at_
  replace ov:=ov.fr f13 (by omega)
  replace M:=M.down f13 (by omega)
  try simp -dsimp only [go_sem] at r4
  simp -dsimp only [go_sem,r2.cell,r4.cell,r8.cell]
  refine ⟨p0,{ q' with c:=va,cc:=vc },?_,(M.own B ov ob t.fits hn).lower gz.1⟩
  rw [hE];rfl
 have e1:((i:Int)<(g.n:Int)):=by omega
 have e1':((i:Int)<(g.evs.length:Int)):=e1
 obtain ⟨eb,eo,hee,hev⟩:=t.evs (by omega)
 obtain ⟨c0,c1,c2,c3,c4⟩:=hev h12 p0 i hlt
 obtain ⟨be,hbe,l1,l2,w1,w2⟩:=M.ev B hlt
 rw [hbe] at r8
 rw [hee] at r2
 have p0_z:=p0.size
 have r2_l:=r2.lt
 have r4_l:=r4.lt
 have r8_l:=r8.lt
 have r9_l:=r9.lt
 refine w_jointE (fun _:Unit=>[(1,.bool lse),(2,.pointer (some ⟨b2,0,none⟩)),(4,.pointer (some ⟨b4,0,none⟩)),(8,.pointer (some ⟨b8,0,none⟩)),(9,.pointer (some ⟨b9,0,none⟩)),(10,.int .i64 i),(30,.bool true)]) (fun _ h'=>h'=h12) ?_ ?_
 ·simp -dsimp only [go_sem,e1,r2.cell,r4.cell,r8.cell,r9.cell]
  exact ⟨(),trivial⟩
 rintro _ h' hh
 obtain rfl:h12=h':=hh.symm
 have lE:bl (.slice q'.e g.n q'.ec)=be∧bh (.slice q'.e g.n q'.ec)=be+1:=by rw [hbe];exact ⟨rfl,rfl⟩
 have oE:=ob _ (.inl rfl)
 have obl:=bh_bl (.slice va (mapTo g i).length vc)
 unfold Off at oE
 rw [lE.1,lE.2] at oE
 rw [w_seq,w_block]
 refine w_joint4 (fun e h'=>Le [(1,.bool lse),(2,.pointer (some ⟨b2,0,none⟩)),(4,.pointer (some ⟨b4,0,none⟩)),(8,.pointer (some ⟨b8,0,none⟩)),(9,.pointer (some ⟨b9,0,none⟩)),(10,.int .i64 i)] e∧Fr 0 0 h h'∧Fr be (be+1) h12 h'∧MMem h' q' us g (evsTo g lse (i+1)) h3.size) ?_ ?_
 ·have I12:Fr be (be+1) h12 h12:=.refl _ _ _
  simp -dsimp only [go_sem,e1,e1',c1,c4,r2.cell,r4.cell,r8.cell,r9.cell]
  refine call_of (ref12_mapped _ _) ?_
  rintro v13 h13 ⟨hh,rfl⟩
  obtain rfl:h12=h13:=hh.symm
  simp -dsimp only [go_sem,e1,e1',c1,c4,r2.cell,r4.cell,r8.cell,r9.cell]
  refine Chk_intro w1 fun h13 s13=>?_
  have f13:=s13.fr
  replace M:=w2 _ _ s13
  have f13_z:=f13.size
  replace p0:=p0.F f13
  replace r2:=r2.F f13
  replace r4:=r4.F f13
  replace r8:=r8.F f13
  replace r9:=r9.F f13
  have I13:=I12.trans f13
  clear w1 w2
  simp -dsimp only [go_sem,r2.cell,r4.cell,r8.cell,r9.cell]
  have P13:=p0
  refine loop_intro (fun k:Nat=>[(1,.bool lse),(2,.pointer (some ⟨b2,0,none⟩)),(4,.pointer (some ⟨b4,0,none⟩)),(8,.pointer (some ⟨b8,0,none⟩)),(9,.pointer (some ⟨b9,0,none⟩)),(10,.int .i64 i),(11,.bool (tiedTo g i k)),(12,.int .i64 k)])
   (fun k h'=>k≤g.rmw.length∧h'=h13) (fun k=>g.rmw.length - k) 0 ?_ ?_ ?_
  ·simp [Le,find,tiedTo]
  ·exact ⟨by omega,rfl⟩
  rintro k h14 ⟨hk,hh⟩
  obtain rfl:h14=h13:=hh
  by_cases hkl:k<g.rmw.length
  ·have e2:((k:Int)<(g.rmw.length:Int)):=by omega
   have hq:g.rmw[k]?=some g.rmw[k]:=List.getElem?_eq_getElem hkl
   generalize g.rmw[k]=pr at hq
   obtain ⟨rb,ro,hre,hrc⟩:=t.r.pairsAt (by omega)
   obtain ⟨k1,k2⟩:=hrc h14 p0 k _ hq
   have hts:=tiedTo_succ (i:=i) hq
   cases hti:tiedTo g i k
   ·rw [hti] at hts
    simp -dsimp only [go_sem,e2,hre,k1,k2,r2.cell,r4.cell,r8.cell,r9.cell]
    simp -dsimp (disch:=omega) only [wrap64]
    exact ⟨k+1,by omega,by simp [Le,find,hts],by omega⟩
   ·rw [hti] at hts
    simp -dsimp only [go_sem,e2,r2.cell,r4.cell,r8.cell,r9.cell]
    simp -dsimp (disch:=omega) only [wrap64]
    exact ⟨k+1,by omega,by simp [Le,find,hts],by omega⟩
  obtain rfl:k=g.rmw.length:=by omega
  rw [tiedTo_end]
  have hs1:=fun (hl:lseB g lse i=false)=>setMode_one hlt hl
  obtain ⟨-,d1,-,-,d4⟩:=hev h14 p0 i hlt
  have hk1:lseB g lse i=true→lse=true∧(g.ev i).kind=1∧(g.ev i).mode=2∧pairB g i=false:=fun hl=>by unfold lseB at hl;simpa [and_assoc] using hl
  by_cases hlb:lseB g lse i=true
  ·obtain ⟨a1,a2,a3,a4⟩:=hk1 hlb
   rw [a4]
   subst a1
   obtain ⟨be',hbe',m1,m2,w1,w2⟩:=M.ev B hlt
   obtain rfl:be=be':=by rw [hbe] at hbe';simpa using hbe'
   simp -dsimp only [go_sem,Int.lt_irrefl,e1,e1',d1,d4,beq_t a2,beq_t a3,r2.cell,r4.cell,r8.cell,r9.cell]
   refine Chk_intro w1 fun h15 s15=>?_
   have f15:=s15.fr
   replace M:=w2 _ _ s15
   rw [setMode_two hlt hlb] at M
   have I15:=I13.trans f15
   have f15_z:=f15.size
   replace p0:=p0.F f15
   replace r2:=r2.F f15
   replace r4:=r4.F f15
   replace r8:=r8.F f15
   replace r9:=r9.F f15
   simp -dsimp only [go_sem,r2.cell,r4.cell,r8.cell,r9.cell]
   exact ⟨by simp [Le,find],p0,I15,M⟩
  rw [Bool.not_eq_true] at hlb
  rw [setMode_one hlt hlb] at M
  have fin:∀ {P:Prop},(Fr 0 0 h h14∧Fr be (be+1) h12 h14∧MMem h14 q' us g (evsTo g lse (i+1)) h3.size→P)→P:=fun k=>k ⟨p0,I13,M⟩
  cases lse
  ·simp -dsimp only [go_sem,Int.lt_irrefl,r2.cell,r4.cell,r8.cell,r9.cell]
   exact ⟨by simp [Le,find],fin id⟩
  cases hti:pairB g i
  rotate_left
  ·simp -dsimp only [go_sem,Int.lt_irrefl,r2.cell,r4.cell,r8.cell,r9.cell]
   exact ⟨by simp [Le,find],fin id⟩
  by_cases a2:(g.ev i).kind=1
  rotate_left
  ·simp -dsimp only [go_sem,Int.lt_irrefl,e1',d1,beq_f a2,r2.cell,r4.cell,r8.cell,r9.cell]
   exact ⟨by simp [Le,find],fin id⟩
  have a3:¬ (g.ev i).mode=2:=fun a3=>by
   unfold lseB at hlb
   rw [a2,a3,hti] at hlb
   simp at hlb
  simp -dsimp only [go_sem,Int.lt_irrefl,e1',d1,d4,beq_t a2,beq_f a3,r2.cell,r4.cell,r8.cell,r9.cell]
  exact ⟨by simp [Le,find],fin id⟩
 rintro e h13 ⟨⟨x1,x2,x4,x8,x9,x10,-⟩,p0,I12,M⟩
 have z13:h12.size≤h13.size:=I12.size
 replace ov:=ov.fr I12 (by omega)
 replace tp:=tp.fr I12 (by omega)
 replace r2:=r2.F I12
 replace r4:=r4.F I12
 replace r8:=r8.F I12
 replace r9:=r9.F I12
 obtain ⟨pb,po',hpp,aP⟩:=tab_addrY tp (by omega)
 subst hpp
 have Z8:=r8
 rw [← hbe] at Z8
 have Z2:=r2
 rw [← hee] at Z2
 have Z2:Rw h13 b2 (gcells q g):=Z2
 have Z4:Rw h13 b4 nil8:=r4
 simp -dsimp only [go_sem,x1,x2,x4,x8,x9,x10,r2.cell,r4.cell,r8.cell,r9.cell]
 refine loop_intro (fun s:Nat×Option Addr×Nat=>[(1,.bool lse),(2,.pointer (some ⟨b2,0,none⟩)),(4,.pointer (some ⟨b4,0,none⟩)),(8,.pointer (some ⟨b8,0,none⟩)),(9,.pointer (some ⟨b9,0,none⟩)),(10,.int .i64 i),(13,.int .i64 s.1)])
  (fun s h'=>s.1≤g.n∧Fr 0 0 h h'∧h11.size≤h'.size∧Rw h' b2 (gcells q g)∧Rw h' b4 nil8 ∧
   Rw h' b8 [.int .i64 g.cells,.slice q'.e g.n q'.ec,.slice q'.f g.rf.length q'.fc,.slice q'.o g.co.length q'.oc,.slice q'.r g.rmw.length q'.rc,.slice q'.a 0 q'.ac,.slice q'.d 0 q'.dc,.slice s.2.1 (mapTo' g i s.1).length s.2.2] ∧
   Rw h' b9 [.int .i64 g.n,.slice (some ⟨pb,po',none⟩) g.n cp]∧MMem h' q' us g (evsTo g lse (i+1)) h3.size∧Holder 2 h' (.slice s.2.1 (mapTo' g i s.1).length s.2.2) (mapTo' g i s.1).length (pairsV (mapTo' g i s.1)) h3.size ∧
   OffAll q' us g (.slice s.2.1 (mapTo' g i s.1).length s.2.2)∧(bh (.slice s.2.1 (mapTo' g i s.1).length s.2.2)≤h5.size∨h11.size≤bl (.slice s.2.1 (mapTo' g i s.1).length s.2.2)) ∧
   Tab h' h7.size h9.size (.slice (some ⟨pb,po',none⟩) g.n cp) g.n g.n Rp (relM g 0)) (fun s=>g.n - s.1) (0,va,vc) ?_ ?_ ?_
 ·simp [Le,find,x1,x2,x4,x8,x9,x10]
 ·dsimp only
  rw [mapTo'_zero]
  exact ⟨by omega,p0,by omega,Z2,Z4,Z8,r9,M,ov,ob,od,tp⟩
 clear p0 r2 r4 r8 r9 M ov ob od tp Z2 Z4 Z8 x1 x2 x4 x8 x9 x10 oE obl w1 w2 c0 c1 c2 c3 c4 I12 z13 aP
 rintro ⟨b,va,vc⟩ h14 ⟨hb,p0,z14,r2,r4,r8,r9,M,ov,ob,od,tp⟩
 dsimp only at hb r8 ov ob od ⊢
 unfold gcells at r2
 unfold nil8 at r4
 have Z8:=r8
 rw [hbe] at r8
 have Z2:Rw h14 b2 (gcells q g):=r2
 rw [hee] at r2
 by_cases hbl:b<g.n
 rotate_left
 ·obtain rfl:b=g.n:=by omega
  have p0_z:=p0.size
  have r2_l:=r2.lt
  have r4_l:=r4.lt
  have r8_l:=r8.lt
  have r9_l:=r9.lt
  simp -dsimp only [go_sem,Int.lt_irrefl,r2.cell,r4.cell,r8.cell,r9.cell]
  simp -dsimp (disch:=omega) only [wrap64]
  refine ⟨(i+1,va,vc),by dsimp only;omega,by simp [Le,find],?_⟩
  dsimp only
  rw [← mapTo'_end]
  exact ⟨by omega,p0,by omega,Z2,r4,Z8,r9,M,ov,ob,od,tp⟩
 have e3:((b:Int)<(g.n:Int)):=by omega
 obtain ⟨-,c1,-,-,c4⟩:=hev h14 p0 i hlt
 obtain ⟨pb',po'',hpp,aP⟩:=tab_addrY tp (by omega)
 cases hpp
 have aPi:=aP i hlt
 have mP:=tp.cell hlt hbl
 have hsu:=mapTo'_succ (g:=g) (i:=i) (b:=b)
 have same:(rlxB g i&&relM g 0 i b)=false→mapTo' g i (b+1)=mapTo' g i b:=fun hx=>by rw [hsu,hx];simp
 have p0_z:=p0.size
 have r2_l:=r2.lt
 have r4_l:=r4.lt
 have r8_l:=r8.lt
 have r9_l:=r9.lt
 cases hp:relM g 0 i b
 ·rw [hp] at mP same
  simp -dsimp only [go_sem,e3,e1,aPi,mP,r2.cell,r4.cell,r8.cell,r9.cell]
  simp -dsimp (disch:=omega) only [wrap64]
  refine ⟨(b+1,va,vc),by dsimp only;omega,by simp [Le,find],?_⟩
  dsimp only
  rw [same (by simp)]
  exact ⟨by omega,p0,by omega,Z2,r4,Z8,r9,M,ov,ob,od,tp⟩
 rw [hp] at mP
 by_cases a2:(g.ev i).kind=1
 rotate_left
 ·simp -dsimp only [go_sem,e3,e1,e1',aPi,mP,c1,beq_f a2,r2.cell,r4.cell,r8.cell,r9.cell]
  simp -dsimp (disch:=omega) only [wrap64]
  refine ⟨(b+1,va,vc),by dsimp only;omega,by simp [Le,find],?_⟩
  dsimp only
  rw [same (by unfold rlxB;simp [a2])]
  exact ⟨by omega,p0,by omega,Z2,r4,Z8,r9,M,ov,ob,od,tp⟩
 by_cases a5:(g.ev i).mode=1
 rotate_left
 ·simp -dsimp only [go_sem,e3,e1,e1',aPi,mP,c1,c4,beq_t a2,beq_f a5,r2.cell,r4.cell,r8.cell,r9.cell]
  simp -dsimp (disch:=omega) only [wrap64]
  refine ⟨(b+1,va,vc),by dsimp only;omega,by simp [Le,find],?_⟩
  dsimp only
  rw [same (by unfold rlxB;simp [a5])]
  exact ⟨by omega,p0,by omega,Z2,r4,Z8,r9,M,ov,ob,od,tp⟩
 have hrl:rlxB g i=true:=by unfold rlxB;simp [a2,a5]
 rw [hrl,hp] at hsu
 simp only [Bool.and_self,if_true] at hsu
 have hlen1:=mapTo'_len (g:=g) (i:=i) (b:=b) (by omega) hn (by omega)
 simp -dsimp only [go_sem,e3,e1,e1',aPi,mP,c1,c4,beq_t a2,beq_t a5,r2.cell,r4.cell,r8.cell,r9.cell]
 intro b22 h22 n22
 have n22_z:=n22.az
 replace p0:=p0.F n22.f0
 replace r2:=r2.F n22.f0
 replace r4:=r4.F n22.f0
 replace r8:=r8.F n22.f0
 replace r9:=r9.F n22.f0
 have r22:=n22.row
 replace M:=M.up B n22.f0 (by omega)
 replace ov:=ov.fr n22.f0 (by omega)
 replace tp:=tp.fr n22.f0 (by omega)
 replace Z8:=Z8.fr n22.f0 (by omega)
 replace Z2:=Z2.fr n22.f0 (by omega)
 simp -dsimp only [go_sem,r2.cell,r4.cell,r8.cell,r9.cell,r22.cell]
 have oat:=ov.at_
 have obl:=bh_bl (.slice va (mapTo' g i b).length vc)
 refine ov.append (by omega) rfl (by omega) (by simp) (by omega) fun v23 h23 o_new f23 e23=>?_
 have z23:=f23.size
 have o_at:=o_new.at_
 have o_bl:=bh_bl v23
 have ob':=ob.app B (by omega) e23 (by omega)
 have od':bh v23≤h5.size∨h11.size≤bl v23:=by omega
 replace M:=M.cf f23 ob
 replace tp:=tp.fr f23 (by omega)
 replace Z8:=Z8.fr f23 (by omega)
 replace Z2:=Z2.fr f23 (by omega)
 have f23_z:=f23.size
 replace p0:=p0.F f23
 replace r2:=r2.F f23
 replace r4:=r4.F f23
 replace r8:=r8.F f23
 replace r9:=r9.F f23
 clear e23 ov ob od oat
 have hn1:(mapTo' g i b).length+1=(mapTo' g i (b+1)).length:=by rw [hsu];simp only [List.length_append,List.length_cons,List.length_nil]
 have hn2:pairsV (mapTo' g i b)++[.int .i64 i,.int .i64 b]=pairsV (mapTo' g i (b+1)):=by rw [hsu,pairsV_append (mapTo' g i b) [((i:Int),(b:Int))]];rfl
 rw [hn1,hn2] at o_new
 obtain ⟨va2,vc2,rfl⟩:=o_new.is
 simp -dsimp only [go_sem,r2.cell,r4.cell,r8.cell,r9.cell]
 refine Chk_intro (r8.wr (by simp)) fun h24 s24=>?_
 have f24:=s24.fr
 have z24:=f24.size
 have r8':=s24.row Z8
 have r9':=r9
 replace M:=M.up B f24 (by omega)
 replace tp:=tp.fr f24 (by omega)
 replace Z2:=Z2.fr f24 (by omega)
 replace r4:=r4.F f24
 replace r9':=r9'.fr f24 (by omega)
 replace p0:=p0.F f24
 replace o_new:=o_new.fr f24 (by omega)
 replace r8':Rw h24 b8 [.int .i64 g.cells,.slice q'.e g.n q'.ec,.slice q'.f g.rf.length q'.fc,.slice q'.o g.co.length q'.oc,.slice q'.r g.rmw.length q'.rc,.slice q'.a 0 q'.ac,.slice q'.d 0 q'.dc,.slice va2 (mapTo' g i (b+1)).length vc2]:=r8'
 clear r8 r9
 simp -dsimp only [go_sem,r2.cell,r4.cell]
 simp -dsimp (disch:=omega) only [wrap64]
 refine ⟨(b+1,va2,vc2),by dsimp only;omega,by simp [Le,find],?_⟩
 dsimp only
 exact ⟨by omega,p0,by omega,Z2,r4,r8',r9',M,o_new,ob',od',tp⟩
end
end Go.Proofs.Tst
/-
  SeqMaps.
-/
namespace Go.Proofs.Tst
open Go Go.Vc
theorem wr_sto {h h':Heap} {b o n b' o':Nat} {ws:List Value} (w:Wr h b o n) (s:Sto h h' b' o' ws):Wr h' b o n:=by
 rw [s.eq]
 clear s
 by_cases hb:b'=b
 ·subst hb
  induction ws generalizing h o' with
  | nil=>exact w
  | cons v ws ih=>exact ih (w.set o' v)
 ·obtain ⟨t,c,h1,h2⟩:=w
  exact ⟨t,c,by unfold Blk at *;rw [hputs_old _ _ _ _ _ (fun e=>hb e.symm)];exact h1,h2⟩
def WrS (h:Heap) (a:Option Addr) (s o n A B:Nat):Prop:=0<n→∃ b,a=some ⟨b,0,none⟩∧A≤b∧b<B∧∀ i,i<n→Wr h b (i * s+o) 1
theorem WrS.sto {h h':Heap} {a:Option Addr} {s o n A B b o':Nat} {ws:List Value} (w:WrS h a s o n A B) (st:Sto h h' b o' ws):WrS h' a s o n A B:=fun hn=>by
 obtain ⟨b,h1,h2,h3,h4⟩:=w hn
 exact ⟨b,h1,h2,h3,fun i hi=>wr_sto (h4 i hi) st⟩
theorem WrS.of {h:Heap} {a:Option Addr} {c s o n A:Nat} {xs:List Value} (w:Holder s h (.slice a n c) n xs A) (ho:o<s):WrS h a s o n A h.size:=fun hn=>by
 have hl:=w.1
 obtain ⟨b,c',rest,h1,h2,h3,h4⟩:=w.blk hn
 cases h1
 refine ⟨b,rfl,h4,h2.lt,fun i hi=>h2.wr ?_⟩
 have:(i+1) * s≤n * s:=Nat.mul_le_mul_right s hi
 rw [Nat.add_mul] at this
 rw [List.length_append];omega
structure SpAt (h:Heap) (q:GV) (g:Gr) (A B:Nat):Prop where
 e:WrS h q.e 5 4 g.evs.length A B
 f:WrS h q.f 2 0 g.rf.length A B
 r:WrS h q.r 2 0 g.rmw.length A B
 o:0<g.co.length→∃ bo,q.o=some ⟨bo,0,none⟩∧(∀ b,(0<g.evs.length∧q.e=some ⟨b,0,none⟩)∨(0<g.rf.length∧q.f=some ⟨b,0,none⟩)∨(0<g.rmw.length∧q.r=some ⟨b,0,none⟩)→b≠bo) ∧
  ∀ c,c<g.co.length→∃ a k,hcell h bo c=some (.slice a (g.co.getD c []).length k)∧WrS h a 1 0 (g.co.getD c []).length A B∧∀ b,a=some ⟨b,0,none⟩→0<(g.co.getD c []).length→b≠bo
theorem SpAt.sto {h h':Heap} {q:GV} {g:Gr} {A B b o:Nat} {ws:List Value} (w:SpAt h q g A B) (s:Sto h h' b o ws) (hb:∀ bo,0<g.co.length→q.o=some ⟨bo,0,none⟩→b≠bo):SpAt h' q g A B:=by
 refine ⟨w.e.sto s,w.f.sto s,w.r.sto s,fun hn=>?_⟩
 obtain ⟨bo,h1,h2,h3⟩:=w.o hn
 refine ⟨bo,h1,h2,fun c hc=>?_⟩
 obtain ⟨a,k,h4,h5,h6⟩:=h3 c hc
 have:=hb bo hn h1
 exact ⟨a,k,s.fr.keep h4 (by omega),h5.sto s,h6⟩
theorem wr_fr {h h':Heap} {b o n:Nat} (w:Wr h b o n) (f:Fr 0 0 h h'):Wr h' b o n:=by
 obtain ⟨t,c,h1,h2⟩:=w
 have hb:b<h.size:=(Array.getElem?_eq_some_iff.1 h1).1
 exact ⟨t,c,(f.old b hb (by omega)).trans h1,h2⟩
theorem WrS.fr {h h':Heap} {a:Option Addr} {s o n A B:Nat} (w:WrS h a s o n A B) (f:Fr 0 0 h h'):WrS h' a s o n A B:=fun hn=>by
 obtain ⟨b,h1,h2,h3,h4⟩:=w hn
 exact ⟨b,h1,h2,h3,fun i hi=>wr_fr (h4 i hi) f⟩
theorem SpAt.fr {h h':Heap} {q:GV} {g:Gr} {A B:Nat} (w:SpAt h q g A B) (f:Fr 0 0 h h'):SpAt h' q g A B:=by
 refine ⟨w.e.fr f,w.f.fr f,w.r.fr f,fun hn=>?_⟩
 obtain ⟨bo,h1,h2,h3⟩:=w.o hn
 refine ⟨bo,h1,h2,fun c hc=>?_⟩
 obtain ⟨a,k,h4,h5,h6⟩:=h3 c hc
 exact ⟨a,k,f.keep h4 (by omega),h5.fr f,h6⟩
theorem GrOwn.sp {h:Heap} {q:GV} {g:Gr} {A:Nat} (w:GrOwn h q g A):SpAt h q g A h.size:=by
 obtain ⟨us,o1,o2,o3⟩:=w.o
 refine ⟨.of w.e (by omega),.of w.f (by omega),.of w.r (by omega),fun hn=>?_⟩
 have hown:=o1.own
 rw [List.length_map] at hown
 obtain ⟨bo,c',rest,h1,h2,h3,h4⟩:=hown.blk hn
 have hq:q.o=some ⟨bo,0,none⟩:=by injection h1
 have hO:bl (.slice q.o g.co.length q.oc)=bo∧bh (.slice q.o g.co.length q.oc)=bo+1:=by rw [hq];exact ⟨rfl,rfl⟩
 have ne:∀ {a:Option Addr} {n c b:Nat},Off (.slice q.o g.co.length q.oc) (.slice a n c)→a=some ⟨b,0,none⟩→b≠bo:=fun hf hb=>by
  subst hb
  unfold Off at hf
  rw [hO.1,hO.2] at hf
  simp only [bl,bh] at hf
  omega
 refine ⟨bo,hq,fun b hb=>?_,fun c hc=>?_⟩
 ·rcases hb with ⟨-,hb⟩ | ⟨-,hb⟩ | ⟨-,hb⟩
  ·exact ne (o3 _ (.inl rfl) (.slice q.e g.evs.length q.ec) (by simp)) hb
  ·exact ne (o3 _ (.inl rfl) (.slice q.f g.rf.length q.fc) (by simp)) hb
  ·exact ne (o3 _ (.inl rfl) (.slice q.r g.rmw.length q.rc) (by simp)) hb
 ·have hl:us.length=g.co.length:=by rw [o1.len,List.length_map]
  have hu:us[c]?=some us[c]:=List.getElem?_eq_getElem (by omega)
  have hg:(g.co.map intsV)[c]?=some (intsV (g.co.getD c [])):=by
   rw [List.getElem?_map,List.getD_eq_getElem?_getD,List.getElem?_eq_getElem hc];rfl
  have oh:=o1.at_ c _ _ hu hg
  rw [length_intsV] at oh
  obtain ⟨a,k,ha⟩:=oh.is
  have hoff:=o1.off _ (List.mem_of_getElem? hu)
  rw [ha] at oh hoff hu
  refine ⟨a,k,?_,.of oh (by omega),fun b hb hn'=>?_⟩
  ·rw [h2.cell,List.getElem?_append_left (by omega),hu]
  ·exact ne hoff.symm hb
def mapR (g:Gr) (lse:Bool):Gr:=if (g.check false).1=0 then mapG g lse else zeroG
def mapC (g:Gr):Int:=if (g.check false).1=0 then 0 else 4
theorem zero_own {h:Heap} {lo:Nat}:GrOwn h ⟨none,none,none,none,none,none,none,0,0,0,0,0,0,0⟩ zeroG lo:=by
 refine ⟨.none _ _ _,.none _ _ _,⟨[],.nil,.nil,fun w hw x hx=>?_⟩,.none _ _ _,.none _ _ _,.none _ _ _,.none _ _ _,fun x hx=>.inl rfl,?_⟩
 ·rcases hw with rfl | hw
  ·exact .inl rfl
  ·cases hw
 ·constructor <;> simp [zeroG]
theorem map_res {g:Gr} {lse:Bool} {v:Value} {h':Heap} {lo:Nat} (w:if (g.check false).1=0 then ∃ q',v=.tuple #[.agg (gcells q' (mapG g lse)).toArray,.int .i64 0]∧GrOwn h' q' (mapG g lse) lo else v=.tuple #[.agg nil8.toArray,.int .i64 4]) :
  ∃ q',v=.tuple #[.agg (gcells q' (mapR g lse)).toArray,.int .i64 (mapC g)]∧GrOwn h' q' (mapR g lse) lo:=by
 unfold mapR mapC
 by_cases hc:(g.check false).1=0
 ·simp only [if_pos hc] at w ⊢;exact w
 ·simp only [if_neg hc] at w ⊢
  exact ⟨⟨none,none,none,none,none,none,none,0,0,0,0,0,0,0⟩,w,zero_own⟩
set_option maxHeartbeats 8000000 in
theorem c_law12_SeqMaps {h:Heap} {q:GV} {g:Gr} (t:GrAt h q g) (lse:Bool) (ht:TabAt h) :
  Con Tryd.prog 3 #[.agg (gcells q g).toArray,.bool lse] h fun v h'=>Fr 0 0 h h'∧v=.bool true:=by
 refine con_q27 ?_
 have hz:0<h.size:=hcell_lt (ht 0 0 rfl)
 have p0:Fr 0 0 h h:=.refl _ _ _
 unfold gcells
 simp -dsimp only [go_sem]
 intro b2 h1 n1
 have n1_z:=n1.az
 replace p0:=p0.F n1.f0
 have r2:=n1.row
 simp -dsimp only [go_sem,r2.cell]
 refine call_of (ref8_Copied (t.fr p0) (by omega)) ?_
 rintro v2 h2 ⟨f2,q',rfl,w⟩
 have f2_z:=f2.size
 replace p0:=p0.F f2
 replace r2:=r2.F f2
 have t':=w.at_
 clear w
 have p2:Fr 0 0 h2 h2:=.refl _ _ _
 unfold gcells
 simp -dsimp only [go_sem,r2.cell]
 intro b5 h3 n3
 have n3_z:=n3.az
 replace p0:=p0.F n3.f0
 replace r2:=r2.F n3.f0
 replace p2:=p2.F n3.f0
 have r5:=n3.row
 simp -dsimp only [go_sem,r2.cell,r5.cell]
 refine Chk_intro (r5.W) fun h4 s4=>?_
 have s4_z:=s4.size
 replace p0:=p0.F s4.fr
 replace r2:=r2.F s4.fr
 replace p2:=p2.F s4.fr
 replace r5:=s4.row r5
 try simp only [cl_int,cl_bool,cl_slice,cl_ptr,putAt_one,zs0,zs1,ivec_set,brow_upd] at r5
 simp -dsimp only [go_sem] at r5
 simp -dsimp only [go_sem,r2.cell,r5.cell]
 refine call_of (seq_Mapped (t'.fr p2) lse (by omega)) ?_
 rintro v6 h6 ⟨f6,w6⟩
 have f6_z:=f6.size
 replace p0:=p0.F f6
 replace r2:=r2.F f6
 replace p2:=p2.F f6
 replace r5:=r5.F f6
 obtain ⟨qa,rfl,wa⟩:=map_res w6
 clear w6
 have p6:Fr 0 0 h6 h6:=.refl _ _ _
 unfold gcells
 simp -dsimp only [go_sem,r2.cell,r5.cell]
 intro b6 h7 n7
 have n7_z:=n7.az
 replace p0:=p0.F n7.f0
 replace r2:=r2.F n7.f0
 replace p2:=p2.F n7.f0
 replace r5:=r5.F n7.f0
 replace p6:=p6.F n7.f0
 have r6:=n7.row
 simp -dsimp only [go_sem,r2.cell,r5.cell,r6.cell]
 refine Chk_intro (r6.W) fun h8 s8=>?_
 have s8_z:=s8.size
 replace p0:=p0.F s8.fr
 replace r2:=r2.F s8.fr
 replace p2:=p2.F s8.fr
 replace r5:=r5.F s8.fr
 replace p6:=p6.F s8.fr
 replace r6:=s8.row r6
 try simp only [cl_int,cl_bool,cl_slice,cl_ptr,putAt_one,zs0,zs1,ivec_set,brow_upd] at r6
 try simp -dsimp only [go_sem] at r6
 simp -dsimp only [go_sem,r2.cell,r5.cell,r6.cell]
 refine call_of (seq_Mapped (t'.fr p2) lse (by omega)) ?_
 rintro v9 h9 ⟨f9,w9⟩
 have f9_z:=f9.size
 replace p0:=p0.F f9
 replace r2:=r2.F f9
 replace p2:=p2.F f9
 replace r5:=r5.F f9
 replace p6:=p6.F f9
 replace r6:=r6.F f9
 obtain ⟨qb,rfl,wb⟩:=map_res w9
 clear w9
 have p9:Fr 0 0 h9 h9:=.refl _ _ _
 unfold gcells
 simp -dsimp only [go_sem,r2.cell,r5.cell,r6.cell]
 intro b8 h10 n10
 have n10_z:=n10.az
 replace p0:=p0.F n10.f0
 replace r2:=r2.F n10.f0
 replace p2:=p2.F n10.f0
 replace r5:=r5.F n10.f0
 replace p6:=p6.F n10.f0
 replace r6:=r6.F n10.f0
 replace p9:=p9.F n10.f0
 have r8:=n10.row
 simp -dsimp only [go_sem,r2.cell,r5.cell,r6.cell,r8.cell]
 refine Chk_intro (r8.W) fun h11 s11=>?_
 have s11_z:=s11.size
 replace p0:=p0.F s11.fr
 replace r2:=r2.F s11.fr
 replace p2:=p2.F s11.fr
 replace r5:=r5.F s11.fr
 replace p6:=p6.F s11.fr
 replace r6:=r6.F s11.fr
 replace p9:=p9.F s11.fr
 replace r8:=s11.row r8
 try simp only [cl_int,cl_bool,cl_slice,cl_ptr,putAt_one,zs0,zs1,ivec_set,brow_upd] at r8
 try simp -dsimp only [go_sem] at r8
 simp -dsimp only [go_sem,r2.cell,r5.cell,r6.cell,r8.cell]
 refine call_of (ref12_Mapped (t.fr p0) lse (by omega)) ?_
 rintro v12 h12 ⟨f12,w12⟩
 have f12_z:=f12.size
 replace p0:=p0.F f12
 replace r2:=r2.F f12
 replace p2:=p2.F f12
 replace r5:=r5.F f12
 replace p6:=p6.F f12
 replace r6:=r6.F f12
 replace p9:=p9.F f12
 replace r8:=r8.F f12
 obtain ⟨qw,rfl,ww⟩:=map_res w12
 clear w12
 have p12:Fr 0 0 h12 h12:=.refl _ _ _
 unfold gcells
 simp -dsimp only [go_sem,r2.cell,r5.cell,r6.cell,r8.cell]
 intro b10 h13 n13
 have n13_z:=n13.az
 replace p0:=p0.F n13.f0
 replace r2:=r2.F n13.f0
 replace p2:=p2.F n13.f0
 replace r5:=r5.F n13.f0
 replace p6:=p6.F n13.f0
 replace r6:=r6.F n13.f0
 replace p9:=p9.F n13.f0
 replace r8:=r8.F n13.f0
 replace p12:=p12.F n13.f0
 have r10:=n13.row
 simp -dsimp only [go_sem,r2.cell,r5.cell,r6.cell,r8.cell,r10.cell]
 refine Chk_intro (r10.W) fun h14 s14=>?_
 have s14_z:=s14.size
 replace p0:=p0.F s14.fr
 replace r2:=r2.F s14.fr
 replace p2:=p2.F s14.fr
 replace r5:=r5.F s14.fr
 replace p6:=p6.F s14.fr
 replace r6:=r6.F s14.fr
 replace p9:=p9.F s14.fr
 replace r8:=r8.F s14.fr
 replace p12:=p12.F s14.fr
 replace r10:=s14.row r10
 try simp only [cl_int,cl_bool,cl_slice,cl_ptr,putAt_one,zs0,zs1,ivec_set,brow_upd] at r10
 try simp -dsimp only [go_sem] at r10
 simp -dsimp only [go_sem,bne_self_eq_false,r2.cell,r5.cell,r6.cell,r8.cell,r10.cell]
 refine call_of (ref8_Alike (wa.fr p6 (by omega)).at_ (ww.fr p12 (by omega)).at_) ?_
 rintro v15 h15 ⟨f15,rfl⟩
 have f15_z:=f15.size
 replace p0:=p0.F f15
 replace r2:=r2.F f15
 replace p2:=p2.F f15
 replace r5:=r5.F f15
 replace p6:=p6.F f15
 replace r6:=r6.F f15
 replace p9:=p9.F f15
 replace r8:=r8.F f15
 replace p12:=p12.F f15
 replace r10:=r10.F f15
 simp -dsimp only [go_sem,r2.cell,r5.cell,r6.cell,r8.cell,r10.cell]
 refine call_of (ref8_Alike (wb.fr p9 (by omega)).at_ (ww.fr p12 (by omega)).at_) ?_
 rintro v16 hX ⟨f16,rfl⟩
 have f16_z:=f16.size
 replace p0:=p0.F f16
 replace r2:=r2.F f16
 replace p2:=p2.F f16
 replace r5:=r5.F f16
 replace p6:=p6.F f16
 replace r6:=r6.F f16
 replace p9:=p9.F f16
 replace r8:=r8.F f16
 replace p12:=p12.F f16
 replace r10:=r10.F f16
 simp -dsimp only [go_sem,r2.cell,r5.cell,r6.cell,r8.cell,r10.cell]
 have gz:h.size≤b2∧b2<h4.size∧h2.size≤b5∧b5<h4.size∧b2≠b5∧h4.size≤h6.size∧h6.size≤b6∧b6<h9.size∧h8.size≤h9.size∧h9.size≤b8∧b8<h12.size∧h11.size≤h12.size∧h12.size≤b10∧b10<hX.size∧h.size≤h2.size∧h2.size≤h4.size∧h6.size≤h8.size∧h9.size≤h11.size∧h12.size≤hX.size:=by omega
 have R2:Rw hX b2 (gcells q g):=r2
 have R5:Rw hX b5 (gcells q' g):=r5
 have R6:Rw hX b6 (gcells qa (mapR g lse)):=r6
 have R8:Rw hX b8 (gcells qb (mapR g lse)):=r8
 have R10:Rw hX b10 (gcells qw (mapR g lse)):=r10
 have wA:SpAt hX qa (mapR g lse) h4.size h6.size:=wa.sp.fr p6
 have wB:=wb.fr p9 (by omega)
 have wW:=ww.fr p12 (by omega)
 have P0:=p0
 have P2:=p2
 have ft:=wb.fits
 have fte:=ft.e
 have ftf:=ft.f
 have fto:=ft.o
 have ftr:=ft.r
 have w:=wA
 have pX:Fr h4.size h6.size hX hX:=.refl _ _ _
 clear wa wb ww p0 p2 p6 p9 p12 r2 r5 r6 r8 r10 wA
 refine loop_intro (fun i:Nat=>[(2,.pointer (some ⟨b2,0,none⟩)),(5,.pointer (some ⟨b5,0,none⟩)),(6,.pointer (some ⟨b6,0,none⟩)),(8,.pointer (some ⟨b8,0,none⟩)),(10,.pointer (some ⟨b10,0,none⟩)),(12,.int .i64 i)])
  (fun i h'=>i≤(mapR g lse).evs.length∧Fr h4.size h6.size hX h'∧SpAt h' qa (mapR g lse) h4.size h6.size) (fun i=>(mapR g lse).evs.length - i) 0 ?_ ?_ ?_
 ·simp [Le,find]
 ·exact ⟨by omega,pX,w⟩
 clear pX w
 rintro i hp_ ⟨hi,pX,w⟩
 have r6:=R6.fr pX (by omega)
 unfold gcells at r6
 by_cases hlt:i<(mapR g lse).evs.length
 ·have e1:((i:Int)<((mapR g lse).evs.length:Int)):=by omega
  obtain ⟨b,hb,l1,l2,w1⟩:=w.e (by omega)
  have w1:=w1 i hlt
  try simp only [Nat.add_zero] at w1
  rw [hb] at r6
  simp -dsimp only [go_sem,e1,r6.cell]
  refine Chk_intro w1 fun hq_ s_=>?_
  have f_:=s_.fr
  have w':=w.sto s_ fun bo hn ho=>by
   obtain ⟨bo',h1,h2,-⟩:=w.o hn
   rw [h1] at ho
   obtain rfl:bo'=bo:=by simpa using ho
   exact h2 b (.inl ⟨by omega,hb⟩)
  have pX':=pX.trans (f_.mono (lo':=h4.size) (hi':=h6.size) (by omega))
  clear r6
  simp -dsimp only [go_sem]
  try simp -dsimp (disch:=omega) only [wrap64]
  exact ⟨i+1,by omega,by simp [Le,find],by omega,pX',w'⟩
 obtain rfl:i=(mapR g lse).evs.length:=by omega
 simp -dsimp only [go_sem,Int.lt_irrefl,r6.cell]
 clear r6
 refine loop_intro (fun i:Nat=>[(2,.pointer (some ⟨b2,0,none⟩)),(5,.pointer (some ⟨b5,0,none⟩)),(6,.pointer (some ⟨b6,0,none⟩)),(8,.pointer (some ⟨b8,0,none⟩)),(10,.pointer (some ⟨b10,0,none⟩)),(13,.int .i64 i)])
  (fun i h'=>i≤(mapR g lse).rf.length∧Fr h4.size h6.size hX h'∧SpAt h' qa (mapR g lse) h4.size h6.size) (fun i=>(mapR g lse).rf.length - i) 0 ?_ ?_ ?_
 ·simp [Le,find]
 ·exact ⟨by omega,pX,w⟩
 clear pX w
 rintro i hp_ ⟨hi,pX,w⟩
 have r6:=R6.fr pX (by omega)
 unfold gcells at r6
 by_cases hlt:i<(mapR g lse).rf.length
 ·have e1:((i:Int)<((mapR g lse).rf.length:Int)):=by omega
  obtain ⟨b,hb,l1,l2,w1⟩:=w.f (by omega)
  have w1:=w1 i hlt
  try simp only [Nat.add_zero] at w1
  rw [hb] at r6
  simp -dsimp only [go_sem,e1,r6.cell]
  refine Chk_intro w1 fun hq_ s_=>?_
  have f_:=s_.fr
  have w':=w.sto s_ fun bo hn ho=>by
   obtain ⟨bo',h1,h2,-⟩:=w.o hn
   rw [h1] at ho
   obtain rfl:bo'=bo:=by simpa using ho
   exact h2 b (.inr (.inl ⟨by omega,hb⟩))
  have pX':=pX.trans (f_.mono (lo':=h4.size) (hi':=h6.size) (by omega))
  clear r6
  simp -dsimp only [go_sem]
  try simp -dsimp (disch:=omega) only [wrap64]
  exact ⟨i+1,by omega,by simp [Le,find],by omega,pX',w'⟩
 obtain rfl:i=(mapR g lse).rf.length:=by omega
 simp -dsimp only [go_sem,Int.lt_irrefl,r6.cell]
 clear r6
 refine loop_intro (fun i:Nat=>[(2,.pointer (some ⟨b2,0,none⟩)),(5,.pointer (some ⟨b5,0,none⟩)),(6,.pointer (some ⟨b6,0,none⟩)),(8,.pointer (some ⟨b8,0,none⟩)),(10,.pointer (some ⟨b10,0,none⟩)),(14,.int .i64 i)])
  (fun i h'=>i≤(mapR g lse).rmw.length∧Fr h4.size h6.size hX h'∧SpAt h' qa (mapR g lse) h4.size h6.size) (fun i=>(mapR g lse).rmw.length - i) 0 ?_ ?_ ?_
 ·simp [Le,find]
 ·exact ⟨by omega,pX,w⟩
 clear pX w
 rintro i hp_ ⟨hi,pX,w⟩
 have r6:=R6.fr pX (by omega)
 unfold gcells at r6
 by_cases hlt:i<(mapR g lse).rmw.length
 ·have e1:((i:Int)<((mapR g lse).rmw.length:Int)):=by omega
  obtain ⟨b,hb,l1,l2,w1⟩:=w.r (by omega)
  have w1:=w1 i hlt
  try simp only [Nat.add_zero] at w1
  rw [hb] at r6
  simp -dsimp only [go_sem,e1,r6.cell]
  refine Chk_intro w1 fun hq_ s_=>?_
  have f_:=s_.fr
  have w':=w.sto s_ fun bo hn ho=>by
   obtain ⟨bo',h1,h2,-⟩:=w.o hn
   rw [h1] at ho
   obtain rfl:bo'=bo:=by simpa using ho
   exact h2 b (.inr (.inr ⟨by omega,hb⟩))
  have pX':=pX.trans (f_.mono (lo':=h4.size) (hi':=h6.size) (by omega))
  clear r6
  simp -dsimp only [go_sem]
  try simp -dsimp (disch:=omega) only [wrap64]
  exact ⟨i+1,by omega,by simp [Le,find],by omega,pX',w'⟩
 obtain rfl:i=(mapR g lse).rmw.length:=by omega
 simp -dsimp only [go_sem,Int.lt_irrefl,r6.cell]
 clear r6
 refine loop_intro (fun i:Nat=>[(2,.pointer (some ⟨b2,0,none⟩)),(5,.pointer (some ⟨b5,0,none⟩)),(6,.pointer (some ⟨b6,0,none⟩)),(8,.pointer (some ⟨b8,0,none⟩)),(10,.pointer (some ⟨b10,0,none⟩)),(15,.int .i64 i)])
  (fun i h'=>i≤(mapR g lse).co.length∧Fr h4.size h6.size hX h'∧SpAt h' qa (mapR g lse) h4.size h6.size) (fun i=>(mapR g lse).co.length - i) 0 ?_ ?_ ?_
 ·simp [Le,find]
 ·exact ⟨by omega,pX,w⟩
 clear pX w
 rintro i hp_ ⟨hi,pX,w⟩
 have r6:=R6.fr pX (by omega)
 unfold gcells at r6
 by_cases hlt:i<(mapR g lse).co.length
 ·have e1:((i:Int)<((mapR g lse).co.length:Int)):=by omega
  clear r6
  have r6:=R6.fr pX (by omega)
  unfold gcells at r6
  simp -dsimp only [go_sem,e1,r6.cell]
  refine loop_intro (fun j:Nat=>[(2,.pointer (some ⟨b2,0,none⟩)),(5,.pointer (some ⟨b5,0,none⟩)),(6,.pointer (some ⟨b6,0,none⟩)),(8,.pointer (some ⟨b8,0,none⟩)),(10,.pointer (some ⟨b10,0,none⟩)),(15,.int .i64 i),(16,.int .i64 j)])
   (fun j h'=>j≤((mapR g lse).co.getD i []).length∧Fr h4.size h6.size hX h'∧SpAt h' qa (mapR g lse) h4.size h6.size) (fun j=>((mapR g lse).co.getD i []).length - j) 0 ?_ ?_ ?_
  ·simp [Le,find]
  ·exact ⟨by omega,pX,w⟩
  clear pX w r6
  rintro j hq_ ⟨hj,pX,w⟩
  have r6:=R6.fr pX (by omega)
  unfold gcells at r6
  obtain ⟨bo,hbo,n1_,n2_⟩:=w.o (by omega)
  obtain ⟨a,k,k1,k2,k3⟩:=n2_ i hlt
  rw [hbo] at r6
  have ftl:=ft.l ((mapR g lse).co.getD i []) (by rw [List.getD_eq_getElem?_getD,List.getElem?_eq_getElem hlt];exact List.getElem_mem hlt)
  by_cases hjl:j<((mapR g lse).co.getD i []).length
  ·have e2:((j:Int)<(((mapR g lse).co.getD i []).length:Int)):=by omega
   obtain ⟨b,rfl,l1,l2,w1⟩:=k2 (by omega)
   have w1:=w1 j hjl
   simp only [Nat.add_zero,Nat.mul_one] at w1
   simp -dsimp only [go_sem,e1,e2,k1,r6.cell]
   refine Chk_intro w1 fun hr_ s_=>?_
   have f_:=s_.fr
   have w':=w.sto s_ fun bo' hn ho=>by
    rw [hbo] at ho
    obtain rfl:bo=bo':=by simpa using ho
    exact k3 b rfl (by omega)
   have pX':=pX.trans (f_.mono (lo':=h4.size) (hi':=h6.size) (by omega))
   clear r6
   simp -dsimp only [go_sem]
   try simp -dsimp (disch:=omega) only [wrap64]
   exact ⟨j+1,by omega,by simp [Le,find],by omega,pX',w'⟩
  obtain rfl:j=((mapR g lse).co.getD i []).length:=by omega
  simp -dsimp only [go_sem,e1,k1,Int.lt_irrefl,r6.cell]
  try simp -dsimp (disch:=omega) only [wrap64]
  exact ⟨i+1,by omega,by simp [Le,find],by omega,pX,w⟩
 obtain rfl:i=(mapR g lse).co.length:=by omega
 have r2:=R2.fr pX (by omega)
 have r5:=R5.fr pX (by omega)
 have r8:=R8.fr pX (by omega)
 have r10:=R10.fr pX (by omega)
 have p0:=P0.fresh pX (by omega)
 have p2:=P2.fresh pX (by omega)
 replace wB:=wB.fr pX (by omega)
 replace wW:=wW.fr pX (by omega)
 have pW:Fr 0 0 hp_ hp_:=.refl _ _ _
 unfold gcells at r2 r5 r8 r10
 simp -dsimp only [go_sem,Int.lt_irrefl,r6.cell,r2.cell,r5.cell,r8.cell,r10.cell]
 refine call_of (ref8_Alike wB.at_ wW.at_) ?_
 rintro v20 h20 ⟨f20,rfl⟩
 have f20_z:=f20.size
 replace r6:=r6.F f20
 replace r2:=r2.F f20
 replace r5:=r5.F f20
 replace r8:=r8.F f20
 replace r10:=r10.F f20
 replace p0:=p0.F f20
 replace p2:=p2.F f20
 replace pW:=pW.F f20
 simp -dsimp only [go_sem,r6.cell,r2.cell,r5.cell,r8.cell,r10.cell]
 refine call_of (ref8_Alike (t'.fr p2) (t.fr p0)) ?_
 rintro v21 h21 ⟨f21,rfl⟩
 have f21_z:=f21.size
 replace r6:=r6.F f21
 replace r2:=r2.F f21
 replace r5:=r5.F f21
 replace r8:=r8.F f21
 replace r10:=r10.F f21
 replace p0:=p0.F f21
 replace p2:=p2.F f21
 replace pW:=pW.F f21
 simp -dsimp only [go_sem,r6.cell,r2.cell,r5.cell,r8.cell,r10.cell]
 refine call_of (law12_lives (ht.fr p0 (.inr rfl))) ?_
 rintro v22 h22 ⟨f22,rfl⟩
 have f22_z:=f22.size
 replace r6:=r6.F f22
 replace r2:=r2.F f22
 replace r5:=r5.F f22
 replace r8:=r8.F f22
 replace r10:=r10.F f22
 replace p0:=p0.F f22
 replace p2:=p2.F f22
 replace pW:=pW.F f22
 simp -dsimp only [go_sem,r6.cell,r2.cell,r5.cell,r8.cell,r10.cell]
 exact p0
end Go.Proofs.Tst
/-
  SeqMaps and its arguments.
-/
namespace Go.Proofs.Tst
end Go.Proofs.Tst
