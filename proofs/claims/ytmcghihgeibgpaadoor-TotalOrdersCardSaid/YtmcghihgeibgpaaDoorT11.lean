/-
  Contracts of functions that the law reaches: what each returns and what it leaves in memory. Conditions stand in each.
-/
import Derived.Test.YtmcghihgeibgpaaDoorT10
set_option linter.all false
set_option maxRecDepth 2000
/-
  total: Right.
-/
namespace Go.Proofs.Tst
open Go Go.Vc
section
variable {h : Heap} {q : GV} {g : Gr}
theorem rightB_bad {l:List Int} (hg:g.good=true) {i x:Nat} (hx:(natsOf l)[i]?=some x) (hb:okB g (natsOf l) i x=false):rightB g l=false:=by
 cases hr:rightB g l
 ·rfl
 ·unfold rightB at hr
  simp only [Bool.and_eq_true,allB_iff] at hr
  rw [hr.2.2 i x hx] at hb;cases hb
def okU (g:Gr) (m:List Nat) (i:Nat):Prop:=∀ j y,j<i→m[j]?=some y→okB g m j y=true
theorem okU_succ {m:List Nat} {i x:Nat} (hx:m[i]?=some x) (h:okU g m i) (hb:okB g m i x=true):okU g m (i+1):=fun j y hj hy=>by
 by_cases he:j=i
 ·subst he;rw [hx] at hy;cases hy;exact hb
 ·exact h j y (by omega) hy
theorem rfK_take {i:Nat} {p:Int×Int} (hp:g.rf[i]?=some p):((g.rf.take (i+1)).map fun p=>(p.2,p.1))=((g.rf.take i).map fun p=>(p.2,p.1))++[(p.2,p.1)]:=by
 rw [List.take_add_one,hp];simp
theorem mapQ_snoc (L:List (Int×Int)) (a b:Int) (x:Int):(if x=a then some (.int .i64 b) else mapQ L x)=mapQ (L++[(a,b)]) x:=by
 unfold mapQ
 rw [lkp_snoc]
 by_cases h:x=a
 ·rw [if_pos h,if_pos h];rfl
 ·rw [if_neg h,if_neg h]
set_option maxHeartbeats 8000000 in
theorem total_Right (t:GrAt h q g) (ht:TabAt h) {la:Option Addr} {lc:Nat} {l:List Int} (hl:Rd 1 h (.slice la l.length lc) l.length (intsV l)) (hb:l.length≤4611686018427387904) :
  Con Tryd.prog 25 #[.agg (gcells q g).toArray,.slice la l.length lc] h fun v h'=>Fr 0 0 h h'∧v=.bool (rightB g l):=by
 refine con_q161 ?_
 have p0:Fr 0 0 h h:=.refl _ _ _
 have hen:g.evs.length=g.n:=rfl
 have bf:=t.fits.f
 have br:=t.fits.r
 unfold gcells
 simp -dsimp only [go_sem]
 intro b2 h1 n1
 have n1_z:=n1.az
 replace p0:=p0.F n1.f0
 have r2:=n1.row
 simp -dsimp only [go_sem,r2.cell]
 refine call_of (graph_Derive (t.fr p0) (ht.fr p0 (.inr rfl))) ?_
 rintro v3 h3 ⟨f3,w⟩
 have f3_z:=f3.size
 replace p0:=p0.F f3
 replace r2:=r2.F f3
 by_cases hg:g.good=true
 rotate_left
 ·rw [if_neg hg] at w
  have e:rightB g l=false:=by unfold rightB;simp [hg]
  rw [e]
  subst w
  unfold fzero
  simp -dsimp only [go_sem,r2.cell]
  intro b4 h4 n4
  have n4_a:=n4.at_
  have n4_z:=n4.size
  replace p0:=p0.F n4.f0
  replace r2:=r2.F n4.f0
  have r4:=n4.row
  simp -dsimp only [go_sem,r2.cell,r4.cell]
  refine Chk_intro (r4.W) fun h5 s5=>?_
  have s5_z:=s5.size
  replace p0:=p0.F s5.fr
  replace r2:=r2.F s5.fr
  replace r4:=s5.row r4
  try simp only [cl_int,cl_bool,cl_slice,cl_ptr,putAt_one,zs0,zs1,ivec_set,brow_upd] at r4
  simp -dsimp only [go_sem,r2.cell,r4.cell]
  exact p0
 rw [if_pos hg] at w
 have hn:=(good_n hg).1
 obtain ⟨hc0,hc1,hc2⟩:=good_cells hg
 obtain ⟨p,rd,wr,fe,rfl,F⟩:=w
 obtain ⟨c,ra,wa,fa,rn,wn,fn,e,m⟩:=Sm.of (t.fr p0) hg F
 clear F
 rw [e]
 clear e
 have p3:Fr 0 0 h3 h3:=.refl _ _ _
 simp -dsimp only [go_sem,r2.cell]
 intro b4 h4 n4
 have n4_a:=n4.at_
 have n4_z:=n4.size
 replace p0:=p0.F n4.f0
 replace r2:=r2.F n4.f0
 replace p3:=p3.F n4.f0
 have r4:=n4.row
 simp -dsimp only [go_sem,r2.cell,r4.cell]
 refine Chk_intro (r4.W) fun h5 s5=>?_
 have s5_z:=s5.size
 replace p0:=p0.F s5.fr
 replace r2:=r2.F s5.fr
 replace p3:=p3.F s5.fr
 replace r4:=s5.row r4
 try simp only [cl_int,cl_bool,cl_slice,cl_ptr,putAt_one,zs0,zs1,ivec_set,brow_upd] at r4
 simp -dsimp only [go_sem] at r4
 simp -dsimp only [go_sem,r2.cell,r4.cell]
 intro b6 h6 n6
 have n6_z:=n6.az
 replace p0:=p0.F n6.f0
 replace r2:=r2.F n6.f0
 replace p3:=p3.F n6.f0
 replace r4:=r4.F n6.f0
 have r6:=n6.row
 simp -dsimp only [go_sem,r2.cell,r4.cell,r6.cell]
 replace m:=m.fr p3
 refine call_of (rel_UnionU (UA.mk' [(.pointer (some ⟨c 0,0,none⟩),relM g 0),(.pointer (some ⟨c 2,0,none⟩),relM g 2)] r6 (pa_cons (m.rel 0 (by decide)) (pa_cons (m.rel 2 (by decide)) pa_nil)) (by simp) (by simp))) ?_
 rintro v7 h7 ⟨f7,t7⟩
 have f7_z:=f7.size
 replace p0:=p0.F f7
 replace r2:=r2.F f7
 replace p3:=p3.F f7
 replace r4:=r4.F f7
 replace r6:=r6.F f7
 have t7:=t7.congr (M':=pcM g) fun i j _ _=>by simp [orM,pcM]
 simp -dsimp only [go_sem,r2.cell,r4.cell,r6.cell]
 refine call_of (order_Linear t7 (ht.fr p0 (.inr rfl)) (hl.fr p0) hb) ?_
 rintro v8 h8 ⟨f8,rfl⟩
 have f8_z:=f8.size
 replace p0:=p0.F f8
 replace r2:=r2.F f8
 replace p3:=p3.F f8
 replace r4:=r4.F f8
 replace r6:=r6.F f8
 by_cases hlin:LinP g.n (pcM g) l
 rotate_left
 ·have e:rightB g l=false:=by unfold rightB;simp [hlin]
  rw [decide_eq_false hlin,e]
  simp -dsimp only [go_sem,r2.cell,r4.cell,r6.cell]
  exact p0
 rw [decide_eq_true hlin]
 have L:=LinF.of hlin
 have Ll:=L.len
 have gb:h.size≤h8.size∧b2<h8.size:=by omega
 clear r4 r6 t7 m p3
 simp -dsimp only [go_sem,r2.cell]
 intro b7 h9 n9
 have z9:=n9.size
 have a9:=n9.at_
 have M1:=n9.mapF
 replace p0:=p0.trans n9.f0
 replace r2:=r2.F n9.f0
 simp -dsimp only [go_sem,r2.cell]
 refine loop_intro (fun i:Nat=>[(1,.slice la l.length lc),(2,.pointer (some ⟨b2,0,none⟩)),(7,.map (some b7)),(43,.slice q.f g.rf.length q.fc),(44,.int .i64 g.rf.length),(45,.int .i64 i)])
  (fun i h'=>i≤g.rf.length∧Fr 0 0 h h'∧Rw h' b2 (gcells q g)∧h9.size≤h'.size∧MapF h' b7 (mapQ ((g.rf.take i).map fun p=>(p.2,p.1)))) (fun i=>g.rf.length - i) 0 ?_ ?_ ?_
 ·simp [Le,find]
 ·exact ⟨by omega,p0,r2,by omega,M1.congr fun x=>rfl⟩
 clear p0 r2 M1
 rintro i h10 ⟨hi,p0,r2,z10,M1⟩
 unfold gcells at r2
 have p0_z:=p0.size
 have r2_l:=r2.lt
 by_cases hlt:i<g.rf.length
 ·have e1:((i:Int)<(g.rf.length:Int)):=by omega
  have hq:g.rf[i]?=some g.rf[i]:=List.getElem?_eq_getElem hlt
  generalize g.rf[i]=pr at hq
  obtain ⟨rb,ro,hre,hrc⟩:=t.f.pairsAt (by omega)
  obtain ⟨k1,k2⟩:=hrc h10 p0 i _ hq
  simp -dsimp only [go_sem,e1,hre,k1,k2,r2.cell]
  intro b11 h11 n11
  have n11_z:=n11.az
  replace p0:=p0.F n11.f0
  replace r2:=r2.F n11.f0
  have r11:=n11.row
  replace M1:=M1.fr n11.f0 (by omega)
  simp -dsimp only [go_sem,r2.cell,r11.cell]
  refine Chk_intro (r11.W) fun h12 s12=>?_
  have s12_z:=s12.size
  replace p0:=p0.F s12.fr
  replace r2:=r2.F s12.fr
  replace r11:=s12.row r11
  try simp only [cl_int,cl_bool,cl_slice,cl_ptr,putAt_one,zs0,zs1,ivec_set,brow_upd] at r11
  replace M1:=M1.fr s12.fr (by have:=M1.lt;omega)
  try simp -dsimp only [go_sem] at r11
  simp -dsimp only [go_sem,r2.cell,r11.cell]
  refine M1.set fun h13 M2 f13 z13=>?_
  have p13:=p0.fresh f13 (by omega)
  have r13:=r2.fr f13 (by omega)
  simp -dsimp only [go_sem,r2.cell,r11.cell]
  simp -dsimp (disch:=omega) only [wrap64]
  exact ⟨i+1,by omega,by simp [Le,find,hre],by omega,p13,r13,by omega,M2.congr fun x=>by rw [rfK_take hq];exact mapQ_snoc _ _ _ _⟩
 obtain rfl:i=g.rf.length:=by omega
 replace M1:MapF h10 b7 (mapQ (rfK g)):=M1.congr fun x=>by rw [List.take_length];rfl
 simp -dsimp only [go_sem,Int.lt_irrefl,r2.cell]
 intro b8 h11 n11
 have z11:=n11.size
 have a11:=n11.at_
 have N1:=n11.mapF
 replace p0:=p0.trans n11.f0
 replace r2:=r2.F n11.f0
 replace M1:=M1.fr n11.f0 (by omega)
 have l1:=M1.lt
 simp -dsimp only [go_sem,r2.cell]
 refine loop_intro (fun i:Nat=>[(1,.slice la l.length lc),(2,.pointer (some ⟨b2,0,none⟩)),(7,.map (some b7)),(10,.map (some b8)),(57,.slice q.r g.rmw.length q.rc),(58,.int .i64 g.rmw.length),(59,.int .i64 i)])
  (fun i h'=>i≤g.rmw.length∧Fr 0 0 h h'∧Rw h' b2 (gcells q g)∧h11.size≤h'.size∧MapF h' b7 (mapQ (rfK g))∧MapF h' b8 (mapQ (g.rmw.take i))) (fun i=>g.rmw.length - i) 0 ?_ ?_ ?_
 ·simp [Le,find]
 ·exact ⟨by omega,p0,r2,by omega,M1,N1.congr fun x=>rfl⟩
 clear p0 r2 M1 N1
 rintro i h12 ⟨hi,p0,r2,z12,M1,N1⟩
 unfold gcells at r2
 have p0_z:=p0.size
 have r2_l:=r2.lt
 by_cases hlt:i<g.rmw.length
 ·have e1:((i:Int)<(g.rmw.length:Int)):=by omega
  have hq:g.rmw[i]?=some g.rmw[i]:=List.getElem?_eq_getElem hlt
  generalize g.rmw[i]=pr at hq
  obtain ⟨rb,ro,hre,hrc⟩:=t.r.pairsAt (by omega)
  obtain ⟨k1,k2⟩:=hrc h12 p0 i _ hq
  simp -dsimp only [go_sem,e1,hre,k1,k2,r2.cell]
  intro b13 h13 n13
  have n13_z:=n13.az
  replace p0:=p0.F n13.f0
  replace r2:=r2.F n13.f0
  have r13:=n13.row
  replace M1:=M1.fr n13.f0 (by omega)
  replace N1:=N1.fr n13.f0 (by omega)
  simp -dsimp only [go_sem,r2.cell,r13.cell]
  refine Chk_intro (r13.W) fun h14 s14=>?_
  have s14_z:=s14.size
  replace p0:=p0.F s14.fr
  replace r2:=r2.F s14.fr
  replace r13:=s14.row r13
  try simp only [cl_int,cl_bool,cl_slice,cl_ptr,putAt_one,zs0,zs1,ivec_set,brow_upd] at r13
  replace M1:=M1.fr s14.fr (by have:=M1.lt;omega)
  replace N1:=N1.fr s14.fr (by have:=N1.lt;omega)
  try simp -dsimp only [go_sem] at r13
  simp -dsimp only [go_sem,r2.cell,r13.cell]
  refine N1.set fun h15 N2 f15 z15=>?_
  have p15:=p0.fresh f15 (by omega)
  have r15:=r2.fr f15 (by omega)
  have M2:=M1.fr f15 (by omega)
  simp -dsimp only [go_sem,r2.cell,r13.cell]
  simp -dsimp (disch:=omega) only [wrap64]
  exact ⟨i+1,by omega,by simp [Le,find,hre],by omega,p15,r15,by omega,M2,N2.congr fun x=>by rw [List.take_add_one,hq,Option.toList_some];exact mapQ_snoc _ _ _ _⟩
 obtain rfl:i=g.rmw.length:=by omega
 rw [List.take_length] at N1
 simp -dsimp only [go_sem,Int.lt_irrefl,r2.cell]
 intro b9 h13 n13
 have z13:=n13.size
 have a13:=n13.at_
 have O1:=n13.mapF
 replace p0:=p0.trans n13.f0
 replace r2:=r2.F n13.f0
 have l2:=N1.lt
 replace M1:=M1.fr n13.f0 (by omega)
 replace N1:=N1.fr n13.f0 (by omega)
 simp -dsimp only [go_sem,r2.cell]
 refine loop_intro (fun i:Nat=>[(1,.slice la l.length lc),(2,.pointer (some ⟨b2,0,none⟩)),(7,.map (some b7)),(10,.map (some b8)),(13,.map (some b9)),(70,.slice la l.length lc),(71,.int .i64 l.length),(72,.int .i64 i)])
  (fun i h'=>i≤l.length∧Fr 0 0 h h'∧Rw h' b2 (gcells q g)∧h13.size≤h'.size∧MapF h' b7 (mapQ (rfK g))∧MapF h' b8 (mapQ g.rmw)∧MapF h' b9 (mapL g (natsOf l) i)∧okU g (natsOf l) i) (fun i=>l.length - i) 0 ?_ ?_ ?_
 ·simp [Le,find]
 ·exact ⟨by omega,p0,r2,by omega,M1,N1,O1.congr fun x=>rfl,fun j y hj=>by omega⟩
 clear p0 r2 M1 N1 O1
 rintro i h14 ⟨hi,p0,r2,z14,M1,N1,O1,hU⟩
 unfold gcells at r2
 have p0_z:=p0.size
 have r2_l:=r2.lt
 by_cases hlt:i<l.length
 rotate_left
 ·obtain rfl:i=l.length:=by omega
  have e:rightB g l=true:=by
   unfold rightB
   simp only [Bool.and_eq_true,decide_eq_true_eq,allB_iff]
   exact ⟨hg,hlin,fun j y hy=>hU j y (by have:=(List.getElem?_eq_some_iff.1 hy).1;simpa [natsOf] using this) hy⟩
  rw [e]
  simp -dsimp only [go_sem,Int.lt_irrefl,r2.cell]
  exact p0
 have e1:((i:Int)<(l.length:Int)):=by omega
 obtain ⟨x,k1,k2,hx⟩:=L.at_ i hlt
 obtain ⟨eb,eo,hee,hev⟩:=t.evs (by omega)
 obtain ⟨c0,c1,c2,c3,c4⟩:=hev h14 p0 x hx
 have e2:((x:Int)<(g.evs.length:Int)):=by show (x:Int)<(g.n:Int);omega
 obtain ⟨hll,la',lc',hle,hld⟩:=hl
 cases hle
 rcases hld with hld | ⟨lb,lo,rfl,hlc⟩
 ·omega
 have k3:=p0.keep (hlc i _ (intsV_get k1)) (by omega)
 simp -dsimp only [go_sem,e1,k3,hee,e2,c0,c1,c2,c3,c4,r2.cell]
 intro b15 h15 n15
 have n15_z:=n15.az
 replace p0:=p0.F n15.f0
 replace r2:=r2.F n15.f0
 have r15:=n15.row
 replace M1:=M1.fr n15.f0 (by omega)
 replace N1:=N1.fr n15.f0 (by omega)
 replace O1:=O1.fr n15.f0 (by omega)
 simp -dsimp only [go_sem,r2.cell,r15.cell]
 refine Chk_intro (r15.W) fun h16 s16=>?_
 have s16_z:=s16.size
 replace p0:=p0.F s16.fr
 replace r2:=r2.F s16.fr
 replace r15:=s16.row r15
 try simp only [cl_int,cl_bool,cl_slice,cl_ptr,putAt_one,zs0,zs1,ivec_set,brow_upd] at r15
 replace M1:=M1.fr s16.fr (by have:=M1.lt;omega)
 replace N1:=N1.fr s16.fr (by have:=N1.lt;omega)
 replace O1:=O1.fr s16.fr (by have:=O1.lt;omega)
 try simp -dsimp only [go_sem] at r15
 simp -dsimp only [go_sem,r2.cell,r15.cell]
 have bad:okB g (natsOf l) i x=false→rightB g l=false:=fun hb=>rightB_bad hg k2 hb
 by_cases hth:((i:Int)<g.cells)∧(g.ev x).thread≥0
 ·obtain ⟨ha,hb'⟩:=hth
  have e:rightB g l=false:=bad (by unfold okB;simp [ha];omega)
  rw [e]
  simp -dsimp only [go_sem,ha,hb',r2.cell,r15.cell]
  exact p0
 have q1:(!decide ((i:Int)<g.cells)||decide ((g.ev x).thread<0))=true:=by simp;omega
 have go2:∀ (P:Prop),((¬ ((i:Int)<g.cells)→P)∧(((i:Int)<g.cells)→¬ (g.ev x).thread≥0→P))→P:=fun P ⟨a,b⟩=>by
  by_cases h1:(i:Int)<g.cells
  ·exact b h1 (fun h2=>hth ⟨h1,h2⟩)
  ·exact a h1
 have hqf:mapQ (rfK g) (x:Int)=(lkp (rfK g) (x:Int)).map fun v=>.int .i64 v:=rfl
 have hqr:mapQ g.rmw (x:Int)=(lkp g.rmw (x:Int)).map fun v=>.int .i64 v:=rfl
 have hql:mapL g (natsOf l) i (g.ev x).loc=(lastW g ((natsOf l).take i) (g.ev x).loc).map fun (w:Nat)=>.int .i64 (w:Int):=rfl
 have start:∀ (P:Prop),(∀ (b:Bool),(b=decide ((i:Int)<g.cells))→True)→P→P:=fun P _ h=>h
 clear start
 refine go2 _ ⟨fun hci=>?_,fun hci htn=>?_⟩
 rotate_left
 ·simp -dsimp only [go_sem,hci,htn,r2.cell,r15.cell]
  refine M1.look1 (z:=.int .i64 0) (n:=(x:Int)) fun ma ha1 ha2=>?_
  rw [hqf] at ha1 ha2
  cases hlf:lkp (rfK g) (x:Int) with
  | none =>
   rw [hlf] at ha1 ha2
   rw [Option.map_none] at ha1 ha2
   simp -dsimp only [go_sem,ha1,ha2,Option.isSome_none,r2.cell,r15.cell]
   refine N1.look1 (z:=.int .i64 0) (n:=(x:Int)) fun mb hb1 hb2=>?_
   rw [hqr] at hb1 hb2
   cases hlr:lkp g.rmw (x:Int) with
   | none =>
    rw [hlr] at hb1 hb2
    rw [Option.map_none] at hb1 hb2
    simp -dsimp only [go_sem,hb1,hb2,Option.isSome_none,r2.cell,r15.cell]
    have hok:okB g (natsOf l) i x=true:=by
     have q2:=(show lkOk (rfK g) (x:Int) (natO (lastW g ((natsOf l).take i) (g.ev x).loc))=true by unfold lkOk;rw [hlf])
     have q3:=(show lkOk g.rmw (x:Int) (natO (natsOf l)[i+1]?)=true by unfold lkOk;rw [hlr])
     unfold okB
     rw [q1,q2,q3];rfl
    by_cases hk2:(g.ev x).kind=2
    ·simp -dsimp only [go_sem,beq_t hk2,r2.cell,r15.cell]
     refine O1.set fun h17 O2 f17 z17=>?_
     have p17:=p0.fresh f17 (by omega)
     have r17:=r2.fr f17 (by omega)
     have M2:=M1.fr f17 (by omega)
     have N2:=N1.fr f17 (by omega)
     simp -dsimp only [go_sem,r2.cell,r15.cell]
     simp -dsimp (disch:=omega) only [wrap64]
     exact ⟨i+1,by omega,by simp [Le,find],by omega,p17,r17,by omega,M2,N2,O2.congr fun c=>mapL_step k2 hk2 c,okU_succ k2 hU hok⟩
    ·simp -dsimp only [go_sem,beq_f hk2,r2.cell,r15.cell]
     simp -dsimp (disch:=omega) only [wrap64]
     exact ⟨i+1,by omega,by simp [Le,find],by omega,p0,r2,by omega,M1,N1,O1.congr fun c=>mapL_same k2 hk2 c,okU_succ k2 hU hok⟩
   | some y =>
    rw [hlr] at hb1 hb2
    rw [Option.map_some] at hb1 hb2
    have hw:IntKind.i64.wrap ((i:Int)+1)=((i+1:Nat):Int):=by rw [wrap64 (by omega) (by omega)];omega
    by_cases hend:i+1=l.length
    ·have e:rightB g l=false:=bad (by
      have:(natsOf l)[i+1]?=none:=List.getElem?_eq_none (by simp [natsOf];omega)
      unfold okB lkOk;rw [hlr,this];simp [natO])
     have hend':(((i+1:Nat):Int)==((l.length:Nat):Int))=true:=by simp;omega
     rw [e]
     simp -dsimp only [go_sem,hb1,hb2,Option.isSome_some,Option.getD_some,hw,hend',r2.cell,r15.cell]
     exact p0
    obtain ⟨x',j1,j2,hx'⟩:=L.at_ (i+1) (by omega)
    have k4:=p0.keep (hlc (i+1) _ (intsV_get j1)) (by omega)
    have hend':(((i+1:Nat):Int)==((l.length:Nat):Int))=false:=by simp;omega
    have e3:(((i+1:Nat):Int)<((l.length:Nat):Int)):=by omega
    by_cases hxy:(x':Int)=y
    ·simp -dsimp only [go_sem,hb1,hb2,Option.isSome_some,Option.getD_some,hw,hend',e3,k4,bne_t hxy,r2.cell,r15.cell]
     have hok:okB g (natsOf l) i x=true:=by
      have q2:=(show lkOk (rfK g) (x:Int) (natO (lastW g ((natsOf l).take i) (g.ev x).loc))=true by unfold lkOk;rw [hlf])
      have q3:=(show lkOk g.rmw (x:Int) (natO (natsOf l)[i+1]?)=true by unfold lkOk;rw [hlr,j2];simp [natO,hxy])
      unfold okB
      rw [q1,q2,q3];rfl
     by_cases hk2:(g.ev x).kind=2
     ·simp -dsimp only [go_sem,beq_t hk2,r2.cell,r15.cell]
      refine O1.set fun h17 O2 f17 z17=>?_
      have p17:=p0.fresh f17 (by omega)
      have r17:=r2.fr f17 (by omega)
      have M2:=M1.fr f17 (by omega)
      have N2:=N1.fr f17 (by omega)
      simp -dsimp only [go_sem,r2.cell,r15.cell]
      simp -dsimp (disch:=omega) only [wrap64]
      exact ⟨i+1,by omega,by simp [Le,find],by omega,p17,r17,by omega,M2,N2,O2.congr fun c=>mapL_step k2 hk2 c,okU_succ k2 hU hok⟩
     ·simp -dsimp only [go_sem,beq_f hk2,r2.cell,r15.cell]
      simp -dsimp (disch:=omega) only [wrap64]
      exact ⟨i+1,by omega,by simp [Le,find],by omega,p0,r2,by omega,M1,N1,O1.congr fun c=>mapL_same k2 hk2 c,okU_succ k2 hU hok⟩
    ·have e:rightB g l=false:=bad (by unfold okB lkOk;rw [hlr,j2];simp [natO,hxy])
     rw [e]
     simp -dsimp only [go_sem,hb1,hb2,Option.isSome_some,Option.getD_some,hw,hend',e3,k4,bne_f hxy,r2.cell,r15.cell]
     exact p0
  | some w =>
   rw [hlf] at ha1 ha2
   rw [Option.map_some] at ha1 ha2
   simp -dsimp only [go_sem,ha1,ha2,Option.isSome_some,Option.getD_some,r2.cell,r15.cell]
   refine O1.look1 (z:=.int .i64 0) (n:=(g.ev x).loc) fun mc hc1 hc2=>?_
   rw [hql] at hc1 hc2
   cases hlw:lastW g ((natsOf l).take i) (g.ev x).loc with
   | none =>
    rw [hlw] at hc1 hc2
    rw [Option.map_none] at hc1 hc2
    have e:rightB g l=false:=bad (by unfold okB lkOk;rw [hlf,hlw];simp [natO])
    rw [e]
    simp -dsimp only [go_sem,hc1,hc2,Option.isSome_none,r2.cell,r15.cell]
    exact p0
   | some v =>
    rw [hlw] at hc1 hc2
    rw [Option.map_some] at hc1 hc2
    by_cases hvw:(v:Int)=w
    ·simp -dsimp only [go_sem,hc1,hc2,Option.isSome_some,Option.getD_some,bne_t hvw,r2.cell,r15.cell]
     refine N1.look1 (z:=.int .i64 0) (n:=(x:Int)) fun mb hb1 hb2=>?_
     rw [hqr] at hb1 hb2
     cases hlr:lkp g.rmw (x:Int) with
     | none =>
      rw [hlr] at hb1 hb2
      rw [Option.map_none] at hb1 hb2
      simp -dsimp only [go_sem,hb1,hb2,Option.isSome_none,r2.cell,r15.cell]
      have hok:okB g (natsOf l) i x=true:=by
       have q2:=(show lkOk (rfK g) (x:Int) (natO (lastW g ((natsOf l).take i) (g.ev x).loc))=true by unfold lkOk;rw [hlf,hlw];simp [natO,hvw])
       have q3:=(show lkOk g.rmw (x:Int) (natO (natsOf l)[i+1]?)=true by unfold lkOk;rw [hlr])
       unfold okB
       rw [q1,q2,q3];rfl
      by_cases hk2:(g.ev x).kind=2
      ·simp -dsimp only [go_sem,beq_t hk2,r2.cell,r15.cell]
       refine O1.set fun h17 O2 f17 z17=>?_
       have p17:=p0.fresh f17 (by omega)
       have r17:=r2.fr f17 (by omega)
       have M2:=M1.fr f17 (by omega)
       have N2:=N1.fr f17 (by omega)
       simp -dsimp only [go_sem,r2.cell,r15.cell]
       simp -dsimp (disch:=omega) only [wrap64]
       exact ⟨i+1,by omega,by simp [Le,find],by omega,p17,r17,by omega,M2,N2,O2.congr fun c=>mapL_step k2 hk2 c,okU_succ k2 hU hok⟩
      ·simp -dsimp only [go_sem,beq_f hk2,r2.cell,r15.cell]
       simp -dsimp (disch:=omega) only [wrap64]
       exact ⟨i+1,by omega,by simp [Le,find],by omega,p0,r2,by omega,M1,N1,O1.congr fun c=>mapL_same k2 hk2 c,okU_succ k2 hU hok⟩
     | some y =>
      rw [hlr] at hb1 hb2
      rw [Option.map_some] at hb1 hb2
      have hw:IntKind.i64.wrap ((i:Int)+1)=((i+1:Nat):Int):=by rw [wrap64 (by omega) (by omega)];omega
      by_cases hend:i+1=l.length
      ·have e:rightB g l=false:=bad (by
        have:(natsOf l)[i+1]?=none:=List.getElem?_eq_none (by simp [natsOf];omega)
        unfold okB lkOk;rw [hlr,this];simp [natO])
       have hend':(((i+1:Nat):Int)==((l.length:Nat):Int))=true:=by simp;omega
       rw [e]
       simp -dsimp only [go_sem,hb1,hb2,Option.isSome_some,Option.getD_some,hw,hend',r2.cell,r15.cell]
       exact p0
      obtain ⟨x',j1,j2,hx'⟩:=L.at_ (i+1) (by omega)
      have k4:=p0.keep (hlc (i+1) _ (intsV_get j1)) (by omega)
      have hend':(((i+1:Nat):Int)==((l.length:Nat):Int))=false:=by simp;omega
      have e3:(((i+1:Nat):Int)<((l.length:Nat):Int)):=by omega
      by_cases hxy:(x':Int)=y
      ·simp -dsimp only [go_sem,hb1,hb2,Option.isSome_some,Option.getD_some,hw,hend',e3,k4,bne_t hxy,r2.cell,r15.cell]
       have hok:okB g (natsOf l) i x=true:=by
        have q2:=(show lkOk (rfK g) (x:Int) (natO (lastW g ((natsOf l).take i) (g.ev x).loc))=true by unfold lkOk;rw [hlf,hlw];simp [natO,hvw])
        have q3:=(show lkOk g.rmw (x:Int) (natO (natsOf l)[i+1]?)=true by unfold lkOk;rw [hlr,j2];simp [natO,hxy])
        unfold okB
        rw [q1,q2,q3];rfl
       by_cases hk2:(g.ev x).kind=2
       ·simp -dsimp only [go_sem,beq_t hk2,r2.cell,r15.cell]
        refine O1.set fun h17 O2 f17 z17=>?_
        have p17:=p0.fresh f17 (by omega)
        have r17:=r2.fr f17 (by omega)
        have M2:=M1.fr f17 (by omega)
        have N2:=N1.fr f17 (by omega)
        simp -dsimp only [go_sem,r2.cell,r15.cell]
        simp -dsimp (disch:=omega) only [wrap64]
        exact ⟨i+1,by omega,by simp [Le,find],by omega,p17,r17,by omega,M2,N2,O2.congr fun c=>mapL_step k2 hk2 c,okU_succ k2 hU hok⟩
       ·simp -dsimp only [go_sem,beq_f hk2,r2.cell,r15.cell]
        simp -dsimp (disch:=omega) only [wrap64]
        exact ⟨i+1,by omega,by simp [Le,find],by omega,p0,r2,by omega,M1,N1,O1.congr fun c=>mapL_same k2 hk2 c,okU_succ k2 hU hok⟩
      ·have e:rightB g l=false:=bad (by unfold okB lkOk;rw [hlr,j2];simp [natO,hxy])
       rw [e]
       simp -dsimp only [go_sem,hb1,hb2,Option.isSome_some,Option.getD_some,hw,hend',e3,k4,bne_f hxy,r2.cell,r15.cell]
       exact p0
    ·have e:rightB g l=false:=bad (by unfold okB lkOk;rw [hlf,hlw];simp [natO,hvw])
     rw [e]
     simp -dsimp only [go_sem,hc1,hc2,Option.isSome_some,Option.getD_some,bne_f hvw,r2.cell,r15.cell]
     exact p0
 ·simp -dsimp only [go_sem,hci,r2.cell,r15.cell]
  refine M1.look1 (z:=.int .i64 0) (n:=(x:Int)) fun ma ha1 ha2=>?_
  rw [hqf] at ha1 ha2
  cases hlf:lkp (rfK g) (x:Int) with
  | none =>
   rw [hlf] at ha1 ha2
   rw [Option.map_none] at ha1 ha2
   simp -dsimp only [go_sem,ha1,ha2,Option.isSome_none,r2.cell,r15.cell]
   refine N1.look1 (z:=.int .i64 0) (n:=(x:Int)) fun mb hb1 hb2=>?_
   rw [hqr] at hb1 hb2
   cases hlr:lkp g.rmw (x:Int) with
   | none =>
    rw [hlr] at hb1 hb2
    rw [Option.map_none] at hb1 hb2
    simp -dsimp only [go_sem,hb1,hb2,Option.isSome_none,r2.cell,r15.cell]
    have hok:okB g (natsOf l) i x=true:=by
     have q2:=(show lkOk (rfK g) (x:Int) (natO (lastW g ((natsOf l).take i) (g.ev x).loc))=true by unfold lkOk;rw [hlf])
     have q3:=(show lkOk g.rmw (x:Int) (natO (natsOf l)[i+1]?)=true by unfold lkOk;rw [hlr])
     unfold okB
     rw [q1,q2,q3];rfl
    by_cases hk2:(g.ev x).kind=2
    ·simp -dsimp only [go_sem,beq_t hk2,r2.cell,r15.cell]
     refine O1.set fun h17 O2 f17 z17=>?_
     have p17:=p0.fresh f17 (by omega)
     have r17:=r2.fr f17 (by omega)
     have M2:=M1.fr f17 (by omega)
     have N2:=N1.fr f17 (by omega)
     simp -dsimp only [go_sem,r2.cell,r15.cell]
     simp -dsimp (disch:=omega) only [wrap64]
     exact ⟨i+1,by omega,by simp [Le,find],by omega,p17,r17,by omega,M2,N2,O2.congr fun c=>mapL_step k2 hk2 c,okU_succ k2 hU hok⟩
    ·simp -dsimp only [go_sem,beq_f hk2,r2.cell,r15.cell]
     simp -dsimp (disch:=omega) only [wrap64]
     exact ⟨i+1,by omega,by simp [Le,find],by omega,p0,r2,by omega,M1,N1,O1.congr fun c=>mapL_same k2 hk2 c,okU_succ k2 hU hok⟩
   | some y =>
    rw [hlr] at hb1 hb2
    rw [Option.map_some] at hb1 hb2
    have hw:IntKind.i64.wrap ((i:Int)+1)=((i+1:Nat):Int):=by rw [wrap64 (by omega) (by omega)];omega
    by_cases hend:i+1=l.length
    ·have e:rightB g l=false:=bad (by
      have:(natsOf l)[i+1]?=none:=List.getElem?_eq_none (by simp [natsOf];omega)
      unfold okB lkOk;rw [hlr,this];simp [natO])
     have hend':(((i+1:Nat):Int)==((l.length:Nat):Int))=true:=by simp;omega
     rw [e]
     simp -dsimp only [go_sem,hb1,hb2,Option.isSome_some,Option.getD_some,hw,hend',r2.cell,r15.cell]
     exact p0
    obtain ⟨x',j1,j2,hx'⟩:=L.at_ (i+1) (by omega)
    have k4:=p0.keep (hlc (i+1) _ (intsV_get j1)) (by omega)
    have hend':(((i+1:Nat):Int)==((l.length:Nat):Int))=false:=by simp;omega
    have e3:(((i+1:Nat):Int)<((l.length:Nat):Int)):=by omega
    by_cases hxy:(x':Int)=y
    ·simp -dsimp only [go_sem,hb1,hb2,Option.isSome_some,Option.getD_some,hw,hend',e3,k4,bne_t hxy,r2.cell,r15.cell]
     have hok:okB g (natsOf l) i x=true:=by
      have q2:=(show lkOk (rfK g) (x:Int) (natO (lastW g ((natsOf l).take i) (g.ev x).loc))=true by unfold lkOk;rw [hlf])
      have q3:=(show lkOk g.rmw (x:Int) (natO (natsOf l)[i+1]?)=true by unfold lkOk;rw [hlr,j2];simp [natO,hxy])
      unfold okB
      rw [q1,q2,q3];rfl
     by_cases hk2:(g.ev x).kind=2
     ·simp -dsimp only [go_sem,beq_t hk2,r2.cell,r15.cell]
      refine O1.set fun h17 O2 f17 z17=>?_
      have p17:=p0.fresh f17 (by omega)
      have r17:=r2.fr f17 (by omega)
      have M2:=M1.fr f17 (by omega)
      have N2:=N1.fr f17 (by omega)
      simp -dsimp only [go_sem,r2.cell,r15.cell]
      simp -dsimp (disch:=omega) only [wrap64]
      exact ⟨i+1,by omega,by simp [Le,find],by omega,p17,r17,by omega,M2,N2,O2.congr fun c=>mapL_step k2 hk2 c,okU_succ k2 hU hok⟩
     ·simp -dsimp only [go_sem,beq_f hk2,r2.cell,r15.cell]
      simp -dsimp (disch:=omega) only [wrap64]
      exact ⟨i+1,by omega,by simp [Le,find],by omega,p0,r2,by omega,M1,N1,O1.congr fun c=>mapL_same k2 hk2 c,okU_succ k2 hU hok⟩
    ·have e:rightB g l=false:=bad (by unfold okB lkOk;rw [hlr,j2];simp [natO,hxy])
     rw [e]
     simp -dsimp only [go_sem,hb1,hb2,Option.isSome_some,Option.getD_some,hw,hend',e3,k4,bne_f hxy,r2.cell,r15.cell]
     exact p0
  | some w =>
   rw [hlf] at ha1 ha2
   rw [Option.map_some] at ha1 ha2
   simp -dsimp only [go_sem,ha1,ha2,Option.isSome_some,Option.getD_some,r2.cell,r15.cell]
   refine O1.look1 (z:=.int .i64 0) (n:=(g.ev x).loc) fun mc hc1 hc2=>?_
   rw [hql] at hc1 hc2
   cases hlw:lastW g ((natsOf l).take i) (g.ev x).loc with
   | none =>
    rw [hlw] at hc1 hc2
    rw [Option.map_none] at hc1 hc2
    have e:rightB g l=false:=bad (by unfold okB lkOk;rw [hlf,hlw];simp [natO])
    rw [e]
    simp -dsimp only [go_sem,hc1,hc2,Option.isSome_none,r2.cell,r15.cell]
    exact p0
   | some v =>
    rw [hlw] at hc1 hc2
    rw [Option.map_some] at hc1 hc2
    by_cases hvw:(v:Int)=w
    ·simp -dsimp only [go_sem,hc1,hc2,Option.isSome_some,Option.getD_some,bne_t hvw,r2.cell,r15.cell]
     refine N1.look1 (z:=.int .i64 0) (n:=(x:Int)) fun mb hb1 hb2=>?_
     rw [hqr] at hb1 hb2
     cases hlr:lkp g.rmw (x:Int) with
     | none =>
      rw [hlr] at hb1 hb2
      rw [Option.map_none] at hb1 hb2
      simp -dsimp only [go_sem,hb1,hb2,Option.isSome_none,r2.cell,r15.cell]
      have hok:okB g (natsOf l) i x=true:=by
       have q2:=(show lkOk (rfK g) (x:Int) (natO (lastW g ((natsOf l).take i) (g.ev x).loc))=true by unfold lkOk;rw [hlf,hlw];simp [natO,hvw])
       have q3:=(show lkOk g.rmw (x:Int) (natO (natsOf l)[i+1]?)=true by unfold lkOk;rw [hlr])
       unfold okB
       rw [q1,q2,q3];rfl
      by_cases hk2:(g.ev x).kind=2
      ·simp -dsimp only [go_sem,beq_t hk2,r2.cell,r15.cell]
       refine O1.set fun h17 O2 f17 z17=>?_
       have p17:=p0.fresh f17 (by omega)
       have r17:=r2.fr f17 (by omega)
       have M2:=M1.fr f17 (by omega)
       have N2:=N1.fr f17 (by omega)
       simp -dsimp only [go_sem,r2.cell,r15.cell]
       simp -dsimp (disch:=omega) only [wrap64]
       exact ⟨i+1,by omega,by simp [Le,find],by omega,p17,r17,by omega,M2,N2,O2.congr fun c=>mapL_step k2 hk2 c,okU_succ k2 hU hok⟩
      ·simp -dsimp only [go_sem,beq_f hk2,r2.cell,r15.cell]
       simp -dsimp (disch:=omega) only [wrap64]
       exact ⟨i+1,by omega,by simp [Le,find],by omega,p0,r2,by omega,M1,N1,O1.congr fun c=>mapL_same k2 hk2 c,okU_succ k2 hU hok⟩
     | some y =>
      rw [hlr] at hb1 hb2
      rw [Option.map_some] at hb1 hb2
      have hw:IntKind.i64.wrap ((i:Int)+1)=((i+1:Nat):Int):=by rw [wrap64 (by omega) (by omega)];omega
      by_cases hend:i+1=l.length
      ·have e:rightB g l=false:=bad (by
        have:(natsOf l)[i+1]?=none:=List.getElem?_eq_none (by simp [natsOf];omega)
        unfold okB lkOk;rw [hlr,this];simp [natO])
       have hend':(((i+1:Nat):Int)==((l.length:Nat):Int))=true:=by simp;omega
       rw [e]
       simp -dsimp only [go_sem,hb1,hb2,Option.isSome_some,Option.getD_some,hw,hend',r2.cell,r15.cell]
       exact p0
      obtain ⟨x',j1,j2,hx'⟩:=L.at_ (i+1) (by omega)
      have k4:=p0.keep (hlc (i+1) _ (intsV_get j1)) (by omega)
      have hend':(((i+1:Nat):Int)==((l.length:Nat):Int))=false:=by simp;omega
      have e3:(((i+1:Nat):Int)<((l.length:Nat):Int)):=by omega
      by_cases hxy:(x':Int)=y
      ·simp -dsimp only [go_sem,hb1,hb2,Option.isSome_some,Option.getD_some,hw,hend',e3,k4,bne_t hxy,r2.cell,r15.cell]
       have hok:okB g (natsOf l) i x=true:=by
        have q2:=(show lkOk (rfK g) (x:Int) (natO (lastW g ((natsOf l).take i) (g.ev x).loc))=true by unfold lkOk;rw [hlf,hlw];simp [natO,hvw])
        have q3:=(show lkOk g.rmw (x:Int) (natO (natsOf l)[i+1]?)=true by unfold lkOk;rw [hlr,j2];simp [natO,hxy])
        unfold okB
        rw [q1,q2,q3];rfl
       by_cases hk2:(g.ev x).kind=2
       ·simp -dsimp only [go_sem,beq_t hk2,r2.cell,r15.cell]
        refine O1.set fun h17 O2 f17 z17=>?_
        have p17:=p0.fresh f17 (by omega)
        have r17:=r2.fr f17 (by omega)
        have M2:=M1.fr f17 (by omega)
        have N2:=N1.fr f17 (by omega)
        simp -dsimp only [go_sem,r2.cell,r15.cell]
        simp -dsimp (disch:=omega) only [wrap64]
        exact ⟨i+1,by omega,by simp [Le,find],by omega,p17,r17,by omega,M2,N2,O2.congr fun c=>mapL_step k2 hk2 c,okU_succ k2 hU hok⟩
       ·simp -dsimp only [go_sem,beq_f hk2,r2.cell,r15.cell]
        simp -dsimp (disch:=omega) only [wrap64]
        exact ⟨i+1,by omega,by simp [Le,find],by omega,p0,r2,by omega,M1,N1,O1.congr fun c=>mapL_same k2 hk2 c,okU_succ k2 hU hok⟩
      ·have e:rightB g l=false:=bad (by unfold okB lkOk;rw [hlr,j2];simp [natO,hxy])
       rw [e]
       simp -dsimp only [go_sem,hb1,hb2,Option.isSome_some,Option.getD_some,hw,hend',e3,k4,bne_f hxy,r2.cell,r15.cell]
       exact p0
    ·have e:rightB g l=false:=bad (by unfold okB lkOk;rw [hlf,hlw];simp [natO,hvw])
     rw [e]
     simp -dsimp only [go_sem,hc1,hc2,Option.isSome_some,Option.getD_some,bne_f hvw,r2.cell,r15.cell]
     exact p0
end
end Go.Proofs.Tst
/-
  law21: lives; TotalAny.
-/
namespace Go.Proofs.Tst
open Go Go.Vc
instance exDec {α:Type} [DecidableEq α]:DecidableEq (Except Int α)
 | .ok x,.ok y=>if h:x=y then isTrue (by rw [h]) else isFalse (fun e=>by cases e;exact h rfl)
 | .error x,.error y=>if h:x=y then isTrue (by rw [h]) else isFalse (fun e=>by cases e;exact h rfl)
 | .ok _,.error _=>isFalse (fun e=>by cases e)
 | .error _,.ok _=>isFalse (fun e=>by cases e)
theorem lx1:ordA xmG=.ok [0,1,2,3,4,5]:=by decide +kernel
theorem lx2:eachB xmG [0,1,2,3,4,5]=true:=by decide +kernel
theorem lx3:repOk xmG (natsOf [0,1,2,3,4,5])=true:=by decide +kernel
theorem lx4:repFin xmG (natsOf [0,1,2,3,4,5])=[1,1]:=by decide +kernel
theorem lx5:pickA xmG [0,1,2,3,4,5]=.ok [0,0,1,1]:=by decide +kernel
theorem lx6:rightB xmG [0,1,2,3,4,5]=true:=by decide +kernel
theorem lx7:rightB xmG [0,1,4,2,3,5]=false:=by decide +kernel
set_option maxHeartbeats 2000000 in
theorem law21_lives {h:Heap} (ht:TabAt h):Con Tryd.prog 18 #[] h fun v h'=>Fr 0 0 h h'∧v=.bool true:=by
 refine con_q47 ?_
 have p0:Fr 0 0 h h:=.refl _ _ _
 simp -dsimp only [go_sem]
 refine call_of (c_law21_example) ?_
 rintro v1 h1 ⟨f1,q1,rfl,t1⟩
 have f1_z:=f1.size
 replace p0:=p0.F f1
 simp -dsimp only [go_sem]
 refine call_of (total_Order t1 (ht.fr p0 (.inr rfl))) ?_
 rintro v2 h2 ⟨f2,w2⟩
 have f2_z:=f2.size
 replace p0:=p0.F f2
 rw [lx1] at w2
 obtain ⟨s2,rfl,o2⟩:=w2
 replace o2:Holder 1 h2 s2 6 (intsV [0,1,2,3,4,5]) h1.size:=o2
 obtain ⟨a2,c2,rfl⟩:=o2.is
 have d2:=o2.rd
 clear o2
 simp -dsimp only [go_sem]
 refine call_of (c_law21_example) ?_
 rintro v3 h3 ⟨f3,q3,rfl,t3⟩
 have f3_z:=f3.size
 replace p0:=p0.F f3
 replace d2:=d2.fr f3
 simp -dsimp only [go_sem]
 refine call_of (total_Replay (l:=[0,1,2,3,4,5]) t3 (ht.fr p0 (.inr rfl)) d2 (by decide)) ?_
 rintro v4 h4 ⟨f4,w4⟩
 have f4_z:=f4.size
 replace p0:=p0.F f4
 replace d2:=d2.fr f4
 rw [if_pos lx2] at w4
 obtain ⟨s4,rfl,o4⟩:=w4
 rw [lx3]
 rw [lx4] at o4
 obtain ⟨a4,c4,rfl⟩:=o4.is
 have d4:=o4.rd
 clear o4
 simp -dsimp only [go_sem]
 refine call_of (c_law21_example) ?_
 rintro v5 h5 ⟨f5,q5,rfl,t5⟩
 have f5_z:=f5.size
 replace p0:=p0.F f5
 replace d2:=d2.fr f5
 replace d4:=d4.fr f5
 simp -dsimp only [go_sem]
 refine call_of (total_Picks (l:=[0,1,2,3,4,5]) t5 (ht.fr p0 (.inr rfl)) d2 (by decide)) ?_
 rintro v6 h6 ⟨f6,w6⟩
 have f6_z:=f6.size
 replace p0:=p0.F f6
 replace d2:=d2.fr f6
 replace d4:=d4.fr f6
 rw [lx5] at w6
 obtain ⟨s6,rfl,o6⟩:=w6
 obtain ⟨a6,c6,rfl⟩:=o6.is
 have d6:=o6.rd
 clear o6
 simp -dsimp only [go_sem]
 intro b7 h7 n7
 have n7_z:=n7.az
 replace p0:=p0.F n7.f0
 replace d2:=d2.fr n7.f0
 replace d4:=d4.fr n7.f0
 replace d6:=d6.fr n7.f0
 have r7:=n7.row
 simp -dsimp only [go_sem,r7.cell]
 refine call_of (c_law21_ints (l:=[0,1,2,3,4,5]) (m:=[0,1,2,3,4,5]) d2 (Rw.rd (s:=1) (n:=6) (c:=6) r7 rfl) (by decide)) ?_
 rintro v8 h8 ⟨hh,rfl⟩
 obtain rfl:h7=h8:=hh.symm
 simp -dsimp only [go_sem,dec_self,r7.cell]
 intro b9 h9 n9
 have n9_z:=n9.az
 replace p0:=p0.F n9.f0
 replace d2:=d2.fr n9.f0
 replace d4:=d4.fr n9.f0
 replace d6:=d6.fr n9.f0
 replace r7:=r7.F n9.f0
 have r9:=n9.row
 simp -dsimp only [go_sem,r7.cell,r9.cell]
 refine call_of (c_law21_words (l:=[1,1]) (m:=[1,1]) d4 (Rw.rd (s:=1) (n:=2) (c:=2) r9 rfl) (by decide)) ?_
 rintro v10 h10 ⟨hh,rfl⟩
 obtain rfl:h9=h10:=hh.symm
 simp -dsimp only [go_sem,dec_self,r7.cell,r9.cell]
 intro b11 h11 n11
 have n11_z:=n11.az
 replace p0:=p0.F n11.f0
 replace d2:=d2.fr n11.f0
 replace d4:=d4.fr n11.f0
 replace d6:=d6.fr n11.f0
 replace r7:=r7.F n11.f0
 replace r9:=r9.F n11.f0
 have r11:=n11.row
 simp -dsimp only [go_sem,r7.cell,r9.cell,r11.cell]
 refine call_of (c_law21_ints (l:=[0,0,1,1]) (m:=[0,0,1,1]) d6 (Rw.rd (s:=1) (n:=4) (c:=4) r11 rfl) (by decide)) ?_
 rintro v12 h12 ⟨hh,rfl⟩
 obtain rfl:h11=h12:=hh.symm
 simp -dsimp only [go_sem,dec_self,r7.cell,r9.cell,r11.cell]
 refine call_of (c_law21_example) ?_
 rintro v13 h13 ⟨f13,q13,rfl,t13⟩
 have f13_z:=f13.size
 replace p0:=p0.F f13
 replace d2:=d2.fr f13
 replace d4:=d4.fr f13
 replace d6:=d6.fr f13
 replace r7:=r7.F f13
 replace r9:=r9.F f13
 replace r11:=r11.F f13
 simp -dsimp only [go_sem,r7.cell,r9.cell,r11.cell]
 refine call_of (total_Right (l:=[0,1,2,3,4,5]) t13 (ht.fr p0 (.inr rfl)) d2 (by decide)) ?_
 rintro v14 h14 ⟨f14,rfl⟩
 have f14_z:=f14.size
 replace p0:=p0.F f14
 replace d2:=d2.fr f14
 replace d4:=d4.fr f14
 replace d6:=d6.fr f14
 replace r7:=r7.F f14
 replace r9:=r9.F f14
 replace r11:=r11.F f14
 rw [lx6]
 simp -dsimp only [go_sem,r7.cell,r9.cell,r11.cell]
 refine call_of (c_law21_example) ?_
 rintro v15 h15 ⟨f15,q15,rfl,t15⟩
 have f15_z:=f15.size
 replace p0:=p0.F f15
 replace d2:=d2.fr f15
 replace d4:=d4.fr f15
 replace d6:=d6.fr f15
 replace r7:=r7.F f15
 replace r9:=r9.F f15
 replace r11:=r11.F f15
 simp -dsimp only [go_sem,r7.cell,r9.cell,r11.cell]
 intro b16 h16 n16
 have n16_z:=n16.az
 replace p0:=p0.F n16.f0
 replace d2:=d2.fr n16.f0
 replace d4:=d4.fr n16.f0
 replace d6:=d6.fr n16.f0
 replace r7:=r7.F n16.f0
 replace r9:=r9.F n16.f0
 replace r11:=r11.F n16.f0
 have r16:=n16.row
 replace t15:=t15.fr n16.f0
 simp -dsimp only [go_sem,r7.cell,r9.cell,r11.cell,r16.cell]
 refine call_of (total_Right (l:=[0,1,4,2,3,5]) t15 (ht.fr p0 (.inr rfl)) (Rw.rd (s:=1) (n:=6) (c:=6) r16 rfl) (by decide)) ?_
 rintro v17 h17 ⟨f17,rfl⟩
 have f17_z:=f17.size
 replace p0:=p0.F f17
 replace d2:=d2.fr f17
 replace d4:=d4.fr f17
 replace d6:=d6.fr f17
 replace r7:=r7.F f17
 replace r9:=r9.F f17
 replace r11:=r11.F f17
 replace r16:=r16.F f17
 rw [lx7]
 simp -dsimp only [go_sem,r7.cell,r9.cell,r11.cell,r16.cell]
 exact p0
end Go.Proofs.Tst
/-
  TotalAny.
-/
namespace Go.Proofs.Tst
open Go Go.Vc
def castL (m:List Nat):List Int:=m.map fun (p:Nat)=>(p:Int)
theorem natsV_cast (m:List Nat):natsV m=intsV (castL m):=natsV_ints m
theorem castL_len (m:List Nat):(castL m).length=m.length:=by simp [castL]
section
variable {g : Gr} {m : List Nat}
end
end Go.Proofs.Tst
/-
  The document's answers of chapter 12: Com, torn, Sc.
-/
namespace Go.Proofs.Tst
open Go Go.Vc
theorem ra_is' {h:Heap} {lo hi:Nat} {v:Value} {n:Nat} {M:Mx} (t:RefAt h lo hi v n M):∃ a c,v=.agg #[.int .i64 n,.slice a n c]:=RA.is ⟨_,_,t⟩
theorem ra_of' {h:Heap} {lo hi:Nat} {v:Value} {n:Nat} {M:Mx} (t:RefAt h lo hi v n M):RA h v n M:=⟨_,_,t⟩
theorem refAt_row {h:Heap} {lo hi:Nat} {n:Nat} {M:Mx} {a:Option Addr} {c:Nat} (t:RefAt h lo hi (.agg #[.int .i64 n,.slice a n c]) n M):∃ R:Nat→Nat,Tab h lo hi (.slice a n c) n n R M:=by
 obtain ⟨hn,s,R,hv,t⟩:=t
 simp only [Value.agg.injEq,Array.mk.injEq,List.cons.injEq,and_true,true_and] at hv
 subst hv
 exact ⟨R,t⟩
section
variable {h : Heap} {q : GV} {g : Gr}
set_option maxHeartbeats 2000000 in
theorem ref12_torn (t:GrAt h q g) (hg:g.good=true) :
  Con Tryd.prog 102 #[.agg (gcells q g).toArray] h fun v h'=>Fr 0 0 h h'∧Holder 1 h' v (atomS g).length (intsV (atomS g)) h.size:=by
 refine con_q70 ?_
 have hn:=(good_n hg).1
 have br:=t.fits.r
 have p0:Fr 0 0 h h:=.refl _ _ _
 unfold gcells
 simp -dsimp only [go_sem]
 intro b1 h1 n1
 have n1_z:=n1.az
 replace p0:=p0.F n1.f0
 have r1:=n1.row
 have gb1:h.size≤b1∧b1<h1.size:=by omega
 simp -dsimp only [go_sem,r1.cell]
 refine rvc_joint (fun s:Nat×Option Addr×Nat=>[(1,.pointer (some ⟨b1,0,none⟩)),(3,.pointer (some ⟨s.1,0,none⟩))])
  (fun s h'=>Fr 0 0 h h'∧h1.size≤h'.size∧h1.size≤s.1∧s.1<h'.size∧Rw h' b1 (gcells q g)∧Rw h' s.1 [.int .i64 g.n,.slice s.2.1 g.n s.2.2]∧RA h' (.agg #[.int .i64 g.n,.slice s.2.1 g.n s.2.2]) g.n (compM g.n (relM g 9) g.n (relM g 2))) ?_ ?_
 ·have P0:=p0
  have R1:=r1
  simp -dsimp only [go_sem,r_two,r1.cell]
  refine ⟨?_,?_⟩
  ·refine call_of (ref8_Fr (t.fr p0) hg) ?_
   rintro v g6 ⟨f6,t6⟩
   have f6_z:=f6.size
   replace p0:=p0.F f6
   replace r1:=r1.F f6
   obtain ⟨a6,c6,rfl⟩:=ra_is' t6
   simp -dsimp only [go_sem,r_two,r1.cell]
   refine ⟨?_,?_⟩
   ·refine call_of (ref8_Co (t.fr p0) hg) ?_
    rintro v g8 ⟨f8,t8⟩
    replace t6:=t6.fr f8 (by omega)
    have f8_z:=f8.size
    replace p0:=p0.F f8
    replace r1:=r1.F f8
    obtain ⟨a8,c8,rfl⟩:=ra_is' t8
    simp -dsimp only [go_sem,r_two,r1.cell]
    refine ⟨?_,?_⟩
    ·refine call_of (ref1_Comp t6 t8) ?_
     rintro v g9 ⟨f9,t9⟩
     rw [Nat.max_self] at t9
     have f9_z:=f9.size
     replace p0:=p0.F f9
     replace r1:=r1.F f9
     obtain ⟨a9,c9,rfl⟩:=ra_is' t9
     simp -dsimp only [go_sem,r1.cell]
     intro b3 g3 n3
     have n3_a:=n3.at_
     have n3_z:=n3.size
     replace p0:=p0.F n3.f0
     replace r1:=r1.F n3.f0
     have r3:=n3.row
     simp -dsimp only [go_sem,r1.cell,r3.cell]
     refine Chk_intro (r3.W) fun g4 s4=>?_
     have s4_z:=s4.size
     replace p0:=p0.F s4.fr
     replace r1:=r1.F s4.fr
     replace r3:=s4.row r3
     try simp only [cl_int,cl_bool,cl_slice,cl_ptr,putAt_one,zs0,zs1,ivec_set,brow_upd] at r3
     simp -dsimp only [go_sem,r1.cell,r3.cell]
     exact ⟨(b3,a9,c9),by simp [Le,find],p0,by first | omega | (dsimp only;omega),by first | omega | (dsimp only;omega),by first | omega | (dsimp only;omega),r1,r3,_,_,(t9.fr n3.f0 (by omega)).fr s4.fr (by omega)⟩
    ·intro b3 g3 n3
     have n3_a:=n3.at_
     have n3_z:=n3.size
     replace p0:=p0.F n3.f0
     replace r1:=r1.F n3.f0
     have r3:=n3.row
     replace t6:=t6.fr n3.f0 (by omega)
     replace t8:=t8.fr n3.f0 (by omega)
     simp -dsimp only [go_sem,r1.cell,r3.cell]
     refine call_of (ref1_Comp t6 t8) ?_
     rintro v g9 ⟨f9,t9⟩
     rw [Nat.max_self] at t9
     have f9_z:=f9.size
     replace p0:=p0.F f9
     replace r1:=r1.F f9
     replace r3:=r3.F f9
     obtain ⟨a9,c9,rfl⟩:=ra_is' t9
     simp -dsimp only [go_sem,r1.cell,r3.cell]
     refine Chk_intro (r3.W) fun g4 s4=>?_
     have s4_z:=s4.size
     replace p0:=p0.F s4.fr
     replace r1:=r1.F s4.fr
     replace r3:=s4.row r3
     try simp only [cl_int,cl_bool,cl_slice,cl_ptr,putAt_one,zs0,zs1,ivec_set,brow_upd] at r3
     simp -dsimp only [go_sem,r1.cell,r3.cell]
     exact ⟨(b3,a9,c9),by simp [Le,find],p0,by first | omega | (dsimp only;omega),by first | omega | (dsimp only;omega),by first | omega | (dsimp only;omega),r1,r3,_,_,t9.fr s4.fr (by omega)⟩
   ·intro b3 g3 n3
    have n3_a:=n3.at_
    have n3_z:=n3.size
    replace p0:=p0.F n3.f0
    replace r1:=r1.F n3.f0
    have r3:=n3.row
    replace t6:=t6.fr n3.f0 (by omega)
    simp -dsimp only [go_sem,r1.cell,r3.cell]
    refine call_of (ref8_Co (t.fr p0) hg) ?_
    rintro v g8 ⟨f8,t8⟩
    replace t6:=t6.fr f8 (by omega)
    have f8_z:=f8.size
    replace p0:=p0.F f8
    replace r1:=r1.F f8
    replace r3:=r3.F f8
    obtain ⟨a8,c8,rfl⟩:=ra_is' t8
    simp -dsimp only [go_sem,r1.cell,r3.cell]
    refine call_of (ref1_Comp t6 t8) ?_
    rintro v g9 ⟨f9,t9⟩
    rw [Nat.max_self] at t9
    have f9_z:=f9.size
    replace p0:=p0.F f9
    replace r1:=r1.F f9
    replace r3:=r3.F f9
    obtain ⟨a9,c9,rfl⟩:=ra_is' t9
    simp -dsimp only [go_sem,r1.cell,r3.cell]
    refine Chk_intro (r3.W) fun g4 s4=>?_
    have s4_z:=s4.size
    replace p0:=p0.F s4.fr
    replace r1:=r1.F s4.fr
    replace r3:=s4.row r3
    try simp only [cl_int,cl_bool,cl_slice,cl_ptr,putAt_one,zs0,zs1,ivec_set,brow_upd] at r3
    simp -dsimp only [go_sem,r1.cell,r3.cell]
    exact ⟨(b3,a9,c9),by simp [Le,find],p0,by first | omega | (dsimp only;omega),by first | omega | (dsimp only;omega),by first | omega | (dsimp only;omega),r1,r3,_,_,t9.fr s4.fr (by omega)⟩
  ·intro b3 g3 n3
   have n3_a:=n3.at_
   have n3_z:=n3.size
   replace p0:=p0.F n3.f0
   replace r1:=r1.F n3.f0
   have r3:=n3.row
   simp -dsimp only [go_sem,r1.cell,r3.cell]
   refine call_of (ref8_Fr (t.fr p0) hg) ?_
   rintro v g6 ⟨f6,t6⟩
   have f6_z:=f6.size
   replace p0:=p0.F f6
   replace r1:=r1.F f6
   replace r3:=r3.F f6
   obtain ⟨a6,c6,rfl⟩:=ra_is' t6
   simp -dsimp only [go_sem,r1.cell,r3.cell]
   refine call_of (ref8_Co (t.fr p0) hg) ?_
   rintro v g8 ⟨f8,t8⟩
   replace t6:=t6.fr f8 (by omega)
   have f8_z:=f8.size
   replace p0:=p0.F f8
   replace r1:=r1.F f8
   replace r3:=r3.F f8
   obtain ⟨a8,c8,rfl⟩:=ra_is' t8
   simp -dsimp only [go_sem,r1.cell,r3.cell]
   refine call_of (ref1_Comp t6 t8) ?_
   rintro v g9 ⟨f9,t9⟩
   rw [Nat.max_self] at t9
   have f9_z:=f9.size
   replace p0:=p0.F f9
   replace r1:=r1.F f9
   replace r3:=r3.F f9
   obtain ⟨a9,c9,rfl⟩:=ra_is' t9
   simp -dsimp only [go_sem,r1.cell,r3.cell]
   refine Chk_intro (r3.W) fun g4 s4=>?_
   have s4_z:=s4.size
   replace p0:=p0.F s4.fr
   replace r1:=r1.F s4.fr
   replace r3:=s4.row r3
   try simp only [cl_int,cl_bool,cl_slice,cl_ptr,putAt_one,zs0,zs1,ivec_set,brow_upd] at r3
   simp -dsimp only [go_sem,r1.cell,r3.cell]
   exact ⟨(b3,a9,c9),by simp [Le,find],p0,by first | omega | (dsimp only;omega),by first | omega | (dsimp only;omega),by first | omega | (dsimp only;omega),r1,r3,_,_,t9.fr s4.fr (by omega)⟩
 clear p0 r1
 rintro ⟨b3,a9,c9⟩ h2 ⟨p0,z2,k1,k2,r1,r3,tx⟩ e ⟨e1',e3',-⟩
 dsimp only at k1 k2 r3 tx e3'
 obtain ⟨l1,l2,tx⟩:=tx
 have P2:Fr 0 0 h2 h2:=.refl _ _ _
 have K1:=r1
 have K3:=r3
 unfold gcells at r1
 have p0_z:=p0.size
 have r1_l:=r1.lt
 have r3_l:=r3.lt
 simp -dsimp only [go_sem,e1',e3',r1.cell,r3.cell]
 refine loop_intro (fun i:Nat=>[(1,.pointer (some ⟨b1,0,none⟩)),(3,.pointer (some ⟨b3,0,none⟩)),(4,.int .i64 i)])
  (fun i h'=>i≤g.rmw.length∧Fr 0 0 h h'∧Fr 0 0 h2 h'∧(g.rmw.take i).find? (tornS g)=none) (fun i=>g.rmw.length - i) 0 ?_ ?_ ?_
 ·simp [Le,find,e1',e3']
 ·exact ⟨by omega,p0,P2,rfl⟩
 clear p0 r1 r3 P2
 rintro i h13 ⟨hi,p0,p12,hfn⟩
 have r1:=K1.fr p12 (by omega)
 have r12:=K3.fr p12 (by omega)
 unfold gcells at r1
 have p0_z:=p0.size
 have p12_z:=p12.size
 have r1_l:=r1.lt
 have r12_l:=r12.lt
 by_cases hlt:i<g.rmw.length
 ·have e1:((i:Int)<(g.rmw.length:Int)):=by omega
  have hq:g.rmw[i]?=some g.rmw[i]:=List.getElem?_eq_getElem hlt
  obtain ⟨w,hz⟩:=good_check hg
  obtain ⟨x,y,he,hxy,hyn⟩:=words_rmw hz (List.mem_of_getElem? hq)
  rw [he] at hq
  obtain ⟨rb,ro,hre,hrc⟩:=t.r.pairsAt (by omega)
  obtain ⟨k1,k2⟩:=hrc h13 p0 i _ hq
  dsimp only at k1 k2
  obtain ⟨R,tb⟩:=refAt_row (tx.fr p12 (by omega))
  simp -dsimp only [go_sem,e1,hre,k1,k2,r1.cell,r12.cell]
  have hxn:x<g.n:=by omega
  refine Chk_intro (by omega) (tb.idx hxn fun b14 o14 c14=>?_)
  simp -dsimp only [go_sem,e1,hre,k1,k2,c14,r1.cell,r12.cell]
  refine Chk_intro (by omega) ?_
  simp -dsimp only [go_sem,e1,hre,k1,k2,c14,tb.cell hxn hyn,r1.cell,r12.cell]
  have htn:=tornS_has (g:=g) (p:=((x:Int),(y:Int)))
  have i1:inR g.n (x:Int)=true:=by unfold inR;simp;omega
  have i2:inR g.n (y:Int)=true:=by unfold inR;simp;omega
  dsimp only at htn
  rw [i1,i2,Int.toNat_natCast,Int.toNat_natCast,Bool.true_and,Bool.true_and] at htn
  rw [htn]
  cases hb:tornS g ((x:Int),(y:Int))
  ·simp -dsimp only [go_sem,r1.cell,r12.cell]
   simp -dsimp (disch:=omega) only [wrap64]
   exact ⟨i+1,by omega,by simp [Le,find],by omega,p0,p12,find_next hq hfn hb⟩
  ·simp -dsimp only [go_sem,e1,hre,k1,k2,r1.cell,r12.cell]
   intro b15 h15 n15
   have n15_z:=n15.az
   replace p0:=p0.F n15.f0
   replace p12:=p12.F n15.f0
   replace r1:=r1.F n15.f0
   replace r12:=r12.F n15.f0
   have r15:=n15.row
   simp -dsimp only [go_sem,r1.cell,r12.cell,r15.cell]
   have hA:atomS g=[(x:Int),(y:Int)]:=by unfold atomS;rw [find_at hq hfn hb]
   rw [hA]
   exact ⟨p0,holder_row (s:=1) (n:=2) r15 rfl (by omega)⟩
 ·obtain rfl:i=g.rmw.length:=by omega
  simp -dsimp only [go_sem,Int.lt_irrefl,r1.cell,r12.cell]
  rw [List.take_length] at hfn
  have hA:atomS g=[]:=by unfold atomS;rw [hfn]
  rw [hA]
  exact ⟨p0,.none _ _ _⟩
set_option maxHeartbeats 2000000 in
theorem ref12_Com (t:GrAt h q g) (hg:g.good=true) :
  Con Tryd.prog 61 #[.agg (gcells q g).toArray] h fun v h'=>Fr 0 0 h h'∧RA h' v g.n (allM g):=by
 refine con_q65 ?_
 have hn:=(good_n hg).1
 have p0:Fr 0 0 h h:=.refl _ _ _
 unfold gcells
 simp -dsimp only [go_sem]
 intro b1 h1 n1
 have n1_z:=n1.az
 replace p0:=p0.F n1.f0
 have r1:=n1.row
 simp -dsimp only [go_sem,r1.cell]
 intro b2 h2 n2
 have n2_z:=n2.az
 replace p0:=p0.F n2.f0
 replace r1:=r1.F n2.f0
 have r2:=n2.row
 simp -dsimp only [go_sem,r1.cell,r2.cell]
 refine call_of (ref8_Po (t.fr p0) hn) ?_
 rintro v h3 ⟨f3,t3⟩
 replace t3:=ra_of' t3
 have f3_z:=f3.size
 replace p0:=p0.F f3
 replace r1:=r1.F f3
 replace r2:=r2.F f3
 obtain ⟨a3,c3,rfl⟩:=t3.is
 simp -dsimp only [go_sem,r1.cell,r2.cell]
 refine call_of (ref8_Rf (t.fr p0) hn) ?_
 rintro v h4 ⟨f4,t4⟩
 replace t4:=ra_of' t4
 replace t3:=t3.fr f4
 have f4_z:=f4.size
 replace p0:=p0.F f4
 replace r1:=r1.F f4
 replace r2:=r2.F f4
 obtain ⟨a4,c4,rfl⟩:=t4.is
 simp -dsimp only [go_sem,r1.cell,r2.cell]
 refine call_of (ref8_Co (t.fr p0) hg) ?_
 rintro v h5 ⟨f5,t5⟩
 replace t5:=ra_of' t5
 replace t3:=t3.fr f5
 replace t4:=t4.fr f5
 have f5_z:=f5.size
 replace p0:=p0.F f5
 replace r1:=r1.F f5
 replace r2:=r2.F f5
 obtain ⟨a5,c5,rfl⟩:=t5.is
 simp -dsimp only [go_sem,r1.cell,r2.cell]
 refine call_of (ref8_Fr (t.fr p0) hg) ?_
 rintro v h6 ⟨f6,t6⟩
 replace t6:=ra_of' t6
 replace t3:=t3.fr f6
 replace t4:=t4.fr f6
 replace t5:=t5.fr f6
 have f6_z:=f6.size
 replace p0:=p0.F f6
 replace r1:=r1.F f6
 replace r2:=r2.F f6
 obtain ⟨a6,c6,rfl⟩:=t6.is
 simp -dsimp only [go_sem,r1.cell,r2.cell]
 intro b7 h7 n7
 have n7_z:=n7.az
 replace p0:=p0.F n7.f0
 replace r1:=r1.F n7.f0
 replace r2:=r2.F n7.f0
 have r7:=n7.row
 try simp -dsimp only [go_sem] at n7
 try simp -dsimp only [go_sem] at r7
 simp -dsimp only [go_sem,r1.cell,r2.cell,r7.cell]
 refine call_of (ref12_any (CR.mk [(.slice a3 g.n c3,relM g 0),(.slice a4 g.n c4,relM g 1),(.slice a5 g.n c5,relM g 2),(.slice a6 g.n c6,relM g 9)] r7 (ra_cons (t3.fr n7.fr) (ra_cons (t4.fr n7.fr) (ra_cons (t5.fr n7.fr) (ra_cons (t6.fr n7.fr) ra_nil)))) (by simp))) ?_
 rintro v h8 ⟨f8,t8,q8⟩
 have f8_z:=f8.size
 replace p0:=p0.F f8
 replace r1:=r1.F f8
 replace r2:=r2.F f8
 replace r7:=r7.F f8
 clear t8
 have t8:=RefAt.congr (N:=allM g) (q8 (by simp)) fun i j hi hj=>by rw [oM_in hi hj];simp [allM,Bool.or_assoc]
 obtain ⟨a8,c8,rfl⟩:=ra_is' t8
 clear q8
 simp -dsimp only [go_sem,r1.cell,r2.cell,r7.cell]
 refine Chk_intro (r2.W) fun h9 s9=>?_
 have s9_z:=s9.size
 replace p0:=p0.F s9.fr
 replace r1:=r1.F s9.fr
 replace r7:=r7.F s9.fr
 replace r2:=s9.row r2
 try simp only [cl_int,cl_bool,cl_slice,cl_ptr,putAt_one,zs0,zs1,ivec_set,brow_upd] at r2
 try simp -dsimp only [go_sem] at r2
 simp -dsimp only [go_sem,r1.cell,r2.cell,r7.cell]
 exact ⟨p0,_,_,t8.fr s9.fr (by omega)⟩
set_option maxHeartbeats 2000000 in
theorem ref12_Sc (t:GrAt h q g) :
  Con Tryd.prog 59 #[.agg (gcells q g).toArray] h fun v h'=>Fr 0 0 h h'∧if g.good=true then ∃ w,v=.tuple #[.int .i64 (scAx g).1,w,.int .i64 0]∧Holder 1 h' w (scAx g).2.length (intsV (scAx g).2) h.size
   else v=.tuple #[.int .i64 0,.slice none 0 0,.int .i64 4]:=by
 have p0:Fr 0 0 h h:=.refl _ _ _
 by_cases hg:g.good=true
 rotate_left
 ·simp only [if_neg hg]
  refine con_q67 ?_
  unfold gcells
  simp -dsimp only [go_sem]
  intro b1 h1 n1
  have n1_a:=n1.at_
  have n1_z:=n1.size
  replace p0:=p0.F n1.f0
  have r1:=n1.row
  simp -dsimp only [go_sem,r1.cell]
  refine call_of (ref8_Good (t.fr p0)) ?_
  rintro v2 h2 ⟨f2,rfl⟩
  have f2_z:=f2.size
  replace p0:=p0.F f2
  replace r1:=r1.F f2
  rw [Bool.not_eq_true] at hg
  rw [hg]
  simp -dsimp only [go_sem,r1.cell]
  exact p0
 simp only [if_pos hg]
 refine con_q67 ?_
 unfold gcells
 simp -dsimp only [go_sem]
 intro b1 h1 n1
 have n1_a:=n1.at_
 have n1_z:=n1.size
 replace p0:=p0.F n1.f0
 have r1:=n1.row
 simp -dsimp only [go_sem,r1.cell]
 refine call_of (ref8_Good (t.fr p0)) ?_
 rintro v2 h2 ⟨f2,rfl⟩
 have f2_z:=f2.size
 replace p0:=p0.F f2
 replace r1:=r1.F f2
 rw [hg]
 simp -dsimp only [go_sem,r1.cell]
 refine call_of (ref12_Com (t.fr p0) hg) ?_
 rintro v3 h3 ⟨f3,_,_,t3⟩
 have f3_z:=f3.size
 replace p0:=p0.F f3
 replace r1:=r1.F f3
 obtain ⟨a3,c3,rfl⟩:=ra_is' t3
 simp -dsimp only [go_sem,r1.cell]
 refine call_of (ref1_Cycle t3) ?_
 rintro v4 h4 ⟨f4,o4⟩
 have f4_z:=f4.size
 replace p0:=p0.F f4
 replace r1:=r1.F f4
 obtain ⟨a4,c4,rfl⟩:=o4.is
 simp -dsimp only [go_sem,r1.cell]
 by_cases h1':cycS g.n (allM g)=[]
 rotate_left
 ·have hl:(((cycS g.n (allM g)).length:Nat):Int) > 0:=by have:=List.length_pos_iff.2 h1';omega
  simp -dsimp only [go_sem,hl,r1.cell]
  have hA:scAx g=(1,natsI (cycS g.n (allM g))):=by unfold scAx;rw [if_pos h1']
  rw [hA]
  refine ⟨p0,_,rfl,?_⟩
  dsimp only
  rw [natsV_ints] at o4
  have:(natsI (cycS g.n (allM g))).length=(cycS g.n (allM g)).length:=by simp [natsI]
  rw [this]
  exact o4.lower (by omega)
 have hl:¬ (((cycS g.n (allM g)).length:Nat):Int) > 0:=by rw [h1'];decide
 clear o4
 simp -dsimp only [go_sem,hl,r1.cell]
 refine call_of (ref12_torn (t.fr p0) hg) ?_
 rintro v5 h5 ⟨f5,o5⟩
 have f5_z:=f5.size
 replace p0:=p0.F f5
 replace r1:=r1.F f5
 obtain ⟨a5,c5,rfl⟩:=o5.is
 simp -dsimp only [go_sem,r1.cell]
 by_cases h2':atomS g=[]
 rotate_left
 ·have hl:(((atomS g).length:Nat):Int) > 0:=by have:=List.length_pos_iff.2 h2';omega
  simp -dsimp only [go_sem,hl,r1.cell]
  have hA:scAx g=(2,atomS g):=by unfold scAx;rw [if_neg (by simp [h1']),if_pos h2']
  rw [hA]
  exact ⟨p0,_,rfl,o5.lower (by omega)⟩
 have hl:¬ (((atomS g).length:Nat):Int) > 0:=by rw [h2'];decide
 simp -dsimp only [go_sem,hl,r1.cell]
 have hA:scAx g=(0,[]):=by unfold scAx;rw [if_neg (by simp [h1']),if_neg (by simp [h2'])]
 rw [hA]
 exact ⟨p0,_,rfl,.none _ _ _⟩
end
end Go.Proofs.Tst
/-
  The document's answers of chapter 21: Order, Replay, Picks.
-/
namespace Go.Proofs.Tst
open Go Go.Vc
section
variable {h : Heap} {q : GV} {g : Gr}
set_option maxHeartbeats 2000000 in
theorem ref21_Order (t:GrAt h q g) :
  Con Tryd.prog 26 #[.agg (gcells q g).toArray] h fun v h'=>Fr 0 0 h h'∧ResL h' h.size v (ordA g):=by
 refine con_q81 ?_
 have p0:Fr 0 0 h h:=.refl _ _ _
 have br:=t.fits.r
 unfold gcells ordA
 simp -dsimp only [go_sem]
 intro b1 h1 n1
 have n1_z:=n1.az
 replace p0:=p0.F n1.f0
 have r1:=n1.row
 simp -dsimp only [go_sem,r1.cell]
 refine call_of (ref12_Sc (t.fr p0)) ?_
 rintro v2 h2 ⟨f2,w⟩
 have f2_z:=f2.size
 replace p0:=p0.F f2
 replace r1:=r1.F f2
 by_cases hg:g.good=true
 rotate_left
 ·rw [if_neg hg] at w ⊢
  subst w
  simp -dsimp only [go_sem,r1.cell]
  exact ⟨p0,rfl⟩
 rw [if_pos hg] at w ⊢
 obtain ⟨w,rfl,o⟩:=w
 clear o
 by_cases h0:(scAx g).1=0
 rotate_left
 ·rw [if_neg h0]
  simp -dsimp only [go_sem,bne_f h0,r1.cell]
  exact ⟨p0,rfl⟩
 rw [if_pos h0]
 simp -dsimp only [go_sem,bne_t h0,r1.cell]
 refine call_of (ref12_Com (t.fr p0) hg) ?_
 rintro v3 h3 ⟨f3,_,_,t3⟩
 have f3_z:=f3.size
 replace p0:=p0.F f3
 replace r1:=r1.F f3
 obtain ⟨a3,c3,rfl⟩:=ra_is' t3
 simp -dsimp only [go_sem,r1.cell]
 refine call_of (ref2_Glue t3 (t.r.fr p0) (by omega)) ?_
 rintro v8 h8 ⟨f8,o8⟩
 have f8_z:=f8.size
 replace p0:=p0.F f8
 replace r1:=r1.F f8
 obtain ⟨s8,e8,rfl⟩:=o8.is
 simp -dsimp only [go_sem,r1.cell]
 exact ⟨p0,o8.lower (by omega)⟩
end
end Go.Proofs.Tst
/-
  TotalOrders.
-/
namespace Go.Proofs.Tst
open Go Go.Vc
def ordL (g:Gr):List Int:=match ordA g with | .ok m=>castL m | .error _=>[]
def ordE (g:Gr):Int:=match ordA g with | .ok _=>0 | .error e=>e
theorem res_ord {g:Gr} {h:Heap} {lo:Nat} {v:Value} (w:ResL h lo v (ordA g)):∃ s,v=.tuple #[s,.int .i64 (ordE g)]∧Holder 1 h s (ordL g).length (intsV (ordL g)) lo:=by
 unfold ordL ordE
 generalize ordA g=o at w ⊢
 cases o with
 | ok m=>obtain ⟨s,rfl,o⟩:=w;refine ⟨s,rfl,?_⟩;dsimp only;rw [← natsV_cast,castL_len];exact o
 | error e=>exact ⟨_,w,.none _ _ _⟩
theorem ordL_len {g:Gr}:(ordL g).length≤256:=by
 unfold ordL ordA
 by_cases hg:g.good=true
 rotate_left
 ·rw [if_neg hg];simp
 rw [if_pos hg]
 by_cases h0:(scAx g).1=0
 rotate_left
 ·rw [if_neg h0];simp
 rw [if_pos h0]
 cases hm:glueS g.n (allM g) g.rmw with
 | ok m=>dsimp only;rw [castL_len,(glue_sound hm).2.1];exact (good_n hg).1
 | error e=>simp
set_option maxHeartbeats 4000000 in
theorem c_law21_TotalOrders {h:Heap} {q:GV} {g:Gr} (t:GrAt h q g) (ht:TabAt h) :
  Con Tryd.prog 5 #[.agg (gcells q g).toArray] h fun v h'=>Fr 0 0 h h'∧v=.bool true:=by
 refine con_q41 ?_
 have hz:0<h.size:=hcell_lt (ht 0 0 rfl)
 have p0:Fr 0 0 h h:=.refl _ _ _
 have hll:=ordL_len (g:=g)
 unfold gcells
 simp -dsimp only [go_sem]
 intro b1 h1 n1
 have n1_z:=n1.az
 replace p0:=p0.F n1.f0
 have r1:=n1.row
 simp -dsimp only [go_sem,r1.cell]
 refine call_of (ref8_Copied (t.fr p0) (by omega)) ?_
 rintro v2 h2 ⟨f2,q',rfl,w⟩
 have f2_z:=f2.size
 replace p0:=p0.F f2
 replace r1:=r1.F f2
 have t':=w.at_
 have p2:Fr 0 0 h2 h2:=.refl _ _ _
 unfold gcells
 simp -dsimp only [go_sem,r1.cell]
 intro b3 h3 n3
 have n3_z:=n3.az
 replace p0:=p0.F n3.f0
 replace r1:=r1.F n3.f0
 replace p2:=p2.F n3.f0
 have r3:=n3.row
 simp -dsimp only [go_sem,r1.cell,r3.cell]
 refine Chk_intro (r3.W) fun h4 s4=>?_
 have s4_z:=s4.size
 replace p0:=p0.F s4.fr
 replace r1:=r1.F s4.fr
 replace p2:=p2.F s4.fr
 replace r3:=s4.row r3
 try simp only [cl_int,cl_bool,cl_slice,cl_ptr,putAt_one,zs0,zs1,ivec_set,brow_upd] at r3
 simp -dsimp only [go_sem] at r3
 simp -dsimp only [go_sem,r1.cell,r3.cell]
 refine call_of (total_Order (t'.fr p2) (ht.fr p0 (.inr rfl))) ?_
 rintro v5 h5 ⟨f5,w5⟩
 have f5_z:=f5.size
 replace p0:=p0.F f5
 replace r1:=r1.F f5
 replace p2:=p2.F f5
 replace r3:=r3.F f5
 obtain ⟨u5,rfl,o5⟩:=res_ord w5
 clear w5
 obtain ⟨a5,c5,rfl⟩:=o5.is
 have tp5:=o5.top
 simp -dsimp only [go_sem,r1.cell,r3.cell]
 refine call_of (total_Order (t'.fr p2) (ht.fr p0 (.inr rfl))) ?_
 rintro v6 h6 ⟨f6,w6⟩
 have f6_z:=f6.size
 replace p0:=p0.F f6
 replace r1:=r1.F f6
 replace p2:=p2.F f6
 replace r3:=r3.F f6
 replace o5:=o5.fr f6 (by have:=o5.at_;omega)
 obtain ⟨u6,rfl,o6⟩:=res_ord w6
 clear w6
 obtain ⟨a6,c6,rfl⟩:=o6.is
 simp -dsimp only [go_sem,r1.cell,r3.cell]
 refine call_of (ref21_Order (t.fr p0)) ?_
 rintro v7 h7 ⟨f7,w7⟩
 have f7_z:=f7.size
 replace p0:=p0.F f7
 replace r1:=r1.F f7
 replace p2:=p2.F f7
 replace r3:=r3.F f7
 replace o5:=o5.fr f7 (by have:=o5.at_;omega)
 replace o6:=o6.fr f7 (by have:=o6.at_;omega)
 obtain ⟨u7,rfl,o7⟩:=res_ord w7
 clear w7
 obtain ⟨a7,c7,rfl⟩:=o7.is
 have gz:h.size≤h2.size∧h2.size≤h4.size∧h4.size≤h5.size∧h5.size≤h6.size∧h6.size≤h7.size∧b1<h4.size∧b3<h4.size∧h.size≤b1∧h2.size≤b3:=by omega
 simp -dsimp only [go_sem,bne_self_eq_false,r1.cell,r3.cell]
 refine call_of (c_law21_ints (l:=ordL g) (m:=ordL g) o5.rd o7.rd (by omega)) ?_
 rintro v8 h7 ⟨rfl,rfl⟩
 simp -dsimp only [go_sem,dec_self,r1.cell,r3.cell]
 have R3:Rw h7 b3 (gcells q' g):=r3
 have R1:Rw h7 b1 (gcells q g):=r1
 generalize hnl:(ordL g).length=nl at o5
 refine loop_intro (fun i:Nat=>[(1,.pointer (some ⟨b1,0,none⟩)),(3,.pointer (some ⟨b3,0,none⟩)),(4,.slice a5 nl c5),(6,.slice a6 (ordL g).length c6),(8,.slice a7 (ordL g).length c7),(10,.int .i64 i)])
  (fun i h'=>i≤nl∧Fr 0 0 h h'∧Fr 0 0 h2 h'∧Rw h' b1 (gcells q g)∧Rw h' b3 (gcells q' g)∧(∃ ys,Holder 1 h' (.slice a5 nl c5) nl ys h4.size)∧Holder 1 h' (.slice a6 (ordL g).length c6) (ordL g).length (intsV (ordL g)) h5.size∧Holder 1 h' (.slice a7 (ordL g).length c7) (ordL g).length (intsV (ordL g)) h6.size) (fun i=>nl - i) 0 ?_ ?_ ?_
 ·simp [Le,find,hnl]
 ·exact ⟨by omega,p0,p2,R1,R3,⟨_,o5⟩,o6,o7⟩
 clear p0 p2 r1 r3 o5 o6 o7 R1 R3
 rintro i h8 ⟨hi,p0,p2,r1,r3,⟨ys,osp⟩,o6,o7⟩
 unfold gcells at r1 r3
 have tps:bh (.slice a5 nl c5)≤h5.size:=by rw [← hnl];exact tp5
 have p0_z:=p0.size
 have p2_z:=p2.size
 have r1_l:=r1.lt
 have r3_l:=r3.lt
 have o6_l:=o6.top
 have o7_l:=o7.top
 by_cases hlt:i<nl
 ·have e1:((i:Int)<(nl:Int)):=by omega
  obtain ⟨b,c,rest,he,-,-,hb⟩:=osp.blk (by omega)
  cases he
  have tps:b+1≤h5.size:=tps
  simp -dsimp only [go_sem,e1,r1.cell,r3.cell]
  refine Chk_intro (osp.wrAt hlt) fun h9 s9=>?_
  have osp':=osp.set hlt s9
  clear osp
  have f9:=s9.fr
  have f9_z:=f9.size
  replace p0:=p0.F f9
  replace p2:=p2.F f9
  replace r1:=r1.F f9
  replace r3:=r3.F f9
  replace o6:=o6.fr f9 (by have:=o6.at_;omega)
  replace o7:=o7.fr f9 (by have:=o7.at_;omega)
  simp -dsimp only [go_sem,r1.cell,r3.cell]
  simp -dsimp (disch:=omega) only [wrap64]
  exact ⟨i+1,by omega,by simp [Le,find],by omega,p0,p2,r1,r3,⟨_,osp'⟩,o6,o7⟩
 obtain rfl:i=nl:=by omega
 simp -dsimp only [go_sem,Int.lt_irrefl,r1.cell,r3.cell]
 refine call_of (c_law21_ints (l:=ordL g) (m:=ordL g) o6.rd o7.rd (by omega)) ?_
 rintro v10 h10 ⟨rfl,rfl⟩
 simp -dsimp only [go_sem,dec_self,r1.cell,r3.cell]
 refine call_of (ref8_Alike (t'.fr p2) (t.fr p0)) ?_
 rintro v11 h11 ⟨f11,rfl⟩
 have f11_z:=f11.size
 replace p0:=p0.F f11
 replace p2:=p2.F f11
 replace r1:=r1.F f11
 replace r3:=r3.F f11
 replace o6:=o6.fr f11 (by have:=o6.at_;omega)
 replace o7:=o7.fr f11 (by have:=o7.at_;omega)
 simp -dsimp only [go_sem,r1.cell,r3.cell]
 refine call_of (law21_lives (ht.fr p0 (.inr rfl))) ?_
 rintro v12 h12 ⟨f12,rfl⟩
 have f12_z:=f12.size
 replace p0:=p0.F f12
 replace p2:=p2.F f12
 replace r1:=r1.F f12
 replace r3:=r3.F f12
 replace o6:=o6.fr f12 (by have:=o6.at_;omega)
 replace o7:=o7.fr f12 (by have:=o7.at_;omega)
 simp -dsimp only [go_sem,r1.cell,r3.cell]
 exact p0
end Go.Proofs.Tst
/-
  TotalOrders and its arguments.
-/
namespace Go.Proofs.Tst
end Go.Proofs.Tst
