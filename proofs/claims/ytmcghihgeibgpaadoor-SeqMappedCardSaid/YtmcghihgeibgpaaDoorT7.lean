/-
  Contracts of functions that the law reaches: what each returns and what it leaves in memory. Conditions stand in each.
-/
import Derived.Test.YtmcghihgeibgpaaDoorT6
set_option linter.all false
set_option maxRecDepth 2000
/-
  The words' memory model in memory: its parts.
-/
namespace Go.Proofs.Tst
open Go Go.Vc
def mcells (q:GV) (g:Gr) (c:Nat→Nat) (rd wr fe:Value) (d:Nat→Nat):List Value:=[.int .i64 g.cells,.slice q.e g.evs.length q.ec,.slice q.f g.rf.length q.fc,.slice q.o g.co.length q.oc,.slice q.r g.rmw.length q.rc,.slice q.a g.addr.length q.ac,.slice q.d g.data.length q.dc,.slice q.c g.ctrl.length q.cc,
 .pointer (some ⟨c 0,0,none⟩),.pointer (some ⟨c 1,0,none⟩),.pointer (some ⟨c 2,0,none⟩),.pointer (some ⟨c 9,0,none⟩),.pointer (some ⟨c 3,0,none⟩),.pointer (some ⟨c 4,0,none⟩),.pointer (some ⟨c 5,0,none⟩),.pointer (some ⟨c 6,0,none⟩),.pointer (some ⟨c 7,0,none⟩),.pointer (some ⟨c 8,0,none⟩),rd,wr,fe,
 .pointer (some ⟨d 0,0,none⟩),.pointer (some ⟨d 1,0,none⟩),.pointer (some ⟨d 2,0,none⟩),.pointer (some ⟨d 3,0,none⟩),.pointer (some ⟨d 4,0,none⟩),.pointer (some ⟨d 5,0,none⟩)]
def armM (g:Gr):Nat→Mx
 | 0=>rfeM g
 | 1=>rfiM g
 | 2=>coeM g
 | 3=>coiM g
 | 4=>freM g
 | _=>dM (acqB g)
structure Md (h:Heap) (mb:Nat) (q:GV) (g:Gr) (c:Nat→Nat) (rd wr fe:Value) (d:Nat→Nat):Prop where
 row:Rw h mb (mcells q g c rd wr fe d)
 gr:GrAt h q g
 n:g.n≤256
 rel:∀ k,k<10→PA h (.pointer (some ⟨c k,0,none⟩)) g.n (relM g k)
 hm:∀ k,k<6→PA h (.pointer (some ⟨d k,0,none⟩)) g.n (armM g k)
 rd:Rd 1 h rd (kindsV g 1 g.n).length (boolsV (kindsV g 1 g.n))
 wr:Rd 1 h wr (kindsV g 2 g.n).length (boolsV (kindsV g 2 g.n))
 fe:Rd 1 h fe (kindsV g 3 g.n).length (boolsV (kindsV g 3 g.n))
theorem Md.fr {h h':Heap} {mb:Nat} {q:GV} {g:Gr} {c:Nat→Nat} {rd wr fe:Value} {d:Nat→Nat} (m:Md h mb q g c rd wr fe d) (f:Fr 0 0 h h'):Md h' mb q g c rd wr fe d:=
 ⟨m.row.fr f (by omega),m.gr.fr f,m.n,fun k hk=>(m.rel k hk).fr f,fun k hk=>(m.hm k hk).fr f,m.rd.fr f,m.wr.fr f,m.fe.fr f⟩
structure Mg (h:Heap) (mb:Nat) (q:GV) (g:Gr):Prop where
 row:∃ rest,Rw h mb (gcells q g++rest)
 gr:GrAt h q g
 n:g.n≤256
theorem Mg.fr {h h':Heap} {mb:Nat} {q:GV} {g:Gr} (m:Mg h mb q g) (f:Fr 0 0 h h'):Mg h' mb q g:=
 ⟨by obtain ⟨r,w⟩:=m.row;exact ⟨r,w.fr f (by omega)⟩,m.gr.fr f,m.n⟩
theorem Md.mg {h:Heap} {mb:Nat} {q:GV} {g:Gr} {c:Nat→Nat} {rd wr fe:Value} {d:Nat→Nat} (m:Md h mb q g c rd wr fe d):Mg h mb q g:=⟨⟨_,m.row⟩,m.gr,m.n⟩
theorem kinds_len (g:Gr) (k:Int):(kindsV g k g.n).length=g.n:=by simp [kindsV];unfold Gr.n;omega
theorem atB_kinds {g:Gr} {k:Int} {i:Nat} (hi:i<g.n):atB (kindsV g k g.n) i=isK g k i:=atB_get (kindsV_get hi)
theorem atB_with {g:Gr} {x:Int} {i:Nat} (hi:i<g.n):atB (withB g [x]) i=isM g x i:=by
 refine atB_get ?_
 unfold withB isM
 rw [List.getElem?_map,Gr.ev_get hi]
 simp only [Option.map_some,Option.some.injEq]
 rw [Bool.eq_iff_iff];simp
section
variable {h : Heap} {mb : Nat} {q : GV} {g : Gr} {c : Nat → Nat} {rd wr fe : Value} {d : Nat → Nat}
theorem arm_model_set (m:Mg h mb q g) {sv:Value} {l:List Bool} (hl:Rd 1 h sv l.length (boolsV l)) (hb:l.length≤4611686018427387904) {f:Nat→Bool} (hf:∀ i,i<g.n→atB l i=f i) :
  Con Tryd.prog 149 #[.pointer (some ⟨mb,0,none⟩),sv] h fun v h'=>Fr 0 0 h h'∧PN h' h.size v g.n (dM f):=by
 refine con_q9 ?_
 have hn:=m.n
 have hcl:clampN (g.n:Int)=g.n:=by unfold clampN;omega
 have p0:Fr 0 0 h h:=.refl _ _ _
 obtain ⟨rest,r1⟩:=m.row
 unfold gcells at r1
 simp only [List.cons_append,List.nil_append] at r1
 simp -dsimp only [go_sem,evs_len,r1.cell]
 refine call_of (rel_Ident g.n hl hb) ?_
 rintro v h1 ⟨f1,t⟩
 rw [hcl] at t
 have f1_z:=f1.size
 replace p0:=p0.F f1
 replace r1:=r1.F f1
 simp -dsimp only [go_sem,r1.cell]
 exact ⟨p0,(PN.of t).congr fun i j hi hj=>by
  show (i==j&&atB l i)=(i==j&&f i)
  rw [hf i hi]⟩
theorem arm_model_mode (m:Mg h mb q g) (x:Int) :
  Con Tryd.prog 109 #[.pointer (some ⟨mb,0,none⟩),.int .i64 x] h fun v h'=>Fr 0 0 h h'∧PN h' h.size v g.n (dM (isM g x)):=by
 refine con_q7 ?_
 have hn:=m.n
 have p0:Fr 0 0 h h:=.refl _ _ _
 obtain ⟨rest,r1⟩:=m.row
 unfold gcells at r1
 simp only [List.cons_append,List.nil_append] at r1
 simp -dsimp only [go_sem,r1.cell]
 intro b2 h2 n2
 have n2_z:=n2.az
 replace p0:=p0.F n2.f0
 replace r1:=r1.F n2.f0
 have r2:=n2.row
 simp -dsimp only [go_sem,r1.cell,r2.cell]
 refine call_of (graph_With (m.gr.fr p0) (by omega) (m:=[x]) (Rw.rd (s:=1) (n:=1) (c:=1) r2 rfl) (by simp)) ?_
 rintro v3 h3 ⟨f3,o3⟩
 have f3_z:=f3.size
 replace p0:=p0.F f3
 replace r1:=r1.F f3
 replace r2:=r2.F f3
 have hwl:(withB g [x]).length=g.n:=by simp [withB,Gr.n]
 simp -dsimp only [go_sem,r1.cell,r2.cell]
 refine call_of (arm_model_set (m.fr p0) (l:=withB g [x]) (by rw [hwl];exact o3.rd) (by omega) (fun i hi=>atB_with hi)) ?_
 rintro v4 h4 ⟨f4,t4⟩
 have f4_z:=f4.size
 replace p0:=p0.F f4
 replace r1:=r1.F f4
 replace r2:=r2.F f4
 simp -dsimp only [go_sem,r1.cell,r2.cell]
 exact ⟨p0,t4.lower (by omega)⟩
theorem arm_model_obs (m:Md h mb q g c rd wr fe d) :
  Con Tryd.prog 114 #[.pointer (some ⟨mb,0,none⟩)] h fun v h'=>Fr 0 0 h h'∧PN h' h.size v g.n (obsM g):=by
 refine con_q8 ?_
 have p0:Fr 0 0 h h:=.refl _ _ _
 have r1:=m.row
 unfold mcells at r1
 simp -dsimp only [go_sem,r1.cell]
 intro b2 h2 n2
 have n2_z:=n2.az
 replace p0:=p0.F n2.f0
 replace r1:=r1.F n2.f0
 have r2:=n2.row
 simp -dsimp only [go_sem,r1.cell,r2.cell]
 have m2:=m.fr p0
 refine call_of (rel_UnionU (UA.mk' [(.pointer (some ⟨d 0,0,none⟩),rfeM g),(.pointer (some ⟨d 2,0,none⟩),coeM g),(.pointer (some ⟨d 4,0,none⟩),freM g)] r2 (pa_cons (m2.hm 0 (by decide)) (pa_cons (m2.hm 2 (by decide)) (pa_cons (m2.hm 4 (by decide)) pa_nil))) (by simp) (by simp))) ?_
 rintro v3 h3 ⟨f3,t3⟩
 have f3_z:=f3.size
 replace p0:=p0.F f3
 replace r1:=r1.F f3
 replace r2:=r2.F f3
 simp -dsimp only [go_sem,r1.cell,r2.cell]
 exact ⟨p0,((PN.of t3).lower (by omega)).congr fun i j _ _=>by simp [orM,obsM,Bool.or_assoc]⟩
set_option maxHeartbeats 2000000 in
theorem arm_model_dob (m:Md h mb q g c rd wr fe d) (ht:TabAt h) :
  Con Tryd.prog 115 #[.pointer (some ⟨mb,0,none⟩)] h fun v h'=>Fr 0 0 h h'∧PN h' h.size v g.n (dobM g):=by
 refine con_q5 ?_
 have hn:=m.n
 have hkl:=kinds_len g
 have p0:Fr 0 0 h h:=.refl _ _ _
 have r1:=m.row
 unfold mcells at r1
 simp -dsimp only [go_sem,r1.cell]
 refine call_of (arm_model_set (m.fr p0).mg (m.fr p0).wr (by rw [hkl];omega) (fun i hi=>atB_kinds hi)) ?_
 rintro v3 hL ⟨f3,w3⟩
 have f3_z:=f3.size
 replace p0:=p0.F f3
 replace r1:=r1.F f3
 obtain ⟨w,rfl⟩:=w3.pa.ptr
 simp -dsimp only [go_sem,r1.cell]
 have P0:∀ h',Fr 0 0 hL h'→Fr 0 0 h h':=fun h' f=>p0.trans f
 have R:∀ k,k<10→∀ h',Fr 0 0 hL h'→PA h' (.pointer (some ⟨c k,0,none⟩)) g.n (relM g k):=fun k hk h' f=>(m.rel k hk).fr (P0 h' f)
 have E:∀ k,k<6→∀ h',Fr 0 0 hL h'→PA h' (.pointer (some ⟨d k,0,none⟩)) g.n (armM g k):=fun k hk h' f=>(m.hm k hk).fr (P0 h' f)
 have W:∀ h',Fr 0 0 hL h'→PA h' (.pointer (some ⟨w,0,none⟩)) g.n (dM (isK g 2)):=fun h' f=>w3.pa.fr f
 have hLz:h.size≤hL.size:=by omega
 clear p0 r1
 refine free_intro [(16,[16],tC g.n [(dM (isK g 2))]),(17,[17],tN hL.size g.n (chM g.n (relM g 8) [(dM (isK g 2))])),(29,[29],tC g.n [(relM g 0),(dM (isK g 2))]),(30,[30],tN hL.size g.n (chM g.n (relM g 6) [(relM g 0),(dM (isK g 2))])),(41,[41],tU g.n (orM [(relM g 8),(relM g 7)])),(42,[42],tN hL.size g.n (orM [(relM g 8),(relM g 7)])),(47,[47],tC g.n [(coiM g)]),(48,[48],tN hL.size g.n (chM g.n (orM [(relM g 8),(relM g 7)]) [(coiM g)])),(59,[59],tU g.n (orM [(relM g 6),(relM g 7)])),(60,[60],tN hL.size g.n (orM [(relM g 6),(relM g 7)])),(65,[65],tC g.n [(rfiM g)]),(66,[66],tN hL.size g.n (chM g.n (orM [(relM g 6),(relM g 7)]) [(rfiM g)])),(67,[67],tU g.n (orM [(relM g 6),(relM g 7),(chM g.n (relM g 8) [(dM (isK g 2))]),(chM g.n (relM g 6) [(relM g 0),(dM (isK g 2))]),(chM g.n (orM [(relM g 8),(relM g 7)]) [(coiM g)]),(chM g.n (orM [(relM g 6),(relM g 7)]) [(rfiM g)])])),(68,[68],tN hL.size g.n (orM [(relM g 6),(relM g 7),(chM g.n (relM g 8) [(dM (isK g 2))]),(chM g.n (relM g 6) [(relM g 0),(dM (isK g 2))]),(chM g.n (orM [(relM g 8),(relM g 7)]) [(coiM g)]),(chM g.n (orM [(relM g 6),(relM g 7)]) [(rfiM g)])])),(69,[69],tN hL.size g.n (orM [(relM g 6),(relM g 7),(chM g.n (relM g 8) [(dM (isK g 2))]),(chM g.n (relM g 6) [(relM g 0),(dM (isK g 2))]),(chM g.n (orM [(relM g 8),(relM g 7)]) [(coiM g)]),(chM g.n (orM [(relM g 6),(relM g 7)]) [(rfiM g)])]))] ?_ rfl ?_ ?_
 ·exact ⟨stC _ _,stN _ _ _,stC _ _,stN _ _ _,stU _ _,stN _ _ _,stC _ _,stN _ _ _,stU _ _,stN _ _ _,stC _ _,stN _ _ _,stU _ _,stN _ _ _,stN _ _ _,trivial⟩
 ·simp -dsimp only [go_sem,tC_eq,tU_eq,tN_eq]
  refine ⟨fun h4 f4 V=>?_,fun h4 f4 V a16=>?_,fun h4 f4 V=>?_,fun h4 f4 V a29 a17=>?_,fun h4 f4 V=>?_,fun h4 f4 V a41 a30=>?_,fun h4 f4 V=>?_,fun h4 f4 V a47 a42=>?_,fun h4 f4 V=>?_,fun h4 f4 V a59 a48=>?_,fun h4 f4 V=>?_,fun h4 f4 V a65 a60=>?_,fun h4 f4 V a17 a30 a48 a66=>?_,fun h4 f4 V a67 a66=>?_,fun h4 f4 V a16 a17 a29 a30 a41 a42 a47 a48 a59 a60 a65 a66 a67 a68=>?_⟩
  ·try simp -dsimp only [go_sem,putAt_one]
   intro b5 h5 n5
   try simp -dsimp only [go_sem] at n5
   simp -dsimp only [go_sem,tU_eq,tC_eq]
   exact ⟨n5.fr,CA.mk [(.pointer (some ⟨w,0,none⟩),(dM (isK g 2)))] n5.row (pa_cons (PA.fr (W h4 f4) n5.fr) (pa_nil)) (by simp)⟩
  ·try simp -dsimp only [go_sem]
   refine call_of (arm_chain (R 8 (by decide) h4 f4) a16 (ht.fr (P0 h4 f4) (.inr rfl))) ?_
   rintro v h5 ⟨f5,-,w⟩
   simp -dsimp only [go_sem,tN_eq]
   exact ⟨f5,PN.lower (w (by simp)) f4.size⟩
  ·try simp -dsimp only [go_sem,putAt_one]
   intro b5 h5 n5
   try simp -dsimp only [go_sem] at n5
   simp -dsimp only [go_sem,tU_eq,tC_eq]
   exact ⟨n5.fr,CA.mk [(.pointer (some ⟨c 0,0,none⟩),(relM g 0)),(.pointer (some ⟨w,0,none⟩),(dM (isK g 2)))] n5.row (pa_cons (PA.fr (R 0 (by decide) h4 f4) n5.fr) (pa_cons (PA.fr (W h4 f4) n5.fr) (pa_nil))) (by simp)⟩
  ·try simp -dsimp only [go_sem]
   refine call_of (arm_chain (R 6 (by decide) h4 f4) a29 (ht.fr (P0 h4 f4) (.inr rfl))) ?_
   rintro v h5 ⟨f5,-,w⟩
   simp -dsimp only [go_sem,tN_eq]
   exact ⟨f5,PN.lower (w (by simp)) f4.size⟩
  ·try simp -dsimp only [go_sem,putAt_one]
   intro b5 h5 n5
   try simp -dsimp only [go_sem] at n5
   simp -dsimp only [go_sem,tU_eq,tC_eq]
   exact ⟨n5.fr,UA.mk' [(.pointer (some ⟨c 8,0,none⟩),(relM g 8)),(.pointer (some ⟨c 7,0,none⟩),(relM g 7))] n5.row (pa_cons (PA.fr (R 8 (by decide) h4 f4) n5.fr) (pa_cons (PA.fr (R 7 (by decide) h4 f4) n5.fr) (pa_nil))) (by simp) (by simp)⟩
  ·try simp -dsimp only [go_sem]
   refine call_of (rel_UnionU a41) ?_
   rintro v h5 ⟨f5,w⟩
   simp -dsimp only [go_sem,tN_eq]
   exact ⟨f5,PN.lower (PN.of w) f4.size⟩
  ·try simp -dsimp only [go_sem,putAt_one]
   intro b5 h5 n5
   try simp -dsimp only [go_sem] at n5
   simp -dsimp only [go_sem,tU_eq,tC_eq]
   exact ⟨n5.fr,CA.mk [(.pointer (some ⟨d 3,0,none⟩),(coiM g))] n5.row (pa_cons (PA.fr (E 3 (by decide) h4 f4) n5.fr) (pa_nil)) (by simp)⟩
  ·try simp -dsimp only [go_sem]
   refine call_of (arm_chain (a42.pa) a47 (ht.fr (P0 h4 f4) (.inr rfl))) ?_
   rintro v h5 ⟨f5,-,w⟩
   simp -dsimp only [go_sem,tN_eq]
   exact ⟨f5,PN.lower (w (by simp)) f4.size⟩
  ·try simp -dsimp only [go_sem,putAt_one]
   intro b5 h5 n5
   try simp -dsimp only [go_sem] at n5
   simp -dsimp only [go_sem,tU_eq,tC_eq]
   exact ⟨n5.fr,UA.mk' [(.pointer (some ⟨c 6,0,none⟩),(relM g 6)),(.pointer (some ⟨c 7,0,none⟩),(relM g 7))] n5.row (pa_cons (PA.fr (R 6 (by decide) h4 f4) n5.fr) (pa_cons (PA.fr (R 7 (by decide) h4 f4) n5.fr) (pa_nil))) (by simp) (by simp)⟩
  ·try simp -dsimp only [go_sem]
   refine call_of (rel_UnionU a59) ?_
   rintro v h5 ⟨f5,w⟩
   simp -dsimp only [go_sem,tN_eq]
   exact ⟨f5,PN.lower (PN.of w) f4.size⟩
  ·try simp -dsimp only [go_sem,putAt_one]
   intro b5 h5 n5
   try simp -dsimp only [go_sem] at n5
   simp -dsimp only [go_sem,tU_eq,tC_eq]
   exact ⟨n5.fr,CA.mk [(.pointer (some ⟨d 1,0,none⟩),(rfiM g))] n5.row (pa_cons (PA.fr (E 1 (by decide) h4 f4) n5.fr) (pa_nil)) (by simp)⟩
  ·try simp -dsimp only [go_sem]
   refine call_of (arm_chain (a60.pa) a65 (ht.fr (P0 h4 f4) (.inr rfl))) ?_
   rintro v h5 ⟨f5,-,w⟩
   simp -dsimp only [go_sem,tN_eq]
   exact ⟨f5,PN.lower (w (by simp)) f4.size⟩
  ·try simp -dsimp only [go_sem,a17.pa.cl,a30.pa.cl,a48.pa.cl,a66.pa.cl,putAt_one]
   intro b5 h5 n5
   try simp -dsimp only [go_sem] at n5
   simp -dsimp only [go_sem,tU_eq,tC_eq]
   exact ⟨n5.fr,UA.mk' [(.pointer (some ⟨c 6,0,none⟩),(relM g 6)),(.pointer (some ⟨c 7,0,none⟩),(relM g 7)),((V 17).1,(chM g.n (relM g 8) [(dM (isK g 2))])),((V 30).1,(chM g.n (relM g 6) [(relM g 0),(dM (isK g 2))])),((V 48).1,(chM g.n (orM [(relM g 8),(relM g 7)]) [(coiM g)])),((V 66).1,(chM g.n (orM [(relM g 6),(relM g 7)]) [(rfiM g)]))] n5.row (pa_cons (PA.fr (R 6 (by decide) h4 f4) n5.fr) (pa_cons (PA.fr (R 7 (by decide) h4 f4) n5.fr) (pa_cons (PA.fr (a17.pa) n5.fr) (pa_cons (PA.fr (a30.pa) n5.fr) (pa_cons (PA.fr (a48.pa) n5.fr) (pa_cons (PA.fr (a66.pa) n5.fr) (pa_nil))))))) (by simp) (by simp)⟩
  ·try simp -dsimp only [go_sem]
   refine call_of (rel_UnionU a67) ?_
   rintro v h5 ⟨f5,w⟩
   simp -dsimp only [go_sem,tN_eq]
   exact ⟨f5,PN.lower (PN.of w) f4.size⟩
  ·try simp -dsimp only [go_sem,tN_eq]
   exact ⟨.refl _ _ _,a68⟩
 ·intro h4 f4 V _
  simp -dsimp only [go_sem,tC_eq,tU_eq,tN_eq]
  intro a16 a17 a29 a30 a41 a42 a47 a48 a59 a60 a65 a66 a67 a68 a69
  try simp -dsimp only [go_sem]
  refine ⟨P0 h4 f4,(a69.lower hLz).congr fun i j hi hj=>?_⟩
  unfold orM dobM chM
  simp only [List.foldl_cons,List.foldl_nil,List.any_cons,List.any_nil,Bool.or_false,compM_dR hi hj]
  rw [compM_in hi hj,compM_in hi hj,compM_in hi hj]
  simp only [Bool.or_assoc]
set_option maxHeartbeats 2000000 in
theorem arm_model_bob (m:Md h mb q g c rd wr fe d) (ht:TabAt h) :
  Con Tryd.prog 117 #[.pointer (some ⟨mb,0,none⟩)] h fun v h'=>Fr 0 0 h h'∧PN h' h.size v g.n (bobM g):=by
 refine con_q4 ?_
 have hn:=m.n
 have hkl:=kinds_len g
 have p0:Fr 0 0 h h:=.refl _ _ _
 have r1:=m.row
 unfold mcells at r1
 simp -dsimp only [go_sem,r1.cell]
 refine call_of (arm_model_mode (m.fr p0).mg 12) ?_
 rintro v3 h3 ⟨f3,w3⟩
 have f3_z:=f3.size
 replace p0:=p0.F f3
 replace r1:=r1.F f3
 obtain ⟨ra,rfl⟩:=w3.pa.ptr
 simp -dsimp only [go_sem,r1.cell]
 refine call_of (arm_model_mode (m.fr p0).mg 13) ?_
 rintro v4 hL ⟨f4',w4⟩
 have f4'_z:=f4'.size
 replace p0:=p0.fresh f4' (by omega)
 replace r1:=r1.fr f4' (by omega)
 obtain ⟨rl,rfl⟩:=w4.pa.ptr
 have w3':=w3.pa.fr f4'
 simp -dsimp only [go_sem,r1.cell]
 have P0:∀ h',Fr 0 0 hL h'→Fr 0 0 h h':=fun h' f=>p0.trans f
 have MD:∀ h',Fr 0 0 hL h'→Md h' mb q g c rd wr fe d:=fun h' f=>m.fr (P0 h' f)
 have R:∀ k,k<10→∀ h',Fr 0 0 hL h'→PA h' (.pointer (some ⟨c k,0,none⟩)) g.n (relM g k):=fun k hk h' f=>(m.rel k hk).fr (P0 h' f)
 have E:∀ k,k<6→∀ h',Fr 0 0 hL h'→PA h' (.pointer (some ⟨d k,0,none⟩)) g.n (armM g k):=fun k hk h' f=>(m.hm k hk).fr (P0 h' f)
 have RA:∀ h',Fr 0 0 hL h'→PA h' (.pointer (some ⟨ra,0,none⟩)) g.n (dM (isM g 12)):=fun h' f=>w3'.fr f
 have RL:∀ h',Fr 0 0 hL h'→PA h' (.pointer (some ⟨rl,0,none⟩)) g.n (dM (isM g 13)):=fun h' f=>w4.pa.fr f
 have hLz:h.size≤hL.size:=by omega
 clear p0 r1
 refine free_intro [(6,[6],tN hL.size g.n (dM (isM g 15))),(12,[12],tC g.n [(dM (isM g 15)),(relM g 0)]),(13,[13],tN hL.size g.n (chM g.n (relM g 0) [(dM (isM g 15)),(relM g 0)])),(20,[20],tN hL.size g.n (dM (isK g 1))),(27,[27],tN hL.size g.n (dM (isM g 14))),(33,[33],tC g.n [(relM g 0),(dM (isM g 14)),(relM g 0)]),(34,[34],tN hL.size g.n (chM g.n (dM (isK g 1)) [(relM g 0),(dM (isM g 14)),(relM g 0)])),(42,[42],tC g.n [(relM g 0),(dM (isM g 12))]),(43,[43],tN hL.size g.n (chM g.n (dM (isM g 13)) [(relM g 0),(dM (isM g 12))])),(53,[53],tC g.n [(relM g 0)]),(54,[54],tN hL.size g.n (chM g.n (dM (acqB g)) [(relM g 0)])),(61,[61],tC g.n [(dM (isM g 13))]),(62,[62],tN hL.size g.n (chM g.n (relM g 0) [(dM (isM g 13))])),(73,[73],tC g.n [(dM (isM g 13)),(coiM g)]),(74,[74],tN hL.size g.n (chM g.n (relM g 0) [(dM (isM g 13)),(coiM g)])),(75,[75],tU g.n (orM [(chM g.n (relM g 0) [(dM (isM g 15)),(relM g 0)]),(chM g.n (dM (isK g 1)) [(relM g 0),(dM (isM g 14)),(relM g 0)]),(chM g.n (dM (isM g 13)) [(relM g 0),(dM (isM g 12))]),(chM g.n (dM (acqB g)) [(relM g 0)]),(chM g.n (relM g 0) [(dM (isM g 13))]),(chM g.n (relM g 0) [(dM (isM g 13)),(coiM g)])])),(76,[76],tN hL.size g.n (orM [(chM g.n (relM g 0) [(dM (isM g 15)),(relM g 0)]),(chM g.n (dM (isK g 1)) [(relM g 0),(dM (isM g 14)),(relM g 0)]),(chM g.n (dM (isM g 13)) [(relM g 0),(dM (isM g 12))]),(chM g.n (dM (acqB g)) [(relM g 0)]),(chM g.n (relM g 0) [(dM (isM g 13))]),(chM g.n (relM g 0) [(dM (isM g 13)),(coiM g)])])),(77,[77],tN hL.size g.n (orM [(chM g.n (relM g 0) [(dM (isM g 15)),(relM g 0)]),(chM g.n (dM (isK g 1)) [(relM g 0),(dM (isM g 14)),(relM g 0)]),(chM g.n (dM (isM g 13)) [(relM g 0),(dM (isM g 12))]),(chM g.n (dM (acqB g)) [(relM g 0)]),(chM g.n (relM g 0) [(dM (isM g 13))]),(chM g.n (relM g 0) [(dM (isM g 13)),(coiM g)])]))] ?_ rfl ?_ ?_
 ·exact ⟨stN _ _ _,stC _ _,stN _ _ _,stN _ _ _,stN _ _ _,stC _ _,stN _ _ _,stC _ _,stN _ _ _,stC _ _,stN _ _ _,stC _ _,stN _ _ _,stC _ _,stN _ _ _,stU _ _,stN _ _ _,stN _ _ _,trivial⟩
 ·simp -dsimp only [go_sem,tC_eq,tU_eq,tN_eq]
  refine ⟨fun h4 f4 V=>?_,fun h4 f4 V a6=>?_,fun h4 f4 V a12 a6=>?_,fun h4 f4 V a13=>?_,fun h4 f4 V a20=>?_,fun h4 f4 V a27=>?_,fun h4 f4 V a20 a33 a27=>?_,fun h4 f4 V=>?_,fun h4 f4 V a42 a34=>?_,fun h4 f4 V=>?_,fun h4 f4 V a53 a43=>?_,fun h4 f4 V=>?_,fun h4 f4 V a61 a54=>?_,fun h4 f4 V=>?_,fun h4 f4 V a73 a62=>?_,fun h4 f4 V a13 a34 a43 a54 a62 a74=>?_,fun h4 f4 V a75 a74=>?_,fun h4 f4 V a6 a12 a13 a20 a27 a33 a34 a42 a43 a53 a54 a61 a62 a73 a74 a75 a76=>?_⟩
  ·try simp -dsimp only [go_sem]
   refine call_of (arm_model_mode (MD h4 f4).mg 15) ?_
   rintro v h5 ⟨f5,w⟩
   simp -dsimp only [go_sem,tN_eq]
   exact ⟨f5,PN.lower w f4.size⟩
  ·try simp -dsimp only [go_sem,a6.pa.cl,putAt_one]
   intro b5 h5 n5
   try simp -dsimp only [go_sem] at n5
   simp -dsimp only [go_sem,tU_eq,tC_eq]
   exact ⟨n5.fr,CA.mk [((V 6).1,(dM (isM g 15))),(.pointer (some ⟨c 0,0,none⟩),(relM g 0))] n5.row (pa_cons (PA.fr (a6.pa) n5.fr) (pa_cons (PA.fr (R 0 (by decide) h4 f4) n5.fr) (pa_nil))) (by simp)⟩
  ·try simp -dsimp only [go_sem]
   refine call_of (arm_chain (R 0 (by decide) h4 f4) a12 (ht.fr (P0 h4 f4) (.inr rfl))) ?_
   rintro v h5 ⟨f5,-,w⟩
   simp -dsimp only [go_sem,tN_eq]
   exact ⟨f5,PN.lower (w (by simp)) f4.size⟩
  ·try simp -dsimp only [go_sem]
   refine call_of (arm_model_set (MD h4 f4).mg (l:=kindsV g 1 g.n) (MD h4 f4).rd (by rw [hkl];omega) (fun i hi=>atB_kinds hi)) ?_
   rintro v h5 ⟨f5,w⟩
   simp -dsimp only [go_sem,tN_eq]
   exact ⟨f5,PN.lower w f4.size⟩
  ·try simp -dsimp only [go_sem]
   refine call_of (arm_model_mode (MD h4 f4).mg 14) ?_
   rintro v h5 ⟨f5,w⟩
   simp -dsimp only [go_sem,tN_eq]
   exact ⟨f5,PN.lower w f4.size⟩
  ·try simp -dsimp only [go_sem,a27.pa.cl,putAt_one]
   intro b5 h5 n5
   try simp -dsimp only [go_sem] at n5
   simp -dsimp only [go_sem,tU_eq,tC_eq]
   exact ⟨n5.fr,CA.mk [(.pointer (some ⟨c 0,0,none⟩),(relM g 0)),((V 27).1,(dM (isM g 14))),(.pointer (some ⟨c 0,0,none⟩),(relM g 0))] n5.row (pa_cons (PA.fr (R 0 (by decide) h4 f4) n5.fr) (pa_cons (PA.fr (a27.pa) n5.fr) (pa_cons (PA.fr (R 0 (by decide) h4 f4) n5.fr) (pa_nil)))) (by simp)⟩
  ·try simp -dsimp only [go_sem]
   refine call_of (arm_chain (a20.pa) a33 (ht.fr (P0 h4 f4) (.inr rfl))) ?_
   rintro v h5 ⟨f5,-,w⟩
   simp -dsimp only [go_sem,tN_eq]
   exact ⟨f5,PN.lower (w (by simp)) f4.size⟩
  ·try simp -dsimp only [go_sem,putAt_one]
   intro b5 h5 n5
   try simp -dsimp only [go_sem] at n5
   simp -dsimp only [go_sem,tU_eq,tC_eq]
   exact ⟨n5.fr,CA.mk [(.pointer (some ⟨c 0,0,none⟩),(relM g 0)),(.pointer (some ⟨ra,0,none⟩),(dM (isM g 12)))] n5.row (pa_cons (PA.fr (R 0 (by decide) h4 f4) n5.fr) (pa_cons (PA.fr (RA h4 f4) n5.fr) (pa_nil))) (by simp)⟩
  ·try simp -dsimp only [go_sem]
   refine call_of (arm_chain (RL h4 f4) a42 (ht.fr (P0 h4 f4) (.inr rfl))) ?_
   rintro v h5 ⟨f5,-,w⟩
   simp -dsimp only [go_sem,tN_eq]
   exact ⟨f5,PN.lower (w (by simp)) f4.size⟩
  ·try simp -dsimp only [go_sem,putAt_one]
   intro b5 h5 n5
   try simp -dsimp only [go_sem] at n5
   simp -dsimp only [go_sem,tU_eq,tC_eq]
   exact ⟨n5.fr,CA.mk [(.pointer (some ⟨c 0,0,none⟩),(relM g 0))] n5.row (pa_cons (PA.fr (R 0 (by decide) h4 f4) n5.fr) (pa_nil)) (by simp)⟩
  ·try simp -dsimp only [go_sem]
   refine call_of (arm_chain (E 5 (by decide) h4 f4) a53 (ht.fr (P0 h4 f4) (.inr rfl))) ?_
   rintro v h5 ⟨f5,-,w⟩
   simp -dsimp only [go_sem,tN_eq]
   exact ⟨f5,PN.lower (w (by simp)) f4.size⟩
  ·try simp -dsimp only [go_sem,putAt_one]
   intro b5 h5 n5
   try simp -dsimp only [go_sem] at n5
   simp -dsimp only [go_sem,tU_eq,tC_eq]
   exact ⟨n5.fr,CA.mk [(.pointer (some ⟨rl,0,none⟩),(dM (isM g 13)))] n5.row (pa_cons (PA.fr (RL h4 f4) n5.fr) (pa_nil)) (by simp)⟩
  ·try simp -dsimp only [go_sem]
   refine call_of (arm_chain (R 0 (by decide) h4 f4) a61 (ht.fr (P0 h4 f4) (.inr rfl))) ?_
   rintro v h5 ⟨f5,-,w⟩
   simp -dsimp only [go_sem,tN_eq]
   exact ⟨f5,PN.lower (w (by simp)) f4.size⟩
  ·try simp -dsimp only [go_sem,putAt_one]
   intro b5 h5 n5
   try simp -dsimp only [go_sem] at n5
   simp -dsimp only [go_sem,tU_eq,tC_eq]
   exact ⟨n5.fr,CA.mk [(.pointer (some ⟨rl,0,none⟩),(dM (isM g 13))),(.pointer (some ⟨d 3,0,none⟩),(coiM g))] n5.row (pa_cons (PA.fr (RL h4 f4) n5.fr) (pa_cons (PA.fr (E 3 (by decide) h4 f4) n5.fr) (pa_nil))) (by simp)⟩
  ·try simp -dsimp only [go_sem]
   refine call_of (arm_chain (R 0 (by decide) h4 f4) a73 (ht.fr (P0 h4 f4) (.inr rfl))) ?_
   rintro v h5 ⟨f5,-,w⟩
   simp -dsimp only [go_sem,tN_eq]
   exact ⟨f5,PN.lower (w (by simp)) f4.size⟩
  ·try simp -dsimp only [go_sem,a13.pa.cl,a34.pa.cl,a43.pa.cl,a54.pa.cl,a62.pa.cl,a74.pa.cl,putAt_one]
   intro b5 h5 n5
   try simp -dsimp only [go_sem] at n5
   simp -dsimp only [go_sem,tU_eq,tC_eq]
   exact ⟨n5.fr,UA.mk' [((V 13).1,(chM g.n (relM g 0) [(dM (isM g 15)),(relM g 0)])),((V 34).1,(chM g.n (dM (isK g 1)) [(relM g 0),(dM (isM g 14)),(relM g 0)])),((V 43).1,(chM g.n (dM (isM g 13)) [(relM g 0),(dM (isM g 12))])),((V 54).1,(chM g.n (dM (acqB g)) [(relM g 0)])),((V 62).1,(chM g.n (relM g 0) [(dM (isM g 13))])),((V 74).1,(chM g.n (relM g 0) [(dM (isM g 13)),(coiM g)]))] n5.row (pa_cons (PA.fr (a13.pa) n5.fr) (pa_cons (PA.fr (a34.pa) n5.fr) (pa_cons (PA.fr (a43.pa) n5.fr) (pa_cons (PA.fr (a54.pa) n5.fr) (pa_cons (PA.fr (a62.pa) n5.fr) (pa_cons (PA.fr (a74.pa) n5.fr) (pa_nil))))))) (by simp) (by simp)⟩
  ·try simp -dsimp only [go_sem]
   refine call_of (rel_UnionU a75) ?_
   rintro v h5 ⟨f5,w⟩
   simp -dsimp only [go_sem,tN_eq]
   exact ⟨f5,PN.lower (PN.of w) f4.size⟩
  ·try simp -dsimp only [go_sem,tN_eq]
   exact ⟨.refl _ _ _,a76⟩
 ·intro h4 f4 V _
  simp -dsimp only [go_sem,tC_eq,tU_eq,tN_eq]
  intro a6 a12 a13 a20 a27 a33 a34 a42 a43 a53 a54 a61 a62 a73 a74 a75 a76 a77
  try simp -dsimp only [go_sem]
  refine ⟨P0 h4 f4,(a77.lower hLz).congr fun i j hi hj=>?_⟩
  unfold orM bobM chM
  simp only [List.foldl_cons,List.foldl_nil,List.any_cons,List.any_nil,Bool.or_false,compM_dR hi hj]
  have e1:compM g.n (compM g.n (relM g 0) g.n (dM (isM g 15))) g.n (relM g 0) i j=exB g.n fun k=>relM g 0 i k&&isM g 15 k&&relM g 0 k j:=by
   rw [compM_in hi hj];exact exB_congr fun k hk=>by rw [compM_dR hi hk]
  have e2:compM g.n (compM g.n (compM g.n (dM (isK g 1)) g.n (relM g 0)) g.n (dM (isM g 14))) g.n (relM g 0) i j=exB g.n fun k=>isK g 1 i&&relM g 0 i k&&isM g 14 k&&relM g 0 k j:=by
   rw [compM_in hi hj];exact exB_congr fun k hk=>by rw [compM_dR hi hk,compM_dL hi hk]
  have e3:compM g.n (compM g.n (relM g 0) g.n (dM (isM g 13))) g.n (coiM g) i j=exB g.n fun k=>relM g 0 i k&&isM g 13 k&&coiM g k j:=by
   rw [compM_in hi hj];exact exB_congr fun k hk=>by rw [compM_dR hi hk]
  rw [e1,e2,e3]
  simp only [compM_dL hi hj,Bool.or_assoc]
end
end Go.Proofs.Tst
/-
  The words' memory model: aob, all relations, the model of a graph, Check.
-/
namespace Go.Proofs.Tst
open Go Go.Vc
section
variable {h : Heap} {mb : Nat} {q : GV} {g : Gr} {c : Nat → Nat} {rd wr fe : Value} {d : Nat → Nat}
theorem words_rmw {words:Bool} (hg:(g.check words).1=0) {p:Int×Int} (hp:p∈g.rmw):∃ a b:Nat,p=((a:Int),(b:Int))∧a<b∧b<g.n:=by
 obtain ⟨-,-,-,-,-,h6,-⟩:=check_zero hg
 obtain ⟨b1,b2,b3⟩:=before_lt (rmw_before h6 hp)
 exact ⟨p.1.toNat,p.2.toNat,Prod.ext (by dsimp only;omega) (by dsimp only;omega),by omega,by omega⟩
set_option maxHeartbeats 1000000 in
theorem arm_model_aob (m:Md h mb q g c rd wr fe d) (hg:(g.check true).1=0) (ht:TabAt h) :
  Con Tryd.prog 116 #[.pointer (some ⟨mb,0,none⟩)] h fun v h'=>Fr 0 0 h h'∧PN h' h.size v g.n (aobM g):=by
 refine con_q3 ?_
 have hn:=m.n
 have br:=m.gr.fits.r
 have p0:Fr 0 0 h h:=.refl _ _ _
 have r1:=m.row
 unfold mcells at r1
 simp -dsimp only [go_sem,evs_len,r1.cell]
 refine Chk_intro (by omega) ?_
 rw [zeros_one,Int.toNat_natCast,brow_false]
 intro b3 h2 n3
 have n3_z:=n3.az
 replace p0:=p0.F n3.f0
 replace r1:=r1.F n3.f0
 have r3:=n3.row
 simp -dsimp only [go_sem,r1.cell,r3.cell]
 refine loop_intro (fun i:Nat=>[(0,.pointer (some ⟨mb,0,none⟩)),(3,.slice (some ⟨b3,0,none⟩) g.n g.n),(17,.slice q.r g.rmw.length q.rc),(18,.int .i64 g.rmw.length),(19,.int .i64 i)])
  (fun i h'=>i≤g.rmw.length∧Fr 0 0 h h'∧Rw h' b3 (brow g.n fun j=>(g.rmw.take i).any fun p=>p.2==(j:Int))) (fun i=>g.rmw.length - i) 0 ?_ ?_ ?_
 ·simp [Le,find]
 ·exact ⟨by omega,p0,by simpa using r3⟩
 have hb3:h.size≤b3:=by omega
 have hmb:=m.row.lt
 clear p0 r1 r3
 rintro i h3 ⟨hi,p0,r3⟩
 have r1:=m.row.fr p0 (by omega)
 unfold mcells at r1
 have p0_z:=p0.size
 have r1_l:=r1.lt
 have r3_l:=r3.lt
 by_cases hlt:i<g.rmw.length
 ·have e1:((i:Int)<(g.rmw.length:Int)):=by omega
  have hq:g.rmw[i]?=some g.rmw[i]:=List.getElem?_eq_getElem hlt
  obtain ⟨x,y,he,hxy,hyn⟩:=words_rmw hg (List.mem_of_getElem? hq)
  rw [he] at hq
  obtain ⟨rb,ro,hre,hrc⟩:=m.gr.r.pairsAt (by omega)
  obtain ⟨k1,k2⟩:=hrc h3 p0 i _ hq
  dsimp only at k1 k2
  simp -dsimp only [go_sem,e1,hre,k1,k2,r1.cell,r3.cell]
  intro b5 h4 n5
  have n5_z:=n5.az
  replace p0:=p0.F n5.f0
  replace r1:=r1.F n5.f0
  replace r3:=r3.F n5.f0
  have r5:=n5.row
  simp -dsimp only [go_sem,r1.cell,r3.cell,r5.cell]
  refine Chk_intro (r5.W) fun h5 s5=>?_
  have s5_z:=s5.size
  replace p0:=p0.F s5.fr
  replace r1:=r1.F s5.fr
  replace r3:=r3.F s5.fr
  replace r5:=s5.row r5
  try simp only [cl_int,cl_bool,cl_slice,cl_ptr,putAt_one,zs0,zs1,ivec_set,brow_upd] at r5
  simp -dsimp only [go_sem] at r5
  simp -dsimp only [go_sem,r1.cell,r3.cell,r5.cell]
  refine Chk_intro (by omega) ?_
  simp -dsimp only [go_sem,r1.cell,r3.cell,r5.cell]
  refine Chk_intro (r3.W) fun h6 s6=>?_
  have s6_z:=s6.size
  replace p0:=p0.F s6.fr
  replace r1:=r1.F s6.fr
  replace r5:=r5.F s6.fr
  replace r3:=s6.row r3
  try simp only [cl_int,cl_bool,cl_slice,cl_ptr,putAt_one,zs0,zs1,ivec_set,brow_upd] at r3
  simp -dsimp only [go_sem,r1.cell,r3.cell,r5.cell]
  simp -dsimp (disch:=omega) only [wrap64]
  refine ⟨i+1,by omega,by simp [Le,find,hre],by omega,p0,?_⟩
  rw [List.take_add_one,hq,Option.toList_some,brow_congr (g:=upd (fun j=>(g.rmw.take i).any fun p=>p.2==(j:Int)) y true)]
  ·exact r3
  ·intro j _
   rw [List.any_append]
   unfold upd
   by_cases hj:j=y
   ·subst hj;rw [if_pos rfl];simp
   ·rw [if_neg hj]
    have:((y:Int)==(j:Int))=false:=by simp;omega
    simp [this]
 ·obtain rfl:i=g.rmw.length:=by omega
  rw [List.take_length] at r3
  have p3:Fr 0 0 h3 h3:=.refl _ _ _
  have hlast:brow g.n (fun j=>g.rmw.any fun p=>p.2==(j:Int))=boolsV ((List.range g.n).map (lastB g)):=by unfold brow boolsV lastB;rw [List.map_map];rfl
  rw [hlast] at r3
  have hll:((List.range g.n).map (lastB g)).length=g.n:=by simp
  have hat:∀ i,i<g.n→atB ((List.range g.n).map (lastB g)) i=lastB g i:=fun i hi=>atB_get (by simp [hi])
  have fin:∀ i j,i<g.n→j<g.n→orM [relM g 3,chM g.n (dM (lastB g)) [rfiM g,dM (acqB g)]] i j=aobM g i j:=fun i j hi hj=>by
   unfold orM aobM chM
   simp only [List.foldl_cons,List.foldl_nil,List.any_cons,List.any_nil,Bool.or_false,compM_dR hi hj,compM_dL hi hj]
  have rs:∀ h',Fr 0 0 h3 h'→Rd 1 h' (.slice (some ⟨b3,0,none⟩) g.n g.n) ((List.range g.n).map (lastB g)).length (boolsV ((List.range g.n).map (lastB g))):=fun h' f=>by rw [hll];exact (Rw.rd (s:=1) r3 (by simp)).fr f
  simp -dsimp only [go_sem,Int.lt_irrefl,r1.cell,r3.cell]
  simp -dsimp only [go_sem,r_two,r1.cell,r3.cell]
  refine ⟨?_,?_⟩
  ·refine call_of (arm_model_set (m.fr p0).mg (rs _ p3) (by omega) hat) ?_
   rintro v7 h7 ⟨f7,w7⟩
   have f7_z:=f7.size
   replace p0:=p0.F f7
   replace r1:=r1.F f7
   replace r3:=r3.F f7
   replace p3:=p3.F f7
   simp -dsimp only [go_sem,w7.pa.cl,r1.cell,r3.cell]
   intro b8 h8 n8
   have n8_a:=n8.at_
   have n8_z:=n8.size
   replace p0:=p0.F n8.f0
   replace r1:=r1.F n8.f0
   replace r3:=r3.F n8.f0
   replace p3:=p3.F n8.f0
   have r8:=n8.row
   have w8:=w7.fr n8.f0 (by omega)
   simp -dsimp only [go_sem,r1.cell,r3.cell,r8.cell]
   refine call_of (arm_chain w8.pa (CA.mk [(.pointer (some ⟨d 1,0,none⟩),rfiM g),(.pointer (some ⟨d 5,0,none⟩),dM (acqB g))] r8 (pa_cons ((m.fr p0).hm 1 (by decide)) (pa_cons ((m.fr p0).hm 5 (by decide)) pa_nil)) (by simp)) (ht.fr p0 (.inr rfl))) ?_
   rintro v9 h9 ⟨f9,w9,-⟩
   have f9_z:=f9.size
   replace p0:=p0.F f9
   replace r1:=r1.F f9
   replace r3:=r3.F f9
   replace p3:=p3.F f9
   replace r8:=r8.F f9
   simp -dsimp only [go_sem,w9.cl,r1.cell,r3.cell,r8.cell]
   intro b10 h10 n10
   have n10_a:=n10.at_
   have n10_z:=n10.size
   replace p0:=p0.F n10.f0
   replace r1:=r1.F n10.f0
   replace r3:=r3.F n10.f0
   replace p3:=p3.F n10.f0
   replace r8:=r8.F n10.f0
   have r10:=n10.row
   have w10:=w9.fr n10.f0
   simp -dsimp only [go_sem,r1.cell,r3.cell,r8.cell,r10.cell]
   refine call_of (rel_UnionU (UA.mk' [(.pointer (some ⟨c 3,0,none⟩),relM g 3),(v9,_)] r10 (pa_cons ((m.fr p0).rel 3 (by decide)) (pa_cons w10 pa_nil)) (by simp) (by simp))) ?_
   rintro v11 h11 ⟨f11,w11⟩
   have f11_z:=f11.size
   replace p0:=p0.F f11
   replace r1:=r1.F f11
   replace r3:=r3.F f11
   replace p3:=p3.F f11
   replace r8:=r8.F f11
   replace r10:=r10.F f11
   simp -dsimp only [go_sem,r1.cell,r3.cell,r8.cell,r10.cell]
   exact ⟨p0,((PN.of w11).lower (by omega)).congr fin⟩
  ·intro b8 h8 n8
   have n8_a:=n8.at_
   have n8_z:=n8.size
   replace p0:=p0.F n8.f0
   replace r1:=r1.F n8.f0
   replace r3:=r3.F n8.f0
   replace p3:=p3.F n8.f0
   have r8:=n8.row
   simp -dsimp only [go_sem,r1.cell,r3.cell,r8.cell]
   refine call_of (arm_model_set (m.fr p0).mg (rs _ p3) (by omega) hat) ?_
   rintro v7 h7 ⟨f7,w7⟩
   have f7_z:=f7.size
   replace p0:=p0.F f7
   replace r1:=r1.F f7
   replace r3:=r3.F f7
   replace p3:=p3.F f7
   replace r8:=r8.F f7
   simp -dsimp only [go_sem,r1.cell,r3.cell,r8.cell]
   refine call_of (arm_chain w7.pa (CA.mk [(.pointer (some ⟨d 1,0,none⟩),rfiM g),(.pointer (some ⟨d 5,0,none⟩),dM (acqB g))] r8 (pa_cons ((m.fr p0).hm 1 (by decide)) (pa_cons ((m.fr p0).hm 5 (by decide)) pa_nil)) (by simp)) (ht.fr p0 (.inr rfl))) ?_
   rintro v9 h9 ⟨f9,w9,-⟩
   have f9_z:=f9.size
   replace p0:=p0.F f9
   replace r1:=r1.F f9
   replace r3:=r3.F f9
   replace p3:=p3.F f9
   replace r8:=r8.F f9
   simp -dsimp only [go_sem,w9.cl,r1.cell,r3.cell,r8.cell]
   intro b10 h10 n10
   have n10_a:=n10.at_
   have n10_z:=n10.size
   replace p0:=p0.F n10.f0
   replace r1:=r1.F n10.f0
   replace r3:=r3.F n10.f0
   replace p3:=p3.F n10.f0
   replace r8:=r8.F n10.f0
   have r10:=n10.row
   have w10:=w9.fr n10.f0
   simp -dsimp only [go_sem,r1.cell,r3.cell,r8.cell,r10.cell]
   refine call_of (rel_UnionU (UA.mk' [(.pointer (some ⟨c 3,0,none⟩),relM g 3),(v9,_)] r10 (pa_cons ((m.fr p0).rel 3 (by decide)) (pa_cons w10 pa_nil)) (by simp) (by simp))) ?_
   rintro v11 h11 ⟨f11,w11⟩
   have f11_z:=f11.size
   replace p0:=p0.F f11
   replace r1:=r1.F f11
   replace r3:=r3.F f11
   replace p3:=p3.F f11
   replace r8:=r8.F f11
   replace r10:=r10.F f11
   simp -dsimp only [go_sem,r1.cell,r3.cell,r8.cell,r10.cell]
   exact ⟨p0,((PN.of w11).lower (by omega)).congr fin⟩
end
end Go.Proofs.Tst
/-
  The words' memory model: all its relations.
-/
namespace Go.Proofs.Tst
open Go Go.Vc
def aM (g:Gr):Nat→Mx
 | 0=>obsM g
 | 1=>dobM g
 | 2=>aobM g
 | 3=>bobM g
 | _=>obM g
def rangeM (M:Nat→Mx) (m:Nat):Mx:=fun i j=>(List.range m).any fun k=>M k i j
theorem Der.snoc {h:Heap} {A B:Nat→Nat} {p:Nat→Value} {n m lo L L':Nat} {M:Nat→Mx} {v:Value} (D:Der h A B p n M m) (hd:∀ k,k<m→lo≤A k∧A k≤B k∧B k≤L) (w:∃ a b,ProgAt h a b v n (M m)∧L≤a∧a≤b∧b≤L') (hl:lo≤L:=by omega) :
  ∃ A' B',Der h A' B' (upd p m v) n M (m+1)∧∀ k,k<m+1→lo≤A' k∧A' k≤B' k∧B' k≤L':=by
 obtain ⟨a,b,w,w1,w2,w3⟩:=w
 refine ⟨upd A m a,upd B m b,⟨fun k hk=>?_,fun k l hk hl hkl=>?_⟩,fun k hk=>?_⟩
 ·by_cases hkm:k=m
  ·subst hkm;rw [upd_same,upd_same,upd_same];exact w
  ·rw [upd_ne _ _ hkm,upd_ne _ _ hkm,upd_ne _ _ hkm];exact D.at_ k (by omega)
 ·by_cases hkm:k=m
  ·subst hkm
   rw [upd_same,upd_same,upd_ne _ _ (Ne.symm hkl),upd_ne _ _ (Ne.symm hkl)]
   have:=hd l (by omega);omega
  ·by_cases hlm:l=m
   ·subst hlm
    rw [upd_same,upd_same,upd_ne _ _ hkm,upd_ne _ _ hkm]
    have:=hd k (by omega);omega
   ·rw [upd_ne _ _ hkm,upd_ne _ _ hkm,upd_ne _ _ hlm,upd_ne _ _ hlm]
    exact D.off k l (by omega) (by omega) hkl
 ·by_cases hkm:k=m
  ·subst hkm;rw [upd_same,upd_same];omega
  ·rw [upd_ne _ _ hkm,upd_ne _ _ hkm];have:=hd k (by omega);omega
section
variable {h : Heap} {mb : Nat} {q : GV} {g : Gr} {c : Nat → Nat} {rd wr fe : Value} {d : Nat → Nat}
set_option maxHeartbeats 4000000 in
theorem arm_model_facts (m:Md h mb q g c rd wr fe d) (hg:(g.check true).1=0) (ht:TabAt h) :
  Con Tryd.prog 74 #[.pointer (some ⟨mb,0,none⟩)] h fun v h'=>Fr 0 0 h h'∧∃ x A B,v=.agg #[x 0,x 1,x 2,x 3,x 4]∧Der h' A B x g.n (aM g) 5∧∀ k,k<5→h.size≤A k∧A k≤B k∧B k≤h'.size:=by
 refine con_q6 ?_
 have hn:=m.n
 have hmb:=m.row.lt
 have hcl:clampN (g.n:Int)=g.n:=by unfold clampN;omega
 have p0:Fr 0 0 h h:=.refl _ _ _
 have r1:=m.row
 unfold mcells at r1
 simp -dsimp only [go_sem,r1.cell]
 intro b2 h1 n2
 have n2_z:=n2.az
 replace p0:=p0.F n2.f0
 replace r1:=r1.F n2.f0
 have r2:=n2.row
 simp -dsimp only [go_sem,r1.cell,r2.cell]
 intro b3 h2 n3
 have n3_z:=n3.az
 replace p0:=p0.F n3.f0
 replace r1:=r1.F n3.f0
 replace r2:=r2.F n3.f0
 have r3:=n3.row
 simp -dsimp only [go_sem,r1.cell,r2.cell,r3.cell]
 intro b4 hs n4
 have n4_z:=n4.az
 replace p0:=p0.F n4.f0
 replace r1:=r1.F n4.f0
 replace r2:=r2.F n4.f0
 replace r3:=r3.F n4.f0
 have r4:=n4.row
 try simp -dsimp only [go_sem] at r4
 simp -dsimp only [go_sem,evs_len,r1.cell,r2.cell,r3.cell,r4.cell]
 refine call_of (rel_New g.n hs) ?_
 rintro v3 h3 ⟨f3,t3⟩
 rw [hcl] at t3
 have f3_z:=f3.size
 replace p0:=p0.F f3
 replace r1:=r1.F f3
 replace r2:=r2.F f3
 replace r3:=r3.F f3
 replace r4:=r4.F f3
 have t3:=PN.of t3
 obtain ⟨u0,rfl⟩:=t3.pa.ptr
 have hL3:hs.size≤h3.size:=by omega
 simp -dsimp only [go_sem,r1.cell,r2.cell,r3.cell,r4.cell]
 refine Chk_intro (r3.W) fun h4 s4=>?_
 have s4_z:=s4.size
 replace p0:=p0.F s4.fr
 replace r1:=r1.F s4.fr
 replace r2:=r2.F s4.fr
 replace r4:=r4.F s4.fr
 replace r3:=s4.row r3
 try simp only [cl_int,cl_bool,cl_slice,cl_ptr,putAt_one,zs0,zs1,ivec_set,brow_upd] at r3
 try simp -dsimp only [go_sem] at r3
 have t4:=t3.fr s4.fr (by omega)
 have gb:h.size≤b2∧h.size≤b3∧h.size≤b4∧b2<b3∧b3<b4∧b4<hs.size∧h.size≤hs.size:=by omega
 simp -dsimp only [go_sem,r1.cell,r2.cell,r3.cell,r4.cell]
 have hLh:hs.size≤hs.size:=Nat.le_refl _
 refine loop_intro (fun i:Nat=>[(2,.pointer (some ⟨b2,0,none⟩)),(3,.pointer (some ⟨b3,0,none⟩)),(32,.slice (some ⟨b4,0,none⟩) 4 4),(33,.int .i64 (4:Nat)),(34,.int .i64 i)])
  (fun i h'=>i≤4∧Fr 0 0 h h'∧Rw h' b2 [.pointer none,.pointer none,.pointer none,.pointer none,.pointer none]∧Rw h' b4 [.pointer (some ⟨b3,0,none⟩),.func (.func 114) #[.pointer (some ⟨mb,0,none⟩)] #[],.pointer (some ⟨b3,1,none⟩),.func (.func 115) #[.pointer (some ⟨mb,0,none⟩)] #[],.pointer (some ⟨b3,2,none⟩),.func (.func 116) #[.pointer (some ⟨mb,0,none⟩)] #[],.pointer (some ⟨b3,3,none⟩),.func (.func 117) #[.pointer (some ⟨mb,0,none⟩)] #[]] ∧
   ∃ x u A B L,Rw h' b3 [x 0,x 1,x 2,x 3,.pointer (some ⟨u,0,none⟩)]∧Der h' A B x g.n (aM g) i∧(∀ k,k<i→hs.size≤A k∧A k≤B k∧B k≤L)∧PN h' L (.pointer (some ⟨u,0,none⟩)) g.n (rangeM (aM g) i)∧hs.size≤L∧L≤h'.size) (fun i=>4 - i) 0 ?_ ?_ ?_
 ·simp [Le,find]
 ·exact ⟨by omega,p0,r2,r4,fun _=>.pointer none,u0,fun _=>0,fun _=>0,hs.size,r3,⟨fun k hk=>by omega,fun k l hk=>by omega⟩,fun k hk=>by omega,t4.congr fun i j _ _=>rfl,Nat.le_refl _,by omega⟩
 clear p0 r1 r2 r3 r4 t3 t4
 rintro i h3 ⟨hi,p0,r2,r4,x,u,A,B,L,r3,D,dlo,t,hsL,hLh'⟩
 have p0_z:=p0.size
 have r2_l:=r2.lt
 have r3_l:=r3.lt
 have r4_l:=r4.lt
 have hx:∀ k,k<i→∃ y,x k=.pointer (some ⟨y,0,none⟩):=fun k hk=>progPtr (D.at_ k hk)
 by_cases hlt:i<4
 ·have e1:((i:Int)<((4:Nat):Int)):=by omega
  have hi':i=0∨i=1∨i=2∨i=3:=by omega
  rcases hi' with rfl | rfl | rfl | rfl
  ·skip
   have pA:Fr 0 0 h3 h3:=.refl _ _ _
   simp -dsimp only [go_sem,e1,r2.cell,r3.cell,r4.cell]
   intro b6 h4 n6
   have n6_a:=n6.at_
   have n6_z:=n6.size
   replace p0:=p0.F n6.f0
   replace r2:=r2.F n6.f0
   replace r3:=r3.F n6.f0
   replace r4:=r4.F n6.f0
   replace pA:=pA.F n6.f0
   have r6:=n6.row
   simp -dsimp only [go_sem,r2.cell,r3.cell,r4.cell,r6.cell]
   refine Chk_intro (r6.W) fun h5 s5=>?_
   have s5_z:=s5.size
   replace p0:=p0.F s5.fr
   replace r2:=r2.F s5.fr
   replace r3:=r3.F s5.fr
   replace r4:=r4.F s5.fr
   replace pA:=pA.F s5.fr
   replace r6:=s5.row r6
   try simp only [cl_int,cl_bool,cl_slice,cl_ptr,putAt_one,zs0,zs1,ivec_set,brow_upd] at r6
   try simp -dsimp only [go_sem] at r6
   simp -dsimp only [go_sem,r2.cell,r3.cell,r4.cell,r6.cell]
   have D5:=(D.fr n6.f0 (fun k hk=>by omega)).fr s5.fr (fun k hk=>by have:=dlo k hk;omega)
   refine call_of (arm_model_obs (m.fr p0)) ?_
   rintro v6 h6 ⟨f6,w6⟩
   have D6:=D5.fr f6 (fun k hk=>by omega)
   have f6_z:=f6.size
   replace p0:=p0.F f6
   replace r2:=r2.F f6
   replace r3:=r3.F f6
   replace r4:=r4.F f6
   replace pA:=pA.F f6
   replace r6:=r6.F f6
   have t6:=t.fr pA (by omega)
   obtain ⟨y,rfl⟩:=w6.pa.ptr
   have hL6:L≤h5.size∧h5.size≤h6.size∧hs.size≤h5.size:=by omega
   simp -dsimp only [go_sem,r2.cell,r3.cell,r4.cell,r6.cell]
   refine Chk_intro (r3.W) fun h7 s7=>?_
   have s7_z:=s7.size
   replace p0:=p0.F s7.fr
   replace r2:=r2.F s7.fr
   replace r4:=r4.F s7.fr
   replace r6:=r6.F s7.fr
   replace r3:=s7.row r3
   try simp only [cl_int,cl_bool,cl_slice,cl_ptr,putAt_one,zs0,zs1,ivec_set,brow_upd] at r3
   try simp -dsimp only [go_sem] at r3
   have D7:=D6.fr s7.fr (fun k hk=>by have:=dlo k hk;omega)
   have t7:=t6.fr s7.fr (by omega)
   have w7:=w6.fr s7.fr (by omega)
   simp -dsimp only [go_sem,r2.cell,r3.cell,r4.cell,r6.cell]
   intro b8 h8 n8
   have n8_a:=n8.at_
   have n8_z:=n8.size
   replace p0:=p0.F n8.f0
   replace r2:=r2.F n8.f0
   replace r3:=r3.F n8.f0
   replace r4:=r4.F n8.f0
   replace r6:=r6.F n8.f0
   have r8:=n8.row
   have D8:=D7.fr n8.f0 (fun k hk=>by omega)
   have t8:=t7.fr n8.f0 (by omega)
   have w8:=w7.fr n8.f0 (by omega)
   simp -dsimp only [go_sem,r2.cell,r3.cell,r4.cell,r6.cell,r8.cell]
   refine call_of (rel_UnionU (UA.mk' [(.pointer (some ⟨u,0,none⟩),rangeM (aM g) 0),(.pointer (some ⟨y,0,none⟩),aM g 0)] r8 (pa_cons t8.pa (pa_cons w8.pa pa_nil)) (by simp) (by simp))) ?_
   rintro v9 h9 ⟨f9,t9⟩
   have D9:=D8.fr f9 (fun k hk=>by omega)
   have w9:=w8.fr f9 (by omega)
   have f9_z:=f9.size
   replace p0:=p0.F f9
   replace r2:=r2.F f9
   replace r3:=r3.F f9
   replace r4:=r4.F f9
   replace r6:=r6.F f9
   replace r8:=r8.F f9
   have t9:=PN.of t9
   obtain ⟨u9,rfl⟩:=t9.pa.ptr
   simp -dsimp only [go_sem,r2.cell,r3.cell,r4.cell,r6.cell,r8.cell]
   refine Chk_intro (r3.W) fun h10 s10=>?_
   have s10_z:=s10.size
   replace p0:=p0.F s10.fr
   replace r2:=r2.F s10.fr
   replace r4:=r4.F s10.fr
   replace r6:=r6.F s10.fr
   replace r8:=r8.F s10.fr
   replace r3:=s10.row r3
   try simp only [cl_int,cl_bool,cl_slice,cl_ptr,putAt_one,zs0,zs1,ivec_set,brow_upd] at r3
   try simp -dsimp only [go_sem] at r3
   have D10:=D9.fr s10.fr (fun k hk=>by have:=dlo k hk;omega)
   have w10:=w9.fr s10.fr (by omega)
   have t10:=t9.fr s10.fr (by omega)
   obtain ⟨A',B',D',dlo'⟩:=Der.snoc (L:=h5.size) (L':=h8.size) (lo:=hs.size) D10 (fun k hk=>by have:=dlo k hk;omega) (by
    obtain ⟨a,b,w,k1,k2,k3⟩:=w8
    exact ⟨a,b,(w.fr f9 (by omega)).fr s10.fr (by omega),k1,k2,k3⟩)
   simp -dsimp only [go_sem,r2.cell,r3.cell,r4.cell,r6.cell,r8.cell]
   simp -dsimp (disch:=omega) only [wrap64]
   exact ⟨0+1,by omega,by simp [Le,find],by omega,p0,r2,r4,upd x 0 (.pointer (some ⟨y,0,none⟩)),u9,A',B',h8.size,r3,D',fun k hk=>by have:=dlo' k hk;omega,(t10.congr fun i j _ _=>by simp [orM,rangeM,List.range_succ,Bool.or_assoc]),by omega,by omega⟩
  ·skip
   have pA:Fr 0 0 h3 h3:=.refl _ _ _
   simp -dsimp only [go_sem,e1,r2.cell,r3.cell,r4.cell]
   intro b6 h4 n6
   have n6_a:=n6.at_
   have n6_z:=n6.size
   replace p0:=p0.F n6.f0
   replace r2:=r2.F n6.f0
   replace r3:=r3.F n6.f0
   replace r4:=r4.F n6.f0
   replace pA:=pA.F n6.f0
   have r6:=n6.row
   simp -dsimp only [go_sem,r2.cell,r3.cell,r4.cell,r6.cell]
   refine Chk_intro (r6.W) fun h5 s5=>?_
   have s5_z:=s5.size
   replace p0:=p0.F s5.fr
   replace r2:=r2.F s5.fr
   replace r3:=r3.F s5.fr
   replace r4:=r4.F s5.fr
   replace pA:=pA.F s5.fr
   replace r6:=s5.row r6
   try simp only [cl_int,cl_bool,cl_slice,cl_ptr,putAt_one,zs0,zs1,ivec_set,brow_upd] at r6
   try simp -dsimp only [go_sem] at r6
   simp -dsimp only [go_sem,r2.cell,r3.cell,r4.cell,r6.cell]
   have D5:=(D.fr n6.f0 (fun k hk=>by omega)).fr s5.fr (fun k hk=>by have:=dlo k hk;omega)
   refine call_of (arm_model_dob (m.fr p0) (ht.fr p0 (.inr rfl))) ?_
   rintro v6 h6 ⟨f6,w6⟩
   have D6:=D5.fr f6 (fun k hk=>by omega)
   have f6_z:=f6.size
   replace p0:=p0.F f6
   replace r2:=r2.F f6
   replace r3:=r3.F f6
   replace r4:=r4.F f6
   replace pA:=pA.F f6
   replace r6:=r6.F f6
   have t6:=t.fr pA (by omega)
   obtain ⟨y,rfl⟩:=w6.pa.ptr
   have hL6:L≤h5.size∧h5.size≤h6.size∧hs.size≤h5.size:=by omega
   simp -dsimp only [go_sem,r2.cell,r3.cell,r4.cell,r6.cell]
   refine Chk_intro (r3.W) fun h7 s7=>?_
   have s7_z:=s7.size
   replace p0:=p0.F s7.fr
   replace r2:=r2.F s7.fr
   replace r4:=r4.F s7.fr
   replace r6:=r6.F s7.fr
   replace r3:=s7.row r3
   try simp only [cl_int,cl_bool,cl_slice,cl_ptr,putAt_one,zs0,zs1,ivec_set,brow_upd] at r3
   try simp -dsimp only [go_sem] at r3
   have D7:=D6.fr s7.fr (fun k hk=>by have:=dlo k hk;omega)
   have t7:=t6.fr s7.fr (by omega)
   have w7:=w6.fr s7.fr (by omega)
   simp -dsimp only [go_sem,r2.cell,r3.cell,r4.cell,r6.cell]
   intro b8 h8 n8
   have n8_a:=n8.at_
   have n8_z:=n8.size
   replace p0:=p0.F n8.f0
   replace r2:=r2.F n8.f0
   replace r3:=r3.F n8.f0
   replace r4:=r4.F n8.f0
   replace r6:=r6.F n8.f0
   have r8:=n8.row
   have D8:=D7.fr n8.f0 (fun k hk=>by omega)
   have t8:=t7.fr n8.f0 (by omega)
   have w8:=w7.fr n8.f0 (by omega)
   simp -dsimp only [go_sem,r2.cell,r3.cell,r4.cell,r6.cell,r8.cell]
   refine call_of (rel_UnionU (UA.mk' [(.pointer (some ⟨u,0,none⟩),rangeM (aM g) 1),(.pointer (some ⟨y,0,none⟩),aM g 1)] r8 (pa_cons t8.pa (pa_cons w8.pa pa_nil)) (by simp) (by simp))) ?_
   rintro v9 h9 ⟨f9,t9⟩
   have D9:=D8.fr f9 (fun k hk=>by omega)
   have w9:=w8.fr f9 (by omega)
   have f9_z:=f9.size
   replace p0:=p0.F f9
   replace r2:=r2.F f9
   replace r3:=r3.F f9
   replace r4:=r4.F f9
   replace r6:=r6.F f9
   replace r8:=r8.F f9
   have t9:=PN.of t9
   obtain ⟨u9,rfl⟩:=t9.pa.ptr
   simp -dsimp only [go_sem,r2.cell,r3.cell,r4.cell,r6.cell,r8.cell]
   refine Chk_intro (r3.W) fun h10 s10=>?_
   have s10_z:=s10.size
   replace p0:=p0.F s10.fr
   replace r2:=r2.F s10.fr
   replace r4:=r4.F s10.fr
   replace r6:=r6.F s10.fr
   replace r8:=r8.F s10.fr
   replace r3:=s10.row r3
   try simp only [cl_int,cl_bool,cl_slice,cl_ptr,putAt_one,zs0,zs1,ivec_set,brow_upd] at r3
   try simp -dsimp only [go_sem] at r3
   have D10:=D9.fr s10.fr (fun k hk=>by have:=dlo k hk;omega)
   have w10:=w9.fr s10.fr (by omega)
   have t10:=t9.fr s10.fr (by omega)
   obtain ⟨A',B',D',dlo'⟩:=Der.snoc (L:=h5.size) (L':=h8.size) (lo:=hs.size) D10 (fun k hk=>by have:=dlo k hk;omega) (by
    obtain ⟨a,b,w,k1,k2,k3⟩:=w8
    exact ⟨a,b,(w.fr f9 (by omega)).fr s10.fr (by omega),k1,k2,k3⟩)
   simp -dsimp only [go_sem,r2.cell,r3.cell,r4.cell,r6.cell,r8.cell]
   simp -dsimp (disch:=omega) only [wrap64]
   exact ⟨1+1,by omega,by simp [Le,find],by omega,p0,r2,r4,upd x 1 (.pointer (some ⟨y,0,none⟩)),u9,A',B',h8.size,r3,D',fun k hk=>by have:=dlo' k hk;omega,(t10.congr fun i j _ _=>by simp [orM,rangeM,List.range_succ,Bool.or_assoc]),by omega,by omega⟩
  ·skip
   have pA:Fr 0 0 h3 h3:=.refl _ _ _
   simp -dsimp only [go_sem,e1,r2.cell,r3.cell,r4.cell]
   intro b6 h4 n6
   have n6_a:=n6.at_
   have n6_z:=n6.size
   replace p0:=p0.F n6.f0
   replace r2:=r2.F n6.f0
   replace r3:=r3.F n6.f0
   replace r4:=r4.F n6.f0
   replace pA:=pA.F n6.f0
   have r6:=n6.row
   simp -dsimp only [go_sem,r2.cell,r3.cell,r4.cell,r6.cell]
   refine Chk_intro (r6.W) fun h5 s5=>?_
   have s5_z:=s5.size
   replace p0:=p0.F s5.fr
   replace r2:=r2.F s5.fr
   replace r3:=r3.F s5.fr
   replace r4:=r4.F s5.fr
   replace pA:=pA.F s5.fr
   replace r6:=s5.row r6
   try simp only [cl_int,cl_bool,cl_slice,cl_ptr,putAt_one,zs0,zs1,ivec_set,brow_upd] at r6
   try simp -dsimp only [go_sem] at r6
   simp -dsimp only [go_sem,r2.cell,r3.cell,r4.cell,r6.cell]
   have D5:=(D.fr n6.f0 (fun k hk=>by omega)).fr s5.fr (fun k hk=>by have:=dlo k hk;omega)
   refine call_of (arm_model_aob (m.fr p0) hg (ht.fr p0 (.inr rfl))) ?_
   rintro v6 h6 ⟨f6,w6⟩
   have D6:=D5.fr f6 (fun k hk=>by omega)
   have f6_z:=f6.size
   replace p0:=p0.F f6
   replace r2:=r2.F f6
   replace r3:=r3.F f6
   replace r4:=r4.F f6
   replace pA:=pA.F f6
   replace r6:=r6.F f6
   have t6:=t.fr pA (by omega)
   obtain ⟨y,rfl⟩:=w6.pa.ptr
   have hL6:L≤h5.size∧h5.size≤h6.size∧hs.size≤h5.size:=by omega
   simp -dsimp only [go_sem,r2.cell,r3.cell,r4.cell,r6.cell]
   refine Chk_intro (r3.W) fun h7 s7=>?_
   have s7_z:=s7.size
   replace p0:=p0.F s7.fr
   replace r2:=r2.F s7.fr
   replace r4:=r4.F s7.fr
   replace r6:=r6.F s7.fr
   replace r3:=s7.row r3
   try simp only [cl_int,cl_bool,cl_slice,cl_ptr,putAt_one,zs0,zs1,ivec_set,brow_upd] at r3
   try simp -dsimp only [go_sem] at r3
   have D7:=D6.fr s7.fr (fun k hk=>by have:=dlo k hk;omega)
   have t7:=t6.fr s7.fr (by omega)
   have w7:=w6.fr s7.fr (by omega)
   simp -dsimp only [go_sem,r2.cell,r3.cell,r4.cell,r6.cell]
   intro b8 h8 n8
   have n8_a:=n8.at_
   have n8_z:=n8.size
   replace p0:=p0.F n8.f0
   replace r2:=r2.F n8.f0
   replace r3:=r3.F n8.f0
   replace r4:=r4.F n8.f0
   replace r6:=r6.F n8.f0
   have r8:=n8.row
   have D8:=D7.fr n8.f0 (fun k hk=>by omega)
   have t8:=t7.fr n8.f0 (by omega)
   have w8:=w7.fr n8.f0 (by omega)
   simp -dsimp only [go_sem,r2.cell,r3.cell,r4.cell,r6.cell,r8.cell]
   refine call_of (rel_UnionU (UA.mk' [(.pointer (some ⟨u,0,none⟩),rangeM (aM g) 2),(.pointer (some ⟨y,0,none⟩),aM g 2)] r8 (pa_cons t8.pa (pa_cons w8.pa pa_nil)) (by simp) (by simp))) ?_
   rintro v9 h9 ⟨f9,t9⟩
   have D9:=D8.fr f9 (fun k hk=>by omega)
   have w9:=w8.fr f9 (by omega)
   have f9_z:=f9.size
   replace p0:=p0.F f9
   replace r2:=r2.F f9
   replace r3:=r3.F f9
   replace r4:=r4.F f9
   replace r6:=r6.F f9
   replace r8:=r8.F f9
   have t9:=PN.of t9
   obtain ⟨u9,rfl⟩:=t9.pa.ptr
   simp -dsimp only [go_sem,r2.cell,r3.cell,r4.cell,r6.cell,r8.cell]
   refine Chk_intro (r3.W) fun h10 s10=>?_
   have s10_z:=s10.size
   replace p0:=p0.F s10.fr
   replace r2:=r2.F s10.fr
   replace r4:=r4.F s10.fr
   replace r6:=r6.F s10.fr
   replace r8:=r8.F s10.fr
   replace r3:=s10.row r3
   try simp only [cl_int,cl_bool,cl_slice,cl_ptr,putAt_one,zs0,zs1,ivec_set,brow_upd] at r3
   try simp -dsimp only [go_sem] at r3
   have D10:=D9.fr s10.fr (fun k hk=>by have:=dlo k hk;omega)
   have w10:=w9.fr s10.fr (by omega)
   have t10:=t9.fr s10.fr (by omega)
   obtain ⟨A',B',D',dlo'⟩:=Der.snoc (L:=h5.size) (L':=h8.size) (lo:=hs.size) D10 (fun k hk=>by have:=dlo k hk;omega) (by
    obtain ⟨a,b,w,k1,k2,k3⟩:=w8
    exact ⟨a,b,(w.fr f9 (by omega)).fr s10.fr (by omega),k1,k2,k3⟩)
   simp -dsimp only [go_sem,r2.cell,r3.cell,r4.cell,r6.cell,r8.cell]
   simp -dsimp (disch:=omega) only [wrap64]
   exact ⟨2+1,by omega,by simp [Le,find],by omega,p0,r2,r4,upd x 2 (.pointer (some ⟨y,0,none⟩)),u9,A',B',h8.size,r3,D',fun k hk=>by have:=dlo' k hk;omega,(t10.congr fun i j _ _=>by simp [orM,rangeM,List.range_succ,Bool.or_assoc]),by omega,by omega⟩
  ·skip
   have pA:Fr 0 0 h3 h3:=.refl _ _ _
   simp -dsimp only [go_sem,e1,r2.cell,r3.cell,r4.cell]
   intro b6 h4 n6
   have n6_a:=n6.at_
   have n6_z:=n6.size
   replace p0:=p0.F n6.f0
   replace r2:=r2.F n6.f0
   replace r3:=r3.F n6.f0
   replace r4:=r4.F n6.f0
   replace pA:=pA.F n6.f0
   have r6:=n6.row
   simp -dsimp only [go_sem,r2.cell,r3.cell,r4.cell,r6.cell]
   refine Chk_intro (r6.W) fun h5 s5=>?_
   have s5_z:=s5.size
   replace p0:=p0.F s5.fr
   replace r2:=r2.F s5.fr
   replace r3:=r3.F s5.fr
   replace r4:=r4.F s5.fr
   replace pA:=pA.F s5.fr
   replace r6:=s5.row r6
   try simp only [cl_int,cl_bool,cl_slice,cl_ptr,putAt_one,zs0,zs1,ivec_set,brow_upd] at r6
   try simp -dsimp only [go_sem] at r6
   simp -dsimp only [go_sem,r2.cell,r3.cell,r4.cell,r6.cell]
   have D5:=(D.fr n6.f0 (fun k hk=>by omega)).fr s5.fr (fun k hk=>by have:=dlo k hk;omega)
   refine call_of (arm_model_bob (m.fr p0) (ht.fr p0 (.inr rfl))) ?_
   rintro v6 h6 ⟨f6,w6⟩
   have D6:=D5.fr f6 (fun k hk=>by omega)
   have f6_z:=f6.size
   replace p0:=p0.F f6
   replace r2:=r2.F f6
   replace r3:=r3.F f6
   replace r4:=r4.F f6
   replace pA:=pA.F f6
   replace r6:=r6.F f6
   have t6:=t.fr pA (by omega)
   obtain ⟨y,rfl⟩:=w6.pa.ptr
   have hL6:L≤h5.size∧h5.size≤h6.size∧hs.size≤h5.size:=by omega
   simp -dsimp only [go_sem,r2.cell,r3.cell,r4.cell,r6.cell]
   refine Chk_intro (r3.W) fun h7 s7=>?_
   have s7_z:=s7.size
   replace p0:=p0.F s7.fr
   replace r2:=r2.F s7.fr
   replace r4:=r4.F s7.fr
   replace r6:=r6.F s7.fr
   replace r3:=s7.row r3
   try simp only [cl_int,cl_bool,cl_slice,cl_ptr,putAt_one,zs0,zs1,ivec_set,brow_upd] at r3
   try simp -dsimp only [go_sem] at r3
   have D7:=D6.fr s7.fr (fun k hk=>by have:=dlo k hk;omega)
   have t7:=t6.fr s7.fr (by omega)
   have w7:=w6.fr s7.fr (by omega)
   simp -dsimp only [go_sem,r2.cell,r3.cell,r4.cell,r6.cell]
   intro b8 h8 n8
   have n8_a:=n8.at_
   have n8_z:=n8.size
   replace p0:=p0.F n8.f0
   replace r2:=r2.F n8.f0
   replace r3:=r3.F n8.f0
   replace r4:=r4.F n8.f0
   replace r6:=r6.F n8.f0
   have r8:=n8.row
   have D8:=D7.fr n8.f0 (fun k hk=>by omega)
   have t8:=t7.fr n8.f0 (by omega)
   have w8:=w7.fr n8.f0 (by omega)
   simp -dsimp only [go_sem,r2.cell,r3.cell,r4.cell,r6.cell,r8.cell]
   refine call_of (rel_UnionU (UA.mk' [(.pointer (some ⟨u,0,none⟩),rangeM (aM g) 3),(.pointer (some ⟨y,0,none⟩),aM g 3)] r8 (pa_cons t8.pa (pa_cons w8.pa pa_nil)) (by simp) (by simp))) ?_
   rintro v9 h9 ⟨f9,t9⟩
   have D9:=D8.fr f9 (fun k hk=>by omega)
   have w9:=w8.fr f9 (by omega)
   have f9_z:=f9.size
   replace p0:=p0.F f9
   replace r2:=r2.F f9
   replace r3:=r3.F f9
   replace r4:=r4.F f9
   replace r6:=r6.F f9
   replace r8:=r8.F f9
   have t9:=PN.of t9
   obtain ⟨u9,rfl⟩:=t9.pa.ptr
   simp -dsimp only [go_sem,r2.cell,r3.cell,r4.cell,r6.cell,r8.cell]
   refine Chk_intro (r3.W) fun h10 s10=>?_
   have s10_z:=s10.size
   replace p0:=p0.F s10.fr
   replace r2:=r2.F s10.fr
   replace r4:=r4.F s10.fr
   replace r6:=r6.F s10.fr
   replace r8:=r8.F s10.fr
   replace r3:=s10.row r3
   try simp only [cl_int,cl_bool,cl_slice,cl_ptr,putAt_one,zs0,zs1,ivec_set,brow_upd] at r3
   try simp -dsimp only [go_sem] at r3
   have D10:=D9.fr s10.fr (fun k hk=>by have:=dlo k hk;omega)
   have w10:=w9.fr s10.fr (by omega)
   have t10:=t9.fr s10.fr (by omega)
   obtain ⟨A',B',D',dlo'⟩:=Der.snoc (L:=h5.size) (L':=h8.size) (lo:=hs.size) D10 (fun k hk=>by have:=dlo k hk;omega) (by
    obtain ⟨a,b,w,k1,k2,k3⟩:=w8
    exact ⟨a,b,(w.fr f9 (by omega)).fr s10.fr (by omega),k1,k2,k3⟩)
   simp -dsimp only [go_sem,r2.cell,r3.cell,r4.cell,r6.cell,r8.cell]
   simp -dsimp (disch:=omega) only [wrap64]
   exact ⟨3+1,by omega,by simp [Le,find],by omega,p0,r2,r4,upd x 3 (.pointer (some ⟨y,0,none⟩)),u9,A',B',h8.size,r3,D',fun k hk=>by have:=dlo' k hk;omega,(t10.congr fun i j _ _=>by simp [orM,rangeM,List.range_succ,Bool.or_assoc]),by omega,by omega⟩
 ·obtain rfl:i=4:=by omega
  have ocx:∀ k,k<4→(x k).oneCell'=true:=fun k hk=>by obtain ⟨_,e⟩:=hx k hk;rw [e];rfl
  simp -dsimp only [go_sem,Int.lt_irrefl,ocx 0 (by decide),ocx 1 (by decide),ocx 2 (by decide),ocx 3 (by decide),r2.cell,r3.cell,r4.cell]
  have hD:∀ k,k<4→B k≤h3.size:=fun k hk=>by have:=dlo k hk;omega
  obtain ⟨a,b,w,w1,w2,w3⟩:=t
  obtain ⟨A',B',D',dlo'⟩:=Der.snoc (v:=.pointer (some ⟨u,0,none⟩)) (lo:=hs.size) (L:=L) (L':=h3.size) D dlo ⟨a,b,w.congr fun i j _ _=>by simp [rangeM,List.range_succ,aM,obM,Bool.or_assoc],w1,w2,w3⟩
  have hz3:h.size≤h3.size:=by omega
  refine Chk_intro (r2.W) fun h5 s5=>?_
  have s5_z:=s5.size
  replace p0:=p0.F s5.fr
  replace r3:=r3.F s5.fr
  replace r4:=r4.F s5.fr
  replace r2:=s5.row r2
  try simp only [cl_int,cl_bool,cl_slice,cl_ptr,putAt_one,zs0,zs1,ivec_set,brow_upd] at r2
  have z5:=s5.size
  have D5:=D'.fr s5.fr (fun k hk=>by have:=dlo' k hk;omega)
  replace r2:Rw h5 b2 [x 0,x 1,x 2,x 3,.pointer (some ⟨u,0,none⟩)]:=r2
  simp -dsimp only [go_sem,r2.cell,r3.cell,r4.cell]
  exact ⟨p0,upd x 4 (.pointer (some ⟨u,0,none⟩)),A',B',rfl,D5,fun k hk=>by have:=dlo' k hk;omega⟩
end
end Go.Proofs.Tst
/-
  The words' memory model of a graph; Derive, Check.
-/
namespace Go.Proofs.Tst
open Go Go.Vc
theorem facts_ptr {p:Nat→Value} {h:Heap} {lo:Nat} {rd wr fe:Value} {g:Gr} (F:FactsAt h lo p rd wr fe g):∃ c:Nat→Nat,∀ k,k<10→p k=.pointer (some ⟨c k,0,none⟩):=by
 obtain ⟨A,B,D,-⟩:=F.rel
 exact ⟨fun k=>if hk:k<10 then (progPtr (D.at_ k hk)).choose else 0,fun k hk=>by dsimp only;rw [dif_pos hk];exact (progPtr (D.at_ k hk)).choose_spec⟩
theorem good_true {g:Gr} (h:(g.check true).1=0):g.good=true:=by unfold Gr.good;rw [h];simp
theorem good_false {g:Gr} (h:(g.check false).1=0):g.good=true:=by unfold Gr.good;rw [h];simp
section
variable {h : Heap} {q : GV} {g : Gr}
set_option maxHeartbeats 4000000 in
theorem arm_derive (t:GrAt h q g) (ht:TabAt h) :
  Con Tryd.prog 71 #[.agg (gcells q g).toArray] h fun v h'=>Fr 0 0 h h'∧if (g.check true).1=0 then ∃ mb c rd wr fe d,v=.tuple #[.pointer (some ⟨mb,0,none⟩),.int .i64 0]∧Md h' mb q g c rd wr fe d else v=.tuple #[.pointer none,.int .i64 4]:=by
 have p0:Fr 0 0 h h:=.refl _ _ _
 have hen:g.evs.length=g.n:=rfl
 by_cases hc:(g.check true).1=0
 rotate_left
 ·simp only [if_neg hc]
  refine con_q2 ?_
  unfold gcells
  simp -dsimp only [go_sem]
  intro b1 h1 n1
  have n1_a:=n1.at_
  have n1_z:=n1.size
  replace p0:=p0.F n1.f0
  have r1:=n1.row
  simp -dsimp only [go_sem,r1.cell]
  refine call_of (graph_Check (t.fr p0) true) ?_
  rintro v2 h2 ⟨f2,rfl⟩
  have f2_z:=f2.size
  replace p0:=p0.F f2
  replace r1:=r1.F f2
  simp -dsimp only [go_sem,bne_f hc,r1.cell]
  exact p0
 simp only [if_pos hc]
 refine con_q2 ?_
 unfold gcells
 simp -dsimp only [go_sem]
 intro b1 h1 n1
 have n1_a:=n1.at_
 have n1_z:=n1.size
 replace p0:=p0.F n1.f0
 have r1:=n1.row
 simp -dsimp only [go_sem,r1.cell]
 refine call_of (graph_Check (t.fr p0) true) ?_
 rintro v2 h2 ⟨f2,rfl⟩
 have f2_z:=f2.size
 replace p0:=p0.F f2
 replace r1:=r1.F f2
 have hg:=good_true hc
 simp -dsimp only [go_sem,bne_t hc,r1.cell]
 refine call_of (graph_Derive (t.fr p0) (ht.fr p0 (.inr rfl))) ?_
 rintro v3 h3 ⟨f3,w3⟩
 have f3_z:=f3.size
 replace p0:=p0.F f3
 replace r1:=r1.F f3
 rw [if_pos hg] at w3
 obtain ⟨p,rd,wr,fe,rfl,F⟩:=w3
 obtain ⟨c,hp⟩:=facts_ptr F
 obtain ⟨A,B,D,dlo,dap⟩:=F.rel
 have hn:=F.n
 have R:∀ k,k<10→PA h3 (.pointer (some ⟨c k,0,none⟩)) g.n (relM g k):=fun k hk=>by rw [← hp k hk];exact ⟨_,_,D.at_ k hk⟩
 have dR:Rd 1 h3 rd (kindsV g 1 g.n).length (boolsV (kindsV g 1 g.n)):=by rw [kinds_len];exact F.hrd.rd
 have dW:Rd 1 h3 wr (kindsV g 2 g.n).length (boolsV (kindsV g 2 g.n)):=by rw [kinds_len];exact F.hwr.rd
 have dF:Rd 1 h3 fe (kindsV g 3 g.n).length (boolsV (kindsV g 3 g.n)):=by rw [kinds_len];exact F.hfe.rd
 obtain ⟨rda,rdc,e1⟩:=F.hrd.is
 obtain ⟨wra,wrc,e2⟩:=F.hwr.is
 obtain ⟨fea,fec,e3⟩:=F.hfe.is
 subst e1;subst e2;subst e3
 clear F D dap dlo
 have p3:Fr 0 0 h3 h3:=.refl _ _ _
 unfold fcells
 rw [hp 0 (by decide),hp 1 (by decide),hp 2 (by decide),hp 3 (by decide),hp 4 (by decide),hp 5 (by decide),hp 6 (by decide),hp 7 (by decide),hp 8 (by decide),hp 9 (by decide)]
 simp -dsimp only [go_sem,r1.cell]
 intro b6 h4 n4
 have n4_z:=n4.az
 replace p0:=p0.F n4.f0
 replace r1:=r1.F n4.f0
 replace p3:=p3.F n4.f0
 have r6:=n4.row
 simp -dsimp only [go_sem,r1.cell,r6.cell]
 refine Chk_intro (r6.W) fun h5 s5=>?_
 have s5_z:=s5.size
 replace p0:=p0.F s5.fr
 replace r1:=r1.F s5.fr
 replace p3:=p3.F s5.fr
 replace r6:=s5.row r6
 try simp only [cl_int,cl_bool,cl_slice,cl_ptr,putAt_one,zs0,zs1,ivec_set,brow_upd] at r6
 try simp -dsimp only [go_sem] at r6
 simp -dsimp only [go_sem,r1.cell,r6.cell]
 refine withC_of [.pointer (some ⟨c 0,0,none⟩),.pointer (some ⟨c 1,0,none⟩),.pointer (some ⟨c 2,0,none⟩),.pointer (some ⟨c 9,0,none⟩),.pointer (some ⟨c 3,0,none⟩),.pointer (some ⟨c 4,0,none⟩),.pointer (some ⟨c 5,0,none⟩),.pointer (some ⟨c 6,0,none⟩),.pointer (some ⟨c 7,0,none⟩),.pointer (some ⟨c 8,0,none⟩),.slice rda g.n rdc,.slice wra g.n wrc,.slice fea g.n fec] 0 (fun j x hj=>by rw [r6.cell,Nat.zero_add];exact hj) ?_
 refine Chk_intro rfl ?_
 simp -dsimp only [go_sem,r1.cell,r6.cell]
 intro mb h6 n6
 have n6_z:=n6.az
 replace p0:=p0.F n6.f0
 replace r1:=r1.F n6.f0
 replace p3:=p3.F n6.f0
 replace r6:=r6.F n6.f0
 have rm:=n6.row
 replace rm:Rw h6 mb [.int .i64 g.cells,.slice q.e g.evs.length q.ec,.slice q.f g.rf.length q.fc,.slice q.o g.co.length q.oc,.slice q.r g.rmw.length q.rc,.slice q.a g.addr.length q.ac,.slice q.d g.data.length q.dc,.slice q.c g.ctrl.length q.cc,.pointer (some ⟨c 0,0,none⟩),.pointer (some ⟨c 1,0,none⟩),.pointer (some ⟨c 2,0,none⟩),.pointer (some ⟨c 9,0,none⟩),.pointer (some ⟨c 3,0,none⟩),.pointer (some ⟨c 4,0,none⟩),.pointer (some ⟨c 5,0,none⟩),.pointer (some ⟨c 6,0,none⟩),.pointer (some ⟨c 7,0,none⟩),.pointer (some ⟨c 8,0,none⟩),.slice rda g.n rdc,.slice wra g.n wrc,.slice fea g.n fec,.pointer none,.pointer none,.pointer none,.pointer none,.pointer none,.pointer none]:=rm
 have gb:h.size≤mb:=by omega
 simp -dsimp only [go_sem,r1.cell,r6.cell,rm.cell]
 obtain ⟨_,_,ta⟩:=(R 1 (by decide)).fr p3
 obtain ⟨_,_,tb⟩:=(R 5 (by decide)).fr p3
 refine call_of (rel_Inter ta tb (ht.fr p0 (.inr rfl))) ?_
 rintro vm0 h_m0 ⟨f_m0,t_m0⟩
 rw [Nat.max_self] at t_m0
 have f_m0_z:=f_m0.size
 replace p0:=p0.F f_m0
 replace r1:=r1.F f_m0
 replace p3:=p3.F f_m0
 replace r6:=r6.F f_m0
 replace rm:=rm.F f_m0
 have e_m0:PN h_m0 h6.size vm0 g.n (rfeM g):=((PN.of t_m0).lower (by omega)).congr fun i j hi hj=>interM_in hi hj
 obtain ⟨m0,rfl⟩:=e_m0.pa.ptr
 clear t_m0 ta tb
 simp -dsimp only [go_sem,r1.cell,r6.cell,rm.cell]
 obtain ⟨_,_,ta⟩:=(R 1 (by decide)).fr p3
 obtain ⟨_,_,tb⟩:=(R 5 (by decide)).fr p3
 refine call_of (rel_Minus ta tb (ht.fr p0 (.inr rfl))) ?_
 rintro vm1 h_m1 ⟨f_m1,t_m1⟩
 rw [Nat.max_self] at t_m1
 have f_m1_z:=f_m1.size
 replace p0:=p0.F f_m1
 replace r1:=r1.F f_m1
 replace p3:=p3.F f_m1
 replace r6:=r6.F f_m1
 replace rm:=rm.F f_m1
 replace e_m0:=e_m0.fr f_m1 (by omega)
 have e_m1:PN h_m1 h6.size vm1 g.n (rfiM g):=((PN.of t_m1).lower (by omega)).congr fun i j hi hj=>minusM_in hi hj
 obtain ⟨m1,rfl⟩:=e_m1.pa.ptr
 clear t_m1 ta tb
 simp -dsimp only [go_sem,r1.cell,r6.cell,rm.cell]
 refine Chk_intro (rm.W) fun hs_a ss_a=>?_
 have ss_a_z:=ss_a.size
 replace p0:=p0.F ss_a.fr
 replace r1:=r1.F ss_a.fr
 replace p3:=p3.F ss_a.fr
 replace r6:=r6.F ss_a.fr
 replace e_m0:=e_m0.fr ss_a.fr (by omega)
 replace e_m1:=e_m1.fr ss_a.fr (by omega)
 replace rm:=ss_a.row rm
 try simp only [cl_int,cl_bool,cl_slice,cl_ptr,putAt_one,zs0,zs1,ivec_set,brow_upd] at rm
 try simp -dsimp only [go_sem] at rm
 simp -dsimp only [go_sem,r1.cell,r6.cell,rm.cell]
 refine Chk_intro (rm.W) fun hs_b ss_b=>?_
 have ss_b_z:=ss_b.size
 replace p0:=p0.F ss_b.fr
 replace r1:=r1.F ss_b.fr
 replace p3:=p3.F ss_b.fr
 replace r6:=r6.F ss_b.fr
 replace e_m0:=e_m0.fr ss_b.fr (by omega)
 replace e_m1:=e_m1.fr ss_b.fr (by omega)
 replace rm:=ss_b.row rm
 try simp only [cl_int,cl_bool,cl_slice,cl_ptr,putAt_one,zs0,zs1,ivec_set,brow_upd] at rm
 try simp -dsimp only [go_sem] at rm
 simp -dsimp only [go_sem,r1.cell,r6.cell,rm.cell]
 obtain ⟨_,_,ta⟩:=(R 2 (by decide)).fr p3
 obtain ⟨_,_,tb⟩:=(R 5 (by decide)).fr p3
 refine call_of (rel_Inter ta tb (ht.fr p0 (.inr rfl))) ?_
 rintro vm2 h_m2 ⟨f_m2,t_m2⟩
 rw [Nat.max_self] at t_m2
 have f_m2_z:=f_m2.size
 replace p0:=p0.F f_m2
 replace r1:=r1.F f_m2
 replace p3:=p3.F f_m2
 replace r6:=r6.F f_m2
 replace rm:=rm.F f_m2
 replace e_m0:=e_m0.fr f_m2 (by omega)
 replace e_m1:=e_m1.fr f_m2 (by omega)
 have e_m2:PN h_m2 h6.size vm2 g.n (coeM g):=((PN.of t_m2).lower (by omega)).congr fun i j hi hj=>interM_in hi hj
 obtain ⟨m2,rfl⟩:=e_m2.pa.ptr
 clear t_m2 ta tb
 simp -dsimp only [go_sem,r1.cell,r6.cell,rm.cell]
 obtain ⟨_,_,ta⟩:=(R 2 (by decide)).fr p3
 obtain ⟨_,_,tb⟩:=(R 5 (by decide)).fr p3
 refine call_of (rel_Minus ta tb (ht.fr p0 (.inr rfl))) ?_
 rintro vm3 h_m3 ⟨f_m3,t_m3⟩
 rw [Nat.max_self] at t_m3
 have f_m3_z:=f_m3.size
 replace p0:=p0.F f_m3
 replace r1:=r1.F f_m3
 replace p3:=p3.F f_m3
 replace r6:=r6.F f_m3
 replace rm:=rm.F f_m3
 replace e_m0:=e_m0.fr f_m3 (by omega)
 replace e_m1:=e_m1.fr f_m3 (by omega)
 replace e_m2:=e_m2.fr f_m3 (by omega)
 have e_m3:PN h_m3 h6.size vm3 g.n (coiM g):=((PN.of t_m3).lower (by omega)).congr fun i j hi hj=>minusM_in hi hj
 obtain ⟨m3,rfl⟩:=e_m3.pa.ptr
 clear t_m3 ta tb
 simp -dsimp only [go_sem,r1.cell,r6.cell,rm.cell]
 refine Chk_intro (rm.W) fun hs_c ss_c=>?_
 have ss_c_z:=ss_c.size
 replace p0:=p0.F ss_c.fr
 replace r1:=r1.F ss_c.fr
 replace p3:=p3.F ss_c.fr
 replace r6:=r6.F ss_c.fr
 replace e_m0:=e_m0.fr ss_c.fr (by omega)
 replace e_m1:=e_m1.fr ss_c.fr (by omega)
 replace e_m2:=e_m2.fr ss_c.fr (by omega)
 replace e_m3:=e_m3.fr ss_c.fr (by omega)
 replace rm:=ss_c.row rm
 try simp only [cl_int,cl_bool,cl_slice,cl_ptr,putAt_one,zs0,zs1,ivec_set,brow_upd] at rm
 try simp -dsimp only [go_sem] at rm
 simp -dsimp only [go_sem,r1.cell,r6.cell,rm.cell]
 refine Chk_intro (rm.W) fun hs_d ss_d=>?_
 have ss_d_z:=ss_d.size
 replace p0:=p0.F ss_d.fr
 replace r1:=r1.F ss_d.fr
 replace p3:=p3.F ss_d.fr
 replace r6:=r6.F ss_d.fr
 replace e_m0:=e_m0.fr ss_d.fr (by omega)
 replace e_m1:=e_m1.fr ss_d.fr (by omega)
 replace e_m2:=e_m2.fr ss_d.fr (by omega)
 replace e_m3:=e_m3.fr ss_d.fr (by omega)
 replace rm:=ss_d.row rm
 try simp only [cl_int,cl_bool,cl_slice,cl_ptr,putAt_one,zs0,zs1,ivec_set,brow_upd] at rm
 try simp -dsimp only [go_sem] at rm
 simp -dsimp only [go_sem,r1.cell,r6.cell,rm.cell]
 obtain ⟨_,_,ta⟩:=(R 9 (by decide)).fr p3
 obtain ⟨_,_,tb⟩:=(R 5 (by decide)).fr p3
 refine call_of (rel_Inter ta tb (ht.fr p0 (.inr rfl))) ?_
 rintro vm4 h_m4 ⟨f_m4,t_m4⟩
 rw [Nat.max_self] at t_m4
 have f_m4_z:=f_m4.size
 replace p0:=p0.F f_m4
 replace r1:=r1.F f_m4
 replace p3:=p3.F f_m4
 replace r6:=r6.F f_m4
 replace rm:=rm.F f_m4
 replace e_m0:=e_m0.fr f_m4 (by omega)
 replace e_m1:=e_m1.fr f_m4 (by omega)
 replace e_m2:=e_m2.fr f_m4 (by omega)
 replace e_m3:=e_m3.fr f_m4 (by omega)
 have e_m4:PN h_m4 h6.size vm4 g.n (freM g):=((PN.of t_m4).lower (by omega)).congr fun i j hi hj=>interM_in hi hj
 obtain ⟨m4,rfl⟩:=e_m4.pa.ptr
 clear t_m4 ta tb
 simp -dsimp only [go_sem,r1.cell,r6.cell,rm.cell]
 refine Chk_intro (rm.W) fun hs_e ss_e=>?_
 have ss_e_z:=ss_e.size
 replace p0:=p0.F ss_e.fr
 replace r1:=r1.F ss_e.fr
 replace p3:=p3.F ss_e.fr
 replace r6:=r6.F ss_e.fr
 replace e_m0:=e_m0.fr ss_e.fr (by omega)
 replace e_m1:=e_m1.fr ss_e.fr (by omega)
 replace e_m2:=e_m2.fr ss_e.fr (by omega)
 replace e_m3:=e_m3.fr ss_e.fr (by omega)
 replace e_m4:=e_m4.fr ss_e.fr (by omega)
 replace rm:=ss_e.row rm
 try simp only [cl_int,cl_bool,cl_slice,cl_ptr,putAt_one,zs0,zs1,ivec_set,brow_upd] at rm
 try simp -dsimp only [go_sem] at rm
 simp -dsimp only [go_sem,r1.cell,r6.cell,rm.cell]
 have gh:Mg hs_e mb q g:=⟨⟨_,rm⟩,t.fr p0,hn⟩
 have pz:Fr 0 0 hs_e hs_e:=.refl _ _ _
 refine call_of (arm_model_mode (gh.fr pz) 12) ?_
 rintro v7 h7 ⟨f7,w7⟩
 have f7_z:=f7.size
 replace p0:=p0.F f7
 replace r1:=r1.F f7
 replace p3:=p3.F f7
 replace r6:=r6.F f7
 replace rm:=rm.F f7
 replace e_m0:=e_m0.fr f7 (by omega)
 replace e_m1:=e_m1.fr f7 (by omega)
 replace e_m2:=e_m2.fr f7 (by omega)
 replace e_m3:=e_m3.fr f7 (by omega)
 replace e_m4:=e_m4.fr f7 (by omega)
 replace pz:=pz.F f7
 simp -dsimp only [go_sem,r1.cell,r6.cell,rm.cell]
 refine call_of (arm_model_mode (gh.fr pz) 16) ?_
 rintro v8 h8 ⟨f8,w8⟩
 have w7:=w7.fr f8 (by omega)
 have f8_z:=f8.size
 replace p0:=p0.F f8
 replace r1:=r1.F f8
 replace p3:=p3.F f8
 replace r6:=r6.F f8
 replace rm:=rm.F f8
 replace e_m0:=e_m0.fr f8 (by omega)
 replace e_m1:=e_m1.fr f8 (by omega)
 replace e_m2:=e_m2.fr f8 (by omega)
 replace e_m3:=e_m3.fr f8 (by omega)
 replace e_m4:=e_m4.fr f8 (by omega)
 replace pz:=pz.F f8
 simp -dsimp only [go_sem,w7.pa.cl,w8.pa.cl,r1.cell,r6.cell,rm.cell]
 intro b9 h9 n9
 have n9_z:=n9.az
 replace p0:=p0.F n9.f0
 replace r1:=r1.F n9.f0
 replace p3:=p3.F n9.f0
 replace r6:=r6.F n9.f0
 replace rm:=rm.F n9.f0
 replace e_m0:=e_m0.fr n9.f0 (by omega)
 replace e_m1:=e_m1.fr n9.f0 (by omega)
 replace e_m2:=e_m2.fr n9.f0 (by omega)
 replace e_m3:=e_m3.fr n9.f0 (by omega)
 replace e_m4:=e_m4.fr n9.f0 (by omega)
 replace pz:=pz.F n9.f0
 have r9:=n9.row
 have w7:=w7.fr n9.f0 (by omega)
 have w8:=w8.fr n9.f0 (by omega)
 simp -dsimp only [go_sem,r1.cell,r6.cell,rm.cell,r9.cell]
 refine call_of (rel_UnionU (UA.mk' [(v7,_),(v8,_)] r9 (pa_cons w7.pa (pa_cons w8.pa pa_nil)) (by simp) (by simp))) ?_
 rintro v10 h10 ⟨f10,t10⟩
 have f10_z:=f10.size
 replace p0:=p0.F f10
 replace r1:=r1.F f10
 replace p3:=p3.F f10
 replace r6:=r6.F f10
 replace rm:=rm.F f10
 replace e_m0:=e_m0.fr f10 (by omega)
 replace e_m1:=e_m1.fr f10 (by omega)
 replace e_m2:=e_m2.fr f10 (by omega)
 replace e_m3:=e_m3.fr f10 (by omega)
 replace e_m4:=e_m4.fr f10 (by omega)
 replace pz:=pz.F f10
 replace r9:=r9.F f10
 have e_m5:PN h10 h6.size v10 g.n (dM (acqB g)):=((PN.of t10).lower (by omega)).congr fun i j hi hj=>by
  unfold orM dM acqB
  cases h1:(i==j) <;> simp [h1]
 obtain ⟨m5,rfl⟩:=e_m5.pa.ptr
 simp -dsimp only [go_sem,r1.cell,r6.cell,rm.cell,r9.cell]
 refine Chk_intro (rm.W) fun h11 s11=>?_
 have s11_z:=s11.size
 replace p0:=p0.F s11.fr
 replace r1:=r1.F s11.fr
 replace p3:=p3.F s11.fr
 replace r6:=r6.F s11.fr
 replace e_m0:=e_m0.fr s11.fr (by omega)
 replace e_m1:=e_m1.fr s11.fr (by omega)
 replace e_m2:=e_m2.fr s11.fr (by omega)
 replace e_m3:=e_m3.fr s11.fr (by omega)
 replace e_m4:=e_m4.fr s11.fr (by omega)
 replace r9:=r9.F s11.fr
 replace e_m5:=e_m5.fr s11.fr (by omega)
 replace rm:=s11.row rm
 try simp only [cl_int,cl_bool,cl_slice,cl_ptr,putAt_one,zs0,zs1,ivec_set,brow_upd] at rm
 try simp -dsimp only [go_sem] at rm
 simp -dsimp only [go_sem,r1.cell,r6.cell,rm.cell,r9.cell]
 refine ⟨p0,mb,c,.slice rda g.n rdc,.slice wra g.n wrc,.slice fea g.n fec,fun k=>[m0,m1,m2,m3,m4,m5].getD k 0,rfl,⟨rm,t.fr p0,hn,fun k hk=>(R k hk).fr p3,fun k hk=>?_,dR.fr p3,dW.fr p3,dF.fr p3⟩⟩
 match k,hk with
 | 0,_=>exact e_m0.pa
 | 1,_=>exact e_m1.pa
 | 2,_=>exact e_m2.pa
 | 3,_=>exact e_m3.pa
 | 4,_=>exact e_m4.pa
 | 5,_=>exact e_m5.pa
end
end Go.Proofs.Tst
/-
  The events in another order that keeps po (plain).
-/
namespace Go.Proofs.Tst
open Go Go.Vc
def mapP (s:Nat→Nat) (p:Int×Int):Int×Int:=((s p.1.toNat:Int),(s p.2.toNat:Int))
structure Relist (g h:Gr) (s t:Nat→Nat):Prop where
 cells:h.cells=g.cells
 n:h.n=g.n
 iso:Iso g.n s t
 fix:∀ c:Nat,(c:Int)<g.cells→c<g.n→s c=c
 up:∀ i j,i<j→j<g.n→(g.ev i).thread=(g.ev j).thread→0≤(g.ev i).thread→s i<s j
 ev:∀ i,i<g.n→h.ev (s i)=g.ev i
 rf:h.rf.Perm (g.rf.map (mapP s))
 rfs:h.rf.Pairwise fun p q=>p.2<q.2
 rmw:h.rmw.Perm (g.rmw.map (mapP s))
 rmws:h.rmw.Pairwise fun p q=>p.1<q.1
 co:h.co=g.co.map fun l=>l.map fun x=>(s x.toNat:Int)
 addr:h.addr=[]
 data:h.data=[]
 ctrl:h.ctrl=[]
theorem strict_ext:∀ {l m:List Int},l.Pairwise (· < ·)→m.Pairwise (· < ·)→(∀ x,x∈l↔x∈m)→l=m
 | [],[],_,_,_=>rfl
 | [],y :: m,_,_,h=>absurd ((h y).2 (by simp)) (by simp)
 | x :: l,[],_,_,h=>absurd ((h x).1 (by simp)) (by simp)
 | x :: l,y :: m,hl,hm,h=>by
  obtain ⟨h1,h2⟩:=List.pairwise_cons.1 hl
  obtain ⟨h3,h4⟩:=List.pairwise_cons.1 hm
  have e:x=y:=by
   rcases List.mem_cons.1 ((h x).1 (by simp)) with e | e
   ·exact e
   ·rcases List.mem_cons.1 ((h y).2 (by simp)) with e' | e'
    ·exact e'.symm
    ·have:=h3 x e;have:=h1 y e';omega
  subst e
  congr 1
  refine strict_ext h2 h4 fun z=>?_
  constructor
  ·intro hz
   rcases List.mem_cons.1 ((h z).1 (List.mem_cons_of_mem _ hz)) with e | e
   ·subst e;have:=h1 z hz;omega
   ·exact e
  ·intro hz
   rcases List.mem_cons.1 ((h z).2 (List.mem_cons_of_mem _ hz)) with e | e
   ·subst e;have:=h3 z hz;omega
   ·exact e
theorem reads_sorted {g:Gr}:(readsFrom g 0 g.n).Pairwise (· < ·):=by
 unfold readsFrom
 rw [List.pairwise_map]
 refine List.Pairwise.filter _ ?_
 rw [← List.range_eq_range']
 exact List.pairwise_lt_range.imp fun h=>by omega
theorem reads_mem {g:Gr} {x:Int}:x∈readsFrom g 0 g.n↔∃ i:Nat,i<g.n∧(g.ev i).kind=1∧x=(i:Int):=by
 unfold readsFrom
 rw [← List.range_eq_range',List.mem_map]
 constructor
 ·rintro ⟨i,hi,rfl⟩
  rw [List.mem_filter,List.mem_range,beq_iff_eq] at hi
  exact ⟨i,hi.1,hi.2,rfl⟩
 ·rintro ⟨i,h1,h2,rfl⟩
  exact ⟨i,List.mem_filter.2 ⟨List.mem_range.2 h1,by simpa using h2⟩,rfl⟩
theorem lpairs_map {f:Int→Int}:∀ l:List Int,lpairs (l.map f)=(lpairs l).map fun p=>(f p.1,f p.2)
 | []=>rfl
 | a :: l=>by
  show (l.map f).map (fun b=>(f a,b))++lpairs (l.map f)=(l.map (fun b=>(a,b))++lpairs l).map fun p=>(f p.1,f p.2)
  rw [lpairs_map l,List.map_append,List.map_map,List.map_map];rfl
namespace Relist
variable {g h : Gr} {s t : Nat → Nat}
theorem back (w:Relist g h s t) {i:Nat} (hi:i<g.n):h.ev i=g.ev (t i):=by rw [← w.ev _ (w.iso.lt i hi),w.iso.st i hi]
theorem is_s (w:Relist g h s t) {i:Nat} (hi:i<g.n) (k:Int):h.is (s i:Int) k=g.is (i:Int) k:=by
 have:=w.iso.ls i hi
 unfold Gr.is
 rw [Int.toNat_natCast,Int.toNat_natCast,w.ev i hi,w.n]
 have e1:decide (0≤(s i:Int))=true:=by simp
 have e2:decide ((s i:Int)<(g.n:Int))=true:=by simp;omega
 have e3:decide (0≤(i:Int))=true:=by simp
 have e4:decide ((i:Int)<(g.n:Int))=true:=by simp;omega
 rw [e1,e2,e3,e4]
theorem before_s (w:Relist g h s t) {i j:Nat} (hi:i<g.n) (hj:j<g.n):h.before (s i:Int) (s j:Int)=g.before (i:Int) (j:Int):=by
 have:=w.iso.ls i hi
 have:=w.iso.ls j hj
 unfold Gr.before
 simp only [Int.toNat_natCast,w.ev i hi,w.ev j hj,w.n]
 rw [Bool.eq_iff_iff]
 simp only [Bool.and_eq_true,decide_eq_true_eq,beq_iff_eq]
 constructor
 ·rintro ⟨⟨⟨⟨-,h1⟩,-⟩,h2⟩,h3⟩
  refine ⟨⟨⟨⟨by omega,?_⟩,by omega⟩,h2⟩,h3⟩
  apply Classical.byContradiction;intro hn
  rcases Nat.lt_trichotomy i j with c | c | c
  ·omega
  ·subst c;omega
  ·have:=w.up j i c hi h3.symm (by rw [← h3];exact h2);omega
 ·rintro ⟨⟨⟨⟨-,h1⟩,-⟩,h2⟩,h3⟩
  have:=w.up i j (by omega) hj h3 h2
  exact ⟨⟨⟨⟨by omega,by omega⟩,by omega⟩,h2⟩,h3⟩
theorem next_s (w:Relist g h s t) {a b:Nat} (ha:a<g.n) (hb:b<g.n) (hn:g.isNext (a:Int) (b:Int)=true):h.isNext (s a:Int) (s b:Int)=true:=by
 unfold Gr.isNext at hn ⊢
 rw [w.before_s ha hb]
 rw [Bool.and_eq_true,List.all_eq_true] at hn ⊢
 obtain ⟨h1,h2⟩:=hn
 refine ⟨h1,fun k hk=>?_⟩
 simp only [Int.toNat_natCast,List.mem_range'_1] at hk h2 ⊢
 have hbn:=w.iso.ls b hb
 have hkn:k<g.n:=by omega
 rw [w.back hkn,w.ev a ha]
 have htk:=w.iso.lt k hkn
 simp only [Bool.not_eq_true',beq_eq_false_iff_ne]
 intro hth
 have hba:=h1
 unfold Gr.before at hba
 simp only [Bool.and_eq_true,decide_eq_true_eq,beq_iff_eq,Int.toNat_natCast] at hba
 obtain ⟨⟨⟨⟨-,b1⟩,-⟩,b2⟩,b3⟩:=hba
 have k1:a<t k:=by
  rcases Nat.lt_trichotomy a (t k) with c | c | c
  ·exact c
  ·have:=w.iso.st k hkn;rw [← c] at this;omega
  ·have:=w.up (t k) a c ha hth (by rw [hth];exact b2)
   rw [w.iso.st k hkn] at this;omega
 have k2:t k<b:=by
  rcases Nat.lt_trichotomy (t k) b with c | c | c
  ·exact c
  ·have:=w.iso.st k hkn;rw [c] at this;omega
  ·have:=w.up b (t k) c htk (by rw [← b3,hth]) (by rw [← b3];exact b2)
   rw [w.iso.st k hkn] at this;omega
 have:=h2 (t k) (by omega)
 simp only [Bool.not_eq_true',beq_eq_false_iff_ne] at this
 exact this hth
theorem writes (w:Relist g h s t) (c:Int):h.writesOf c=g.writesOf c:=by
 rw [writesOf_range,writesOf_range,w.n]
 have inj:∀ (l:List Nat) (f:Nat→Nat) (f':Nat→Nat),l.Nodup→(∀ k∈l,f' (f k)=k)→(l.map fun k=>((f k:Nat):Int)).Nodup:=fun l f f' hn hf=>by
  rw [List.nodup_iff_pairwise_ne] at hn ⊢
  rw [List.pairwise_map]
  refine hn.imp_of_mem fun {a b} ha hb hab h=>hab ?_
  have h:f a=f b:=by omega
  rw [← hf a ha,← hf b hb,h]
 have nd:∀ p:Nat→Bool,((List.range g.n).filter p).Nodup:=fun p=>List.nodup_range.filter _
 apply Nat.le_antisymm
 ·have:=nodup_le (l:=((List.range g.n).filter fun i=>(h.ev i).kind==2&&(h.ev i).loc==c).map fun k=>((t k:Nat):Int)) (m:=((List.range g.n).filter fun i=>(g.ev i).kind==2&&(g.ev i).loc==c).map fun (k:Nat)=>(k:Int)) (inj _ t s (nd _) fun k hk=>w.iso.st k (List.mem_range.1 (List.mem_filter.1 hk).1)) fun x hx=>by
   obtain ⟨k,hk,rfl⟩:=List.mem_map.1 hx
   obtain ⟨k1,k2⟩:=List.mem_filter.1 hk
   have k1:=List.mem_range.1 k1
   rw [w.back k1] at k2
   exact List.mem_map.2 ⟨t k,List.mem_filter.2 ⟨List.mem_range.2 (w.iso.lt k k1),k2⟩,rfl⟩
  simpa using this
 ·have:=nodup_le (l:=((List.range g.n).filter fun i=>(g.ev i).kind==2&&(g.ev i).loc==c).map fun k=>((s k:Nat):Int)) (m:=((List.range g.n).filter fun i=>(h.ev i).kind==2&&(h.ev i).loc==c).map fun (k:Nat)=>(k:Int)) (inj _ s t (nd _) fun k hk=>w.iso.ts k (List.mem_range.1 (List.mem_filter.1 hk).1)) fun x hx=>by
   obtain ⟨k,hk,rfl⟩:=List.mem_map.1 hx
   obtain ⟨k1,k2⟩:=List.mem_filter.1 hk
   have k1:=List.mem_range.1 k1
   rw [← w.ev k k1] at k2
   exact List.mem_map.2 ⟨s k,List.mem_filter.2 ⟨List.mem_range.2 (w.iso.ls k k1),k2⟩,rfl⟩
  simpa using this
theorem rf_nat (hg:(g.check false).1=0) {p:Int×Int} (hp:p∈g.rf):∃ a b:Nat,p=((a:Int),(b:Int))∧a<g.n∧b<g.n:=by
 obtain ⟨a,b,e,h1,h2,-⟩:=rf_pair hg hp
 exact ⟨a,b,e,h1,h2⟩
theorem rmw_nat (hg:(g.check false).1=0) {p:Int×Int} (hp:p∈g.rmw):∃ a b:Nat,p=((a:Int),(b:Int))∧a<g.n∧b<g.n:=by
 obtain ⟨-,-,-,-,-,h6,-⟩:=check_iff.1 hg
 obtain ⟨b1,b2,b3⟩:=before_lt (rmw_before h6 hp)
 exact ⟨p.1.toNat,p.2.toNat,Prod.ext (by dsimp only;omega) (by dsimp only;omega),by omega,by omega⟩
theorem mem_map_iff (w:Relist g h s t) {L:List (Int×Int)} (hL:∀ p∈L,∃ a b:Nat,p=((a:Int),(b:Int))∧a<g.n∧b<g.n) {a b:Nat} (ha:a<g.n) (hb:b<g.n):((s a:Int),(s b:Int))∈L.map (mapP s)↔((a:Int),(b:Int))∈L:=by
 constructor
 ·intro h1
  obtain ⟨p,hp,e⟩:=List.mem_map.1 h1
  obtain ⟨x,y,rfl,hx,hy⟩:=hL p hp
  unfold mapP at e
  simp only [Int.toNat_natCast,Prod.mk.injEq] at e
  have e1:s x=s a:=by omega
  have e2:s y=s b:=by omega
  have e3:x=a:=by rw [← w.iso.ts x hx,← w.iso.ts a ha,e1]
  have e4:y=b:=by rw [← w.iso.ts y hy,← w.iso.ts b hb,e2]
  subst e3;subst e4;exact hp
 ·intro h1
  exact List.mem_map.2 ⟨_,h1,by unfold mapP;simp⟩
theorem ofM_same (w:Relist g h s t) {L' L:List (Int×Int)} (hL:∀ p∈L,∃ a b:Nat,p=((a:Int),(b:Int))∧a<g.n∧b<g.n) (hp:∀ x,x∈L'↔x∈L.map (mapP s)):SameR g.n s (ofM h.n L') (ofM g.n L):=fun i j hi hj=>by
 rw [w.n,Bool.eq_iff_iff,ofM_mem (w.iso.ls i hi) (w.iso.ls j hj),ofM_mem hi hj,hp]
 exact w.mem_map_iff hL hi hj
theorem co_nat' (hg:(g.check false).1=0) {l:List Int} (hl:l∈g.co) {x:Int} (hx:x∈l):0≤x∧x.toNat<g.n:=by
 have hgd:=good_false hg
 obtain ⟨c,hc⟩:=List.mem_iff_getElem?.1 hl
 have hcl:=(List.getElem?_eq_some_iff.1 hc).1
 have hd:g.co.getD c []=l:=by simp [hc]
 obtain ⟨-,h2,-⟩:=co_list hgd hcl
 rw [hd] at h2
 obtain ⟨l1,l2,-⟩:=is_lt (h2 x hx).1
 exact ⟨l1,by omega⟩
theorem coPairs_s (w:Relist g h s t) (hg:(g.check false).1=0):coPairs h=(coPairs g).map (mapP s):=by
 unfold coPairs
 rw [w.co,List.flatMap_map,List.map_flatMap]
 congr 1
 funext l
 rw [lpairs_map];rfl
theorem coPairs_nat (hg:(g.check false).1=0) {p:Int×Int} (hp:p∈coPairs g):∃ a b:Nat,p=((a:Int),(b:Int))∧a<g.n∧b<g.n:=by
 unfold coPairs at hp
 obtain ⟨l,hl,hp⟩:=List.mem_flatMap.1 hp
 obtain ⟨x,y⟩:=p
 obtain ⟨m1,m2⟩:=lpairs_mem hp
 obtain ⟨a1,a2⟩:=co_nat' hg hl m1
 obtain ⟨b1,b2⟩:=co_nat' hg hl m2
 exact ⟨x.toNat,y.toNat,Prod.ext (by dsimp only;omega) (by dsimp only;omega),a2,b2⟩
theorem giso (w:Relist g h s t) (hg:(g.check false).1=0):GIso g h s t:=by
 refine ⟨w.n,w.iso,fun i j hi hj=>w.before_s hi hj,w.ofM_same (fun p hp=>rf_nat hg hp) fun x=>w.rf.mem_iff,w.ofM_same (fun p hp=>coPairs_nat hg hp) fun x=>by rw [w.coPairs_s hg],w.ofM_same (fun p hp=>rmw_nat hg hp) fun x=>w.rmw.mem_iff,fun i j hi hj=>?_,fun i hi=>by rw [w.ev i hi],fun i hi=>by rw [w.ev i hi],fun p=>?_,fun p hp=>rmw_nat hg hp⟩
 ·show h.sameM (s i) (s j)=g.sameM i j
  unfold Gr.sameM;rw [w.ev i hi,w.ev j hj]
 ·rw [w.rmw.mem_iff]
  constructor
  ·intro hp
   obtain ⟨p',hp',rfl⟩:=List.mem_map.1 hp
   obtain ⟨a,b,rfl,ha,hb⟩:=rmw_nat hg hp'
   exact ⟨a,b,ha,hb,hp',by unfold mapP;simp⟩
  ·rintro ⟨a,b,ha,hb,hm,rfl⟩
   exact List.mem_map.2 ⟨_,hm,by unfold mapP;simp⟩
theorem good (w:Relist g h s t) (hg:(g.check false).1=0):(h.check false).1=0:=by
 have hgd:=good_false hg
 obtain ⟨h1,h2,h3,h4,h5,h6,h7,h8,h9⟩:=check_iff.1 hg
 have hs:=h1
 simp only [Gr.size,Bool.and_eq_true,decide_eq_true_eq] at hs
 have fixed:∀ c:Nat,(c:Int)<g.cells→h.ev c=g.ev c:=fun c hc=>by
  have:=w.fix c hc (by omega)
  have h:=w.ev c (by omega)
  rw [this] at h;exact h
 have tcell:∀ k,k<g.n→g.cells≤(k:Int)→g.cells≤(t k:Int):=fun k hk hc=>by
  apply Classical.byContradiction;intro hn
  have:=w.fix (t k) (by omega) (w.iso.lt k hk)
  rw [w.iso.st k hk] at this;omega
 refine check_iff.2 ⟨?_,?_,?_,?_,?_,?_,?_,?_,?_⟩
 ·unfold Gr.size at h1 ⊢;rw [w.cells,w.n];exact h1
 ·unfold Gr.initAt at h2 ⊢
  refine firstEv_all _ _ fun c hc hc'=>?_
  rw [w.cells] at hc'
  have:=firstEv_neg _ _ h2 c hc hc'
  rw [fixed c (by omega)];exact this
 ·unfold Gr.evAt at h3 ⊢
  refine firstEv_all _ _ fun k hk hk'=>?_
  rw [w.cells] at hk hk'
  rw [w.n] at hk'
  have hkn:k<g.n:=by omega
  have:=tcell k hkn (by omega)
  have htk:=w.iso.lt k hkn
  have:=firstEv_neg _ _ h3 (t k) (by omega) (by omega)
  rw [w.back hkn]
  unfold Gr.evOk at this ⊢
  rw [w.cells];exact this
 ·obtain ⟨k1,k2⟩:=rf_iff.1 h4
  refine rf_iff.2 ⟨strict_ext (by rw [List.pairwise_map];exact w.rfs) reads_sorted fun x=>?_,fun p hp=>?_⟩
  ·rw [reads_mem,List.mem_map]
   constructor
   ·rintro ⟨p,hp,rfl⟩
    obtain ⟨p',hp',rfl⟩:=List.mem_map.1 (w.rf.mem_iff.1 hp)
    obtain ⟨a,b,e,ha,hb,-,hk,-⟩:=rf_pair hg hp'
    subst e
    exact ⟨s b,by rw [w.n];exact w.iso.ls b hb,by rw [w.ev b hb];exact hk,by unfold mapP;simp⟩
   ·rintro ⟨i,hi,hk,rfl⟩
    rw [w.n] at hi
    rw [w.back hi] at hk
    have hm:((t i:Nat):Int)∈g.rf.map (·.2):=by rw [k1];exact reads_mem.2 ⟨t i,w.iso.lt i hi,hk,rfl⟩
    obtain ⟨p,hp,e⟩:=List.mem_map.1 hm
    refine ⟨mapP s p,w.rf.mem_iff.2 (List.mem_map.2 ⟨p,hp,rfl⟩),?_⟩
    have e:p.2=((t i:Nat):Int):=e
    unfold mapP
    rw [e,Int.toNat_natCast,w.iso.st i hi]
  ·obtain ⟨p',hp',rfl⟩:=List.mem_map.1 (w.rf.mem_iff.1 hp)
   have hok:=k2 p' hp'
   obtain ⟨a,b,rfl,ha,hb⟩:=rf_nat hg hp'
   unfold rfOk at hok ⊢
   unfold mapP
   simp only [Int.toNat_natCast] at hok ⊢
   rw [w.is_s ha,w.ev a ha,w.ev b hb];exact hok
 ·obtain ⟨k1,k2⟩:=co_iff.1 h5
  have hcl:h.co.length=g.co.length:=by rw [w.co,List.length_map]
  refine co_iff.2 ⟨by rw [hcl,w.cells];exact k1,fun c hc=>?_⟩
  rw [hcl] at hc
  have hb:=k2 c hc
  have hl:g.co[c]?=some (g.co.getD c []):=by simp [hc]
  have hl':h.co.getD c []=(g.co.getD c []).map fun x=>(s x.toNat:Int):=by rw [w.co];simp [hc]
  have hmem:=List.mem_of_getElem? hl
  rw [hl']
  generalize g.co.getD c []=l at hb hmem
  unfold Gr.coBad at hb ⊢
  simp only [Bool.or_eq_false_iff,Bool.not_eq_false',beq_iff_eq,List.all_eq_true,Bool.and_eq_true,decide_eq_true_eq] at hb ⊢
  obtain ⟨⟨⟨b1,b2⟩,b3⟩,b4⟩:=hb
  have hnat:∀ x∈l,0≤x∧x.toNat<g.n:=fun x hx=>co_nat' hg hmem hx
  refine ⟨⟨⟨?_,by rw [List.length_map,w.writes];exact b2⟩,fun y hy=>?_⟩,?_⟩
  ·rw [List.head?_map,b1]
   simp only [Option.map_some,Int.toNat_natCast]
   rw [w.fix c (by omega) (by omega)]
  ·obtain ⟨x,hx,rfl⟩:=List.mem_map.1 hy
   obtain ⟨x1,x2⟩:=hnat x hx
   obtain ⟨y1,y2⟩:=b3 x hx
   obtain ⟨x',rfl⟩:=Int.eq_ofNat_of_zero_le x1
   simp only [Int.toNat_natCast] at x2 y2 ⊢
   rw [w.is_s x2,w.ev x' x2];exact ⟨y1,y2⟩
  ·rw [List.nodup_iff_pairwise_ne] at b4 ⊢
   rw [List.pairwise_map]
   refine b4.imp_of_mem fun {a b} ha hb hab e=>hab ?_
   obtain ⟨a1,a2⟩:=hnat a ha
   obtain ⟨b1,b2⟩:=hnat b hb
   have e1:s a.toNat=s b.toNat:=by omega
   have e2:a.toNat=b.toNat:=by rw [← w.iso.ts _ a2,← w.iso.ts _ b2,e1]
   omega
 ·obtain ⟨k1,k2⟩:=rmw_iff.1 h6
  refine rmw_iff.2 ⟨w.rmws,fun p hp=>?_⟩
  obtain ⟨p',hp',rfl⟩:=List.mem_map.1 (w.rmw.mem_iff.1 hp)
  have hok:=k2 p' hp'
  obtain ⟨a,b,rfl,ha,hb⟩:=rmw_nat hg hp'
  unfold rmwOk at hok ⊢
  unfold mapP
  simp only [Int.toNat_natCast,Bool.and_eq_true] at hok ⊢
  rw [w.is_s ha,w.is_s hb,w.ev a ha,w.ev b hb]
  exact ⟨⟨hok.1.1,w.next_s ha hb hok.1.2⟩,hok.2⟩
 ·rw [w.addr];exact dep_src.2 rfl
 ·rw [w.data];exact dep_src.2 rfl
 ·rw [w.ctrl];exact dep_src.2 rfl
theorem verdict (w:Relist g h s t) (hg:(g.check false).1=0):(rcAx h).1=(rcAx g).1:=(w.giso hg).verdict
end Relist
end Go.Proofs.Tst
