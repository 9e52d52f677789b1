/-
  Contracts of functions that the law reaches: what each returns and what it leaves in memory. Conditions stand in each.
-/
import Derived.Test.YtmcghihgeibgpaaDoorT2
set_option linter.all false
set_option maxRecDepth 2000
namespace Go.Proofs.Tst
open Go Go.Vc
set_option maxHeartbeats 1600000 in
theorem order_Glue {n:Nat} {M:Nat→Nat→Bool} {rv lv:Value} {l:List (Int×Int)} {lo hi:Nat} {h:Heap} (hr:ProgAt h lo hi rv n M) (ht:TabAt h) (hl:Rd 2 h lv l.length (pairsV l)) (hb:l.length≤4611686018427387904) :
  Con Tryd.prog 57 #[rv,lv] h fun v h'=>Fr 0 0 h h'∧ResL h' h.size v (glueS n M l):=by
 refine con_q51 ?_
 have hn:=hr.1
 obtain ⟨la,lc,rfl⟩:=hl.is
 have p0:Fr 0 0 h h:=.refl _ _ _
 simp -dsimp only [go_sem]
 refine call_of (rel_Len hr) ?_
 rintro v h1 ⟨rfl,rfl⟩
 simp -dsimp only [go_sem]
 refine Chk_intro (by omega) ?_
 intro bo h2 n2
 have n2_z:=n2.az
 replace p0:=p0.F n2.f0
 have ro:=n2.row
 rw [zeros_one,Int.toNat_natCast,ivec_rep] at ro
 simp -dsimp only [go_sem,ro.cell]
 refine Chk_intro (by omega) ?_
 intro bx h3 n3
 have n3_z:=n3.az
 replace p0:=p0.F n3.f0
 replace ro:=ro.F n3.f0
 have rx:=n3.row
 rw [zeros_one,Int.toNat_natCast,ivec_rep] at rx
 simp -dsimp only [go_sem,ro.cell,rx.cell]
 refine loop_intro (fun i:Nat=>[(0,rv),(1,.slice la l.length lc),(6,.int .i64 n),(7,.slice (some ⟨bo,0,none⟩) n n),(8,.slice (some ⟨bx,0,none⟩) n n),(27,.int .i64 n),(28,.int .i64 i)])
  (fun i h'=>i≤n∧Fr 0 0 h1 h'∧h3.size≤h'.size∧Rw h' bo (ivec n fun p=>if p<i then (p:Int) else 0)∧Rw h' bx (ivec n fun p=>if p<i then -1 else 0)) (fun i=>n - i) 0 ?_ ?_ ?_
 ·simp [Le,find]
 ·exact ⟨by omega,p0,by omega,by simpa using ro,by simpa using rx⟩
 rintro i h4 ⟨hi,p0,y4,ro,rx⟩
 have p0_z:=p0.size
 have ro_l:=ro.lt
 have rx_l:=rx.lt
 simp -dsimp only [go_sem,ro.cell,rx.cell]
 refine ⟨fun hlt=>?_,fun hge=>?_⟩
 ·have hlt:i<n:=by omega
  simp -dsimp only [go_sem,ro.cell,rx.cell]
  refine Chk_intro (by omega) ?_
  simp -dsimp only [go_sem,ro.cell,rx.cell]
  refine Chk_intro (ro.W) fun h5 s5=>?_
  have s5_z:=s5.size
  replace p0:=p0.F s5.fr
  replace rx:=rx.F s5.fr
  replace ro:=s5.row ro
  try simp only [cl_int,cl_bool,cl_slice,cl_ptr,putAt_one,zs0,zs1,ivec_set,brow_upd] at ro
  simp -dsimp only [go_sem,ro.cell,rx.cell]
  refine Chk_intro (by omega) ?_
  simp -dsimp only [go_sem,ro.cell,rx.cell]
  refine Chk_intro (rx.W) fun h6 s6=>?_
  have s6_z:=s6.size
  replace p0:=p0.F s6.fr
  replace ro:=ro.F s6.fr
  replace rx:=s6.row rx
  try simp only [cl_int,cl_bool,cl_slice,cl_ptr,putAt_one,zs0,zs1,ivec_set,brow_upd] at rx
  simp -dsimp only [go_sem,ro.cell,rx.cell]
  simp -dsimp (disch:=omega) only [wrap64]
  refine ⟨i+1,by omega,by simp [Le,find],by omega,p0,by omega,?_,?_⟩
  ·rw [ivec_congr fun p hp=>?_];exact ro
   by_cases h:p=i
   ·subst h;rw [upd_same,if_pos (by omega)]
   ·rw [upd_ne _ _ h];congr 1;simp;omega
  ·rw [ivec_congr fun p hp=>?_];exact rx
   by_cases h:p=i
   ·subst h;rw [upd_same,if_pos (by omega)]
   ·rw [upd_ne _ _ h];congr 1;simp;omega
 obtain rfl:n=i:=by omega
 replace ro:Rw h4 bo (ivec n fun p=>((id p:Nat):Int)):=by rw [ivec_congr fun p hp=>?_];exact ro;simp [hp]
 replace rx:Rw h4 bx (ivec n fun _=>-1):=by rw [ivec_congr fun p hp=>?_];exact rx;simp [hp]
 have a3:=p0.size
 simp -dsimp only [go_sem,ro.cell,rx.cell]
 refine Chk_intro (by omega) ?_
 intro bu h5 n5
 have n5_z:=n5.az
 replace p0:=p0.F n5.f0
 replace ro:=ro.F n5.f0
 replace rx:=rx.F n5.f0
 have ru:=n5.row
 rw [zeros_one,Int.toNat_natCast,brow_false] at ru
 simp -dsimp only [go_sem,ro.cell,rx.cell,ru.cell]
 refine loop_intro (fun i:Nat=>[(0,rv),(6,.int .i64 n),(7,.slice (some ⟨bo,0,none⟩) n n),(8,.slice (some ⟨bx,0,none⟩) n n),(10,.slice (some ⟨bu,0,none⟩) n n),(41,.slice la l.length lc),(42,.int .i64 l.length),(43,.int .i64 i)])
  (fun i h'=>i≤l.length∧Fr 0 0 h1 h'∧h5.size≤h'.size∧∃ (U:Nat→Bool) (F:Nat→Nat) (S:Nat→Int),Rw h' bo (ivec n fun p=>(F p:Int))∧Rw h' bx (ivec n S)∧Rw h' bu (brow n U)∧GluI n U F S∧glueIn n (l.drop i) U F S=glueFS n l) (fun i=>l.length - i) 0 ?_ ?_ ?_
 ·simp [Le,find]
 ·exact ⟨by omega,p0,by omega,_,_,_,ro,rx,ru,.start n,rfl⟩
 rintro i h6 ⟨hi,p0,y6,U,F,S,ro,rx,ru,hG,hgl⟩
 have p0_z:=p0.size
 have ro_l:=ro.lt
 have rx_l:=rx.lt
 have ru_l:=ru.lt
 simp -dsimp only [go_sem,ro.cell,rx.cell,ru.cell]
 refine ⟨fun hlt=>?_,fun hge=>?_⟩
 ·have hlt:i<l.length:=by omega
  have hp:l[i]?=some l[i]:=by simp [hlt]
  rw [List.drop_eq_getElem_cons hlt] at hgl
  generalize l[i]=p at hp hgl
  obtain ⟨a,b⟩:=p
  have bad:badP n U (a,b)→glueFS n l=none:=fun hb=>by rw [← hgl];simp [glueIn,hb]
  have fin:glueFS n l=none→glueS n M l=.error 1:=fun hb=>by simp [glueS,hb]
  simp -dsimp only [go_sem,ro.cell,rx.cell,ru.cell]
  refine Chk_intro (by omega) ((hl.fr p0).pair hp fun b7 o7 c1 c2=>?_)
  simp -dsimp only [go_sem,c1,c2,ro.cell,rx.cell,ru.cell]
  intro b8 h8 n8
  have n8_z:=n8.az
  replace p0:=p0.F n8.f0
  replace ro:=ro.F n8.f0
  replace rx:=rx.F n8.f0
  replace ru:=ru.F n8.f0
  have r8:=n8.row
  simp -dsimp only [go_sem,ro.cell,rx.cell,ru.cell,r8.cell]
  refine Chk_intro (r8.W) fun h9 s9=>?_
  have s9_z:=s9.size
  replace p0:=p0.F s9.fr
  replace ro:=ro.F s9.fr
  replace rx:=rx.F s9.fr
  replace ru:=ru.F s9.fr
  replace r8:=s9.row r8
  try simp only [cl_int,cl_bool,cl_slice,cl_ptr,putAt_one,zs0,zs1,ivec_set,brow_upd] at r8
  simp -dsimp only [go_sem] at r8
  by_cases g1:a<0
  ·simp -dsimp only [go_sem,g1,decide_true,ro.cell,rx.cell,ru.cell,r8.cell]
   exact ⟨p0,by rw [fin (bad (.inl g1))];rfl⟩
  by_cases g2:a≥(n:Int)
  ·simp -dsimp only [go_sem,g1,g2,decide_true,decide_false,ro.cell,rx.cell,ru.cell,r8.cell]
   exact ⟨p0,by rw [fin (bad (.inr (.inl g2)))];rfl⟩
  by_cases g3:b<0
  ·simp -dsimp only [go_sem,g1,g2,g3,decide_true,decide_false,ro.cell,rx.cell,ru.cell,r8.cell]
   exact ⟨p0,by rw [fin (bad (.inr (.inr (.inl g3))))];rfl⟩
  by_cases g4:b≥(n:Int)
  ·simp -dsimp only [go_sem,g1,g2,g3,g4,decide_true,decide_false,ro.cell,rx.cell,ru.cell,r8.cell]
   exact ⟨p0,by rw [fin (bad (.inr (.inr (.inr (.inl g4)))))];rfl⟩
  obtain ⟨x,rfl⟩:∃ x:Nat,a=x:=⟨a.toNat,by omega⟩
  obtain ⟨y,rfl⟩:∃ y:Nat,b=y:=⟨b.toNat,by omega⟩
  have hx:x<n:=by omega
  have hy:y<n:=by omega
  by_cases g5:x=y
  ·subst g5
   simp -dsimp only [go_sem,g1,g2,g3,g4,decide_true,decide_false,beq_self_eq_true,ro.cell,rx.cell,ru.cell,r8.cell]
   exact ⟨p0,by rw [fin (bad (.inr (.inr (.inr (.inr (.inl rfl))))))];rfl⟩
  have g5':((x:Int)==(y:Int))=false:=by simp;omega
  simp -dsimp only [go_sem,g1,g2,g3,g4,g5',decide_true,decide_false,decide_eq_false,ro.cell,rx.cell,ru.cell,r8.cell]
  refine Chk_intro (by omega) ?_
  simp -dsimp only [go_sem,brow_get hx,ro.cell,rx.cell,ru.cell,r8.cell]
  by_cases g6:U x=true
  ·simp -dsimp only [go_sem,g6,g1,g2,g3,g4,g5',decide_true,decide_false,ro.cell,rx.cell,ru.cell,r8.cell]
   exact ⟨p0,by rw [fin (bad (.inr (.inr (.inr (.inr (.inr (.inl (by simpa using g6))))))))];rfl⟩
  replace g6:U x=false:=Bool.eq_false_iff.2 g6
  simp -dsimp only [go_sem,g6,g1,g2,g3,g4,g5',decide_true,decide_false,ro.cell,rx.cell,ru.cell,r8.cell]
  refine Chk_intro (by omega) ?_
  simp -dsimp only [go_sem,brow_get hy,g6,ro.cell,rx.cell,ru.cell,r8.cell]
  by_cases g7:U y=true
  ·simp -dsimp only [go_sem,g7,g1,g2,g3,g4,g5',decide_true,decide_false,ro.cell,rx.cell,ru.cell,r8.cell]
   exact ⟨p0,by rw [fin (bad (.inr (.inr (.inr (.inr (.inr (.inr (by simpa using g7))))))))];rfl⟩
  replace g7:U y=false:=Bool.eq_false_iff.2 g7
  simp -dsimp only [go_sem,g7,g6,ro.cell,rx.cell,ru.cell,r8.cell]
  have nb:¬ badP n U ((x:Int),(y:Int)):=by
   simp [badP,g6,g7];omega
  refine Chk_intro (by omega) ?_
  simp -dsimp only [go_sem,ro.cell,rx.cell,ru.cell,r8.cell]
  refine Chk_intro (ru.W) fun h10 s10=>?_
  have s10_z:=s10.size
  replace p0:=p0.F s10.fr
  replace ro:=ro.F s10.fr
  replace rx:=rx.F s10.fr
  replace r8:=r8.F s10.fr
  replace ru:=s10.row ru
  try simp only [cl_int,cl_bool,cl_slice,cl_ptr,putAt_one,zs0,zs1,ivec_set,brow_upd] at ru
  simp -dsimp only [go_sem,ro.cell,rx.cell,ru.cell,r8.cell]
  refine Chk_intro (by omega) ?_
  simp -dsimp only [go_sem,ro.cell,rx.cell,ru.cell,r8.cell]
  refine Chk_intro (ru.W) fun h11 s11=>?_
  have s11_z:=s11.size
  replace p0:=p0.F s11.fr
  replace ro:=ro.F s11.fr
  replace rx:=rx.F s11.fr
  replace r8:=r8.F s11.fr
  replace ru:=s11.row ru
  try simp only [cl_int,cl_bool,cl_slice,cl_ptr,putAt_one,zs0,zs1,ivec_set,brow_upd] at ru
  simp -dsimp only [go_sem,ro.cell,rx.cell,ru.cell,r8.cell]
  refine Chk_intro (by omega) ?_
  simp -dsimp only [go_sem,ro.cell,rx.cell,ru.cell,r8.cell]
  refine Chk_intro (ro.W) fun h12 s12=>?_
  have s12_z:=s12.size
  replace p0:=p0.F s12.fr
  replace rx:=rx.F s12.fr
  replace ru:=ru.F s12.fr
  replace r8:=r8.F s12.fr
  replace ro:=s12.row ro
  try simp only [cl_int,cl_bool,cl_slice,cl_ptr,putAt_one,zs0,zs1,ivec_set,brow_upd] at ro
  simp -dsimp only [go_sem,ro.cell,rx.cell,ru.cell,r8.cell]
  refine Chk_intro (by omega) ?_
  simp -dsimp only [go_sem,ro.cell,rx.cell,ru.cell,r8.cell]
  refine Chk_intro (rx.W) fun h13 s13=>?_
  have s13_z:=s13.size
  replace p0:=p0.F s13.fr
  replace ro:=ro.F s13.fr
  replace ru:=ru.F s13.fr
  replace r8:=r8.F s13.fr
  replace rx:=s13.row rx
  try simp only [cl_int,cl_bool,cl_slice,cl_ptr,putAt_one,zs0,zs1,ivec_set,brow_upd] at rx
  simp -dsimp only [go_sem,ro.cell,rx.cell,ru.cell,r8.cell]
  simp -dsimp (disch:=omega) only [wrap64]
  simp only [glueIn,if_neg nb,Int.toNat_natCast] at hgl
  refine ⟨i+1,by omega,by simp [Le,find],by omega,p0,by omega,upd (upd U x true) y true,upd F y x,upd S x (y:Int),?_,rx,ru,hG.step hx hy g5 g6 g7,hgl⟩
  rw [ivec_congr fun p hp=>?_];exact ro
  unfold upd;split <;> rfl
 have hil:i=l.length:=by omega
 subst hil
 rw [List.drop_length] at hgl
 simp only [glueIn] at hgl
 have y1:=p0.size
 simp -dsimp only [go_sem,ro.cell,rx.cell,ru.cell]
 refine call_of (rel_New n h6) ?_
 rintro v7 h7 ⟨f7,t7⟩
 have f7_z:=f7.size
 replace p0:=p0.F f7
 replace ro:=ro.F f7
 replace rx:=rx.F f7
 replace ru:=ru.F f7
 have hcl:clampN n=n:=by unfold clampN;omega
 rw [hcl] at t7
 simp -dsimp only [go_sem,ro.cell,rx.cell,ru.cell]
 refine call_of (rel_Pairs (hr.fr p0 (by omega)) (ht.fr p0 (by omega))) ?_
 rintro v h8 ⟨f8,o8⟩
 have f8_z:=f8.size
 replace p0:=p0.F f8
 replace ro:=ro.F f8
 replace rx:=rx.F f8
 replace ru:=ru.F f8
 replace t7:=t7.fr f8 (by omega)
 obtain ⟨pa,pc,rfl⟩:=o8.is
 have g3:n * n≤256 * 256:=Nat.mul_le_mul (by omega) (by omega)
 have g4:(pairsOf n M).length≤n * n:=length_pairsTo_le n M n
 simp -dsimp only [go_sem,ro.cell,rx.cell,ru.cell]
 refine loop_intro (fun j:Nat=>[(6,.int .i64 n),(7,.slice (some ⟨bo,0,none⟩) n n),(8,.slice (some ⟨bx,0,none⟩) n n),(13,v7),(112,.slice pa (pairsOf n M).length pc),(113,.int .i64 (pairsOf n M).length),(114,.int .i64 j)])
  (fun j h'=>j≤(pairsOf n M).length∧Fr 0 0 h1 h'∧h8.size≤h'.size∧Rw h' bo (ivec n fun p=>(F p:Int))∧Rw h' bx (ivec n S)∧Holder 2 h' (.slice pa (pairsOf n M).length pc) (pairsOf n M).length (pairsV (pairsOf n M)) h7.size ∧
   ∃ N,ProgAt h' h6.size h7.size v7 n N∧∀ x y,N x y=true↔∃ p:Nat×Nat,((p.1:Int),(p.2:Int))∈(pairsOf n M).take j∧S p.1≠(p.2:Int)∧F p.1=x∧F p.2=y) (fun j=>(pairsOf n M).length - j) 0 ?_ ?_ ?_
 ·simp [Le,find]
 ·exact ⟨by omega,p0,by omega,ro,rx,o8,_,t7,by simp⟩
 rintro j h9 ⟨hj,p0,y9,ro,rx,o8,N,t9,hN⟩
 have p0_z:=p0.size
 have ro_l:=ro.lt
 have rx_l:=rx.lt
 have o8_l:=o8.top
 simp -dsimp only [go_sem,ro.cell,rx.cell]
 refine ⟨fun hlt=>?_,fun hge=>?_⟩
 ·have hlt:j<(pairsOf n M).length:=by omega
  have hq:(pairsOf n M)[j]?=some (pairsOf n M)[j]:=by simp
  have htk:(pairsOf n M).take (j+1)=(pairsOf n M).take j++[(pairsOf n M)[j]]:=by rw [List.take_succ_eq_append_getElem hlt]
  have hmem:(pairsOf n M)[j]∈pairsOf n M:=List.getElem_mem _
  generalize (pairsOf n M)[j]=q at hq htk hmem
  obtain ⟨a,b,ha,hb',hm,rfl⟩:=mem_pairsOf.1 hmem
  simp -dsimp only [go_sem,ro.cell,rx.cell]
  refine Chk_intro (by omega) (o8.rd.pair hq fun b6 o6 c6 c7=>?_)
  simp -dsimp only [go_sem,c6,c7,ro.cell,rx.cell]
  intro b10 h10 n10
  have n10_z:=n10.az
  replace p0:=p0.F n10.f0
  replace ro:=ro.F n10.f0
  replace rx:=rx.F n10.f0
  replace o8:=o8.fr n10.f0 (by have:=o8.at_;omega)
  replace t9:=t9.fr n10.f0 (by omega)
  have r10:=n10.row
  simp -dsimp only [go_sem,ro.cell,rx.cell,r10.cell]
  refine Chk_intro (r10.W) fun h11 s11=>?_
  have s11_z:=s11.size
  replace p0:=p0.F s11.fr
  replace ro:=ro.F s11.fr
  replace rx:=rx.F s11.fr
  replace o8:=o8.fr s11.fr (by have:=o8.at_;omega)
  replace t9:=t9.fr s11.fr (by omega)
  replace r10:=s11.row r10
  try simp only [cl_int,cl_bool,cl_slice,cl_ptr,putAt_one,zs0,zs1,ivec_set,brow_upd] at r10
  simp -dsimp only [go_sem] at r10
  simp -dsimp only [go_sem,ro.cell,rx.cell,r10.cell]
  refine Chk_intro (by omega) ?_
  simp -dsimp only [go_sem,ivec_get ha,ro.cell,rx.cell,r10.cell]
  refine ⟨fun hne=>?_,fun heq=>?_⟩
  ·have hFa:=hG.lt a ha
   have hFb:=hG.lt b hb'
   simp -dsimp only [go_sem,ro.cell,rx.cell,r10.cell]
   refine Chk_intro (by omega) ?_
   simp -dsimp only [go_sem,ivec_get ha,ro.cell,rx.cell,r10.cell]
   refine Chk_intro (by omega) ?_
   simp -dsimp only [go_sem,ivec_get hb',ro.cell,rx.cell,r10.cell]
   refine call_of (rel_Put t9 (F a) (F b) true) ?_
   rintro v12 h12 ⟨f12,z12,rfl,t12⟩
   have f12_z:=f12.size
   replace p0:=p0.F f12
   replace ro:=ro.F f12
   replace rx:=rx.F f12
   replace o8:=o8.fr f12 (by have:=o8.at_;omega)
   replace r10:=r10.F f12
   simp -dsimp only [go_sem,ro.cell,rx.cell,r10.cell]
   simp -dsimp (disch:=omega) only [wrap64]
   refine ⟨j+1,by omega,by simp [Le,find],by omega,p0,by omega,ro,rx,o8,_,t12,fun x y=>?_⟩
   have e:(inR n (F a)&&inR n (F b))=true:=by simp [inR];omega
   simp only [putM,e,Bool.true_and]
   rw [htk]
   by_cases hxy:x=F a∧y=F b
   ·obtain ⟨rfl,rfl⟩:=hxy
    simp only [beq_self_eq_true,Bool.and_self,if_true,true_iff]
    exact ⟨(a,b),by simp,by simpa using hne,rfl,rfl⟩
   ·have:((F a:Int)==(x:Int)&&(F b:Int)==(y:Int))=false:=by
     rw [Bool.eq_false_iff];intro h;apply hxy;simp at h;omega
    rw [this]
    simp only [Bool.false_eq_true,if_false]
    rw [hN]
    refine exists_congr fun p=>?_
    simp only [List.mem_append,List.mem_singleton,Prod.mk.injEq]
    constructor
    ·rintro ⟨h1,h2⟩;exact ⟨.inl h1,h2⟩
    ·rintro ⟨h1 | ⟨h1,h1'⟩,h2,h3,h4⟩
     ·exact ⟨h1,h2,h3,h4⟩
     ·have e1:p.1=a:=by omega
      have e2:p.2=b:=by omega
      rw [e1] at h3;rw [e2] at h4
      exact absurd ⟨h3.symm,h4.symm⟩ hxy
  ·simp -dsimp only [go_sem,ro.cell,rx.cell,r10.cell]
   simp -dsimp (disch:=omega) only [wrap64]
   refine ⟨j+1,by omega,by simp [Le,find],by omega,p0,by omega,ro,rx,o8,N,t9,fun x y=>?_⟩
   rw [htk,hN]
   refine exists_congr fun p=>?_
   simp only [List.mem_append,List.mem_singleton,Prod.mk.injEq]
   constructor
   ·rintro ⟨h1,h2⟩;exact ⟨.inl h1,h2⟩
   ·rintro ⟨h1 | ⟨h1,h1'⟩,h2,h3,h4⟩
    ·exact ⟨h1,h2,h3,h4⟩
    ·have e1:p.1=a:=by omega
     have e2:p.2=b:=by omega
     rw [e1,e2] at h2
     exact absurd h2 (by simpa using heq)
 have hjl:j=(pairsOf n M).length:=by omega
 subst hjl
 rw [List.take_length] at hN
 have t9:=t9.congr (M':=glueM n M F S) fun x y hx hy=>Bool.eq_iff_iff.2 (by
  rw [hN,glueM_true]
  constructor
  ·rintro ⟨⟨p,q⟩,h1,h2,h3,h4⟩
   obtain ⟨a,b,ha,hb,hm,he⟩:=mem_pairsOf.1 h1
   simp only [Prod.mk.injEq] at he
   have e1:p=a:=by omega
   have e2:q=b:=by omega
   subst e1 e2
   exact ⟨p,ha,q,hb,hm,h2,h3,h4⟩
  ·rintro ⟨p,hp,q,hq,hm,h2,h3,h4⟩
   exact ⟨(p,q),mem_pairsOf.2 ⟨p,q,hp,hq,hm,rfl⟩,h2,h3,h4⟩)
 have hS:glueS n M l=orCyc (glueGo n F S (glueM n M F S) n []):=by simp only [glueS,← hgl]
 clear hN
 generalize glueM n M F S=G at hS t9
 simp -dsimp only [go_sem,ro.cell,rx.cell]
 refine call_of (order_chooser t9 (ht.fr p0 (by omega))) ?_
 rintro v h10 ⟨f10,c,rfl,t10⟩
 have f10_z:=f10.size
 replace p0:=p0.F f10
 replace ro:=ro.F f10
 replace rx:=rx.F f10
 replace o8:=o8.fr f10 (by have:=o8.at_;omega)
 replace t9:=t9.fr f10 (by omega)
 have y10:=p0.size
 simp -dsimp only [go_sem,ro.cell,rx.cell]
 refine loop_intro (fun s:Value×Nat=>[(6,.int .i64 n),(7,.slice (some ⟨bo,0,none⟩) n n),(8,.slice (some ⟨bx,0,none⟩) n n),(16,c.next),(17,c.place),(18,s.1)])
  (fun s h'=>Fr 0 0 h1 h'∧h10.size≤h'.size∧Rw h' bo (ivec n fun p=>(F p:Int))∧Rw h' bx (ivec n S)∧∃ m:List Nat,m.length=s.2∧m.length≤n+1∧Chs h' h9.size h10.size c n G m.contains∧Holder 1 h' s.1 m.length (natsV m) h10.size∧(∀ q,q<n→F q≠q→m.contains q=m.contains (F q))∧∃ k,n≤m.length+k∧glueGo n F S G k m=glueGo n F S G n []) (fun s=>n - s.2) (.slice none 0 0,0) ?_ ?_ ?_
 ·simp [Le,find]
 ·exact ⟨p0,by omega,ro,rx,[],rfl,by simp,t10,.none _ _ _,by simp,n,by simp,rfl⟩
 rintro ⟨lv,i⟩ h12 ⟨p0,y12,ro,rx,m,hmi,hmn,t12,ol,hpt,k,hk,hgo⟩
 dsimp only at hmi ol ⊢
 subst hmi
 have p0_z:=p0.size
 have ro_l:=ro.lt
 have rx_l:=rx.lt
 have ol_l:=ol.top
 obtain ⟨va,vc,rfl⟩:=ol.is
 simp -dsimp only [go_sem,ro.cell,rx.cell]
 refine ⟨fun hlt=>?_,fun hge=>?_⟩
 ·have hlt:m.length<n:=by omega
  simp -dsimp only [go_sem,ChB.next,ro.cell,rx.cell]
  refine call_of (chooser_next (q:=0) t12 (by omega)) ?_
  rintro v h13 ⟨rfl,rfl⟩
  simp -dsimp only [go_sem,ro.cell,rx.cell]
  refine loop_intro (fun q:Nat=>[(6,.int .i64 n),(7,.slice (some ⟨bo,0,none⟩) n n),(8,.slice (some ⟨bx,0,none⟩) n n),(16,c.next),(17,c.place),(18,.slice va m.length vc),(19,.int .i64 (nx (lf (freeB n G m.contains) n q)))])
   (fun q h'=>q≤n∧h'=h13∧lf (fun p=>F p==p&&freeB n G m.contains p) n 0=lf (fun p=>F p==p&&freeB n G m.contains p) n q) (fun q=>n - q) 0 ?_ ?_ ?_
  ·simp [Le,find,ChB.next,ChB.place]
  ·exact ⟨by omega,rfl,rfl⟩
  rintro q _ ⟨hq,rfl,hlf⟩
  obtain ⟨hl0,hl1⟩:=lf_and (freeB n G m.contains) (fun p=>F p==p) n (n - q) q rfl
  have step:∀ x,x<n→lf (fun p=>F p==p&&freeB n G m.contains p) n 0=some x→freeB n G m.contains x=true→F x=x→∃ k',k=k' + 1∧glueGo n F S G k' (if S x≥0 then m++[x]++[(S x).toNat] else m++[x])=glueGo n F S G n []:=fun x hxn hx hfx hFx=>by
   obtain ⟨k,rfl⟩:∃ k',k=k' + 1:=⟨k - 1,by omega⟩
   simp only [glueGo,if_neg (show ¬ n≤m.length by omega),hx] at hgo
   exact ⟨k,rfl,hgo⟩
  cases hx:lf (freeB n G m.contains) n q with
  | none =>
   have hx':=hl0 hx
   rw [← hlf] at hx'
   simp -dsimp only [go_sem,hx,ro.cell,rx.cell]
   obtain ⟨k,rfl⟩:∃ k',k=k' + 1:=⟨k - 1,by omega⟩
   simp only [glueGo,if_neg (show ¬ n≤m.length by omega),hx'] at hgo
   exact ⟨p0,by rw [hS,← hgo];rfl⟩
  | some x =>
   obtain ⟨hqx,hxn,hfx⟩:=lf_some hx
   obtain ⟨hl2,hl3⟩:=hl1 x hx
   simp -dsimp only [go_sem,hx,ro.cell,rx.cell]
   refine Chk_intro (by omega) ?_
   simp -dsimp only [go_sem,ivec_get hxn,ro.cell,rx.cell]
   refine ⟨fun hne=>?_,fun heq=>?_⟩
   ·have hF:(F x==x)=false:=by simp at hne ⊢;omega
    simp -dsimp only [go_sem,ro.cell,rx.cell]
    rw [wrap64 (by omega) (by omega)]
    simp -dsimp only [go_sem,ChB.next,ro.cell,rx.cell]
    refine call_of (chooser_next (q:=x+1) t12 (by omega)) ?_
    rintro v h14 ⟨rfl,rfl⟩
    simp -dsimp only [go_sem,ro.cell,rx.cell]
    exact ⟨x+1,by omega,by simp [Le,find,ChB.next,ChB.place],by omega,hlf.trans (hl3 hF)⟩
   ·have hFx:F x=x:=by simp at heq;omega
    obtain ⟨k',hk',hgo'⟩:=step x hxn (hlf.trans (hl2 (by simp [hFx]))) hfx hFx
    have hDx:m.contains x=false:=(freeB_true.1 hfx).1
    simp -dsimp only [go_sem,ChB.place,ro.cell,rx.cell]
    refine call_of (chooser_place t12 hxn true (by simpa using hDx)) ?_
    rintro v h14 ⟨f14,z14,t14⟩
    have f14_z:=f14.size
    replace p0:=p0.F f14
    replace ro:=ro.F f14
    replace rx:=rx.F f14
    replace ol:=ol.fr f14 (by have:=ol.at_;omega)
    simp -dsimp only [go_sem,ro.cell,rx.cell]
    intro b15 h15 n15
    have n15_z:=n15.az
    replace p0:=p0.F n15.f0
    replace ro:=ro.F n15.f0
    replace rx:=rx.F n15.f0
    replace ol:=ol.fr n15.f0 (by have:=ol.at_;omega)
    replace t14:=t14.fr n15.f0 (by omega)
    simp -dsimp only [go_sem,n15.row.cell,ro.cell,rx.cell]
    refine ol.append (by omega) rfl (by omega) (by simp) (by omega) fun v16 h16 o_new f16 e_app=>?_
    have f16_z:=f16.size
    have o_at:=ol.at_
    replace p0:=p0.F f16
    replace ro:=ro.F f16
    replace rx:=rx.F f16
    replace t14:=t14.fr f16 (by omega)
    clear o_at e_app
    replace ol:=o_new
    have ol_l:=ol.top
    simp -dsimp only [go_sem,ro.cell,rx.cell]
    refine Chk_intro (by omega) ?_
    simp -dsimp only [go_sem,ivec_get hxn,ro.cell,rx.cell]
    have e1:(fun k=>if k=x then true else m.contains k)=(m++[x]).contains:=by
     funext j;by_cases hj:j=x <;> simp [hj]
    rw [e1] at t14
    have ol2:Holder 1 h16 v16 (m++[x]).length (natsV (m++[x])) h10.size:=by simpa [natsV] using ol
    have ol2_l:=ol2.top
    have hml:(m++[x]).length=m.length+1:=by simp
    have hpt':=hG.keep hxn hpt hFx
    rcases hG.snd x hxn with hs | ⟨y,hy,hs,hyx,hyF,hxF⟩
    ·rw [hs,if_neg (by decide)] at hgo'
     rw [hs,if_neg (by decide)] at hpt'
     simp -dsimp only [go_sem,hs,ro.cell,rx.cell]
     exact ⟨(v16,(m++[x]).length),by dsimp only;omega,by simp [Le,find,ChB.next,ChB.place],p0,by omega,ro,rx,m++[x],rfl,by omega,t14,ol2,hpt',k',by omega,hgo'⟩
    ·rw [hs,if_pos (by omega),Int.toNat_natCast] at hgo'
     rw [hs,if_pos (by omega),Int.toNat_natCast] at hpt'
     obtain ⟨wa,wc,rfl⟩:=ol2.is
     have hDy:(m++[x]).contains y=false:=by
      have:=hpt y hy (by omega)
      rw [hyF,hDx] at this
      simp only [List.contains_append,this,List.contains_cons,List.contains_nil,Bool.or_false,Bool.false_or,beq_eq_false_iff_ne,ne_eq]
      exact hyx
     simp -dsimp only [go_sem,hs,ChB.place,ro.cell,rx.cell]
     refine call_of (chooser_place t14 hy true (by simpa using hDy)) ?_
     rintro v h17 ⟨f17,z17,t17⟩
     have f17_z:=f17.size
     replace p0:=p0.F f17
     replace ro:=ro.F f17
     replace rx:=rx.F f17
     replace ol2:=ol2.fr f17 (by have:=ol2.at_;omega)
     simp -dsimp only [go_sem,ro.cell,rx.cell]
     intro b18 h18 n18
     have n18_z:=n18.az
     replace p0:=p0.F n18.f0
     replace ro:=ro.F n18.f0
     replace rx:=rx.F n18.f0
     replace ol2:=ol2.fr n18.f0 (by have:=ol2.at_;omega)
     replace t17:=t17.fr n18.f0 (by omega)
     simp -dsimp only [go_sem,n18.row.cell,ro.cell,rx.cell]
     refine ol2.append (by omega) rfl (by omega) (by simp) (by omega) fun v19 h19 o_new f19 e_app=>?_
     have f19_z:=f19.size
     have o_at:=ol2.at_
     replace p0:=p0.F f19
     replace ro:=ro.F f19
     replace rx:=rx.F f19
     replace t17:=t17.fr f19 (by omega)
     clear o_at e_app
     replace ol2:=o_new
     have ol2_l:=ol2.top
     simp -dsimp only [go_sem,ro.cell,rx.cell]
     have e2:(fun k=>if k=y then true else (m++[x]).contains k)=(m++[x]++[y]).contains:=by
      funext j;by_cases hj:j=y <;> simp [hj]
     rw [e2] at t17
     have hml2:(m++[x]++[y]).length=m.length+2:=by simp
     refine ⟨(v19,(m++[x]++[y]).length),by dsimp only;omega,by simp [Le,find,ChB.next,ChB.place],p0,by omega,ro,rx,m++[x]++[y],rfl,by omega,t17,?_,hpt',k',by omega,hgo'⟩
     rw [natsV_append,List.length_append];first | exact ol2 | (rw [hs] at ol2;exact ol2)
 ·simp -dsimp only [go_sem,ro.cell,rx.cell]
  refine ⟨p0,?_⟩
  rw [hS,← hgo,glueGo_end (by omega)]
  exact ⟨_,rfl,ol.lower (by omega)⟩
end Go.Proofs.Tst
/-
  Lists compared, cell by cell.
-/
namespace Go.Proofs.Tst
open Go Go.Vc
theorem c_law21_ints {l m : List Int} {a b : Value} {h : Heap} (hl : Rd 1 h a l.length (intsV l)) (hm : Rd 1 h b m.length (intsV m)) (hb : l.length ≤ 4611686018427387904) :
    Con Tryd.prog 24 #[a, b] h fun v h' => h' = h ∧ v = .bool (decide (l = m)) := by
  refine con_q46 ?_
  obtain ⟨aa, ac, rfl⟩ := hl.is
  obtain ⟨ba, bc, rfl⟩ := hm.is
  simp -dsimp only [go_sem]
  refine ⟨fun hne => ?_, fun heq => ?_⟩
  · simp -dsimp only [go_sem]
    have : l ≠ m := by rintro rfl; simp at hne
    simp [this]
  have heq : l.length = m.length := by have : (l.length : Int) = m.length := by simpa using heq
                                       omega
  simp -dsimp only [go_sem]
  refine loop_intro (fun i : Nat => [(0, .slice aa l.length ac), (1, .slice ba m.length bc), (5, .int .i64 i)])
    (fun i h' => i ≤ l.length ∧ h' = h ∧ ∀ j, j < i → l[j]? = m[j]?) (fun i => l.length - i) 0 ?_ ?_ ?_
  · simp [Le, find]
  · exact ⟨by omega, rfl, fun j hj => by omega⟩
  rintro i _ ⟨hi, rfl, hinv⟩
  simp -dsimp only [go_sem]
  refine ⟨fun hlt => ?_, fun hge => ?_⟩
  · have hlt : i < l.length := by omega
    simp -dsimp only [go_sem]
    refine Chk_intro (by omega) (hl.idx (by omega) fun b1 o1 c1 => ?_)
    simp -dsimp only [go_sem, c1 i _ (intsV_get (List.getElem?_eq_getElem hlt))]
    refine Chk_intro (by omega) (hm.idx (by omega) fun b2 o2 c2 => ?_)
    simp -dsimp only [go_sem, c2 i _ (intsV_get (List.getElem?_eq_getElem (show i < m.length by omega)))]
    refine ⟨fun hne => ?_, fun he => ?_⟩
    · simp -dsimp only [go_sem]
      have : l ≠ m := by rintro rfl; simp at hne
      simp [this]
    · simp -dsimp only [go_sem]
      simp -dsimp (disch := omega) only [wrap64]
      refine ⟨i + 1, by omega, by simp [Le, find], by omega, fun j hj => ?_⟩
      by_cases hji : j = i
      · subst hji
        rw [List.getElem?_eq_getElem hlt, List.getElem?_eq_getElem (show j < m.length by omega)]
        simpa using he
      · exact hinv j (by omega)
  · simp -dsimp only [go_sem]
    have : l = m := List.ext_getElem? fun j => by
      by_cases hj : j < i
      · exact hinv j hj
      · rw [List.getElem?_eq_none (by omega), List.getElem?_eq_none (by omega)]
    simp [this]
theorem c_ref8_pairs {l m : List (Int × Int)} {a b : Value} {h : Heap} (hl : Rd 2 h a l.length (pairsV l)) (hm : Rd 2 h b m.length (pairsV m)) (hb : l.length ≤ 4611686018427387904) :
    Con Tryd.prog 52 #[a, b] h fun v h' => h' = h ∧ v = .bool (decide (l = m)) := by
  refine con_q105 ?_
  obtain ⟨aa, ac, rfl⟩ := hl.is
  obtain ⟨ba, bc, rfl⟩ := hm.is
  simp -dsimp only [go_sem]
  refine ⟨fun hne => ?_, fun heq => ?_⟩
  · simp -dsimp only [go_sem]
    have : l ≠ m := by rintro rfl; simp at hne
    simp [this]
  have heq : l.length = m.length := by have : (l.length : Int) = m.length := by simpa using heq
                                       omega
  simp -dsimp only [go_sem]
  refine loop_intro (fun i : Nat => [(0, .slice aa l.length ac), (1, .slice ba m.length bc), (5, .int .i64 i)])
    (fun i h' => i ≤ l.length ∧ h' = h ∧ ∀ j, j < i → l[j]? = m[j]?) (fun i => l.length - i) 0 ?_ ?_ ?_
  · simp [Le, find]
  · exact ⟨by omega, rfl, fun j hj => by omega⟩
  rintro i _ ⟨hi, rfl, hinv⟩
  simp -dsimp only [go_sem]
  refine ⟨fun hlt => ?_, fun hge => ?_⟩
  · have hlt : i < l.length := by omega
    simp -dsimp only [go_sem]
    refine Chk_intro (by omega) (hl.pair (List.getElem?_eq_getElem hlt) fun b1 o1 c1 d1 => ?_)
    simp -dsimp only [go_sem, c1, d1]
    refine Chk_intro (by omega) (hm.pair (List.getElem?_eq_getElem (show i < m.length by omega)) fun b2 o2 c2 d2 => ?_)
    simp -dsimp only [go_sem, c2, d2]
    refine ⟨fun hne => ?_, fun he => ?_⟩
    · simp -dsimp only [go_sem]
      have : l ≠ m := by rintro rfl; simp at hne
      simp [this]
    · simp -dsimp only [go_sem]
      simp -dsimp (disch := omega) only [wrap64]
      refine ⟨i + 1, by omega, by simp [Le, find], by omega, fun j hj => ?_⟩
      by_cases hji : j = i
      · subst hji
        rw [List.getElem?_eq_getElem hlt, List.getElem?_eq_getElem (show j < m.length by omega)]
        simp at he
        rw [Prod.ext he.1 he.2]
      · exact hinv j (by omega)
  · simp -dsimp only [go_sem]
    have : l = m := List.ext_getElem? fun j => by
      by_cases hj : j < i
      · exact hinv j hj
      · rw [List.getElem?_eq_none (by omega), List.getElem?_eq_none (by omega)]
    simp [this]
end Go.Proofs.Tst
namespace Go.Proofs.Tst
open Go Go.Vc
theorem row_join {w v b b':Nat} {W V:Nat→Nat} {ov:Value} {h:Heap} (hx:Rw h b (wrow w W)) (hy:Rw h b' (wrow v V)) (ho:Rd 1 h ov 1 [.slice (some ⟨b',0,none⟩) v v]) (hW:∀ i,W i<2 ^ 64) (hV:∀ i,V i<2 ^ 64) (hw:w≤1024) (hv:v≤1024) :
  Con Tryd.prog 100 #[.slice (some ⟨b,0,none⟩) w w,ov] h fun _ h'=>Fr b (b+1) h h'∧h'.size=h.size∧Rw h' b (wrow w fun i=>if i<v then W i ||| V i else W i):=by
 refine con_q131 ?_
 obtain ⟨oa,oc,rfl⟩:=ho.is
 simp -dsimp only [go_sem]
 refine loop_intro (fun i:Nat=>[(0,.slice (some ⟨b,0,none⟩) w w),(7,.slice oa 1 oc),(8,.int .i64 1),(9,.int .i64 i)])
  (fun i h'=>(i=0∧h'=h)∨(i=1∧Fr b (b+1) h h'∧h'.size=h.size∧Rw h' b (wrow w fun i=>if i<v then W i ||| V i else W i))) (fun i=>1 - i) 0 ?_ ?_ ?_
 ·simp [Le,find]
 ·exact .inl ⟨rfl,rfl⟩
 rintro i h1 (⟨rfl,rfl⟩ | ⟨rfl,hf,hz,hr⟩)
 ·simp -dsimp only [go_sem]
  refine ⟨fun _=>?_,fun h=>absurd (by omega) h⟩
  simp -dsimp only [go_sem]
  refine Chk_intro (by omega) (ho.idx (by omega) fun b1 o1 c1=>?_)
  have c1:hcell h1 b1 o1=some (.slice (some ⟨b',0,none⟩) v v):=c1 0 _ rfl
  simp -dsimp only [go_sem,c1]
  have hm:(if (v:Int)<(w:Int) then (v:Int) else (w:Int))=((min w v:Nat):Int):=by split <;> omega
  rw [hm]
  refine loop_intro (fun i:Nat=>[(0,.slice (some ⟨b,0,none⟩) w w),(5,.slice (some ⟨b',0,none⟩) v v),(7,.slice oa 1 oc),(8,.int .i64 1),(9,.int .i64 (0:Nat)),(17,.int .i64 (min w v:Nat)),(18,.int .i64 i)])
   (fun i h'=>i≤min w v∧Fr b (b+1) h1 h'∧h'.size=h1.size∧Rw h' b (wrow w fun k=>if k<i then W k ||| V k else W k)) (fun i=>min w v - i) 0 ?_ ?_ ?_
  ·simp [Le,find]
  ·exact ⟨by omega,.refl _ _ _,rfl,by simpa using hx⟩
  rintro i h2 ⟨hi,f2,z2,r2⟩
  simp -dsimp only [go_sem]
  refine ⟨fun hlt=>?_,fun hge=>?_⟩
  ·have hlt:i<min w v:=by omega
   have hy2:hcell h2 b' i=some (.int .u64 (V i:Int)):=by
    by_cases hb:b'=b
    ·subst hb
     obtain ⟨e1,e2⟩:=wrow_inj (hx.inj hy)
     rw [r2.cell,wrow_get (by omega),if_neg (by omega),e2 i (by omega)]
    ·rw [(hy.fr f2 (by omega)).cell,wrow_get (by omega)]
   simp -dsimp only [go_sem]
   refine Chk_intro (by omega) ?_
   simp -dsimp only [go_sem,r2.cell,wrow_get (show i<w by omega)]
   refine Chk_intro (by omega) ?_
   simp -dsimp only [go_sem,hy2,Nat.lt_irrefl]
   rw [or64 (hW i) (hV i)]
   refine Chk_intro (by omega) ?_
   simp -dsimp only [go_sem]
   refine Chk_intro (r2.wr (by simp;omega)) fun h3 s3=>?_
   have r3:=s3.row r2
   have z3:=s3.size
   rw [cl_int,putAt_one,wrow_upd] at r3
   simp -dsimp only [go_sem]
   simp -dsimp (disch:=omega) only [wrap64]
   refine ⟨i+1,by omega,by simp [Le,find],by omega,f2.trans s3.fr,by omega,?_⟩
   rw [wrow_congr fun k hk=>?_];exact r3
   unfold upd
   dsimp only
   by_cases hki:k=i
   ·subst hki;simp
   ·rw [if_neg hki]
    by_cases h1:k<i
    ·rw [if_pos h1,if_pos (by omega)]
    ·rw [if_neg h1,if_neg (by omega)]
  ·have:i=min w v:=by omega
   subst this
   simp -dsimp only [go_sem]
   simp -dsimp (disch:=omega) only [wrap64]
   refine ⟨1,by omega,by simp [Le,find],.inr ⟨rfl,f2,z2,?_⟩⟩
   rw [wrow_congr fun k hk=>?_];exact r2
   by_cases h1:k<v
   ·rw [if_pos h1,if_pos (by omega)]
   ·rw [if_neg h1,if_neg (by omega)]
 ·simp -dsimp only [go_sem]
  refine ⟨fun h=>absurd h (by omega),fun _=>?_⟩
  simp -dsimp only [go_sem]
  exact ⟨hf,hz,hr⟩
theorem row_set {w p b:Nat} {W:Nat→Nat} {h:Heap} (hx:Rw h b (wrow w W)) (hp:p / 64<w) (hW:∀ i,W i<2 ^ 64) (hw:w≤1024) :
  Con Tryd.prog 140 #[.slice (some ⟨b,0,none⟩) w w,.int .i64 p] h fun _ h'=>Fr b (b+1) h h'∧h'.size=h.size∧Rw h' b (wrow w fun j=>if j=p / 64 then W (p / 64) ||| 2 ^ (p % 64) else W j):=by
 refine con_q134 ?_
 have e64:IntKind.u64.wrap (1 * 2 ^ min (p % 64) 64)=((2 ^ (p % 64):Nat):Int):=shl64 (p % 64) (by omega)
 simp -dsimp only [go_sem]
 rw [tdiv64]
 refine Chk_intro (by decide) ?_
 rw [wrap64 (by omega) (by omega)]
 simp -dsimp only [go_sem]
 refine Chk_intro (by omega) ?_
 simp -dsimp only [go_sem,hx.cell,wrow_get hp]
 rw [tmod64]
 refine Chk_intro (by decide) ?_
 simp -dsimp only [go_sem]
 rw [e64,or64 (hW _) (Nat.pow_lt_pow_right (by decide) (by omega))]
 refine Chk_intro (by omega) ?_
 simp -dsimp only [go_sem]
 refine Chk_intro (hx.wr (by simp;omega)) fun h1 s1=>?_
 have r1:=s1.row hx
 rw [cl_int,putAt_one,wrow_set] at r1
 simp -dsimp only [go_sem]
 exact ⟨s1.fr,s1.size,r1⟩
theorem rel_wide {n:Nat} {M:Nat→Nat→Bool} {p:Value} {lo hi:Nat} {h:Heap} (hr:ProgAt h lo hi p n M) (k:Nat) (hk:k≤256) :
  Con Tryd.prog 151 #[p,.int .i64 k] h fun v h'=>Fr 0 0 h h'∧ProgAt h' h.size h'.size v (max k n) (inN n M):=by
 refine con_q126 ?_
 obtain ⟨hn,pb,rb,R,W,rfl,t⟩:=hr
 have hm:(if (n:Int) > (k:Int) then (n:Int) else (k:Int))=((max k n:Nat):Int):=by split <;> omega
 have hcl:clampN (max k n:Nat)=max k n:=by unfold clampN;omega
 simp -dsimp only [go_sem,t.ptr.cell]
 rw [hm]
 refine call_of (rel_New _ h) ?_
 rintro v1 h1 ⟨p1,t1⟩
 rw [hcl] at t1
 obtain ⟨hx,pb1,rb1,R1,W1,rfl,t1⟩:=t1
 have t2:=t.fr p1 (by omega)
 simp -dsimp only [go_sem,t2.ptr.cell]
 have at1:=t1.at_
 refine loop_intro (fun a:Nat=>[(5,.pointer (some ⟨pb1,0,none⟩)),(18,.slice (some ⟨rb,0,none⟩) n n),(19,.int .i64 n),(20,.int .i64 a)])
  (fun a h'=>a≤n∧Fr 0 0 h h'∧h1.size≤h'.size∧∃ W,PTab h' h.size h1.size pb1 rb1 (max k n) R1 W fun i j=>decide (i<a)&&decide (j<n)&&M i j) (fun a=>n - a) 0 ?_ ?_ ?_
 ·simp [Le,find]
 ·exact ⟨by omega,p1,by omega,_,t1.congr fun i j _ _=>by simp⟩
 rintro a h2 ⟨ha,p0,y2,W2,t3⟩
 have p0_z:=p0.size
 have t4:=t.fr p0 (by omega)
 simp -dsimp only [go_sem]
 refine ⟨fun hlt=>?_,fun hge=>?_⟩
 ·have hlt:a<n:=by omega
  simp -dsimp only [go_sem]
  refine Chk_intro (by omega) ?_
  simp -dsimp only [go_sem,t4.rowsGet hlt,t3.ptr.cell]
  refine Chk_intro (by omega) ?_
  simp -dsimp only [go_sem,t3.rowsGet (show a<max k n by omega)]
  intro b5 h5 n5
  have n5_z:=n5.az
  replace p0:=p0.F n5.f0
  replace t3:=t3.fr n5.f0 (by omega)
  have r5:=n5.row
  obtain ⟨g1,g2,g3,g4,g5,g6⟩:=t3.row a (by omega)
  obtain ⟨f1,f2,f3,f4,f5,f6⟩:=(t.fr p0 (by omega)).row a hlt
  simp -dsimp only [go_sem,r5.cell]
  refine call_of (row_join g1 f1 (r5.rd rfl) (fun j=>(g6 j).1) (fun j=>(f6 j).1) (by unfold nw;omega) (by unfold nw;omega)) ?_
  rintro _ h6 ⟨q6,z6,r6⟩
  have t6:=t3.updRow (by omega) q6 r6 (g6.or f6 (by omega))
  have q6_z:=q6.size
  replace p0:=p0.F q6
  simp -dsimp only [go_sem]
  simp -dsimp (disch:=omega) only [wrap64]
  refine ⟨a+1,by omega,by simp [Le,find],by omega,p0,by omega,_,t6.congr fun i j hi hj=>?_⟩
  by_cases hia:i=a
  ·subst hia
   rw [upd_same];simp
  ·rw [upd_ne _ _ hia]
   have:(i<a+1)=(i<a):=by simp;omega
   simp [this]
 ·have:a=n:=by omega
  subst this
  simp -dsimp only [go_sem]
  exact ⟨p0,hx,_,_,_,_,rfl,(t3.mono' y2).congr fun i j _ _=>rfl⟩
end Go.Proofs.Tst
namespace Go.Proofs.Tst
open Go Go.Vc
theorem rel_Copy {n:Nat} {M:Nat→Nat→Bool} {p:Value} {lo hi:Nat} {h:Heap} (hr:ProgAt h lo hi p n M) :
  Con Tryd.prog 150 #[p] h fun v h'=>Fr 0 0 h h'∧ProgAt h' h.size h'.size v n (inN n M):=by
 refine con_q119 ?_
 simp -dsimp only [go_sem]
 refine call_of (rel_wide hr 0 (by omega)) ?_
 rintro v h1 ⟨p1,t1⟩
 simp -dsimp only [go_sem]
 exact ⟨p1,by rwa [Nat.zero_max] at t1⟩
theorem rel_Plus {n:Nat} {M:Nat→Nat→Bool} {p:Value} {lo hi:Nat} {h:Heap} (hr:ProgAt h lo hi p n M) :
  Con Tryd.prog 110 #[p] h fun v h'=>Fr 0 0 h h'∧ProgAt h' h.size h'.size v n (plusM n M):=by
 refine con_q118 ?_
 simp -dsimp only [go_sem]
 refine call_of (rel_Copy hr) ?_
 rintro v1 h1 ⟨p1,hn,pb1,rb1,R1,W1,rfl,t1⟩
 have at1:=t1.at_
 simp -dsimp only [go_sem,t1.ptr.cell]
 refine loop_intro (fun k:Nat=>[(3,.pointer (some ⟨pb1,0,none⟩)),(11,.int .i64 n),(12,.int .i64 k)])
  (fun k h'=>k≤n∧Fr 0 0 h h'∧h1.size≤h'.size∧∃ W,PTab h' h.size h1.size pb1 rb1 n R1 W (warM n M k)) (fun k=>n - k) 0 ?_ ?_ ?_
 ·simp [Le,find]
 ·exact ⟨by omega,p1,by omega,_,t1.congr fun i j hi hj=>inN_in hi hj⟩
 rintro k h2 ⟨hk,p0,y2,W2,t2⟩
 simp -dsimp only [go_sem]
 refine ⟨fun hlt=>?_,fun hge=>?_⟩
 ·have hlt:k<n:=by omega
  simp -dsimp only [go_sem,t2.ptr.cell]
  refine loop_intro (fun a:Nat=>[(3,.pointer (some ⟨pb1,0,none⟩)),(4,.int .i64 k),(11,.int .i64 n),(12,.int .i64 k),(18,.int .i64 n),(19,.int .i64 a)])
   (fun a h'=>a≤n∧Fr 0 0 h h'∧h1.size≤h'.size∧∃ W,PTab h' h.size h1.size pb1 rb1 n R1 W fun i j=>if i<a then warM n M (k+1) i j else warM n M k i j) (fun a=>n - a) 0 ?_ ?_ ?_
  ·simp [Le,find]
  ·exact ⟨by omega,p0,by omega,_,t2.congr fun i j hi hj=>by simp⟩
  rintro a h3 ⟨ha,p0,y3,W3,t3⟩
  have p0_z:=p0.size
  simp -dsimp only [go_sem]
  refine ⟨fun hlt2=>?_,fun hge2=>?_⟩
  ·have hlt2:a<n:=by omega
   obtain ⟨g1,g2,g3,g4,g5,g6⟩:=t3.row a hlt2
   obtain ⟨f1,f2,f3,f4,f5,f6⟩:=t3.row k hlt
   simp -dsimp only [go_sem,t3.ptr.cell]
   refine Chk_intro (by omega) ?_
   simp -dsimp only [go_sem,t3.rowsGet hlt2]
   refine call_of (row_has (p:=k) (ptab_rd t3 hlt2) (by unfold nw;omega) (g6 _).1 (by omega)) ?_
   rintro v h4 ⟨rfl,rfl⟩
   rw [g6.get hlt]
   simp only [Nat.lt_irrefl,if_false]
   cases hm:warM n M k a k with
   | true =>
    simp -dsimp only [go_sem,t3.ptr.cell]
    refine Chk_intro (by omega) ?_
    simp -dsimp only [go_sem,t3.rowsGet hlt2,t3.ptr.cell]
    refine Chk_intro (by omega) ?_
    simp -dsimp only [go_sem,t3.rowsGet hlt]
    intro b5 h5 n5
    have n5_z:=n5.az
    replace p0:=p0.F n5.f0
    replace t3:=t3.fr n5.f0 (by omega)
    have r5:=n5.row
    obtain ⟨g1,g2,g3,g4,g5,g6⟩:=t3.row a hlt2
    obtain ⟨f1,f2,f3,f4,f5,f6⟩:=t3.row k hlt
    simp -dsimp only [go_sem,t3.rowsGet hlt,t3.rowsGet hlt2,t3.ptr.cell,r5.cell]
    refine call_of (row_join g1 f1 (r5.rd rfl) (fun j=>(g6 j).1) (fun j=>(f6 j).1) (by unfold nw;omega) (by unfold nw;omega)) ?_
    rintro _ h6 ⟨q6,z6,r6⟩
    have t6:=t3.updRow hlt2 q6 r6 (g6.or f6 (by omega))
    have q6_z:=q6.size
    replace p0:=p0.F q6
    simp -dsimp only [go_sem,t6.ptr.cell,t6.rowsGet hlt,t6.rowsGet hlt2]
    simp -dsimp (disch:=omega) only [wrap64]
    refine ⟨a+1,by omega,by simp [Le,find],by omega,p0,by omega,_,t6.congr fun i j hi hj=>?_⟩
    by_cases hia:i=a
    ·subst hia
     have e:(if k<i then warM n M (k+1) k j else warM n M k k j)=warM n M k k j:=by split <;> simp [warM_self]
     rw [upd_same,if_pos (Nat.lt_succ_self _)]
     simp only [Nat.lt_irrefl,if_false,e,hj,decide_true,Bool.true_and]
     simp only [warM,hm,Bool.true_and]
    ·rw [upd_ne _ _ hia]
     have:(i<a+1)=(i<a):=by simp;omega
     simp [this]
   | false =>
    simp -dsimp only [go_sem]
    simp -dsimp (disch:=omega) only [wrap64]
    refine ⟨a+1,by omega,by simp [Le,find],by omega,p0,by omega,_,t3.congr fun i j hi hj=>?_⟩
    by_cases hia:i=a
    ·subst hia
     simp [warM,hm]
    ·have:(i<a+1)=(i<a):=by simp;omega
     simp [this]
  ·have:a=n:=by omega
   subst this
   simp -dsimp only [go_sem]
   simp -dsimp (disch:=omega) only [wrap64]
   exact ⟨k+1,by omega,by simp [Le,find],by omega,p0,by omega,_,t3.congr fun i j hi hj=>by simp [hi]⟩
 ·have:k=n:=by omega
  subst this
  simp -dsimp only [go_sem]
  exact ⟨p0,hn,_,_,_,_,rfl,t2.mono' y2⟩
end Go.Proofs.Tst
namespace Go.Proofs.Tst
open Go Go.Vc
theorem iter_intro {P:Program} {asg body:GC} {Q:Post} {e:Env} {h:Heap} {kk:Nat} {gf:FuncId} {lb:Array Value} {l:List Nat} {C:Heap→Prop} (hit:Iter P gf lb (l.map fun (p:Nat)=>[Value.int .i64 (p:Int)]) C)
  (cext:∀ h1 h2,Ext h.size h1 h2→C h1→C h2) (h0C:C h)
  (J:Nat→Heap→Prop) (X:GX→Heap→Prop) (keep:∀ d h',J d h'→C h')
  (jext:∀ i h1 h2,Ext h.size h1 h2→J i h1→J i h2) (xext:∀ x h1 h2,Ext h.size h1 h2→X x h1→X x h2) (h0:J 0 h)
  (step:∀ d q h1,h.size≤h1.size→l[d]?=some q→J d h1 →
   vc P none asg (thenQ (fun e2 h2=>∀ h2',Ext h.size h2 h2'→vc P none body (roundQ (fun h3=>J (d+1) h3) X) e2 h2') (fun _ _ _=>False)) ((kk,.int .i64 (q:Int)) :: e) h1)
  (fin:∀ h',h.size≤h'.size→J l.length h'→Q .normal e h')
  (esc:∀ x h',h.size≤h'.size→X x h'→x≠.normal∧Q x e h') :
  ∃ (xs:List (List Value)) (C:Heap→Prop) (I:Nat→Heap→Prop) (X:GX→Heap→Prop),
   Iter P gf lb xs C∧(∀ x∈xs,x.length=[kk].length) ∧
   (∀ h1 h2,Ext h.size h1 h2→C h1→C h2)∧(∀ i h1 h2,Ext h.size h1 h2→I i h1→I i h2)∧(∀ x h1 h2,Ext h.size h1 h2→X x h1→X x h2) ∧
   I 0 h∧C h ∧
   (∀ i x h1,h.size≤h1.size→xs[i]?=some x→I i h1→C h1→vc P none asg (thenQ (fun e2 h2=>∀ h2',Ext h.size h2 h2'→vc P none body (roundQ (fun h3=>I (i+1) h3∧C h3) X) e2 h2') (fun _ _ _=>False)) (zipE [kk] x e) h1) ∧
   (∀ h',h.size≤h'.size→I xs.length h'→C h'→Q .normal e h') ∧
   (∀ x h',h.size≤h'.size→X x h'→x≠.normal∧Q x e h'):=by
 refine ⟨_,C,J,X,hit,?_,cext,jext,xext,h0,h0C,?_,?_,esc⟩
 ·intro x hx;obtain ⟨q,_,rfl⟩:=List.mem_map.1 hx;rfl
 ·rintro d x h1 hs hx hJ hC
  rw [List.getElem?_map,Option.map_eq_some_iff] at hx
  obtain ⟨q,hq,rfl⟩:=hx
  refine vc_mono (fun x e2 h2 h3=>?_) (step d q h1 hs hq hJ)
  cases x with
  | normal =>
   intro h2' x'
   refine vc_mono (fun x e4 h4 h5=>?_) (h3 h2' x')
   cases x with
   | normal=>exact ⟨h5,keep _ _ h5⟩
   | ret=>exact h5
   | exit j=>exact h5
  | ret=>exact h3
  | exit j=>exact h3
 ·intro h' hs hJ hC
  rw [List.length_map] at hJ
  exact fin h' hs hJ
theorem points_intro {P':Program} {asg body:GC} {Q:Post} {e:Env} {h:Heap} {kk bk n:Nat} {xv:Value} {W:Nat→Nat} {f:Nat→Bool} (hP:P'=Tryd.prog) (hb:Bits n W f) (hn:n≤256) (h0C:RowC bk xv (nw n) W h)
  (J:Nat→Heap→Prop) (X:GX→Heap→Prop) (keep:∀ d h',J d h'→RowC bk xv (nw n) W h')
  (jext:∀ i h1 h2,Ext h.size h1 h2→J i h1→J i h2) (xext:∀ x h1 h2,Ext h.size h1 h2→X x h1→X x h2) (h0:J 0 h)
  (step:∀ d q h1,h.size≤h1.size→(rest f n 0)[d]?=some q→q<n→f q=true→J d h1 →
   vc P' none asg (thenQ (fun e2 h2=>∀ h2',Ext h.size h2 h2'→vc P' none body (roundQ (fun h3=>J (d+1) h3) X) e2 h2') (fun _ _ _=>False)) ((kk,.int .i64 (q:Int)) :: e) h1)
  (fin:∀ h',h.size≤h'.size→J (rest f n 0).length h'→Q .normal e h')
  (esc:∀ x h',h.size≤h'.size→X x h'→x≠.normal∧Q x e h') :
  ∃ (xs:List (List Value)) (C:Heap→Prop) (I:Nat→Heap→Prop) (X:GX→Heap→Prop),
   Iter P' 155 #[.pointer (some ⟨bk,0,none⟩)] xs C∧(∀ x∈xs,x.length=[kk].length) ∧
   (∀ h1 h2,Ext h.size h1 h2→C h1→C h2)∧(∀ i h1 h2,Ext h.size h1 h2→I i h1→I i h2)∧(∀ x h1 h2,Ext h.size h1 h2→X x h1→X x h2) ∧
   I 0 h∧C h ∧
   (∀ i x h1,h.size≤h1.size→xs[i]?=some x→I i h1→C h1→vc P' none asg (thenQ (fun e2 h2=>∀ h2',Ext h.size h2 h2'→vc P' none body (roundQ (fun h3=>I (i+1) h3∧C h3) X) e2 h2') (fun _ _ _=>False)) (zipE [kk] x e) h1) ∧
   (∀ h',h.size≤h'.size→I xs.length h'→C h'→Q .normal e h') ∧
   (∀ x h',h.size≤h'.size→X x h'→x≠.normal∧Q x e h'):=by
 subst hP
 have hit:=points_1 (b:=bk) (xv:=xv) (w:=nw n) (W:=W) (fun j=>(hb j).1) (by unfold nw;omega)
 rw [rest_bits hb] at hit
 exact iter_intro hit (fun h1 h2 x ⟨c1,c2,c3⟩=>⟨x.cell c1,x.rd c2,x.tab c3⟩) h0C J X keep jext xext h0
  (fun d q h1 hs hq hJ=>have hm:=mem_rest.1 (List.mem_of_getElem? hq);step d q h1 hs hq hm.2.1 hm.2.2 hJ) fin esc
theorem rel_Inverse {n:Nat} {M:Nat→Nat→Bool} {p:Value} {lo hi:Nat} {h:Heap} (hr:ProgAt h lo hi p n M) (ht:TabAt h) :
  Con Tryd.prog 96 #[p] h fun v h'=>Fr 0 0 h h'∧ProgAt h' h.size h'.size v n (invM M):=by
 refine con_q113 (fun v h1 h2 x ⟨f,o⟩=>⟨x.fr f (Nat.le_refl _),(o.ext x).mono (Nat.le_refl _) x.size⟩) ?_
 obtain ⟨hn,pb,rb,R,W,rfl,t⟩:=hr
 have hcl:clampN n=n:=by unfold clampN;omega
 simp -dsimp only [go_sem,t.ptr.cell]
 refine call_of (rel_New n h) ?_
 rintro v1 h1 ⟨p0,t1⟩
 rw [hcl] at t1
 obtain ⟨-,pb1,rb1,R1,W1,rfl,t1⟩:=t1
 have at1:=t1.at_
 have h1_z:=p0.size
 simp -dsimp only [go_sem]
 intro b2 h2 n2
 have n2_z:=n2.az
 replace p0:=p0.F n2.f0
 replace t1:=t1.fr n2.f0 (by omega)
 have r2:=n2.row
 simp -dsimp only [go_sem,r2.cell]
 refine Chk_intro (r2.W) fun h3 s3=>?_
 have s3_z:=s3.size
 replace p0:=p0.F s3.fr
 replace t1:=t1.fr s3.fr (by omega)
 replace r2:=s3.row r2
 try simp only [cl_int,cl_bool,cl_slice,cl_ptr,putAt_one,zs0,zs1,ivec_set,brow_upd] at r2
 have t3:=t.fr p0 (by omega)
 simp -dsimp only [go_sem,t3.ptr.cell,r2.cell]
 refine loop_intro (fun a:Nat=>[(3,.pointer (some ⟨b2,0,none⟩)),(15,.slice (some ⟨rb,0,none⟩) n n),(16,.int .i64 n),(17,.int .i64 a)])
  (fun a h'=>a≤n∧Fr 0 0 h h'∧h3.size≤h'.size∧Rw h' b2 [.pointer (some ⟨pb1,0,none⟩)]∧∃ W,PTab h' h.size h1.size pb1 rb1 n R1 W fun i j=>decide (j<a)&&M j i) (fun a=>n - a) 0 ?_ ?_ ?_
 ·simp [Le,find]
 ·exact ⟨by omega,p0,by omega,r2,_,t1.congr fun i j _ _=>by simp⟩
 rintro a h4 ⟨ha,p0,y4,r2,W4,t4⟩
 have p0_z:=p0.size
 have r2_l:=r2.lt
 simp -dsimp only [go_sem,r2.cell]
 refine ⟨fun hlt=>?_,fun hge=>?_⟩
 ·have hlt:a<n:=by omega
  simp -dsimp only [go_sem,r2.cell]
  refine Chk_intro (by omega) ?_
  simp -dsimp only [go_sem,(t.fr p0 (by omega)).rowsGet hlt,r2.cell]
  intro b5 h5 n5
  have n5_z:=n5.az
  replace p0:=p0.F n5.f0
  replace r2:=r2.F n5.f0
  replace t4:=t4.fr n5.f0 (by omega)
  have r5:=n5.row
  simp -dsimp only [go_sem,r2.cell,r5.cell]
  refine Chk_intro (r5.W) fun h6 s6=>?_
  have s6_z:=s6.size
  replace p0:=p0.F s6.fr
  replace r2:=r2.F s6.fr
  replace t4:=t4.fr s6.fr (by omega)
  replace r5:=s6.row r5
  try simp only [cl_int,cl_bool,cl_slice,cl_ptr,putAt_one,zs0,zs1,ivec_set,brow_upd] at r5
  simp -dsimp only [go_sem,r2.cell,r5.cell]
  refine call_of (rel_points _ _ _ h6) ?_
  rintro v h7 ⟨f7,rfl,c7,z7⟩
  have f7_z:=f7.size
  replace p0:=p0.F f7
  replace r2:=r2.F f7
  replace t4:=t4.fr f7 (by omega)
  replace r5:=r5.F f7
  simp -dsimp only [go_sem,r2.cell,r5.cell]
  have hbits:=(t.row a hlt).2.2.2.2.2
  refine ⟨rfl,points_intro rfl hbits hn ⟨c7,ptab_rd (t.fr p0 (by omega)) hlt,ht.fr p0 (by omega)⟩
   (fun d h'=>Fr 0 0 h h'∧h7.size≤h'.size∧Rw h' b2 [.pointer (some ⟨pb1,0,none⟩)]∧Rw h' b5 [.int .i64 a]∧hcell h' h6.size 0=some (.slice (some ⟨R a,0,none⟩) (nw n) (nw n))∧∃ W,PTab h' h.size h1.size pb1 rb1 n R1 W fun i j=>(decide (j<a)&&M j i)||(j==a&&((rest (M a) n 0).take d).contains i))
   (fun _ _=>False) ?_ ?_ ?_ ?_ ?_ ?_ ?_⟩
  ·rintro d h' ⟨q0,-,-,-,q1,-⟩
   exact ⟨q1,ptab_rd (t.fr q0 (by omega)) hlt,ht.fr q0 (by omega)⟩
  ·rintro d h8 h9 x ⟨q0,q1,q2,q3,q4,W',q5⟩
   exact ⟨q0.ext x (by omega),Nat.le_trans q1 x.size,q2.ext x,q3.ext x,x.cell q4,W',q5.ext x⟩
  ·exact fun _ _ _ _ h=>h
  ·exact ⟨p0,Nat.le_refl _,r2,r5,c7,_,t4.congr fun i j _ _=>by simp⟩
  ·rintro d q h8 z8 hq hqn hqf ⟨p0,y8,r2,r5,c8,W8,t8⟩
   have p0_z:=p0.size
   have r2_l:=r2.lt
   have r5_l:=r5.lt
   simp -dsimp only [go_sem,r2.cell,r5.cell]
   intro h9 x9
   have x9_z:=x9.size
   replace p0:=p0.ext x9 (by omega)
   replace r2:=r2.ext x9
   replace r5:=r5.ext x9
   replace t8:=t8.ext x9
   have c8:=x9.cell c8
   obtain ⟨g1,g2,g3,g4,g5,g6⟩:=t8.row q hqn
   simp -dsimp only [go_sem,t8.ptr.cell,r2.cell,r5.cell]
   refine Chk_intro (by omega) ?_
   simp -dsimp only [go_sem,t8.rowsGet hqn,r2.cell,r5.cell]
   refine call_of (row_set (p:=a) g1 (by unfold nw;omega) (fun j=>(g6 j).1) (by unfold nw;omega)) ?_
   rintro _ h10 ⟨f10,z10,r10⟩
   have t10:=t8.updRow hqn f10 r10 (g6.set hlt)
   have f10_z:=f10.size
   replace p0:=p0.F f10
   replace r2:=r2.F f10
   replace r5:=r5.F f10
   simp -dsimp only [go_sem,t10.ptr.cell,t10.rowsGet hqn,r2.cell,r5.cell]
   refine ⟨p0,by omega,r2,r5,f10.keep c8 (by omega),_,t10.congr fun i j hi hj=>?_⟩
   rw [List.take_add_one,hq,Option.toList_some,List.contains_append]
   by_cases hiq:i=q
   ·subst hiq
    rw [upd_same]
    by_cases hja:j=a
    ·subst hja;simp
    ·have e:(j==a)=false:=by simpa using hja
     simp [hja,e]
   ·rw [upd_ne _ _ hiq];simp [hiq]
  ·rintro h8 z8 ⟨p0,y8,r2,r5,c8,W8,t8⟩
   simp -dsimp only [go_sem,r2.cell,r5.cell]
   simp -dsimp (disch:=omega) only [wrap64]
   refine ⟨a+1,by omega,by simp [Le,find],by omega,p0,by omega,r2,_,t8.congr fun i j hi hj=>?_⟩
   rw [List.take_length]
   by_cases hja:j=a
   ·subst hja
    cases hm:M j i with
    | true=>simp [mem_rest,hm,hi]
    | false=>simp [mem_rest,hm]
   ·have:(j<a+1)=(j<a):=by simp;omega
    simp [this,hja]
  ·exact fun _ _ _ h=>h.elim
 ·have:a=n:=by omega
  subst this
  simp -dsimp only [go_sem,r2.cell]
  exact ⟨p0,hn,_,_,_,_,rfl,(t4.mono' (by omega)).congr fun i j hi hj=>by simp [invM,hj]⟩
end Go.Proofs.Tst
namespace Go.Proofs.Tst
open Go Go.Vc
set_option maxHeartbeats 800000 in
theorem rel_Comp {n m:Nat} {M N:Nat→Nat→Bool} {p q:Value} {lo hi lo' hi':Nat} {h:Heap} (hr:ProgAt h lo hi p n M) (hs:ProgAt h lo' hi' q m N) (ht:TabAt h) :
  Con Tryd.prog 75 #[p,q] h fun v h'=>Fr 0 0 h h'∧ProgAt h' h.size h'.size v (max n m) (compM n M m N):=by
 refine con_q108 (fun v h1 h2 x ⟨f,o⟩=>⟨x.fr f (Nat.le_refl _),(o.ext x).mono (Nat.le_refl _) x.size⟩) ?_
 obtain ⟨hn,pb,rb,R,W,rfl,t⟩:=hr
 obtain ⟨hm,pb',rb',R',W',rfl,t'⟩:=hs
 have hmx:(if (m:Int) > (n:Int) then (m:Int) else (n:Int))=((max n m:Nat):Int):=by split <;> omega
 have hcl:clampN (max n m:Nat)=max n m:=by unfold clampN;omega
 have p0:Fr 0 0 h h:=.refl _ _ _
 simp -dsimp only [go_sem]
 intro b1 h1 n1
 have n1_z:=n1.az
 replace p0:=p0.F n1.f0
 have r1:=n1.row
 have tp:=t.fr p0 (by omega)
 have tq:=t'.fr p0 (by omega)
 simp -dsimp only [go_sem,tp.ptr.cell,tq.ptr.cell,r1.cell]
 rw [hmx]
 refine rvc_joint (fun b2:Nat=>[(0,.pointer (some ⟨pb,0,none⟩)),(3,.pointer (some ⟨b1,0,none⟩)),(4,.pointer none),(5,.pointer (some ⟨b2,0,none⟩))])
  (fun b2 h'=>Fr 0 0 h h'∧Rw h' b1 [.pointer (some ⟨pb',0,none⟩)]∧b1<b2∧∃ pb1 rb1 R1 W1 lo1 hi1,h1.size≤lo1∧hi1≤h'.size∧(b2<lo1∨hi1≤b2)∧Rw h' b2 [.pointer (some ⟨pb1,0,none⟩)]∧PTab h' lo1 hi1 pb1 rb1 (max n m) R1 W1 fun _ _=>false) ?_ ?_
 ·simp -dsimp only [go_sem,r_two,r1.cell]
  refine ⟨?_,?_⟩
  ·refine call_of (rel_New _ h1) ?_
   rintro v h2 ⟨f2,t2⟩
   rw [hcl] at t2
   obtain ⟨-,pb1,rb1,R1,W1,rfl,t2⟩:=t2
   have f2_z:=f2.size
   replace p0:=p0.F f2
   replace r1:=r1.F f2
   have tp:=t.fr p0 (by omega)
   have tq:=t'.fr p0 (by omega)
   simp -dsimp only [go_sem,tp.ptr.cell,tq.ptr.cell,r1.cell]
   intro b3 h3 n3
   have n3_a:=n3.at_
   have n3_z:=n3.size
   replace p0:=p0.F n3.f0
   replace r1:=r1.F n3.f0
   replace t2:=t2.fr n3.f0 (by omega)
   have r3:=n3.row
   simp -dsimp only [go_sem,r1.cell,r3.cell]
   refine Chk_intro (r3.W) fun h4 s4=>?_
   have s4_z:=s4.size
   replace p0:=p0.F s4.fr
   replace r1:=r1.F s4.fr
   replace t2:=t2.fr s4.fr (by omega)
   replace r3:=s4.row r3
   try simp only [cl_int,cl_bool,cl_slice,cl_ptr,putAt_one,zs0,zs1,ivec_set,brow_upd] at r3
   simp -dsimp only [go_sem,r1.cell,r3.cell]
   exact ⟨b3,by simp [Le,find],p0,r1,by omega,_,_,_,_,_,_,Nat.le_refl _,by omega,.inr (by omega),r3,t2⟩
  ·intro b3 h3 n3
   have n3_a:=n3.at_
   have n3_z:=n3.size
   replace p0:=p0.F n3.f0
   replace r1:=r1.F n3.f0
   have r3:=n3.row
   simp -dsimp only [go_sem,r1.cell,r3.cell]
   refine call_of (rel_New _ h3) ?_
   rintro v h2 ⟨f2,t2⟩
   rw [hcl] at t2
   obtain ⟨-,pb1,rb1,R1,W1,rfl,t2⟩:=t2
   have f2_z:=f2.size
   replace p0:=p0.F f2
   replace r1:=r1.F f2
   replace r3:=r3.F f2
   have tp:=t.fr p0 (by omega)
   have tq:=t'.fr p0 (by omega)
   simp -dsimp only [go_sem,tp.ptr.cell,tq.ptr.cell,r1.cell,r3.cell]
   refine Chk_intro (r3.W) fun h4 s4=>?_
   have s4_z:=s4.size
   replace p0:=p0.F s4.fr
   replace r1:=r1.F s4.fr
   replace t2:=t2.fr s4.fr (by omega)
   replace r3:=s4.row r3
   try simp only [cl_int,cl_bool,cl_slice,cl_ptr,putAt_one,zs0,zs1,ivec_set,brow_upd] at r3
   simp -dsimp only [go_sem,r1.cell,r3.cell]
   exact ⟨b3,by simp [Le,find],p0,r1,by omega,_,_,_,_,h3.size,h2.size,by omega,by omega,.inl (by omega),r3,t2⟩
 rintro b2 h2 ⟨p0,r1,hb12,pb1,rb1,R1,W1,lo1,hi1,hlo,hhi,hb2,r2,t2⟩ e ⟨e0,e3,e4,e5,-⟩
 have p0_z:=p0.size
 have r1_l:=r1.lt
 have r2_l:=r2.lt
 have at2:=t2.at_
 have tp:=t.fr p0 (by omega)
 simp -dsimp only [go_sem,e0,e3,e4,e5,tp.ptr.cell,r1.cell,r2.cell]
 refine loop_intro (fun a:Nat=>[(3,.pointer (some ⟨b1,0,none⟩)),(5,.pointer (some ⟨b2,0,none⟩)),(22,.slice (some ⟨rb,0,none⟩) n n),(23,.int .i64 n),(24,.int .i64 a)])
  (fun a h'=>a≤n∧Fr 0 0 h h'∧h2.size≤h'.size∧Rw h' b1 [.pointer (some ⟨pb',0,none⟩)]∧Rw h' b2 [.pointer (some ⟨pb1,0,none⟩)]∧∃ W,PTab h' lo1 hi1 pb1 rb1 (max n m) R1 W fun i j=>decide (i<a)&&compM n M m N i j) (fun a=>n - a) 0 ?_ ?_ ?_
 ·simp [Le,find]
 ·exact ⟨by omega,p0,by omega,r1,r2,_,t2.congr fun i j _ _=>by simp⟩
 rintro a h4 ⟨ha,p0,y4,r1,r2,W4,t4⟩
 have p0_z:=p0.size
 have r1_l:=r1.lt
 have r2_l:=r2.lt
 simp -dsimp only [go_sem,r1.cell,r2.cell]
 refine ⟨fun hlt=>?_,fun hge=>?_⟩
 ·have hlt:a<n:=by omega
  simp -dsimp only [go_sem,r1.cell,r2.cell]
  refine Chk_intro (by omega) ?_
  simp -dsimp only [go_sem,(t.fr p0 (by omega)).rowsGet hlt,r1.cell,r2.cell]
  intro b5 h5 n5
  have n5_z:=n5.az
  replace p0:=p0.F n5.f0
  replace r1:=r1.F n5.f0
  replace r2:=r2.F n5.f0
  replace t4:=t4.fr n5.f0 (by omega)
  have r5:=n5.row
  simp -dsimp only [go_sem,r1.cell,r2.cell,r5.cell]
  refine Chk_intro (r5.W) fun h6 s6=>?_
  have s6_z:=s6.size
  replace p0:=p0.F s6.fr
  replace r1:=r1.F s6.fr
  replace r2:=r2.F s6.fr
  replace t4:=t4.fr s6.fr (by omega)
  replace r5:=s6.row r5
  try simp only [cl_int,cl_bool,cl_slice,cl_ptr,putAt_one,zs0,zs1,ivec_set,brow_upd] at r5
  simp -dsimp only [go_sem,r1.cell,r2.cell,r5.cell]
  refine call_of (rel_points _ _ _ h6) ?_
  rintro v h7 ⟨f7,rfl,c7,z7⟩
  have f7_z:=f7.size
  replace p0:=p0.F f7
  replace r1:=r1.F f7
  replace r2:=r2.F f7
  replace t4:=t4.fr f7 (by omega)
  replace r5:=r5.F f7
  simp -dsimp only [go_sem,r1.cell,r2.cell,r5.cell]
  have hbits:=(t.row a hlt).2.2.2.2.2
  refine ⟨rfl,points_intro rfl hbits hn ⟨c7,ptab_rd (t.fr p0 (by omega)) hlt,ht.fr p0 (by omega)⟩
   (fun d h'=>Fr 0 0 h h'∧h7.size≤h'.size∧Rw h' b1 [.pointer (some ⟨pb',0,none⟩)]∧Rw h' b2 [.pointer (some ⟨pb1,0,none⟩)]∧Rw h' b5 [.int .i64 a]∧hcell h' h6.size 0=some (.slice (some ⟨R a,0,none⟩) (nw n) (nw n)) ∧
    ∃ W,PTab h' lo1 hi1 pb1 rb1 (max n m) R1 W fun i j=>(decide (i<a)&&compM n M m N i j)||(i==a&&((rest (M a) n 0).take d).any fun q=>inN m N q j))
   (fun _ _=>False) ?_ ?_ ?_ ?_ ?_ ?_ ?_⟩
  ·rintro d h' ⟨q0,-,-,-,-,q1,-⟩
   exact ⟨q1,ptab_rd (t.fr q0 (by omega)) hlt,ht.fr q0 (by omega)⟩
  ·rintro d h8 h9 x ⟨q0,q1,q2,q3,q3',q4,W',q5⟩
   exact ⟨q0.ext x (by omega),Nat.le_trans q1 x.size,q2.ext x,q3.ext x,q3'.ext x,x.cell q4,W',q5.ext x⟩
  ·exact fun _ _ _ _ h=>h
  ·exact ⟨p0,Nat.le_refl _,r1,r2,r5,c7,_,t4.congr fun i j _ _=>by simp⟩
  ·rintro d q h8 z8 hq hqn hqf ⟨p0,y8,r1,r2,r5,c8,W8,t8⟩
   have p0_z:=p0.size
   have r1_l:=r1.lt
   have r2_l:=r2.lt
   have r5_l:=r5.lt
   simp -dsimp only [go_sem,r1.cell,r2.cell,r5.cell]
   intro h9 x9
   have x9_z:=x9.size
   replace p0:=p0.ext x9 (by omega)
   replace r1:=r1.ext x9
   replace r2:=r2.ext x9
   replace r5:=r5.ext x9
   replace t8:=t8.ext x9
   have c8:=x9.cell c8
   have tq:=t'.fr p0 (by omega)
   simp -dsimp only [go_sem,tq.ptr.cell,r1.cell,r2.cell,r5.cell]
   refine ⟨fun hqm=>?_,fun hqm=>?_⟩
   ·have hqm:q<m:=by omega
    obtain ⟨g1,g2,g3,g4,g5,g6⟩:=t8.row a (by omega)
    simp -dsimp only [go_sem,tq.ptr.cell,t8.ptr.cell,r1.cell,r2.cell,r5.cell]
    refine Chk_intro (by omega) ?_
    simp -dsimp only [go_sem,t8.rowsGet (show a<max n m by omega),tq.ptr.cell,r1.cell,r2.cell,r5.cell]
    refine Chk_intro (by omega) ?_
    simp -dsimp only [go_sem,tq.rowsGet hqm,r1.cell,r2.cell,r5.cell]
    intro b10 h10 n10
    have n10_z:=n10.az
    replace p0:=p0.F n10.f0
    replace r1:=r1.F n10.f0
    replace r2:=r2.F n10.f0
    replace r5:=r5.F n10.f0
    replace t8:=t8.fr n10.f0 (by omega)
    have r10:=n10.row
    obtain ⟨g1,g2,g3,g4,g5,g6⟩:=t8.row a (by omega)
    have tq:=t'.fr p0 (by omega)
    obtain ⟨f1,f2,f3,f4,f5,f6⟩:=tq.row q hqm
    simp -dsimp only [go_sem,tq.ptr.cell,t8.ptr.cell,t8.rowsGet (show a<max n m by omega),tq.rowsGet hqm,r1.cell,r2.cell,r5.cell,r10.cell]
    refine call_of (row_join g1 f1 (r10.rd rfl) (fun j=>(g6 j).1) (fun j=>(f6 j).1) (by unfold nw;omega) (by unfold nw;omega)) ?_
    rintro _ h11 ⟨f11,z11,r11⟩
    have t11:=t8.updRow (by omega) f11 r11 (g6.or f6 (by omega))
    have c10:=n10.f0.keep c8 (by omega)
    have f11_z:=f11.size
    replace p0:=p0.F f11
    replace r1:=r1.F f11
    replace r2:=r2.F f11
    replace r5:=r5.F f11
    have tq:=t'.fr p0 (by omega)
    simp -dsimp only [go_sem,t11.ptr.cell,t11.rowsGet (show a<max n m by omega),tq.ptr.cell,tq.rowsGet hqm,r1.cell,r2.cell,r5.cell]
    refine ⟨p0,by omega,r1,r2,r5,f11.keep c10 (by omega),_,t11.congr fun i j hi hj=>?_⟩
    rw [List.take_add_one,hq,Option.toList_some,List.any_append]
    by_cases hia:i=a
    ·subst hia
     rw [upd_same]
     simp [inN,hqm]
    ·rw [upd_ne _ _ hia]
     have e:(i==a)=false:=by simpa using hia
     simp [e]
   ·simp -dsimp only [go_sem,r1.cell,r2.cell,r5.cell]
    refine ⟨p0,by omega,r1,r2,r5,c8,_,t8.congr fun i j hi hj=>?_⟩
    rw [List.take_add_one,hq,Option.toList_some,List.any_append]
    have:inN m N q j=false:=inN_out (by omega)
    simp [this]
  ·rintro h8 z8 ⟨p0,y8,r1,r2,r5,c8,W8,t8⟩
   simp -dsimp only [go_sem,r1.cell,r2.cell,r5.cell]
   simp -dsimp (disch:=omega) only [wrap64]
   refine ⟨a+1,by omega,by simp [Le,find],by omega,p0,by omega,r1,r2,_,t8.congr fun i j hi hj=>?_⟩
   rw [List.take_length]
   by_cases hia:i=a
   ·subst hia
    have:(rest (M i) n 0).any (fun q=>inN m N q j)=compM n M m N i j:=by
     rw [Bool.eq_iff_iff,compM_true,List.any_eq_true]
     constructor
     ·rintro ⟨k,hk,h1⟩
      have:=mem_rest.1 hk
      exact ⟨k,inN_true.2 ⟨hlt,this.2.1,this.2.2⟩,h1⟩
     ·rintro ⟨k,h1,h2⟩
      have:=inN_true.1 h1
      exact ⟨k,mem_rest.2 ⟨by omega,this.2.1,this.2.2⟩,h2⟩
    simp [this]
   ·have e:(i==a)=false:=by simpa using hia
    have:(i<a+1)=(i<a):=by simp;omega
    simp [this,e]
  ·exact fun _ _ _ h=>h.elim
 ·have:a=n:=by omega
  subst this
  simp -dsimp only [go_sem,r1.cell,r2.cell]
  refine ⟨p0,by omega,_,_,_,_,rfl,((t4.mono' (hi':=h4.size) (by omega)).lower (by omega)).congr fun i j hi hj=>?_⟩
  by_cases hia:i<a
  ·simp [hia]
  ·have:compM a M m N i j=false:=by
    rw [Bool.eq_false_iff];intro h'
    obtain ⟨k,h1,_⟩:=compM_true.1 h'
    exact hia (inN_true.1 h1).1
   simp [this]
end Go.Proofs.Tst
namespace Go.Proofs.Tst
open Go Go.Vc
end Go.Proofs.Tst
namespace Go.Proofs.Tst
open Go Go.Vc
end Go.Proofs.Tst
namespace Go.Proofs.Tst
open Go Go.Vc
def RelsAt (h:Heap) (L:List (Value×Nat×(Nat→Nat→Bool))):Prop:=∀ x∈L,∃ lo hi,ProgAt h lo hi x.1 x.2.1 x.2.2
def maxN (L:List (Value×Nat×(Nat→Nat→Bool))):Nat:=L.foldl (fun n x=>max n x.2.1) 0
def anyM (L:List (Value×Nat×(Nat→Nat→Bool))) (i j:Nat):Bool:=L.any fun x=>inN x.2.1 x.2.2 i j
theorem foldl_max (L:List (Value×Nat×(Nat→Nat→Bool))):∀ n,n≤L.foldl (fun n x=>max n x.2.1) n∧∀ x∈L,x.2.1≤L.foldl (fun n x=>max n x.2.1) n:=by
 induction L with
 | nil=>intro n;simp
 | cons y L ih =>
  intro n
  obtain ⟨h1,h2⟩:=ih (max n y.2.1)
  refine ⟨by simp only [List.foldl_cons];omega,fun x hx=>?_⟩
  rcases List.mem_cons.1 hx with rfl | hx
  ·simp only [List.foldl_cons];omega
  ·exact h2 x hx
theorem le_maxN {L:List (Value×Nat×(Nat→Nat→Bool))} {x:Value×Nat×(Nat→Nat→Bool)} (h:x∈L):x.2.1≤maxN L:=(foldl_max L 0).2 x h
theorem RelsAt.fr {h h':Heap} {L:List (Value×Nat×(Nat→Nat→Bool))} (r:RelsAt h L) (f:Fr 0 0 h h'):RelsAt h' L:=fun x hx=>by
 obtain ⟨lo,hi,t⟩:=r x hx;exact ⟨lo,hi,t.fr f (by omega)⟩
theorem foldl_le (L:List (Value×Nat×(Nat→Nat→Bool))) (hL:∀ x∈L,x.2.1≤256):∀ n,n≤256→L.foldl (fun n x=>max n x.2.1) n≤256:=by
 induction L with
 | nil=>intro n h;simpa using h
 | cons y L ih =>
  intro n hn
  exact ih (fun x hx=>hL x (List.mem_cons_of_mem _ hx)) _ (Nat.max_le.2 ⟨hn,hL y (List.mem_cons_self ..)⟩)
theorem rel_Union {lv:Value} {L:List (Value×Nat×(Nat→Nat→Bool))} {h:Heap} (hl:Rd 1 h lv L.length (L.map (·.1))) (hr:RelsAt h L) (hL:L.length≤65536) :
  Con Tryd.prog 58 #[lv] h fun v h'=>Fr 0 0 h h'∧ProgAt h' h.size h'.size v (maxN L) (anyM L):=by
 refine con_q128 ?_
 obtain ⟨la,lc,rfl⟩:=hl.is
 have hle:∀ x∈L,x.2.1≤256:=fun x hx=>by obtain ⟨lo,hi,t⟩:=hr x hx;exact t.1
 have htk:∀ a,(hlt:a<L.length)→((L.take (a+1)).foldl (fun n x=>max n x.2.1) 0)=max ((L.take a).foldl (fun n x=>max n x.2.1) 0) L[a].2.1:=fun a hlt=>by
  rw [List.take_succ_eq_append_getElem hlt,List.foldl_append];rfl
 have htn:∀ a,(L.take a).foldl (fun n x=>max n x.2.1) 0≤256:=fun a=>foldl_le _ (fun x hx=>hle x (List.mem_of_mem_take hx)) 0 (by omega)
 simp -dsimp only [go_sem]
 refine loop_intro (fun a:Nat=>[(0,.slice la L.length lc),(3,.int .i64 ((L.take a).foldl (fun n x=>max n x.2.1) 0:Nat)),(11,.slice la L.length lc),(12,.int .i64 L.length),(13,.int .i64 a)])
  (fun a h'=>a≤L.length∧h'=h) (fun a=>L.length - a) 0 ?_ ?_ ?_
 ·simp [Le,find]
 ·exact ⟨by omega,rfl⟩
 rintro a h0 ⟨ha,hh⟩
 obtain rfl:h=h0:=hh.symm
 simp -dsimp only [go_sem]
 refine ⟨fun hlt=>?_,fun hge=>?_⟩
 ·have hlt:a<L.length:=by omega
  have hq:(L.map (·.1))[a]?=some L[a].1:=by simp [hlt]
  have hmem:L[a]∈L:=List.getElem_mem _
  have ht1:=htk a hlt
  generalize L[a]=x at hq hmem ht1
  obtain ⟨lo,hi,hn,pb,rb,R,W,hxv,t⟩:=hr x hmem
  rw [hxv] at hq
  simp -dsimp only [go_sem]
  refine Chk_intro (by omega) (hl.idx (by omega) fun b2 o2 c2=>?_)
  simp -dsimp only [go_sem,c2 a _ hq,t.ptr.cell]
  simp -dsimp (disch:=omega) only [wrap64]
  have e:(if (x.2.1:Int) > ((L.take a).foldl (fun n x=>max n x.2.1) 0:Nat) then (x.2.1:Int) else ((L.take a).foldl (fun n x=>max n x.2.1) 0:Nat))=((L.take (a+1)).foldl (fun n x=>max n x.2.1) 0:Nat):=by
   rw [ht1];split <;> omega
  rw [e]
  exact ⟨a+1,by omega,by simp [Le,find],by omega⟩
 obtain rfl:a=L.length:=by omega
 rw [List.take_length]
 have hmx:L.foldl (fun n x=>max n x.2.1) 0=maxN L:=rfl
 rw [hmx]
 have hk:maxN L≤256:=by have:=htn L.length;rwa [List.take_length] at this
 have hcl:clampN (maxN L:Nat)=maxN L:=by unfold clampN;omega
 simp -dsimp only [go_sem]
 refine call_of (rel_New _ _) ?_
 rintro v1 h1 ⟨p0,t1⟩
 rw [hcl] at t1
 obtain ⟨-,pb1,rb1,R1,W1,rfl,t1⟩:=t1
 have at1:=t1.at_
 simp -dsimp only [go_sem]
 refine loop_intro (fun a:Nat=>[(6,.pointer (some ⟨pb1,0,none⟩)),(26,.slice la L.length lc),(27,.int .i64 L.length),(28,.int .i64 a)])
  (fun a h'=>a≤L.length∧Fr 0 0 h h'∧h1.size≤h'.size∧∃ W,PTab h' h.size h1.size pb1 rb1 (maxN L) R1 W (anyM (L.take a))) (fun a=>L.length - a) 0 ?_ ?_ ?_
 ·simp [Le,find]
 ·exact ⟨by omega,p0,by omega,_,t1.congr fun i j _ _=>by simp [anyM]⟩
 rintro a h2 ⟨ha,p0,y2,W2,t2⟩
 have p0_z:=p0.size
 simp -dsimp only [go_sem]
 refine ⟨fun hlt=>?_,fun hge=>?_⟩
 ·have hlt:a<L.length:=by omega
  have hq:(L.map (·.1))[a]?=some L[a].1:=by simp [hlt]
  have hmem:L[a]∈L:=List.getElem_mem _
  have htk2:L.take (a+1)=L.take a++[L[a]]:=List.take_succ_eq_append_getElem hlt
  generalize L[a]=x at hq hmem htk2
  obtain ⟨lo,hi,hn,pb,rb,R,W,hxv,t⟩:=hr x hmem
  rw [hxv] at hq
  have hnk:=le_maxN hmem
  generalize hxn:x.2.1=n at hn t hnk
  simp -dsimp only [go_sem]
  refine Chk_intro (by omega) ((hl.fr p0).idx (by omega) fun b2 o2 c2=>?_)
  have tp:=t.fr p0 (by omega)
  simp -dsimp only [go_sem,c2 a _ hq,tp.ptr.cell]
  refine loop_intro (fun q:Nat=>[(6,.pointer (some ⟨pb1,0,none⟩)),(26,.slice la L.length lc),(27,.int .i64 L.length),(28,.int .i64 a),(35,.slice (some ⟨rb,0,none⟩) n n),(36,.int .i64 n),(37,.int .i64 q)])
   (fun q h'=>q≤n∧Fr 0 0 h h'∧h1.size≤h'.size∧∃ W,PTab h' h.size h1.size pb1 rb1 (maxN L) R1 W fun i j=>anyM (L.take a) i j||(decide (i<q)&&decide (j<n)&&x.2.2 i j)) (fun q=>n - q) 0 ?_ ?_ ?_
  ·simp [Le,find]
  ·exact ⟨by omega,p0,by omega,_,t2.congr fun i j _ _=>by simp⟩
  rintro q h3 ⟨hqn,p0,y3,W3,t3⟩
  have p0_z:=p0.size
  simp -dsimp only [go_sem]
  refine ⟨fun hlt2=>?_,fun hge2=>?_⟩
  ·have hlt2:q<n:=by omega
   have tp:=t.fr p0 (by omega)
   simp -dsimp only [go_sem]
   refine Chk_intro (by omega) ?_
   simp -dsimp only [go_sem,tp.rowsGet hlt2,t3.ptr.cell]
   refine Chk_intro (by omega) ?_
   simp -dsimp only [go_sem,t3.rowsGet (show q<maxN L by omega)]
   intro b5 h5 n5
   have n5_z:=n5.az
   replace p0:=p0.F n5.f0
   replace t3:=t3.fr n5.f0 (by omega)
   have r5:=n5.row
   obtain ⟨g1,g2,g3,g4,g5,g6⟩:=t3.row q (by omega)
   obtain ⟨f1,f2,f3,f4,f5,f6⟩:=(t.fr p0 (by omega)).row q hlt2
   simp -dsimp only [go_sem,r5.cell]
   refine call_of (row_join g1 f1 (r5.rd rfl) (fun j=>(g6 j).1) (fun j=>(f6 j).1) (by unfold nw;omega) (by unfold nw;omega)) ?_
   rintro _ h6 ⟨q6,z6,r6⟩
   have t6:=t3.updRow (by omega) q6 r6 (g6.or f6 (by omega))
   have q6_z:=q6.size
   replace p0:=p0.F q6
   simp -dsimp only [go_sem]
   simp -dsimp (disch:=omega) only [wrap64]
   refine ⟨q+1,by omega,by simp [Le,find],by omega,p0,by omega,_,t6.congr fun i j hi hj=>?_⟩
   by_cases hia:i=q
   ·subst hia
    rw [upd_same];simp
   ·rw [upd_ne _ _ hia]
    have:(i<q+1)=(i<q):=by simp;omega
    simp [this]
  ·have:q=n:=by omega
   subst this
   simp -dsimp only [go_sem]
   simp -dsimp (disch:=omega) only [wrap64]
   refine ⟨a+1,by omega,by simp [Le,find],by omega,p0,by omega,_,t3.congr fun i j hi hj=>?_⟩
   rw [htk2]
   simp only [anyM,List.any_append,List.any_cons,List.any_nil,Bool.or_false,hxn]
   rfl
 ·obtain rfl:a=L.length:=by omega
  rw [List.take_length] at t2
  simp -dsimp only [go_sem]
  exact ⟨p0,hk,_,_,_,_,rfl,t2.mono' y2⟩
end Go.Proofs.Tst
namespace Go.Proofs.Tst
open Go Go.Vc
end Go.Proofs.Tst
namespace Go.Proofs.Tst
open Go Go.Vc
end Go.Proofs.Tst
