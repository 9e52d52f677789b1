/-
  Contracts of functions that the law reaches: what each returns and what it leaves in memory. Conditions stand in each.
-/
import Derived.Test.YtmcghihgeibgpaaGreatDoorT10
set_option linter.all false
set_option maxRecDepth 2000
/-
  The document's answers of chapter 12: Global, Tso.
-/
namespace Go.Proofs.Tst
open Go Go.Vc
def k0B (g:Gr) (i j:Nat):Bool:=relM g 0 i j&&(!isK g 3 i&&!isK g 3 j)&&!(isK g 2 i&&isK g 1 j)
def k1B (g:Gr) (i j:Nat):Bool:=k0B g i j||relM g 0 i j&&(tiedB g i||tiedB g j)
def stepB (g:Gr) (i j f:Nat):Bool:=fullB g f&&relM g 0 i f&&relM g 0 f j
def fkV (g:Gr) (i j k:Nat):Bool:=k1B g i j||(List.range k).any (stepB g i j)
def kfM (g:Gr) (i j:Nat):Bool:=fkV g i j g.n
def fkM (g:Gr) (i j k:Nat) (a b:Nat):Bool:=if a=i∧b=j then fkV g i j k else mixM i j g.n (kfM g) (fun _ _=>false) a b
theorem fkV_succ {g:Gr} {i j k:Nat}:fkV g i j (k+1)=(fkV g i j k||stepB g i j k):=by
 unfold fkV
 rw [List.range_succ,List.any_append]
 simp [Bool.or_assoc]
theorem fkM_end {g:Gr} {i j a b:Nat}:fkM g i j g.n a b=mixM i (j+1) g.n (kfM g) (fun _ _=>false) a b:=mixM_set rfl
theorem good_kind {g:Gr} (hg:g.good=true) {i:Nat} (hi:i<g.n):(g.ev i).kind=1∨(g.ev i).kind=2∨(g.ev i).kind=3:=by
 obtain ⟨words,h⟩:=good_check hg
 obtain ⟨hs,h2,h3,-⟩:=check_zero h
 simp only [Gr.size,Bool.and_eq_true,decide_eq_true_eq] at hs
 by_cases hc:i<g.cells.toNat
 ·have:=firstEv_neg _ _ h2 i (by omega) (by omega)
  simp only [Bool.not_eq_false',beq_iff_eq] at this
  rw [this];unfold Gr.first;exact .inr (.inl rfl)
 ·have:=firstEv_neg _ _ h3 i (by omega) (by omega)
  simp only [Bool.not_eq_false'] at this
  unfold Gr.evOk Gr.modeOk at this
  simp only [Bool.and_eq_true] at this
  have:=this.1.2
  cases words <;> simp at this <;> omega
theorem kf_kept {g:Gr} (hg:g.good=true) {i j:Nat} (hi:i<g.n) (hj:j<g.n):kfM g i j=keptM g i j:=by
 have e:(List.range g.n).any (stepB g i j)=exB g.n fun f=>fullB g f&&relM g 0 i f&&relM g 0 f j:=rfl
 unfold kfM fkV k1B k0B keptM
 rw [e]
 have ki:=good_kind hg hi
 have kj:=good_kind hg hj
 have hx:(!isK g 3 i&&!isK g 3 j&&!(isK g 2 i&&isK g 1 j))=(!isK g 3 i&&!isK g 3 j&&(isK g 1 i||isK g 2 j)):=by
  unfold isK
  rcases ki with h1 | h1 | h1 <;> rcases kj with h2 | h2 | h2 <;> rw [h1,h2] <;> rfl
 congr 1
 congr 1
 cases relM g 0 i j
 ·rfl
 ·simpa using hx
def tieTo' (g:Gr) (i j:Nat):Bool:=(g.rmw.take i).any fun p=>p.1==(j:Int)||p.2==(j:Int)
theorem tieTo'_succ {g:Gr} {i a b:Nat} (hq:g.rmw[i]?=some ((a:Int),(b:Int))):brow g.n (upd (upd (tieTo' g i) a true) b true)=brow g.n (tieTo' g (i+1)):=brow_congr fun j _=>by
 unfold upd tieTo'
 rw [List.take_add_one,hq,Option.toList_some,List.any_append]
 by_cases h1:j=b
 ·subst h1;simp
 ·rw [if_neg h1]
  have e2:((b:Int)==(j:Int))=false:=by simp;omega
  by_cases h2:j=a
  ·subst h2;simp
  ·rw [if_neg h2]
   have e1:((a:Int)==(j:Int))=false:=by simp;omega
   simp [e1,e2]
theorem tab_addr {h:Heap} {lo hi:Nat} {a:Option Addr} {c n:Nat} {R:Nat→Nat} {M:Mx} (t:Tab h lo hi (.slice a n c) n n R M) (hn:0<n):∃ b o,a=some ⟨b,o,none⟩∧∀ p,p<n→hcell h b (o+p)=some (sl (R p) n n):=by
 obtain ⟨hl,a',c',h1,h2⟩:=t.own.rd
 cases h1
 rcases h2 with h2 | ⟨b,o,rfl,hc⟩
 ·omega
 ·exact ⟨b,o,rfl,fun p hp=>hc p _ (rowsV_get hp)⟩
section
variable {h : Heap} {q : GV} {g : Gr}
set_option maxHeartbeats 16000000 in
theorem ref12_Global (t:GrAt h q g) (hg:g.good=true) :
  Con Tryz.prog 31 #[.agg (gcells q g).toArray] h fun v h'=>Fr 0 0 h h'∧RA h' v g.n (globM g):=by
 refine con_q25 ?_
 have hn:=(good_n hg).1
 have hen:g.evs.length=g.n:=rfl
 have br:=t.fits.r
 have hcl:clampN (g.n:Int)=g.n:=by unfold clampN;omega
 have lk_:∀ k,(kindsV g k g.n).length=g.n:=fun k=>kinds_len g k
 have lw_:∀ {m:List Int},(withB g m).length=g.n:=by intro m;unfold withB;simp;rfl
 have p0:Fr 0 0 h h:=.refl _ _ _
 unfold gcells
 simp -dsimp only [go_sem]
 intro b1 h1 n1
 have n1_z:=n1.az
 replace p0:=p0.F n1.f0
 have r1:=n1.row
 simp -dsimp only [go_sem]
 intro b2 h2 n2
 have n2_z:=n2.az
 replace p0:=p0.F n2.f0
 replace r1:=r1.F n2.f0
 have r2:=n2.row
 simp -dsimp only [go_sem,hen,r1.cell]
 refine call_of (ref8_Po (t.fr p0) hn) ?_
 rintro v h3 ⟨f3,t3⟩
 have f3_z:=f3.size
 replace p0:=p0.F f3
 replace r1:=r1.F f3
 replace r2:=r2.F f3
 obtain ⟨a3,c3,rfl⟩:=ra_is' t3
 simp -dsimp only [go_sem]
 intro b4 h4 n4
 have n4_z:=n4.az
 replace p0:=p0.F n4.f0
 replace r1:=r1.F n4.f0
 replace r2:=r2.F n4.f0
 have r4:=n4.row
 replace t3:=t3.fr n4.f0 (by omega)
 simp -dsimp only [go_sem]
 refine Chk_intro (r4.W) fun h5 s5=>?_
 have s5_z:=s5.size
 replace p0:=p0.F s5.fr
 replace r1:=r1.F s5.fr
 replace r2:=r2.F s5.fr
 replace r4:=s5.row r4
 try simp only [cl_int,cl_bool,cl_slice,cl_ptr,putAt_one,zs0,zs1,ivec_set,brow_upd] at r4
 replace t3:=t3.fr s5.fr (by omega)
 replace r4:Rw h5 b4 [.int .i64 g.n,.slice a3 g.n c3]:=r4
 have g5:h.size≤b1∧b1<b2∧b2<b4∧b4<h5.size∧h.size≤h5.size∧h3.size≤h5.size:=by omega
 simp -dsimp only [go_sem,r1.cell]
 refine rvc_joint (fun s:Option Addr×Nat=>[(1,.pointer (some ⟨b1,0,none⟩)),(2,.pointer (some ⟨b2,0,none⟩)),(3,.int .i64 g.n),(4,.pointer (some ⟨b4,0,none⟩)),(5,.slice s.1 g.n s.2)])
  (fun s h'=>Fr 0 0 h h'∧Fr 0 0 h5 h'∧Rd 1 h' (.slice s.1 g.n s.2) g.n (brow g.n (fullB g))) ?_ ?_
 ·have p5:Fr 0 0 h5 h5:=.refl _ _ _
  have hbl:boolsV (bothL g.n fun i=>atB (kindsV g 3 g.n) i&&atB (withB g [5,15]) i)=brow g.n (fullB g):=by
   unfold bothL brow boolsV
   rw [List.map_map]
   refine List.map_congr_left fun i hi=>?_
   have hi:=List.mem_range.1 hi
   have e2:atB (withB g [5,15]) i=(isM g 5 i||isM g 15 i):=by
    refine atB_get ?_
    unfold withB
    rw [List.getElem?_map,Gr.ev_get hi]
    simp only [Option.map_some,Option.some.injEq]
    rw [Bool.eq_iff_iff];simp [isM]
   show Value.bool (atB (kindsV g 3 g.n) i&&atB (withB g [5,15]) i)=Value.bool (fullB g i)
   rw [atB_kinds hi,e2];rfl
  simp -dsimp only [go_sem,r_two]
  refine ⟨?_,?_⟩
  ·refine call_of (ref8_Kinds (t.fr p0) (by omega) 3) ?_
   rintro v6 h6 ⟨f6,o6⟩
   have f6_z:=f6.size
   replace p0:=p0.F f6
   replace r1:=r1.F f6
   replace r2:=r2.F f6
   replace r4:=r4.F f6
   replace p5:=p5.F f6
   obtain ⟨a6,c6,rfl⟩:=o6.is
   have d6:=o6.rd
   clear o6
   simp -dsimp only [go_sem,r1.cell]
   intro b7 h7 n7
   have n7_a:=n7.at_
   have n7_z:=n7.size
   replace p0:=p0.F n7.f0
   replace r1:=r1.F n7.f0
   replace r2:=r2.F n7.f0
   replace r4:=r4.F n7.f0
   replace p5:=p5.F n7.f0
   replace d6:=d6.fr n7.f0
   have r7:=n7.row
   simp -dsimp only [go_sem]
   refine call_of (ref8_With (t.fr p0) (by omega) (m:=[5,15]) (Rw.rd (s:=1) (n:=2) (c:=2) r7 rfl) (by decide)) ?_
   rintro v8 h8 ⟨f8,o8⟩
   have f8_z:=f8.size
   replace p0:=p0.F f8
   replace r1:=r1.F f8
   replace r2:=r2.F f8
   replace r4:=r4.F f8
   replace p5:=p5.F f8
   replace d6:=d6.fr f8
   replace r7:=r7.F f8
   obtain ⟨a8,c8,rfl⟩:=o8.is
   simp -dsimp only [go_sem,r1.cell]
   refine call_of (ref8_Both (la:=kindsV g 3 g.n) (lb:=withB g [5,15]) (n:=g.n) (by rw [lk_];exact d6) (by rw [lw_];exact o8.rd) (lk_ _) lw_ (by omega)) ?_
   rintro v9 h9 ⟨f9,o9⟩
   have f9_z:=f9.size
   replace p0:=p0.F f9
   replace r1:=r1.F f9
   replace r2:=r2.F f9
   replace r4:=r4.F f9
   replace p5:=p5.F f9
   replace d6:=d6.fr f9
   replace r7:=r7.F f9
   obtain ⟨a9,c9,rfl⟩:=o9.is
   rw [hbl] at o9
   simp -dsimp only [go_sem,r1.cell]
   exact ⟨(a9,c9),by simp [Le,find],p0,p5,o9.rd⟩
  ·intro b7 h7 n7
   have n7_a:=n7.at_
   have n7_z:=n7.size
   replace p0:=p0.F n7.f0
   replace r1:=r1.F n7.f0
   replace r2:=r2.F n7.f0
   replace r4:=r4.F n7.f0
   replace p5:=p5.F n7.f0
   have r7:=n7.row
   simp -dsimp only [go_sem]
   refine call_of (ref8_Kinds (t.fr p0) (by omega) 3) ?_
   rintro v6 h6 ⟨f6,o6⟩
   have f6_z:=f6.size
   replace p0:=p0.F f6
   replace r1:=r1.F f6
   replace r2:=r2.F f6
   replace r4:=r4.F f6
   replace p5:=p5.F f6
   replace r7:=r7.F f6
   obtain ⟨a6,c6,rfl⟩:=o6.is
   have d6:=o6.rd
   clear o6
   simp -dsimp only [go_sem,r1.cell]
   refine call_of (ref8_With (t.fr p0) (by omega) (m:=[5,15]) (Rw.rd (s:=1) (n:=2) (c:=2) r7 rfl) (by decide)) ?_
   rintro v8 h8 ⟨f8,o8⟩
   have f8_z:=f8.size
   replace p0:=p0.F f8
   replace r1:=r1.F f8
   replace r2:=r2.F f8
   replace r4:=r4.F f8
   replace p5:=p5.F f8
   replace r7:=r7.F f8
   replace d6:=d6.fr f8
   obtain ⟨a8,c8,rfl⟩:=o8.is
   simp -dsimp only [go_sem,r1.cell]
   refine call_of (ref8_Both (la:=kindsV g 3 g.n) (lb:=withB g [5,15]) (n:=g.n) (by rw [lk_];exact d6) (by rw [lw_];exact o8.rd) (lk_ _) lw_ (by omega)) ?_
   rintro v9 h9 ⟨f9,o9⟩
   have f9_z:=f9.size
   replace p0:=p0.F f9
   replace r1:=r1.F f9
   replace r2:=r2.F f9
   replace r4:=r4.F f9
   replace p5:=p5.F f9
   replace r7:=r7.F f9
   replace d6:=d6.fr f9
   obtain ⟨a9,c9,rfl⟩:=o9.is
   rw [hbl] at o9
   simp -dsimp only [go_sem,r1.cell]
   exact ⟨(a9,c9),by simp [Le,find],p0,p5,o9.rd⟩
 have R1:Rw h5 b1 (gcells q g):=r1
 have R2:=r2
 have R4:=r4
 clear p0 r1 r2 r4
 rintro ⟨a5,c5⟩ h6 ⟨p0,p5,d5⟩ e ⟨e1,e2,e3,e4,e5,-⟩
 dsimp only at d5 e5
 replace R1:=R1.fr p5 (by omega)
 replace R2:=R2.fr p5 (by omega)
 replace R4:=R4.fr p5 (by omega)
 replace t3:=t3.fr p5 (by omega)
 clear p5
 have z6:h5.size≤h6.size:=by have:=R4.lt;omega
 have r1:=R1
 have r4:=R4
 unfold gcells at r1
 have p0_z:=p0.size
 have r1_l:=r1.lt
 have r4_l:=r4.lt
 simp -dsimp only [go_sem,e1,e2,e3,e4,e5]
 refine Chk_intro (by omega) ?_
 rw [zeros_one,Int.toNat_natCast,brow_false]
 intro b6 h7 n7
 have n7_a:=n7.at_
 have n7_z:=n7.size
 replace p0:=p0.F n7.f0
 replace r1:=r1.F n7.f0
 replace r4:=r4.F n7.f0
 have r6:=n7.row
 have a0:brow g.n (fun _=>false)=brow g.n (tieTo' g 0):=brow_congr fun j _=>by simp [tieTo']
 rw [a0] at r6
 have p7:Fr 0 0 h6 h7:=n7.fr
 have g7:h6.size≤b6∧b6<h7.size:=by omega
 clear r1 r4
 simp -dsimp only [go_sem]
 refine loop_intro (fun i:Nat=>[(1,.pointer (some ⟨b1,0,none⟩)),(2,.pointer (some ⟨b2,0,none⟩)),(3,.int .i64 g.n),(4,.pointer (some ⟨b4,0,none⟩)),(5,.slice a5 g.n c5),(6,.slice (some ⟨b6,0,none⟩) g.n g.n),(7,.int .i64 i)])
  (fun i h'=>i≤g.rmw.length∧Fr 0 0 h h'∧Fr 0 0 h6 h'∧h7.size≤h'.size∧Rw h' b6 (brow g.n (tieTo' g i))) (fun i=>g.rmw.length - i) 0 ?_ ?_ ?_
 ·simp [Le,find]
 ·exact ⟨by omega,p0,p7,by omega,r6⟩
 clear p0 p7 r6 e1 e2 e3 e4 e5
 rintro i h8 ⟨hi,p0,p6,z8,r6⟩
 have r1:=R1.fr p6 (by omega)
 unfold gcells at r1
 have p0_z:=p0.size
 have p6_z:=p6.size
 have r1_l:=r1.lt
 have r6_l:=r6.lt
 by_cases hlt:i<g.rmw.length
 ·have e1:((i:Int)<(g.rmw.length:Int)):=by omega
  have hq:g.rmw[i]?=some g.rmw[i]:=List.getElem?_eq_getElem hlt
  obtain ⟨words,hz⟩:=good_check hg
  obtain ⟨x,y,he,hxy,hyn⟩:=words_rmw hz (List.mem_of_getElem? hq)
  rw [he] at hq
  obtain ⟨rb,ro,hre,hrc⟩:=t.r.pairsAt (by omega)
  obtain ⟨k1,k2⟩:=hrc h8 p0 i _ hq
  dsimp only at k1 k2
  have ex:((x:Int)<(g.n:Int)):=by omega
  have ey:((y:Int)<(g.n:Int)):=by omega
  simp -dsimp only [go_sem,e1,hre,k1,ex,r1.cell]
  refine Chk_intro (r6.W) fun h9 s9=>?_
  have s9_z:=s9.size
  replace p0:=p0.F s9.fr
  replace p6:=p6.F s9.fr
  replace r1:=r1.F s9.fr
  replace r6:=s9.row r6
  try simp only [cl_bool,putAt_one,brow_upd] at r6
  obtain ⟨k1,k2⟩:=hrc h9 p0 i _ hq
  dsimp only at k1 k2
  simp -dsimp only [go_sem,e1,hre,k2,ey,r1.cell]
  refine Chk_intro (r6.W) fun h10 s10=>?_
  have s10_z:=s10.size
  replace p0:=p0.F s10.fr
  replace p6:=p6.F s10.fr
  replace r1:=r1.F s10.fr
  replace r6:=s10.row r6
  try simp only [cl_bool,putAt_one,brow_upd] at r6
  rw [tieTo'_succ hq] at r6
  simp -dsimp only [go_sem]
  simp -dsimp (disch:=omega) only [wrap64]
  exact ⟨i+1,by omega,by simp [Le,find],by omega,p0,p6,by omega,r6⟩
 obtain rfl:i=g.rmw.length:=by omega
 have t0:brow g.n (tieTo' g g.rmw.length)=brow g.n (tiedB g):=brow_congr fun j _=>by unfold tieTo' tiedB;rw [List.take_length]
 rw [t0] at r6
 have R6:=r6
 simp -dsimp only [go_sem,Int.lt_irrefl,r1.cell]
 refine call_of (ref1_New (g.n:Int) _) ?_
 rintro v hG ⟨fG,tG⟩
 rw [hcl] at tG
 have pF:Fr 0 0 h8 hG:=fG
 replace p0:=p0.trans fG
 have zG:=fG.size
 obtain ⟨ak,kc,rfl⟩:=ra_is' tG
 obtain ⟨Rk,tk⟩:=refAt_row tG
 clear tG r1 r6
 replace R1:=R1.fr p6 (by omega)
 replace R2:=R2.fr p6 (by omega)
 replace R4:=R4.fr p6 (by omega)
 replace t3:=t3.fr p6 (by omega)
 replace d5:=d5.fr p6
 clear p6
 generalize hhF:h8=hF at *
 clear hhF
 simp -dsimp only [go_sem]
 intro b8 h9 n9
 have n9_z:=n9.az
 replace p0:=p0.F n9.f0
 replace pF:=pF.F n9.f0
 have r8:=n9.row
 replace tk:=tk.fr n9.f0 (by omega)
 simp -dsimp only [go_sem]
 refine Chk_intro (r8.W) fun h10 s10=>?_
 have s10_z:=s10.size
 replace p0:=p0.F s10.fr
 replace pF:=pF.F s10.fr
 replace r8:=s10.row r8
 try simp only [cl_int,cl_bool,cl_slice,cl_ptr,putAt_one,zs0,zs1,ivec_set,brow_upd] at r8
 replace tk:=tk.fr s10.fr (by omega)
 replace r8:Rw h10 b8 [.int .i64 g.n,.slice ak g.n kc]:=r8
 have g10:hG.size≤b8∧hF.size≤hG.size∧h.size≤hF.size∧b1<hF.size∧b2<hF.size∧b4<hF.size∧b6<hF.size∧h3.size≤hF.size:=by omega
 obtain ⟨Rp,tp0⟩:=refAt_row t3
 have t3':=t3
 clear t3
 have t3:=tp0
 clear tp0
 have d60:∀ k,k<g.n→hcell hF b6 k=some (.bool (tiedB g k)):=fun k hk=>by rw [R6.cell];exact brow_get hk
 have R8':=r8
 simp -dsimp only [go_sem]
 refine loop_intro (fun i:Nat=>[(1,.pointer (some ⟨b1,0,none⟩)),(2,.pointer (some ⟨b2,0,none⟩)),(3,.int .i64 g.n),(4,.pointer (some ⟨b4,0,none⟩)),(5,.slice a5 g.n c5),(6,.slice (some ⟨b6,0,none⟩) g.n g.n),(8,.pointer (some ⟨b8,0,none⟩)),(9,.int .i64 i)])
  (fun i h'=>i≤g.n∧Fr 0 0 h h'∧Fr 0 0 hF h'∧Rw h' b8 [.int .i64 g.n,.slice ak g.n kc]∧Tab h' hF.size hG.size (.slice ak g.n kc) g.n g.n Rk (mixM i 0 g.n (kfM g) (fun _ _=>false))) (fun i=>g.n - i) 0 ?_ ?_ ?_
 ·simp [Le,find]
 ·exact ⟨by omega,p0,pF,R8',tk.congr fun a b _ _=>by rw [mixM_zero]⟩
 clear p0 pF r8 tk R8'
 rintro i h11 ⟨hi,p0,pF,r8,tk⟩
 by_cases hin:i<g.n
 rotate_left
 ·obtain rfl:i=g.n:=by omega
  have r1:=R1.fr pF (by omega)
  have r2:=R2.fr pF (by omega)
  have g11:h.size≤h11.size∧b2<h11.size:=by have:=pF.size;omega
  have tfin:RA h11 (.agg #[.int .i64 g.n,.slice ak g.n kc]) g.n (keptM g):=⟨_,_,hn,_,Rk,rfl,tk.congr fun a b ha hb=>by rw [mixM_end ha hb];exact kf_kept hg ha hb⟩
  clear tk
  unfold gcells at r1
  have p11:Fr 0 0 h11 h11:=.refl _ _ _
  have p0_z:=p0.size
  have pF_z:=pF.size
  have r1_l:=r1.lt
  have r2_l:=r2.lt
  have r8_l:=r8.lt
  have p11_z:=p11.size
  simp -dsimp only [go_sem,Int.lt_irrefl,r1.cell,r8.cell]
  refine call_of (ref8_Rf (t.fr p0) hn) ?_
  rintro v h13 ⟨f13,t13⟩
  replace t13:=ra_of' t13
  have f13_z:=f13.size
  replace p0:=p0.F f13
  replace pF:=pF.F f13
  replace r1:=r1.F f13
  replace r2:=r2.F f13
  replace r8:=r8.F f13
  replace p11:=p11.F f13
  simp -dsimp only [go_sem,r1.cell,r8.cell]
  refine call_of (ref8_Ext (t.fr p0) hn) ?_
  rintro v h14 ⟨f14,t14⟩
  replace t13:=t13.fr f14
  have f14_z:=f14.size
  replace p0:=p0.F f14
  replace pF:=pF.F f14
  replace r1:=r1.F f14
  replace r2:=r2.F f14
  replace r8:=r8.F f14
  replace p11:=p11.F f14
  obtain ⟨_,_,u13⟩:=t13
  simp -dsimp only [go_sem,r1.cell,r8.cell]
  refine call_of (ref1_Inter u13 t14) ?_
  rintro v h15 ⟨f15,t15⟩
  rw [Nat.max_self] at t15
  replace t15:=ra_of' t15
  have f15_z:=f15.size
  replace p0:=p0.F f15
  replace pF:=pF.F f15
  replace r1:=r1.F f15
  replace r2:=r2.F f15
  replace r8:=r8.F f15
  replace p11:=p11.F f15
  simp -dsimp only [go_sem,r1.cell,r8.cell]
  refine call_of (ref8_Co (t.fr p0) hg) ?_
  rintro v h16 ⟨f16,t16⟩
  replace t16:=ra_of' t16
  replace t15:=t15.fr f16
  have f16_z:=f16.size
  replace p0:=p0.F f16
  replace pF:=pF.F f16
  replace r1:=r1.F f16
  replace r2:=r2.F f16
  replace r8:=r8.F f16
  replace p11:=p11.F f16
  simp -dsimp only [go_sem,r1.cell,r8.cell]
  refine call_of (ref8_Fr (t.fr p0) hg) ?_
  rintro v h17 ⟨f17,t17⟩
  replace t17:=ra_of' t17
  replace t15:=t15.fr f17
  replace t16:=t16.fr f17
  have f17_z:=f17.size
  replace p0:=p0.F f17
  replace pF:=pF.F f17
  replace r1:=r1.F f17
  replace r2:=r2.F f17
  replace r8:=r8.F f17
  replace p11:=p11.F f17
  obtain ⟨a15,c15,rfl⟩:=t15.is
  obtain ⟨a16,c16,rfl⟩:=t16.is
  obtain ⟨a17,c17,rfl⟩:=t17.is
  simp -dsimp only [go_sem,r1.cell,r8.cell]
  intro b18 h18 n18
  have n18_z:=n18.az
  replace p0:=p0.F n18.f0
  replace pF:=pF.F n18.f0
  replace r1:=r1.F n18.f0
  replace r2:=r2.F n18.f0
  replace r8:=r8.F n18.f0
  replace p11:=p11.F n18.f0
  have r18:=n18.row
  try simp -dsimp only [go_sem] at n18
  try simp -dsimp only [go_sem] at r18
  simp -dsimp only [go_sem]
  refine call_of (ref12_any (CR.mk [(.slice ak g.n kc,keptM g),(.slice a15 g.n c15,interM g.n (relM g 1) g.n (relM g 5)),(.slice a16 g.n c16,relM g 2),(.slice a17 g.n c17,relM g 9)] r18 (ra_cons (tfin.fr p11) (ra_cons (t15.fr n18.fr) (ra_cons (t16.fr n18.fr) (ra_cons (t17.fr n18.fr) ra_nil)))) (by simp))) ?_
  rintro v h19 ⟨f19,t19,q19⟩
  have f19_z:=f19.size
  replace p0:=p0.F f19
  replace pF:=pF.F f19
  replace r1:=r1.F f19
  replace r2:=r2.F f19
  replace r8:=r8.F f19
  replace p11:=p11.F f19
  replace r18:=r18.F f19
  clear t19
  have t19:=RefAt.congr (N:=globM g) (q19 (by simp)) fun i j hi hj=>by
   rw [oM_in hi hj]
   have e15:interM g.n (relM g 1) g.n (relM g 5) i j=(relM g 1 i j&&relM g 5 i j):=interM_in hi hj
   show (keptM g i j||(interM g.n (relM g 1) g.n (relM g 5) i j||(relM g 2 i j||(relM g 9 i j||false))))=globM g i j
   rw [e15]
   unfold globM rfeM
   simp [Bool.or_assoc]
  obtain ⟨a19,c19,rfl⟩:=ra_is' t19
  clear q19
  simp -dsimp only [go_sem,r1.cell,r8.cell]
  clear pF p11
  refine Chk_intro (r2.W) fun h20 s20=>?_
  have s20_z:=s20.size
  replace p0:=p0.F s20.fr
  replace r1:=r1.F s20.fr
  replace r8:=r8.F s20.fr
  replace r18:=r18.F s20.fr
  replace r2:=s20.row r2
  try simp only [cl_int,cl_bool,cl_slice,cl_ptr,putAt_one,zs0,zs1,ivec_set,brow_upd] at r2
  try simp -dsimp only [go_sem] at r2
  simp -dsimp only [go_sem,r2.cell]
  exact ⟨p0,_,_,t19.fr s20.fr (by omega)⟩
 have e1:((i:Int)<(g.n:Int)):=by omega
 have R8':=r8
 have p0_z:=p0.size
 have pF_z:=pF.size
 have r8_l:=r8.lt
 simp -dsimp only [go_sem,e1]
 refine loop_intro (fun j:Nat=>[(1,.pointer (some ⟨b1,0,none⟩)),(2,.pointer (some ⟨b2,0,none⟩)),(3,.int .i64 g.n),(4,.pointer (some ⟨b4,0,none⟩)),(5,.slice a5 g.n c5),(6,.slice (some ⟨b6,0,none⟩) g.n g.n),(8,.pointer (some ⟨b8,0,none⟩)),(9,.int .i64 i),(10,.int .i64 j)])
  (fun j h'=>j≤g.n∧Fr 0 0 h h'∧Fr 0 0 hF h'∧Rw h' b8 [.int .i64 g.n,.slice ak g.n kc]∧Tab h' hF.size hG.size (.slice ak g.n kc) g.n g.n Rk (mixM i j g.n (kfM g) (fun _ _=>false))) (fun j=>g.n - j) 0 ?_ ?_ ?_
 ·simp [Le,find]
 ·exact ⟨by omega,p0,pF,R8',tk⟩
 clear p0 pF r8 tk R8'
 rintro j h12 ⟨hj,p0,pF,r8,tk⟩
 by_cases hjn:j<g.n
 rotate_left
 ·obtain rfl:j=g.n:=by omega
  have p0_z:=p0.size
  have pF_z:=pF.size
  have r8_l:=r8.lt
  simp -dsimp only [go_sem,Int.lt_irrefl]
  simp -dsimp (disch:=omega) only [wrap64]
  exact ⟨i+1,by omega,by simp [Le,find],by omega,p0,pF,r8,tk.congr fun a b _ _=>mixM_next⟩
 have e2:((j:Int)<(g.n:Int)):=by omega
 have r1:=R1.fr pF (by omega)
 have r4:=R4.fr pF (by omega)
 have tp:=t3.fr pF (by omega)
 obtain ⟨kb,ko,hka,aK⟩:=tab_addr tk (by omega)
 subst hka
 obtain ⟨pb,po,hpa,aP⟩:=tab_addr tp (by omega)
 subst hpa
 obtain ⟨hd1,fa',fc',hd2,hd3⟩:=d5
 cases hd2
 rcases hd3 with hd3 | ⟨fb,fo,rfl,hdc⟩
 ·omega
 have dF0:∀ k,k<g.n→hcell hF fb (fo+k)=some (.bool (fullB g k)):=fun k hk=>hdc k _ (brow_get hk)
 have aKi:=aK i hin
 have aPi:=aP i hin
 have mP:=tp.cell hin hjn
 obtain ⟨eb,eo,hee,hev⟩:=t.evs (by omega)
 have cE:=hev h12 p0
 obtain ⟨-,ci,-,-,-⟩:=hev h12 p0 i hin
 obtain ⟨-,cj,-,-,-⟩:=hev h12 p0 j hjn
 have e1':((i:Int)<(g.evs.length:Int)):=e1
 have e2':((j:Int)<(g.evs.length:Int)):=e2
 have cP:=aP
 unfold gcells at r1
 have p0_z:=p0.size
 have pF_z:=pF.size
 have r1_l:=r1.lt
 have r4_l:=r4.lt
 have r8_l:=r8.lt
 refine w_joint (fun e h'=>Le [(1,.pointer (some ⟨b1,0,none⟩)),(2,.pointer (some ⟨b2,0,none⟩)),(3,.int .i64 g.n),(4,.pointer (some ⟨b4,0,none⟩)),(5,.slice (some ⟨fb,fo,none⟩) g.n c5),(6,.slice (some ⟨b6,0,none⟩) g.n g.n),(8,.pointer (some ⟨b8,0,none⟩)),(9,.int .i64 i),(10,.int .i64 j)] e∧h'=h12) ?_ ?_
 ·simp -dsimp only [go_sem,e2]
  simp [Le,find]
 rintro _ h' ⟨⟨x1,x2,x3,x4,x5,x6,x8,x9,x10,-⟩,hh⟩
 obtain rfl:h12=h':=hh.symm
 rw [w_seq,w_block]
 refine w_joint (fun e h'=>Le [(1,.pointer (some ⟨b1,0,none⟩)),(2,.pointer (some ⟨b2,0,none⟩)),(3,.int .i64 g.n),(4,.pointer (some ⟨b4,0,none⟩)),(5,.slice (some ⟨fb,fo,none⟩) g.n c5),(6,.slice (some ⟨b6,0,none⟩) g.n g.n),(8,.pointer (some ⟨b8,0,none⟩)),(9,.int .i64 i),(10,.int .i64 j),(11,.int .i64 (g.ev i).kind)] e∧h'=h12) ?_ ?_
 ·simp -dsimp only [go_sem,x1,x2,x3,x4,x5,x6,x8,x9,x10,hee,e1',ci,r1.cell]
  simp [Le,find]
 rintro _ h' ⟨⟨x1,x2,x3,x4,x5,x6,x8,x9,x10,x11,-⟩,hh⟩
 obtain rfl:h12=h':=hh.symm
 refine w_joint (fun e h'=>Le [(1,.pointer (some ⟨b1,0,none⟩)),(2,.pointer (some ⟨b2,0,none⟩)),(3,.int .i64 g.n),(4,.pointer (some ⟨b4,0,none⟩)),(5,.slice (some ⟨fb,fo,none⟩) g.n c5),(6,.slice (some ⟨b6,0,none⟩) g.n g.n),(8,.pointer (some ⟨b8,0,none⟩)),(9,.int .i64 i),(10,.int .i64 j),(11,.int .i64 (g.ev i).kind),(12,.int .i64 (g.ev j).kind)] e∧h'=h12) ?_ ?_
 ·simp -dsimp only [go_sem,x1,x2,x3,x4,x5,x6,x8,x9,x10,x11,hee,e2',cj,r1.cell]
  simp [Le,find]
 rintro _ h' ⟨⟨x1,x2,x3,x4,x5,x6,x8,x9,x10,x11,x12,-⟩,hh⟩
 obtain rfl:h12=h':=hh.symm
 refine w_joint (fun e h'=>Le [(1,.pointer (some ⟨b1,0,none⟩)),(2,.pointer (some ⟨b2,0,none⟩)),(3,.int .i64 g.n),(4,.pointer (some ⟨b4,0,none⟩)),(5,.slice (some ⟨fb,fo,none⟩) g.n c5),(6,.slice (some ⟨b6,0,none⟩) g.n g.n),(8,.pointer (some ⟨b8,0,none⟩)),(9,.int .i64 i),(10,.int .i64 j),(11,.int .i64 (g.ev i).kind),(12,.int .i64 (g.ev j).kind),(13,.bool (!isK g 3 i&&!isK g 3 j))] e∧h'=h12) ?_ ?_
 ·by_cases ka3:(g.ev i).kind=3
  ·simp -dsimp only [go_sem,x1,x2,x3,x4,x5,x6,x8,x9,x10,x11,x12,bne_t ka3]
   simp [Le,find,isK,ka3]
  ·simp -dsimp only [go_sem,x1,x2,x3,x4,x5,x6,x8,x9,x10,x11,x12,bne_f ka3]
   simp [Le,find,isK]
   cases hk:(g.ev j).kind==3 <;> simp [hk,bne]
   exact ka3
 rintro e h' ⟨⟨x1,x2,x3,x4,x5,x6,x8,x9,x10,x11,x12,x13,-⟩,hh⟩
 obtain rfl:h12=h':=hh.symm
 have R8x:=r8
 refine w_joint (fun e h'=>Le [(1,.pointer (some ⟨b1,0,none⟩)),(2,.pointer (some ⟨b2,0,none⟩)),(3,.int .i64 g.n),(4,.pointer (some ⟨b4,0,none⟩)),(5,.slice (some ⟨fb,fo,none⟩) g.n c5),(6,.slice (some ⟨b6,0,none⟩) g.n g.n),(8,.pointer (some ⟨b8,0,none⟩)),(9,.int .i64 i),(10,.int .i64 j)] e∧Fr 0 0 h h'∧Fr 0 0 hF h'∧Rw h' b8 [.int .i64 g.n,.slice (some ⟨kb,ko,none⟩) g.n kc]∧Tab h' hF.size hG.size (.slice (some ⟨kb,ko,none⟩) g.n kc) g.n g.n Rk (fun a b=>if a=i∧b=j then k0B g i j else mixM i j g.n (kfM g) (fun _ _=>false) a b)) ?_ ?_
 ·have w_row1:=tk.row i hin
  have fin0:∀ (g1:Heap) (v:Bool),v=k0B g i j→Sto h12 g1 (Rk i) j [.bool v]→Fr 0 0 h g1∧Fr 0 0 hF g1∧Rw g1 b8 [.int .i64 g.n,.slice (some ⟨kb,ko,none⟩) g.n kc]∧Tab g1 hF.size hG.size (.slice (some ⟨kb,ko,none⟩) g.n kc) g.n g.n Rk (fun a b=>if a=i∧b=j then k0B g i j else mixM i j g.n (kfM g) (fun _ _=>false) a b):=fun g1 v hv s=>by
   have f1_:=s.fr
   refine ⟨p0.fresh f1_ (by omega),pF.fresh f1_ (by omega),r8.fr f1_ (by omega),?_⟩
   rw [← hv];exact tk.set (q:=j) hin s
  cases hpo:relM g 0 i j
  ·rw [hpo] at mP
   simp -dsimp only [go_sem,x4,x8,x9,x10,aKi,aPi,mP,e1,e2,r4.cell,r8.cell]
   refine Chk_intro (tk.wr hin hjn) fun g1 t1=>?_
   have fz:=fin0 g1 _ (by unfold k0B;simp [hpo]) t1
   simp -dsimp only [go_sem]
   exact ⟨by simp [Le,find,consO,x1,x2,x3,x4,x5,x6,x8,x9,x10],fz⟩
  rw [hpo] at mP
  cases hac:(!isK g 3 i&&!isK g 3 j)
  ·rw [hac] at x13
   simp -dsimp only [go_sem,x4,x8,x9,x10,x13,aKi,aPi,mP,e1,e2,r4.cell,r8.cell]
   refine Chk_intro (tk.wr hin hjn) fun g1 t1=>?_
   have fz:=fin0 g1 _ (by unfold k0B;simp [hac]) t1
   simp -dsimp only [go_sem]
   exact ⟨by simp [Le,find,consO,x1,x2,x3,x4,x5,x6,x8,x9,x10],fz⟩
  rw [hac] at x13
  by_cases ka2:(g.ev i).kind=2
  ·by_cases kb1:(g.ev j).kind=1
   ·simp -dsimp only [go_sem,x4,x8,x9,x10,x11,x12,x13,aKi,aPi,mP,e1,e2,beq_t ka2,beq_t kb1,r4.cell,r8.cell]
    refine Chk_intro (tk.wr hin hjn) fun g1 t1=>?_
    have fz:=fin0 g1 _ (by unfold k0B;rw [hac,hpo];simp [isK,ka2,kb1]) t1
    simp -dsimp only [go_sem]
    exact ⟨by simp [Le,find,consO,x1,x2,x3,x4,x5,x6,x8,x9,x10],fz⟩
   ·simp -dsimp only [go_sem,x4,x8,x9,x10,x11,x12,x13,aKi,aPi,mP,e1,e2,beq_t ka2,beq_f kb1,r4.cell,r8.cell]
    refine Chk_intro (tk.wr hin hjn) fun g1 t1=>?_
    have fz:=fin0 g1 _ (by unfold k0B;rw [hac,hpo];simp [isK,ka2,kb1]) t1
    simp -dsimp only [go_sem]
    exact ⟨by simp [Le,find,consO,x1,x2,x3,x4,x5,x6,x8,x9,x10],fz⟩
  ·simp -dsimp only [go_sem,x4,x8,x9,x10,x11,x13,aKi,aPi,mP,e1,e2,beq_f ka2,r4.cell,r8.cell]
   refine Chk_intro (tk.wr hin hjn) fun g1 t1=>?_
   have fz:=fin0 g1 _ (by unfold k0B;rw [hac,hpo];simp [isK,ka2]) t1
   simp -dsimp only [go_sem]
   exact ⟨by simp [Le,find,consO,x1,x2,x3,x4,x5,x6,x8,x9,x10],fz⟩
 clear p0 pF r8 tk R8x r1 r4 tp x1 x2 x3 x4 x5 x6 x8 x9 x10 x11 x12 x13 mP aPi aKi cE ci cj aK aP cP
 rintro e1_ g1 ⟨⟨x1,x2,x3,x4,x5,x6,x8,x9,x10,-⟩,p0,pF,r8,tk1⟩
 have r1:=R1.fr pF (by omega)
 have r4:=R4.fr pF (by omega)
 have tp:=t3.fr pF (by omega)
 unfold gcells at r1
 have p0_z:=p0.size
 have pF_z:=pF.size
 have r1_l:=r1.lt
 have r4_l:=r4.lt
 have r8_l:=r8.lt
 obtain ⟨kb',ko',hkk,aK⟩:=tab_addr tk1 (by omega)
 cases hkk
 obtain ⟨pb',po',hpp,aP⟩:=tab_addr tp (by omega)
 cases hpp
 have aKi:=aK i hin
 have aPi:=aP i hin
 have mK:=tk1.cell hin hjn
 have k0m:(if i=i∧j=j then k0B g i j else mixM i j g.n (kfM g) (fun _ _=>false) i j)=k0B g i j:=if_pos ⟨rfl,rfl⟩
 rw [k0m] at mK
 have mP:=tp.cell hin hjn
 have d6i:=pF.keep (d60 i hin) (by omega)
 have d6j:=pF.keep (d60 j hjn) (by omega)
 have w_row2:=tk1.row i hin
 refine w_joint (fun e h'=>Le [(1,.pointer (some ⟨b1,0,none⟩)),(2,.pointer (some ⟨b2,0,none⟩)),(3,.int .i64 g.n),(4,.pointer (some ⟨b4,0,none⟩)),(5,.slice (some ⟨fb,fo,none⟩) g.n c5),(6,.slice (some ⟨b6,0,none⟩) g.n g.n),(8,.pointer (some ⟨b8,0,none⟩)),(9,.int .i64 i),(10,.int .i64 j)] e∧Fr 0 0 h h'∧Fr 0 0 hF h'∧Rw h' b8 [.int .i64 g.n,.slice (some ⟨kb,ko,none⟩) g.n kc]∧Tab h' hF.size hG.size (.slice (some ⟨kb,ko,none⟩) g.n kc) g.n g.n Rk (fkM g i j 0)) ?_ ?_
 ·have fin1:∀ (g2:Heap) (v:Bool),v=k1B g i j→Sto g1 g2 (Rk i) j [.bool v]→Fr 0 0 h g2∧Fr 0 0 hF g2∧Rw g2 b8 [.int .i64 g.n,.slice (some ⟨kb,ko,none⟩) g.n kc]∧Tab g2 hF.size hG.size (.slice (some ⟨kb,ko,none⟩) g.n kc) g.n g.n Rk (fkM g i j 0):=fun g2 v hv s=>by
   have f1_:=s.fr
   refine ⟨p0.fresh f1_ (by omega),pF.fresh f1_ (by omega),r8.fr f1_ (by omega),(tk1.set (q:=j) hin s).congr fun a b _ _=>?_⟩
   unfold fkM fkV
   by_cases hab:a=i∧b=j
   ·rw [if_pos hab,if_pos hab,hv];simp
   ·rw [if_neg hab,if_neg hab,if_neg hab]
  cases hk0:k0B g i j
  rotate_left
  ·rw [hk0] at mK
   simp -dsimp only [go_sem,x8,x9,x10,aKi,e1,e2,mK,r8.cell]
   refine Chk_intro (tk1.wr hin hjn) fun g2 t2=>?_
   have fz:=fin1 g2 _ (by unfold k1B;simp [hk0]) t2
   simp -dsimp only [go_sem]
   exact ⟨by simp [Le,find,consO,x1,x2,x3,x4,x5,x6,x8,x9,x10],fz⟩
  rw [hk0] at mK
  cases hpo:relM g 0 i j
  ·rw [hpo] at mP
   simp -dsimp only [go_sem,x4,x8,x9,x10,aKi,aPi,e1,e2,mK,mP,r4.cell,r8.cell]
   refine Chk_intro (tk1.wr hin hjn) fun g2 t2=>?_
   have fz:=fin1 g2 _ (by unfold k1B;simp [hk0,hpo]) t2
   simp -dsimp only [go_sem]
   exact ⟨by simp [Le,find,consO,x1,x2,x3,x4,x5,x6,x8,x9,x10],fz⟩
  rw [hpo] at mP
  cases hti:tiedB g i
  ·rw [hti] at d6i
   simp -dsimp only [go_sem,x4,x6,x8,x9,x10,aKi,aPi,e1,e2,mK,mP,d6i,d6j,r4.cell,r8.cell]
   refine Chk_intro (tk1.wr hin hjn) fun g2 t2=>?_
   have fz:=fin1 g2 _ (by unfold k1B;simp [hk0,hpo,hti]) t2
   simp -dsimp only [go_sem]
   exact ⟨by simp [Le,find,consO,x1,x2,x3,x4,x5,x6,x8,x9,x10],fz⟩
  ·rw [hti] at d6i
   simp -dsimp only [go_sem,x4,x6,x8,x9,x10,aKi,aPi,e1,e2,mK,mP,d6i,r4.cell,r8.cell]
   refine Chk_intro (tk1.wr hin hjn) fun g2 t2=>?_
   have fz:=fin1 g2 _ (by unfold k1B;simp [hk0,hpo,hti]) t2
   simp -dsimp only [go_sem]
   exact ⟨by simp [Le,find,consO,x1,x2,x3,x4,x5,x6,x8,x9,x10],fz⟩
 clear p0 pF r8 tk1 r1 r4 tp x1 x2 x3 x4 x5 x6 x8 x9 x10 mP aPi aKi aK aP mK d6i d6j k0m
 rintro e2_ g2 ⟨⟨x1,x2,x3,x4,x5,x6,x8,x9,x10,-⟩,p0,pF,r8,tk2⟩
 have R8':=r8
 have p0_z:=p0.size
 have pF_z:=pF.size
 have r8_l:=r8.lt
 simp -dsimp only [go_sem,x1,x2,x3,x4,x5,x6,x8,x9,x10]
 refine loop_intro (fun k:Nat=>[(1,.pointer (some ⟨b1,0,none⟩)),(2,.pointer (some ⟨b2,0,none⟩)),(3,.int .i64 g.n),(4,.pointer (some ⟨b4,0,none⟩)),(5,.slice (some ⟨fb,fo,none⟩) g.n c5),(6,.slice (some ⟨b6,0,none⟩) g.n g.n),(8,.pointer (some ⟨b8,0,none⟩)),(9,.int .i64 i),(10,.int .i64 j),(14,.int .i64 k)])
  (fun k h'=>k≤g.n∧Fr 0 0 h h'∧Fr 0 0 hF h'∧Rw h' b8 [.int .i64 g.n,.slice (some ⟨kb,ko,none⟩) g.n kc]∧Tab h' hF.size hG.size (.slice (some ⟨kb,ko,none⟩) g.n kc) g.n g.n Rk (fkM g i j k)) (fun k=>g.n - k) 0 ?_ ?_ ?_
 ·simp [Le,find]
 ·exact ⟨by omega,p0,pF,R8',tk2⟩
 clear p0 pF r8 tk2 R8' x1 x2 x3 x4 x5 x6 x8 x9 x10
 rintro k g3 ⟨hk,p0,pF,r8,tk⟩
 have r1:=R1.fr pF (by omega)
 have r4:=R4.fr pF (by omega)
 have tp:=t3.fr pF (by omega)
 unfold gcells at r1
 have p0_z:=p0.size
 have pF_z:=pF.size
 have r1_l:=r1.lt
 have r4_l:=r4.lt
 have r8_l:=r8.lt
 by_cases hkn:k<g.n
 rotate_left
 ·obtain rfl:k=g.n:=by omega
  simp -dsimp only [go_sem,Int.lt_irrefl]
  simp -dsimp (disch:=omega) only [wrap64]
  exact ⟨j+1,by omega,by simp [Le,find],by omega,p0,pF,r8,tk.congr fun a b _ _=>fkM_end⟩
 have e3:((k:Int)<(g.n:Int)):=by omega
 have e1:((i:Int)<(g.n:Int)):=by omega
 have e2:((j:Int)<(g.n:Int)):=by omega
 have mK:=tk.cell hin hjn
 have mk0:fkM g i j k i j=fkV g i j k:=by unfold fkM;rw [if_pos ⟨rfl,rfl⟩]
 rw [mk0] at mK
 obtain ⟨kb',ko',hkk,aK⟩:=tab_addr tk (by omega)
 cases hkk
 obtain ⟨pb',po',hpp,aP⟩:=tab_addr tp (by omega)
 cases hpp
 have dF:=pF.keep (dF0 k hkn) (by omega)
 have aKi:=aK i hin
 have aPi:=aP i hin
 have aPk:=aP k hkn
 have mP:=tp.cell hin hkn
 have mQ:=tp.cell hkn hjn
 have hsu:=fkV_succ (g:=g) (i:=i) (j:=j) (k:=k)
 unfold stepB at hsu
 have fin:∀ (g4:Heap) (v:Bool),v=fkV g i j (k+1)→Sto g3 g4 (Rk i) j [.bool v]→Tab g4 hF.size hG.size (.slice (some ⟨kb,ko,none⟩) g.n kc) g.n g.n Rk (fkM g i j (k+1)):=fun g4 v hv s=>by
  refine (tk.set (q:=j) hin s).congr fun a b _ _=>?_
  unfold fkM
  by_cases hab:a=i∧b=j
  ·rw [if_pos hab,if_pos hab,hv]
  ·rw [if_neg hab,if_neg hab,if_neg hab]
 have w_row:=tk.row i hin
 cases hv:fkV g i j k
 ·rw [hv] at mK hsu
  cases hf:fullB g k
  ·rw [hf] at dF hsu
   simp -dsimp only [go_sem,e3,aKi,e1,e2,mK,dF,r8.cell]
   refine Chk_intro (tk.wr hin hjn) fun g4 s4=>?_
   have tkn:=fin g4 _ (by rw [hsu];simp) s4
   have f4_:=s4.fr
   replace p0:=p0.F f4_
   replace pF:=pF.F f4_
   replace r8:=r8.F f4_
   simp -dsimp only [go_sem]
   simp -dsimp (disch:=omega) only [wrap64]
   exact ⟨k+1,by omega,by simp [Le,find],by omega,p0,pF,r8,tkn⟩
  ·rw [hf] at dF hsu
   cases hp:relM g 0 i k
   ·rw [hp] at mP hsu
    simp -dsimp only [go_sem,e3,aKi,e1,e2,mK,dF,aPi,mP,r4.cell,r8.cell]
    refine Chk_intro (tk.wr hin hjn) fun g4 s4=>?_
    have tkn:=fin g4 _ (by rw [hsu];simp) s4
    have f4_:=s4.fr
    replace p0:=p0.F f4_
    replace pF:=pF.F f4_
    replace r8:=r8.F f4_
    simp -dsimp only [go_sem]
    simp -dsimp (disch:=omega) only [wrap64]
    exact ⟨k+1,by omega,by simp [Le,find],by omega,p0,pF,r8,tkn⟩
   ·rw [hp] at mP hsu
    simp -dsimp only [go_sem,e3,aKi,e1,e2,mK,dF,aPi,mP,aPk,mQ,r4.cell,r8.cell]
    refine Chk_intro (tk.wr hin hjn) fun g4 s4=>?_
    have tkn:=fin g4 _ (by rw [hsu];simp) s4
    have f4_:=s4.fr
    replace p0:=p0.F f4_
    replace pF:=pF.F f4_
    replace r8:=r8.F f4_
    simp -dsimp only [go_sem]
    simp -dsimp (disch:=omega) only [wrap64]
    exact ⟨k+1,by omega,by simp [Le,find],by omega,p0,pF,r8,tkn⟩
 ·rw [hv] at mK hsu
  simp -dsimp only [go_sem,e3,aKi,e1,e2,mK,r8.cell]
  refine Chk_intro (tk.wr hin hjn) fun g4 s4=>?_
  have tkn:=fin g4 _ (by rw [hsu];simp) s4
  have f4_:=s4.fr
  replace p0:=p0.F f4_
  replace pF:=pF.F f4_
  replace r8:=r8.F f4_
  simp -dsimp only [go_sem]
  simp -dsimp (disch:=omega) only [wrap64]
  exact ⟨k+1,by omega,by simp [Le,find],by omega,p0,pF,r8,tkn⟩
end
section
variable {h : Heap} {q : GV} {g : Gr}
set_option maxHeartbeats 2000000 in
theorem ref12_Tso (t:GrAt h q g) :
  Con Tryz.prog 9 #[.agg (gcells q g).toArray] h fun v h'=>Fr 0 0 h h'∧if g.good=true then ∃ w,v=.tuple #[.int .i64 (tsoAx g).1,w,.int .i64 0]∧Holder 1 h' w (tsoAx g).2.length (intsV (tsoAx g).2) h.size
   else v=.tuple #[.int .i64 0,.slice none 0 0,.int .i64 4]:=by
 have p0:Fr 0 0 h h:=.refl _ _ _
 by_cases hg:g.good=true
 rotate_left
 ·simp only [if_neg hg]
  refine con_q27 ?_
  unfold gcells
  simp -dsimp only [go_sem]
  intro b1 h1 n1
  have n1_a:=n1.at_
  have n1_z:=n1.size
  replace p0:=p0.F n1.f0
  have r1:=n1.row
  simp -dsimp only [go_sem,r1.cell]
  refine call_of (ref8_Good (t.fr p0)) ?_
  rintro v2 h2 ⟨f2,rfl⟩
  have f2_z:=f2.size
  replace p0:=p0.F f2
  replace r1:=r1.F f2
  rw [Bool.not_eq_true] at hg
  rw [hg]
  simp -dsimp only [go_sem]
  exact p0
 simp only [if_pos hg]
 have hn:=(good_n hg).1
 have nl:∀ l:List Nat,(natsI l).length=l.length:=fun l=>by simp [natsI]
 refine con_q27 ?_
 unfold gcells
 simp -dsimp only [go_sem]
 intro b1 h1 n1
 have n1_a:=n1.at_
 have n1_z:=n1.size
 replace p0:=p0.F n1.f0
 have r1:=n1.row
 simp -dsimp only [go_sem,r1.cell]
 refine call_of (ref8_Good (t.fr p0)) ?_
 rintro v2 h2 ⟨f2,rfl⟩
 have f2_z:=f2.size
 replace p0:=p0.F f2
 replace r1:=r1.F f2
 rw [hg]
 simp -dsimp only [go_sem,r1.cell]
 refine call_of (ref8_Po (t.fr p0) hn) ?_
 rintro v h3 ⟨f3,t3⟩
 replace t3:=ra_of' t3
 have f3_z:=f3.size
 replace p0:=p0.F f3
 replace r1:=r1.F f3
 simp -dsimp only [go_sem,r1.cell]
 refine call_of (ref8_Same (t.fr p0) hg) ?_
 rintro v h4 ⟨f4,t4⟩
 replace t3:=t3.fr f4
 have f4_z:=f4.size
 replace p0:=p0.F f4
 replace r1:=r1.F f4
 obtain ⟨_,_,u3⟩:=t3
 simp -dsimp only [go_sem,r1.cell]
 refine call_of (ref1_Inter u3 t4) ?_
 rintro v h5 ⟨f5,t5⟩
 rw [Nat.max_self] at t5
 replace t5:=ra_of' t5
 have f5_z:=f5.size
 replace p0:=p0.F f5
 replace r1:=r1.F f5
 simp -dsimp only [go_sem,r1.cell]
 refine call_of (ref8_Rf (t.fr p0) hn) ?_
 rintro v h6 ⟨f6,t6⟩
 replace t6:=ra_of' t6
 replace t5:=t5.fr f6
 have f6_z:=f6.size
 replace p0:=p0.F f6
 replace r1:=r1.F f6
 simp -dsimp only [go_sem,r1.cell]
 refine call_of (ref8_Co (t.fr p0) hg) ?_
 rintro v h7 ⟨f7,t7⟩
 replace t7:=ra_of' t7
 replace t5:=t5.fr f7
 replace t6:=t6.fr f7
 have f7_z:=f7.size
 replace p0:=p0.F f7
 replace r1:=r1.F f7
 simp -dsimp only [go_sem,r1.cell]
 refine call_of (ref8_Fr (t.fr p0) hg) ?_
 rintro v h8 ⟨f8,t8⟩
 replace t8:=ra_of' t8
 replace t5:=t5.fr f8
 replace t6:=t6.fr f8
 replace t7:=t7.fr f8
 have f8_z:=f8.size
 replace p0:=p0.F f8
 replace r1:=r1.F f8
 obtain ⟨a5,c5,rfl⟩:=t5.is
 obtain ⟨a6,c6,rfl⟩:=t6.is
 obtain ⟨a7,c7,rfl⟩:=t7.is
 obtain ⟨a8,c8,rfl⟩:=t8.is
 simp -dsimp only [go_sem,r1.cell]
 intro b9 h9 n9
 have n9_z:=n9.az
 replace p0:=p0.F n9.f0
 replace r1:=r1.F n9.f0
 have r9:=n9.row
 try simp -dsimp only [go_sem] at n9
 try simp -dsimp only [go_sem] at r9
 simp -dsimp only [go_sem]
 refine call_of (ref12_any (CR.mk [(.slice a5 g.n c5,interM g.n (relM g 0) g.n (relM g 4)),(.slice a6 g.n c6,relM g 1),(.slice a7 g.n c7,relM g 2),(.slice a8 g.n c8,relM g 9)] r9 (ra_cons (t5.fr n9.fr) (ra_cons (t6.fr n9.fr) (ra_cons (t7.fr n9.fr) (ra_cons (t8.fr n9.fr) ra_nil)))) (by simp))) ?_
 rintro v h10 ⟨f10,t10,-⟩
 have f10_z:=f10.size
 replace p0:=p0.F f10
 replace r1:=r1.F f10
 replace r9:=r9.F f10
 replace t10:=RA.congr (N:=inM g) t10 fun i j hi hj=>by rw [oM_in hi hj];show (interM g.n (relM g 0) g.n (relM g 4) i j||_)=_;rw [interM_in hi hj];simp [inM,Bool.or_assoc]
 simp -dsimp only [go_sem,r1.cell]
 refine call_of (ref1_Cycle t10.choose_spec.choose_spec) ?_
 rintro v11 h11 ⟨f11,o11⟩
 have f11_z:=f11.size
 replace p0:=p0.F f11
 replace r1:=r1.F f11
 replace r9:=r9.F f11
 obtain ⟨a11,c11,rfl⟩:=o11.is
 simp -dsimp only [go_sem,r1.cell]
 by_cases h1':cycS g.n (inM g)=[]
 rotate_left
 ·have hl:(((cycS g.n (inM g)).length:Nat):Int) > 0:=by have:=List.length_pos_iff.2 h1';omega
  simp -dsimp only [go_sem,hl]
  have hA:tsoAx g=(1,natsI (cycS g.n (inM g))):=by unfold tsoAx;rw [if_pos h1']
  rw [hA]
  refine ⟨p0,_,rfl,?_⟩
  dsimp only
  rw [natsV_ints] at o11
  rw [nl]
  exact o11.lower (by omega)
 have hl:¬ (((cycS g.n (inM g)).length:Nat):Int) > 0:=by rw [h1'];decide
 clear o11
 simp -dsimp only [go_sem,hl,r1.cell]
 refine call_of (ref12_torn (t.fr p0) hg) ?_
 rintro v12 h12 ⟨f12,o12⟩
 have f12_z:=f12.size
 replace p0:=p0.F f12
 replace r1:=r1.F f12
 replace r9:=r9.F f12
 obtain ⟨a12,c12,rfl⟩:=o12.is
 simp -dsimp only [go_sem]
 by_cases h2':atomS g=[]
 rotate_left
 ·have hl:(((atomS g).length:Nat):Int) > 0:=by have:=List.length_pos_iff.2 h2';omega
  simp -dsimp only [go_sem,hl]
  have hA:tsoAx g=(2,atomS g):=by unfold tsoAx;rw [if_neg (by simp [h1']),if_pos h2']
  rw [hA]
  exact ⟨p0,_,rfl,o12.lower (by omega)⟩
 have hl:¬ (((atomS g).length:Nat):Int) > 0:=by rw [h2'];decide
 clear o12
 simp -dsimp only [go_sem,hl,r1.cell]
 refine call_of (ref12_Global (t.fr p0) hg) ?_
 rintro v13 h13 ⟨f13,t13⟩
 have f13_z:=f13.size
 replace p0:=p0.F f13
 replace r1:=r1.F f13
 replace r9:=r9.F f13
 obtain ⟨a13,c13,rfl⟩:=t13.is
 simp -dsimp only [go_sem]
 refine call_of (ref1_Cycle t13.choose_spec.choose_spec) ?_
 rintro v14 h14 ⟨f14,o14⟩
 have f14_z:=f14.size
 replace p0:=p0.F f14
 replace r1:=r1.F f14
 replace r9:=r9.F f14
 obtain ⟨a14,c14,rfl⟩:=o14.is
 simp -dsimp only [go_sem]
 by_cases h3':cycS g.n (globM g)=[]
 rotate_left
 ·have hl:(((cycS g.n (globM g)).length:Nat):Int) > 0:=by have:=List.length_pos_iff.2 h3';omega
  simp -dsimp only [go_sem,hl]
  have hA:tsoAx g=(3,natsI (cycS g.n (globM g))):=by unfold tsoAx;rw [if_neg (by simp [h1']),if_neg (by simp [h2']),if_pos h3']
  rw [hA]
  refine ⟨p0,_,rfl,?_⟩
  dsimp only
  rw [natsV_ints] at o14
  rw [nl]
  exact o14.lower (by omega)
 have hl:¬ (((cycS g.n (globM g)).length:Nat):Int) > 0:=by rw [h3'];decide
 simp -dsimp only [go_sem,hl]
 have hA:tsoAx g=(0,[]):=by unfold tsoAx;rw [if_neg (by simp [h1']),if_neg (by simp [h2']),if_neg (by simp [h3'])]
 rw [hA]
 exact ⟨p0,_,rfl,.none _ _ _⟩
end
end Go.Proofs.Tst
/-
  SeqChecks.
-/
namespace Go.Proofs.Tst
open Go Go.Vc
def ksA (g:Gr):Int:=if g.good=true then (scAx g).1 else 0
def ksL (g:Gr):List Int:=if g.good=true then (scAx g).2 else []
def ksE (g:Gr):Int:=if g.good=true then 0 else 4
theorem ksL_len {g:Gr}:(ksL g).length≤g.n+2:=by
 have:=scAx_len (g:=g)
 unfold ksL;split
 ·exact this
 ·simp
theorem ks_res {g:Gr} {h':Heap} {lo:Nat} {v:Value} (w:if g.good=true then ∃ w,v=.tuple #[.int .i64 (scAx g).1,w,.int .i64 0]∧Holder 1 h' w (scAx g).2.length (intsV (scAx g).2) lo else v=.tuple #[.int .i64 0,.slice none 0 0,.int .i64 4]) :
  ∃ w,v=.tuple #[.int .i64 (ksA g),w,.int .i64 (ksE g)]∧Holder 1 h' w (ksL g).length (intsV (ksL g)) lo:=by
 unfold ksA ksL ksE
 by_cases hc:g.good=true
 ·simp only [if_pos hc] at w ⊢;exact w
 ·simp only [if_neg hc] at w ⊢;exact ⟨_,w,.none _ _ _⟩
def ktA (g:Gr):Int:=if g.good=true then (tsoAx g).1 else 0
def ktL (g:Gr):List Int:=if g.good=true then (tsoAx g).2 else []
def ktE (g:Gr):Int:=if g.good=true then 0 else 4
theorem ktL_len {g:Gr}:(ktL g).length≤g.n+2:=by
 have:=tsoAx_len (g:=g)
 unfold ktL;split
 ·exact this
 ·simp
theorem kt_res {g:Gr} {h':Heap} {lo:Nat} {v:Value} (w:if g.good=true then ∃ w,v=.tuple #[.int .i64 (tsoAx g).1,w,.int .i64 0]∧Holder 1 h' w (tsoAx g).2.length (intsV (tsoAx g).2) lo else v=.tuple #[.int .i64 0,.slice none 0 0,.int .i64 4]) :
  ∃ w,v=.tuple #[.int .i64 (ktA g),w,.int .i64 (ktE g)]∧Holder 1 h' w (ktL g).length (intsV (ktL g)) lo:=by
 unfold ktA ktL ktE
 by_cases hc:g.good=true
 ·simp only [if_pos hc] at w ⊢;exact w
 ·simp only [if_neg hc] at w ⊢;exact ⟨_,w,.none _ _ _⟩
set_option maxHeartbeats 8000000 in
theorem c_law12_SeqChecks {h:Heap} {q:GV} {g:Gr} (t:GrAt h q g) (ht:TabAt h) :
  Con Tryz.prog 3 #[.agg (gcells q g).toArray] h fun v h'=>Fr 0 0 h h'∧v=.bool true:=by
 refine con_q14 ?_
 have hz:0<h.size:=hcell_lt (ht 0 0 rfl)
 have be:=t.fits.e
 have hen:g.evs.length=g.n:=rfl
 have p0:Fr 0 0 h h:=.refl _ _ _
 have hrl1:=ksL_len (g:=g)
 have hrl2:=ktL_len (g:=g)
 unfold gcells
 simp -dsimp only [go_sem]
 intro b1 h1 n1
 have n1_z:=n1.az
 replace p0:=p0.F n1.f0
 have r1:=n1.row
 simp -dsimp only [go_sem,r1.cell]
 refine call_of (ref8_Copied (t.fr p0) (by omega)) ?_
 rintro v2 h2 ⟨f2,q',rfl,w⟩
 have f2_z:=f2.size
 replace p0:=p0.F f2
 replace r1:=r1.F f2
 have t':=w.at_
 clear w
 have p2:Fr 0 0 h2 h2:=.refl _ _ _
 unfold gcells
 simp -dsimp only [go_sem]
 intro b3 h3 n3
 have n3_z:=n3.az
 replace p0:=p0.F n3.f0
 replace r1:=r1.F n3.f0
 replace p2:=p2.F n3.f0
 have r3:=n3.row
 simp -dsimp only [go_sem]
 refine Chk_intro (r3.W) fun h4 s4=>?_
 have s4_z:=s4.size
 replace p0:=p0.F s4.fr
 replace r1:=r1.F s4.fr
 replace p2:=p2.F s4.fr
 replace r3:=s4.row r3
 try simp only [cl_int,cl_bool,cl_slice,cl_ptr,putAt_one,zs0,zs1,ivec_set,brow_upd] at r3
 simp -dsimp only [go_sem] at r3
 simp -dsimp only [go_sem,r3.cell]
 refine call_of (seq_Sc (t'.fr p2) (ht.fr p0 (.inr rfl))) ?_
 rintro v10 h10 ⟨f10,w10⟩
 have f10_z:=f10.size
 replace p0:=p0.F f10
 replace r1:=r1.F f10
 replace p2:=p2.F f10
 replace r3:=r3.F f10
 obtain ⟨u10,rfl,o10⟩:=ks_res w10
 clear w10
 obtain ⟨a10,c10,rfl⟩:=o10.is
 have tp10:=o10.top
 simp -dsimp only [go_sem,r1.cell]
 refine call_of (ref12_Sc (t.fr p0)) ?_
 rintro v11 h11 ⟨f11,w11⟩
 have f11_z:=f11.size
 replace p0:=p0.F f11
 replace r1:=r1.F f11
 replace p2:=p2.F f11
 replace r3:=r3.F f11
 replace o10:=o10.fr f11 (by have:=o10.at_;omega)
 obtain ⟨u11,rfl,o11⟩:=ks_res w11
 clear w11
 obtain ⟨a11,c11,rfl⟩:=o11.is
 have gz10:h4.size≤h10.size∧h10.size≤h11.size∧b1<h4.size∧b3<h4.size∧h.size≤b1∧h2.size≤b3∧h2.size≤h4.size∧h.size≤h2.size:=by omega
 simp -dsimp only [go_sem,bne_self_eq_false]
 refine call_of (c_law12_ints (l:=ksL g) (m:=ksL g) o10.rd o11.rd (by omega)) ?_
 rintro v12 h12 ⟨hh,rfl⟩
 obtain rfl:h11=h12:=hh.symm
 simp -dsimp only [go_sem]
 have R3:Rw h11 b3 (gcells q' g):=r3
 have R1:Rw h11 b1 (gcells q g):=r1
 generalize hnl10:(ksL g).length=nl10 at o10
 refine loop_intro (fun i:Nat=>[(1,.pointer (some ⟨b1,0,none⟩)),(3,.pointer (some ⟨b3,0,none⟩)),(5,.slice a10 nl10 c10),(8,.slice a11 (ksL g).length c11),(10,.int .i64 i)])
  (fun i h'=>i≤nl10∧Fr 0 0 h h'∧Fr 0 0 h2 h'∧Rw h' b1 (gcells q g)∧Rw h' b3 (gcells q' g)∧(∃ ys,Holder 1 h' (.slice a10 nl10 c10) nl10 ys h4.size)∧Holder 1 h' (.slice a11 (ksL g).length c11) (ksL g).length (intsV (ksL g)) h10.size) (fun i=>nl10 - i) 0 ?_ ?_ ?_
 ·simp [Le,find,hnl10]
 ·exact ⟨by omega,p0,p2,R1,R3,⟨_,o10.lower (by omega)⟩,o11⟩
 clear p0 p2 r1 r3 o10 o11 R1 R3
 rintro i h13 ⟨hi,p0,p2,r1,r3,⟨ys,osp⟩,o11⟩
 unfold gcells at r1 r3
 have tps:bh (.slice a10 nl10 c10)≤h10.size:=by rw [← hnl10];exact tp10
 have p0_z:=p0.size
 have p2_z:=p2.size
 have r1_l:=r1.lt
 have r3_l:=r3.lt
 have o11_l:=o11.top
 by_cases hlt:i<nl10
 ·have e1:((i:Int)<(nl10:Int)):=by omega
  obtain ⟨b,c,rest,he,-,-,hb⟩:=osp.blk (by omega)
  cases he
  have tps:b+1≤h10.size:=tps
  simp -dsimp only [go_sem,e1]
  refine Chk_intro (osp.wrAt hlt) fun h14 s14=>?_
  have osp':=osp.set hlt s14
  clear osp
  have f14:=s14.fr
  have f14_z:=f14.size
  replace p0:=p0.F f14
  replace p2:=p2.F f14
  replace r1:=r1.F f14
  replace r3:=r3.F f14
  replace o11:=o11.fr f14 (by have:=o11.at_;omega)
  simp -dsimp only [go_sem]
  simp -dsimp (disch:=omega) only [wrap64]
  exact ⟨i+1,by omega,by simp [Le,find],by omega,p0,p2,r1,r3,⟨_,osp'⟩,o11⟩
 obtain rfl:i=nl10:=by omega
 clear osp tps
 simp -dsimp only [go_sem,Int.lt_irrefl,r3.cell]
 refine call_of (seq_Sc (t'.fr p2) (ht.fr p0 (.inr rfl))) ?_
 rintro v15 h15 ⟨f15,w15⟩
 have f15_z:=f15.size
 replace p0:=p0.F f15
 replace p2:=p2.F f15
 replace r1:=r1.F f15
 replace r3:=r3.F f15
 replace o11:=o11.fr f15 (by have:=o11.at_;omega)
 obtain ⟨u15,rfl,o15⟩:=ks_res w15
 clear w15
 obtain ⟨a15,c15,rfl⟩:=o15.is
 simp -dsimp only [go_sem]
 refine call_of (c_law12_ints (l:=ksL g) (m:=ksL g) o15.rd o11.rd (by omega)) ?_
 rintro v16 h16 ⟨hh,rfl⟩
 obtain rfl:h15=h16:=hh.symm
 clear o15 o11
 simp -dsimp only [go_sem,r3.cell]
 have gmid:b1<h15.size∧b3<h15.size∧h.size≤b1∧h2.size≤b3∧h2.size≤h15.size∧h.size≤h2.size:=by omega
 refine call_of (seq_Tso (t'.fr p2) (ht.fr p0 (.inr rfl))) ?_
 rintro v20 h20 ⟨f20,w20⟩
 have f20_z:=f20.size
 replace p0:=p0.F f20
 replace p2:=p2.F f20
 replace r1:=r1.F f20
 replace r3:=r3.F f20
 obtain ⟨u20,rfl,o20⟩:=kt_res w20
 clear w20
 obtain ⟨a20,c20,rfl⟩:=o20.is
 have tp20:=o20.top
 simp -dsimp only [go_sem,r1.cell]
 refine call_of (ref12_Tso (t.fr p0)) ?_
 rintro v21 h21 ⟨f21,w21⟩
 have f21_z:=f21.size
 replace p0:=p0.F f21
 replace p2:=p2.F f21
 replace r1:=r1.F f21
 replace r3:=r3.F f21
 replace o20:=o20.fr f21 (by have:=o20.at_;omega)
 obtain ⟨u21,rfl,o21⟩:=kt_res w21
 clear w21
 obtain ⟨a21,c21,rfl⟩:=o21.is
 have gz20:h15.size≤h20.size∧h20.size≤h21.size∧b1<h15.size∧b3<h15.size∧h.size≤b1∧h2.size≤b3∧h2.size≤h15.size∧h.size≤h2.size:=by omega
 simp -dsimp only [go_sem,bne_self_eq_false]
 refine call_of (c_law12_ints (l:=ktL g) (m:=ktL g) o20.rd o21.rd (by omega)) ?_
 rintro v22 h22 ⟨hh,rfl⟩
 obtain rfl:h21=h22:=hh.symm
 simp -dsimp only [go_sem]
 have R3:Rw h21 b3 (gcells q' g):=r3
 have R1:Rw h21 b1 (gcells q g):=r1
 generalize hnl20:(ktL g).length=nl20 at o20
 refine loop_intro (fun i:Nat=>[(1,.pointer (some ⟨b1,0,none⟩)),(3,.pointer (some ⟨b3,0,none⟩)),(5,.slice a20 nl20 c20),(8,.slice a21 (ktL g).length c21),(11,.int .i64 i)])
  (fun i h'=>i≤nl20∧Fr 0 0 h h'∧Fr 0 0 h2 h'∧Rw h' b1 (gcells q g)∧Rw h' b3 (gcells q' g)∧(∃ ys,Holder 1 h' (.slice a20 nl20 c20) nl20 ys h15.size)∧Holder 1 h' (.slice a21 (ktL g).length c21) (ktL g).length (intsV (ktL g)) h20.size) (fun i=>nl20 - i) 0 ?_ ?_ ?_
 ·simp [Le,find,hnl20]
 ·exact ⟨by omega,p0,p2,R1,R3,⟨_,o20.lower (by omega)⟩,o21⟩
 clear p0 p2 r1 r3 o20 o21 R1 R3
 rintro i h23 ⟨hi,p0,p2,r1,r3,⟨ys,osp⟩,o21⟩
 unfold gcells at r1 r3
 have tps:bh (.slice a20 nl20 c20)≤h20.size:=by rw [← hnl20];exact tp20
 have p0_z:=p0.size
 have p2_z:=p2.size
 have r1_l:=r1.lt
 have r3_l:=r3.lt
 have o21_l:=o21.top
 by_cases hlt:i<nl20
 ·have e1:((i:Int)<(nl20:Int)):=by omega
  obtain ⟨b,c,rest,he,-,-,hb⟩:=osp.blk (by omega)
  cases he
  have tps:b+1≤h20.size:=tps
  simp -dsimp only [go_sem,e1]
  refine Chk_intro (osp.wrAt hlt) fun h24 s24=>?_
  have osp':=osp.set hlt s24
  clear osp
  have f24:=s24.fr
  have f24_z:=f24.size
  replace p0:=p0.F f24
  replace p2:=p2.F f24
  replace r1:=r1.F f24
  replace r3:=r3.F f24
  replace o21:=o21.fr f24 (by have:=o21.at_;omega)
  simp -dsimp only [go_sem]
  simp -dsimp (disch:=omega) only [wrap64]
  exact ⟨i+1,by omega,by simp [Le,find],by omega,p0,p2,r1,r3,⟨_,osp'⟩,o21⟩
 obtain rfl:i=nl20:=by omega
 clear osp tps
 simp -dsimp only [go_sem,Int.lt_irrefl,r3.cell]
 refine call_of (seq_Tso (t'.fr p2) (ht.fr p0 (.inr rfl))) ?_
 rintro v25 h25 ⟨f25,w25⟩
 have f25_z:=f25.size
 replace p0:=p0.F f25
 replace p2:=p2.F f25
 replace r1:=r1.F f25
 replace r3:=r3.F f25
 replace o21:=o21.fr f25 (by have:=o21.at_;omega)
 obtain ⟨u25,rfl,o25⟩:=kt_res w25
 clear w25
 obtain ⟨a25,c25,rfl⟩:=o25.is
 simp -dsimp only [go_sem]
 refine call_of (c_law12_ints (l:=ktL g) (m:=ktL g) o25.rd o21.rd (by omega)) ?_
 rintro v26 h26 ⟨hh,rfl⟩
 obtain rfl:h25=h26:=hh.symm
 clear o25 o21
 simp -dsimp only [go_sem,r1.cell,r3.cell]
 refine call_of (ref8_Alike (t'.fr p2) (t.fr p0)) ?_
 rintro v30 h30 ⟨f30,rfl⟩
 have f30_z:=f30.size
 replace p0:=p0.F f30
 replace p2:=p2.F f30
 replace r1:=r1.F f30
 replace r3:=r3.F f30
 simp -dsimp only [go_sem]
 refine call_of (law12_lives (ht.fr p0 (.inr rfl))) ?_
 rintro v31 h31 ⟨f31,rfl⟩
 have f31_z:=f31.size
 replace p0:=p0.F f31
 replace p2:=p2.F f31
 replace r1:=r1.F f31
 replace r3:=r3.F f31
 simp -dsimp only [go_sem]
 exact p0
end Go.Proofs.Tst
/-
  SeqChecks and its arguments.
-/
namespace Go.Proofs.Tst
end Go.Proofs.Tst
