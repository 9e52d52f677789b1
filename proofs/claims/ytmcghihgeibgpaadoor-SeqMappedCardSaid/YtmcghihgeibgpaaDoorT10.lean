/-
  Contracts of functions that the law reaches: what each returns and what it leaves in memory. Conditions stand in each.
-/
import Derived.Test.YtmcghihgeibgpaaDoorT9
set_option linter.all false
set_option maxRecDepth 2000
/-
  seq: global; Sc, Tso.
-/
namespace Go.Proofs.Tst
open Go Go.Vc
section
variable {h : Heap} {q : GV} {g : Gr} {c : Nat → Nat} {ra wa fa : Option Addr} {rn wn fn : Nat}
def twB (g:Gr) (j:Nat):Bool:=isM g 5 j||isM g 15 j
def fulTo (g:Gr) (i j:Nat):Bool:=twB g j&&(!decide (j<i)||isK g 3 j)
def accTo (g:Gr) (i j:Nat):Bool:=decide (j<i)&&!isK g 3 j
def tieTo (g:Gr) (i j:Nat):Bool:=(g.rmw.take i).any fun p=>p.1==(j:Int)||p.2==(j:Int)
theorem with_brow:boolsV (withB g [5,15])=brow g.n (fulTo g 0):=by
 apply List.ext_getElem?
 intro j
 by_cases hj:j<g.n
 ·rw [brow_get hj]
  have:(withB g [5,15])[j]?=some (twB g j):=by
   unfold withB
   rw [List.getElem?_map,Gr.ev_get hj]
   simp only [Option.map_some,Option.some.injEq]
   rw [Bool.eq_iff_iff];simp [twB,isM]
  rw [boolsV_get this]
  simp [fulTo]
 ·have h1:(withB g [5,15]).length=g.n:=by unfold withB;simp;rfl
  rw [List.getElem?_eq_none (by simp [boolsV,h1];omega),List.getElem?_eq_none (by simp;omega)]
theorem fulTo_succ {i:Nat}:brow g.n (upd (fulTo g i) i (twB g i&&isK g 3 i))=brow g.n (fulTo g (i+1)):=brow_congr fun j _=>by
 unfold upd fulTo
 by_cases h1:j=i
 ·subst h1;simp
 ·rw [if_neg h1]
  have:decide (j<i+1)=decide (j<i):=by simp;omega
  rw [this]
theorem accTo_succ {i:Nat}:brow g.n (upd (accTo g i) i (!isK g 3 i))=brow g.n (accTo g (i+1)):=brow_congr fun j _=>by
 unfold upd accTo
 by_cases h1:j=i
 ·subst h1;simp
 ·rw [if_neg h1]
  have:decide (j<i+1)=decide (j<i):=by simp;omega
  rw [this]
theorem tieTo_succ {i a b:Nat} (hq:g.rmw[i]?=some ((a:Int),(b:Int))):brow g.n (upd (upd (tieTo g i) a true) b true)=brow g.n (tieTo g (i+1)):=brow_congr fun j _=>by
 unfold upd tieTo
 rw [List.take_add_one,hq,Option.toList_some,List.any_append]
 by_cases h1:j=b
 ·subst h1;simp
 ·rw [if_neg h1]
  have e2:((b:Int)==(j:Int))=false:=by simp;omega
  by_cases h2:j=a
  ·subst h2;simp
  ·rw [if_neg h2]
   have e1:((a:Int)==(j:Int))=false:=by simp;omega
   simp [e1,e2]
def blist (n:Nat) (f:Nat→Bool):List Bool:=(List.range n).map f
theorem blist_len {n:Nat} {f:Nat→Bool}:(blist n f).length=n:=by simp [blist]
theorem blist_V {n:Nat} {f:Nat→Bool}:brow n f=boolsV (blist n f):=by simp [brow,boolsV,blist]
theorem blist_at {n:Nat} {f:Nat→Bool} {i:Nat} (hi:i<n):atB (blist n f) i=f i:=atB_get (by simp [blist,hi])
theorem cutM_b {n:Nat} {M:Mx} {f k:Nat→Bool} {rs cs:List Bool} (hr:∀ i,i<n→atB rs i=f i) (hk:∀ i,i<n→atB cs i=k i) {i j:Nat} (hi:i<n) (hj:j<n):cutM M rs cs i j=(M i j&&f i&&k j):=by
 unfold cutM;rw [hr i hi,hk j hj]
theorem good_rmw (hg:g.good=true) {p:Int×Int} (hp:p∈g.rmw):∃ a b:Nat,p=((a:Int),(b:Int))∧a<b∧b<g.n:=by
 obtain ⟨w,hz⟩:=good_check hg
 exact words_rmw hz hp
set_option maxHeartbeats 8000000 in
theorem seq_global (m:Sm h q g c ra wa fa rn wn fn) (ht:TabAt h) :
  Con Tryd.prog 78 #[.agg (smC q g c ra wa fa rn wn fn).toArray] h fun v h'=>Fr 0 0 h h'∧Holder 1 h' v (tsoL g 2).length (intsV (tsoL g 2)) h.size:=by
 refine con_q141 ?_
 have hn:=(good_n m.good).1
 have hen:g.evs.length=g.n:=rfl
 have br:=m.gr.fits.r
 have p0:Fr 0 0 h h:=.refl _ _ _
 simp -dsimp only [go_sem]
 intro b1 h1 n1
 have n1_z:=n1.az
 replace p0:=p0.F n1.f0
 have r1:=n1.row
 have R1:=r1
 unfold smC at r1
 simp -dsimp only [go_sem,r1.cell]
 intro b19 h2 n2
 have n2_z:=n2.az
 replace p0:=p0.F n2.f0
 replace r1:=r1.F n2.f0
 have r2:=n2.row
 simp -dsimp only [go_sem,r1.cell,r2.cell]
 replace r2:Rw h2 b19 (intsV [5,15]):=r2
 refine call_of (graph_With (m.gr.fr p0) (by omega) (mv:=.slice (some ⟨b19,0,none⟩) 2 2) (m:=[5,15]) (Rw.rd (s:=1) (n:=2) (c:=2) r2 rfl) (by decide)) ?_
 rintro v3 h3 ⟨f3,o3⟩
 have f3_z:=f3.size
 replace p0:=p0.F f3
 replace r1:=r1.F f3
 replace r2:=r2.F f3
 rw [with_brow] at o3
 obtain ⟨va,vc,rfl⟩:=o3.is
 have g3:h.size≤b1∧b1<h2.size∧h2.size≤h3.size:=by omega
 have z3:=o3.top
 clear r2
 simp -dsimp only [go_sem,hen,r1.cell]
 refine Chk_intro (by omega) ?_
 rw [zeros_one,Int.toNat_natCast,brow_false]
 intro b5 h4 n4
 have n4_z:=n4.az
 replace p0:=p0.F n4.f0
 replace r1:=r1.F n4.f0
 have r5:=n4.row
 have o4:=o3.fr n4.f0 (by omega)
 have a0:brow g.n (fun _=>false)=brow g.n (accTo g 0):=brow_congr fun j _=>by simp [accTo]
 rw [a0] at r5
 have g4:h3.size≤b5∧b5<h4.size:=by omega
 simp -dsimp only [go_sem,r1.cell,r5.cell]
 refine loop_intro (fun i:Nat=>[(1,.pointer (some ⟨b1,0,none⟩)),(3,.int .i64 g.n),(4,.slice va g.n vc),(5,.slice (some ⟨b5,0,none⟩) g.n g.n),(23,.int .i64 g.n),(24,.int .i64 i)])
  (fun i h'=>i≤g.n∧Fr 0 0 h h'∧Rw h' b1 (smC q g c ra wa fa rn wn fn)∧Holder 1 h' (.slice va g.n vc) g.n (brow g.n (fulTo g i)) h2.size∧Rw h' b5 (brow g.n (accTo g i))) (fun i=>g.n - i) 0 ?_ ?_ ?_
 ·simp [Le,find]
 ·exact ⟨by omega,p0,r1,o4,r5⟩
 clear p0 r1 o3 o4 r5 R1
 rintro i h5 ⟨hi,p0,r1,o4,r5⟩
 unfold smC at r1
 by_cases hlt:i<g.n
 ·have e1:((i:Int)<(g.n:Int)):=by omega
  obtain ⟨bv,cv,rest,he,ro,hrl,hb⟩:=o4.blk (by omega)
  cases he
  have z3:bv+1≤h3.size:=z3
  obtain ⟨-,fa',fn',h1',h2'⟩:=m.fe
  cases h1'
  rcases h2' with h2' | ⟨fb,fo,rfl,hfc⟩
  ·omega
  have kf0:=hfc i _ (boolsV_get (kindsV_get hlt))
  have kfl:=hcell_lt kf0
  have kf:=p0.keep kf0 (by omega)
  clear kf0
  have k1:hcell h5 bv i=some (.bool (fulTo g i i)):=by rw [ro.cell,List.getElem?_append_left (by simp;omega)];exact brow_get hlt
  have hfi:fulTo g i i=twB g i:=by unfold fulTo;simp
  rw [hfi] at k1
  have p0_z:=p0.size
  have r1_l:=r1.lt
  have ro_l:=ro.lt
  have r5_l:=r5.lt
  simp -dsimp only [go_sem,e1,k1,kf,r1.cell,ro.cell,r5.cell]
  have step:∀ (h6:Heap) (b:Bool),b=(twB g i&&isK g 3 i)→Sto h5 h6 bv i [.bool b]→Holder 1 h6 (.slice (some ⟨bv,0,none⟩) g.n vc) g.n (brow g.n (fulTo g (i+1))) h2.size:=fun h6 b hb' s6=>by
   refine ⟨by simp,.inr ⟨bv,vc,rest,rfl,?_,by simpa using hrl,hb⟩⟩
   have:=s6.row ro
   rw [putAt_one,List.set_append_left _ _ (by simp;omega),hb',brow_upd,fulTo_succ] at this
   exact this
  have hne:bv≠b5∧bv≠b1:=by omega
  have tail:∀ (h6:Heap) (b:Bool),b=(twB g i&&isK g 3 i)→Sto h5 h6 bv i [.bool b]→True:=fun _ _ _ _=>trivial
  clear tail
  have kK:((g.ev i).kind==3)=isK g 3 i:=rfl
  rw [kK] at kf
  cases hv:twB g i
  ·rw [hv] at k1 step
   simp -dsimp only [go_sem,k1,kf,e1,r1.cell,ro.cell,r5.cell]
   refine Chk_intro (ro.wr (by simp;omega)) fun h6 s6=>?_
   have o6:=step h6 _ rfl s6
   have f6:=s6.fr
   replace p0:=p0.F f6
   replace r1:=r1.F f6
   replace r5:=r5.F f6
   have kf6:=f6.keep kf (by omega)
   clear ro
   have p0_z:=p0.size
   have r1_l:=r1.lt
   have r5_l:=r5.lt
   simp -dsimp only [go_sem,kf6,e1,r1.cell,r5.cell]
   refine Chk_intro (r5.wr (by simp;omega)) fun h7 s7=>?_
   have r5':=s7.row r5
   rw [cl_bool,putAt_one,brow_upd,accTo_succ] at r5'
   clear r5
   have r5:=r5'
   have f7:=s7.fr
   replace p0:=p0.F f7
   replace r1:=r1.F f7
   replace o6:=o6.fr f7 (by omega)
   simp -dsimp only [go_sem,r1.cell,r5.cell]
   simp -dsimp (disch:=omega) only [wrap64]
   exact ⟨i+1,by omega,by simp [Le,find],by omega,p0,r1,o6,r5⟩
  ·rw [hv] at k1 step
   simp -dsimp only [go_sem,k1,kf,e1,r1.cell,ro.cell,r5.cell]
   refine Chk_intro (ro.wr (by simp;omega)) fun h6 s6=>?_
   have o6:=step h6 _ (by simp) s6
   have f6:=s6.fr
   replace p0:=p0.F f6
   replace r1:=r1.F f6
   replace r5:=r5.F f6
   have kf6:=f6.keep kf (by omega)
   clear ro
   have p0_z:=p0.size
   have r1_l:=r1.lt
   have r5_l:=r5.lt
   simp -dsimp only [go_sem,kf6,e1,r1.cell,r5.cell]
   refine Chk_intro (r5.wr (by simp;omega)) fun h7 s7=>?_
   have r5':=s7.row r5
   rw [cl_bool,putAt_one,brow_upd,accTo_succ] at r5'
   clear r5
   have r5:=r5'
   have f7:=s7.fr
   replace p0:=p0.F f7
   replace r1:=r1.F f7
   replace o6:=o6.fr f7 (by omega)
   simp -dsimp only [go_sem,r1.cell,r5.cell]
   simp -dsimp (disch:=omega) only [wrap64]
   exact ⟨i+1,by omega,by simp [Le,find],by omega,p0,r1,o6,r5⟩
 obtain rfl:i=g.n:=by omega
 have zz5:=o4.top
 have p0_z:=p0.size
 have r1_l:=r1.lt
 have r5_l:=r5.lt
 simp -dsimp only [go_sem,Int.lt_irrefl,r1.cell,r5.cell]
 refine Chk_intro (by omega) ?_
 rw [zeros_one,Int.toNat_natCast,brow_false]
 intro b7 h6 n6
 have n6_z:=n6.az
 replace p0:=p0.F n6.f0
 replace r1:=r1.F n6.f0
 replace r5:=r5.F n6.f0
 have r7:=n6.row
 have o6:=o4.fr n6.f0 (by omega)
 have a0:brow g.n (fun _=>false)=brow g.n (tieTo g 0):=brow_congr fun j _=>by simp [tieTo]
 rw [a0] at r7
 have g7:h5.size≤b7∧b7<h6.size∧b5<h5.size∧b1<h5.size∧bh (.slice va g.n vc)≤h5.size:=by omega
 simp -dsimp only [go_sem,r1.cell,r5.cell,r7.cell]
 refine loop_intro (fun i:Nat=>[(1,.pointer (some ⟨b1,0,none⟩)),(3,.int .i64 g.n),(4,.slice va g.n vc),(5,.slice (some ⟨b5,0,none⟩) g.n g.n),(7,.slice (some ⟨b7,0,none⟩) g.n g.n),(57,.slice q.r g.rmw.length q.rc),(58,.int .i64 g.rmw.length),(59,.int .i64 i)])
  (fun i h'=>i≤g.rmw.length∧Fr 0 0 h h'∧h6.size≤h'.size∧Rw h' b1 (smC q g c ra wa fa rn wn fn)∧Holder 1 h' (.slice va g.n vc) g.n (brow g.n (fulTo g g.n)) h2.size∧Rw h' b5 (brow g.n (accTo g g.n))∧Rw h' b7 (brow g.n (tieTo g i))) (fun i=>g.rmw.length - i) 0 ?_ ?_ ?_
 ·simp [Le,find]
 ·exact ⟨by omega,p0,by omega,r1,o6,r5,r7⟩
 clear p0 r1 o4 o6 r5 r7
 rintro i h7 ⟨hi,p0,z7,r1,o6,r5,r7⟩
 unfold smC at r1
 have p0_z:=p0.size
 have r1_l:=r1.lt
 have o6_l:=o6.top
 have r5_l:=r5.lt
 have r7_l:=r7.lt
 by_cases hlt:i<g.rmw.length
 ·have e1:((i:Int)<(g.rmw.length:Int)):=by omega
  have hq:g.rmw[i]?=some g.rmw[i]:=List.getElem?_eq_getElem hlt
  obtain ⟨x,y,he,hxy,hyn⟩:=good_rmw m.good (List.mem_of_getElem? hq)
  rw [he] at hq
  obtain ⟨rb,ro,hre,hrc⟩:=m.gr.r.pairsAt (by omega)
  obtain ⟨k1,k2⟩:=hrc h7 p0 i _ hq
  dsimp only at k1 k2
  simp -dsimp only [go_sem,e1,hre,k1,k2,r1.cell,r5.cell,r7.cell]
  intro b8 h8 n8
  have n8_z:=n8.az
  replace p0:=p0.F n8.f0
  replace r1:=r1.F n8.f0
  replace o6:=o6.fr n8.f0 (by have:=o6.at_;omega)
  replace r5:=r5.F n8.f0
  replace r7:=r7.F n8.f0
  have r8:=n8.row
  simp -dsimp only [go_sem,r1.cell,r5.cell,r7.cell,r8.cell]
  refine Chk_intro (r8.W) fun h9 s9=>?_
  have s9_z:=s9.size
  replace p0:=p0.F s9.fr
  replace r1:=r1.F s9.fr
  replace o6:=o6.fr s9.fr (by have:=o6.at_;omega)
  replace r5:=r5.F s9.fr
  replace r7:=r7.F s9.fr
  replace r8:=s9.row r8
  try simp only [cl_int,cl_bool,cl_slice,cl_ptr,putAt_one,zs0,zs1,ivec_set,brow_upd] at r8
  simp -dsimp only [go_sem] at r8
  simp -dsimp only [go_sem,r1.cell,r5.cell,r7.cell,r8.cell]
  refine Chk_intro (by omega) ?_
  simp -dsimp only [go_sem,r1.cell,r5.cell,r7.cell,r8.cell]
  refine Chk_intro (r7.W) fun h10 s10=>?_
  have s10_z:=s10.size
  replace p0:=p0.F s10.fr
  replace r1:=r1.F s10.fr
  replace o6:=o6.fr s10.fr (by have:=o6.at_;omega)
  replace r5:=r5.F s10.fr
  replace r8:=r8.F s10.fr
  replace r7:=s10.row r7
  try simp only [cl_int,cl_bool,cl_slice,cl_ptr,putAt_one,zs0,zs1,ivec_set,brow_upd] at r7
  simp -dsimp only [go_sem,r1.cell,r5.cell,r7.cell,r8.cell]
  refine Chk_intro (by omega) ?_
  simp -dsimp only [go_sem,r1.cell,r5.cell,r7.cell,r8.cell]
  refine Chk_intro (r7.W) fun h11 s11=>?_
  have s11_z:=s11.size
  replace p0:=p0.F s11.fr
  replace r1:=r1.F s11.fr
  replace o6:=o6.fr s11.fr (by have:=o6.at_;omega)
  replace r5:=r5.F s11.fr
  replace r8:=r8.F s11.fr
  replace r7:=s11.row r7
  try simp only [cl_int,cl_bool,cl_slice,cl_ptr,putAt_one,zs0,zs1,ivec_set,brow_upd] at r7
  rw [tieTo_succ hq] at r7
  simp -dsimp only [go_sem,r1.cell,r5.cell,r7.cell,r8.cell]
  simp -dsimp (disch:=omega) only [wrap64]
  exact ⟨i+1,by omega,by simp [Le,find,hre],by omega,p0,by omega,r1,o6,r5,r7⟩
 obtain rfl:i=g.rmw.length:=by omega
 have t0:brow g.n (tieTo g g.rmw.length)=brow g.n (tiedB g):=brow_congr fun j _=>by unfold tieTo tiedB;rw [List.take_length]
 have t1:brow g.n (fulTo g g.n)=brow g.n (fullB g):=brow_congr fun j hj=>by unfold fulTo fullB twB;simp [hj,Bool.and_comm]
 have t2:brow g.n (accTo g g.n)=brow g.n (fun j=>!isK g 3 j):=brow_congr fun j hj=>by unfold accTo;simp [hj]
 rw [t0,blist_V] at r7
 rw [t1,blist_V] at o6
 rw [t2,blist_V] at r5
 have mk:=fun (h':Heap) (f:Fr 0 0 h h')=>m.fr f
 have lk:∀ k,(kindsV g k g.n).length=g.n:=fun k=>kinds_len g k
 have lb:∀ f,(blist g.n f).length=g.n:=fun f=>blist_len
 have hcl:clampN (g.n:Int)=g.n:=by unfold clampN;omega
 simp -dsimp only [go_sem,Int.lt_irrefl,r1.cell,r5.cell,r7.cell]
 refine call_of (rel_Ident (g.n:Int) (l:=blist g.n (fullB g)) (by rw [lb];exact o6.rd) (by rw [lb];omega)) ?_
 rintro v12 h12 ⟨f12,i12⟩
 have f12_z:=f12.size
 replace p0:=p0.F f12
 replace r1:=r1.F f12
 replace o6:=o6.fr f12 (by have:=o6.at_;omega)
 replace r5:=r5.F f12
 replace r7:=r7.F f12
 rw [hcl] at i12
 have i12:PA h12 v12 g.n (dM (fullB g)):=PA.congr ⟨_,_,i12⟩ fun i j hi _=>by unfold idM dM;rw [blist_at hi]
 simp -dsimp only [go_sem,r1.cell,r5.cell,r7.cell]
 refine call_of (rel_Ident (g.n:Int) (l:=blist g.n (tiedB g)) (by rw [lb];exact Rw.rd (s:=1) r7 (by simp [boolsV,lb])) (by rw [lb];omega)) ?_
 rintro v13 h13 ⟨f13,i13⟩
 replace i12:=i12.fr f13
 have f13_z:=f13.size
 replace p0:=p0.F f13
 replace r1:=r1.F f13
 replace o6:=o6.fr f13 (by have:=o6.at_;omega)
 replace r5:=r5.F f13
 replace r7:=r7.F f13
 rw [hcl] at i13
 have i13:PA h13 v13 g.n (dM (tiedB g)):=PA.congr ⟨_,_,i13⟩ fun i j hi _=>by unfold idM dM;rw [blist_at hi]
 obtain ⟨c12,rfl⟩:=i12.ptr
 obtain ⟨c13,rfl⟩:=i13.ptr
 clear o6 r7
 simp -dsimp only [go_sem,r1.cell,r5.cell]
 have ac:∀ h',Fr 0 0 h13 h'→Rd 1 h' (.slice (some ⟨b5,0,none⟩) g.n g.n) (blist g.n fun j=>!isK g 3 j).length (boolsV (blist g.n fun j=>!isK g 3 j)):=fun h' f=>by rw [lb];exact (Rw.rd (s:=1) r5 (by simp [boolsV,lb])).fr f
 have p13:Fr 0 0 h13 h13:=.refl _ _ _
 have hpo:∀ h',Fr 0 0 h h'→ProgAt h' _ _ (.pointer (some ⟨c 0,0,none⟩)) g.n (relM g 0):=fun h' f=>(m.rel 0 (by decide)).choose_spec.choose_spec.fr f (by omega)
 refine call_of (rel_Cut (hpo _ p0) (ht.fr p0 (.inr rfl)) (by rw [lk];exact (m.rd.fr p0)) (ac _ p13) (by rw [lk];omega) (by rw [lb];omega)) ?_
 rintro v14 h14 ⟨f14,i14⟩
 have f14_z:=f14.size
 replace p0:=p0.F f14
 replace r1:=r1.F f14
 replace r5:=r5.F f14
 replace p13:=p13.F f14
 have i14:PA h14 v14 g.n (fun i j=>relM g 0 i j&&isK g 1 i&&!isK g 3 j):=PA.congr ⟨_,_,i14⟩ fun i j hi hj=>cutM_b (fun i hi=>atB_kinds hi) (fun i hi=>blist_at hi) hi hj
 simp -dsimp only [go_sem,r1.cell,r5.cell]
 refine call_of (rel_Cut (hpo _ p0) (ht.fr p0 (.inr rfl)) (ac _ p13) (by rw [lk];exact (m.wr.fr p0)) (by rw [lb];omega) (by rw [lk];omega)) ?_
 rintro v15 h15 ⟨f15,i15⟩
 replace i14:=i14.fr f15
 have f15_z:=f15.size
 replace p0:=p0.F f15
 replace r1:=r1.F f15
 replace r5:=r5.F f15
 replace p13:=p13.F f15
 have i15:PA h15 v15 g.n (fun i j=>relM g 0 i j&&!isK g 3 i&&isK g 2 j):=PA.congr ⟨_,_,i15⟩ fun i j hi hj=>cutM_b (k:=isK g 2) (fun i hi=>blist_at hi) (fun i hi=>atB_kinds hi) hi hj
 simp -dsimp only [go_sem,r1.cell,r5.cell]
 obtain ⟨_,_,u12⟩:=i12.fr p13
 refine call_of (rel_Comp (hpo _ p0) u12 (ht.fr p0 (.inr rfl))) ?_
 rintro v16 h16 ⟨f16,i16⟩
 rw [Nat.max_self] at i16
 replace i14:=i14.fr f16
 replace i15:=i15.fr f16
 have f16_z:=f16.size
 replace p0:=p0.F f16
 replace r1:=r1.F f16
 replace r5:=r5.F f16
 replace p13:=p13.F f16
 simp -dsimp only [go_sem,r1.cell,r5.cell]
 refine call_of (rel_Comp i16 (hpo _ p0) (ht.fr p0 (.inr rfl))) ?_
 rintro v17 h17 ⟨f17,i17⟩
 rw [Nat.max_self] at i17
 replace i14:=i14.fr f17
 replace i15:=i15.fr f17
 have f17_z:=f17.size
 replace p0:=p0.F f17
 replace r1:=r1.F f17
 replace r5:=r5.F f17
 replace p13:=p13.F f17
 have i17:PA h17 v17 g.n (fun i j=>exB g.n fun f=>relM g 0 i f&&fullB g f&&relM g 0 f j):=PA.congr ⟨_,_,i17⟩ fun i j hi hj=>by
  rw [compM_in hi hj]
  exact exB_congr fun k hk=>by rw [compM_dR hi hk]
 simp -dsimp only [go_sem,r1.cell,r5.cell]
 obtain ⟨_,_,u13⟩:=i13.fr p13
 refine call_of (rel_Comp (hpo _ p0) u13 (ht.fr p0 (.inr rfl))) ?_
 rintro v18 h18 ⟨f18,i18⟩
 rw [Nat.max_self] at i18
 replace i14:=i14.fr f18
 replace i15:=i15.fr f18
 replace i17:=i17.fr f18
 have f18_z:=f18.size
 replace p0:=p0.F f18
 replace r1:=r1.F f18
 replace r5:=r5.F f18
 replace p13:=p13.F f18
 have i18:PA h18 v18 g.n (fun i j=>relM g 0 i j&&tiedB g j):=PA.congr ⟨_,_,i18⟩ fun i j hi hj=>compM_dR hi hj
 simp -dsimp only [go_sem,r1.cell,r5.cell]
 obtain ⟨_,_,u13⟩:=i13.fr p13
 refine call_of (rel_Comp u13 (hpo _ p0) (ht.fr p0 (.inr rfl))) ?_
 rintro v19 h19 ⟨f19,i19⟩
 rw [Nat.max_self] at i19
 replace i14:=i14.fr f19
 replace i15:=i15.fr f19
 replace i17:=i17.fr f19
 replace i18:=i18.fr f19
 have f19_z:=f19.size
 replace p0:=p0.F f19
 replace r1:=r1.F f19
 replace r5:=r5.F f19
 replace p13:=p13.F f19
 have i19:PA h19 v19 g.n (fun i j=>tiedB g i&&relM g 0 i j):=PA.congr ⟨_,_,i19⟩ fun i j hi hj=>compM_dL hi hj
 obtain ⟨c14,rfl⟩:=i14.ptr
 obtain ⟨c15,rfl⟩:=i15.ptr
 obtain ⟨c17,rfl⟩:=i17.ptr
 obtain ⟨c18,rfl⟩:=i18.ptr
 obtain ⟨c19,rfl⟩:=i19.ptr
 simp -dsimp only [go_sem,r1.cell,r5.cell]
 intro b20 h20 n20
 have n20_z:=n20.az
 replace p0:=p0.F n20.f0
 replace r1:=r1.F n20.f0
 replace r5:=r5.F n20.f0
 replace p13:=p13.F n20.f0
 have r20:=n20.row
 replace i14:=i14.fr n20.f0
 replace i15:=i15.fr n20.f0
 replace i17:=i17.fr n20.f0
 replace i18:=i18.fr n20.f0
 replace i19:=i19.fr n20.f0
 simp -dsimp only [go_sem,r1.cell,r5.cell,r20.cell]
 have p20:Fr 0 0 h20 h20:=.refl _ _ _
 obtain ⟨_,_,ta⟩:=(m.fr p0).rel 1 (by decide)
 obtain ⟨_,_,tb⟩:=(m.fr p0).rel 5 (by decide)
 refine call_of (rel_Inter ta tb (ht.fr p0 (.inr rfl))) ?_
 rintro v21 h21 ⟨f21,i21⟩
 rw [Nat.max_self] at i21
 have f21_z:=f21.size
 replace p0:=p0.F f21
 replace r1:=r1.F f21
 replace r5:=r5.F f21
 replace p13:=p13.F f21
 replace r20:=r20.F f21
 replace p20:=p20.F f21
 have i21:PA h21 v21 g.n (rfeM g):=PA.congr ⟨_,_,i21⟩ fun i j hi hj=>by rw [interM_in hi hj];rfl
 obtain ⟨c21,rfl⟩:=i21.ptr
 simp -dsimp only [go_sem,r1.cell,r5.cell,r20.cell]
 intro b22 h22 n22
 have n22_z:=n22.az
 replace p0:=p0.F n22.f0
 replace r1:=r1.F n22.f0
 replace r5:=r5.F n22.f0
 replace p13:=p13.F n22.f0
 replace r20:=r20.F n22.f0
 replace p20:=p20.F n22.f0
 have r22:=n22.row
 replace i21:=i21.fr n22.f0
 simp -dsimp only [go_sem,r1.cell,r5.cell,r20.cell,r22.cell]
 intro b23 h23 n23
 have n23_z:=n23.az
 replace p0:=p0.F n23.f0
 replace r1:=r1.F n23.f0
 replace r5:=r5.F n23.f0
 replace p13:=p13.F n23.f0
 replace r20:=r20.F n23.f0
 replace p20:=p20.F n23.f0
 replace r22:=r22.F n23.f0
 have r23:=n23.row
 replace i21:=i21.fr n23.f0
 simp -dsimp only [go_sem,r1.cell,r5.cell,r20.cell,r22.cell,r23.cell]
 have hrl:RLc h23 (.slice (some ⟨b23,0,none⟩) 2 2) [[.pointer (some ⟨c14,0,none⟩),.pointer (some ⟨c15,0,none⟩),.pointer (some ⟨c17,0,none⟩),.pointer (some ⟨c18,0,none⟩),.pointer (some ⟨c19,0,none⟩)],[.pointer (some ⟨c21,0,none⟩),.pointer (some ⟨c 2,0,none⟩),.pointer (some ⟨c 9,0,none⟩)]]:=by
  refine ⟨_,Rw.rd (s:=1) r23 (by simp),fun i l hi=>?_⟩
  match i,hi with
  | 0,hi=>cases hi;exact ⟨_,_,rfl,Nat.le_refl _,Rw.rd (s:=1) r20 (by simp)⟩
  | 1,hi=>cases hi;exact ⟨_,_,rfl,Nat.le_refl _,Rw.rd (s:=1) r22 (by simp)⟩
  | i+2,hi=>simp at hi
 refine call_of (slices_Concat hrl (by simp [Value.oneCell']) (by simp) (by simp)) ?_
 rintro v24 h24 ⟨f24,o24⟩
 replace i21:=i21.fr f24
 have f24_z:=f24.size
 replace p0:=p0.F f24
 replace r1:=r1.F f24
 replace r5:=r5.F f24
 replace p13:=p13.F f24
 replace r20:=r20.F f24
 replace p20:=p20.F f24
 replace r22:=r22.F f24
 replace r23:=r23.F f24
 simp -dsimp only [go_sem,r1.cell,r5.cell,r20.cell,r22.cell,r23.cell]
 obtain ⟨a24,c24,rfl⟩:=o24.is
 have mm:=m.fr p0
 have fin:UA h24 (.slice a24 8 c24) g.n (globM g):=UA.mkR [(.pointer (some ⟨c14,0,none⟩),_),(.pointer (some ⟨c15,0,none⟩),_),(.pointer (some ⟨c17,0,none⟩),_),(.pointer (some ⟨c18,0,none⟩),_),(.pointer (some ⟨c19,0,none⟩),_),(.pointer (some ⟨c21,0,none⟩),_),(.pointer (some ⟨c 2,0,none⟩),relM g 2),(.pointer (some ⟨c 9,0,none⟩),relM g 9)] rfl o24.rd
  (pa_cons (i14.fr p20) (pa_cons (i15.fr p20) (pa_cons (i17.fr p20) (pa_cons (i18.fr p20) (pa_cons (i19.fr p20) (pa_cons i21 (pa_cons (mm.rel 2 (by decide)) (pa_cons (mm.rel 9 (by decide)) pa_nil)))))))) (by simp) (by simp) (fun i j hi hj=>by
   unfold globM
   rw [← keptP_in]
   simp [keptP,Bool.or_assoc])
 refine call_of (rel_UnionU fin) ?_
 rintro v25 h25 ⟨f25,i25⟩
 have f25_z:=f25.size
 replace p0:=p0.F f25
 replace r1:=r1.F f25
 replace r5:=r5.F f25
 replace p13:=p13.F f25
 replace r20:=r20.F f25
 replace p20:=p20.F f25
 replace r22:=r22.F f25
 replace r23:=r23.F f25
 simp -dsimp only [go_sem,r1.cell,r5.cell,r20.cell,r22.cell,r23.cell]
 refine call_of (rel_Cycle i25 (ht.fr p0 (.inr rfl))) ?_
 rintro v26 h26 ⟨f26,o26⟩
 have f26_z:=f26.size
 replace p0:=p0.F f26
 replace r1:=r1.F f26
 replace r5:=r5.F f26
 replace p13:=p13.F f26
 replace r20:=r20.F f26
 replace p20:=p20.F f26
 replace r22:=r22.F f26
 replace r23:=r23.F f26
 simp -dsimp only [go_sem,r1.cell,r5.cell,r20.cell,r22.cell,r23.cell]
 rw [natsI_V] at o26
 have eL:tsoL g 2=natsI (cycS g.n (globM g)):=rfl
 rw [eL,natsI_len]
 exact ⟨p0,o26.lower (by omega)⟩
end
end Go.Proofs.Tst
/-
  seq: Sc, Tso.
-/
namespace Go.Proofs.Tst
open Go Go.Vc
def axN (i:Nat):Int:=match i with | 0=>1 | 1=>2 | _=>3
def scF (i:Nat):FuncId:=match i with | 0=>66 | _=>68
def tsF (i:Nat):FuncId:=match i with | 0=>77 | 1=>68 | _=>78
theorem sc_first {g : Gr} : firstA 2 axN (scL g) = scAx g := by
  have hr : List.range 2 = [0, 1] := rfl
  unfold firstA
  rw [hr]
  by_cases h0 : scL g 0 = []
  · by_cases h1 : scL g 1 = []
    · have := scAx_none (g := g) fun l hl => by
        have : l = 0 ∨ l = 1 := by omega
        rcases this with rfl | rfl
        · exact h0
        · exact h1
      rw [this]; simp [h0, h1]
    · have := scAx_at (g := g) (k := 1) (by decide) (fun l hl => by obtain rfl : l = 0 := by omega
                                                                    exact h0) h1
      rw [this]; simp [h0, h1, axN]
  · have := scAx_at (g := g) (k := 0) (by decide) (fun l hl => by omega) h0
    rw [this]; simp [h0, axN]
theorem tso_first {g : Gr} : firstA 3 axN (tsoL g) = tsoAx g := by
  have hr : List.range 3 = [0, 1, 2] := rfl
  unfold firstA
  rw [hr]
  by_cases h0 : tsoL g 0 = []
  · by_cases h1 : tsoL g 1 = []
    · by_cases h2 : tsoL g 2 = []
      · have := tsoAx_none (g := g) fun l hl => by
          have : l = 0 ∨ l = 1 ∨ l = 2 := by omega
          rcases this with rfl | rfl | rfl
          · exact h0
          · exact h1
          · exact h2
        rw [this]; simp [h0, h1, h2]
      · have := tsoAx_at (g := g) (k := 2) (by decide) (fun l hl => by
          have : l = 0 ∨ l = 1 := by omega
          rcases this with rfl | rfl
          · exact h0
          · exact h1) h2
        rw [this]; simp [h0, h1, h2, axN]
    · have := tsoAx_at (g := g) (k := 1) (by decide) (fun l hl => by obtain rfl : l = 0 := by omega
                                                                     exact h0) h1
      rw [this]; simp [h0, h1, axN]
  · have := tsoAx_at (g := g) (k := 0) (by decide) (fun l hl => by omega) h0
    rw [this]; simp [h0, axN]
section
variable {h : Heap} {q : GV} {g : Gr}
set_option maxHeartbeats 2000000 in
theorem seq_Sc (t:GrAt h q g) (ht:TabAt h) :
  Con Tryd.prog 31 #[.agg (gcells q g).toArray] h fun v h'=>Fr 0 0 h h'∧if g.good=true then ∃ w,v=.tuple #[.int .i64 (scAx g).1,w,.int .i64 0]∧Holder 1 h' w (scAx g).2.length (intsV (scAx g).2) h.size
   else v=.tuple #[.int .i64 0,.slice none 0 0,.int .i64 4]:=by
 have p0:Fr 0 0 h h:=.refl _ _ _
 by_cases hg:g.good=true
 rotate_left
 ·simp only [if_neg hg]
  refine con_q136 ?_
  unfold gcells
  simp -dsimp only [go_sem]
  intro b1 h1 n1
  have n1_a:=n1.at_
  have n1_z:=n1.size
  replace p0:=p0.F n1.f0
  have r1:=n1.row
  simp -dsimp only [go_sem,r1.cell]
  refine call_of (graph_Derive (t.fr p0) (ht.fr p0 (.inr rfl))) ?_
  rintro v2 h2 ⟨f2,w⟩
  have f2_z:=f2.size
  replace p0:=p0.F f2
  replace r1:=r1.F f2
  rw [if_neg hg] at w
  subst w
  unfold fzero
  simp -dsimp only [go_sem,r1.cell]
  intro b3 h3 n3
  have n3_a:=n3.at_
  have n3_z:=n3.size
  replace p0:=p0.F n3.f0
  replace r1:=r1.F n3.f0
  have r3:=n3.row
  simp -dsimp only [go_sem,r1.cell,r3.cell]
  refine Chk_intro (r3.W) fun h4 s4=>?_
  have s4_z:=s4.size
  replace p0:=p0.F s4.fr
  replace r1:=r1.F s4.fr
  replace r3:=s4.row r3
  try simp only [cl_int,cl_bool,cl_slice,cl_ptr,putAt_one,zs0,zs1,ivec_set,brow_upd] at r3
  simp -dsimp only [go_sem,r1.cell,r3.cell]
  exact p0
 simp only [if_pos hg]
 refine con_q136 ?_
 unfold gcells
 simp -dsimp only [go_sem]
 intro b1 h1 n1
 have n1_a:=n1.at_
 have n1_z:=n1.size
 replace p0:=p0.F n1.f0
 have r1:=n1.row
 simp -dsimp only [go_sem,r1.cell]
 refine call_of (graph_Derive (t.fr p0) (ht.fr p0 (.inr rfl))) ?_
 rintro v2 h2 ⟨f2,w⟩
 have f2_z:=f2.size
 replace p0:=p0.F f2
 replace r1:=r1.F f2
 rw [if_pos hg] at w
 obtain ⟨p,rd,wr,fe,rfl,F⟩:=w
 obtain ⟨c,ra,wa,fa,rn,wn,fn,e,m⟩:=Sm.of (t.fr p0) hg F
 clear F
 rw [e]
 clear e
 have p2:Fr 0 0 h2 h2:=.refl _ _ _
 simp -dsimp only [go_sem,r1.cell]
 intro b3 h3 n3
 have n3_a:=n3.at_
 have n3_z:=n3.size
 replace p0:=p0.F n3.f0
 replace r1:=r1.F n3.f0
 replace p2:=p2.F n3.f0
 have r3:=n3.row
 simp -dsimp only [go_sem,r1.cell,r3.cell]
 refine Chk_intro (r3.W) fun h4 s4=>?_
 have s4_z:=s4.size
 replace p0:=p0.F s4.fr
 replace r1:=r1.F s4.fr
 replace p2:=p2.F s4.fr
 replace r3:=s4.row r3
 try simp only [cl_int,cl_bool,cl_slice,cl_ptr,putAt_one,zs0,zs1,ivec_set,brow_upd] at r3
 try simp -dsimp only [go_sem] at r3
 simp -dsimp only [go_sem,r1.cell,r3.cell]
 refine withC_of [.pointer (some ⟨c 0,0,none⟩),.pointer (some ⟨c 1,0,none⟩),.pointer (some ⟨c 2,0,none⟩),.pointer (some ⟨c 9,0,none⟩),.pointer (some ⟨c 3,0,none⟩),.pointer (some ⟨c 4,0,none⟩),.pointer (some ⟨c 5,0,none⟩),.pointer (some ⟨c 6,0,none⟩),.pointer (some ⟨c 7,0,none⟩),.pointer (some ⟨c 8,0,none⟩),.slice ra g.n rn,.slice wa g.n wn,.slice fa g.n fn] 0 (fun j x hj=>by rw [r3.cell,Nat.zero_add];exact hj) ?_
 simp -dsimp only [go_sem,r1.cell,r3.cell]
 intro b5 h5 n5
 have n5_z:=n5.az
 replace p0:=p0.F n5.f0
 replace r1:=r1.F n5.f0
 replace p2:=p2.F n5.f0
 replace r3:=r3.F n5.f0
 have r5:=n5.row
 replace r5:Rw h5 b5 (axV 2 axN scF):=r5
 simp -dsimp only [go_sem,r1.cell,r3.cell,r5.cell]
 replace m:=m.fr p2
 have hF:∀ i,i<2→∀ h6,Fr 0 0 h5 h6→Con Tryd.prog (scF i) #[.agg (smC q g c ra wa fa rn wn fn).toArray] h6 fun v h'=>Fr 0 0 h6 h'∧Holder 1 h' v (scL g i).length (intsV (scL g i)) h6.size:=by
  intro i hi h6 f
  match i,hi with
  | 0,_=>exact seq_Sc_1 (m.fr f) (ht.fr (p0.trans f) (.inr rfl))
  | 1,_=>exact seq_torn (m.fr f) (ht.fr (p0.trans f) (.inr rfl))
  | i+2,hi=>omega
 refine call_of (seq_first (q:=q) (g:=g) (c:=c) (ra:=ra) (wa:=wa) (fa:=fa) (rn:=rn) (wn:=wn) (fn:=fn) (F:=scF) (L:=scL g) r5 (by decide) hF) ?_
 rintro v7 h7 ⟨f7,w7,rfl,o7⟩
 have f7_z:=f7.size
 replace p0:=p0.F f7
 replace r1:=r1.F f7
 replace p2:=p2.F f7
 replace r3:=r3.F f7
 replace r5:=r5.F f7
 rw [sc_first] at o7 ⊢
 simp -dsimp only [go_sem,r1.cell,r3.cell,r5.cell]
 exact ⟨p0,_,rfl,o7.lower (by omega)⟩
set_option maxHeartbeats 2000000 in
theorem seq_Tso (t:GrAt h q g) (ht:TabAt h) :
  Con Tryd.prog 40 #[.agg (gcells q g).toArray] h fun v h'=>Fr 0 0 h h'∧if g.good=true then ∃ w,v=.tuple #[.int .i64 (tsoAx g).1,w,.int .i64 0]∧Holder 1 h' w (tsoAx g).2.length (intsV (tsoAx g).2) h.size
   else v=.tuple #[.int .i64 0,.slice none 0 0,.int .i64 4]:=by
 have p0:Fr 0 0 h h:=.refl _ _ _
 by_cases hg:g.good=true
 rotate_left
 ·simp only [if_neg hg]
  refine con_q138 ?_
  unfold gcells
  simp -dsimp only [go_sem]
  intro b1 h1 n1
  have n1_a:=n1.at_
  have n1_z:=n1.size
  replace p0:=p0.F n1.f0
  have r1:=n1.row
  simp -dsimp only [go_sem,r1.cell]
  refine call_of (graph_Derive (t.fr p0) (ht.fr p0 (.inr rfl))) ?_
  rintro v2 h2 ⟨f2,w⟩
  have f2_z:=f2.size
  replace p0:=p0.F f2
  replace r1:=r1.F f2
  rw [if_neg hg] at w
  subst w
  unfold fzero
  simp -dsimp only [go_sem,r1.cell]
  intro b3 h3 n3
  have n3_a:=n3.at_
  have n3_z:=n3.size
  replace p0:=p0.F n3.f0
  replace r1:=r1.F n3.f0
  have r3:=n3.row
  simp -dsimp only [go_sem,r1.cell,r3.cell]
  refine Chk_intro (r3.W) fun h4 s4=>?_
  have s4_z:=s4.size
  replace p0:=p0.F s4.fr
  replace r1:=r1.F s4.fr
  replace r3:=s4.row r3
  try simp only [cl_int,cl_bool,cl_slice,cl_ptr,putAt_one,zs0,zs1,ivec_set,brow_upd] at r3
  simp -dsimp only [go_sem,r1.cell,r3.cell]
  exact p0
 simp only [if_pos hg]
 refine con_q138 ?_
 unfold gcells
 simp -dsimp only [go_sem]
 intro b1 h1 n1
 have n1_a:=n1.at_
 have n1_z:=n1.size
 replace p0:=p0.F n1.f0
 have r1:=n1.row
 simp -dsimp only [go_sem,r1.cell]
 refine call_of (graph_Derive (t.fr p0) (ht.fr p0 (.inr rfl))) ?_
 rintro v2 h2 ⟨f2,w⟩
 have f2_z:=f2.size
 replace p0:=p0.F f2
 replace r1:=r1.F f2
 rw [if_pos hg] at w
 obtain ⟨p,rd,wr,fe,rfl,F⟩:=w
 obtain ⟨c,ra,wa,fa,rn,wn,fn,e,m⟩:=Sm.of (t.fr p0) hg F
 clear F
 rw [e]
 clear e
 have p2:Fr 0 0 h2 h2:=.refl _ _ _
 simp -dsimp only [go_sem,r1.cell]
 intro b3 h3 n3
 have n3_a:=n3.at_
 have n3_z:=n3.size
 replace p0:=p0.F n3.f0
 replace r1:=r1.F n3.f0
 replace p2:=p2.F n3.f0
 have r3:=n3.row
 simp -dsimp only [go_sem,r1.cell,r3.cell]
 refine Chk_intro (r3.W) fun h4 s4=>?_
 have s4_z:=s4.size
 replace p0:=p0.F s4.fr
 replace r1:=r1.F s4.fr
 replace p2:=p2.F s4.fr
 replace r3:=s4.row r3
 try simp only [cl_int,cl_bool,cl_slice,cl_ptr,putAt_one,zs0,zs1,ivec_set,brow_upd] at r3
 try simp -dsimp only [go_sem] at r3
 simp -dsimp only [go_sem,r1.cell,r3.cell]
 refine withC_of [.pointer (some ⟨c 0,0,none⟩),.pointer (some ⟨c 1,0,none⟩),.pointer (some ⟨c 2,0,none⟩),.pointer (some ⟨c 9,0,none⟩),.pointer (some ⟨c 3,0,none⟩),.pointer (some ⟨c 4,0,none⟩),.pointer (some ⟨c 5,0,none⟩),.pointer (some ⟨c 6,0,none⟩),.pointer (some ⟨c 7,0,none⟩),.pointer (some ⟨c 8,0,none⟩),.slice ra g.n rn,.slice wa g.n wn,.slice fa g.n fn] 0 (fun j x hj=>by rw [r3.cell,Nat.zero_add];exact hj) ?_
 simp -dsimp only [go_sem,r1.cell,r3.cell]
 intro b5 h5 n5
 have n5_z:=n5.az
 replace p0:=p0.F n5.f0
 replace r1:=r1.F n5.f0
 replace p2:=p2.F n5.f0
 replace r3:=r3.F n5.f0
 have r5:=n5.row
 replace r5:Rw h5 b5 (axV 3 axN tsF):=r5
 simp -dsimp only [go_sem,r1.cell,r3.cell,r5.cell]
 replace m:=m.fr p2
 have hF:∀ i,i<3→∀ h6,Fr 0 0 h5 h6→Con Tryd.prog (tsF i) #[.agg (smC q g c ra wa fa rn wn fn).toArray] h6 fun v h'=>Fr 0 0 h6 h'∧Holder 1 h' v (tsoL g i).length (intsV (tsoL g i)) h6.size:=by
  intro i hi h6 f
  match i,hi with
  | 0,_=>exact seq_Tso_1 (m.fr f) (ht.fr (p0.trans f) (.inr rfl))
  | 1,_=>exact seq_torn (m.fr f) (ht.fr (p0.trans f) (.inr rfl))
  | 2,_=>exact seq_global (m.fr f) (ht.fr (p0.trans f) (.inr rfl))
  | i+3,hi=>omega
 refine call_of (seq_first (q:=q) (g:=g) (c:=c) (ra:=ra) (wa:=wa) (fa:=fa) (rn:=rn) (wn:=wn) (fn:=fn) (F:=tsF) (L:=tsoL g) r5 (by decide) hF) ?_
 rintro v7 h7 ⟨f7,w7,rfl,o7⟩
 have f7_z:=f7.size
 replace p0:=p0.F f7
 replace r1:=r1.F f7
 replace p2:=p2.F f7
 replace r3:=r3.F f7
 replace r5:=r5.F f7
 rw [tso_first] at o7 ⊢
 simp -dsimp only [go_sem,r1.cell,r3.cell,r5.cell]
 exact ⟨p0,_,rfl,o7.lower (by omega)⟩
end
end Go.Proofs.Tst
/-
  law12: two, the examples.
-/
namespace Go.Proofs.Tst
open Go Go.Vc
theorem c_law12_ev (a b c:Int) (d:Int) (m:Int) {h:Heap}:Con Tryd.prog 34 #[.int .i64 a,.int .i64 b,.int .i64 c,.int .u64 d,.int .i64 m] h fun v h'=>Fr 0 0 h h'∧v=.agg #[.int .i64 a,.int .i64 b,.int .i64 c,.int .u64 d,.int .i64 m]:=by
 refine con_q30 ?_
 have p0:Fr 0 0 h h:=.refl _ _ _
 simp -dsimp only [go_sem]
 intro b1 h1 n1
 have n1_z:=n1.az
 replace p0:=p0.F n1.f0
 have r1:=n1.row
 simp -dsimp only [go_sem,r1.cell]
 refine Chk_intro (r1.W) fun h2 s2=>?_
 have s2_z:=s2.size
 replace p0:=p0.F s2.fr
 replace r1:=s2.row r1
 try simp only [cl_int,cl_bool,cl_slice,cl_ptr,putAt_one,zs0,zs1,ivec_set,brow_upd] at r1
 try simp -dsimp only [go_sem] at r1
 simp -dsimp only [go_sem,r1.cell]
 exact p0
set_option maxHeartbeats 2000000 in
theorem c_law12_two {h:Heap} {ea fa xa ya:Option Addr} {ec fc xc yc:Nat} {E:List Ev} {rf:List (Int×Int)} {x y:List Int} {lo:Nat} (hlo:lo≤h.size) (he:Rd 5 h (.slice ea E.length ec) E.length (evsV E)) (hf:∀ h',Fr 0 lo h h'→Rd 2 h' (.slice fa rf.length fc) rf.length (pairsV rf)) (hx:Rd 1 h (.slice xa x.length xc) x.length (intsV x)) (hy:Rd 1 h (.slice ya y.length yc) y.length (intsV y))
  (be:E.length≤1000) (bf:rf.length≤1000) (bx:x.length≤1000) (by_:y.length≤1000) :
  Con Tryd.prog 33 #[.slice ea E.length ec,.slice fa rf.length fc,.slice xa x.length xc,.slice ya y.length yc] h fun v h'=>Fr 0 0 h h'∧∃ q,v=.agg (gcells q (twoG 1 E rf x y)).toArray∧∀ h2,Fr 0 lo h' h2→GrAt h2 q (twoG 1 E rf x y):=by
 refine con_q38 ?_
 have p0:Fr 0 0 h h:=.refl _ _ _
 simp -dsimp only [go_sem]
 intro b8 h1 n1
 have n1_z:=n1.az
 replace p0:=p0.F n1.f0
 have r8:=n1.row
 simp -dsimp only [go_sem,r8.cell]
 refine call_of (c_law12_ev (-1) 2 0 0 1) ?_
 rintro v2 h2 ⟨f2,rfl⟩
 have f2_z:=f2.size
 replace p0:=p0.F f2
 replace r8:=r8.F f2
 simp -dsimp only [go_sem,r8.cell]
 refine call_of (c_law12_ev (-1) 2 1 0 1) ?_
 rintro v3 h3 ⟨f3,rfl⟩
 have f3_z:=f3.size
 replace p0:=p0.F f3
 replace r8:=r8.F f3
 simp -dsimp only [go_sem,r8.cell]
 intro b14 h4 n4
 have n4_z:=n4.az
 replace p0:=p0.F n4.f0
 replace r8:=r8.F n4.f0
 have r14:=n4.row
 replace r14:Rw h4 b14 (evsV [⟨-1,2,0,0,1⟩,⟨-1,2,1,0,1⟩]):=r14
 simp -dsimp only [go_sem,r8.cell,r14.cell]
 intro b9 h5 n5
 have n5_z:=n5.az
 replace p0:=p0.F n5.f0
 replace r8:=r8.F n5.f0
 replace r14:=r14.F n5.f0
 have r9:=n5.row
 simp -dsimp only [go_sem,r8.cell,r14.cell,r9.cell]
 refine Chk_intro (r9.W) fun h6 s6=>?_
 have s6_z:=s6.size
 replace p0:=p0.F s6.fr
 replace r8:=r8.F s6.fr
 replace r14:=r14.F s6.fr
 replace r9:=s6.row r9
 try simp only [cl_int,cl_bool,cl_slice,cl_ptr,putAt_one,zs0,zs1,ivec_set,brow_upd] at r9
 try simp -dsimp only [go_sem] at r9
 have gb:b8<b14∧b14<b9∧b9<h6.size∧h.size≤b8:=by omega
 simp -dsimp only [go_sem,r8.cell,r14.cell,r9.cell]
 refine (holder_row (s:=5) (n:=2) (lo:=b14) r14 rfl (Nat.le_refl _)).appendRd (he.fr p0) (by omega) rfl (by omega) (oc_evs _) (by omega) fun v7 h7 o7 f7 e7=>?_
 have lb:bl (.slice (some ⟨b14,0,none⟩) 2 2)=b14∧bh (.slice (some ⟨b14,0,none⟩) 2 2)=b14+1:=⟨rfl,rfl⟩
 rw [lb.1,lb.2] at f7
 clear r14
 have z7:=f7.size
 have f7_z:=f7.size
 replace p0:=p0.F f7
 replace r8:=r8.F f7
 replace r9:=r9.F f7
 rw [← evsV_append] at o7
 obtain ⟨a7,c7,rfl⟩:=o7.is
 have a7_a:=o7.at_
 have e7':=e7
 clear e7
 simp -dsimp only [go_sem,r8.cell,r9.cell]
 refine Chk_intro (r9.W) fun h8 s8=>?_
 have s8_z:=s8.size
 replace p0:=p0.F s8.fr
 replace r8:=r8.F s8.fr
 replace r9:=s8.row r9
 try simp only [cl_int,cl_bool,cl_slice,cl_ptr,putAt_one,zs0,zs1,ivec_set,brow_upd] at r9
 replace o7:=o7.fr s8.fr (by omega)
 simp -dsimp only [go_sem,r8.cell,r9.cell]
 intro b10 h9 n9
 have n9_z:=n9.az
 replace p0:=p0.F n9.f0
 replace r8:=r8.F n9.f0
 replace r9:=r9.F n9.f0
 have r10:=n9.row
 replace r10:Rw h9 b10 (intsV [0]):=r10
 replace o7:=o7.fr n9.f0 (by omega)
 simp -dsimp only [go_sem,r8.cell,r9.cell,r10.cell]
 have p9:Fr 0 0 h8 h9:=n9.fr
 refine (holder_row (s:=1) (n:=1) (lo:=b10) r10 rfl (Nat.le_refl _)).appendRd (hx.fr p0) (by omega) rfl (by omega) (oc_ints _) (by omega) fun v10 h10 o10 f10 e10=>?_
 have lb:bl (.slice (some ⟨b10,0,none⟩) 1 1)=b10∧bh (.slice (some ⟨b10,0,none⟩) 1 1)=b10+1:=⟨rfl,rfl⟩
 rw [lb.1,lb.2] at f10
 clear r10
 have z10:=f10.size
 have f10_z:=f10.size
 replace p0:=p0.F f10
 replace r8:=r8.F f10
 replace r9:=r9.F f10
 have o7t:=o7.top
 replace o7:=o7.fr f10 (by omega)
 rw [← intsV_append] at o10
 obtain ⟨a10,c10,rfl⟩:=o10.is
 have a10_a:=o10.at_
 clear e10
 simp -dsimp only [go_sem,r8.cell,r9.cell]
 intro b11 h11 n11
 have n11_z:=n11.az
 replace p0:=p0.F n11.f0
 replace r8:=r8.F n11.f0
 replace r9:=r9.F n11.f0
 have r11:=n11.row
 replace r11:Rw h11 b11 (intsV [1]):=r11
 replace o7:=o7.fr n11.f0 (by omega)
 have o10t:=o10.top
 replace o10:=o10.fr n11.f0 (by omega)
 simp -dsimp only [go_sem,r8.cell,r9.cell,r11.cell]
 refine (holder_row (s:=1) (n:=1) (lo:=b11) r11 rfl (Nat.le_refl _)).appendRd (hy.fr p0) (by omega) rfl (by omega) (oc_ints _) (by omega) fun v12 h12 o12 f12 e12=>?_
 have lb:bl (.slice (some ⟨b11,0,none⟩) 1 1)=b11∧bh (.slice (some ⟨b11,0,none⟩) 1 1)=b11+1:=⟨rfl,rfl⟩
 rw [lb.1,lb.2] at f12
 clear r11
 have z12:=f12.size
 have f12_z:=f12.size
 replace p0:=p0.F f12
 replace r8:=r8.F f12
 replace r9:=r9.F f12
 have o7t:=o7.top
 replace o7:=o7.fr f12 (by omega)
 replace o10:=o10.fr f12 (by omega)
 rw [← intsV_append] at o12
 obtain ⟨a12,c12,rfl⟩:=o12.is
 have a12_a:=o12.at_
 clear e12
 simp -dsimp only [go_sem,r8.cell,r9.cell]
 intro b13 h13 n13
 have n13_z:=n13.az
 replace p0:=p0.F n13.f0
 replace r8:=r8.F n13.f0
 replace r9:=r9.F n13.f0
 have r13:=n13.row
 try simp -dsimp only [go_sem] at r13
 replace o7:=o7.fr n13.f0 (by omega)
 replace o10:=o10.fr n13.f0 (by omega)
 replace o12:=o12.fr n13.f0 (by omega)
 simp -dsimp only [go_sem,r8.cell,r9.cell,r13.cell]
 refine Chk_intro (r9.W) fun h14 s14=>?_
 have s14_z:=s14.size
 replace p0:=p0.F s14.fr
 replace r8:=r8.F s14.fr
 replace r13:=r13.F s14.fr
 replace r9:=s14.row r9
 try simp only [cl_int,cl_bool,cl_slice,cl_ptr,putAt_one,zs0,zs1,ivec_set,brow_upd] at r9
 try simp -dsimp only [go_sem] at r9
 have z14:=s14.size
 replace o7:=o7.fr s14.fr (by omega)
 replace o10:=o10.fr s14.fr (by omega)
 replace o12:=o12.fr s14.fr (by omega)
 simp -dsimp only [go_sem,r8.cell,r9.cell,r13.cell]
 refine Chk_intro (r8.W) fun h15 s15=>?_
 have s15_z:=s15.size
 replace p0:=p0.F s15.fr
 replace r9:=r9.F s15.fr
 replace r13:=r13.F s15.fr
 replace r8:=s15.row r8
 try simp only [cl_int,cl_bool,cl_slice,cl_ptr,putAt_one,zs0,zs1,ivec_set,brow_upd] at r8
 have z15:=s15.size
 replace o7:=o7.fr s15.fr (by omega)
 replace o10:=o10.fr s15.fr (by omega)
 replace o12:=o12.fr s15.fr (by omega)
 simp -dsimp only [go_sem,r8.cell,r9.cell,r13.cell]
 have hl:(twoG 1 E rf x y).evs.length=2+E.length:=by simp [twoG];omega
 have hx2:(intsV ([0]++x)).length=1+x.length:=by simp;omega
 have hy2:(intsV ([1]++y)).length=1+y.length:=by simp;omega
 refine ⟨p0,⟨a7,fa,some ⟨b13,0,none⟩,none,none,none,none,c7,fc,2,0,0,0,0⟩,by unfold gcells;rw [hl];rfl,fun h16 f16=>?_⟩
 replace o7:=o7.fr f16 (by have:=o7.at_;omega)
 replace o10:=o10.fr f16 (by have:=o10.at_;omega)
 replace o12:=o12.fr f16 (by have:=o12.at_;omega)
 replace r13:=r13.F f16
 obtain ⟨u1,v1,k1,k1'⟩:=o10.room (by omega)
 cases k1
 obtain ⟨u2,v2,k2,k2'⟩:=o12.room (by omega)
 cases k2
 have hrl:RLc h16 (.slice (some ⟨b13,0,none⟩) 2 2) [intsV ([0]++x),intsV ([1]++y)]:=by
  refine ⟨_,Rw.rd (s:=1) r13 rfl,fun i l hi=>?_⟩
  match i,hi with
  | 0,hi =>
   cases hi
   exact ⟨_,_,by rw [hx2];rfl,by rw [hx2];exact k1',by rw [hx2];exact o10.rd⟩
  | 1,hi =>
   cases hi
   exact ⟨_,_,by rw [hy2];rfl,by rw [hy2];exact k2',by rw [hy2];exact o12.rd⟩
  | i+2,hi=>simp at hi
 refine ⟨by rw [hl];exact o7.rd,hf _ ((p0.wide (Nat.zero_le _)).trans f16),rlc_rl hrl,nilP,nilP,nilP,nilP,⟨by rw [hl];omega,by show rf.length≤_;omega,by show 2≤_;omega,by show 0≤_;omega,by show 0≤_;omega,by show 0≤_;omega,by show 0≤_;omega,fun l hl=>?_⟩,by show 2≤2;omega,hrl⟩
 have hl:l=[0]++x∨l=[1]++y:=by simpa [twoG] using hl
 rcases hl with rfl | rfl <;> (simp;omega)
def lodE:List Ev:=[⟨0,1,0,1,1⟩,⟨0,2,1,1,1⟩,⟨1,1,1,1,1⟩,⟨1,2,0,1,1⟩]
def lodG:Gr:=twoG 1 lodE [(5,2),(3,4)] [5] [3]
def bfE:List Ev:=bufE 1 1
def bfG:Gr:=bufG 1 1 1
theorem c_law12_buffering {h:Heap}:Con Tryd.prog 53 #[] h fun v h'=>Fr 0 0 h h'∧∃ q,v=.agg (gcells q bfG).toArray∧GrAt h' q bfG:=by
 refine con_q29 ?_
 have p0:Fr 0 0 h h:=.refl _ _ _
 simp -dsimp only [go_sem]
 intro b4 h1 n1
 have n1_z:=n1.az
 replace p0:=p0.F n1.f0
 have r4:=n1.row
 simp -dsimp only [go_sem,r4.cell]
 refine call_of (c_law12_ev 0 2 0 1 1) ?_
 rintro v h2 ⟨f2,rfl⟩
 have f2_z:=f2.size
 replace p0:=p0.F f2
 replace r4:=r4.F f2
 simp -dsimp only [go_sem,r4.cell]
 refine call_of (c_law12_ev 0 1 1 0 1) ?_
 rintro v h3 ⟨f3,rfl⟩
 have f3_z:=f3.size
 replace p0:=p0.F f3
 replace r4:=r4.F f3
 simp -dsimp only [go_sem,r4.cell]
 refine call_of (c_law12_ev 1 2 1 1 1) ?_
 rintro v h4 ⟨f4,rfl⟩
 have f4_z:=f4.size
 replace p0:=p0.F f4
 replace r4:=r4.F f4
 simp -dsimp only [go_sem,r4.cell]
 refine call_of (c_law12_ev 1 1 0 0 1) ?_
 rintro v h5 ⟨f5,rfl⟩
 have f5_z:=f5.size
 replace p0:=p0.F f5
 replace r4:=r4.F f5
 simp -dsimp only [go_sem,r4.cell]
 intro b6 h6 n6
 have n6_z:=n6.az
 replace p0:=p0.F n6.f0
 replace r4:=r4.F n6.f0
 have r6:=n6.row
 simp -dsimp only [go_sem,r4.cell,r6.cell]
 intro b7 h7 n7
 have n7_z:=n7.az
 replace p0:=p0.F n7.f0
 replace r4:=r4.F n7.f0
 replace r6:=r6.F n7.f0
 have r7:=n7.row
 simp -dsimp only [go_sem,r4.cell,r6.cell,r7.cell]
 intro b8 h8 n8
 have n8_z:=n8.az
 replace p0:=p0.F n8.f0
 replace r4:=r4.F n8.f0
 replace r6:=r6.F n8.f0
 replace r7:=r7.F n8.f0
 have r8:=n8.row
 simp -dsimp only [go_sem,r4.cell,r6.cell,r7.cell,r8.cell]
 intro b9 h9 n9
 have n9_z:=n9.az
 replace p0:=p0.F n9.f0
 replace r4:=r4.F n9.f0
 replace r6:=r6.F n9.f0
 replace r7:=r7.F n9.f0
 replace r8:=r8.F n9.f0
 have r9:=n9.row
 simp -dsimp only [go_sem,r4.cell,r6.cell,r7.cell,r8.cell,r9.cell]
 refine call_of (c_law12_two (E:=bfE) (rf:=[(1,3),(0,5)]) (x:=[2]) (y:=[4]) (lo:=b4+1) (by omega) (Rw.rd (s:=5) (n:=4) (c:=4) r6 rfl) (fun h' f=>Rw.rd (s:=2) (n:=2) (c:=2) (r7.fr f (by omega)) rfl) (Rw.rd (s:=1) (n:=1) (c:=1) r8 rfl) (Rw.rd (s:=1) (n:=1) (c:=1) r9 rfl) (Nat.le_of_ble_eq_true rfl) (by simp) (by simp) (by simp)) ?_
 rintro v h10 ⟨f10,q,rfl,t⟩
 have f10_z:=f10.size
 replace p0:=p0.F f10
 replace r4:=r4.F f10
 replace r6:=r6.F f10
 replace r7:=r7.F f10
 replace r8:=r8.F f10
 replace r9:=r9.F f10
 unfold gcells
 simp -dsimp only [go_sem,r4.cell,r6.cell,r7.cell,r8.cell,r9.cell]
 refine Chk_intro (r4.W) fun h11 s11=>?_
 have s11_z:=s11.size
 replace p0:=p0.F s11.fr
 replace r6:=r6.F s11.fr
 replace r7:=r7.F s11.fr
 replace r8:=r8.F s11.fr
 replace r9:=r9.F s11.fr
 replace r4:=s11.row r4
 try simp only [cl_int,cl_bool,cl_slice,cl_ptr,putAt_one,zs0,zs1,ivec_set,brow_upd] at r4
 have t:=t _ (s11.fr.wide (Nat.le_refl _))
 simp -dsimp only [go_sem,r4.cell,r6.cell,r7.cell,r8.cell,r9.cell]
 exact ⟨p0,q,rfl,t⟩
theorem c_law12_load {h:Heap}:Con Tryd.prog 38 #[] h fun v h'=>Fr 0 0 h h'∧∃ q,v=.agg (gcells q lodG).toArray∧GrAt h' q lodG:=by
 refine con_q34 ?_
 have p0:Fr 0 0 h h:=.refl _ _ _
 simp -dsimp only [go_sem]
 intro b4 h1 n1
 have n1_z:=n1.az
 replace p0:=p0.F n1.f0
 have r4:=n1.row
 simp -dsimp only [go_sem,r4.cell]
 refine call_of (c_law12_ev 0 1 0 1 1) ?_
 rintro v h2 ⟨f2,rfl⟩
 have f2_z:=f2.size
 replace p0:=p0.F f2
 replace r4:=r4.F f2
 simp -dsimp only [go_sem,r4.cell]
 refine call_of (c_law12_ev 0 2 1 1 1) ?_
 rintro v h3 ⟨f3,rfl⟩
 have f3_z:=f3.size
 replace p0:=p0.F f3
 replace r4:=r4.F f3
 simp -dsimp only [go_sem,r4.cell]
 refine call_of (c_law12_ev 1 1 1 1 1) ?_
 rintro v h4 ⟨f4,rfl⟩
 have f4_z:=f4.size
 replace p0:=p0.F f4
 replace r4:=r4.F f4
 simp -dsimp only [go_sem,r4.cell]
 refine call_of (c_law12_ev 1 2 0 1 1) ?_
 rintro v h5 ⟨f5,rfl⟩
 have f5_z:=f5.size
 replace p0:=p0.F f5
 replace r4:=r4.F f5
 simp -dsimp only [go_sem,r4.cell]
 intro b6 h6 n6
 have n6_z:=n6.az
 replace p0:=p0.F n6.f0
 replace r4:=r4.F n6.f0
 have r6:=n6.row
 simp -dsimp only [go_sem,r4.cell,r6.cell]
 intro b7 h7 n7
 have n7_z:=n7.az
 replace p0:=p0.F n7.f0
 replace r4:=r4.F n7.f0
 replace r6:=r6.F n7.f0
 have r7:=n7.row
 simp -dsimp only [go_sem,r4.cell,r6.cell,r7.cell]
 intro b8 h8 n8
 have n8_z:=n8.az
 replace p0:=p0.F n8.f0
 replace r4:=r4.F n8.f0
 replace r6:=r6.F n8.f0
 replace r7:=r7.F n8.f0
 have r8:=n8.row
 simp -dsimp only [go_sem,r4.cell,r6.cell,r7.cell,r8.cell]
 intro b9 h9 n9
 have n9_z:=n9.az
 replace p0:=p0.F n9.f0
 replace r4:=r4.F n9.f0
 replace r6:=r6.F n9.f0
 replace r7:=r7.F n9.f0
 replace r8:=r8.F n9.f0
 have r9:=n9.row
 simp -dsimp only [go_sem,r4.cell,r6.cell,r7.cell,r8.cell,r9.cell]
 refine call_of (c_law12_two (E:=lodE) (rf:=[(5,2),(3,4)]) (x:=[5]) (y:=[3]) (lo:=b4+1) (by omega) (Rw.rd (s:=5) (n:=4) (c:=4) r6 rfl) (fun h' f=>Rw.rd (s:=2) (n:=2) (c:=2) (r7.fr f (by omega)) rfl) (Rw.rd (s:=1) (n:=1) (c:=1) r8 rfl) (Rw.rd (s:=1) (n:=1) (c:=1) r9 rfl) (Nat.le_of_ble_eq_true rfl) (by simp) (by simp) (by simp)) ?_
 rintro v h10 ⟨f10,q,rfl,t⟩
 have f10_z:=f10.size
 replace p0:=p0.F f10
 replace r4:=r4.F f10
 replace r6:=r6.F f10
 replace r7:=r7.F f10
 replace r8:=r8.F f10
 replace r9:=r9.F f10
 unfold gcells
 simp -dsimp only [go_sem,r4.cell,r6.cell,r7.cell,r8.cell,r9.cell]
 refine Chk_intro (r4.W) fun h11 s11=>?_
 have s11_z:=s11.size
 replace p0:=p0.F s11.fr
 replace r6:=r6.F s11.fr
 replace r7:=r7.F s11.fr
 replace r8:=r8.F s11.fr
 replace r9:=r9.F s11.fr
 replace r4:=s11.row r4
 try simp only [cl_int,cl_bool,cl_slice,cl_ptr,putAt_one,zs0,zs1,ivec_set,brow_upd] at r4
 have t:=t _ (s11.fr.wide (Nat.le_refl _))
 simp -dsimp only [go_sem,r4.cell,r6.cell,r7.cell,r8.cell,r9.cell]
 exact ⟨p0,q,rfl,t⟩
end Go.Proofs.Tst
