/-
  Contracts of functions that the law reaches: what each returns and what it leaves in memory. Conditions stand in each.
-/
import Derived.Test.YtpocfojbfodlmaaGreatDoorT11
set_option linter.all false
set_option maxRecDepth 2000
/-
  RcChecks.
-/
namespace Go.Proofs.Tst
open Go Go.Vc
def rsA (g:Gr):Int:=if (g.check false).1=0 then (rcAx g).1 else 0
def rsL (g:Gr):List Int:=if (g.check false).1=0 then (rcAx g).2 else []
def rsE (g:Gr):Int:=if (g.check false).1=0 then 0 else 4
theorem rsL_len {g:Gr}:(rsL g).length≤g.n+2:=by
 have:=rcAx_len (g:=g)
 unfold rsL;split
 ·exact this
 ·simp
theorem rc_res {g:Gr} {h':Heap} {lo:Nat} {v:Value} (w:if (g.check false).1=0 then ∃ w,v=.tuple #[.int .i64 (rcAx g).1,w,.int .i64 0]∧Holder 1 h' w (rcAx g).2.length (intsV (rcAx g).2) lo else v=.tuple #[.int .i64 0,.slice none 0 0,.int .i64 4]) :
  ∃ w,v=.tuple #[.int .i64 (rsA g),w,.int .i64 (rsE g)]∧Holder 1 h' w (rsL g).length (intsV (rsL g)) lo:=by
 unfold rsA rsL rsE
 by_cases hc:(g.check false).1=0
 ·simp only [if_pos hc] at w ⊢;exact w
 ·simp only [if_neg hc] at w ⊢;exact ⟨_,w,.none _ _ _⟩
set_option maxHeartbeats 4000000 in
theorem c_law10_RcChecks {h:Heap} {q:GV} {g:Gr} (t:GrAt h q g) (ht:TabAt h) :
  Con Tryz.prog 3 #[.agg (gcells q g).toArray] h fun v h'=>Fr 0 0 h h'∧v=.bool true:=by
 refine con_q13 ?_
 have hz:0<h.size:=hcell_lt (ht 0 0 rfl)
 have be:=t.fits.e
 have bo:=t.fits.o
 have hen:g.evs.length=g.n:=rfl
 have p0:Fr 0 0 h h:=.refl _ _ _
 have hrl:=rsL_len (g:=g)
 unfold gcells
 simp -dsimp only [go_sem]
 intro b1 h1 n1
 have n1_z:=n1.az
 replace p0:=p0.F n1.f0
 have r1:=n1.row
 simp -dsimp only [go_sem,r1.cell]
 refine call_of (ref8_Copied (t.fr p0) (by omega)) ?_
 rintro v2 h2 ⟨f2,q',rfl,w⟩
 have f2_z:=f2.size
 replace p0:=p0.F f2
 replace r1:=r1.F f2
 have t':=w.at_
 have p2:Fr 0 0 h2 h2:=.refl _ _ _
 unfold gcells
 simp -dsimp only [go_sem]
 intro b3 h3 n3
 have n3_z:=n3.az
 replace p0:=p0.F n3.f0
 replace r1:=r1.F n3.f0
 replace p2:=p2.F n3.f0
 have r3:=n3.row
 simp -dsimp only [go_sem]
 refine Chk_intro (r3.W) fun h4 s4=>?_
 have s4_z:=s4.size
 replace p0:=p0.F s4.fr
 replace r1:=r1.F s4.fr
 replace p2:=p2.F s4.fr
 replace r3:=s4.row r3
 try simp only [cl_int,cl_bool,cl_slice,cl_ptr,putAt_one,zs0,zs1,ivec_set,brow_upd] at r3
 simp -dsimp only [go_sem] at r3
 simp -dsimp only [go_sem,r3.cell]
 refine call_of (rc11_Check (t'.fr p2) (ht.fr p0 (.inr rfl))) ?_
 rintro v5 h5 ⟨f5,w5⟩
 have f5_z:=f5.size
 replace p0:=p0.F f5
 replace r1:=r1.F f5
 replace p2:=p2.F f5
 replace r3:=r3.F f5
 obtain ⟨u5,rfl,o5⟩:=rc_res w5
 clear w5
 obtain ⟨a5,c5,rfl⟩:=o5.is
 have tp5:=o5.top
 simp -dsimp only [go_sem,r1.cell]
 refine call_of (ref10_Check (t.fr p0)) ?_
 rintro v6 h6 ⟨f6,w6⟩
 have f6_z:=f6.size
 replace p0:=p0.F f6
 replace r1:=r1.F f6
 replace p2:=p2.F f6
 replace r3:=r3.F f6
 replace o5:=o5.fr f6 (by have:=o5.at_;omega)
 obtain ⟨u6,rfl,o6⟩:=rc_res w6
 clear w6
 obtain ⟨a6,c6,rfl⟩:=o6.is
 have gz:h.size≤h2.size∧h2.size≤h4.size∧h4.size≤h5.size∧h5.size≤h6.size∧b1<h4.size∧b3<h4.size∧h.size≤b1∧h2.size≤b3:=by omega
 simp -dsimp only [go_sem,bne_self_eq_false]
 refine call_of (c_law10_ints (l:=rsL g) (m:=rsL g) o5.rd o6.rd (by omega)) ?_
 rintro v7 h6 ⟨rfl,rfl⟩
 simp -dsimp only [go_sem]
 have R3:Rw h6 b3 (gcells q' g):=r3
 have R1:Rw h6 b1 (gcells q g):=r1
 generalize hnl:(rsL g).length=nl at o5
 refine loop_intro (fun i:Nat=>[(1,.pointer (some ⟨b1,0,none⟩)),(3,.pointer (some ⟨b3,0,none⟩)),(5,.slice a5 nl c5),(8,.slice a6 (rsL g).length c6),(10,.int .i64 i)])
  (fun i h'=>i≤nl∧Fr 0 0 h h'∧Fr 0 0 h2 h'∧Rw h' b1 (gcells q g)∧Rw h' b3 (gcells q' g)∧(∃ ys,Holder 1 h' (.slice a5 nl c5) nl ys h4.size)∧Holder 1 h' (.slice a6 (rsL g).length c6) (rsL g).length (intsV (rsL g)) h5.size) (fun i=>nl - i) 0 ?_ ?_ ?_
 ·simp [Le,find,hnl]
 ·exact ⟨by omega,p0,p2,R1,R3,⟨_,o5⟩,o6⟩
 clear p0 p2 r1 r3 o5 o6 R1 R3
 rintro i h7 ⟨hi,p0,p2,r1,r3,⟨ys,osp⟩,o6⟩
 unfold gcells at r1 r3
 have tps:bh (.slice a5 nl c5)≤h5.size:=by rw [← hnl];exact tp5
 have p0_z:=p0.size
 have p2_z:=p2.size
 have r1_l:=r1.lt
 have r3_l:=r3.lt
 have o6_l:=o6.top
 by_cases hlt:i<nl
 ·have e1:((i:Int)<(nl:Int)):=by omega
  obtain ⟨b,c,rest,he,-,-,hb⟩:=osp.blk (by omega)
  cases he
  have tps:b+1≤h5.size:=tps
  simp -dsimp only [go_sem,e1]
  refine Chk_intro (osp.wrAt hlt) fun h8 s8=>?_
  have osp':=osp.set hlt s8
  clear osp
  have f8:=s8.fr
  have f8_z:=f8.size
  replace p0:=p0.F f8
  replace p2:=p2.F f8
  replace r1:=r1.F f8
  replace r3:=r3.F f8
  replace o6:=o6.fr f8 (by have:=o6.at_;omega)
  simp -dsimp only [go_sem]
  simp -dsimp (disch:=omega) only [wrap64]
  exact ⟨i+1,by omega,by simp [Le,find],by omega,p0,p2,r1,r3,⟨_,osp'⟩,o6⟩
 obtain rfl:i=nl:=by omega
 simp -dsimp only [go_sem,Int.lt_irrefl,r3.cell]
 refine call_of (rc11_Check (t'.fr p2) (ht.fr p0 (.inr rfl))) ?_
 rintro v9 h9 ⟨f9,w9⟩
 have f9_z:=f9.size
 replace p0:=p0.F f9
 replace p2:=p2.F f9
 replace r1:=r1.F f9
 replace r3:=r3.F f9
 replace o6:=o6.fr f9 (by have:=o6.at_;omega)
 obtain ⟨u9,rfl,o9⟩:=rc_res w9
 clear w9
 obtain ⟨a9,c9,rfl⟩:=o9.is
 simp -dsimp only [go_sem]
 refine call_of (c_law10_ints (l:=rsL g) (m:=rsL g) o9.rd o6.rd (by omega)) ?_
 rintro v10 h10 ⟨rfl,rfl⟩
 simp -dsimp only [go_sem,r1.cell,r3.cell]
 refine call_of (ref8_Alike (t'.fr p2) (t.fr p0)) ?_
 rintro v11 h11 ⟨f11,rfl⟩
 have f11_z:=f11.size
 replace p0:=p0.F f11
 replace p2:=p2.F f11
 replace r1:=r1.F f11
 replace r3:=r3.F f11
 replace o6:=o6.fr f11 (by have:=o6.at_;omega)
 simp -dsimp only [go_sem]
 refine call_of (law10_lives (ht.fr p0 (.inr rfl))) ?_
 rintro v12 h12 ⟨f12,rfl⟩
 have f12_z:=f12.size
 replace p0:=p0.F f12
 replace p2:=p2.F f12
 replace r1:=r1.F f12
 replace r3:=r3.F f12
 replace o6:=o6.fr f12 (by have:=o6.at_;omega)
 simp -dsimp only [go_sem]
 exact p0
end Go.Proofs.Tst
/-
  RcChecks and its arguments.
-/
namespace Go.Proofs.Tst
end Go.Proofs.Tst
