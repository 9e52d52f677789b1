/-
  Contracts of functions that the law reaches: what each returns and what it leaves in memory. Conditions stand in each.
-/
import Derived.Test.YtmcghihgeibgpaaDoorT10
set_option linter.all false
set_option maxRecDepth 2000
/-
  seq: Mapped.
-/
namespace Go.Proofs.Tst
open Go Go.Vc
theorem seq_mode (e:Ev) {h:Heap}:Con Tryd.prog 47 #[.agg e.cells.toArray] h fun v h'=>Fr 0 0 h h'∧v=.int .i64 (mapMode e.kind e.mode):=by
 refine con_q142 ?_
 have p0:Fr 0 0 h h:=.refl _ _ _
 unfold Ev.cells mapMode
 simp -dsimp only [go_sem]
 intro b1 h1 n1
 have n1_z:=n1.az
 replace p0:=p0.F n1.f0
 have r1:=n1.row
 by_cases h3:e.kind=3
 ·by_cases h2:e.mode=2
  ·simp -dsimp only [go_sem,h3,h2,beq_self_eq_true,r1.cell]
   exact p0
  ·simp -dsimp only [go_sem,h3,beq_self_eq_true,beq_f h2,h2,r1.cell]
   exact p0
 ·by_cases h1':e.mode=1
  ·simp -dsimp only [go_sem,beq_f h3,h3,h1',beq_self_eq_true,r1.cell]
   exact p0
  ·by_cases hk:e.kind=1
   ·simp -dsimp only [go_sem,beq_f h3,h3,beq_f h1',h1',hk,beq_self_eq_true,r1.cell]
    exact ⟨p0,by simp⟩
   ·simp -dsimp only [go_sem,beq_f h3,h3,beq_f h1',h1',beq_f hk,hk,r1.cell]
    exact p0
theorem ints_le {L:List Int} {n:Nat} (hnd:L.Nodup) (h:∀ x∈L,0≤x∧x<(n:Int)):L.length≤n:=by
 have:=nodup_le hnd (m:=(List.range n).map fun (p:Nat)=>(p:Int)) fun x hx=>by
  obtain ⟨h1,h2⟩:=h x hx
  exact List.mem_map.2 ⟨x.toNat,List.mem_range.2 (by omega),by omega⟩
 simpa using this
section
variable {g : Gr} {lse : Bool}
theorem src_lens (hg:g.good=true):g.rf.length≤g.n∧g.rmw.length≤g.n∧∀ c,c<g.co.length→(g.co.getD c []).length≤g.n:=by
 obtain ⟨words,hz⟩:=good_check hg
 obtain ⟨-,-,-,h4,-,h6,-⟩:=check_iff.1 hz
 refine ⟨?_,?_,fun c hc=>?_⟩
 ·have hr:=(rf_iff.1 h4).1
  have hnd:(g.rf.map (·.2)).Nodup:=by
   rw [hr]
   exact List.pairwise_map.2 ((List.Nodup.sublist List.filter_sublist List.nodup_range').imp fun h e=>h (by omega))
  have:=ints_le (n:=g.n) hnd fun x hx=>by
   obtain ⟨p,hp,rfl⟩:=List.mem_map.1 hx
   obtain ⟨w,r,e,hw,hr',-⟩:=rf_pair hz hp
   subst e;dsimp only;omega
  simpa using this
 ·have hp:=(rmw_iff.1 h6).1
  have hnd:(g.rmw.map (·.1)).Nodup:=List.pairwise_map.2 (hp.imp fun h e=>by omega)
  have:=ints_le (n:=g.n) hnd fun x hx=>by
   obtain ⟨p,hp,rfl⟩:=List.mem_map.1 hx
   obtain ⟨a,b,rfl,P⟩:=pair_ok hg hp
   have:=P.la
   dsimp only;omega
  simpa using this
 ·obtain ⟨h1,h2,-⟩:=co_list hg hc
  exact ints_le h1 fun x hx=>by
   have:=is_lt (h2 x hx).1
   omega
theorem src_cells (hg:g.good=true):0≤g.cells∧g.cells≤4096∧g.cells≤(g.n:Int):=by
 have hs:=(good_n hg).2
 simp only [Gr.size,Bool.and_eq_true,decide_eq_true_eq] at hs
 exact ⟨hs.1.1.1,hs.1.1.2,hs.1.2⟩
theorem setMode_one {i:Nat} (hi:i<g.n) (hl:lseB g lse i=false):setMode (evsTo g lse i) i (mapMode (g.ev i).kind (g.ev i).mode)=evsTo g lse (i+1):=by
 have e:(evsTo g lse i).getD i default=g.ev i:=by rw [List.getD_eq_getElem?_getD,evsTo_get hi];simp
 unfold setMode
 rw [e,evsTo_succ hi]
 unfold mapEv
 rw [hl];rfl
theorem setMode_two {i:Nat} {a:Int} (hi:i<g.n) (hl:lseB g lse i=true):setMode (setMode (evsTo g lse i) i a) i 16=evsTo g lse (i+1):=by
 have e:(evsTo g lse i).getD i default=g.ev i:=by rw [List.getD_eq_getElem?_getD,evsTo_get hi];simp
 unfold setMode
 rw [e,evsTo_succ hi]
 have e2:((evsTo g lse i).set i { g.ev i with mode:=a }).getD i default={ g.ev i with mode:=a }:=by
  rw [List.getD_eq_getElem?_getD,List.getElem?_set];simp [hi]
 rw [e2,List.set_set]
 unfold mapEv
 rw [if_pos hl]
def pmTo (g:Gr) (k:Nat) (x:Int):Option Value:=if ((g.rmw.take k).any fun p=>p.1==x)=true then some (.bool true) else none
theorem pmTo_succ {k:Nat} {p:Int×Int} (hp:g.rmw[k]?=some p) (x:Int):(if x=p.1 then some (.bool true) else pmTo g k x)=pmTo g (k+1) x:=by
 unfold pmTo
 rw [List.take_add_one,hp,Option.toList_some,List.any_append]
 by_cases h:x=p.1
 ·subst h;simp
 ·have:(p.1==x)=false:=by simp;exact fun e=>h e.symm
  rw [if_neg h]
  simp only [List.any_cons,List.any_nil,this,Bool.or_false]
def thrTo (g:Gr) (i j:Nat):List (Int×Int):=(((threadL g (g.ev i).thread).take j).filter fun b=>decide (b > (i:Int))).map fun b=>((i:Int),b)
theorem thrTo_all {i:Nat} (hi:i<g.n) (ht:0≤(g.ev i).thread):thrTo g i (threadL g (g.ev i).thread).length=ctrlTo g i g.n:=by
 unfold thrTo ctrlTo
 rw [List.take_length]
 unfold threadL threadTo
 rw [List.filter_map,List.map_map,List.filter_filter]
 congr 1
 refine List.filter_congr fun b hb=>?_
 have:=List.mem_range.1 hb
 rw [Bool.eq_iff_iff]
 show (decide ((b:Int) > (i:Int))&&((g.ev b).thread==(g.ev i).thread))=true↔g.before i b=true
 unfold Gr.before
 simp only [Bool.and_eq_true,decide_eq_true_eq,beq_iff_eq,Int.toNat_natCast]
 constructor
 ·rintro ⟨h1,h2⟩
  exact ⟨⟨⟨⟨by omega,by omega⟩,by omega⟩,ht⟩,h2.symm⟩
 ·rintro ⟨⟨⟨⟨h1,h2⟩,h3⟩,h4⟩,h5⟩
  exact ⟨by omega,h5.symm⟩
theorem thrTo_succ {i j:Nat} {b:Int} (hb:(threadL g (g.ev i).thread)[j]?=some b):thrTo g i (j+1)=thrTo g i j++(if b > (i:Int) then [((i:Int),b)] else []):=by
 unfold thrTo
 rw [List.take_add_one,hb,Option.toList_some,List.filter_append,List.map_append]
 congr 1
 by_cases h:b > (i:Int)
 ·rw [if_pos h];simp [h]
 ·rw [if_neg h];simp [h]
theorem thrTo_len {i j:Nat}:(thrTo g i j).length≤j:=by
 unfold thrTo
 rw [List.length_map]
 exact Nat.le_trans (List.length_filter_le _ _) (by simp;omega)
end
def nil8:List Value:=[.int .i64 0,.slice none 0 0,.slice none 0 0,.slice none 0 0,.slice none 0 0,.slice none 0 0,.slice none 0 0,.slice none 0 0]
set_option maxHeartbeats 16000000 in
theorem seq_Mapped {h:Heap} {q:GV} {g:Gr} (t:GrAt h q g) (lse:Bool) (hz:0<h.size) :
  Con Tryd.prog 13 #[.agg (gcells q g).toArray,.bool lse] h fun v h'=>Fr 0 0 h h'∧if (g.check false).1=0 then ∃ q',v=.tuple #[.agg (gcells q' (mapG g lse)).toArray,.int .i64 0]∧GrOwn h' q' (mapG g lse) h.size
   else v=.tuple #[.agg nil8.toArray,.int .i64 4]:=by
 have p0:Fr 0 0 h h:=.refl _ _ _
 by_cases hc:(g.check false).1=0
 rotate_left
 ·simp only [if_neg hc]
  refine con_q135 ?_
  unfold gcells
  simp -dsimp only [go_sem]
  intro b2 h1 n1
  have n1_a:=n1.at_
  have n1_z:=n1.size
  replace p0:=p0.F n1.f0
  have r2:=n1.row
  simp -dsimp only [go_sem,r2.cell]
  intro b4 h2 n2
  have n2_a:=n2.at_
  have n2_z:=n2.size
  replace p0:=p0.F n2.f0
  replace r2:=r2.F n2.f0
  have r4:=n2.row
  simp -dsimp only [go_sem,r2.cell,r4.cell]
  refine call_of (graph_Check (t.fr p0) false) ?_
  rintro v3 h3 ⟨f3,rfl⟩
  have f3_z:=f3.size
  replace p0:=p0.F f3
  replace r2:=r2.F f3
  replace r4:=r4.F f3
  simp -dsimp only [go_sem,bne_f hc,r2.cell,r4.cell]
  refine Chk_intro (r4.W) fun h4 s4=>?_
  have s4_z:=s4.size
  replace p0:=p0.F s4.fr
  replace r2:=r2.F s4.fr
  replace r4:=s4.row r4
  try simp only [cl_int,cl_bool,cl_slice,cl_ptr,putAt_one,zs0,zs1,ivec_set,brow_upd] at r4
  try simp -dsimp only [go_sem] at r4
  simp -dsimp only [go_sem,r2.cell,r4.cell]
  first | exact p0 | exact ⟨p0,rfl⟩
 simp only [if_pos hc]
 have hg:g.good=true:=good_false hc
 have hn:=(good_n hg).1
 have hen:g.evs.length=g.n:=rfl
 obtain ⟨lf,lr,lco⟩:=src_lens hg
 obtain ⟨hc0,hc1,hc2⟩:=src_cells hg
 have hcol:=(good_co hg).1
 have hrl:=rl_at t.o
 refine con_q135 ?_
 unfold gcells
 simp -dsimp only [go_sem]
 intro b2 h1 n1
 have n1_a:=n1.at_
 have n1_z:=n1.size
 replace p0:=p0.F n1.f0
 have r2:=n1.row
 simp -dsimp only [go_sem,r2.cell]
 intro b4 h2 n2
 have n2_a:=n2.at_
 have n2_z:=n2.size
 replace p0:=p0.F n2.f0
 replace r2:=r2.F n2.f0
 have r4:=n2.row
 simp -dsimp only [go_sem,r2.cell,r4.cell]
 refine call_of (graph_Check (t.fr p0) false) ?_
 rintro v3 h3 ⟨f3,rfl⟩
 have f3_z:=f3.size
 replace p0:=p0.F f3
 replace r2:=r2.F f3
 replace r4:=r4.F f3
 simp -dsimp only [go_sem,bne_t hc,r2.cell,r4.cell]
 have g3:h.size≤b2∧b2<b4∧b4<h3.size∧h.size≤h3.size:=by omega
 refine rvc_joint (fun s:Nat×(Option Addr×Nat)×(Option Addr×Nat)×(Option Addr×Nat)=>[(1,.bool lse),(2,.pointer (some ⟨b2,0,none⟩)),(4,.pointer (some ⟨b4,0,none⟩)),(8,.pointer (some ⟨s.1,0,none⟩))])
  (fun s h'=>Fr 0 0 h h'∧h3.size≤h'.size∧h3.size≤s.1∧s.1<h'.size∧Rw h' b2 (gcells q g)∧Rw h' b4 nil8∧Rw h' s.1 [.int .i64 g.cells,.slice s.2.1.1 g.evs.length s.2.1.2,.slice s.2.2.1.1 g.rf.length s.2.2.1.2,.slice none 0 0,.slice s.2.2.2.1 g.rmw.length s.2.2.2.2,.slice none 0 0,.slice none 0 0,.slice none 0 0] ∧
   Holder 5 h' (.slice s.2.1.1 g.evs.length s.2.1.2) g.evs.length (evsV g.evs) h3.size∧Holder 2 h' (.slice s.2.2.1.1 g.rf.length s.2.2.1.2) g.rf.length (pairsV g.rf) h3.size∧Holder 2 h' (.slice s.2.2.2.1 g.rmw.length s.2.2.2.2) g.rmw.length (pairsV g.rmw) h3.size ∧
   Off (.slice s.2.1.1 g.evs.length s.2.1.2) (.slice s.2.2.1.1 g.rf.length s.2.2.1.2)∧Off (.slice s.2.1.1 g.evs.length s.2.1.2) (.slice s.2.2.2.1 g.rmw.length s.2.2.2.2) ∧
   (bh (.slice s.2.1.1 g.evs.length s.2.1.2)≤s.1∨s.1+1≤bl (.slice s.2.1.1 g.evs.length s.2.1.2))∧(bh (.slice s.2.2.1.1 g.rf.length s.2.2.1.2)≤s.1∨s.1+1≤bl (.slice s.2.2.1.1 g.rf.length s.2.2.1.2))∧(bh (.slice s.2.2.2.1 g.rmw.length s.2.2.2.2)≤s.1∨s.1+1≤bl (.slice s.2.2.2.1 g.rmw.length s.2.2.2.2))) ?_ ?_
 ·skip
  simp -dsimp only [go_sem,r_two,r2.cell,r4.cell]
  refine ⟨?_,?_⟩
  ·refine call_of (slices_CloneE (t.e.fr p0) (oc_evs _) (by omega)) ?_
   rintro v ye ⟨fe_,oe⟩
   have fe__z:=fe_.size
   replace p0:=p0.F fe_
   replace r2:=r2.F fe_
   replace r4:=r4.F fe_
   obtain ⟨ae,ce,rfl⟩:=oe.is
   have le:=Bl.of oe
   simp -dsimp only [go_sem,r_two,r2.cell,r4.cell]
   refine ⟨?_,?_⟩
   ·refine call_of (slices_CloneP (t.f.fr p0) (oc_pairs _) (by omega)) ?_
    rintro v yf ⟨ff_,of_⟩
    replace oe:=oe.fr ff_ (by have:=oe.top;omega)
    have ff__z:=ff_.size
    replace p0:=p0.F ff_
    replace r2:=r2.F ff_
    replace r4:=r4.F ff_
    obtain ⟨af,cf,rfl⟩:=of_.is
    have lf:=Bl.of of_
    simp -dsimp only [go_sem,r_two,r2.cell,r4.cell]
    refine ⟨?_,?_⟩
    ·refine call_of (slices_CloneP (t.r.fr p0) (oc_pairs _) (by omega)) ?_
     rintro v yr ⟨fr_,orr⟩
     replace oe:=oe.fr fr_ (by have:=oe.top;omega)
     replace of_:=of_.fr fr_ (by have:=of_.top;omega)
     have fr__z:=fr_.size
     replace p0:=p0.F fr_
     replace r2:=r2.F fr_
     replace r4:=r4.F fr_
     obtain ⟨ar,cr,rfl⟩:=orr.is
     have lr:=Bl.of orr
     simp -dsimp only [go_sem,r2.cell,r4.cell]
     intro b8 y8 n8
     have n8_a:=n8.at_
     have n8_z:=n8.size
     replace p0:=p0.F n8.f0
     replace r2:=r2.F n8.f0
     replace r4:=r4.F n8.f0
     have r8:=n8.row
     replace oe:=oe.fr n8.f0 (by omega)
     replace of_:=of_.fr n8.f0 (by omega)
     replace orr:=orr.fr n8.f0 (by omega)
     simp -dsimp only [go_sem,r2.cell,r4.cell,r8.cell]
     refine Chk_intro (r8.W) fun y9 s9=>?_
     have s9_z:=s9.size
     replace p0:=p0.F s9.fr
     replace r2:=r2.F s9.fr
     replace r4:=r4.F s9.fr
     replace r8:=s9.row r8
     try simp only [cl_int,cl_bool,cl_slice,cl_ptr,putAt_one,zs0,zs1,ivec_set,brow_upd] at r8
     have z9:=s9.size
     replace oe:=oe.fr s9.fr (by unfold Bl at *;omega)
     replace of_:=of_.fr s9.fr (by unfold Bl at *;omega)
     replace orr:=orr.fr s9.fr (by unfold Bl at *;omega)
     simp -dsimp only [go_sem,r2.cell,r4.cell,r8.cell]
     exact ⟨(b8,(ae,ce),(af,cf),(ar,cr)),by simp [Le,find],p0,by omega,by dsimp only;omega,by dsimp only;omega,r2,r4,r8,oe.lower (by omega),of_.lower (by omega),orr.lower (by omega),by dsimp only;unfold Off;unfold Bl at *;omega,by dsimp only;unfold Off;unfold Bl at *;omega,by dsimp only;unfold Bl at *;omega,by dsimp only;unfold Bl at *;omega,by dsimp only;unfold Bl at *;omega⟩
    ·intro b8 y8 n8
     have n8_a:=n8.at_
     have n8_z:=n8.size
     replace p0:=p0.F n8.f0
     replace r2:=r2.F n8.f0
     replace r4:=r4.F n8.f0
     have r8:=n8.row
     replace oe:=oe.fr n8.f0 (by omega)
     replace of_:=of_.fr n8.f0 (by omega)
     simp -dsimp only [go_sem,r2.cell,r4.cell,r8.cell]
     refine call_of (slices_CloneP (t.r.fr p0) (oc_pairs _) (by omega)) ?_
     rintro v yr ⟨fr_,orr⟩
     replace oe:=oe.fr fr_ (by have:=oe.top;omega)
     replace of_:=of_.fr fr_ (by have:=of_.top;omega)
     have fr__z:=fr_.size
     replace p0:=p0.F fr_
     replace r2:=r2.F fr_
     replace r4:=r4.F fr_
     replace r8:=r8.F fr_
     obtain ⟨ar,cr,rfl⟩:=orr.is
     have lr:=Bl.of orr
     simp -dsimp only [go_sem,r2.cell,r4.cell,r8.cell]
     refine Chk_intro (r8.W) fun y9 s9=>?_
     have s9_z:=s9.size
     replace p0:=p0.F s9.fr
     replace r2:=r2.F s9.fr
     replace r4:=r4.F s9.fr
     replace r8:=s9.row r8
     try simp only [cl_int,cl_bool,cl_slice,cl_ptr,putAt_one,zs0,zs1,ivec_set,brow_upd] at r8
     have z9:=s9.size
     replace oe:=oe.fr s9.fr (by unfold Bl at *;omega)
     replace of_:=of_.fr s9.fr (by unfold Bl at *;omega)
     replace orr:=orr.fr s9.fr (by unfold Bl at *;omega)
     simp -dsimp only [go_sem,r2.cell,r4.cell,r8.cell]
     exact ⟨(b8,(ae,ce),(af,cf),(ar,cr)),by simp [Le,find],p0,by omega,by dsimp only;omega,by dsimp only;omega,r2,r4,r8,oe.lower (by omega),of_.lower (by omega),orr.lower (by omega),by dsimp only;unfold Off;unfold Bl at *;omega,by dsimp only;unfold Off;unfold Bl at *;omega,by dsimp only;unfold Bl at *;omega,by dsimp only;unfold Bl at *;omega,by dsimp only;unfold Bl at *;omega⟩
   ·intro b8 y8 n8
    have n8_a:=n8.at_
    have n8_z:=n8.size
    replace p0:=p0.F n8.f0
    replace r2:=r2.F n8.f0
    replace r4:=r4.F n8.f0
    have r8:=n8.row
    replace oe:=oe.fr n8.f0 (by omega)
    simp -dsimp only [go_sem,r2.cell,r4.cell,r8.cell]
    refine call_of (slices_CloneP (t.f.fr p0) (oc_pairs _) (by omega)) ?_
    rintro v yf ⟨ff_,of_⟩
    replace oe:=oe.fr ff_ (by have:=oe.top;omega)
    have ff__z:=ff_.size
    replace p0:=p0.F ff_
    replace r2:=r2.F ff_
    replace r4:=r4.F ff_
    replace r8:=r8.F ff_
    obtain ⟨af,cf,rfl⟩:=of_.is
    have lf:=Bl.of of_
    simp -dsimp only [go_sem,r2.cell,r4.cell,r8.cell]
    refine call_of (slices_CloneP (t.r.fr p0) (oc_pairs _) (by omega)) ?_
    rintro v yr ⟨fr_,orr⟩
    replace oe:=oe.fr fr_ (by have:=oe.top;omega)
    replace of_:=of_.fr fr_ (by have:=of_.top;omega)
    have fr__z:=fr_.size
    replace p0:=p0.F fr_
    replace r2:=r2.F fr_
    replace r4:=r4.F fr_
    replace r8:=r8.F fr_
    obtain ⟨ar,cr,rfl⟩:=orr.is
    have lr:=Bl.of orr
    simp -dsimp only [go_sem,r2.cell,r4.cell,r8.cell]
    refine Chk_intro (r8.W) fun y9 s9=>?_
    have s9_z:=s9.size
    replace p0:=p0.F s9.fr
    replace r2:=r2.F s9.fr
    replace r4:=r4.F s9.fr
    replace r8:=s9.row r8
    try simp only [cl_int,cl_bool,cl_slice,cl_ptr,putAt_one,zs0,zs1,ivec_set,brow_upd] at r8
    have z9:=s9.size
    replace oe:=oe.fr s9.fr (by unfold Bl at *;omega)
    replace of_:=of_.fr s9.fr (by unfold Bl at *;omega)
    replace orr:=orr.fr s9.fr (by unfold Bl at *;omega)
    simp -dsimp only [go_sem,r2.cell,r4.cell,r8.cell]
    exact ⟨(b8,(ae,ce),(af,cf),(ar,cr)),by simp [Le,find],p0,by omega,by dsimp only;omega,by dsimp only;omega,r2,r4,r8,oe.lower (by omega),of_.lower (by omega),orr.lower (by omega),by dsimp only;unfold Off;unfold Bl at *;omega,by dsimp only;unfold Off;unfold Bl at *;omega,by dsimp only;unfold Bl at *;omega,by dsimp only;unfold Bl at *;omega,by dsimp only;unfold Bl at *;omega⟩
  ·intro b8 y8 n8
   have n8_a:=n8.at_
   have n8_z:=n8.size
   replace p0:=p0.F n8.f0
   replace r2:=r2.F n8.f0
   replace r4:=r4.F n8.f0
   have r8:=n8.row
   simp -dsimp only [go_sem,r2.cell,r4.cell,r8.cell]
   refine call_of (slices_CloneE (t.e.fr p0) (oc_evs _) (by omega)) ?_
   rintro v ye ⟨fe_,oe⟩
   have fe__z:=fe_.size
   replace p0:=p0.F fe_
   replace r2:=r2.F fe_
   replace r4:=r4.F fe_
   replace r8:=r8.F fe_
   obtain ⟨ae,ce,rfl⟩:=oe.is
   have le:=Bl.of oe
   simp -dsimp only [go_sem,r2.cell,r4.cell,r8.cell]
   refine call_of (slices_CloneP (t.f.fr p0) (oc_pairs _) (by omega)) ?_
   rintro v yf ⟨ff_,of_⟩
   replace oe:=oe.fr ff_ (by have:=oe.top;omega)
   have ff__z:=ff_.size
   replace p0:=p0.F ff_
   replace r2:=r2.F ff_
   replace r4:=r4.F ff_
   replace r8:=r8.F ff_
   obtain ⟨af,cf,rfl⟩:=of_.is
   have lf:=Bl.of of_
   simp -dsimp only [go_sem,r2.cell,r4.cell,r8.cell]
   refine call_of (slices_CloneP (t.r.fr p0) (oc_pairs _) (by omega)) ?_
   rintro v yr ⟨fr_,orr⟩
   replace oe:=oe.fr fr_ (by have:=oe.top;omega)
   replace of_:=of_.fr fr_ (by have:=of_.top;omega)
   have fr__z:=fr_.size
   replace p0:=p0.F fr_
   replace r2:=r2.F fr_
   replace r4:=r4.F fr_
   replace r8:=r8.F fr_
   obtain ⟨ar,cr,rfl⟩:=orr.is
   have lr:=Bl.of orr
   simp -dsimp only [go_sem,r2.cell,r4.cell,r8.cell]
   refine Chk_intro (r8.W) fun y9 s9=>?_
   have s9_z:=s9.size
   replace p0:=p0.F s9.fr
   replace r2:=r2.F s9.fr
   replace r4:=r4.F s9.fr
   replace r8:=s9.row r8
   try simp only [cl_int,cl_bool,cl_slice,cl_ptr,putAt_one,zs0,zs1,ivec_set,brow_upd] at r8
   have z9:=s9.size
   replace oe:=oe.fr s9.fr (by unfold Bl at *;omega)
   replace of_:=of_.fr s9.fr (by unfold Bl at *;omega)
   replace orr:=orr.fr s9.fr (by unfold Bl at *;omega)
   simp -dsimp only [go_sem,r2.cell,r4.cell,r8.cell]
   exact ⟨(b8,(ae,ce),(af,cf),(ar,cr)),by simp [Le,find],p0,by omega,by dsimp only;omega,by dsimp only;omega,r2,r4,r8,oe.lower (by omega),of_.lower (by omega),orr.lower (by omega),by dsimp only;unfold Off;unfold Bl at *;omega,by dsimp only;unfold Off;unfold Bl at *;omega,by dsimp only;unfold Bl at *;omega,by dsimp only;unfold Bl at *;omega,by dsimp only;unfold Bl at *;omega⟩
 clear p0 r2 r4
 rintro ⟨b8,⟨ea,ec⟩,⟨fa,fc⟩,⟨ra,rc⟩⟩ h5 ⟨p0,z5,k1,k2,r2,r4,r8,oe,of_,orr,xf,xr,x8,y8,w8⟩ e ⟨e1,e2,e4,e8,-⟩
 dsimp only at k1 k2 r8 oe of_ orr xf xr x8 y8 w8 e8
 have R8:=r8
 have R2:Rw h5 b2 (gcells q g):=r2
 have R4:=r4
 have te:=oe.top
 have tf:=of_.top
 have tr:=orr.top
 have ae:=oe.at_
 have af:=of_.at_
 have ar:=orr.at_
 have I5:Fr b8 (b8+1) h5 h5:=.refl _ _ _
 unfold gcells at r2
 unfold nil8 at r4
 have p0_z:=p0.size
 have r2_l:=r2.lt
 have r4_l:=r4.lt
 have r8_l:=r8.lt
 simp -dsimp only [go_sem,e1,e2,e4,e8,r2.cell,r4.cell,r8.cell]
 refine loop_intro (fun s:Nat×Value×List Value=>[(1,.bool lse),(2,.pointer (some ⟨b2,0,none⟩)),(4,.pointer (some ⟨b4,0,none⟩)),(8,.pointer (some ⟨b8,0,none⟩)),(39,.slice q.o g.co.length q.oc),(40,.int .i64 g.co.length),(41,.int .i64 s.1)])
  (fun s h'=>s.1≤g.co.length∧Fr 0 0 h h'∧Fr b8 (b8+1) h5 h'∧Rw h' b2 (gcells q g)∧Rw h' b4 nil8 ∧
   Rw h' b8 [.int .i64 g.cells,.slice ea g.evs.length ec,.slice fa g.rf.length fc,s.2.1,.slice ra g.rmw.length rc,.slice none 0 0,.slice none 0 0,.slice none 0 0] ∧
   LL h' s.2.1 s.2.2 ((g.co.take s.1).map intsV) h5.size∧s.2.2.Pairwise Off) (fun s=>g.co.length - s.1) (0,.slice none 0 0,[]) ?_ ?_ ?_
 ·simp [Le,find,e1,e2,e4,e8]
 ·exact ⟨by omega,p0,I5,R2,R4,R8,.nil,.nil⟩
 clear p0 r2 r4 r8 R2 R4 R8 I5 e1 e2 e4 e8
 rintro ⟨c,ov,us⟩ h7 ⟨hcc,p0,I0,r2,r4,r8,LO,hpw⟩
 dsimp only at hcc r8 LO hpw ⊢
 unfold gcells at r2
 have elen:((g.co.take c).map intsV).length=c:=by simp;omega
 have LOis:=LO.own.is
 rw [elen] at LOis
 have LOa:=LO.own.at_
 have aTop:=LO.top
 obtain ⟨sa,sc,rfl⟩:=LOis
 have zz:h5.size≤h7.size:=I0.size
 by_cases hlt:c<g.co.length
 ·have e1:((c:Int)<(g.co.length:Int)):=by omega
  obtain ⟨ob,oo,hoe,la,lc,hlist⟩:=hrl c hlt
  have hll:=lco c hlt
  have htk:g.co.take (c+1)=g.co.take c++[g.co.getD c []]:=by rw [List.take_add_one];simp [hlt]
  generalize hl:g.co.getD c []=l at hlist hll htk
  obtain ⟨l1,l2⟩:=hlist h7 p0
  have p0_z:=p0.size
  have I0_z:=I0.size
  have r2_l:=r2.lt
  have r4_l:=r4.lt
  have r8_l:=r8.lt
  have LO_l:=LO.own.top
  simp -dsimp only [go_sem,e1,hoe,l1,r2.cell,r4.cell,r8.cell]
  refine call_of (slices_Clone l2 (oc_ints _) (by omega)) ?_
  rintro v9 h9 ⟨f9,ol⟩
  have f9_z:=f9.size
  replace p0:=p0.F f9
  replace I0:=I0.freshIn f9 (by omega)
  replace r2:=r2.F f9
  replace r4:=r4.F f9
  replace r8:=r8.F f9
  replace LO:=LO.fr f9 (by first | exact Away.none (Nat.le_refl _) | exact LO.below (by omega) | exact LO.above (by omega) | assumption | exact fun w hw=>(by have:=aTop w hw;omega) | exact fun w hw=>(by have:=aTop2 w hw;omega))
  obtain ⟨wa,wc,rfl⟩:=ol.is
  have ola:=ol.at_
  simp -dsimp only [go_sem,r2.cell,r4.cell,r8.cell]
  intro b10 h10 n10
  have n10_z:=n10.az
  replace p0:=p0.F n10.f0
  replace I0:=I0.freshIn n10.f0 (by omega)
  replace r2:=r2.F n10.f0
  replace r4:=r4.F n10.f0
  replace r8:=r8.F n10.f0
  replace LO:=LO.fr n10.f0 (by first | exact Away.none (Nat.le_refl _) | exact LO.below (by omega) | exact LO.above (by omega) | assumption | exact fun w hw=>(by have:=aTop w hw;omega) | exact fun w hw=>(by have:=aTop2 w hw;omega))
  replace ol:=ol.fr n10.f0 (by have:=ol.at_;omega)
  have r10:=n10.row
  have LOown:=LO.own
  rw [elen] at LOown
  have zz10:h7.size≤h10.size:=by omega
  simp -dsimp only [go_sem,r2.cell,r4.cell,r8.cell,r10.cell]
  refine LOown.append (by omega) rfl (by omega) (by simp) (by omega) fun v17 h17 o17 f17 e17=>?_
  have off:Off (.slice wa l.length wc) (.slice sa c sc):=by
   have h1:=aTop _ (.inl rfl)
   have h2:=bh_bl (.slice wa l.length wc)
   have h3:=bh_bl (.slice sa c sc)
   unfold Off;omega
  have LO':=LO.push (l:=intsV l) (by omega) (w:=Value.slice wa l.length wc) (by rw [length_intsV];exact ol.lower (by omega)) off (by rw [elen];exact o17) f17 e17
  have hpw':(us++[Value.slice wa l.length wc]).Pairwise Off:=List.pairwise_append.2 ⟨hpw,by simp,fun u hu w hw=>by
   simp at hw;subst hw
   have h1:=aTop u (.inr hu)
   have h2:=bh_bl u
   have h3:=bh_bl (.slice wa l.length wc)
   unfold Off;omega⟩
  have spa:=LOown.at_
  have f17_z:=f17.size
  replace p0:=p0.F f17
  replace I0:=I0.freshIn f17 (by omega)
  replace r2:=r2.F f17
  replace r4:=r4.F f17
  replace r8:=r8.F f17
  obtain ⟨a17,c17,rfl⟩:=o17.is
  simp -dsimp only [go_sem,r2.cell,r4.cell,r8.cell]
  refine Chk_intro (r8.W) fun h18 s18=>?_
  have s18_z:=s18.size
  replace p0:=p0.F s18.fr
  replace I0:=I0.freshIn s18.fr (by omega)
  replace r2:=r2.F s18.fr
  replace r4:=r4.F s18.fr
  replace LO':=LO'.fr s18.fr (by first | exact Away.none (Nat.le_refl _) | exact LO'.below (by omega) | exact LO'.above (by omega) | assumption | exact fun w hw=>(by have:=aTop w hw;omega) | exact fun w hw=>(by have:=aTop2 w hw;omega))
  replace r8:=s18.row r8
  try simp only [cl_int,cl_bool,cl_slice,cl_ptr,putAt_one,zs0,zs1,ivec_set,brow_upd] at r8
  simp -dsimp only [go_sem,r2.cell,r4.cell,r8.cell]
  simp -dsimp (disch:=omega) only [wrap64]
  exact ⟨(c+1,.slice a17 (c+1) c17,us++[Value.slice wa l.length wc]),by dsimp only;omega,by simp [Le,find,hoe],by dsimp only;omega,p0,I0,r2,r4,r8,by rw [htk,List.map_append];exact LO',hpw'⟩
 obtain rfl:c=g.co.length:=by omega
 rw [List.take_length] at LO
 have R2:Rw h7 b2 (gcells q g):=r2
 have oe7:=oe.fr I0 (by omega)
 have of7:=of_.fr I0 (by omega)
 have or7:=orr.fr I0 (by omega)
 clear oe of_ orr
 have p0_z:=p0.size
 have r2_l:=r2.lt
 have r4_l:=r4.lt
 have r8_l:=r8.lt
 simp -dsimp only [go_sem,Int.lt_irrefl,r2.cell,r4.cell,r8.cell]
 have R4:Rw h7 b4 nil8:=r4
 have R8:=r8
 have LT:=LO.top
 have LB:=LO.own.at_
 intro b11 h8 n11
 have z8:=n11.size
 have a8:=n11.at_
 have M1:=n11.mapF
 have f8:Fr 0 0 h7 h8:=n11.fr
 replace p0:=p0.trans f8
 replace R2:=R2.fr f8 (by omega)
 replace R4:=R4.fr f8 (by omega)
 replace R8:=R8.fr f8 (by omega)
 replace oe7:=oe7.fr f8 (by omega)
 replace of7:=of7.fr f8 (by omega)
 replace or7:=or7.fr f8 (by omega)
 replace LO:=LO.fr f8 (Away.none (by omega))
 have g8:b2<b4∧b4<h3.size∧h3.size≤h5.size∧h5.size≤h7.size∧h7.size≤b11∧b11<h8.size∧b8<h5.size∧h3.size≤b8:=by omega
 have rr:=r2
 clear r2 r4 r8 rr
 have r2:=R2
 unfold gcells at r2
 simp -dsimp only [go_sem,r2.cell]
 refine loop_intro (fun k:Nat=>[(1,.bool lse),(2,.pointer (some ⟨b2,0,none⟩)),(4,.pointer (some ⟨b4,0,none⟩)),(8,.pointer (some ⟨b8,0,none⟩)),(11,.map (some b11)),(55,.slice q.r g.rmw.length q.rc),(56,.int .i64 g.rmw.length),(57,.int .i64 k)])
  (fun k h'=>k≤g.rmw.length∧Fr 0 0 h h'∧Fr b11 (b11+1) h8 h'∧MapF h' b11 (pmTo g k)) (fun k=>g.rmw.length - k) 0 ?_ ?_ ?_
 ·simp [Le,find]
 ·exact ⟨by omega,p0,.refl _ _ _,M1.congr fun x=>by simp [pmTo]⟩
 clear p0 r2 M1
 rintro k h9 ⟨hk,p0,I8,M1⟩
 have zz9:h8.size≤h9.size:=I8.size
 have r2:=R2.fr I8 (by omega)
 unfold gcells at r2
 have p0_z:=p0.size
 have r2_l:=r2.lt
 by_cases hlt:k<g.rmw.length
 ·have e1:((k:Int)<(g.rmw.length:Int)):=by omega
  have hq:g.rmw[k]?=some g.rmw[k]:=List.getElem?_eq_getElem hlt
  generalize g.rmw[k]=pr at hq
  obtain ⟨rb,ro,hre,hrc⟩:=t.r.pairsAt (by omega)
  obtain ⟨k1,k2⟩:=hrc h9 p0 k _ hq
  simp -dsimp only [go_sem,e1,hre,k1,k2,r2.cell]
  intro b13 h13 n13
  have n13_z:=n13.az
  replace p0:=p0.F n13.f0
  replace r2:=r2.F n13.f0
  have r13:=n13.row
  replace M1:=M1.fr n13.f0 (by omega)
  replace I8:=I8.trans (n13.fr (lo:=b11) (hi:=b11+1))
  simp -dsimp only [go_sem,r2.cell,r13.cell]
  refine Chk_intro (r13.W) fun h14 s14=>?_
  have s14_z:=s14.size
  replace p0:=p0.F s14.fr
  replace r2:=r2.F s14.fr
  replace r13:=s14.row r13
  try simp only [cl_int,cl_bool,cl_slice,cl_ptr,putAt_one,zs0,zs1,ivec_set,brow_upd] at r13
  have ml:=M1.lt
  replace M1:=M1.fr s14.fr (by omega)
  replace I8:=I8.freshIn s14.fr (by omega)
  try simp -dsimp only [go_sem] at r13
  simp -dsimp only [go_sem,r2.cell,r13.cell]
  refine M1.set fun h15 M2 f15 z15=>?_
  have p15:=p0.fresh f15 (by omega)
  have I15:=I8.trans f15
  simp -dsimp only [go_sem,r2.cell,r13.cell]
  simp -dsimp (disch:=omega) only [wrap64]
  exact ⟨k+1,by omega,by simp [Le,find,hre],by omega,p15,I15,M2.congr fun x=>pmTo_succ hq x⟩
 obtain rfl:k=g.rmw.length:=by omega
 have R2:=R2.fr I8 (by omega)
 have R4:=R4.fr I8 (by omega)
 have R8:=R8.fr I8 (by omega)
 have oe9:=oe7.fr I8 (by omega)
 have of9:=of7.fr I8 (by omega)
 have or9:=or7.fr I8 (by omega)
 have LO9:=LO.fr I8 (fun w hw=>.inl (by have:=LT w hw;omega))
 clear oe7 of7 or7 LO
 have g9:h8.size≤h9.size:=I8.size
 simp -dsimp only [go_sem,Int.lt_irrefl,r2.cell]
 have hlE:g.evs.length=g.n:=rfl
 replace oe9:Holder 5 h9 (.slice ea g.n ec) g.n (evsV (evsTo g lse 0)) h3.size:=by rw [evsTo_zero];exact oe9
 have hE2:bh (.slice ea g.n ec)≤h5.size∧(bl (.slice ea g.n ec)=0∨h3.size≤bl (.slice ea g.n ec)):=by rw [← hlE];exact ⟨te,by omega⟩
 rw [hlE] at xf xr x8 R8
 have l11:=M1.lt
 refine loop_intro (fun s:Nat×Value=>[(1,.bool lse),(2,.pointer (some ⟨b2,0,none⟩)),(4,.pointer (some ⟨b4,0,none⟩)),(8,.pointer (some ⟨b8,0,none⟩)),(11,.map (some b11)),(66,.slice q.e g.n q.ec),(67,.int .i64 g.n),(68,.int .i64 s.1)])
  (fun s h'=>s.1≤g.n∧Fr 0 0 h h'∧h9.size≤h'.size∧Rw h' b2 (gcells q g)∧Rw h' b4 nil8 ∧
   Rw h' b8 [.int .i64 g.cells,.slice ea g.n ec,.slice fa g.rf.length fc,.slice sa g.co.length sc,.slice ra g.rmw.length rc,.slice none 0 0,.slice none 0 0,s.2] ∧
   Holder 5 h' (.slice ea g.n ec) g.n (evsV (evsTo g lse s.1)) h3.size∧Holder 2 h' (.slice fa g.rf.length fc) g.rf.length (pairsV g.rf) h3.size∧Holder 2 h' (.slice ra g.rmw.length rc) g.rmw.length (pairsV g.rmw) h3.size ∧
   LL h' (.slice sa g.co.length sc) us (g.co.map intsV) h5.size∧MapF h' b11 (pmTo g g.rmw.length)∧Holder 2 h' s.2 (mapTo g s.1).length (pairsV (mapTo g s.1)) h9.size) (fun s=>g.n - s.1) (0,.slice none 0 0) ?_ ?_ ?_
 ·simp [Le,find,hlE]
 ·exact ⟨by omega,p0,by omega,R2,R4,R8,oe9,of9,or9,LO9,M1,.none _ _ _⟩
 clear p0 r2 R2 R4 R8 oe9 of9 or9 LO9 M1 I8 I0
 rintro ⟨i,cv⟩ h10 ⟨hi,p0,z10,r2,r4,r8,oe,of_,orr,LO,M1,ov⟩
 dsimp only at hi r8 oe ov ⊢
 obtain ⟨va,vc,rfl⟩:=ov.is
 unfold gcells at r2
 unfold nil8 at r4
 have LA:∀ (l r:Nat),(h7.size≤l∨r≤h5.size∨r≤l)→Away l r (.slice sa g.co.length sc) us:=fun l r hlr w hw=>by
  rcases hlr with h1 | h1 | h1
  ·exact .inl (Nat.le_trans (LT w hw) h1)
  ·exact LO.below h1 w hw
  ·exact .inr (.inr h1)
 by_cases hlt:i<g.n
 rotate_left
 ·obtain rfl:i=g.n:=by omega
  have ovb:bl (.slice va (mapTo g g.n).length vc)=0∧bh (.slice va (mapTo g g.n).length vc)=0∨h9.size≤bl (.slice va (mapTo g g.n).length vc):=by
   have h1:=ov.at_
   have h2:=bh_bl (.slice va (mapTo g g.n).length vc)
   omega
  have p0_z:=p0.size
  have r2_l:=r2.lt
  have r4_l:=r4.lt
  have r8_l:=r8.lt
  simp -dsimp only [go_sem,Int.lt_irrefl,r2.cell,r4.cell,r8.cell]
  refine Chk_intro (r4.W) fun h11 s11=>?_
  have s11_z:=s11.size
  replace p0:=p0.F s11.fr
  replace r2:=r2.F s11.fr
  replace r8:=r8.F s11.fr
  replace r4:=s11.row r4
  try simp only [cl_int,cl_bool,cl_slice,cl_ptr,putAt_one,zs0,zs1,ivec_set,brow_upd] at r4
  have f11:=s11.fr
  simp -dsimp only [go_sem,r2.cell,r4.cell,r8.cell]
  have hE:(mapG g lse).evs.length=g.n:=mapG_n
  have oe':=oe.fr f11 (by rcases oe.at_ with h1 | h1 <;> omega)
  have of':=of_.fr f11 (by rcases of_.at_ with h1 | h1 <;> omega)
  have or':=orr.fr f11 (by rcases orr.at_ with h1 | h1 <;> omega)
  have ov':=ov.fr f11 (by rcases ovb with h1 | h1 <;> omega)
  have LO':=LO.fr f11 (LA _ _ (by omega))
  have hml:=mapTo_len (g:=g) (k:=g.n)
  have hnn:g.n * g.n≤256 * 256:=Nat.mul_le_mul hn hn
  have gh:h.size≤h3.size∧h.size≤h5.size∧h.size≤h9.size:=by omega
  refine ⟨p0,⟨ea,fa,sa,ra,none,none,va,ec,fc,sc,rc,0,0,vc⟩,?_,?_⟩
  ·first | (rw [hE];done) | (rw [hE];rfl)
  have eB:=bh_bl (.slice ea g.n ec)
  refine ⟨?_,of'.lower gh.1,⟨us,LO'.lower gh.2.1,hpw,fun w hw x hx=>?_⟩,or'.lower gh.1,.none _ _ _,.none _ _ _,ov'.lower gh.2.2,fun x hx=>?_,?_⟩
  ·show Holder 5 h11 (.slice ea (mapG g lse).evs.length ec) (mapG g lse).evs.length (evsV (evsTo g lse g.n)) h.size
   rw [hE];exact oe'.lower gh.1
  ·have h1:=bh_bl w
   have h2:bh w=0∨h5.size≤bl w:=by
    rcases hw with rfl | hw
    ·rcases LO'.own.at_ with h | h
     ·exact .inl h.2
     ·exact .inr h.1
    ·obtain ⟨i,l,-,-,o⟩:=LO'.get hw
     rcases o.at_ with h | h
     ·exact .inl h.2
     ·exact .inr h.1
   have h3:bh w≤h7.size:=LT w hw
   have key:∀ x,bh x≤h5.size→Off w x:=fun x hx=>by
    unfold Off
    rcases h2 with h2 | h2
    ·exact .inl h2
    rcases bh_bl x with h4 | h4
    ·exact .inr (.inl h4.1)
    ·exact .inr (.inr (by omega))
   simp only [List.mem_cons,List.not_mem_nil,or_false] at hx
   rcases hx with rfl | rfl | rfl | rfl | rfl | rfl
   ·show Off w (.slice ea (mapG g lse).evs.length ec)
    rw [hE];exact key _ hE2.1
   ·exact key (.slice fa g.rf.length fc) tf
   ·exact key (.slice ra g.rmw.length rc) tr
   ·exact .inr (.inl rfl)
   ·exact .inr (.inl rfl)
   ·show Off w (.slice va (mapTo g g.n).length vc)
    unfold Off
    rcases ovb with h4 | h4
    ·exact .inr (.inl h4.2)
    rcases h1 with h1 | h1
    ·exact .inl h1.1
    ·exact .inr (.inr (by omega))
  ·simp only [List.mem_cons,List.not_mem_nil,or_false] at hx
   rcases hx with rfl | rfl | rfl | rfl | rfl
   ·show Off (.slice ea (mapG g lse).evs.length ec) (.slice fa g.rf.length fc)
    rw [hE];exact xf
   ·show Off (.slice ea (mapG g lse).evs.length ec) (.slice ra g.rmw.length rc)
    rw [hE];exact xr
   ·exact .inr (.inl rfl)
   ·exact .inr (.inl rfl)
   ·show Off (.slice ea (mapG g lse).evs.length ec) (.slice va (mapTo g g.n).length vc)
    rw [hE];unfold Off
    rcases ovb with h4 | h4
    ·exact .inr (.inl h4.2)
    rcases eB with h1 | h1
    ·exact .inl h1.1
    ·exact .inr (.inr (by omega))
  ·exact ⟨by rw [hE];omega,t.fits.f,t.fits.o,t.fits.r,by show 0≤_;omega,by show 0≤_;omega,by show (mapTo g g.n).length≤_;omega,t.fits.l⟩
 have e1:((i:Int)<(g.n:Int)):=by omega
 have e1':((i:Int)<(g.evs.length:Int)):=e1
 obtain ⟨eb,eo,hee,hev⟩:=t.evs (by omega)
 obtain ⟨c0,c1,c2,c3,c4⟩:=hev h10 p0 i hlt
 obtain ⟨be,ce,rest,hea,-,-,hbe⟩:=oe.blk (by omega)
 cases hea
 have lE:bl (.slice (some ⟨be,0,none⟩) g.n ec)=be∧bh (.slice (some ⟨be,0,none⟩) g.n ec)=be+1:=⟨rfl,rfl⟩
 rw [lE.1,lE.2] at hE2 x8
 unfold Off at xf xr
 rw [lE.1,lE.2] at xf xr
 have ovb:bl (.slice va (mapTo g i).length vc)=0∧bh (.slice va (mapTo g i).length vc)=0∨h9.size≤bl (.slice va (mapTo g i).length vc):=by
  have h1:=ov.at_
  have h2:=bh_bl (.slice va (mapTo g i).length vc)
  omega
 have p0_z:=p0.size
 have r2_l:=r2.lt
 have r4_l:=r4.lt
 have r8_l:=r8.lt
 have of__l:=of_.top
 have orr_l:=orr.top
 have ov_l:=ov.top
 simp -dsimp only [go_sem,hee,e1,e1',c0,c1,c2,c3,c4,r2.cell,r4.cell,r8.cell]
 intro b15 h11 n15
 have n15_z:=n15.az
 replace p0:=p0.F n15.f0
 replace r2:=r2.F n15.f0
 replace r4:=r4.F n15.f0
 replace r8:=r8.F n15.f0
 replace of_:=of_.fr n15.f0 (by have:=of_.at_;omega)
 replace orr:=orr.fr n15.f0 (by have:=orr.at_;omega)
 replace ov:=ov.fr n15.f0 (by have:=ov.at_;omega)
 have r15:=n15.row
 replace oe:=oe.fr n15.f0 (by omega)
 replace M1:=M1.fr n15.f0 (by omega)
 replace LO:=LO.fr n15.f0 (Away.none (by omega))
 simp -dsimp only [go_sem,r2.cell,r4.cell,r8.cell,r15.cell]
 refine Chk_intro (r15.W) fun h12 s12=>?_
 have s12_z:=s12.size
 replace p0:=p0.F s12.fr
 replace r2:=r2.F s12.fr
 replace r4:=r4.F s12.fr
 replace r8:=r8.F s12.fr
 replace of_:=of_.fr s12.fr (by have:=of_.at_;omega)
 replace orr:=orr.fr s12.fr (by have:=orr.at_;omega)
 replace ov:=ov.fr s12.fr (by have:=ov.at_;omega)
 replace r15:=s12.row r15
 try simp only [cl_int,cl_bool,cl_slice,cl_ptr,putAt_one,zs0,zs1,ivec_set,brow_upd] at r15
 try simp -dsimp only [go_sem] at r15
 replace oe:=oe.fr s12.fr (by omega)
 replace M1:=M1.fr s12.fr (by have:=M1.lt;omega)
 replace LO:=LO.fr s12.fr (LA _ _ (by omega))
 simp -dsimp only [go_sem,r2.cell,r4.cell,r8.cell,r15.cell]
 refine call_of (seq_mode (g.ev i)) ?_
 rintro v13 h13 ⟨f13,rfl⟩
 have f13_z:=f13.size
 replace p0:=p0.F f13
 replace r2:=r2.F f13
 replace r4:=r4.F f13
 replace r8:=r8.F f13
 replace of_:=of_.fr f13 (by have:=of_.at_;omega)
 replace orr:=orr.fr f13 (by have:=orr.at_;omega)
 replace ov:=ov.fr f13 (by have:=ov.at_;omega)
 replace r15:=r15.F f13
 replace oe:=oe.fr f13 (by omega)
 replace M1:=M1.fr f13 (by omega)
 replace LO:=LO.fr f13 (Away.none (by omega))
 simp -dsimp only [go_sem,e1,r2.cell,r4.cell,r8.cell,r15.cell]
 obtain ⟨w1,-,w2,-⟩:=holder_ev oe hlt
 refine Chk_intro w1 fun h14 s14=>?_
 have f14:=s14.fr
 replace oe:=w2 h14 _ s14
 replace M1:=M1.fr f14 (by omega)
 replace LO:=LO.fr f14 (LA _ _ (by omega))
 have f14_z:=f14.size
 replace p0:=p0.F f14
 replace r2:=r2.F f14
 replace r4:=r4.F f14
 replace r8:=r8.F f14
 replace of_:=of_.fr f14 (by have:=of_.at_;omega)
 replace orr:=orr.fr f14 (by have:=orr.at_;omega)
 replace ov:=ov.fr f14 (by have:=ov.at_;omega)
 replace r15:=r15.F f14
 have hth0:(g.ev i).kind=1→0≤(g.ev i).thread:=fun hk=>by
  rcases src_thread hc hlt with ⟨-,h2,-⟩ | ⟨h1,-⟩
  ·rw [hk] at h2;cases h2
  ·exact h1
 have hpm:(pmTo g g.rmw.length (i:Int)).getD (.bool false)=.bool (pairB g i):=by
  unfold pmTo pairB
  rw [List.take_length]
  cases (g.rmw.any fun p=>p.1==(i:Int)) <;> rfl
 simp -dsimp only [go_sem,r2.cell,r4.cell,r8.cell,r15.cell]
 cases hlb:lseB g lse i
 rotate_left
 ·
  have hlb':=hlb
  unfold lseB at hlb'
  simp only [Bool.and_eq_true,beq_iff_eq,Bool.not_eq_true'] at hlb'
  obtain ⟨⟨⟨a1,a2⟩,a3⟩,a4⟩:=hlb'
  rw [a4] at hpm
  have a5:¬ (g.ev i).mode=1:=by omega
  have hmt:mapTo g (i+1)=mapTo g i:=by
   rw [mapTo_succ];unfold ctrlOf rlxB
   rw [if_neg (by simp [a5])];simp
  subst a1
  simp -dsimp only [go_sem,beq_t a2,beq_t a3,r2.cell,r4.cell,r8.cell,r15.cell]
  refine M1.look1 (z:=.bool false) (n:=(i:Int)) fun mm hm1 _=>?_
  rw [hpm] at hm1
  simp -dsimp only [go_sem,hm1,e1,r2.cell,r4.cell,r8.cell,r15.cell]
  obtain ⟨w1,-,w2,-⟩:=holder_ev oe hlt
  refine Chk_intro w1 fun h15 s15=>?_
  have f15:=s15.fr
  replace oe:=w2 h15 _ s15
  rw [setMode_two hlt hlb] at oe
  replace M1:=M1.fr f15 (by omega)
  replace LO:=LO.fr f15 (LA _ _ (by omega))
  have f15_z:=f15.size
  replace p0:=p0.F f15
  replace r2:=r2.F f15
  replace r4:=r4.F f15
  replace r8:=r8.F f15
  replace of_:=of_.fr f15 (by have:=of_.at_;omega)
  replace orr:=orr.fr f15 (by have:=orr.at_;omega)
  replace ov:=ov.fr f15 (by have:=ov.at_;omega)
  replace r15:=r15.F f15
  simp -dsimp only [go_sem,bne_t a2,bne_f a5,r2.cell,r4.cell,r8.cell,r15.cell]
  simp -dsimp (disch:=omega) only [wrap64]
  refine ⟨(i+1,.slice va (mapTo g i).length vc),by dsimp only;omega,by simp [Le,find,hee],by omega,p0,by omega,r2,r4,r8,oe,of_,orr,LO,M1,?_⟩
  dsimp only
  rw [hmt];exact ov
 rw [setMode_one hlt hlb] at oe
 by_cases a2:(g.ev i).kind=1
 rotate_left
 ·have hmt:mapTo g (i+1)=mapTo g i:=by
   rw [mapTo_succ];unfold ctrlOf rlxB
   rw [if_neg (by simp [a2])];simp
  cases hls:lse
  ·rw [hls] at oe
   simp -dsimp only [go_sem,bne_f a2,r2.cell,r4.cell,r8.cell,r15.cell]
   simp -dsimp (disch:=omega) only [wrap64]
   refine ⟨(i+1,.slice va (mapTo g i).length vc),by dsimp only;omega,by simp [Le,find,hee],by omega,p0,by omega,r2,r4,r8,oe,of_,orr,LO,M1,?_⟩
   dsimp only
   rw [hmt];exact ov
  ·rw [hls] at oe
   simp -dsimp only [go_sem,beq_f a2,bne_f a2,r2.cell,r4.cell,r8.cell,r15.cell]
   simp -dsimp (disch:=omega) only [wrap64]
   refine ⟨(i+1,.slice va (mapTo g i).length vc),by dsimp only;omega,by simp [Le,find,hee],by omega,p0,by omega,r2,r4,r8,oe,of_,orr,LO,M1,?_⟩
   dsimp only
   rw [hmt];exact ov
 by_cases a5:(g.ev i).mode=1
 ·have hrl1:rlxB g i=true:=by unfold rlxB;simp [a2,a5]
  have hth0:=hth0 a2
  have a3:¬ (g.ev i).mode=2:=by omega
  have oneb:∀ (P:Prop),(lse=false→P)→(lse=true→P)→P:=fun P a b=>by cases lse <;> simp_all
  cases lse
  ·simp -dsimp only [go_sem,bne_t a2,bne_t a5,r2.cell,r4.cell,r8.cell,r15.cell]
   have hT0:h9.size≤h14.size:=by omega
   have ovt:=ov.top
   refine call_of (graph_Thread (t.fr p0) (g.ev i).thread) ?_
   rintro v20 h20 ⟨f20,oth⟩
   have f20_z:=f20.size
   replace p0:=p0.F f20
   replace r2:=r2.F f20
   replace r4:=r4.F f20
   replace r8:=r8.F f20
   replace of_:=of_.fr f20 (by have:=of_.at_;omega)
   replace orr:=orr.fr f20 (by have:=orr.at_;omega)
   replace ov:=ov.fr f20 (by have:=ov.at_;omega)
   replace r15:=r15.F f20
   replace oe:=oe.fr f20 (by omega)
   replace M1:=M1.fr f20 (by omega)
   replace LO:=LO.fr f20 (Away.none (by omega))
   have zT:h14.size≤h20.size:=f20.size
   have hthl:(threadL g (g.ev i).thread).length≤g.n:=threadTo_len
   obtain ⟨ta,tc,rfl⟩:=oth.is
   have ttop:=oth.top
   have tbot:bl (.slice ta (threadL g (g.ev i).thread).length tc)=0∧bh (.slice ta (threadL g (g.ev i).thread).length tc)=0∨h14.size≤bl (.slice ta (threadL g (g.ev i).thread).length tc):=by
    have h1:=oth.at_
    have h2:=bh_bl (.slice ta (threadL g (g.ev i).thread).length tc)
    omega
   have thx:thrTo g i 0=[]:=by simp [thrTo]
   have q2':Rw h20 b2 (gcells q g):=r2
   have q4':Rw h20 b4 nil8:=r4
   have q8':=r8
   clear r15
   simp -dsimp only [go_sem,r2.cell,r4.cell,r8.cell]
   refine loop_intro (fun s:Nat×Value=>[(1,.bool false),(2,.pointer (some ⟨b2,0,none⟩)),(4,.pointer (some ⟨b4,0,none⟩)),(8,.pointer (some ⟨b8,0,none⟩)),(11,.map (some b11)),(14,.int .i64 i),(66,.slice (some ⟨eb,eo,none⟩) g.n q.ec),(67,.int .i64 g.n),(68,.int .i64 i),(113,.slice ta (threadL g (g.ev i).thread).length tc),(114,.int .i64 (threadL g (g.ev i).thread).length),(115,.int .i64 s.1)])
    (fun s h'=>s.1≤(threadL g (g.ev i).thread).length∧Fr 0 0 h h'∧h20.size≤h'.size∧Rw h' b2 (gcells q g)∧Rw h' b4 nil8 ∧
     Rw h' b8 [.int .i64 g.cells,.slice (some ⟨be,0,none⟩) g.n ec,.slice fa g.rf.length fc,.slice sa g.co.length sc,.slice ra g.rmw.length rc,.slice none 0 0,.slice none 0 0,s.2] ∧
     Holder 5 h' (.slice (some ⟨be,0,none⟩) g.n ec) g.n (evsV (evsTo g false (i+1))) h3.size∧Holder 2 h' (.slice fa g.rf.length fc) g.rf.length (pairsV g.rf) h3.size∧Holder 2 h' (.slice ra g.rmw.length rc) g.rmw.length (pairsV g.rmw) h3.size ∧
     LL h' (.slice sa g.co.length sc) us (g.co.map intsV) h5.size∧MapF h' b11 (pmTo g g.rmw.length)∧Holder 2 h' s.2 (mapTo g i++thrTo g i s.1).length (pairsV (mapTo g i++thrTo g i s.1)) h9.size ∧
     Holder 1 h' (.slice ta (threadL g (g.ev i).thread).length tc) (threadL g (g.ev i).thread).length (intsV (threadL g (g.ev i).thread)) h14.size∧(bl s.2=0∧bh s.2=0∨bh s.2≤h14.size∨h20.size≤bl s.2)) (fun s=>(threadL g (g.ev i).thread).length - s.1) (0,.slice va (mapTo g i).length vc) ?_ ?_ ?_
   ·simp [Le,find,hee]
   ·exact ⟨by omega,p0,by omega,q2',q4',q8',oe,of_,orr,LO,M1,by rw [thx,List.append_nil];exact ov,oth,by dsimp only;omega⟩
   clear p0 r2 r4 r8 oe of_ orr LO M1 ov oth q2' q4' q8' ovb
   rintro ⟨j,cv⟩ h21 ⟨hj,p0,z21,r2,r4,r8,oe,of_,orr,LO,M1,ov,oth,ovd⟩
   dsimp only at hj r8 ov ovd ⊢
   obtain ⟨va',vc',rfl⟩:=ov.is
   have ovb:bl (.slice va' (mapTo g i++thrTo g i j).length vc')=0∧bh (.slice va' (mapTo g i++thrTo g i j).length vc')=0∨h9.size≤bl (.slice va' (mapTo g i++thrTo g i j).length vc'):=by
    have h1:=ov.at_
    have h2:=bh_bl (.slice va' (mapTo g i++thrTo g i j).length vc')
    omega
   unfold gcells at r2
   unfold nil8 at r4
   have p0_z:=p0.size
   have r2_l:=r2.lt
   have r4_l:=r4.lt
   have r8_l:=r8.lt
   have of__l:=of_.top
   have orr_l:=orr.top
   have ov_l:=ov.top
   have oth_l:=oth.top
   by_cases hjl:j<(threadL g (g.ev i).thread).length
   ·have e3:((j:Int)<((threadL g (g.ev i).thread).length:Int)):=by omega
    have hq:(threadL g (g.ev i).thread)[j]?=some (threadL g (g.ev i).thread)[j]:=List.getElem?_eq_getElem hjl
    generalize (threadL g (g.ev i).thread)[j]=b at hq
    have hts:=thrTo_succ hq
    have hlen1:(mapTo g i++thrTo g i j).length≤131072:=by
     rw [List.length_append]
     have h1:=mapTo_len (g:=g) (k:=i)
     have h2:=thrTo_len (g:=g) (i:=i) (j:=j)
     have h3:i * g.n≤256 * 256:=Nat.mul_le_mul (by omega) hn
     omega
    simp -dsimp only [go_sem,e3,r2.cell,r4.cell,r8.cell]
    refine oth.rd.idx (by omega) fun lb lo hlc=>?_
    have k1:=hlc j _ (intsV_get hq)
    simp -dsimp only [go_sem,k1,r2.cell,r4.cell,r8.cell]
    by_cases hgt:b > (i:Int)
    ·rw [if_pos hgt] at hts
     simp -dsimp only [go_sem,hgt,r2.cell,r4.cell,r8.cell]
     intro b22 h22 n22
     have n22_a:=n22.at_
     have n22_z:=n22.size
     replace p0:=p0.F n22.f0
     replace r2:=r2.F n22.f0
     replace r4:=r4.F n22.f0
     replace r8:=r8.F n22.f0
     replace of_:=of_.fr n22.f0 (by have:=of_.at_;omega)
     replace orr:=orr.fr n22.f0 (by have:=orr.at_;omega)
     replace ov:=ov.fr n22.f0 (by have:=ov.at_;omega)
     replace oth:=oth.fr n22.f0 (by have:=oth.at_;omega)
     have r22:=n22.row
     replace oe:=oe.fr n22.f0 (by omega)
     replace M1:=M1.fr n22.f0 (by omega)
     replace LO:=LO.fr n22.f0 (Away.none (by omega))
     simp -dsimp only [go_sem,r2.cell,r4.cell,r8.cell,r22.cell]
     have ovt':=ov.top
     have ovl:=ov.at_
     refine ov.append (by omega) rfl (by omega) (by simp) (by omega) fun v23 h23 o_new f23 e23=>?_
     have f23_z:=f23.size
     replace p0:=p0.F f23
     replace r2:=r2.F f23
     replace r4:=r4.F f23
     replace r8:=r8.F f23
     replace of_:=of_.fr f23 (by omega)
     replace orr:=orr.fr f23 (by omega)
     replace oth:=oth.fr f23 (by omega)
     replace oe:=oe.fr f23 (by rw [lE.1,lE.2];omega)
     replace M1:=M1.fr f23 (by omega)
     replace LO:=LO.fr f23 (LA _ _ (by omega))
     have ovd':bl v23=0∧bh v23=0∨bh v23≤h14.size∨h20.size≤bl v23:=by
      have h2:=bh_bl v23
      have h3:=bh_bl (.slice va' (mapTo g i++thrTo g i j).length vc')
      omega
     clear e23
     have hn1:(mapTo g i++thrTo g i j).length+1=(mapTo g i++thrTo g i (j+1)).length:=by rw [hts];simp only [List.length_append,List.length_cons,List.length_nil];omega
     have hn2:pairsV (mapTo g i++thrTo g i j)++[.int .i64 i,.int .i64 b]=pairsV (mapTo g i++thrTo g i (j+1)):=by rw [hts,← List.append_assoc,pairsV_append (mapTo g i++thrTo g i j) [((i:Int),b)]];rfl
     rw [hn1,hn2] at o_new
     obtain ⟨va2,vc2,rfl⟩:=o_new.is
     clear ov ovl r22
     simp -dsimp only [go_sem,r2.cell,r4.cell,r8.cell]
     refine Chk_intro (r8.wr (by simp)) fun h24 s24=>?_
     have f24:=s24.fr
     have r8':=s24.row r8
     replace p0:=p0.F f24
     replace r2:=r2.F f24
     replace r4:=r4.F f24
     replace of_:=of_.fr f24 (y8.imp id .inl)
     replace orr:=orr.fr f24 (w8.imp id .inl)
     replace oth:=oth.fr f24 (by rcases tbot with ⟨t1,t2⟩ | t1 <;> omega)
     replace oe:=oe.fr f24 (x8.imp id .inl)
     replace M1:=M1.fr f24 (by omega)
     replace LO:=LO.fr f24 (LA _ _ (by omega))
     have o_l:=o_new.at_
     have o_b:=bh_bl (.slice va2 (mapTo g i++thrTo g i (j+1)).length vc2)
     replace o_new:=o_new.fr f24 (by rcases o_b with ⟨t1,t2⟩ | t1 <;> rcases o_l with t3 | t3 <;> omega)
     replace r8':Rw h24 b8 [.int .i64 g.cells,.slice (some ⟨be,0,none⟩) g.n ec,.slice fa g.rf.length fc,.slice sa g.co.length sc,.slice ra g.rmw.length rc,.slice none 0 0,.slice none 0 0,.slice va2 (mapTo g i++thrTo g i (j+1)).length vc2]:=r8'
     clear r8
     have z24:=f24.size
     simp -dsimp only [go_sem,r2.cell,r4.cell]
     simp -dsimp (disch:=omega) only [wrap64]
     exact ⟨(j+1,.slice va2 (mapTo g i++thrTo g i (j+1)).length vc2),by dsimp only;omega,by simp [Le,find],by dsimp only;omega,p0,by omega,r2,r4,r8',oe,of_,orr,LO,M1,o_new,oth,ovd'⟩
    ·rw [if_neg hgt,List.append_nil] at hts
     simp -dsimp only [go_sem,hgt,r2.cell,r4.cell,r8.cell]
     simp -dsimp (disch:=omega) only [wrap64]
     refine ⟨(j+1,.slice va' (mapTo g i++thrTo g i j).length vc'),by dsimp only;omega,by simp [Le,find],by dsimp only;omega,p0,by omega,r2,r4,r8,oe,of_,orr,LO,M1,?_,oth,ovd⟩
     dsimp only
     rw [hts];exact ov
   obtain rfl:j=(threadL g (g.ev i).thread).length:=by omega
   have hfull:mapTo g i++thrTo g i (threadL g (g.ev i).thread).length=mapTo g (i+1):=by
    rw [thrTo_all hlt hth0,mapTo_succ]
    unfold ctrlOf
    rw [if_pos hrl1]
   simp -dsimp only [go_sem,Int.lt_irrefl,r2.cell,r4.cell,r8.cell]
   simp -dsimp (disch:=omega) only [wrap64]
   refine ⟨(i+1,.slice va' (mapTo g i++thrTo g i (threadL g (g.ev i).thread).length).length vc'),by dsimp only;omega,by simp [Le,find,hee],by dsimp only;omega,p0,by omega,r2,r4,r8,oe,of_,orr,LO,M1,?_⟩
   dsimp only
   rw [← hfull];exact ov
  ·simp -dsimp only [go_sem,beq_t a2,beq_f a3,bne_t a2,bne_t a5,r2.cell,r4.cell,r8.cell,r15.cell]
   have hT0:h9.size≤h14.size:=by omega
   have ovt:=ov.top
   refine call_of (graph_Thread (t.fr p0) (g.ev i).thread) ?_
   rintro v20 h20 ⟨f20,oth⟩
   have f20_z:=f20.size
   replace p0:=p0.F f20
   replace r2:=r2.F f20
   replace r4:=r4.F f20
   replace r8:=r8.F f20
   replace of_:=of_.fr f20 (by have:=of_.at_;omega)
   replace orr:=orr.fr f20 (by have:=orr.at_;omega)
   replace ov:=ov.fr f20 (by have:=ov.at_;omega)
   replace r15:=r15.F f20
   replace oe:=oe.fr f20 (by omega)
   replace M1:=M1.fr f20 (by omega)
   replace LO:=LO.fr f20 (Away.none (by omega))
   have zT:h14.size≤h20.size:=f20.size
   have hthl:(threadL g (g.ev i).thread).length≤g.n:=threadTo_len
   obtain ⟨ta,tc,rfl⟩:=oth.is
   have ttop:=oth.top
   have tbot:bl (.slice ta (threadL g (g.ev i).thread).length tc)=0∧bh (.slice ta (threadL g (g.ev i).thread).length tc)=0∨h14.size≤bl (.slice ta (threadL g (g.ev i).thread).length tc):=by
    have h1:=oth.at_
    have h2:=bh_bl (.slice ta (threadL g (g.ev i).thread).length tc)
    omega
   have thx:thrTo g i 0=[]:=by simp [thrTo]
   have q2':Rw h20 b2 (gcells q g):=r2
   have q4':Rw h20 b4 nil8:=r4
   have q8':=r8
   clear r15
   simp -dsimp only [go_sem,r2.cell,r4.cell,r8.cell]
   refine loop_intro (fun s:Nat×Value=>[(1,.bool true),(2,.pointer (some ⟨b2,0,none⟩)),(4,.pointer (some ⟨b4,0,none⟩)),(8,.pointer (some ⟨b8,0,none⟩)),(11,.map (some b11)),(14,.int .i64 i),(66,.slice (some ⟨eb,eo,none⟩) g.n q.ec),(67,.int .i64 g.n),(68,.int .i64 i),(113,.slice ta (threadL g (g.ev i).thread).length tc),(114,.int .i64 (threadL g (g.ev i).thread).length),(115,.int .i64 s.1)])
    (fun s h'=>s.1≤(threadL g (g.ev i).thread).length∧Fr 0 0 h h'∧h20.size≤h'.size∧Rw h' b2 (gcells q g)∧Rw h' b4 nil8 ∧
     Rw h' b8 [.int .i64 g.cells,.slice (some ⟨be,0,none⟩) g.n ec,.slice fa g.rf.length fc,.slice sa g.co.length sc,.slice ra g.rmw.length rc,.slice none 0 0,.slice none 0 0,s.2] ∧
     Holder 5 h' (.slice (some ⟨be,0,none⟩) g.n ec) g.n (evsV (evsTo g true (i+1))) h3.size∧Holder 2 h' (.slice fa g.rf.length fc) g.rf.length (pairsV g.rf) h3.size∧Holder 2 h' (.slice ra g.rmw.length rc) g.rmw.length (pairsV g.rmw) h3.size ∧
     LL h' (.slice sa g.co.length sc) us (g.co.map intsV) h5.size∧MapF h' b11 (pmTo g g.rmw.length)∧Holder 2 h' s.2 (mapTo g i++thrTo g i s.1).length (pairsV (mapTo g i++thrTo g i s.1)) h9.size ∧
     Holder 1 h' (.slice ta (threadL g (g.ev i).thread).length tc) (threadL g (g.ev i).thread).length (intsV (threadL g (g.ev i).thread)) h14.size∧(bl s.2=0∧bh s.2=0∨bh s.2≤h14.size∨h20.size≤bl s.2)) (fun s=>(threadL g (g.ev i).thread).length - s.1) (0,.slice va (mapTo g i).length vc) ?_ ?_ ?_
   ·simp [Le,find,hee]
   ·exact ⟨by omega,p0,by omega,q2',q4',q8',oe,of_,orr,LO,M1,by rw [thx,List.append_nil];exact ov,oth,by dsimp only;omega⟩
   clear p0 r2 r4 r8 oe of_ orr LO M1 ov oth q2' q4' q8' ovb
   rintro ⟨j,cv⟩ h21 ⟨hj,p0,z21,r2,r4,r8,oe,of_,orr,LO,M1,ov,oth,ovd⟩
   dsimp only at hj r8 ov ovd ⊢
   obtain ⟨va',vc',rfl⟩:=ov.is
   have ovb:bl (.slice va' (mapTo g i++thrTo g i j).length vc')=0∧bh (.slice va' (mapTo g i++thrTo g i j).length vc')=0∨h9.size≤bl (.slice va' (mapTo g i++thrTo g i j).length vc'):=by
    have h1:=ov.at_
    have h2:=bh_bl (.slice va' (mapTo g i++thrTo g i j).length vc')
    omega
   unfold gcells at r2
   unfold nil8 at r4
   have p0_z:=p0.size
   have r2_l:=r2.lt
   have r4_l:=r4.lt
   have r8_l:=r8.lt
   have of__l:=of_.top
   have orr_l:=orr.top
   have ov_l:=ov.top
   have oth_l:=oth.top
   by_cases hjl:j<(threadL g (g.ev i).thread).length
   ·have e3:((j:Int)<((threadL g (g.ev i).thread).length:Int)):=by omega
    have hq:(threadL g (g.ev i).thread)[j]?=some (threadL g (g.ev i).thread)[j]:=List.getElem?_eq_getElem hjl
    generalize (threadL g (g.ev i).thread)[j]=b at hq
    have hts:=thrTo_succ hq
    have hlen1:(mapTo g i++thrTo g i j).length≤131072:=by
     rw [List.length_append]
     have h1:=mapTo_len (g:=g) (k:=i)
     have h2:=thrTo_len (g:=g) (i:=i) (j:=j)
     have h3:i * g.n≤256 * 256:=Nat.mul_le_mul (by omega) hn
     omega
    simp -dsimp only [go_sem,e3,r2.cell,r4.cell,r8.cell]
    refine oth.rd.idx (by omega) fun lb lo hlc=>?_
    have k1:=hlc j _ (intsV_get hq)
    simp -dsimp only [go_sem,k1,r2.cell,r4.cell,r8.cell]
    by_cases hgt:b > (i:Int)
    ·rw [if_pos hgt] at hts
     simp -dsimp only [go_sem,hgt,r2.cell,r4.cell,r8.cell]
     intro b22 h22 n22
     have n22_a:=n22.at_
     have n22_z:=n22.size
     replace p0:=p0.F n22.f0
     replace r2:=r2.F n22.f0
     replace r4:=r4.F n22.f0
     replace r8:=r8.F n22.f0
     replace of_:=of_.fr n22.f0 (by have:=of_.at_;omega)
     replace orr:=orr.fr n22.f0 (by have:=orr.at_;omega)
     replace ov:=ov.fr n22.f0 (by have:=ov.at_;omega)
     replace oth:=oth.fr n22.f0 (by have:=oth.at_;omega)
     have r22:=n22.row
     replace oe:=oe.fr n22.f0 (by omega)
     replace M1:=M1.fr n22.f0 (by omega)
     replace LO:=LO.fr n22.f0 (Away.none (by omega))
     simp -dsimp only [go_sem,r2.cell,r4.cell,r8.cell,r22.cell]
     have ovt':=ov.top
     have ovl:=ov.at_
     refine ov.append (by omega) rfl (by omega) (by simp) (by omega) fun v23 h23 o_new f23 e23=>?_
     have f23_z:=f23.size
     replace p0:=p0.F f23
     replace r2:=r2.F f23
     replace r4:=r4.F f23
     replace r8:=r8.F f23
     replace of_:=of_.fr f23 (by omega)
     replace orr:=orr.fr f23 (by omega)
     replace oth:=oth.fr f23 (by omega)
     replace oe:=oe.fr f23 (by rw [lE.1,lE.2];omega)
     replace M1:=M1.fr f23 (by omega)
     replace LO:=LO.fr f23 (LA _ _ (by omega))
     have ovd':bl v23=0∧bh v23=0∨bh v23≤h14.size∨h20.size≤bl v23:=by
      have h2:=bh_bl v23
      have h3:=bh_bl (.slice va' (mapTo g i++thrTo g i j).length vc')
      omega
     clear e23
     have hn1:(mapTo g i++thrTo g i j).length+1=(mapTo g i++thrTo g i (j+1)).length:=by rw [hts];simp only [List.length_append,List.length_cons,List.length_nil];omega
     have hn2:pairsV (mapTo g i++thrTo g i j)++[.int .i64 i,.int .i64 b]=pairsV (mapTo g i++thrTo g i (j+1)):=by rw [hts,← List.append_assoc,pairsV_append (mapTo g i++thrTo g i j) [((i:Int),b)]];rfl
     rw [hn1,hn2] at o_new
     obtain ⟨va2,vc2,rfl⟩:=o_new.is
     clear ov ovl r22
     simp -dsimp only [go_sem,r2.cell,r4.cell,r8.cell]
     refine Chk_intro (r8.wr (by simp)) fun h24 s24=>?_
     have f24:=s24.fr
     have r8':=s24.row r8
     replace p0:=p0.F f24
     replace r2:=r2.F f24
     replace r4:=r4.F f24
     replace of_:=of_.fr f24 (y8.imp id .inl)
     replace orr:=orr.fr f24 (w8.imp id .inl)
     replace oth:=oth.fr f24 (by rcases tbot with ⟨t1,t2⟩ | t1 <;> omega)
     replace oe:=oe.fr f24 (x8.imp id .inl)
     replace M1:=M1.fr f24 (by omega)
     replace LO:=LO.fr f24 (LA _ _ (by omega))
     have o_l:=o_new.at_
     have o_b:=bh_bl (.slice va2 (mapTo g i++thrTo g i (j+1)).length vc2)
     replace o_new:=o_new.fr f24 (by rcases o_b with ⟨t1,t2⟩ | t1 <;> rcases o_l with t3 | t3 <;> omega)
     replace r8':Rw h24 b8 [.int .i64 g.cells,.slice (some ⟨be,0,none⟩) g.n ec,.slice fa g.rf.length fc,.slice sa g.co.length sc,.slice ra g.rmw.length rc,.slice none 0 0,.slice none 0 0,.slice va2 (mapTo g i++thrTo g i (j+1)).length vc2]:=r8'
     clear r8
     have z24:=f24.size
     simp -dsimp only [go_sem,r2.cell,r4.cell]
     simp -dsimp (disch:=omega) only [wrap64]
     exact ⟨(j+1,.slice va2 (mapTo g i++thrTo g i (j+1)).length vc2),by dsimp only;omega,by simp [Le,find],by dsimp only;omega,p0,by omega,r2,r4,r8',oe,of_,orr,LO,M1,o_new,oth,ovd'⟩
    ·rw [if_neg hgt,List.append_nil] at hts
     simp -dsimp only [go_sem,hgt,r2.cell,r4.cell,r8.cell]
     simp -dsimp (disch:=omega) only [wrap64]
     refine ⟨(j+1,.slice va' (mapTo g i++thrTo g i j).length vc'),by dsimp only;omega,by simp [Le,find],by dsimp only;omega,p0,by omega,r2,r4,r8,oe,of_,orr,LO,M1,?_,oth,ovd⟩
     dsimp only
     rw [hts];exact ov
   obtain rfl:j=(threadL g (g.ev i).thread).length:=by omega
   have hfull:mapTo g i++thrTo g i (threadL g (g.ev i).thread).length=mapTo g (i+1):=by
    rw [thrTo_all hlt hth0,mapTo_succ]
    unfold ctrlOf
    rw [if_pos hrl1]
   simp -dsimp only [go_sem,Int.lt_irrefl,r2.cell,r4.cell,r8.cell]
   simp -dsimp (disch:=omega) only [wrap64]
   refine ⟨(i+1,.slice va' (mapTo g i++thrTo g i (threadL g (g.ev i).thread).length).length vc'),by dsimp only;omega,by simp [Le,find,hee],by dsimp only;omega,p0,by omega,r2,r4,r8,oe,of_,orr,LO,M1,?_⟩
   dsimp only
   rw [← hfull];exact ov
 ·have hmt:mapTo g (i+1)=mapTo g i:=by
   rw [mapTo_succ];unfold ctrlOf rlxB
   rw [if_neg (by simp [a5])];simp
  cases hls:lse
  ·rw [hls] at oe
   simp -dsimp only [go_sem,bne_t a2,bne_f a5,r2.cell,r4.cell,r8.cell,r15.cell]
   simp -dsimp (disch:=omega) only [wrap64]
   refine ⟨(i+1,.slice va (mapTo g i).length vc),by dsimp only;omega,by simp [Le,find,hee],by omega,p0,by omega,r2,r4,r8,oe,of_,orr,LO,M1,?_⟩
   dsimp only
   rw [hmt];exact ov
  ·by_cases a3:(g.ev i).mode=2
   ·have a4:pairB g i=true:=by
     unfold lseB at hlb
     rw [hls,a2,a3] at hlb
     simpa using hlb
    rw [a4] at hpm
    rw [hls] at oe
    simp -dsimp only [go_sem,beq_t a2,beq_t a3,r2.cell,r4.cell,r8.cell,r15.cell]
    refine M1.look1 (z:=.bool false) (n:=(i:Int)) fun mm hm1 _=>?_
    rw [hpm] at hm1
    simp -dsimp only [go_sem,hm1,bne_t a2,bne_f a5,r2.cell,r4.cell,r8.cell,r15.cell]
    simp -dsimp (disch:=omega) only [wrap64]
    refine ⟨(i+1,.slice va (mapTo g i).length vc),by dsimp only;omega,by simp [Le,find,hee],by omega,p0,by omega,r2,r4,r8,oe,of_,orr,LO,M1,?_⟩
    dsimp only
    rw [hmt];exact ov
   ·rw [hls] at oe
    simp -dsimp only [go_sem,beq_t a2,beq_f a3,bne_t a2,bne_f a5,r2.cell,r4.cell,r8.cell,r15.cell]
    simp -dsimp (disch:=omega) only [wrap64]
    refine ⟨(i+1,.slice va (mapTo g i).length vc),by dsimp only;omega,by simp [Le,find,hee],by omega,p0,by omega,r2,r4,r8,oe,of_,orr,LO,M1,?_⟩
    dsimp only
    rw [hmt];exact ov
end Go.Proofs.Tst
/-
  law12: sc, tso, lives.
-/
namespace Go.Proofs.Tst
open Go Go.Vc
theorem scAx_len {g:Gr}:(scAx g).2.length≤g.n+2:=by
 have h1:=cycS_len (n:=g.n) (M:=allM g)
 have h3:(atomS g).length≤2:=by unfold atomS;split <;> simp
 unfold scAx
 split
 ·simp [natsI];omega
 split
 ·show (atomS g).length≤_;omega
 ·simp
theorem tsoAx_len {g:Gr}:(tsoAx g).2.length≤g.n+2:=by
 have h1:=cycS_len (n:=g.n) (M:=inM g)
 have h2:=cycS_len (n:=g.n) (M:=globM g)
 have h3:(atomS g).length≤2:=by unfold atomS;split <;> simp
 unfold tsoAx
 split
 ·simp [natsI];omega
 split
 ·show (atomS g).length≤_;omega
 split
 ·simp [natsI];omega
 ·simp
theorem c_law12_sc {h:Heap} {q:GV} {g:Gr} (t:GrAt h q g) (ht:TabAt h) {bv:Value} {l:List Int} (hm:Rd 1 h bv l.length (intsV l)) (ax:Int) :
  Con Tryd.prog 35 #[.agg (gcells q g).toArray,.int .i64 ax,bv] h fun v h'=>Fr 0 0 h h'∧v=.bool (decide (g.good=true∧scAx g=(ax,l))):=by
 have p0:Fr 0 0 h h:=.refl _ _ _
 obtain ⟨ba,bc,rfl⟩:=hm.is
 by_cases hg:g.good=true
 rotate_left
 ·have e:decide (g.good=true∧scAx g=(ax,l))=false:=decide_eq_false fun h=>hg h.1
  rw [e]
  refine con_q36 ?_
  unfold gcells
  simp -dsimp only [go_sem]
  intro b1 h1 n1
  have n1_a:=n1.at_
  have n1_z:=n1.size
  replace p0:=p0.F n1.f0
  have r1:=n1.row
  simp -dsimp only [go_sem,r1.cell]
  refine call_of (seq_Sc (t.fr p0) (ht.fr p0 (.inr rfl))) ?_
  rintro v2 h2 ⟨f2,w⟩
  have f2_z:=f2.size
  replace p0:=p0.F f2
  replace r1:=r1.F f2
  rw [if_neg hg] at w
  subst w
  simp -dsimp only [go_sem,r1.cell]
  exact p0
 have hn:=(good_n hg).1
 have hal:=scAx_len (g:=g)
 refine con_q36 ?_
 unfold gcells
 simp -dsimp only [go_sem]
 intro b1 h1 n1
 have n1_a:=n1.at_
 have n1_z:=n1.size
 replace p0:=p0.F n1.f0
 have r1:=n1.row
 simp -dsimp only [go_sem,r1.cell]
 refine call_of (seq_Sc (t.fr p0) (ht.fr p0 (.inr rfl))) ?_
 rintro v2 h2 ⟨f2,w⟩
 have f2_z:=f2.size
 replace p0:=p0.F f2
 replace r1:=r1.F f2
 rw [if_pos hg] at w
 obtain ⟨w,rfl,o⟩:=w
 obtain ⟨oa,oc,rfl⟩:=o.is
 by_cases ha:(scAx g).1=ax
 rotate_left
 ·have e:decide (g.good=true∧scAx g=(ax,l))=false:=decide_eq_false fun h=>ha (by rw [h.2])
  rw [e]
  simp -dsimp only [go_sem,beq_f ha,r1.cell]
  exact p0
 simp -dsimp only [go_sem,beq_t ha,r1.cell]
 refine call_of (c_law12_ints (l:=(scAx g).2) (m:=l) o.rd (hm.fr p0) (by omega)) ?_
 rintro v3 h2 ⟨rfl,rfl⟩
 have e:decide ((scAx g).2=l)=decide (g.good=true∧scAx g=(ax,l)):=by
  rw [Bool.eq_iff_iff,decide_eq_true_iff,decide_eq_true_iff]
  exact ⟨fun h=>⟨hg,Prod.ext ha h⟩,fun h=>by rw [h.2]⟩
 rw [e]
 simp -dsimp only [go_sem,r1.cell]
 exact p0
theorem c_law12_tso {h:Heap} {q:GV} {g:Gr} (t:GrAt h q g) (ht:TabAt h) {bv:Value} {l:List Int} (hm:Rd 1 h bv l.length (intsV l)) (ax:Int) :
  Con Tryd.prog 37 #[.agg (gcells q g).toArray,.int .i64 ax,bv] h fun v h'=>Fr 0 0 h h'∧v=.bool (decide (g.good=true∧tsoAx g=(ax,l))):=by
 have p0:Fr 0 0 h h:=.refl _ _ _
 obtain ⟨ba,bc,rfl⟩:=hm.is
 by_cases hg:g.good=true
 rotate_left
 ·have e:decide (g.good=true∧tsoAx g=(ax,l))=false:=decide_eq_false fun h=>hg h.1
  rw [e]
  refine con_q37 ?_
  unfold gcells
  simp -dsimp only [go_sem]
  intro b1 h1 n1
  have n1_a:=n1.at_
  have n1_z:=n1.size
  replace p0:=p0.F n1.f0
  have r1:=n1.row
  simp -dsimp only [go_sem,r1.cell]
  refine call_of (seq_Tso (t.fr p0) (ht.fr p0 (.inr rfl))) ?_
  rintro v2 h2 ⟨f2,w⟩
  have f2_z:=f2.size
  replace p0:=p0.F f2
  replace r1:=r1.F f2
  rw [if_neg hg] at w
  subst w
  simp -dsimp only [go_sem,r1.cell]
  exact p0
 have hn:=(good_n hg).1
 have hal:=tsoAx_len (g:=g)
 refine con_q37 ?_
 unfold gcells
 simp -dsimp only [go_sem]
 intro b1 h1 n1
 have n1_a:=n1.at_
 have n1_z:=n1.size
 replace p0:=p0.F n1.f0
 have r1:=n1.row
 simp -dsimp only [go_sem,r1.cell]
 refine call_of (seq_Tso (t.fr p0) (ht.fr p0 (.inr rfl))) ?_
 rintro v2 h2 ⟨f2,w⟩
 have f2_z:=f2.size
 replace p0:=p0.F f2
 replace r1:=r1.F f2
 rw [if_pos hg] at w
 obtain ⟨w,rfl,o⟩:=w
 obtain ⟨oa,oc,rfl⟩:=o.is
 by_cases ha:(tsoAx g).1=ax
 rotate_left
 ·have e:decide (g.good=true∧tsoAx g=(ax,l))=false:=decide_eq_false fun h=>ha (by rw [h.2])
  rw [e]
  simp -dsimp only [go_sem,beq_f ha,r1.cell]
  exact p0
 simp -dsimp only [go_sem,beq_t ha,r1.cell]
 refine call_of (c_law12_ints (l:=(tsoAx g).2) (m:=l) o.rd (hm.fr p0) (by omega)) ?_
 rintro v3 h2 ⟨rfl,rfl⟩
 have e:decide ((tsoAx g).2=l)=decide (g.good=true∧tsoAx g=(ax,l)):=by
  rw [Bool.eq_iff_iff,decide_eq_true_iff,decide_eq_true_iff]
  exact ⟨fun h=>⟨hg,Prod.ext ha h⟩,fun h=>by rw [h.2]⟩
 rw [e]
 simp -dsimp only [go_sem,r1.cell]
 exact p0
theorem nilJ {h:Heap}:Rd 1 h (.slice none 0 0) ([]:List Int).length (intsV []):=⟨rfl,_,_,rfl,.inl rfl⟩
theorem ly1:decide (bfG.good=true∧scAx bfG=(1,[2,3,4,5]))=true:=by decide +kernel
theorem ly2:decide (bfG.good=true∧tsoAx bfG=(0,[]))=true:=by decide +kernel
theorem ly3:decide (lodG.good=true∧tsoAx lodG=(3,[2,3,4,5]))=true:=by decide +kernel
theorem ly4:(lodG.check false).1=0:=by decide +kernel
theorem ly5:mapTo lodG lodG.n=[(2,3),(4,5)]:=by decide +kernel
theorem ly6:evsTo lodG false lodG.n=[⟨-1,2,0,0,11⟩,⟨-1,2,1,0,11⟩,⟨0,1,0,1,11⟩,⟨0,2,1,1,11⟩,⟨1,1,1,1,11⟩,⟨1,2,0,1,11⟩]:=by decide +kernel
set_option maxHeartbeats 2000000 in
theorem law12_lives {h:Heap} (ht:TabAt h):Con Tryd.prog 16 #[] h fun v h'=>Fr 0 0 h h'∧v=.bool true:=by
 refine con_q33 ?_
 have hz:0<h.size:=hcell_lt (ht 0 0 rfl)
 have p0:Fr 0 0 h h:=.refl _ _ _
 simp -dsimp only [go_sem]
 refine call_of (c_law12_load) ?_
 rintro v1 h1 ⟨f1,q1,rfl,t1⟩
 have f1_z:=f1.size
 replace p0:=p0.F f1
 simp -dsimp only [go_sem]
 refine call_of (seq_Mapped t1 false (by omega)) ?_
 rintro v2 h2 ⟨f2,w2⟩
 have f2_z:=f2.size
 replace p0:=p0.F f2
 rw [if_pos ly4] at w2
 obtain ⟨q2,rfl,o2⟩:=w2
 have tm:=o2.at_
 clear o2
 have p2:Fr 0 0 h2 h2:=.refl _ _ _
 have eg:mapG lodG false=⟨2,[⟨-1,2,0,0,11⟩,⟨-1,2,1,0,11⟩,⟨0,1,0,1,11⟩,⟨0,2,1,1,11⟩,⟨1,1,1,1,11⟩,⟨1,2,0,1,11⟩],lodG.rf,lodG.co,[],[],[],[(2,3),(4,5)]⟩:=by
  unfold mapG
  rw [ly5,ly6];rfl
 rw [eg] at tm ⊢
 unfold gcells
 simp -dsimp only [go_sem]
 intro b3 h3 n3
 have n3_z:=n3.az
 replace p0:=p0.F n3.f0
 replace p2:=p2.F n3.f0
 have r3:=n3.row
 simp -dsimp only [go_sem,r3.cell]
 refine Chk_intro (r3.W) fun h4 s4=>?_
 have s4_z:=s4.size
 replace p0:=p0.F s4.fr
 replace p2:=p2.F s4.fr
 replace r3:=s4.row r3
 try simp only [cl_int,cl_bool,cl_slice,cl_ptr,putAt_one,zs0,zs1,ivec_set,brow_upd] at r3
 try simp -dsimp only [go_sem] at r3
 simp -dsimp only [go_sem,r3.cell]
 refine call_of (c_law12_buffering) ?_
 rintro v5 h5 ⟨f5,q5,rfl,t5⟩
 have f5_z:=f5.size
 replace p0:=p0.F f5
 replace p2:=p2.F f5
 replace r3:=r3.F f5
 simp -dsimp only [go_sem,r3.cell]
 intro b6 h6 n6
 have n6_z:=n6.az
 replace p0:=p0.F n6.f0
 replace p2:=p2.F n6.f0
 replace r3:=r3.F n6.f0
 have r6:=n6.row
 replace t5:=t5.fr n6.fr
 simp -dsimp only [go_sem,r3.cell,r6.cell]
 refine call_of (c_law12_sc t5 (ht.fr p0 (.inr rfl)) (l:=[2,3,4,5]) (Rw.rd (s:=1) (n:=4) (c:=4) r6 rfl) 1) ?_
 rintro v7 h7 ⟨f7,rfl⟩
 have f7_z:=f7.size
 replace p0:=p0.F f7
 replace p2:=p2.F f7
 replace r3:=r3.F f7
 replace r6:=r6.F f7
 rw [ly1]
 simp -dsimp only [go_sem,r3.cell,r6.cell]
 refine call_of (c_law12_buffering) ?_
 rintro v8 h8 ⟨f8,q8,rfl,t8⟩
 have f8_z:=f8.size
 replace p0:=p0.F f8
 replace p2:=p2.F f8
 replace r3:=r3.F f8
 replace r6:=r6.F f8
 simp -dsimp only [go_sem,r3.cell,r6.cell]
 refine call_of (c_law12_tso t8 (ht.fr p0 (.inr rfl)) (l:=[]) nilJ 0) ?_
 rintro v9 h9 ⟨f9,rfl⟩
 have f9_z:=f9.size
 replace p0:=p0.F f9
 replace p2:=p2.F f9
 replace r3:=r3.F f9
 replace r6:=r6.F f9
 rw [ly2]
 simp -dsimp only [go_sem,r3.cell,r6.cell]
 refine call_of (c_law12_load) ?_
 rintro v10 h10 ⟨f10,q10,rfl,t10⟩
 have f10_z:=f10.size
 replace p0:=p0.F f10
 replace p2:=p2.F f10
 replace r3:=r3.F f10
 replace r6:=r6.F f10
 simp -dsimp only [go_sem,r3.cell,r6.cell]
 intro b11 h11 n11
 have n11_z:=n11.az
 replace p0:=p0.F n11.f0
 replace p2:=p2.F n11.f0
 replace r3:=r3.F n11.f0
 replace r6:=r6.F n11.f0
 have r11:=n11.row
 replace t10:=t10.fr n11.fr
 simp -dsimp only [go_sem,r3.cell,r6.cell,r11.cell]
 refine call_of (c_law12_tso t10 (ht.fr p0 (.inr rfl)) (l:=[2,3,4,5]) (Rw.rd (s:=1) (n:=4) (c:=4) r11 rfl) 3) ?_
 rintro v12 h12 ⟨f12,rfl⟩
 have f12_z:=f12.size
 replace p0:=p0.F f12
 replace p2:=p2.F f12
 replace r3:=r3.F f12
 replace r6:=r6.F f12
 replace r11:=r11.F f12
 rw [ly3]
 obtain ⟨eb,eo,hee,hev⟩:=tm.evs (by decide)
 obtain ⟨c0,c1,c2,c3,c4⟩:=hev h12 p2 2 (by decide)
 have hee':q2.e=some ⟨eb,eo,none⟩:=hee
 have c4':hcell h12 eb (eo+10+4)=some (.int .i64 11):=c4
 have c4'':hcell h12 eb (eo+Int.toNat 2 * 5+4)=some (.int .i64 11):=c4
 have e2:(((2:Nat):Int)==2)=true:=rfl
 have e6:(((6:Nat):Int)==6)=true:=rfl
 have e7:((2:Int)<((6:Nat):Int)):=by decide
 simp -dsimp only [go_sem,e2,e6,e7,hee',c4',c4'',r3.cell,r6.cell,r11.cell]
 exact p0
end Go.Proofs.Tst
/-
  SeqWithin.
-/
namespace Go.Proofs.Tst
open Go Go.Vc
end Go.Proofs.Tst
