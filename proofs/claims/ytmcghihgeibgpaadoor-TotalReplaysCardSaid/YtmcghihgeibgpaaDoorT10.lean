/-
  Contracts of functions that the law reaches: what each returns and what it leaves in memory. Conditions stand in each.
-/
import Derived.Test.YtmcghihgeibgpaaDoorT9
set_option linter.all false
set_option maxRecDepth 2000
/-
  The document's Replay.
-/
namespace Go.Proofs.Tst
open Go Go.Vc
section
variable {h : Heap} {q : GV} {g : Gr}
def memTo (g:Gr) (m:List Nat) (i:Nat) (c:Nat):Int:=repVal g (m.take i) (c:Int)
def hasTo (g:Gr) (m:List Nat) (i:Nat) (c:Nat):Bool:=(lastW g (m.take i) (c:Int)).isSome
theorem memTo_step {m:List Nat} {i x c k:Nat} (hx:m[i]?=some x) (hk:(g.ev x).kind=2) (hc:(g.ev x).loc=(c:Int)):(if k=c then (g.ev x).val else memTo g m i k)=memTo g m (i+1) k:=by
 unfold memTo repVal
 rw [lastW_step hx]
 by_cases h:k=c
 ·subst h;rw [if_pos rfl,if_pos (wrB_iff.2 ⟨hk,hc⟩)]
 ·rw [if_neg h,if_neg (fun h'=>h (by have:=(wrB_iff.1 h').2;omega))]
theorem hasTo_step {m:List Nat} {i x c k:Nat} (hx:m[i]?=some x) (hk:(g.ev x).kind=2) (hc:(g.ev x).loc=(c:Int)):upd (hasTo g m i) c true k=hasTo g m (i+1) k:=by
 unfold hasTo upd
 rw [lastW_step hx]
 by_cases h:k=c
 ·subst h;rw [if_pos rfl,if_pos (wrB_iff.2 ⟨hk,hc⟩)];rfl
 ·rw [if_neg h,if_neg (fun h'=>h (by have:=(wrB_iff.1 h').2;omega))]
theorem memTo_same {m:List Nat} {i x:Nat} (hx:m[i]?=some x) (hk:¬ (g.ev x).kind=2) (k:Nat):memTo g m i k=memTo g m (i+1) k:=by
 unfold memTo repVal
 rw [lastW_step hx,if_neg (fun h'=>hk (wrB_iff.1 h').1)]
theorem hasTo_same {m:List Nat} {i x:Nat} (hx:m[i]?=some x) (hk:¬ (g.ev x).kind=2) (k:Nat):hasTo g m i k=hasTo g m (i+1) k:=by
 unfold hasTo
 rw [lastW_step hx,if_neg (fun h'=>hk (wrB_iff.1 h').1)]
set_option maxHeartbeats 4000000 in
theorem ref21_Replay (t:GrAt h q g) {la:Option Addr} {lc:Nat} {l:List Int} (hl:Rd 1 h (.slice la l.length lc) l.length (intsV l)) (hb:l.length≤4611686018427387904) :
  Con Tryd.prog 27 #[.agg (gcells q g).toArray,.slice la l.length lc] h fun v h'=>Fr 0 0 h h'∧if eachB g l=true then ∃ w,v=.tuple #[w,.bool (repOk g (natsOf l))]∧Holder 1 h' w (repFin g (natsOf l)).length (wordsV (repFin g (natsOf l))) h.size else v=.tuple #[.slice none 0 0,.bool false]:=by
 have p0:Fr 0 0 h h:=.refl _ _ _
 by_cases he:eachB g l=true
 rotate_left
 ·simp only [if_neg he]
  refine con_q83 ?_
  unfold gcells
  simp -dsimp only [go_sem]
  intro b2 h1 n1
  have n1_a:=n1.at_
  have n1_z:=n1.size
  replace p0:=p0.F n1.f0
  have r2:=n1.row
  simp -dsimp only [go_sem,r2.cell]
  refine call_of (ref8_Good (t.fr p0)) ?_
  rintro v2 h2 ⟨f2,rfl⟩
  have f2_z:=f2.size
  replace p0:=p0.F f2
  replace r2:=r2.F f2
  cases hg:g.good
  ·simp -dsimp only [go_sem,r2.cell]
   exact p0
  ·have hlin:¬ LinP g.n (fun _ _=>false) l:=fun hl=>he (by unfold eachB;simp [hl,hg])
   simp -dsimp only [go_sem,r2.cell]
   refine call_of (ref21_each (t.fr p0) hg (hl.fr p0) hb) ?_
   rintro v3 h3 ⟨f3,rfl⟩
   have f3_z:=f3.size
   replace p0:=p0.F f3
   replace r2:=r2.F f3
   rw [decide_eq_false hlin]
   simp -dsimp only [go_sem,r2.cell]
   exact p0
 simp only [if_pos he]
 have hg:g.good=true:=by unfold eachB at he;simp only [Bool.and_eq_true] at he;exact he.1
 have hlin:LinP g.n (fun _ _=>false) l:=by unfold eachB at he;simp only [Bool.and_eq_true,decide_eq_true_eq] at he;exact he.2
 obtain ⟨hc0,hc1,hc2⟩:=good_cells hg
 have hn:=(good_n hg).1
 refine con_q83 ?_
 unfold gcells
 simp -dsimp only [go_sem]
 intro b2 h1 n1
 have n1_a:=n1.at_
 have n1_z:=n1.size
 replace p0:=p0.F n1.f0
 have r2:=n1.row
 simp -dsimp only [go_sem,r2.cell]
 refine call_of (ref8_Good (t.fr p0)) ?_
 rintro v2 h2 ⟨f2,rfl⟩
 have f2_z:=f2.size
 replace p0:=p0.F f2
 replace r2:=r2.F f2
 rw [hg]
 simp -dsimp only [go_sem,r2.cell]
 refine call_of (ref21_each (t.fr p0) hg (hl.fr p0) hb) ?_
 rintro v3 h3 ⟨f3,rfl⟩
 have f3_z:=f3.size
 replace p0:=p0.F f3
 replace r2:=r2.F f3
 rw [decide_eq_true hlin]
 have L:=LinF.of hlin
 have Ll:=L.len
 obtain ⟨K,hK⟩:=Int.eq_ofNat_of_zero_le hc0
 have r2':=r2
 simp -dsimp only [go_sem,r2.cell]
 refine Chk_intro (by omega) ?_
 rw [hK,zeros_one,Int.toNat_natCast,urowX_zero]
 intro b6 h6 n6
 have n6_z:=n6.az
 replace p0:=p0.F n6.f0
 replace r2:=r2.F n6.f0
 have r6:=n6.row
 have ez:urow K (fun _=>0)=urow K (memTo g (natsOf l) 0):=urowX_congr fun j _=>by simp [memTo,repVal,lastW]
 rw [ez] at r6
 simp -dsimp only [go_sem,r2.cell,r6.cell]
 refine Chk_intro (by omega) ?_
 rw [hK,zeros_one,Int.toNat_natCast,brow_false]
 intro b7 h7 n7
 have n7_z:=n7.az
 replace p0:=p0.F n7.f0
 replace r2:=r2.F n7.f0
 replace r6:=r6.F n7.f0
 have r7:=n7.row
 have ez:brow K (fun _=>false)=brow K (hasTo g (natsOf l) 0):=brow_congr fun j _=>by simp [hasTo,lastW]
 rw [ez] at r7
 have gb:h.size≤b2∧b2<b6∧b6<b7∧b7<h7.size∧h.size≤h6.size:=by omega
 have R2:Rw h7 b2 (gcells q g):=by unfold gcells;rw [hK] ;rw [hK] at r2;exact r2
 clear r2 r2'
 simp -dsimp only [go_sem,r6.cell,r7.cell]
 refine loop_intro (fun i:Nat=>[(1,.slice la l.length lc),(2,.pointer (some ⟨b2,0,none⟩)),(6,.slice (some ⟨b6,0,none⟩) K K),(7,.slice (some ⟨b7,0,none⟩) K K),(8,.bool (okTo g (natsOf l) i)),(9,.int .i64 i)])
  (fun i h'=>i≤l.length∧Fr 0 0 h h'∧h7.size≤h'.size∧Rw h' b2 (gcells q g)∧Rw h' b6 (urow K (memTo g (natsOf l) i))∧Rw h' b7 (brow K (hasTo g (natsOf l) i))) (fun i=>l.length - i) 0 ?_ ?_ ?_
 ·simp [Le,find,okTo]
 ·exact ⟨by omega,p0,by omega,R2,r6,r7⟩
 clear p0 r6 r7 R2
 rintro i h9 ⟨hi,p0,z9,r2,r6,r7⟩
 unfold gcells at r2
 have p0_z:=p0.size
 have r2_l:=r2.lt
 have r6_l:=r6.lt
 have r7_l:=r7.lt
 by_cases hlt:i<l.length
 ·have e1:((i:Int)<(l.length:Int)):=by omega
  obtain ⟨x,k1,k2,hx⟩:=L.at_ i hlt
  have hos:=okTo_succ (g:=g) k2
  obtain ⟨eb,eo,hee,hev⟩:=t.evs (by omega)
  obtain ⟨c0,c1,c2,c3,c4⟩:=hev h9 p0 x hx
  obtain ⟨hll,la',lc',hle,hld⟩:=hl
  cases hle
  rcases hld with hld | ⟨lb,lo,rfl,hlc⟩
  ·omega
  have k3:=p0.keep (hlc i _ (intsV_get k1)) (by omega)
  have e2:((x:Int)<(g.evs.length:Int)):=by show (x:Int)<(g.n:Int);omega
  simp -dsimp only [go_sem,e1,k3,hee,e2,c0,c1,c2,c3,c4,r2.cell,r6.cell,r7.cell]
  intro b10 h10 n10
  have n10_z:=n10.az
  replace p0:=p0.F n10.f0
  replace r2:=r2.F n10.f0
  replace r6:=r6.F n10.f0
  replace r7:=r7.F n10.f0
  have r10:=n10.row
  simp -dsimp only [go_sem,r2.cell,r6.cell,r7.cell,r10.cell]
  refine Chk_intro (r10.W) fun h11 s11=>?_
  have s11_z:=s11.size
  replace p0:=p0.F s11.fr
  replace r2:=r2.F s11.fr
  replace r6:=r6.F s11.fr
  replace r7:=r7.F s11.fr
  replace r10:=s11.row r10
  try simp only [cl_int,cl_bool,cl_slice,cl_ptr,putAt_one,zs0,zs1,ivec_set,brow_upd] at r10
  try simp -dsimp only [go_sem] at r10
  simp -dsimp only [go_sem,r2.cell,r6.cell,r7.cell,r10.cell]
  by_cases hk2:(g.ev x).kind=2
  ·obtain ⟨w1,w2⟩:=wr_loc hg hx (by omega)
   obtain ⟨c,hc⟩:=Int.eq_ofNat_of_zero_le w1
   have hcK:c<K:=by omega
   have hro:readOk g (natsOf l) i x=true:=by unfold readOk;simp [hk2]
   rw [hro,Bool.and_true] at hos
   have e3:((c:Int)<(K:Int)):=by omega
   have nk1:¬ (g.ev x).kind=1:=by omega
   simp -dsimp only [go_sem,beq_t hk2,hc,e3,r2.cell,r6.cell,r7.cell,r10.cell]
   refine Chk_intro (r6.wr (by simp;omega)) fun h12 s12=>?_
   have r12:=s12.row r6
   rw [cl_int,putAt_one,urow_set,urowX_congr (g:=memTo g (natsOf l) (i+1)) fun k _=>memTo_step k2 hk2 hc] at r12
   clear r6
   have f12:=s12.fr
   have f12_z:=f12.size
   replace p0:=p0.F f12
   replace r2:=r2.F f12
   replace r7:=r7.F f12
   replace r10:=r10.F f12
   simp -dsimp only [go_sem,hc,e3,r2.cell,r7.cell,r10.cell,r12.cell]
   refine Chk_intro (r7.wr (by simp;omega)) fun h13 s13=>?_
   have r13:=s13.row r7
   rw [cl_bool,putAt_one,brow_upd,brow_congr (g:=hasTo g (natsOf l) (i+1)) fun k _=>hasTo_step k2 hk2 hc] at r13
   clear r7
   have f13:=s13.fr
   have f13_z:=f13.size
   replace p0:=p0.F f13
   replace r2:=r2.F f13
   replace r10:=r10.F f13
   replace r12:=r12.F f13
   simp -dsimp only [go_sem,beq_f nk1,r2.cell,r10.cell,r12.cell]
   simp -dsimp (disch:=omega) only [wrap64]
   exact ⟨i+1,by omega,by simp [Le,find,hos],by omega,p0,by omega,r2,r12,r13⟩
  ·simp -dsimp only [go_sem,beq_f hk2,r2.cell,r6.cell,r7.cell,r10.cell]
   rw [urowX_congr (g:=memTo g (natsOf l) (i+1)) fun k _=>memTo_same k2 hk2 k] at r6
   rw [brow_congr (g:=hasTo g (natsOf l) (i+1)) fun k _=>hasTo_same k2 hk2 k] at r7
   by_cases hk1:(g.ev x).kind=1
   ·obtain ⟨w1,w2⟩:=wr_loc hg hx (by omega)
    obtain ⟨c,hc⟩:=Int.eq_ofNat_of_zero_le w1
    have hcK:c<K:=by omega
    have e3:((c:Int)<(K:Int)):=by omega
    have hro:readOk g (natsOf l) i x=match lastW g ((natsOf l).take i) (c:Int) with | some w=>(g.ev w).val==(g.ev x).val | none=>false:=by
     unfold readOk;rw [hk1,hc];cases lastW g ((natsOf l).take i) (c:Int) <;> rfl
    rw [hro] at hos
    have m1:memTo g (natsOf l) (i+1) c=memTo g (natsOf l) i c:=(memTo_same k2 hk2 c).symm
    have m2:hasTo g (natsOf l) (i+1) c=hasTo g (natsOf l) i c:=(hasTo_same k2 hk2 c).symm
    have q7:hcell h11 b7 c=some (.bool (hasTo g (natsOf l) i c)):=by rw [r7.cell,brow_get hcK,m2]
    have q6:hcell h11 b6 c=some (.int .u64 (memTo g (natsOf l) i c)):=by rw [r6.cell];unfold urow;rw [List.getElem?_map,List.getElem?_range hcK,← m1];rfl
    cases hok:okTo g (natsOf l) i
    ·rw [hok,Bool.false_and] at hos
     simp -dsimp only [go_sem,beq_t hk1,hok,r2.cell,r6.cell,r7.cell,r10.cell]
     simp -dsimp (disch:=omega) only [wrap64]
     exact ⟨i+1,by omega,by simp [Le,find,hos],by omega,p0,by omega,r2,r6,r7⟩
    ·rw [hok,Bool.true_and] at hos
     cases hlw:lastW g ((natsOf l).take i) (c:Int) with
     | none =>
      rw [hlw] at hos
      have q8:hasTo g (natsOf l) i c=false:=by unfold hasTo;rw [hlw];rfl
      rw [q8] at q7
      simp -dsimp only [go_sem,beq_t hk1,hok,hc,e3,q7,r2.cell,r6.cell,r7.cell,r10.cell]
      simp -dsimp (disch:=omega) only [wrap64]
      exact ⟨i+1,by omega,by simp [Le,find,hos],by omega,p0,by omega,r2,r6,r7⟩
     | some w =>
      rw [hlw] at hos
      have q8:hasTo g (natsOf l) i c=true:=by unfold hasTo;rw [hlw];rfl
      have q9:memTo g (natsOf l) i c=(g.ev w).val:=by unfold memTo repVal;rw [hlw]
      rw [q8] at q7
      rw [q9] at q6
      simp -dsimp only [go_sem,beq_t hk1,hok,hc,e3,q7,q6,r2.cell,r6.cell,r7.cell,r10.cell]
      simp -dsimp (disch:=omega) only [wrap64]
      exact ⟨i+1,by omega,by simp [Le,find,hos],by omega,p0,by omega,r2,r6,r7⟩
   ·have hro:readOk g (natsOf l) i x=true:=by unfold readOk;simp [hk1]
    rw [hro,Bool.and_true] at hos
    simp -dsimp only [go_sem,beq_f hk1,r2.cell,r6.cell,r7.cell,r10.cell]
    simp -dsimp (disch:=omega) only [wrap64]
    exact ⟨i+1,by omega,by simp [Le,find,hos],by omega,p0,by omega,r2,r6,r7⟩
 obtain rfl:i=l.length:=by omega
 have hml:(natsOf l).length=l.length:=by simp [natsOf]
 have hoa:okTo g (natsOf l) l.length=repOk g (natsOf l):=by rw [← hml];rfl
 have hKl:(repFin g (natsOf l)).length=K:=by unfold repFin;simp [hK]
 have ee:urow K (memTo g (natsOf l) l.length)=wordsV (repFin g (natsOf l)):=by
  unfold repFin wordsV memTo
  rw [hK,Int.toNat_natCast,List.map_map,List.take_of_length_le (by omega)]
  rfl
 simp -dsimp only [go_sem,Int.lt_irrefl,r2.cell,r6.cell,r7.cell]
 rw [ee] at r6
 rw [hoa]
 refine ⟨p0,_,rfl,?_⟩
 rw [hKl]
 exact holder_row (s:=1) r6 (by simp [wordsV,hKl]) (by omega)
end
end Go.Proofs.Tst
/-
  The document's Right.
-/
namespace Go.Proofs.Tst
open Go Go.Vc
section
variable {h : Heap} {q : GV} {g : Gr}
def lasTo (g:Gr) (m:List Nat) (i c:Nat):Int:=lastI g m i (c:Int)
def plcTo (g:Gr) (m:List Nat) (i c:Nat):Int:=(cntW g (m.take i) (c:Int):Nat)
def rfR (g:Gr) (m:List Nat) (i x:Nat) (p:Int×Int):Bool:=!(p.2==(x:Int))||p.1==lastI g m i (g.ev x).loc
def rmR (m:List Nat) (i x:Nat) (p:Int×Int):Bool:=!(p.1==(x:Int))||natO m[i+1]? == some p.2
def coR (g:Gr) (m:List Nat) (i x:Nat):Bool:=!((g.ev x).kind==2)||(g.co.getD (g.ev x).loc.toNat [])[cntW g (m.take i) (g.ev x).loc]? == some (x:Int)
theorem okR_of {m:List Nat} {i x:Nat} (h1:coR g m i x=true) (h2:(g.ev x).kind=1→g.rf.all (rfR g m i x)=true) (h3:g.rmw.all (rmR m i x)=true):okR g m i x=true:=by
 unfold okR
 have h1':(!((g.ev x).kind==2)||(g.co.getD (g.ev x).loc.toNat [])[cntW g (m.take i) (g.ev x).loc]? == some (x:Int))=true:=h1
 have h3':(g.rmw.all fun p=>!(p.1==(x:Int))||natO m[i+1]? == some p.2)=true:=h3
 rw [h1',h3',Bool.true_and,Bool.and_true]
 by_cases hk:(g.ev x).kind=1
 ·have h2':(g.rf.all fun p=>!(p.2==(x:Int))||p.1==lastI g m i (g.ev x).loc)=true:=h2 hk
  rw [h2',Bool.or_true]
 ·simp [hk]
theorem okR_co {m:List Nat} {i x:Nat} (h1:coR g m i x=false):okR g m i x=false:=by
 unfold okR
 have h1':(!((g.ev x).kind==2)||(g.co.getD (g.ev x).loc.toNat [])[cntW g (m.take i) (g.ev x).loc]? == some (x:Int))=false:=h1
 rw [h1',Bool.false_and,Bool.false_and]
theorem okR_rf {m:List Nat} {i x:Nat} (hk:(g.ev x).kind=1) {p:Int×Int} (hp:p∈g.rf) (hb:rfR g m i x p=false):okR g m i x=false:=by
 have:(g.rf.all fun p=>!(p.2==(x:Int))||p.1==lastI g m i (g.ev x).loc)=false:=by
  rw [List.all_eq_false];exact ⟨p,hp,by rw [Bool.not_eq_true];exact hb⟩
 unfold okR
 rw [this,hk];simp
theorem okR_rm {m:List Nat} {i x:Nat} {p:Int×Int} (hp:p∈g.rmw) (hb:rmR m i x p=false):okR g m i x=false:=by
 have:(g.rmw.all fun p=>!(p.1==(x:Int))||natO m[i+1]? == some p.2)=false:=by
  rw [List.all_eq_false];exact ⟨p,hp,by rw [Bool.not_eq_true];exact hb⟩
 unfold okR
 rw [this,Bool.and_false]
theorem rightR_bad {l:List Int} (hg:g.good=true) {i x:Nat} (hx:(natsOf l)[i]?=some x) (hb:okR g (natsOf l) i x=false):rightR g l=false:=by
 cases hr:rightR g l
 ·rfl
 ·unfold rightR at hr
  simp only [Bool.and_eq_true,allB_iff] at hr
  rw [hr.2.2.2 i x hx] at hb;cases hb
def okS (g:Gr) (m:List Nat) (i:Nat):Prop:=∀ j y,j<i→m[j]?=some y→okR g m j y=true
theorem okS_succ {m:List Nat} {i x:Nat} (hx:m[i]?=some x) (h:okS g m i) (hb:okR g m i x=true):okS g m (i+1):=fun j y hj hy=>by
 by_cases he:j=i
 ·subst he;rw [hx] at hy;cases hy;exact hb
 ·exact h j y (by omega) hy
theorem lasTo_step {m:List Nat} {i x c k:Nat} (hx:m[i]?=some x) (hk:(g.ev x).kind=2) (hc:(g.ev x).loc=(c:Int)):(if k=c then (x:Int) else lasTo g m i k)=lasTo g m (i+1) k:=by
 unfold lasTo lastI
 rw [lastW_step hx]
 by_cases h:k=c
 ·subst h;rw [if_pos rfl,if_pos (wrB_iff.2 ⟨hk,hc⟩)]
 ·rw [if_neg h,if_neg (fun h'=>h (by have:=(wrB_iff.1 h').2;omega))]
theorem lasTo_same {m:List Nat} {i x:Nat} (hx:m[i]?=some x) (hk:¬ (g.ev x).kind=2) (k:Nat):lasTo g m i k=lasTo g m (i+1) k:=by
 unfold lasTo lastI
 rw [lastW_step hx,if_neg (fun h'=>hk (wrB_iff.1 h').1)]
theorem cnt_step {m:List Nat} {i x:Nat} (hx:m[i]?=some x) (c:Int):cntW g (m.take (i+1)) c=cntW g (m.take i) c+if wrB g c x then 1 else 0:=by
 rw [List.take_add_one,hx];exact cntW_snoc
theorem plcTo_step {m:List Nat} {i x c k:Nat} (hx:m[i]?=some x) (hk:(g.ev x).kind=2) (hc:(g.ev x).loc=(c:Int)):(if k=c then ((cntW g (m.take i) (c:Int)+1:Nat):Int) else plcTo g m i k)=plcTo g m (i+1) k:=by
 unfold plcTo
 rw [cnt_step hx]
 by_cases h:k=c
 ·subst h;rw [if_pos rfl,if_pos (wrB_iff.2 ⟨hk,hc⟩)]
 ·rw [if_neg h,if_neg (fun h'=>h (by have:=(wrB_iff.1 h').2;omega))];rfl
theorem plcTo_same {m:List Nat} {i x:Nat} (hx:m[i]?=some x) (hk:¬ (g.ev x).kind=2) (k:Nat):plcTo g m i k=plcTo g m (i+1) k:=by
 unfold plcTo
 rw [cnt_step hx,if_neg (fun h'=>hk (wrB_iff.1 h').1)];rfl
theorem cnt_lt_co (hg:g.good=true) {m:List Nat} (hm:m.Nodup) (hlt:∀ x∈m,x<g.n) {i x c:Nat} (hx:m[i]?=some x) (hk:(g.ev x).kind=2) (hc:(g.ev x).loc=(c:Int)) (hcl:c<g.co.length):cntW g (m.take i) (c:Int)<(g.co.getD c []).length:=by
 have h1:cntW g (m.take (i+1)) (c:Int)=cntW g (m.take i) (c:Int)+1:=by rw [cnt_step hx,if_pos (wrB_iff.2 ⟨hk,hc⟩)]
 have hA:(((m.take (i+1)).filter (wrB g (c:Int))).map fun (p:Nat)=>(p:Int)).Nodup:=
  List.pairwise_map.2 ((List.Nodup.sublist (List.filter_sublist) (List.Nodup.sublist (List.take_sublist (i+1) m) hm)).imp fun h e=>h (by omega))
 have h2:=nodup_le hA (m:=g.co.getD c []) fun z hz=>by
  obtain ⟨y,hy,rfl⟩:=List.mem_map.1 hz
  obtain ⟨y1,y2⟩:=List.mem_filter.1 hy
  obtain ⟨w1,w2⟩:=wrB_iff.1 y2
  exact co_all hg hcl (hlt y (List.mem_of_mem_take y1)) w1 w2
 rw [List.length_map] at h2
 unfold cntW at h1 ⊢
 omega
set_option maxHeartbeats 16000000 in
theorem ref21_Right (t:GrAt h q g) {la:Option Addr} {lc:Nat} {l:List Int} (hl:Rd 1 h (.slice la l.length lc) l.length (intsV l)) (hb:l.length≤4611686018427387904) :
  Con Tryd.prog 30 #[.agg (gcells q g).toArray,.slice la l.length lc] h fun v h'=>Fr 0 0 h h'∧v=.bool (rightR g l):=by
 refine con_q84 ?_
 have p0:Fr 0 0 h h:=.refl _ _ _
 have bf:=t.fits.f
 have br:=t.fits.r
 unfold gcells
 simp -dsimp only [go_sem]
 intro b2 h1 n1
 have n1_z:=n1.az
 replace p0:=p0.F n1.f0
 have r2:=n1.row
 simp -dsimp only [go_sem,r2.cell]
 refine call_of (ref8_Good (t.fr p0)) ?_
 rintro v2 h2 ⟨f2,rfl⟩
 have f2_z:=f2.size
 replace p0:=p0.F f2
 replace r2:=r2.F f2
 cases hg:g.good
 ·have e:rightR g l=false:=by unfold rightR;simp [hg]
  rw [e]
  simp -dsimp only [go_sem,r2.cell]
  exact p0
 have hn:=(good_n hg).1
 obtain ⟨hc0,hc1,hc2⟩:=good_cells hg
 have hcol:=(good_co hg).1
 simp -dsimp only [go_sem,r2.cell]
 refine call_of (ref8_Po (t.fr p0) hn) ?_
 rintro v3 h3 ⟨f3,t3⟩
 have f3_z:=f3.size
 replace p0:=p0.F f3
 replace r2:=r2.F f3
 obtain ⟨a3,c3,rfl⟩:=ra_is' t3
 simp -dsimp only [go_sem,r2.cell]
 refine call_of (ref2_Linear t3 (hl.fr p0) hb) ?_
 rintro v6 h6 ⟨f6,rfl⟩
 have f6_z:=f6.size
 replace p0:=p0.F f6
 replace r2:=r2.F f6
 clear t3
 by_cases hlin:LinP g.n (relM g 0) l
 rotate_left
 ·have e:rightR g l=false:=by unfold rightR;simp [hlin]
  rw [decide_eq_false hlin,e]
  simp -dsimp only [go_sem,r2.cell]
  exact p0
 rw [decide_eq_true hlin]
 have L:=LinF.of hlin
 have Ll:=L.len
 obtain ⟨-,hpre,-⟩:=lin_pre.1 hlin
 obtain ⟨hll,la',lc',hle,hld⟩:=hl
 cases hle
 rcases hld with hld | ⟨lb,lo,rfl,hlc⟩
 ·
  have hz:g.cells=0:=by omega
  have hl0:l=[]:=List.eq_nil_of_length_eq_zero hld
  have e:rightR g l=true:=by
   unfold rightR
   simp only [Bool.and_eq_true,decide_eq_true_eq,allB_iff]
   refine ⟨hg,hlin,?_,fun i x hx=>?_⟩
   ·unfold fstB;rw [hz];rfl
   ·rw [hl0] at hx;simp [natsOf] at hx
  rw [e]
  have e0:¬ ((0:Int)<g.cells):=by omega
  have e1:¬ ((0:Int)<(l.length:Int)):=by omega
  have p6:Fr 0 0 h6 h6:=.refl _ _ _
  simp -dsimp only [go_sem,r2.cell]
  refine loop_intro (fun _:Unit=>[(1,.slice la l.length lc),(2,.pointer (some ⟨b2,0,none⟩)),(5,.int .i64 0)]) (fun _ h'=>h'=h6) (fun _=>0) () ?_ ?_ ?_
  ·simp [Le,find]
  ·rfl
  rintro ⟨⟩ h7 hh
  obtain rfl:h6=h7:=hh.symm
  simp -dsimp only [go_sem,e0,r2.cell]
  refine Chk_intro (by omega) ?_
  intro b6 g6 n6
  have n6_z:=n6.az
  replace p0:=p0.F n6.f0
  replace r2:=r2.F n6.f0
  have r6:=n6.row
  simp -dsimp only [go_sem,r2.cell,r6.cell]
  refine Chk_intro (by omega) ?_
  intro b7 g7 n7
  have n7_z:=n7.az
  replace p0:=p0.F n7.f0
  replace r2:=r2.F n7.f0
  replace r6:=r6.F n7.f0
  have r7:=n7.row
  simp -dsimp only [go_sem,r2.cell,r6.cell,r7.cell]
  have P7:=p0
  have Q2:=r2
  refine loop_intro (fun _:Unit=>[(1,.slice la l.length lc),(2,.pointer (some ⟨b2,0,none⟩)),(6,.slice (some ⟨b6,0,none⟩) g.cells.toNat g.cells.toNat),(7,.slice (some ⟨b7,0,none⟩) g.cells.toNat g.cells.toNat),(8,.int .i64 0)]) (fun _ h'=>h'=g7) (fun _=>0) () ?_ ?_ ?_
  ·simp [Le,find]
  ·rfl
  rintro ⟨⟩ h8 hh
  obtain rfl:g7=h8:=hh.symm
  simp -dsimp only [go_sem,e0,r2.cell,r6.cell,r7.cell]
  refine loop_intro (fun _:Unit=>[(1,.slice la l.length lc),(2,.pointer (some ⟨b2,0,none⟩)),(6,.slice (some ⟨b6,0,none⟩) g.cells.toNat g.cells.toNat),(7,.slice (some ⟨b7,0,none⟩) g.cells.toNat g.cells.toNat),(9,.int .i64 0)]) (fun _ h'=>h'=g7) (fun _=>0) () ?_ ?_ ?_
  ·simp [Le,find]
  ·rfl
  rintro ⟨⟩ h9 hh
  obtain rfl:g7=h9:=hh.symm
  simp -dsimp only [go_sem,e1,r2.cell,r6.cell,r7.cell]
  exact P7
 obtain ⟨K,hK⟩:=Int.eq_ofNat_of_zero_le hc0
 have R2:Rw h6 b2 (gcells q g):=r2
 have gb:h.size≤b2∧b2<h6.size∧h.size≤h6.size:=by omega
 clear r2
 simp -dsimp only [go_sem]
 refine loop_intro (fun i:Nat=>[(1,.slice (some ⟨lb,lo,none⟩) l.length lc),(2,.pointer (some ⟨b2,0,none⟩)),(5,.int .i64 i)])
  (fun i h'=>i≤K∧h'=h6∧∀ j,j<i→((natsOf l).getD j 0:Int)<g.cells) (fun i=>K - i) 0 ?_ ?_ ?_
 ·simp [Le,find]
 ·exact ⟨by omega,rfl,fun j hj=>by omega⟩
 rintro i h7 ⟨hi,hh,hf⟩
 obtain rfl:h6=h7:=hh.symm
 have r2:=R2
 unfold gcells at r2
 have p0_z:=p0.size
 have r2_l:=r2.lt
 by_cases hlt:i<K
 ·have e1:((i:Int)<g.cells):=by omega
  have e2:((i:Int)<(l.length:Int)):=by omega
  obtain ⟨x,k1,k2,hx⟩:=L.at_ i (by omega)
  have k3:=p0.keep (hlc i _ (intsV_get k1)) (by omega)
  have hgd:(natsOf l).getD i 0=x:=by rw [List.getD_eq_getElem?_getD,k2];rfl
  by_cases hge:(x:Int)≥g.cells
  ·have e:rightR g l=false:=by
    cases hr:rightR g l
    ·rfl
    ·unfold rightR fstB at hr
     simp only [Bool.and_eq_true,List.all_eq_true,List.mem_range,decide_eq_true_eq] at hr
     have:=hr.2.2.1 i (by omega)
     rw [hgd] at this;omega
   rw [e]
   simp -dsimp only [go_sem,e1,e2,k3,hge,r2.cell]
   exact p0
  ·simp -dsimp only [go_sem,e1,e2,k3,hge,r2.cell]
   simp -dsimp (disch:=omega) only [wrap64]
   have hf':∀ j,j<i+1→((natsOf l).getD j 0:Int)<g.cells:=fun j hj=>by
    by_cases he:j=i
    ·subst he;rw [hgd];omega
    ·exact hf j (by omega)
   exact ⟨i+1,by omega,by simp [Le,find],by omega,hf'⟩
 obtain rfl:i=K:=by omega
 have hfst:fstB g (natsOf l)=true:=by
  unfold fstB
  rw [List.all_eq_true]
  intro j hj
  exact decide_eq_true (hf j (by have:=List.mem_range.1 hj;omega))
 clear hf
 have e1:¬ ((i:Int)<g.cells):=by omega
 simp -dsimp only [go_sem,e1,r2.cell]
 refine Chk_intro (by omega) ?_
 have hir:∀ k,List.replicate k (Value.int .i64 0)=irow k fun _=>0:=fun k=>by
  apply List.ext_getElem?;intro j;by_cases hj:j<k <;> simp [irow,hj]
 rw [hK,zeros_one,Int.toNat_natCast,hir]
 intro b6 h8 n8
 have n8_z:=n8.az
 replace p0:=p0.F n8.f0
 replace r2:=r2.F n8.f0
 have r6:=n8.row
 simp -dsimp only [go_sem,r2.cell,r6.cell]
 refine Chk_intro (by omega) ?_
 rw [hK,zeros_one,Int.toNat_natCast,hir]
 intro b7 h9 n9
 have n9_z:=n9.az
 replace p0:=p0.F n9.f0
 replace r2:=r2.F n9.f0
 replace r6:=r6.F n9.f0
 have r7:=n9.row
 have g9:h6.size≤b6∧b6<b7∧b7<h9.size∧h.size≤h9.size:=by omega
 have ez:irow i (fun _=>0)=irow i (fun j=>if j<0 then -1 else 0):=by unfold irow;exact List.map_congr_left fun j _=>by simp
 rw [ez] at r6
 have R2':Rw h9 b2 (gcells q g):=by unfold gcells;rw [hK];rw [hK] at r2;exact r2
 clear r2 R2
 simp -dsimp only [go_sem,r6.cell,r7.cell]
 refine loop_intro (fun c:Nat=>[(1,.slice (some ⟨lb,lo,none⟩) l.length lc),(2,.pointer (some ⟨b2,0,none⟩)),(6,.slice (some ⟨b6,0,none⟩) i i),(7,.slice (some ⟨b7,0,none⟩) i i),(8,.int .i64 c)])
  (fun c h'=>c≤i∧Fr 0 0 h h'∧h9.size≤h'.size∧Rw h' b2 (gcells q g)∧Rw h' b6 (irow i (fun j=>if j<c then -1 else 0))∧Rw h' b7 (irow i fun _=>0)) (fun c=>i - c) 0 ?_ ?_ ?_
 ·simp [Le,find]
 ·exact ⟨by omega,p0,by omega,R2',r6,r7⟩
 clear p0 r6 r7 R2'
 rintro c h10 ⟨hc,p0,z10,r2,r6,r7⟩
 unfold gcells at r2
 have p0_z:=p0.size
 have r2_l:=r2.lt
 have r6_l:=r6.lt
 have r7_l:=r7.lt
 by_cases hlt:c<i
 ·have e1:((c:Int)<g.cells):=by omega
  have e2:((c:Int)<(i:Int)):=by omega
  simp -dsimp only [go_sem,e1,e2,r2.cell,r6.cell,r7.cell]
  refine Chk_intro (r6.wr (by simp;omega)) fun h11 s11=>?_
  have r11:=s11.row r6
  rw [cl_int,putAt_one,irow_set] at r11
  have ee:(irow i fun k=>if k=c then -1 else if k<c then -1 else 0)=irow i fun j=>if j<c+1 then -1 else 0:=by
   unfold irow
   refine List.map_congr_left fun j _=>?_
   dsimp only
   by_cases h1:j=c
   ·subst h1;simp
   ·rw [if_neg h1]
    by_cases h2:j<c
    ·rw [if_pos h2,if_pos (by omega)]
    ·rw [if_neg h2,if_neg (by omega)]
  rw [ee] at r11
  clear r6
  have f11:=s11.fr
  have f11_z:=f11.size
  replace p0:=p0.F f11
  replace r2:=r2.F f11
  replace r7:=r7.F f11
  simp -dsimp only [go_sem,r2.cell,r7.cell]
  simp -dsimp (disch:=omega) only [wrap64]
  exact ⟨c+1,by omega,by simp [Le,find],by omega,p0,by omega,r2,r11,r7⟩
 obtain rfl:c=i:=by omega
 have e1:¬ ((c:Int)<g.cells):=by omega
 have ez6:(irow c fun j=>if j<c then -1 else 0)=irow c (lasTo g (natsOf l) 0):=by
  unfold irow
  refine List.map_congr_left fun j hj=>?_
  have:=List.mem_range.1 hj
  simp [this,lasTo,lastI,lastW]
 have ez7:(irow c fun _=>0)=irow c (plcTo g (natsOf l) 0):=by
  unfold irow
  exact List.map_congr_left fun j hj=>by simp [plcTo,cntW]
 rw [ez6] at r6
 rw [ez7] at r7
 have R2:Rw h10 b2 (gcells q g):=r2
 have R6:=r6
 have R7:=r7
 have P0:=p0
 obtain ⟨K,rfl⟩:∃ K,K=c:=⟨c,rfl⟩
 clear hlt
 simp -dsimp only [go_sem,e1,r2.cell,r6.cell,r7.cell]
 refine loop_intro (fun i:Nat=>[(1,.slice (some ⟨lb,lo,none⟩) l.length lc),(2,.pointer (some ⟨b2,0,none⟩)),(6,.slice (some ⟨b6,0,none⟩) K K),(7,.slice (some ⟨b7,0,none⟩) K K),(9,.int .i64 i)])
  (fun i h'=>i≤l.length∧Fr 0 0 h h'∧h9.size≤h'.size∧Rw h' b2 (gcells q g)∧Rw h' b6 (irow K (lasTo g (natsOf l) i))∧Rw h' b7 (irow K (plcTo g (natsOf l) i))∧okS g (natsOf l) i) (fun i=>l.length - i) 0 ?_ ?_ ?_
 ·simp [Le,find]
 ·exact ⟨by omega,P0,by omega,R2,R6,R7,fun j y hj=>by omega⟩
 clear p0 r2 r6 r7 P0 R2 R6 R7
 rintro i h11 ⟨hi,p0,z11,r2,r6,r7,hU⟩
 unfold gcells at r2
 have p0_z:=p0.size
 have r2_l:=r2.lt
 have r6_l:=r6.lt
 have r7_l:=r7.lt
 by_cases hlt:i<l.length
 rotate_left
 ·obtain rfl:i=l.length:=by omega
  have e:rightR g l=true:=by
   unfold rightR
   simp only [Bool.and_eq_true,decide_eq_true_eq,allB_iff]
   exact ⟨hg,hlin,hfst,fun j y hy=>hU j y (by have:=(List.getElem?_eq_some_iff.1 hy).1;simpa [natsOf] using this) hy⟩
  rw [e]
  simp -dsimp only [go_sem,Int.lt_irrefl,r2.cell,r6.cell,r7.cell]
  exact p0
 have e1:((i:Int)<(l.length:Int)):=by omega
 obtain ⟨x,k1,k2,hx⟩:=L.at_ i hlt
 obtain ⟨eb,eo,hee,hev⟩:=t.evs (by omega)
 obtain ⟨c0,c1,c2,c3,c4⟩:=hev h11 p0 x hx
 have k3:=p0.keep (hlc i _ (intsV_get k1)) (by omega)
 have e2:((x:Int)<(g.evs.length:Int)):=by show (x:Int)<(g.n:Int);omega
 simp -dsimp only [go_sem,e1,k3,hee,e2,c0,c1,c2,c3,c4,r2.cell,r6.cell,r7.cell]
 intro b10 h12 n12
 have n12_z:=n12.az
 replace p0:=p0.F n12.f0
 replace r2:=r2.F n12.f0
 replace r6:=r6.F n12.f0
 replace r7:=r7.F n12.f0
 have r10:=n12.row
 simp -dsimp only [go_sem,r2.cell,r6.cell,r7.cell,r10.cell]
 refine Chk_intro (r10.W) fun h13 s13=>?_
 have s13_z:=s13.size
 replace p0:=p0.F s13.fr
 replace r2:=r2.F s13.fr
 replace r6:=r6.F s13.fr
 replace r7:=r7.F s13.fr
 replace r10:=s13.row r10
 try simp only [cl_int,cl_bool,cl_slice,cl_ptr,putAt_one,zs0,zs1,ivec_set,brow_upd] at r10
 try simp -dsimp only [go_sem] at r10
 have k3:=p0.keep (hlc i _ (intsV_get k1)) (by omega)
 simp -dsimp only [go_sem,r2.cell,r6.cell,r7.cell,r10.cell]
 by_cases hk2:(g.ev x).kind=2
 ·obtain ⟨w1,w2⟩:=wr_loc hg hx (by omega)
  obtain ⟨c,hc⟩:=Int.eq_ofNat_of_zero_le w1
  have hcK:c<K:=by omega
  have e3:((c:Int)<(K:Int)):=by omega
  have e3':((c:Int)<(g.co.length:Int)):=by omega
  have hcl:c<g.co.length:=by omega
  obtain ⟨ob,oo,hoe,oa,oc,hol⟩:=rl_at t.o c hcl
  obtain ⟨ho1,ho2⟩:=hol h13 p0
  have hcnt:=cnt_lt_co hg hpre.1 hpre.2.1 k2 hk2 hc hcl
  have q7:hcell h13 b7 c=some (.int .i64 ((cntW g ((natsOf l).take i) (c:Int):Nat):Int)):=by rw [r7.cell];unfold irow;rw [List.getElem?_map,List.getElem?_range hcK];rfl
  have hcn:cntW g ((natsOf l).take i) (c:Int)≤300:=by
   unfold cntW
   have:=List.length_filter_le (wrB g (c:Int)) ((natsOf l).take i)
   simp only [List.length_take,natsOf,List.length_map] at this ⊢
   omega
  have e4:(((cntW g ((natsOf l).take i) (c:Int):Nat):Int)<((g.co.getD c []).length:Int)):=by omega
  have hzq:(g.co.getD c [])[cntW g ((natsOf l).take i) (c:Int)]?=some (g.co.getD c [])[cntW g ((natsOf l).take i) (c:Int)]:=List.getElem?_eq_getElem hcnt
  generalize (g.co.getD c [])[cntW g ((natsOf l).take i) (c:Int)]=z at hzq
  obtain ⟨hl1,oa',oc',hl2,hl3⟩:=ho2
  cases hl2
  rcases hl3 with hl3 | ⟨zb,zo,rfl,hzc⟩
  ·omega
  have k5:=hzc _ _ (intsV_get hzq)
  by_cases hzx:z=(x:Int)
  rotate_left
  ·have e:rightR g l=false:=rightR_bad hg k2 (okR_co (by unfold coR;rw [hc,Int.toNat_natCast,hzq];simp [hk2,hzx]))
   rw [e]
   simp -dsimp only [go_sem,beq_t hk2,hc,hoe,e3,e3',ho1,q7,e4,k5,k3,e1,bne_f hzx,r2.cell,r6.cell,r7.cell,r10.cell]
   exact p0
  have hq1:coR g (natsOf l) i x=true:=by unfold coR;rw [hc,Int.toNat_natCast,hzq];simp [hzx]
  simp -dsimp only [go_sem,beq_t hk2,hc,hoe,e3,e3',ho1,q7,e4,k5,k3,e1,bne_t hzx,r2.cell,r6.cell,r7.cell,r10.cell]
  have hw:IntKind.i64.wrap (((cntW g ((natsOf l).take i) (c:Int):Nat):Int)+1)=((cntW g ((natsOf l).take i) (c:Int)+1:Nat):Int):=by rw [wrap64 (by omega) (by omega)];omega
  try simp -dsimp only [go_sem,hw,r2.cell,r6.cell,r7.cell,r10.cell]
  refine Chk_intro (r7.wr (by simp;omega)) fun h14 s14=>?_
  have r14:=s14.row r7
  rw [cl_int,putAt_one] at r14
  try rw [hw] at r14
  rw [irow_set] at r14
  have ee:(irow K fun k=>if k=c then ((cntW g ((natsOf l).take i) (c:Int)+1:Nat):Int) else plcTo g (natsOf l) i k)=irow K (plcTo g (natsOf l) (i+1)):=by
   unfold irow;exact List.map_congr_left fun k _=>by dsimp only;rw [plcTo_step k2 hk2 hc]
  rw [ee] at r14
  clear r7
  have f14:=s14.fr
  have f14_z:=f14.size
  replace p0:=p0.F f14
  replace r2:=r2.F f14
  replace r6:=r6.F f14
  replace r10:=r10.F f14
  have k3:=p0.keep (hlc i _ (intsV_get k1)) (by omega)
  simp -dsimp only [go_sem,hc,e3,k3,e1,r2.cell,r6.cell,r10.cell,r14.cell]
  refine Chk_intro (r6.wr (by simp;omega)) fun h15 s15=>?_
  have r15:=s15.row r6
  rw [cl_int,putAt_one,irow_set] at r15
  have ee:(irow K fun k=>if k=c then (x:Int) else lasTo g (natsOf l) i k)=irow K (lasTo g (natsOf l) (i+1)):=by
   unfold irow;exact List.map_congr_left fun k _=>by dsimp only;rw [lasTo_step k2 hk2 hc]
  rw [ee] at r15
  clear r6
  have f15:=s15.fr
  have f15_z:=f15.size
  replace p0:=p0.F f15
  replace r2:=r2.F f15
  replace r10:=r10.F f15
  replace r14:=r14.F f15
  have r6:=r15
  have r7:=r14
  clear r14 r15
  have k3:=p0.keep (hlc i _ (intsV_get k1)) (by omega)
  clear hc hcK e3 e3' hcl hoe hol ho1 hcnt q7 hcn e4 hzq k5 hw w1 w2
  simp -dsimp only [go_sem,r2.cell,r10.cell,r6.cell,r7.cell]
  refine loop_intro (fun k:Nat=>[(1,.slice (some ⟨lb,lo,none⟩) l.length lc),(2,.pointer (some ⟨b2,0,none⟩)),(6,.slice (some ⟨b6,0,none⟩) K K),(7,.slice (some ⟨b7,0,none⟩) K K),(9,.int .i64 i),(10,.pointer (some ⟨b10,0,none⟩)),(11,.int .i64 k)])
   (fun k h'=>k≤g.rf.length∧h'=h15∧((g.ev x).kind=1→(g.rf.take k).all (rfR g (natsOf l) i x)=true)) (fun k=>g.rf.length - k) 0 ?_ ?_ ?_
  ·simp [Le,find]
  ·exact ⟨by omega,rfl,fun _=>by simp⟩
  rintro k h' ⟨hk,hh,hall⟩
  obtain rfl:h15=h':=hh.symm
  by_cases hkl:k<g.rf.length
  ·have e5:((k:Int)<(g.rf.length:Int)):=by omega
   by_cases hk1:(g.ev x).kind=1
   ·have hq:g.rf[k]?=some g.rf[k]:=List.getElem?_eq_getElem hkl
    generalize g.rf[k]=pr at hq
    obtain ⟨rb,ro,hre,hrc⟩:=t.f.pairsAt (by omega)
    obtain ⟨j1,j2⟩:=hrc h15 p0 k _ hq
    obtain ⟨w1,w2⟩:=wr_loc hg hx (by omega)
    obtain ⟨c,hc⟩:=Int.eq_ofNat_of_zero_le w1
    have hcK:c<K:=by omega
    have e6:((c:Int)<(K:Int)):=by omega
    have q6:hcell h15 b6 c=some (.int .i64 (lastI g (natsOf l) i (c:Int))):=by
     rw [r6.cell];unfold irow;rw [List.getElem?_map,List.getElem?_range hcK]
     show some (Value.int .i64 (lasTo g (natsOf l) (i+1) c))=_
     rw [← lasTo_same k2 (by omega) c];rfl
    by_cases hB:pr.2=(x:Int)
    ·by_cases hA:pr.1=lastI g (natsOf l) i (c:Int)
     ·simp -dsimp only [go_sem,e5,beq_t hk1,hre,j1,j2,k3,e1,beq_t hB,hc,e6,q6,bne_t hA,r2.cell,r10.cell,r6.cell,r7.cell]
      simp -dsimp (disch:=omega) only [wrap64]
      exact ⟨k+1,by omega,by simp [Le,find],by omega,fun h1=>by rw [List.take_add_one,hq,Option.toList_some,List.all_append,hall h1];simp [rfR,hA,hc]⟩
     ·have e:rightR g l=false:=rightR_bad hg k2 (okR_rf hk1 (List.mem_of_getElem? hq) (by unfold rfR;simp [hB,hc,hA]))
      rw [e]
      simp -dsimp only [go_sem,e5,beq_t hk1,hre,j1,j2,k3,e1,beq_t hB,hc,e6,q6,bne_f hA,r2.cell,r10.cell,r6.cell,r7.cell]
      exact p0
    ·simp -dsimp only [go_sem,e5,beq_t hk1,hre,j1,j2,k3,e1,beq_f hB,r2.cell,r10.cell,r6.cell,r7.cell]
     simp -dsimp (disch:=omega) only [wrap64]
     exact ⟨k+1,by omega,by simp [Le,find],by omega,fun h1=>by rw [List.take_add_one,hq,Option.toList_some,List.all_append,hall h1];simp [rfR,hB]⟩
   ·have hall2:(g.ev x).kind=1→g.rf.all (rfR g (natsOf l) i x)=true:=fun h=>absurd h hk1
    clear hall
    simp -dsimp only [go_sem,e5,beq_f hk1,r2.cell,r10.cell,r6.cell,r7.cell]
    refine loop_intro (fun k:Nat=>[(1,.slice (some ⟨lb,lo,none⟩) l.length lc),(2,.pointer (some ⟨b2,0,none⟩)),(6,.slice (some ⟨b6,0,none⟩) K K),(7,.slice (some ⟨b7,0,none⟩) K K),(9,.int .i64 i),(12,.int .i64 k)])
     (fun k h'=>k≤g.rmw.length∧h'=h15∧(g.rmw.take k).all (rmR (natsOf l) i x)=true) (fun k=>g.rmw.length - k) 0 ?_ ?_ ?_
    ·simp [Le,find]
    ·exact ⟨by omega,rfl,by simp⟩
    rintro k' h'' ⟨hk',hh,hal3⟩
    obtain rfl:h15=h'':=hh.symm
    by_cases hkl':k' < g.rmw.length
    ·have e7:((k':Int)<(g.rmw.length:Int)):=by omega
     have hq:g.rmw[k']?=some g.rmw[k']:=List.getElem?_eq_getElem hkl'
     generalize g.rmw[k']=pr at hq
     obtain ⟨rb,ro,hre,hrc⟩:=t.r.pairsAt (by omega)
     obtain ⟨j1,j2⟩:=hrc h15 p0 k' _ hq
     by_cases hB:pr.1=(x:Int)
     ·have hw:IntKind.i64.wrap ((i:Int)+1)=((i+1:Nat):Int):=by rw [wrap64 (by omega) (by omega)];omega
      by_cases hend:i+1=l.length
      ·have e:rightR g l=false:=rightR_bad hg k2 (okR_rm (List.mem_of_getElem? hq) (by
        have:(natsOf l)[i+1]?=none:=List.getElem?_eq_none (by simp [natsOf];omega)
        unfold rmR;rw [this];simp [hB,natO]))
       have e8:(((i+1:Nat):Int)≥((l.length:Nat):Int)):=by omega
       rw [e]
       simp -dsimp only [go_sem,e7,hre,j1,j2,k3,e1,beq_t hB,hw,e8,r2.cell,r10.cell,r6.cell,r7.cell]
       exact p0
      ·obtain ⟨x',n1',n2',hx'⟩:=L.at_ (i+1) (by omega)
       have k4:=p0.keep (hlc (i+1) _ (intsV_get n1')) (by omega)
       have e8:¬ (((i+1:Nat):Int)≥((l.length:Nat):Int)):=by omega
       have e9:(((i+1:Nat):Int)<((l.length:Nat):Int)):=by omega
       by_cases hA:(x':Int)=pr.2
       ·simp -dsimp only [go_sem,e7,hre,j1,j2,k3,e1,beq_t hB,hw,e8,e9,k4,bne_t hA,r2.cell,r10.cell,r6.cell,r7.cell]
        simp -dsimp (disch:=omega) only [wrap64]
        exact ⟨k' + 1,by omega,by simp [Le,find],by omega,by rw [List.take_add_one,hq,Option.toList_some,List.all_append,hal3];simp [rmR,n2',natO,hA]⟩
       ·have e:rightR g l=false:=rightR_bad hg k2 (okR_rm (List.mem_of_getElem? hq) (by unfold rmR;rw [n2'];simp [hB,natO,hA]))
        rw [e]
        simp -dsimp only [go_sem,e7,hre,j1,j2,k3,e1,beq_t hB,hw,e8,e9,k4,bne_f hA,r2.cell,r10.cell,r6.cell,r7.cell]
        exact p0
     ·simp -dsimp only [go_sem,e7,hre,j1,j2,k3,e1,beq_f hB,r2.cell,r10.cell,r6.cell,r7.cell]
      simp -dsimp (disch:=omega) only [wrap64]
      exact ⟨k' + 1,by omega,by simp [Le,find],by omega,by rw [List.take_add_one,hq,Option.toList_some,List.all_append,hal3];simp [rmR,hB]⟩
    ·rw [List.take_of_length_le (by omega)] at hal3
     have e7:¬ ((k':Int)<(g.rmw.length:Int)):=by omega
     have hok:okR g (natsOf l) i x=true:=okR_of hq1 hall2 hal3
     simp -dsimp only [go_sem,e7,r2.cell,r10.cell,r6.cell,r7.cell]
     simp -dsimp (disch:=omega) only [wrap64]
     exact ⟨i+1,by omega,by simp [Le,find],by omega,p0,by omega,r2,r6,r7,okS_succ k2 hU hok⟩
  ·have hall2:(g.ev x).kind=1→g.rf.all (rfR g (natsOf l) i x)=true:=fun h=>by have:=hall h;rwa [List.take_of_length_le (by omega)] at this
   have e5:¬ ((k:Int)<(g.rf.length:Int)):=by omega
   clear hall
   simp -dsimp only [go_sem,e5,r2.cell,r10.cell,r6.cell,r7.cell]
   refine loop_intro (fun k:Nat=>[(1,.slice (some ⟨lb,lo,none⟩) l.length lc),(2,.pointer (some ⟨b2,0,none⟩)),(6,.slice (some ⟨b6,0,none⟩) K K),(7,.slice (some ⟨b7,0,none⟩) K K),(9,.int .i64 i),(12,.int .i64 k)])
    (fun k h'=>k≤g.rmw.length∧h'=h15∧(g.rmw.take k).all (rmR (natsOf l) i x)=true) (fun k=>g.rmw.length - k) 0 ?_ ?_ ?_
   ·simp [Le,find]
   ·exact ⟨by omega,rfl,by simp⟩
   rintro k' h'' ⟨hk',hh,hal3⟩
   obtain rfl:h15=h'':=hh.symm
   by_cases hkl':k' < g.rmw.length
   ·have e7:((k':Int)<(g.rmw.length:Int)):=by omega
    have hq:g.rmw[k']?=some g.rmw[k']:=List.getElem?_eq_getElem hkl'
    generalize g.rmw[k']=pr at hq
    obtain ⟨rb,ro,hre,hrc⟩:=t.r.pairsAt (by omega)
    obtain ⟨j1,j2⟩:=hrc h15 p0 k' _ hq
    by_cases hB:pr.1=(x:Int)
    ·have hw:IntKind.i64.wrap ((i:Int)+1)=((i+1:Nat):Int):=by rw [wrap64 (by omega) (by omega)];omega
     by_cases hend:i+1=l.length
     ·have e:rightR g l=false:=rightR_bad hg k2 (okR_rm (List.mem_of_getElem? hq) (by
       have:(natsOf l)[i+1]?=none:=List.getElem?_eq_none (by simp [natsOf];omega)
       unfold rmR;rw [this];simp [hB,natO]))
      have e8:(((i+1:Nat):Int)≥((l.length:Nat):Int)):=by omega
      rw [e]
      simp -dsimp only [go_sem,e7,hre,j1,j2,k3,e1,beq_t hB,hw,e8,r2.cell,r10.cell,r6.cell,r7.cell]
      exact p0
     ·obtain ⟨x',n1',n2',hx'⟩:=L.at_ (i+1) (by omega)
      have k4:=p0.keep (hlc (i+1) _ (intsV_get n1')) (by omega)
      have e8:¬ (((i+1:Nat):Int)≥((l.length:Nat):Int)):=by omega
      have e9:(((i+1:Nat):Int)<((l.length:Nat):Int)):=by omega
      by_cases hA:(x':Int)=pr.2
      ·simp -dsimp only [go_sem,e7,hre,j1,j2,k3,e1,beq_t hB,hw,e8,e9,k4,bne_t hA,r2.cell,r10.cell,r6.cell,r7.cell]
       simp -dsimp (disch:=omega) only [wrap64]
       exact ⟨k' + 1,by omega,by simp [Le,find],by omega,by rw [List.take_add_one,hq,Option.toList_some,List.all_append,hal3];simp [rmR,n2',natO,hA]⟩
      ·have e:rightR g l=false:=rightR_bad hg k2 (okR_rm (List.mem_of_getElem? hq) (by unfold rmR;rw [n2'];simp [hB,natO,hA]))
       rw [e]
       simp -dsimp only [go_sem,e7,hre,j1,j2,k3,e1,beq_t hB,hw,e8,e9,k4,bne_f hA,r2.cell,r10.cell,r6.cell,r7.cell]
       exact p0
    ·simp -dsimp only [go_sem,e7,hre,j1,j2,k3,e1,beq_f hB,r2.cell,r10.cell,r6.cell,r7.cell]
     simp -dsimp (disch:=omega) only [wrap64]
     exact ⟨k' + 1,by omega,by simp [Le,find],by omega,by rw [List.take_add_one,hq,Option.toList_some,List.all_append,hal3];simp [rmR,hB]⟩
   ·rw [List.take_of_length_le (by omega)] at hal3
    have e7:¬ ((k':Int)<(g.rmw.length:Int)):=by omega
    have hok:okR g (natsOf l) i x=true:=okR_of hq1 hall2 hal3
    simp -dsimp only [go_sem,e7,r2.cell,r10.cell,r6.cell,r7.cell]
    simp -dsimp (disch:=omega) only [wrap64]
    exact ⟨i+1,by omega,by simp [Le,find],by omega,p0,by omega,r2,r6,r7,okS_succ k2 hU hok⟩
 ·have hq1:coR g (natsOf l) i x=true:=by unfold coR;simp [hk2]
  have ee6:irow K (lasTo g (natsOf l) i)=irow K (lasTo g (natsOf l) (i+1)):=by unfold irow;exact List.map_congr_left fun k _=>by rw [lasTo_same k2 hk2]
  have ee7:irow K (plcTo g (natsOf l) i)=irow K (plcTo g (natsOf l) (i+1)):=by unfold irow;exact List.map_congr_left fun k _=>by rw [plcTo_same k2 hk2]
  rw [ee6] at r6
  rw [ee7] at r7
  simp -dsimp only [go_sem,beq_f hk2,r2.cell,r6.cell,r7.cell,r10.cell]
  refine loop_intro (fun k:Nat=>[(1,.slice (some ⟨lb,lo,none⟩) l.length lc),(2,.pointer (some ⟨b2,0,none⟩)),(6,.slice (some ⟨b6,0,none⟩) K K),(7,.slice (some ⟨b7,0,none⟩) K K),(9,.int .i64 i),(10,.pointer (some ⟨b10,0,none⟩)),(11,.int .i64 k)])
   (fun k h'=>k≤g.rf.length∧h'=h13∧((g.ev x).kind=1→(g.rf.take k).all (rfR g (natsOf l) i x)=true)) (fun k=>g.rf.length - k) 0 ?_ ?_ ?_
  ·simp [Le,find]
  ·exact ⟨by omega,rfl,fun _=>by simp⟩
  rintro k h' ⟨hk,hh,hall⟩
  obtain rfl:h13=h':=hh.symm
  by_cases hkl:k<g.rf.length
  ·have e5:((k:Int)<(g.rf.length:Int)):=by omega
   by_cases hk1:(g.ev x).kind=1
   ·have hq:g.rf[k]?=some g.rf[k]:=List.getElem?_eq_getElem hkl
    generalize g.rf[k]=pr at hq
    obtain ⟨rb,ro,hre,hrc⟩:=t.f.pairsAt (by omega)
    obtain ⟨j1,j2⟩:=hrc h13 p0 k _ hq
    obtain ⟨w1,w2⟩:=wr_loc hg hx (by omega)
    obtain ⟨c,hc⟩:=Int.eq_ofNat_of_zero_le w1
    have hcK:c<K:=by omega
    have e6:((c:Int)<(K:Int)):=by omega
    have q6:hcell h13 b6 c=some (.int .i64 (lastI g (natsOf l) i (c:Int))):=by
     rw [r6.cell];unfold irow;rw [List.getElem?_map,List.getElem?_range hcK]
     show some (Value.int .i64 (lasTo g (natsOf l) (i+1) c))=_
     rw [← lasTo_same k2 (by omega) c];rfl
    by_cases hB:pr.2=(x:Int)
    ·by_cases hA:pr.1=lastI g (natsOf l) i (c:Int)
     ·simp -dsimp only [go_sem,e5,beq_t hk1,hre,j1,j2,k3,e1,beq_t hB,hc,e6,q6,bne_t hA,r2.cell,r6.cell,r7.cell,r10.cell]
      simp -dsimp (disch:=omega) only [wrap64]
      exact ⟨k+1,by omega,by simp [Le,find],by omega,fun h1=>by rw [List.take_add_one,hq,Option.toList_some,List.all_append,hall h1];simp [rfR,hA,hc]⟩
     ·have e:rightR g l=false:=rightR_bad hg k2 (okR_rf hk1 (List.mem_of_getElem? hq) (by unfold rfR;simp [hB,hc,hA]))
      rw [e]
      simp -dsimp only [go_sem,e5,beq_t hk1,hre,j1,j2,k3,e1,beq_t hB,hc,e6,q6,bne_f hA,r2.cell,r6.cell,r7.cell,r10.cell]
      exact p0
    ·simp -dsimp only [go_sem,e5,beq_t hk1,hre,j1,j2,k3,e1,beq_f hB,r2.cell,r6.cell,r7.cell,r10.cell]
     simp -dsimp (disch:=omega) only [wrap64]
     exact ⟨k+1,by omega,by simp [Le,find],by omega,fun h1=>by rw [List.take_add_one,hq,Option.toList_some,List.all_append,hall h1];simp [rfR,hB]⟩
   ·have hall2:(g.ev x).kind=1→g.rf.all (rfR g (natsOf l) i x)=true:=fun h=>absurd h hk1
    clear hall
    simp -dsimp only [go_sem,e5,beq_f hk1,r2.cell,r6.cell,r7.cell,r10.cell]
    refine loop_intro (fun k:Nat=>[(1,.slice (some ⟨lb,lo,none⟩) l.length lc),(2,.pointer (some ⟨b2,0,none⟩)),(6,.slice (some ⟨b6,0,none⟩) K K),(7,.slice (some ⟨b7,0,none⟩) K K),(9,.int .i64 i),(12,.int .i64 k)])
     (fun k h'=>k≤g.rmw.length∧h'=h13∧(g.rmw.take k).all (rmR (natsOf l) i x)=true) (fun k=>g.rmw.length - k) 0 ?_ ?_ ?_
    ·simp [Le,find]
    ·exact ⟨by omega,rfl,by simp⟩
    rintro k' h'' ⟨hk',hh,hal3⟩
    obtain rfl:h13=h'':=hh.symm
    by_cases hkl':k' < g.rmw.length
    ·have e7:((k':Int)<(g.rmw.length:Int)):=by omega
     have hq:g.rmw[k']?=some g.rmw[k']:=List.getElem?_eq_getElem hkl'
     generalize g.rmw[k']=pr at hq
     obtain ⟨rb,ro,hre,hrc⟩:=t.r.pairsAt (by omega)
     obtain ⟨j1,j2⟩:=hrc h13 p0 k' _ hq
     by_cases hB:pr.1=(x:Int)
     ·have hw:IntKind.i64.wrap ((i:Int)+1)=((i+1:Nat):Int):=by rw [wrap64 (by omega) (by omega)];omega
      by_cases hend:i+1=l.length
      ·have e:rightR g l=false:=rightR_bad hg k2 (okR_rm (List.mem_of_getElem? hq) (by
        have:(natsOf l)[i+1]?=none:=List.getElem?_eq_none (by simp [natsOf];omega)
        unfold rmR;rw [this];simp [hB,natO]))
       have e8:(((i+1:Nat):Int)≥((l.length:Nat):Int)):=by omega
       rw [e]
       simp -dsimp only [go_sem,e7,hre,j1,j2,k3,e1,beq_t hB,hw,e8,r2.cell,r6.cell,r7.cell,r10.cell]
       exact p0
      ·obtain ⟨x',n1',n2',hx'⟩:=L.at_ (i+1) (by omega)
       have k4:=p0.keep (hlc (i+1) _ (intsV_get n1')) (by omega)
       have e8:¬ (((i+1:Nat):Int)≥((l.length:Nat):Int)):=by omega
       have e9:(((i+1:Nat):Int)<((l.length:Nat):Int)):=by omega
       by_cases hA:(x':Int)=pr.2
       ·simp -dsimp only [go_sem,e7,hre,j1,j2,k3,e1,beq_t hB,hw,e8,e9,k4,bne_t hA,r2.cell,r6.cell,r7.cell,r10.cell]
        simp -dsimp (disch:=omega) only [wrap64]
        exact ⟨k' + 1,by omega,by simp [Le,find],by omega,by rw [List.take_add_one,hq,Option.toList_some,List.all_append,hal3];simp [rmR,n2',natO,hA]⟩
       ·have e:rightR g l=false:=rightR_bad hg k2 (okR_rm (List.mem_of_getElem? hq) (by unfold rmR;rw [n2'];simp [hB,natO,hA]))
        rw [e]
        simp -dsimp only [go_sem,e7,hre,j1,j2,k3,e1,beq_t hB,hw,e8,e9,k4,bne_f hA,r2.cell,r6.cell,r7.cell,r10.cell]
        exact p0
     ·simp -dsimp only [go_sem,e7,hre,j1,j2,k3,e1,beq_f hB,r2.cell,r6.cell,r7.cell,r10.cell]
      simp -dsimp (disch:=omega) only [wrap64]
      exact ⟨k' + 1,by omega,by simp [Le,find],by omega,by rw [List.take_add_one,hq,Option.toList_some,List.all_append,hal3];simp [rmR,hB]⟩
    ·rw [List.take_of_length_le (by omega)] at hal3
     have e7:¬ ((k':Int)<(g.rmw.length:Int)):=by omega
     have hok:okR g (natsOf l) i x=true:=okR_of hq1 hall2 hal3
     simp -dsimp only [go_sem,e7,r2.cell,r6.cell,r7.cell,r10.cell]
     simp -dsimp (disch:=omega) only [wrap64]
     exact ⟨i+1,by omega,by simp [Le,find],by omega,p0,by omega,r2,r6,r7,okS_succ k2 hU hok⟩
  ·have hall2:(g.ev x).kind=1→g.rf.all (rfR g (natsOf l) i x)=true:=fun h=>by have:=hall h;rwa [List.take_of_length_le (by omega)] at this
   have e5:¬ ((k:Int)<(g.rf.length:Int)):=by omega
   clear hall
   simp -dsimp only [go_sem,e5,r2.cell,r6.cell,r7.cell,r10.cell]
   refine loop_intro (fun k:Nat=>[(1,.slice (some ⟨lb,lo,none⟩) l.length lc),(2,.pointer (some ⟨b2,0,none⟩)),(6,.slice (some ⟨b6,0,none⟩) K K),(7,.slice (some ⟨b7,0,none⟩) K K),(9,.int .i64 i),(12,.int .i64 k)])
    (fun k h'=>k≤g.rmw.length∧h'=h13∧(g.rmw.take k).all (rmR (natsOf l) i x)=true) (fun k=>g.rmw.length - k) 0 ?_ ?_ ?_
   ·simp [Le,find]
   ·exact ⟨by omega,rfl,by simp⟩
   rintro k' h'' ⟨hk',hh,hal3⟩
   obtain rfl:h13=h'':=hh.symm
   by_cases hkl':k' < g.rmw.length
   ·have e7:((k':Int)<(g.rmw.length:Int)):=by omega
    have hq:g.rmw[k']?=some g.rmw[k']:=List.getElem?_eq_getElem hkl'
    generalize g.rmw[k']=pr at hq
    obtain ⟨rb,ro,hre,hrc⟩:=t.r.pairsAt (by omega)
    obtain ⟨j1,j2⟩:=hrc h13 p0 k' _ hq
    by_cases hB:pr.1=(x:Int)
    ·have hw:IntKind.i64.wrap ((i:Int)+1)=((i+1:Nat):Int):=by rw [wrap64 (by omega) (by omega)];omega
     by_cases hend:i+1=l.length
     ·have e:rightR g l=false:=rightR_bad hg k2 (okR_rm (List.mem_of_getElem? hq) (by
       have:(natsOf l)[i+1]?=none:=List.getElem?_eq_none (by simp [natsOf];omega)
       unfold rmR;rw [this];simp [hB,natO]))
      have e8:(((i+1:Nat):Int)≥((l.length:Nat):Int)):=by omega
      rw [e]
      simp -dsimp only [go_sem,e7,hre,j1,j2,k3,e1,beq_t hB,hw,e8,r2.cell,r6.cell,r7.cell,r10.cell]
      exact p0
     ·obtain ⟨x',n1',n2',hx'⟩:=L.at_ (i+1) (by omega)
      have k4:=p0.keep (hlc (i+1) _ (intsV_get n1')) (by omega)
      have e8:¬ (((i+1:Nat):Int)≥((l.length:Nat):Int)):=by omega
      have e9:(((i+1:Nat):Int)<((l.length:Nat):Int)):=by omega
      by_cases hA:(x':Int)=pr.2
      ·simp -dsimp only [go_sem,e7,hre,j1,j2,k3,e1,beq_t hB,hw,e8,e9,k4,bne_t hA,r2.cell,r6.cell,r7.cell,r10.cell]
       simp -dsimp (disch:=omega) only [wrap64]
       exact ⟨k' + 1,by omega,by simp [Le,find],by omega,by rw [List.take_add_one,hq,Option.toList_some,List.all_append,hal3];simp [rmR,n2',natO,hA]⟩
      ·have e:rightR g l=false:=rightR_bad hg k2 (okR_rm (List.mem_of_getElem? hq) (by unfold rmR;rw [n2'];simp [hB,natO,hA]))
       rw [e]
       simp -dsimp only [go_sem,e7,hre,j1,j2,k3,e1,beq_t hB,hw,e8,e9,k4,bne_f hA,r2.cell,r6.cell,r7.cell,r10.cell]
       exact p0
    ·simp -dsimp only [go_sem,e7,hre,j1,j2,k3,e1,beq_f hB,r2.cell,r6.cell,r7.cell,r10.cell]
     simp -dsimp (disch:=omega) only [wrap64]
     exact ⟨k' + 1,by omega,by simp [Le,find],by omega,by rw [List.take_add_one,hq,Option.toList_some,List.all_append,hal3];simp [rmR,hB]⟩
   ·rw [List.take_of_length_le (by omega)] at hal3
    have e7:¬ ((k':Int)<(g.rmw.length:Int)):=by omega
    have hok:okR g (natsOf l) i x=true:=okR_of hq1 hall2 hal3
    simp -dsimp only [go_sem,e7,r2.cell,r6.cell,r7.cell,r10.cell]
    simp -dsimp (disch:=omega) only [wrap64]
    exact ⟨i+1,by omega,by simp [Le,find],by omega,p0,by omega,r2,r6,r7,okS_succ k2 hU hok⟩
end
end Go.Proofs.Tst
/-
  TotalReplays.
-/
namespace Go.Proofs.Tst
open Go Go.Vc
def repV (g:Gr) (l:List Int):List Int:=if eachB g l=true then repFin g (natsOf l) else []
def repB (g:Gr) (l:List Int):Bool:=eachB g l&&repOk g (natsOf l)
def pickV (g:Gr) (l:List Int):List Int:=match pickA g l with | .ok m=>m | .error _=>[]
def pickE (g:Gr) (l:List Int):Int:=match pickA g l with | .ok _=>0 | .error e=>e
theorem res_rep {g:Gr} {l:List Int} {h':Heap} {lo:Nat} {v:Value} (w:if eachB g l=true then ∃ w,v=.tuple #[w,.bool (repOk g (natsOf l))]∧Holder 1 h' w (repFin g (natsOf l)).length (wordsV (repFin g (natsOf l))) lo else v=.tuple #[.slice none 0 0,.bool false]) :
  ∃ w,v=.tuple #[w,.bool (repB g l)]∧Holder 1 h' w (repV g l).length (wordsV (repV g l)) lo:=by
 unfold repV repB
 by_cases he:eachB g l=true
 ·simp only [if_pos he] at w ⊢
  rw [he,Bool.true_and];exact w
 ·simp only [if_neg he] at w ⊢
  rw [Bool.not_eq_true] at he
  rw [he,Bool.false_and];exact ⟨_,w,.none _ _ _⟩
theorem res_pick {g:Gr} {l:List Int} {h:Heap} {lo:Nat} {v:Value} (w:ResI h lo v (pickA g l)):∃ s,v=.tuple #[s,.int .i64 (pickE g l)]∧Holder 1 h s (pickV g l).length (intsV (pickV g l)) lo:=by
 unfold pickV pickE
 generalize pickA g l=o at w ⊢
 cases o with
 | ok m=>obtain ⟨s,rfl,o⟩:=w;exact ⟨s,rfl,o⟩
 | error e=>exact ⟨_,w,.none _ _ _⟩
theorem repV_len {g:Gr} {l:List Int}:(repV g l).length≤4096:=by
 unfold repV
 by_cases he:eachB g l=true
 ·rw [if_pos he]
  have hg:g.good=true:=by unfold eachB at he;simp only [Bool.and_eq_true] at he;exact he.1
  obtain ⟨h1,h2,-⟩:=good_cells hg
  unfold repFin;simp;omega
 ·rw [if_neg he];simp
theorem pickV_len {g:Gr} {l:List Int}:(pickV g l).length≤256:=by
 unfold pickV pickA
 by_cases hg:g.good=true
 rotate_left
 ·rw [if_neg hg];simp
 rw [if_pos hg]
 by_cases hl:LinP g.n (relM g 0) l
 rotate_left
 ·rw [if_neg hl];simp
 rw [if_pos hl]
 dsimp only
 have h1:=picks_len (g:=g) (m:=natsOf l)
 have h2:=(lin_pre.1 hl).2.2
 have:=(good_n hg).1
 omega
set_option maxHeartbeats 8000000 in
theorem c_law21_TotalReplays {h:Heap} {q:GV} {g:Gr} (t:GrAt h q g) (ht:TabAt h) {lv:Value} {l:List Int} (hl:Rd 1 h lv l.length (intsV l)) (hb:l.length≤17592186044416) :
  Con Tryd.prog 6 #[.agg (gcells q g).toArray,lv] h fun v h'=>Fr 0 0 h h'∧v=.bool true:=by
 obtain ⟨la,lc,rfl⟩:=hl.is
 refine con_q42 ?_
 have hz:0<h.size:=hcell_lt (ht 0 0 rfl)
 have p0:Fr 0 0 h h:=.refl _ _ _
 have hlv:=repV_len (g:=g) (l:=l)
 have hlp:=pickV_len (g:=g) (l:=l)
 unfold gcells
 simp -dsimp only [go_sem]
 intro b2 h1 n1
 have n1_z:=n1.az
 replace p0:=p0.F n1.f0
 have r2:=n1.row
 simp -dsimp only [go_sem,r2.cell]
 refine call_of (ref8_Copied (t.fr p0) (by omega)) ?_
 rintro v2 h2 ⟨f2,q',rfl,w⟩
 have f2_z:=f2.size
 replace p0:=p0.F f2
 replace r2:=r2.F f2
 have t':=w.at_
 clear w
 have p2:Fr 0 0 h2 h2:=.refl _ _ _
 unfold gcells
 simp -dsimp only [go_sem,r2.cell]
 intro b5 h3 n3
 have n3_z:=n3.az
 replace p0:=p0.F n3.f0
 replace r2:=r2.F n3.f0
 replace p2:=p2.F n3.f0
 have r5:=n3.row
 simp -dsimp only [go_sem,r2.cell,r5.cell]
 refine Chk_intro (r5.W) fun h4 s4=>?_
 have s4_z:=s4.size
 replace p0:=p0.F s4.fr
 replace r2:=r2.F s4.fr
 replace p2:=p2.F s4.fr
 replace r5:=s4.row r5
 try simp only [cl_int,cl_bool,cl_slice,cl_ptr,putAt_one,zs0,zs1,ivec_set,brow_upd] at r5
 simp -dsimp only [go_sem] at r5
 have g4:h.size≤h2.size∧h2.size≤h4.size∧b2<h4.size∧b5<h4.size∧h.size≤b2∧h2.size≤b5:=by omega
 simp -dsimp only [go_sem,r2.cell,r5.cell]
 refine (Holder.none 1 h4 h4.size).appendRd (hl.fr p0) (by omega) rfl (by omega) (oc_ints _) (by omega) fun v6 h6 o6 f6 e6=>?_
 rw [Nat.zero_add,List.nil_append] at o6
 have f6':Fr 0 0 h4 h6:=f6
 replace p0:=p0.trans f6'
 replace p2:=p2.trans f6'
 replace r2:=r2.fr f6' (by omega)
 replace r5:=r5.fr f6' (by omega)
 have z6:=f6'.size
 clear e6 f6 f6'
 obtain ⟨ma,mc,rfl⟩:=o6.is
 have dm:=o6.rd
 clear o6
 have p6:Fr 0 0 h6 h6:=.refl _ _ _
 simp -dsimp only [go_sem,r2.cell,r5.cell]
 refine call_of (total_Replay (t'.fr p2) (ht.fr p0 (.inr rfl)) (dm.fr p6) (by omega)) ?_
 rintro v7 h7 ⟨f7,w7⟩
 have f7_z:=f7.size
 replace p0:=p0.F f7
 replace r2:=r2.F f7
 replace p2:=p2.F f7
 replace r5:=r5.F f7
 replace p6:=p6.F f7
 obtain ⟨u7,rfl,o7⟩:=res_rep w7
 clear w7
 obtain ⟨a7,c7,rfl⟩:=o7.is
 have tp7:=o7.top
 simp -dsimp only [go_sem,r2.cell,r5.cell]
 refine call_of (ref21_Replay (t.fr p0) (hl.fr p0) (by omega)) ?_
 rintro v8 h8 ⟨f8,w8⟩
 have f8_z:=f8.size
 replace p0:=p0.F f8
 replace r2:=r2.F f8
 replace p2:=p2.F f8
 replace r5:=r5.F f8
 replace p6:=p6.F f8
 replace o7:=o7.fr f8 (by have:=o7.at_;omega)
 obtain ⟨u8,rfl,o8⟩:=res_rep w8
 clear w8
 obtain ⟨a8,c8,rfl⟩:=o8.is
 have tp8:=o8.top
 simp -dsimp only [go_sem,r2.cell,r5.cell]
 refine call_of (total_Picks (t'.fr p2) (ht.fr p0 (.inr rfl)) (dm.fr p6) (by omega)) ?_
 rintro v9 h9 ⟨f9,w9⟩
 have f9_z:=f9.size
 replace p0:=p0.F f9
 replace r2:=r2.F f9
 replace p2:=p2.F f9
 replace r5:=r5.F f9
 replace p6:=p6.F f9
 replace o7:=o7.fr f9 (by have:=o7.at_;omega)
 replace o8:=o8.fr f9 (by have:=o8.at_;omega)
 obtain ⟨u9,rfl,o9⟩:=res_pick w9
 clear w9
 obtain ⟨a9,c9,rfl⟩:=o9.is
 have tp9:=o9.top
 simp -dsimp only [go_sem,r2.cell,r5.cell]
 refine call_of (ref21_Picks (t.fr p0) (hl.fr p0) (by omega)) ?_
 rintro v10 h10 ⟨f10,w10⟩
 have f10_z:=f10.size
 replace p0:=p0.F f10
 replace r2:=r2.F f10
 replace p2:=p2.F f10
 replace r5:=r5.F f10
 replace p6:=p6.F f10
 replace o7:=o7.fr f10 (by have:=o7.at_;omega)
 replace o8:=o8.fr f10 (by have:=o8.at_;omega)
 replace o9:=o9.fr f10 (by have:=o9.at_;omega)
 obtain ⟨u10,rfl,o10⟩:=res_pick w10
 clear w10
 obtain ⟨a10,c10,rfl⟩:=o10.is
 have gz:h4.size≤h6.size∧h6.size≤h7.size∧h7.size≤h8.size∧h8.size≤h9.size∧h9.size≤h10.size:=by omega
 simp -dsimp only [go_sem,bne_self_eq_false,r2.cell,r5.cell]
 refine call_of (c_law21_words (l:=repV g l) (m:=repV g l) o7.rd o8.rd (by omega)) ?_
 rintro v11 h11 ⟨hh,rfl⟩
 obtain rfl:h10=h11:=hh.symm
 simp -dsimp only [go_sem,dec_self,r2.cell,r5.cell]
 refine call_of (total_Right (t'.fr p2) (ht.fr p0 (.inr rfl)) (dm.fr p6) (by omega)) ?_
 rintro v12 h12 ⟨f12,rfl⟩
 have f12_z:=f12.size
 replace p0:=p0.F f12
 replace r2:=r2.F f12
 replace p2:=p2.F f12
 replace r5:=r5.F f12
 replace p6:=p6.F f12
 replace o7:=o7.fr f12 (by have:=o7.at_;omega)
 replace o8:=o8.fr f12 (by have:=o8.at_;omega)
 replace o9:=o9.fr f12 (by have:=o9.at_;omega)
 replace o10:=o10.fr f12 (by have:=o10.at_;omega)
 simp -dsimp only [go_sem,r2.cell,r5.cell]
 refine call_of (ref21_Right (t.fr p0) (hl.fr p0) (by omega)) ?_
 rintro v13 h13 ⟨f13,rfl⟩
 have f13_z:=f13.size
 replace p0:=p0.F f13
 replace r2:=r2.F f13
 replace p2:=p2.F f13
 replace r5:=r5.F f13
 replace p6:=p6.F f13
 replace o7:=o7.fr f13 (by have:=o7.at_;omega)
 replace o8:=o8.fr f13 (by have:=o8.at_;omega)
 replace o9:=o9.fr f13 (by have:=o9.at_;omega)
 replace o10:=o10.fr f13 (by have:=o10.at_;omega)
 rw [right_same]
 simp -dsimp only [go_sem,bne_self_eq_false,r2.cell,r5.cell]
 refine call_of (c_law21_ints (l:=pickV g l) (m:=pickV g l) o9.rd o10.rd (by omega)) ?_
 rintro v14 h14 ⟨hh,rfl⟩
 obtain rfl:h13=h14:=hh.symm
 simp -dsimp only [go_sem,dec_self,r2.cell,r5.cell]
 have g13:h10.size≤h13.size:=by omega
 have R2:Rw h13 b2 (gcells q g):=r2
 have R5:Rw h13 b5 (gcells q' g):=r5
 generalize hnl:(repV g l).length=nl at o7
 generalize hnp:(pickV g l).length=np at o9
 refine loop_intro (fun i:Nat=>[(1,.slice la l.length lc),(2,.pointer (some ⟨b2,0,none⟩)),(5,.pointer (some ⟨b5,0,none⟩)),(6,.slice ma l.length mc),(7,.slice a7 nl c7),(9,.slice a8 (repV g l).length c8),(11,.slice a9 np c9),(13,.slice a10 (pickV g l).length c10),(15,.int .i64 i)])
  (fun i h'=>i≤nl∧Fr 0 0 h h'∧Fr 0 0 h2 h'∧Fr 0 0 h6 h'∧Rw h' b2 (gcells q g)∧Rw h' b5 (gcells q' g)∧(∃ ys,Holder 1 h' (.slice a7 nl c7) nl ys h6.size)∧Holder 1 h' (.slice a8 (repV g l).length c8) (repV g l).length (wordsV (repV g l)) h7.size∧Holder 1 h' (.slice a9 np c9) np (intsV (pickV g l)) h8.size∧Holder 1 h' (.slice a10 (pickV g l).length c10) (pickV g l).length (intsV (pickV g l)) h9.size) (fun i=>nl - i) 0 ?_ ?_ ?_
 ·simp [Le,find,hnl,hnp]
 ·exact ⟨by omega,p0,p2,p6,R2,R5,⟨_,o7⟩,o8,o9,o10⟩
 clear p0 p2 p6 r2 r5 o7 o8 o9 o10 R2 R5
 rintro i h15 ⟨hi,p0,p2,p6,r2,r5,⟨ys,osp⟩,o8,o9,o10⟩
 unfold gcells at r2 r5
 have tps:bh (.slice a7 nl c7)≤h7.size:=by rw [← hnl];exact tp7
 have p0_z:=p0.size
 have p2_z:=p2.size
 have p6_z:=p6.size
 have r2_l:=r2.lt
 have r5_l:=r5.lt
 have o8_l:=o8.top
 have o9_l:=o9.top
 have o10_l:=o10.top
 by_cases hlt:i<nl
 ·have e1:((i:Int)<(nl:Int)):=by omega
  obtain ⟨b,c,rest,he,-,-,hb⟩:=osp.blk (by omega)
  cases he
  have tps:b+1≤h7.size:=tps
  simp -dsimp only [go_sem,e1,r2.cell,r5.cell]
  refine Chk_intro (osp.wrAt hlt) fun h16 s16=>?_
  have osp':=osp.set hlt s16
  clear osp
  have f16:=s16.fr
  have f16_z:=f16.size
  replace p0:=p0.F f16
  replace p2:=p2.F f16
  replace p6:=p6.F f16
  replace r2:=r2.F f16
  replace r5:=r5.F f16
  replace o8:=o8.fr f16 (by have:=o8.at_;omega)
  replace o9:=o9.fr f16 (by have:=o9.at_;omega)
  replace o10:=o10.fr f16 (by have:=o10.at_;omega)
  simp -dsimp only [go_sem,r2.cell,r5.cell]
  simp -dsimp (disch:=omega) only [wrap64]
  exact ⟨i+1,by omega,by simp [Le,find],by omega,p0,p2,p6,r2,r5,⟨_,osp'⟩,o8,o9,o10⟩
 obtain rfl:i=nl:=by omega
 clear osp tps
 have R2:Rw h15 b2 (gcells q g):=r2
 have R5:Rw h15 b5 (gcells q' g):=r5
 simp -dsimp only [go_sem,Int.lt_irrefl,r2.cell,r5.cell]
 refine loop_intro (fun i:Nat=>[(1,.slice la l.length lc),(2,.pointer (some ⟨b2,0,none⟩)),(5,.pointer (some ⟨b5,0,none⟩)),(6,.slice ma l.length mc),(9,.slice a8 (repV g l).length c8),(11,.slice a9 np c9),(13,.slice a10 (pickV g l).length c10),(16,.int .i64 i)])
  (fun i h'=>i≤np∧Fr 0 0 h h'∧Fr 0 0 h2 h'∧Fr 0 0 h6 h'∧Rw h' b2 (gcells q g)∧Rw h' b5 (gcells q' g)∧(∃ ys,Holder 1 h' (.slice a9 np c9) np ys h8.size)∧Holder 1 h' (.slice a8 (repV g l).length c8) (repV g l).length (wordsV (repV g l)) h7.size∧Holder 1 h' (.slice a10 (pickV g l).length c10) (pickV g l).length (intsV (pickV g l)) h9.size) (fun i=>np - i) 0 ?_ ?_ ?_
 ·simp [Le,find]
 ·exact ⟨by omega,p0,p2,p6,R2,R5,⟨_,o9⟩,o8,o10⟩
 clear p0 p2 p6 r2 r5 o8 o9 o10 R2 R5
 rintro j h17 ⟨hj,p0,p2,p6,r2,r5,⟨ys,osp⟩,o8,o10⟩
 unfold gcells at r2 r5
 have tps:bh (.slice a9 np c9)≤h9.size:=by rw [← hnp];exact tp9
 have p0_z:=p0.size
 have p2_z:=p2.size
 have p6_z:=p6.size
 have r2_l:=r2.lt
 have r5_l:=r5.lt
 have o8_l:=o8.top
 have o10_l:=o10.top
 by_cases hlt:j<np
 ·have e1:((j:Int)<(np:Int)):=by omega
  obtain ⟨b,c,rest,he,-,-,hb⟩:=osp.blk (by omega)
  cases he
  have tps:b+1≤h9.size:=tps
  simp -dsimp only [go_sem,e1,r2.cell,r5.cell]
  refine Chk_intro (osp.wrAt hlt) fun h18 s18=>?_
  have osp':=osp.set hlt s18
  clear osp
  have f18:=s18.fr
  have f18_z:=f18.size
  replace p0:=p0.F f18
  replace p2:=p2.F f18
  replace p6:=p6.F f18
  replace r2:=r2.F f18
  replace r5:=r5.F f18
  replace o8:=o8.fr f18 (by have:=o8.at_;omega)
  replace o10:=o10.fr f18 (by have:=o10.at_;omega)
  simp -dsimp only [go_sem,r2.cell,r5.cell]
  simp -dsimp (disch:=omega) only [wrap64]
  exact ⟨j+1,by omega,by simp [Le,find],by omega,p0,p2,p6,r2,r5,⟨_,osp'⟩,o8,o10⟩
 obtain rfl:j=np:=by omega
 clear osp tps
 simp -dsimp only [go_sem,Int.lt_irrefl,r2.cell,r5.cell]
 refine call_of (total_Replay (t'.fr p2) (ht.fr p0 (.inr rfl)) (dm.fr p6) (by omega)) ?_
 rintro v19 h19 ⟨f19,w19⟩
 have f19_z:=f19.size
 replace p0:=p0.F f19
 replace p2:=p2.F f19
 replace p6:=p6.F f19
 replace r2:=r2.F f19
 replace r5:=r5.F f19
 replace o8:=o8.fr f19 (by have:=o8.at_;omega)
 replace o10:=o10.fr f19 (by have:=o10.at_;omega)
 obtain ⟨u19,rfl,o19⟩:=res_rep w19
 clear w19
 obtain ⟨a19,c19,rfl⟩:=o19.is
 simp -dsimp only [go_sem,r2.cell,r5.cell]
 refine call_of (total_Picks (t'.fr p2) (ht.fr p0 (.inr rfl)) (dm.fr p6) (by omega)) ?_
 rintro v20 h20 ⟨f20,w20⟩
 have f20_z:=f20.size
 replace p0:=p0.F f20
 replace p2:=p2.F f20
 replace p6:=p6.F f20
 replace r2:=r2.F f20
 replace r5:=r5.F f20
 replace o8:=o8.fr f20 (by have:=o8.at_;omega)
 replace o10:=o10.fr f20 (by have:=o10.at_;omega)
 replace o19:=o19.fr f20 (by have:=o19.at_;omega)
 obtain ⟨u20,rfl,o20⟩:=res_pick w20
 clear w20
 obtain ⟨a20,c20,rfl⟩:=o20.is
 simp -dsimp only [go_sem,r2.cell,r5.cell]
 refine call_of (c_law21_words (l:=repV g l) (m:=repV g l) o19.rd o8.rd (by omega)) ?_
 rintro v21 h21 ⟨hh,rfl⟩
 obtain rfl:h20=h21:=hh.symm
 simp -dsimp only [go_sem,dec_self,r2.cell,r5.cell]
 refine call_of (c_law21_ints (l:=pickV g l) (m:=pickV g l) o20.rd o10.rd (by omega)) ?_
 rintro v22 h22 ⟨hh,rfl⟩
 obtain rfl:h20=h22:=hh.symm
 simp -dsimp only [go_sem,dec_self,r2.cell,r5.cell]
 refine call_of (c_law21_ints (l:=l) (m:=l) (dm.fr p6) (hl.fr p0) (by omega)) ?_
 rintro v23 h23 ⟨hh,rfl⟩
 obtain rfl:h20=h23:=hh.symm
 simp -dsimp only [go_sem,dec_self,r2.cell,r5.cell]
 refine call_of (ref8_Alike (t'.fr p2) (t.fr p0)) ?_
 rintro v24 h24 ⟨f24,rfl⟩
 have f24_z:=f24.size
 replace p0:=p0.F f24
 replace p2:=p2.F f24
 replace p6:=p6.F f24
 replace r2:=r2.F f24
 replace r5:=r5.F f24
 replace o8:=o8.fr f24 (by have:=o8.at_;omega)
 replace o10:=o10.fr f24 (by have:=o10.at_;omega)
 replace o19:=o19.fr f24 (by have:=o19.at_;omega)
 replace o20:=o20.fr f24 (by have:=o20.at_;omega)
 simp -dsimp only [go_sem,r2.cell,r5.cell]
 refine call_of (law21_lives (ht.fr p0 (.inr rfl))) ?_
 rintro v25 h25 ⟨f25,rfl⟩
 have f25_z:=f25.size
 replace p0:=p0.F f25
 replace p2:=p2.F f25
 replace p6:=p6.F f25
 replace r2:=r2.F f25
 replace r5:=r5.F f25
 replace o8:=o8.fr f25 (by have:=o8.at_;omega)
 replace o10:=o10.fr f25 (by have:=o10.at_;omega)
 replace o19:=o19.fr f25 (by have:=o19.at_;omega)
 replace o20:=o20.fr f25 (by have:=o20.at_;omega)
 simp -dsimp only [go_sem,r2.cell,r5.cell]
 exact p0
end Go.Proofs.Tst
/-
  TotalReplays and its arguments.
-/
namespace Go.Proofs.Tst
end Go.Proofs.Tst
