/-
  Contracts of functions that the law reaches: what each returns and what it leaves in memory. Conditions stand in each.
-/
import Derived.Test.YtmcghihgeibgpaaDoorT7
set_option linter.all false
set_option maxRecDepth 2000
/-
  total: Replay, Right.
-/
namespace Go.Proofs.Tst
open Go Go.Vc
theorem urowX_zero (n:Nat):List.replicate n (Value.int .u64 0)=urow n fun _=>0:=by
 apply List.ext_getElem?;intro k
 by_cases hk:k<n
 ·simp [urow,hk]
 ·rw [List.getElem?_eq_none (by simp;omega),List.getElem?_eq_none (by simp [urow];omega)]
theorem urowX_congr {n:Nat} {f g:Nat→Int} (h:∀ j,j<n→f j=g j):urow n f=urow n g:=by
 unfold urow;exact List.map_congr_left fun j hj=>by rw [h j (List.mem_range.1 hj)]
section
variable {h : Heap} {q : GV} {g : Gr}
def mapW (g:Gr) (m:List Nat) (i:Nat) (c:Int):Option Value:=(lastW g (m.take i) c).map fun w=>.int .u64 (g.ev w).val
def mapL (g:Gr) (m:List Nat) (i:Nat) (c:Int):Option Value:=(lastW g (m.take i) c).map fun (w:Nat)=>.int .i64 (w:Int)
def mapQ (L:List (Int×Int)) (x:Int):Option Value:=(lkp L x).map fun v=>.int .i64 v
theorem lastW_step {m:List Nat} {i x:Nat} (hx:m[i]?=some x) (c:Int):lastW g (m.take (i+1)) c=if wrB g c x=true then some x else lastW g (m.take i) c:=by
 rw [List.take_add_one,hx];exact lastW_snoc _ _ _
theorem mapW_step {m:List Nat} {i x:Nat} (hx:m[i]?=some x) (hk:(g.ev x).kind=2) (c:Int):(if c=(g.ev x).loc then some (.int .u64 (g.ev x).val) else mapW g m i c)=mapW g m (i+1) c:=by
 unfold mapW
 rw [lastW_step hx]
 by_cases hc:c=(g.ev x).loc
 ·rw [if_pos hc,if_pos (wrB_iff.2 ⟨hk,hc.symm⟩)];rfl
 ·rw [if_neg hc,if_neg (fun h=>hc (wrB_iff.1 h).2.symm)]
theorem mapW_same {m:List Nat} {i x:Nat} (hx:m[i]?=some x) (hk:¬ (g.ev x).kind=2) (c:Int):mapW g m i c=mapW g m (i+1) c:=by
 unfold mapW
 rw [lastW_step hx,if_neg (fun h=>hk (wrB_iff.1 h).1)]
theorem mapL_step {m:List Nat} {i x:Nat} (hx:m[i]?=some x) (hk:(g.ev x).kind=2) (c:Int):(if c=(g.ev x).loc then some (.int .i64 (x:Int)) else mapL g m i c)=mapL g m (i+1) c:=by
 unfold mapL
 rw [lastW_step hx]
 by_cases hc:c=(g.ev x).loc
 ·rw [if_pos hc,if_pos (wrB_iff.2 ⟨hk,hc.symm⟩)];rfl
 ·rw [if_neg hc,if_neg (fun h=>hc (wrB_iff.1 h).2.symm)]
theorem mapL_same {m:List Nat} {i x:Nat} (hx:m[i]?=some x) (hk:¬ (g.ev x).kind=2) (c:Int):mapL g m i c=mapL g m (i+1) c:=by
 unfold mapL
 rw [lastW_step hx,if_neg (fun h=>hk (wrB_iff.1 h).1)]
def okTo (g:Gr) (m:List Nat) (i:Nat):Bool:=(List.range i).all fun j=>readOk g m j (m.getD j 0)
theorem okTo_succ {m:List Nat} {i x:Nat} (hx:m[i]?=some x):okTo g m (i+1)=(okTo g m i&&readOk g m i x):=by
 unfold okTo
 rw [List.range_succ,List.all_append]
 simp [hx]
theorem good_cells (hg:g.good=true):0≤g.cells∧g.cells≤4096∧g.cells≤(g.n:Int):=by
 have hs:=(good_n hg).2
 simp only [Gr.size,Bool.and_eq_true,decide_eq_true_eq] at hs
 exact ⟨hs.1.1.1,hs.1.1.2,hs.1.2⟩
set_option maxHeartbeats 4000000 in
theorem total_Replay (t:GrAt h q g) (ht:TabAt h) {la:Option Addr} {lc:Nat} {l:List Int} (hl:Rd 1 h (.slice la l.length lc) l.length (intsV l)) (hb:l.length≤4611686018427387904) :
  Con Tryd.prog 19 #[.agg (gcells q g).toArray,.slice la l.length lc] h fun v h'=>Fr 0 0 h h'∧if eachB g l=true then ∃ w,v=.tuple #[w,.bool (repOk g (natsOf l))]∧Holder 1 h' w (repFin g (natsOf l)).length (wordsV (repFin g (natsOf l))) h.size else v=.tuple #[.slice none 0 0,.bool false]:=by
 have p0:Fr 0 0 h h:=.refl _ _ _
 have hen:g.evs.length=g.n:=rfl
 by_cases he:eachB g l=true
 rotate_left
 ·simp only [if_neg he]
  refine con_q160 ?_
  unfold gcells
  simp -dsimp only [go_sem]
  intro b2 h1 n1
  have n1_a:=n1.at_
  have n1_z:=n1.size
  replace p0:=p0.F n1.f0
  have r2:=n1.row
  simp -dsimp only [go_sem,r2.cell]
  refine call_of (graph_Derive (t.fr p0) (ht.fr p0 (.inr rfl))) ?_
  rintro v3 h3 ⟨f3,w⟩
  have f3_z:=f3.size
  replace p0:=p0.F f3
  replace r2:=r2.F f3
  by_cases hg:g.good=true
  rotate_left
  ·rw [if_neg hg] at w
   subst w
   unfold fzero
   simp -dsimp only [go_sem,r2.cell]
   intro b4 h4 n4
   have n4_a:=n4.at_
   have n4_z:=n4.size
   replace p0:=p0.F n4.f0
   replace r2:=r2.F n4.f0
   have r4:=n4.row
   simp -dsimp only [go_sem,r2.cell,r4.cell]
   refine Chk_intro (r4.W) fun h5 s5=>?_
   have s5_z:=s5.size
   replace p0:=p0.F s5.fr
   replace r2:=r2.F s5.fr
   replace r4:=s5.row r4
   try simp only [cl_int,cl_bool,cl_slice,cl_ptr,putAt_one,zs0,zs1,ivec_set,brow_upd] at r4
   simp -dsimp only [go_sem,r2.cell,r4.cell]
   exact p0
  have hlin:¬ LinP g.n (fun _ _=>false) l:=fun hl=>he (by unfold eachB;simp [hl,hg])
  rw [if_pos hg] at w
  have hn:=(good_n hg).1
  have hcl:clampN (g.n:Int)=g.n:=by unfold clampN;omega
  obtain ⟨p,rd,wr,fe,rfl,F⟩:=w
  obtain ⟨c,ra,wa,fa,rn,wn,fn,e,m⟩:=Sm.of (t.fr p0) hg F
  clear F m
  rw [e]
  clear e
  simp -dsimp only [go_sem,r2.cell]
  intro b4 h4 n4
  have n4_a:=n4.at_
  have n4_z:=n4.size
  replace p0:=p0.F n4.f0
  replace r2:=r2.F n4.f0
  have r4:=n4.row
  simp -dsimp only [go_sem,r2.cell,r4.cell]
  refine Chk_intro (r4.W) fun h5 s5=>?_
  have s5_z:=s5.size
  replace p0:=p0.F s5.fr
  replace r2:=r2.F s5.fr
  replace r4:=s5.row r4
  try simp only [cl_int,cl_bool,cl_slice,cl_ptr,putAt_one,zs0,zs1,ivec_set,brow_upd] at r4
  simp -dsimp only [go_sem,hen,r2.cell,r4.cell]
  refine call_of (rel_New (g.n:Int) _) ?_
  rintro v6 h6 ⟨f6,t6⟩
  rw [hcl] at t6
  have f6_z:=f6.size
  replace p0:=p0.F f6
  replace r2:=r2.F f6
  replace r4:=r4.F f6
  simp -dsimp only [go_sem,r2.cell,r4.cell]
  refine call_of (order_Linear t6 (ht.fr p0 (.inr rfl)) (hl.fr p0) hb) ?_
  rintro v7 h7 ⟨f7,rfl⟩
  have f7_z:=f7.size
  replace p0:=p0.F f7
  replace r2:=r2.F f7
  replace r4:=r4.F f7
  rw [decide_eq_false hlin]
  simp -dsimp only [go_sem,r2.cell,r4.cell]
  exact p0
 simp only [if_pos he]
 have hg:g.good=true:=by unfold eachB at he;simp only [Bool.and_eq_true] at he;exact he.1
 have hlin:LinP g.n (fun _ _=>false) l:=by unfold eachB at he;simp only [Bool.and_eq_true,decide_eq_true_eq] at he;exact he.2
 obtain ⟨hc0,hc1,hc2⟩:=good_cells hg
 refine con_q160 ?_
 unfold gcells
 simp -dsimp only [go_sem]
 intro b2 h1 n1
 have n1_a:=n1.at_
 have n1_z:=n1.size
 replace p0:=p0.F n1.f0
 have r2:=n1.row
 simp -dsimp only [go_sem,r2.cell]
 refine call_of (graph_Derive (t.fr p0) (ht.fr p0 (.inr rfl))) ?_
 rintro v3 h3 ⟨f3,w⟩
 have f3_z:=f3.size
 replace p0:=p0.F f3
 replace r2:=r2.F f3
 rw [if_pos hg] at w
 have hn:=(good_n hg).1
 have hcl:clampN (g.n:Int)=g.n:=by unfold clampN;omega
 obtain ⟨p,rd,wr,fe,rfl,F⟩:=w
 obtain ⟨c,ra,wa,fa,rn,wn,fn,e,m⟩:=Sm.of (t.fr p0) hg F
 clear F m
 rw [e]
 clear e
 simp -dsimp only [go_sem,r2.cell]
 intro b4 h4 n4
 have n4_a:=n4.at_
 have n4_z:=n4.size
 replace p0:=p0.F n4.f0
 replace r2:=r2.F n4.f0
 have r4:=n4.row
 simp -dsimp only [go_sem,r2.cell,r4.cell]
 refine Chk_intro (r4.W) fun h5 s5=>?_
 have s5_z:=s5.size
 replace p0:=p0.F s5.fr
 replace r2:=r2.F s5.fr
 replace r4:=s5.row r4
 try simp only [cl_int,cl_bool,cl_slice,cl_ptr,putAt_one,zs0,zs1,ivec_set,brow_upd] at r4
 simp -dsimp only [go_sem,hen,r2.cell,r4.cell]
 refine call_of (rel_New (g.n:Int) _) ?_
 rintro v6 h6 ⟨f6,t6⟩
 rw [hcl] at t6
 have f6_z:=f6.size
 replace p0:=p0.F f6
 replace r2:=r2.F f6
 replace r4:=r4.F f6
 simp -dsimp only [go_sem,r2.cell,r4.cell]
 refine call_of (order_Linear t6 (ht.fr p0 (.inr rfl)) (hl.fr p0) hb) ?_
 rintro v7 h7 ⟨f7,rfl⟩
 have f7_z:=f7.size
 replace p0:=p0.F f7
 replace r2:=r2.F f7
 replace r4:=r4.F f7
 rw [decide_eq_true hlin]
 have L:=LinF.of hlin
 have Ll:=L.len
 have gb:h.size≤h7.size∧b2<h7.size:=by omega
 clear r4 t6
 simp -dsimp only [go_sem,r2.cell]
 intro b8 h8 n8
 have z8:=n8.size
 have a8:=n8.at_
 have M1:=n8.mapF
 replace p0:=p0.trans n8.f0
 replace r2:=r2.F n8.f0
 simp -dsimp only [go_sem,r2.cell]
 refine MapAt.of n8.get ⟨rfl,?_⟩
 simp -dsimp only [go_sem,r2.cell]
 refine loop_intro (fun i:Nat=>[(2,.pointer (some ⟨b2,0,none⟩)),(5,.bool (okTo g (natsOf l) i)),(8,.map (some b8)),(33,.slice la l.length lc),(34,.int .i64 l.length),(35,.int .i64 i)])
  (fun i h'=>i≤l.length∧Fr 0 0 h h'∧Rw h' b2 (gcells q g)∧h8.size≤h'.size∧MapF h' b8 (mapW g (natsOf l) i)) (fun i=>l.length - i) 0 ?_ ?_ ?_
 ·simp [Le,find,okTo]
 ·exact ⟨by omega,p0,r2,by omega,M1.congr fun x=>rfl⟩
 clear p0 r2 M1
 rintro i h9 ⟨hi,p0,r2,z9,M1⟩
 unfold gcells at r2
 have p0_z:=p0.size
 have r2_l:=r2.lt
 by_cases hlt:i<l.length
 ·have e1:((i:Int)<(l.length:Int)):=by omega
  obtain ⟨x,k1,k2,hx⟩:=L.at_ i hlt
  have hos:=okTo_succ (g:=g) k2
  obtain ⟨eb,eo,hee,hev⟩:=t.evs (by omega)
  obtain ⟨c0,c1,c2,c3,c4⟩:=hev h9 p0 x hx
  have e2:((x:Int)<(g.evs.length:Int)):=by show (x:Int)<(g.n:Int);omega
  simp -dsimp only [go_sem,e1,r2.cell]
  refine (hl.fr p0).idx (by omega) fun lb lo hlc=>?_
  have k3:=hlc i _ (intsV_get k1)
  simp -dsimp only [go_sem,k3,hee,e2,c0,c1,c2,c3,c4,r2.cell]
  intro b10 h10 n10
  have n10_z:=n10.az
  replace p0:=p0.F n10.f0
  replace r2:=r2.F n10.f0
  have r10:=n10.row
  replace M1:=M1.fr n10.f0 (by omega)
  simp -dsimp only [go_sem,r2.cell,r10.cell]
  refine Chk_intro (r10.W) fun h11 s11=>?_
  have s11_z:=s11.size
  replace p0:=p0.F s11.fr
  replace r2:=r2.F s11.fr
  replace r10:=s11.row r10
  try simp only [cl_int,cl_bool,cl_slice,cl_ptr,putAt_one,zs0,zs1,ivec_set,brow_upd] at r10
  replace M1:=M1.fr s11.fr (by have:=M1.lt;omega)
  try simp -dsimp only [go_sem] at r10
  simp -dsimp only [go_sem,r2.cell,r10.cell]
  refine M1.look1 (z:=.int .u64 0) (n:=(g.ev x).loc) fun mm hm1 hm2=>?_
  simp -dsimp only [go_sem,hm1,hm2,r2.cell,r10.cell]
  by_cases hk2:(g.ev x).kind=2
  ·have hro:readOk g (natsOf l) i x=true:=by unfold readOk;simp [hk2]
   rw [hro,Bool.and_true] at hos
   simp -dsimp only [go_sem,beq_t hk2,r2.cell,r10.cell]
   refine M1.set fun h12 M2 f12 z12=>?_
   have p12:=p0.fresh f12 (by omega)
   have r12:=r2.fr f12 (by omega)
   simp -dsimp only [go_sem,r2.cell,r10.cell]
   simp -dsimp (disch:=omega) only [wrap64]
   exact ⟨i+1,by omega,by simp [Le,find,hos],by omega,p12,r12,by omega,M2.congr fun c=>mapW_step k2 hk2 c⟩
  ·simp -dsimp only [go_sem,beq_f hk2,r2.cell,r10.cell]
   by_cases hk1:(g.ev x).kind=1
   ·simp -dsimp only [go_sem,beq_t hk1,r2.cell,r10.cell]
    have hmw:mapW g (natsOf l) i (g.ev x).loc=(lastW g ((natsOf l).take i) (g.ev x).loc).map fun w=>.int .u64 (g.ev w).val:=rfl
    have hro:readOk g (natsOf l) i x=match lastW g ((natsOf l).take i) (g.ev x).loc with | some w=>(g.ev w).val==(g.ev x).val | none=>false:=by
     unfold readOk;rw [hk1];cases lastW g ((natsOf l).take i) (g.ev x).loc <;> rfl
    have fin:∀ b,b=okTo g (natsOf l) (i+1)→b=okTo g (natsOf l) (i+1):=fun _ h=>h
    rw [hro] at hos
    rw [hmw]
    cases hok:okTo g (natsOf l) i
    ·rw [hok,Bool.false_and] at hos
     simp -dsimp only [go_sem,hok,r2.cell,r10.cell]
     simp -dsimp (disch:=omega) only [wrap64]
     exact ⟨i+1,by omega,by simp [Le,find,hos],by omega,p0,r2,by omega,M1.congr fun c=>mapW_same k2 (by omega) c⟩
    ·rw [hok,Bool.true_and] at hos
     cases hlw:lastW g ((natsOf l).take i) (g.ev x).loc with
     | none =>
      rw [hlw] at hos
      simp -dsimp only [go_sem,hok,Option.map_none,Option.isSome_none,r2.cell,r10.cell]
      simp -dsimp (disch:=omega) only [wrap64]
      exact ⟨i+1,by omega,by simp [Le,find,hos],by omega,p0,r2,by omega,M1.congr fun c=>mapW_same k2 (by omega) c⟩
     | some w =>
      rw [hlw] at hos
      simp -dsimp only [go_sem,hok,Option.map_some,Option.isSome_some,Option.getD_some,r2.cell,r10.cell]
      simp -dsimp (disch:=omega) only [wrap64]
      exact ⟨i+1,by omega,by simp [Le,find,hos],by omega,p0,r2,by omega,M1.congr fun c=>mapW_same k2 (by omega) c⟩
   ·have hro:readOk g (natsOf l) i x=true:=by unfold readOk;simp [hk1]
    rw [hro,Bool.and_true] at hos
    simp -dsimp only [go_sem,beq_f hk1,r2.cell,r10.cell]
    simp -dsimp (disch:=omega) only [wrap64]
    exact ⟨i+1,by omega,by simp [Le,find,hos],by omega,p0,r2,by omega,M1.congr fun c=>mapW_same k2 hk2 c⟩
 obtain rfl:i=l.length:=by omega
 have hml:(natsOf l).length=l.length:=by simp [natsOf]
 have hoa:okTo g (natsOf l) l.length=repOk g (natsOf l):=by rw [← hml];rfl
 have hma:∀ c,mapW g (natsOf l) l.length c=(lastW g (natsOf l) c).map fun w=>.int .u64 (g.ev w).val:=fun c=>by unfold mapW;rw [List.take_of_length_le (by omega)]
 simp -dsimp only [go_sem,Int.lt_irrefl,r2.cell]
 refine Chk_intro (by omega) ?_
 obtain ⟨K,hK⟩:=Int.eq_ofNat_of_zero_le hc0
 rw [hK,zeros_one,Int.toNat_natCast,urowX_zero]
 intro b12 h12 n12
 have n12_z:=n12.az
 replace p0:=p0.F n12.f0
 replace r2:=r2.F n12.f0
 have r12:=n12.row
 replace M1:=M1.fr n12.f0 (by omega)
 have ez:urow K (fun _=>0)=urow K (fun j=>if j<0 then repVal g (natsOf l) (j:Int) else 0):=urowX_congr fun j _=>by simp
 rw [ez] at r12
 have hKl:(repFin g (natsOf l)).length=K:=by unfold repFin;simp [hK]
 have zz:h9.size≤b12:=by omega
 simp -dsimp only [go_sem,r2.cell,r12.cell]
 refine loop_intro (fun i:Nat=>[(4,.slice (some ⟨b12,0,none⟩) K K),(5,.bool (repOk g (natsOf l))),(8,.map (some b8)),(77,.int .i64 K),(78,.int .i64 i)])
  (fun i h'=>i≤K∧Fr 0 0 h h'∧Rw h' b12 (urow K (fun j=>if j<i then repVal g (natsOf l) (j:Int) else 0))∧MapF h' b8 (mapW g (natsOf l) l.length)) (fun i=>K - i) 0 ?_ ?_ ?_
 ·simp [Le,find,hoa]
 ·exact ⟨by omega,p0,r12,M1⟩
 clear p0 r2 r12 M1
 rintro i h13 ⟨hi,p0,r12,M1⟩
 have p0_z:=p0.size
 have r12_l:=r12.lt
 by_cases hlt:i<K
 ·have e1:((i:Int)<(K:Int)):=by omega
  simp -dsimp only [go_sem,e1,r12.cell]
  refine M1.look1 (z:=.int .u64 0) (n:=(i:Int)) fun mm hm1 _=>?_
  have hv:(mapW g (natsOf l) l.length (i:Int)).getD (.int .u64 0)=.int .u64 (repVal g (natsOf l) (i:Int)):=by
   rw [hma];unfold repVal
   cases lastW g (natsOf l) (i:Int) <;> rfl
  rw [hv] at hm1
  simp -dsimp only [go_sem,hm1,e1,r12.cell]
  refine Chk_intro (r12.wr (by simp;omega)) fun h14 s14=>?_
  have r14:=s14.row r12
  rw [cl_int,putAt_one,urow_set] at r14
  have M2:=M1.fr s14.fr (by have:=M1.lt;omega)
  have p14:=p0.fresh s14.fr (by omega)
  simp -dsimp only [go_sem,r12.cell]
  simp -dsimp (disch:=omega) only [wrap64]
  refine ⟨i+1,by omega,by simp [Le,find],by omega,p14,?_,M2⟩
  rw [urowX_congr (g:=fun j=>if j<i+1 then repVal g (natsOf l) (j:Int) else 0) fun j _=>?_] at r14
  ·exact r14
  ·by_cases hj:j=i
   ·subst hj;simp
   ·rw [if_neg hj]
    by_cases h2:j<i
    ·rw [if_pos h2,if_pos (by omega)]
    ·rw [if_neg h2,if_neg (by omega)]
 ·obtain rfl:i=K:=by omega
  simp -dsimp only [go_sem,Int.lt_irrefl,r12.cell]
  have ee:urow i (fun j=>if j<i then repVal g (natsOf l) (j:Int) else 0)=wordsV (repFin g (natsOf l)):=by
   unfold repFin wordsV
   rw [hK,Int.toNat_natCast,List.map_map]
   unfold urow
   refine List.map_congr_left fun j hj=>?_
   have:=List.mem_range.1 hj
   simp [this]
  rw [ee] at r12
  refine ⟨p0,_,rfl,?_⟩
  rw [hKl]
  exact holder_row (s:=1) r12 (by simp [wordsV,hKl]) (by omega)
end
end Go.Proofs.Tst
/-
  total: Right.
-/
namespace Go.Proofs.Tst
open Go Go.Vc
section
variable {h : Heap} {q : GV} {g : Gr}
theorem rightB_bad {l:List Int} (hg:g.good=true) {i x:Nat} (hx:(natsOf l)[i]?=some x) (hb:okB g (natsOf l) i x=false):rightB g l=false:=by
 cases hr:rightB g l
 ·rfl
 ·unfold rightB at hr
  simp only [Bool.and_eq_true,allB_iff] at hr
  rw [hr.2.2 i x hx] at hb;cases hb
def okU (g:Gr) (m:List Nat) (i:Nat):Prop:=∀ j y,j<i→m[j]?=some y→okB g m j y=true
theorem okU_succ {m:List Nat} {i x:Nat} (hx:m[i]?=some x) (h:okU g m i) (hb:okB g m i x=true):okU g m (i+1):=fun j y hj hy=>by
 by_cases he:j=i
 ·subst he;rw [hx] at hy;cases hy;exact hb
 ·exact h j y (by omega) hy
theorem rfK_take {i:Nat} {p:Int×Int} (hp:g.rf[i]?=some p):((g.rf.take (i+1)).map fun p=>(p.2,p.1))=((g.rf.take i).map fun p=>(p.2,p.1))++[(p.2,p.1)]:=by
 rw [List.take_add_one,hp];simp
theorem mapQ_snoc (L:List (Int×Int)) (a b:Int) (x:Int):(if x=a then some (.int .i64 b) else mapQ L x)=mapQ (L++[(a,b)]) x:=by
 unfold mapQ
 rw [lkp_snoc]
 by_cases h:x=a
 ·rw [if_pos h,if_pos h];rfl
 ·rw [if_neg h,if_neg h]
set_option maxHeartbeats 8000000 in
theorem total_Right (t:GrAt h q g) (ht:TabAt h) {la:Option Addr} {lc:Nat} {l:List Int} (hl:Rd 1 h (.slice la l.length lc) l.length (intsV l)) (hb:l.length≤4611686018427387904) :
  Con Tryd.prog 25 #[.agg (gcells q g).toArray,.slice la l.length lc] h fun v h'=>Fr 0 0 h h'∧v=.bool (rightB g l):=by
 refine con_q161 ?_
 have p0:Fr 0 0 h h:=.refl _ _ _
 have hen:g.evs.length=g.n:=rfl
 have bf:=t.fits.f
 have br:=t.fits.r
 unfold gcells
 simp -dsimp only [go_sem]
 intro b2 h1 n1
 have n1_z:=n1.az
 replace p0:=p0.F n1.f0
 have r2:=n1.row
 simp -dsimp only [go_sem,r2.cell]
 refine call_of (graph_Derive (t.fr p0) (ht.fr p0 (.inr rfl))) ?_
 rintro v3 h3 ⟨f3,w⟩
 have f3_z:=f3.size
 replace p0:=p0.F f3
 replace r2:=r2.F f3
 by_cases hg:g.good=true
 rotate_left
 ·rw [if_neg hg] at w
  have e:rightB g l=false:=by unfold rightB;simp [hg]
  rw [e]
  subst w
  unfold fzero
  simp -dsimp only [go_sem,r2.cell]
  intro b4 h4 n4
  have n4_a:=n4.at_
  have n4_z:=n4.size
  replace p0:=p0.F n4.f0
  replace r2:=r2.F n4.f0
  have r4:=n4.row
  simp -dsimp only [go_sem,r2.cell,r4.cell]
  refine Chk_intro (r4.W) fun h5 s5=>?_
  have s5_z:=s5.size
  replace p0:=p0.F s5.fr
  replace r2:=r2.F s5.fr
  replace r4:=s5.row r4
  try simp only [cl_int,cl_bool,cl_slice,cl_ptr,putAt_one,zs0,zs1,ivec_set,brow_upd] at r4
  simp -dsimp only [go_sem,r2.cell,r4.cell]
  exact p0
 rw [if_pos hg] at w
 have hn:=(good_n hg).1
 obtain ⟨hc0,hc1,hc2⟩:=good_cells hg
 obtain ⟨p,rd,wr,fe,rfl,F⟩:=w
 obtain ⟨c,ra,wa,fa,rn,wn,fn,e,m⟩:=Sm.of (t.fr p0) hg F
 clear F
 rw [e]
 clear e
 have p3:Fr 0 0 h3 h3:=.refl _ _ _
 simp -dsimp only [go_sem,r2.cell]
 intro b4 h4 n4
 have n4_a:=n4.at_
 have n4_z:=n4.size
 replace p0:=p0.F n4.f0
 replace r2:=r2.F n4.f0
 replace p3:=p3.F n4.f0
 have r4:=n4.row
 simp -dsimp only [go_sem,r2.cell,r4.cell]
 refine Chk_intro (r4.W) fun h5 s5=>?_
 have s5_z:=s5.size
 replace p0:=p0.F s5.fr
 replace r2:=r2.F s5.fr
 replace p3:=p3.F s5.fr
 replace r4:=s5.row r4
 try simp only [cl_int,cl_bool,cl_slice,cl_ptr,putAt_one,zs0,zs1,ivec_set,brow_upd] at r4
 simp -dsimp only [go_sem] at r4
 simp -dsimp only [go_sem,r2.cell,r4.cell]
 intro b6 h6 n6
 have n6_z:=n6.az
 replace p0:=p0.F n6.f0
 replace r2:=r2.F n6.f0
 replace p3:=p3.F n6.f0
 replace r4:=r4.F n6.f0
 have r6:=n6.row
 simp -dsimp only [go_sem,r2.cell,r4.cell,r6.cell]
 replace m:=m.fr p3
 refine call_of (rel_UnionU (UA.mk' [(.pointer (some ⟨c 0,0,none⟩),relM g 0),(.pointer (some ⟨c 2,0,none⟩),relM g 2)] r6 (pa_cons (m.rel 0 (by decide)) (pa_cons (m.rel 2 (by decide)) pa_nil)) (by simp) (by simp))) ?_
 rintro v7 h7 ⟨f7,t7⟩
 have f7_z:=f7.size
 replace p0:=p0.F f7
 replace r2:=r2.F f7
 replace p3:=p3.F f7
 replace r4:=r4.F f7
 replace r6:=r6.F f7
 have t7:=t7.congr (M':=pcM g) fun i j _ _=>by simp [orM,pcM]
 simp -dsimp only [go_sem,r2.cell,r4.cell,r6.cell]
 refine call_of (order_Linear t7 (ht.fr p0 (.inr rfl)) (hl.fr p0) hb) ?_
 rintro v8 h8 ⟨f8,rfl⟩
 have f8_z:=f8.size
 replace p0:=p0.F f8
 replace r2:=r2.F f8
 replace p3:=p3.F f8
 replace r4:=r4.F f8
 replace r6:=r6.F f8
 by_cases hlin:LinP g.n (pcM g) l
 rotate_left
 ·have e:rightB g l=false:=by unfold rightB;simp [hlin]
  rw [decide_eq_false hlin,e]
  simp -dsimp only [go_sem,r2.cell,r4.cell,r6.cell]
  exact p0
 rw [decide_eq_true hlin]
 have L:=LinF.of hlin
 have Ll:=L.len
 have gb:h.size≤h8.size∧b2<h8.size:=by omega
 clear r4 r6 t7 m p3
 simp -dsimp only [go_sem,r2.cell]
 intro b7 h9 n9
 have z9:=n9.size
 have a9:=n9.at_
 have M1:=n9.mapF
 replace p0:=p0.trans n9.f0
 replace r2:=r2.F n9.f0
 simp -dsimp only [go_sem,r2.cell]
 refine loop_intro (fun i:Nat=>[(1,.slice la l.length lc),(2,.pointer (some ⟨b2,0,none⟩)),(7,.map (some b7)),(43,.slice q.f g.rf.length q.fc),(44,.int .i64 g.rf.length),(45,.int .i64 i)])
  (fun i h'=>i≤g.rf.length∧Fr 0 0 h h'∧Rw h' b2 (gcells q g)∧h9.size≤h'.size∧MapF h' b7 (mapQ ((g.rf.take i).map fun p=>(p.2,p.1)))) (fun i=>g.rf.length - i) 0 ?_ ?_ ?_
 ·simp [Le,find]
 ·exact ⟨by omega,p0,r2,by omega,M1.congr fun x=>rfl⟩
 clear p0 r2 M1
 rintro i h10 ⟨hi,p0,r2,z10,M1⟩
 unfold gcells at r2
 have p0_z:=p0.size
 have r2_l:=r2.lt
 by_cases hlt:i<g.rf.length
 ·have e1:((i:Int)<(g.rf.length:Int)):=by omega
  have hq:g.rf[i]?=some g.rf[i]:=List.getElem?_eq_getElem hlt
  generalize g.rf[i]=pr at hq
  obtain ⟨rb,ro,hre,hrc⟩:=t.f.pairsAt (by omega)
  obtain ⟨k1,k2⟩:=hrc h10 p0 i _ hq
  simp -dsimp only [go_sem,e1,hre,k1,k2,r2.cell]
  intro b11 h11 n11
  have n11_z:=n11.az
  replace p0:=p0.F n11.f0
  replace r2:=r2.F n11.f0
  have r11:=n11.row
  replace M1:=M1.fr n11.f0 (by omega)
  simp -dsimp only [go_sem,r2.cell,r11.cell]
  refine Chk_intro (r11.W) fun h12 s12=>?_
  have s12_z:=s12.size
  replace p0:=p0.F s12.fr
  replace r2:=r2.F s12.fr
  replace r11:=s12.row r11
  try simp only [cl_int,cl_bool,cl_slice,cl_ptr,putAt_one,zs0,zs1,ivec_set,brow_upd] at r11
  replace M1:=M1.fr s12.fr (by have:=M1.lt;omega)
  try simp -dsimp only [go_sem] at r11
  simp -dsimp only [go_sem,r2.cell,r11.cell]
  refine M1.set fun h13 M2 f13 z13=>?_
  have p13:=p0.fresh f13 (by omega)
  have r13:=r2.fr f13 (by omega)
  simp -dsimp only [go_sem,r2.cell,r11.cell]
  simp -dsimp (disch:=omega) only [wrap64]
  exact ⟨i+1,by omega,by simp [Le,find,hre],by omega,p13,r13,by omega,M2.congr fun x=>by rw [rfK_take hq];exact mapQ_snoc _ _ _ _⟩
 obtain rfl:i=g.rf.length:=by omega
 replace M1:MapF h10 b7 (mapQ (rfK g)):=M1.congr fun x=>by rw [List.take_length];rfl
 simp -dsimp only [go_sem,Int.lt_irrefl,r2.cell]
 intro b8 h11 n11
 have z11:=n11.size
 have a11:=n11.at_
 have N1:=n11.mapF
 replace p0:=p0.trans n11.f0
 replace r2:=r2.F n11.f0
 replace M1:=M1.fr n11.f0 (by omega)
 have l1:=M1.lt
 simp -dsimp only [go_sem,r2.cell]
 refine loop_intro (fun i:Nat=>[(1,.slice la l.length lc),(2,.pointer (some ⟨b2,0,none⟩)),(7,.map (some b7)),(10,.map (some b8)),(57,.slice q.r g.rmw.length q.rc),(58,.int .i64 g.rmw.length),(59,.int .i64 i)])
  (fun i h'=>i≤g.rmw.length∧Fr 0 0 h h'∧Rw h' b2 (gcells q g)∧h11.size≤h'.size∧MapF h' b7 (mapQ (rfK g))∧MapF h' b8 (mapQ (g.rmw.take i))) (fun i=>g.rmw.length - i) 0 ?_ ?_ ?_
 ·simp [Le,find]
 ·exact ⟨by omega,p0,r2,by omega,M1,N1.congr fun x=>rfl⟩
 clear p0 r2 M1 N1
 rintro i h12 ⟨hi,p0,r2,z12,M1,N1⟩
 unfold gcells at r2
 have p0_z:=p0.size
 have r2_l:=r2.lt
 by_cases hlt:i<g.rmw.length
 ·have e1:((i:Int)<(g.rmw.length:Int)):=by omega
  have hq:g.rmw[i]?=some g.rmw[i]:=List.getElem?_eq_getElem hlt
  generalize g.rmw[i]=pr at hq
  obtain ⟨rb,ro,hre,hrc⟩:=t.r.pairsAt (by omega)
  obtain ⟨k1,k2⟩:=hrc h12 p0 i _ hq
  simp -dsimp only [go_sem,e1,hre,k1,k2,r2.cell]
  intro b13 h13 n13
  have n13_z:=n13.az
  replace p0:=p0.F n13.f0
  replace r2:=r2.F n13.f0
  have r13:=n13.row
  replace M1:=M1.fr n13.f0 (by omega)
  replace N1:=N1.fr n13.f0 (by omega)
  simp -dsimp only [go_sem,r2.cell,r13.cell]
  refine Chk_intro (r13.W) fun h14 s14=>?_
  have s14_z:=s14.size
  replace p0:=p0.F s14.fr
  replace r2:=r2.F s14.fr
  replace r13:=s14.row r13
  try simp only [cl_int,cl_bool,cl_slice,cl_ptr,putAt_one,zs0,zs1,ivec_set,brow_upd] at r13
  replace M1:=M1.fr s14.fr (by have:=M1.lt;omega)
  replace N1:=N1.fr s14.fr (by have:=N1.lt;omega)
  try simp -dsimp only [go_sem] at r13
  simp -dsimp only [go_sem,r2.cell,r13.cell]
  refine N1.set fun h15 N2 f15 z15=>?_
  have p15:=p0.fresh f15 (by omega)
  have r15:=r2.fr f15 (by omega)
  have M2:=M1.fr f15 (by omega)
  simp -dsimp only [go_sem,r2.cell,r13.cell]
  simp -dsimp (disch:=omega) only [wrap64]
  exact ⟨i+1,by omega,by simp [Le,find,hre],by omega,p15,r15,by omega,M2,N2.congr fun x=>by rw [List.take_add_one,hq,Option.toList_some];exact mapQ_snoc _ _ _ _⟩
 obtain rfl:i=g.rmw.length:=by omega
 rw [List.take_length] at N1
 simp -dsimp only [go_sem,Int.lt_irrefl,r2.cell]
 intro b9 h13 n13
 have z13:=n13.size
 have a13:=n13.at_
 have O1:=n13.mapF
 replace p0:=p0.trans n13.f0
 replace r2:=r2.F n13.f0
 have l2:=N1.lt
 replace M1:=M1.fr n13.f0 (by omega)
 replace N1:=N1.fr n13.f0 (by omega)
 simp -dsimp only [go_sem,r2.cell]
 refine loop_intro (fun i:Nat=>[(1,.slice la l.length lc),(2,.pointer (some ⟨b2,0,none⟩)),(7,.map (some b7)),(10,.map (some b8)),(13,.map (some b9)),(70,.slice la l.length lc),(71,.int .i64 l.length),(72,.int .i64 i)])
  (fun i h'=>i≤l.length∧Fr 0 0 h h'∧Rw h' b2 (gcells q g)∧h13.size≤h'.size∧MapF h' b7 (mapQ (rfK g))∧MapF h' b8 (mapQ g.rmw)∧MapF h' b9 (mapL g (natsOf l) i)∧okU g (natsOf l) i) (fun i=>l.length - i) 0 ?_ ?_ ?_
 ·simp [Le,find]
 ·exact ⟨by omega,p0,r2,by omega,M1,N1,O1.congr fun x=>rfl,fun j y hj=>by omega⟩
 clear p0 r2 M1 N1 O1
 rintro i h14 ⟨hi,p0,r2,z14,M1,N1,O1,hU⟩
 unfold gcells at r2
 have p0_z:=p0.size
 have r2_l:=r2.lt
 by_cases hlt:i<l.length
 rotate_left
 ·obtain rfl:i=l.length:=by omega
  have e:rightB g l=true:=by
   unfold rightB
   simp only [Bool.and_eq_true,decide_eq_true_eq,allB_iff]
   exact ⟨hg,hlin,fun j y hy=>hU j y (by have:=(List.getElem?_eq_some_iff.1 hy).1;simpa [natsOf] using this) hy⟩
  rw [e]
  simp -dsimp only [go_sem,Int.lt_irrefl,r2.cell]
  exact p0
 have e1:((i:Int)<(l.length:Int)):=by omega
 obtain ⟨x,k1,k2,hx⟩:=L.at_ i hlt
 obtain ⟨eb,eo,hee,hev⟩:=t.evs (by omega)
 obtain ⟨c0,c1,c2,c3,c4⟩:=hev h14 p0 x hx
 have e2:((x:Int)<(g.evs.length:Int)):=by show (x:Int)<(g.n:Int);omega
 obtain ⟨hll,la',lc',hle,hld⟩:=hl
 cases hle
 rcases hld with hld | ⟨lb,lo,rfl,hlc⟩
 ·omega
 have k3:=p0.keep (hlc i _ (intsV_get k1)) (by omega)
 simp -dsimp only [go_sem,e1,k3,hee,e2,c0,c1,c2,c3,c4,r2.cell]
 intro b15 h15 n15
 have n15_z:=n15.az
 replace p0:=p0.F n15.f0
 replace r2:=r2.F n15.f0
 have r15:=n15.row
 replace M1:=M1.fr n15.f0 (by omega)
 replace N1:=N1.fr n15.f0 (by omega)
 replace O1:=O1.fr n15.f0 (by omega)
 simp -dsimp only [go_sem,r2.cell,r15.cell]
 refine Chk_intro (r15.W) fun h16 s16=>?_
 have s16_z:=s16.size
 replace p0:=p0.F s16.fr
 replace r2:=r2.F s16.fr
 replace r15:=s16.row r15
 try simp only [cl_int,cl_bool,cl_slice,cl_ptr,putAt_one,zs0,zs1,ivec_set,brow_upd] at r15
 replace M1:=M1.fr s16.fr (by have:=M1.lt;omega)
 replace N1:=N1.fr s16.fr (by have:=N1.lt;omega)
 replace O1:=O1.fr s16.fr (by have:=O1.lt;omega)
 try simp -dsimp only [go_sem] at r15
 simp -dsimp only [go_sem,r2.cell,r15.cell]
 have bad:okB g (natsOf l) i x=false→rightB g l=false:=fun hb=>rightB_bad hg k2 hb
 by_cases hth:((i:Int)<g.cells)∧(g.ev x).thread≥0
 ·obtain ⟨ha,hb'⟩:=hth
  have e:rightB g l=false:=bad (by unfold okB;simp [ha];omega)
  rw [e]
  simp -dsimp only [go_sem,ha,hb',r2.cell,r15.cell]
  exact p0
 have q1:(!decide ((i:Int)<g.cells)||decide ((g.ev x).thread<0))=true:=by simp;omega
 have go2:∀ (P:Prop),((¬ ((i:Int)<g.cells)→P)∧(((i:Int)<g.cells)→¬ (g.ev x).thread≥0→P))→P:=fun P ⟨a,b⟩=>by
  by_cases h1:(i:Int)<g.cells
  ·exact b h1 (fun h2=>hth ⟨h1,h2⟩)
  ·exact a h1
 have hqf:mapQ (rfK g) (x:Int)=(lkp (rfK g) (x:Int)).map fun v=>.int .i64 v:=rfl
 have hqr:mapQ g.rmw (x:Int)=(lkp g.rmw (x:Int)).map fun v=>.int .i64 v:=rfl
 have hql:mapL g (natsOf l) i (g.ev x).loc=(lastW g ((natsOf l).take i) (g.ev x).loc).map fun (w:Nat)=>.int .i64 (w:Int):=rfl
 have start:∀ (P:Prop),(∀ (b:Bool),(b=decide ((i:Int)<g.cells))→True)→P→P:=fun P _ h=>h
 clear start
 refine go2 _ ⟨fun hci=>?_,fun hci htn=>?_⟩
 rotate_left
 ·simp -dsimp only [go_sem,hci,htn,r2.cell,r15.cell]
  refine M1.look1 (z:=.int .i64 0) (n:=(x:Int)) fun ma ha1 ha2=>?_
  rw [hqf] at ha1 ha2
  cases hlf:lkp (rfK g) (x:Int) with
  | none =>
   rw [hlf] at ha1 ha2
   rw [Option.map_none] at ha1 ha2
   simp -dsimp only [go_sem,ha1,ha2,Option.isSome_none,r2.cell,r15.cell]
   refine N1.look1 (z:=.int .i64 0) (n:=(x:Int)) fun mb hb1 hb2=>?_
   rw [hqr] at hb1 hb2
   cases hlr:lkp g.rmw (x:Int) with
   | none =>
    rw [hlr] at hb1 hb2
    rw [Option.map_none] at hb1 hb2
    simp -dsimp only [go_sem,hb1,hb2,Option.isSome_none,r2.cell,r15.cell]
    have hok:okB g (natsOf l) i x=true:=by
     have q2:=(show lkOk (rfK g) (x:Int) (natO (lastW g ((natsOf l).take i) (g.ev x).loc))=true by unfold lkOk;rw [hlf])
     have q3:=(show lkOk g.rmw (x:Int) (natO (natsOf l)[i+1]?)=true by unfold lkOk;rw [hlr])
     unfold okB
     rw [q1,q2,q3];rfl
    by_cases hk2:(g.ev x).kind=2
    ·simp -dsimp only [go_sem,beq_t hk2,r2.cell,r15.cell]
     refine O1.set fun h17 O2 f17 z17=>?_
     have p17:=p0.fresh f17 (by omega)
     have r17:=r2.fr f17 (by omega)
     have M2:=M1.fr f17 (by omega)
     have N2:=N1.fr f17 (by omega)
     simp -dsimp only [go_sem,r2.cell,r15.cell]
     simp -dsimp (disch:=omega) only [wrap64]
     exact ⟨i+1,by omega,by simp [Le,find],by omega,p17,r17,by omega,M2,N2,O2.congr fun c=>mapL_step k2 hk2 c,okU_succ k2 hU hok⟩
    ·simp -dsimp only [go_sem,beq_f hk2,r2.cell,r15.cell]
     simp -dsimp (disch:=omega) only [wrap64]
     exact ⟨i+1,by omega,by simp [Le,find],by omega,p0,r2,by omega,M1,N1,O1.congr fun c=>mapL_same k2 hk2 c,okU_succ k2 hU hok⟩
   | some y =>
    rw [hlr] at hb1 hb2
    rw [Option.map_some] at hb1 hb2
    have hw:IntKind.i64.wrap ((i:Int)+1)=((i+1:Nat):Int):=by rw [wrap64 (by omega) (by omega)];omega
    by_cases hend:i+1=l.length
    ·have e:rightB g l=false:=bad (by
      have:(natsOf l)[i+1]?=none:=List.getElem?_eq_none (by simp [natsOf];omega)
      unfold okB lkOk;rw [hlr,this];simp [natO])
     have hend':(((i+1:Nat):Int)==((l.length:Nat):Int))=true:=by simp;omega
     rw [e]
     simp -dsimp only [go_sem,hb1,hb2,Option.isSome_some,Option.getD_some,hw,hend',r2.cell,r15.cell]
     exact p0
    obtain ⟨x',j1,j2,hx'⟩:=L.at_ (i+1) (by omega)
    have k4:=p0.keep (hlc (i+1) _ (intsV_get j1)) (by omega)
    have hend':(((i+1:Nat):Int)==((l.length:Nat):Int))=false:=by simp;omega
    have e3:(((i+1:Nat):Int)<((l.length:Nat):Int)):=by omega
    by_cases hxy:(x':Int)=y
    ·simp -dsimp only [go_sem,hb1,hb2,Option.isSome_some,Option.getD_some,hw,hend',e3,k4,bne_t hxy,r2.cell,r15.cell]
     have hok:okB g (natsOf l) i x=true:=by
      have q2:=(show lkOk (rfK g) (x:Int) (natO (lastW g ((natsOf l).take i) (g.ev x).loc))=true by unfold lkOk;rw [hlf])
      have q3:=(show lkOk g.rmw (x:Int) (natO (natsOf l)[i+1]?)=true by unfold lkOk;rw [hlr,j2];simp [natO,hxy])
      unfold okB
      rw [q1,q2,q3];rfl
     by_cases hk2:(g.ev x).kind=2
     ·simp -dsimp only [go_sem,beq_t hk2,r2.cell,r15.cell]
      refine O1.set fun h17 O2 f17 z17=>?_
      have p17:=p0.fresh f17 (by omega)
      have r17:=r2.fr f17 (by omega)
      have M2:=M1.fr f17 (by omega)
      have N2:=N1.fr f17 (by omega)
      simp -dsimp only [go_sem,r2.cell,r15.cell]
      simp -dsimp (disch:=omega) only [wrap64]
      exact ⟨i+1,by omega,by simp [Le,find],by omega,p17,r17,by omega,M2,N2,O2.congr fun c=>mapL_step k2 hk2 c,okU_succ k2 hU hok⟩
     ·simp -dsimp only [go_sem,beq_f hk2,r2.cell,r15.cell]
      simp -dsimp (disch:=omega) only [wrap64]
      exact ⟨i+1,by omega,by simp [Le,find],by omega,p0,r2,by omega,M1,N1,O1.congr fun c=>mapL_same k2 hk2 c,okU_succ k2 hU hok⟩
    ·have e:rightB g l=false:=bad (by unfold okB lkOk;rw [hlr,j2];simp [natO,hxy])
     rw [e]
     simp -dsimp only [go_sem,hb1,hb2,Option.isSome_some,Option.getD_some,hw,hend',e3,k4,bne_f hxy,r2.cell,r15.cell]
     exact p0
  | some w =>
   rw [hlf] at ha1 ha2
   rw [Option.map_some] at ha1 ha2
   simp -dsimp only [go_sem,ha1,ha2,Option.isSome_some,Option.getD_some,r2.cell,r15.cell]
   refine O1.look1 (z:=.int .i64 0) (n:=(g.ev x).loc) fun mc hc1 hc2=>?_
   rw [hql] at hc1 hc2
   cases hlw:lastW g ((natsOf l).take i) (g.ev x).loc with
   | none =>
    rw [hlw] at hc1 hc2
    rw [Option.map_none] at hc1 hc2
    have e:rightB g l=false:=bad (by unfold okB lkOk;rw [hlf,hlw];simp [natO])
    rw [e]
    simp -dsimp only [go_sem,hc1,hc2,Option.isSome_none,r2.cell,r15.cell]
    exact p0
   | some v =>
    rw [hlw] at hc1 hc2
    rw [Option.map_some] at hc1 hc2
    by_cases hvw:(v:Int)=w
    ·simp -dsimp only [go_sem,hc1,hc2,Option.isSome_some,Option.getD_some,bne_t hvw,r2.cell,r15.cell]
     refine N1.look1 (z:=.int .i64 0) (n:=(x:Int)) fun mb hb1 hb2=>?_
     rw [hqr] at hb1 hb2
     cases hlr:lkp g.rmw (x:Int) with
     | none =>
      rw [hlr] at hb1 hb2
      rw [Option.map_none] at hb1 hb2
      simp -dsimp only [go_sem,hb1,hb2,Option.isSome_none,r2.cell,r15.cell]
      have hok:okB g (natsOf l) i x=true:=by
       have q2:=(show lkOk (rfK g) (x:Int) (natO (lastW g ((natsOf l).take i) (g.ev x).loc))=true by unfold lkOk;rw [hlf,hlw];simp [natO,hvw])
       have q3:=(show lkOk g.rmw (x:Int) (natO (natsOf l)[i+1]?)=true by unfold lkOk;rw [hlr])
       unfold okB
       rw [q1,q2,q3];rfl
      by_cases hk2:(g.ev x).kind=2
      ·simp -dsimp only [go_sem,beq_t hk2,r2.cell,r15.cell]
       refine O1.set fun h17 O2 f17 z17=>?_
       have p17:=p0.fresh f17 (by omega)
       have r17:=r2.fr f17 (by omega)
       have M2:=M1.fr f17 (by omega)
       have N2:=N1.fr f17 (by omega)
       simp -dsimp only [go_sem,r2.cell,r15.cell]
       simp -dsimp (disch:=omega) only [wrap64]
       exact ⟨i+1,by omega,by simp [Le,find],by omega,p17,r17,by omega,M2,N2,O2.congr fun c=>mapL_step k2 hk2 c,okU_succ k2 hU hok⟩
      ·simp -dsimp only [go_sem,beq_f hk2,r2.cell,r15.cell]
       simp -dsimp (disch:=omega) only [wrap64]
       exact ⟨i+1,by omega,by simp [Le,find],by omega,p0,r2,by omega,M1,N1,O1.congr fun c=>mapL_same k2 hk2 c,okU_succ k2 hU hok⟩
     | some y =>
      rw [hlr] at hb1 hb2
      rw [Option.map_some] at hb1 hb2
      have hw:IntKind.i64.wrap ((i:Int)+1)=((i+1:Nat):Int):=by rw [wrap64 (by omega) (by omega)];omega
      by_cases hend:i+1=l.length
      ·have e:rightB g l=false:=bad (by
        have:(natsOf l)[i+1]?=none:=List.getElem?_eq_none (by simp [natsOf];omega)
        unfold okB lkOk;rw [hlr,this];simp [natO])
       have hend':(((i+1:Nat):Int)==((l.length:Nat):Int))=true:=by simp;omega
       rw [e]
       simp -dsimp only [go_sem,hb1,hb2,Option.isSome_some,Option.getD_some,hw,hend',r2.cell,r15.cell]
       exact p0
      obtain ⟨x',j1,j2,hx'⟩:=L.at_ (i+1) (by omega)
      have k4:=p0.keep (hlc (i+1) _ (intsV_get j1)) (by omega)
      have hend':(((i+1:Nat):Int)==((l.length:Nat):Int))=false:=by simp;omega
      have e3:(((i+1:Nat):Int)<((l.length:Nat):Int)):=by omega
      by_cases hxy:(x':Int)=y
      ·simp -dsimp only [go_sem,hb1,hb2,Option.isSome_some,Option.getD_some,hw,hend',e3,k4,bne_t hxy,r2.cell,r15.cell]
       have hok:okB g (natsOf l) i x=true:=by
        have q2:=(show lkOk (rfK g) (x:Int) (natO (lastW g ((natsOf l).take i) (g.ev x).loc))=true by unfold lkOk;rw [hlf,hlw];simp [natO,hvw])
        have q3:=(show lkOk g.rmw (x:Int) (natO (natsOf l)[i+1]?)=true by unfold lkOk;rw [hlr,j2];simp [natO,hxy])
        unfold okB
        rw [q1,q2,q3];rfl
       by_cases hk2:(g.ev x).kind=2
       ·simp -dsimp only [go_sem,beq_t hk2,r2.cell,r15.cell]
        refine O1.set fun h17 O2 f17 z17=>?_
        have p17:=p0.fresh f17 (by omega)
        have r17:=r2.fr f17 (by omega)
        have M2:=M1.fr f17 (by omega)
        have N2:=N1.fr f17 (by omega)
        simp -dsimp only [go_sem,r2.cell,r15.cell]
        simp -dsimp (disch:=omega) only [wrap64]
        exact ⟨i+1,by omega,by simp [Le,find],by omega,p17,r17,by omega,M2,N2,O2.congr fun c=>mapL_step k2 hk2 c,okU_succ k2 hU hok⟩
       ·simp -dsimp only [go_sem,beq_f hk2,r2.cell,r15.cell]
        simp -dsimp (disch:=omega) only [wrap64]
        exact ⟨i+1,by omega,by simp [Le,find],by omega,p0,r2,by omega,M1,N1,O1.congr fun c=>mapL_same k2 hk2 c,okU_succ k2 hU hok⟩
      ·have e:rightB g l=false:=bad (by unfold okB lkOk;rw [hlr,j2];simp [natO,hxy])
       rw [e]
       simp -dsimp only [go_sem,hb1,hb2,Option.isSome_some,Option.getD_some,hw,hend',e3,k4,bne_f hxy,r2.cell,r15.cell]
       exact p0
    ·have e:rightB g l=false:=bad (by unfold okB lkOk;rw [hlf,hlw];simp [natO,hvw])
     rw [e]
     simp -dsimp only [go_sem,hc1,hc2,Option.isSome_some,Option.getD_some,bne_f hvw,r2.cell,r15.cell]
     exact p0
 ·simp -dsimp only [go_sem,hci,r2.cell,r15.cell]
  refine M1.look1 (z:=.int .i64 0) (n:=(x:Int)) fun ma ha1 ha2=>?_
  rw [hqf] at ha1 ha2
  cases hlf:lkp (rfK g) (x:Int) with
  | none =>
   rw [hlf] at ha1 ha2
   rw [Option.map_none] at ha1 ha2
   simp -dsimp only [go_sem,ha1,ha2,Option.isSome_none,r2.cell,r15.cell]
   refine N1.look1 (z:=.int .i64 0) (n:=(x:Int)) fun mb hb1 hb2=>?_
   rw [hqr] at hb1 hb2
   cases hlr:lkp g.rmw (x:Int) with
   | none =>
    rw [hlr] at hb1 hb2
    rw [Option.map_none] at hb1 hb2
    simp -dsimp only [go_sem,hb1,hb2,Option.isSome_none,r2.cell,r15.cell]
    have hok:okB g (natsOf l) i x=true:=by
     have q2:=(show lkOk (rfK g) (x:Int) (natO (lastW g ((natsOf l).take i) (g.ev x).loc))=true by unfold lkOk;rw [hlf])
     have q3:=(show lkOk g.rmw (x:Int) (natO (natsOf l)[i+1]?)=true by unfold lkOk;rw [hlr])
     unfold okB
     rw [q1,q2,q3];rfl
    by_cases hk2:(g.ev x).kind=2
    ·simp -dsimp only [go_sem,beq_t hk2,r2.cell,r15.cell]
     refine O1.set fun h17 O2 f17 z17=>?_
     have p17:=p0.fresh f17 (by omega)
     have r17:=r2.fr f17 (by omega)
     have M2:=M1.fr f17 (by omega)
     have N2:=N1.fr f17 (by omega)
     simp -dsimp only [go_sem,r2.cell,r15.cell]
     simp -dsimp (disch:=omega) only [wrap64]
     exact ⟨i+1,by omega,by simp [Le,find],by omega,p17,r17,by omega,M2,N2,O2.congr fun c=>mapL_step k2 hk2 c,okU_succ k2 hU hok⟩
    ·simp -dsimp only [go_sem,beq_f hk2,r2.cell,r15.cell]
     simp -dsimp (disch:=omega) only [wrap64]
     exact ⟨i+1,by omega,by simp [Le,find],by omega,p0,r2,by omega,M1,N1,O1.congr fun c=>mapL_same k2 hk2 c,okU_succ k2 hU hok⟩
   | some y =>
    rw [hlr] at hb1 hb2
    rw [Option.map_some] at hb1 hb2
    have hw:IntKind.i64.wrap ((i:Int)+1)=((i+1:Nat):Int):=by rw [wrap64 (by omega) (by omega)];omega
    by_cases hend:i+1=l.length
    ·have e:rightB g l=false:=bad (by
      have:(natsOf l)[i+1]?=none:=List.getElem?_eq_none (by simp [natsOf];omega)
      unfold okB lkOk;rw [hlr,this];simp [natO])
     have hend':(((i+1:Nat):Int)==((l.length:Nat):Int))=true:=by simp;omega
     rw [e]
     simp -dsimp only [go_sem,hb1,hb2,Option.isSome_some,Option.getD_some,hw,hend',r2.cell,r15.cell]
     exact p0
    obtain ⟨x',j1,j2,hx'⟩:=L.at_ (i+1) (by omega)
    have k4:=p0.keep (hlc (i+1) _ (intsV_get j1)) (by omega)
    have hend':(((i+1:Nat):Int)==((l.length:Nat):Int))=false:=by simp;omega
    have e3:(((i+1:Nat):Int)<((l.length:Nat):Int)):=by omega
    by_cases hxy:(x':Int)=y
    ·simp -dsimp only [go_sem,hb1,hb2,Option.isSome_some,Option.getD_some,hw,hend',e3,k4,bne_t hxy,r2.cell,r15.cell]
     have hok:okB g (natsOf l) i x=true:=by
      have q2:=(show lkOk (rfK g) (x:Int) (natO (lastW g ((natsOf l).take i) (g.ev x).loc))=true by unfold lkOk;rw [hlf])
      have q3:=(show lkOk g.rmw (x:Int) (natO (natsOf l)[i+1]?)=true by unfold lkOk;rw [hlr,j2];simp [natO,hxy])
      unfold okB
      rw [q1,q2,q3];rfl
     by_cases hk2:(g.ev x).kind=2
     ·simp -dsimp only [go_sem,beq_t hk2,r2.cell,r15.cell]
      refine O1.set fun h17 O2 f17 z17=>?_
      have p17:=p0.fresh f17 (by omega)
      have r17:=r2.fr f17 (by omega)
      have M2:=M1.fr f17 (by omega)
      have N2:=N1.fr f17 (by omega)
      simp -dsimp only [go_sem,r2.cell,r15.cell]
      simp -dsimp (disch:=omega) only [wrap64]
      exact ⟨i+1,by omega,by simp [Le,find],by omega,p17,r17,by omega,M2,N2,O2.congr fun c=>mapL_step k2 hk2 c,okU_succ k2 hU hok⟩
     ·simp -dsimp only [go_sem,beq_f hk2,r2.cell,r15.cell]
      simp -dsimp (disch:=omega) only [wrap64]
      exact ⟨i+1,by omega,by simp [Le,find],by omega,p0,r2,by omega,M1,N1,O1.congr fun c=>mapL_same k2 hk2 c,okU_succ k2 hU hok⟩
    ·have e:rightB g l=false:=bad (by unfold okB lkOk;rw [hlr,j2];simp [natO,hxy])
     rw [e]
     simp -dsimp only [go_sem,hb1,hb2,Option.isSome_some,Option.getD_some,hw,hend',e3,k4,bne_f hxy,r2.cell,r15.cell]
     exact p0
  | some w =>
   rw [hlf] at ha1 ha2
   rw [Option.map_some] at ha1 ha2
   simp -dsimp only [go_sem,ha1,ha2,Option.isSome_some,Option.getD_some,r2.cell,r15.cell]
   refine O1.look1 (z:=.int .i64 0) (n:=(g.ev x).loc) fun mc hc1 hc2=>?_
   rw [hql] at hc1 hc2
   cases hlw:lastW g ((natsOf l).take i) (g.ev x).loc with
   | none =>
    rw [hlw] at hc1 hc2
    rw [Option.map_none] at hc1 hc2
    have e:rightB g l=false:=bad (by unfold okB lkOk;rw [hlf,hlw];simp [natO])
    rw [e]
    simp -dsimp only [go_sem,hc1,hc2,Option.isSome_none,r2.cell,r15.cell]
    exact p0
   | some v =>
    rw [hlw] at hc1 hc2
    rw [Option.map_some] at hc1 hc2
    by_cases hvw:(v:Int)=w
    ·simp -dsimp only [go_sem,hc1,hc2,Option.isSome_some,Option.getD_some,bne_t hvw,r2.cell,r15.cell]
     refine N1.look1 (z:=.int .i64 0) (n:=(x:Int)) fun mb hb1 hb2=>?_
     rw [hqr] at hb1 hb2
     cases hlr:lkp g.rmw (x:Int) with
     | none =>
      rw [hlr] at hb1 hb2
      rw [Option.map_none] at hb1 hb2
      simp -dsimp only [go_sem,hb1,hb2,Option.isSome_none,r2.cell,r15.cell]
      have hok:okB g (natsOf l) i x=true:=by
       have q2:=(show lkOk (rfK g) (x:Int) (natO (lastW g ((natsOf l).take i) (g.ev x).loc))=true by unfold lkOk;rw [hlf,hlw];simp [natO,hvw])
       have q3:=(show lkOk g.rmw (x:Int) (natO (natsOf l)[i+1]?)=true by unfold lkOk;rw [hlr])
       unfold okB
       rw [q1,q2,q3];rfl
      by_cases hk2:(g.ev x).kind=2
      ·simp -dsimp only [go_sem,beq_t hk2,r2.cell,r15.cell]
       refine O1.set fun h17 O2 f17 z17=>?_
       have p17:=p0.fresh f17 (by omega)
       have r17:=r2.fr f17 (by omega)
       have M2:=M1.fr f17 (by omega)
       have N2:=N1.fr f17 (by omega)
       simp -dsimp only [go_sem,r2.cell,r15.cell]
       simp -dsimp (disch:=omega) only [wrap64]
       exact ⟨i+1,by omega,by simp [Le,find],by omega,p17,r17,by omega,M2,N2,O2.congr fun c=>mapL_step k2 hk2 c,okU_succ k2 hU hok⟩
      ·simp -dsimp only [go_sem,beq_f hk2,r2.cell,r15.cell]
       simp -dsimp (disch:=omega) only [wrap64]
       exact ⟨i+1,by omega,by simp [Le,find],by omega,p0,r2,by omega,M1,N1,O1.congr fun c=>mapL_same k2 hk2 c,okU_succ k2 hU hok⟩
     | some y =>
      rw [hlr] at hb1 hb2
      rw [Option.map_some] at hb1 hb2
      have hw:IntKind.i64.wrap ((i:Int)+1)=((i+1:Nat):Int):=by rw [wrap64 (by omega) (by omega)];omega
      by_cases hend:i+1=l.length
      ·have e:rightB g l=false:=bad (by
        have:(natsOf l)[i+1]?=none:=List.getElem?_eq_none (by simp [natsOf];omega)
        unfold okB lkOk;rw [hlr,this];simp [natO])
       have hend':(((i+1:Nat):Int)==((l.length:Nat):Int))=true:=by simp;omega
       rw [e]
       simp -dsimp only [go_sem,hb1,hb2,Option.isSome_some,Option.getD_some,hw,hend',r2.cell,r15.cell]
       exact p0
      obtain ⟨x',j1,j2,hx'⟩:=L.at_ (i+1) (by omega)
      have k4:=p0.keep (hlc (i+1) _ (intsV_get j1)) (by omega)
      have hend':(((i+1:Nat):Int)==((l.length:Nat):Int))=false:=by simp;omega
      have e3:(((i+1:Nat):Int)<((l.length:Nat):Int)):=by omega
      by_cases hxy:(x':Int)=y
      ·simp -dsimp only [go_sem,hb1,hb2,Option.isSome_some,Option.getD_some,hw,hend',e3,k4,bne_t hxy,r2.cell,r15.cell]
       have hok:okB g (natsOf l) i x=true:=by
        have q2:=(show lkOk (rfK g) (x:Int) (natO (lastW g ((natsOf l).take i) (g.ev x).loc))=true by unfold lkOk;rw [hlf,hlw];simp [natO,hvw])
        have q3:=(show lkOk g.rmw (x:Int) (natO (natsOf l)[i+1]?)=true by unfold lkOk;rw [hlr,j2];simp [natO,hxy])
        unfold okB
        rw [q1,q2,q3];rfl
       by_cases hk2:(g.ev x).kind=2
       ·simp -dsimp only [go_sem,beq_t hk2,r2.cell,r15.cell]
        refine O1.set fun h17 O2 f17 z17=>?_
        have p17:=p0.fresh f17 (by omega)
        have r17:=r2.fr f17 (by omega)
        have M2:=M1.fr f17 (by omega)
        have N2:=N1.fr f17 (by omega)
        simp -dsimp only [go_sem,r2.cell,r15.cell]
        simp -dsimp (disch:=omega) only [wrap64]
        exact ⟨i+1,by omega,by simp [Le,find],by omega,p17,r17,by omega,M2,N2,O2.congr fun c=>mapL_step k2 hk2 c,okU_succ k2 hU hok⟩
       ·simp -dsimp only [go_sem,beq_f hk2,r2.cell,r15.cell]
        simp -dsimp (disch:=omega) only [wrap64]
        exact ⟨i+1,by omega,by simp [Le,find],by omega,p0,r2,by omega,M1,N1,O1.congr fun c=>mapL_same k2 hk2 c,okU_succ k2 hU hok⟩
      ·have e:rightB g l=false:=bad (by unfold okB lkOk;rw [hlr,j2];simp [natO,hxy])
       rw [e]
       simp -dsimp only [go_sem,hb1,hb2,Option.isSome_some,Option.getD_some,hw,hend',e3,k4,bne_f hxy,r2.cell,r15.cell]
       exact p0
    ·have e:rightB g l=false:=bad (by unfold okB lkOk;rw [hlf,hlw];simp [natO,hvw])
     rw [e]
     simp -dsimp only [go_sem,hc1,hc2,Option.isSome_some,Option.getD_some,bne_f hvw,r2.cell,r15.cell]
     exact p0
end
end Go.Proofs.Tst
/-
  law21: lives; TotalAny.
-/
namespace Go.Proofs.Tst
open Go Go.Vc
instance exDec {α:Type} [DecidableEq α]:DecidableEq (Except Int α)
 | .ok x,.ok y=>if h:x=y then isTrue (by rw [h]) else isFalse (fun e=>by cases e;exact h rfl)
 | .error x,.error y=>if h:x=y then isTrue (by rw [h]) else isFalse (fun e=>by cases e;exact h rfl)
 | .ok _,.error _=>isFalse (fun e=>by cases e)
 | .error _,.ok _=>isFalse (fun e=>by cases e)
theorem lx1:ordA xmG=.ok [0,1,2,3,4,5]:=by decide +kernel
theorem lx2:eachB xmG [0,1,2,3,4,5]=true:=by decide +kernel
theorem lx3:repOk xmG (natsOf [0,1,2,3,4,5])=true:=by decide +kernel
theorem lx4:repFin xmG (natsOf [0,1,2,3,4,5])=[1,1]:=by decide +kernel
theorem lx5:pickA xmG [0,1,2,3,4,5]=.ok [0,0,1,1]:=by decide +kernel
theorem lx6:rightB xmG [0,1,2,3,4,5]=true:=by decide +kernel
theorem lx7:rightB xmG [0,1,4,2,3,5]=false:=by decide +kernel
set_option maxHeartbeats 2000000 in
theorem law21_lives {h:Heap} (ht:TabAt h):Con Tryd.prog 18 #[] h fun v h'=>Fr 0 0 h h'∧v=.bool true:=by
 refine con_q47 ?_
 have p0:Fr 0 0 h h:=.refl _ _ _
 simp -dsimp only [go_sem]
 refine call_of (c_law21_example) ?_
 rintro v1 h1 ⟨f1,q1,rfl,t1⟩
 have f1_z:=f1.size
 replace p0:=p0.F f1
 simp -dsimp only [go_sem]
 refine call_of (total_Order t1 (ht.fr p0 (.inr rfl))) ?_
 rintro v2 h2 ⟨f2,w2⟩
 have f2_z:=f2.size
 replace p0:=p0.F f2
 rw [lx1] at w2
 obtain ⟨s2,rfl,o2⟩:=w2
 replace o2:Holder 1 h2 s2 6 (intsV [0,1,2,3,4,5]) h1.size:=o2
 obtain ⟨a2,c2,rfl⟩:=o2.is
 have d2:=o2.rd
 clear o2
 simp -dsimp only [go_sem]
 refine call_of (c_law21_example) ?_
 rintro v3 h3 ⟨f3,q3,rfl,t3⟩
 have f3_z:=f3.size
 replace p0:=p0.F f3
 replace d2:=d2.fr f3
 simp -dsimp only [go_sem]
 refine call_of (total_Replay (l:=[0,1,2,3,4,5]) t3 (ht.fr p0 (.inr rfl)) d2 (by decide)) ?_
 rintro v4 h4 ⟨f4,w4⟩
 have f4_z:=f4.size
 replace p0:=p0.F f4
 replace d2:=d2.fr f4
 rw [if_pos lx2] at w4
 obtain ⟨s4,rfl,o4⟩:=w4
 rw [lx3]
 rw [lx4] at o4
 obtain ⟨a4,c4,rfl⟩:=o4.is
 have d4:=o4.rd
 clear o4
 simp -dsimp only [go_sem]
 refine call_of (c_law21_example) ?_
 rintro v5 h5 ⟨f5,q5,rfl,t5⟩
 have f5_z:=f5.size
 replace p0:=p0.F f5
 replace d2:=d2.fr f5
 replace d4:=d4.fr f5
 simp -dsimp only [go_sem]
 refine call_of (total_Picks (l:=[0,1,2,3,4,5]) t5 (ht.fr p0 (.inr rfl)) d2 (by decide)) ?_
 rintro v6 h6 ⟨f6,w6⟩
 have f6_z:=f6.size
 replace p0:=p0.F f6
 replace d2:=d2.fr f6
 replace d4:=d4.fr f6
 rw [lx5] at w6
 obtain ⟨s6,rfl,o6⟩:=w6
 obtain ⟨a6,c6,rfl⟩:=o6.is
 have d6:=o6.rd
 clear o6
 simp -dsimp only [go_sem]
 intro b7 h7 n7
 have n7_z:=n7.az
 replace p0:=p0.F n7.f0
 replace d2:=d2.fr n7.f0
 replace d4:=d4.fr n7.f0
 replace d6:=d6.fr n7.f0
 have r7:=n7.row
 simp -dsimp only [go_sem,r7.cell]
 refine call_of (c_law21_ints (l:=[0,1,2,3,4,5]) (m:=[0,1,2,3,4,5]) d2 (Rw.rd (s:=1) (n:=6) (c:=6) r7 rfl) (by decide)) ?_
 rintro v8 h8 ⟨hh,rfl⟩
 obtain rfl:h7=h8:=hh.symm
 simp -dsimp only [go_sem,dec_self,r7.cell]
 intro b9 h9 n9
 have n9_z:=n9.az
 replace p0:=p0.F n9.f0
 replace d2:=d2.fr n9.f0
 replace d4:=d4.fr n9.f0
 replace d6:=d6.fr n9.f0
 replace r7:=r7.F n9.f0
 have r9:=n9.row
 simp -dsimp only [go_sem,r7.cell,r9.cell]
 refine call_of (c_law21_words (l:=[1,1]) (m:=[1,1]) d4 (Rw.rd (s:=1) (n:=2) (c:=2) r9 rfl) (by decide)) ?_
 rintro v10 h10 ⟨hh,rfl⟩
 obtain rfl:h9=h10:=hh.symm
 simp -dsimp only [go_sem,dec_self,r7.cell,r9.cell]
 intro b11 h11 n11
 have n11_z:=n11.az
 replace p0:=p0.F n11.f0
 replace d2:=d2.fr n11.f0
 replace d4:=d4.fr n11.f0
 replace d6:=d6.fr n11.f0
 replace r7:=r7.F n11.f0
 replace r9:=r9.F n11.f0
 have r11:=n11.row
 simp -dsimp only [go_sem,r7.cell,r9.cell,r11.cell]
 refine call_of (c_law21_ints (l:=[0,0,1,1]) (m:=[0,0,1,1]) d6 (Rw.rd (s:=1) (n:=4) (c:=4) r11 rfl) (by decide)) ?_
 rintro v12 h12 ⟨hh,rfl⟩
 obtain rfl:h11=h12:=hh.symm
 simp -dsimp only [go_sem,dec_self,r7.cell,r9.cell,r11.cell]
 refine call_of (c_law21_example) ?_
 rintro v13 h13 ⟨f13,q13,rfl,t13⟩
 have f13_z:=f13.size
 replace p0:=p0.F f13
 replace d2:=d2.fr f13
 replace d4:=d4.fr f13
 replace d6:=d6.fr f13
 replace r7:=r7.F f13
 replace r9:=r9.F f13
 replace r11:=r11.F f13
 simp -dsimp only [go_sem,r7.cell,r9.cell,r11.cell]
 refine call_of (total_Right (l:=[0,1,2,3,4,5]) t13 (ht.fr p0 (.inr rfl)) d2 (by decide)) ?_
 rintro v14 h14 ⟨f14,rfl⟩
 have f14_z:=f14.size
 replace p0:=p0.F f14
 replace d2:=d2.fr f14
 replace d4:=d4.fr f14
 replace d6:=d6.fr f14
 replace r7:=r7.F f14
 replace r9:=r9.F f14
 replace r11:=r11.F f14
 rw [lx6]
 simp -dsimp only [go_sem,r7.cell,r9.cell,r11.cell]
 refine call_of (c_law21_example) ?_
 rintro v15 h15 ⟨f15,q15,rfl,t15⟩
 have f15_z:=f15.size
 replace p0:=p0.F f15
 replace d2:=d2.fr f15
 replace d4:=d4.fr f15
 replace d6:=d6.fr f15
 replace r7:=r7.F f15
 replace r9:=r9.F f15
 replace r11:=r11.F f15
 simp -dsimp only [go_sem,r7.cell,r9.cell,r11.cell]
 intro b16 h16 n16
 have n16_z:=n16.az
 replace p0:=p0.F n16.f0
 replace d2:=d2.fr n16.f0
 replace d4:=d4.fr n16.f0
 replace d6:=d6.fr n16.f0
 replace r7:=r7.F n16.f0
 replace r9:=r9.F n16.f0
 replace r11:=r11.F n16.f0
 have r16:=n16.row
 replace t15:=t15.fr n16.f0
 simp -dsimp only [go_sem,r7.cell,r9.cell,r11.cell,r16.cell]
 refine call_of (total_Right (l:=[0,1,4,2,3,5]) t15 (ht.fr p0 (.inr rfl)) (Rw.rd (s:=1) (n:=6) (c:=6) r16 rfl) (by decide)) ?_
 rintro v17 h17 ⟨f17,rfl⟩
 have f17_z:=f17.size
 replace p0:=p0.F f17
 replace d2:=d2.fr f17
 replace d4:=d4.fr f17
 replace d6:=d6.fr f17
 replace r7:=r7.F f17
 replace r9:=r9.F f17
 replace r11:=r11.F f17
 replace r16:=r16.F f17
 rw [lx7]
 simp -dsimp only [go_sem,r7.cell,r9.cell,r11.cell,r16.cell]
 exact p0
end Go.Proofs.Tst
/-
  TotalAny.
-/
namespace Go.Proofs.Tst
open Go Go.Vc
def castL (m:List Nat):List Int:=m.map fun (p:Nat)=>(p:Int)
theorem natsOf_cast (m:List Nat):natsOf (castL m)=m:=by
 unfold natsOf castL
 rw [List.map_map]
 conv=>rhs;rw [← List.map_id m]
 exact List.map_congr_left fun x _=>by simp
theorem natsV_cast (m:List Nat):natsV m=intsV (castL m):=natsV_ints m
theorem castL_len (m:List Nat):(castL m).length=m.length:=by simp [castL]
section
variable {g : Gr} {m : List Nat}
theorem ord_ok (hg:g.good=true) (h0:(scAx g).1=0):ordA g=glueS g.n (allM g) g.rmw:=by unfold ordA;rw [if_pos hg,if_pos h0]
theorem right_cast (hg:g.good=true) (R:Right g m):rightB g (castL m)=true:=rightB_iff.2 ⟨hg,by rw [natsOf_cast];rfl,by rw [natsOf_cast];exact R⟩
theorem each_cast (hg:g.good=true) (R:Right g m):eachB g (castL m)=true:=right_each hg (by rw [natsOf_cast];rfl) (by rw [natsOf_cast];exact R)
theorem rep_cast (hg:g.good=true) (R:Right g m):repOk g (natsOf (castL m))=true∧repFin g (natsOf (castL m))=finals g:=by rw [natsOf_cast];exact right_rep hg R
end
end Go.Proofs.Tst
/-
  TotalRow.
-/
namespace Go.Proofs.Tst
open Go Go.Vc
def atTo (m:List Nat) (i x:Nat):Int:=if m.idxOf x<i then ((m.idxOf x+1:Nat):Int) else 0
section
variable {g : Gr} {m : List Nat}
theorem atTo_step (hm:m.Nodup) {i x:Nat} (hx:m[i]?=some x) (k:Nat) (hk:k∈m):(if k=x then ((i+1:Nat):Int) else atTo m i k)=atTo m (i+1) k:=by
 have ex:=nodup_at hm hx
 unfold atTo
 by_cases h:k=x
 ·subst h;rw [if_pos rfl,ex,if_pos (by omega)]
 ·rw [if_neg h]
  have hne:m.idxOf k≠i:=fun e=>by
   have:=at_nodup hk
   rw [e,hx] at this
   simp at this;omega
  by_cases h2:m.idxOf k<i
  ·rw [if_pos h2,if_pos (by omega)]
  ·rw [if_neg h2,if_neg (by omega)]
theorem row_po (hg:g.good=true) (h:glueS g.n (allM g) g.rmw=.ok m) (R:Right g m) {i j:Nat} (hij:i<j) (hj:j<g.n) (hth:(g.ev i).thread<0∨(g.ev i).thread=(g.ev j).thread):m.idxOf i<m.idxOf j:=by
 by_cases h0:(g.ev i).thread<0
 ·have hi:(i:Int)<g.cells:=by
   rcases ev_init hg (show i<g.n by omega) with ⟨-,-,t,-⟩ | ⟨t,-⟩ <;> omega
  have e1:=nodup_at R.pre.1 (order_init hg h hi)
  have e2:=at_nodup (R.mem hj)
  rw [e1]
  apply Classical.byContradiction;intro hlt
  have h3:=order_init hg h (i:=m.idxOf j) (by omega)
  rw [e2] at h3
  simp at h3;omega
 ·have h1:(g.ev i).thread=(g.ev j).thread:=by omega
  refine R.po ?_
  show g.before i j=true
  unfold Gr.before
  simp only [Bool.and_eq_true,decide_eq_true_eq,beq_iff_eq,Int.toNat_natCast]
  refine ⟨⟨⟨⟨?_,?_⟩,?_⟩,?_⟩,h1⟩ <;> omega
theorem row_rd (hg:g.good=true) (R:Right g m) {w r i:Nat} (hw:relM g 1 w r=true) (hi:i<g.n) (hk:(g.ev i).kind=2) (hl:(g.ev i).loc=(g.ev r).loc) (hlt:m.idxOf i<m.idxOf r):m.idxOf i≤m.idxOf w:=by
 obtain ⟨k,h1,-,h3⟩:=lastW_some (R.rd hg hw)
 rw [take_at] at h1
 have e1:=nodup_at R.pre.1 h1.2
 apply Classical.byContradiction;intro hn
 have:=h3 (m.idxOf i) i (by omega) (take_at.2 ⟨hlt,at_nodup (R.mem hi)⟩)
 rw [Bool.eq_false_iff] at this
 exact this (wrB_iff.2 ⟨hk,hl⟩)
theorem row_co (hg:g.good=true) (R:Right g m) {c i a b:Nat} (hc:c<g.co.length) (ha:(g.co.getD c [])[i]?=some (a:Int)) (hb:(g.co.getD c [])[i+1]?=some (b:Int)):m.idxOf a<m.idxOf b:=by
 have hp:=list_coPairs hc (lpairs_at (by omega) ha hb)
 have k1:=is_lt ((co_list hg hc).2.1 _ (List.mem_of_getElem? ha)).1
 have k2:=is_lt ((co_list hg hc).2.1 _ (List.mem_of_getElem? hb)).1
 exact R.co hg ((ofM_mem (by omega) (by omega)).2 hp)
end
set_option maxHeartbeats 16000000 in
theorem c_law21_TotalRow {h:Heap} {q:GV} {g:Gr} (t:GrAt h q g) (ht:TabAt h) :
  Con Tryd.prog 8 #[.agg (gcells q g).toArray] h fun v h'=>Fr 0 0 h h'∧v=.bool true:=by
 refine con_q43 ?_
 have p0:Fr 0 0 h h:=.refl _ _ _
 have bf:=t.fits.f
 have br:=t.fits.r
 have bo:=t.fits.o
 have hen:g.evs.length=g.n:=rfl
 unfold gcells
 simp -dsimp only [go_sem]
 intro b1 h1 n1
 have n1_z:=n1.az
 replace p0:=p0.F n1.f0
 have r1:=n1.row
 simp -dsimp only [go_sem,r1.cell]
 refine call_of (total_Order (t.fr p0) (ht.fr p0 (.inr rfl))) ?_
 rintro v2 h2 ⟨f2,w2⟩
 have f2_z:=f2.size
 replace p0:=p0.F f2
 replace r1:=r1.F f2
 by_cases hg:g.good=true
 rotate_left
 ·have ho:ordA g=.error 4:=by unfold ordA;rw [if_neg hg]
  rw [ho] at w2
  have w2:v2=.tuple #[.slice none 0 0,.int .i64 4]:=w2
  subst w2
  simp -dsimp only [go_sem,r1.cell]
  refine call_of (seq_Sc (t.fr p0) (ht.fr p0 (.inr rfl))) ?_
  rintro v3 h3 ⟨f3,w3⟩
  have f3_z:=f3.size
  replace p0:=p0.F f3
  replace r1:=r1.F f3
  rw [if_neg hg] at w3
  subst w3
  have e0:(((0:Nat):Int)==0)=true:=rfl
  simp -dsimp only [go_sem,e0,r1.cell]
  refine call_of (law21_lives (ht.fr p0 (.inr rfl))) ?_
  rintro v4 h4 ⟨f4,rfl⟩
  have f4_z:=f4.size
  replace p0:=p0.F f4
  replace r1:=r1.F f4
  simp -dsimp only [go_sem,r1.cell]
  exact p0
 by_cases h0:(scAx g).1=0
 rotate_left
 ·have ho:ordA g=.error 3:=by unfold ordA;rw [if_pos hg,if_neg h0]
  rw [ho] at w2
  have w2:v2=.tuple #[.slice none 0 0,.int .i64 3]:=w2
  subst w2
  simp -dsimp only [go_sem,r1.cell]
  refine call_of (seq_Sc (t.fr p0) (ht.fr p0 (.inr rfl))) ?_
  rintro v3 h3 ⟨f3,w3⟩
  have f3_z:=f3.size
  replace p0:=p0.F f3
  replace r1:=r1.F f3
  rw [if_pos hg] at w3
  obtain ⟨w3,rfl,o3⟩:=w3
  clear o3
  have e0:(((0:Nat):Int)==0)=true:=rfl
  simp -dsimp only [go_sem,beq_f h0,bne_f h0,e0,r1.cell]
  refine call_of (law21_lives (ht.fr p0 (.inr rfl))) ?_
  rintro v4 h4 ⟨f4,rfl⟩
  have f4_z:=f4.size
  replace p0:=p0.F f4
  replace r1:=r1.F f4
  simp -dsimp only [go_sem,r1.cell]
  exact p0
 obtain ⟨m,hm⟩:=order_ok hg h0
 have hord:=ord_ok hg h0
 rw [hm] at hord
 have R:=order_right hg hm
 have hml:m.length=g.n:=R.len
 have hn:=(good_n hg).1
 have rm:=rep_cast hg R
 have hcl:(castL m).length=g.n:=by rw [castL_len,hml]
 have hat:∀ i,i<g.n→∃ x,m[i]?=some x∧(castL m)[i]?=some (x:Int)∧x<g.n:=fun i hi=>by
  have h1:m[i]?=some m[i]:=List.getElem?_eq_getElem (by omega)
  exact ⟨m[i],h1,by unfold castL;rw [List.getElem?_map,h1];rfl,R.lt h1⟩
 have hfl:(finals g).length≤4611686018427387904:=by unfold finals;rw [List.length_map];omega
 rw [hord] at w2
 obtain ⟨s2,rfl,o2⟩:=w2
 rw [natsV_cast,hml] at o2
 obtain ⟨a2,c2,rfl⟩:=o2.is
 have d2:=o2.rd
 clear o2
 have p2:Fr 0 0 h2 h2:=.refl _ _ _
 simp -dsimp only [go_sem,r1.cell]
 refine call_of (seq_Sc (t.fr p0) (ht.fr p0 (.inr rfl))) ?_
 rintro v3 h3 ⟨f3,w3⟩
 have f3_z:=f3.size
 replace p0:=p0.F f3
 replace r1:=r1.F f3
 replace p2:=p2.F f3
 rw [if_pos hg] at w3
 obtain ⟨w3,rfl,o3⟩:=w3
 clear o3
 rw [h0]
 simp -dsimp only [go_sem,hen,r1.cell]
 refine Chk_intro (by omega) ?_
 have hir:∀ k,List.replicate k (Value.int .i64 0)=irow k fun _=>0:=fun k=>by
  apply List.ext_getElem?;intro j;by_cases hj:j<k <;> simp [irow,hj]
 rw [zeros_one,Int.toNat_natCast,hir]
 intro b8 h4 n4
 have n4_z:=n4.az
 replace p0:=p0.F n4.f0
 replace r1:=r1.F n4.f0
 replace p2:=p2.F n4.f0
 have r8:=n4.row
 have ez:irow g.n (fun _=>0)=irow g.n (atTo m 0):=by unfold irow;exact List.map_congr_left fun j _=>by simp [atTo]
 rw [ez] at r8
 have R1:Rw h4 b1 (gcells q g):=r1
 have R8:=r8
 have g4:h.size≤b1∧h2.size≤b8∧b1<h2.size∧b8<h4.size∧h.size≤h2.size:=by omega
 simp -dsimp only [go_sem,r1.cell,r8.cell]
 refine loop_intro (fun i:Nat=>[(1,.pointer (some ⟨b1,0,none⟩)),(3,.slice a2 g.n c2),(8,.slice (some ⟨b8,0,none⟩) g.n g.n),(9,.int .i64 i)])
  (fun i h'=>i≤g.n∧Fr 0 0 h h'∧Fr 0 0 h2 h'∧Rw h' b1 (gcells q g)∧Rw h' b8 (irow g.n (atTo m i))) (fun i=>g.n - i) 0 ?_ ?_ ?_
 ·simp [Le,find]
 ·exact ⟨by omega,p0,p2,R1,R8⟩
 clear p0 p2 r1 r8 R1 R8
 rintro i h5 ⟨hi,p0,p2,r1,r8⟩
 unfold gcells at r1
 have p0_z:=p0.size
 have p2_z:=p2.size
 have r1_l:=r1.lt
 have r8_l:=r8.lt
 by_cases hlt:i<g.n
 ·have e1:((i:Int)<(g.n:Int)):=by omega
  obtain ⟨x,k1,k2,hx⟩:=hat i hlt
  obtain ⟨hd1,a',c',hd2,hd3⟩:=d2
  cases hd2
  rcases hd3 with hd3 | ⟨lb,lo,rfl,hlc⟩
  ·omega
  have k3:=p2.keep (hlc i _ (intsV_get k2)) (by omega)
  have e2:¬ ((x:Int)<0):=by omega
  have e3:¬ ((x:Int)≥(g.n:Int)):=by omega
  have e4:((x:Int)<(g.n:Int)):=by omega
  have q8:hcell h5 b8 x=some (.int .i64 0):=by
   rw [r8.cell];unfold irow;rw [List.getElem?_map,List.getElem?_range hx]
   have:atTo m i x=0:=by unfold atTo;rw [nodup_at R.pre.1 k1,if_neg (by omega)]
   show some (Value.int .i64 (atTo m i x))=_
   rw [this]
  simp -dsimp only [go_sem,e1,k3,e2,e3,e4,q8,r1.cell,r8.cell]
  have hw:IntKind.i64.wrap ((i:Int)+1)=((i+1:Nat):Int):=by rw [wrap64 (by omega) (by omega)];omega
  refine Chk_intro (r8.wr (by simp;omega)) fun h6 s6=>?_
  have r6:=s6.row r8
  rw [cl_int,putAt_one] at r6
  try rw [hw] at r6
  rw [irow_set] at r6
  have ee:(irow g.n fun k=>if k=x then ((i+1:Nat):Int) else atTo m i k)=irow g.n (atTo m (i+1)):=by
   unfold irow;exact List.map_congr_left fun k hk=>by dsimp only;rw [atTo_step R.pre.1 k1 k (R.mem (List.mem_range.1 hk))]
  rw [ee] at r6
  clear r8
  have f6:=s6.fr
  have f6_z:=f6.size
  replace p0:=p0.F f6
  replace p2:=p2.F f6
  replace r1:=r1.F f6
  simp -dsimp only [go_sem,r1.cell]
  simp -dsimp (disch:=omega) only [wrap64]
  exact ⟨i+1,by omega,by simp [Le,find],by omega,p0,p2,r1,r6⟩
 obtain rfl:i=g.n:=by omega
 have ee:irow g.n (atTo m g.n)=irow g.n (fun x=>((m.idxOf x+1:Nat):Int)):=by
  unfold irow
  refine List.map_congr_left fun x hx=>?_
  dsimp only
  unfold atTo
  rw [if_pos (by have:=List.idxOf_lt_length_iff.2 (R.mem (List.mem_range.1 hx));omega)]
 rw [ee] at r8
 have cel:∀ h',Rw h' b8 (irow g.n (fun x=>((m.idxOf x+1:Nat):Int)))→∀ x,x<g.n→hcell h' b8 x=some (.int .i64 ((m.idxOf x+1:Nat):Int)):=fun h' r x hx=>by
  rw [r.cell];unfold irow;rw [List.getElem?_map,List.getElem?_range hx];rfl
 have e0:((g.n:Int) != (g.n:Int))=false:=bne_self_eq_false _
 have R1:Rw h5 b1 (gcells q g):=r1
 have R8:=r8
 have P0:=p0
 have P2:=p2
 have z5:h4.size≤h5.size∨True:=.inr trivial
 clear z5
 have zb:b8<h5.size∧b1<h5.size∧h.size≤h5.size:=by omega
 simp -dsimp only [go_sem,Int.lt_irrefl,e0,r1.cell,r8.cell]
 refine loop_intro (fun i:Nat=>[(1,.pointer (some ⟨b1,0,none⟩)),(3,.slice a2 g.n c2),(8,.slice (some ⟨b8,0,none⟩) g.n g.n),(10,.int .i64 i)])
  (fun i h'=>i≤g.n∧Fr 0 0 h h'∧Fr 0 0 h2 h'∧h5.size≤h'.size∧Rw h' b1 (gcells q g)∧Rw h' b8 (irow g.n (fun x=>((m.idxOf x+1:Nat):Int)))) (fun i=>g.n - i) 0 ?_ ?_ ?_
 ·simp [Le,find]
 ·exact ⟨by omega,P0,P2,by omega,R1,R8⟩
 clear p0 p2 r1 r8 R1 R8 P0 P2 hlt hi
 rintro i h6 ⟨hi,p0,p2,z6,r1,r8⟩
 by_cases hlt:i<g.n
 ·have R1:=r1
  have R8:=r8
  unfold gcells at r1
  have e1:((i:Int)<(g.n:Int)):=by omega
  have p0_z:=p0.size
  have p2_z:=p2.size
  have r1_l:=r1.lt
  have r8_l:=r8.lt
  simp -dsimp only [go_sem,e1,r1.cell,r8.cell]
  simp -dsimp (disch:=omega) only [wrap64]
  refine loop_intro (fun j:Nat=>[(1,.pointer (some ⟨b1,0,none⟩)),(3,.slice a2 g.n c2),(8,.slice (some ⟨b8,0,none⟩) g.n g.n),(10,.int .i64 i),(11,.int .i64 j)])
   (fun j h'=>i<j∧j≤g.n∧Fr 0 0 h h'∧Fr 0 0 h2 h'∧h5.size≤h'.size∧Rw h' b1 (gcells q g)∧Rw h' b8 (irow g.n (fun x=>((m.idxOf x+1:Nat):Int)))) (fun j=>g.n - j) (i+1) ?_ ?_ ?_
  ·simp [Le,find]
  ·exact ⟨by omega,by omega,p0,p2,by omega,R1,R8⟩
  clear p0 p2 r1 r8 R1 R8
  rintro j h7 ⟨hij,hj,p0,p2,z7,r1,r8⟩
  unfold gcells at r1
  have p0_z:=p0.size
  have p2_z:=p2.size
  have r1_l:=r1.lt
  have r8_l:=r8.lt
  by_cases hjn:j<g.n
  ·have e2:((j:Int)<(g.n:Int)):=by omega
   obtain ⟨eb,eo,hee,hev⟩:=t.evs (by omega)
   obtain ⟨c0,c1,c2',c3,c4⟩:=hev h7 p0 i hlt
   have e1':((i:Int)<(g.evs.length:Int)):=e1
   simp -dsimp only [go_sem,e2,hee,e1',c0,c1,c2',c3,c4,r1.cell,r8.cell]
   intro b12 h8 n8
   have n8_z:=n8.az
   replace p0:=p0.F n8.f0
   replace p2:=p2.F n8.f0
   replace r1:=r1.F n8.f0
   replace r8:=r8.F n8.f0
   have r12:=n8.row
   simp -dsimp only [go_sem,r1.cell,r8.cell,r12.cell]
   refine Chk_intro (r12.W) fun h9 s9=>?_
   have s9_z:=s9.size
   replace p0:=p0.F s9.fr
   replace p2:=p2.F s9.fr
   replace r1:=r1.F s9.fr
   replace r8:=r8.F s9.fr
   replace r12:=s9.row r12
   try simp only [cl_int,cl_bool,cl_slice,cl_ptr,putAt_one,zs0,zs1,ivec_set,brow_upd] at r12
   try simp -dsimp only [go_sem] at r12
   obtain ⟨d0,d1,d2',d3,d4⟩:=hev h9 p0 j hjn
   have e2':((j:Int)<(g.evs.length:Int)):=e2
   simp -dsimp only [go_sem,hee,e2',d0,d1,d2',d3,d4,r1.cell,r8.cell,r12.cell]
   intro b13 h10 n10
   have n10_z:=n10.az
   replace p0:=p0.F n10.f0
   replace p2:=p2.F n10.f0
   replace r1:=r1.F n10.f0
   replace r8:=r8.F n10.f0
   replace r12:=r12.F n10.f0
   have r13:=n10.row
   simp -dsimp only [go_sem,r1.cell,r8.cell,r12.cell,r13.cell]
   refine Chk_intro (r13.W) fun h11 s11=>?_
   have s11_z:=s11.size
   replace p0:=p0.F s11.fr
   replace p2:=p2.F s11.fr
   replace r1:=r1.F s11.fr
   replace r8:=r8.F s11.fr
   replace r12:=r12.F s11.fr
   replace r13:=s11.row r13
   try simp only [cl_int,cl_bool,cl_slice,cl_ptr,putAt_one,zs0,zs1,ivec_set,brow_upd] at r13
   try simp -dsimp only [go_sem] at r13
   have q1:=cel h11 r8 i hlt
   have q2:=cel h11 r8 j hjn
   simp -dsimp only [go_sem,r1.cell,r8.cell,r12.cell,r13.cell]
   by_cases a1:(g.ev i).thread<0
   ·have hlt':=row_po hg hm R hij hjn (.inl a1)
    have e5:¬ (((m.idxOf i+1:Nat):Int) > ((m.idxOf j+1:Nat):Int)):=by omega
    simp -dsimp only [go_sem,a1,e1,e2,q1,q2,e5,r1.cell,r8.cell,r12.cell,r13.cell]
    simp -dsimp (disch:=omega) only [wrap64]
    exact ⟨j+1,by omega,by simp [Le,find],by omega,by omega,p0,p2,by omega,r1,r8⟩
   ·by_cases a2':(g.ev i).thread=(g.ev j).thread
    ·have hlt':=row_po hg hm R hij hjn (.inr a2')
     have e5:¬ (((m.idxOf i+1:Nat):Int) > ((m.idxOf j+1:Nat):Int)):=by omega
     simp -dsimp only [go_sem,a1,beq_t a2',e1,e2,q1,q2,e5,r1.cell,r8.cell,r12.cell,r13.cell]
     simp -dsimp (disch:=omega) only [wrap64]
     exact ⟨j+1,by omega,by simp [Le,find],by omega,by omega,p0,p2,by omega,r1,r8⟩
    ·simp -dsimp only [go_sem,a1,beq_f a2',r1.cell,r8.cell,r12.cell,r13.cell]
     simp -dsimp (disch:=omega) only [wrap64]
     exact ⟨j+1,by omega,by simp [Le,find],by omega,by omega,p0,p2,by omega,r1,r8⟩
  ·obtain rfl:j=g.n:=by omega
   simp -dsimp only [go_sem,Int.lt_irrefl,r1.cell,r8.cell]
   simp -dsimp (disch:=omega) only [wrap64]
   exact ⟨i+1,by omega,by simp [Le,find],by omega,p0,p2,by omega,r1,r8⟩
 obtain rfl:i=g.n:=by omega
 have R1:=r1
 have R8:=r8
 unfold gcells at r1
 have p0_z:=p0.size
 have p2_z:=p2.size
 have r1_l:=r1.lt
 have r8_l:=r8.lt
 simp -dsimp only [go_sem,Int.lt_irrefl,r1.cell,r8.cell]
 refine loop_intro (fun k:Nat=>[(1,.pointer (some ⟨b1,0,none⟩)),(3,.slice a2 g.n c2),(8,.slice (some ⟨b8,0,none⟩) g.n g.n),(14,.int .i64 k)])
  (fun k h'=>k≤g.rf.length∧h'=h6) (fun k=>g.rf.length - k) 0 ?_ ?_ ?_
 ·simp [Le,find]
 ·exact ⟨by omega,rfl⟩
 rintro k h7 ⟨hk,hh⟩
 obtain rfl:h6=h7:=hh.symm
 by_cases hkl:k<g.rf.length
 ·have e1:((k:Int)<(g.rf.length:Int)):=by omega
  have hq:g.rf[k]?=some g.rf[k]:=List.getElem?_eq_getElem hkl
  generalize g.rf[k]=pr at hq
  have hpm:=List.mem_of_getElem? hq
  obtain ⟨words,hz⟩:=good_check hg
  obtain ⟨w,r,he,hw,hr,-⟩:=rf_pair hz hpm
  subst he
  have hrf:relM g 1 w r=true:=(ofM_mem hw hr).2 hpm
  have hwr:=R.rf hg hrf
  obtain ⟨rb,ro,hre,hrc⟩:=t.f.pairsAt (by omega)
  obtain ⟨j1,j2⟩:=hrc h6 p0 k _ hq
  dsimp only at j1 j2
  simp -dsimp only [go_sem,e1,hre,j1,j2,r1.cell,r8.cell]
  refine loop_intro (fun j:Nat=>[(1,.pointer (some ⟨b1,0,none⟩)),(3,.slice a2 g.n c2),(8,.slice (some ⟨b8,0,none⟩) g.n g.n),(14,.int .i64 k),(15,.int .i64 w),(16,.int .i64 r),(17,.int .i64 j)])
   (fun j h'=>j≤g.n∧h'=h6) (fun j=>g.n - j) 0 ?_ ?_ ?_
  ·simp [Le,find]
  ·exact ⟨by omega,rfl⟩
  rintro j h8 ⟨hj,hh⟩
  obtain rfl:h6=h8:=hh.symm
  by_cases hjn:j<g.n
  ·have e2:((j:Int)<(g.n:Int)):=by omega
   have e3:((r:Int)<(g.n:Int)):=by omega
   have e4:((w:Int)<(g.n:Int)):=by omega
   have e2':((j:Int)<(g.evs.length:Int)):=e2
   have e3':((r:Int)<(g.evs.length:Int)):=e3
   obtain ⟨eb,eo,hee,hev⟩:=t.evs (by omega)
   obtain ⟨c0,c1,c2',c3,c4⟩:=hev h6 p0 j hjn
   obtain ⟨d0,d1,d2',d3,d4⟩:=hev h6 p0 r hr
   have q1:=cel h6 r8 j hjn
   have q2:=cel h6 r8 r hr
   have q3:=cel h6 r8 w hw
   have n5:¬ (((m.idxOf w+1:Nat):Int) > ((m.idxOf r+1:Nat):Int)):=by omega
   by_cases a1:(g.ev j).kind=2
   ·by_cases a2':(g.ev j).loc=(g.ev r).loc
    ·by_cases a3:((m.idxOf j+1:Nat):Int)<((m.idxOf r+1:Nat):Int)
     ·have hle:=row_rd hg R hrf hjn a1 a2' (by omega)
      have n4:¬ (((m.idxOf j+1:Nat):Int) > ((m.idxOf w+1:Nat):Int)):=by omega
      simp -dsimp only [go_sem,e2,hee,e2',e3',c1,c2',d2',beq_t a1,beq_t a2',q1,q2,q3,a3,n4,n5,e3,e4,r1.cell,r8.cell]
      simp -dsimp (disch:=omega) only [wrap64]
      exact ⟨j+1,by omega,by simp [Le,find],by omega⟩
     ·simp -dsimp only [go_sem,e2,hee,e2',e3',c1,c2',d2',beq_t a1,beq_t a2',q1,q2,q3,a3,n5,e3,e4,r1.cell,r8.cell]
      simp -dsimp (disch:=omega) only [wrap64]
      exact ⟨j+1,by omega,by simp [Le,find],by omega⟩
    ·simp -dsimp only [go_sem,e2,hee,e2',e3',c1,c2',d2',beq_t a1,beq_f a2',q1,q2,q3,n5,e3,e4,r1.cell,r8.cell]
     simp -dsimp (disch:=omega) only [wrap64]
     exact ⟨j+1,by omega,by simp [Le,find],by omega⟩
   ·simp -dsimp only [go_sem,e2,hee,e2',e3',c1,beq_f a1,q1,q2,q3,n5,e3,e4,r1.cell,r8.cell]
    simp -dsimp (disch:=omega) only [wrap64]
    exact ⟨j+1,by omega,by simp [Le,find],by omega⟩
  ·obtain rfl:j=g.n:=by omega
   simp -dsimp only [go_sem,Int.lt_irrefl,r1.cell,r8.cell]
   simp -dsimp (disch:=omega) only [wrap64]
   exact ⟨k+1,by omega,by simp [Le,find,hre],by omega⟩
 obtain rfl:k=g.rf.length:=by omega
 simp -dsimp only [go_sem,Int.lt_irrefl,r1.cell,r8.cell]
 refine loop_intro (fun k:Nat=>[(1,.pointer (some ⟨b1,0,none⟩)),(3,.slice a2 g.n c2),(8,.slice (some ⟨b8,0,none⟩) g.n g.n),(18,.int .i64 k)])
  (fun k h'=>k≤g.rmw.length∧h'=h6) (fun k=>g.rmw.length - k) 0 ?_ ?_ ?_
 ·simp [Le,find]
 ·exact ⟨by omega,rfl⟩
 rintro k h7 ⟨hk,hh⟩
 obtain rfl:h6=h7:=hh.symm
 by_cases hkl:k<g.rmw.length
 ·have e1:((k:Int)<(g.rmw.length:Int)):=by omega
  have hq:g.rmw[k]?=some g.rmw[k]:=List.getElem?_eq_getElem hkl
  generalize g.rmw[k]=pr at hq
  have hpm:=List.mem_of_getElem? hq
  obtain ⟨a,b,he,P⟩:=pair_ok hg hpm
  subst he
  have had:=R.adj hg hpm
  obtain ⟨rb,ro,hre,hrc⟩:=t.r.pairsAt (by omega)
  obtain ⟨j1,j2⟩:=hrc h6 p0 k _ hq
  dsimp only at j1 j2
  have la:=P.la
  have lb':=P.lb
  have q1:=cel h6 r8 a la
  have q2:=cel h6 r8 b lb'
  have e2:((a:Int)<(g.n:Int)):=by omega
  have e3:((b:Int)<(g.n:Int)):=by omega
  have ml:=List.idxOf_lt_length_iff.2 (R.mem la)
  have hw:IntKind.i64.wrap (((m.idxOf a+1:Nat):Int)+1)=((m.idxOf b+1:Nat):Int):=by rw [wrap64 (by omega) (by omega)];omega
  have e4:(((m.idxOf b+1:Nat):Int) != ((m.idxOf b+1:Nat):Int))=false:=bne_self_eq_false _
  simp -dsimp only [go_sem,e1,hre,j1,j2,e2,e3,q1,q2,hw,e4,r1.cell,r8.cell]
  simp -dsimp (disch:=omega) only [wrap64]
  exact ⟨k+1,by omega,by simp [Le,find,hre],by omega⟩
 obtain rfl:k=g.rmw.length:=by omega
 simp -dsimp only [go_sem,Int.lt_irrefl,r1.cell,r8.cell]
 refine loop_intro (fun c:Nat=>[(1,.pointer (some ⟨b1,0,none⟩)),(3,.slice a2 g.n c2),(8,.slice (some ⟨b8,0,none⟩) g.n g.n),(19,.int .i64 c)])
  (fun c h'=>c≤g.co.length∧h'=h6) (fun c=>g.co.length - c) 0 ?_ ?_ ?_
 ·simp [Le,find]
 ·exact ⟨by omega,rfl⟩
 rintro c h7 ⟨hc,hh⟩
 obtain rfl:h6=h7:=hh.symm
 by_cases hcl':c<g.co.length
 ·have e1:((c:Int)<(g.co.length:Int)):=by omega
  obtain ⟨ob,oo,hoe,oa,oc,hol⟩:=rl_at t.o c hcl'
  obtain ⟨ho1,ho2⟩:=hol h6 p0
  have hll:=t.fits.l (g.co.getD c []) (by have:g.co[c]?=some (g.co.getD c []):=by { simp [hcl'] };exact List.mem_of_getElem? this)
  simp -dsimp only [go_sem,e1,r1.cell,r8.cell]
  refine loop_intro (fun j:Nat=>[(1,.pointer (some ⟨b1,0,none⟩)),(3,.slice a2 g.n c2),(8,.slice (some ⟨b8,0,none⟩) g.n g.n),(19,.int .i64 c),(20,.int .i64 j)])
   (fun j h'=>1≤j∧(j≤(g.co.getD c []).length∨j=1)∧h'=h6) (fun j=>(g.co.getD c []).length - j) 1 ?_ ?_ ?_
  ·simp [Le,find]
  ·exact ⟨by omega,by omega,rfl⟩
  rintro j h8 ⟨hj1,hj,hh⟩
  obtain rfl:h6=h8:=hh.symm
  by_cases hjl:j<(g.co.getD c []).length
  ·have e2:((j:Int)<((g.co.getD c []).length:Int)):=by omega
   obtain ⟨hl1,oa',oc',hl2,hl3⟩:=ho2
   cases hl2
   rcases hl3 with hl3 | ⟨zb,zo,rfl,hzc⟩
   ·omega
   obtain ⟨j',rfl⟩:∃ j',j=j' + 1:=⟨j - 1,by omega⟩
   have hx1:(g.co.getD c [])[j']?=some (g.co.getD c [])[j']:=List.getElem?_eq_getElem (by omega)
   have hx2:(g.co.getD c [])[j' + 1]?=some (g.co.getD c [])[j' + 1]:=List.getElem?_eq_getElem hjl
   generalize (g.co.getD c [])[j']=u1 at hx1
   generalize (g.co.getD c [])[j' + 1]=u2 at hx2
   have i1:=is_lt ((co_list hg hcl').2.1 _ (List.mem_of_getElem? hx1)).1
   have i2:=is_lt ((co_list hg hcl').2.1 _ (List.mem_of_getElem? hx2)).1
   obtain ⟨x1,rfl⟩:=Int.eq_ofNat_of_zero_le i1.1
   obtain ⟨x2,rfl⟩:=Int.eq_ofNat_of_zero_le i2.1
   have hlt':=row_co hg R hcl' hx1 hx2
   have k1:=hzc _ _ (intsV_get hx1)
   have k2:=hzc _ _ (intsV_get hx2)
   have q1:=cel h6 r8 x1 (by omega)
   have q2:=cel h6 r8 x2 (by omega)
   have e3:((x1:Int)<(g.n:Int)):=by omega
   have e4:((x2:Int)<(g.n:Int)):=by omega
   have e5:¬ (((m.idxOf x1+1:Nat):Int) > ((m.idxOf x2+1:Nat):Int)):=by omega
   have hw:IntKind.i64.wrap (((j' + 1:Nat):Int) - 1)=(j':Int):=by rw [wrap64 (by omega) (by omega)];omega
   have e6:((j':Int)<((g.co.getD c []).length:Int)):=by omega
   simp -dsimp only [go_sem,e1,hoe,ho1,e2,hw,e6,k1,k2,q1,q2,e3,e4,e5,r1.cell,r8.cell]
   simp -dsimp (disch:=omega) only [wrap64]
   exact ⟨j' + 1+1,by omega,by simp [Le,find],by omega,by omega⟩
  ·have e2:¬ ((j:Int)<((g.co.getD c []).length:Int)):=by omega
   simp -dsimp only [go_sem,e1,hoe,ho1,e2,r1.cell,r8.cell]
   simp -dsimp (disch:=omega) only [wrap64]
   exact ⟨c+1,by omega,by simp [Le,find,hoe],by omega⟩
 obtain rfl:c=g.co.length:=by omega
 simp -dsimp only [go_sem,Int.lt_irrefl,r1.cell,r8.cell]
 have d6:Rd 1 h6 (.slice a2 (castL m).length c2) (castL m).length (intsV (castL m)):=by rw [hcl];exact d2.fr p2
 have hs:(Value.slice a2 g.n c2)=.slice a2 (castL m).length c2:=by rw [hcl]
 rw [hs]
 have hb9:(castL m).length≤4611686018427387904:=by omega
 have hec:=each_cast hg R
 have hrc:=right_cast hg R
 clear d2 cel hs hat hcl hml hm hord
 generalize castL m=L at *
 refine call_of (total_Replay (l:=L) (t.fr p0) (ht.fr p0 (.inr rfl)) d6 hb9) ?_
 rintro v9 h9 ⟨f9,w9⟩
 have p9:Fr 0 0 h6 h6:=.refl _ _ _
 have f9_z:=f9.size
 replace p0:=p0.F f9
 replace p2:=p2.F f9
 replace r1:=r1.F f9
 replace r8:=r8.F f9
 replace p9:=p9.F f9
 rw [if_pos hec,rm.1,rm.2] at w9
 obtain ⟨s9,rfl,o9⟩:=w9
 obtain ⟨a9,c9,rfl⟩:=o9.is
 have d9:=o9.rd
 clear o9
 simp -dsimp only [go_sem,r1.cell,r8.cell]
 refine call_of (graph_Final (t.fr p0)) ?_
 rintro v10 h10 ⟨f10,w10⟩
 have f10_z:=f10.size
 replace p0:=p0.F f10
 replace p2:=p2.F f10
 replace r1:=r1.F f10
 replace r8:=r8.F f10
 replace p9:=p9.F f10
 replace d9:=d9.fr f10
 rw [if_pos hg] at w10
 obtain ⟨s10,rfl,o10⟩:=w10
 obtain ⟨a10,c10,rfl⟩:=o10.is
 have d10:=o10.rd
 clear o10
 simp -dsimp only [go_sem,r1.cell,r8.cell]
 refine call_of (c_law21_words (l:=finals g) (m:=finals g) d9 d10 hfl) ?_
 rintro v11 h11 ⟨hh,rfl⟩
 obtain rfl:h10=h11:=hh.symm
 simp -dsimp only [go_sem,dec_self,r1.cell,r8.cell]
 refine call_of (total_Right (l:=L) (t.fr p0) (ht.fr p0 (.inr rfl)) (d6.fr p9) hb9) ?_
 rintro v12 h12 ⟨f12,rfl⟩
 have f12_z:=f12.size
 replace p0:=p0.F f12
 replace p2:=p2.F f12
 replace r1:=r1.F f12
 replace r8:=r8.F f12
 replace p9:=p9.F f12
 replace d9:=d9.fr f12
 replace d10:=d10.fr f12
 rw [hrc]
 simp -dsimp only [go_sem,r1.cell,r8.cell]
 refine call_of (law21_lives (ht.fr p0 (.inr rfl))) ?_
 rintro v13 h13 ⟨f13,rfl⟩
 have f13_z:=f13.size
 replace p0:=p0.F f13
 replace p2:=p2.F f13
 replace r1:=r1.F f13
 replace r8:=r8.F f13
 replace p9:=p9.F f13
 replace d9:=d9.fr f13
 replace d10:=d10.fr f13
 simp -dsimp only [go_sem,r1.cell,r8.cell]
 exact p0
end Go.Proofs.Tst
/-
  TotalRow and its arguments.
-/
namespace Go.Proofs.Tst
end Go.Proofs.Tst
