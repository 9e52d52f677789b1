/-
  Contracts of functions that the law reaches: what each returns and what it leaves in memory. Conditions stand in each.
-/
import Derived.Test.YtmcghihgeibgpaaDoorT9
set_option linter.all false
set_option maxRecDepth 2000
/-
  Orders of a graph's events: what is right; the replay (plain).
-/
namespace Go.Proofs.Tst
open Go Go.Vc
section
variable {g : Gr}
theorem ev_init (hg:g.good=true) {i:Nat} (hi:i<g.n):((g.ev i).thread = -1∧(g.ev i).kind=2∧(i:Int)<g.cells∧(g.ev i).loc=(i:Int))∨(0≤(g.ev i).thread∧g.cells≤(i:Int)):=by
 obtain ⟨words,h⟩:=good_check hg
 obtain ⟨hs,h2,h3,-⟩:=check_zero h
 simp only [Gr.size,Bool.and_eq_true,decide_eq_true_eq] at hs
 by_cases hc:i<g.cells.toNat
 ·have:=firstEv_neg _ _ h2 i (by omega) (by omega)
  simp only [Bool.not_eq_false',beq_iff_eq] at this
  left;rw [this];unfold Gr.first;exact ⟨rfl,rfl,by omega,rfl⟩
 ·have:=firstEv_neg _ _ h3 i (by omega) (by omega)
  simp only [Bool.not_eq_false'] at this
  unfold Gr.evOk at this
  simp only [Bool.and_eq_true,decide_eq_true_eq] at this
  right;exact ⟨this.1.1.1,by omega⟩
theorem co_in (hg:g.good=true) {i j:Nat} (h:relM g 2 i j=true):0≤(g.ev j).thread∧(g.ev i).kind=2∧(g.ev j).kind=2∧(g.ev i).loc=(g.ev j).loc∧0≤(g.ev j).loc∧i<g.n∧j<g.n:=by
 obtain ⟨hin,hjn⟩:=ofM_in (n:=g.n) (l:=coPairs g) h
 obtain ⟨c,hcl,hp⟩:=coPairs_list (ofM_mem' (L:=coPairs g) h)
 obtain ⟨hnd,hall,-⟩:=co_list hg hcl
 obtain ⟨x1,x2⟩:=hall _ (lpairs_mem hp).1
 obtain ⟨y1,y2⟩:=hall _ (lpairs_mem hp).2
 have hb:=(good_co hg).2 c hcl
 unfold Gr.coBad at hb
 simp only [Bool.or_eq_false_iff,Bool.not_eq_false',beq_iff_eq,List.all_eq_true,Bool.and_eq_true,decide_eq_true_eq] at hb
 obtain ⟨⟨⟨b1,-⟩,-⟩,b4⟩:=hb
 have hidx:=lpairs_idx b4 hp
 have k1:=(is_lt x1).2.2
 have k2:=(is_lt y1).2.2
 rw [Int.toNat_natCast] at k1 k2 x2 y2
 refine ⟨?_,k1,k2,by omega,by omega,hin,hjn⟩
 rcases ev_init hg hjn with ⟨-,-,-,hl⟩ | ⟨h0,-⟩
 ·rw [y2] at hl
  cases hlist:g.co.getD c [] with
  | nil=>rw [hlist] at b1;cases b1
  | cons a t =>
   rw [hlist] at b1 hidx
   simp at b1
   subst b1
   rw [← hl,List.idxOf_cons_self] at hidx
   omega
 ·exact h0
theorem rf_in (hg:g.good=true) {i j:Nat} (h:relM g 1 i j=true):(g.ev i).kind=2∧(g.ev j).kind=1∧(g.ev i).loc=(g.ev j).loc∧0≤(g.ev i).loc∧0≤(g.ev j).thread∧i<g.n∧j<g.n:=by
 obtain ⟨words,hz⟩:=good_check hg
 obtain ⟨w,r,e,hw,hr,k1,k2,k3,k4⟩:=rf_pair hz (ofM_mem' (L:=g.rf) h)
 simp only [Prod.mk.injEq] at e
 obtain rfl:i=w:=by omega
 obtain rfl:j=r:=by omega
 refine ⟨k1,k2,k3,k4,?_,hw,hr⟩
 rcases ev_init hg hr with ⟨-,hk,-⟩ | ⟨h0,-⟩
 ·rw [hk] at k2;cases k2
 ·exact h0
theorem fr_in {i j:Nat} (hi:i<g.n) (hj:j<g.n):relM g 9 i j=true↔∃ u,u<g.n∧relM g 1 u i=true∧relM g 2 u j=true:=by
 have e:relM g 9 i j=compM g.n (invM (ofM g.n g.rf)) g.n (ofM g.n (coPairs g)) i j:=rfl
 rw [e,compM_in hi hj,exB_true]
 constructor
 ·rintro ⟨k,hk,h⟩
  rw [Bool.and_eq_true] at h
  exact ⟨k,hk,h.1,h.2⟩
 ·rintro ⟨k,hk,h1,h2⟩
  exact ⟨k,hk,by rw [Bool.and_eq_true];exact ⟨h1,h2⟩⟩
def wrB (g:Gr) (c:Int) (x:Nat):Bool:=(g.ev x).kind==2&&(g.ev x).loc==c
theorem wrB_iff {c:Int} {x:Nat}:wrB g c x=true↔(g.ev x).kind=2∧(g.ev x).loc=c:=by unfold wrB;simp
def lastW (g:Gr):List Nat→Int→Option Nat
 | [],_=>none
 | x :: l,c=>match lastW g l c with
  | some w=>some w
  | none=>if wrB g c x then some x else none
theorem lastW_snoc:∀ (l:List Nat) (x:Nat) (c:Int),lastW g (l++[x]) c=if wrB g c x then some x else lastW g l c
 | [],x,c=>by simp [lastW]
 | y :: l,x,c=>by
  show (match lastW g (l++[x]) c with | some w=>some w | none=>if wrB g c y then some y else none)=_
  rw [lastW_snoc l x c]
  by_cases h:wrB g c x=true
  ·rw [if_pos h,if_pos h]
  ·rw [if_neg h,if_neg h];rfl
theorem lastW_none:∀ {l:List Nat} {c:Int},lastW g l c=none↔∀ x∈l,wrB g c x=false
 | [],c=>by simp [lastW]
 | y :: l,c=>by
  have ih:=lastW_none (l:=l) (c:=c)
  have e:lastW g (y :: l) c=match lastW g l c with | some w=>some w | none=>if wrB g c y then some y else none:=rfl
  rw [e]
  cases h:lastW g l c with
  | some w =>
   dsimp only
   constructor
   ·intro e;cases e
   ·intro hall
    have:=ih.2 fun x hx=>hall x (by simp [hx])
    rw [h] at this;cases this
  | none =>
   dsimp only
   cases hy:wrB g c y
   ·constructor
    ·intro _ x hx
     rcases List.mem_cons.1 hx with rfl | hx
     ·exact hy
     ·exact ih.1 h x hx
    ·intro _;simp
   ·constructor
    ·intro e;simp at e
    ·intro hall
     have:=hall y (by simp)
     rw [hy] at this;cases this
theorem lastW_some:∀ {l:List Nat} {c:Int} {w:Nat},lastW g l c=some w→∃ i:Nat,l[i]?=some w∧wrB g c w=true∧∀ (j y:Nat),i<j→l[j]?=some y→wrB g c y=false
 | [],_,_,h=>by simp [lastW] at h
 | x :: l,c,w,h=>by
  unfold lastW at h
  cases hl:lastW g l c with
  | some v =>
   rw [hl] at h
   simp only [Option.some.injEq] at h
   subst h
   obtain ⟨i,h1,h2,h3⟩:=lastW_some hl
   refine ⟨i+1,by simpa using h1,h2,fun j y hj hy=>?_⟩
   obtain ⟨j,rfl⟩:∃ k,j=k+1:=⟨j - 1,by omega⟩
   exact h3 j y (by omega) (by simpa using hy)
  | none =>
   rw [hl] at h
   cases hw:wrB g c x
   ·simp [hw] at h
   ·simp [hw] at h
    subst h
    refine ⟨0,by simp,hw,fun j y hj hy=>?_⟩
    obtain ⟨j,rfl⟩:∃ k,j=k+1:=⟨j - 1,by omega⟩
    exact lastW_none.1 hl y (List.mem_of_getElem? (i:=j) (by simpa using hy))
def pcM (g:Gr) (i j:Nat):Bool:=relM g 0 i j||relM g 2 i j
def natO (o:Option Nat):Option Int:=o.map fun (w:Nat)=>(w:Int)
def okAt (g:Gr) (m:List Nat) (i x:Nat):Bool:=
 (!decide ((i:Int)<g.cells)||decide ((g.ev x).thread<0))&&(g.rf.all fun p=>!(p.2==(x:Int))||natO (lastW g (m.take i) (g.ev x).loc)==some p.1)&&(g.rmw.all fun p=>!(p.1==(x:Int))||natO m[i+1]? == some p.2)
theorem okAt_iff {m:List Nat} {i x:Nat}:okAt g m i x=true↔((i:Int)<g.cells→(g.ev x).thread<0)∧(∀ p∈g.rf,p.2=(x:Int)→natO (lastW g (m.take i) (g.ev x).loc)=some p.1)∧(∀ p∈g.rmw,p.1=(x:Int)→natO m[i+1]?=some p.2):=by
 unfold okAt
 simp only [Bool.and_eq_true,List.all_eq_true,Bool.or_eq_true,Bool.not_eq_true',decide_eq_false_iff_not,decide_eq_true_eq,beq_eq_false_iff_ne,beq_iff_eq,and_assoc]
 refine and_congr ?_ (and_congr ?_ ?_)
 ·constructor
  ·rintro (h | h) h1
   ·exact absurd h1 h
   ·exact h
  ·intro h
   by_cases h1:(i:Int)<g.cells
   ·exact .inr (h h1)
   ·exact .inl h1
 ·refine forall_congr' fun p=>forall_congr' fun _=>?_
  constructor
  ·rintro (h | h) h1
   ·exact absurd h1 h
   ·exact h
  ·intro h
   by_cases h1:p.2=(x:Int)
   ·exact .inr (h h1)
   ·exact .inl h1
 ·refine forall_congr' fun p=>forall_congr' fun _=>?_
  constructor
  ·rintro (h | h) h1
   ·exact absurd h1 h
   ·exact h
  ·intro h
   by_cases h1:p.1=(x:Int)
   ·exact .inr (h h1)
   ·exact .inl h1
structure Right (g:Gr) (m:List Nat):Prop where
 pre:Pre g.n (pcM g) m
 len:m.length=g.n
 ok:∀ i x,m[i]?=some x→okAt g m i x=true
theorem nodup_at {m:List Nat} (hm:m.Nodup) {i x:Nat} (h:m[i]?=some x):m.idxOf x=i:=by
 obtain ⟨hi,rfl⟩:=List.getElem?_eq_some_iff.1 h
 exact hm.idxOf_getElem i hi
theorem at_nodup {m:List Nat} {x:Nat} (h:x∈m):m[m.idxOf x]?=some x:=by
 have hi:=List.idxOf_lt_length_iff.2 h
 rw [List.getElem?_eq_getElem hi,List.getElem_idxOf]
theorem natO_some {o:Option Nat} {w:Nat}:natO o=some (w:Int)↔o=some w:=by
 unfold natO
 cases o with
 | none=>simp
 | some v=>simp;omega
theorem take_at {m:List Nat} {i j x:Nat}:(m.take i)[j]?=some x↔j<i∧m[j]?=some x:=by
 rw [List.getElem?_take]
 by_cases h:j<i
 ·rw [if_pos h];simp [h]
 ·rw [if_neg h];simp [h]
namespace Right
variable {m : List Nat}
theorem mem (R:Right g m) {x:Nat} (hx:x<g.n):x∈m:=all_in R.pre R.len hx
theorem lt (R:Right g m) {i x:Nat} (h:m[i]?=some x):x<g.n:=R.pre.2.1 x (List.mem_of_getElem? h)
theorem po (R:Right g m) {i j:Nat} (h:relM g 0 i j=true):m.idxOf i<m.idxOf j:=by
 obtain ⟨-,-,h1,h2⟩:=po_th h
 exact R.pre.idx (by omega) (R.mem h2) (by unfold pcM;rw [h];rfl)
theorem co (R:Right g m) (hg:g.good=true) {i j:Nat} (h:relM g 2 i j=true):m.idxOf i<m.idxOf j:=by
 obtain ⟨-,-,-,-,-,h1,h2⟩:=co_in hg h
 exact R.pre.idx h1 (R.mem h2) (by unfold pcM;rw [h];simp)
theorem rd (R:Right g m) (hg:g.good=true) {w x:Nat} (h:relM g 1 w x=true):lastW g (m.take (m.idxOf x)) (g.ev x).loc=some w:=by
 obtain ⟨-,-,-,-,-,h1,h2⟩:=rf_in hg h
 have hok:=(okAt_iff.1 (R.ok _ _ (at_nodup (R.mem h2)))).2.1 ((w:Int),(x:Int)) (ofM_mem' (L:=g.rf) h) rfl
 exact natO_some.1 hok
theorem rf (R:Right g m) (hg:g.good=true) {i j:Nat} (h:relM g 1 i j=true):m.idxOf i<m.idxOf j:=by
 obtain ⟨k,h1,-,-⟩:=lastW_some (R.rd hg h)
 rw [take_at] at h1
 rw [nodup_at R.pre.1 h1.2];exact h1.1
theorem fr (R:Right g m) (hg:g.good=true) {i j:Nat} (hi:i<g.n) (hj:j<g.n) (h:relM g 9 i j=true):m.idxOf i<m.idxOf j:=by
 obtain ⟨u,hu,h1,h2⟩:=(fr_in hi hj).1 h
 have k1:=rf_in hg h1
 have k2:=co_in hg h2
 obtain ⟨k,e1,e2,e3⟩:=lastW_some (R.rd hg h1)
 rw [take_at] at e1
 have ek:=nodup_at R.pre.1 e1.2
 have hc:=R.co hg h2
 apply Classical.byContradiction;intro hlt
 have hne:m.idxOf i≠m.idxOf j:=fun e=>by
  have a:=at_nodup (R.mem hi)
  have b:=at_nodup (R.mem hj)
  rw [e,b] at a
  simp only [Option.some.injEq] at a
  subst a
  rw [k1.2.1] at k2;omega
 have:=e3 (m.idxOf j) j (by omega) (take_at.2 ⟨by omega,at_nodup (R.mem hj)⟩)
 rw [Bool.eq_false_iff] at this
 exact this (wrB_iff.2 ⟨k2.2.2.1,by omega⟩)
theorem all (R:Right g m) (hg:g.good=true) {i j:Nat} (hi:i<g.n) (hj:j<g.n) (hm:allM g i j=true):m.idxOf i<m.idxOf j:=by
 unfold allM at hm
 simp only [Bool.or_eq_true] at hm
 rcases hm with ((hm | hm) | hm) | hm
 ·exact R.po hm
 ·exact R.rf hg hm
 ·exact R.co hg hm
 ·exact R.fr hg hi hj hm
theorem adj (R:Right g m) (hg:g.good=true) {a b:Nat} (h:((a:Int),(b:Int))∈g.rmw):m.idxOf b=m.idxOf a+1:=by
 obtain ⟨a',b',e,P⟩:=pair_ok hg h
 simp only [Prod.mk.injEq] at e
 obtain rfl:a=a':=by omega
 obtain rfl:b=b':=by omega
 have:=(okAt_iff.1 (R.ok _ _ (at_nodup (R.mem P.la)))).2.2 _ h rfl
 exact nodup_at R.pre.1 (natO_some.1 this)
theorem sc (R:Right g m) (hg:g.good=true):(scAx g).1=0:=by
 refine scAx_zero.2 ⟨?_,fun p hp=>?_⟩
 ·rw [cyc_acyc]
  exact acyc_rank (fun i=>m.idxOf i) fun i j hi hj hm=>R.all hg hi hj hm
 ·obtain ⟨a,b,rfl,P⟩:=pair_ok hg hp
  have had:=R.adj hg hp
  cases ht:tornS g ((a:Int),(b:Int))
  ·rfl
  ·unfold tornS at ht
   simp only [Bool.and_eq_true,exB_true,Int.toNat_natCast] at ht
   obtain ⟨-,k,hk,h1,h2⟩:=ht
   have:=R.fr hg P.la hk h1
   have:=R.co hg h2
   omega
end Right
def repVal (g:Gr) (m:List Nat) (c:Int):Int:=match lastW g m c with | some w=>(g.ev w).val | none=>0
def readOk (g:Gr) (m:List Nat) (i x:Nat):Bool:=!((g.ev x).kind==1)||match lastW g (m.take i) (g.ev x).loc with | some w=>(g.ev w).val==(g.ev x).val | none=>false
def repOk (g:Gr) (m:List Nat):Bool:=(List.range m.length).all fun i=>readOk g m i (m.getD i 0)
theorem Right.reads {m:List Nat} (R:Right g m) (hg:g.good=true) {i x:Nat} (h:m[i]?=some x):readOk g m i x=true:=by
 unfold readOk
 by_cases hk:(g.ev x).kind=1
 rotate_left
 ·simp [hk]
 obtain ⟨words,hz⟩:=good_check hg
 obtain ⟨-,-,-,h4,-⟩:=check_iff.1 hz
 have hr:=rf_iff.1 h4
 have hx:=R.lt h
 have hm:(x:Int)∈g.rf.map (·.2):=by
  rw [hr.1];exact List.mem_map.2 ⟨x,List.mem_filter.2 ⟨List.mem_range'_1.2 ⟨by omega,by omega⟩,by simp [hk]⟩,rfl⟩
 obtain ⟨p,hp,he⟩:=List.mem_map.1 hm
 obtain ⟨w,r,e,hw,hrn,-⟩:=rf_pair hz hp
 subst e
 dsimp only at he
 obtain rfl:r=x:=by omega
 have h1:=R.rd hg ((ofM_mem hw hrn).2 hp:relM g 1 w r=true)
 rw [nodup_at R.pre.1 h] at h1
 rw [h1]
 have:=hr.2 _ hp
 unfold rfOk at this
 simp only [Bool.and_eq_true,Int.toNat_natCast] at this
 simp only [this.2,Bool.or_true]
end
/-! ### The order that is made -/
section
variable {n : Nat} {N : Nat → Nat → Bool} {F : Nat → Nat} {S : Nat → Int}
end
section
variable {g : Gr} {m : List Nat}
end
end Go.Proofs.Tst
/-
  Orders of a graph's events: each write stands at its place of its cell's list (plain).
-/
namespace Go.Proofs.Tst
open Go Go.Vc
section
variable {g : Gr}
end
end Go.Proofs.Tst
/-
  Orders of a graph's events: the forms that the code works out (plain).
-/
namespace Go.Proofs.Tst
open Go Go.Vc
def lkp (L:List (Int×Int)) (x:Int):Option Int:=(L.reverse.find? fun p=>p.1==x).map (·.2)
theorem lkp_snoc (L:List (Int×Int)) (p:Int×Int) (x:Int):lkp (L++[p]) x=if x=p.1 then some p.2 else lkp L x:=by
 unfold lkp
 rw [List.reverse_append,List.reverse_singleton,List.singleton_append,List.find?_cons]
 by_cases h:x=p.1
 ·subst h;simp
 ·have:(p.1==x)=false:=by simp;exact fun e=>h e.symm
  rw [this,if_neg h]
section
variable {g : Gr}
def rfK (g:Gr):List (Int×Int):=g.rf.map fun p=>(p.2,p.1)
def lkOk (L:List (Int×Int)) (x:Int) (o:Option Int):Bool:=match lkp L x with | none=>true | some v=>o==some v
def okB (g:Gr) (m:List Nat) (i x:Nat):Bool:=
 (!decide ((i:Int)<g.cells)||decide ((g.ev x).thread<0))&&lkOk (rfK g) (x:Int) (natO (lastW g (m.take i) (g.ev x).loc))&&lkOk g.rmw (x:Int) (natO m[i+1]?)
def allB (P:Nat→Nat→Bool) (m:List Nat):Bool:=(List.range m.length).all fun i=>P i (m.getD i 0)
theorem allB_iff {P:Nat→Nat→Bool} {m:List Nat}:allB P m=true↔∀ i x,m[i]?=some x→P i x=true:=by
 unfold allB
 simp only [List.all_eq_true,List.mem_range]
 constructor
 ·intro h i x hx
  have:=h i (List.getElem?_eq_some_iff.1 hx).1
  rwa [List.getD_eq_getElem?_getD,hx] at this
 ·intro h i hi
  exact h i _ (by rw [List.getD_eq_getElem?_getD,List.getElem?_eq_getElem hi];rfl)
def natsOf (l:List Int):List Nat:=l.map Int.toNat
theorem natsOf_back {n:Nat} {M:Nat→Nat→Bool} {l:List Int} (h:LinP n M l):(natsOf l).map (fun (p:Nat)=>(p:Int))=l:=by
 unfold natsOf
 rw [List.map_map]
 conv=>rhs;rw [← List.map_id l]
 refine List.map_congr_left fun x hx=>?_
 have:=(h.2.1 x hx).1
 show ((x.toNat:Nat):Int)=x
 omega
theorem lin_pre {n:Nat} {M:Nat→Nat→Bool} {l:List Int}:LinP n M l↔(natsOf l).map (fun (p:Nat)=>(p:Int))=l∧Pre n M (natsOf l)∧(natsOf l).length=n:=by
 constructor
 ·intro h
  have e:=natsOf_back h
  rw [← e] at h
  exact ⟨e,linP_pre.1 h⟩
 ·rintro ⟨e,h⟩
  rw [← e];exact linP_pre.2 h
def rightB (g:Gr) (l:List Int):Bool:=g.good&&(decide (LinP g.n (pcM g) l)&&allB (okB g (natsOf l)) (natsOf l))
def eachB (g:Gr) (l:List Int):Bool:=g.good&&decide (LinP g.n (fun _ _=>false) l)
def repFin (g:Gr) (m:List Nat):List Int:=(List.range g.cells.toNat).map fun c=>repVal g m (c:Nat)
def picksL (g:Gr) (m:List Nat):List Int:=(m.map fun x=>(g.ev x).thread).filter fun t=>decide (0≤t)
theorem picksL_snoc (m:List Nat) (x:Nat):picksL g (m++[x])=picksL g m++(if 0≤(g.ev x).thread then [(g.ev x).thread] else []):=by
 unfold picksL
 rw [List.map_append,List.filter_append]
 congr 1
 by_cases h:0≤(g.ev x).thread
 ·rw [if_pos h];simp [h]
 ·rw [if_neg h];simp [h]
end
end Go.Proofs.Tst
/-
  The document's relations, some at once; its lists of truths.
-/
namespace Go.Proofs.Tst
open Go Go.Vc
def RA (h:Heap) (v:Value) (n:Nat) (M:Mx):Prop:=∃ lo hi,RefAt h lo hi v n M
theorem RA.fr {h h':Heap} {v:Value} {n:Nat} {M:Mx} (t:RA h v n M) (f:Fr 0 0 h h'):RA h' v n M:=by obtain ⟨a,b,t⟩:=t;exact ⟨a,b,t.fr f (by omega)⟩
theorem RA.is {h:Heap} {v:Value} {n:Nat} {M:Mx} (t:RA h v n M):∃ a c,v=.agg #[.int .i64 n,.slice a n c]:=by
 obtain ⟨_,_,_,s,R,rfl,t⟩:=t
 obtain ⟨a,c,rfl⟩:=t.own.is
 exact ⟨a,c,rfl⟩
theorem RA.le {h:Heap} {v:Value} {n:Nat} {M:Mx} (t:RA h v n M):n≤256:=by obtain ⟨_,_,t⟩:=t;exact t.1
theorem RefAt.congr {h:Heap} {lo hi:Nat} {v:Value} {n:Nat} {M N:Mx} (t:RefAt h lo hi v n M) (e:∀ i j,i<n→j<n→M i j=N i j):RefAt h lo hi v n N:=by
 obtain ⟨hn,s,R,hv,ht⟩:=t;exact ⟨hn,s,R,hv,ht.congr e⟩
theorem RA.congr {h:Heap} {v:Value} {n:Nat} {M N:Mx} (t:RA h v n M) (e:∀ i j,i<n→j<n→M i j=N i j):RA h v n N:=by obtain ⟨a,b,t⟩:=t;exact ⟨a,b,RefAt.congr t e⟩
def refCells (n:Nat) (ss:List Value):List Value:=ss.flatMap fun s=>[.int .i64 n,s]
@[simp] theorem length_refCells (n:Nat):∀ ss:List Value,(refCells n ss).length=ss.length * 2
 | []=>rfl
 | s :: ss=>by show (_ :: _ :: refCells n ss).length=_;simp [length_refCells n ss];omega
theorem refCells_get {n:Nat}:∀ {ss:List Value} {i:Nat} {s:Value},ss[i]?=some s→(refCells n ss)[i * 2]?=some (.int .i64 n)∧(refCells n ss)[i * 2+1]?=some s
 | [],i,s,h=>by simp at h
 | x :: ss,0,s,h=>by simp at h;subst h;exact ⟨rfl,rfl⟩
 | x :: ss,i+1,s,h=>by
  have:=refCells_get (n:=n) (ss:=ss) (i:=i) (s:=s) (by simpa using h)
  rw [show (i+1) * 2=i * 2+2 from by omega]
  exact this
def CR (h:Heap) (lv:Value) (n:Nat) (l:List Mx):Prop:=∃ ss:List Value,ss.length=l.length∧Rd 2 h lv ss.length (refCells n ss)∧ss.length≤65536∧∀ (i:Nat) (s:Value) (M:Mx),ss[i]?=some s→l[i]?=some M→RA h (.agg #[.int .i64 n,s]) n M
theorem CR.fr {h h':Heap} {v:Value} {n:Nat} {l:List Mx} (t:CR h v n l) (f:Fr 0 0 h h'):CR h' v n l:=by
 obtain ⟨L,h1,h2,h3,h4⟩:=t;exact ⟨L,h1,h2.fr f,h3,fun i w M a b=>(h4 i w M a b).fr f⟩
theorem CR.mk {h:Heap} {b n:Nat} (l:List (Value×Mx)) (r:Rw h b (refCells n (l.map (·.1)))) (hp:∀ x∈l,RA h (.agg #[.int .i64 n,x.1]) n x.2) (hl:l.length≤65536):CR h (.slice (some ⟨b,0,none⟩) l.length l.length) n (l.map (·.2)):=by
 refine ⟨l.map (·.1),by simp,?_,by simpa using hl,fun i w M h1 h2=>?_⟩
 ·rw [List.length_map];exact Rw.rd (s:=2) r (by simp)
 ·rw [List.getElem?_map,Option.map_eq_some_iff] at h1 h2
  obtain ⟨x,hx,rfl⟩:=h1
  obtain ⟨y,hy,rfl⟩:=h2
  rw [hx] at hy;cases hy
  exact hp x (List.mem_of_getElem? hx)
theorem ra_nil {h:Heap} {n:Nat}:∀ x∈([]:List (Value×Mx)),RA h (.agg #[.int .i64 n,x.1]) n x.2:=fun x hx=>by cases hx
theorem ra_cons {h:Heap} {n:Nat} {v:Value} {M:Mx} {l:List (Value×Mx)} (a:RA h (.agg #[.int .i64 n,v]) n M) (t:∀ x∈l,RA h (.agg #[.int .i64 n,x.1]) n x.2):∀ x∈(v,M) :: l,RA h (.agg #[.int .i64 n,x.1]) n x.2:=fun x hx=>by
 rcases List.mem_cons.1 hx with rfl | hx
 ·exact a
 ·exact t x hx
def oM (n:Nat) (A:Mx) (l:List Mx):Mx:=l.foldl (fun X Y=>unionM n X n Y) A
theorem oM_in {n i j:Nat} (hi:i<n) (hj:j<n):∀ (l:List Mx) (A:Mx),oM n A l i j=(A i j||l.any fun X=>X i j)
 | [],A=>by simp [oM]
 | B :: l,A=>by
  show oM n (unionM n A n B) l i j=_
  rw [oM_in hi hj l,unionM_in hi hj,List.any_cons,Bool.or_assoc]
def VA (h:Heap) (n:Nat) (L:List (Nat×Value×Mx)):Prop:=∀ x∈L,Rw h x.1 [.int .i64 n,x.2.1]∧RA h (.agg #[.int .i64 n,x.2.1]) n x.2.2
theorem VA.fr {h h':Heap} {n:Nat} {L:List (Nat×Value×Mx)} (t:VA h n L) (f:Fr 0 0 h h'):VA h' n L:=fun x hx=>⟨(t x hx).1.fr f (by omega),(t x hx).2.fr f⟩
theorem VA.nil {h:Heap} {n:Nat}:VA h n []:=fun x hx=>by cases hx
theorem VA.cons {h:Heap} {n b:Nat} {s:Value} {M:Mx} {L:List (Nat×Value×Mx)} (r:Rw h b [.int .i64 n,s]) (a:RA h (.agg #[.int .i64 n,s]) n M) (t:VA h n L):VA h n ((b,s,M) :: L):=fun x hx=>by
 rcases List.mem_cons.1 hx with rfl | hx
 ·exact ⟨r,a⟩
 ·exact t x hx
theorem VA.drop {h:Heap} {n:Nat} {L L':List (Nat×Value×Mx)} (t:VA h n L) (hs:∀ x∈L',x∈L):VA h n L':=fun x hx=>t x (hs x hx)
theorem ref12_any {lv:Value} {n:Nat} {A:Mx} {l:List Mx} {h:Heap} (hl:CR h lv n (A :: l)) :
  Con Tryd.prog 104 #[lv] h fun v h'=>Fr 0 0 h h'∧RA h' v n (oM n A l)∧(l≠[]→RefAt h' h.size h'.size v n (oM n A l)):=by
 refine con_q68 ?_
 obtain ⟨ss,hwl,hr,hlen,hp⟩:=hl
 obtain ⟨la,lc,rfl⟩:=hr.is
 have hsl:ss.length=l.length+1:=by simpa using hwl
 have p0:Fr 0 0 h h:=.refl _ _ _
 obtain ⟨hl1,a',c',k1,k2⟩:=hr
 cases k1
 rcases k2 with k2 | ⟨b,o,rfl,hc⟩
 ·omega
 have h0:ss[0]?=some ss[0]:=List.getElem?_eq_getElem (by omega)
 have t0:=hp 0 _ A h0 rfl
 generalize ss[0]=s0 at h0 t0
 obtain ⟨a0,c0,e0⟩:=t0.is
 simp only [Value.agg.injEq,Array.mk.injEq,List.cons.injEq,and_true,true_and] at e0
 subst e0
 simp -dsimp only [go_sem]
 intro b2 h1 n1
 have n1_a:=n1.at_
 have n1_z:=n1.size
 replace p0:=p0.F n1.f0
 have r2:=n1.row
 obtain ⟨k3,k4⟩:=refCells_get (n:=n) h0
 have k3:=p0.keep (hc _ _ k3) (by omega)
 have k4:=p0.keep (hc _ _ k4) (by omega)
 have e1:((0:Int)<(ss.length:Int)):=by omega
 replace k3:hcell h1 b (o+Int.toNat 0 * 2)=some (.int .i64 n):=k3
 replace k4:hcell h1 b (o+Int.toNat 0 * 2+1)=some (.slice a0 n c0):=by rw [Nat.add_assoc];exact k4
 simp -dsimp only [go_sem,e1,r2.cell]
 simp -dsimp only [go_sem,e1,k3,k4,r2.cell]
 intro b3 h2 n3
 have n3_a:=n3.at_
 have n3_z:=n3.size
 replace p0:=p0.F n3.f0
 replace r2:=r2.F n3.f0
 have r3:=n3.row
 simp -dsimp only [go_sem,r2.cell,r3.cell]
 refine Chk_intro (r3.W) fun h3 s3=>?_
 have s3_z:=s3.size
 replace p0:=p0.F s3.fr
 replace r2:=r2.F s3.fr
 replace r3:=s3.row r3
 try simp only [cl_int,cl_bool,cl_slice,cl_ptr,putAt_one,zs0,zs1,ivec_set,brow_upd] at r3
 have th:=t0
 replace r3:Rw h3 b3 [.int .i64 n,.slice a0 n c0]:=r3
 have gb:h.size≤b2∧b2<b3∧b3<h3.size:=by omega
 simp -dsimp only [go_sem,r2.cell,r3.cell]
 refine loop_intro (fun j:Nat=>[(0,.slice (some ⟨b,o,none⟩) ss.length lc),(2,.pointer (some ⟨b2,0,none⟩)),(3,.pointer (some ⟨b3,0,none⟩)),(4,.int .i64 (j+1:Nat))])
  (fun j h'=>j≤l.length∧Fr 0 0 h h'∧h3.size≤h'.size∧Rw h' b2 [.int .i64 0,.slice none 0 0]∧∃ s,Rw h' b3 [.int .i64 n,s]∧∀ h2,Fr b2 (b2+1) h' h2→RA h2 (.agg #[.int .i64 n,s]) n (oM n A (l.take j))∧(j≠0→RefAt h2 h3.size h'.size (.agg #[.int .i64 n,s]) n (oM n A (l.take j)))) (fun j=>l.length - j) 0 ?_ ?_ ?_
 ·simp [Le,find]
 ·exact ⟨by omega,p0,by omega,r2,_,r3,fun h2 f2=>⟨th.fr (p0.fresh f2 (by omega)),fun hz=>absurd rfl hz⟩⟩
 clear p0 r2 r3 t0 th k3 k4 n1_a n1_z n3_a n3_z s3_z
 rintro j h4 ⟨hj,p0,y4,r2,s,r3,T⟩
 have p0_z:=p0.size
 have r2_l:=r2.lt
 have r3_l:=r3.lt
 have t0:=(T h4 (.refl _ _ _)).1
 obtain ⟨a1,c1,e0⟩:=t0.is
 simp only [Value.agg.injEq,Array.mk.injEq,List.cons.injEq,and_true,true_and] at e0
 subst e0
 by_cases hlt:j<l.length
 ·have e2:(((j+1:Nat):Int)<(ss.length:Int)):=by omega
  have hs:ss[j+1]?=some ss[j+1]:=List.getElem?_eq_getElem (by omega)
  have hM:(A :: l)[j+1]?=some l[j]:=by rw [List.getElem?_cons_succ];exact List.getElem?_eq_getElem hlt
  have tw:=(hp _ _ _ hs hM).fr p0
  generalize ss[j+1]=s1 at hs tw
  have hsu:l.take (j+1)=l.take j++[l[j]]:=by rw [List.take_add_one,List.getElem?_eq_getElem hlt];rfl
  generalize l[j]=B at tw hsu
  obtain ⟨a2,c2,e0⟩:=tw.is
  simp only [Value.agg.injEq,Array.mk.injEq,List.cons.injEq,and_true,true_and] at e0
  subst e0
  obtain ⟨k3,k4⟩:=refCells_get (n:=n) hs
  have k3:=p0.keep (hc _ _ k3) (by omega)
  have k4:=p0.keep (hc _ _ k4) (by omega)
  rw [← Nat.add_assoc] at k4
  obtain ⟨_,_,u0⟩:=t0
  obtain ⟨_,_,u1⟩:=tw
  simp -dsimp only [go_sem,e2,r2.cell,r3.cell]
  simp -dsimp only [go_sem,e2,k3,k4,r2.cell,r3.cell]
  refine call_of (ref1_Union u0 u1) ?_
  rintro v5 h5 ⟨f5,u5⟩
  rw [Nat.max_self] at u5
  have f5_z:=f5.size
  replace p0:=p0.F f5
  replace r2:=r2.F f5
  replace r3:=r3.F f5
  have t5:RA h5 v5 n (oM n A (l.take (j+1))):=by
   rw [hsu];unfold oM;rw [List.foldl_append];exact ⟨_,_,u5⟩
  obtain ⟨a3,c3,e0⟩:=t5.is
  subst e0
  have hz5:h3.size≤h5.size:=by omega
  simp -dsimp only [go_sem,r2.cell,r3.cell]
  have u5t:=u5
  refine Chk_intro (r3.W) fun h6 s6=>?_
  have s6_z:=s6.size
  replace p0:=p0.F s6.fr
  replace r2:=r2.F s6.fr
  replace r3:=s6.row r3
  try simp only [cl_int,cl_bool,cl_slice,cl_ptr,putAt_one,zs0,zs1,ivec_set,brow_upd] at r3
  have t6:∀ h2,Fr b2 (b2+1) h6 h2→RA h2 (.agg #[.int .i64 n,.slice a3 n c3]) n (oM n A (l.take (j+1)))∧(j+1≠0→RefAt h2 h3.size h6.size (.agg #[.int .i64 n,.slice a3 n c3]) n (oM n A (l.take (j+1)))):=fun h2 f2=>by
   have w:=(u5.fr s6.fr (by omega)).fr f2 (by omega)
   rw [hsu];unfold oM;rw [List.foldl_append];exact ⟨⟨_,_,w⟩,fun _=>w.mono (by omega) (by omega)⟩
  replace r3:Rw h6 b3 [.int .i64 n,.slice a3 n c3]:=r3
  simp -dsimp only [go_sem,r2.cell,r3.cell]
  simp -dsimp (disch:=omega) only [wrap64]
  exact ⟨j+1,by omega,by simp [Le,find],by omega,p0,by omega,r2,_,r3,t6⟩
 ·obtain rfl:j=l.length:=by omega
  have e2:¬ (((l.length+1:Nat):Int)<(ss.length:Int)):=by omega
  rw [List.take_length] at t0
  simp -dsimp only [go_sem,e2,r2.cell,r3.cell]
  refine Chk_intro (r2.W) fun h5 s5=>?_
  have s5_z:=s5.size
  replace p0:=p0.F s5.fr
  replace r3:=r3.F s5.fr
  replace r2:=s5.row r2
  try simp only [cl_int,cl_bool,cl_slice,cl_ptr,putAt_one,zs0,zs1,ivec_set,brow_upd] at r2
  replace r2:Rw h5 b2 [.int .i64 n,.slice a1 n c1]:=r2
  simp -dsimp only [go_sem,r2.cell,r3.cell]
  rw [List.take_length] at T
  have w:=T h5 s5.fr
  exact ⟨p0,w.1,fun hl0=>(w.2 (by intro e;exact hl0 (List.eq_nil_of_length_eq_zero e))).mono (by omega) (by omega)⟩
end Go.Proofs.Tst
/-
  The graphs of two cells that the laws lay.
-/
namespace Go.Vc
open Go
theorem Fr.wide {l r b:Nat} {h h':Heap} (f:Fr l r h h') (hr:r≤b):Fr 0 b h h':=⟨f.size,fun x hx hc=>f.old x hx (by omega)⟩
end Go.Vc
namespace Go.Proofs.Tst
open Go Go.Vc
def twoG (m:Int) (E:List Ev) (rf:List (Int×Int)) (x y:List Int):Gr:=⟨2,[⟨-1,2,0,0,m⟩,⟨-1,2,1,0,m⟩]++E,rf,[[0]++x,[1]++y],[],[],[],[]⟩
theorem nilP {h:Heap}:Rd 2 h (.slice none ([]:List (Int×Int)).length 0) ([]:List (Int×Int)).length (pairsV []):=⟨rfl,_,_,rfl,.inl rfl⟩
end Go.Proofs.Tst
/-
  law11: says, buffering, passing.
-/
namespace Go.Proofs.Tst
open Go Go.Vc
end Go.Proofs.Tst
/-
  law10: two, says, buffering, passing, fenced.
-/
namespace Go.Proofs.Tst
open Go Go.Vc
end Go.Proofs.Tst
/-
  Go's library: Clone of events and of pairs; Grow, Concat.
-/
namespace Go.Proofs.Tst
open Go Go.Vc
end Go.Proofs.Tst
/-
  seq: a graph's model; torn, together, global, first.
-/
namespace Go.Proofs.Tst
open Go Go.Vc
def smC (q : GV) (g : Gr) (c : Nat → Nat) (ra wa fa : Option Addr) (rn wn fn : Nat) : List Value :=
  [.int .i64 g.cells, .slice q.e g.evs.length q.ec, .slice q.f g.rf.length q.fc, .slice q.o g.co.length q.oc, .slice q.r g.rmw.length q.rc, .slice q.a g.addr.length q.ac, .slice q.d g.data.length q.dc, .slice q.c g.ctrl.length q.cc,
   .pointer (some ⟨c 0, 0, none⟩), .pointer (some ⟨c 1, 0, none⟩), .pointer (some ⟨c 2, 0, none⟩), .pointer (some ⟨c 9, 0, none⟩), .pointer (some ⟨c 3, 0, none⟩), .pointer (some ⟨c 4, 0, none⟩), .pointer (some ⟨c 5, 0, none⟩), .pointer (some ⟨c 6, 0, none⟩), .pointer (some ⟨c 7, 0, none⟩), .pointer (some ⟨c 8, 0, none⟩), .slice ra g.n rn, .slice wa g.n wn, .slice fa g.n fn]
structure Sm (h:Heap) (q:GV) (g:Gr) (c:Nat→Nat) (ra wa fa:Option Addr) (rn wn fn:Nat):Prop where
 gr:GrAt h q g
 good:g.good=true
 rel:∀ k,k<10→PA h (.pointer (some ⟨c k,0,none⟩)) g.n (relM g k)
 rd:Rd 1 h (.slice ra g.n rn) g.n (boolsV (kindsV g 1 g.n))
 wr:Rd 1 h (.slice wa g.n wn) g.n (boolsV (kindsV g 2 g.n))
 fe:Rd 1 h (.slice fa g.n fn) g.n (boolsV (kindsV g 3 g.n))
section
variable {h : Heap} {q : GV} {g : Gr} {c : Nat → Nat} {ra wa fa : Option Addr} {rn wn fn : Nat}
theorem Sm.fr {h':Heap} (m:Sm h q g c ra wa fa rn wn fn) (f:Fr 0 0 h h'):Sm h' q g c ra wa fa rn wn fn:=
 ⟨m.gr.fr f,m.good,fun k hk=>(m.rel k hk).fr f,m.rd.fr f,m.wr.fr f,m.fe.fr f⟩
theorem Sm.of {lo:Nat} {p:Nat→Value} {rd wr fe:Value} (t:GrAt h q g) (hg:g.good=true) (F:FactsAt h lo p rd wr fe g):∃ c ra wa fa rn wn fn,fcells p rd wr fe=[.pointer (some ⟨c 0,0,none⟩),.pointer (some ⟨c 1,0,none⟩),.pointer (some ⟨c 2,0,none⟩),.pointer (some ⟨c 9,0,none⟩),.pointer (some ⟨c 3,0,none⟩),.pointer (some ⟨c 4,0,none⟩),.pointer (some ⟨c 5,0,none⟩),.pointer (some ⟨c 6,0,none⟩),.pointer (some ⟨c 7,0,none⟩),.pointer (some ⟨c 8,0,none⟩),.slice ra g.n rn,.slice wa g.n wn,.slice fa g.n fn]∧Sm h q g c ra wa fa rn wn fn:=by
 obtain ⟨A,B,D,-,-⟩:=F.rel
 have hx:∃ c:Nat→Nat,∀ k,k<10→p k=.pointer (some ⟨c k,0,none⟩):=
  ⟨fun k=>if hk:k<10 then (progPtr (D.at_ k hk)).choose else 0,fun k hk=>by simp only [dif_pos hk];exact (progPtr (D.at_ k hk)).choose_spec⟩
 obtain ⟨c,hc⟩:=hx
 obtain ⟨ra,rn,e1⟩:=F.hrd.is
 obtain ⟨wa,wn,e2⟩:=F.hwr.is
 obtain ⟨fa,fn,e3⟩:=F.hfe.is
 refine ⟨c,ra,wa,fa,rn,wn,fn,?_,t,hg,fun k hk=>?_,e1▸F.hrd.rd,e2▸F.hwr.rd,e3▸F.hfe.rd⟩
 ·unfold fcells
  rw [hc 0 (by decide),hc 1 (by decide),hc 2 (by decide),hc 9 (by decide),hc 3 (by decide),hc 4 (by decide),hc 5 (by decide),hc 6 (by decide),hc 7 (by decide),hc 8 (by decide),e1,e2,e3]
 ·rw [← hc k hk];exact ⟨_,_,D.at_ k hk⟩
theorem seq_torn (m:Sm h q g c ra wa fa rn wn fn) (ht:TabAt h) :
  Con Tryd.prog 68 #[.agg (smC q g c ra wa fa rn wn fn).toArray] h fun v h'=>Fr 0 0 h h'∧Holder 1 h' v (atomS g).length (intsV (atomS g)) h.size:=by
 refine con_q144 ?_
 have br:=m.gr.fits.r
 have p0:Fr 0 0 h h:=.refl _ _ _
 unfold smC
 simp -dsimp only [go_sem]
 intro b1 h1 n1
 have n1_z:=n1.az
 replace p0:=p0.F n1.f0
 have r1:=n1.row
 simp -dsimp only [go_sem,r1.cell]
 obtain ⟨_,_,ta⟩:=(m.fr p0).rel 9 (by decide)
 obtain ⟨_,_,tb⟩:=(m.fr p0).rel 2 (by decide)
 refine call_of (rel_Comp ta tb (ht.fr p0 (.inr rfl))) ?_
 rintro v2 h2 ⟨f2,t2⟩
 rw [Nat.max_self] at t2
 have f2_z:=f2.size
 replace p0:=p0.F f2
 replace r1:=r1.F f2
 obtain ⟨bt,rfl⟩:=progPtr t2
 simp -dsimp only [go_sem,r1.cell]
 have p2:Fr 0 0 h2 h2:=.refl _ _ _
 have g2:h.size≤h2.size:=by omega
 refine loop_intro (fun i:Nat=>[(3,.pointer (some ⟨bt,0,none⟩)),(15,.slice q.r g.rmw.length q.rc),(16,.int .i64 g.rmw.length),(17,.int .i64 i)])
  (fun i h'=>i≤g.rmw.length∧Fr 0 0 h h'∧Fr 0 0 h2 h'∧(g.rmw.take i).find? (tornS g)=none) (fun i=>g.rmw.length - i) 0 ?_ ?_ ?_
 ·simp [Le,find]
 ·exact ⟨by omega,p0,p2,rfl⟩
 clear p0 r1 p2
 rintro i h3 ⟨hi,p0,p2,hfn⟩
 have p0_z:=p0.size
 have p2_z:=p2.size
 by_cases hlt:i<g.rmw.length
 ·have e1:((i:Int)<(g.rmw.length:Int)):=by omega
  have hq:g.rmw[i]?=some g.rmw[i]:=List.getElem?_eq_getElem hlt
  generalize g.rmw[i]=pr at hq
  obtain ⟨rb,ro,hre,hrc⟩:=m.gr.r.pairsAt (by omega)
  obtain ⟨k1,k2⟩:=hrc h3 p0 i _ hq
  simp -dsimp only [go_sem,e1,hre,k1,k2]
  intro b4 h4 n4
  have n4_z:=n4.az
  replace p0:=p0.F n4.f0
  replace p2:=p2.F n4.f0
  have r4:=n4.row
  simp -dsimp only [go_sem,r4.cell]
  refine Chk_intro (r4.W) fun h5 s5=>?_
  have s5_z:=s5.size
  replace p0:=p0.F s5.fr
  replace p2:=p2.F s5.fr
  replace r4:=s5.row r4
  try simp only [cl_int,cl_bool,cl_slice,cl_ptr,putAt_one,zs0,zs1,ivec_set,brow_upd] at r4
  try simp -dsimp only [go_sem] at r4
  simp -dsimp only [go_sem,r4.cell]
  refine call_of (rel_Has (t2.fr p2 (by omega)) pr.1 pr.2) ?_
  rintro v6 h6 ⟨hh,rfl⟩
  obtain rfl:h5=h6:=hh.symm
  have htn:=tornS_has (g:=g) (p:=pr)
  rw [htn]
  cases hb:tornS g pr
  ·simp -dsimp only [go_sem,r4.cell]
   simp -dsimp (disch:=omega) only [wrap64]
   exact ⟨i+1,by omega,by simp [Le,find,hre],by omega,p0,p2,find_next hq hfn hb⟩
  ·simp -dsimp only [go_sem,r4.cell]
   intro b7 h7 n7
   have n7_z:=n7.az
   replace p0:=p0.F n7.f0
   replace p2:=p2.F n7.f0
   replace r4:=r4.F n7.f0
   have r7:=n7.row
   simp -dsimp only [go_sem,r4.cell,r7.cell]
   have hA:atomS g=[pr.1,pr.2]:=by unfold atomS;rw [find_at hq hfn hb]
   rw [hA]
   exact ⟨p0,holder_row (s:=1) (n:=2) r7 rfl (by omega)⟩
 ·obtain rfl:i=g.rmw.length:=by omega
  simp -dsimp only [go_sem,Int.lt_irrefl]
  rw [List.take_length] at hfn
  have hA:atomS g=[]:=by unfold atomS;rw [hfn]
  rw [hA]
  exact ⟨p0,.none _ _ _⟩
theorem natsI_V (l:List Nat):natsV l=intsV (natsI l):=natsV_ints l
theorem natsI_len (l:List Nat):(natsI l).length=l.length:=by simp [natsI]
theorem seq_together {v:Value} {M:Mx} (m:Sm h q g c ra wa fa rn wn fn) (ht:TabAt h) (hv:PA h v g.n M) :
  Con Tryd.prog 67 #[.agg (smC q g c ra wa fa rn wn fn).toArray,v] h fun w h'=>Fr 0 0 h h'∧Holder 1 h' w (natsI (cycS g.n (orM [M,relM g 1,relM g 2,relM g 9]))).length (intsV (natsI (cycS g.n (orM [M,relM g 1,relM g 2,relM g 9])))) h.size:=by
 refine con_q143 ?_
 have p0:Fr 0 0 h h:=.refl _ _ _
 unfold smC
 obtain ⟨bv,rfl⟩:=hv.ptr
 simp -dsimp only [go_sem]
 intro b1 h1 n1
 have n1_z:=n1.az
 replace p0:=p0.F n1.f0
 have r1:=n1.row
 simp -dsimp only [go_sem,r1.cell]
 intro b2 h2 n2
 have n2_z:=n2.az
 replace p0:=p0.F n2.f0
 replace r1:=r1.F n2.f0
 have r2:=n2.row
 simp -dsimp only [go_sem,r1.cell,r2.cell]
 have m2:=m.fr p0
 refine call_of (rel_UnionU (UA.mk' [(.pointer (some ⟨bv,0,none⟩),M),(.pointer (some ⟨c 1,0,none⟩),relM g 1),(.pointer (some ⟨c 2,0,none⟩),relM g 2),(.pointer (some ⟨c 9,0,none⟩),relM g 9)] r2 (pa_cons (hv.fr p0) (pa_cons (m2.rel 1 (by decide)) (pa_cons (m2.rel 2 (by decide)) (pa_cons (m2.rel 9 (by decide)) pa_nil)))) (by simp) (by simp))) ?_
 rintro v3 h3 ⟨f3,t3⟩
 have f3_z:=f3.size
 replace p0:=p0.F f3
 replace r1:=r1.F f3
 replace r2:=r2.F f3
 simp -dsimp only [go_sem,r1.cell,r2.cell]
 refine call_of (rel_Cycle t3 (ht.fr p0 (.inr rfl))) ?_
 rintro v4 h4 ⟨f4,o4⟩
 have f4_z:=f4.size
 replace p0:=p0.F f4
 replace r1:=r1.F f4
 replace r2:=r2.F f4
 simp -dsimp only [go_sem,r1.cell,r2.cell]
 rw [natsI_V] at o4
 rw [natsI_len]
 exact ⟨p0,o4.lower (by omega)⟩
theorem seq_Sc_1 (m:Sm h q g c ra wa fa rn wn fn) (ht:TabAt h) :
  Con Tryd.prog 66 #[.agg (smC q g c ra wa fa rn wn fn).toArray] h fun v h'=>Fr 0 0 h h'∧Holder 1 h' v (scL g 0).length (intsV (scL g 0)) h.size:=by
 refine con_q137 ?_
 have p0:Fr 0 0 h h:=.refl _ _ _
 have e:orM [relM g 0,relM g 1,relM g 2,relM g 9]=allM g:=by funext i j;simp [orM,allM,Bool.or_assoc]
 unfold smC
 simp -dsimp only [go_sem]
 intro b1 h1 n1
 have n1_z:=n1.az
 replace p0:=p0.F n1.f0
 have r1:=n1.row
 simp -dsimp only [go_sem,r1.cell]
 have m1:=m.fr p0
 refine withC_of (smC q g c ra wa fa rn wn fn) 0 (fun j x hj=>by rw [r1.cell,Nat.zero_add];exact hj) ?_
 try simp -dsimp only [go_sem,r1.cell]
 refine call_of (seq_together m1 (ht.fr p0 (.inr rfl)) (m1.rel 0 (by decide))) ?_
 rintro v2 h2 ⟨f2,o2⟩
 have f2_z:=f2.size
 replace p0:=p0.F f2
 replace r1:=r1.F f2
 rw [e] at o2
 simp -dsimp only [go_sem,r1.cell]
 exact ⟨p0,o2.lower (by omega)⟩
def firstA (N:Nat) (num:Nat→Int) (L:Nat→List Int):Int×List Int:=match (List.range N).find? (fun i=>!(L i).isEmpty) with | some i=>(num i,L i) | none=>(0,[])
def axV (N:Nat) (num:Nat→Int) (F:Nat→FuncId):List Value:=(List.range N).flatMap fun i=>[.int .i64 (num i),.func (.func (F i)) #[] #[]]
theorem axV_succ {N:Nat} {num:Nat→Int} {F:Nat→FuncId}:axV (N+1) num F=axV N num F++[.int .i64 (num N),.func (.func (F N)) #[] #[]]:=by
 unfold axV;rw [List.range_succ,List.flatMap_append];simp
theorem axV_len {N:Nat} {num:Nat→Int} {F:Nat→FuncId}:(axV N num F).length=N * 2:=by
 induction N with
 | zero=>rfl
 | succ N ih=>rw [axV_succ,List.length_append,ih];simp;omega
theorem axV_get {num:Nat→Int} {F:Nat→FuncId}:∀ {N i:Nat},i<N→(axV N num F)[i * 2]?=some (.int .i64 (num i))∧(axV N num F)[i * 2+1]?=some (.func (.func (F i)) #[] #[])
 | N+1,i,h=>by
  rw [axV_succ]
  by_cases he:i=N
  ·subst he
   rw [List.getElem?_append_right (by rw [axV_len];omega),List.getElem?_append_right (by rw [axV_len];omega),axV_len]
   simp
  ·have:=axV_get (num:=num) (F:=F) (N:=N) (i:=i) (by omega)
   rw [List.getElem?_append_left (by rw [axV_len];omega),List.getElem?_append_left (by rw [axV_len];omega)]
   exact this
set_option maxHeartbeats 1000000 in
theorem seq_first {b:Nat} {N:Nat} {num:Nat→Int} {F:Nat→FuncId} {L:Nat→List Int} (hax:Rw h b (axV N num F)) (hN:N≤1000) (hF:∀ i,i<N→∀ h1,Fr 0 0 h h1→Con Tryd.prog (F i) #[.agg (smC q g c ra wa fa rn wn fn).toArray] h1 fun v h'=>Fr 0 0 h1 h'∧Holder 1 h' v (L i).length (intsV (L i)) h1.size) :
  Con Tryd.prog 65 #[.agg (smC q g c ra wa fa rn wn fn).toArray,.slice (some ⟨b,0,none⟩) N N] h fun v h'=>Fr 0 0 h h'∧∃ w,v=.tuple #[.int .i64 (firstA N num L).1,w,.int .i64 0]∧Holder 1 h' w (firstA N num L).2.length (intsV (firstA N num L).2) h.size:=by
 refine con_q140 ?_
 have p0:Fr 0 0 h h:=.refl _ _ _
 unfold smC
 simp -dsimp only [go_sem]
 intro b2 h2 n2
 have n2_z:=n2.az
 replace p0:=p0.F n2.f0
 have r2:=n2.row
 simp -dsimp only [go_sem,r2.cell]
 have g2:h.size≤b2:=by omega
 refine loop_intro (fun i:Nat=>[(2,.pointer (some ⟨b2,0,none⟩)),(10,.slice (some ⟨b,0,none⟩) N N),(11,.int .i64 N),(12,.int .i64 i)])
  (fun i h'=>i≤N∧Fr 0 0 h h'∧Rw h' b2 (smC q g c ra wa fa rn wn fn)∧(List.range i).find? (fun i=>!(L i).isEmpty)=none) (fun i=>N - i) 0 ?_ ?_ ?_
 ·simp [Le,find]
 ·exact ⟨by omega,p0,r2,rfl⟩
 clear p0 r2
 rintro i h3 ⟨hi,p0,r2,hfn⟩
 unfold smC at r2
 have p0_z:=p0.size
 have r2_l:=r2.lt
 by_cases hlt:i<N
 ·have e1:((i:Int)<(N:Int)):=by omega
  have ax3:=hax.fr p0 (.inr (Nat.zero_le _))
  obtain ⟨k1,k2⟩:=axV_get (num:=num) (F:=F) hlt
  have k1:hcell h3 b (i * 2)=some (.int .i64 (num i)):=by rw [ax3.cell];exact k1
  have k2:hcell h3 b (i * 2+1)=some (.func (.func (F i)) #[] #[]):=by rw [ax3.cell];exact k2
  simp -dsimp only [go_sem,e1,k1,k2,r2.cell]
  intro b4 h4 n4
  have n4_z:=n4.az
  replace p0:=p0.F n4.f0
  replace r2:=r2.F n4.f0
  have r4:=n4.row
  simp -dsimp only [go_sem,r2.cell,r4.cell]
  refine Chk_intro (r4.W) fun h5 s5=>?_
  have s5_z:=s5.size
  replace p0:=p0.F s5.fr
  replace r2:=r2.F s5.fr
  replace r4:=s5.row r4
  try simp only [cl_int,cl_bool,cl_slice,cl_ptr,putAt_one,zs0,zs1,ivec_set,brow_upd] at r4
  try simp -dsimp only [go_sem] at r4
  simp -dsimp only [go_sem,r2.cell,r4.cell]
  refine withC_of (smC q g c ra wa fa rn wn fn) 0 (fun j x hj=>by rw [r2.cell,Nat.zero_add];exact hj) ?_
  try simp -dsimp only [go_sem,r2.cell,r4.cell]
  refine call_of (hF i hlt h5 p0) ?_
  rintro v6 h6 ⟨f6,o6⟩
  have f6_z:=f6.size
  replace p0:=p0.F f6
  replace r2:=r2.F f6
  replace r4:=r4.F f6
  obtain ⟨a6,c6,rfl⟩:=o6.is
  simp -dsimp only [go_sem,r2.cell,r4.cell]
  by_cases hk:L i=[]
  ·have hl:¬ (((L i).length:Nat):Int) > 0:=by rw [hk];decide
   simp -dsimp only [go_sem,hl,r2.cell,r4.cell]
   simp -dsimp (disch:=omega) only [wrap64]
   exact ⟨i+1,by omega,by simp [Le,find],by omega,p0,r2,by rw [List.range_succ,List.find?_append,hfn];simp [hk]⟩
  ·have hl:(((L i).length:Nat):Int) > 0:=by have:=List.length_pos_iff.2 hk;omega
   simp -dsimp only [go_sem,hl,r2.cell,r4.cell]
   have hA:firstA N num L=(num i,L i):=by
    unfold firstA
    rw [find_at (l:=List.range N) (i:=i) (x:=i) (List.getElem?_range hlt) (by rw [List.take_range,Nat.min_eq_left (by omega)];exact hfn) (by simp [hk])]
   rw [hA]
   exact ⟨p0,_,rfl,o6.lower (by omega)⟩
 ·obtain rfl:i=N:=by omega
  simp -dsimp only [go_sem,Int.lt_irrefl,r2.cell]
  have hA:firstA i num L=(0,[]):=by unfold firstA;rw [hfn]
  rw [hA]
  exact ⟨p0,_,rfl,.none _ _ _⟩
end
end Go.Proofs.Tst
/-
  seq: global; Sc, Tso.
-/
namespace Go.Proofs.Tst
open Go Go.Vc
section
variable {h : Heap} {q : GV} {g : Gr} {c : Nat → Nat} {ra wa fa : Option Addr} {rn wn fn : Nat}
end
end Go.Proofs.Tst
/-
  seq: Sc, Tso.
-/
namespace Go.Proofs.Tst
open Go Go.Vc
def axN (i:Nat):Int:=match i with | 0=>1 | 1=>2 | _=>3
def scF (i:Nat):FuncId:=match i with | 0=>66 | _=>68
theorem sc_first {g : Gr} : firstA 2 axN (scL g) = scAx g := by
  have hr : List.range 2 = [0, 1] := rfl
  unfold firstA
  rw [hr]
  by_cases h0 : scL g 0 = []
  · by_cases h1 : scL g 1 = []
    · have := scAx_none (g := g) fun l hl => by
        have : l = 0 ∨ l = 1 := by omega
        rcases this with rfl | rfl
        · exact h0
        · exact h1
      rw [this]; simp [h0, h1]
    · have := scAx_at (g := g) (k := 1) (by decide) (fun l hl => by obtain rfl : l = 0 := by omega
                                                                    exact h0) h1
      rw [this]; simp [h0, h1, axN]
  · have := scAx_at (g := g) (k := 0) (by decide) (fun l hl => by omega) h0
    rw [this]; simp [h0, axN]
section
variable {h : Heap} {q : GV} {g : Gr}
set_option maxHeartbeats 2000000 in
theorem seq_Sc (t:GrAt h q g) (ht:TabAt h) :
  Con Tryd.prog 31 #[.agg (gcells q g).toArray] h fun v h'=>Fr 0 0 h h'∧if g.good=true then ∃ w,v=.tuple #[.int .i64 (scAx g).1,w,.int .i64 0]∧Holder 1 h' w (scAx g).2.length (intsV (scAx g).2) h.size
   else v=.tuple #[.int .i64 0,.slice none 0 0,.int .i64 4]:=by
 have p0:Fr 0 0 h h:=.refl _ _ _
 by_cases hg:g.good=true
 rotate_left
 ·simp only [if_neg hg]
  refine con_q136 ?_
  unfold gcells
  simp -dsimp only [go_sem]
  intro b1 h1 n1
  have n1_a:=n1.at_
  have n1_z:=n1.size
  replace p0:=p0.F n1.f0
  have r1:=n1.row
  simp -dsimp only [go_sem,r1.cell]
  refine call_of (graph_Derive (t.fr p0) (ht.fr p0 (.inr rfl))) ?_
  rintro v2 h2 ⟨f2,w⟩
  have f2_z:=f2.size
  replace p0:=p0.F f2
  replace r1:=r1.F f2
  rw [if_neg hg] at w
  subst w
  unfold fzero
  simp -dsimp only [go_sem,r1.cell]
  intro b3 h3 n3
  have n3_a:=n3.at_
  have n3_z:=n3.size
  replace p0:=p0.F n3.f0
  replace r1:=r1.F n3.f0
  have r3:=n3.row
  simp -dsimp only [go_sem,r1.cell,r3.cell]
  refine Chk_intro (r3.W) fun h4 s4=>?_
  have s4_z:=s4.size
  replace p0:=p0.F s4.fr
  replace r1:=r1.F s4.fr
  replace r3:=s4.row r3
  try simp only [cl_int,cl_bool,cl_slice,cl_ptr,putAt_one,zs0,zs1,ivec_set,brow_upd] at r3
  simp -dsimp only [go_sem,r1.cell,r3.cell]
  exact p0
 simp only [if_pos hg]
 refine con_q136 ?_
 unfold gcells
 simp -dsimp only [go_sem]
 intro b1 h1 n1
 have n1_a:=n1.at_
 have n1_z:=n1.size
 replace p0:=p0.F n1.f0
 have r1:=n1.row
 simp -dsimp only [go_sem,r1.cell]
 refine call_of (graph_Derive (t.fr p0) (ht.fr p0 (.inr rfl))) ?_
 rintro v2 h2 ⟨f2,w⟩
 have f2_z:=f2.size
 replace p0:=p0.F f2
 replace r1:=r1.F f2
 rw [if_pos hg] at w
 obtain ⟨p,rd,wr,fe,rfl,F⟩:=w
 obtain ⟨c,ra,wa,fa,rn,wn,fn,e,m⟩:=Sm.of (t.fr p0) hg F
 clear F
 rw [e]
 clear e
 have p2:Fr 0 0 h2 h2:=.refl _ _ _
 simp -dsimp only [go_sem,r1.cell]
 intro b3 h3 n3
 have n3_a:=n3.at_
 have n3_z:=n3.size
 replace p0:=p0.F n3.f0
 replace r1:=r1.F n3.f0
 replace p2:=p2.F n3.f0
 have r3:=n3.row
 simp -dsimp only [go_sem,r1.cell,r3.cell]
 refine Chk_intro (r3.W) fun h4 s4=>?_
 have s4_z:=s4.size
 replace p0:=p0.F s4.fr
 replace r1:=r1.F s4.fr
 replace p2:=p2.F s4.fr
 replace r3:=s4.row r3
 try simp only [cl_int,cl_bool,cl_slice,cl_ptr,putAt_one,zs0,zs1,ivec_set,brow_upd] at r3
 try simp -dsimp only [go_sem] at r3
 simp -dsimp only [go_sem,r1.cell,r3.cell]
 refine withC_of [.pointer (some ⟨c 0,0,none⟩),.pointer (some ⟨c 1,0,none⟩),.pointer (some ⟨c 2,0,none⟩),.pointer (some ⟨c 9,0,none⟩),.pointer (some ⟨c 3,0,none⟩),.pointer (some ⟨c 4,0,none⟩),.pointer (some ⟨c 5,0,none⟩),.pointer (some ⟨c 6,0,none⟩),.pointer (some ⟨c 7,0,none⟩),.pointer (some ⟨c 8,0,none⟩),.slice ra g.n rn,.slice wa g.n wn,.slice fa g.n fn] 0 (fun j x hj=>by rw [r3.cell,Nat.zero_add];exact hj) ?_
 simp -dsimp only [go_sem,r1.cell,r3.cell]
 intro b5 h5 n5
 have n5_z:=n5.az
 replace p0:=p0.F n5.f0
 replace r1:=r1.F n5.f0
 replace p2:=p2.F n5.f0
 replace r3:=r3.F n5.f0
 have r5:=n5.row
 replace r5:Rw h5 b5 (axV 2 axN scF):=r5
 simp -dsimp only [go_sem,r1.cell,r3.cell,r5.cell]
 replace m:=m.fr p2
 have hF:∀ i,i<2→∀ h6,Fr 0 0 h5 h6→Con Tryd.prog (scF i) #[.agg (smC q g c ra wa fa rn wn fn).toArray] h6 fun v h'=>Fr 0 0 h6 h'∧Holder 1 h' v (scL g i).length (intsV (scL g i)) h6.size:=by
  intro i hi h6 f
  match i,hi with
  | 0,_=>exact seq_Sc_1 (m.fr f) (ht.fr (p0.trans f) (.inr rfl))
  | 1,_=>exact seq_torn (m.fr f) (ht.fr (p0.trans f) (.inr rfl))
  | i+2,hi=>omega
 refine call_of (seq_first (q:=q) (g:=g) (c:=c) (ra:=ra) (wa:=wa) (fa:=fa) (rn:=rn) (wn:=wn) (fn:=fn) (F:=scF) (L:=scL g) r5 (by decide) hF) ?_
 rintro v7 h7 ⟨f7,w7,rfl,o7⟩
 have f7_z:=f7.size
 replace p0:=p0.F f7
 replace r1:=r1.F f7
 replace p2:=p2.F f7
 replace r3:=r3.F f7
 replace r5:=r5.F f7
 rw [sc_first] at o7 ⊢
 simp -dsimp only [go_sem,r1.cell,r3.cell,r5.cell]
 exact ⟨p0,_,rfl,o7.lower (by omega)⟩
end
end Go.Proofs.Tst
/-
  law21: two, the example.
-/
namespace Go.Proofs.Tst
open Go Go.Vc
theorem c_law21_ev (a b c:Int) (d:Int) {h:Heap}:Con Tryd.prog 22 #[.int .i64 a,.int .i64 b,.int .i64 c,.int .u64 d] h fun v h'=>Fr 0 0 h h'∧v=.agg #[.int .i64 a,.int .i64 b,.int .i64 c,.int .u64 d,.int .i64 1]:=by
 refine con_q44 ?_
 have p0:Fr 0 0 h h:=.refl _ _ _
 simp -dsimp only [go_sem]
 intro b1 h1 n1
 have n1_z:=n1.az
 replace p0:=p0.F n1.f0
 have r1:=n1.row
 simp -dsimp only [go_sem,r1.cell]
 refine Chk_intro (r1.W) fun h2 s2=>?_
 have s2_z:=s2.size
 replace p0:=p0.F s2.fr
 replace r1:=s2.row r1
 try simp only [cl_int,cl_bool,cl_slice,cl_ptr,putAt_one,zs0,zs1,ivec_set,brow_upd] at r1
 try simp -dsimp only [go_sem] at r1
 simp -dsimp only [go_sem,r1.cell]
 exact p0
set_option maxHeartbeats 2000000 in
theorem c_law21_two {h:Heap} {ea fa xa ya:Option Addr} {ec fc xc yc:Nat} {E:List Ev} {rf:List (Int×Int)} {x y:List Int} {lo:Nat} (hlo:lo≤h.size) (he:Rd 5 h (.slice ea E.length ec) E.length (evsV E)) (hf:∀ h',Fr 0 lo h h'→Rd 2 h' (.slice fa rf.length fc) rf.length (pairsV rf)) (hx:Rd 1 h (.slice xa x.length xc) x.length (intsV x)) (hy:Rd 1 h (.slice ya y.length yc) y.length (intsV y))
  (be:E.length≤1000) (bf:rf.length≤1000) (bx:x.length≤1000) (by_:y.length≤1000) :
  Con Tryd.prog 21 #[.slice ea E.length ec,.slice fa rf.length fc,.slice xa x.length xc,.slice ya y.length yc] h fun v h'=>Fr 0 0 h h'∧∃ q,v=.agg (gcells q (twoG 1 E rf x y)).toArray∧∀ h2,Fr 0 lo h' h2→GrAt h2 q (twoG 1 E rf x y):=by
 refine con_q48 ?_
 have p0:Fr 0 0 h h:=.refl _ _ _
 simp -dsimp only [go_sem]
 intro b8 h1 n1
 have n1_z:=n1.az
 replace p0:=p0.F n1.f0
 have r8:=n1.row
 simp -dsimp only [go_sem,r8.cell]
 refine call_of (c_law21_ev (-1) 2 0 0) ?_
 rintro v2 h2 ⟨f2,rfl⟩
 have f2_z:=f2.size
 replace p0:=p0.F f2
 replace r8:=r8.F f2
 simp -dsimp only [go_sem,r8.cell]
 refine call_of (c_law21_ev (-1) 2 1 0) ?_
 rintro v3 h3 ⟨f3,rfl⟩
 have f3_z:=f3.size
 replace p0:=p0.F f3
 replace r8:=r8.F f3
 simp -dsimp only [go_sem,r8.cell]
 intro b14 h4 n4
 have n4_z:=n4.az
 replace p0:=p0.F n4.f0
 replace r8:=r8.F n4.f0
 have r14:=n4.row
 replace r14:Rw h4 b14 (evsV [⟨-1,2,0,0,1⟩,⟨-1,2,1,0,1⟩]):=r14
 simp -dsimp only [go_sem,r8.cell,r14.cell]
 intro b9 h5 n5
 have n5_z:=n5.az
 replace p0:=p0.F n5.f0
 replace r8:=r8.F n5.f0
 replace r14:=r14.F n5.f0
 have r9:=n5.row
 simp -dsimp only [go_sem,r8.cell,r14.cell,r9.cell]
 refine Chk_intro (r9.W) fun h6 s6=>?_
 have s6_z:=s6.size
 replace p0:=p0.F s6.fr
 replace r8:=r8.F s6.fr
 replace r14:=r14.F s6.fr
 replace r9:=s6.row r9
 try simp only [cl_int,cl_bool,cl_slice,cl_ptr,putAt_one,zs0,zs1,ivec_set,brow_upd] at r9
 try simp -dsimp only [go_sem] at r9
 have gb:b8<b14∧b14<b9∧b9<h6.size∧h.size≤b8:=by omega
 simp -dsimp only [go_sem,r8.cell,r14.cell,r9.cell]
 refine (holder_row (s:=5) (n:=2) (lo:=b14) r14 rfl (Nat.le_refl _)).appendRd (he.fr p0) (by omega) rfl (by omega) (oc_evs _) (by omega) fun v7 h7 o7 f7 e7=>?_
 have lb:bl (.slice (some ⟨b14,0,none⟩) 2 2)=b14∧bh (.slice (some ⟨b14,0,none⟩) 2 2)=b14+1:=⟨rfl,rfl⟩
 rw [lb.1,lb.2] at f7
 clear r14
 have z7:=f7.size
 have f7_z:=f7.size
 replace p0:=p0.F f7
 replace r8:=r8.F f7
 replace r9:=r9.F f7
 rw [← evsV_append] at o7
 obtain ⟨a7,c7,rfl⟩:=o7.is
 have a7_a:=o7.at_
 have e7':=e7
 clear e7
 simp -dsimp only [go_sem,r8.cell,r9.cell]
 refine Chk_intro (r9.W) fun h8 s8=>?_
 have s8_z:=s8.size
 replace p0:=p0.F s8.fr
 replace r8:=r8.F s8.fr
 replace r9:=s8.row r9
 try simp only [cl_int,cl_bool,cl_slice,cl_ptr,putAt_one,zs0,zs1,ivec_set,brow_upd] at r9
 replace o7:=o7.fr s8.fr (by omega)
 simp -dsimp only [go_sem,r8.cell,r9.cell]
 intro b10 h9 n9
 have n9_z:=n9.az
 replace p0:=p0.F n9.f0
 replace r8:=r8.F n9.f0
 replace r9:=r9.F n9.f0
 have r10:=n9.row
 replace r10:Rw h9 b10 (intsV [0]):=r10
 replace o7:=o7.fr n9.f0 (by omega)
 simp -dsimp only [go_sem,r8.cell,r9.cell,r10.cell]
 have p9:Fr 0 0 h8 h9:=n9.fr
 refine (holder_row (s:=1) (n:=1) (lo:=b10) r10 rfl (Nat.le_refl _)).appendRd (hx.fr p0) (by omega) rfl (by omega) (oc_ints _) (by omega) fun v10 h10 o10 f10 e10=>?_
 have lb:bl (.slice (some ⟨b10,0,none⟩) 1 1)=b10∧bh (.slice (some ⟨b10,0,none⟩) 1 1)=b10+1:=⟨rfl,rfl⟩
 rw [lb.1,lb.2] at f10
 clear r10
 have z10:=f10.size
 have f10_z:=f10.size
 replace p0:=p0.F f10
 replace r8:=r8.F f10
 replace r9:=r9.F f10
 have o7t:=o7.top
 replace o7:=o7.fr f10 (by omega)
 rw [← intsV_append] at o10
 obtain ⟨a10,c10,rfl⟩:=o10.is
 have a10_a:=o10.at_
 clear e10
 simp -dsimp only [go_sem,r8.cell,r9.cell]
 intro b11 h11 n11
 have n11_z:=n11.az
 replace p0:=p0.F n11.f0
 replace r8:=r8.F n11.f0
 replace r9:=r9.F n11.f0
 have r11:=n11.row
 replace r11:Rw h11 b11 (intsV [1]):=r11
 replace o7:=o7.fr n11.f0 (by omega)
 have o10t:=o10.top
 replace o10:=o10.fr n11.f0 (by omega)
 simp -dsimp only [go_sem,r8.cell,r9.cell,r11.cell]
 refine (holder_row (s:=1) (n:=1) (lo:=b11) r11 rfl (Nat.le_refl _)).appendRd (hy.fr p0) (by omega) rfl (by omega) (oc_ints _) (by omega) fun v12 h12 o12 f12 e12=>?_
 have lb:bl (.slice (some ⟨b11,0,none⟩) 1 1)=b11∧bh (.slice (some ⟨b11,0,none⟩) 1 1)=b11+1:=⟨rfl,rfl⟩
 rw [lb.1,lb.2] at f12
 clear r11
 have z12:=f12.size
 have f12_z:=f12.size
 replace p0:=p0.F f12
 replace r8:=r8.F f12
 replace r9:=r9.F f12
 have o7t:=o7.top
 replace o7:=o7.fr f12 (by omega)
 replace o10:=o10.fr f12 (by omega)
 rw [← intsV_append] at o12
 obtain ⟨a12,c12,rfl⟩:=o12.is
 have a12_a:=o12.at_
 clear e12
 simp -dsimp only [go_sem,r8.cell,r9.cell]
 intro b13 h13 n13
 have n13_z:=n13.az
 replace p0:=p0.F n13.f0
 replace r8:=r8.F n13.f0
 replace r9:=r9.F n13.f0
 have r13:=n13.row
 try simp -dsimp only [go_sem] at r13
 replace o7:=o7.fr n13.f0 (by omega)
 replace o10:=o10.fr n13.f0 (by omega)
 replace o12:=o12.fr n13.f0 (by omega)
 simp -dsimp only [go_sem,r8.cell,r9.cell,r13.cell]
 refine Chk_intro (r9.W) fun h14 s14=>?_
 have s14_z:=s14.size
 replace p0:=p0.F s14.fr
 replace r8:=r8.F s14.fr
 replace r13:=r13.F s14.fr
 replace r9:=s14.row r9
 try simp only [cl_int,cl_bool,cl_slice,cl_ptr,putAt_one,zs0,zs1,ivec_set,brow_upd] at r9
 try simp -dsimp only [go_sem] at r9
 have z14:=s14.size
 replace o7:=o7.fr s14.fr (by omega)
 replace o10:=o10.fr s14.fr (by omega)
 replace o12:=o12.fr s14.fr (by omega)
 simp -dsimp only [go_sem,r8.cell,r9.cell,r13.cell]
 refine Chk_intro (r8.W) fun h15 s15=>?_
 have s15_z:=s15.size
 replace p0:=p0.F s15.fr
 replace r9:=r9.F s15.fr
 replace r13:=r13.F s15.fr
 replace r8:=s15.row r8
 try simp only [cl_int,cl_bool,cl_slice,cl_ptr,putAt_one,zs0,zs1,ivec_set,brow_upd] at r8
 have z15:=s15.size
 replace o7:=o7.fr s15.fr (by omega)
 replace o10:=o10.fr s15.fr (by omega)
 replace o12:=o12.fr s15.fr (by omega)
 simp -dsimp only [go_sem,r8.cell,r9.cell,r13.cell]
 have hl:(twoG 1 E rf x y).evs.length=2+E.length:=by simp [twoG];omega
 have hx2:(intsV ([0]++x)).length=1+x.length:=by simp;omega
 have hy2:(intsV ([1]++y)).length=1+y.length:=by simp;omega
 refine ⟨p0,⟨a7,fa,some ⟨b13,0,none⟩,none,none,none,none,c7,fc,2,0,0,0,0⟩,by unfold gcells;rw [hl];rfl,fun h16 f16=>?_⟩
 replace o7:=o7.fr f16 (by have:=o7.at_;omega)
 replace o10:=o10.fr f16 (by have:=o10.at_;omega)
 replace o12:=o12.fr f16 (by have:=o12.at_;omega)
 replace r13:=r13.F f16
 obtain ⟨u1,v1,k1,k1'⟩:=o10.room (by omega)
 cases k1
 obtain ⟨u2,v2,k2,k2'⟩:=o12.room (by omega)
 cases k2
 have hrl:RLc h16 (.slice (some ⟨b13,0,none⟩) 2 2) [intsV ([0]++x),intsV ([1]++y)]:=by
  refine ⟨_,Rw.rd (s:=1) r13 rfl,fun i l hi=>?_⟩
  match i,hi with
  | 0,hi =>
   cases hi
   exact ⟨_,_,by rw [hx2];rfl,by rw [hx2];exact k1',by rw [hx2];exact o10.rd⟩
  | 1,hi =>
   cases hi
   exact ⟨_,_,by rw [hy2];rfl,by rw [hy2];exact k2',by rw [hy2];exact o12.rd⟩
  | i+2,hi=>simp at hi
 refine ⟨by rw [hl];exact o7.rd,hf _ ((p0.wide (Nat.zero_le _)).trans f16),rlc_rl hrl,nilP,nilP,nilP,nilP,⟨by rw [hl];omega,by show rf.length≤_;omega,by show 2≤_;omega,by show 0≤_;omega,by show 0≤_;omega,by show 0≤_;omega,by show 0≤_;omega,fun l hl=>?_⟩,by show 2≤2;omega,hrl⟩
 have hl:l=[0]++x∨l=[1]++y:=by simpa [twoG] using hl
 rcases hl with rfl | rfl <;> (simp;omega)
def xmE:List Ev:=[⟨0,2,0,1,1⟩,⟨0,1,1,0,1⟩,⟨1,2,1,1,1⟩,⟨1,1,0,1,1⟩]
def xmG:Gr:=twoG 1 xmE [(1,3),(2,5)] [2] [4]
theorem c_law21_example {h:Heap}:Con Tryd.prog 17 #[] h fun v h'=>Fr 0 0 h h'∧∃ q,v=.agg (gcells q xmG).toArray∧GrAt h' q xmG:=by
 refine con_q45 ?_
 have p0:Fr 0 0 h h:=.refl _ _ _
 simp -dsimp only [go_sem]
 intro b4 h1 n1
 have n1_z:=n1.az
 replace p0:=p0.F n1.f0
 have r4:=n1.row
 simp -dsimp only [go_sem,r4.cell]
 refine call_of (c_law21_ev 0 2 0 1) ?_
 rintro v h2 ⟨f2,rfl⟩
 have f2_z:=f2.size
 replace p0:=p0.F f2
 replace r4:=r4.F f2
 simp -dsimp only [go_sem,r4.cell]
 refine call_of (c_law21_ev 0 1 1 0) ?_
 rintro v h3 ⟨f3,rfl⟩
 have f3_z:=f3.size
 replace p0:=p0.F f3
 replace r4:=r4.F f3
 simp -dsimp only [go_sem,r4.cell]
 refine call_of (c_law21_ev 1 2 1 1) ?_
 rintro v h4 ⟨f4,rfl⟩
 have f4_z:=f4.size
 replace p0:=p0.F f4
 replace r4:=r4.F f4
 simp -dsimp only [go_sem,r4.cell]
 refine call_of (c_law21_ev 1 1 0 1) ?_
 rintro v h5 ⟨f5,rfl⟩
 have f5_z:=f5.size
 replace p0:=p0.F f5
 replace r4:=r4.F f5
 simp -dsimp only [go_sem,r4.cell]
 intro b6 h6 n6
 have n6_z:=n6.az
 replace p0:=p0.F n6.f0
 replace r4:=r4.F n6.f0
 have r6:=n6.row
 simp -dsimp only [go_sem,r4.cell,r6.cell]
 intro b7 h7 n7
 have n7_z:=n7.az
 replace p0:=p0.F n7.f0
 replace r4:=r4.F n7.f0
 replace r6:=r6.F n7.f0
 have r7:=n7.row
 simp -dsimp only [go_sem,r4.cell,r6.cell,r7.cell]
 intro b8 h8 n8
 have n8_z:=n8.az
 replace p0:=p0.F n8.f0
 replace r4:=r4.F n8.f0
 replace r6:=r6.F n8.f0
 replace r7:=r7.F n8.f0
 have r8:=n8.row
 simp -dsimp only [go_sem,r4.cell,r6.cell,r7.cell,r8.cell]
 intro b9 h9 n9
 have n9_z:=n9.az
 replace p0:=p0.F n9.f0
 replace r4:=r4.F n9.f0
 replace r6:=r6.F n9.f0
 replace r7:=r7.F n9.f0
 replace r8:=r8.F n9.f0
 have r9:=n9.row
 simp -dsimp only [go_sem,r4.cell,r6.cell,r7.cell,r8.cell,r9.cell]
 refine call_of (c_law21_two (E:=xmE) (rf:=[(1,3),(2,5)]) (x:=[2]) (y:=[4]) (lo:=b4+1) (by omega) (Rw.rd (s:=5) (n:=4) (c:=4) r6 rfl) (fun h' f=>Rw.rd (s:=2) (n:=2) (c:=2) (r7.fr f (by omega)) rfl) (Rw.rd (s:=1) (n:=1) (c:=1) r8 rfl) (Rw.rd (s:=1) (n:=1) (c:=1) r9 rfl) (Nat.le_of_ble_eq_true rfl) (by simp) (by simp) (by simp)) ?_
 rintro v h10 ⟨f10,q,rfl,t⟩
 have f10_z:=f10.size
 replace p0:=p0.F f10
 replace r4:=r4.F f10
 replace r6:=r6.F f10
 replace r7:=r7.F f10
 replace r8:=r8.F f10
 replace r9:=r9.F f10
 unfold gcells
 simp -dsimp only [go_sem,r4.cell,r6.cell,r7.cell,r8.cell,r9.cell]
 refine Chk_intro (r4.W) fun h11 s11=>?_
 have s11_z:=s11.size
 replace p0:=p0.F s11.fr
 replace r6:=r6.F s11.fr
 replace r7:=r7.F s11.fr
 replace r8:=r8.F s11.fr
 replace r9:=r9.F s11.fr
 replace r4:=s11.row r4
 try simp only [cl_int,cl_bool,cl_slice,cl_ptr,putAt_one,zs0,zs1,ivec_set,brow_upd] at r4
 have t:=t _ (s11.fr.wide (Nat.le_refl _))
 simp -dsimp only [go_sem,r4.cell,r6.cell,r7.cell,r8.cell,r9.cell]
 exact ⟨p0,q,rfl,t⟩
end Go.Proofs.Tst
/-
  total: Order, Picks, Replay.
-/
namespace Go.Proofs.Tst
open Go Go.Vc
def ordA (g:Gr):Except Int (List Nat):=if g.good=true then (if (scAx g).1=0 then glueS g.n (allM g) g.rmw else .error 3) else .error 4
theorem ResL.lower {h:Heap} {lo lo':Nat} {v:Value} {o:Except Int (List Nat)} (w:ResL h lo v o) (hl:lo'≤lo):ResL h lo' v o:=by
 unfold ResL at *
 cases o with
 | ok l=>obtain ⟨s,e,w⟩:=w;exact ⟨s,e,w.lower hl⟩
 | error e=>exact w
theorem ResL.is {h:Heap} {lo:Nat} {v:Value} {o:Except Int (List Nat)} (w:ResL h lo v o):∃ s e,v=.tuple #[s,.int .i64 e]:=by
 unfold ResL at w
 cases o with
 | ok l=>obtain ⟨s,e,w⟩:=w;exact ⟨_,_,e⟩
 | error e=>exact ⟨_,_,w⟩
section
variable {h : Heap} {q : GV} {g : Gr}
set_option maxHeartbeats 2000000 in
theorem total_Order (t:GrAt h q g) (ht:TabAt h) :
  Con Tryd.prog 23 #[.agg (gcells q g).toArray] h fun v h'=>Fr 0 0 h h'∧ResL h' h.size v (ordA g):=by
 refine con_q158 ?_
 have p0:Fr 0 0 h h:=.refl _ _ _
 have br:=t.fits.r
 unfold gcells ordA
 simp -dsimp only [go_sem]
 intro b1 h1 n1
 have n1_z:=n1.az
 replace p0:=p0.F n1.f0
 have r1:=n1.row
 simp -dsimp only [go_sem,r1.cell]
 refine call_of (seq_Sc (t.fr p0) (ht.fr p0 (.inr rfl))) ?_
 rintro v2 h2 ⟨f2,w⟩
 have f2_z:=f2.size
 replace p0:=p0.F f2
 replace r1:=r1.F f2
 by_cases hg:g.good=true
 rotate_left
 ·rw [if_neg hg] at w ⊢
  subst w
  simp -dsimp only [go_sem,r1.cell]
  exact ⟨p0,rfl⟩
 rw [if_pos hg] at w ⊢
 obtain ⟨w,rfl,o⟩:=w
 clear o
 by_cases h0:(scAx g).1=0
 rotate_left
 ·rw [if_neg h0]
  simp -dsimp only [go_sem,bne_f h0,r1.cell]
  exact ⟨p0,rfl⟩
 rw [if_pos h0]
 simp -dsimp only [go_sem,bne_t h0,r1.cell]
 refine call_of (graph_Derive (t.fr p0) (ht.fr p0 (.inr rfl))) ?_
 rintro v3 h3 ⟨f3,w⟩
 have f3_z:=f3.size
 replace p0:=p0.F f3
 replace r1:=r1.F f3
 rw [if_pos hg] at w
 obtain ⟨p,rd,wr,fe,rfl,F⟩:=w
 obtain ⟨c,ra,wa,fa,rn,wn,fn,e,m⟩:=Sm.of (t.fr p0) hg F
 clear F
 rw [e]
 clear e
 have p3:Fr 0 0 h3 h3:=.refl _ _ _
 simp -dsimp only [go_sem,r1.cell]
 intro b4 h4 n4
 have n4_z:=n4.az
 replace p0:=p0.F n4.f0
 replace r1:=r1.F n4.f0
 replace p3:=p3.F n4.f0
 have r4:=n4.row
 simp -dsimp only [go_sem,r1.cell,r4.cell]
 refine Chk_intro (r4.W) fun h5 s5=>?_
 have s5_z:=s5.size
 replace p0:=p0.F s5.fr
 replace r1:=r1.F s5.fr
 replace p3:=p3.F s5.fr
 replace r4:=s5.row r4
 try simp only [cl_int,cl_bool,cl_slice,cl_ptr,putAt_one,zs0,zs1,ivec_set,brow_upd] at r4
 try simp -dsimp only [go_sem] at r4
 simp -dsimp only [go_sem,r1.cell,r4.cell]
 intro b6 h6 n6
 have n6_z:=n6.az
 replace p0:=p0.F n6.f0
 replace r1:=r1.F n6.f0
 replace p3:=p3.F n6.f0
 replace r4:=r4.F n6.f0
 have r6:=n6.row
 simp -dsimp only [go_sem,r1.cell,r4.cell,r6.cell]
 replace m:=m.fr p3
 refine call_of (rel_UnionU (UA.mk' [(.pointer (some ⟨c 0,0,none⟩),relM g 0),(.pointer (some ⟨c 1,0,none⟩),relM g 1),(.pointer (some ⟨c 2,0,none⟩),relM g 2),(.pointer (some ⟨c 9,0,none⟩),relM g 9)] r6 (pa_cons (m.rel 0 (by decide)) (pa_cons (m.rel 1 (by decide)) (pa_cons (m.rel 2 (by decide)) (pa_cons (m.rel 9 (by decide)) pa_nil)))) (by simp) (by simp))) ?_
 rintro v7 h7 ⟨f7,t7⟩
 have f7_z:=f7.size
 replace p0:=p0.F f7
 replace r1:=r1.F f7
 replace p3:=p3.F f7
 replace r4:=r4.F f7
 replace r6:=r6.F f7
 have t7:=t7.congr (M':=allM g) fun i j _ _=>by simp [orM,allM,Bool.or_assoc]
 simp -dsimp only [go_sem,r1.cell,r4.cell,r6.cell]
 refine call_of (order_Glue t7 (ht.fr p0 (.inr rfl)) (t.r.fr p0) (by omega)) ?_
 rintro v8 h8 ⟨f8,o8⟩
 have f8_z:=f8.size
 replace p0:=p0.F f8
 replace r1:=r1.F f8
 replace p3:=p3.F f8
 replace r4:=r4.F f8
 replace r6:=r6.F f8
 obtain ⟨s8,e8,rfl⟩:=o8.is
 simp -dsimp only [go_sem,r1.cell,r4.cell,r6.cell]
 exact ⟨p0,o8.lower (by omega)⟩
def pickA (g:Gr) (l:List Int):Except Int (List Int):=if g.good=true then (if LinP g.n (relM g 0) l then .ok (picksL g (natsOf l)) else .error 3) else .error 4
def ResI (h:Heap) (lo:Nat) (v:Value) (o:Except Int (List Int)):Prop:=
 match o with
 | .ok l=>∃ s,v=.tuple #[s,.int .i64 0]∧Holder 1 h s l.length (intsV l) lo
 | .error e=>v=.tuple #[.slice none 0 0,.int .i64 e]
structure LinF (g:Gr) (l:List Int):Prop where
 len:l.length=g.n
 at_:∀ i,i<l.length→∃ x:Nat,l[i]?=some (x:Int)∧(natsOf l)[i]?=some x∧x<g.n
theorem LinF.of {g:Gr} {M:Mx} {l:List Int} (hl:LinP g.n M l):LinF g l:=by
 obtain ⟨e,hp,hlen⟩:=lin_pre.1 hl
 have h1:(natsOf l).length=l.length:=by simp [natsOf]
 refine ⟨by omega,fun i hi=>?_⟩
 have h2:(natsOf l)[i]?=some (natsOf l)[i]:=List.getElem?_eq_getElem (by omega)
 refine ⟨(natsOf l)[i],?_,h2,hp.2.1 _ (List.getElem_mem _)⟩
 have h3:((natsOf l).map fun (p:Nat)=>(p:Int))[i]?=some ((natsOf l)[i]:Int):=by rw [List.getElem?_map,h2];rfl
 rw [e] at h3;exact h3
theorem picks_step {g:Gr} {m:List Nat} {i x:Nat} (h:m[i]?=some x):picksL g (m.take (i+1))=picksL g (m.take i)++(if 0≤(g.ev x).thread then [(g.ev x).thread] else []):=by
 rw [List.take_add_one,h];exact picksL_snoc _ _
theorem picks_len {g:Gr} {m:List Nat}:(picksL g m).length≤m.length:=by
 unfold picksL;exact Nat.le_trans (List.length_filter_le _ _) (by simp)
theorem picks_len' {g:Gr} {m:List Nat} {i:Nat}:(picksL g (m.take i)).length≤i:=Nat.le_trans picks_len (by simp;omega)
set_option maxHeartbeats 2000000 in
theorem total_Picks (t:GrAt h q g) (ht:TabAt h) {la:Option Addr} {lc:Nat} {l:List Int} (hl:Rd 1 h (.slice la l.length lc) l.length (intsV l)) (hb:l.length≤4611686018427387904) :
  Con Tryd.prog 28 #[.agg (gcells q g).toArray,.slice la l.length lc] h fun v h'=>Fr 0 0 h h'∧ResI h' h.size v (pickA g l):=by
 refine con_q159 ?_
 have p0:Fr 0 0 h h:=.refl _ _ _
 unfold gcells pickA
 simp -dsimp only [go_sem]
 intro b2 h1 n1
 have n1_z:=n1.az
 replace p0:=p0.F n1.f0
 have r2:=n1.row
 simp -dsimp only [go_sem,r2.cell]
 refine call_of (graph_Derive (t.fr p0) (ht.fr p0 (.inr rfl))) ?_
 rintro v3 h3 ⟨f3,w⟩
 have f3_z:=f3.size
 replace p0:=p0.F f3
 replace r2:=r2.F f3
 by_cases hg:g.good=true
 rotate_left
 ·rw [if_neg hg] at w ⊢
  subst w
  unfold fzero
  simp -dsimp only [go_sem,r2.cell]
  intro b4 h4 n4
  have n4_a:=n4.at_
  have n4_z:=n4.size
  replace p0:=p0.F n4.f0
  replace r2:=r2.F n4.f0
  have r4:=n4.row
  simp -dsimp only [go_sem,r2.cell,r4.cell]
  refine Chk_intro (r4.W) fun h5 s5=>?_
  have s5_z:=s5.size
  replace p0:=p0.F s5.fr
  replace r2:=r2.F s5.fr
  replace r4:=s5.row r4
  try simp only [cl_int,cl_bool,cl_slice,cl_ptr,putAt_one,zs0,zs1,ivec_set,brow_upd] at r4
  simp -dsimp only [go_sem,r2.cell,r4.cell]
  exact ⟨p0,rfl⟩
 rw [if_pos hg] at w ⊢
 have hn:=(good_n hg).1
 obtain ⟨p,rd,wr,fe,rfl,F⟩:=w
 obtain ⟨c,ra,wa,fa,rn,wn,fn,e,m⟩:=Sm.of (t.fr p0) hg F
 clear F
 rw [e]
 clear e
 have p3:Fr 0 0 h3 h3:=.refl _ _ _
 simp -dsimp only [go_sem,r2.cell]
 intro b4 h4 n4
 have n4_a:=n4.at_
 have n4_z:=n4.size
 replace p0:=p0.F n4.f0
 replace r2:=r2.F n4.f0
 replace p3:=p3.F n4.f0
 have r4:=n4.row
 simp -dsimp only [go_sem,r2.cell,r4.cell]
 refine Chk_intro (r4.W) fun h5 s5=>?_
 have s5_z:=s5.size
 replace p0:=p0.F s5.fr
 replace r2:=r2.F s5.fr
 replace p3:=p3.F s5.fr
 replace r4:=s5.row r4
 try simp only [cl_int,cl_bool,cl_slice,cl_ptr,putAt_one,zs0,zs1,ivec_set,brow_upd] at r4
 try simp -dsimp only [go_sem] at r4
 simp -dsimp only [go_sem,r2.cell,r4.cell]
 obtain ⟨_,_,ta⟩:=(m.fr p3).rel 0 (by decide)
 refine call_of (order_Linear ta (ht.fr p0 (.inr rfl)) (hl.fr p0) hb) ?_
 rintro v6 h6 ⟨f6,rfl⟩
 have f6_z:=f6.size
 replace p0:=p0.F f6
 replace r2:=r2.F f6
 replace p3:=p3.F f6
 replace r4:=r4.F f6
 by_cases hlin:LinP g.n (relM g 0) l
 rotate_left
 ·rw [if_neg hlin,decide_eq_false hlin]
  simp -dsimp only [go_sem,r2.cell,r4.cell]
  exact ⟨p0,rfl⟩
 rw [if_pos hlin,decide_eq_true hlin]
 have L:=LinF.of hlin
 have Ll:=L.len
 have gb:h.size≤h6.size∧b2<h6.size:=by omega
 clear r4 m
 simp -dsimp only [go_sem,r2.cell]
 refine loop_intro (fun s:Nat×Value=>[(2,.pointer (some ⟨b2,0,none⟩)),(8,s.2),(25,.slice la l.length lc),(26,.int .i64 l.length),(27,.int .i64 s.1)])
  (fun s h'=>s.1≤l.length∧Fr 0 0 h h'∧Rw h' b2 (gcells q g)∧h6.size≤h'.size∧Holder 1 h' s.2 (picksL g ((natsOf l).take s.1)).length (intsV (picksL g ((natsOf l).take s.1))) h6.size) (fun s=>l.length - s.1) (0,.slice none 0 0) ?_ ?_ ?_
 ·simp [Le,find]
 ·exact ⟨by omega,p0,r2,by omega,.none _ _ _⟩
 clear p0 r2 p3
 rintro ⟨i,sv⟩ h7 ⟨hi,p0,r2,z7,o⟩
 dsimp only at hi o ⊢
 obtain ⟨oa,oc,rfl⟩:=o.is
 unfold gcells at r2
 have p0_z:=p0.size
 have r2_l:=r2.lt
 have o_l:=o.top
 by_cases hlt:i<l.length
 ·have e1:((i:Int)<(l.length:Int)):=by omega
  obtain ⟨x,k1,k2,hx⟩:=L.at_ i hlt
  have hps:=picks_step (g:=g) k2
  have hpl:=picks_len' (g:=g) (m:=natsOf l) (i:=i)
  obtain ⟨eb,eo,he,hev⟩:=t.evs (by omega)
  obtain ⟨c0,c1,c2,c3,c4⟩:=hev h7 p0 x hx
  simp -dsimp only [go_sem,e1,r2.cell]
  refine (hl.fr p0).idx (by omega) fun lb lo hlc=>?_
  have k3:=hlc i _ (intsV_get k1)
  have e2:((x:Int)<(g.evs.length:Int)):=by show (x:Int)<(g.n:Int);omega
  simp -dsimp only [go_sem,k3,he,e2,c0,r2.cell]
  by_cases hth:(g.ev x).thread≥0
  ·rw [if_pos hth] at hps
   simp -dsimp only [go_sem,hth,r2.cell]
   intro b8 h8 n8
   have n8_z:=n8.az
   replace p0:=p0.F n8.f0
   replace r2:=r2.F n8.f0
   replace o:=o.fr n8.f0 (by have:=o.at_;omega)
   have r8:=n8.row
   simp -dsimp only [go_sem,r2.cell,r8.cell]
   refine o.append (by omega) rfl (by omega) (by simp) (by omega) fun v9 h9 o_new f9 e_app=>?_
   have f9_z:=f9.size
   have o_at:=o.at_
   replace p0:=p0.F f9
   replace r2:=r2.F f9
   replace r8:=r8.F f9
   clear o_at e_app
   replace o:=o_new
   have o_l:=o.top
   simp -dsimp only [go_sem,r2.cell,r8.cell]
   simp -dsimp (disch:=omega) only [wrap64]
   refine ⟨(i+1,v9),by dsimp only;omega,by simp [Le,find],by omega,p0,r2,by omega,?_⟩
   dsimp only
   rw [hps,intsV_append,List.length_append]
   exact o
  ·rw [if_neg hth,List.append_nil] at hps
   simp -dsimp only [go_sem,hth,r2.cell]
   simp -dsimp (disch:=omega) only [wrap64]
   refine ⟨(i+1,.slice oa (picksL g ((natsOf l).take i)).length oc),by dsimp only;omega,by simp [Le,find],by omega,p0,r2,by omega,?_⟩
   dsimp only
   rw [hps];exact o
 ·obtain rfl:i=l.length:=by omega
  have hal:(natsOf l).take l.length=natsOf l:=List.take_of_length_le (by simp [natsOf])
  simp -dsimp only [go_sem,Int.lt_irrefl,r2.cell]
  refine ⟨p0,_,rfl,?_⟩
  have o':=o.lower (lo':=h.size) (by omega)
  rw [hal] at o' ⊢;exact o'
end
end Go.Proofs.Tst
/-
  total: Replay, Right.
-/
namespace Go.Proofs.Tst
open Go Go.Vc
theorem urowX_zero (n:Nat):List.replicate n (Value.int .u64 0)=urow n fun _=>0:=by
 apply List.ext_getElem?;intro k
 by_cases hk:k<n
 ·simp [urow,hk]
 ·rw [List.getElem?_eq_none (by simp;omega),List.getElem?_eq_none (by simp [urow];omega)]
theorem urowX_congr {n:Nat} {f g:Nat→Int} (h:∀ j,j<n→f j=g j):urow n f=urow n g:=by
 unfold urow;exact List.map_congr_left fun j hj=>by rw [h j (List.mem_range.1 hj)]
section
variable {h : Heap} {q : GV} {g : Gr}
def mapW (g:Gr) (m:List Nat) (i:Nat) (c:Int):Option Value:=(lastW g (m.take i) c).map fun w=>.int .u64 (g.ev w).val
def mapL (g:Gr) (m:List Nat) (i:Nat) (c:Int):Option Value:=(lastW g (m.take i) c).map fun (w:Nat)=>.int .i64 (w:Int)
def mapQ (L:List (Int×Int)) (x:Int):Option Value:=(lkp L x).map fun v=>.int .i64 v
theorem lastW_step {m:List Nat} {i x:Nat} (hx:m[i]?=some x) (c:Int):lastW g (m.take (i+1)) c=if wrB g c x=true then some x else lastW g (m.take i) c:=by
 rw [List.take_add_one,hx];exact lastW_snoc _ _ _
theorem mapW_step {m:List Nat} {i x:Nat} (hx:m[i]?=some x) (hk:(g.ev x).kind=2) (c:Int):(if c=(g.ev x).loc then some (.int .u64 (g.ev x).val) else mapW g m i c)=mapW g m (i+1) c:=by
 unfold mapW
 rw [lastW_step hx]
 by_cases hc:c=(g.ev x).loc
 ·rw [if_pos hc,if_pos (wrB_iff.2 ⟨hk,hc.symm⟩)];rfl
 ·rw [if_neg hc,if_neg (fun h=>hc (wrB_iff.1 h).2.symm)]
theorem mapW_same {m:List Nat} {i x:Nat} (hx:m[i]?=some x) (hk:¬ (g.ev x).kind=2) (c:Int):mapW g m i c=mapW g m (i+1) c:=by
 unfold mapW
 rw [lastW_step hx,if_neg (fun h=>hk (wrB_iff.1 h).1)]
theorem mapL_step {m:List Nat} {i x:Nat} (hx:m[i]?=some x) (hk:(g.ev x).kind=2) (c:Int):(if c=(g.ev x).loc then some (.int .i64 (x:Int)) else mapL g m i c)=mapL g m (i+1) c:=by
 unfold mapL
 rw [lastW_step hx]
 by_cases hc:c=(g.ev x).loc
 ·rw [if_pos hc,if_pos (wrB_iff.2 ⟨hk,hc.symm⟩)];rfl
 ·rw [if_neg hc,if_neg (fun h=>hc (wrB_iff.1 h).2.symm)]
theorem mapL_same {m:List Nat} {i x:Nat} (hx:m[i]?=some x) (hk:¬ (g.ev x).kind=2) (c:Int):mapL g m i c=mapL g m (i+1) c:=by
 unfold mapL
 rw [lastW_step hx,if_neg (fun h=>hk (wrB_iff.1 h).1)]
def okTo (g:Gr) (m:List Nat) (i:Nat):Bool:=(List.range i).all fun j=>readOk g m j (m.getD j 0)
theorem okTo_succ {m:List Nat} {i x:Nat} (hx:m[i]?=some x):okTo g m (i+1)=(okTo g m i&&readOk g m i x):=by
 unfold okTo
 rw [List.range_succ,List.all_append]
 simp [hx]
theorem good_cells (hg:g.good=true):0≤g.cells∧g.cells≤4096∧g.cells≤(g.n:Int):=by
 have hs:=(good_n hg).2
 simp only [Gr.size,Bool.and_eq_true,decide_eq_true_eq] at hs
 exact ⟨hs.1.1.1,hs.1.1.2,hs.1.2⟩
set_option maxHeartbeats 4000000 in
theorem total_Replay (t:GrAt h q g) (ht:TabAt h) {la:Option Addr} {lc:Nat} {l:List Int} (hl:Rd 1 h (.slice la l.length lc) l.length (intsV l)) (hb:l.length≤4611686018427387904) :
  Con Tryd.prog 19 #[.agg (gcells q g).toArray,.slice la l.length lc] h fun v h'=>Fr 0 0 h h'∧if eachB g l=true then ∃ w,v=.tuple #[w,.bool (repOk g (natsOf l))]∧Holder 1 h' w (repFin g (natsOf l)).length (wordsV (repFin g (natsOf l))) h.size else v=.tuple #[.slice none 0 0,.bool false]:=by
 have p0:Fr 0 0 h h:=.refl _ _ _
 have hen:g.evs.length=g.n:=rfl
 by_cases he:eachB g l=true
 rotate_left
 ·simp only [if_neg he]
  refine con_q160 ?_
  unfold gcells
  simp -dsimp only [go_sem]
  intro b2 h1 n1
  have n1_a:=n1.at_
  have n1_z:=n1.size
  replace p0:=p0.F n1.f0
  have r2:=n1.row
  simp -dsimp only [go_sem,r2.cell]
  refine call_of (graph_Derive (t.fr p0) (ht.fr p0 (.inr rfl))) ?_
  rintro v3 h3 ⟨f3,w⟩
  have f3_z:=f3.size
  replace p0:=p0.F f3
  replace r2:=r2.F f3
  by_cases hg:g.good=true
  rotate_left
  ·rw [if_neg hg] at w
   subst w
   unfold fzero
   simp -dsimp only [go_sem,r2.cell]
   intro b4 h4 n4
   have n4_a:=n4.at_
   have n4_z:=n4.size
   replace p0:=p0.F n4.f0
   replace r2:=r2.F n4.f0
   have r4:=n4.row
   simp -dsimp only [go_sem,r2.cell,r4.cell]
   refine Chk_intro (r4.W) fun h5 s5=>?_
   have s5_z:=s5.size
   replace p0:=p0.F s5.fr
   replace r2:=r2.F s5.fr
   replace r4:=s5.row r4
   try simp only [cl_int,cl_bool,cl_slice,cl_ptr,putAt_one,zs0,zs1,ivec_set,brow_upd] at r4
   simp -dsimp only [go_sem,r2.cell,r4.cell]
   exact p0
  have hlin:¬ LinP g.n (fun _ _=>false) l:=fun hl=>he (by unfold eachB;simp [hl,hg])
  rw [if_pos hg] at w
  have hn:=(good_n hg).1
  have hcl:clampN (g.n:Int)=g.n:=by unfold clampN;omega
  obtain ⟨p,rd,wr,fe,rfl,F⟩:=w
  obtain ⟨c,ra,wa,fa,rn,wn,fn,e,m⟩:=Sm.of (t.fr p0) hg F
  clear F m
  rw [e]
  clear e
  simp -dsimp only [go_sem,r2.cell]
  intro b4 h4 n4
  have n4_a:=n4.at_
  have n4_z:=n4.size
  replace p0:=p0.F n4.f0
  replace r2:=r2.F n4.f0
  have r4:=n4.row
  simp -dsimp only [go_sem,r2.cell,r4.cell]
  refine Chk_intro (r4.W) fun h5 s5=>?_
  have s5_z:=s5.size
  replace p0:=p0.F s5.fr
  replace r2:=r2.F s5.fr
  replace r4:=s5.row r4
  try simp only [cl_int,cl_bool,cl_slice,cl_ptr,putAt_one,zs0,zs1,ivec_set,brow_upd] at r4
  simp -dsimp only [go_sem,hen,r2.cell,r4.cell]
  refine call_of (rel_New (g.n:Int) _) ?_
  rintro v6 h6 ⟨f6,t6⟩
  rw [hcl] at t6
  have f6_z:=f6.size
  replace p0:=p0.F f6
  replace r2:=r2.F f6
  replace r4:=r4.F f6
  simp -dsimp only [go_sem,r2.cell,r4.cell]
  refine call_of (order_Linear t6 (ht.fr p0 (.inr rfl)) (hl.fr p0) hb) ?_
  rintro v7 h7 ⟨f7,rfl⟩
  have f7_z:=f7.size
  replace p0:=p0.F f7
  replace r2:=r2.F f7
  replace r4:=r4.F f7
  rw [decide_eq_false hlin]
  simp -dsimp only [go_sem,r2.cell,r4.cell]
  exact p0
 simp only [if_pos he]
 have hg:g.good=true:=by unfold eachB at he;simp only [Bool.and_eq_true] at he;exact he.1
 have hlin:LinP g.n (fun _ _=>false) l:=by unfold eachB at he;simp only [Bool.and_eq_true,decide_eq_true_eq] at he;exact he.2
 obtain ⟨hc0,hc1,hc2⟩:=good_cells hg
 refine con_q160 ?_
 unfold gcells
 simp -dsimp only [go_sem]
 intro b2 h1 n1
 have n1_a:=n1.at_
 have n1_z:=n1.size
 replace p0:=p0.F n1.f0
 have r2:=n1.row
 simp -dsimp only [go_sem,r2.cell]
 refine call_of (graph_Derive (t.fr p0) (ht.fr p0 (.inr rfl))) ?_
 rintro v3 h3 ⟨f3,w⟩
 have f3_z:=f3.size
 replace p0:=p0.F f3
 replace r2:=r2.F f3
 rw [if_pos hg] at w
 have hn:=(good_n hg).1
 have hcl:clampN (g.n:Int)=g.n:=by unfold clampN;omega
 obtain ⟨p,rd,wr,fe,rfl,F⟩:=w
 obtain ⟨c,ra,wa,fa,rn,wn,fn,e,m⟩:=Sm.of (t.fr p0) hg F
 clear F m
 rw [e]
 clear e
 simp -dsimp only [go_sem,r2.cell]
 intro b4 h4 n4
 have n4_a:=n4.at_
 have n4_z:=n4.size
 replace p0:=p0.F n4.f0
 replace r2:=r2.F n4.f0
 have r4:=n4.row
 simp -dsimp only [go_sem,r2.cell,r4.cell]
 refine Chk_intro (r4.W) fun h5 s5=>?_
 have s5_z:=s5.size
 replace p0:=p0.F s5.fr
 replace r2:=r2.F s5.fr
 replace r4:=s5.row r4
 try simp only [cl_int,cl_bool,cl_slice,cl_ptr,putAt_one,zs0,zs1,ivec_set,brow_upd] at r4
 simp -dsimp only [go_sem,hen,r2.cell,r4.cell]
 refine call_of (rel_New (g.n:Int) _) ?_
 rintro v6 h6 ⟨f6,t6⟩
 rw [hcl] at t6
 have f6_z:=f6.size
 replace p0:=p0.F f6
 replace r2:=r2.F f6
 replace r4:=r4.F f6
 simp -dsimp only [go_sem,r2.cell,r4.cell]
 refine call_of (order_Linear t6 (ht.fr p0 (.inr rfl)) (hl.fr p0) hb) ?_
 rintro v7 h7 ⟨f7,rfl⟩
 have f7_z:=f7.size
 replace p0:=p0.F f7
 replace r2:=r2.F f7
 replace r4:=r4.F f7
 rw [decide_eq_true hlin]
 have L:=LinF.of hlin
 have Ll:=L.len
 have gb:h.size≤h7.size∧b2<h7.size:=by omega
 clear r4 t6
 simp -dsimp only [go_sem,r2.cell]
 intro b8 h8 n8
 have z8:=n8.size
 have a8:=n8.at_
 have M1:=n8.mapF
 replace p0:=p0.trans n8.f0
 replace r2:=r2.F n8.f0
 simp -dsimp only [go_sem,r2.cell]
 refine MapAt.of n8.get ⟨rfl,?_⟩
 simp -dsimp only [go_sem,r2.cell]
 refine loop_intro (fun i:Nat=>[(2,.pointer (some ⟨b2,0,none⟩)),(5,.bool (okTo g (natsOf l) i)),(8,.map (some b8)),(33,.slice la l.length lc),(34,.int .i64 l.length),(35,.int .i64 i)])
  (fun i h'=>i≤l.length∧Fr 0 0 h h'∧Rw h' b2 (gcells q g)∧h8.size≤h'.size∧MapF h' b8 (mapW g (natsOf l) i)) (fun i=>l.length - i) 0 ?_ ?_ ?_
 ·simp [Le,find,okTo]
 ·exact ⟨by omega,p0,r2,by omega,M1.congr fun x=>rfl⟩
 clear p0 r2 M1
 rintro i h9 ⟨hi,p0,r2,z9,M1⟩
 unfold gcells at r2
 have p0_z:=p0.size
 have r2_l:=r2.lt
 by_cases hlt:i<l.length
 ·have e1:((i:Int)<(l.length:Int)):=by omega
  obtain ⟨x,k1,k2,hx⟩:=L.at_ i hlt
  have hos:=okTo_succ (g:=g) k2
  obtain ⟨eb,eo,hee,hev⟩:=t.evs (by omega)
  obtain ⟨c0,c1,c2,c3,c4⟩:=hev h9 p0 x hx
  have e2:((x:Int)<(g.evs.length:Int)):=by show (x:Int)<(g.n:Int);omega
  simp -dsimp only [go_sem,e1,r2.cell]
  refine (hl.fr p0).idx (by omega) fun lb lo hlc=>?_
  have k3:=hlc i _ (intsV_get k1)
  simp -dsimp only [go_sem,k3,hee,e2,c0,c1,c2,c3,c4,r2.cell]
  intro b10 h10 n10
  have n10_z:=n10.az
  replace p0:=p0.F n10.f0
  replace r2:=r2.F n10.f0
  have r10:=n10.row
  replace M1:=M1.fr n10.f0 (by omega)
  simp -dsimp only [go_sem,r2.cell,r10.cell]
  refine Chk_intro (r10.W) fun h11 s11=>?_
  have s11_z:=s11.size
  replace p0:=p0.F s11.fr
  replace r2:=r2.F s11.fr
  replace r10:=s11.row r10
  try simp only [cl_int,cl_bool,cl_slice,cl_ptr,putAt_one,zs0,zs1,ivec_set,brow_upd] at r10
  replace M1:=M1.fr s11.fr (by have:=M1.lt;omega)
  try simp -dsimp only [go_sem] at r10
  simp -dsimp only [go_sem,r2.cell,r10.cell]
  refine M1.look1 (z:=.int .u64 0) (n:=(g.ev x).loc) fun mm hm1 hm2=>?_
  simp -dsimp only [go_sem,hm1,hm2,r2.cell,r10.cell]
  by_cases hk2:(g.ev x).kind=2
  ·have hro:readOk g (natsOf l) i x=true:=by unfold readOk;simp [hk2]
   rw [hro,Bool.and_true] at hos
   simp -dsimp only [go_sem,beq_t hk2,r2.cell,r10.cell]
   refine M1.set fun h12 M2 f12 z12=>?_
   have p12:=p0.fresh f12 (by omega)
   have r12:=r2.fr f12 (by omega)
   simp -dsimp only [go_sem,r2.cell,r10.cell]
   simp -dsimp (disch:=omega) only [wrap64]
   exact ⟨i+1,by omega,by simp [Le,find,hos],by omega,p12,r12,by omega,M2.congr fun c=>mapW_step k2 hk2 c⟩
  ·simp -dsimp only [go_sem,beq_f hk2,r2.cell,r10.cell]
   by_cases hk1:(g.ev x).kind=1
   ·simp -dsimp only [go_sem,beq_t hk1,r2.cell,r10.cell]
    have hmw:mapW g (natsOf l) i (g.ev x).loc=(lastW g ((natsOf l).take i) (g.ev x).loc).map fun w=>.int .u64 (g.ev w).val:=rfl
    have hro:readOk g (natsOf l) i x=match lastW g ((natsOf l).take i) (g.ev x).loc with | some w=>(g.ev w).val==(g.ev x).val | none=>false:=by
     unfold readOk;rw [hk1];cases lastW g ((natsOf l).take i) (g.ev x).loc <;> rfl
    have fin:∀ b,b=okTo g (natsOf l) (i+1)→b=okTo g (natsOf l) (i+1):=fun _ h=>h
    rw [hro] at hos
    rw [hmw]
    cases hok:okTo g (natsOf l) i
    ·rw [hok,Bool.false_and] at hos
     simp -dsimp only [go_sem,hok,r2.cell,r10.cell]
     simp -dsimp (disch:=omega) only [wrap64]
     exact ⟨i+1,by omega,by simp [Le,find,hos],by omega,p0,r2,by omega,M1.congr fun c=>mapW_same k2 (by omega) c⟩
    ·rw [hok,Bool.true_and] at hos
     cases hlw:lastW g ((natsOf l).take i) (g.ev x).loc with
     | none =>
      rw [hlw] at hos
      simp -dsimp only [go_sem,hok,Option.map_none,Option.isSome_none,r2.cell,r10.cell]
      simp -dsimp (disch:=omega) only [wrap64]
      exact ⟨i+1,by omega,by simp [Le,find,hos],by omega,p0,r2,by omega,M1.congr fun c=>mapW_same k2 (by omega) c⟩
     | some w =>
      rw [hlw] at hos
      simp -dsimp only [go_sem,hok,Option.map_some,Option.isSome_some,Option.getD_some,r2.cell,r10.cell]
      simp -dsimp (disch:=omega) only [wrap64]
      exact ⟨i+1,by omega,by simp [Le,find,hos],by omega,p0,r2,by omega,M1.congr fun c=>mapW_same k2 (by omega) c⟩
   ·have hro:readOk g (natsOf l) i x=true:=by unfold readOk;simp [hk1]
    rw [hro,Bool.and_true] at hos
    simp -dsimp only [go_sem,beq_f hk1,r2.cell,r10.cell]
    simp -dsimp (disch:=omega) only [wrap64]
    exact ⟨i+1,by omega,by simp [Le,find,hos],by omega,p0,r2,by omega,M1.congr fun c=>mapW_same k2 hk2 c⟩
 obtain rfl:i=l.length:=by omega
 have hml:(natsOf l).length=l.length:=by simp [natsOf]
 have hoa:okTo g (natsOf l) l.length=repOk g (natsOf l):=by rw [← hml];rfl
 have hma:∀ c,mapW g (natsOf l) l.length c=(lastW g (natsOf l) c).map fun w=>.int .u64 (g.ev w).val:=fun c=>by unfold mapW;rw [List.take_of_length_le (by omega)]
 simp -dsimp only [go_sem,Int.lt_irrefl,r2.cell]
 refine Chk_intro (by omega) ?_
 obtain ⟨K,hK⟩:=Int.eq_ofNat_of_zero_le hc0
 rw [hK,zeros_one,Int.toNat_natCast,urowX_zero]
 intro b12 h12 n12
 have n12_z:=n12.az
 replace p0:=p0.F n12.f0
 replace r2:=r2.F n12.f0
 have r12:=n12.row
 replace M1:=M1.fr n12.f0 (by omega)
 have ez:urow K (fun _=>0)=urow K (fun j=>if j<0 then repVal g (natsOf l) (j:Int) else 0):=urowX_congr fun j _=>by simp
 rw [ez] at r12
 have hKl:(repFin g (natsOf l)).length=K:=by unfold repFin;simp [hK]
 have zz:h9.size≤b12:=by omega
 simp -dsimp only [go_sem,r2.cell,r12.cell]
 refine loop_intro (fun i:Nat=>[(4,.slice (some ⟨b12,0,none⟩) K K),(5,.bool (repOk g (natsOf l))),(8,.map (some b8)),(77,.int .i64 K),(78,.int .i64 i)])
  (fun i h'=>i≤K∧Fr 0 0 h h'∧Rw h' b12 (urow K (fun j=>if j<i then repVal g (natsOf l) (j:Int) else 0))∧MapF h' b8 (mapW g (natsOf l) l.length)) (fun i=>K - i) 0 ?_ ?_ ?_
 ·simp [Le,find,hoa]
 ·exact ⟨by omega,p0,r12,M1⟩
 clear p0 r2 r12 M1
 rintro i h13 ⟨hi,p0,r12,M1⟩
 have p0_z:=p0.size
 have r12_l:=r12.lt
 by_cases hlt:i<K
 ·have e1:((i:Int)<(K:Int)):=by omega
  simp -dsimp only [go_sem,e1,r12.cell]
  refine M1.look1 (z:=.int .u64 0) (n:=(i:Int)) fun mm hm1 _=>?_
  have hv:(mapW g (natsOf l) l.length (i:Int)).getD (.int .u64 0)=.int .u64 (repVal g (natsOf l) (i:Int)):=by
   rw [hma];unfold repVal
   cases lastW g (natsOf l) (i:Int) <;> rfl
  rw [hv] at hm1
  simp -dsimp only [go_sem,hm1,e1,r12.cell]
  refine Chk_intro (r12.wr (by simp;omega)) fun h14 s14=>?_
  have r14:=s14.row r12
  rw [cl_int,putAt_one,urow_set] at r14
  have M2:=M1.fr s14.fr (by have:=M1.lt;omega)
  have p14:=p0.fresh s14.fr (by omega)
  simp -dsimp only [go_sem,r12.cell]
  simp -dsimp (disch:=omega) only [wrap64]
  refine ⟨i+1,by omega,by simp [Le,find],by omega,p14,?_,M2⟩
  rw [urowX_congr (g:=fun j=>if j<i+1 then repVal g (natsOf l) (j:Int) else 0) fun j _=>?_] at r14
  ·exact r14
  ·by_cases hj:j=i
   ·subst hj;simp
   ·rw [if_neg hj]
    by_cases h2:j<i
    ·rw [if_pos h2,if_pos (by omega)]
    ·rw [if_neg h2,if_neg (by omega)]
 ·obtain rfl:i=K:=by omega
  simp -dsimp only [go_sem,Int.lt_irrefl,r12.cell]
  have ee:urow i (fun j=>if j<i then repVal g (natsOf l) (j:Int) else 0)=wordsV (repFin g (natsOf l)):=by
   unfold repFin wordsV
   rw [hK,Int.toNat_natCast,List.map_map]
   unfold urow
   refine List.map_congr_left fun j hj=>?_
   have:=List.mem_range.1 hj
   simp [this]
  rw [ee] at r12
  refine ⟨p0,_,rfl,?_⟩
  rw [hKl]
  exact holder_row (s:=1) r12 (by simp [wordsV,hKl]) (by omega)
end
end Go.Proofs.Tst
