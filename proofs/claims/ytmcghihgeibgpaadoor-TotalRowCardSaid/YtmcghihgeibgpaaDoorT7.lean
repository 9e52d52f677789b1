/-
  Contracts of functions that the law reaches: what each returns and what it leaves in memory. Conditions stand in each.
-/
import Derived.Test.YtmcghihgeibgpaaDoorT6
set_option linter.all false
set_option maxRecDepth 2000
/-
  The order of a graph's events: where the graph is sequentially consistent there is one (plain).
-/
namespace Go.Proofs.Tst
open Go Go.Vc
section
variable {n : Nat} {M : Nat → Nat → Bool} {F : Nat → Nat} {S : Nat → Int}
theorem glueGo_rank {U:Nat→Bool} (g:GluI n U F S) (rk:Nat→Nat) (hr:∀ x y,x<n→y<n→F x=x→F y=y→glueM n M F S x y=true→rk x<rk y):∀ (k:Nat) (l:List Nat),n≤l.length+k→GInv n M F S l→glueGo n F S (glueM n M F S) k l≠none
 | 0,l,_,_=>by simp [glueGo]
 | k+1,l,hk,v=>by
  simp only [glueGo]
  by_cases hn:n≤l.length
  ·rw [if_pos hn];simp
  rw [if_neg hn]
  have fidem:∀ x,x<n→F (F x)=F x:=fun x hx=>by
   by_cases h:F x=x
   ·rw [h,h]
   ·exact (g.fst x hx h).2
  cases hx:Go.Vc.lf (fun p=>F p==p&&freeB n (glueM n M F S) l.contains p) n 0 with
  | some p =>
   obtain ⟨-,hp,hf⟩:=lf_some hx
   simp only [Bool.and_eq_true,beq_iff_eq] at hf
   exact glueGo_rank g rk hr k _ (by split <;> simp <;> omega) (v.step g hp hf.1 hf.2)
  | none =>
   exfalso
   have hex:∃ x,x<n∧x∉l:=by
    apply Classical.byContradiction;intro hno
    have:=nodup_sub (l:=List.range n) (m:=l) List.nodup_range fun x hx=>Classical.byContradiction fun h=>hno ⟨x,List.mem_range.1 hx,h⟩
    simp at this;omega
   have all:∀ (d x:Nat),rk x<d→x<n→F x=x→x∈l:=by
    intro d
    induction d with
    | zero=>intro x hd;omega
    | succ d ih =>
     intro x hd hxn hF
     apply Classical.byContradiction;intro hxl
     have:=lf_none hx x (by omega) hxn
     simp only [hF,beq_self_eq_true,Bool.true_and] at this
     rw [Bool.eq_false_iff] at this
     refine this (freeB_true.2 ⟨by simpa using hxl,fun a ha hN=>?_⟩)
     have hFa:F a=a:=by
      obtain ⟨p',hp',q',hq',-,-,h1,-⟩:=glueM_true.1 hN
      rw [← h1];exact fidem p' hp'
     have:=hr a x ha hxn hFa hF hN
     simpa using ih a (by omega) ha hFa
   obtain ⟨x,hxn,hxl⟩:=hex
   exact hxl ((v.un x hxn).2 (all _ (F x) (Nat.lt_succ_self _) (g.lt x hxn) (fidem x hxn)))
def DisjP (p q:Int×Int):Prop:=p.1≠q.1∧p.1≠q.2∧p.2≠q.1∧p.2≠q.2
theorem glueIn_ok:∀ (l:List (Int×Int)) (U:Nat→Bool) (F:Nat→Nat) (S:Nat→Int),(∀ p∈l,¬ badP n U p)→l.Pairwise DisjP→∃ x,glueIn n l U F S=some x
 | [],_,_,_,_,_=>⟨_,rfl⟩
 | p :: l,U,F,S,hb,hd=>by
  simp only [glueIn,if_neg (hb p (by simp))]
  obtain ⟨d1,d2⟩:=List.pairwise_cons.1 hd
  refine glueIn_ok l _ _ _ (fun q hq=>?_) d2
  have h1:=hb p (by simp)
  have h2:=hb q (by simp [hq])
  obtain ⟨e1,e2,e3,e4⟩:=d1 q hq
  unfold badP at h1 h2 ⊢
  simp only [not_or] at h1 h2 ⊢
  obtain ⟨a1,a2,a3,a4,a5,a6,a7⟩:=h1
  obtain ⟨b1,b2,b3,b4,b5,b6,b7⟩:=h2
  refine ⟨b1,b2,b3,b4,b5,?_,?_⟩
  ·rw [upd_ne _ _ (by omega),upd_ne _ _ (by omega)];exact b6
  ·rw [upd_ne _ _ (by omega),upd_ne _ _ (by omega)];exact b7
end
theorem cntT_le {f g:Nat→Bool}:∀ {n:Nat},(∀ k,k<n→f k=true→g k=true)→((List.range n).filter f).length≤((List.range n).filter g).length
 | 0,_=>by simp
 | n+1,h=>by
  have ih:=cntT_le (n:=n) fun k hk=>h k (by omega)
  have h1:=h n (by omega)
  rw [List.range_succ,List.filter_append,List.filter_append,List.length_append,List.length_append]
  cases hf:f n <;> cases hg:g n <;> simp [hf,hg] at h1 ⊢ <;> omega
theorem cntT_lt {f g:Nat→Bool}:∀ {n a:Nat},(∀ k,k<n→f k=true→g k=true)→a<n→f a=false→g a=true→((List.range n).filter f).length<((List.range n).filter g).length
 | 0,_,_,ha,_,_=>by omega
 | n+1,a,h,ha,hfa,hga=>by
  rw [List.range_succ,List.filter_append,List.filter_append,List.length_append,List.length_append]
  by_cases hn:a=n
  ·subst hn
   have ih:=cntT_le (n:=a) fun k hk=>h k (by omega)
   simp [hfa,hga];omega
  ·have ih:=cntT_lt (n:=n) (fun k hk=>h k (by omega)) (by omega) hfa hga
   have h1:=h n (by omega)
   cases hf:f n <;> cases hg:g n <;> simp [hf,hg] at h1 ⊢ <;> omega
def rankM (n:Nat) (M:Nat→Nat→Bool) (j:Nat):Nat:=((List.range n).filter fun k=>plusM n M k j).length
theorem rank_lt {n:Nat} {M:Nat→Nat→Bool} (hN:cycS n M=[]) {i j:Nat} (hi:i<n) (h:plusM n M i j=true):rankM n M i<rankM n M j:=
 cntT_lt (a:=i) (fun _ _ hp=>plus_trans hi hp h) hi (cycS_nil hN i hi) h
/-! ### The order -/
section
variable {g : Gr}
structure PairOk (g:Gr) (a b:Nat):Prop where
 la:a<g.n
 lb:b<g.n
 ka:(g.ev a).kind=1
 kb:(g.ev b).kind=2
 po:relM g 0 a b=true
 nx:∀ i,a<i→i<b→(g.ev i).thread≠(g.ev a).thread
 loc:(g.ev a).loc=(g.ev b).loc
theorem pair_ok (hg:g.good=true) {p:Int×Int} (hp:p∈g.rmw):∃ a b:Nat,p=((a:Int),(b:Int))∧PairOk g a b:=by
 obtain ⟨words,hz⟩:=good_check hg
 obtain ⟨-,-,-,-,-,h6,-⟩:=check_iff.1 hz
 have hok:=(rmw_iff.1 h6).2 p hp
 unfold rmwOk Gr.is Gr.isNext at hok
 simp only [Bool.and_eq_true,decide_eq_true_eq,beq_iff_eq,List.all_eq_true,List.mem_range'_1,Bool.not_eq_true',beq_eq_false_iff_ne] at hok
 obtain ⟨⟨⟨⟨⟨a1,a2⟩,a3⟩,⟨b1,b2⟩,b3⟩,c1,c2⟩,d⟩:=hok
 obtain ⟨x,y⟩:=p
 obtain ⟨a,rfl⟩:∃ a:Nat,x=a:=⟨x.toNat,by dsimp only at a1;omega⟩
 obtain ⟨b,rfl⟩:∃ b:Nat,y=b:=⟨y.toNat,by dsimp only at b1;omega⟩
 simp only [Int.toNat_natCast] at a3 b3 c2 d
 dsimp only at a2 b2 c1
 exact ⟨a,b,rfl,by omega,by omega,a3,b3,c1,fun i h1 h2=>c2 i (by omega),d⟩
theorem pair_disj (hg:g.good=true):g.rmw.Pairwise DisjP:=by
 obtain ⟨words,hz⟩:=good_check hg
 obtain ⟨-,-,-,-,-,h6,-⟩:=check_iff.1 hz
 refine List.Pairwise.imp_of_mem (fun {p q} hp hq hlt=>?_) (rmw_iff.1 h6).1
 obtain ⟨a,b,rfl,P⟩:=pair_ok hg hp
 obtain ⟨c,d,rfl,Q⟩:=pair_ok hg hq
 dsimp only at hlt
 have p1:=po_th P.po
 have q1:=po_th Q.po
 unfold Th at p1 q1
 refine ⟨fun h=>?_,fun h=>?_,fun h=>?_,fun h=>?_⟩ <;> dsimp only at h
 ·omega
 ·have:a=d:=by omega
  subst this;have:=P.ka;have:=Q.kb;omega
 ·have:b=c:=by omega
  subst this;have:=P.kb;have:=Q.ka;omega
 ·have:b=d:=by omega
  subst this
  exact P.nx c (by omega) (by omega) (by rw [q1.1,p1.1])
theorem rmw_glue (hg:g.good=true):∃ x,glueFS g.n g.rmw=some x:=by
 refine glueIn_ok g.rmw _ _ _ (fun p hp=>?_) (pair_disj hg)
 obtain ⟨a,b,rfl,P⟩:=pair_ok hg hp
 have:=P.la;have:=P.lb
 have:=(po_th P.po).2.2.1
 unfold badP
 simp only [not_or]
 exact ⟨by omega,by omega,by omega,by omega,by omega,by simp,by simp⟩
theorem leave (hg:g.good=true) (h:(scAx g).1=0) {a b q:Nat} (hp:((a:Int),(b:Int))∈g.rmw) (P:PairOk g a b) (hq:q<g.n) (hqb:q≠b) (hm:allM g a q=true):plusM g.n (allM g) b q=true:=by
 have hcy:=(scAx_zero.1 h).1
 have htn:=(scAx_zero.1 h).2 _ hp
 have hpo:=po_th P.po
 unfold allM at hm
 simp only [Bool.or_eq_true] at hm
 rcases hm with ((hm | hm) | hm) | hm
 ·have hq':=po_th hm
  unfold Th at hpo hq'
  have hbq:b<q:=by
   apply Classical.byContradiction;intro hlt
   exact P.nx q (by omega) (by omega) hq'.1.symm
  refine w_po ?_
  show g.before (b:Int) (q:Int)=true
  unfold Gr.before
  simp only [Bool.and_eq_true,decide_eq_true_eq,beq_iff_eq,Int.toNat_natCast]
  omega
 ·obtain ⟨words,hz⟩:=good_check hg
  obtain ⟨w,r,e,hw,hr,k1,k2,k3,k4⟩:=rf_pair hz (ofM_mem' (L:=g.rf) hm)
  simp only [Prod.mk.injEq] at e
  obtain rfl:a=w:=by omega
  rw [P.ka] at k1;cases k1
 ·obtain ⟨c,hcl,hl⟩:=coPairs_list (ofM_mem' (L:=coPairs g) hm)
  obtain ⟨k1,-⟩:=(co_list hg hcl).2.1 _ (lpairs_mem hl).1
  unfold Gr.is at k1
  simp only [Bool.and_eq_true,decide_eq_true_eq,beq_iff_eq,Int.toNat_natCast] at k1
  rw [P.ka] at k1;cases k1.2
 ·have hf:=hm
  have hm:compM g.n (invM (ofM g.n g.rf)) g.n (ofM g.n (coPairs g)) a q=true:=hm
  rw [compM_in P.la hq,exB_true] at hm
  obtain ⟨u,hu,hm⟩:=hm
  rw [Bool.and_eq_true] at hm
  obtain ⟨m1,m2⟩:=hm
  have m1:relM g 1 u a=true:=m1
  obtain ⟨words,hz⟩:=good_check hg
  obtain ⟨w,r,e,hw,hr,k1,k2,k3,k4⟩:=rf_pair hz (ofM_mem' (L:=g.rf) m1)
  simp only [Prod.mk.injEq] at e
  obtain rfl:u=w:=by omega
  obtain rfl:a=r:=by omega
  obtain ⟨c,hcl,hl⟩:=coPairs_list (ofM_mem' (L:=coPairs g) m2)
  obtain ⟨j1,j2⟩:=(co_list hg hcl).2.1 _ (lpairs_mem hl).1
  obtain ⟨j3,j4⟩:=(co_list hg hcl).2.1 _ (lpairs_mem hl).2
  unfold Gr.is at j3
  simp only [Bool.and_eq_true,decide_eq_true_eq,beq_iff_eq,Int.toNat_natCast] at j2 j3 j4
  have ht:=co_total hg P.lb hq (Ne.symm hqb) P.kb j3.2 (by rw [← P.loc,← k3,j2,j4])
  cases hqw:ofM g.n (coPairs g) q b
  ·rw [hqw] at ht
   have:ofM g.n (coPairs g) b q=true:=by
    cases hx:ofM g.n (coPairs g) b q
    ·rw [hx] at ht;cases ht
    ·rfl
   exact w_co this
  ·have:tornS g ((a:Int),(b:Int))=true:=by
    have la:=P.la;have lb:=P.lb
    unfold tornS inR
    simp only [Bool.and_eq_true,decide_eq_true_eq,exB_true,Int.toNat_natCast]
    exact ⟨⟨by omega,by omega⟩,q,hq,hf,hqw⟩
   rw [htn] at this;cases this
theorem order_ok (hg:g.good=true) (h:(scAx g).1=0):∃ m,glueS g.n (allM g) g.rmw=.ok m:=by
 obtain ⟨⟨F,S⟩,hFS⟩:=rmw_glue hg
 obtain ⟨⟨U,G⟩,-,-⟩:=glueIn_spec _ _ _ _ _ _ (.start g.n) hFS
 have hcy:=(scAx_zero.1 h).1
 have only:∀ a b:Nat,S a=(b:Int)→((a:Int),(b:Int))∈g.rmw∧PairOk g a b:=fun a b hs=>by
  rcases glueIn_only _ _ _ _ _ _ hFS a b hs with h1 | h1
  ·simp at h1
  ·obtain ⟨a',b',e,P⟩:=pair_ok hg h1
   simp only [Prod.mk.injEq] at e
   obtain rfl:a=a':=by omega
   obtain rfl:b=b':=by omega
   exact ⟨h1,P⟩
 unfold glueS
 rw [hFS]
 dsimp only
 have key:=glueGo_rank (M:=allM g) G (fun x=>rankM g.n (allM g) (if S x≥0 then (S x).toNat else x)) (fun x y hx hy hFx hFy hm=>by
  obtain ⟨p,hp,q,hq,hpq,hs,e1,e2⟩:=glueM_true.1 hm
  have tp:∀ z,z<g.n→∀ w,w<g.n→F w=z→F z=z→(if S z≥0 then (S z).toNat else z)<g.n∧(w=(if S z≥0 then (S z).toNat else z)∨(w=z∧∃ v:Nat,S z=(v:Int)∧(if S z≥0 then (S z).toNat else z)=v)):=fun z hz w hw hFw hFz=>by
   rcases G.snd z hz with h1 | ⟨v,h1,h2,h3,h4,h5⟩
   ·have e:(if S z≥0 then (S z).toNat else z)=z:=by rw [h1,if_neg (by decide)]
    rw [e]
    refine ⟨hz,.inl ?_⟩
    by_cases hww:F w=w
    ·omega
    ·have:=(G.fst w hw hww).1;rw [hFw,h1] at this;omega
   ·have e:(if S z≥0 then (S z).toNat else z)=v:=by rw [h2,if_pos (by omega),Int.toNat_natCast]
    rw [e]
    refine ⟨h1,?_⟩
    by_cases hww:F w=w
    ·exact .inr ⟨by omega,v,h2,rfl⟩
    ·have:=(G.fst w hw hww).1;rw [hFw,h2] at this;exact .inl (by omega)
  obtain ⟨lx,px⟩:=tp x hx p hp e1 hFx
  obtain ⟨ly,py⟩:=tp y hy q hq e2 hFy
  generalize (if S x≥0 then (S x).toNat else x)=tx at lx px ⊢
  generalize (if S y≥0 then (S y).toNat else y)=ty at ly py ⊢
  have s1:plusM g.n (allM g) tx q=true:=by
   rcases px with rfl | ⟨rfl,v,h1,rfl⟩
   ·exact plus_sub hpq
   ·obtain ⟨h2,P⟩:=only _ _ h1
    exact leave hg h h2 P hq (fun e=>hs (by rw [e];exact h1)) hpq
  refine rank_lt hcy lx ?_
  rcases py with rfl | ⟨rfl,v,h1,rfl⟩
  ·exact s1
  ·obtain ⟨h2,P⟩:=only _ _ h1
   exact all_tr hq s1 (w_po P.po)) g.n [] (by simp) .nil
 cases hgo:glueGo g.n F S (glueM g.n (allM g) F S) g.n [] with
 | none=>exact absurd hgo key
 | some m=>exact ⟨m,rfl⟩
end
end Go.Proofs.Tst
/-
  Orders of a graph's events: what is right; the replay (plain).
-/
namespace Go.Proofs.Tst
open Go Go.Vc
section
variable {g : Gr}
theorem ev_init (hg:g.good=true) {i:Nat} (hi:i<g.n):((g.ev i).thread = -1∧(g.ev i).kind=2∧(i:Int)<g.cells∧(g.ev i).loc=(i:Int))∨(0≤(g.ev i).thread∧g.cells≤(i:Int)):=by
 obtain ⟨words,h⟩:=good_check hg
 obtain ⟨hs,h2,h3,-⟩:=check_zero h
 simp only [Gr.size,Bool.and_eq_true,decide_eq_true_eq] at hs
 by_cases hc:i<g.cells.toNat
 ·have:=firstEv_neg _ _ h2 i (by omega) (by omega)
  simp only [Bool.not_eq_false',beq_iff_eq] at this
  left;rw [this];unfold Gr.first;exact ⟨rfl,rfl,by omega,rfl⟩
 ·have:=firstEv_neg _ _ h3 i (by omega) (by omega)
  simp only [Bool.not_eq_false'] at this
  unfold Gr.evOk at this
  simp only [Bool.and_eq_true,decide_eq_true_eq] at this
  right;exact ⟨this.1.1.1,by omega⟩
theorem co_in (hg:g.good=true) {i j:Nat} (h:relM g 2 i j=true):0≤(g.ev j).thread∧(g.ev i).kind=2∧(g.ev j).kind=2∧(g.ev i).loc=(g.ev j).loc∧0≤(g.ev j).loc∧i<g.n∧j<g.n:=by
 obtain ⟨hin,hjn⟩:=ofM_in (n:=g.n) (l:=coPairs g) h
 obtain ⟨c,hcl,hp⟩:=coPairs_list (ofM_mem' (L:=coPairs g) h)
 obtain ⟨hnd,hall,-⟩:=co_list hg hcl
 obtain ⟨x1,x2⟩:=hall _ (lpairs_mem hp).1
 obtain ⟨y1,y2⟩:=hall _ (lpairs_mem hp).2
 have hb:=(good_co hg).2 c hcl
 unfold Gr.coBad at hb
 simp only [Bool.or_eq_false_iff,Bool.not_eq_false',beq_iff_eq,List.all_eq_true,Bool.and_eq_true,decide_eq_true_eq] at hb
 obtain ⟨⟨⟨b1,-⟩,-⟩,b4⟩:=hb
 have hidx:=lpairs_idx b4 hp
 have k1:=(is_lt x1).2.2
 have k2:=(is_lt y1).2.2
 rw [Int.toNat_natCast] at k1 k2 x2 y2
 refine ⟨?_,k1,k2,by omega,by omega,hin,hjn⟩
 rcases ev_init hg hjn with ⟨-,-,-,hl⟩ | ⟨h0,-⟩
 ·rw [y2] at hl
  cases hlist:g.co.getD c [] with
  | nil=>rw [hlist] at b1;cases b1
  | cons a t =>
   rw [hlist] at b1 hidx
   simp at b1
   subst b1
   rw [← hl,List.idxOf_cons_self] at hidx
   omega
 ·exact h0
theorem rf_in (hg:g.good=true) {i j:Nat} (h:relM g 1 i j=true):(g.ev i).kind=2∧(g.ev j).kind=1∧(g.ev i).loc=(g.ev j).loc∧0≤(g.ev i).loc∧0≤(g.ev j).thread∧i<g.n∧j<g.n:=by
 obtain ⟨words,hz⟩:=good_check hg
 obtain ⟨w,r,e,hw,hr,k1,k2,k3,k4⟩:=rf_pair hz (ofM_mem' (L:=g.rf) h)
 simp only [Prod.mk.injEq] at e
 obtain rfl:i=w:=by omega
 obtain rfl:j=r:=by omega
 refine ⟨k1,k2,k3,k4,?_,hw,hr⟩
 rcases ev_init hg hr with ⟨-,hk,-⟩ | ⟨h0,-⟩
 ·rw [hk] at k2;cases k2
 ·exact h0
theorem fr_in {i j:Nat} (hi:i<g.n) (hj:j<g.n):relM g 9 i j=true↔∃ u,u<g.n∧relM g 1 u i=true∧relM g 2 u j=true:=by
 have e:relM g 9 i j=compM g.n (invM (ofM g.n g.rf)) g.n (ofM g.n (coPairs g)) i j:=rfl
 rw [e,compM_in hi hj,exB_true]
 constructor
 ·rintro ⟨k,hk,h⟩
  rw [Bool.and_eq_true] at h
  exact ⟨k,hk,h.1,h.2⟩
 ·rintro ⟨k,hk,h1,h2⟩
  exact ⟨k,hk,by rw [Bool.and_eq_true];exact ⟨h1,h2⟩⟩
theorem all_tgt (hg:g.good=true) {i j:Nat} (hi:i<g.n) (hj:j<g.n) (hm:allM g i j=true):0≤(g.ev j).thread:=by
 unfold allM at hm
 simp only [Bool.or_eq_true] at hm
 rcases hm with ((hm | hm) | hm) | hm
 ·obtain ⟨t1,t2,-⟩:=po_th hm
  unfold Th at t1
  omega
 ·exact (rf_in hg hm).2.2.2.2.1
 ·exact (co_in hg hm).1
 ·obtain ⟨u,-,-,h⟩:=(fr_in hi hj).1 hm
  exact (co_in hg h).1
def wrB (g:Gr) (c:Int) (x:Nat):Bool:=(g.ev x).kind==2&&(g.ev x).loc==c
theorem wrB_iff {c:Int} {x:Nat}:wrB g c x=true↔(g.ev x).kind=2∧(g.ev x).loc=c:=by unfold wrB;simp
def lastW (g:Gr):List Nat→Int→Option Nat
 | [],_=>none
 | x :: l,c=>match lastW g l c with
  | some w=>some w
  | none=>if wrB g c x then some x else none
theorem lastW_snoc:∀ (l:List Nat) (x:Nat) (c:Int),lastW g (l++[x]) c=if wrB g c x then some x else lastW g l c
 | [],x,c=>by simp [lastW]
 | y :: l,x,c=>by
  show (match lastW g (l++[x]) c with | some w=>some w | none=>if wrB g c y then some y else none)=_
  rw [lastW_snoc l x c]
  by_cases h:wrB g c x=true
  ·rw [if_pos h,if_pos h]
  ·rw [if_neg h,if_neg h];rfl
theorem lastW_none:∀ {l:List Nat} {c:Int},lastW g l c=none↔∀ x∈l,wrB g c x=false
 | [],c=>by simp [lastW]
 | y :: l,c=>by
  have ih:=lastW_none (l:=l) (c:=c)
  have e:lastW g (y :: l) c=match lastW g l c with | some w=>some w | none=>if wrB g c y then some y else none:=rfl
  rw [e]
  cases h:lastW g l c with
  | some w =>
   dsimp only
   constructor
   ·intro e;cases e
   ·intro hall
    have:=ih.2 fun x hx=>hall x (by simp [hx])
    rw [h] at this;cases this
  | none =>
   dsimp only
   cases hy:wrB g c y
   ·constructor
    ·intro _ x hx
     rcases List.mem_cons.1 hx with rfl | hx
     ·exact hy
     ·exact ih.1 h x hx
    ·intro _;simp
   ·constructor
    ·intro e;simp at e
    ·intro hall
     have:=hall y (by simp)
     rw [hy] at this;cases this
theorem lastW_of:∀ {l:List Nat} {c:Int} {i w:Nat},l[i]?=some w→wrB g c w=true→(∀ j y,i<j→l[j]?=some y→wrB g c y=false)→lastW g l c=some w
 | [],_,_,_,h,_,_=>by simp at h
 | x :: l,c,0,w,h,hw,ha=>by
  simp only [List.getElem?_cons_zero,Option.some.injEq] at h
  subst h
  have:lastW g l c=none:=lastW_none.2 fun y hy=>by
   obtain ⟨j,hj⟩:=List.mem_iff_getElem?.1 hy
   exact ha (j+1) y (by omega) (by simpa using hj)
  unfold lastW;rw [this];simp [hw]
 | x :: l,c,i+1,w,h,hw,ha=>by
  have ih:=lastW_of (l:=l) (c:=c) (i:=i) (w:=w) (by simpa using h) hw fun j y hj hy=>ha (j+1) y (by omega) (by simpa using hy)
  unfold lastW;rw [ih]
theorem lastW_some:∀ {l:List Nat} {c:Int} {w:Nat},lastW g l c=some w→∃ i:Nat,l[i]?=some w∧wrB g c w=true∧∀ (j y:Nat),i<j→l[j]?=some y→wrB g c y=false
 | [],_,_,h=>by simp [lastW] at h
 | x :: l,c,w,h=>by
  unfold lastW at h
  cases hl:lastW g l c with
  | some v =>
   rw [hl] at h
   simp only [Option.some.injEq] at h
   subst h
   obtain ⟨i,h1,h2,h3⟩:=lastW_some hl
   refine ⟨i+1,by simpa using h1,h2,fun j y hj hy=>?_⟩
   obtain ⟨j,rfl⟩:∃ k,j=k+1:=⟨j - 1,by omega⟩
   exact h3 j y (by omega) (by simpa using hy)
  | none =>
   rw [hl] at h
   cases hw:wrB g c x
   ·simp [hw] at h
   ·simp [hw] at h
    subst h
    refine ⟨0,by simp,hw,fun j y hj hy=>?_⟩
    obtain ⟨j,rfl⟩:∃ k,j=k+1:=⟨j - 1,by omega⟩
    exact lastW_none.1 hl y (List.mem_of_getElem? (i:=j) (by simpa using hy))
def pcM (g:Gr) (i j:Nat):Bool:=relM g 0 i j||relM g 2 i j
def natO (o:Option Nat):Option Int:=o.map fun (w:Nat)=>(w:Int)
def okAt (g:Gr) (m:List Nat) (i x:Nat):Bool:=
 (!decide ((i:Int)<g.cells)||decide ((g.ev x).thread<0))&&(g.rf.all fun p=>!(p.2==(x:Int))||natO (lastW g (m.take i) (g.ev x).loc)==some p.1)&&(g.rmw.all fun p=>!(p.1==(x:Int))||natO m[i+1]? == some p.2)
theorem okAt_iff {m:List Nat} {i x:Nat}:okAt g m i x=true↔((i:Int)<g.cells→(g.ev x).thread<0)∧(∀ p∈g.rf,p.2=(x:Int)→natO (lastW g (m.take i) (g.ev x).loc)=some p.1)∧(∀ p∈g.rmw,p.1=(x:Int)→natO m[i+1]?=some p.2):=by
 unfold okAt
 simp only [Bool.and_eq_true,List.all_eq_true,Bool.or_eq_true,Bool.not_eq_true',decide_eq_false_iff_not,decide_eq_true_eq,beq_eq_false_iff_ne,beq_iff_eq,and_assoc]
 refine and_congr ?_ (and_congr ?_ ?_)
 ·constructor
  ·rintro (h | h) h1
   ·exact absurd h1 h
   ·exact h
  ·intro h
   by_cases h1:(i:Int)<g.cells
   ·exact .inr (h h1)
   ·exact .inl h1
 ·refine forall_congr' fun p=>forall_congr' fun _=>?_
  constructor
  ·rintro (h | h) h1
   ·exact absurd h1 h
   ·exact h
  ·intro h
   by_cases h1:p.2=(x:Int)
   ·exact .inr (h h1)
   ·exact .inl h1
 ·refine forall_congr' fun p=>forall_congr' fun _=>?_
  constructor
  ·rintro (h | h) h1
   ·exact absurd h1 h
   ·exact h
  ·intro h
   by_cases h1:p.1=(x:Int)
   ·exact .inr (h h1)
   ·exact .inl h1
structure Right (g:Gr) (m:List Nat):Prop where
 pre:Pre g.n (pcM g) m
 len:m.length=g.n
 ok:∀ i x,m[i]?=some x→okAt g m i x=true
theorem nodup_at {m:List Nat} (hm:m.Nodup) {i x:Nat} (h:m[i]?=some x):m.idxOf x=i:=by
 obtain ⟨hi,rfl⟩:=List.getElem?_eq_some_iff.1 h
 exact hm.idxOf_getElem i hi
theorem at_nodup {m:List Nat} {x:Nat} (h:x∈m):m[m.idxOf x]?=some x:=by
 have hi:=List.idxOf_lt_length_iff.2 h
 rw [List.getElem?_eq_getElem hi,List.getElem_idxOf]
theorem natO_some {o:Option Nat} {w:Nat}:natO o=some (w:Int)↔o=some w:=by
 unfold natO
 cases o with
 | none=>simp
 | some v=>simp;omega
theorem take_at {m:List Nat} {i j x:Nat}:(m.take i)[j]?=some x↔j<i∧m[j]?=some x:=by
 rw [List.getElem?_take]
 by_cases h:j<i
 ·rw [if_pos h];simp [h]
 ·rw [if_neg h];simp [h]
namespace Right
variable {m : List Nat}
theorem mem (R:Right g m) {x:Nat} (hx:x<g.n):x∈m:=all_in R.pre R.len hx
theorem lt (R:Right g m) {i x:Nat} (h:m[i]?=some x):x<g.n:=R.pre.2.1 x (List.mem_of_getElem? h)
theorem po (R:Right g m) {i j:Nat} (h:relM g 0 i j=true):m.idxOf i<m.idxOf j:=by
 obtain ⟨-,-,h1,h2⟩:=po_th h
 exact R.pre.idx (by omega) (R.mem h2) (by unfold pcM;rw [h];rfl)
theorem co (R:Right g m) (hg:g.good=true) {i j:Nat} (h:relM g 2 i j=true):m.idxOf i<m.idxOf j:=by
 obtain ⟨-,-,-,-,-,h1,h2⟩:=co_in hg h
 exact R.pre.idx h1 (R.mem h2) (by unfold pcM;rw [h];simp)
theorem rd (R:Right g m) (hg:g.good=true) {w x:Nat} (h:relM g 1 w x=true):lastW g (m.take (m.idxOf x)) (g.ev x).loc=some w:=by
 obtain ⟨-,-,-,-,-,h1,h2⟩:=rf_in hg h
 have hok:=(okAt_iff.1 (R.ok _ _ (at_nodup (R.mem h2)))).2.1 ((w:Int),(x:Int)) (ofM_mem' (L:=g.rf) h) rfl
 exact natO_some.1 hok
theorem rf (R:Right g m) (hg:g.good=true) {i j:Nat} (h:relM g 1 i j=true):m.idxOf i<m.idxOf j:=by
 obtain ⟨k,h1,-,-⟩:=lastW_some (R.rd hg h)
 rw [take_at] at h1
 rw [nodup_at R.pre.1 h1.2];exact h1.1
theorem fr (R:Right g m) (hg:g.good=true) {i j:Nat} (hi:i<g.n) (hj:j<g.n) (h:relM g 9 i j=true):m.idxOf i<m.idxOf j:=by
 obtain ⟨u,hu,h1,h2⟩:=(fr_in hi hj).1 h
 have k1:=rf_in hg h1
 have k2:=co_in hg h2
 obtain ⟨k,e1,e2,e3⟩:=lastW_some (R.rd hg h1)
 rw [take_at] at e1
 have ek:=nodup_at R.pre.1 e1.2
 have hc:=R.co hg h2
 apply Classical.byContradiction;intro hlt
 have hne:m.idxOf i≠m.idxOf j:=fun e=>by
  have a:=at_nodup (R.mem hi)
  have b:=at_nodup (R.mem hj)
  rw [e,b] at a
  simp only [Option.some.injEq] at a
  subst a
  rw [k1.2.1] at k2;omega
 have:=e3 (m.idxOf j) j (by omega) (take_at.2 ⟨by omega,at_nodup (R.mem hj)⟩)
 rw [Bool.eq_false_iff] at this
 exact this (wrB_iff.2 ⟨k2.2.2.1,by omega⟩)
theorem all (R:Right g m) (hg:g.good=true) {i j:Nat} (hi:i<g.n) (hj:j<g.n) (hm:allM g i j=true):m.idxOf i<m.idxOf j:=by
 unfold allM at hm
 simp only [Bool.or_eq_true] at hm
 rcases hm with ((hm | hm) | hm) | hm
 ·exact R.po hm
 ·exact R.rf hg hm
 ·exact R.co hg hm
 ·exact R.fr hg hi hj hm
theorem adj (R:Right g m) (hg:g.good=true) {a b:Nat} (h:((a:Int),(b:Int))∈g.rmw):m.idxOf b=m.idxOf a+1:=by
 obtain ⟨a',b',e,P⟩:=pair_ok hg h
 simp only [Prod.mk.injEq] at e
 obtain rfl:a=a':=by omega
 obtain rfl:b=b':=by omega
 have:=(okAt_iff.1 (R.ok _ _ (at_nodup (R.mem P.la)))).2.2 _ h rfl
 exact nodup_at R.pre.1 (natO_some.1 this)
theorem sc (R:Right g m) (hg:g.good=true):(scAx g).1=0:=by
 refine scAx_zero.2 ⟨?_,fun p hp=>?_⟩
 ·rw [cyc_acyc]
  exact acyc_rank (fun i=>m.idxOf i) fun i j hi hj hm=>R.all hg hi hj hm
 ·obtain ⟨a,b,rfl,P⟩:=pair_ok hg hp
  have had:=R.adj hg hp
  cases ht:tornS g ((a:Int),(b:Int))
  ·rfl
  ·unfold tornS at ht
   simp only [Bool.and_eq_true,exB_true,Int.toNat_natCast] at ht
   obtain ⟨-,k,hk,h1,h2⟩:=ht
   have:=R.fr hg P.la hk h1
   have:=R.co hg h2
   omega
theorem final (R:Right g m) (hg:g.good=true) {c:Nat} (hc:c<g.co.length):∃ w,lastW g m (c:Int)=some w∧(g.co.getD c []).getLastD 0=(w:Int):=by
 obtain ⟨h1,h2,h3⟩:=co_list hg hc
 have hb:=(good_co hg).2 c hc
 unfold Gr.coBad at hb
 simp only [Bool.or_eq_false_iff,Bool.not_eq_false',beq_iff_eq] at hb
 have hne:g.co.getD c []≠[]:=fun e=>by rw [e] at hb;exact absurd hb.1.1.1 (by simp)
 have hlast:(g.co.getD c []).getLastD 0=(g.co.getD c []).getLast hne:=by
  rw [List.getLastD_eq_getLast?,List.getLast?_eq_some_getLast hne];rfl
 have hmem:=List.getLast_mem hne
 rw [← hlast] at hmem
 obtain ⟨k1,k2⟩:=h2 _ hmem
 obtain ⟨l1,l2,l3⟩:=is_lt k1
 have hpos:=List.getElem?_eq_getElem (l:=g.co.getD c []) (i:=(g.co.getD c []).length - 1) (by have:=List.length_pos_iff.2 hne;omega)
 have hpe:(g.co.getD c [])[(g.co.getD c []).length - 1]'(by have:=List.length_pos_iff.2 hne;omega)=(g.co.getD c []).getLast hne:=(List.getLast_eq_getElem hne).symm
 rw [hpe,← hlast] at hpos
 generalize (g.co.getD c []).getLastD 0=z at hmem k1 k2 l1 l2 l3 hpos ⊢
 obtain ⟨w,rfl⟩:∃ w:Nat,z=w:=⟨z.toNat,by omega⟩
 rw [Int.toNat_natCast] at k2 l3
 have hwn:w<g.n:=by omega
 refine ⟨w,lastW_of (at_nodup (R.mem hwn)) (wrB_iff.2 ⟨l3,k2⟩) fun j y hj hy=>?_,rfl⟩
 rw [Bool.eq_false_iff]
 intro hw
 obtain ⟨w1,w2⟩:=wrB_iff.1 hw
 have hyn:=R.lt hy
 have hyl:=co_all hg hc hyn w1 w2
 obtain ⟨a,ha⟩:=List.mem_iff_getElem?.1 hyl
 have hal:=(List.getElem?_eq_some_iff.1 ha).1
 have hye:=nodup_at R.pre.1 hy
 by_cases hae:a=(g.co.getD c []).length - 1
 ·rw [hae,hpos] at ha
  simp only [Option.some.injEq] at ha
  have:w=y:=by omega
  subst this;omega
 ·have hp:=list_coPairs hc (lpairs_at (by omega) ha hpos)
  have:=R.co hg (i:=y) (j:=w) ((ofM_mem hyn hwn).2 hp)
  omega
end Right
def repVal (g:Gr) (m:List Nat) (c:Int):Int:=match lastW g m c with | some w=>(g.ev w).val | none=>0
def readOk (g:Gr) (m:List Nat) (i x:Nat):Bool:=!((g.ev x).kind==1)||match lastW g (m.take i) (g.ev x).loc with | some w=>(g.ev w).val==(g.ev x).val | none=>false
def repOk (g:Gr) (m:List Nat):Bool:=(List.range m.length).all fun i=>readOk g m i (m.getD i 0)
theorem Right.reads {m:List Nat} (R:Right g m) (hg:g.good=true) {i x:Nat} (h:m[i]?=some x):readOk g m i x=true:=by
 unfold readOk
 by_cases hk:(g.ev x).kind=1
 rotate_left
 ·simp [hk]
 obtain ⟨words,hz⟩:=good_check hg
 obtain ⟨-,-,-,h4,-⟩:=check_iff.1 hz
 have hr:=rf_iff.1 h4
 have hx:=R.lt h
 have hm:(x:Int)∈g.rf.map (·.2):=by
  rw [hr.1];exact List.mem_map.2 ⟨x,List.mem_filter.2 ⟨List.mem_range'_1.2 ⟨by omega,by omega⟩,by simp [hk]⟩,rfl⟩
 obtain ⟨p,hp,he⟩:=List.mem_map.1 hm
 obtain ⟨w,r,e,hw,hrn,-⟩:=rf_pair hz hp
 subst e
 dsimp only at he
 obtain rfl:r=x:=by omega
 have h1:=R.rd hg ((ofM_mem hw hrn).2 hp:relM g 1 w r=true)
 rw [nodup_at R.pre.1 h] at h1
 rw [h1]
 have:=hr.2 _ hp
 unfold rfOk at this
 simp only [Bool.and_eq_true,Int.toNat_natCast] at this
 simp only [this.2,Bool.or_true]
theorem Right.vals {m:List Nat} (R:Right g m) (hg:g.good=true):(List.range g.cells.toNat).map (fun c=>repVal g m (c:Nat))=finals g:=by
 have hcl:=(good_co hg).1
 have:g.cells.toNat=g.co.length:=by omega
 rw [this]
 unfold finals
 apply List.ext_getElem?
 intro c
 rw [List.getElem?_map,List.getElem?_map]
 by_cases hc:c<g.co.length
 ·rw [List.getElem?_range hc]
  obtain ⟨w,h1,h2⟩:=R.final hg hc
  have e:g.co[c]?=some (g.co.getD c []):=by rw [List.getD_eq_getElem?_getD,List.getElem?_eq_getElem hc];rfl
  rw [e]
  simp only [Option.map_some,Option.some.injEq]
  unfold repVal finalOf
  rw [h1,h2,Int.toNat_natCast]
 ·rw [List.getElem?_eq_none (by simpa using hc),List.getElem?_eq_none (by simpa using hc)];rfl
end
/-! ### The order that is made -/
section
variable {n : Nat} {N : Nat → Nat → Bool} {F : Nat → Nat} {S : Nat → Int}
theorem glueGo_pfx:∀ (k:Nat) (l m:List Nat),glueGo n F S N k l=some m→∃ r,m=l++r
 | 0,l,m,h=>by
  simp only [glueGo,Option.some.injEq] at h
  exact ⟨[],by simp [h]⟩
 | k+1,l,m,h=>by
  simp only [glueGo] at h
  by_cases hn:n≤l.length
  ·rw [if_pos hn] at h
   simp only [Option.some.injEq] at h
   exact ⟨[],by simp [h]⟩
  rw [if_neg hn] at h
  cases hx:Go.Vc.lf (fun p=>F p==p&&freeB n N l.contains p) n 0 with
  | none=>rw [hx] at h;simp at h
  | some p =>
   rw [hx] at h
   obtain ⟨r,hr⟩:=glueGo_pfx k _ m h
   split at hr
   ·exact ⟨[p]++[(S p).toNat]++r,by rw [hr];simp⟩
   ·exact ⟨[p]++r,by rw [hr];simp⟩
theorem glueGo_init {c:Nat} (hc:c≤n) (hi:∀ k,k<c→F k=k∧S k = -1∧∀ a,a<n→N a k=false):∀ (f k:Nat) (m:List Nat),k≤c→c≤k+f→glueGo n F S N f (List.range k)=some m→∃ r,m=List.range c++r
 | 0,k,m,h1,h2,h=>by
  obtain rfl:k=c:=by omega
  exact glueGo_pfx _ _ _ h
 | f+1,k,m,h1,h2,h=>by
  by_cases hk:k=c
  ·subst hk;exact glueGo_pfx _ _ _ h
  obtain ⟨e1,e2,e3⟩:=hi k (by omega)
  simp only [glueGo] at h
  rw [if_neg (by simp;omega)] at h
  have hlf:Go.Vc.lf (fun p=>F p==p&&freeB n N (List.range k).contains p) n 0=some k:=lf_is (by omega) (by omega)
   (by
    show (F k==k&&freeB n N (List.range k).contains k)=true
    rw [Bool.and_eq_true]
    exact ⟨by simp [e1],freeB_true.2 ⟨by simp,fun a ha hm=>by rw [e3 a ha] at hm;cases hm⟩⟩)
   (fun y _ hy=>by
    show (F y==y&&freeB n N (List.range k).contains y)=false
    have:freeB n N (List.range k).contains y=false:=by
     unfold freeB
     have hc:(List.range k).contains y=true:=by simp;omega
     rw [hc];rfl
    rw [this,Bool.and_false])
  rw [hlf] at h
  dsimp only at h
  rw [if_neg (by rw [e2];decide),← List.range_succ] at h
  exact glueGo_init hc hi f (k+1) m (by omega) (by omega) h
end
section
variable {g : Gr} {m : List Nat}
theorem order_init (hg:g.good=true) (h:glueS g.n (allM g) g.rmw=.ok m) {i:Nat} (hi:(i:Int)<g.cells):m[i]?=some i:=by
 obtain ⟨words,hz⟩:=good_check hg
 obtain ⟨hs,-⟩:=check_zero hz
 simp only [Gr.size,Bool.and_eq_true,decide_eq_true_eq] at hs
 have th:∀ k,k<g.cells.toNat→k<g.n∧(g.ev k).thread = -1∧(g.ev k).kind=2:=fun k hk=>by
  have hkn:k<g.n:=by omega
  rcases ev_init hg hkn with ⟨h1,h2,-⟩ | ⟨-,h1⟩
  ·exact ⟨hkn,h1,h2⟩
  ·omega
 unfold glueS at h
 cases hF:glueFS g.n g.rmw with
 | none=>rw [hF] at h;simp at h
 | some FS =>
  obtain ⟨F,S⟩:=FS
  rw [hF] at h
  simp only at h
  cases hG:glueGo g.n F S (glueM g.n (allM g) F S) g.n [] with
  | none=>rw [hG] at h;simp [orCyc] at h
  | some m' =>
   rw [hG] at h
   simp only [orCyc,Except.ok.injEq] at h
   subst h
   obtain ⟨⟨U,G⟩,-,-⟩:=glueIn_spec _ _ _ _ _ _ (.start g.n) hF
   have only:∀ a b:Nat,S a=(b:Int)→PairOk g a b:=fun a b hs=>by
    rcases glueIn_only _ _ _ _ _ _ hF a b hs with h1 | h1
    ·simp at h1
    ·obtain ⟨a',b',e,P⟩:=pair_ok hg h1
     simp only [Prod.mk.injEq] at e
     obtain rfl:a=a':=by omega
     obtain rfl:b=b':=by omega
     exact P
   obtain ⟨r,hr⟩:=glueGo_init (n:=g.n) (F:=F) (S:=S) (N:=glueM g.n (allM g) F S) (c:=g.cells.toNat) (by omega) (fun k hk=>by
    obtain ⟨hkn,t1,t2⟩:=th k hk
    have hS:S k = -1:=by
     rcases G.snd k hkn with h1 | ⟨q,-,h2,-⟩
     ·exact h1
     ·have:=(only k q h2).ka;omega
    refine ⟨?_,hS,fun a ha=>?_⟩
    ·apply Classical.byContradiction;intro hne
     have h1:=(G.fst k hkn hne).1
     have h2:=po_th (only _ _ h1).po
     unfold Th at h2;omega
    ·rw [Bool.eq_false_iff];intro hm
     obtain ⟨p,hp,q,hq,hpq,-,-,e2⟩:=glueM_true.1 hm
     have:q=k:=by
      apply Classical.byContradiction;intro hne
      have h1:=(G.fst q hq (by omega)).1
      rw [e2,hS] at h1;omega
     subst this
     have:=all_tgt hg hp hq hpq
     omega) g.n 0 m' (by omega) (by omega) hG
   rw [hr,List.getElem?_append_left (by simp;omega),List.getElem?_range (by omega)]
theorem order_right (hg:g.good=true) (h:glueS g.n (allM g) g.rmw=.ok m):Right g m:=by
 obtain ⟨hp,hl,ht⟩:=glue_sound h
 have mem:∀ {x},x<g.n→x∈m:=fun hx=>all_in hp hl hx
 have ord:∀ {i j},i<g.n→j<g.n→allM g i j=true→m.idxOf i<m.idxOf j:=fun hi hj hm=>hp.idx hi (mem hj) hm
 have pc:∀ {a b},pcM g a b=true→allM g a b=true:=fun h=>by
  unfold pcM at h;unfold allM
  cases h1:relM g 0 _ _ <;> cases h2:relM g 2 _ _ <;> simp [h1,h2] at h ⊢
 refine ⟨⟨hp.1,hp.2.1,fun i x hx a ha hm=>hp.2.2 i x hx a ha (pc hm)⟩,hl,fun i x hx=>okAt_iff.2 ⟨fun hi=>?_,fun p hpr he=>?_,fun p hpr he=>?_⟩⟩
 ·have:=order_init hg h hi
  rw [hx] at this
  simp only [Option.some.injEq] at this
  subst this
  rcases ev_init hg (hp.2.1 _ (List.mem_of_getElem? hx)) with ⟨h1,-⟩ | ⟨-,h1⟩ <;> omega
 ·obtain ⟨words,hz⟩:=good_check hg
  obtain ⟨w,r,e,hw,hr,k1,k2,k3,k4⟩:=rf_pair hz hpr
  subst e
  dsimp only at he ⊢
  obtain rfl:r=x:=by omega
  have hrf:relM g 1 w r=true:=(ofM_mem hw hr).2 hpr
  have ei:=nodup_at hp.1 hx
  have hlt:=ord hw hr (by unfold allM;rw [hrf];simp)
  rw [ei] at hlt
  refine natO_some.2 (lastW_of (i:=m.idxOf w) (take_at.2 ⟨hlt,at_nodup (mem hw)⟩) (wrB_iff.2 ⟨k1,k3⟩) fun j y hj hy=>?_)
  rw [take_at] at hy
  rw [Bool.eq_false_iff];intro hwr
  obtain ⟨w1,w2⟩:=wrB_iff.1 hwr
  have hyn:=hp.2.1 y (List.mem_of_getElem? hy.2)
  have ey:=nodup_at hp.1 hy.2
  have hne:w≠y:=fun e=>by subst e;omega
  have hct:=co_total hg hw hyn hne k1 w1 (by omega)
  cases hwy:ofM g.n (coPairs g) w y
  ·rw [hwy] at hct
   have hyw:relM g 2 y w=true:=by
    show ofM g.n (coPairs g) y w=true
    cases hx:ofM g.n (coPairs g) y w
    ·rw [hx] at hct;cases hct
    ·rfl
   have:=ord hyn hw (by unfold allM;rw [hyw];simp)
   omega
  ·have hfr:relM g 9 r y=true:=(fr_in hr hyn).2 ⟨w,hw,hrf,hwy⟩
   have:=ord hr hyn (by unfold allM;rw [hfr];simp)
   omega
 ·obtain ⟨j,h1,h2⟩:=ht p hpr
  obtain ⟨a,b,rfl,P⟩:=pair_ok hg hpr
  dsimp only at he h1 h2 ⊢
  have h1:m[j]?=some a:=natO_some.1 h1
  have h2:m[j+1]?=some b:=natO_some.1 h2
  have:a=x:=by omega
  subst this
  have e1:=nodup_at hp.1 h1
  have e2:=nodup_at hp.1 hx
  have:j=i:=by omega
  subst this
  exact natO_some.2 h2
end
end Go.Proofs.Tst
/-
  Orders of a graph's events: each write stands at its place of its cell's list (plain).
-/
namespace Go.Proofs.Tst
open Go Go.Vc
section
variable {g : Gr}
end
end Go.Proofs.Tst
/-
  Orders of a graph's events: the forms that the code works out (plain).
-/
namespace Go.Proofs.Tst
open Go Go.Vc
def lkp (L:List (Int×Int)) (x:Int):Option Int:=(L.reverse.find? fun p=>p.1==x).map (·.2)
theorem lkp_snoc (L:List (Int×Int)) (p:Int×Int) (x:Int):lkp (L++[p]) x=if x=p.1 then some p.2 else lkp L x:=by
 unfold lkp
 rw [List.reverse_append,List.reverse_singleton,List.singleton_append,List.find?_cons]
 by_cases h:x=p.1
 ·subst h;simp
 ·have:(p.1==x)=false:=by simp;exact fun e=>h e.symm
  rw [this,if_neg h]
theorem lkp_some {L:List (Int×Int)} {x v:Int} (h:lkp L x=some v):(x,v)∈L:=by
 unfold lkp at h
 rw [Option.map_eq_some_iff] at h
 obtain ⟨p,hp,rfl⟩:=h
 have h1:=List.mem_of_find?_eq_some hp
 have h2:=List.find?_some hp
 simp only [beq_iff_eq] at h2
 rw [← h2];simpa using h1
theorem lkp_none {L:List (Int×Int)} {x:Int} (h:lkp L x=none):∀ p∈L,p.1≠x:=fun p hp=>by
 unfold lkp at h
 rw [Option.map_eq_none_iff,List.find?_eq_none] at h
 have:=h p (by simpa using hp)
 simpa using this
theorem lkp_all {L:List (Int×Int)} (hu:∀ p∈L,∀ p'∈L,p.1=p'.1→p=p') (x:Int) (o:Option Int):(∀ p∈L,p.1=x→o=some p.2)↔(match lkp L x with | none=>true | some v=>o==some v)=true:=by
 cases h:lkp L x with
 | none=>exact ⟨fun _=>rfl,fun _ p hp he=>absurd he (lkp_none h p hp)⟩
 | some v =>
  have hm:=lkp_some h
  simp only [beq_iff_eq]
  constructor
  ·exact fun hall=>hall _ hm rfl
  ·intro ho p hp he
   have:=hu _ hp _ hm he
   rw [this];exact ho
section
variable {g : Gr}
def rfK (g:Gr):List (Int×Int):=g.rf.map fun p=>(p.2,p.1)
theorem rfK_uniq (hg:g.good=true):∀ p∈rfK g,∀ p'∈rfK g,p.1=p'.1→p=p':=by
 obtain ⟨words,hz⟩:=good_check hg
 obtain ⟨-,-,-,h4,-⟩:=check_iff.1 hz
 have hr:=rf_iff.1 h4
 have hnd:(g.rf.map (·.2)).Nodup:=by
  rw [hr.1]
  exact List.pairwise_map.2 ((List.Nodup.sublist List.filter_sublist List.nodup_range').imp fun h e=>h (by omega))
 intro p hp p' hp' he
 obtain ⟨a,ha,rfl⟩:=List.mem_map.1 hp
 obtain ⟨b,hb,rfl⟩:=List.mem_map.1 hp'
 have:a=b:=by
  dsimp only at he
  obtain ⟨i,hi⟩:=List.mem_iff_getElem?.1 ha
  obtain ⟨j,hj⟩:=List.mem_iff_getElem?.1 hb
  have e1:(g.rf.map (·.2))[i]?=some a.2:=by rw [List.getElem?_map,hi];rfl
  have e2:(g.rf.map (·.2))[j]?=some b.2:=by rw [List.getElem?_map,hj];rfl
  rw [← he] at e2
  obtain ⟨li,ei⟩:=List.getElem?_eq_some_iff.1 e1
  obtain ⟨lj,ej⟩:=List.getElem?_eq_some_iff.1 e2
  have:i=j:=(List.getElem_inj hnd).1 (by rw [ei,ej])
  subst this
  rw [hi] at hj
  simpa using hj
 rw [this]
theorem keys_uniq {α:Type} {f:α→Int} {L:List α} (hp:L.Pairwise fun p q=>f p<f q):∀ p∈L,∀ p'∈L,f p=f p'→p=p':=by
 induction L with
 | nil=>intro p hp;simp at hp
 | cons a L ih =>
  obtain ⟨h1,h2⟩:=List.pairwise_cons.1 hp
  intro p k1 p' k2 he
  rcases List.mem_cons.1 k1 with e1 | m1
  ·rcases List.mem_cons.1 k2 with e2 | m2
   ·rw [e1,e2]
   ·have:=h1 p' m2;rw [e1] at he;omega
  ·rcases List.mem_cons.1 k2 with e2 | m2
   ·have:=h1 p m1;rw [e2] at he;omega
   ·exact ih h2 p m1 p' m2 he
theorem rmw_uniq (hg:g.good=true):∀ p∈g.rmw,∀ p'∈g.rmw,p.1=p'.1→p=p':=by
 obtain ⟨words,hz⟩:=good_check hg
 obtain ⟨-,-,-,-,-,h6,-⟩:=check_iff.1 hz
 exact keys_uniq (rmw_iff.1 h6).1
def lkOk (L:List (Int×Int)) (x:Int) (o:Option Int):Bool:=match lkp L x with | none=>true | some v=>o==some v
def okB (g:Gr) (m:List Nat) (i x:Nat):Bool:=
 (!decide ((i:Int)<g.cells)||decide ((g.ev x).thread<0))&&lkOk (rfK g) (x:Int) (natO (lastW g (m.take i) (g.ev x).loc))&&lkOk g.rmw (x:Int) (natO m[i+1]?)
def allB (P:Nat→Nat→Bool) (m:List Nat):Bool:=(List.range m.length).all fun i=>P i (m.getD i 0)
theorem allB_iff {P:Nat→Nat→Bool} {m:List Nat}:allB P m=true↔∀ i x,m[i]?=some x→P i x=true:=by
 unfold allB
 simp only [List.all_eq_true,List.mem_range]
 constructor
 ·intro h i x hx
  have:=h i (List.getElem?_eq_some_iff.1 hx).1
  rwa [List.getD_eq_getElem?_getD,hx] at this
 ·intro h i hi
  exact h i _ (by rw [List.getD_eq_getElem?_getD,List.getElem?_eq_getElem hi];rfl)
theorem okB_okAt (hg:g.good=true) {m:List Nat} {i x:Nat}:okB g m i x=true↔okAt g m i x=true:=by
 rw [okAt_iff]
 unfold okB
 simp only [Bool.and_eq_true,and_assoc]
 refine and_congr ?_ (and_congr ?_ ?_)
 ·simp only [Bool.or_eq_true,Bool.not_eq_true',decide_eq_false_iff_not,decide_eq_true_eq]
  constructor
  ·rintro (h | h) h1
   ·exact absurd h1 h
   ·exact h
  ·intro h
   by_cases h1:(i:Int)<g.cells
   ·exact .inr (h h1)
   ·exact .inl h1
 ·unfold lkOk
  rw [← lkp_all (rfK_uniq hg)]
  unfold rfK
  constructor
  ·intro h p hp he
   exact h (p.2,p.1) (List.mem_map.2 ⟨p,hp,rfl⟩) he
  ·intro h p hp he
   obtain ⟨a,ha,rfl⟩:=List.mem_map.1 hp
   exact h a ha he
 ·unfold lkOk
  rw [← lkp_all (rmw_uniq hg)]
def natsOf (l:List Int):List Nat:=l.map Int.toNat
theorem natsOf_back {n:Nat} {M:Nat→Nat→Bool} {l:List Int} (h:LinP n M l):(natsOf l).map (fun (p:Nat)=>(p:Int))=l:=by
 unfold natsOf
 rw [List.map_map]
 conv=>rhs;rw [← List.map_id l]
 refine List.map_congr_left fun x hx=>?_
 have:=(h.2.1 x hx).1
 show ((x.toNat:Nat):Int)=x
 omega
theorem lin_pre {n:Nat} {M:Nat→Nat→Bool} {l:List Int}:LinP n M l↔(natsOf l).map (fun (p:Nat)=>(p:Int))=l∧Pre n M (natsOf l)∧(natsOf l).length=n:=by
 constructor
 ·intro h
  have e:=natsOf_back h
  rw [← e] at h
  exact ⟨e,linP_pre.1 h⟩
 ·rintro ⟨e,h⟩
  rw [← e];exact linP_pre.2 h
def rightB (g:Gr) (l:List Int):Bool:=g.good&&(decide (LinP g.n (pcM g) l)&&allB (okB g (natsOf l)) (natsOf l))
theorem rightB_iff {l:List Int}:rightB g l=true↔g.good=true∧(natsOf l).map (fun (p:Nat)=>(p:Int))=l∧Right g (natsOf l):=by
 unfold rightB
 simp only [Bool.and_eq_true,decide_eq_true_eq,allB_iff]
 constructor
 ·rintro ⟨hg,h1,h2⟩
  obtain ⟨e,h3,h4⟩:=lin_pre.1 h1
  exact ⟨hg,e,h3,h4,fun i x hx=>(okB_okAt hg).1 (h2 i x hx)⟩
 ·rintro ⟨hg,e,h⟩
  exact ⟨hg,lin_pre.2 ⟨e,h.pre,h.len⟩,fun i x hx=>(okB_okAt hg).2 (h.ok i x hx)⟩
def eachB (g:Gr) (l:List Int):Bool:=g.good&&decide (LinP g.n (fun _ _=>false) l)
def repFin (g:Gr) (m:List Nat):List Int:=(List.range g.cells.toNat).map fun c=>repVal g m (c:Nat)
def picksL (g:Gr) (m:List Nat):List Int:=(m.map fun x=>(g.ev x).thread).filter fun t=>decide (0≤t)
theorem picksL_snoc (m:List Nat) (x:Nat):picksL g (m++[x])=picksL g m++(if 0≤(g.ev x).thread then [(g.ev x).thread] else []):=by
 unfold picksL
 rw [List.map_append,List.filter_append]
 congr 1
 by_cases h:0≤(g.ev x).thread
 ·rw [if_pos h];simp [h]
 ·rw [if_neg h];simp [h]
theorem repOk_iff {m:List Nat}:repOk g m=true↔∀ i x,m[i]?=some x→readOk g m i x=true:=allB_iff
theorem right_rep {m:List Nat} (hg:g.good=true) (R:Right g m):repOk g m=true∧repFin g m=finals g:=
 ⟨repOk_iff.2 fun _ _ hx=>R.reads hg hx,R.vals hg⟩
theorem right_each {l:List Int} (hg:g.good=true) (e:(natsOf l).map (fun (p:Nat)=>(p:Int))=l) (R:Right g (natsOf l)):eachB g l=true:=by
 unfold eachB
 rw [Bool.and_eq_true,decide_eq_true_eq]
 exact ⟨hg,lin_pre.2 ⟨e,⟨R.pre.1,R.pre.2.1,fun i x hx a ha hm=>by cases hm⟩,R.len⟩⟩
end
end Go.Proofs.Tst
/-
  The graphs of two cells that the laws lay.
-/
namespace Go.Vc
open Go
theorem Fr.wide {l r b:Nat} {h h':Heap} (f:Fr l r h h') (hr:r≤b):Fr 0 b h h':=⟨f.size,fun x hx hc=>f.old x hx (by omega)⟩
end Go.Vc
namespace Go.Proofs.Tst
open Go Go.Vc
def twoG (m:Int) (E:List Ev) (rf:List (Int×Int)) (x y:List Int):Gr:=⟨2,[⟨-1,2,0,0,m⟩,⟨-1,2,1,0,m⟩]++E,rf,[[0]++x,[1]++y],[],[],[],[]⟩
theorem nilP {h:Heap}:Rd 2 h (.slice none ([]:List (Int×Int)).length 0) ([]:List (Int×Int)).length (pairsV []):=⟨rfl,_,_,rfl,.inl rfl⟩
end Go.Proofs.Tst
/-
  law11: says, buffering, passing.
-/
namespace Go.Proofs.Tst
open Go Go.Vc
end Go.Proofs.Tst
/-
  law10: two, says, buffering, passing, fenced.
-/
namespace Go.Proofs.Tst
open Go Go.Vc
end Go.Proofs.Tst
/-
  Go's library: Clone of events and of pairs; Grow, Concat.
-/
namespace Go.Proofs.Tst
open Go Go.Vc
end Go.Proofs.Tst
/-
  seq: a graph's model; torn, together, global, first.
-/
namespace Go.Proofs.Tst
open Go Go.Vc
def smC (q : GV) (g : Gr) (c : Nat → Nat) (ra wa fa : Option Addr) (rn wn fn : Nat) : List Value :=
  [.int .i64 g.cells, .slice q.e g.evs.length q.ec, .slice q.f g.rf.length q.fc, .slice q.o g.co.length q.oc, .slice q.r g.rmw.length q.rc, .slice q.a g.addr.length q.ac, .slice q.d g.data.length q.dc, .slice q.c g.ctrl.length q.cc,
   .pointer (some ⟨c 0, 0, none⟩), .pointer (some ⟨c 1, 0, none⟩), .pointer (some ⟨c 2, 0, none⟩), .pointer (some ⟨c 9, 0, none⟩), .pointer (some ⟨c 3, 0, none⟩), .pointer (some ⟨c 4, 0, none⟩), .pointer (some ⟨c 5, 0, none⟩), .pointer (some ⟨c 6, 0, none⟩), .pointer (some ⟨c 7, 0, none⟩), .pointer (some ⟨c 8, 0, none⟩), .slice ra g.n rn, .slice wa g.n wn, .slice fa g.n fn]
structure Sm (h:Heap) (q:GV) (g:Gr) (c:Nat→Nat) (ra wa fa:Option Addr) (rn wn fn:Nat):Prop where
 gr:GrAt h q g
 good:g.good=true
 rel:∀ k,k<10→PA h (.pointer (some ⟨c k,0,none⟩)) g.n (relM g k)
 rd:Rd 1 h (.slice ra g.n rn) g.n (boolsV (kindsV g 1 g.n))
 wr:Rd 1 h (.slice wa g.n wn) g.n (boolsV (kindsV g 2 g.n))
 fe:Rd 1 h (.slice fa g.n fn) g.n (boolsV (kindsV g 3 g.n))
section
variable {h : Heap} {q : GV} {g : Gr} {c : Nat → Nat} {ra wa fa : Option Addr} {rn wn fn : Nat}
theorem Sm.fr {h':Heap} (m:Sm h q g c ra wa fa rn wn fn) (f:Fr 0 0 h h'):Sm h' q g c ra wa fa rn wn fn:=
 ⟨m.gr.fr f,m.good,fun k hk=>(m.rel k hk).fr f,m.rd.fr f,m.wr.fr f,m.fe.fr f⟩
theorem Sm.of {lo:Nat} {p:Nat→Value} {rd wr fe:Value} (t:GrAt h q g) (hg:g.good=true) (F:FactsAt h lo p rd wr fe g):∃ c ra wa fa rn wn fn,fcells p rd wr fe=[.pointer (some ⟨c 0,0,none⟩),.pointer (some ⟨c 1,0,none⟩),.pointer (some ⟨c 2,0,none⟩),.pointer (some ⟨c 9,0,none⟩),.pointer (some ⟨c 3,0,none⟩),.pointer (some ⟨c 4,0,none⟩),.pointer (some ⟨c 5,0,none⟩),.pointer (some ⟨c 6,0,none⟩),.pointer (some ⟨c 7,0,none⟩),.pointer (some ⟨c 8,0,none⟩),.slice ra g.n rn,.slice wa g.n wn,.slice fa g.n fn]∧Sm h q g c ra wa fa rn wn fn:=by
 obtain ⟨A,B,D,-,-⟩:=F.rel
 have hx:∃ c:Nat→Nat,∀ k,k<10→p k=.pointer (some ⟨c k,0,none⟩):=
  ⟨fun k=>if hk:k<10 then (progPtr (D.at_ k hk)).choose else 0,fun k hk=>by simp only [dif_pos hk];exact (progPtr (D.at_ k hk)).choose_spec⟩
 obtain ⟨c,hc⟩:=hx
 obtain ⟨ra,rn,e1⟩:=F.hrd.is
 obtain ⟨wa,wn,e2⟩:=F.hwr.is
 obtain ⟨fa,fn,e3⟩:=F.hfe.is
 refine ⟨c,ra,wa,fa,rn,wn,fn,?_,t,hg,fun k hk=>?_,e1▸F.hrd.rd,e2▸F.hwr.rd,e3▸F.hfe.rd⟩
 ·unfold fcells
  rw [hc 0 (by decide),hc 1 (by decide),hc 2 (by decide),hc 9 (by decide),hc 3 (by decide),hc 4 (by decide),hc 5 (by decide),hc 6 (by decide),hc 7 (by decide),hc 8 (by decide),e1,e2,e3]
 ·rw [← hc k hk];exact ⟨_,_,D.at_ k hk⟩
theorem seq_torn (m:Sm h q g c ra wa fa rn wn fn) (ht:TabAt h) :
  Con Tryd.prog 68 #[.agg (smC q g c ra wa fa rn wn fn).toArray] h fun v h'=>Fr 0 0 h h'∧Holder 1 h' v (atomS g).length (intsV (atomS g)) h.size:=by
 refine con_q144 ?_
 have br:=m.gr.fits.r
 have p0:Fr 0 0 h h:=.refl _ _ _
 unfold smC
 simp -dsimp only [go_sem]
 intro b1 h1 n1
 have n1_z:=n1.az
 replace p0:=p0.F n1.f0
 have r1:=n1.row
 simp -dsimp only [go_sem,r1.cell]
 obtain ⟨_,_,ta⟩:=(m.fr p0).rel 9 (by decide)
 obtain ⟨_,_,tb⟩:=(m.fr p0).rel 2 (by decide)
 refine call_of (rel_Comp ta tb (ht.fr p0 (.inr rfl))) ?_
 rintro v2 h2 ⟨f2,t2⟩
 rw [Nat.max_self] at t2
 have f2_z:=f2.size
 replace p0:=p0.F f2
 replace r1:=r1.F f2
 obtain ⟨bt,rfl⟩:=progPtr t2
 simp -dsimp only [go_sem,r1.cell]
 have p2:Fr 0 0 h2 h2:=.refl _ _ _
 have g2:h.size≤h2.size:=by omega
 refine loop_intro (fun i:Nat=>[(3,.pointer (some ⟨bt,0,none⟩)),(15,.slice q.r g.rmw.length q.rc),(16,.int .i64 g.rmw.length),(17,.int .i64 i)])
  (fun i h'=>i≤g.rmw.length∧Fr 0 0 h h'∧Fr 0 0 h2 h'∧(g.rmw.take i).find? (tornS g)=none) (fun i=>g.rmw.length - i) 0 ?_ ?_ ?_
 ·simp [Le,find]
 ·exact ⟨by omega,p0,p2,rfl⟩
 clear p0 r1 p2
 rintro i h3 ⟨hi,p0,p2,hfn⟩
 have p0_z:=p0.size
 have p2_z:=p2.size
 by_cases hlt:i<g.rmw.length
 ·have e1:((i:Int)<(g.rmw.length:Int)):=by omega
  have hq:g.rmw[i]?=some g.rmw[i]:=List.getElem?_eq_getElem hlt
  generalize g.rmw[i]=pr at hq
  obtain ⟨rb,ro,hre,hrc⟩:=m.gr.r.pairsAt (by omega)
  obtain ⟨k1,k2⟩:=hrc h3 p0 i _ hq
  simp -dsimp only [go_sem,e1,hre,k1,k2]
  intro b4 h4 n4
  have n4_z:=n4.az
  replace p0:=p0.F n4.f0
  replace p2:=p2.F n4.f0
  have r4:=n4.row
  simp -dsimp only [go_sem,r4.cell]
  refine Chk_intro (r4.W) fun h5 s5=>?_
  have s5_z:=s5.size
  replace p0:=p0.F s5.fr
  replace p2:=p2.F s5.fr
  replace r4:=s5.row r4
  try simp only [cl_int,cl_bool,cl_slice,cl_ptr,putAt_one,zs0,zs1,ivec_set,brow_upd] at r4
  try simp -dsimp only [go_sem] at r4
  simp -dsimp only [go_sem,r4.cell]
  refine call_of (rel_Has (t2.fr p2 (by omega)) pr.1 pr.2) ?_
  rintro v6 h6 ⟨hh,rfl⟩
  obtain rfl:h5=h6:=hh.symm
  have htn:=tornS_has (g:=g) (p:=pr)
  rw [htn]
  cases hb:tornS g pr
  ·simp -dsimp only [go_sem,r4.cell]
   simp -dsimp (disch:=omega) only [wrap64]
   exact ⟨i+1,by omega,by simp [Le,find,hre],by omega,p0,p2,find_next hq hfn hb⟩
  ·simp -dsimp only [go_sem,r4.cell]
   intro b7 h7 n7
   have n7_z:=n7.az
   replace p0:=p0.F n7.f0
   replace p2:=p2.F n7.f0
   replace r4:=r4.F n7.f0
   have r7:=n7.row
   simp -dsimp only [go_sem,r4.cell,r7.cell]
   have hA:atomS g=[pr.1,pr.2]:=by unfold atomS;rw [find_at hq hfn hb]
   rw [hA]
   exact ⟨p0,holder_row (s:=1) (n:=2) r7 rfl (by omega)⟩
 ·obtain rfl:i=g.rmw.length:=by omega
  simp -dsimp only [go_sem,Int.lt_irrefl]
  rw [List.take_length] at hfn
  have hA:atomS g=[]:=by unfold atomS;rw [hfn]
  rw [hA]
  exact ⟨p0,.none _ _ _⟩
theorem natsI_V (l:List Nat):natsV l=intsV (natsI l):=natsV_ints l
theorem natsI_len (l:List Nat):(natsI l).length=l.length:=by simp [natsI]
theorem seq_together {v:Value} {M:Mx} (m:Sm h q g c ra wa fa rn wn fn) (ht:TabAt h) (hv:PA h v g.n M) :
  Con Tryd.prog 67 #[.agg (smC q g c ra wa fa rn wn fn).toArray,v] h fun w h'=>Fr 0 0 h h'∧Holder 1 h' w (natsI (cycS g.n (orM [M,relM g 1,relM g 2,relM g 9]))).length (intsV (natsI (cycS g.n (orM [M,relM g 1,relM g 2,relM g 9])))) h.size:=by
 refine con_q143 ?_
 have p0:Fr 0 0 h h:=.refl _ _ _
 unfold smC
 obtain ⟨bv,rfl⟩:=hv.ptr
 simp -dsimp only [go_sem]
 intro b1 h1 n1
 have n1_z:=n1.az
 replace p0:=p0.F n1.f0
 have r1:=n1.row
 simp -dsimp only [go_sem,r1.cell]
 intro b2 h2 n2
 have n2_z:=n2.az
 replace p0:=p0.F n2.f0
 replace r1:=r1.F n2.f0
 have r2:=n2.row
 simp -dsimp only [go_sem,r1.cell,r2.cell]
 have m2:=m.fr p0
 refine call_of (rel_UnionU (UA.mk' [(.pointer (some ⟨bv,0,none⟩),M),(.pointer (some ⟨c 1,0,none⟩),relM g 1),(.pointer (some ⟨c 2,0,none⟩),relM g 2),(.pointer (some ⟨c 9,0,none⟩),relM g 9)] r2 (pa_cons (hv.fr p0) (pa_cons (m2.rel 1 (by decide)) (pa_cons (m2.rel 2 (by decide)) (pa_cons (m2.rel 9 (by decide)) pa_nil)))) (by simp) (by simp))) ?_
 rintro v3 h3 ⟨f3,t3⟩
 have f3_z:=f3.size
 replace p0:=p0.F f3
 replace r1:=r1.F f3
 replace r2:=r2.F f3
 simp -dsimp only [go_sem,r1.cell,r2.cell]
 refine call_of (rel_Cycle t3 (ht.fr p0 (.inr rfl))) ?_
 rintro v4 h4 ⟨f4,o4⟩
 have f4_z:=f4.size
 replace p0:=p0.F f4
 replace r1:=r1.F f4
 replace r2:=r2.F f4
 simp -dsimp only [go_sem,r1.cell,r2.cell]
 rw [natsI_V] at o4
 rw [natsI_len]
 exact ⟨p0,o4.lower (by omega)⟩
theorem seq_Sc_1 (m:Sm h q g c ra wa fa rn wn fn) (ht:TabAt h) :
  Con Tryd.prog 66 #[.agg (smC q g c ra wa fa rn wn fn).toArray] h fun v h'=>Fr 0 0 h h'∧Holder 1 h' v (scL g 0).length (intsV (scL g 0)) h.size:=by
 refine con_q137 ?_
 have p0:Fr 0 0 h h:=.refl _ _ _
 have e:orM [relM g 0,relM g 1,relM g 2,relM g 9]=allM g:=by funext i j;simp [orM,allM,Bool.or_assoc]
 unfold smC
 simp -dsimp only [go_sem]
 intro b1 h1 n1
 have n1_z:=n1.az
 replace p0:=p0.F n1.f0
 have r1:=n1.row
 simp -dsimp only [go_sem,r1.cell]
 have m1:=m.fr p0
 refine withC_of (smC q g c ra wa fa rn wn fn) 0 (fun j x hj=>by rw [r1.cell,Nat.zero_add];exact hj) ?_
 try simp -dsimp only [go_sem,r1.cell]
 refine call_of (seq_together m1 (ht.fr p0 (.inr rfl)) (m1.rel 0 (by decide))) ?_
 rintro v2 h2 ⟨f2,o2⟩
 have f2_z:=f2.size
 replace p0:=p0.F f2
 replace r1:=r1.F f2
 rw [e] at o2
 simp -dsimp only [go_sem,r1.cell]
 exact ⟨p0,o2.lower (by omega)⟩
def firstA (N:Nat) (num:Nat→Int) (L:Nat→List Int):Int×List Int:=match (List.range N).find? (fun i=>!(L i).isEmpty) with | some i=>(num i,L i) | none=>(0,[])
def axV (N:Nat) (num:Nat→Int) (F:Nat→FuncId):List Value:=(List.range N).flatMap fun i=>[.int .i64 (num i),.func (.func (F i)) #[] #[]]
theorem axV_succ {N:Nat} {num:Nat→Int} {F:Nat→FuncId}:axV (N+1) num F=axV N num F++[.int .i64 (num N),.func (.func (F N)) #[] #[]]:=by
 unfold axV;rw [List.range_succ,List.flatMap_append];simp
theorem axV_len {N:Nat} {num:Nat→Int} {F:Nat→FuncId}:(axV N num F).length=N * 2:=by
 induction N with
 | zero=>rfl
 | succ N ih=>rw [axV_succ,List.length_append,ih];simp;omega
theorem axV_get {num:Nat→Int} {F:Nat→FuncId}:∀ {N i:Nat},i<N→(axV N num F)[i * 2]?=some (.int .i64 (num i))∧(axV N num F)[i * 2+1]?=some (.func (.func (F i)) #[] #[])
 | N+1,i,h=>by
  rw [axV_succ]
  by_cases he:i=N
  ·subst he
   rw [List.getElem?_append_right (by rw [axV_len];omega),List.getElem?_append_right (by rw [axV_len];omega),axV_len]
   simp
  ·have:=axV_get (num:=num) (F:=F) (N:=N) (i:=i) (by omega)
   rw [List.getElem?_append_left (by rw [axV_len];omega),List.getElem?_append_left (by rw [axV_len];omega)]
   exact this
set_option maxHeartbeats 1000000 in
theorem seq_first {b:Nat} {N:Nat} {num:Nat→Int} {F:Nat→FuncId} {L:Nat→List Int} (hax:Rw h b (axV N num F)) (hN:N≤1000) (hF:∀ i,i<N→∀ h1,Fr 0 0 h h1→Con Tryd.prog (F i) #[.agg (smC q g c ra wa fa rn wn fn).toArray] h1 fun v h'=>Fr 0 0 h1 h'∧Holder 1 h' v (L i).length (intsV (L i)) h1.size) :
  Con Tryd.prog 65 #[.agg (smC q g c ra wa fa rn wn fn).toArray,.slice (some ⟨b,0,none⟩) N N] h fun v h'=>Fr 0 0 h h'∧∃ w,v=.tuple #[.int .i64 (firstA N num L).1,w,.int .i64 0]∧Holder 1 h' w (firstA N num L).2.length (intsV (firstA N num L).2) h.size:=by
 refine con_q140 ?_
 have p0:Fr 0 0 h h:=.refl _ _ _
 unfold smC
 simp -dsimp only [go_sem]
 intro b2 h2 n2
 have n2_z:=n2.az
 replace p0:=p0.F n2.f0
 have r2:=n2.row
 simp -dsimp only [go_sem,r2.cell]
 have g2:h.size≤b2:=by omega
 refine loop_intro (fun i:Nat=>[(2,.pointer (some ⟨b2,0,none⟩)),(10,.slice (some ⟨b,0,none⟩) N N),(11,.int .i64 N),(12,.int .i64 i)])
  (fun i h'=>i≤N∧Fr 0 0 h h'∧Rw h' b2 (smC q g c ra wa fa rn wn fn)∧(List.range i).find? (fun i=>!(L i).isEmpty)=none) (fun i=>N - i) 0 ?_ ?_ ?_
 ·simp [Le,find]
 ·exact ⟨by omega,p0,r2,rfl⟩
 clear p0 r2
 rintro i h3 ⟨hi,p0,r2,hfn⟩
 unfold smC at r2
 have p0_z:=p0.size
 have r2_l:=r2.lt
 by_cases hlt:i<N
 ·have e1:((i:Int)<(N:Int)):=by omega
  have ax3:=hax.fr p0 (.inr (Nat.zero_le _))
  obtain ⟨k1,k2⟩:=axV_get (num:=num) (F:=F) hlt
  have k1:hcell h3 b (i * 2)=some (.int .i64 (num i)):=by rw [ax3.cell];exact k1
  have k2:hcell h3 b (i * 2+1)=some (.func (.func (F i)) #[] #[]):=by rw [ax3.cell];exact k2
  simp -dsimp only [go_sem,e1,k1,k2,r2.cell]
  intro b4 h4 n4
  have n4_z:=n4.az
  replace p0:=p0.F n4.f0
  replace r2:=r2.F n4.f0
  have r4:=n4.row
  simp -dsimp only [go_sem,r2.cell,r4.cell]
  refine Chk_intro (r4.W) fun h5 s5=>?_
  have s5_z:=s5.size
  replace p0:=p0.F s5.fr
  replace r2:=r2.F s5.fr
  replace r4:=s5.row r4
  try simp only [cl_int,cl_bool,cl_slice,cl_ptr,putAt_one,zs0,zs1,ivec_set,brow_upd] at r4
  try simp -dsimp only [go_sem] at r4
  simp -dsimp only [go_sem,r2.cell,r4.cell]
  refine withC_of (smC q g c ra wa fa rn wn fn) 0 (fun j x hj=>by rw [r2.cell,Nat.zero_add];exact hj) ?_
  try simp -dsimp only [go_sem,r2.cell,r4.cell]
  refine call_of (hF i hlt h5 p0) ?_
  rintro v6 h6 ⟨f6,o6⟩
  have f6_z:=f6.size
  replace p0:=p0.F f6
  replace r2:=r2.F f6
  replace r4:=r4.F f6
  obtain ⟨a6,c6,rfl⟩:=o6.is
  simp -dsimp only [go_sem,r2.cell,r4.cell]
  by_cases hk:L i=[]
  ·have hl:¬ (((L i).length:Nat):Int) > 0:=by rw [hk];decide
   simp -dsimp only [go_sem,hl,r2.cell,r4.cell]
   simp -dsimp (disch:=omega) only [wrap64]
   exact ⟨i+1,by omega,by simp [Le,find],by omega,p0,r2,by rw [List.range_succ,List.find?_append,hfn];simp [hk]⟩
  ·have hl:(((L i).length:Nat):Int) > 0:=by have:=List.length_pos_iff.2 hk;omega
   simp -dsimp only [go_sem,hl,r2.cell,r4.cell]
   have hA:firstA N num L=(num i,L i):=by
    unfold firstA
    rw [find_at (l:=List.range N) (i:=i) (x:=i) (List.getElem?_range hlt) (by rw [List.take_range,Nat.min_eq_left (by omega)];exact hfn) (by simp [hk])]
   rw [hA]
   exact ⟨p0,_,rfl,o6.lower (by omega)⟩
 ·obtain rfl:i=N:=by omega
  simp -dsimp only [go_sem,Int.lt_irrefl,r2.cell]
  have hA:firstA i num L=(0,[]):=by unfold firstA;rw [hfn]
  rw [hA]
  exact ⟨p0,_,rfl,.none _ _ _⟩
end
end Go.Proofs.Tst
/-
  seq: global; Sc, Tso.
-/
namespace Go.Proofs.Tst
open Go Go.Vc
section
variable {h : Heap} {q : GV} {g : Gr} {c : Nat → Nat} {ra wa fa : Option Addr} {rn wn fn : Nat}
end
end Go.Proofs.Tst
/-
  seq: Sc, Tso.
-/
namespace Go.Proofs.Tst
open Go Go.Vc
def axN (i:Nat):Int:=match i with | 0=>1 | 1=>2 | _=>3
def scF (i:Nat):FuncId:=match i with | 0=>66 | _=>68
theorem sc_first {g : Gr} : firstA 2 axN (scL g) = scAx g := by
  have hr : List.range 2 = [0, 1] := rfl
  unfold firstA
  rw [hr]
  by_cases h0 : scL g 0 = []
  · by_cases h1 : scL g 1 = []
    · have := scAx_none (g := g) fun l hl => by
        have : l = 0 ∨ l = 1 := by omega
        rcases this with rfl | rfl
        · exact h0
        · exact h1
      rw [this]; simp [h0, h1]
    · have := scAx_at (g := g) (k := 1) (by decide) (fun l hl => by obtain rfl : l = 0 := by omega
                                                                    exact h0) h1
      rw [this]; simp [h0, h1, axN]
  · have := scAx_at (g := g) (k := 0) (by decide) (fun l hl => by omega) h0
    rw [this]; simp [h0, axN]
section
variable {h : Heap} {q : GV} {g : Gr}
set_option maxHeartbeats 2000000 in
theorem seq_Sc (t:GrAt h q g) (ht:TabAt h) :
  Con Tryd.prog 31 #[.agg (gcells q g).toArray] h fun v h'=>Fr 0 0 h h'∧if g.good=true then ∃ w,v=.tuple #[.int .i64 (scAx g).1,w,.int .i64 0]∧Holder 1 h' w (scAx g).2.length (intsV (scAx g).2) h.size
   else v=.tuple #[.int .i64 0,.slice none 0 0,.int .i64 4]:=by
 have p0:Fr 0 0 h h:=.refl _ _ _
 by_cases hg:g.good=true
 rotate_left
 ·simp only [if_neg hg]
  refine con_q136 ?_
  unfold gcells
  simp -dsimp only [go_sem]
  intro b1 h1 n1
  have n1_a:=n1.at_
  have n1_z:=n1.size
  replace p0:=p0.F n1.f0
  have r1:=n1.row
  simp -dsimp only [go_sem,r1.cell]
  refine call_of (graph_Derive (t.fr p0) (ht.fr p0 (.inr rfl))) ?_
  rintro v2 h2 ⟨f2,w⟩
  have f2_z:=f2.size
  replace p0:=p0.F f2
  replace r1:=r1.F f2
  rw [if_neg hg] at w
  subst w
  unfold fzero
  simp -dsimp only [go_sem,r1.cell]
  intro b3 h3 n3
  have n3_a:=n3.at_
  have n3_z:=n3.size
  replace p0:=p0.F n3.f0
  replace r1:=r1.F n3.f0
  have r3:=n3.row
  simp -dsimp only [go_sem,r1.cell,r3.cell]
  refine Chk_intro (r3.W) fun h4 s4=>?_
  have s4_z:=s4.size
  replace p0:=p0.F s4.fr
  replace r1:=r1.F s4.fr
  replace r3:=s4.row r3
  try simp only [cl_int,cl_bool,cl_slice,cl_ptr,putAt_one,zs0,zs1,ivec_set,brow_upd] at r3
  simp -dsimp only [go_sem,r1.cell,r3.cell]
  exact p0
 simp only [if_pos hg]
 refine con_q136 ?_
 unfold gcells
 simp -dsimp only [go_sem]
 intro b1 h1 n1
 have n1_a:=n1.at_
 have n1_z:=n1.size
 replace p0:=p0.F n1.f0
 have r1:=n1.row
 simp -dsimp only [go_sem,r1.cell]
 refine call_of (graph_Derive (t.fr p0) (ht.fr p0 (.inr rfl))) ?_
 rintro v2 h2 ⟨f2,w⟩
 have f2_z:=f2.size
 replace p0:=p0.F f2
 replace r1:=r1.F f2
 rw [if_pos hg] at w
 obtain ⟨p,rd,wr,fe,rfl,F⟩:=w
 obtain ⟨c,ra,wa,fa,rn,wn,fn,e,m⟩:=Sm.of (t.fr p0) hg F
 clear F
 rw [e]
 clear e
 have p2:Fr 0 0 h2 h2:=.refl _ _ _
 simp -dsimp only [go_sem,r1.cell]
 intro b3 h3 n3
 have n3_a:=n3.at_
 have n3_z:=n3.size
 replace p0:=p0.F n3.f0
 replace r1:=r1.F n3.f0
 replace p2:=p2.F n3.f0
 have r3:=n3.row
 simp -dsimp only [go_sem,r1.cell,r3.cell]
 refine Chk_intro (r3.W) fun h4 s4=>?_
 have s4_z:=s4.size
 replace p0:=p0.F s4.fr
 replace r1:=r1.F s4.fr
 replace p2:=p2.F s4.fr
 replace r3:=s4.row r3
 try simp only [cl_int,cl_bool,cl_slice,cl_ptr,putAt_one,zs0,zs1,ivec_set,brow_upd] at r3
 try simp -dsimp only [go_sem] at r3
 simp -dsimp only [go_sem,r1.cell,r3.cell]
 refine withC_of [.pointer (some ⟨c 0,0,none⟩),.pointer (some ⟨c 1,0,none⟩),.pointer (some ⟨c 2,0,none⟩),.pointer (some ⟨c 9,0,none⟩),.pointer (some ⟨c 3,0,none⟩),.pointer (some ⟨c 4,0,none⟩),.pointer (some ⟨c 5,0,none⟩),.pointer (some ⟨c 6,0,none⟩),.pointer (some ⟨c 7,0,none⟩),.pointer (some ⟨c 8,0,none⟩),.slice ra g.n rn,.slice wa g.n wn,.slice fa g.n fn] 0 (fun j x hj=>by rw [r3.cell,Nat.zero_add];exact hj) ?_
 simp -dsimp only [go_sem,r1.cell,r3.cell]
 intro b5 h5 n5
 have n5_z:=n5.az
 replace p0:=p0.F n5.f0
 replace r1:=r1.F n5.f0
 replace p2:=p2.F n5.f0
 replace r3:=r3.F n5.f0
 have r5:=n5.row
 replace r5:Rw h5 b5 (axV 2 axN scF):=r5
 simp -dsimp only [go_sem,r1.cell,r3.cell,r5.cell]
 replace m:=m.fr p2
 have hF:∀ i,i<2→∀ h6,Fr 0 0 h5 h6→Con Tryd.prog (scF i) #[.agg (smC q g c ra wa fa rn wn fn).toArray] h6 fun v h'=>Fr 0 0 h6 h'∧Holder 1 h' v (scL g i).length (intsV (scL g i)) h6.size:=by
  intro i hi h6 f
  match i,hi with
  | 0,_=>exact seq_Sc_1 (m.fr f) (ht.fr (p0.trans f) (.inr rfl))
  | 1,_=>exact seq_torn (m.fr f) (ht.fr (p0.trans f) (.inr rfl))
  | i+2,hi=>omega
 refine call_of (seq_first (q:=q) (g:=g) (c:=c) (ra:=ra) (wa:=wa) (fa:=fa) (rn:=rn) (wn:=wn) (fn:=fn) (F:=scF) (L:=scL g) r5 (by decide) hF) ?_
 rintro v7 h7 ⟨f7,w7,rfl,o7⟩
 have f7_z:=f7.size
 replace p0:=p0.F f7
 replace r1:=r1.F f7
 replace p2:=p2.F f7
 replace r3:=r3.F f7
 replace r5:=r5.F f7
 rw [sc_first] at o7 ⊢
 simp -dsimp only [go_sem,r1.cell,r3.cell,r5.cell]
 exact ⟨p0,_,rfl,o7.lower (by omega)⟩
end
end Go.Proofs.Tst
/-
  law21: two, the example.
-/
namespace Go.Proofs.Tst
open Go Go.Vc
theorem c_law21_ev (a b c:Int) (d:Int) {h:Heap}:Con Tryd.prog 22 #[.int .i64 a,.int .i64 b,.int .i64 c,.int .u64 d] h fun v h'=>Fr 0 0 h h'∧v=.agg #[.int .i64 a,.int .i64 b,.int .i64 c,.int .u64 d,.int .i64 1]:=by
 refine con_q44 ?_
 have p0:Fr 0 0 h h:=.refl _ _ _
 simp -dsimp only [go_sem]
 intro b1 h1 n1
 have n1_z:=n1.az
 replace p0:=p0.F n1.f0
 have r1:=n1.row
 simp -dsimp only [go_sem,r1.cell]
 refine Chk_intro (r1.W) fun h2 s2=>?_
 have s2_z:=s2.size
 replace p0:=p0.F s2.fr
 replace r1:=s2.row r1
 try simp only [cl_int,cl_bool,cl_slice,cl_ptr,putAt_one,zs0,zs1,ivec_set,brow_upd] at r1
 try simp -dsimp only [go_sem] at r1
 simp -dsimp only [go_sem,r1.cell]
 exact p0
set_option maxHeartbeats 2000000 in
theorem c_law21_two {h:Heap} {ea fa xa ya:Option Addr} {ec fc xc yc:Nat} {E:List Ev} {rf:List (Int×Int)} {x y:List Int} {lo:Nat} (hlo:lo≤h.size) (he:Rd 5 h (.slice ea E.length ec) E.length (evsV E)) (hf:∀ h',Fr 0 lo h h'→Rd 2 h' (.slice fa rf.length fc) rf.length (pairsV rf)) (hx:Rd 1 h (.slice xa x.length xc) x.length (intsV x)) (hy:Rd 1 h (.slice ya y.length yc) y.length (intsV y))
  (be:E.length≤1000) (bf:rf.length≤1000) (bx:x.length≤1000) (by_:y.length≤1000) :
  Con Tryd.prog 21 #[.slice ea E.length ec,.slice fa rf.length fc,.slice xa x.length xc,.slice ya y.length yc] h fun v h'=>Fr 0 0 h h'∧∃ q,v=.agg (gcells q (twoG 1 E rf x y)).toArray∧∀ h2,Fr 0 lo h' h2→GrAt h2 q (twoG 1 E rf x y):=by
 refine con_q48 ?_
 have p0:Fr 0 0 h h:=.refl _ _ _
 simp -dsimp only [go_sem]
 intro b8 h1 n1
 have n1_z:=n1.az
 replace p0:=p0.F n1.f0
 have r8:=n1.row
 simp -dsimp only [go_sem,r8.cell]
 refine call_of (c_law21_ev (-1) 2 0 0) ?_
 rintro v2 h2 ⟨f2,rfl⟩
 have f2_z:=f2.size
 replace p0:=p0.F f2
 replace r8:=r8.F f2
 simp -dsimp only [go_sem,r8.cell]
 refine call_of (c_law21_ev (-1) 2 1 0) ?_
 rintro v3 h3 ⟨f3,rfl⟩
 have f3_z:=f3.size
 replace p0:=p0.F f3
 replace r8:=r8.F f3
 simp -dsimp only [go_sem,r8.cell]
 intro b14 h4 n4
 have n4_z:=n4.az
 replace p0:=p0.F n4.f0
 replace r8:=r8.F n4.f0
 have r14:=n4.row
 replace r14:Rw h4 b14 (evsV [⟨-1,2,0,0,1⟩,⟨-1,2,1,0,1⟩]):=r14
 simp -dsimp only [go_sem,r8.cell,r14.cell]
 intro b9 h5 n5
 have n5_z:=n5.az
 replace p0:=p0.F n5.f0
 replace r8:=r8.F n5.f0
 replace r14:=r14.F n5.f0
 have r9:=n5.row
 simp -dsimp only [go_sem,r8.cell,r14.cell,r9.cell]
 refine Chk_intro (r9.W) fun h6 s6=>?_
 have s6_z:=s6.size
 replace p0:=p0.F s6.fr
 replace r8:=r8.F s6.fr
 replace r14:=r14.F s6.fr
 replace r9:=s6.row r9
 try simp only [cl_int,cl_bool,cl_slice,cl_ptr,putAt_one,zs0,zs1,ivec_set,brow_upd] at r9
 try simp -dsimp only [go_sem] at r9
 have gb:b8<b14∧b14<b9∧b9<h6.size∧h.size≤b8:=by omega
 simp -dsimp only [go_sem,r8.cell,r14.cell,r9.cell]
 refine (holder_row (s:=5) (n:=2) (lo:=b14) r14 rfl (Nat.le_refl _)).appendRd (he.fr p0) (by omega) rfl (by omega) (oc_evs _) (by omega) fun v7 h7 o7 f7 e7=>?_
 have lb:bl (.slice (some ⟨b14,0,none⟩) 2 2)=b14∧bh (.slice (some ⟨b14,0,none⟩) 2 2)=b14+1:=⟨rfl,rfl⟩
 rw [lb.1,lb.2] at f7
 clear r14
 have z7:=f7.size
 have f7_z:=f7.size
 replace p0:=p0.F f7
 replace r8:=r8.F f7
 replace r9:=r9.F f7
 rw [← evsV_append] at o7
 obtain ⟨a7,c7,rfl⟩:=o7.is
 have a7_a:=o7.at_
 have e7':=e7
 clear e7
 simp -dsimp only [go_sem,r8.cell,r9.cell]
 refine Chk_intro (r9.W) fun h8 s8=>?_
 have s8_z:=s8.size
 replace p0:=p0.F s8.fr
 replace r8:=r8.F s8.fr
 replace r9:=s8.row r9
 try simp only [cl_int,cl_bool,cl_slice,cl_ptr,putAt_one,zs0,zs1,ivec_set,brow_upd] at r9
 replace o7:=o7.fr s8.fr (by omega)
 simp -dsimp only [go_sem,r8.cell,r9.cell]
 intro b10 h9 n9
 have n9_z:=n9.az
 replace p0:=p0.F n9.f0
 replace r8:=r8.F n9.f0
 replace r9:=r9.F n9.f0
 have r10:=n9.row
 replace r10:Rw h9 b10 (intsV [0]):=r10
 replace o7:=o7.fr n9.f0 (by omega)
 simp -dsimp only [go_sem,r8.cell,r9.cell,r10.cell]
 have p9:Fr 0 0 h8 h9:=n9.fr
 refine (holder_row (s:=1) (n:=1) (lo:=b10) r10 rfl (Nat.le_refl _)).appendRd (hx.fr p0) (by omega) rfl (by omega) (oc_ints _) (by omega) fun v10 h10 o10 f10 e10=>?_
 have lb:bl (.slice (some ⟨b10,0,none⟩) 1 1)=b10∧bh (.slice (some ⟨b10,0,none⟩) 1 1)=b10+1:=⟨rfl,rfl⟩
 rw [lb.1,lb.2] at f10
 clear r10
 have z10:=f10.size
 have f10_z:=f10.size
 replace p0:=p0.F f10
 replace r8:=r8.F f10
 replace r9:=r9.F f10
 have o7t:=o7.top
 replace o7:=o7.fr f10 (by omega)
 rw [← intsV_append] at o10
 obtain ⟨a10,c10,rfl⟩:=o10.is
 have a10_a:=o10.at_
 clear e10
 simp -dsimp only [go_sem,r8.cell,r9.cell]
 intro b11 h11 n11
 have n11_z:=n11.az
 replace p0:=p0.F n11.f0
 replace r8:=r8.F n11.f0
 replace r9:=r9.F n11.f0
 have r11:=n11.row
 replace r11:Rw h11 b11 (intsV [1]):=r11
 replace o7:=o7.fr n11.f0 (by omega)
 have o10t:=o10.top
 replace o10:=o10.fr n11.f0 (by omega)
 simp -dsimp only [go_sem,r8.cell,r9.cell,r11.cell]
 refine (holder_row (s:=1) (n:=1) (lo:=b11) r11 rfl (Nat.le_refl _)).appendRd (hy.fr p0) (by omega) rfl (by omega) (oc_ints _) (by omega) fun v12 h12 o12 f12 e12=>?_
 have lb:bl (.slice (some ⟨b11,0,none⟩) 1 1)=b11∧bh (.slice (some ⟨b11,0,none⟩) 1 1)=b11+1:=⟨rfl,rfl⟩
 rw [lb.1,lb.2] at f12
 clear r11
 have z12:=f12.size
 have f12_z:=f12.size
 replace p0:=p0.F f12
 replace r8:=r8.F f12
 replace r9:=r9.F f12
 have o7t:=o7.top
 replace o7:=o7.fr f12 (by omega)
 replace o10:=o10.fr f12 (by omega)
 rw [← intsV_append] at o12
 obtain ⟨a12,c12,rfl⟩:=o12.is
 have a12_a:=o12.at_
 clear e12
 simp -dsimp only [go_sem,r8.cell,r9.cell]
 intro b13 h13 n13
 have n13_z:=n13.az
 replace p0:=p0.F n13.f0
 replace r8:=r8.F n13.f0
 replace r9:=r9.F n13.f0
 have r13:=n13.row
 try simp -dsimp only [go_sem] at r13
 replace o7:=o7.fr n13.f0 (by omega)
 replace o10:=o10.fr n13.f0 (by omega)
 replace o12:=o12.fr n13.f0 (by omega)
 simp -dsimp only [go_sem,r8.cell,r9.cell,r13.cell]
 refine Chk_intro (r9.W) fun h14 s14=>?_
 have s14_z:=s14.size
 replace p0:=p0.F s14.fr
 replace r8:=r8.F s14.fr
 replace r13:=r13.F s14.fr
 replace r9:=s14.row r9
 try simp only [cl_int,cl_bool,cl_slice,cl_ptr,putAt_one,zs0,zs1,ivec_set,brow_upd] at r9
 try simp -dsimp only [go_sem] at r9
 have z14:=s14.size
 replace o7:=o7.fr s14.fr (by omega)
 replace o10:=o10.fr s14.fr (by omega)
 replace o12:=o12.fr s14.fr (by omega)
 simp -dsimp only [go_sem,r8.cell,r9.cell,r13.cell]
 refine Chk_intro (r8.W) fun h15 s15=>?_
 have s15_z:=s15.size
 replace p0:=p0.F s15.fr
 replace r9:=r9.F s15.fr
 replace r13:=r13.F s15.fr
 replace r8:=s15.row r8
 try simp only [cl_int,cl_bool,cl_slice,cl_ptr,putAt_one,zs0,zs1,ivec_set,brow_upd] at r8
 have z15:=s15.size
 replace o7:=o7.fr s15.fr (by omega)
 replace o10:=o10.fr s15.fr (by omega)
 replace o12:=o12.fr s15.fr (by omega)
 simp -dsimp only [go_sem,r8.cell,r9.cell,r13.cell]
 have hl:(twoG 1 E rf x y).evs.length=2+E.length:=by simp [twoG];omega
 have hx2:(intsV ([0]++x)).length=1+x.length:=by simp;omega
 have hy2:(intsV ([1]++y)).length=1+y.length:=by simp;omega
 refine ⟨p0,⟨a7,fa,some ⟨b13,0,none⟩,none,none,none,none,c7,fc,2,0,0,0,0⟩,by unfold gcells;rw [hl];rfl,fun h16 f16=>?_⟩
 replace o7:=o7.fr f16 (by have:=o7.at_;omega)
 replace o10:=o10.fr f16 (by have:=o10.at_;omega)
 replace o12:=o12.fr f16 (by have:=o12.at_;omega)
 replace r13:=r13.F f16
 obtain ⟨u1,v1,k1,k1'⟩:=o10.room (by omega)
 cases k1
 obtain ⟨u2,v2,k2,k2'⟩:=o12.room (by omega)
 cases k2
 have hrl:RLc h16 (.slice (some ⟨b13,0,none⟩) 2 2) [intsV ([0]++x),intsV ([1]++y)]:=by
  refine ⟨_,Rw.rd (s:=1) r13 rfl,fun i l hi=>?_⟩
  match i,hi with
  | 0,hi =>
   cases hi
   exact ⟨_,_,by rw [hx2];rfl,by rw [hx2];exact k1',by rw [hx2];exact o10.rd⟩
  | 1,hi =>
   cases hi
   exact ⟨_,_,by rw [hy2];rfl,by rw [hy2];exact k2',by rw [hy2];exact o12.rd⟩
  | i+2,hi=>simp at hi
 refine ⟨by rw [hl];exact o7.rd,hf _ ((p0.wide (Nat.zero_le _)).trans f16),rlc_rl hrl,nilP,nilP,nilP,nilP,⟨by rw [hl];omega,by show rf.length≤_;omega,by show 2≤_;omega,by show 0≤_;omega,by show 0≤_;omega,by show 0≤_;omega,by show 0≤_;omega,fun l hl=>?_⟩,by show 2≤2;omega,hrl⟩
 have hl:l=[0]++x∨l=[1]++y:=by simpa [twoG] using hl
 rcases hl with rfl | rfl <;> (simp;omega)
def xmE:List Ev:=[⟨0,2,0,1,1⟩,⟨0,1,1,0,1⟩,⟨1,2,1,1,1⟩,⟨1,1,0,1,1⟩]
def xmG:Gr:=twoG 1 xmE [(1,3),(2,5)] [2] [4]
theorem c_law21_example {h:Heap}:Con Tryd.prog 17 #[] h fun v h'=>Fr 0 0 h h'∧∃ q,v=.agg (gcells q xmG).toArray∧GrAt h' q xmG:=by
 refine con_q45 ?_
 have p0:Fr 0 0 h h:=.refl _ _ _
 simp -dsimp only [go_sem]
 intro b4 h1 n1
 have n1_z:=n1.az
 replace p0:=p0.F n1.f0
 have r4:=n1.row
 simp -dsimp only [go_sem,r4.cell]
 refine call_of (c_law21_ev 0 2 0 1) ?_
 rintro v h2 ⟨f2,rfl⟩
 have f2_z:=f2.size
 replace p0:=p0.F f2
 replace r4:=r4.F f2
 simp -dsimp only [go_sem,r4.cell]
 refine call_of (c_law21_ev 0 1 1 0) ?_
 rintro v h3 ⟨f3,rfl⟩
 have f3_z:=f3.size
 replace p0:=p0.F f3
 replace r4:=r4.F f3
 simp -dsimp only [go_sem,r4.cell]
 refine call_of (c_law21_ev 1 2 1 1) ?_
 rintro v h4 ⟨f4,rfl⟩
 have f4_z:=f4.size
 replace p0:=p0.F f4
 replace r4:=r4.F f4
 simp -dsimp only [go_sem,r4.cell]
 refine call_of (c_law21_ev 1 1 0 1) ?_
 rintro v h5 ⟨f5,rfl⟩
 have f5_z:=f5.size
 replace p0:=p0.F f5
 replace r4:=r4.F f5
 simp -dsimp only [go_sem,r4.cell]
 intro b6 h6 n6
 have n6_z:=n6.az
 replace p0:=p0.F n6.f0
 replace r4:=r4.F n6.f0
 have r6:=n6.row
 simp -dsimp only [go_sem,r4.cell,r6.cell]
 intro b7 h7 n7
 have n7_z:=n7.az
 replace p0:=p0.F n7.f0
 replace r4:=r4.F n7.f0
 replace r6:=r6.F n7.f0
 have r7:=n7.row
 simp -dsimp only [go_sem,r4.cell,r6.cell,r7.cell]
 intro b8 h8 n8
 have n8_z:=n8.az
 replace p0:=p0.F n8.f0
 replace r4:=r4.F n8.f0
 replace r6:=r6.F n8.f0
 replace r7:=r7.F n8.f0
 have r8:=n8.row
 simp -dsimp only [go_sem,r4.cell,r6.cell,r7.cell,r8.cell]
 intro b9 h9 n9
 have n9_z:=n9.az
 replace p0:=p0.F n9.f0
 replace r4:=r4.F n9.f0
 replace r6:=r6.F n9.f0
 replace r7:=r7.F n9.f0
 replace r8:=r8.F n9.f0
 have r9:=n9.row
 simp -dsimp only [go_sem,r4.cell,r6.cell,r7.cell,r8.cell,r9.cell]
 refine call_of (c_law21_two (E:=xmE) (rf:=[(1,3),(2,5)]) (x:=[2]) (y:=[4]) (lo:=b4+1) (by omega) (Rw.rd (s:=5) (n:=4) (c:=4) r6 rfl) (fun h' f=>Rw.rd (s:=2) (n:=2) (c:=2) (r7.fr f (by omega)) rfl) (Rw.rd (s:=1) (n:=1) (c:=1) r8 rfl) (Rw.rd (s:=1) (n:=1) (c:=1) r9 rfl) (Nat.le_of_ble_eq_true rfl) (by simp) (by simp) (by simp)) ?_
 rintro v h10 ⟨f10,q,rfl,t⟩
 have f10_z:=f10.size
 replace p0:=p0.F f10
 replace r4:=r4.F f10
 replace r6:=r6.F f10
 replace r7:=r7.F f10
 replace r8:=r8.F f10
 replace r9:=r9.F f10
 unfold gcells
 simp -dsimp only [go_sem,r4.cell,r6.cell,r7.cell,r8.cell,r9.cell]
 refine Chk_intro (r4.W) fun h11 s11=>?_
 have s11_z:=s11.size
 replace p0:=p0.F s11.fr
 replace r6:=r6.F s11.fr
 replace r7:=r7.F s11.fr
 replace r8:=r8.F s11.fr
 replace r9:=r9.F s11.fr
 replace r4:=s11.row r4
 try simp only [cl_int,cl_bool,cl_slice,cl_ptr,putAt_one,zs0,zs1,ivec_set,brow_upd] at r4
 have t:=t _ (s11.fr.wide (Nat.le_refl _))
 simp -dsimp only [go_sem,r4.cell,r6.cell,r7.cell,r8.cell,r9.cell]
 exact ⟨p0,q,rfl,t⟩
end Go.Proofs.Tst
/-
  total: Order, Picks, Replay.
-/
namespace Go.Proofs.Tst
open Go Go.Vc
def ordA (g:Gr):Except Int (List Nat):=if g.good=true then (if (scAx g).1=0 then glueS g.n (allM g) g.rmw else .error 3) else .error 4
theorem ResL.lower {h:Heap} {lo lo':Nat} {v:Value} {o:Except Int (List Nat)} (w:ResL h lo v o) (hl:lo'≤lo):ResL h lo' v o:=by
 unfold ResL at *
 cases o with
 | ok l=>obtain ⟨s,e,w⟩:=w;exact ⟨s,e,w.lower hl⟩
 | error e=>exact w
theorem ResL.is {h:Heap} {lo:Nat} {v:Value} {o:Except Int (List Nat)} (w:ResL h lo v o):∃ s e,v=.tuple #[s,.int .i64 e]:=by
 unfold ResL at w
 cases o with
 | ok l=>obtain ⟨s,e,w⟩:=w;exact ⟨_,_,e⟩
 | error e=>exact ⟨_,_,w⟩
section
variable {h : Heap} {q : GV} {g : Gr}
set_option maxHeartbeats 2000000 in
theorem total_Order (t:GrAt h q g) (ht:TabAt h) :
  Con Tryd.prog 23 #[.agg (gcells q g).toArray] h fun v h'=>Fr 0 0 h h'∧ResL h' h.size v (ordA g):=by
 refine con_q158 ?_
 have p0:Fr 0 0 h h:=.refl _ _ _
 have br:=t.fits.r
 unfold gcells ordA
 simp -dsimp only [go_sem]
 intro b1 h1 n1
 have n1_z:=n1.az
 replace p0:=p0.F n1.f0
 have r1:=n1.row
 simp -dsimp only [go_sem,r1.cell]
 refine call_of (seq_Sc (t.fr p0) (ht.fr p0 (.inr rfl))) ?_
 rintro v2 h2 ⟨f2,w⟩
 have f2_z:=f2.size
 replace p0:=p0.F f2
 replace r1:=r1.F f2
 by_cases hg:g.good=true
 rotate_left
 ·rw [if_neg hg] at w ⊢
  subst w
  simp -dsimp only [go_sem,r1.cell]
  exact ⟨p0,rfl⟩
 rw [if_pos hg] at w ⊢
 obtain ⟨w,rfl,o⟩:=w
 clear o
 by_cases h0:(scAx g).1=0
 rotate_left
 ·rw [if_neg h0]
  simp -dsimp only [go_sem,bne_f h0,r1.cell]
  exact ⟨p0,rfl⟩
 rw [if_pos h0]
 simp -dsimp only [go_sem,bne_t h0,r1.cell]
 refine call_of (graph_Derive (t.fr p0) (ht.fr p0 (.inr rfl))) ?_
 rintro v3 h3 ⟨f3,w⟩
 have f3_z:=f3.size
 replace p0:=p0.F f3
 replace r1:=r1.F f3
 rw [if_pos hg] at w
 obtain ⟨p,rd,wr,fe,rfl,F⟩:=w
 obtain ⟨c,ra,wa,fa,rn,wn,fn,e,m⟩:=Sm.of (t.fr p0) hg F
 clear F
 rw [e]
 clear e
 have p3:Fr 0 0 h3 h3:=.refl _ _ _
 simp -dsimp only [go_sem,r1.cell]
 intro b4 h4 n4
 have n4_z:=n4.az
 replace p0:=p0.F n4.f0
 replace r1:=r1.F n4.f0
 replace p3:=p3.F n4.f0
 have r4:=n4.row
 simp -dsimp only [go_sem,r1.cell,r4.cell]
 refine Chk_intro (r4.W) fun h5 s5=>?_
 have s5_z:=s5.size
 replace p0:=p0.F s5.fr
 replace r1:=r1.F s5.fr
 replace p3:=p3.F s5.fr
 replace r4:=s5.row r4
 try simp only [cl_int,cl_bool,cl_slice,cl_ptr,putAt_one,zs0,zs1,ivec_set,brow_upd] at r4
 try simp -dsimp only [go_sem] at r4
 simp -dsimp only [go_sem,r1.cell,r4.cell]
 intro b6 h6 n6
 have n6_z:=n6.az
 replace p0:=p0.F n6.f0
 replace r1:=r1.F n6.f0
 replace p3:=p3.F n6.f0
 replace r4:=r4.F n6.f0
 have r6:=n6.row
 simp -dsimp only [go_sem,r1.cell,r4.cell,r6.cell]
 replace m:=m.fr p3
 refine call_of (rel_UnionU (UA.mk' [(.pointer (some ⟨c 0,0,none⟩),relM g 0),(.pointer (some ⟨c 1,0,none⟩),relM g 1),(.pointer (some ⟨c 2,0,none⟩),relM g 2),(.pointer (some ⟨c 9,0,none⟩),relM g 9)] r6 (pa_cons (m.rel 0 (by decide)) (pa_cons (m.rel 1 (by decide)) (pa_cons (m.rel 2 (by decide)) (pa_cons (m.rel 9 (by decide)) pa_nil)))) (by simp) (by simp))) ?_
 rintro v7 h7 ⟨f7,t7⟩
 have f7_z:=f7.size
 replace p0:=p0.F f7
 replace r1:=r1.F f7
 replace p3:=p3.F f7
 replace r4:=r4.F f7
 replace r6:=r6.F f7
 have t7:=t7.congr (M':=allM g) fun i j _ _=>by simp [orM,allM,Bool.or_assoc]
 simp -dsimp only [go_sem,r1.cell,r4.cell,r6.cell]
 refine call_of (order_Glue t7 (ht.fr p0 (.inr rfl)) (t.r.fr p0) (by omega)) ?_
 rintro v8 h8 ⟨f8,o8⟩
 have f8_z:=f8.size
 replace p0:=p0.F f8
 replace r1:=r1.F f8
 replace p3:=p3.F f8
 replace r4:=r4.F f8
 replace r6:=r6.F f8
 obtain ⟨s8,e8,rfl⟩:=o8.is
 simp -dsimp only [go_sem,r1.cell,r4.cell,r6.cell]
 exact ⟨p0,o8.lower (by omega)⟩
def pickA (g:Gr) (l:List Int):Except Int (List Int):=if g.good=true then (if LinP g.n (relM g 0) l then .ok (picksL g (natsOf l)) else .error 3) else .error 4
def ResI (h:Heap) (lo:Nat) (v:Value) (o:Except Int (List Int)):Prop:=
 match o with
 | .ok l=>∃ s,v=.tuple #[s,.int .i64 0]∧Holder 1 h s l.length (intsV l) lo
 | .error e=>v=.tuple #[.slice none 0 0,.int .i64 e]
structure LinF (g:Gr) (l:List Int):Prop where
 len:l.length=g.n
 at_:∀ i,i<l.length→∃ x:Nat,l[i]?=some (x:Int)∧(natsOf l)[i]?=some x∧x<g.n
theorem LinF.of {g:Gr} {M:Mx} {l:List Int} (hl:LinP g.n M l):LinF g l:=by
 obtain ⟨e,hp,hlen⟩:=lin_pre.1 hl
 have h1:(natsOf l).length=l.length:=by simp [natsOf]
 refine ⟨by omega,fun i hi=>?_⟩
 have h2:(natsOf l)[i]?=some (natsOf l)[i]:=List.getElem?_eq_getElem (by omega)
 refine ⟨(natsOf l)[i],?_,h2,hp.2.1 _ (List.getElem_mem _)⟩
 have h3:((natsOf l).map fun (p:Nat)=>(p:Int))[i]?=some ((natsOf l)[i]:Int):=by rw [List.getElem?_map,h2];rfl
 rw [e] at h3;exact h3
theorem picks_step {g:Gr} {m:List Nat} {i x:Nat} (h:m[i]?=some x):picksL g (m.take (i+1))=picksL g (m.take i)++(if 0≤(g.ev x).thread then [(g.ev x).thread] else []):=by
 rw [List.take_add_one,h];exact picksL_snoc _ _
theorem picks_len {g:Gr} {m:List Nat}:(picksL g m).length≤m.length:=by
 unfold picksL;exact Nat.le_trans (List.length_filter_le _ _) (by simp)
theorem picks_len' {g:Gr} {m:List Nat} {i:Nat}:(picksL g (m.take i)).length≤i:=Nat.le_trans picks_len (by simp;omega)
set_option maxHeartbeats 2000000 in
theorem total_Picks (t:GrAt h q g) (ht:TabAt h) {la:Option Addr} {lc:Nat} {l:List Int} (hl:Rd 1 h (.slice la l.length lc) l.length (intsV l)) (hb:l.length≤4611686018427387904) :
  Con Tryd.prog 28 #[.agg (gcells q g).toArray,.slice la l.length lc] h fun v h'=>Fr 0 0 h h'∧ResI h' h.size v (pickA g l):=by
 refine con_q159 ?_
 have p0:Fr 0 0 h h:=.refl _ _ _
 unfold gcells pickA
 simp -dsimp only [go_sem]
 intro b2 h1 n1
 have n1_z:=n1.az
 replace p0:=p0.F n1.f0
 have r2:=n1.row
 simp -dsimp only [go_sem,r2.cell]
 refine call_of (graph_Derive (t.fr p0) (ht.fr p0 (.inr rfl))) ?_
 rintro v3 h3 ⟨f3,w⟩
 have f3_z:=f3.size
 replace p0:=p0.F f3
 replace r2:=r2.F f3
 by_cases hg:g.good=true
 rotate_left
 ·rw [if_neg hg] at w ⊢
  subst w
  unfold fzero
  simp -dsimp only [go_sem,r2.cell]
  intro b4 h4 n4
  have n4_a:=n4.at_
  have n4_z:=n4.size
  replace p0:=p0.F n4.f0
  replace r2:=r2.F n4.f0
  have r4:=n4.row
  simp -dsimp only [go_sem,r2.cell,r4.cell]
  refine Chk_intro (r4.W) fun h5 s5=>?_
  have s5_z:=s5.size
  replace p0:=p0.F s5.fr
  replace r2:=r2.F s5.fr
  replace r4:=s5.row r4
  try simp only [cl_int,cl_bool,cl_slice,cl_ptr,putAt_one,zs0,zs1,ivec_set,brow_upd] at r4
  simp -dsimp only [go_sem,r2.cell,r4.cell]
  exact ⟨p0,rfl⟩
 rw [if_pos hg] at w ⊢
 have hn:=(good_n hg).1
 obtain ⟨p,rd,wr,fe,rfl,F⟩:=w
 obtain ⟨c,ra,wa,fa,rn,wn,fn,e,m⟩:=Sm.of (t.fr p0) hg F
 clear F
 rw [e]
 clear e
 have p3:Fr 0 0 h3 h3:=.refl _ _ _
 simp -dsimp only [go_sem,r2.cell]
 intro b4 h4 n4
 have n4_a:=n4.at_
 have n4_z:=n4.size
 replace p0:=p0.F n4.f0
 replace r2:=r2.F n4.f0
 replace p3:=p3.F n4.f0
 have r4:=n4.row
 simp -dsimp only [go_sem,r2.cell,r4.cell]
 refine Chk_intro (r4.W) fun h5 s5=>?_
 have s5_z:=s5.size
 replace p0:=p0.F s5.fr
 replace r2:=r2.F s5.fr
 replace p3:=p3.F s5.fr
 replace r4:=s5.row r4
 try simp only [cl_int,cl_bool,cl_slice,cl_ptr,putAt_one,zs0,zs1,ivec_set,brow_upd] at r4
 try simp -dsimp only [go_sem] at r4
 simp -dsimp only [go_sem,r2.cell,r4.cell]
 obtain ⟨_,_,ta⟩:=(m.fr p3).rel 0 (by decide)
 refine call_of (order_Linear ta (ht.fr p0 (.inr rfl)) (hl.fr p0) hb) ?_
 rintro v6 h6 ⟨f6,rfl⟩
 have f6_z:=f6.size
 replace p0:=p0.F f6
 replace r2:=r2.F f6
 replace p3:=p3.F f6
 replace r4:=r4.F f6
 by_cases hlin:LinP g.n (relM g 0) l
 rotate_left
 ·rw [if_neg hlin,decide_eq_false hlin]
  simp -dsimp only [go_sem,r2.cell,r4.cell]
  exact ⟨p0,rfl⟩
 rw [if_pos hlin,decide_eq_true hlin]
 have L:=LinF.of hlin
 have Ll:=L.len
 have gb:h.size≤h6.size∧b2<h6.size:=by omega
 clear r4 m
 simp -dsimp only [go_sem,r2.cell]
 refine loop_intro (fun s:Nat×Value=>[(2,.pointer (some ⟨b2,0,none⟩)),(8,s.2),(25,.slice la l.length lc),(26,.int .i64 l.length),(27,.int .i64 s.1)])
  (fun s h'=>s.1≤l.length∧Fr 0 0 h h'∧Rw h' b2 (gcells q g)∧h6.size≤h'.size∧Holder 1 h' s.2 (picksL g ((natsOf l).take s.1)).length (intsV (picksL g ((natsOf l).take s.1))) h6.size) (fun s=>l.length - s.1) (0,.slice none 0 0) ?_ ?_ ?_
 ·simp [Le,find]
 ·exact ⟨by omega,p0,r2,by omega,.none _ _ _⟩
 clear p0 r2 p3
 rintro ⟨i,sv⟩ h7 ⟨hi,p0,r2,z7,o⟩
 dsimp only at hi o ⊢
 obtain ⟨oa,oc,rfl⟩:=o.is
 unfold gcells at r2
 have p0_z:=p0.size
 have r2_l:=r2.lt
 have o_l:=o.top
 by_cases hlt:i<l.length
 ·have e1:((i:Int)<(l.length:Int)):=by omega
  obtain ⟨x,k1,k2,hx⟩:=L.at_ i hlt
  have hps:=picks_step (g:=g) k2
  have hpl:=picks_len' (g:=g) (m:=natsOf l) (i:=i)
  obtain ⟨eb,eo,he,hev⟩:=t.evs (by omega)
  obtain ⟨c0,c1,c2,c3,c4⟩:=hev h7 p0 x hx
  simp -dsimp only [go_sem,e1,r2.cell]
  refine (hl.fr p0).idx (by omega) fun lb lo hlc=>?_
  have k3:=hlc i _ (intsV_get k1)
  have e2:((x:Int)<(g.evs.length:Int)):=by show (x:Int)<(g.n:Int);omega
  simp -dsimp only [go_sem,k3,he,e2,c0,r2.cell]
  by_cases hth:(g.ev x).thread≥0
  ·rw [if_pos hth] at hps
   simp -dsimp only [go_sem,hth,r2.cell]
   intro b8 h8 n8
   have n8_z:=n8.az
   replace p0:=p0.F n8.f0
   replace r2:=r2.F n8.f0
   replace o:=o.fr n8.f0 (by have:=o.at_;omega)
   have r8:=n8.row
   simp -dsimp only [go_sem,r2.cell,r8.cell]
   refine o.append (by omega) rfl (by omega) (by simp) (by omega) fun v9 h9 o_new f9 e_app=>?_
   have f9_z:=f9.size
   have o_at:=o.at_
   replace p0:=p0.F f9
   replace r2:=r2.F f9
   replace r8:=r8.F f9
   clear o_at e_app
   replace o:=o_new
   have o_l:=o.top
   simp -dsimp only [go_sem,r2.cell,r8.cell]
   simp -dsimp (disch:=omega) only [wrap64]
   refine ⟨(i+1,v9),by dsimp only;omega,by simp [Le,find],by omega,p0,r2,by omega,?_⟩
   dsimp only
   rw [hps,intsV_append,List.length_append]
   exact o
  ·rw [if_neg hth,List.append_nil] at hps
   simp -dsimp only [go_sem,hth,r2.cell]
   simp -dsimp (disch:=omega) only [wrap64]
   refine ⟨(i+1,.slice oa (picksL g ((natsOf l).take i)).length oc),by dsimp only;omega,by simp [Le,find],by omega,p0,r2,by omega,?_⟩
   dsimp only
   rw [hps];exact o
 ·obtain rfl:i=l.length:=by omega
  have hal:(natsOf l).take l.length=natsOf l:=List.take_of_length_le (by simp [natsOf])
  simp -dsimp only [go_sem,Int.lt_irrefl,r2.cell]
  refine ⟨p0,_,rfl,?_⟩
  have o':=o.lower (lo':=h.size) (by omega)
  rw [hal] at o' ⊢;exact o'
end
end Go.Proofs.Tst
