/-
  Contracts of functions that the law reaches: what each returns and what it leaves in memory. Conditions stand in each.
-/
import Derived.Test.YtmcghihgeibgpaaDoorT11
set_option linter.all false
set_option maxRecDepth 2000
/-
  What ARMv8 allows of a mapped graph, RC11 allows (plain).
-/
namespace Go.Proofs.Tst
open Go Go.Vc
theorem po_of {g:Gr} {i j:Nat} (ht:Th g i j) (h0:0≤(g.ev i).thread) (hij:i<j) (hj:j<g.n):relM g 0 i j=true:=by
 show g.before (i:Int) (j:Int)=true
 unfold Gr.before
 simp only [Bool.and_eq_true,decide_eq_true_eq,beq_iff_eq,Int.toNat_natCast]
 exact ⟨⟨⟨⟨by omega,by omega⟩,by omega⟩,h0⟩,ht⟩
theorem po_tr' {g:Gr} {i j k:Nat} (h1:relM g 0 i j=true) (h2:relM g 0 j k=true):relM g 0 i k=true:=by
 obtain ⟨a1,a2,a3,a4⟩:=po_th h1
 obtain ⟨b1,b2,b3,b4⟩:=po_th h2
 exact po_of (a1.trans b1) a2 (by omega) b4
theorem po_ne {g:Gr} {i:Nat} (h:relM g 0 i i=true):False:=by
 obtain ⟨-,-,h1,-⟩:=po_th h;omega
theorem com_in {g:Gr} (hg:g.good=true) {i j:Nat} (hi:i<g.n) (hj:j<g.n) (h:comM g i j=true):(g.ev i).loc=(g.ev j).loc∧0≤(g.ev j).loc∧0≤(g.ev j).thread∧(g.ev i).kind≠3∧(g.ev j).kind≠3:=by
 unfold comM at h
 simp only [Bool.or_eq_true] at h
 rcases h with (h | h) | h
 ·obtain ⟨k1,k2,k3,k4,k5,-⟩:=rf_in hg h;omega
 ·obtain ⟨k1,k2,k3,k4,k5,-⟩:=co_in hg h;omega
 ·obtain ⟨u,hu,h1,h2⟩:=(fr_in hi hj).1 h
  obtain ⟨k1,k2,k3,k4,k5,-⟩:=rf_in hg h1
  obtain ⟨l1,l2,l3,l4,l5,-⟩:=co_in hg h2
  omega
theorem com_inM {g:Gr} {i j:Nat} (h:comM g i j=true):inM g i j=true:=by
 unfold inM;unfold comM at h
 simp only [Bool.or_eq_true] at h
 rcases h with (h | h) | h <;> simp [h]
theorem com_po {g:Gr} (hg:g.good=true) (hn:cycS g.n (inM g)=[]) {i j:Nat} (hi:i<g.n) (hj:j<g.n) (h:comM g i j=true) (ht:Th g i j):relM g 0 i j=true:=by
 obtain ⟨l1,l2,l3,-⟩:=com_in hg hi hj h
 have e1:=com_inM h
 have irr:∀ k,k<g.n→plusM g.n (inM g) k k=true→False:=fun k hk hp=>by rw [cycS_nil hn k hk] at hp;cases hp
 have ht':(g.ev i).thread=(g.ev j).thread:=ht
 rcases Nat.lt_trichotomy i j with c | c | c
 ·exact po_of ht (by omega) c hj
 ·subst c;exact (irr i hi (plus_sub e1)).elim
 ·have e2:inM g j i=true:=by unfold inM;rw [po_of ht.symm l3 c hi,same_true l2 l1.symm];rfl
  exact (irr i hi (plus_trans hj (plus_sub e1) (plus_sub e2))).elim
theorem co_tr {g:Gr} (hg:g.good=true) {i j k:Nat} (h1:relM g 2 i j=true) (h2:relM g 2 j k=true):relM g 2 i k=true:=by
 obtain ⟨a1,a2,a3,a4,a5,a6,a7⟩:=co_in hg h1
 obtain ⟨b1,b2,b3,b4,b5,b6,b7⟩:=co_in hg h2
 have r1:=co_rank hg (ofM_mem' (L:=coPairs g) h1)
 have r2:=co_rank hg (ofM_mem' (L:=coPairs g) h2)
 have hne:i≠k:=by rintro rfl;omega
 have ht:=co_total hg a6 b7 hne a2 b3 (by omega)
 show ofM g.n (coPairs g) i k=true
 cases e:ofM g.n (coPairs g) i k
 ·rw [e] at ht
  cases e2:ofM g.n (coPairs g) k i
  ·rw [e2] at ht;cases ht
  ·have:=co_rank hg (ofM_mem' (L:=coPairs g) e2);omega
 ·rfl
theorem rf_one {g:Gr} (hc:(g.check false).1=0) {u v r:Nat} (h1:relM g 1 u r=true) (h2:relM g 1 v r=true):u=v:=by
 obtain ⟨-,-,-,h4,-⟩:=check_iff.1 hc
 have hs:=(rf_iff.1 h4).1
 have hp:g.rf.Pairwise fun p q=>p.2<q.2:=by
  have:=reads_sorted (g:=g)
  rw [← hs,List.pairwise_map] at this;exact this
 have:=keys_uniq hp _ (ofM_mem' (L:=g.rf) h1) _ (ofM_mem' (L:=g.rf) h2) rfl
 simp only [Prod.mk.injEq] at this
 omega
def xM (g:Gr) (i j:Nat):Prop:=relM g 2 i j=true∨relM g 9 i j=true
section
variable {g : Gr}
theorem x_com {i j:Nat} (h:xM g i j):comM g i j=true:=by
 unfold comM
 rcases h with h | h <;> rw [h] <;> simp
theorem rf_com {i j:Nat} (h:relM g 1 i j=true):comM g i j=true:=by unfold comM;rw [h];rfl
theorem x_wr (hg:g.good=true) {i j:Nat} (hi:i<g.n) (hj:j<g.n) (h:xM g i j):(g.ev j).kind=2:=by
 rcases h with h | h
 ·exact (co_in hg h).2.2.1
 ·obtain ⟨u,-,-,h2⟩:=(fr_in hi hj).1 h
  exact (co_in hg h2).2.2.1
theorem x_co (hg:g.good=true) {i j k:Nat} (hi:i<g.n) (hj:j<g.n) (h:xM g i j) (h2:relM g 2 j k=true):xM g i k:=by
 rcases h with h | h
 ·exact .inl (co_tr hg h h2)
 ·obtain ⟨u,hu,h3,h4⟩:=(fr_in hi hj).1 h
  have:=(co_in hg h2).2.2.2.2.2.2
  exact .inr ((fr_in hi this).2 ⟨u,hu,h3,co_tr hg h4 h2⟩)
theorem rf_x (hc:(g.check false).1=0) (hg:g.good=true) {i x j:Nat} (hx:x<g.n) (hj:j<g.n) (h1:relM g 1 i x=true) (h2:xM g x j):relM g 2 i j=true:=by
 rcases h2 with h2 | h2
 ·have a:=(co_in hg h2).2.1
  have b:=(rf_in hg h1).2.1
  omega
 ·obtain ⟨u,hu,h3,h4⟩:=(fr_in hx hj).1 h2
  rw [rf_one hc h1 h3];exact h4
theorem x_x (hg:g.good=true) {i x j:Nat} (hi:i<g.n) (hx:x<g.n) (hj:j<g.n) (h1:xM g i x) (h2:xM g x j):xM g i j:=by
 have k:=x_wr hg hi hx h1
 rcases h2 with h2 | h2
 ·exact x_co hg hi hx h1 h2
 ·obtain ⟨u,hu,h3,h4⟩:=(fr_in hx hj).1 h2
  have:=(rf_in hg h3).2.1
  omega
theorem eco_is (hc:(g.check false).1=0) (hg:g.good=true) {b a:Nat} (hb:b<g.n) (ha:a<g.n) (h:ecoM g b a=true):relM g 1 b a=true∨xM g b a∨∃ c,c<g.n∧xM g b c∧relM g 1 c a=true:=by
 refine plus_least (N:=fun b a=>relM g 1 b a=true∨xM g b a∨∃ c,c<g.n∧xM g b c∧relM g 1 c a=true) (fun i j hi hj hm=>?_) (fun i x j hi hx hj h1 h2=>?_) hb ha h
 ·unfold comM at hm
  simp only [Bool.or_eq_true] at hm
  rcases hm with (hm | hm) | hm
  ·exact .inl hm
  ·exact .inr (.inl (.inl hm))
  ·exact .inr (.inl (.inr hm))
 ·have rr:∀ {a x b},relM g 1 a x=true→relM g 1 x b=true→False:=fun h1 h2=>by
   have a:=(rf_in hg h1).2.1
   have b:=(rf_in hg h2).1
   omega
  rcases h1 with h1 | h1 | ⟨c,hc',h1,h1'⟩
  ·rcases h2 with h2 | h2 | ⟨d,hd,h2,h2'⟩
   ·exact (rr h1 h2).elim
   ·exact .inr (.inl (.inl (rf_x hc hg hx hj h1 h2)))
   ·exact .inr (.inr ⟨d,hd,.inl (rf_x hc hg hx hd h1 h2),h2'⟩)
  ·rcases h2 with h2 | h2 | ⟨d,hd,h2,h2'⟩
   ·exact .inr (.inr ⟨x,hx,h1,h2⟩)
   ·exact .inr (.inl (x_x hg hi hx hj h1 h2))
   ·exact .inr (.inr ⟨d,hd,x_x hg hi hx hd h1 h2,h2'⟩)
  ·rcases h2 with h2 | h2 | ⟨d,hd,h2,h2'⟩
   ·exact (rr h1' h2).elim
   ·exact .inr (.inl (x_co hg hi hc' h1 (rf_x hc hg hx hj h1' h2)))
   ·exact .inr (.inr ⟨d,hd,x_co hg hi hc' h1 (rf_x hc hg hx hd h1' h2),h2'⟩)
theorem rmw_in (hg:g.good=true) {r w:Nat} (h:relM g 3 r w=true):PairOk g r w:=by
 obtain ⟨a,b,e,P⟩:=pair_ok hg (ofM_mem' (L:=g.rmw) h)
 simp only [Prod.mk.injEq] at e
 obtain rfl:r=a:=by omega
 obtain rfl:w=b:=by omega
 exact P
theorem kind3 (hc:(g.check false).1=0) {i:Nat} (hi:i<g.n):(g.ev i).kind=1∨(g.ev i).kind=2∨(g.ev i).kind=3:=by
 rcases src_thread hc hi with ⟨-,h,-⟩ | ⟨-,hl⟩
 ·exact .inr (.inl h)
 ·obtain ⟨hs,h2,h3,-⟩:=check_zero hc
  simp only [Gr.size,Bool.and_eq_true,decide_eq_true_eq] at hs
  have:=firstEv_neg _ _ h3 i (by omega) (by omega)
  simp only [Bool.not_eq_false'] at this
  unfold Gr.evOk at this
  simp only [Bool.and_eq_true,decide_eq_true_eq] at this
  exact modeOk_kind this.1.2
theorem same_loc {i j:Nat} (h:relM g 4 i j=true):(g.ev i).loc=(g.ev j).loc:=by
 have h:g.sameM i j=true:=h
 unfold Gr.sameM at h
 simp only [Bool.and_eq_true,beq_iff_eq] at h
 exact h.2
theorem acyc_of {M:Nat→Nat→Bool} {N:Nat→Nat→Prop} (h:∀ i j,i<g.n→j<g.n→M i j=true→N i j) (ht:∀ {i j k},N i j→N j k→N i k) (hi:∀ i,¬ N i i):cycS g.n M=[]:=by
 rw [cyc_acyc]
 unfold irrB
 rw [List.all_eq_true]
 intro i hi'
 have hl:=List.mem_range.1 hi'
 cases hp:plusM g.n M i i
 ·rfl
 ·exact (hi i (plus_least (N:=N) h (fun _ _ _ _ _ _ h1 h2=>ht h1 h2) hl hl hp)).elim
end
structure ArmOrd (g:Gr) (O:Nat→Nat→Prop):Prop where
 chk:(g.check false).1=0
 cin:cycS g.n (inM g)=[]
 tr:∀ {i j k:Nat},O i j→O j k→O i k
 ir:∀ {i:Nat},¬ O i i
 ext:∀ {i j:Nat},i<g.n→j<g.n→comM g i j=true→¬ Th g i j→O i j
 rdw:∀ {i j:Nat},relM g 0 i j=true→(g.ev i).kind=1→(g.ev j).kind=2→O i j
 acq:∀ {i j:Nat},relM g 0 i j=true→(g.ev i).kind=1→(g.ev i).mode≠1→O i j
 rel:∀ {i j:Nat},relM g 0 i j=true→(g.ev j).kind=2→(g.ev j).mode≠1→O i j
 rco:∀ {i k j:Nat},relM g 0 i k=true→(g.ev k).kind=2→(g.ev k).mode≠1→relM g 2 k j=true→Th g k j→O i j
 sy:∀ {i k j:Nat},relM g 0 i k=true→(g.ev k).kind=3→(g.ev k).mode≠2→relM g 0 k j=true→O i j
 ld:∀ {i k j:Nat},relM g 0 i k=true→(g.ev i).kind=1→(g.ev k).kind=3→relM g 0 k j=true→O i j
 la:∀ {i j:Nat},relM g 0 i j=true→(g.ev i).kind=2→(g.ev i).mode≠1→(g.ev j).kind=1→(g.ev j).mode=5→O i j
 aob:∀ {r i j:Nat},relM g 3 r i=true→relM g 1 i j=true→Th g i j→(g.ev j).mode≠1→O i j
 at_:∀ {r w k:Nat},((r:Int),(w:Int))∈g.rmw→r<g.n→w<g.n→k<g.n→relM g 9 r k=true→¬ Th g r k→relM g 2 k w=true→¬ Th g k w→False
def aHd (g:Gr) (O:Nat→Nat→Prop) (i z:Nat):Prop:=z<g.n∧(g.ev z).kind=2∧(i=z∨relM g 0 i z=true)∧(∀ x,relM g 0 x i=true→O x z)∧((g.ev i).kind≠3→i=z∨(relM g 2 i z=true∧Th g i z)∨O i z)
def aTl (g:Gr) (O:Nat→Nat→Prop) (z j:Nat):Prop:=(∀ y,relM g 0 j y=true→O z y)∧((g.ev j).kind≠3→O z j)
def aHb (g:Gr) (O:Nat→Nat→Prop) (i j:Nat):Prop:=relM g 0 i j=true∨∃ z,aHd g O i z∧aTl g O z j
def aSt (g:Gr) (i m:Nat):Prop:=m<g.n∧(g.ev m).kind=2∧(((g.ev i).kind=3∧(g.ev i).mode≠2∧relM g 0 i m=true)∨((g.ev i).kind=2∧(g.ev i).mode≠1∧(i=m∨(relM g 2 i m=true∧Th g i m))))
def aMd (g:Gr) (O:Nat→Nat→Prop) (i w:Nat):Prop:=∃ z r,aSt g i z∧O z r∧(g.ev r).kind=1∧relM g 0 r w=true∧(g.ev w).kind=2∧∃ q,relM g 3 q w=true
namespace ArmOrd
variable {g : Gr} {O : Nat → Nat → Prop}
theorem good (A:ArmOrd g O):g.good=true:=good_false A.chk
theorem cpo (A:ArmOrd g O) {i j:Nat} (hi:i<g.n) (hj:j<g.n) (h:comM g i j=true) (ht:Th g i j):relM g 0 i j=true:=com_po A.good A.cin hi hj h ht
theorem cop (A:ArmOrd g O) {i j:Nat} (h:relM g 2 i j=true) (ht:Th g i j):relM g 0 i j=true:=
 A.cpo (co_in A.good h).2.2.2.2.2.1 (co_in A.good h).2.2.2.2.2.2 (x_com (.inl h)) ht
theorem wrc (A:ArmOrd g O) {a m:Nat} (p:relM g 0 a m=true) (ka:(g.ev a).kind=2) (km:(g.ev m).kind=2) (hl:(g.ev a).loc=(g.ev m).loc):relM g 2 a m=true:=by
 obtain ⟨t1,t2,t3,t4⟩:=po_th p
 have ht:=co_total A.good (show a<g.n by omega) t4 (by omega) ka km hl
 show ofM g.n (coPairs g) a m=true
 cases e:ofM g.n (coPairs g) a m
 ·rw [e] at ht
  cases e2:ofM g.n (coPairs g) m a
  ·rw [e2] at ht;cases ht
  ·obtain ⟨-,-,t5,-⟩:=po_th (A.cop (show relM g 2 m a=true from e2) t1.symm)
   omega
 ·rfl
theorem st_hd (A:ArmOrd g O) {i m:Nat} (s:aSt g i m):aHd g O i m:=by
 obtain ⟨hm,km,⟨k3,md,p⟩ | ⟨k2,md,e | ⟨c,t⟩⟩⟩:=s
 ·exact ⟨hm,km,.inr p,fun x hx=>A.sy hx k3 md p,fun h=>absurd k3 h⟩
 ·subst e
  exact ⟨hm,km,.inl rfl,fun x hx=>A.rel hx k2 md,fun _=>.inl rfl⟩
 ·exact ⟨hm,km,.inr (A.cop c t),fun x hx=>A.rco hx k2 md c t,fun _=>.inr (.inl ⟨c,t⟩)⟩
theorem rr_st (A:ArmOrd g O) {i m w:Nat} (hm:m<g.n) (h:rrM g m w=true) (s:aSt g i m):aSt g i w∨aMd g O i w:=by
 unfold rrM at h
 obtain ⟨r,hr,h⟩:=exB_true.1 h
 rw [Bool.and_eq_true] at h
 obtain ⟨h1,h2⟩:=h
 have P:=rmw_in A.good h2
 have F:=rf_in A.good h1
 by_cases t:Th g m r
 ·left
  have p:=po_tr' (A.cpo hm hr (rf_com h1) t) P.po
  have c0:=A.wrc p F.1 P.kb (F.2.2.1.trans P.loc)
  have t0:=(po_th p).1
  refine ⟨P.lb,P.kb,?_⟩
  obtain ⟨-,km,⟨k3,md,p'⟩ | ⟨k2,md,e | ⟨c,t'⟩⟩⟩:=s
  ·exact .inl ⟨k3,md,po_tr' p' p⟩
  ·subst e;exact .inr ⟨k2,md,.inr ⟨c0,t0⟩⟩
  ·exact .inr ⟨k2,md,.inr ⟨co_tr A.good c c0,t'.trans t0⟩⟩
 ·exact .inr ⟨m,r,s,A.ext hm hr (rf_com h1) t,P.ka,P.po,P.kb,r,h2⟩
theorem rr_md (A:ArmOrd g O) {i m w:Nat} (hm:m<g.n) (h:rrM g m w=true) (s:aMd g O i m):aMd g O i w:=by
 unfold rrM at h
 obtain ⟨r,hr,h⟩:=exB_true.1 h
 rw [Bool.and_eq_true] at h
 obtain ⟨h1,h2⟩:=h
 have P:=rmw_in A.good h2
 obtain ⟨z,r0,s0,o,k,p,km,-⟩:=s
 by_cases t:Th g m r
 ·exact ⟨z,r0,s0,o,k,po_tr' p (po_tr' (A.cpo hm hr (rf_com h1) t) P.po),P.kb,r,h2⟩
 ·exact ⟨z,r,s0,A.tr o (A.tr (A.rdw p k km) (A.ext hm hr (rf_com h1) t)),P.ka,P.po,P.kb,r,h2⟩
theorem chain (A:ArmOrd g O) {m b:Nat} (hm:m<g.n) (hb:b<g.n) (h:plusM g.n (rrM g) m b=true):(∀ i,aSt g i m→aSt g i b∨aMd g O i b)∧∀ i,aMd g O i m→aMd g O i b:=
 plus_least (N:=fun m b=>(∀ i,aSt g i m→aSt g i b∨aMd g O i b)∧∀ i,aMd g O i m→aMd g O i b) (fun _ _ hi _ hr=>⟨fun _ s=>A.rr_st hi hr s,fun _ s=>A.rr_md hi hr s⟩)
  (fun _ _ _ _ _ _ h1 h2=>⟨fun i s=>(h1.1 i s).elim (h2.1 i) fun s=>.inr (h2.2 i s),fun i s=>h2.2 i (h1.2 i s)⟩) hm hb h
theorem sw_is (A:ArmOrd g O) {i j:Nat} (hs:swM g i j=true):aHb g O i j:=by
 obtain ⟨hR,hA,a,ha,h2,b,hb,h3,c,hc,h4,h5,h6⟩:=sw_spec.1 hs
 obtain ⟨ka,m,hm,h7,km,h8⟩:=rs_spec.1 h3
 obtain ⟨R1,R2⟩:=relB_iff.1 hR
 obtain ⟨A1,A2⟩:=acrB_iff.1 hA
 have ka:=isK_iff.1 ka
 have km:=isK_iff.1 km
 have kc:=isK_iff.1 h5
 have kb:=(rf_in A.good h4).1
 have ploc:∀ {x y},plocM g x y=true→relM g 0 x y=true∧(g.ev x).loc=(g.ev y).loc:=fun h=>by
  unfold plocM at h
  rw [Bool.and_eq_true] at h
  exact ⟨h.1,same_loc h.2⟩
 have s0:aSt g i m:=by
  refine ⟨hm,km,?_⟩
  rcases h2 with ⟨k3,p⟩ | e
  ·left
   refine ⟨isK_iff.1 k3,by omega,?_⟩
   rcases h7 with h7 | e
   ·exact po_tr' p (ploc h7).1
   ·subst e;exact p
  ·subst e
   right
   refine ⟨ka,by omega,?_⟩
   rcases h7 with h7 | e
   ·exact .inr ⟨A.wrc (ploc h7).1 ka km (ploc h7).2,(po_th (ploc h7).1).1⟩
   ·exact .inl e
 have s1:aSt g i b∨aMd g O i b:=by
  rcases h8 with h8 | e
  ·exact (A.chain hm hb h8).1 i s0
  ·subst e;exact .inl s0
 have fin:∀ z,aSt g i z→O z c→aHb g O i j:=fun z s o=>by
  refine .inr ⟨z,A.st_hd s,?_⟩
  rcases h6 with ⟨h6,k3⟩ | e
  ·exact ⟨fun y hy=>A.tr o (A.ld h6 kc (isK_iff.1 k3) hy),fun h=>absurd (isK_iff.1 k3) h⟩
  ·subst e
   exact ⟨fun y hy=>A.tr o (A.acq hy kc (by omega)),fun _=>o⟩
 by_cases t:Th g b c
 ·have p:=A.cpo hb hc (rf_com h4) t
  rcases s1 with s | ⟨z,r,s,o,kr,p',kb,q,hq⟩
  ·left
   have pic:relM g 0 i c=true:=by
    rcases (A.st_hd s).2.2.1 with e | e
    ·subst e;exact p
    ·exact po_tr' e p
   rcases h6 with ⟨h6,-⟩ | e
   ·exact po_tr' pic h6
   ·subst e;exact pic
  ·rcases h6 with ⟨h6,k3⟩ | e
   ·exact .inr ⟨z,A.st_hd s,fun y hy=>A.tr o (A.ld (po_tr' p' (po_tr' p h6)) kr (isK_iff.1 k3) hy),fun h=>absurd (isK_iff.1 k3) h⟩
   ·exact fin z s (A.tr o (A.tr (A.rdw p' kr kb) (A.aob hq h4 t (by subst e;omega))))
 ·have e:=A.ext hb hc (rf_com h4) t
  rcases s1 with s | ⟨z,r,s,o,kr,p',kb,q,hq⟩
  ·exact fin b s e
  ·exact fin z s (A.tr o (A.tr (A.rdw p' kr kb) e))
theorem hb_tr (A:ArmOrd g O) {i x j:Nat} (h1:aHb g O i x) (h2:aHb g O x j):aHb g O i j:=by
 rcases h1 with p | ⟨z,hd,tl⟩
 ·rcases h2 with p' | ⟨z',hd',tl'⟩
  ·exact .inl (po_tr' p p')
  ·refine .inr ⟨z',⟨hd'.1,hd'.2.1,.inr ?_,fun y hy=>hd'.2.2.2.1 y (po_tr' hy p),fun _=>.inr (.inr (hd'.2.2.2.1 i p))⟩,tl'⟩
   rcases hd'.2.2.1 with e | e
   ·subst e;exact p
   ·exact po_tr' p e
 ·rcases h2 with p' | ⟨z',hd',tl'⟩
  ·exact .inr ⟨z,hd,fun y hy=>tl.1 y (po_tr' p' hy),fun _=>tl.1 j p'⟩
  ·have o:O z z':=by
    rcases hd'.2.2.1 with e | e
    ·subst e;exact tl.2 (by rw [hd'.2.1];decide)
    ·exact tl.1 z' e
   exact .inr ⟨z,hd,fun y hy=>A.tr o (tl'.1 y hy),fun k=>A.tr o (tl'.2 k)⟩
theorem hb_is (A:ArmOrd g O) {i j:Nat} (hi:i<g.n) (hj:j<g.n) (h:hbM g i j=true):aHb g O i j:=
 plus_least (N:=aHb g O) (fun i j _ _ hm=>by
  unfold poswM at hm
  rw [Bool.or_eq_true] at hm
  rcases hm with hm | hm
  ·exact .inl hm
  ·exact A.sw_is hm) (fun _ _ _ _ _ _ h1 h2=>A.hb_tr h1 h2) hi hj h
theorem hb_ir (A:ArmOrd g O) {i:Nat} (h:aHb g O i i):False:=by
 rcases h with p | ⟨z,hd,tl⟩
 ·exact po_ne p
 ·rcases hd.2.2.1 with e | e
  ·subst e;exact A.ir (tl.2 (by rw [hd.2.1];decide))
  ·exact A.ir (tl.1 z e)
theorem tl_com (A:ArmOrd g O) {z b c:Nat} (hb:b<g.n) (hc:c<g.n) (tl:aTl g O z b) (h:comM g b c=true):O z c:=by
 by_cases t:Th g b c
 ·exact tl.1 c (A.cpo hb hc h t)
 ·exact A.tr (tl.2 (com_in A.good hb hc h).2.2.2.1) (A.ext hb hc h t)
theorem coherent (A:ArmOrd g O) {a b:Nat} (ha:a<g.n) (hb:b<g.n) (h:aHb g O a b) (he:ecoM g b a=true):False:=by
 have hg:=A.good
 have irr:∀ k,k<g.n→plusM g.n (inM g) k k=true→False:=fun k hk hp=>by rw [cycS_nil A.cin k hk] at hp;cases hp
 rcases h with p | ⟨z,hd,tl⟩
 ·have e1:plusM g.n (inM g) b a=true:=WeakR.plus_mono (fun _ _ _ _ h=>com_inM h) hb ha he
  have e2:(g.ev b).loc=(g.ev a).loc∧0≤(g.ev a).loc:=plus_least (N:=fun b a=>(g.ev b).loc=(g.ev a).loc∧0≤(g.ev a).loc) (fun i j hi hj hm=>by
   obtain ⟨k1,k2,-⟩:=com_in hg hi hj hm;exact ⟨k1,k2⟩) (fun _ _ _ _ _ _ h1 h2=>⟨h1.1.trans h2.1,h2.2⟩) hb ha he
  have e3:inM g a b=true:=by unfold inM;rw [p,same_true e2.2 e2.1.symm];rfl
  exact irr a ha (plus_trans hb (plus_sub e3) e1)
 ·obtain ⟨hz,kz,hp,hx,hm⟩:=hd
  rcases eco_is A.chk hg hb ha he with h1 | h1 | ⟨c,hc,h1,h2⟩
  ·have o:=A.tl_com hb ha tl (rf_com h1)
   have k:=(rf_in hg h1).2.1
   rcases hm (by omega) with e | ⟨e,-⟩ | e
   ·subst e;exact A.ir o
   ·have:=(co_in hg e).2.1;omega
   ·exact A.ir (A.tr o e)
  ·have o:=A.tl_com hb ha tl (x_com h1)
   have k:=x_wr hg hb ha h1
   rcases hm (by omega) with e | ⟨e,-⟩ | e
   ·subst e;exact A.ir o
   ·exact A.ir (A.tl_com hb hz tl (x_com (x_co hg hb ha h1 e)))
   ·exact A.ir (A.tr o e)
  ·have o:=A.tl_com hb hc tl (x_com h1)
   have k:=(rf_in hg h2).2.1
   have o2:O a z:=by
    rcases hm (by omega) with e | ⟨e,-⟩ | e
    ·subst e;omega
    ·have:=(co_in hg e).2.1;omega
    ·exact e
   by_cases t:Th g c a
   ·exact A.ir (A.tr o (hx c (A.cpo hc ha (rf_com h2) t)))
   ·exact A.ir (A.tr o (A.tr (A.ext hc ha (rf_com h2) t) o2))
theorem coh (A:ArmOrd g O):coh g=[]:=by
 refine coh_nil.2 ⟨fun a ha=>?_,fun a b ha hb hh=>?_⟩
 ·cases hx:hbM g a a
  ·rfl
  ·exact (A.hb_ir (A.hb_is ha ha hx)).elim
 ·cases hx:ecoM g b a
  ·rfl
  ·exact (A.coherent ha hb (A.hb_is ha hb hh) hx).elim
theorem torn (A:ArmOrd g O) {p:Int×Int} (hp:p∈g.rmw):tornS g p=false:=by
 obtain ⟨r,w,rfl,P⟩:=pair_ok A.good hp
 cases hx:tornS g ((r:Int),(w:Int))
 ·rfl
 ·unfold tornS at hx
  simp only [Bool.and_eq_true,exB_true,Int.toNat_natCast] at hx
  obtain ⟨-,k,hk,h1,h2⟩:=hx
  have ht:(g.ev r).thread=(g.ev w).thread:=(po_th P.po).1
  by_cases t:Th g r k
  ·have t':(g.ev r).thread=(g.ev k).thread:=t
   have p1:=po_th (A.cpo P.la hk (x_com (.inr h1)) t)
   have p2:=po_th (A.cop h2 (show (g.ev k).thread=(g.ev w).thread by omega))
   exact (P.nx k p1.2.2.1 p2.2.2.1 t'.symm).elim
  ·exact (A.at_ hp P.la P.lb hk h1 t h2 (fun t2=>t (show (g.ev r).thread=(g.ev k).thread from ht.trans t2.symm))).elim
/-! ### psc -/
end ArmOrd
def aCl (g:Gr) (i z:Nat):Prop:=((g.ev i).kind=3∧relM g 0 i z=true)∨((g.ev i).kind≠3∧(i=z∨(relM g 2 i z=true∧Th g i z)))
def aS (g:Gr) (O:Nat→Nat→Prop) (i j:Nat):Prop:=∃ z,aCl g i z∧∀ z',aCl g j z'→O z z'
def aNs (g:Gr) (O:Nat→Nat→Prop) (i j:Nat):Prop:=aS g O i j∨((g.ev i).kind=3∧relM g 0 i j=true)
def aThin (g:Gr) (O:Nat→Nat→Prop) (i j:Nat):Prop:=relM g 0 i j=true∨∃ w r,(i=w∨relM g 0 i w=true)∧(g.ev w).kind=2∧(g.ev r).kind=1∧(r=j∨relM g 0 r j=true)∧O w r
namespace ArmOrd
variable {g : Gr} {O : Nat → Nat → Prop}
theorem cl_po (A:ArmOrd g O) {i j z:Nat} (p:relM g 0 i j=true) (h:aCl g j z):relM g 0 i z=true:=by
 rcases h with ⟨-,h⟩ | ⟨-,e | ⟨c,t⟩⟩
 ·exact po_tr' p h
 ·subst e;exact p
 ·exact po_tr' p (A.cop c t)
theorem cl_self {i:Nat} (h:(g.ev i).kind≠3):aCl g i i:=.inr ⟨h,.inl rfl⟩
theorem ns_tr (A:ArmOrd g O) {i j k:Nat} (h1:aNs g O i j) (h2:aNs g O j k):aNs g O i k:=by
 rcases h1 with ⟨z,c,hz⟩ | ⟨k3,p⟩
 ·rcases h2 with ⟨z',c',hz'⟩ | ⟨k3,p⟩
  ·exact .inl ⟨z,c,fun y hy=>A.tr (hz z' c') (hz' y hy)⟩
  ·exact .inl ⟨z,c,fun y hy=>hz y (.inl ⟨k3,A.cl_po p hy⟩)⟩
 ·rcases h2 with ⟨z',c',hz'⟩ | ⟨k3',p'⟩
  ·exact .inl ⟨z',.inl ⟨k3,A.cl_po p c'⟩,hz'⟩
  ·exact .inr ⟨k3,po_tr' p p'⟩
theorem ns_ir (A:ArmOrd g O) {i:Nat} (h:aNs g O i i):False:=by
 rcases h with ⟨z,c,hz⟩ | ⟨-,p⟩
 ·exact A.ir (hz z c)
 ·exact po_ne p
theorem tl_cl (A:ArmOrd g O) {z j z':Nat} (tl:aTl g O z j) (h:aCl g j z'):O z z':=by
 rcases h with ⟨-,h⟩ | ⟨k,e | ⟨c,t⟩⟩
 ·exact tl.1 _ h
 ·subst e;exact tl.2 k
 ·exact tl.1 _ (A.cop c t)
theorem hd_cl {i z:Nat} (hd:aHd g O i z):aCl g i z∨((g.ev i).kind≠3∧O i z):=by
 obtain ⟨-,kz,hp,-,hm⟩:=hd
 by_cases k:(g.ev i).kind=3
 ·rcases hp with e | e
  ·subst e;omega
  ·exact .inl (.inl ⟨k,e⟩)
 ·rcases hm k with e | e | e
  ·exact .inl (.inr ⟨k,.inl e⟩)
  ·exact .inl (.inr ⟨k,.inr e⟩)
  ·exact .inr ⟨k,e⟩
theorem hb_ns (A:ArmOrd g O) {i j:Nat} (hi:i<g.n) (hj:j<g.n) (mi:(g.ev i).mode=5) (mj:(g.ev j).mode=5) (h:aHb g O i j):aNs g O i j:=by
 rcases h with p | ⟨z,hd,tl⟩
 ·by_cases k:(g.ev i).kind=3
  ·exact .inr ⟨k,p⟩
  ·refine .inl ⟨i,cl_self k,fun z' hz'=>?_⟩
   rcases hz' with ⟨k3,h⟩ | ⟨k',h⟩
   ·exact A.sy p k3 (by omega) h
   ·rcases kind3 A.chk hj with kj | kj | kj
    ·have e:j=z':=by
      rcases h with h | ⟨h,-⟩
      ·exact h
      ·have:=(co_in A.good h).2.1;omega
     subst e
     rcases kind3 A.chk hi with ki | ki | ki
     ·exact A.acq p ki (by omega)
     ·exact A.la p ki (by omega) kj mj
     ·exact absurd ki k
    ·rcases h with e | ⟨c,t⟩
     ·subst e;exact A.rel p kj (by omega)
     ·exact A.rco p kj (by omega) c t
    ·exact absurd kj k'
 ·rcases hd_cl hd with c | ⟨k,o⟩
  ·exact .inl ⟨z,c,fun z' hz'=>A.tl_cl tl hz'⟩
  ·exact .inl ⟨i,cl_self k,fun z' hz'=>A.tr o (A.tl_cl tl hz')⟩
theorem beg (A:ArmOrd g O) {i a:Nat} (ka:(g.ev a).kind≠3) (h:i=a∨((g.ev i).kind=3∧aHb g O i a)):∃ z,aCl g i z∧(z=a∨O z a):=by
 rcases h with e | ⟨k3,p | ⟨z,hd,tl⟩⟩
 ·subst e;exact ⟨i,cl_self ka,.inl rfl⟩
 ·exact ⟨a,.inl ⟨k3,p⟩,.inl rfl⟩
 ·rcases hd_cl hd with c | ⟨k,-⟩
  ·exact ⟨z,c,.inr (tl.2 ka)⟩
  ·exact absurd k3 k
theorem fin (A:ArmOrd g O) {a b j:Nat} (ha:a<g.n) (hb:b<g.n) (hm:comM g a b=true) (ht:¬ Th g a b) (h:b=j∨((g.ev j).kind=3∧(g.ev j).mode=5∧aHb g O b j)) {z':Nat} (hz:aCl g j z'):O a z':=by
 have o:=A.ext ha hb hm ht
 have co:∀ {y},relM g 2 b y=true→Th g b y→O a y:=fun {y} c t=>by
  have hy:=(co_in A.good c).2.2.2.2.2.2
  have hx:xM g a b:=by
   unfold comM at hm
   simp only [Bool.or_eq_true] at hm
   rcases hm with (hm | hm) | hm
   ·have k1:=(rf_in A.good hm).2.1
    have k2:=(co_in A.good c).2.1
    omega
   ·exact .inl hm
   ·exact .inr hm
  exact A.ext ha hy (x_com (x_co A.good ha hb hx c)) fun t'=>ht (t'.trans t.symm)
 rcases h with e | ⟨k3,m5,p | ⟨y,hd,tl⟩⟩
 ·subst e
  have kb:=(com_in A.good ha hb hm).2.2.2.2
  rcases hz with ⟨k3,-⟩ | ⟨-,e | ⟨c,t⟩⟩
  ·exact absurd k3 kb
  ·subst e;exact o
  ·exact co c t
 ·rcases hz with ⟨-,p'⟩ | ⟨k',-⟩
  ·exact A.tr o (A.sy p k3 (by omega) p')
  ·exact absurd k3 k'
 ·have kb:=(com_in A.good ha hb hm).2.2.2.2
  have o2:=A.tl_cl tl hz
  rcases hd.2.2.2.2 kb with e | ⟨c,t⟩ | e
  ·subst e;exact A.tr o o2
  ·exact A.tr (co c t) o2
  ·exact A.tr o (A.tr e o2)
def aB (g:Gr) (O:Nat→Nat→Prop) (i a:Nat):Prop:=i=a∨((g.ev i).kind=3∧aHb g O i a)
def aE (g:Gr) (O:Nat→Nat→Prop) (b j:Nat):Prop:=b=j∨((g.ev j).kind=3∧(g.ev j).mode=5∧aHb g O b j)
theorem bhe (A:ArmOrd g O) {i a b j:Nat} (h1:aB g O i a) (h:aHb g O a b) (h2:aE g O b j):aHb g O i j:=by
 have e1:aHb g O i b:=by
  rcases h1 with e | ⟨-,h1⟩
  ·subst e;exact h
  ·exact A.hb_tr h1 h
 rcases h2 with e | ⟨-,-,h2⟩
 ·subst e;exact e1
 ·exact A.hb_tr e1 h2
theorem one (A:ArmOrd g O) {i a b j:Nat} (hi:i<g.n) (hj:j<g.n) (ha:a<g.n) (hb:b<g.n) (mi:(g.ev i).mode=5) (mj:(g.ev j).mode=5) (h1:aB g O i a) (h:comM g a b=true) (h2:aE g O b j):aNs g O i j:=by
 by_cases t:Th g a b
 ·exact A.hb_ns hi hj mi mj (A.bhe h1 (.inl (A.cpo ha hb h t)) h2)
 ·obtain ⟨z,c,e⟩:=A.beg (com_in A.good ha hb h).2.2.2.1 h1
  refine .inl ⟨z,c,fun z' hz'=>?_⟩
  have o:=A.fin ha hb h t h2 hz'
  rcases e with e | e
  ·subst e;exact o
  ·exact A.tr e o
theorem psc (A:ArmOrd g O) {i j:Nat} (hi:i<g.n) (hj:j<g.n) (h:pscM g i j=true):aNs g O i j:=by
 have hg:=A.good
 have H:∀ {x y:Nat},x<g.n→y<g.n→hbM g x y=true→aHb g O x y:=fun hx hy h=>A.hb_is hx hy h
 unfold pscM at h
 rw [Bool.or_eq_true] at h
 rcases h with h | h
 ·unfold baseM at h
  simp only [Bool.and_eq_true,exB_true] at h
  obtain ⟨a,ha,h1,b,hb,h2,h3⟩:=h
  unfold beginM escB fscB at h1
  unfold endM escB fscB at h3
  simp only [Bool.or_eq_true,Bool.and_eq_true,beq_iff_eq,isM_iff,isK_iff] at h1 h3
  have mi:(g.ev i).mode=5:=by
   rcases h1 with ⟨-,h1,-⟩ | ⟨⟨h1,-⟩,-⟩ <;> exact h1
  have mj:(g.ev j).mode=5:=by
   rcases h3 with ⟨e,h3,-⟩ | ⟨-,h3,-⟩
   ·subst e;exact h3
   ·exact h3
  have B:aB g O i a:=by
   rcases h1 with ⟨e,-⟩ | ⟨⟨-,k⟩,h1 | e⟩
   ·exact .inl e
   ·exact .inr ⟨k,H hi ha h1⟩
   ·exact .inl e
  have E:aE g O b j:=by
   rcases h3 with ⟨e,-⟩ | ⟨h3 | e,m,k⟩
   ·exact .inl e
   ·exact .inr ⟨k,m,H hb hj h3⟩
   ·exact .inl e
  unfold scbM otherM at h2
  simp only [Bool.or_eq_true,Bool.and_eq_true,exB_true] at h2
  rcases h2 with (((h2 | ⟨x,hx,⟨h4,-⟩,y,hy,h5,h6,-⟩) | ⟨h2,-⟩) | h2) | h2
  ·exact A.hb_ns hi hj mi mj (A.bhe B (.inl h2) E)
  ·exact A.hb_ns hi hj mi mj (A.bhe B (A.hb_tr (.inl h4) (A.hb_tr (H hx hy h5) (.inl h6))) E)
  ·exact A.hb_ns hi hj mi mj (A.bhe B (H ha hb h2) E)
  ·exact A.one hi hj ha hb mi mj B (x_com (.inl h2)) E
  ·exact A.one hi hj ha hb mi mj B (x_com (.inr h2)) E
 ·unfold pscfM hehM fscB at h
  simp only [Bool.and_eq_true,Bool.or_eq_true,exB_true,isM_iff,isK_iff] at h
  obtain ⟨⟨⟨mi,ki⟩,h⟩,mj,kj⟩:=h
  rcases h with h | ⟨a,ha,h1,b,hb,h2,h3⟩
  ·exact A.hb_ns hi hj mi mj (H hi hj h)
  ·have B:aB g O i a:=.inr ⟨ki,H hi ha h1⟩
   have E:aE g O b j:=.inr ⟨kj,mj,H hb hj h3⟩
   rcases eco_is A.chk hg ha hb h2 with h4 | h4 | ⟨c,hc,h4,h5⟩
   ·exact A.one hi hj ha hb mi mj B (rf_com h4) E
   ·exact A.one hi hj ha hb mi mj B (x_com h4) E
   ·by_cases t:Th g a c
    ·exact A.one hi hj hc hb mi mj (.inr ⟨ki,A.hb_tr (H hi ha h1) (.inl (A.cpo ha hc (x_com h4) t))⟩) (rf_com h5) E
    ·by_cases t2:Th g c b
     ·exact A.one hi hj ha hc mi mj B (x_com h4) (.inr ⟨kj,mj,A.hb_tr (.inl (A.cpo hc hb (rf_com h5) t2)) (H hb hj h3)⟩)
     ·obtain ⟨z,cl,e⟩:=A.beg (com_in hg ha hc (x_com h4)).2.2.2.1 B
      refine .inl ⟨z,cl,fun z' hz'=>?_⟩
      have o:=A.tr (A.ext ha hc (x_com h4) t) (A.fin hc hb (rf_com h5) t2 E hz')
      rcases e with e | e
      ·subst e;exact o
      ·exact A.tr e o
theorem thin_tr (A:ArmOrd g O) {i x j:Nat} (h1:aThin g O i x) (h2:aThin g O x j):aThin g O i j:=by
 rcases h1 with p | ⟨w,r,h1,kw,kr,h3,o⟩
 ·rcases h2 with p' | ⟨w',r',h1',kw',kr',h3',o'⟩
  ·exact .inl (po_tr' p p')
  ·refine .inr ⟨w',r',.inr ?_,kw',kr',h3',o'⟩
   rcases h1' with e | e
   ·subst e;exact p
   ·exact po_tr' p e
 ·rcases h2 with p' | ⟨w',r',h1',kw',kr',h3',o'⟩
  ·refine .inr ⟨w,r,h1,kw,kr,.inr ?_,o⟩
   rcases h3 with e | e
   ·subst e;exact p'
   ·exact po_tr' e p'
  ·refine .inr ⟨w,r',h1,kw,kr',h3',A.tr o (A.tr (A.rdw ?_ kr kw') o')⟩
   rcases h3 with e | e <;> rcases h1' with e' | e'
   ·subst e;subst e';omega
   ·subst e;exact e'
   ·subst e';exact e
   ·exact po_tr' e e'
theorem thin_ir (A:ArmOrd g O) {i:Nat} (h:aThin g O i i):False:=by
 rcases h with p | ⟨w,r,h1,kw,kr,h3,o⟩
 ·exact po_ne p
 ·have p:relM g 0 r w=true:=by
   rcases h3 with e | e <;> rcases h1 with e' | e'
   ·subst e;subst e';omega
   ·subst e;exact e'
   ·subst e';exact e
   ·exact po_tr' e e'
  exact A.ir (A.tr o (A.rdw p kr kw))
theorem allowed (A:ArmOrd g O):(rcAx g).1=0:=by
 refine rcAx_zero.2 ⟨A.coh,fun p hp=>A.torn hp,acyc_of (N:=aNs g O) (fun _ _ hi hj h=>A.psc hi hj h) (fun h1 h2=>A.ns_tr h1 h2) fun _ h=>A.ns_ir h,
  acyc_of (N:=aThin g O) (fun i j hi hj h=>?_) (fun h1 h2=>A.thin_tr h1 h2) fun _ h=>A.thin_ir h⟩
 unfold thinM at h
 rw [Bool.or_eq_true] at h
 rcases h with h | h
 ·exact .inl h
 ·by_cases t:Th g i j
  ·exact .inl (A.cpo hi hj (rf_com h) t)
  ·have F:=rf_in A.good h
   exact .inr ⟨i,j,.inl rfl,F.1,F.2.1,.inl rfl,A.ext hi hj (rf_com h) t⟩
end ArmOrd
end Go.Proofs.Tst
/-
  A mapped graph: its relations, well-formed, its verdict against RC11's (plain).
-/
namespace Go.Proofs.Tst
open Go Go.Vc
section
variable {g : Gr} {lse : Bool}
theorem map_ev (i:Nat):((mapG g lse).ev i).kind=(g.ev i).kind∧((mapG g lse).ev i).thread=(g.ev i).thread∧((mapG g lse).ev i).loc=(g.ev i).loc∧((mapG g lse).ev i).val=(g.ev i).val:=by
 by_cases hi:i<g.n
 ·rw [mapG_ev hi];exact ⟨rfl,rfl,rfl,rfl⟩
 ·have hn:=mapG_n (g:=g) (lse:=lse)
  have e1:(mapG g lse).ev i=default:=by
   unfold Gr.ev;rw [List.getD_eq_getElem?_getD,List.getElem?_eq_none (by show (mapG g lse).n≤i;omega)];rfl
  have e2:g.ev i=default:=by
   unfold Gr.ev;rw [List.getD_eq_getElem?_getD,List.getElem?_eq_none (by show g.n≤i;omega)];rfl
  rw [e1,e2];exact ⟨rfl,rfl,rfl,rfl⟩
theorem map_before (a b:Int):(mapG g lse).before a b=g.before a b:=by
 unfold Gr.before;rw [mapG_n,(map_ev _).2.1,(map_ev _).2.1]
theorem map_is (a k:Int):(mapG g lse).is a k=g.is a k:=by unfold Gr.is;rw [mapG_n,(map_ev _).1]
theorem map_next (a b:Int):(mapG g lse).isNext a b=g.isNext a b:=by
 unfold Gr.isNext;rw [map_before,(map_ev _).2.1];simp only [(map_ev _).2.1]
theorem map_writes (c:Int):(mapG g lse).writesOf c=g.writesOf c:=by
 rw [writesOf_range,writesOf_range,mapG_n];simp only [(map_ev _).1,(map_ev _).2.2.1]
theorem map_po:relM (mapG g lse) 0=relM g 0:=by funext i j;exact map_before i j
theorem map_rf:relM (mapG g lse) 1=relM g 1:=by show ofM (mapG g lse).n g.rf=ofM g.n g.rf;rw [mapG_n]
theorem map_co:relM (mapG g lse) 2=relM g 2:=by show ofM (mapG g lse).n (coPairs g)=ofM g.n (coPairs g);rw [mapG_n]
theorem map_same:relM (mapG g lse) 4=relM g 4:=by
 funext i j;show (mapG g lse).sameM i j=g.sameM i j;unfold Gr.sameM;rw [(map_ev _).2.2.1,(map_ev _).2.2.1]
theorem map_ext:relM (mapG g lse) 5=relM g 5:=by
 funext i j;show (mapG g lse).extM i j=g.extM i j;unfold Gr.extM;rw [(map_ev _).2.1,(map_ev _).2.1]
theorem map_fr:relM (mapG g lse) 9=relM g 9:=by
 show compM (mapG g lse).n (invM (ofM (mapG g lse).n g.rf)) (mapG g lse).n (ofM (mapG g lse).n (coPairs g))=compM g.n (invM (ofM g.n g.rf)) g.n (ofM g.n (coPairs g))
 rw [mapG_n]
theorem map_inM:inM (mapG g lse)=inM g:=by funext i j;unfold inM;rw [map_po,map_rf,map_co,map_same,map_fr]
theorem map_sc:scAx (mapG g lse)=scAx g:=by
 have e1:allM (mapG g lse)=allM g:=by funext i j;unfold allM;rw [map_po,map_rf,map_co,map_fr]
 have e2:tornS (mapG g lse)=tornS g:=by funext p;unfold tornS;rw [mapG_n,map_fr,map_co]
 have e3:atomS (mapG g lse)=atomS g:=by unfold atomS;rw [e2];rfl
 unfold scAx;rw [e1,e3,mapG_n]
theorem mapMode_ok {k m:Int} (h:Gr.modeOk false k m=true):Gr.modeOk true k (mapMode k m)=true∧(k=1→Gr.modeOk true k 16=true):=by
 unfold Gr.modeOk at h
 simp only [Bool.false_eq_true,if_false,Bool.or_eq_true,Bool.and_eq_true,beq_iff_eq] at h
 rcases h with (⟨rfl,(rfl | rfl) | rfl⟩ | ⟨rfl,(rfl | rfl) | rfl⟩) | ⟨rfl,((rfl | rfl) | rfl) | rfl⟩ <;> decide
theorem mapTo_mem {p:Int×Int} (h:p∈mapTo g g.n):∃ i j:Nat,p=((i:Int),(j:Int))∧i<g.n∧rlxB g i=true∧relM g 0 i j=true:=by
 unfold mapTo at h
 obtain ⟨i,hi,h⟩:=List.mem_flatMap.1 h
 unfold ctrlOf at h
 by_cases hr:rlxB g i=true
 ·rw [if_pos hr] at h
  unfold ctrlTo at h
  obtain ⟨j,hj,rfl⟩:=List.mem_map.1 h
  exact ⟨i,j,rfl,List.mem_range.1 hi,hr,(List.mem_filter.1 hj).2⟩
 ·rw [if_neg hr] at h;cases h
theorem mapTo_rises:Rises (mapTo g g.n):=by
 unfold Rises mapTo
 rw [List.pairwise_flatMap]
 have fst:∀ {i:Nat} {p:Int×Int},p∈ctrlOf g i→p.1=(i:Int):=fun {i p} h=>by
  unfold ctrlOf ctrlTo at h
  split at h
  ·obtain ⟨j,-,rfl⟩:=List.mem_map.1 h;rfl
  ·cases h
 refine ⟨fun i hi=>?_,?_⟩
 ·unfold ctrlOf
  split
  ·unfold ctrlTo
   rw [List.pairwise_map]
   exact (List.pairwise_lt_range.filter _).imp fun h=>.inr ⟨rfl,by dsimp only;omega⟩
  ·exact List.Pairwise.nil
 ·refine List.pairwise_lt_range.imp fun h p hp q hq=>.inl ?_
  rw [fst hp,fst hq];omega
theorem map_good (hc:(g.check false).1=0):((mapG g lse).check true).1=0:=by
 obtain ⟨h1,h2,h3,h4,h5,h6,-⟩:=check_iff.1 hc
 have hs:=h1
 simp only [Gr.size,Bool.and_eq_true,decide_eq_true_eq] at hs
 have hn:=mapG_n (g:=g) (lse:=lse)
 have nil:∀ f:Int→Bool,¬ 0≤(mapG g lse).depAt true [] f:=fun f=>by
  unfold Gr.depAt Gr.firstBad;decide
 refine check_iff.2 ⟨?_,?_,?_,?_,?_,?_,nil _,nil _,?_⟩
 ·unfold Gr.size at h1 ⊢;rw [hn];exact h1
 ·unfold Gr.initAt
  refine firstEv_all _ _ fun j hj hj'=>?_
  have hj':j<0+g.cells.toNat:=hj'
  have:=firstEv_neg _ _ h2 j hj hj'
  simp only [Bool.not_eq_false',beq_iff_eq] at this ⊢
  have e:lseB g lse j=false:=by unfold lseB;rw [this];unfold Gr.first;simp
  rw [mapG_ev (by omega)]
  unfold mapEv
  rw [e,this];rfl
 ·unfold Gr.evAt
  refine firstEv_all _ _ fun j hj hj'=>?_
  have hj:g.cells.toNat≤j:=hj
  have hj':j<g.cells.toNat+((mapG g lse).n - g.cells.toNat):=hj'
  rw [hn] at hj'
  have:=firstEv_neg _ _ h3 j hj hj'
  simp only [Bool.not_eq_false'] at this ⊢
  unfold Gr.evOk at this ⊢
  obtain ⟨e1,e2,e3,e4⟩:=map_ev (g:=g) (lse:=lse) j
  rw [e1,e2,e3,e4]
  simp only [Bool.and_eq_true] at this ⊢
  refine ⟨⟨this.1.1,?_⟩,this.2⟩
  obtain ⟨m1,m2⟩:=mapMode_ok this.1.2
  rw [mapG_ev (by omega)]
  unfold mapEv
  dsimp only
  split
  ·rename_i hl
   unfold lseB at hl
   simp only [Bool.and_eq_true,beq_iff_eq] at hl
   exact m2 hl.1.1.2
  ·exact m1
 ·obtain ⟨k1,k2⟩:=rf_iff.1 h4
  refine rf_iff.2 ⟨?_,fun p hp=>?_⟩
  ·rw [hn]
   have e:readsFrom (mapG g lse) 0 g.n=readsFrom g 0 g.n:=by unfold readsFrom;simp only [(map_ev _).1]
   rw [e];exact k1
  ·have:=k2 p hp
   unfold rfOk at this ⊢
   rw [map_is,(map_ev _).2.2.1,(map_ev _).2.2.1,(map_ev _).2.2.2,(map_ev _).2.2.2];exact this
 ·obtain ⟨k1,k2⟩:=co_iff.1 h5
  refine co_iff.2 ⟨k1,fun c hl=>?_⟩
  have:=k2 c hl
  unfold Gr.coBad at this ⊢
  rw [map_writes]
  simp only [map_is,(map_ev _).2.2.1];exact this
 ·obtain ⟨k1,k2⟩:=rmw_iff.1 h6
  refine rmw_iff.2 ⟨k1,fun p hp=>?_⟩
  have:=k2 p hp
  unfold rmwOk at this ⊢
  rw [map_is,map_is,map_next,(map_ev _).2.2.1,(map_ev _).2.2.1];exact this
 ·refine dep_iff.2 ⟨mapTo_rises,fun p hp=>?_⟩
  obtain ⟨i,j,rfl,hi,hr,hp⟩:=mapTo_mem hp
  obtain ⟨t1,t2,t3,t4⟩:=po_th hp
  unfold rlxB at hr
  simp only [Bool.and_eq_true,beq_iff_eq] at hr
  rw [map_is,map_before,(map_ev _).1]
  refine ⟨?_,hp,?_⟩
  ·unfold Gr.is
   simp only [Bool.and_eq_true,decide_eq_true_eq,beq_iff_eq,Int.toNat_natCast]
   exact ⟨⟨by omega,by omega⟩,hr.1⟩
  ·simp only [Int.toNat_natCast,Bool.or_eq_true,beq_iff_eq]
   have:=kind3 hc t4
   omega
theorem map_sc_arm (hc:(g.check false).1=0) (h:(scAx g).1=0):(armAx (mapG g lse)).1=0:=sc_arm (map_good hc) (by rw [map_sc];exact h)
theorem map_mode {i:Nat} (hi:i<g.n):((mapG g lse).ev i).mode=if lseB g lse i=true then 16 else mapMode (g.ev i).kind (g.ev i).mode:=by rw [mapG_ev hi];rfl
theorem map_wr {i:Nat} (hi:i<g.n) (k:(g.ev i).kind=2) (m:(g.ev i).mode≠1):isM (mapG g lse) 13 i=true:=by
 have e:lseB g lse i=false:=by unfold lseB;rw [k];simp
 rw [isM_iff,map_mode hi,e,k]
 unfold mapMode
 simp [m]
theorem map_acq {i:Nat} (hi:i<g.n) (k:(g.ev i).kind=1) (m:(g.ev i).mode≠1):acqB (mapG g lse) i=true:=by
 unfold acqB
 rw [Bool.or_eq_true,isM_iff,isM_iff,map_mode hi]
 cases e:lseB g lse i
 ·left;rw [k];unfold mapMode;simp [m]
 ·right;simp
theorem map_scr {i:Nat} (hi:i<g.n) (k:(g.ev i).kind=1) (m:(g.ev i).mode=5):isM (mapG g lse) 12 i=true:=by
 have e:lseB g lse i=false:=by unfold lseB;rw [m];simp
 rw [isM_iff,map_mode hi,e,k,m];rfl
theorem map_fence {i:Nat} (hi:i<g.n) (k:(g.ev i).kind=3):isM (mapG g lse) (if (g.ev i).mode=2 then 14 else 15) i=true:=by
 have e:lseB g lse i=false:=by unfold lseB;rw [k];simp
 rw [isM_iff,map_mode hi,e,k]
 unfold mapMode;simp
theorem map_ctrl {i j:Nat} (p:relM g 0 i j=true) (k:(g.ev i).kind=1) (m:(g.ev i).mode=1):relM (mapG g lse) 8 i j=true:=by
 obtain ⟨t1,t2,t3,t4⟩:=po_th p
 show ofM (mapG g lse).n (mapTo g g.n) i j=true
 rw [mapG_n,ofM_mem (by omega) t4]
 unfold mapTo
 refine List.mem_flatMap.2 ⟨i,List.mem_range.2 (by omega),?_⟩
 unfold ctrlOf rlxB
 rw [k,m,if_pos (by decide)]
 unfold ctrlTo
 exact List.mem_map.2 ⟨j,List.mem_filter.2 ⟨List.mem_range.2 t4,p⟩,rfl⟩
def aO (g:Gr) (lse:Bool) (i j:Nat):Prop:=i<g.n∧j<g.n∧plusM g.n (obM (mapG g lse)) i j=true
theorem armOrd (hc:(g.check false).1=0) (h:(armAx (mapG g lse)).1=0):ArmOrd g (aO g lse):=by
 have hg:=good_false hc
 obtain ⟨a1,a2,a3⟩:=armAx_zero.1 h
 rw [mapG_n,map_inM] at a1
 rw [mapG_n] at a2
 have ob:∀ {i j},i<g.n→j<g.n→obM (mapG g lse) i j=true→aO g lse i j:=fun hi hj h=>⟨hi,hj,plus_sub h⟩
 have bob:∀ {i j},i<g.n→j<g.n→bobM (mapG g lse) i j=true→aO g lse i j:=fun hi hj h=>ob hi hj (by unfold obM;rw [h];simp)
 have dob:∀ {i j},i<g.n→j<g.n→dobM (mapG g lse) i j=true→aO g lse i j:=fun hi hj h=>ob hi hj (by unfold obM;rw [h];simp)
 have acq:∀ {i j:Nat},relM g 0 i j=true→(g.ev i).kind=1→(g.ev i).mode≠1→aO g lse i j:=fun {i j} p k m=>by
  obtain ⟨t1,t2,t3,t4⟩:=po_th p
  refine bob (by omega) t4 ?_
  unfold bobM
  rw [map_acq (by omega) k m,map_po,p];simp
 have sy:∀ {i k j:Nat},relM g 0 i k=true→(g.ev k).kind=3→(g.ev k).mode≠2→relM g 0 k j=true→aO g lse i j:=fun {i k j} p k3 m p'=>by
  obtain ⟨t1,t2,t3,t4⟩:=po_th p
  obtain ⟨u1,u2,u3,u4⟩:=po_th p'
  refine bob (by omega) u4 ?_
  have hm:=map_fence (lse:=lse) t4 k3
  rw [if_neg m] at hm
  have:(exB (mapG g lse).n fun k=>relM (mapG g lse) 0 i k&&isM (mapG g lse) 15 k&&relM (mapG g lse) 0 k j)=true:=exB_true.2 ⟨k,by rw [mapG_n];exact t4,by rw [map_po,p,hm,p'];rfl⟩
  unfold bobM
  rw [this];simp
 refine ⟨hc,a1,fun h1 h2=>⟨h1.1,h2.2.1,plus_trans h1.2.1 h1.2.2 h2.2.2⟩,fun {i} h=>?_,fun {i j} hi hj hm t=>?_,fun {i j} p k1 k2=>?_,acq,fun {i j} p k m=>?_,fun {i k j} p k2 m c t=>?_,sy,fun {i k j} p k1 k3 p'=>?_,fun {i j} p k m k' m'=>?_,fun {r i j} hr hf t m=>?_,fun {r w k} hp hr hw hk h1 t1 h2 t2=>?_⟩
 ·have:=cycS_nil a2 i h.1
  rw [h.2.2] at this;cases this
 ·have e:relM (mapG g lse) 5 i j=true:=by rw [map_ext];exact ext_true.2 t
  refine ob hi hj ?_
  unfold obM obsM rfeM coeM freM
  rw [e,map_rf,map_co,map_fr]
  unfold comM at hm
  simp only [Bool.or_eq_true] at hm
  rcases hm with (hm | hm) | hm <;> rw [hm] <;> simp
 ·by_cases m:(g.ev i).mode=1
  ·obtain ⟨t1,t2,t3,t4⟩:=po_th p
   refine dob (by omega) t4 ?_
   have hk:isK (mapG g lse) 2 j=true:=by rw [isK_iff,(map_ev _).1];exact k2
   unfold dobM
   rw [map_ctrl p k1 m,hk];simp
  ·exact acq p k1 m
 ·obtain ⟨t1,t2,t3,t4⟩:=po_th p
  refine bob (by omega) t4 ?_
  unfold bobM
  rw [map_po,p,map_wr t4 k m];simp
 ·obtain ⟨t1,t2,t3,t4⟩:=po_th p
  have hj:=(co_in hg c).2.2.2.2.2.2
  have hx:coiM (mapG g lse) k j=true:=by
   unfold coiM
   rw [map_co,c,map_ext,ext_false.2 t];rfl
  have:(exB (mapG g lse).n fun k=>relM (mapG g lse) 0 i k&&isM (mapG g lse) 13 k&&coiM (mapG g lse) k j)=true:=exB_true.2 ⟨k,by rw [mapG_n];exact t4,by rw [map_po,p,map_wr t4 k2 m,hx];rfl⟩
  refine bob (by omega) hj ?_
  unfold bobM
  rw [this];simp
 ·by_cases m:(g.ev k).mode=2
  ·obtain ⟨t1,t2,t3,t4⟩:=po_th p
   obtain ⟨u1,u2,u3,u4⟩:=po_th p'
   have hm:=map_fence (lse:=lse) t4 k3
   rw [if_pos m] at hm
   have hk:isK (mapG g lse) 1 i=true:=by rw [isK_iff,(map_ev _).1];exact k1
   have:(exB (mapG g lse).n fun k=>isK (mapG g lse) 1 i&&relM (mapG g lse) 0 i k&&isM (mapG g lse) 14 k&&relM (mapG g lse) 0 k j)=true:=exB_true.2 ⟨k,by rw [mapG_n];exact t4,by rw [map_po,p,hm,p',hk];rfl⟩
   refine bob (by omega) u4 ?_
   unfold bobM
   rw [this];simp
  ·exact sy p k3 m p'
 ·obtain ⟨t1,t2,t3,t4⟩:=po_th p
  refine bob (by omega) t4 ?_
  unfold bobM
  rw [map_wr (i:=i) (by omega) k m,map_po,p,map_scr t4 k' m'];simp
 ·have P:=rmw_in hg hr
  have F:=rf_in hg hf
  have hl:lastB (mapG g lse) i=true:=by
   unfold lastB
   exact List.any_eq_true.2 ⟨((r:Int),(i:Int)),ofM_mem' (L:=g.rmw) hr,by simp⟩
  have hx:rfiM (mapG g lse) i j=true:=by
   unfold rfiM
   rw [map_rf,hf,map_ext,ext_false.2 t];rfl
  refine ob P.lb F.2.2.2.2.2.2 ?_
  unfold obM aobM
  rw [hl,hx,map_acq F.2.2.2.2.2.2 F.2.1 m];simp
 ·have hx:=a3 _ hp
  have i1:∀ x:Nat,x<g.n→inR g.n (x:Int)=true:=fun x hx=>by unfold inR;simp;omega
  have:tornB (mapG g lse) ((r:Int),(w:Int))=true:=by
   unfold tornB
   rw [mapG_n]
   simp only [Bool.and_eq_true,exB_true,Int.toNat_natCast]
   refine ⟨⟨i1 r hr,i1 w hw⟩,k,hk,?_,?_⟩
   ·unfold freM;rw [map_fr,h1,map_ext,ext_true.2 t1];rfl
   ·unfold coeM;rw [map_co,h2,map_ext,ext_true.2 t2];rfl
  rw [hx] at this;cases this
theorem map_arm_rc (hc:(g.check false).1=0) (h:(armAx (mapG g lse)).1=0):(rcAx g).1=0:=(armOrd hc h).allowed
end
end Go.Proofs.Tst
/-
  SeqMapped.
-/
namespace Go.Proofs.Tst
open Go Go.Vc
set_option maxHeartbeats 4000000 in
theorem c_law12_SeqMapped {h:Heap} {q:GV} {g:Gr} (t:GrAt h q g) (lse:Bool) (ht:TabAt h) :
  Con Tryd.prog 11 #[.agg (gcells q g).toArray,.bool lse] h fun v h'=>Fr 0 0 h h'∧v=.bool true:=by
 refine con_q26 ?_
 have hz:0<h.size:=hcell_lt (ht 0 0 rfl)
 have p0:Fr 0 0 h h:=.refl _ _ _
 unfold gcells
 simp -dsimp only [go_sem]
 intro b1 h1 n1
 have n1_z:=n1.az
 replace p0:=p0.F n1.f0
 have r1:=n1.row
 simp -dsimp only [go_sem,r1.cell]
 refine call_of (seq_Mapped (t.fr p0) lse (by omega)) ?_
 rintro v2 h2 ⟨f2,w2⟩
 have f2_z:=f2.size
 replace p0:=p0.F f2
 replace r1:=r1.F f2
 by_cases hc:(g.check false).1=0
 rotate_left
 ·simp only [if_neg hc] at w2
  subst w2
  unfold nil8
  simp -dsimp only [go_sem,r1.cell]
  intro b3 h3 n3
  have n3_a:=n3.at_
  have n3_z:=n3.size
  replace p0:=p0.F n3.f0
  replace r1:=r1.F n3.f0
  have r3:=n3.row
  simp -dsimp only [go_sem,r1.cell,r3.cell]
  refine Chk_intro (r3.W) fun h4 s4=>?_
  have s4_z:=s4.size
  replace p0:=p0.F s4.fr
  replace r1:=r1.F s4.fr
  replace r3:=s4.row r3
  try simp only [cl_int,cl_bool,cl_slice,cl_ptr,putAt_one,zs0,zs1,ivec_set,brow_upd] at r3
  try simp -dsimp only [go_sem] at r3
  simp -dsimp only [go_sem,r1.cell,r3.cell]
  refine call_of (rc11_Check (t.fr p0) (ht.fr p0 (.inr rfl))) ?_
  rintro v5 h5 ⟨f5,w5⟩
  have f5_z:=f5.size
  replace p0:=p0.F f5
  replace r1:=r1.F f5
  replace r3:=r3.F f5
  simp only [if_neg hc] at w5
  subst w5
  simp -dsimp only [go_sem,r1.cell,r3.cell]
  refine call_of (law12_lives (ht.fr p0 (.inr rfl))) ?_
  rintro v6 h6 ⟨f6,rfl⟩
  have f6_z:=f6.size
  replace p0:=p0.F f6
  replace r1:=r1.F f6
  replace r3:=r3.F f6
  simp -dsimp only [go_sem,r1.cell,r3.cell]
  exact p0
 simp only [if_pos hc] at w2
 obtain ⟨q',rfl,w⟩:=w2
 have t':=w.at_
 clear w
 have p2:Fr 0 0 h2 h2:=.refl _ _ _
 unfold gcells
 simp -dsimp only [go_sem,r1.cell]
 intro b3 h3 n3
 have n3_a:=n3.at_
 have n3_z:=n3.size
 replace p0:=p0.F n3.f0
 replace r1:=r1.F n3.f0
 replace p2:=p2.F n3.f0
 have r3:=n3.row
 simp -dsimp only [go_sem,r1.cell,r3.cell]
 refine Chk_intro (r3.W) fun h4 s4=>?_
 have s4_z:=s4.size
 replace p0:=p0.F s4.fr
 replace r1:=r1.F s4.fr
 replace p2:=p2.F s4.fr
 replace r3:=s4.row r3
 try simp only [cl_int,cl_bool,cl_slice,cl_ptr,putAt_one,zs0,zs1,ivec_set,brow_upd] at r3
 try simp -dsimp only [go_sem] at r3
 simp -dsimp only [go_sem,r1.cell,r3.cell]
 refine call_of (rc11_Check (t.fr p0) (ht.fr p0 (.inr rfl))) ?_
 rintro v5 h5 ⟨f5,w5⟩
 have f5_z:=f5.size
 replace p0:=p0.F f5
 replace r1:=r1.F f5
 replace p2:=p2.F f5
 replace r3:=r3.F f5
 simp only [if_pos hc] at w5
 obtain ⟨u5,rfl,-⟩:=w5
 simp -dsimp only [go_sem,r1.cell,r3.cell]
 have hm:=map_good (lse:=lse) hc
 have hmg:(mapG g lse).good=true:=by unfold Gr.good;rw [hm];simp
 refine call_of (arm_Check (t'.fr p2) (ht.fr p0 (.inr rfl))) ?_
 rintro v6 h6 ⟨f6,w6⟩
 have f6_z:=f6.size
 replace p0:=p0.F f6
 replace r1:=r1.F f6
 replace p2:=p2.F f6
 replace r3:=r3.F f6
 simp only [if_pos hm] at w6
 obtain ⟨u6,rfl,-⟩:=w6
 simp -dsimp only [go_sem,r1.cell,r3.cell]
 refine call_of (seq_Sc (t.fr p0) (ht.fr p0 (.inr rfl))) ?_
 rintro v7 h7 ⟨f7,w7⟩
 have f7_z:=f7.size
 replace p0:=p0.F f7
 replace r1:=r1.F f7
 replace p2:=p2.F f7
 replace r3:=r3.F f7
 simp only [if_pos (good_false hc)] at w7
 obtain ⟨u7,rfl,-⟩:=w7
 simp -dsimp only [go_sem,r1.cell,r3.cell]
 refine call_of (seq_Sc (t'.fr p2) (ht.fr p0 (.inr rfl))) ?_
 rintro v8 h8 ⟨f8,w8⟩
 have f8_z:=f8.size
 replace p0:=p0.F f8
 replace r1:=r1.F f8
 replace p2:=p2.F f8
 replace r3:=r3.F f8
 simp only [if_pos hmg,map_sc] at w8
 obtain ⟨u8,rfl,-⟩:=w8
 by_cases hd:(armAx (mapG g lse)).1=0
 ·have hr:=map_arm_rc hc hd
  by_cases ha:(scAx g).1=0
  ·simp -dsimp only [go_sem,bne_self_eq_false,bne_t hd,beq_t hr,bne_t ha,beq_t hd,r1.cell,r3.cell]
   refine call_of (law12_lives (ht.fr p0 (.inr rfl))) ?_
   rintro v9 h9 ⟨f9,rfl⟩
   have f9_z:=f9.size
   replace p0:=p0.F f9
   replace r1:=r1.F f9
   replace p2:=p2.F f9
   replace r3:=r3.F f9
   simp -dsimp only [go_sem,r1.cell,r3.cell]
   exact p0
  ·simp -dsimp only [go_sem,bne_self_eq_false,bne_t hd,beq_t hr,bne_f ha,r1.cell,r3.cell]
   refine call_of (law12_lives (ht.fr p0 (.inr rfl))) ?_
   rintro v9 h9 ⟨f9,rfl⟩
   have f9_z:=f9.size
   replace p0:=p0.F f9
   replace r1:=r1.F f9
   replace p2:=p2.F f9
   replace r3:=r3.F f9
   simp -dsimp only [go_sem,r1.cell,r3.cell]
   exact p0
 ·have ha:¬ (scAx g).1=0:=fun h0=>hd (map_sc_arm hc h0)
  simp -dsimp only [go_sem,bne_self_eq_false,bne_f hd,bne_f ha,r1.cell,r3.cell]
  refine call_of (law12_lives (ht.fr p0 (.inr rfl))) ?_
  rintro v9 h9 ⟨f9,rfl⟩
  have f9_z:=f9.size
  replace p0:=p0.F f9
  replace r1:=r1.F f9
  replace p2:=p2.F f9
  replace r3:=r3.F f9
  simp -dsimp only [go_sem,r1.cell,r3.cell]
  exact p0
end Go.Proofs.Tst
/-
  SeqMapped and its arguments.
-/
namespace Go.Proofs.Tst
end Go.Proofs.Tst
