/-
  Contracts of functions that the law reaches: what each returns and what it leaves in memory. Conditions stand in each.
-/
import Derived.Test.YtmcghihgeibgpaaDoorT6
set_option linter.all false
set_option maxRecDepth 2000
/-
  What ARMv8's relations keep of any graph (plain).
-/
namespace Go.Proofs.Tst
open Go Go.Vc
def Th (g:Gr) (i j:Nat):Prop:=(g.ev i).thread=(g.ev j).thread
theorem po_th {g:Gr} {i j:Nat} (h:relM g 0 i j=true):Th g i j∧0≤(g.ev i).thread∧i<j∧j<g.n:=by
 have h':g.before (i:Int) (j:Int)=true:=h
 have h2:=before_nat h'
 unfold Gr.before at h'
 simp only [Bool.and_eq_true,decide_eq_true_eq,beq_iff_eq,Int.toNat_natCast] at h'
 exact ⟨h'.2,h'.1.2,h2⟩
theorem rf_pair {g:Gr} {words:Bool} (h:(g.check words).1=0) {p:Int×Int} (hp:p∈g.rf):∃ w r:Nat,p=((w:Int),(r:Int))∧w<g.n∧r<g.n∧(g.ev w).kind=2∧(g.ev r).kind=1∧(g.ev w).loc=(g.ev r).loc∧0≤(g.ev w).loc:=by
 obtain ⟨hs,h2,h3,h4,-⟩:=check_zero h
 have key:∀ (d r k:Nat),r+d=g.n→¬ 0≤g.rfGo d r k→∀ p∈g.rf.drop k,∃ r:Nat,r<g.n∧p.2=(r:Int)∧(g.ev r).kind=1∧g.is p.1 2=true∧(g.ev p.1.toNat).loc=(g.ev r).loc:=by
  intro d
  induction d with
  | zero =>
   intro r k hr h p hp
   have hk:g.rf.length≤k:=by
    unfold Gr.rfGo at h
    split at h
    ·omega
    ·omega
   rw [List.drop_eq_nil_of_le hk] at hp
   cases hp
  | succ d ih =>
   intro r k hr h p hp
   by_cases hkd:(g.ev r).kind=1
   ·cases hb:g.rfBad r k
    ·rw [rfGo_ok hkd hb] at h
     unfold Gr.rfBad at hb
     cases hq:g.rf[k]? with
     | none=>rw [hq] at hb;cases hb
     | some q =>
      rw [hq] at hb
      simp only [Bool.or_eq_false_iff,Bool.not_eq_false',beq_iff_eq] at hb
      obtain ⟨⟨⟨hb1,hb2⟩,hb3⟩,-⟩:=hb
      have hkl:=(List.getElem?_eq_some_iff.1 hq).1
      have hdr:g.rf.drop k=q :: g.rf.drop (k+1):=by rw [List.drop_eq_getElem_cons hkl];congr 1;exact (List.getElem?_eq_some_iff.1 hq).2
      rw [hdr] at hp
      rcases List.mem_cons.1 hp with rfl | hp
      ·exact ⟨r,by omega,hb1,hkd,hb2,hb3⟩
      ·exact ih (r+1) (k+1) (by omega) h p hp
    ·rw [rfGo_bad hkd hb] at h;omega
   ·rw [rfGo_skip hkd] at h
    exact ih (r+1) k (by omega) h p hp
 obtain ⟨r,h5,h6,h7,h8,h9⟩:=key g.n 0 0 (by omega) h4 p (by rw [List.drop_zero];exact hp)
 obtain ⟨l1,l2,l3⟩:=is_lt h8
 refine ⟨p.1.toNat,r,Prod.ext (by dsimp only;omega) h6,by omega,h5,l3,h7,h9,write_loc hs h2 h3 _ (by omega) l3⟩
end Go.Proofs.Tst
/-
  A graph with weaker modes and fewer pairs (plain).
-/
namespace Go.Proofs.Tst
open Go Go.Vc
def weakM (m m':Int):Prop:=m'=m∨(m=12∧m'=16)∨((m=12∨m=13∨m=16)∧m'=11)∨(m=15∧m'=14)
structure Weak (g h:Gr):Prop where
 cells:h.cells=g.cells
 len:h.n=g.n
 rf:h.rf=g.rf
 co:h.co=g.co
 rmw:h.rmw=g.rmw
 thr:∀ i,(h.ev i).thread=(g.ev i).thread
 kind:∀ i,(h.ev i).kind=(g.ev i).kind
 loc:∀ i,(h.ev i).loc=(g.ev i).loc
 val:∀ i,(h.ev i).val=(g.ev i).val
 mode:∀ i,weakM (g.ev i).mode (h.ev i).mode
 addr:h.addr.Sublist g.addr
 data:h.data.Sublist g.data
 ctrl:h.ctrl.Sublist g.ctrl
theorem firstEv_all {f:Nat→Bool}:∀ (d i:Nat),(∀ j,i≤j→j<i+d→f j=false)→¬ 0≤Gr.firstEv f d i
 | 0,i,_=>by unfold Gr.firstEv;omega
 | d+1,i,h=>by
  rw [firstEv_ok (h i (Nat.le_refl _) (by omega))]
  exact firstEv_all d (i+1) fun j h1 h2=>h j (by omega) (by omega)
namespace Weak
variable {g h : Gr}
theorem size (w:Weak g h):h.size=g.size:=by unfold Gr.size;rw [w.cells,w.len]
theorem is (w:Weak g h) (i k:Int):h.is i k=g.is i k:=by unfold Gr.is;rw [w.len,w.kind]
theorem before (w:Weak g h) (a b:Int):h.before a b=g.before a b:=by unfold Gr.before;rw [w.len,w.thr,w.thr]
theorem isNext (w:Weak g h) (a b:Int):h.isNext a b=g.isNext a b:=by unfold Gr.isNext;simp only [w.before,w.thr]
theorem writesOf (w:Weak g h) (c:Int):h.writesOf c=g.writesOf c:=by rw [writesOf_range,writesOf_range];simp only [w.len,w.kind,w.loc]
theorem rfBad (w:Weak g h) (r k:Nat):h.rfBad r k=g.rfBad r k:=by unfold Gr.rfBad;simp only [w.rf,w.is,w.loc,w.val]
theorem rfGo (w:Weak g h):∀ d r k,h.rfGo d r k=g.rfGo d r k
 | 0,r,k=>by unfold Gr.rfGo;rw [w.rf]
 | d+1,r,k=>by unfold Gr.rfGo;simp only [w.kind,w.rfBad,w.rfGo d]
theorem rfAt (w:Weak g h):h.rfAt=g.rfAt:=by unfold Gr.rfAt;rw [w.rfGo,w.len]
theorem coBad (w:Weak g h) (c:Nat) (l:List Int):h.coBad c l=g.coBad c l:=by unfold Gr.coBad;simp only [w.writesOf,w.is,w.loc]
theorem coAt (w:Weak g h):h.coAt=g.coAt:=by unfold Gr.coAt Gr.coFirst Gr.lists;simp only [w.co,w.cells,w.coBad]
theorem rmwAt (w:Weak g h):h.rmwAt=g.rmwAt:=by
 unfold Gr.rmwAt
 rw [w.rmw]
 refine firstBad_congr fun j p _=>?_
 unfold Gr.rmwBad
 simp only [w.rmw,w.is,w.isNext,w.loc]
theorem modeOk (w:Weak g h) (i:Nat) (hk:Gr.modeOk true (g.ev i).kind (g.ev i).mode=true):Gr.modeOk true (h.ev i).kind (h.ev i).mode=true:=by
 have:=w.mode i
 rw [w.kind]
 unfold Gr.modeOk at hk ⊢
 simp only [if_true,Bool.or_eq_true,Bool.and_eq_true,beq_iff_eq] at hk ⊢
 unfold weakM at this
 omega
theorem evOk (w:Weak g h) (i:Nat) (hk:g.evOk true (g.ev i)=true):h.evOk true (h.ev i)=true:=by
 unfold Gr.evOk at hk ⊢
 simp only [Bool.and_eq_true] at hk ⊢
 obtain ⟨⟨⟨h1,h2⟩,h3⟩,h4⟩:=hk
 refine ⟨⟨⟨?_,?_⟩,w.modeOk i h3⟩,?_⟩
 ·rw [w.thr];exact h1
 ·rw [w.thr];exact h2
 ·rw [w.kind,w.loc,w.val,w.cells];exact h4
theorem first (w:Weak g h) (c:Nat) (hk:g.ev c=Gr.first true c):h.ev c=Gr.first true c:=by
 have h1:=w.thr c;have h2:=w.kind c;have h3:=w.loc c;have h4:=w.val c;have h5:=w.mode c
 rw [hk] at h1 h2 h3 h4 h5
 have h5':(h.ev c).mode=11:=by
  unfold weakM Gr.first at h5;simp only [if_true] at h5;omega
 have h6:(h.ev c).mode=(Gr.first true c).mode:=h5'
 generalize h.ev c=e at h1 h2 h3 h4 h6
 generalize Gr.first true c=e' at h1 h2 h3 h4 h6
 cases e;cases e'
 simp only at h1 h2 h3 h4 h6
 rw [h1,h2,h3,h4,h6]
end Weak
def Rises (l:List (Int×Int)):Prop:=l.Pairwise fun p q=>p.1<q.1∨p.1=q.1∧p.2<q.2
theorem rises_of:∀ {l:List (Int×Int)},(∀ i p q,l[i]?=some p→l[i+1]?=some q→p.1<q.1∨p.1=q.1∧p.2<q.2)→Rises l
 | [],_=>List.Pairwise.nil
 | [p],_=>List.pairwise_singleton _ _
 | p :: q :: l,h=>by
  have ih:Rises (q :: l):=rises_of fun i a b ha hb=>h (i+1) a b (by simpa using ha) (by simpa using hb)
  refine List.Pairwise.cons (fun x hx=>?_) ih
  have h0:=h 0 p q rfl rfl
  rcases List.mem_cons.1 hx with rfl | hx
  ·exact h0
  ·have:=(List.pairwise_cons.1 ih).1 x hx
   omega
theorem rises_at {l:List (Int×Int)} (h:Rises l) {i:Nat} {p q:Int×Int} (hp:l[i]?=some p) (hq:l[i+1]?=some q):p.1<q.1∨p.1=q.1∧p.2<q.2:=by
 obtain ⟨h1,e1⟩:=List.getElem?_eq_some_iff.1 hp
 obtain ⟨h2,e2⟩:=List.getElem?_eq_some_iff.1 hq
 have:=List.pairwise_iff_getElem.1 h i (i+1) h1 h2 (by omega)
 rw [e1,e2] at this;exact this
theorem firstBad_get {f:Nat→Int×Int→Bool}:∀ {l:List (Int×Int)} {i:Nat},¬ 0≤Gr.firstBad f l i→∀ j p,l[j]?=some p→f (i+j) p=false
 | [],_,_,j,p,hp=>by simp at hp
 | q :: l,i,h,j,p,hp=>by
  cases hf:f i q
  ·rw [firstBad_ok hf] at h
   cases j with
   | zero=>simp at hp;subst hp;exact hf
   | succ j=>have:=firstBad_get h j p (by simpa using hp);rw [show i+(j+1)=i+1+j by omega];exact this
  ·rw [firstBad_bad hf] at h;omega
theorem firstBad_none {f:Nat→Int×Int→Bool}:∀ {l:List (Int×Int)} {i:Nat},(∀ j p,l[j]?=some p→f (i+j) p=false)→¬ 0≤Gr.firstBad f l i
 | [],_,_=>by unfold Gr.firstBad;omega
 | q :: l,i,h=>by
  rw [firstBad_ok (by have:=h 0 q rfl;exact this)]
  exact firstBad_none fun j p hp=>by have:=h (j+1) p (by simpa using hp);rw [show i+1+j=i+(j+1) by omega];exact this
theorem dep_iff {g:Gr} {l:List (Int×Int)} {f:Int→Bool}:¬ 0≤g.depAt true l f↔Rises l∧∀ p∈l,g.is p.1 1=true∧g.before p.1 p.2=true∧f (g.ev p.2.toNat).kind=true:=by
 unfold Gr.depAt
 constructor
 ·intro h
  have hb:=firstBad_get h
  refine ⟨rises_of fun i p q hp hq=>?_,fun p hp=>?_⟩
  ·have:=hb (i+1) q hq
   unfold Gr.depBad at this
   simp only [Bool.or_eq_false_iff,Bool.and_eq_false_imp,decide_eq_true_eq] at this
   have h1:=this.1.1.1.1 (by omega)
   rw [Nat.zero_add,Nat.add_sub_cancel,List.getD_eq_getElem?_getD,hp,Option.getD_some] at h1
   simp only [decide_eq_false_iff_not,beq_iff_eq] at h1
   obtain ⟨h1,h2⟩:=h1
   by_cases he:q.1=p.1
   ·have:=h2 he;right;exact ⟨he.symm,by omega⟩
   ·left;omega
  ·obtain ⟨j,hj⟩:=List.mem_iff_getElem?.1 hp
   have:=hb j p hj
   unfold Gr.depBad at this
   simp only [Bool.or_eq_false_iff,Bool.not_eq_false'] at this
   exact ⟨this.1.1.2,this.1.2,this.2⟩
 ·rintro ⟨hr,hp⟩
  refine firstBad_none fun j p hj=>?_
  obtain ⟨h1,h2,h3⟩:=hp p (List.mem_of_getElem? hj)
  unfold Gr.depBad
  rw [h1,h2,h3]
  simp only [Bool.not_true,Bool.or_false]
  by_cases h0:0<0+j
  ·obtain ⟨i,rfl⟩:∃ i,j=i+1:=⟨j - 1,by omega⟩
   have hlt:=(List.getElem?_eq_some_iff.1 hj).1
   have hi:l[i]?=some l[i]:=List.getElem?_eq_getElem (by omega)
   have:=rises_at hr hi hj
   rw [Nat.zero_add,Nat.add_sub_cancel,List.getD_eq_getElem?_getD,hi,Option.getD_some]
   have e1:decide (p.1<l[i].1)=false:=by simp;omega
   rw [e1]
   by_cases he:p.1=l[i].1
   ·have e2:decide (p.2≤l[i].2)=false:=by simp;omega
    rw [e2];simp
   ·have:(p.1==l[i].1)=false:=by simpa using he
    rw [this];simp
  ·have:decide (0<0+j)=false:=by simpa using h0
   rw [this];rfl
namespace Weak
variable {g h : Gr}
theorem dep (w:Weak g h) {l l':List (Int×Int)} {f:Int→Bool} (hs:l'.Sublist l) (hd:¬ 0≤g.depAt true l f):¬ 0≤h.depAt true l' f:=by
 obtain ⟨h1,h2⟩:=dep_iff.1 hd
 refine dep_iff.2 ⟨h1.sublist hs,fun p hp=>?_⟩
 obtain ⟨a,b,c⟩:=h2 p (hs.subset hp)
 rw [w.is,w.before,w.kind];exact ⟨a,b,c⟩
theorem check (w:Weak g h) (hg:(g.check true).1=0):(h.check true).1=0:=by
 obtain ⟨h1,h2,h3,h4,h5,h6,h7,h8,h9⟩:=check_zero hg
 have k2:¬ 0≤h.initAt true:=by
  unfold Gr.initAt at h2 ⊢
  refine firstEv_all _ _ fun j hj hj'=>?_
  rw [w.cells] at hj'
  have:=firstEv_neg _ _ h2 j hj hj'
  simp only [Bool.not_eq_false',beq_iff_eq] at this ⊢
  exact w.first j this
 have k3:¬ 0≤h.evAt true:=by
  unfold Gr.evAt at h3 ⊢
  refine firstEv_all _ _ fun j hj hj'=>?_
  rw [w.cells] at hj hj'
  rw [w.len] at hj'
  have:=firstEv_neg _ _ h3 j hj hj'
  simp only [Bool.not_eq_false'] at this ⊢
  exact w.evOk j this
 unfold Gr.check
 rw [w.size,h1,if_neg (by simp),if_neg k2,if_neg k3,if_neg (by rw [w.rfAt];exact h4),if_neg (by rw [w.coAt];exact h5),if_neg (by rw [w.rmwAt];exact h6),if_neg (w.dep w.addr h7),if_neg (w.dep w.data h8),if_neg (w.dep w.ctrl h9)]
theorem po (w:Weak g h) (i j:Nat):relM h 0 i j=relM g 0 i j:=w.before i j
theorem relRf (w:Weak g h) (i j:Nat):relM h 1 i j=relM g 1 i j:=by show ofM h.n h.rf i j=ofM g.n g.rf i j;rw [w.len,w.rf]
theorem relCo (w:Weak g h) (i j:Nat):relM h 2 i j=relM g 2 i j:=by show ofM h.n (coPairs h) i j=ofM g.n (coPairs g) i j;unfold coPairs;rw [w.len,w.co]
theorem relRmw (w:Weak g h) (i j:Nat):relM h 3 i j=relM g 3 i j:=by show ofM h.n h.rmw i j=ofM g.n g.rmw i j;rw [w.len,w.rmw]
theorem relSame (w:Weak g h) (i j:Nat):relM h 4 i j=relM g 4 i j:=by show h.sameM i j=g.sameM i j;unfold Gr.sameM;rw [w.loc,w.loc]
theorem relExt (w:Weak g h) (i j:Nat):relM h 5 i j=relM g 5 i j:=by show h.extM i j=g.extM i j;unfold Gr.extM;rw [w.thr,w.thr]
theorem relFr (w:Weak g h) (i j:Nat):relM h 9 i j=relM g 9 i j:=by
 show compM h.n (invM (ofM h.n h.rf)) h.n (ofM h.n (coPairs h)) i j=compM g.n (invM (ofM g.n g.rf)) g.n (ofM g.n (coPairs g)) i j
 unfold coPairs;rw [w.len,w.rf,w.co]
theorem ofSub {n:Nat} {l l':List (Int×Int)} (hs:l'.Sublist l) {i j:Nat} (hm:ofM n l' i j=true):ofM n l i j=true:=by
 unfold ofM at hm ⊢
 rw [List.any_eq_true] at hm ⊢
 obtain ⟨p,hp,hm⟩:=hm
 exact ⟨p,hs.subset hp,hm⟩
theorem relDep (w:Weak g h) {k:Nat} (hk:k=6∨k=7∨k=8) {i j:Nat} (hm:relM h k i j=true):relM g k i j=true:=by
 rcases hk with rfl | rfl | rfl
 ·exact ofSub w.addr (by rw [← w.len];exact hm)
 ·exact ofSub w.data (by rw [← w.len];exact hm)
 ·exact ofSub w.ctrl (by rw [← w.len];exact hm)
theorem rfi (w:Weak g h) (i j:Nat):rfiM h i j=rfiM g i j:=by unfold rfiM;rw [w.relRf,w.relExt]
theorem coi (w:Weak g h) (i j:Nat):coiM h i j=coiM g i j:=by unfold coiM;rw [w.relCo,w.relExt]
theorem coe (w:Weak g h) (i j:Nat):coeM h i j=coeM g i j:=by unfold coeM;rw [w.relCo,w.relExt]
theorem fre (w:Weak g h) (i j:Nat):freM h i j=freM g i j:=by unfold freM;rw [w.relFr,w.relExt]
theorem rfe (w:Weak g h) (i j:Nat):rfeM h i j=rfeM g i j:=by unfold rfeM;rw [w.relRf,w.relExt]
theorem obs (w:Weak g h) (i j:Nat):obsM h i j=obsM g i j:=by unfold obsM;rw [w.rfe,w.coe,w.fre]
theorem torn (w:Weak g h) (p:Int×Int):tornB h p=tornB g p:=by unfold tornB;simp only [w.len,w.fre,w.coe]
theorem isK' (w:Weak g h) (k:Int) (i:Nat):isK h k i=isK g k i:=by unfold isK;rw [w.kind]
theorem isM' (w:Weak g h) {m:Int} (hm:m=12∨m=13∨m=15) {i:Nat} (h1:isM h m i=true):isM g m i=true:=by
 have:=w.mode i
 unfold isM at h1 ⊢
 simp only [beq_iff_eq] at h1 ⊢
 unfold weakM at this
 omega
theorem acq (w:Weak g h) {i:Nat} (h1:acqB h i=true):acqB g i=true:=by
 have:=w.mode i
 unfold acqB isM at h1 ⊢
 simp only [Bool.or_eq_true,beq_iff_eq] at h1 ⊢
 unfold weakM at this
 omega
theorem ld (w:Weak g h) {i:Nat} (h1:isM h 14 i=true):isM g 14 i=true∨isM g 15 i=true:=by
 have:=w.mode i
 unfold isM at h1 ⊢
 simp only [beq_iff_eq] at h1 ⊢
 unfold weakM at this
 omega
theorem dob (w:Weak g h) {i j:Nat} (hd:dobM h i j=true):dobM g i j=true:=by
 unfold dobM at hd ⊢
 simp only [Bool.or_eq_true,Bool.and_eq_true,exB_true,w.po,w.rfi,w.coi,w.isK',w.len] at hd ⊢
 have d6:∀ {i j},relM h 6 i j=true→relM g 6 i j=true:=fun x=>w.relDep (by decide) x
 have d7:∀ {i j},relM h 7 i j=true→relM g 7 i j=true:=fun x=>w.relDep (by decide) x
 have d8:∀ {i j},relM h 8 i j=true→relM g 8 i j=true:=fun x=>w.relDep (by decide) x
 rcases hd with ((((hd | hd) | ⟨hd,he⟩) | ⟨⟨k,hk,h1,h2⟩,h3⟩) | ⟨k,hk,h1,h2⟩) | ⟨k,hk,h1,h2⟩
 ·exact .inl (.inl (.inl (.inl (.inl (d6 hd)))))
 ·exact .inl (.inl (.inl (.inl (.inr (d7 hd)))))
 ·exact .inl (.inl (.inl (.inr ⟨d8 hd,he⟩)))
 ·exact .inl (.inl (.inr ⟨⟨k,hk,d6 h1,h2⟩,h3⟩))
 ·exact .inl (.inr ⟨k,hk,h1.imp d8 d7,h2⟩)
 ·exact .inr ⟨k,hk,h1.imp d6 d7,h2⟩
theorem aob (w:Weak g h) {i j:Nat} (hd:aobM h i j=true):aobM g i j=true:=by
 have hl:lastB h i=lastB g i:=by unfold lastB;rw [w.rmw]
 unfold aobM at hd ⊢
 simp only [Bool.or_eq_true,Bool.and_eq_true,w.relRmw,w.rfi,hl] at hd ⊢
 exact hd.imp id fun ⟨h1,h2⟩=>⟨h1,w.acq h2⟩
theorem bob (w:Weak g h) {i j:Nat} (hd:bobM h i j=true):bobM g i j=true:=by
 unfold bobM at hd ⊢
 simp only [Bool.or_eq_true,Bool.and_eq_true,exB_true,w.po,w.coi,w.isK',w.len] at hd ⊢
 have m12:∀ {i},isM h 12 i=true→isM g 12 i=true:=fun x=>w.isM' (by decide) x
 have m13:∀ {i},isM h 13 i=true→isM g 13 i=true:=fun x=>w.isM' (by decide) x
 have m15:∀ {i},isM h 15 i=true→isM g 15 i=true:=fun x=>w.isM' (by decide) x
 rcases hd with ((((⟨k,hk,⟨h1,h3⟩,h2⟩ | ⟨k,hk,⟨⟨h4,h1⟩,h3⟩,h2⟩) | ⟨⟨h3,h1⟩,h4⟩) | ⟨h3,h1⟩) | ⟨h1,h3⟩) | ⟨k,hk,⟨h1,h3⟩,h2⟩
 ·exact .inl (.inl (.inl (.inl (.inl ⟨k,hk,⟨h1,m15 h3⟩,h2⟩))))
 ·rcases w.ld h3 with h3 | h3
  ·exact .inl (.inl (.inl (.inl (.inr ⟨k,hk,⟨⟨h4,h1⟩,h3⟩,h2⟩))))
  ·exact .inl (.inl (.inl (.inl (.inl ⟨k,hk,⟨h1,h3⟩,h2⟩))))
 ·exact .inl (.inl (.inl (.inr ⟨⟨m13 h3,h1⟩,m12 h4⟩)))
 ·exact .inl (.inl (.inr ⟨w.acq h3,h1⟩))
 ·exact .inl (.inr ⟨h1,m13 h3⟩)
 ·exact .inr ⟨k,hk,⟨h1,m13 h3⟩,h2⟩
theorem ob (w:Weak g h) {i j:Nat} (hd:obM h i j=true):obM g i j=true:=by
 unfold obM at hd ⊢
 simp only [Bool.or_eq_true,w.obs] at hd ⊢
 exact hd.imp (fun x=>x.imp (fun x=>x.imp id w.dob) w.aob) w.bob
end Weak
end Go.Proofs.Tst
/-
  The source's memory model: its relations, its check (plain).
-/
namespace Go.Proofs.Tst
open Go Go.Vc
def relB (g:Gr) (i:Nat):Bool:=(isK g 2 i||isK g 3 i)&&(isM g 3 i||isM g 4 i||isM g 5 i)
def acrB (g:Gr) (i:Nat):Bool:=(isK g 1 i||isK g 3 i)&&(isM g 2 i||isM g 4 i||isM g 5 i)
def escB (g:Gr) (i:Nat):Bool:=isM g 5 i&&(isK g 1 i||isK g 2 i)
def fscB (g:Gr) (i:Nat):Bool:=isM g 5 i&&isK g 3 i
def plocM (g:Gr) (i j:Nat):Bool:=relM g 0 i j&&relM g 4 i j
def rrM (g:Gr) (i j:Nat):Bool:=exB g.n fun k=>relM g 1 i k&&relM g 3 k j
def rsM (g:Gr) (i j:Nat):Bool:=isK g 2 i&&exB g.n fun m=>(plocM g i m||i==m)&&isK g 2 m&&(plusM g.n (rrM g) m j||m==j)
def swM (g:Gr) (i j:Nat):Bool:=relB g i&&(exB g.n fun a=>((isK g 3 i&&relM g 0 i a)||i==a)&&exB g.n fun b=>rsM g a b&&exB g.n fun c=>relM g 1 b c&&isK g 1 c&&((relM g 0 c j&&isK g 3 j)||c==j))&&acrB g j
def poswM (g:Gr) (i j:Nat):Bool:=relM g 0 i j||swM g i j
def hbM (g:Gr):Nat→Nat→Bool:=plusM g.n (poswM g)
def comM (g:Gr) (i j:Nat):Bool:=relM g 1 i j||relM g 2 i j||relM g 9 i j
def ecoM (g:Gr):Nat→Nat→Bool:=plusM g.n (comM g)
def otherM (g:Gr) (i j:Nat):Bool:=relM g 0 i j&&!relM g 4 i j
def scbM (g:Gr) (i j:Nat):Bool:=relM g 0 i j||(exB g.n fun a=>otherM g i a&&exB g.n fun b=>hbM g a b&&otherM g b j)||(hbM g i j&&relM g 4 i j)||relM g 2 i j||relM g 9 i j
def beginM (g:Gr) (i a:Nat):Bool:=(i==a&&escB g i)||(fscB g i&&(hbM g i a||i==a))
def endM (g:Gr) (b j:Nat):Bool:=(b==j&&escB g b)||((hbM g b j||b==j)&&fscB g j)
def baseM (g:Gr) (i j:Nat):Bool:=exB g.n fun a=>beginM g i a&&exB g.n fun b=>scbM g a b&&endM g b j
def hehM (g:Gr) (i j:Nat):Bool:=exB g.n fun a=>hbM g i a&&exB g.n fun b=>ecoM g a b&&hbM g b j
def pscfM (g:Gr) (i j:Nat):Bool:=fscB g i&&(hbM g i j||hehM g i j)&&fscB g j
def tornS (g:Gr) (p:Int×Int):Bool:=inR g.n p.1&&inR g.n p.2&&exB g.n fun k=>relM g 9 p.1.toNat k&&relM g 2 k p.2.toNat
def atomS (g:Gr):List Int:=match g.rmw.find? (tornS g) with | some p=>[p.1,p.2] | none=>[]
def natsI (l:List Nat):List Int:=l.map fun (x:Nat)=>(x:Int)
theorem atomS_nil {g:Gr}:atomS g=[]↔∀ p∈g.rmw,tornS g p=false:=by
 unfold atomS
 cases hf:g.rmw.find? (tornS g) with
 | none =>
  rw [List.find?_eq_none] at hf
  simp only [true_iff]
  exact fun p hp=>by have:=hf p hp;simpa using this
 | some p =>
  have h3:=List.find?_some hf
  have h4:=List.mem_of_find?_eq_some hf
  simp only []
  constructor
  ·intro h;exact absurd h (by simp)
  ·intro h5;rw [h5 p h4] at h3;cases h3
end Go.Proofs.Tst
/-
  What RC11's relations keep of any graph (plain).
-/
namespace Go.Proofs.Tst
open Go Go.Vc
theorem sw_spec {g:Gr} {i j:Nat}:swM g i j=true↔relB g i=true∧acrB g j=true∧∃ a,a<g.n∧((isK g 3 i=true∧relM g 0 i a=true)∨i=a)∧∃ b,b<g.n∧rsM g a b=true∧∃ c,c<g.n∧relM g 1 b c=true∧isK g 1 c=true∧((relM g 0 c j=true∧isK g 3 j=true)∨c=j):=by
 unfold swM
 simp only [Bool.and_eq_true,Bool.or_eq_true,exB_true,beq_iff_eq]
 constructor
 ·rintro ⟨⟨h1,a,ha,h2,b,hb,h3,c,hc,⟨h4,h5⟩,h6⟩,h7⟩
  exact ⟨h1,h7,a,ha,h2,b,hb,h3,c,hc,h4,h5,h6⟩
 ·rintro ⟨h1,h7,a,ha,h2,b,hb,h3,c,hc,h4,h5,h6⟩
  exact ⟨⟨h1,a,ha,h2,b,hb,h3,c,hc,⟨h4,h5⟩,h6⟩,h7⟩
theorem isK_iff {g:Gr} {k:Int} {i:Nat}:isK g k i=true↔(g.ev i).kind=k:=by unfold isK;simp
theorem isM_iff {g:Gr} {k:Int} {i:Nat}:isM g k i=true↔(g.ev i).mode=k:=by unfold isM;simp
theorem relB_iff {g:Gr} {i:Nat}:relB g i=true↔((g.ev i).kind=2∨(g.ev i).kind=3)∧((g.ev i).mode=3∨(g.ev i).mode=4∨(g.ev i).mode=5):=by
 unfold relB;simp only [Bool.and_eq_true,Bool.or_eq_true,isK_iff,isM_iff,or_assoc]
theorem acrB_iff {g:Gr} {i:Nat}:acrB g i=true↔((g.ev i).kind=1∨(g.ev i).kind=3)∧((g.ev i).mode=2∨(g.ev i).mode=4∨(g.ev i).mode=5):=by
 unfold acrB;simp only [Bool.and_eq_true,Bool.or_eq_true,isK_iff,isM_iff,or_assoc]
theorem src_thread {g:Gr} (h:(g.check false).1=0) {i:Nat} (hi:i<g.n):((g.ev i).thread = -1∧(g.ev i).kind=2∧(g.ev i).mode=1∧(i:Int)<g.cells∧(g.ev i).loc=(i:Int))∨(0≤(g.ev i).thread∧g.cells≤(i:Int)):=by
 obtain ⟨hs,h2,h3,-⟩:=check_zero h
 simp only [Gr.size,Bool.and_eq_true,decide_eq_true_eq] at hs
 by_cases hc:i<g.cells.toNat
 ·have:=firstEv_neg _ _ h2 i (by omega) (by omega)
  simp only [Bool.not_eq_false',beq_iff_eq] at this
  left;rw [this];unfold Gr.first;exact ⟨rfl,rfl,rfl,by omega,rfl⟩
 ·have:=firstEv_neg _ _ h3 i (by omega) (by omega)
  simp only [Bool.not_eq_false'] at this
  unfold Gr.evOk at this
  simp only [Bool.and_eq_true,decide_eq_true_eq] at this
  right;exact ⟨this.1.1.1,by omega⟩
theorem ofM_in {n:Nat} {l:List (Int×Int)} {i j:Nat} (h:ofM n l i j=true):i<n∧j<n:=by
 have hm:=ofM_mem' h
 unfold ofM at h
 rw [List.any_eq_true] at h
 obtain ⟨p,hp,h⟩:=h
 simp only [Bool.and_eq_true,beq_iff_eq] at h
 obtain ⟨⟨⟨h1,h2⟩,h3⟩,h4⟩:=h
 unfold inR at h1 h2
 simp only [Bool.and_eq_true,decide_eq_true_eq] at h1 h2
 omega
end Go.Proofs.Tst
/-
  A source graph with weaker modes (plain).
-/
namespace Go.Proofs.Tst
open Go Go.Vc
def wkR (k a b:Int):Prop:=a=b∨(k=1∧(a=1∧(b=2∨b=5)∨a=2∧b=5))∨(k=2∧(a=1∧(b=3∨b=5)∨a=3∧b=5))∨(k≠1∧k≠2∧(b=5∨b=4∧(a=2∨a=3)))
structure WeakR (g h:Gr):Prop where
 len:h.n=g.n
 rf:h.rf=g.rf
 co:h.co=g.co
 rmw:h.rmw=g.rmw
 thr:∀ i,(h.ev i).thread=(g.ev i).thread
 kind:∀ i,(h.ev i).kind=(g.ev i).kind
 loc:∀ i,(h.ev i).loc=(g.ev i).loc
 mode:∀ i,wkR (g.ev i).kind (h.ev i).mode (g.ev i).mode
namespace WeakR
variable {g h : Gr}
theorem before (w:WeakR g h) (a b:Int):h.before a b=g.before a b:=by unfold Gr.before;rw [w.len,w.thr,w.thr]
theorem po (w:WeakR g h):relM h 0=relM g 0:=by funext i j;exact w.before i j
theorem relRf (w:WeakR g h):relM h 1=relM g 1:=by show ofM h.n h.rf=ofM g.n g.rf;rw [w.len,w.rf]
theorem relCo (w:WeakR g h):relM h 2=relM g 2:=by show ofM h.n (coPairs h)=ofM g.n (coPairs g);unfold coPairs;rw [w.len,w.co]
theorem relRmw (w:WeakR g h):relM h 3=relM g 3:=by show ofM h.n h.rmw=ofM g.n g.rmw;rw [w.len,w.rmw]
theorem relSame (w:WeakR g h):relM h 4=relM g 4:=by funext i j;show h.sameM i j=g.sameM i j;unfold Gr.sameM;rw [w.loc,w.loc]
theorem relFr (w:WeakR g h):relM h 9=relM g 9:=by
 show compM h.n (invM (ofM h.n h.rf)) h.n (ofM h.n (coPairs h))=compM g.n (invM (ofM g.n g.rf)) g.n (ofM g.n (coPairs g))
 unfold coPairs;rw [w.len,w.rf,w.co]
theorem isK (w:WeakR g h) (k:Int):Tst.isK h k=Tst.isK g k:=by funext i;unfold Tst.isK;rw [w.kind]
theorem rel (w:WeakR g h) {i:Nat} (hr:relB h i=true):relB g i=true:=by
 have:=w.kind i
 rw [relB_iff] at hr ⊢
 have h2:=w.mode i
 unfold wkR at h2
 omega
theorem acr (w:WeakR g h) {i:Nat} (hr:acrB h i=true):acrB g i=true:=by
 have:=w.kind i
 rw [acrB_iff] at hr ⊢
 have h2:=w.mode i
 unfold wkR at h2
 omega
theorem esc (w:WeakR g h) {i:Nat} (hr:escB h i=true):escB g i=true:=by
 have:=w.kind i
 unfold escB at hr ⊢
 simp only [Bool.and_eq_true,Bool.or_eq_true,isK_iff,isM_iff] at hr ⊢
 have h2:=w.mode i
 unfold wkR at h2
 omega
theorem rs (w:WeakR g h):rsM h=rsM g:=by
 have e1:plocM h=plocM g:=by funext i j;unfold plocM;rw [w.po,w.relSame]
 have e2:rrM h=rrM g:=by funext i j;unfold rrM;rw [w.relRf,w.relRmw,w.len]
 funext i j;unfold rsM;rw [w.isK,w.len,e1,e2]
theorem sw (w:WeakR g h) {i j:Nat} (hs:swM h i j=true):swM g i j=true:=by
 obtain ⟨h1,h2,h3⟩:=sw_spec.1 hs
 rw [w.isK,w.isK,w.po,w.rs,w.relRf,w.len] at h3
 exact sw_spec.2 ⟨w.rel h1,w.acr h2,h3⟩
theorem plus_mono {n:Nat} {M N:Nat→Nat→Bool} (hM:∀ i j,i<n→j<n→M i j=true→N i j=true) {i j:Nat} (hi:i<n) (hj:j<n) (h:plusM n M i j=true):plusM n N i j=true:=
 plus_least (N:=fun x y=>plusM n N x y=true) (fun i j hi hj hr=>plus_sub (hM i j hi hj hr)) (fun _ _ _ _ hx _ h1 h2=>plus_trans hx h1 h2) hi hj h
theorem hb (w:WeakR g h) {i j:Nat} (hi:i<g.n) (hj:j<g.n) (hs:hbM h i j=true):hbM g i j=true:=by
 unfold hbM at hs ⊢
 rw [w.len] at hs
 refine plus_mono (fun i j _ _ hr=>?_) hi hj hs
 unfold poswM at hr ⊢
 rw [w.po,Bool.or_eq_true] at hr
 rw [Bool.or_eq_true]
 exact hr.imp id w.sw
theorem other (w:WeakR g h):otherM h=otherM g:=by funext i j;unfold otherM;rw [w.po,w.relSame]
end WeakR
end Go.Proofs.Tst
/-
  Graphs that differ by the numbers of their events alone (plain).
-/
namespace Go.Proofs.Tst
open Go Go.Vc
structure Iso (n:Nat) (s t:Nat→Nat):Prop where
 ls:∀ k,k<n→s k<n
 lt:∀ k,k<n→t k<n
 st:∀ k,k<n→s (t k)=k
 ts:∀ k,k<n→t (s k)=k
section
variable {n : Nat} {s t : Nat → Nat}
theorem Iso.inj (I:Iso n s t) {i j:Nat} (hi:i<n) (hj:j<n):(s i==s j)=(i==j):=by
 rw [Bool.eq_iff_iff,beq_iff_eq,beq_iff_eq]
 exact ⟨fun h=>by rw [← I.ts i hi,← I.ts j hj,h],fun h=>by rw [h]⟩
theorem Iso.exB (I:Iso n s t) {f f':Nat→Bool} (h:∀ k,k<n→f' (s k)=f k):Tst.exB n f'=Tst.exB n f:=by
 rw [Bool.eq_iff_iff,exB_true,exB_true]
 constructor
 ·rintro ⟨k,hk,hf⟩
  exact ⟨t k,I.lt k hk,by rw [← h _ (I.lt k hk),I.st k hk];exact hf⟩
 ·rintro ⟨k,hk,hf⟩
  exact ⟨s k,I.ls k hk,by rw [h k hk];exact hf⟩
def SameR (n:Nat) (s:Nat→Nat) (M' M:Nat→Nat→Bool):Prop:=∀ i j,i<n→j<n→M' (s i) (s j)=M i j
def SameB (n:Nat) (s:Nat→Nat) (f' f:Nat→Bool):Prop:=∀ i,i<n→f' (s i)=f i
theorem Iso.plus (I:Iso n s t) {M M':Nat→Nat→Bool} (h:SameR n s M' M):SameR n s (plusM n M') (plusM n M):=by
 intro i j hi hj
 rw [Bool.eq_iff_iff]
 constructor
 ·intro hp
  have:=plus_least (n:=n) (M:=M') (N:=fun x y=>plusM n M (t x) (t y)=true) (fun x y hx hy hm=>plus_sub (by
   rw [← h _ _ (I.lt x hx) (I.lt y hy),I.st x hx,I.st y hy];exact hm)) (fun _ x _ _ hx _ h1 h2=>plus_trans (I.lt x hx) h1 h2) (I.ls i hi) (I.ls j hj) hp
  rw [I.ts i hi,I.ts j hj] at this;exact this
 ·intro hp
  exact plus_least (n:=n) (M:=M) (N:=fun x y=>plusM n M' (s x) (s y)=true) (fun x y hx hy hm=>plus_sub (by rw [h x y hx hy];exact hm)) (fun _ x _ _ hx _ h1 h2=>plus_trans (I.ls x hx) h1 h2) hi hj hp
end
structure GIso (g h:Gr) (s t:Nat→Nat):Prop where
 n:h.n=g.n
 iso:Iso g.n s t
 r0:SameR g.n s (relM h 0) (relM g 0)
 r1:SameR g.n s (relM h 1) (relM g 1)
 r2:SameR g.n s (relM h 2) (relM g 2)
 r3:SameR g.n s (relM h 3) (relM g 3)
 r4:SameR g.n s (relM h 4) (relM g 4)
 kind:∀ i,i<g.n→(h.ev (s i)).kind=(g.ev i).kind
 mode:∀ i,i<g.n→(h.ev (s i)).mode=(g.ev i).mode
 rmw:∀ p:Int×Int,p∈h.rmw↔∃ a b:Nat,a<g.n∧b<g.n∧((a:Int),(b:Int))∈g.rmw∧p=((s a:Int),(s b:Int))
 rmwN:∀ p∈g.rmw,∃ a b:Nat,p=((a:Int),(b:Int))∧a<g.n∧b<g.n
namespace GIso
variable {g h : Gr} {s t : Nat → Nat}
theorem isK (w:GIso g h s t) (k:Int):SameB g.n s (Tst.isK h k) (Tst.isK g k):=fun i hi=>by unfold Tst.isK;rw [w.kind i hi]
theorem isM (w:GIso g h s t) (k:Int):SameB g.n s (Tst.isM h k) (Tst.isM g k):=fun i hi=>by unfold Tst.isM;rw [w.mode i hi]
theorem r9 (w:GIso g h s t):SameR g.n s (relM h 9) (relM g 9):=fun i j hi hj=>by
 show compM h.n (invM (relM h 1)) h.n (relM h 2) (s i) (s j)=compM g.n (invM (relM g 1)) g.n (relM g 2) i j
 rw [w.n]
 have e1:∀ (A B:Nat→Nat→Bool) (x y:Nat),x<g.n→y<g.n→compM g.n A g.n B x y=exB g.n fun k=>A x k&&B k y:=fun A B x y hx hy=>by
  show exB g.n (fun k=>inN g.n A x k&&inN g.n B k y)=_
  unfold exB
  rw [Bool.eq_iff_iff,List.any_eq_true,List.any_eq_true]
  exact ⟨fun ⟨k,hk,e⟩=>⟨k,hk,by rw [inN_in hx (List.mem_range.1 hk),inN_in (List.mem_range.1 hk) hy] at e;exact e⟩,fun ⟨k,hk,e⟩=>⟨k,hk,by rw [inN_in hx (List.mem_range.1 hk),inN_in (List.mem_range.1 hk) hy];exact e⟩⟩
 rw [e1 _ _ _ _ (w.iso.ls i hi) (w.iso.ls j hj),e1 _ _ _ _ hi hj]
 exact w.iso.exB fun k hk=>by
  show (relM h 1 (s k) (s i)&&relM h 2 (s k) (s j))=(relM g 1 k i&&relM g 2 k j)
  rw [w.r1 k i hk hi,w.r2 k j hk hj]
theorem rs (w:GIso g h s t):SameR g.n s (rsM h) (rsM g):=fun i j hi hj=>by
 have e1:SameR g.n s (rrM h) (rrM g):=fun a b ha hb=>by
  unfold rrM;rw [w.n]
  exact w.iso.exB fun k hk=>by rw [w.r1 a k ha hk,w.r3 k b hk hb]
 have e2:=w.iso.plus e1
 unfold rsM
 rw [w.n,w.isK 2 i hi]
 congr 1
 exact w.iso.exB fun k hk=>by
  unfold plocM
  rw [w.r0 i k hi hk,w.r4 i k hi hk,w.iso.inj hi hk,w.isK 2 k hk,e2 k j hk hj,w.iso.inj hk hj]
theorem sw (w:GIso g h s t):SameR g.n s (swM h) (swM g):=fun i j hi hj=>by
 have er:relB h (s i)=relB g i:=by unfold relB;rw [w.isK 2 i hi,w.isK 3 i hi,w.isM 3 i hi,w.isM 4 i hi,w.isM 5 i hi]
 have ea:acrB h (s j)=acrB g j:=by unfold acrB;rw [w.isK 1 j hj,w.isK 3 j hj,w.isM 2 j hj,w.isM 4 j hj,w.isM 5 j hj]
 unfold swM
 rw [er,ea,w.n]
 congr 2
 exact w.iso.exB fun a ha=>by
  rw [w.isK 3 i hi,w.r0 i a hi ha,w.iso.inj hi ha]
  congr 1
  exact w.iso.exB fun b hb=>by
   rw [w.rs a b ha hb]
   congr 1
   exact w.iso.exB fun c hc=>by
    rw [w.r1 b c hb hc,w.isK 1 c hc,w.r0 c j hc hj,w.isK 3 j hj,w.iso.inj hc hj]
theorem hb (w:GIso g h s t):SameR g.n s (hbM h) (hbM g):=by
 unfold hbM;rw [w.n]
 exact w.iso.plus fun i j hi hj=>by unfold poswM;rw [w.r0 i j hi hj,w.sw i j hi hj]
theorem esc (w:GIso g h s t):SameB g.n s (escB h) (escB g):=fun i hi=>by unfold escB;rw [w.isM 5 i hi,w.isK 1 i hi,w.isK 2 i hi]
theorem torn (w:GIso g h s t) {a b:Nat} (ha:a<g.n) (hb:b<g.n):tornS h ((s a:Int),(s b:Int))=tornS g ((a:Int),(b:Int)):=by
 have i1:∀ x:Nat,x<g.n→inR g.n (x:Int)=true:=fun x hx=>by unfold inR;simp;omega
 unfold tornS
 rw [w.n,i1 _ (w.iso.ls a ha),i1 _ (w.iso.ls b hb),i1 _ ha,i1 _ hb]
 simp only [Int.toNat_natCast,Bool.true_and]
 exact w.iso.exB fun k hk=>by rw [w.r9 a k ha hk,w.r2 k b hk hb]
end GIso
end Go.Proofs.Tst
/-
  What makes a graph well-formed, said of all its lists at once (plain).
-/
namespace Go.Proofs.Tst
open Go Go.Vc
def rfOk (g:Gr) (p:Int×Int):Bool:=g.is p.1 2&&(g.ev p.1.toNat).loc==(g.ev p.2.toNat).loc&&(g.ev p.1.toNat).val==(g.ev p.2.toNat).val
def readsFrom (g:Gr) (r d:Nat):List Int:=((List.range' r d).filter fun i=>(g.ev i).kind==1).map fun (i:Nat)=>(i:Int)
theorem rfGo_iff {g:Gr}:∀ (d r k:Nat),r+d=g.n→k≤g.rf.length→(¬ 0≤g.rfGo d r k↔(g.rf.drop k).map (·.2)=readsFrom g r d∧∀ p∈g.rf.drop k,rfOk g p=true)
 | 0,r,k,hr,hk=>by
  unfold Gr.rfGo
  by_cases h:k<g.rf.length
  ·rw [if_pos h]
   constructor
   ·intro h';omega
   ·rintro ⟨h',-⟩
    have:(g.rf.drop k).length=0:=by
     have:=congrArg List.length h'
     simpa [readsFrom] using this
    rw [List.length_drop] at this;omega
  ·rw [if_neg h,List.drop_eq_nil_of_le (by omega)]
   simp [readsFrom]
 | d+1,r,k,hr,hk=>by
  have hrs:readsFrom g r (d+1)=(if (g.ev r).kind=1 then [(r:Int)] else [])++readsFrom g (r+1) d:=by
   unfold readsFrom
   rw [List.range'_succ,List.filter_cons]
   by_cases h:(g.ev r).kind=1
   ·rw [if_pos h,if_pos (by simpa using h)];rfl
   ·rw [if_neg h,if_neg (by simpa using h)];rfl
  rw [hrs]
  by_cases hkd:(g.ev r).kind=1
  ·rw [if_pos hkd]
   by_cases hkl:k<g.rf.length
   ·have hq:g.rf[k]?=some g.rf[k]:=List.getElem?_eq_getElem hkl
    have hdr:g.rf.drop k=g.rf[k] :: g.rf.drop (k+1):=List.drop_eq_getElem_cons hkl
    generalize g.rf[k]=p at hq hdr
    rw [hdr]
    cases hb:g.rfBad r k
    ·rw [rfGo_ok hkd hb,rfGo_iff d (r+1) (k+1) (by omega) (by omega)]
     unfold Gr.rfBad at hb
     rw [hq] at hb
     simp only [Bool.or_eq_false_iff,Bool.not_eq_false',beq_iff_eq] at hb
     obtain ⟨⟨⟨hb1,hb2⟩,hb3⟩,hb4⟩:=hb
     have hok:rfOk g p=true:=by
      unfold rfOk
      rw [hb2,hb1,Int.toNat_natCast,hb3,hb4];simp
     constructor
     ·rintro ⟨h1,h2⟩
      refine ⟨by simp [hb1,h1],fun q hq'=>?_⟩
      rcases List.mem_cons.1 hq' with rfl | hq'
      ·exact hok
      ·exact h2 q hq'
     ·rintro ⟨h1,h2⟩
      refine ⟨?_,fun q hq'=>h2 q (List.mem_cons_of_mem _ hq')⟩
      simp only [List.map_cons,List.cons_append,List.nil_append,List.cons.injEq] at h1
      exact h1.2
    ·rw [rfGo_bad hkd hb]
     constructor
     ·intro h';omega
     ·rintro ⟨h1,h2⟩
      exfalso
      simp only [List.map_cons,List.cons_append,List.nil_append,List.cons.injEq] at h1
      have hok:=h2 p (List.mem_cons_self)
      unfold rfOk at hok
      rw [h1.1,Int.toNat_natCast] at hok
      simp only [Bool.and_eq_true,beq_iff_eq] at hok
      unfold Gr.rfBad at hb
      rw [hq] at hb
      simp only at hb
      rw [h1.1,hok.1.1,hok.1.2,hok.2] at hb
      simp at hb
   ·have hb:g.rfBad r k=true:=by unfold Gr.rfBad;rw [List.getElem?_eq_none (by omega)]
    rw [rfGo_bad hkd hb,List.drop_eq_nil_of_le (by omega)]
    constructor
    ·intro h';omega
    ·rintro ⟨h1,-⟩;simp at h1
  ·rw [if_neg hkd,rfGo_skip hkd,rfGo_iff d (r+1) k (by omega) hk];rfl
theorem rf_iff {g:Gr}:¬ 0≤g.rfAt↔g.rf.map (·.2)=readsFrom g 0 g.n∧∀ p∈g.rf,rfOk g p=true:=by
 unfold Gr.rfAt
 have:=rfGo_iff (g:=g) g.n 0 0 (by omega) (by omega)
 rw [List.drop_zero] at this;exact this
def rmwOk (g:Gr) (p:Int×Int):Bool:=g.is p.1 1&&g.is p.2 2&&g.isNext p.1 p.2&&(g.ev p.1.toNat).loc==(g.ev p.2.toNat).loc
theorem rises1 {l:List (Int×Int)}:(∀ (i:Nat) (p q:Int×Int),l[i]?=some p→l[i+1]?=some q→p.1<q.1)↔l.Pairwise fun p q=>p.1<q.1:=by
 constructor
 ·intro h
  induction l with
  | nil=>exact List.Pairwise.nil
  | cons p l ih =>
   have ih:=ih fun i a b ha hb=>h (i+1) a b (by simpa using ha) (by simpa using hb)
   refine List.Pairwise.cons (fun x hx=>?_) ih
   cases l with
   | nil=>cases hx
   | cons q l =>
    have h0:=h 0 p q rfl rfl
    rcases List.mem_cons.1 hx with rfl | hx
    ·exact h0
    ·have:=(List.pairwise_cons.1 ih).1 x hx;omega
 ·intro h i p q hp hq
  obtain ⟨h1,e1⟩:=List.getElem?_eq_some_iff.1 hp
  obtain ⟨h2,e2⟩:=List.getElem?_eq_some_iff.1 hq
  have:=List.pairwise_iff_getElem.1 h i (i+1) h1 h2 (by omega)
  rw [e1,e2] at this;exact this
theorem rmw_iff {g:Gr}:¬ 0≤g.rmwAt↔(g.rmw.Pairwise fun p q=>p.1<q.1)∧∀ p∈g.rmw,rmwOk g p=true:=by
 unfold Gr.rmwAt
 constructor
 ·intro h
  have hb:=firstBad_get h
  refine ⟨rises1.1 fun i p q hp hq=>?_,fun p hp=>?_⟩
  ·have:=hb (i+1) q hq
   unfold Gr.rmwBad at this
   simp only [Bool.or_eq_false_iff,Bool.and_eq_false_imp,decide_eq_true_eq] at this
   have h1:=this.1.1.1.1 (by omega)
   rw [Nat.zero_add,Nat.add_sub_cancel,List.getD_eq_getElem?_getD,hp,Option.getD_some] at h1
   simp only [decide_eq_false_iff_not] at h1
   omega
  ·obtain ⟨j,hj⟩:=List.mem_iff_getElem?.1 hp
   have:=hb j p hj
   unfold Gr.rmwBad at this
   simp only [Bool.or_eq_false_iff,Bool.not_eq_false'] at this
   unfold rmwOk
   rw [this.1.1.1.2,this.1.1.2,this.1.2,this.2];rfl
 ·rintro ⟨hr,hp⟩
  refine firstBad_none fun j p hj=>?_
  have hok:=hp p (List.mem_of_getElem? hj)
  unfold rmwOk at hok
  simp only [Bool.and_eq_true] at hok
  unfold Gr.rmwBad
  rw [hok.1.1.1,hok.1.1.2,hok.1.2,hok.2]
  simp only [Bool.not_true,Bool.or_false]
  by_cases h0:0<0+j
  ·obtain ⟨i,rfl⟩:∃ i,j=i+1:=⟨j - 1,by omega⟩
   have hlt:=(List.getElem?_eq_some_iff.1 hj).1
   have hi:g.rmw[i]?=some g.rmw[i]:=List.getElem?_eq_getElem (by omega)
   have:=rises1.2 hr i _ _ hi hj
   rw [Nat.zero_add,Nat.add_sub_cancel,List.getD_eq_getElem?_getD,hi,Option.getD_some]
   have e1:decide (p.1≤g.rmw[i].1)=false:=by simp;omega
   rw [e1];simp
  ·have:decide (0<0+j)=false:=by simpa using h0
   rw [this];rfl
theorem co_iff {g:Gr}:¬ 0≤g.coAt↔(g.co.length:Int)=g.cells∧∀ c,c<g.co.length→g.coBad c (g.co.getD c [])=false:=by
 unfold Gr.coAt
 constructor
 ·intro h
  have hlen:(g.co.length:Int)=g.cells:=by
   apply Classical.byContradiction;intro hne
   rw [if_pos (.inr hne)] at h;omega
  refine ⟨hlen,fun c hc=>?_⟩
  have hls:g.lists=g.co.length:=by unfold Gr.lists;omega
  have hf:¬ g.coFirst<g.lists:=fun hlt=>by rw [if_pos (.inl hlt)] at h;omega
  cases hb:g.coBad c (g.co.getD c [])
  ·rfl
  ·exfalso
   apply hf
   unfold Gr.coFirst
   cases hfd:(List.range g.lists).find? (fun c=>g.coBad c (g.co.getD c [])) with
   | none =>
    rw [List.find?_eq_none] at hfd
    exact absurd hb (hfd c (List.mem_range.2 (by omega)))
   | some u =>
    have:=List.mem_of_find?_eq_some hfd
    rw [List.mem_range] at this
    exact this
 ·rintro ⟨h1,h2⟩
  have hls:g.lists=g.co.length:=by unfold Gr.lists;omega
  have hf:(List.range g.lists).find? (fun c=>g.coBad c (g.co.getD c []))=none:=by
   rw [List.find?_eq_none]
   intro c hc
   rw [h2 c (by have:=List.mem_range.1 hc;omega)];simp
  have hcf:g.coFirst=g.lists:=by unfold Gr.coFirst;rw [hf];rfl
  rw [if_neg (by rw [hcf];omega)];omega
theorem dep_src {g:Gr} {l:List (Int×Int)} {f:Int→Bool}:¬ 0≤g.depAt false l f↔l=[]:=by
 unfold Gr.depAt
 constructor
 ·intro h
  cases l with
  | nil=>rfl
  | cons p l =>
   have:=firstBad_get h 0 p rfl
   unfold Gr.depBad at this
   simp at this
 ·rintro rfl;unfold Gr.firstBad;omega
theorem check_iff {g:Gr} {words:Bool}:(g.check words).1=0↔g.size=true∧¬ 0≤g.initAt words∧¬ 0≤g.evAt words∧¬ 0≤g.rfAt∧¬ 0≤g.coAt∧¬ 0≤g.rmwAt ∧
  ¬ 0≤g.depAt words g.addr (fun k=>k==1||k==2)∧¬ 0≤g.depAt words g.data (fun k=>k==2)∧¬ 0≤g.depAt words g.ctrl (fun k=>k==1||k==2||k==3):=by
 refine ⟨check_zero,?_⟩
 rintro ⟨h1,h2,h3,h4,h5,h6,h7,h8,h9⟩
 unfold Gr.check
 rw [h1,if_neg (by simp),if_neg h2,if_neg h3,if_neg h4,if_neg h5,if_neg h6,if_neg h7,if_neg h8,if_neg h9]
end Go.Proofs.Tst
/-
  Is a relation of the program's the document's?
-/
namespace Go.Proofs.Tst
open Go Go.Vc
end Go.Proofs.Tst
/-
  Changed graphs in memory.
-/
namespace Go.Proofs.Tst
open Go Go.Vc
theorem rlc_rl {h:Heap} {v:Value} {L:List (List Value)} (t:RLc h v L):RL h v L:=by
 obtain ⟨us,h1,h2⟩:=t
 exact ⟨us,h1,fun i l hl=>by obtain ⟨a,c,h3,-,h5⟩:=h2 i l hl;exact ⟨_,h3,h5⟩⟩
end Go.Proofs.Tst
/-
  The document's relations of a graph.
-/
namespace Go.Proofs.Tst
open Go Go.Vc
set_option maxHeartbeats 1000000 in
theorem ref8_Po {h:Heap} {w:GV} {g:Gr} (t:GrAt h w g) (hn:g.n≤256) :
  Con Tryd.prog 50 #[.agg (gcells w g).toArray] h fun v h'=>Fr 0 0 h h'∧RefAt h' h.size h'.size v g.n (relM g 0):=by
 refine con_q96 ?_
 have hcl:clampN (g.n:Int)=g.n:=by unfold clampN;omega
 have p0:Fr 0 0 h h:=.refl _ _ _
 have be:=t.fits.e
 have hen:g.evs.length=g.n:=rfl
 unfold gcells
 simp -dsimp only [go_sem]
 intro b1 h1 n1
 have n1_z:=n1.az
 replace p0:=p0.F n1.f0
 have r1:=n1.row
 simp -dsimp only [go_sem,r1.cell]
 intro b2 h2 n2
 have n2_z:=n2.az
 replace p0:=p0.F n2.f0
 replace r1:=r1.F n2.f0
 have r2:=n2.row
 simp -dsimp only [go_sem,evs_len,r1.cell,r2.cell]
 refine call_of (ref1_New g.n h2) ?_
 rintro v3 h3 ⟨f3,t3⟩
 rw [hcl] at t3
 obtain ⟨-,z,Z,rfl,t3⟩:=t3
 obtain ⟨za,zc,rfl⟩:=t3.own.is
 have t3_a:=t3.own.at_
 have f3_z:=f3.size
 replace p0:=p0.F f3
 replace r1:=r1.F f3
 replace r2:=r2.F f3
 simp -dsimp only [go_sem,r1.cell,r2.cell]
 intro b4 h4 n4
 have n4_z:=n4.az
 replace p0:=p0.F n4.f0
 replace r1:=r1.F n4.f0
 replace r2:=r2.F n4.f0
 replace t3:=t3.fr n4.f0 (by omega)
 have r4:=n4.row
 simp -dsimp only [go_sem,r1.cell,r2.cell,r4.cell]
 refine Chk_intro (r4.W) fun h5 s5=>?_
 have s5_z:=s5.size
 replace p0:=p0.F s5.fr
 replace r1:=r1.F s5.fr
 replace r2:=r2.F s5.fr
 replace t3:=t3.fr s5.fr (by omega)
 replace r4:=s5.row r4
 try simp only [cl_int,cl_bool,cl_slice,cl_ptr,putAt_one,zs0,zs1,ivec_set,brow_upd] at r4
 simp -dsimp only [go_sem,r1.cell,r2.cell,r4.cell]
 refine loop_intro (fun p:Nat=>[(1,.pointer (some ⟨b1,0,none⟩)),(2,.pointer (some ⟨b2,0,none⟩)),(3,.pointer (some ⟨b4,0,none⟩)),(4,.int .i64 p)]) (fun p h'=>p≤(g.n)∧Fr 0 0 h h'∧h5.size≤h'.size∧Rw h' b1 [.int .i64 g.cells,.slice w.e g.evs.length w.ec,.slice w.f g.rf.length w.fc,.slice w.o g.co.length w.oc,.slice w.r g.rmw.length w.rc,.slice w.a g.addr.length w.ac,.slice w.d g.data.length w.dc,.slice w.c g.ctrl.length w.cc]∧Rw h' b2 [.int .i64 0,.slice none 0 0]∧Rw h' b4 [.int .i64 g.n,.slice za g.n zc]∧Tab h' h2.size h3.size (.slice za g.n zc) (g.n) (g.n) Z (mixM p 0 (g.n) (relM g 0) (fun _ _=>false))) (fun p=>(g.n) - p) 0 ?_ ?_ ?_
 ·simp [Le,find]
 ·exact ⟨by omega,p0,by omega,r1,r2,r4,t3.congr fun i j _ _=>by rw [mixM_zero]⟩
 rintro p hP ⟨hp,p0,yP,r1,r2,r4,t3⟩
 have p0_z:=p0.size
 have r1_l:=r1.lt
 have r2_l:=r2.lt
 have r4_l:=r4.lt
 simp -dsimp only [go_sem,r1.cell,r2.cell,r4.cell]
 refine ⟨fun hlt1=>?_,fun hge1=>?_⟩
 ·have hlt1:p<(g.n):=by omega
  simp -dsimp only [go_sem,r1.cell,r2.cell,r4.cell]
  refine loop_intro (fun q:Nat=>[(1,.pointer (some ⟨b1,0,none⟩)),(2,.pointer (some ⟨b2,0,none⟩)),(3,.pointer (some ⟨b4,0,none⟩)),(4,.int .i64 p),(5,.int .i64 q)]) (fun q h'=>q≤(g.n)∧Fr 0 0 h h'∧h5.size≤h'.size∧Rw h' b1 [.int .i64 g.cells,.slice w.e g.evs.length w.ec,.slice w.f g.rf.length w.fc,.slice w.o g.co.length w.oc,.slice w.r g.rmw.length w.rc,.slice w.a g.addr.length w.ac,.slice w.d g.data.length w.dc,.slice w.c g.ctrl.length w.cc]∧Rw h' b2 [.int .i64 0,.slice none 0 0]∧Rw h' b4 [.int .i64 g.n,.slice za g.n zc]∧Tab h' h2.size h3.size (.slice za g.n zc) (g.n) (g.n) Z (mixM p q (g.n) (relM g 0) (fun _ _=>false))) (fun q=>(g.n) - q) 0 ?_ ?_ ?_
  ·simp [Le,find]
  ·exact ⟨by omega,p0,by omega,r1,r2,r4,t3⟩
  rintro q hQ ⟨hq,p0,yQ,r1,r2,r4,t3⟩
  have p0_z:=p0.size
  have r1_l:=r1.lt
  have r2_l:=r2.lt
  have r4_l:=r4.lt
  simp -dsimp only [go_sem,r1.cell,r2.cell,r4.cell]
  refine ⟨fun hlt2=>?_,fun hge2=>?_⟩
  ·have hlt2:q<(g.n):=by omega
   simp -dsimp only [go_sem,r1.cell,r2.cell,r4.cell]
   refine Chk_intro (by omega) (t3.idx (p:=p) (by omega) fun b9 o9 c9=>?_)
   simp -dsimp only [go_sem,c9,r1.cell,r2.cell,r4.cell]
   refine call_of (ref8_before (t.fr p0) p q) ?_
   rintro v6 h6 ⟨f6,rfl⟩
   have f6_z:=f6.size
   replace p0:=p0.F f6
   replace r1:=r1.F f6
   replace r2:=r2.F f6
   replace r4:=r4.F f6
   replace t3:=t3.fr f6 (by omega)
   replace c9:=f6.keep c9 (by omega)
   simp -dsimp only [go_sem,c9,r1.cell,r2.cell,r4.cell]
   refine Chk_intro (by omega) ?_
   simp -dsimp only [go_sem,r1.cell,r2.cell,r4.cell]
   refine Chk_intro (t3.wr (by omega) (by omega)) fun h10 s10=>?_
   have s10_z:=s10.size
   have w_row:=t3.row p (by omega)
   have t_new:=t3.set (p:=p) (q:=q) (by omega) s10
   replace p0:=p0.F s10.fr
   replace r1:=r1.F s10.fr
   replace r2:=r2.F s10.fr
   replace r4:=r4.F s10.fr
   simp -dsimp only [go_sem,r1.cell,r2.cell,r4.cell]
   simp -dsimp (disch:=omega) only [wrap64]
   exact ⟨q+1,by omega,by simp [Le,find],by omega,p0,by omega,r1,r2,r4,t_new.congr fun i j hi hj=>mixM_set (rfl)⟩
  ·have hqn:q=(g.n):=by omega
   simp -dsimp only [go_sem,r1.cell,r2.cell,r4.cell]
   simp -dsimp (disch:=omega) only [wrap64]
   exact ⟨p+1,by omega,by simp [Le,find],by omega,p0,by omega,r1,r2,r4,t3.congr fun i j _ _=>by rw [hqn];exact mixM_next⟩
 have hpn:p=(g.n):=by omega
 simp -dsimp only [go_sem,r1.cell,r2.cell,r4.cell]
 refine Chk_intro (r2.W) fun h9 s9=>?_
 have s9_z:=s9.size
 replace p0:=p0.F s9.fr
 replace r1:=r1.F s9.fr
 replace r4:=r4.F s9.fr
 replace t3:=t3.fr s9.fr (by omega)
 replace r2:=s9.row r2
 try simp only [cl_int,cl_bool,cl_slice,cl_ptr,putAt_one,zs0,zs1,ivec_set,brow_upd] at r2
 simp -dsimp only [go_sem,r1.cell,r2.cell,r4.cell]
 refine ⟨p0,hn,_,Z,rfl,((t3.mono (by omega) (by omega)).congr fun i j hi hj=>?_)⟩
 rw [hpn,mixM_end hi hj]
end Go.Proofs.Tst
/-
  GraphLaws.
-/
namespace Go.Proofs.Tst
open Go Go.Vc
theorem kindsV_get {g:Gr} {k:Int} {i:Nat} (hi:i<g.n):(kindsV g k g.n)[i]?=some ((g.ev i).kind==k):=by
 unfold kindsV
 rw [List.getElem?_map,List.getElem?_take_of_lt hi,Gr.ev_get hi];rfl
end Go.Proofs.Tst
/-
  whole: are facts the document's?
-/
namespace Go.Proofs.Tst
open Go Go.Vc
end Go.Proofs.Tst
/-
  GraphDerives.
-/
namespace Go.Proofs.Tst
open Go Go.Vc
theorem FactsAt.fr {h h':Heap} {lo l r:Nat} {p:Nat→Value} {rd wr fe:Value} {g:Gr} (F:FactsAt h lo p rd wr fe g) (f:Fr l r h h') (hd:r≤lo):FactsAt h' lo p rd wr fe g:=by
 obtain ⟨A,B,D,dlo,dap⟩:=F.rel
 have a1:=F.hrd.at_
 have a2:=F.hwr.at_
 have a3:=F.hfe.at_
 have fz:=f.size
 exact ⟨F.n,⟨A,B,D.fr f (fun k hk=>by have:=dlo k hk;omega),fun k hk=>by have:=dlo k hk;omega,dap⟩,F.hrd.fr f (by omega),F.hwr.fr f (by omega),F.hfe.fr f (by omega),F.off⟩
end Go.Proofs.Tst
/-
  Events changed in place.
-/
namespace Go.Proofs.Tst
open Go Go.Vc
def setMode (E:List Ev) (i:Nat) (m:Int):List Ev:=E.set i { E.getD i default with mode:=m }
@[simp] theorem length_setMode {E:List Ev} {i:Nat} {m:Int}:(setMode E i m).length=E.length:=by simp [setMode]
theorem evsV_setMode:∀ {E:List Ev} {i:Nat} {m:Int},i<E.length→(evsV E).set (i * 5+4) (.int .i64 m)=evsV (setMode E i m)
 | [],i,_,h=>by simp at h
 | e :: E,0,m,_=>rfl
 | e :: E,i+1,m,h=>by
  have ih:=evsV_setMode (E:=E) (i:=i) (m:=m) (by simpa using h)
  have h1:setMode (e :: E) (i+1) m=e :: setMode E i m:=by simp [setMode]
  have h2:e.cells.length=5:=rfl
  rw [h1,evsV_cons,evsV_cons,← ih,List.set_append_right _ _ (by omega),h2]
  congr 2;omega
theorem putAt_right {a:List Value}:∀ (ws r:List Value) (o:Nat),putAt (a++r) (a.length+o) ws=a++putAt r o ws
 | [],_,_=>rfl
 | v :: ws,r,o=>by
  show putAt ((a++r).set (a.length+o) v) (a.length+o+1) ws=a++putAt (r.set o v) (o+1) ws
  rw [List.set_append_right _ _ (by omega),Nat.add_sub_cancel_left,Nat.add_assoc]
  exact putAt_right ws _ _
theorem putAt_left {r:List Value}:∀ (ws a:List Value) (o:Nat),o+ws.length≤a.length→putAt (a++r) o ws=putAt a o ws++r
 | [],_,_,_=>rfl
 | v :: ws,a,o,h=>by
  show putAt ((a++r).set o v) (o+1) ws=putAt (a.set o v) (o+1) ws++r
  simp at h
  rw [List.set_append_left _ _ (by omega)]
  exact putAt_left ws _ _ (by simp;omega)
theorem evsV_put:∀ {E:List Ev} {i:Nat} {e:Ev},i<E.length→putAt (evsV E) (i * 5) e.cells=evsV (E.set i e)
 | [],i,_,h=>by simp at h
 | x :: E,0,e,_=>rfl
 | x :: E,i+1,e,h=>by
  have ih:=evsV_put (E:=E) (i:=i) (e:=e) (by simpa using h)
  have h2:(i+1) * 5=x.cells.length+i * 5:=by show _=5 + _;omega
  rw [List.set_cons_succ,evsV_cons,evsV_cons,← ih,h2]
  exact putAt_right _ _ _
theorem holder_ev {h:Heap} {b n c lo:Nat} {E:List Ev} (w:Holder 5 h (.slice (some ⟨b,0,none⟩) n c) n (evsV E) lo) {i:Nat} (hi:i<n) :
  Wr h b (i * 5+4) 1∧Wr h b (i * 5) 5∧(∀ h' m,Sto h h' b (i * 5+4) [.int .i64 m]→Holder 5 h' (.slice (some ⟨b,0,none⟩) n c) n (evsV (setMode E i m)) lo)∧∀ h' e,Sto h h' b (i * 5) e.cells→Holder 5 h' (.slice (some ⟨b,0,none⟩) n c) n (evsV (E.set i e)) lo:=by
 have hl:=w.1
 rw [length_evsV] at hl
 have hE:i<E.length:=by omega
 obtain ⟨b',c',rest,h1,h2,h3,h4⟩:=w.blk (by omega)
 cases h1
 refine ⟨h2.wr (by simp;omega),h2.wr (by simp;omega),fun h' m s=>⟨by simp;omega,.inr ⟨b,c,rest,rfl,?_,h3,h4⟩⟩,fun h' e s=>⟨by simp;omega,.inr ⟨b,c,rest,rfl,?_,h3,h4⟩⟩⟩
 ·have:=s.row h2
  rw [putAt_one,List.set_append_left _ _ (by simp;omega),evsV_setMode hE] at this
  exact this
 ·have:=s.row h2
  rw [putAt_left _ _ _ (by simp [Ev.cells];omega),evsV_put hE] at this
  exact this
section
variable {h h' : Heap} {q : GV} {g : Gr} {lo : Nat}
theorem GrOwn.evs' {E':List Ev} {b:Nat} (w:GrOwn h q g lo) (f:Fr b (b+1) h h') (hb:q.e=some ⟨b,0,none⟩) (hl:E'.length=g.evs.length) (he:Holder 5 h' (.slice (some ⟨b,0,none⟩) g.evs.length q.ec) g.evs.length (evsV E') lo) :
  GrOwn h' q { g with evs:=E' } lo:=by
 obtain ⟨us,o1,o2,o3⟩:=w.o
 have lb:bl (.slice q.e g.evs.length q.ec)=b∧bh (.slice q.e g.evs.length q.ec)=b+1:=by rw [hb];exact ⟨rfl,rfl⟩
 have key:∀ x,Off (.slice q.e g.evs.length q.ec) x→bh x≤b∨b+1≤bl x∨b+1≤b:=fun x hx=>by
  unfold Off at hx
  have:=bh_bl x
  omega
 have ha:Away b (b+1) (.slice q.o g.co.length q.oc) us:=fun x hx=>key x (o3 x hx _ (by simp)).symm
 have hw:=w.off
 refine ⟨?_,w.f.fr f (key _ (hw _ (by simp))),⟨us,o1.fr f ha,o2,?_⟩,w.r.fr f (key _ (hw _ (by simp))),w.a.fr f (key _ (hw _ (by simp))),w.d.fr f (key _ (hw _ (by simp))),w.c.fr f (key _ (hw _ (by simp))),?_,⟨?_,w.fits.f,w.fits.o,w.fits.r,w.fits.a,w.fits.d,w.fits.c,w.fits.l⟩⟩
 ·dsimp only;rw [hl,hb];exact he
 ·dsimp only;rw [hl];exact o3
 ·dsimp only;rw [hl];exact hw
 ·dsimp only;rw [hl];exact w.fits.e
theorem GrOwn.fr {l r:Nat} (w:GrOwn h q g lo) (f:Fr l r h h') (hd:r≤lo∨h.size≤l∨r≤l):GrOwn h' q g lo:=by
 obtain ⟨us,o1,o2,o3⟩:=w.o
 have k:∀ {s n:Nat} {v:Value} {xs:List Value},Holder s h v n xs lo→Holder s h' v n xs lo:=fun o=>o.fr f (by have:=o.at_;have:=o.top;omega)
 refine ⟨k w.e,k w.f,⟨us,o1.fr f ?_,o2,o3⟩,k w.r,k w.a,k w.d,k w.c,w.off,w.fits⟩
 rcases hd with hd | hd | hd
 ·exact o1.below hd
 ·exact o1.above hd
 ·exact Away.none hd
theorem GrOwn.lower {lo':Nat} (w:GrOwn h q g lo) (hl:lo'≤lo):GrOwn h q g lo':=by
 obtain ⟨us,o1,o2⟩:=w.o
 exact ⟨w.e.lower hl,w.f.lower hl,⟨us,o1.lower hl,o2⟩,w.r.lower hl,w.a.lower hl,w.d.lower hl,w.c.lower hl,w.off,w.fits⟩
theorem GrOwn.ev (w:GrOwn h q g lo) (hn:0<g.n):∃ b,q.e=some ⟨b,0,none⟩∧lo≤b∧b<h.size∧(∀ i,i<g.n→Wr h b (i * 5+4) 1∧Wr h b (i * 5) 5) ∧
  (∀ h' i m,i<g.n→Sto h h' b (i * 5+4) [.int .i64 m]→GrOwn h' q { g with evs:=setMode g.evs i m } lo)∧∀ h' i e,i<g.n→Sto h h' b (i * 5) e.cells→GrOwn h' q { g with evs:=g.evs.set i e } lo:=by
 have we:=w.e
 obtain ⟨b,c,rest,h1,h2,h3,h4⟩:=we.blk hn
 have hq:q.e=some ⟨b,0,none⟩:=by injection h1
 rw [hq] at we
 exact ⟨b,hq,h4,h2.lt,fun i hi=>⟨(holder_ev we hi).1,(holder_ev we hi).2.1⟩,fun h' i m hi s=>w.evs' s.fr hq (by simp) ((holder_ev we hi).2.2.1 _ _ s),fun h' i e hi s=>w.evs' s.fr hq (by simp) ((holder_ev we hi).2.2.2 _ _ s)⟩
end
end Go.Proofs.Tst
/-
  Relations in memory, some at once; chains of steps.
-/
namespace Go.Proofs.Tst
open Go Go.Vc
abbrev Mx:=Nat→Nat→Bool
def PA (h:Heap) (v:Value) (n:Nat) (M:Mx):Prop:=∃ lo hi,ProgAt h lo hi v n M
def PN (h:Heap) (lo:Nat) (v:Value) (n:Nat) (M:Mx):Prop:=∃ a b,ProgAt h a b v n M∧lo≤a∧a≤b∧b≤h.size
section
variable {h h' : Heap} {v : Value} {n lo : Nat} {M N : Mx}
theorem PA.fr (t:PA h v n M) (f:Fr 0 0 h h'):PA h' v n M:=by obtain ⟨a,b,t⟩:=t;exact ⟨a,b,t.fr f (by omega)⟩
theorem PA.ptr (t:PA h v n M):∃ b,v=.pointer (some ⟨b,0,none⟩):=by obtain ⟨a,b,t⟩:=t;exact progPtr t
theorem PA.oc (t:PA h v n M):v.oneCell'=true:=by obtain ⟨b,rfl⟩:=t.ptr;rfl
theorem PA.cl (t:PA h v n M):Vc.cl v=[v]:=by obtain ⟨b,rfl⟩:=t.ptr;rfl
theorem PA.congr (t:PA h v n M) (e:∀ i j,i<n→j<n→M i j=N i j):PA h v n N:=by obtain ⟨a,b,t⟩:=t;exact ⟨a,b,t.congr e⟩
theorem PA.le (t:PA h v n M):n≤256:=by obtain ⟨a,b,t⟩:=t;exact t.1
theorem PN.pa (t:PN h lo v n M):PA h v n M:=by obtain ⟨a,b,t,-⟩:=t;exact ⟨a,b,t⟩
theorem PN.of (t:ProgAt h lo h.size v n M):PN h lo v n M:=⟨_,_,t,Nat.le_refl _,by obtain ⟨_,_,_,_,_,_,w⟩:=t;have:=w.at_;omega,Nat.le_refl _⟩
theorem PN.congr (t:PN h lo v n M) (e:∀ i j,i<n→j<n→M i j=N i j):PN h lo v n N:=by obtain ⟨a,b,t,k⟩:=t;exact ⟨a,b,t.congr e,k⟩
theorem PN.lower {lo':Nat} (t:PN h lo v n M) (hl:lo'≤lo):PN h lo' v n M:=by obtain ⟨a,b,t,k⟩:=t;exact ⟨a,b,t,by omega,k.2⟩
theorem PN.fr {l r:Nat} (t:PN h lo v n M) (f:Fr l r h h') (hd:r≤lo∨h.size≤l∨r≤l):PN h' lo v n M:=by
 obtain ⟨a,b,t,k⟩:=t
 have:=f.size
 exact ⟨a,b,t.fr f (by omega),by omega⟩
end
def UA (h:Heap) (lv:Value) (n:Nat) (M:Mx):Prop:=∃ L:List (Value×Nat×Mx),Rd 1 h lv L.length (L.map (·.1))∧RelsAt h L∧L.length≤65536∧maxN L=n∧∀ i j,i<n→j<n→anyM L i j=M i j
theorem UA.fr {h h':Heap} {v:Value} {n:Nat} {M:Mx} (t:UA h v n M) (f:Fr 0 0 h h'):UA h' v n M:=by
 obtain ⟨L,h1,h2,h3⟩:=t;exact ⟨L,h1.fr f,h2.fr f,h3⟩
theorem maxN_same {n:Nat}:∀ {l:List (Value×Mx)},l≠[]→maxN (l.map fun x=>(x.1,n,x.2))=n:=by
 have key:∀ (l:List (Value×Mx)) (m:Nat),m≤n→(l.map fun x=>(x.1,n,x.2)).foldl (fun m (x:Value×Nat×Mx)=>max m x.2.1) m=if l=[] then m else n:=by
  intro l
  induction l with
  | nil=>intro m _;rfl
  | cons x l ih =>
   intro m hm
   simp only [List.map_cons,List.foldl_cons]
   rw [ih _ (by omega),if_neg (by simp:¬ x :: l=[])]
   split
   ·omega
   ·rfl
 intro l hl
 unfold maxN
 rw [key l 0 (Nat.zero_le _),if_neg hl]
theorem UA.mk {h:Heap} {b n:Nat} {M:Mx} (l:List (Value×Mx)) (r:Rw h b (l.map (·.1))) (hp:∀ x∈l,PA h x.1 n x.2) (hne:l≠[]) (hl:l.length≤65536) (hM:∀ i j,i<n→j<n→(l.any fun x=>x.2 i j)=M i j) :
  UA h (.slice (some ⟨b,0,none⟩) l.length l.length) n M:=by
 refine ⟨l.map fun x=>(x.1,n,x.2),?_,fun x hx=>?_,by rw [List.length_map];exact hl,maxN_same hne,fun i j hi hj=>?_⟩
 ·rw [List.length_map,List.map_map]
  exact Rw.rd (s:=1) r (by simp)
 ·obtain ⟨y,hy,rfl⟩:=List.mem_map.1 hx
  exact hp y hy
 ·rw [← hM i j hi hj]
  unfold anyM
  rw [List.any_map]
  congr 1
  funext x
  exact inN_in hi hj
theorem rel_UnionU {lv:Value} {n:Nat} {M:Mx} {h:Heap} (u:UA h lv n M) :
  Con Tryd.prog 58 #[lv] h fun v h'=>Fr 0 0 h h'∧ProgAt h' h.size h'.size v n M:=by
 obtain ⟨L,h1,h2,h3,h4,h5⟩:=u
 exact (rel_Union h1 h2 h3).mono fun v h' ⟨f,t⟩=>⟨f,by rw [h4] at t;exact t.congr h5⟩
def CA (h:Heap) (lv:Value) (n:Nat) (l:List Mx):Prop:=∃ ws:List Value,ws.length=l.length∧Rd 1 h lv ws.length ws∧ws.length≤65536∧∀ (i:Nat) (w:Value) (M:Mx),ws[i]?=some w→l[i]?=some M→PA h w n M
theorem CA.fr {h h':Heap} {v:Value} {n:Nat} {l:List Mx} (t:CA h v n l) (f:Fr 0 0 h h'):CA h' v n l:=by
 obtain ⟨L,h1,h2,h3,h4⟩:=t;exact ⟨L,h1,h2.fr f,h3,fun i w M a b=>(h4 i w M a b).fr f⟩
theorem CA.mk {h:Heap} {b n:Nat} (l:List (Value×Mx)) (r:Rw h b (l.map (·.1))) (hp:∀ x∈l,PA h x.1 n x.2) (hl:l.length≤65536):CA h (.slice (some ⟨b,0,none⟩) l.length l.length) n (l.map (·.2)):=by
 refine ⟨l.map (·.1),by simp,?_,by simpa using hl,fun i w M h1 h2=>?_⟩
 ·rw [List.length_map];exact Rw.rd (s:=1) r (by simp)
 ·rw [List.getElem?_map,Option.map_eq_some_iff] at h1 h2
  obtain ⟨x,hx,rfl⟩:=h1
  obtain ⟨y,hy,rfl⟩:=h2
  rw [hx] at hy;cases hy
  exact hp x (List.mem_of_getElem? hx)
def orM (l:List Mx):Mx:=fun i j=>l.any fun X=>X i j
theorem UA.mk' {h:Heap} {b n:Nat} (l:List (Value×Mx)) (r:Rw h b (l.map (·.1))) (hp:∀ x∈l,PA h x.1 n x.2) (hne:l≠[]) (hl:l.length≤65536):UA h (.slice (some ⟨b,0,none⟩) l.length l.length) n (orM (l.map (·.2))):=
 UA.mk l r hp hne hl fun i j _ _=>by unfold orM;rw [List.any_map];rfl
theorem pa_nil {h:Heap} {n:Nat}:∀ x∈([]:List (Value×Mx)),PA h x.1 n x.2:=fun x hx=>by cases hx
theorem pa_cons {h:Heap} {n:Nat} {v:Value} {M:Mx} {l:List (Value×Mx)} (a:PA h v n M) (t:∀ x∈l,PA h x.1 n x.2):∀ x∈(v,M) :: l,PA h x.1 n x.2:=fun x hx=>by
 rcases List.mem_cons.1 hx with rfl | hx
 ·exact a
 ·exact t x hx
def dM (f:Nat→Bool):Mx:=fun i j=>i==j&&f i
theorem exB_congr {n:Nat} {f g:Nat→Bool} (h:∀ k,k<n→f k=g k):exB n f=exB n g:=by
 unfold exB
 rw [Bool.eq_iff_iff,List.any_eq_true,List.any_eq_true]
 exact ⟨fun ⟨k,hk,e⟩=>⟨k,hk,by rw [← h k (List.mem_range.1 hk)];exact e⟩,fun ⟨k,hk,e⟩=>⟨k,hk,by rw [h k (List.mem_range.1 hk)];exact e⟩⟩
section
variable {n i j : Nat} {A B : Mx} {f : Nat → Bool}
theorem interM_in (hi:i<n) (hj:j<n):interM n A n B i j=(A i j&&B i j):=by unfold interM;rw [inN_in hi hj,inN_in hi hj]
theorem compM_in (hi:i<n) (hj:j<n):compM n A n B i j=exB n fun k=>A i k&&B k j:=by
 show exB n (fun k=>inN n A i k&&inN n B k j)=_
 exact exB_congr fun k hk=>by rw [inN_in hi hk,inN_in hk hj]
theorem exB_one (hi:i<n) {g:Nat→Bool}:(exB n fun k=>i==k&&g k)=g i:=by
 rw [Bool.eq_iff_iff,exB_true]
 constructor
 ·rintro ⟨k,hk,h⟩
  simp only [Bool.and_eq_true,beq_iff_eq] at h
  rw [h.1];exact h.2
 ·intro h;exact ⟨i,hi,by simp [h]⟩
theorem compM_dR (hi:i<n) (hj:j<n):compM n A n (dM f) i j=(A i j&&f j):=by
 rw [compM_in hi hj]
 have:(exB n fun k=>A i k&&dM f k j)=exB n fun k=>j==k&&(A i k&&f k):=exB_congr fun k _=>by
  unfold dM
  have:(k==j)=(j==k):=by rw [Bool.eq_iff_iff,beq_iff_eq,beq_iff_eq];exact eq_comm
  rw [this]
  cases A i k <;> cases (j==k) <;> cases f k <;> rfl
 rw [this,exB_one hj]
theorem compM_dL (hi:i<n) (hj:j<n):compM n (dM f) n A i j=(f i&&A i j):=by
 rw [compM_in hi hj]
 have:(exB n fun k=>dM f i k&&A k j)=exB n fun k=>i==k&&(f i&&A k j):=exB_congr fun k _=>by
  unfold dM
  cases A k j <;> cases (i==k) <;> cases f i <;> rfl
 rw [this,exB_one hi]
end
end Go.Proofs.Tst
/-
  The words' memory model in memory: its parts.
-/
namespace Go.Proofs.Tst
open Go Go.Vc
def mcells (q:GV) (g:Gr) (c:Nat→Nat) (rd wr fe:Value) (d:Nat→Nat):List Value:=[.int .i64 g.cells,.slice q.e g.evs.length q.ec,.slice q.f g.rf.length q.fc,.slice q.o g.co.length q.oc,.slice q.r g.rmw.length q.rc,.slice q.a g.addr.length q.ac,.slice q.d g.data.length q.dc,.slice q.c g.ctrl.length q.cc,
 .pointer (some ⟨c 0,0,none⟩),.pointer (some ⟨c 1,0,none⟩),.pointer (some ⟨c 2,0,none⟩),.pointer (some ⟨c 9,0,none⟩),.pointer (some ⟨c 3,0,none⟩),.pointer (some ⟨c 4,0,none⟩),.pointer (some ⟨c 5,0,none⟩),.pointer (some ⟨c 6,0,none⟩),.pointer (some ⟨c 7,0,none⟩),.pointer (some ⟨c 8,0,none⟩),rd,wr,fe,
 .pointer (some ⟨d 0,0,none⟩),.pointer (some ⟨d 1,0,none⟩),.pointer (some ⟨d 2,0,none⟩),.pointer (some ⟨d 3,0,none⟩),.pointer (some ⟨d 4,0,none⟩),.pointer (some ⟨d 5,0,none⟩)]
def armM (g:Gr):Nat→Mx
 | 0=>rfeM g
 | 1=>rfiM g
 | 2=>coeM g
 | 3=>coiM g
 | 4=>freM g
 | _=>dM (acqB g)
structure Md (h:Heap) (mb:Nat) (q:GV) (g:Gr) (c:Nat→Nat) (rd wr fe:Value) (d:Nat→Nat):Prop where
 row:Rw h mb (mcells q g c rd wr fe d)
 gr:GrAt h q g
 n:g.n≤256
 rel:∀ k,k<10→PA h (.pointer (some ⟨c k,0,none⟩)) g.n (relM g k)
 hm:∀ k,k<6→PA h (.pointer (some ⟨d k,0,none⟩)) g.n (armM g k)
 rd:Rd 1 h rd (kindsV g 1 g.n).length (boolsV (kindsV g 1 g.n))
 wr:Rd 1 h wr (kindsV g 2 g.n).length (boolsV (kindsV g 2 g.n))
 fe:Rd 1 h fe (kindsV g 3 g.n).length (boolsV (kindsV g 3 g.n))
theorem Md.fr {h h':Heap} {mb:Nat} {q:GV} {g:Gr} {c:Nat→Nat} {rd wr fe:Value} {d:Nat→Nat} (m:Md h mb q g c rd wr fe d) (f:Fr 0 0 h h'):Md h' mb q g c rd wr fe d:=
 ⟨m.row.fr f (by omega),m.gr.fr f,m.n,fun k hk=>(m.rel k hk).fr f,fun k hk=>(m.hm k hk).fr f,m.rd.fr f,m.wr.fr f,m.fe.fr f⟩
structure Mg (h:Heap) (mb:Nat) (q:GV) (g:Gr):Prop where
 row:∃ rest,Rw h mb (gcells q g++rest)
 gr:GrAt h q g
 n:g.n≤256
theorem Mg.fr {h h':Heap} {mb:Nat} {q:GV} {g:Gr} (m:Mg h mb q g) (f:Fr 0 0 h h'):Mg h' mb q g:=
 ⟨by obtain ⟨r,w⟩:=m.row;exact ⟨r,w.fr f (by omega)⟩,m.gr.fr f,m.n⟩
theorem kinds_len (g:Gr) (k:Int):(kindsV g k g.n).length=g.n:=by simp [kindsV];unfold Gr.n;omega
theorem atB_kinds {g:Gr} {k:Int} {i:Nat} (hi:i<g.n):atB (kindsV g k g.n) i=isK g k i:=atB_get (kindsV_get hi)
section
variable {h : Heap} {mb : Nat} {q : GV} {g : Gr} {c : Nat → Nat} {rd wr fe : Value} {d : Nat → Nat}
end
end Go.Proofs.Tst
/-
  The words' memory model: aob, all relations, the model of a graph, Check.
-/
namespace Go.Proofs.Tst
open Go Go.Vc
section
variable {h : Heap} {mb : Nat} {q : GV} {g : Gr} {c : Nat → Nat} {rd wr fe : Value} {d : Nat → Nat}
theorem words_rmw {words:Bool} (hg:(g.check words).1=0) {p:Int×Int} (hp:p∈g.rmw):∃ a b:Nat,p=((a:Int),(b:Int))∧a<b∧b<g.n:=by
 obtain ⟨-,-,-,-,-,h6,-⟩:=check_zero hg
 obtain ⟨b1,b2,b3⟩:=before_lt (rmw_before h6 hp)
 exact ⟨p.1.toNat,p.2.toNat,Prod.ext (by dsimp only;omega) (by dsimp only;omega),by omega,by omega⟩
end
end Go.Proofs.Tst
/-
  The words' memory model: all its relations.
-/
namespace Go.Proofs.Tst
open Go Go.Vc
theorem Der.snoc {h:Heap} {A B:Nat→Nat} {p:Nat→Value} {n m lo L L':Nat} {M:Nat→Mx} {v:Value} (D:Der h A B p n M m) (hd:∀ k,k<m→lo≤A k∧A k≤B k∧B k≤L) (w:∃ a b,ProgAt h a b v n (M m)∧L≤a∧a≤b∧b≤L') (hl:lo≤L:=by omega) :
  ∃ A' B',Der h A' B' (upd p m v) n M (m+1)∧∀ k,k<m+1→lo≤A' k∧A' k≤B' k∧B' k≤L':=by
 obtain ⟨a,b,w,w1,w2,w3⟩:=w
 refine ⟨upd A m a,upd B m b,⟨fun k hk=>?_,fun k l hk hl hkl=>?_⟩,fun k hk=>?_⟩
 ·by_cases hkm:k=m
  ·subst hkm;rw [upd_same,upd_same,upd_same];exact w
  ·rw [upd_ne _ _ hkm,upd_ne _ _ hkm,upd_ne _ _ hkm];exact D.at_ k (by omega)
 ·by_cases hkm:k=m
  ·subst hkm
   rw [upd_same,upd_same,upd_ne _ _ (Ne.symm hkl),upd_ne _ _ (Ne.symm hkl)]
   have:=hd l (by omega);omega
  ·by_cases hlm:l=m
   ·subst hlm
    rw [upd_same,upd_same,upd_ne _ _ hkm,upd_ne _ _ hkm]
    have:=hd k (by omega);omega
   ·rw [upd_ne _ _ hkm,upd_ne _ _ hkm,upd_ne _ _ hlm,upd_ne _ _ hlm]
    exact D.off k l (by omega) (by omega) hkl
 ·by_cases hkm:k=m
  ·subst hkm;rw [upd_same,upd_same];omega
  ·rw [upd_ne _ _ hkm,upd_ne _ _ hkm];have:=hd k (by omega);omega
section
variable {h : Heap} {mb : Nat} {q : GV} {g : Gr} {c : Nat → Nat} {rd wr fe : Value} {d : Nat → Nat}
end
end Go.Proofs.Tst
/-
  The words' memory model of a graph; Derive, Check.
-/
namespace Go.Proofs.Tst
open Go Go.Vc
theorem good_false {g:Gr} (h:(g.check false).1=0):g.good=true:=by unfold Gr.good;rw [h];simp
section
variable {h : Heap} {q : GV} {g : Gr}
end
end Go.Proofs.Tst
/-
  The events in another order that keeps po (plain).
-/
namespace Go.Proofs.Tst
open Go Go.Vc
def mapP (s:Nat→Nat) (p:Int×Int):Int×Int:=((s p.1.toNat:Int),(s p.2.toNat:Int))
structure Relist (g h:Gr) (s t:Nat→Nat):Prop where
 cells:h.cells=g.cells
 n:h.n=g.n
 iso:Iso g.n s t
 fix:∀ c:Nat,(c:Int)<g.cells→c<g.n→s c=c
 up:∀ i j,i<j→j<g.n→(g.ev i).thread=(g.ev j).thread→0≤(g.ev i).thread→s i<s j
 ev:∀ i,i<g.n→h.ev (s i)=g.ev i
 rf:h.rf.Perm (g.rf.map (mapP s))
 rfs:h.rf.Pairwise fun p q=>p.2<q.2
 rmw:h.rmw.Perm (g.rmw.map (mapP s))
 rmws:h.rmw.Pairwise fun p q=>p.1<q.1
 co:h.co=g.co.map fun l=>l.map fun x=>(s x.toNat:Int)
 addr:h.addr=[]
 data:h.data=[]
 ctrl:h.ctrl=[]
theorem strict_ext:∀ {l m:List Int},l.Pairwise (· < ·)→m.Pairwise (· < ·)→(∀ x,x∈l↔x∈m)→l=m
 | [],[],_,_,_=>rfl
 | [],y :: m,_,_,h=>absurd ((h y).2 (by simp)) (by simp)
 | x :: l,[],_,_,h=>absurd ((h x).1 (by simp)) (by simp)
 | x :: l,y :: m,hl,hm,h=>by
  obtain ⟨h1,h2⟩:=List.pairwise_cons.1 hl
  obtain ⟨h3,h4⟩:=List.pairwise_cons.1 hm
  have e:x=y:=by
   rcases List.mem_cons.1 ((h x).1 (by simp)) with e | e
   ·exact e
   ·rcases List.mem_cons.1 ((h y).2 (by simp)) with e' | e'
    ·exact e'.symm
    ·have:=h3 x e;have:=h1 y e';omega
  subst e
  congr 1
  refine strict_ext h2 h4 fun z=>?_
  constructor
  ·intro hz
   rcases List.mem_cons.1 ((h z).1 (List.mem_cons_of_mem _ hz)) with e | e
   ·subst e;have:=h1 z hz;omega
   ·exact e
  ·intro hz
   rcases List.mem_cons.1 ((h z).2 (List.mem_cons_of_mem _ hz)) with e | e
   ·subst e;have:=h3 z hz;omega
   ·exact e
theorem reads_sorted {g:Gr}:(readsFrom g 0 g.n).Pairwise (· < ·):=by
 unfold readsFrom
 rw [List.pairwise_map]
 refine List.Pairwise.filter _ ?_
 rw [← List.range_eq_range']
 exact List.pairwise_lt_range.imp fun h=>by omega
theorem reads_mem {g:Gr} {x:Int}:x∈readsFrom g 0 g.n↔∃ i:Nat,i<g.n∧(g.ev i).kind=1∧x=(i:Int):=by
 unfold readsFrom
 rw [← List.range_eq_range',List.mem_map]
 constructor
 ·rintro ⟨i,hi,rfl⟩
  rw [List.mem_filter,List.mem_range,beq_iff_eq] at hi
  exact ⟨i,hi.1,hi.2,rfl⟩
 ·rintro ⟨i,h1,h2,rfl⟩
  exact ⟨i,List.mem_filter.2 ⟨List.mem_range.2 h1,by simpa using h2⟩,rfl⟩
namespace Relist
variable {g h : Gr} {s t : Nat → Nat}
theorem back (w:Relist g h s t) {i:Nat} (hi:i<g.n):h.ev i=g.ev (t i):=by rw [← w.ev _ (w.iso.lt i hi),w.iso.st i hi]
theorem is_s (w:Relist g h s t) {i:Nat} (hi:i<g.n) (k:Int):h.is (s i:Int) k=g.is (i:Int) k:=by
 have:=w.iso.ls i hi
 unfold Gr.is
 rw [Int.toNat_natCast,Int.toNat_natCast,w.ev i hi,w.n]
 have e1:decide (0≤(s i:Int))=true:=by simp
 have e2:decide ((s i:Int)<(g.n:Int))=true:=by simp;omega
 have e3:decide (0≤(i:Int))=true:=by simp
 have e4:decide ((i:Int)<(g.n:Int))=true:=by simp;omega
 rw [e1,e2,e3,e4]
theorem before_s (w:Relist g h s t) {i j:Nat} (hi:i<g.n) (hj:j<g.n):h.before (s i:Int) (s j:Int)=g.before (i:Int) (j:Int):=by
 have:=w.iso.ls i hi
 have:=w.iso.ls j hj
 unfold Gr.before
 simp only [Int.toNat_natCast,w.ev i hi,w.ev j hj,w.n]
 rw [Bool.eq_iff_iff]
 simp only [Bool.and_eq_true,decide_eq_true_eq,beq_iff_eq]
 constructor
 ·rintro ⟨⟨⟨⟨-,h1⟩,-⟩,h2⟩,h3⟩
  refine ⟨⟨⟨⟨by omega,?_⟩,by omega⟩,h2⟩,h3⟩
  apply Classical.byContradiction;intro hn
  rcases Nat.lt_trichotomy i j with c | c | c
  ·omega
  ·subst c;omega
  ·have:=w.up j i c hi h3.symm (by rw [← h3];exact h2);omega
 ·rintro ⟨⟨⟨⟨-,h1⟩,-⟩,h2⟩,h3⟩
  have:=w.up i j (by omega) hj h3 h2
  exact ⟨⟨⟨⟨by omega,by omega⟩,by omega⟩,h2⟩,h3⟩
theorem next_s (w:Relist g h s t) {a b:Nat} (ha:a<g.n) (hb:b<g.n) (hn:g.isNext (a:Int) (b:Int)=true):h.isNext (s a:Int) (s b:Int)=true:=by
 unfold Gr.isNext at hn ⊢
 rw [w.before_s ha hb]
 rw [Bool.and_eq_true,List.all_eq_true] at hn ⊢
 obtain ⟨h1,h2⟩:=hn
 refine ⟨h1,fun k hk=>?_⟩
 simp only [Int.toNat_natCast,List.mem_range'_1] at hk h2 ⊢
 have hbn:=w.iso.ls b hb
 have hkn:k<g.n:=by omega
 rw [w.back hkn,w.ev a ha]
 have htk:=w.iso.lt k hkn
 simp only [Bool.not_eq_true',beq_eq_false_iff_ne]
 intro hth
 have hba:=h1
 unfold Gr.before at hba
 simp only [Bool.and_eq_true,decide_eq_true_eq,beq_iff_eq,Int.toNat_natCast] at hba
 obtain ⟨⟨⟨⟨-,b1⟩,-⟩,b2⟩,b3⟩:=hba
 have k1:a<t k:=by
  rcases Nat.lt_trichotomy a (t k) with c | c | c
  ·exact c
  ·have:=w.iso.st k hkn;rw [← c] at this;omega
  ·have:=w.up (t k) a c ha hth (by rw [hth];exact b2)
   rw [w.iso.st k hkn] at this;omega
 have k2:t k<b:=by
  rcases Nat.lt_trichotomy (t k) b with c | c | c
  ·exact c
  ·have:=w.iso.st k hkn;rw [c] at this;omega
  ·have:=w.up b (t k) c htk (by rw [← b3,hth]) (by rw [← b3];exact b2)
   rw [w.iso.st k hkn] at this;omega
 have:=h2 (t k) (by omega)
 simp only [Bool.not_eq_true',beq_eq_false_iff_ne] at this
 exact this hth
theorem writes (w:Relist g h s t) (c:Int):h.writesOf c=g.writesOf c:=by
 rw [writesOf_range,writesOf_range,w.n]
 have inj:∀ (l:List Nat) (f:Nat→Nat) (f':Nat→Nat),l.Nodup→(∀ k∈l,f' (f k)=k)→(l.map fun k=>((f k:Nat):Int)).Nodup:=fun l f f' hn hf=>by
  rw [List.nodup_iff_pairwise_ne] at hn ⊢
  rw [List.pairwise_map]
  refine hn.imp_of_mem fun {a b} ha hb hab h=>hab ?_
  have h:f a=f b:=by omega
  rw [← hf a ha,← hf b hb,h]
 have nd:∀ p:Nat→Bool,((List.range g.n).filter p).Nodup:=fun p=>List.nodup_range.filter _
 apply Nat.le_antisymm
 ·have:=nodup_le (l:=((List.range g.n).filter fun i=>(h.ev i).kind==2&&(h.ev i).loc==c).map fun k=>((t k:Nat):Int)) (m:=((List.range g.n).filter fun i=>(g.ev i).kind==2&&(g.ev i).loc==c).map fun (k:Nat)=>(k:Int)) (inj _ t s (nd _) fun k hk=>w.iso.st k (List.mem_range.1 (List.mem_filter.1 hk).1)) fun x hx=>by
   obtain ⟨k,hk,rfl⟩:=List.mem_map.1 hx
   obtain ⟨k1,k2⟩:=List.mem_filter.1 hk
   have k1:=List.mem_range.1 k1
   rw [w.back k1] at k2
   exact List.mem_map.2 ⟨t k,List.mem_filter.2 ⟨List.mem_range.2 (w.iso.lt k k1),k2⟩,rfl⟩
  simpa using this
 ·have:=nodup_le (l:=((List.range g.n).filter fun i=>(g.ev i).kind==2&&(g.ev i).loc==c).map fun k=>((s k:Nat):Int)) (m:=((List.range g.n).filter fun i=>(h.ev i).kind==2&&(h.ev i).loc==c).map fun (k:Nat)=>(k:Int)) (inj _ s t (nd _) fun k hk=>w.iso.ts k (List.mem_range.1 (List.mem_filter.1 hk).1)) fun x hx=>by
   obtain ⟨k,hk,rfl⟩:=List.mem_map.1 hx
   obtain ⟨k1,k2⟩:=List.mem_filter.1 hk
   have k1:=List.mem_range.1 k1
   rw [← w.ev k k1] at k2
   exact List.mem_map.2 ⟨s k,List.mem_filter.2 ⟨List.mem_range.2 (w.iso.ls k k1),k2⟩,rfl⟩
  simpa using this
theorem rf_nat (hg:(g.check false).1=0) {p:Int×Int} (hp:p∈g.rf):∃ a b:Nat,p=((a:Int),(b:Int))∧a<g.n∧b<g.n:=by
 obtain ⟨a,b,e,h1,h2,-⟩:=rf_pair hg hp
 exact ⟨a,b,e,h1,h2⟩
theorem rmw_nat (hg:(g.check false).1=0) {p:Int×Int} (hp:p∈g.rmw):∃ a b:Nat,p=((a:Int),(b:Int))∧a<g.n∧b<g.n:=by
 obtain ⟨-,-,-,-,-,h6,-⟩:=check_iff.1 hg
 obtain ⟨b1,b2,b3⟩:=before_lt (rmw_before h6 hp)
 exact ⟨p.1.toNat,p.2.toNat,Prod.ext (by dsimp only;omega) (by dsimp only;omega),by omega,by omega⟩
theorem co_nat' (hg:(g.check false).1=0) {l:List Int} (hl:l∈g.co) {x:Int} (hx:x∈l):0≤x∧x.toNat<g.n:=by
 have hgd:=good_false hg
 obtain ⟨c,hc⟩:=List.mem_iff_getElem?.1 hl
 have hcl:=(List.getElem?_eq_some_iff.1 hc).1
 have hd:g.co.getD c []=l:=by simp [hc]
 obtain ⟨-,h2,-⟩:=co_list hgd hcl
 rw [hd] at h2
 obtain ⟨l1,l2,-⟩:=is_lt (h2 x hx).1
 exact ⟨l1,by omega⟩
theorem good (w:Relist g h s t) (hg:(g.check false).1=0):(h.check false).1=0:=by
 have hgd:=good_false hg
 obtain ⟨h1,h2,h3,h4,h5,h6,h7,h8,h9⟩:=check_iff.1 hg
 have hs:=h1
 simp only [Gr.size,Bool.and_eq_true,decide_eq_true_eq] at hs
 have fixed:∀ c:Nat,(c:Int)<g.cells→h.ev c=g.ev c:=fun c hc=>by
  have:=w.fix c hc (by omega)
  have h:=w.ev c (by omega)
  rw [this] at h;exact h
 have tcell:∀ k,k<g.n→g.cells≤(k:Int)→g.cells≤(t k:Int):=fun k hk hc=>by
  apply Classical.byContradiction;intro hn
  have:=w.fix (t k) (by omega) (w.iso.lt k hk)
  rw [w.iso.st k hk] at this;omega
 refine check_iff.2 ⟨?_,?_,?_,?_,?_,?_,?_,?_,?_⟩
 ·unfold Gr.size at h1 ⊢;rw [w.cells,w.n];exact h1
 ·unfold Gr.initAt at h2 ⊢
  refine firstEv_all _ _ fun c hc hc'=>?_
  rw [w.cells] at hc'
  have:=firstEv_neg _ _ h2 c hc hc'
  rw [fixed c (by omega)];exact this
 ·unfold Gr.evAt at h3 ⊢
  refine firstEv_all _ _ fun k hk hk'=>?_
  rw [w.cells] at hk hk'
  rw [w.n] at hk'
  have hkn:k<g.n:=by omega
  have:=tcell k hkn (by omega)
  have htk:=w.iso.lt k hkn
  have:=firstEv_neg _ _ h3 (t k) (by omega) (by omega)
  rw [w.back hkn]
  unfold Gr.evOk at this ⊢
  rw [w.cells];exact this
 ·obtain ⟨k1,k2⟩:=rf_iff.1 h4
  refine rf_iff.2 ⟨strict_ext (by rw [List.pairwise_map];exact w.rfs) reads_sorted fun x=>?_,fun p hp=>?_⟩
  ·rw [reads_mem,List.mem_map]
   constructor
   ·rintro ⟨p,hp,rfl⟩
    obtain ⟨p',hp',rfl⟩:=List.mem_map.1 (w.rf.mem_iff.1 hp)
    obtain ⟨a,b,e,ha,hb,-,hk,-⟩:=rf_pair hg hp'
    subst e
    exact ⟨s b,by rw [w.n];exact w.iso.ls b hb,by rw [w.ev b hb];exact hk,by unfold mapP;simp⟩
   ·rintro ⟨i,hi,hk,rfl⟩
    rw [w.n] at hi
    rw [w.back hi] at hk
    have hm:((t i:Nat):Int)∈g.rf.map (·.2):=by rw [k1];exact reads_mem.2 ⟨t i,w.iso.lt i hi,hk,rfl⟩
    obtain ⟨p,hp,e⟩:=List.mem_map.1 hm
    refine ⟨mapP s p,w.rf.mem_iff.2 (List.mem_map.2 ⟨p,hp,rfl⟩),?_⟩
    have e:p.2=((t i:Nat):Int):=e
    unfold mapP
    rw [e,Int.toNat_natCast,w.iso.st i hi]
  ·obtain ⟨p',hp',rfl⟩:=List.mem_map.1 (w.rf.mem_iff.1 hp)
   have hok:=k2 p' hp'
   obtain ⟨a,b,rfl,ha,hb⟩:=rf_nat hg hp'
   unfold rfOk at hok ⊢
   unfold mapP
   simp only [Int.toNat_natCast] at hok ⊢
   rw [w.is_s ha,w.ev a ha,w.ev b hb];exact hok
 ·obtain ⟨k1,k2⟩:=co_iff.1 h5
  have hcl:h.co.length=g.co.length:=by rw [w.co,List.length_map]
  refine co_iff.2 ⟨by rw [hcl,w.cells];exact k1,fun c hc=>?_⟩
  rw [hcl] at hc
  have hb:=k2 c hc
  have hl:g.co[c]?=some (g.co.getD c []):=by simp [hc]
  have hl':h.co.getD c []=(g.co.getD c []).map fun x=>(s x.toNat:Int):=by rw [w.co];simp [hc]
  have hmem:=List.mem_of_getElem? hl
  rw [hl']
  generalize g.co.getD c []=l at hb hmem
  unfold Gr.coBad at hb ⊢
  simp only [Bool.or_eq_false_iff,Bool.not_eq_false',beq_iff_eq,List.all_eq_true,Bool.and_eq_true,decide_eq_true_eq] at hb ⊢
  obtain ⟨⟨⟨b1,b2⟩,b3⟩,b4⟩:=hb
  have hnat:∀ x∈l,0≤x∧x.toNat<g.n:=fun x hx=>co_nat' hg hmem hx
  refine ⟨⟨⟨?_,by rw [List.length_map,w.writes];exact b2⟩,fun y hy=>?_⟩,?_⟩
  ·rw [List.head?_map,b1]
   simp only [Option.map_some,Int.toNat_natCast]
   rw [w.fix c (by omega) (by omega)]
  ·obtain ⟨x,hx,rfl⟩:=List.mem_map.1 hy
   obtain ⟨x1,x2⟩:=hnat x hx
   obtain ⟨y1,y2⟩:=b3 x hx
   obtain ⟨x',rfl⟩:=Int.eq_ofNat_of_zero_le x1
   simp only [Int.toNat_natCast] at x2 y2 ⊢
   rw [w.is_s x2,w.ev x' x2];exact ⟨y1,y2⟩
  ·rw [List.nodup_iff_pairwise_ne] at b4 ⊢
   rw [List.pairwise_map]
   refine b4.imp_of_mem fun {a b} ha hb hab e=>hab ?_
   obtain ⟨a1,a2⟩:=hnat a ha
   obtain ⟨b1,b2⟩:=hnat b hb
   have e1:s a.toNat=s b.toNat:=by omega
   have e2:a.toNat=b.toNat:=by rw [← w.iso.ts _ a2,← w.iso.ts _ b2,e1]
   omega
 ·obtain ⟨k1,k2⟩:=rmw_iff.1 h6
  refine rmw_iff.2 ⟨w.rmws,fun p hp=>?_⟩
  obtain ⟨p',hp',rfl⟩:=List.mem_map.1 (w.rmw.mem_iff.1 hp)
  have hok:=k2 p' hp'
  obtain ⟨a,b,rfl,ha,hb⟩:=rmw_nat hg hp'
  unfold rmwOk at hok ⊢
  unfold mapP
  simp only [Int.toNat_natCast,Bool.and_eq_true] at hok ⊢
  rw [w.is_s ha,w.is_s hb,w.ev a ha,w.ev b hb]
  exact ⟨⟨hok.1.1,w.next_s ha hb hok.1.2⟩,hok.2⟩
 ·rw [w.addr];exact dep_src.2 rfl
 ·rw [w.data];exact dep_src.2 rfl
 ·rw [w.ctrl];exact dep_src.2 rfl
end Relist
end Go.Proofs.Tst
/-
  What the source model's chains make (plain).
-/
namespace Go.Proofs.Tst
open Go Go.Vc
section
variable {g : Gr}
end
end Go.Proofs.Tst
/-
  The source's memory model in memory: its parts.
-/
namespace Go.Proofs.Tst
open Go Go.Vc
def rcM (g:Gr):Nat→Mx
 | 0=>rsM g
 | 1=>swM g
 | 2=>hbM g
 | 3=>ecoM g
 | 4=>scbM g
 | 5=>baseM g
 | _=>pscfM g
section
variable {h : Heap} {mb : Nat} {q : GV} {g : Gr}
end
end Go.Proofs.Tst
/-
  The source's memory model of a graph.
-/
namespace Go.Proofs.Tst
open Go Go.Vc
def scells (q:GV) (g:Gr) (c:Nat→Nat) (rd wr fe:Value) (d:Nat→Nat):List Value:=[.int .i64 g.cells,.slice q.e g.evs.length q.ec,.slice q.f g.rf.length q.fc,.slice q.o g.co.length q.oc,.slice q.r g.rmw.length q.rc,.slice q.a g.addr.length q.ac,.slice q.d g.data.length q.dc,.slice q.c g.ctrl.length q.cc,
 .pointer (some ⟨c 0,0,none⟩),.pointer (some ⟨c 1,0,none⟩),.pointer (some ⟨c 2,0,none⟩),.pointer (some ⟨c 9,0,none⟩),.pointer (some ⟨c 3,0,none⟩),.pointer (some ⟨c 4,0,none⟩),.pointer (some ⟨c 5,0,none⟩),.pointer (some ⟨c 6,0,none⟩),.pointer (some ⟨c 7,0,none⟩),.pointer (some ⟨c 8,0,none⟩),rd,wr,fe,
 .pointer (some ⟨d 0,0,none⟩),.pointer (some ⟨d 1,0,none⟩),.pointer (some ⟨d 2,0,none⟩),.pointer (some ⟨d 3,0,none⟩),.pointer (some ⟨d 4,0,none⟩),.pointer (some ⟨d 5,0,none⟩),.pointer (some ⟨d 6,0,none⟩)]
def PB (h:Heap) (lo hi:Nat) (v:Value) (n:Nat) (M:Mx):Prop:=∃ a b,ProgAt h a b v n M∧lo≤a∧a≤b∧b≤hi
theorem PB.fr {h h':Heap} {lo hi l r n:Nat} {v:Value} {M:Mx} (t:PB h lo hi v n M) (f:Fr l r h h') (hd:r≤lo∨hi≤l∨r≤l):PB h' lo hi v n M:=by
 obtain ⟨a,b,t,k⟩:=t
 exact ⟨a,b,t.fr f (by omega),k⟩
theorem PB.wide {h:Heap} {lo hi lo' hi' n:Nat} {v:Value} {M:Mx} (t:PB h lo hi v n M) (h1:lo'≤lo) (h2:hi≤hi'):PB h lo' hi' v n M:=by
 obtain ⟨a,b,t,k⟩:=t
 exact ⟨a,b,t,by omega,k.2.1,by omega⟩
theorem PB.pa {h:Heap} {lo hi n:Nat} {v:Value} {M:Mx} (t:PB h lo hi v n M):PA h v n M:=by obtain ⟨a,b,t,-⟩:=t;exact ⟨a,b,t⟩
structure Ms (h:Heap) (lo mb:Nat) (q:GV) (g:Gr) (c:Nat→Nat) (rd wr fe:Value) (d L:Nat→Nat):Prop where
 row:Rw h mb (scells q g c rd wr fe d)
 gr:GrAt h q g
 n:g.n≤256
 rel:∀ k,k<10→PA h (.pointer (some ⟨c k,0,none⟩)) g.n (relM g k)
 hm:∀ k,k<7→PB h (L k) (L (k+1)) (.pointer (some ⟨d k,0,none⟩)) g.n (rcM g k)
 mono:∀ k,k<7→L k≤L (k+1)
 lo:lo≤L 0
 hi:L 7≤h.size
theorem Ms.fr {h h':Heap} {lo mb:Nat} {q:GV} {g:Gr} {c:Nat→Nat} {rd wr fe:Value} {d L:Nat→Nat} (m:Ms h lo mb q g c rd wr fe d L) (f:Fr 0 0 h h'):Ms h' lo mb q g c rd wr fe d L:=
 ⟨m.row.fr f (by omega),m.gr.fr f,m.n,fun k hk=>(m.rel k hk).fr f,fun k hk=>(m.hm k hk).fr f (by omega),m.mono,m.lo,Nat.le_trans m.hi f.size⟩
theorem PN.F {h h' : Heap} {lo n l r : Nat} {v : Value} {M : Mx} (t : PN h lo v n M) (f : Fr l r h h') (hd : r ≤ lo ∨ h.size ≤ l ∨ r ≤ l := by omega) : PN h' lo v n M := t.fr f hd
theorem PB.F {h h' : Heap} {lo hi n l r : Nat} {v : Value} {M : Mx} (t : PB h lo hi v n M) (f : Fr l r h h') (hd : r ≤ lo ∨ hi ≤ l ∨ r ≤ l := by omega) : PB h' lo hi v n M := t.fr f hd
section
variable {h : Heap} {q : GV} {g : Gr}
end
end Go.Proofs.Tst
/-
  The words' memory model: Derive, Check.
-/
namespace Go.Proofs.Tst
open Go Go.Vc
theorem natsV_ints (l:List Nat):natsV l=intsV (l.map fun (x:Nat)=>(x:Int)):=by unfold natsV intsV;rw [List.map_map];rfl
theorem find_at {α:Type} {f:α→Bool} {l:List α} {i:Nat} {x:α} (h:l[i]?=some x) (hn:(l.take i).find? f=none) (hx:f x=true):l.find? f=some x:=by
 have hlt:=(List.getElem?_eq_some_iff.1 h).1
 have hd:l.drop i=x :: l.drop (i+1):=by rw [List.drop_eq_getElem_cons hlt];congr 1;exact (List.getElem?_eq_some_iff.1 h).2
 rw [← List.take_append_drop i l,List.find?_append,hn,hd]
 simp [hx]
theorem find_next {α:Type} {f:α→Bool} {l:List α} {i:Nat} {x:α} (h:l[i]?=some x) (hn:(l.take i).find? f=none) (hx:f x=false):(l.take (i+1)).find? f=none:=by
 rw [List.take_add_one,h,List.find?_append,hn]
 simp [hx]
section
variable {h : Heap} {q : GV} {g : Gr}
end
end Go.Proofs.Tst
/-
  The source's memory model: Derive, the axioms, Check.
-/
namespace Go.Proofs.Tst
open Go Go.Vc
theorem tornS_has {g:Gr} {p:Int×Int}:(inR g.n p.1&&inR g.n p.2&&compM g.n (relM g 9) g.n (relM g 2) p.1.toNat p.2.toNat)=tornS g p:=by
 unfold tornS
 cases h1:inR g.n p.1
 ·rfl
 cases h2:inR g.n p.2
 ·rfl
 unfold inR at h1 h2
 simp only [Bool.and_eq_true,decide_eq_true_eq] at h1 h2
 rw [compM_in (by omega) (by omega)]
section
variable {h : Heap} {lo mb : Nat} {q : GV} {g : Gr} {c : Nat → Nat} {rd wr fe : Value} {d L : Nat → Nat}
end
end Go.Proofs.Tst
/-
  The source's memory model: Derive, Check.
-/
namespace Go.Proofs.Tst
open Go Go.Vc
section
variable {h : Heap} {q : GV} {g : Gr}
end
end Go.Proofs.Tst
/-
  Sequential consistency and TSO (plain).
-/
namespace Go.Proofs.Tst
open Go Go.Vc
def allM (g:Gr) (i j:Nat):Bool:=relM g 0 i j||relM g 1 i j||relM g 2 i j||relM g 9 i j
def fullB (g:Gr) (i:Nat):Bool:=isK g 3 i&&(isM g 5 i||isM g 15 i)
def tiedB (g:Gr) (i:Nat):Bool:=g.rmw.any fun p=>p.1==(i:Int)||p.2==(i:Int)
def keptM (g:Gr) (i j:Nat):Bool:=(relM g 0 i j&&(!isK g 3 i&&!isK g 3 j&&(isK g 1 i||isK g 2 j)))||(relM g 0 i j&&(tiedB g i||tiedB g j))||exB g.n fun f=>fullB g f&&relM g 0 i f&&relM g 0 f j
def globM (g:Gr) (i j:Nat):Bool:=keptM g i j||rfeM g i j||relM g 2 i j||relM g 9 i j
def scAx (g:Gr):Int×List Int:=
 if cycS g.n (allM g)≠[] then (1,natsI (cycS g.n (allM g)))
 else if atomS g≠[] then (2,atomS g)
 else (0,[])
def tsoAx (g:Gr):Int×List Int:=
 if cycS g.n (inM g)≠[] then (1,natsI (cycS g.n (inM g)))
 else if atomS g≠[] then (2,atomS g)
 else if cycS g.n (globM g)≠[] then (3,natsI (cycS g.n (globM g)))
 else (0,[])
theorem scAx_zero {g:Gr}:(scAx g).1=0↔cycS g.n (allM g)=[]∧∀ p∈g.rmw,tornS g p=false:=by
 rw [← atomS_nil]
 unfold scAx
 by_cases h1:cycS g.n (allM g)=[]
 ·rw [if_neg (by simp [h1])]
  by_cases h2:atomS g=[]
  ·rw [if_neg (by simp [h2])];simp [h1,h2]
  ·rw [if_pos h2];simp [h2]
 ·rw [if_pos h1];simp [h1]
section
variable {g : Gr}
end
end Go.Proofs.Tst
/-
  Sequential consistency and TSO: the axioms in a row (plain).
-/
namespace Go.Proofs.Tst
open Go Go.Vc
def scL (g:Gr) (k:Nat):List Int:=match k with | 0=>natsI (cycS g.n (allM g)) | _=>atomS g
def tsoL (g:Gr) (k:Nat):List Int:=match k with | 0=>natsI (cycS g.n (inM g)) | 1=>atomS g | _=>natsI (cycS g.n (globM g))
theorem natsI_nil {l:List Nat}:natsI l=[]↔l=[]:=by unfold natsI;simp
theorem scAx_at {g:Gr} {k:Nat} (hk:k<2) (h0:∀ l,l<k→scL g l=[]) (h1:scL g k≠[]):scAx g=(((k+1:Nat):Int),scL g k):=by
 unfold scAx
 have hk:k=0∨k=1:=by omega
 rcases hk with rfl | rfl
 ·rw [if_pos (show cycS g.n (allM g)≠[] from fun e=>h1 (natsI_nil.2 e))];rfl
 ·have e0:cycS g.n (allM g)=[]:=natsI_nil.1 (h0 0 (by decide))
  rw [if_neg (by simp [e0]),if_pos (show atomS g≠[] from h1)];rfl
theorem scAx_none {g:Gr} (h0:∀ l,l<2→scL g l=[]):scAx g=(0,[]):=by
 have e0:cycS g.n (allM g)=[]:=natsI_nil.1 (h0 0 (by decide))
 have e1:atomS g=[]:=h0 1 (by decide)
 unfold scAx
 rw [if_neg (by simp [e0]),if_neg (by simp [e1])]
theorem tsoAx_at {g:Gr} {k:Nat} (hk:k<3) (h0:∀ l,l<k→tsoL g l=[]) (h1:tsoL g k≠[]):tsoAx g=(((k+1:Nat):Int),tsoL g k):=by
 unfold tsoAx
 have hk:k=0∨k=1∨k=2:=by omega
 rcases hk with rfl | rfl | rfl
 ·rw [if_pos (show cycS g.n (inM g)≠[] from fun e=>h1 (natsI_nil.2 e))];rfl
 ·have e0:cycS g.n (inM g)=[]:=natsI_nil.1 (h0 0 (by decide))
  rw [if_neg (by simp [e0]),if_pos (show atomS g≠[] from h1)];rfl
 ·have e0:cycS g.n (inM g)=[]:=natsI_nil.1 (h0 0 (by decide))
  have e1:atomS g=[]:=h0 1 (by decide)
  rw [if_neg (by simp [e0]),if_neg (by simp [e1]),if_pos (show cycS g.n (globM g)≠[] from fun e=>h1 (natsI_nil.2 e))];rfl
theorem tsoAx_none {g:Gr} (h0:∀ l,l<3→tsoL g l=[]):tsoAx g=(0,[]):=by
 have e0:cycS g.n (inM g)=[]:=natsI_nil.1 (h0 0 (by decide))
 have e1:atomS g=[]:=h0 1 (by decide)
 have e2:cycS g.n (globM g)=[]:=natsI_nil.1 (h0 2 (by decide))
 unfold tsoAx
 rw [if_neg (by simp [e0]),if_neg (by simp [e1]),if_neg (by simp [e2])]
def keptP (g:Gr) (i j:Nat):Bool:=
 (relM g 0 i j&&isK g 1 i&&!isK g 3 j)||(relM g 0 i j&&!isK g 3 i&&isK g 2 j)||(exB g.n fun f=>relM g 0 i f&&fullB g f&&relM g 0 f j)||(relM g 0 i j&&tiedB g j)||(tiedB g i&&relM g 0 i j)
theorem keptP_in {g:Gr} {i j:Nat}:keptP g i j=keptM g i j:=by
 have hx:(exB g.n fun f=>relM g 0 i f&&fullB g f&&relM g 0 f j)=exB g.n fun f=>fullB g f&&relM g 0 i f&&relM g 0 f j:=by
  congr 1;funext f;cases relM g 0 i f <;> cases fullB g f <;> rfl
 unfold keptP keptM
 rw [hx]
 have k1:isK g 1 i=true→isK g 3 i=false:=fun h=>by unfold isK at *;simp only [beq_iff_eq] at h;rw [h];rfl
 have k2:isK g 2 j=true→isK g 3 j=false:=fun h=>by unfold isK at *;simp only [beq_iff_eq] at h;rw [h];rfl
 cases relM g 0 i j <;> cases h1:isK g 1 i <;> cases h3:isK g 3 i <;> cases h4:isK g 2 j <;> cases h5:isK g 3 j <;> cases tiedB g i <;> cases tiedB g j <;> cases (exB g.n fun f=>fullB g f&&relM g 0 i f&&relM g 0 f j) <;> simp_all
end Go.Proofs.Tst
/-
  A source graph as one of words (plain).
-/
namespace Go.Proofs.Tst
open Go Go.Vc
def mapMode (k m:Int):Int:=if k=3 then (if m=2 then 14 else 15) else if m=1 then 11 else if k=1 then 12 else 13
def pairB (g:Gr) (i:Nat):Bool:=g.rmw.any fun p=>p.1==(i:Int)
def lseB (g:Gr) (lse:Bool) (i:Nat):Bool:=lse&&(g.ev i).kind==1&&(g.ev i).mode==2&&!pairB g i
def mapEv (g:Gr) (lse:Bool) (i:Nat):Ev:={ g.ev i with mode:=if lseB g lse i=true then 16 else mapMode (g.ev i).kind (g.ev i).mode }
def rlxB (g:Gr) (i:Nat):Bool:=(g.ev i).kind==1&&(g.ev i).mode==1
def ctrlTo (g:Gr) (i k:Nat):List (Int×Int):=((List.range k).filter fun b=>relM g 0 i b).map fun (b:Nat)=>((i:Int),(b:Int))
def ctrlOf (g:Gr) (i:Nat):List (Int×Int):=if rlxB g i=true then ctrlTo g i g.n else []
def mapTo (g:Gr) (k:Nat):List (Int×Int):=(List.range k).flatMap (ctrlOf g)
def evsTo (g:Gr) (lse:Bool) (k:Nat):List Ev:=(List.range g.n).map fun j=>if j<k then mapEv g lse j else g.ev j
def mapG (g:Gr) (lse:Bool):Gr:=⟨g.cells,evsTo g lse g.n,g.rf,g.co,g.rmw,[],[],mapTo g g.n⟩
def zeroG:Gr:=⟨0,[],[],[],[],[],[],[]⟩
section
variable {g : Gr} {lse : Bool}
theorem ctrlTo_succ {i k:Nat}:ctrlTo g i (k+1)=ctrlTo g i k++(if relM g 0 i k=true then [((i:Int),(k:Int))] else []):=by
 unfold ctrlTo
 rw [List.range_succ,List.filter_append,List.map_append]
 congr 1
 cases h:relM g 0 i k <;> simp [h]
theorem ctrlTo_len {i k:Nat}:(ctrlTo g i k).length≤k:=by
 unfold ctrlTo
 rw [List.length_map]
 exact Nat.le_trans (List.length_filter_le _ _) (by simp)
theorem ctrlOf_len {i:Nat}:(ctrlOf g i).length≤g.n:=by
 unfold ctrlOf
 split
 ·exact ctrlTo_len
 ·simp
theorem mapTo_succ {k:Nat}:mapTo g (k+1)=mapTo g k++ctrlOf g k:=by unfold mapTo;rw [List.range_succ,List.flatMap_append];simp
theorem mapTo_len:∀ {k:Nat},(mapTo g k).length≤k * g.n
 | 0=>by simp [mapTo]
 | k+1=>by
  have ih:=mapTo_len (k:=k)
  have:=ctrlOf_len (g:=g) (i:=k)
  rw [mapTo_succ,List.length_append,Nat.add_mul];omega
@[simp] theorem evsTo_len {k:Nat}:(evsTo g lse k).length=g.n:=by unfold evsTo;simp
theorem evsTo_get {k i:Nat} (hi:i<g.n):(evsTo g lse k)[i]?=some (if i<k then mapEv g lse i else g.ev i):=by
 unfold evsTo
 rw [List.getElem?_map,List.getElem?_range hi];rfl
theorem ev_get {i:Nat} (hi:i<g.n):g.evs[i]?=some (g.ev i):=by
 unfold Gr.ev
 rw [List.getD_eq_getElem?_getD]
 have:i<g.evs.length:=hi
 rw [List.getElem?_eq_getElem this];rfl
theorem evsTo_zero:evsTo g lse 0=g.evs:=by
 apply List.ext_getElem?
 intro i
 by_cases hi:i<g.n
 ·rw [evsTo_get hi,ev_get hi];simp
 ·rw [List.getElem?_eq_none (by simp;omega),List.getElem?_eq_none (by exact Nat.le_of_not_lt hi)]
theorem evsTo_succ {k:Nat} (hk:k<g.n):evsTo g lse (k+1)=(evsTo g lse k).set k (mapEv g lse k):=by
 apply List.ext_getElem?
 intro i
 by_cases hi:i<g.n
 ·rw [evsTo_get hi,List.getElem?_set]
  by_cases he:k=i
  ·subst he;simp [hk]
  ·rw [if_neg he,evsTo_get hi]
   by_cases h1:i<k
   ·rw [if_pos h1,if_pos (by omega)]
   ·rw [if_neg h1,if_neg (by omega)]
 ·rw [List.getElem?_eq_none (by simp;omega),List.getElem?_eq_none (by simp;omega)]
theorem mapG_n:(mapG g lse).n=g.n:=by show (evsTo g lse g.n).length=g.n;simp
theorem src_deps (hc:(g.check false).1=0):g.addr=[]∧g.data=[]∧g.ctrl=[]:=by
 obtain ⟨-,-,-,-,-,-,h7,h8,h9⟩:=check_zero hc
 have key:∀ {l:List (Int×Int)} {k:Int→Bool},¬ 0≤g.depAt false l k→l=[]:=by
  intro l k h
  cases l with
  | nil=>rfl
  | cons p l =>
   obtain ⟨x,hx⟩:=firstBad_neg (f:=g.depBad false (p :: l) k) h p (by simp)
   unfold Gr.depBad at hx
   simp at hx
 exact ⟨key h7,key h8,key h9⟩
end
end Go.Proofs.Tst
/-
  The order of a graph's events: where the graph is sequentially consistent there is one (plain).
-/
namespace Go.Proofs.Tst
open Go Go.Vc
section
variable {n : Nat} {M : Nat → Nat → Bool} {F : Nat → Nat} {S : Nat → Int}
end
/-! ### The order -/
section
variable {g : Gr}
structure PairOk (g:Gr) (a b:Nat):Prop where
 la:a<g.n
 lb:b<g.n
 ka:(g.ev a).kind=1
 kb:(g.ev b).kind=2
 po:relM g 0 a b=true
 nx:∀ i,a<i→i<b→(g.ev i).thread≠(g.ev a).thread
 loc:(g.ev a).loc=(g.ev b).loc
theorem pair_ok (hg:g.good=true) {p:Int×Int} (hp:p∈g.rmw):∃ a b:Nat,p=((a:Int),(b:Int))∧PairOk g a b:=by
 obtain ⟨words,hz⟩:=good_check hg
 obtain ⟨-,-,-,-,-,h6,-⟩:=check_iff.1 hz
 have hok:=(rmw_iff.1 h6).2 p hp
 unfold rmwOk Gr.is Gr.isNext at hok
 simp only [Bool.and_eq_true,decide_eq_true_eq,beq_iff_eq,List.all_eq_true,List.mem_range'_1,Bool.not_eq_true',beq_eq_false_iff_ne] at hok
 obtain ⟨⟨⟨⟨⟨a1,a2⟩,a3⟩,⟨b1,b2⟩,b3⟩,c1,c2⟩,d⟩:=hok
 obtain ⟨x,y⟩:=p
 obtain ⟨a,rfl⟩:∃ a:Nat,x=a:=⟨x.toNat,by dsimp only at a1;omega⟩
 obtain ⟨b,rfl⟩:∃ b:Nat,y=b:=⟨y.toNat,by dsimp only at b1;omega⟩
 simp only [Int.toNat_natCast] at a3 b3 c2 d
 dsimp only at a2 b2 c1
 exact ⟨a,b,rfl,by omega,by omega,a3,b3,c1,fun i h1 h2=>c2 i (by omega),d⟩
end
end Go.Proofs.Tst
