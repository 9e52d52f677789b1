/-
  Contracts of functions that the law reaches: what each returns and what it leaves in memory. Conditions stand in each.
-/
import Derived.Test.YtpocfojbfodlmaaDoorT5
set_option linter.all false
set_option maxRecDepth 2000
/-
  A graph with weaker modes and fewer pairs (plain).
-/
namespace Go.Proofs.Tst
open Go Go.Vc
def weakM (m m':Int):Prop:=m'=m∨(m=12∧m'=16)∨((m=12∨m=13∨m=16)∧m'=11)∨(m=15∧m'=14)
structure Weak (g h:Gr):Prop where
 cells:h.cells=g.cells
 len:h.n=g.n
 rf:h.rf=g.rf
 co:h.co=g.co
 rmw:h.rmw=g.rmw
 thr:∀ i,(h.ev i).thread=(g.ev i).thread
 kind:∀ i,(h.ev i).kind=(g.ev i).kind
 loc:∀ i,(h.ev i).loc=(g.ev i).loc
 val:∀ i,(h.ev i).val=(g.ev i).val
 mode:∀ i,weakM (g.ev i).mode (h.ev i).mode
 addr:h.addr.Sublist g.addr
 data:h.data.Sublist g.data
 ctrl:h.ctrl.Sublist g.ctrl
theorem firstEv_all {f:Nat→Bool}:∀ (d i:Nat),(∀ j,i≤j→j<i+d→f j=false)→¬ 0≤Gr.firstEv f d i
 | 0,i,_=>by unfold Gr.firstEv;omega
 | d+1,i,h=>by
  rw [firstEv_ok (h i (Nat.le_refl _) (by omega))]
  exact firstEv_all d (i+1) fun j h1 h2=>h j (by omega) (by omega)
namespace Weak
variable {g h : Gr}
theorem size (w:Weak g h):h.size=g.size:=by unfold Gr.size;rw [w.cells,w.len]
theorem is (w:Weak g h) (i k:Int):h.is i k=g.is i k:=by unfold Gr.is;rw [w.len,w.kind]
theorem before (w:Weak g h) (a b:Int):h.before a b=g.before a b:=by unfold Gr.before;rw [w.len,w.thr,w.thr]
theorem isNext (w:Weak g h) (a b:Int):h.isNext a b=g.isNext a b:=by unfold Gr.isNext;simp only [w.before,w.thr]
theorem writesOf (w:Weak g h) (c:Int):h.writesOf c=g.writesOf c:=by rw [writesOf_range,writesOf_range];simp only [w.len,w.kind,w.loc]
theorem rfBad (w:Weak g h) (r k:Nat):h.rfBad r k=g.rfBad r k:=by unfold Gr.rfBad;simp only [w.rf,w.is,w.loc,w.val]
theorem rfGo (w:Weak g h):∀ d r k,h.rfGo d r k=g.rfGo d r k
 | 0,r,k=>by unfold Gr.rfGo;rw [w.rf]
 | d+1,r,k=>by unfold Gr.rfGo;simp only [w.kind,w.rfBad,w.rfGo d]
theorem rfAt (w:Weak g h):h.rfAt=g.rfAt:=by unfold Gr.rfAt;rw [w.rfGo,w.len]
theorem coBad (w:Weak g h) (c:Nat) (l:List Int):h.coBad c l=g.coBad c l:=by unfold Gr.coBad;simp only [w.writesOf,w.is,w.loc]
theorem coAt (w:Weak g h):h.coAt=g.coAt:=by unfold Gr.coAt Gr.coFirst Gr.lists;simp only [w.co,w.cells,w.coBad]
theorem rmwAt (w:Weak g h):h.rmwAt=g.rmwAt:=by
 unfold Gr.rmwAt
 rw [w.rmw]
 refine firstBad_congr fun j p _=>?_
 unfold Gr.rmwBad
 simp only [w.rmw,w.is,w.isNext,w.loc]
theorem modeOk (w:Weak g h) (i:Nat) (hk:Gr.modeOk true (g.ev i).kind (g.ev i).mode=true):Gr.modeOk true (h.ev i).kind (h.ev i).mode=true:=by
 have:=w.mode i
 rw [w.kind]
 unfold Gr.modeOk at hk ⊢
 simp only [if_true,Bool.or_eq_true,Bool.and_eq_true,beq_iff_eq] at hk ⊢
 unfold weakM at this
 omega
theorem evOk (w:Weak g h) (i:Nat) (hk:g.evOk true (g.ev i)=true):h.evOk true (h.ev i)=true:=by
 unfold Gr.evOk at hk ⊢
 simp only [Bool.and_eq_true] at hk ⊢
 obtain ⟨⟨⟨h1,h2⟩,h3⟩,h4⟩:=hk
 refine ⟨⟨⟨?_,?_⟩,w.modeOk i h3⟩,?_⟩
 ·rw [w.thr];exact h1
 ·rw [w.thr];exact h2
 ·rw [w.kind,w.loc,w.val,w.cells];exact h4
theorem first (w:Weak g h) (c:Nat) (hk:g.ev c=Gr.first true c):h.ev c=Gr.first true c:=by
 have h1:=w.thr c;have h2:=w.kind c;have h3:=w.loc c;have h4:=w.val c;have h5:=w.mode c
 rw [hk] at h1 h2 h3 h4 h5
 have h5':(h.ev c).mode=11:=by
  unfold weakM Gr.first at h5;simp only [if_true] at h5;omega
 have h6:(h.ev c).mode=(Gr.first true c).mode:=h5'
 generalize h.ev c=e at h1 h2 h3 h4 h6
 generalize Gr.first true c=e' at h1 h2 h3 h4 h6
 cases e;cases e'
 simp only at h1 h2 h3 h4 h6
 rw [h1,h2,h3,h4,h6]
end Weak
def Rises (l:List (Int×Int)):Prop:=l.Pairwise fun p q=>p.1<q.1∨p.1=q.1∧p.2<q.2
theorem rises_of:∀ {l:List (Int×Int)},(∀ i p q,l[i]?=some p→l[i+1]?=some q→p.1<q.1∨p.1=q.1∧p.2<q.2)→Rises l
 | [],_=>List.Pairwise.nil
 | [p],_=>List.pairwise_singleton _ _
 | p :: q :: l,h=>by
  have ih:Rises (q :: l):=rises_of fun i a b ha hb=>h (i+1) a b (by simpa using ha) (by simpa using hb)
  refine List.Pairwise.cons (fun x hx=>?_) ih
  have h0:=h 0 p q rfl rfl
  rcases List.mem_cons.1 hx with rfl | hx
  ·exact h0
  ·have:=(List.pairwise_cons.1 ih).1 x hx
   omega
theorem rises_at {l:List (Int×Int)} (h:Rises l) {i:Nat} {p q:Int×Int} (hp:l[i]?=some p) (hq:l[i+1]?=some q):p.1<q.1∨p.1=q.1∧p.2<q.2:=by
 obtain ⟨h1,e1⟩:=List.getElem?_eq_some_iff.1 hp
 obtain ⟨h2,e2⟩:=List.getElem?_eq_some_iff.1 hq
 have:=List.pairwise_iff_getElem.1 h i (i+1) h1 h2 (by omega)
 rw [e1,e2] at this;exact this
theorem firstBad_get {f:Nat→Int×Int→Bool}:∀ {l:List (Int×Int)} {i:Nat},¬ 0≤Gr.firstBad f l i→∀ j p,l[j]?=some p→f (i+j) p=false
 | [],_,_,j,p,hp=>by simp at hp
 | q :: l,i,h,j,p,hp=>by
  cases hf:f i q
  ·rw [firstBad_ok hf] at h
   cases j with
   | zero=>simp at hp;subst hp;exact hf
   | succ j=>have:=firstBad_get h j p (by simpa using hp);rw [show i+(j+1)=i+1+j by omega];exact this
  ·rw [firstBad_bad hf] at h;omega
theorem firstBad_none {f:Nat→Int×Int→Bool}:∀ {l:List (Int×Int)} {i:Nat},(∀ j p,l[j]?=some p→f (i+j) p=false)→¬ 0≤Gr.firstBad f l i
 | [],_,_=>by unfold Gr.firstBad;omega
 | q :: l,i,h=>by
  rw [firstBad_ok (by have:=h 0 q rfl;exact this)]
  exact firstBad_none fun j p hp=>by have:=h (j+1) p (by simpa using hp);rw [show i+1+j=i+(j+1) by omega];exact this
theorem dep_iff {g:Gr} {l:List (Int×Int)} {f:Int→Bool}:¬ 0≤g.depAt true l f↔Rises l∧∀ p∈l,g.is p.1 1=true∧g.before p.1 p.2=true∧f (g.ev p.2.toNat).kind=true:=by
 unfold Gr.depAt
 constructor
 ·intro h
  have hb:=firstBad_get h
  refine ⟨rises_of fun i p q hp hq=>?_,fun p hp=>?_⟩
  ·have:=hb (i+1) q hq
   unfold Gr.depBad at this
   simp only [Bool.or_eq_false_iff,Bool.and_eq_false_imp,decide_eq_true_eq] at this
   have h1:=this.1.1.1.1 (by omega)
   rw [Nat.zero_add,Nat.add_sub_cancel,List.getD_eq_getElem?_getD,hp,Option.getD_some] at h1
   simp only [decide_eq_false_iff_not,beq_iff_eq] at h1
   obtain ⟨h1,h2⟩:=h1
   by_cases he:q.1=p.1
   ·have:=h2 he;right;exact ⟨he.symm,by omega⟩
   ·left;omega
  ·obtain ⟨j,hj⟩:=List.mem_iff_getElem?.1 hp
   have:=hb j p hj
   unfold Gr.depBad at this
   simp only [Bool.or_eq_false_iff,Bool.not_eq_false'] at this
   exact ⟨this.1.1.2,this.1.2,this.2⟩
 ·rintro ⟨hr,hp⟩
  refine firstBad_none fun j p hj=>?_
  obtain ⟨h1,h2,h3⟩:=hp p (List.mem_of_getElem? hj)
  unfold Gr.depBad
  rw [h1,h2,h3]
  simp only [Bool.not_true,Bool.or_false]
  by_cases h0:0<0+j
  ·obtain ⟨i,rfl⟩:∃ i,j=i+1:=⟨j - 1,by omega⟩
   have hlt:=(List.getElem?_eq_some_iff.1 hj).1
   have hi:l[i]?=some l[i]:=List.getElem?_eq_getElem (by omega)
   have:=rises_at hr hi hj
   rw [Nat.zero_add,Nat.add_sub_cancel,List.getD_eq_getElem?_getD,hi,Option.getD_some]
   have e1:decide (p.1<l[i].1)=false:=by simp;omega
   rw [e1]
   by_cases he:p.1=l[i].1
   ·have e2:decide (p.2≤l[i].2)=false:=by simp;omega
    rw [e2];simp
   ·have:(p.1==l[i].1)=false:=by simpa using he
    rw [this];simp
  ·have:decide (0<0+j)=false:=by simpa using h0
   rw [this];rfl
namespace Weak
variable {g h : Gr}
theorem dep (w:Weak g h) {l l':List (Int×Int)} {f:Int→Bool} (hs:l'.Sublist l) (hd:¬ 0≤g.depAt true l f):¬ 0≤h.depAt true l' f:=by
 obtain ⟨h1,h2⟩:=dep_iff.1 hd
 refine dep_iff.2 ⟨h1.sublist hs,fun p hp=>?_⟩
 obtain ⟨a,b,c⟩:=h2 p (hs.subset hp)
 rw [w.is,w.before,w.kind];exact ⟨a,b,c⟩
theorem check (w:Weak g h) (hg:(g.check true).1=0):(h.check true).1=0:=by
 obtain ⟨h1,h2,h3,h4,h5,h6,h7,h8,h9⟩:=check_zero hg
 have k2:¬ 0≤h.initAt true:=by
  unfold Gr.initAt at h2 ⊢
  refine firstEv_all _ _ fun j hj hj'=>?_
  rw [w.cells] at hj'
  have:=firstEv_neg _ _ h2 j hj hj'
  simp only [Bool.not_eq_false',beq_iff_eq] at this ⊢
  exact w.first j this
 have k3:¬ 0≤h.evAt true:=by
  unfold Gr.evAt at h3 ⊢
  refine firstEv_all _ _ fun j hj hj'=>?_
  rw [w.cells] at hj hj'
  rw [w.len] at hj'
  have:=firstEv_neg _ _ h3 j hj hj'
  simp only [Bool.not_eq_false'] at this ⊢
  exact w.evOk j this
 unfold Gr.check
 rw [w.size,h1,if_neg (by simp),if_neg k2,if_neg k3,if_neg (by rw [w.rfAt];exact h4),if_neg (by rw [w.coAt];exact h5),if_neg (by rw [w.rmwAt];exact h6),if_neg (w.dep w.addr h7),if_neg (w.dep w.data h8),if_neg (w.dep w.ctrl h9)]
theorem po (w:Weak g h) (i j:Nat):relM h 0 i j=relM g 0 i j:=w.before i j
theorem relRf (w:Weak g h) (i j:Nat):relM h 1 i j=relM g 1 i j:=by show ofM h.n h.rf i j=ofM g.n g.rf i j;rw [w.len,w.rf]
theorem relCo (w:Weak g h) (i j:Nat):relM h 2 i j=relM g 2 i j:=by show ofM h.n (coPairs h) i j=ofM g.n (coPairs g) i j;unfold coPairs;rw [w.len,w.co]
theorem relRmw (w:Weak g h) (i j:Nat):relM h 3 i j=relM g 3 i j:=by show ofM h.n h.rmw i j=ofM g.n g.rmw i j;rw [w.len,w.rmw]
theorem relExt (w:Weak g h) (i j:Nat):relM h 5 i j=relM g 5 i j:=by show h.extM i j=g.extM i j;unfold Gr.extM;rw [w.thr,w.thr]
theorem relFr (w:Weak g h) (i j:Nat):relM h 9 i j=relM g 9 i j:=by
 show compM h.n (invM (ofM h.n h.rf)) h.n (ofM h.n (coPairs h)) i j=compM g.n (invM (ofM g.n g.rf)) g.n (ofM g.n (coPairs g)) i j
 unfold coPairs;rw [w.len,w.rf,w.co]
theorem ofSub {n:Nat} {l l':List (Int×Int)} (hs:l'.Sublist l) {i j:Nat} (hm:ofM n l' i j=true):ofM n l i j=true:=by
 unfold ofM at hm ⊢
 rw [List.any_eq_true] at hm ⊢
 obtain ⟨p,hp,hm⟩:=hm
 exact ⟨p,hs.subset hp,hm⟩
theorem relDep (w:Weak g h) {k:Nat} (hk:k=6∨k=7∨k=8) {i j:Nat} (hm:relM h k i j=true):relM g k i j=true:=by
 rcases hk with rfl | rfl | rfl
 ·exact ofSub w.addr (by rw [← w.len];exact hm)
 ·exact ofSub w.data (by rw [← w.len];exact hm)
 ·exact ofSub w.ctrl (by rw [← w.len];exact hm)
theorem rfi (w:Weak g h) (i j:Nat):rfiM h i j=rfiM g i j:=by unfold rfiM;rw [w.relRf,w.relExt]
theorem coi (w:Weak g h) (i j:Nat):coiM h i j=coiM g i j:=by unfold coiM;rw [w.relCo,w.relExt]
theorem coe (w:Weak g h) (i j:Nat):coeM h i j=coeM g i j:=by unfold coeM;rw [w.relCo,w.relExt]
theorem fre (w:Weak g h) (i j:Nat):freM h i j=freM g i j:=by unfold freM;rw [w.relFr,w.relExt]
theorem rfe (w:Weak g h) (i j:Nat):rfeM h i j=rfeM g i j:=by unfold rfeM;rw [w.relRf,w.relExt]
theorem obs (w:Weak g h) (i j:Nat):obsM h i j=obsM g i j:=by unfold obsM;rw [w.rfe,w.coe,w.fre]
theorem isK' (w:Weak g h) (k:Int) (i:Nat):isK h k i=isK g k i:=by unfold isK;rw [w.kind]
theorem isM' (w:Weak g h) {m:Int} (hm:m=12∨m=13∨m=15) {i:Nat} (h1:isM h m i=true):isM g m i=true:=by
 have:=w.mode i
 unfold isM at h1 ⊢
 simp only [beq_iff_eq] at h1 ⊢
 unfold weakM at this
 omega
theorem acq (w:Weak g h) {i:Nat} (h1:acqB h i=true):acqB g i=true:=by
 have:=w.mode i
 unfold acqB isM at h1 ⊢
 simp only [Bool.or_eq_true,beq_iff_eq] at h1 ⊢
 unfold weakM at this
 omega
theorem ld (w:Weak g h) {i:Nat} (h1:isM h 14 i=true):isM g 14 i=true∨isM g 15 i=true:=by
 have:=w.mode i
 unfold isM at h1 ⊢
 simp only [beq_iff_eq] at h1 ⊢
 unfold weakM at this
 omega
theorem dob (w:Weak g h) {i j:Nat} (hd:dobM h i j=true):dobM g i j=true:=by
 unfold dobM at hd ⊢
 simp only [Bool.or_eq_true,Bool.and_eq_true,exB_true,w.po,w.rfi,w.coi,w.isK',w.len] at hd ⊢
 have d6:∀ {i j},relM h 6 i j=true→relM g 6 i j=true:=fun x=>w.relDep (by decide) x
 have d7:∀ {i j},relM h 7 i j=true→relM g 7 i j=true:=fun x=>w.relDep (by decide) x
 have d8:∀ {i j},relM h 8 i j=true→relM g 8 i j=true:=fun x=>w.relDep (by decide) x
 rcases hd with ((((hd | hd) | ⟨hd,he⟩) | ⟨⟨k,hk,h1,h2⟩,h3⟩) | ⟨k,hk,h1,h2⟩) | ⟨k,hk,h1,h2⟩
 ·exact .inl (.inl (.inl (.inl (.inl (d6 hd)))))
 ·exact .inl (.inl (.inl (.inl (.inr (d7 hd)))))
 ·exact .inl (.inl (.inl (.inr ⟨d8 hd,he⟩)))
 ·exact .inl (.inl (.inr ⟨⟨k,hk,d6 h1,h2⟩,h3⟩))
 ·exact .inl (.inr ⟨k,hk,h1.imp d8 d7,h2⟩)
 ·exact .inr ⟨k,hk,h1.imp d6 d7,h2⟩
theorem aob (w:Weak g h) {i j:Nat} (hd:aobM h i j=true):aobM g i j=true:=by
 have hl:lastB h i=lastB g i:=by unfold lastB;rw [w.rmw]
 unfold aobM at hd ⊢
 simp only [Bool.or_eq_true,Bool.and_eq_true,w.relRmw,w.rfi,hl] at hd ⊢
 exact hd.imp id fun ⟨h1,h2⟩=>⟨h1,w.acq h2⟩
theorem bob (w:Weak g h) {i j:Nat} (hd:bobM h i j=true):bobM g i j=true:=by
 unfold bobM at hd ⊢
 simp only [Bool.or_eq_true,Bool.and_eq_true,exB_true,w.po,w.coi,w.isK',w.len] at hd ⊢
 have m12:∀ {i},isM h 12 i=true→isM g 12 i=true:=fun x=>w.isM' (by decide) x
 have m13:∀ {i},isM h 13 i=true→isM g 13 i=true:=fun x=>w.isM' (by decide) x
 have m15:∀ {i},isM h 15 i=true→isM g 15 i=true:=fun x=>w.isM' (by decide) x
 rcases hd with ((((⟨k,hk,⟨h1,h3⟩,h2⟩ | ⟨k,hk,⟨⟨h4,h1⟩,h3⟩,h2⟩) | ⟨⟨h3,h1⟩,h4⟩) | ⟨h3,h1⟩) | ⟨h1,h3⟩) | ⟨k,hk,⟨h1,h3⟩,h2⟩
 ·exact .inl (.inl (.inl (.inl (.inl ⟨k,hk,⟨h1,m15 h3⟩,h2⟩))))
 ·rcases w.ld h3 with h3 | h3
  ·exact .inl (.inl (.inl (.inl (.inr ⟨k,hk,⟨⟨h4,h1⟩,h3⟩,h2⟩))))
  ·exact .inl (.inl (.inl (.inl (.inl ⟨k,hk,⟨h1,h3⟩,h2⟩))))
 ·exact .inl (.inl (.inl (.inr ⟨⟨m13 h3,h1⟩,m12 h4⟩)))
 ·exact .inl (.inl (.inr ⟨w.acq h3,h1⟩))
 ·exact .inl (.inr ⟨h1,m13 h3⟩)
 ·exact .inr ⟨k,hk,⟨h1,m13 h3⟩,h2⟩
theorem ob (w:Weak g h) {i j:Nat} (hd:obM h i j=true):obM g i j=true:=by
 unfold obM at hd ⊢
 simp only [Bool.or_eq_true,w.obs] at hd ⊢
 exact hd.imp (fun x=>x.imp (fun x=>x.imp id w.dob) w.aob) w.bob
end Weak
end Go.Proofs.Tst
/-
  The source's memory model: its relations, its check (plain).
-/
namespace Go.Proofs.Tst
open Go Go.Vc
def relB (g:Gr) (i:Nat):Bool:=(isK g 2 i||isK g 3 i)&&(isM g 3 i||isM g 4 i||isM g 5 i)
def acrB (g:Gr) (i:Nat):Bool:=(isK g 1 i||isK g 3 i)&&(isM g 2 i||isM g 4 i||isM g 5 i)
def escB (g:Gr) (i:Nat):Bool:=isM g 5 i&&(isK g 1 i||isK g 2 i)
def fscB (g:Gr) (i:Nat):Bool:=isM g 5 i&&isK g 3 i
def plocM (g:Gr) (i j:Nat):Bool:=relM g 0 i j&&relM g 4 i j
def rrM (g:Gr) (i j:Nat):Bool:=exB g.n fun k=>relM g 1 i k&&relM g 3 k j
def rsM (g:Gr) (i j:Nat):Bool:=isK g 2 i&&exB g.n fun m=>(plocM g i m||i==m)&&isK g 2 m&&(plusM g.n (rrM g) m j||m==j)
def swM (g:Gr) (i j:Nat):Bool:=relB g i&&(exB g.n fun a=>((isK g 3 i&&relM g 0 i a)||i==a)&&exB g.n fun b=>rsM g a b&&exB g.n fun c=>relM g 1 b c&&isK g 1 c&&((relM g 0 c j&&isK g 3 j)||c==j))&&acrB g j
def poswM (g:Gr) (i j:Nat):Bool:=relM g 0 i j||swM g i j
def hbM (g:Gr):Nat→Nat→Bool:=plusM g.n (poswM g)
def comM (g:Gr) (i j:Nat):Bool:=relM g 1 i j||relM g 2 i j||relM g 9 i j
def ecoM (g:Gr):Nat→Nat→Bool:=plusM g.n (comM g)
def otherM (g:Gr) (i j:Nat):Bool:=relM g 0 i j&&!relM g 4 i j
def scbM (g:Gr) (i j:Nat):Bool:=relM g 0 i j||(exB g.n fun a=>otherM g i a&&exB g.n fun b=>hbM g a b&&otherM g b j)||(hbM g i j&&relM g 4 i j)||relM g 2 i j||relM g 9 i j
def beginM (g:Gr) (i a:Nat):Bool:=(i==a&&escB g i)||(fscB g i&&(hbM g i a||i==a))
def endM (g:Gr) (b j:Nat):Bool:=(b==j&&escB g b)||((hbM g b j||b==j)&&fscB g j)
def baseM (g:Gr) (i j:Nat):Bool:=exB g.n fun a=>beginM g i a&&exB g.n fun b=>scbM g a b&&endM g b j
def hehM (g:Gr) (i j:Nat):Bool:=exB g.n fun a=>hbM g i a&&exB g.n fun b=>ecoM g a b&&hbM g b j
def pscfM (g:Gr) (i j:Nat):Bool:=fscB g i&&(hbM g i j||hehM g i j)&&fscB g j
def pscM (g:Gr) (i j:Nat):Bool:=baseM g i j||pscfM g i j
def thinM (g:Gr) (i j:Nat):Bool:=relM g 0 i j||relM g 1 i j
def cohGo (g:Gr) (a:Nat):Nat→Nat→List Int
 | 0,_=>[]
 | d+1,b=>if (hbM g a b&&ecoM g b a)=true then [(a:Int),(b:Int)] else cohGo g a d (b+1)
def cohAt (g:Gr) (a:Nat):List Int:=if hbM g a a=true then [(a:Int)] else cohGo g a g.n 0
def cohFrom (g:Gr):Nat→Nat→List Int
 | 0,_=>[]
 | d+1,a=>if cohAt g a≠[] then cohAt g a else cohFrom g d (a+1)
def coh (g:Gr):List Int:=cohFrom g g.n 0
def tornS (g:Gr) (p:Int×Int):Bool:=inR g.n p.1&&inR g.n p.2&&exB g.n fun k=>relM g 9 p.1.toNat k&&relM g 2 k p.2.toNat
def atomS (g:Gr):List Int:=match g.rmw.find? (tornS g) with | some p=>[p.1,p.2] | none=>[]
def natsI (l:List Nat):List Int:=l.map fun (x:Nat)=>(x:Int)
def rcAx (g:Gr):Int×List Int:=
 if coh g≠[] then (1,coh g)
 else if atomS g≠[] then (2,atomS g)
 else if cycS g.n (pscM g)≠[] then (3,natsI (cycS g.n (pscM g)))
 else if cycS g.n (thinM g)≠[] then (4,natsI (cycS g.n (thinM g)))
 else (0,[])
theorem cohGo_nil {g:Gr} {a:Nat}:∀ (d b:Nat),cohGo g a d b=[]↔∀ x,b≤x→x<b+d→(hbM g a x&&ecoM g x a)=false
 | 0,b=>by simp [cohGo];omega
 | d+1,b=>by
  unfold cohGo
  by_cases h:(hbM g a b&&ecoM g b a)=true
  ·rw [if_pos h]
   constructor
   ·intro h;cases h
   ·intro h2;rw [h2 b (Nat.le_refl _) (by omega)] at h;cases h
  ·rw [if_neg h,cohGo_nil d (b+1)]
   constructor
   ·intro h2 x h3 h4
    by_cases hx:x=b
    ·subst hx;simpa using h
    ·exact h2 x (by omega) (by omega)
   ·intro h2 x h3 h4;exact h2 x (by omega) (by omega)
theorem cohAt_nil {g:Gr} {a:Nat}:cohAt g a=[]↔hbM g a a=false∧∀ x,x<g.n→(hbM g a x&&ecoM g x a)=false:=by
 unfold cohAt
 cases h:hbM g a a
 ·rw [if_neg (by simp),cohGo_nil]
  constructor
  ·intro h2;exact ⟨rfl,fun x hx=>h2 x (by omega) (by omega)⟩
  ·rintro ⟨-,h2⟩ x - hx;exact h2 x (by omega)
 ·rw [if_pos rfl];simp
theorem cohFrom_nil {g:Gr}:∀ (d a:Nat),cohFrom g d a=[]↔∀ x,a≤x→x<a+d→cohAt g x=[]
 | 0,a=>by simp [cohFrom];omega
 | d+1,a=>by
  unfold cohFrom
  by_cases h:cohAt g a=[]
  ·rw [if_neg (by simp [h]),cohFrom_nil d (a+1)]
   constructor
   ·intro h2 x h3 h4
    by_cases hx:x=a
    ·subst hx;exact h
    ·exact h2 x (by omega) (by omega)
   ·intro h2 x h3 h4;exact h2 x (by omega) (by omega)
  ·rw [if_pos h]
   constructor
   ·intro h2;exact absurd h2 h
   ·intro h2;exact absurd (h2 a (by omega) (by omega)) h
theorem coh_nil {g:Gr}:coh g=[]↔(∀ a,a<g.n→hbM g a a=false)∧∀ a b,a<g.n→b<g.n→hbM g a b=true→ecoM g b a=false:=by
 unfold coh
 rw [cohFrom_nil]
 constructor
 ·intro h
  refine ⟨fun a ha=>(cohAt_nil.1 (h a (by omega) (by omega))).1,fun a b ha hb hh=>?_⟩
  have:=(cohAt_nil.1 (h a (by omega) (by omega))).2 b hb
  rw [hh] at this;simpa using this
 ·rintro ⟨h1,h2⟩ x - hx
  refine cohAt_nil.2 ⟨h1 x (by omega),fun y hy=>?_⟩
  cases hh:hbM g x y
  ·rfl
  ·rw [h2 x y (by omega) hy hh];rfl
theorem atomS_nil {g:Gr}:atomS g=[]↔∀ p∈g.rmw,tornS g p=false:=by
 unfold atomS
 cases hf:g.rmw.find? (tornS g) with
 | none =>
  rw [List.find?_eq_none] at hf
  simp only [true_iff]
  exact fun p hp=>by have:=hf p hp;simpa using this
 | some p =>
  have h3:=List.find?_some hf
  have h4:=List.mem_of_find?_eq_some hf
  simp only []
  constructor
  ·intro h;exact absurd h (by simp)
  ·intro h5;rw [h5 p h4] at h3;cases h3
theorem rcAx_zero {g:Gr}:(rcAx g).1=0↔coh g=[]∧(∀ p∈g.rmw,tornS g p=false)∧cycS g.n (pscM g)=[]∧cycS g.n (thinM g)=[]:=by
 rw [← atomS_nil]
 unfold rcAx
 by_cases h1:coh g=[]
 ·rw [if_neg (by simp [h1])]
  by_cases h2:atomS g=[]
  ·rw [if_neg (by simp [h2])]
   by_cases h3:cycS g.n (pscM g)=[]
   ·rw [if_neg (by simp [h3])]
    by_cases h4:cycS g.n (thinM g)=[]
    ·rw [if_neg (by simp [h4])];simp [h1,h2,h3,h4]
    ·rw [if_pos h4];simp [h4]
   ·rw [if_pos h3];simp [h3]
  ·rw [if_pos h2];simp [h2]
 ·rw [if_pos h1];simp [h1]
end Go.Proofs.Tst
/-
  What RC11's relations keep of any graph (plain).
-/
namespace Go.Proofs.Tst
open Go Go.Vc
theorem sw_spec {g:Gr} {i j:Nat}:swM g i j=true↔relB g i=true∧acrB g j=true∧∃ a,a<g.n∧((isK g 3 i=true∧relM g 0 i a=true)∨i=a)∧∃ b,b<g.n∧rsM g a b=true∧∃ c,c<g.n∧relM g 1 b c=true∧isK g 1 c=true∧((relM g 0 c j=true∧isK g 3 j=true)∨c=j):=by
 unfold swM
 simp only [Bool.and_eq_true,Bool.or_eq_true,exB_true,beq_iff_eq]
 constructor
 ·rintro ⟨⟨h1,a,ha,h2,b,hb,h3,c,hc,⟨h4,h5⟩,h6⟩,h7⟩
  exact ⟨h1,h7,a,ha,h2,b,hb,h3,c,hc,h4,h5,h6⟩
 ·rintro ⟨h1,h7,a,ha,h2,b,hb,h3,c,hc,h4,h5,h6⟩
  exact ⟨⟨h1,a,ha,h2,b,hb,h3,c,hc,⟨h4,h5⟩,h6⟩,h7⟩
theorem rs_spec {g:Gr} {i j:Nat}:rsM g i j=true↔isK g 2 i=true∧∃ m,m<g.n∧(plocM g i m=true∨i=m)∧isK g 2 m=true∧(plusM g.n (rrM g) m j=true∨m=j):=by
 unfold rsM
 simp only [Bool.and_eq_true,Bool.or_eq_true,exB_true,beq_iff_eq]
 constructor
 ·rintro ⟨h1,m,hm,⟨h2,h3⟩,h4⟩;exact ⟨h1,m,hm,h2,h3,h4⟩
 ·rintro ⟨h1,m,hm,h2,h3,h4⟩;exact ⟨h1,m,hm,⟨h2,h3⟩,h4⟩
theorem isK_iff {g:Gr} {k:Int} {i:Nat}:isK g k i=true↔(g.ev i).kind=k:=by unfold isK;simp
theorem isM_iff {g:Gr} {k:Int} {i:Nat}:isM g k i=true↔(g.ev i).mode=k:=by unfold isM;simp
theorem relB_iff {g:Gr} {i:Nat}:relB g i=true↔((g.ev i).kind=2∨(g.ev i).kind=3)∧((g.ev i).mode=3∨(g.ev i).mode=4∨(g.ev i).mode=5):=by
 unfold relB;simp only [Bool.and_eq_true,Bool.or_eq_true,isK_iff,isM_iff,or_assoc]
theorem acrB_iff {g:Gr} {i:Nat}:acrB g i=true↔((g.ev i).kind=1∨(g.ev i).kind=3)∧((g.ev i).mode=2∨(g.ev i).mode=4∨(g.ev i).mode=5):=by
 unfold acrB;simp only [Bool.and_eq_true,Bool.or_eq_true,isK_iff,isM_iff,or_assoc]
theorem src_thread {g:Gr} (h:(g.check false).1=0) {i:Nat} (hi:i<g.n):((g.ev i).thread = -1∧(g.ev i).kind=2∧(g.ev i).mode=1∧(i:Int)<g.cells∧(g.ev i).loc=(i:Int))∨(0≤(g.ev i).thread∧g.cells≤(i:Int)):=by
 obtain ⟨hs,h2,h3,-⟩:=check_zero h
 simp only [Gr.size,Bool.and_eq_true,decide_eq_true_eq] at hs
 by_cases hc:i<g.cells.toNat
 ·have:=firstEv_neg _ _ h2 i (by omega) (by omega)
  simp only [Bool.not_eq_false',beq_iff_eq] at this
  left;rw [this];unfold Gr.first;exact ⟨rfl,rfl,rfl,by omega,rfl⟩
 ·have:=firstEv_neg _ _ h3 i (by omega) (by omega)
  simp only [Bool.not_eq_false'] at this
  unfold Gr.evOk at this
  simp only [Bool.and_eq_true,decide_eq_true_eq] at this
  right;exact ⟨this.1.1.1,by omega⟩
theorem sw_ends {g:Gr} (h:(g.check false).1=0) {i j:Nat} (hi:i<g.n) (hs:swM g i j=true) :
  (g.ev i).kind≠1∧((g.ev i).mode=3∨(g.ev i).mode=4∨(g.ev i).mode=5)∧(g.ev j).kind≠2∧((g.ev j).mode=2∨(g.ev j).mode=4∨(g.ev j).mode=5)∧0≤(g.ev i).thread:=by
 obtain ⟨h1,h2,-⟩:=sw_spec.1 hs
 obtain ⟨k1,k2⟩:=relB_iff.1 h1
 obtain ⟨k3,k4⟩:=acrB_iff.1 h2
 have:=src_thread h hi
 omega
theorem rmw_po {g:Gr} {words:Bool} (h:(g.check words).1=0) {i j:Nat} (hm:relM g 3 i j=true):relM g 0 i j=true:=by
 obtain ⟨-,-,-,-,-,h6,-⟩:=check_zero h
 exact rmw_before h6 (ofM_mem' hm)
theorem sw_thin {g:Gr} {words:Bool} (h:(g.check words).1=0) {i j:Nat} (hi:i<g.n) (hj:j<g.n) (hs:swM g i j=true):plusM g.n (thinM g) i j=true:=by
 obtain ⟨-,-,a,ha,h2,b,hb,h3,c,hc,h4,-,h6⟩:=sw_spec.1 hs
 obtain ⟨-,m,hm,h7,-,h8⟩:=rs_spec.1 h3
 have po:∀ {x y:Nat},relM g 0 x y=true→plusM g.n (thinM g) x y=true:=fun h=>plus_sub (by unfold thinM;rw [h];rfl)
 have rf:∀ {x y:Nat},relM g 1 x y=true→plusM g.n (thinM g) x y=true:=fun h=>plus_sub (by unfold thinM;rw [h];simp)
 have rr:∀ {x y:Nat},x<g.n→y<g.n→plusM g.n (rrM g) x y=true→plusM g.n (thinM g) x y=true:=fun hx hy h' =>
  plus_least (N:=fun x y=>plusM g.n (thinM g) x y=true) (fun i j hi hj hr=>by
   unfold rrM at hr
   obtain ⟨k,hk,hr⟩:=exB_true.1 hr
   simp only [Bool.and_eq_true] at hr
   exact plus_trans hk (rf hr.1) (po (rmw_po h hr.2))) (fun _ _ _ _ hx _ h1 h2=>plus_trans hx h1 h2) hx hy h'
 have e1:plusM g.n (thinM g) b j=true:=by
  rcases h6 with ⟨h6,-⟩ | rfl
  ·exact plus_trans hc (rf h4) (po h6)
  ·exact rf h4
 have e2:plusM g.n (thinM g) m j=true:=by
  rcases h8 with h8 | rfl
  ·exact plus_trans hb (rr hm hb h8) e1
  ·exact e1
 have e3:plusM g.n (thinM g) a j=true:=by
  rcases h7 with h7 | rfl
  ·unfold plocM at h7;simp only [Bool.and_eq_true] at h7
   exact plus_trans hm (po h7.1) e2
  ·exact e2
 rcases h2 with ⟨-,h2⟩ | rfl
 ·exact plus_trans ha (po h2) e3
 ·exact e3
theorem hb_thin {g:Gr} {words:Bool} (h:(g.check words).1=0) {i j:Nat} (hi:i<g.n) (hj:j<g.n) (hs:hbM g i j=true):plusM g.n (thinM g) i j=true:=
 plus_least (N:=fun x y=>plusM g.n (thinM g) x y=true) (fun i j hi hj hr=>by
  unfold poswM at hr
  rw [Bool.or_eq_true] at hr
  rcases hr with hr | hr
  ·exact plus_sub (by unfold thinM;rw [hr];rfl)
  ·exact sw_thin h hi hj hr) (fun _ _ _ _ hx _ h1 h2=>plus_trans hx h1 h2) hi hj hs
theorem posrf_acyc {g:Gr} {words:Bool} (h:(g.check words).1=0) (ha:cycS g.n (thinM g)=[]) {M:Nat→Nat→Bool} (hM:∀ i j,i<g.n→j<g.n→M i j=true→poswM g i j=true∨relM g 1 i j=true):irrB g.n (plusM g.n M)=true:=by
 unfold irrB
 rw [List.all_eq_true]
 intro i hi
 have hi:=List.mem_range.1 hi
 cases hp:plusM g.n M i i
 ·rfl
 ·have:=plus_least (N:=fun x y=>plusM g.n (thinM g) x y=true) (fun x y hx hy hr=>by
   rcases hM x y hx hy hr with hr | hr
   ·exact hb_thin h hx hy (plus_sub hr)
   ·exact plus_sub (by unfold thinM;rw [hr];simp)) (fun _ _ _ _ hx _ h1 h2=>plus_trans hx h1 h2) hi hi hp
  rw [cycS_nil ha i hi] at this;cases this
end Go.Proofs.Tst
/-
  Is a relation of the program's the document's?
-/
namespace Go.Proofs.Tst
open Go Go.Vc
end Go.Proofs.Tst
/-
  Changed graphs in memory.
-/
namespace Go.Proofs.Tst
open Go Go.Vc
theorem rlc_rl {h:Heap} {v:Value} {L:List (List Value)} (t:RLc h v L):RL h v L:=by
 obtain ⟨us,h1,h2⟩:=t
 exact ⟨us,h1,fun i l hl=>by obtain ⟨a,c,h3,-,h5⟩:=h2 i l hl;exact ⟨_,h3,h5⟩⟩
end Go.Proofs.Tst
/-
  The document's relations of a graph.
-/
namespace Go.Proofs.Tst
open Go Go.Vc
end Go.Proofs.Tst
/-
  GraphLaws.
-/
namespace Go.Proofs.Tst
open Go Go.Vc
theorem bools_at {h:Heap} {a:Option Addr} {n c:Nat} {l:List Bool} (w:Rd 1 h (.slice a n c) n (boolsV l)) (hn:0<n):∃ b o,a=some ⟨b,o,none⟩∧∀ h',Fr 0 0 h h'→∀ i x,l[i]?=some x→hcell h' b (o+i)=some (.bool x):=by
 obtain ⟨hl,a',c',k1,k2⟩:=w
 cases k1
 rcases k2 with k2 | ⟨b,o,k3,k4⟩
 ·omega
 ·exact ⟨b,o,k3,fun h' f i x hx=>f.keep (k4 i _ (boolsV_get hx)) (by omega)⟩
theorem kindsV_get {g:Gr} {k:Int} {i:Nat} (hi:i<g.n):(kindsV g k g.n)[i]?=some ((g.ev i).kind==k):=by
 unfold kindsV
 rw [List.getElem?_map,List.getElem?_take_of_lt hi,Gr.ev_get hi];rfl
end Go.Proofs.Tst
/-
  whole: are facts the document's?
-/
namespace Go.Proofs.Tst
open Go Go.Vc
def tV (v:Value):Tell:=tell1 fun u _ _ _=>u=v
theorem stV (v:Value):Stab (tV v):=Stab.one fun _ _ _ _ _ _ t=>t
end Go.Proofs.Tst
/-
  GraphDerives.
-/
namespace Go.Proofs.Tst
open Go Go.Vc
theorem FactsAt.fr {h h':Heap} {lo l r:Nat} {p:Nat→Value} {rd wr fe:Value} {g:Gr} (F:FactsAt h lo p rd wr fe g) (f:Fr l r h h') (hd:r≤lo):FactsAt h' lo p rd wr fe g:=by
 obtain ⟨A,B,D,dlo,dap⟩:=F.rel
 have a1:=F.hrd.at_
 have a2:=F.hwr.at_
 have a3:=F.hfe.at_
 have fz:=f.size
 exact ⟨F.n,⟨A,B,D.fr f (fun k hk=>by have:=dlo k hk;omega),fun k hk=>by have:=dlo k hk;omega,dap⟩,F.hrd.fr f (by omega),F.hwr.fr f (by omega),F.hfe.fr f (by omega),F.off⟩
end Go.Proofs.Tst
/-
  Events changed in place.
-/
namespace Go.Proofs.Tst
open Go Go.Vc
def setMode (E:List Ev) (i:Nat) (m:Int):List Ev:=E.set i { E.getD i default with mode:=m }
@[simp] theorem length_setMode {E:List Ev} {i:Nat} {m:Int}:(setMode E i m).length=E.length:=by simp [setMode]
theorem evsV_setMode:∀ {E:List Ev} {i:Nat} {m:Int},i<E.length→(evsV E).set (i * 5+4) (.int .i64 m)=evsV (setMode E i m)
 | [],i,_,h=>by simp at h
 | e :: E,0,m,_=>rfl
 | e :: E,i+1,m,h=>by
  have ih:=evsV_setMode (E:=E) (i:=i) (m:=m) (by simpa using h)
  have h1:setMode (e :: E) (i+1) m=e :: setMode E i m:=by simp [setMode]
  have h2:e.cells.length=5:=rfl
  rw [h1,evsV_cons,evsV_cons,← ih,List.set_append_right _ _ (by omega),h2]
  congr 2;omega
theorem putAt_right {a:List Value}:∀ (ws r:List Value) (o:Nat),putAt (a++r) (a.length+o) ws=a++putAt r o ws
 | [],_,_=>rfl
 | v :: ws,r,o=>by
  show putAt ((a++r).set (a.length+o) v) (a.length+o+1) ws=a++putAt (r.set o v) (o+1) ws
  rw [List.set_append_right _ _ (by omega),Nat.add_sub_cancel_left,Nat.add_assoc]
  exact putAt_right ws _ _
theorem putAt_left {r:List Value}:∀ (ws a:List Value) (o:Nat),o+ws.length≤a.length→putAt (a++r) o ws=putAt a o ws++r
 | [],_,_,_=>rfl
 | v :: ws,a,o,h=>by
  show putAt ((a++r).set o v) (o+1) ws=putAt (a.set o v) (o+1) ws++r
  simp at h
  rw [List.set_append_left _ _ (by omega)]
  exact putAt_left ws _ _ (by simp;omega)
theorem evsV_put:∀ {E:List Ev} {i:Nat} {e:Ev},i<E.length→putAt (evsV E) (i * 5) e.cells=evsV (E.set i e)
 | [],i,_,h=>by simp at h
 | x :: E,0,e,_=>rfl
 | x :: E,i+1,e,h=>by
  have ih:=evsV_put (E:=E) (i:=i) (e:=e) (by simpa using h)
  have h2:(i+1) * 5=x.cells.length+i * 5:=by show _=5 + _;omega
  rw [List.set_cons_succ,evsV_cons,evsV_cons,← ih,h2]
  exact putAt_right _ _ _
theorem holder_ev {h:Heap} {b n c lo:Nat} {E:List Ev} (w:Holder 5 h (.slice (some ⟨b,0,none⟩) n c) n (evsV E) lo) {i:Nat} (hi:i<n) :
  Wr h b (i * 5+4) 1∧Wr h b (i * 5) 5∧(∀ h' m,Sto h h' b (i * 5+4) [.int .i64 m]→Holder 5 h' (.slice (some ⟨b,0,none⟩) n c) n (evsV (setMode E i m)) lo)∧∀ h' e,Sto h h' b (i * 5) e.cells→Holder 5 h' (.slice (some ⟨b,0,none⟩) n c) n (evsV (E.set i e)) lo:=by
 have hl:=w.1
 rw [length_evsV] at hl
 have hE:i<E.length:=by omega
 obtain ⟨b',c',rest,h1,h2,h3,h4⟩:=w.blk (by omega)
 cases h1
 refine ⟨h2.wr (by simp;omega),h2.wr (by simp;omega),fun h' m s=>⟨by simp;omega,.inr ⟨b,c,rest,rfl,?_,h3,h4⟩⟩,fun h' e s=>⟨by simp;omega,.inr ⟨b,c,rest,rfl,?_,h3,h4⟩⟩⟩
 ·have:=s.row h2
  rw [putAt_one,List.set_append_left _ _ (by simp;omega),evsV_setMode hE] at this
  exact this
 ·have:=s.row h2
  rw [putAt_left _ _ _ (by simp [Ev.cells];omega),evsV_put hE] at this
  exact this
section
variable {h h' : Heap} {q : GV} {g : Gr} {lo : Nat}
theorem GrOwn.evs' {E':List Ev} {b:Nat} (w:GrOwn h q g lo) (f:Fr b (b+1) h h') (hb:q.e=some ⟨b,0,none⟩) (hl:E'.length=g.evs.length) (he:Holder 5 h' (.slice (some ⟨b,0,none⟩) g.evs.length q.ec) g.evs.length (evsV E') lo) :
  GrOwn h' q { g with evs:=E' } lo:=by
 obtain ⟨us,o1,o2,o3⟩:=w.o
 have lb:bl (.slice q.e g.evs.length q.ec)=b∧bh (.slice q.e g.evs.length q.ec)=b+1:=by rw [hb];exact ⟨rfl,rfl⟩
 have key:∀ x,Off (.slice q.e g.evs.length q.ec) x→bh x≤b∨b+1≤bl x∨b+1≤b:=fun x hx=>by
  unfold Off at hx
  have:=bh_bl x
  omega
 have ha:Away b (b+1) (.slice q.o g.co.length q.oc) us:=fun x hx=>key x (o3 x hx _ (by simp)).symm
 have hw:=w.off
 refine ⟨?_,w.f.fr f (key _ (hw _ (by simp))),⟨us,o1.fr f ha,o2,?_⟩,w.r.fr f (key _ (hw _ (by simp))),w.a.fr f (key _ (hw _ (by simp))),w.d.fr f (key _ (hw _ (by simp))),w.c.fr f (key _ (hw _ (by simp))),?_,⟨?_,w.fits.f,w.fits.o,w.fits.r,w.fits.a,w.fits.d,w.fits.c,w.fits.l⟩⟩
 ·dsimp only;rw [hl,hb];exact he
 ·dsimp only;rw [hl];exact o3
 ·dsimp only;rw [hl];exact hw
 ·dsimp only;rw [hl];exact w.fits.e
theorem GrOwn.fr {l r:Nat} (w:GrOwn h q g lo) (f:Fr l r h h') (hd:r≤lo∨h.size≤l∨r≤l):GrOwn h' q g lo:=by
 obtain ⟨us,o1,o2,o3⟩:=w.o
 have k:∀ {s n:Nat} {v:Value} {xs:List Value},Holder s h v n xs lo→Holder s h' v n xs lo:=fun o=>o.fr f (by have:=o.at_;have:=o.top;omega)
 refine ⟨k w.e,k w.f,⟨us,o1.fr f ?_,o2,o3⟩,k w.r,k w.a,k w.d,k w.c,w.off,w.fits⟩
 rcases hd with hd | hd | hd
 ·exact o1.below hd
 ·exact o1.above hd
 ·exact Away.none hd
theorem GrOwn.lower {lo':Nat} (w:GrOwn h q g lo) (hl:lo'≤lo):GrOwn h q g lo':=by
 obtain ⟨us,o1,o2⟩:=w.o
 exact ⟨w.e.lower hl,w.f.lower hl,⟨us,o1.lower hl,o2⟩,w.r.lower hl,w.a.lower hl,w.d.lower hl,w.c.lower hl,w.off,w.fits⟩
theorem GrOwn.ev (w:GrOwn h q g lo) (hn:0<g.n):∃ b,q.e=some ⟨b,0,none⟩∧lo≤b∧b<h.size∧(∀ i,i<g.n→Wr h b (i * 5+4) 1∧Wr h b (i * 5) 5) ∧
  (∀ h' i m,i<g.n→Sto h h' b (i * 5+4) [.int .i64 m]→GrOwn h' q { g with evs:=setMode g.evs i m } lo)∧∀ h' i e,i<g.n→Sto h h' b (i * 5) e.cells→GrOwn h' q { g with evs:=g.evs.set i e } lo:=by
 have we:=w.e
 obtain ⟨b,c,rest,h1,h2,h3,h4⟩:=we.blk hn
 have hq:q.e=some ⟨b,0,none⟩:=by injection h1
 rw [hq] at we
 exact ⟨b,hq,h4,h2.lt,fun i hi=>⟨(holder_ev we hi).1,(holder_ev we hi).2.1⟩,fun h' i m hi s=>w.evs' s.fr hq (by simp) ((holder_ev we hi).2.2.1 _ _ s),fun h' i e hi s=>w.evs' s.fr hq (by simp) ((holder_ev we hi).2.2.2 _ _ s)⟩
end
end Go.Proofs.Tst
/-
  Relations in memory, some at once; chains of steps.
-/
namespace Go.Proofs.Tst
open Go Go.Vc
abbrev Mx:=Nat→Nat→Bool
def PA (h:Heap) (v:Value) (n:Nat) (M:Mx):Prop:=∃ lo hi,ProgAt h lo hi v n M
def PN (h:Heap) (lo:Nat) (v:Value) (n:Nat) (M:Mx):Prop:=∃ a b,ProgAt h a b v n M∧lo≤a∧a≤b∧b≤h.size
section
variable {h h' : Heap} {v : Value} {n lo : Nat} {M N : Mx}
theorem PA.fr (t:PA h v n M) (f:Fr 0 0 h h'):PA h' v n M:=by obtain ⟨a,b,t⟩:=t;exact ⟨a,b,t.fr f (by omega)⟩
theorem PA.ptr (t:PA h v n M):∃ b,v=.pointer (some ⟨b,0,none⟩):=by obtain ⟨a,b,t⟩:=t;exact progPtr t
theorem PA.oc (t:PA h v n M):v.oneCell'=true:=by obtain ⟨b,rfl⟩:=t.ptr;rfl
theorem PA.cl (t:PA h v n M):Vc.cl v=[v]:=by obtain ⟨b,rfl⟩:=t.ptr;rfl
theorem PA.congr (t:PA h v n M) (e:∀ i j,i<n→j<n→M i j=N i j):PA h v n N:=by obtain ⟨a,b,t⟩:=t;exact ⟨a,b,t.congr e⟩
theorem PA.le (t:PA h v n M):n≤256:=by obtain ⟨a,b,t⟩:=t;exact t.1
theorem PN.pa (t:PN h lo v n M):PA h v n M:=by obtain ⟨a,b,t,-⟩:=t;exact ⟨a,b,t⟩
theorem PN.of (t:ProgAt h lo h.size v n M):PN h lo v n M:=⟨_,_,t,Nat.le_refl _,by obtain ⟨_,_,_,_,_,_,w⟩:=t;have:=w.at_;omega,Nat.le_refl _⟩
theorem PN.congr (t:PN h lo v n M) (e:∀ i j,i<n→j<n→M i j=N i j):PN h lo v n N:=by obtain ⟨a,b,t,k⟩:=t;exact ⟨a,b,t.congr e,k⟩
theorem PN.lower {lo':Nat} (t:PN h lo v n M) (hl:lo'≤lo):PN h lo' v n M:=by obtain ⟨a,b,t,k⟩:=t;exact ⟨a,b,t,by omega,k.2⟩
theorem PN.fr {l r:Nat} (t:PN h lo v n M) (f:Fr l r h h') (hd:r≤lo∨h.size≤l∨r≤l):PN h' lo v n M:=by
 obtain ⟨a,b,t,k⟩:=t
 have:=f.size
 exact ⟨a,b,t.fr f (by omega),by omega⟩
end
def UA (h:Heap) (lv:Value) (n:Nat) (M:Mx):Prop:=∃ L:List (Value×Nat×Mx),Rd 1 h lv L.length (L.map (·.1))∧RelsAt h L∧L.length≤65536∧maxN L=n∧∀ i j,i<n→j<n→anyM L i j=M i j
theorem UA.fr {h h':Heap} {v:Value} {n:Nat} {M:Mx} (t:UA h v n M) (f:Fr 0 0 h h'):UA h' v n M:=by
 obtain ⟨L,h1,h2,h3⟩:=t;exact ⟨L,h1.fr f,h2.fr f,h3⟩
theorem maxN_same {n:Nat}:∀ {l:List (Value×Mx)},l≠[]→maxN (l.map fun x=>(x.1,n,x.2))=n:=by
 have key:∀ (l:List (Value×Mx)) (m:Nat),m≤n→(l.map fun x=>(x.1,n,x.2)).foldl (fun m (x:Value×Nat×Mx)=>max m x.2.1) m=if l=[] then m else n:=by
  intro l
  induction l with
  | nil=>intro m _;rfl
  | cons x l ih =>
   intro m hm
   simp only [List.map_cons,List.foldl_cons]
   rw [ih _ (by omega),if_neg (by simp:¬ x :: l=[])]
   split
   ·omega
   ·rfl
 intro l hl
 unfold maxN
 rw [key l 0 (Nat.zero_le _),if_neg hl]
theorem UA.mk {h:Heap} {b n:Nat} {M:Mx} (l:List (Value×Mx)) (r:Rw h b (l.map (·.1))) (hp:∀ x∈l,PA h x.1 n x.2) (hne:l≠[]) (hl:l.length≤65536) (hM:∀ i j,i<n→j<n→(l.any fun x=>x.2 i j)=M i j) :
  UA h (.slice (some ⟨b,0,none⟩) l.length l.length) n M:=by
 refine ⟨l.map fun x=>(x.1,n,x.2),?_,fun x hx=>?_,by rw [List.length_map];exact hl,maxN_same hne,fun i j hi hj=>?_⟩
 ·rw [List.length_map,List.map_map]
  exact Rw.rd (s:=1) r (by simp)
 ·obtain ⟨y,hy,rfl⟩:=List.mem_map.1 hx
  exact hp y hy
 ·rw [← hM i j hi hj]
  unfold anyM
  rw [List.any_map]
  congr 1
  funext x
  exact inN_in hi hj
theorem rel_UnionU {lv:Value} {n:Nat} {M:Mx} {h:Heap} (u:UA h lv n M) :
  Con Tryd.prog 24 #[lv] h fun v h'=>Fr 0 0 h h'∧ProgAt h' h.size h'.size v n M:=by
 obtain ⟨L,h1,h2,h3,h4,h5⟩:=u
 exact (rel_Union h1 h2 h3).mono fun v h' ⟨f,t⟩=>⟨f,by rw [h4] at t;exact t.congr h5⟩
def chM (n:Nat) (A:Mx) (l:List Mx):Mx:=l.foldl (fun X Y=>compM n X n Y) A
def CA (h:Heap) (lv:Value) (n:Nat) (l:List Mx):Prop:=∃ ws:List Value,ws.length=l.length∧Rd 1 h lv ws.length ws∧ws.length≤65536∧∀ (i:Nat) (w:Value) (M:Mx),ws[i]?=some w→l[i]?=some M→PA h w n M
theorem CA.fr {h h':Heap} {v:Value} {n:Nat} {l:List Mx} (t:CA h v n l) (f:Fr 0 0 h h'):CA h' v n l:=by
 obtain ⟨L,h1,h2,h3,h4⟩:=t;exact ⟨L,h1,h2.fr f,h3,fun i w M a b=>(h4 i w M a b).fr f⟩
theorem CA.mk {h:Heap} {b n:Nat} (l:List (Value×Mx)) (r:Rw h b (l.map (·.1))) (hp:∀ x∈l,PA h x.1 n x.2) (hl:l.length≤65536):CA h (.slice (some ⟨b,0,none⟩) l.length l.length) n (l.map (·.2)):=by
 refine ⟨l.map (·.1),by simp,?_,by simpa using hl,fun i w M h1 h2=>?_⟩
 ·rw [List.length_map];exact Rw.rd (s:=1) r (by simp)
 ·rw [List.getElem?_map,Option.map_eq_some_iff] at h1 h2
  obtain ⟨x,hx,rfl⟩:=h1
  obtain ⟨y,hy,rfl⟩:=h2
  rw [hx] at hy;cases hy
  exact hp x (List.mem_of_getElem? hx)
def orM (l:List Mx):Mx:=fun i j=>l.any fun X=>X i j
theorem UA.mk' {h:Heap} {b n:Nat} (l:List (Value×Mx)) (r:Rw h b (l.map (·.1))) (hp:∀ x∈l,PA h x.1 n x.2) (hne:l≠[]) (hl:l.length≤65536):UA h (.slice (some ⟨b,0,none⟩) l.length l.length) n (orM (l.map (·.2))):=
 UA.mk l r hp hne hl fun i j _ _=>by unfold orM;rw [List.any_map];rfl
theorem pa_nil {h:Heap} {n:Nat}:∀ x∈([]:List (Value×Mx)),PA h x.1 n x.2:=fun x hx=>by cases hx
theorem pa_cons {h:Heap} {n:Nat} {v:Value} {M:Mx} {l:List (Value×Mx)} (a:PA h v n M) (t:∀ x∈l,PA h x.1 n x.2):∀ x∈(v,M) :: l,PA h x.1 n x.2:=fun x hx=>by
 rcases List.mem_cons.1 hx with rfl | hx
 ·exact a
 ·exact t x hx
def tC (n:Nat) (l:List Mx):Tell:=tell1 fun v _ _ h=>CA h v n l
def tU (n:Nat) (M:Mx):Tell:=tell1 fun v _ _ h=>UA h v n M
def tN (L n:Nat) (M:Mx):Tell:=tell1 fun v _ _ h=>PN h L v n M
theorem stC (n:Nat) (l:List Mx):Stab (tC n l):=Stab.one fun _ _ _ _ _ f t=>t.fr f
theorem stU (n:Nat) (M:Mx):Stab (tU n M):=Stab.one fun _ _ _ _ _ f t=>t.fr f
theorem stN (L n:Nat) (M:Mx):Stab (tN L n M):=Stab.one fun _ _ _ _ _ f t=>t.fr f (.inr (.inr (Nat.le_refl _)))
theorem tC_eq (n:Nat) (l:List Mx) (u:Out) (h:Heap):tC n l [u] h=CA h u.1 n l:=(rfl)
theorem tU_eq (n:Nat) (M:Mx) (u:Out) (h:Heap):tU n M [u] h=UA h u.1 n M:=(rfl)
theorem tN_eq (L n:Nat) (M:Mx) (u:Out) (h:Heap):tN L n M [u] h=PN h L u.1 n M:=(rfl)
def dM (f:Nat→Bool):Mx:=fun i j=>i==j&&f i
theorem exB_congr {n:Nat} {f g:Nat→Bool} (h:∀ k,k<n→f k=g k):exB n f=exB n g:=by
 unfold exB
 rw [Bool.eq_iff_iff,List.any_eq_true,List.any_eq_true]
 exact ⟨fun ⟨k,hk,e⟩=>⟨k,hk,by rw [← h k (List.mem_range.1 hk)];exact e⟩,fun ⟨k,hk,e⟩=>⟨k,hk,by rw [h k (List.mem_range.1 hk)];exact e⟩⟩
section
variable {n i j : Nat} {A B : Mx} {f : Nat → Bool}
theorem interM_in (hi:i<n) (hj:j<n):interM n A n B i j=(A i j&&B i j):=by unfold interM;rw [inN_in hi hj,inN_in hi hj]
theorem minusM_in (hi:i<n) (hj:j<n):minusM n A n B i j=(A i j&&!B i j):=by unfold minusM;rw [inN_in hi hj,inN_in hi hj]
theorem compM_in (hi:i<n) (hj:j<n):compM n A n B i j=exB n fun k=>A i k&&B k j:=by
 show exB n (fun k=>inN n A i k&&inN n B k j)=_
 exact exB_congr fun k hk=>by rw [inN_in hi hk,inN_in hk hj]
theorem exB_one (hi:i<n) {g:Nat→Bool}:(exB n fun k=>i==k&&g k)=g i:=by
 rw [Bool.eq_iff_iff,exB_true]
 constructor
 ·rintro ⟨k,hk,h⟩
  simp only [Bool.and_eq_true,beq_iff_eq] at h
  rw [h.1];exact h.2
 ·intro h;exact ⟨i,hi,by simp [h]⟩
theorem compM_dR (hi:i<n) (hj:j<n):compM n A n (dM f) i j=(A i j&&f j):=by
 rw [compM_in hi hj]
 have:(exB n fun k=>A i k&&dM f k j)=exB n fun k=>j==k&&(A i k&&f k):=exB_congr fun k _=>by
  unfold dM
  have:(k==j)=(j==k):=by rw [Bool.eq_iff_iff,beq_iff_eq,beq_iff_eq];exact eq_comm
  rw [this]
  cases A i k <;> cases (j==k) <;> cases f k <;> rfl
 rw [this,exB_one hj]
theorem compM_dL (hi:i<n) (hj:j<n):compM n (dM f) n A i j=(f i&&A i j):=by
 rw [compM_in hi hj]
 have:(exB n fun k=>dM f i k&&A k j)=exB n fun k=>i==k&&(f i&&A k j):=exB_congr fun k _=>by
  unfold dM
  cases A k j <;> cases (i==k) <;> cases f i <;> rfl
 rw [this,exB_one hi]
end
theorem rc11_chain {v0 lv:Value} {n:Nat} {A:Mx} {l:List Mx} {h:Heap} (h0:PA h v0 n A) (hl:CA h lv n l) (ht:TabAt h) :
  Con Tryd.prog 46 #[v0,lv] h fun v h'=>Fr 0 0 h h'∧PA h' v n (chM n A l)∧(l≠[]→PN h' h.size v n (chM n A l)):=by
 refine con_rc11_chain ?_
 obtain ⟨ws',hwl,hr,hlen,hp⟩:=hl
 obtain ⟨la,lc,rfl⟩:=hr.is
 have p0:Fr 0 0 h h:=.refl _ _ _
 simp -dsimp only [go_sem]
 refine loop_intro (fun s:Nat×Value=>[(0,s.2),(7,.slice la ws'.length lc),(8,.int .i64 ws'.length),(9,.int .i64 s.1)])
  (fun s h'=>s.1≤ws'.length∧Fr 0 0 h h'∧PA h' s.2 n (chM n A (l.take s.1))∧(0<s.1→PN h' h.size s.2 n (chM n A (l.take s.1)))) (fun s=>ws'.length - s.1) (0,v0) ?_ ?_ ?_
 ·simp [Le,find]
 ·exact ⟨by omega,p0,h0,by simp⟩
 clear p0
 rintro ⟨i,v⟩ h1 ⟨hi,p0,t,tn⟩
 dsimp only at hi t tn ⊢
 have p0_z:=p0.size
 by_cases hlt:i<ws'.length
 ·have e1:((i:Int)<(ws'.length:Int)):=by omega
  have hw:ws'[i]?=some ws'[i]:=List.getElem?_eq_getElem hlt
  have hM:l[i]?=some (l[i]'(by omega)):=List.getElem?_eq_getElem (by omega)
  have tw:=(hp i _ _ hw hM).fr p0
  generalize ws'[i]=w at hw tw
  have hs:l.take (i+1)=l.take i++[l[i]'(by omega)]:=by rw [List.take_add_one,hM];rfl
  generalize l[i]'(by omega)=B at hM tw hs
  obtain ⟨hl1,a',c',k1,k2⟩:=hr
  cases k1
  rcases k2 with k2 | ⟨b,o,rfl,hc⟩
  ·omega
  have hc:=p0.keep (hc i _ hw) (by omega)
  simp -dsimp only [go_sem,e1,hc]
  obtain ⟨_,_,t1⟩:=t
  obtain ⟨_,_,t2⟩:=tw
  refine call_of (rel_Comp t1 t2 (ht.fr p0 (.inr rfl))) ?_
  rintro v2 h2 ⟨f2,t3⟩
  rw [Nat.max_self] at t3
  have q2:=f2.size
  have p0_z:=p0.size
  have f2_z:=f2.size
  replace p0:=p0.F f2
  have hch:chM n A (l.take (i+1))=compM n (chM n A (l.take i)) n B:=by rw [hs];unfold chM;rw [List.foldl_append];rfl
  simp -dsimp only [go_sem]
  simp -dsimp (disch:=omega) only [wrap64]
  refine ⟨(i+1,v2),by dsimp only;omega,by simp [Le,find],by dsimp only;omega,p0,?_,fun _=>?_⟩
  ·dsimp only;rw [hch];exact ⟨_,_,t3⟩
  ·dsimp only;rw [hch];exact (PN.of t3).lower (by omega)
 ·obtain rfl:i=ws'.length:=by omega
  simp -dsimp only [go_sem,Int.lt_irrefl]
  rw [hwl,List.take_length] at t tn
  refine ⟨p0,t,fun hne=>tn ?_⟩
  exact List.length_pos_iff.2 hne
end Go.Proofs.Tst
/-
  The words' memory model in memory: its parts.
-/
namespace Go.Proofs.Tst
open Go Go.Vc
def mcells (q:GV) (g:Gr) (c:Nat→Nat) (rd wr fe:Value) (d:Nat→Nat):List Value:=[.int .i64 g.cells,.slice q.e g.evs.length q.ec,.slice q.f g.rf.length q.fc,.slice q.o g.co.length q.oc,.slice q.r g.rmw.length q.rc,.slice q.a g.addr.length q.ac,.slice q.d g.data.length q.dc,.slice q.c g.ctrl.length q.cc,
 .pointer (some ⟨c 0,0,none⟩),.pointer (some ⟨c 1,0,none⟩),.pointer (some ⟨c 2,0,none⟩),.pointer (some ⟨c 9,0,none⟩),.pointer (some ⟨c 3,0,none⟩),.pointer (some ⟨c 4,0,none⟩),.pointer (some ⟨c 5,0,none⟩),.pointer (some ⟨c 6,0,none⟩),.pointer (some ⟨c 7,0,none⟩),.pointer (some ⟨c 8,0,none⟩),rd,wr,fe,
 .pointer (some ⟨d 0,0,none⟩),.pointer (some ⟨d 1,0,none⟩),.pointer (some ⟨d 2,0,none⟩),.pointer (some ⟨d 3,0,none⟩),.pointer (some ⟨d 4,0,none⟩),.pointer (some ⟨d 5,0,none⟩)]
def armM (g:Gr):Nat→Mx
 | 0=>rfeM g
 | 1=>rfiM g
 | 2=>coeM g
 | 3=>coiM g
 | 4=>freM g
 | _=>dM (acqB g)
structure Md (h:Heap) (mb:Nat) (q:GV) (g:Gr) (c:Nat→Nat) (rd wr fe:Value) (d:Nat→Nat):Prop where
 row:Rw h mb (mcells q g c rd wr fe d)
 gr:GrAt h q g
 n:g.n≤256
 rel:∀ k,k<10→PA h (.pointer (some ⟨c k,0,none⟩)) g.n (relM g k)
 hm:∀ k,k<6→PA h (.pointer (some ⟨d k,0,none⟩)) g.n (armM g k)
 rd:Rd 1 h rd (kindsV g 1 g.n).length (boolsV (kindsV g 1 g.n))
 wr:Rd 1 h wr (kindsV g 2 g.n).length (boolsV (kindsV g 2 g.n))
 fe:Rd 1 h fe (kindsV g 3 g.n).length (boolsV (kindsV g 3 g.n))
theorem Md.fr {h h':Heap} {mb:Nat} {q:GV} {g:Gr} {c:Nat→Nat} {rd wr fe:Value} {d:Nat→Nat} (m:Md h mb q g c rd wr fe d) (f:Fr 0 0 h h'):Md h' mb q g c rd wr fe d:=
 ⟨m.row.fr f (by omega),m.gr.fr f,m.n,fun k hk=>(m.rel k hk).fr f,fun k hk=>(m.hm k hk).fr f,m.rd.fr f,m.wr.fr f,m.fe.fr f⟩
structure Mg (h:Heap) (mb:Nat) (q:GV) (g:Gr):Prop where
 row:∃ rest,Rw h mb (gcells q g++rest)
 gr:GrAt h q g
 n:g.n≤256
theorem Mg.fr {h h':Heap} {mb:Nat} {q:GV} {g:Gr} (m:Mg h mb q g) (f:Fr 0 0 h h'):Mg h' mb q g:=
 ⟨by obtain ⟨r,w⟩:=m.row;exact ⟨r,w.fr f (by omega)⟩,m.gr.fr f,m.n⟩
theorem kinds_len (g:Gr) (k:Int):(kindsV g k g.n).length=g.n:=by simp [kindsV];unfold Gr.n;omega
theorem atB_kinds {g:Gr} {k:Int} {i:Nat} (hi:i<g.n):atB (kindsV g k g.n) i=isK g k i:=atB_get (kindsV_get hi)
theorem atB_with {g:Gr} {x:Int} {i:Nat} (hi:i<g.n):atB (withB g [x]) i=isM g x i:=by
 refine atB_get ?_
 unfold withB isM
 rw [List.getElem?_map,Gr.ev_get hi]
 simp only [Option.map_some,Option.some.injEq]
 rw [Bool.eq_iff_iff];simp
section
variable {h : Heap} {mb : Nat} {q : GV} {g : Gr} {c : Nat → Nat} {rd wr fe : Value} {d : Nat → Nat}
end
end Go.Proofs.Tst
/-
  The words' memory model: aob, all relations, the model of a graph, Check.
-/
namespace Go.Proofs.Tst
open Go Go.Vc
section
variable {h : Heap} {mb : Nat} {q : GV} {g : Gr} {c : Nat → Nat} {rd wr fe : Value} {d : Nat → Nat}
end
end Go.Proofs.Tst
/-
  The words' memory model: all its relations.
-/
namespace Go.Proofs.Tst
open Go Go.Vc
section
variable {h : Heap} {mb : Nat} {q : GV} {g : Gr} {c : Nat → Nat} {rd wr fe : Value} {d : Nat → Nat}
end
end Go.Proofs.Tst
/-
  The words' memory model of a graph; Derive, Check.
-/
namespace Go.Proofs.Tst
open Go Go.Vc
theorem facts_ptr {p:Nat→Value} {h:Heap} {lo:Nat} {rd wr fe:Value} {g:Gr} (F:FactsAt h lo p rd wr fe g):∃ c:Nat→Nat,∀ k,k<10→p k=.pointer (some ⟨c k,0,none⟩):=by
 obtain ⟨A,B,D,-⟩:=F.rel
 exact ⟨fun k=>if hk:k<10 then (progPtr (D.at_ k hk)).choose else 0,fun k hk=>by dsimp only;rw [dif_pos hk];exact (progPtr (D.at_ k hk)).choose_spec⟩
theorem good_false {g:Gr} (h:(g.check false).1=0):g.good=true:=by unfold Gr.good;rw [h];simp
section
variable {h : Heap} {q : GV} {g : Gr}
end
end Go.Proofs.Tst
/-
  What the source model's chains make (plain).
-/
namespace Go.Proofs.Tst
open Go Go.Vc
def In (n:Nat) (M N:Mx):Prop:=∀ i j,i<n→j<n→M i j=N i j
theorem In.rfl' {n:Nat} {M:Mx}:In n M M:=fun _ _ _ _=>rfl
theorem plus_in {n:Nat} {M N:Mx} (e:In n M N):In n (plusM n M) (plusM n N):=fun i j hi hj=>by
 rw [Bool.eq_iff_iff]
 constructor
 ·exact fun h=>plus_least (N:=fun x y=>plusM n N x y=true) (fun i j hi hj hr=>plus_sub (by rw [← e i j hi hj];exact hr)) (fun _ _ _ _ hx _ h1 h2=>plus_trans hx h1 h2) hi hj h
 ·exact fun h=>plus_least (N:=fun x y=>plusM n M x y=true) (fun i j hi hj hr=>plus_sub (by rw [e i j hi hj];exact hr)) (fun _ _ _ _ hx _ h1 h2=>plus_trans hx h1 h2) hi hj h
theorem opt_in {n:Nat} {M N:Mx} (e:In n M N):In n (optM M) (optM N):=fun i j hi hj=>by unfold optM;rw [e i j hi hj]
theorem dM_in {n:Nat} {f g:Nat→Bool} (e:∀ i,i<n→f i=g i):In n (dM f) (dM g):=fun i j hi _=>by unfold dM;rw [e i hi]
theorem dM_true {f:Nat→Bool} {i j:Nat} (h:dM f i j=true):i=j∧f i=true:=by
 unfold dM at h;simpa using h
theorem chM_nil {n:Nat} {A:Mx}:chM n A []=A:=rfl
theorem chM_cons {n:Nat}:∀ (l:List Mx) (A B:Mx) {i j:Nat},i<n→j<n→chM n A (B :: l) i j=exB n fun a=>A i a&&chM n B l a j
 | [],A,B,i,j,hi,hj=>compM_in hi hj
 | C :: l,A,B,i,j,hi,hj=>by
  show chM n (compM n A n B) (C :: l) i j=_
  rw [chM_cons l _ C hi hj,Bool.eq_iff_iff,exB_true,exB_true]
  constructor
  ·rintro ⟨c,hc,h⟩
   rw [compM_in hi hc,Bool.and_eq_true,exB_true] at h
   obtain ⟨⟨a,ha,h1⟩,h2⟩:=h
   rw [Bool.and_eq_true] at h1
   refine ⟨a,ha,?_⟩
   rw [Bool.and_eq_true,chM_cons l B C ha hj,exB_true]
   exact ⟨h1.1,c,hc,by rw [h1.2,h2];rfl⟩
  ·rintro ⟨a,ha,h⟩
   rw [Bool.and_eq_true,chM_cons l B C ha hj,exB_true] at h
   obtain ⟨h1,c,hc,h2⟩:=h
   rw [Bool.and_eq_true] at h2
   refine ⟨c,hc,?_⟩
   rw [compM_in hi hc,Bool.and_eq_true,exB_true]
   exact ⟨⟨a,ha,by rw [h1,h2.1];rfl⟩,h2.2⟩
theorem chM_ex {n:Nat} {l:List Mx} {A B:Mx} {i j:Nat} (hi:i<n) (hj:j<n):chM n A (B :: l) i j=true↔∃ a,a<n∧A i a=true∧chM n B l a j=true:=by
 rw [chM_cons l A B hi hj,exB_true]
 exact ⟨fun ⟨a,ha,h⟩=>⟨a,ha,by rwa [Bool.and_eq_true] at h⟩,fun ⟨a,ha,h⟩=>⟨a,ha,by rwa [Bool.and_eq_true]⟩⟩
section
variable {g : Gr}
theorem rr_of:In g.n (compM g.n (relM g 1) g.n (relM g 3)) (rrM g):=fun i j hi hj=>compM_in hi hj
theorem ploc_of:In g.n (interM g.n (relM g 0) g.n (relM g 4)) (plocM g):=fun i j hi hj=>interM_in hi hj
theorem other_of:In g.n (minusM g.n (relM g 0) g.n (relM g 4)) (otherM g):=fun i j hi hj=>minusM_in hi hj
theorem rs_of {P R:Mx} (hP:In g.n P (plocM g)) (hR:In g.n R (rrM g)):In g.n (chM g.n (dM (isK g 2)) [optM P,dM (isK g 2),optM (plusM g.n R)]) (rsM g):=fun i j hi hj=>by
 rw [Bool.eq_iff_iff,rs_spec,chM_ex hi hj]
 constructor
 ·rintro ⟨a,ha,h1,h⟩
  obtain ⟨rfl,q1⟩:=dM_true h1
  rw [chM_ex ha hj] at h
  obtain ⟨b,hb,h2,h⟩:=h
  rw [chM_ex hb hj] at h
  obtain ⟨c,hc,h3,h⟩:=h
  obtain ⟨rfl,q3⟩:=dM_true h3
  rw [chM_nil,opt_in (plus_in hR) _ _ hb hj] at h
  rw [opt_in hP _ _ ha hb] at h2
  unfold optM at h h2
  simp only [Bool.or_eq_true,beq_iff_eq] at h h2
  exact ⟨q1,b,hb,h2,q3,h⟩
 ·rintro ⟨h1,b,hb,h2,h3,h⟩
  refine ⟨i,hi,by unfold dM;simp [h1],?_⟩
  rw [chM_ex hi hj]
  refine ⟨b,hb,?_,?_⟩
  ·rw [opt_in hP _ _ hi hb];unfold optM;simpa using h2
  ·rw [chM_ex hb hj]
   refine ⟨b,hb,by unfold dM;simp [h3],?_⟩
   rw [chM_nil,opt_in (plus_in hR) _ _ hb hj];unfold optM;simpa using h
theorem fpo_of:In g.n (compM g.n (dM (isK g 3)) g.n (relM g 0)) (fun i j=>isK g 3 i&&relM g 0 i j):=fun i j hi hj=>compM_dL hi hj
theorem pof_of:In g.n (compM g.n (relM g 0) g.n (dM (isK g 3))) (fun i j=>relM g 0 i j&&isK g 3 j):=fun i j hi hj=>compM_dR hi hj
theorem sw_of {A C F1 F2 S:Mx} (hA:In g.n A (dM (relB g))) (hC:In g.n C (dM (acrB g))) (h1:In g.n F1 fun i j=>isK g 3 i&&relM g 0 i j) (h2:In g.n F2 fun i j=>relM g 0 i j&&isK g 3 j) (hS:In g.n S (rsM g)) :
  In g.n (chM g.n A [optM F1,S,relM g 1,dM (isK g 1),optM F2,C]) (swM g):=fun i j hi hj=>by
 rw [Bool.eq_iff_iff,sw_spec,chM_ex hi hj]
 constructor
 ·rintro ⟨i',hi',k1,h⟩
  rw [hA _ _ hi hi'] at k1
  obtain ⟨rfl,q1⟩:=dM_true k1
  rw [chM_ex hi hj] at h
  obtain ⟨a,ha,k2,h⟩:=h
  rw [chM_ex ha hj] at h
  obtain ⟨b,hb,k3,h⟩:=h
  rw [chM_ex hb hj] at h
  obtain ⟨c,hc,k4,h⟩:=h
  rw [chM_ex hc hj] at h
  obtain ⟨d,hd,k5,h⟩:=h
  obtain ⟨rfl,q5⟩:=dM_true k5
  rw [chM_ex hc hj] at h
  obtain ⟨e,he,k6,h⟩:=h
  rw [chM_nil,hC _ _ he hj] at h
  obtain ⟨rfl,q7⟩:=dM_true h
  rw [opt_in h1 _ _ hi ha] at k2
  rw [hS _ _ ha hb] at k3
  rw [opt_in h2 _ _ hc he] at k6
  unfold optM at k2 k6
  simp only [Bool.or_eq_true,Bool.and_eq_true,beq_iff_eq] at k2 k6
  exact ⟨q1,q7,a,ha,k2,b,hb,k3,c,hc,k4,q5,k6⟩
 ·rintro ⟨k1,k7,a,ha,k2,b,hb,k3,c,hc,k4,k5,k6⟩
  refine ⟨i,hi,by rw [hA _ _ hi hi];unfold dM;simp [k1],?_⟩
  rw [chM_ex hi hj]
  refine ⟨a,ha,by rw [opt_in h1 _ _ hi ha];unfold optM;simpa using k2,?_⟩
  rw [chM_ex ha hj]
  refine ⟨b,hb,by rw [hS _ _ ha hb];exact k3,?_⟩
  rw [chM_ex hb hj]
  refine ⟨c,hc,k4,?_⟩
  rw [chM_ex hc hj]
  refine ⟨c,hc,by unfold dM;simp [k5],?_⟩
  rw [chM_ex hc hj]
  refine ⟨j,hj,by rw [opt_in h2 _ _ hc hj];unfold optM;simpa using k6,?_⟩
  rw [chM_nil,hC _ _ hj hj];unfold dM;simp [k7]
theorem chM3 {n:Nat} {A B C:Mx} {i j:Nat} (hi:i<n) (hj:j<n):chM n A [B,C] i j=exB n fun a=>A i a&&exB n fun b=>B a b&&C b j:=by
 rw [chM_cons _ _ _ hi hj]
 exact exB_congr fun a ha=>by rw [chM_cons _ _ _ ha hj];rfl
theorem chM3_in {n:Nat} {A B C A' B' C':Mx} (hA:In n A A') (hB:In n B B') (hC:In n C C'):In n (chM n A [B,C]) (fun i j=>exB n fun a=>A' i a&&exB n fun b=>B' a b&&C' b j):=fun i j hi hj=>by
 rw [chM3 hi hj]
 exact exB_congr fun a ha=>by rw [hA i a hi ha];congr 1;exact exB_congr fun b hb=>by rw [hB a b ha hb,hC b j hb hj]
theorem heh_of {H E:Mx} (hH:In g.n H (hbM g)) (hE:In g.n E (ecoM g)):In g.n (chM g.n H [E,H]) (hehM g):=chM3_in hH hE hH
theorem oho_of {O H:Mx} (hO:In g.n O (otherM g)) (hH:In g.n H (hbM g)):In g.n (chM g.n O [H,O]) (fun i j=>exB g.n fun a=>otherM g i a&&exB g.n fun b=>hbM g a b&&otherM g b j):=chM3_in hO hH hO
theorem base_of {B S E:Mx} (hB:In g.n B (beginM g)) (hS:In g.n S (scbM g)) (hE:In g.n E (endM g)):In g.n (chM g.n B [S,E]) (baseM g):=chM3_in hB hS hE
theorem fsc_of {X Y F:Mx} (hF:In g.n F (dM (fscB g))) (hX:In g.n X Y):In g.n (chM g.n F [X,F]) (fun i j=>fscB g i&&Y i j&&fscB g j):=fun i j hi hj=>by
 rw [chM3_in hF hX hF i j hi hj,Bool.eq_iff_iff,exB_true]
 simp only [Bool.and_eq_true,exB_true]
 constructor
 ·rintro ⟨a,ha,h1,b,hb,h2,h3⟩
  obtain ⟨rfl,q1⟩:=dM_true h1
  obtain ⟨rfl,q3⟩:=dM_true h3
  exact ⟨⟨q1,h2⟩,q3⟩
 ·rintro ⟨⟨h1,h2⟩,h3⟩
  exact ⟨i,hi,by unfold dM;simp [h1],j,hj,h2,by unfold dM;simp [h3]⟩
theorem fh_of {F H:Mx} (hF:In g.n F (dM (fscB g))) (hH:In g.n H (hbM g)):In g.n (compM g.n F g.n (optM H)) (fun i j=>fscB g i&&(hbM g i j||i==j)):=fun i j hi hj=>by
 rw [compM_in hi hj]
 have:(exB g.n fun k=>F i k&&optM H k j)=exB g.n fun k=>dM (fscB g) i k&&optM (hbM g) k j:=exB_congr fun k hk=>by rw [hF i k hi hk,opt_in hH k j hk hj]
 rw [this,← compM_in hi hj,compM_dL hi hj];rfl
theorem hf_of {F H:Mx} (hF:In g.n F (dM (fscB g))) (hH:In g.n H (hbM g)):In g.n (compM g.n (optM H) g.n F) (fun i j=>(hbM g i j||i==j)&&fscB g j):=fun i j hi hj=>by
 rw [compM_in hi hj]
 have:(exB g.n fun k=>optM H i k&&F k j)=exB g.n fun k=>optM (hbM g) i k&&dM (fscB g) k j:=exB_congr fun k hk=>by rw [hF k j hk hj,opt_in hH i k hi hk]
 rw [this,← compM_in hi hj,compM_dR hi hj];rfl
theorem dOr {f1 f2 f:Nat→Bool} {n:Nat} (e:∀ i,i<n→(f1 i||f2 i)=f i):In n (orM [dM f1,dM f2]) (dM f):=fun i j hi _=>by
 unfold orM dM;rw [← e i hi];cases h:(i==j) <;> simp [h]
theorem fsc_pts:In g.n (dM fun i=>isK g 3 i&&isM g 5 i) (dM (fscB g)):=dM_in fun i _=>by unfold fscB;rw [Bool.and_comm]
theorem begin_of:In g.n (orM [dM (escB g),compM g.n (dM (fscB g)) g.n (optM (hbM g))]) (beginM g):=fun i j hi hj=>by
 show (dM (escB g) i j||(compM g.n (dM (fscB g)) g.n (optM (hbM g)) i j||false))=_
 rw [fh_of In.rfl' In.rfl' i j hi hj,Bool.or_false];rfl
theorem end_of:In g.n (orM [dM (escB g),compM g.n (optM (hbM g)) g.n (dM (fscB g))]) (endM g):=fun i j hi hj=>by
 show (dM (escB g) i j||(compM g.n (optM (hbM g)) g.n (dM (fscB g)) i j||false))=_
 rw [hf_of In.rfl' In.rfl' i j hi hj,Bool.or_false];rfl
theorem hb_of:In g.n (plusM g.n (orM [relM g 0,swM g])) (hbM g):=plus_in fun i j _ _=>by simp [orM,poswM]
theorem eco_of:In g.n (plusM g.n (orM [relM g 1,relM g 2,relM g 9])) (ecoM g):=plus_in fun i j _ _=>by simp [orM,comM,Bool.or_assoc]
theorem scb_of:In g.n (orM [relM g 0,chM g.n (otherM g) [hbM g,otherM g],interM g.n (hbM g) g.n (relM g 4),relM g 2,relM g 9]) (scbM g):=fun i j hi hj=>by
 show (relM g 0 i j||(chM g.n (otherM g) [hbM g,otherM g] i j||(interM g.n (hbM g) g.n (relM g 4) i j||(relM g 2 i j||(relM g 9 i j||false)))))=_
 rw [oho_of In.rfl' In.rfl' i j hi hj,interM_in hi hj];unfold scbM;simp only [Bool.or_assoc,Bool.or_false]
theorem pscf_of:In g.n (chM g.n (dM (fscB g)) [orM [hbM g,chM g.n (hbM g) [ecoM g,hbM g]],dM (fscB g)]) (pscfM g):=
 fsc_of In.rfl' (Y:=fun i j=>hbM g i j||hehM g i j) fun i j hi hj=>by
  show (hbM g i j||(chM g.n (hbM g) [ecoM g,hbM g] i j||false))=_
  rw [heh_of In.rfl' In.rfl' i j hi hj,Bool.or_false]
theorem rs_of':In g.n (chM g.n (dM (isK g 2)) [optM (plocM g),dM (isK g 2),optM (plusM g.n (rrM g))]) (rsM g):=rs_of In.rfl' In.rfl'
theorem sw_of':In g.n (chM g.n (dM (relB g)) [optM (chM g.n (dM (isK g 3)) [relM g 0]),rsM g,relM g 1,dM (isK g 1),optM (chM g.n (relM g 0) [dM (isK g 3)]),dM (acrB g)]) (swM g):=sw_of In.rfl' In.rfl' fpo_of pof_of In.rfl'
theorem base_of':In g.n (chM g.n (beginM g) [scbM g,endM g]) (baseM g):=base_of In.rfl' In.rfl' In.rfl'
theorem rel_pts:In g.n (orM [dM fun i=>isK g 2 i&&(isM g 3 i||isM g 4 i||isM g 5 i),dM fun i=>isK g 3 i&&(isM g 3 i||isM g 4 i||isM g 5 i)]) (dM (relB g)):=dOr fun i _=>by
 unfold relB;cases isK g 2 i <;> cases isK g 3 i <;> simp
theorem acr_pts:In g.n (orM [dM fun i=>isK g 1 i&&(isM g 2 i||isM g 4 i||isM g 5 i),dM fun i=>isK g 3 i&&(isM g 2 i||isM g 4 i||isM g 5 i)]) (dM (acrB g)):=dOr fun i _=>by
 unfold acrB;cases isK g 1 i <;> cases isK g 3 i <;> simp
theorem esc_pts:In g.n (orM [dM fun i=>isK g 2 i&&isM g 5 i,dM fun i=>isK g 1 i&&isM g 5 i]) (dM (escB g)):=dOr fun i _=>by
 unfold escB;cases isK g 1 i <;> cases isK g 2 i <;> cases isM g 5 i <;> rfl
end
end Go.Proofs.Tst
/-
  The source's memory model in memory: its parts.
-/
namespace Go.Proofs.Tst
open Go Go.Vc
def tI (ms:List Int):Tell:=tell1 fun v _ _ h=>Rd 1 h v ms.length (intsV ms)
theorem stI (ms:List Int):Stab (tI ms):=Stab.one fun _ _ _ _ _ f t=>t.fr f
theorem tI_eq (ms:List Int) (u:Out) (h:Heap):tI ms [u] h=Rd 1 h u.1 ms.length (intsV ms):=(rfl)
theorem tV_eq (v:Value) (u:Out) (h:Heap):tV v [u] h=(u.1=v):=(rfl)
def rcM (g:Gr):Nat→Mx
 | 0=>rsM g
 | 1=>swM g
 | 2=>hbM g
 | 3=>ecoM g
 | 4=>scbM g
 | 5=>baseM g
 | _=>pscfM g
theorem atB_w3 {g:Gr} {a b c:Int} {i:Nat} (hi:i<g.n):atB (withB g [a,b,c]) i=(isM g a i||isM g b i||isM g c i):=by
 refine atB_get ?_
 unfold withB isM
 rw [List.getElem?_map,Gr.ev_get hi]
 simp only [Option.map_some,Option.some.injEq]
 rw [Bool.eq_iff_iff];simp [or_assoc]
theorem atB_list {l:List Bool} {i:Nat} (hi:i<l.length):l[i]?=some (atB l i):=by simp [atB,hi]
theorem row_step {f:Nat→Bool} {i:Nat} {v:Bool} (hv:v=f i) (j:Nat):(decide (j<i+1)&&f j)=upd (fun j=>decide (j<i)&&f j) i v j:=by
 unfold upd
 by_cases hj:j=i
 ·subst hj;rw [if_pos rfl,hv];simp
 ·rw [if_neg hj]
  have:(j<i+1)=(j<i):=propext ⟨fun _=>by omega,fun _=>by omega⟩
  simp only [this]
section
variable {h : Heap} {mb : Nat} {q : GV} {g : Gr}
set_option maxHeartbeats 1000000 in
theorem rc11_model_some (m:Mg h mb q g) {sv mv:Value} {l:List Bool} {ms:List Int} (hl:Rd 1 h sv l.length (boolsV l)) (hn:l.length=g.n) (hm:Rd 1 h mv ms.length (intsV ms)) (bm:ms.length≤17592186044416) {f:Nat→Bool} (hf:∀ i,i<g.n→(atB l i&&(decide (ms.length=0)||atB (withB g ms) i))=f i) :
  Con Tryd.prog 45 #[.pointer (some ⟨mb,0,none⟩),sv,mv] h fun v h'=>Fr 0 0 h h'∧PN h' h.size v g.n (dM f):=by
 refine con_rc11_model_some ?_
 have hn256:=m.n
 have hcl:clampN (g.n:Int)=g.n:=by unfold clampN;omega
 have p0:Fr 0 0 h h:=.refl _ _ _
 obtain ⟨rest,r1⟩:=m.row
 unfold gcells at r1
 simp only [List.cons_append,List.nil_append] at r1
 rw [hn] at hl
 obtain ⟨sa,sc,rfl⟩:=hl.is
 obtain ⟨ma,mc,rfl⟩:=hm.is
 simp -dsimp only [go_sem,r1.cell]
 refine call_of (graph_With (m.gr.fr p0) (by omega) (m:=ms) (hm.fr p0) (by omega)) ?_
 rintro v2 h2 ⟨f2,o2⟩
 have f2_z:=f2.size
 replace p0:=p0.F f2
 replace r1:=r1.F f2
 obtain ⟨wa,wc,rfl⟩:=o2.is
 have hwl:(withB g ms).length=g.n:=by simp [withB,Gr.n]
 have hw2:=o2.rd
 have p2:Fr 0 0 h2 h2:=.refl _ _ _
 simp -dsimp only [go_sem,r1.cell]
 refine Chk_intro (by omega) ?_
 rw [zeros_one,Int.toNat_natCast,brow_false]
 intro b3 h3 n3
 have n3_a:=n3.at_
 have n3_z:=n3.size
 replace p0:=p0.F n3.f0
 replace r1:=r1.F n3.f0
 replace p2:=p2.F n3.f0
 have r3:=n3.row
 simp -dsimp only [go_sem,r1.cell,r3.cell]
 have P0:=p0
 refine loop_intro (fun i:Nat=>[(2,.slice ma ms.length mc),(7,.slice wa g.n wc),(8,.slice (some ⟨b3,0,none⟩) g.n g.n),(20,.slice sa g.n sc),(21,.int .i64 g.n),(22,.int .i64 i)])
  (fun i h'=>i≤g.n∧Fr b3 (b3+1) h3 h'∧Rw h' b3 (brow g.n fun j=>decide (j<i)&&f j)) (fun i=>g.n - i) 0 ?_ ?_ ?_
 ·simp [Le,find]
 ·exact ⟨by omega,.refl _ _ _,by simpa using r3⟩
 have P23:Fr 0 0 h2 h3:=p2
 clear p0 r1 r3 o2 p2
 rintro i h4 ⟨hi,q4,r3⟩
 have hb3:h.size≤b3∧h2.size=b3:=by omega
 by_cases hlt:i<g.n
 ·have e1:((i:Int)<(g.n:Int)):=by omega
  have hfi:=hf i hlt
  have p4:=P0.fresh q4 (by omega)
  have p24:=P23.fresh q4 (by omega)
  obtain ⟨ab,ao,rfl,hac⟩:=bools_at hl (by omega)
  obtain ⟨bb,bo,rfl,hbc⟩:=bools_at hw2 (by omega)
  have k1:=hac h4 p4 i _ (atB_list (by omega))
  have k2:=hbc h4 p24 i _ (atB_list (by omega))
  generalize atB l i=x at k1 hfi
  generalize atB (withB g ms) i=y at k2 hfi
  cases x
  ·simp -dsimp only [go_sem,e1,k1,r3.cell]
   refine Chk_intro (r3.wr (by first | (simp;done) | (simp;omega))) fun h5 s5=>?_
   have s5_z:=s5.size
   replace r3:=s5.row r3
   try simp only [cl_int,cl_bool,cl_slice,cl_ptr,putAt_one,List.set_cons_zero,List.set_cons_succ,ivec_set,brow_upd] at r3
   simp -dsimp only [go_sem,r3.cell]
   simp -dsimp (disch:=omega) only [wrap64]
   refine ⟨i+1,by omega,by simp [Le,find],by omega,q4.freshIn s5.fr (by omega),?_⟩
   rw [brow_congr (g:=upd (fun j=>decide (j<i)&&f j) i false) fun j _=>row_step hfi j]
   exact r3
  ·rw [Bool.true_and] at hfi
   by_cases hms:ms.length=0
   ·have e2:((ms.length:Int)==0)=true:=by simpa using hms
    rw [decide_eq_true hms,Bool.true_or] at hfi
    simp -dsimp only [go_sem,e1,k1,e2,r3.cell]
    refine Chk_intro (r3.wr (by first | (simp;done) | (simp;omega))) fun h5 s5=>?_
    have s5_z:=s5.size
    replace r3:=s5.row r3
    try simp only [cl_int,cl_bool,cl_slice,cl_ptr,putAt_one,List.set_cons_zero,List.set_cons_succ,ivec_set,brow_upd] at r3
    simp -dsimp only [go_sem,r3.cell]
    simp -dsimp (disch:=omega) only [wrap64]
    refine ⟨i+1,by omega,by simp [Le,find],by omega,q4.freshIn s5.fr (by omega),?_⟩
    rw [brow_congr (g:=upd (fun j=>decide (j<i)&&f j) i true) fun j _=>row_step hfi j]
    exact r3
   ·have e2:((ms.length:Int)==0)=false:=by simpa using hms
    rw [decide_eq_false hms,Bool.false_or] at hfi
    simp -dsimp only [go_sem,e1,k1,k2,e2,r3.cell]
    refine Chk_intro (r3.wr (by first | (simp;done) | (simp;omega))) fun h5 s5=>?_
    have s5_z:=s5.size
    replace r3:=s5.row r3
    try simp only [cl_int,cl_bool,cl_slice,cl_ptr,putAt_one,List.set_cons_zero,List.set_cons_succ,ivec_set,brow_upd] at r3
    simp -dsimp only [go_sem,r3.cell]
    simp -dsimp (disch:=omega) only [wrap64]
    refine ⟨i+1,by omega,by simp [Le,find],by omega,q4.freshIn s5.fr (by omega),?_⟩
    rw [brow_congr (g:=upd (fun j=>decide (j<i)&&f j) i y) fun j _=>row_step hfi j]
    exact r3
 ·obtain rfl:i=g.n:=by omega
  simp -dsimp only [go_sem,Int.lt_irrefl,r3.cell]
  have p4:=P0.fresh q4 (by omega)
  have hr:Rd 1 h4 (.slice (some ⟨b3,0,none⟩) g.n g.n) ((List.range g.n).map f).length (boolsV ((List.range g.n).map f)):=by
   have e:brow g.n (fun j=>decide (j<g.n)&&f j)=boolsV ((List.range g.n).map f):=by
    rw [brow_congr (g:=f) fun j hj=>by simp [hj]]
    unfold brow boolsV;rw [List.map_map];rfl
   rw [e] at r3
   have:=Rw.rd (s:=1) (n:=g.n) (c:=g.n) r3 (by simp [boolsV])
   simpa using this
  refine call_of (rel_Ident g.n hr (by simp;omega)) ?_
  rintro v5 h5 ⟨f5,t5⟩
  rw [hcl] at t5
  simp -dsimp only [go_sem,r3.cell]
  exact ⟨p4.fresh f5 (by omega),((PN.of t5).lower (by have:=q4.size;omega)).congr fun i j hi hj=>by
   show (i==j&&atB ((List.range g.n).map f) i)=dM f i j
   unfold dM;rw [atB_get (b:=f i) (by simp [hi])]⟩
end
end Go.Proofs.Tst
