/-
  Contracts of functions that the law reaches: what each returns and what it leaves in memory. Conditions stand in each.
-/
import Derived.Test.YtmcghihgeibgpaaDoorT5
set_option linter.all false
set_option maxRecDepth 2000
/-
  The words' memory model: its relations, its check (plain).
-/
namespace Go.Proofs.Tst
open Go Go.Vc
def exB (n:Nat) (f:Nat→Bool):Bool:=(List.range n).any f
theorem exB_true {n:Nat} {f:Nat→Bool}:exB n f=true↔∃ k,k<n∧f k=true:=by
 unfold exB;simp [List.any_eq_true]
def isK (g:Gr) (k:Int) (i:Nat):Bool:=(g.ev i).kind==k
def isM (g:Gr) (m:Int) (i:Nat):Bool:=(g.ev i).mode==m
def rfeM (g:Gr) (i j:Nat):Bool:=relM g 1 i j&&relM g 5 i j
def rfiM (g:Gr) (i j:Nat):Bool:=relM g 1 i j&&!relM g 5 i j
def coeM (g:Gr) (i j:Nat):Bool:=relM g 2 i j&&relM g 5 i j
def coiM (g:Gr) (i j:Nat):Bool:=relM g 2 i j&&!relM g 5 i j
def freM (g:Gr) (i j:Nat):Bool:=relM g 9 i j&&relM g 5 i j
def acqB (g:Gr) (i:Nat):Bool:=isM g 12 i||isM g 16 i
def lastB (g:Gr) (i:Nat):Bool:=g.rmw.any fun p=>p.2==(i:Int)
def obsM (g:Gr) (i j:Nat):Bool:=rfeM g i j||coeM g i j||freM g i j
def dobM (g:Gr) (i j:Nat):Bool:=
 relM g 6 i j||relM g 7 i j||(relM g 8 i j&&isK g 2 j)||(exB g.n (fun k=>relM g 6 i k&&relM g 0 k j)&&isK g 2 j)
  || exB g.n (fun k=>(relM g 8 i k||relM g 7 i k)&&coiM g k j)||exB g.n (fun k=>(relM g 6 i k||relM g 7 i k)&&rfiM g k j)
def aobM (g:Gr) (i j:Nat):Bool:=relM g 3 i j||(lastB g i&&rfiM g i j&&acqB g j)
def bobM (g:Gr) (i j:Nat):Bool:=
 exB g.n (fun k=>relM g 0 i k&&isM g 15 k&&relM g 0 k j)||exB g.n (fun k=>isK g 1 i&&relM g 0 i k&&isM g 14 k&&relM g 0 k j)
  || (isM g 13 i&&relM g 0 i j&&isM g 12 j)||(acqB g i&&relM g 0 i j)||(relM g 0 i j&&isM g 13 j)
  || exB g.n (fun k=>relM g 0 i k&&isM g 13 k&&coiM g k j)
def obM (g:Gr) (i j:Nat):Bool:=obsM g i j||dobM g i j||aobM g i j||bobM g i j
def inM (g:Gr) (i j:Nat):Bool:=(relM g 0 i j&&relM g 4 i j)||relM g 1 i j||relM g 2 i j||relM g 9 i j
def tornB (g:Gr) (p:Int×Int):Bool:=inR g.n p.1&&inR g.n p.2&&exB g.n fun k=>freM g p.1.toNat k&&coeM g k p.2.toNat
def armAx (g:Gr):Int×List Int:=
 if cycS g.n (inM g)≠[] then (1,(cycS g.n (inM g)).map fun (x:Nat)=>(x:Int))
 else if cycS g.n (obM g)≠[] then (2,(cycS g.n (obM g)).map fun (x:Nat)=>(x:Int))
 else match g.rmw.find? (tornB g) with | some p=>(3,[p.1,p.2]) | none=>(0,[])
theorem armAx_zero {g:Gr}:(armAx g).1=0↔cycS g.n (inM g)=[]∧cycS g.n (obM g)=[]∧∀ p∈g.rmw,tornB g p=false:=by
 unfold armAx
 by_cases h1:cycS g.n (inM g)=[]
 ·rw [if_neg (by simp [h1])]
  by_cases h2:cycS g.n (obM g)=[]
  ·rw [if_neg (by simp [h2])]
   cases hf:g.rmw.find? (tornB g) with
   | none =>
    rw [List.find?_eq_none] at hf
    simp only [true_iff]
    exact ⟨h1,h2,fun p hp=>by have:=hf p hp;simpa using this⟩
   | some p =>
    have h3:=List.find?_some hf
    have h4:=List.mem_of_find?_eq_some hf
    simp only []
    constructor
    ·intro h;exact absurd h (by decide)
    ·rintro ⟨-,-,h5⟩;rw [h5 p h4] at h3;cases h3
  ·rw [if_pos h2]
   simp only []
   constructor
   ·intro h;exact absurd h (by decide)
   ·rintro ⟨-,h,-⟩;exact absurd h h2
 ·rw [if_pos h1]
  simp only []
  constructor
  ·intro h;exact absurd h (by decide)
  ·rintro ⟨h,-⟩;exact absurd h h1
theorem cyc_acyc {n:Nat} {M:Nat→Nat→Bool}:cycS n M=[]↔irrB n (plusM n M)=true:=by
 constructor
 ·intro h
  have:=cycS_nil h
  unfold irrB
  rw [List.all_eq_true]
  intro i hi
  rw [this i (List.mem_range.1 hi)];rfl
 ·intro h
  unfold irrB at h
  rw [List.all_eq_true] at h
  apply Classical.byContradiction;intro hne
  obtain ⟨p,hp,-,hpp,-⟩:=cycS_is hne
  have:=h p (List.mem_range.2 hp)
  rw [hpp] at this;cases this
theorem acyc_mono {n:Nat} {M N:Nat→Nat→Bool} (h:∀ i j,i<n→j<n→M i j=true→N i j=true) (hN:irrB n (plusM n N)=true):irrB n (plusM n M)=true:=by
 unfold irrB at hN ⊢
 rw [List.all_eq_true] at hN ⊢
 intro i hi
 have hi':=List.mem_range.1 hi
 cases hp:plusM n M i i
 ·rfl
 ·have:=plus_least (n:=n) (M:=M) (N:=fun a b=>plusM n N a b=true) (fun i j hi hj hm=>plus_sub (h i j hi hj hm)) (fun _ x _ _ hx _ h1 h2=>plus_trans hx h1 h2) hi' hi' hp
  have h2:=hN i hi
  rw [this] at h2;cases h2
end Go.Proofs.Tst
/-
  What ARMv8's relations keep of any graph (plain).
-/
namespace Go.Proofs.Tst
open Go Go.Vc
def Th (g:Gr) (i j:Nat):Prop:=(g.ev i).thread=(g.ev j).thread
theorem ext_true {g:Gr} {i j:Nat}:relM g 5 i j=true↔¬ Th g i j:=by
 show g.extM i j=true↔_
 unfold Gr.extM Th;simp
theorem ext_false {g:Gr} {i j:Nat}:relM g 5 i j=false↔Th g i j:=by
 show g.extM i j=false↔_
 unfold Gr.extM Th;simp
theorem po_th {g:Gr} {i j:Nat} (h:relM g 0 i j=true):Th g i j∧0≤(g.ev i).thread∧i<j∧j<g.n:=by
 have h':g.before (i:Int) (j:Int)=true:=h
 have h2:=before_nat h'
 unfold Gr.before at h'
 simp only [Bool.and_eq_true,decide_eq_true_eq,beq_iff_eq,Int.toNat_natCast] at h'
 exact ⟨h'.2,h'.1.2,h2⟩
theorem dep_go {g:Gr} {words:Bool} {l:List (Int×Int)} {f:Int→Bool} (h:¬ 0≤g.depAt words l f) {i j:Nat} (hm:ofM g.n l i j=true):g.before (i:Int) (j:Int)=true:=by
 obtain ⟨x,hx⟩:=firstBad_neg (f:=g.depBad words l f) h _ (ofM_mem' hm)
 unfold Gr.depBad at hx
 simp only [Bool.or_eq_false_iff,Bool.not_eq_false'] at hx
 exact hx.1.2
theorem same_true {g:Gr} {i j:Nat} (h1:0≤(g.ev i).loc) (h2:(g.ev i).loc=(g.ev j).loc):relM g 4 i j=true:=by
 show g.sameM i j=true
 unfold Gr.sameM;rw [dec_t h1,beq_t h2];rfl
theorem rf_pair {g:Gr} {words:Bool} (h:(g.check words).1=0) {p:Int×Int} (hp:p∈g.rf):∃ w r:Nat,p=((w:Int),(r:Int))∧w<g.n∧r<g.n∧(g.ev w).kind=2∧(g.ev r).kind=1∧(g.ev w).loc=(g.ev r).loc∧0≤(g.ev w).loc:=by
 obtain ⟨hs,h2,h3,h4,-⟩:=check_zero h
 have key:∀ (d r k:Nat),r+d=g.n→¬ 0≤g.rfGo d r k→∀ p∈g.rf.drop k,∃ r:Nat,r<g.n∧p.2=(r:Int)∧(g.ev r).kind=1∧g.is p.1 2=true∧(g.ev p.1.toNat).loc=(g.ev r).loc:=by
  intro d
  induction d with
  | zero =>
   intro r k hr h p hp
   have hk:g.rf.length≤k:=by
    unfold Gr.rfGo at h
    split at h
    ·omega
    ·omega
   rw [List.drop_eq_nil_of_le hk] at hp
   cases hp
  | succ d ih =>
   intro r k hr h p hp
   by_cases hkd:(g.ev r).kind=1
   ·cases hb:g.rfBad r k
    ·rw [rfGo_ok hkd hb] at h
     unfold Gr.rfBad at hb
     cases hq:g.rf[k]? with
     | none=>rw [hq] at hb;cases hb
     | some q =>
      rw [hq] at hb
      simp only [Bool.or_eq_false_iff,Bool.not_eq_false',beq_iff_eq] at hb
      obtain ⟨⟨⟨hb1,hb2⟩,hb3⟩,-⟩:=hb
      have hkl:=(List.getElem?_eq_some_iff.1 hq).1
      have hdr:g.rf.drop k=q :: g.rf.drop (k+1):=by rw [List.drop_eq_getElem_cons hkl];congr 1;exact (List.getElem?_eq_some_iff.1 hq).2
      rw [hdr] at hp
      rcases List.mem_cons.1 hp with rfl | hp
      ·exact ⟨r,by omega,hb1,hkd,hb2,hb3⟩
      ·exact ih (r+1) (k+1) (by omega) h p hp
    ·rw [rfGo_bad hkd hb] at h;omega
   ·rw [rfGo_skip hkd] at h
    exact ih (r+1) k (by omega) h p hp
 obtain ⟨r,h5,h6,h7,h8,h9⟩:=key g.n 0 0 (by omega) h4 p (by rw [List.drop_zero];exact hp)
 obtain ⟨l1,l2,l3⟩:=is_lt h8
 refine ⟨p.1.toNat,r,Prod.ext (by dsimp only;omega) h6,by omega,h5,l3,h7,h9,write_loc hs h2 h3 _ (by omega) l3⟩
end Go.Proofs.Tst
/-
  A graph with weaker modes and fewer pairs (plain).
-/
namespace Go.Proofs.Tst
open Go Go.Vc
def weakM (m m':Int):Prop:=m'=m∨(m=12∧m'=16)∨((m=12∨m=13∨m=16)∧m'=11)∨(m=15∧m'=14)
structure Weak (g h:Gr):Prop where
 cells:h.cells=g.cells
 len:h.n=g.n
 rf:h.rf=g.rf
 co:h.co=g.co
 rmw:h.rmw=g.rmw
 thr:∀ i,(h.ev i).thread=(g.ev i).thread
 kind:∀ i,(h.ev i).kind=(g.ev i).kind
 loc:∀ i,(h.ev i).loc=(g.ev i).loc
 val:∀ i,(h.ev i).val=(g.ev i).val
 mode:∀ i,weakM (g.ev i).mode (h.ev i).mode
 addr:h.addr.Sublist g.addr
 data:h.data.Sublist g.data
 ctrl:h.ctrl.Sublist g.ctrl
theorem firstEv_all {f:Nat→Bool}:∀ (d i:Nat),(∀ j,i≤j→j<i+d→f j=false)→¬ 0≤Gr.firstEv f d i
 | 0,i,_=>by unfold Gr.firstEv;omega
 | d+1,i,h=>by
  rw [firstEv_ok (h i (Nat.le_refl _) (by omega))]
  exact firstEv_all d (i+1) fun j h1 h2=>h j (by omega) (by omega)
namespace Weak
variable {g h : Gr}
theorem size (w:Weak g h):h.size=g.size:=by unfold Gr.size;rw [w.cells,w.len]
theorem is (w:Weak g h) (i k:Int):h.is i k=g.is i k:=by unfold Gr.is;rw [w.len,w.kind]
theorem before (w:Weak g h) (a b:Int):h.before a b=g.before a b:=by unfold Gr.before;rw [w.len,w.thr,w.thr]
theorem isNext (w:Weak g h) (a b:Int):h.isNext a b=g.isNext a b:=by unfold Gr.isNext;simp only [w.before,w.thr]
theorem writesOf (w:Weak g h) (c:Int):h.writesOf c=g.writesOf c:=by rw [writesOf_range,writesOf_range];simp only [w.len,w.kind,w.loc]
theorem rfBad (w:Weak g h) (r k:Nat):h.rfBad r k=g.rfBad r k:=by unfold Gr.rfBad;simp only [w.rf,w.is,w.loc,w.val]
theorem rfGo (w:Weak g h):∀ d r k,h.rfGo d r k=g.rfGo d r k
 | 0,r,k=>by unfold Gr.rfGo;rw [w.rf]
 | d+1,r,k=>by unfold Gr.rfGo;simp only [w.kind,w.rfBad,w.rfGo d]
theorem rfAt (w:Weak g h):h.rfAt=g.rfAt:=by unfold Gr.rfAt;rw [w.rfGo,w.len]
theorem coBad (w:Weak g h) (c:Nat) (l:List Int):h.coBad c l=g.coBad c l:=by unfold Gr.coBad;simp only [w.writesOf,w.is,w.loc]
theorem coAt (w:Weak g h):h.coAt=g.coAt:=by unfold Gr.coAt Gr.coFirst Gr.lists;simp only [w.co,w.cells,w.coBad]
theorem rmwAt (w:Weak g h):h.rmwAt=g.rmwAt:=by
 unfold Gr.rmwAt
 rw [w.rmw]
 refine firstBad_congr fun j p _=>?_
 unfold Gr.rmwBad
 simp only [w.rmw,w.is,w.isNext,w.loc]
theorem modeOk (w:Weak g h) (i:Nat) (hk:Gr.modeOk true (g.ev i).kind (g.ev i).mode=true):Gr.modeOk true (h.ev i).kind (h.ev i).mode=true:=by
 have:=w.mode i
 rw [w.kind]
 unfold Gr.modeOk at hk ⊢
 simp only [if_true,Bool.or_eq_true,Bool.and_eq_true,beq_iff_eq] at hk ⊢
 unfold weakM at this
 omega
theorem evOk (w:Weak g h) (i:Nat) (hk:g.evOk true (g.ev i)=true):h.evOk true (h.ev i)=true:=by
 unfold Gr.evOk at hk ⊢
 simp only [Bool.and_eq_true] at hk ⊢
 obtain ⟨⟨⟨h1,h2⟩,h3⟩,h4⟩:=hk
 refine ⟨⟨⟨?_,?_⟩,w.modeOk i h3⟩,?_⟩
 ·rw [w.thr];exact h1
 ·rw [w.thr];exact h2
 ·rw [w.kind,w.loc,w.val,w.cells];exact h4
theorem first (w:Weak g h) (c:Nat) (hk:g.ev c=Gr.first true c):h.ev c=Gr.first true c:=by
 have h1:=w.thr c;have h2:=w.kind c;have h3:=w.loc c;have h4:=w.val c;have h5:=w.mode c
 rw [hk] at h1 h2 h3 h4 h5
 have h5':(h.ev c).mode=11:=by
  unfold weakM Gr.first at h5;simp only [if_true] at h5;omega
 have h6:(h.ev c).mode=(Gr.first true c).mode:=h5'
 generalize h.ev c=e at h1 h2 h3 h4 h6
 generalize Gr.first true c=e' at h1 h2 h3 h4 h6
 cases e;cases e'
 simp only at h1 h2 h3 h4 h6
 rw [h1,h2,h3,h4,h6]
end Weak
def Rises (l:List (Int×Int)):Prop:=l.Pairwise fun p q=>p.1<q.1∨p.1=q.1∧p.2<q.2
theorem rises_of:∀ {l:List (Int×Int)},(∀ i p q,l[i]?=some p→l[i+1]?=some q→p.1<q.1∨p.1=q.1∧p.2<q.2)→Rises l
 | [],_=>List.Pairwise.nil
 | [p],_=>List.pairwise_singleton _ _
 | p :: q :: l,h=>by
  have ih:Rises (q :: l):=rises_of fun i a b ha hb=>h (i+1) a b (by simpa using ha) (by simpa using hb)
  refine List.Pairwise.cons (fun x hx=>?_) ih
  have h0:=h 0 p q rfl rfl
  rcases List.mem_cons.1 hx with rfl | hx
  ·exact h0
  ·have:=(List.pairwise_cons.1 ih).1 x hx
   omega
theorem rises_at {l:List (Int×Int)} (h:Rises l) {i:Nat} {p q:Int×Int} (hp:l[i]?=some p) (hq:l[i+1]?=some q):p.1<q.1∨p.1=q.1∧p.2<q.2:=by
 obtain ⟨h1,e1⟩:=List.getElem?_eq_some_iff.1 hp
 obtain ⟨h2,e2⟩:=List.getElem?_eq_some_iff.1 hq
 have:=List.pairwise_iff_getElem.1 h i (i+1) h1 h2 (by omega)
 rw [e1,e2] at this;exact this
theorem firstBad_get {f:Nat→Int×Int→Bool}:∀ {l:List (Int×Int)} {i:Nat},¬ 0≤Gr.firstBad f l i→∀ j p,l[j]?=some p→f (i+j) p=false
 | [],_,_,j,p,hp=>by simp at hp
 | q :: l,i,h,j,p,hp=>by
  cases hf:f i q
  ·rw [firstBad_ok hf] at h
   cases j with
   | zero=>simp at hp;subst hp;exact hf
   | succ j=>have:=firstBad_get h j p (by simpa using hp);rw [show i+(j+1)=i+1+j by omega];exact this
  ·rw [firstBad_bad hf] at h;omega
theorem firstBad_none {f:Nat→Int×Int→Bool}:∀ {l:List (Int×Int)} {i:Nat},(∀ j p,l[j]?=some p→f (i+j) p=false)→¬ 0≤Gr.firstBad f l i
 | [],_,_=>by unfold Gr.firstBad;omega
 | q :: l,i,h=>by
  rw [firstBad_ok (by have:=h 0 q rfl;exact this)]
  exact firstBad_none fun j p hp=>by have:=h (j+1) p (by simpa using hp);rw [show i+1+j=i+(j+1) by omega];exact this
theorem dep_iff {g:Gr} {l:List (Int×Int)} {f:Int→Bool}:¬ 0≤g.depAt true l f↔Rises l∧∀ p∈l,g.is p.1 1=true∧g.before p.1 p.2=true∧f (g.ev p.2.toNat).kind=true:=by
 unfold Gr.depAt
 constructor
 ·intro h
  have hb:=firstBad_get h
  refine ⟨rises_of fun i p q hp hq=>?_,fun p hp=>?_⟩
  ·have:=hb (i+1) q hq
   unfold Gr.depBad at this
   simp only [Bool.or_eq_false_iff,Bool.and_eq_false_imp,decide_eq_true_eq] at this
   have h1:=this.1.1.1.1 (by omega)
   rw [Nat.zero_add,Nat.add_sub_cancel,List.getD_eq_getElem?_getD,hp,Option.getD_some] at h1
   simp only [decide_eq_false_iff_not,beq_iff_eq] at h1
   obtain ⟨h1,h2⟩:=h1
   by_cases he:q.1=p.1
   ·have:=h2 he;right;exact ⟨he.symm,by omega⟩
   ·left;omega
  ·obtain ⟨j,hj⟩:=List.mem_iff_getElem?.1 hp
   have:=hb j p hj
   unfold Gr.depBad at this
   simp only [Bool.or_eq_false_iff,Bool.not_eq_false'] at this
   exact ⟨this.1.1.2,this.1.2,this.2⟩
 ·rintro ⟨hr,hp⟩
  refine firstBad_none fun j p hj=>?_
  obtain ⟨h1,h2,h3⟩:=hp p (List.mem_of_getElem? hj)
  unfold Gr.depBad
  rw [h1,h2,h3]
  simp only [Bool.not_true,Bool.or_false]
  by_cases h0:0<0+j
  ·obtain ⟨i,rfl⟩:∃ i,j=i+1:=⟨j - 1,by omega⟩
   have hlt:=(List.getElem?_eq_some_iff.1 hj).1
   have hi:l[i]?=some l[i]:=List.getElem?_eq_getElem (by omega)
   have:=rises_at hr hi hj
   rw [Nat.zero_add,Nat.add_sub_cancel,List.getD_eq_getElem?_getD,hi,Option.getD_some]
   have e1:decide (p.1<l[i].1)=false:=by simp;omega
   rw [e1]
   by_cases he:p.1=l[i].1
   ·have e2:decide (p.2≤l[i].2)=false:=by simp;omega
    rw [e2];simp
   ·have:(p.1==l[i].1)=false:=by simpa using he
    rw [this];simp
  ·have:decide (0<0+j)=false:=by simpa using h0
   rw [this];rfl
namespace Weak
variable {g h : Gr}
theorem dep (w:Weak g h) {l l':List (Int×Int)} {f:Int→Bool} (hs:l'.Sublist l) (hd:¬ 0≤g.depAt true l f):¬ 0≤h.depAt true l' f:=by
 obtain ⟨h1,h2⟩:=dep_iff.1 hd
 refine dep_iff.2 ⟨h1.sublist hs,fun p hp=>?_⟩
 obtain ⟨a,b,c⟩:=h2 p (hs.subset hp)
 rw [w.is,w.before,w.kind];exact ⟨a,b,c⟩
theorem check (w:Weak g h) (hg:(g.check true).1=0):(h.check true).1=0:=by
 obtain ⟨h1,h2,h3,h4,h5,h6,h7,h8,h9⟩:=check_zero hg
 have k2:¬ 0≤h.initAt true:=by
  unfold Gr.initAt at h2 ⊢
  refine firstEv_all _ _ fun j hj hj'=>?_
  rw [w.cells] at hj'
  have:=firstEv_neg _ _ h2 j hj hj'
  simp only [Bool.not_eq_false',beq_iff_eq] at this ⊢
  exact w.first j this
 have k3:¬ 0≤h.evAt true:=by
  unfold Gr.evAt at h3 ⊢
  refine firstEv_all _ _ fun j hj hj'=>?_
  rw [w.cells] at hj hj'
  rw [w.len] at hj'
  have:=firstEv_neg _ _ h3 j hj hj'
  simp only [Bool.not_eq_false'] at this ⊢
  exact w.evOk j this
 unfold Gr.check
 rw [w.size,h1,if_neg (by simp),if_neg k2,if_neg k3,if_neg (by rw [w.rfAt];exact h4),if_neg (by rw [w.coAt];exact h5),if_neg (by rw [w.rmwAt];exact h6),if_neg (w.dep w.addr h7),if_neg (w.dep w.data h8),if_neg (w.dep w.ctrl h9)]
theorem po (w:Weak g h) (i j:Nat):relM h 0 i j=relM g 0 i j:=w.before i j
theorem relRf (w:Weak g h) (i j:Nat):relM h 1 i j=relM g 1 i j:=by show ofM h.n h.rf i j=ofM g.n g.rf i j;rw [w.len,w.rf]
theorem relCo (w:Weak g h) (i j:Nat):relM h 2 i j=relM g 2 i j:=by show ofM h.n (coPairs h) i j=ofM g.n (coPairs g) i j;unfold coPairs;rw [w.len,w.co]
theorem relRmw (w:Weak g h) (i j:Nat):relM h 3 i j=relM g 3 i j:=by show ofM h.n h.rmw i j=ofM g.n g.rmw i j;rw [w.len,w.rmw]
theorem relSame (w:Weak g h) (i j:Nat):relM h 4 i j=relM g 4 i j:=by show h.sameM i j=g.sameM i j;unfold Gr.sameM;rw [w.loc,w.loc]
theorem relExt (w:Weak g h) (i j:Nat):relM h 5 i j=relM g 5 i j:=by show h.extM i j=g.extM i j;unfold Gr.extM;rw [w.thr,w.thr]
theorem relFr (w:Weak g h) (i j:Nat):relM h 9 i j=relM g 9 i j:=by
 show compM h.n (invM (ofM h.n h.rf)) h.n (ofM h.n (coPairs h)) i j=compM g.n (invM (ofM g.n g.rf)) g.n (ofM g.n (coPairs g)) i j
 unfold coPairs;rw [w.len,w.rf,w.co]
theorem ofSub {n:Nat} {l l':List (Int×Int)} (hs:l'.Sublist l) {i j:Nat} (hm:ofM n l' i j=true):ofM n l i j=true:=by
 unfold ofM at hm ⊢
 rw [List.any_eq_true] at hm ⊢
 obtain ⟨p,hp,hm⟩:=hm
 exact ⟨p,hs.subset hp,hm⟩
theorem relDep (w:Weak g h) {k:Nat} (hk:k=6∨k=7∨k=8) {i j:Nat} (hm:relM h k i j=true):relM g k i j=true:=by
 rcases hk with rfl | rfl | rfl
 ·exact ofSub w.addr (by rw [← w.len];exact hm)
 ·exact ofSub w.data (by rw [← w.len];exact hm)
 ·exact ofSub w.ctrl (by rw [← w.len];exact hm)
theorem rfi (w:Weak g h) (i j:Nat):rfiM h i j=rfiM g i j:=by unfold rfiM;rw [w.relRf,w.relExt]
theorem coi (w:Weak g h) (i j:Nat):coiM h i j=coiM g i j:=by unfold coiM;rw [w.relCo,w.relExt]
theorem coe (w:Weak g h) (i j:Nat):coeM h i j=coeM g i j:=by unfold coeM;rw [w.relCo,w.relExt]
theorem fre (w:Weak g h) (i j:Nat):freM h i j=freM g i j:=by unfold freM;rw [w.relFr,w.relExt]
theorem rfe (w:Weak g h) (i j:Nat):rfeM h i j=rfeM g i j:=by unfold rfeM;rw [w.relRf,w.relExt]
theorem obs (w:Weak g h) (i j:Nat):obsM h i j=obsM g i j:=by unfold obsM;rw [w.rfe,w.coe,w.fre]
theorem inn (w:Weak g h) (i j:Nat):inM h i j=inM g i j:=by unfold inM;rw [w.po,w.relSame,w.relRf,w.relCo,w.relFr]
theorem torn (w:Weak g h) (p:Int×Int):tornB h p=tornB g p:=by unfold tornB;simp only [w.len,w.fre,w.coe]
theorem isK' (w:Weak g h) (k:Int) (i:Nat):isK h k i=isK g k i:=by unfold isK;rw [w.kind]
theorem isM' (w:Weak g h) {m:Int} (hm:m=12∨m=13∨m=15) {i:Nat} (h1:isM h m i=true):isM g m i=true:=by
 have:=w.mode i
 unfold isM at h1 ⊢
 simp only [beq_iff_eq] at h1 ⊢
 unfold weakM at this
 omega
theorem acq (w:Weak g h) {i:Nat} (h1:acqB h i=true):acqB g i=true:=by
 have:=w.mode i
 unfold acqB isM at h1 ⊢
 simp only [Bool.or_eq_true,beq_iff_eq] at h1 ⊢
 unfold weakM at this
 omega
theorem ld (w:Weak g h) {i:Nat} (h1:isM h 14 i=true):isM g 14 i=true∨isM g 15 i=true:=by
 have:=w.mode i
 unfold isM at h1 ⊢
 simp only [beq_iff_eq] at h1 ⊢
 unfold weakM at this
 omega
theorem dob (w:Weak g h) {i j:Nat} (hd:dobM h i j=true):dobM g i j=true:=by
 unfold dobM at hd ⊢
 simp only [Bool.or_eq_true,Bool.and_eq_true,exB_true,w.po,w.rfi,w.coi,w.isK',w.len] at hd ⊢
 have d6:∀ {i j},relM h 6 i j=true→relM g 6 i j=true:=fun x=>w.relDep (by decide) x
 have d7:∀ {i j},relM h 7 i j=true→relM g 7 i j=true:=fun x=>w.relDep (by decide) x
 have d8:∀ {i j},relM h 8 i j=true→relM g 8 i j=true:=fun x=>w.relDep (by decide) x
 rcases hd with ((((hd | hd) | ⟨hd,he⟩) | ⟨⟨k,hk,h1,h2⟩,h3⟩) | ⟨k,hk,h1,h2⟩) | ⟨k,hk,h1,h2⟩
 ·exact .inl (.inl (.inl (.inl (.inl (d6 hd)))))
 ·exact .inl (.inl (.inl (.inl (.inr (d7 hd)))))
 ·exact .inl (.inl (.inl (.inr ⟨d8 hd,he⟩)))
 ·exact .inl (.inl (.inr ⟨⟨k,hk,d6 h1,h2⟩,h3⟩))
 ·exact .inl (.inr ⟨k,hk,h1.imp d8 d7,h2⟩)
 ·exact .inr ⟨k,hk,h1.imp d6 d7,h2⟩
theorem aob (w:Weak g h) {i j:Nat} (hd:aobM h i j=true):aobM g i j=true:=by
 have hl:lastB h i=lastB g i:=by unfold lastB;rw [w.rmw]
 unfold aobM at hd ⊢
 simp only [Bool.or_eq_true,Bool.and_eq_true,w.relRmw,w.rfi,hl] at hd ⊢
 exact hd.imp id fun ⟨h1,h2⟩=>⟨h1,w.acq h2⟩
theorem bob (w:Weak g h) {i j:Nat} (hd:bobM h i j=true):bobM g i j=true:=by
 unfold bobM at hd ⊢
 simp only [Bool.or_eq_true,Bool.and_eq_true,exB_true,w.po,w.coi,w.isK',w.len] at hd ⊢
 have m12:∀ {i},isM h 12 i=true→isM g 12 i=true:=fun x=>w.isM' (by decide) x
 have m13:∀ {i},isM h 13 i=true→isM g 13 i=true:=fun x=>w.isM' (by decide) x
 have m15:∀ {i},isM h 15 i=true→isM g 15 i=true:=fun x=>w.isM' (by decide) x
 rcases hd with ((((⟨k,hk,⟨h1,h3⟩,h2⟩ | ⟨k,hk,⟨⟨h4,h1⟩,h3⟩,h2⟩) | ⟨⟨h3,h1⟩,h4⟩) | ⟨h3,h1⟩) | ⟨h1,h3⟩) | ⟨k,hk,⟨h1,h3⟩,h2⟩
 ·exact .inl (.inl (.inl (.inl (.inl ⟨k,hk,⟨h1,m15 h3⟩,h2⟩))))
 ·rcases w.ld h3 with h3 | h3
  ·exact .inl (.inl (.inl (.inl (.inr ⟨k,hk,⟨⟨h4,h1⟩,h3⟩,h2⟩))))
  ·exact .inl (.inl (.inl (.inl (.inl ⟨k,hk,⟨h1,h3⟩,h2⟩))))
 ·exact .inl (.inl (.inl (.inr ⟨⟨m13 h3,h1⟩,m12 h4⟩)))
 ·exact .inl (.inl (.inr ⟨w.acq h3,h1⟩))
 ·exact .inl (.inr ⟨h1,m13 h3⟩)
 ·exact .inr ⟨k,hk,⟨h1,m13 h3⟩,h2⟩
theorem ob (w:Weak g h) {i j:Nat} (hd:obM h i j=true):obM g i j=true:=by
 unfold obM at hd ⊢
 simp only [Bool.or_eq_true,w.obs] at hd ⊢
 exact hd.imp (fun x=>x.imp (fun x=>x.imp id w.dob) w.aob) w.bob
theorem allowed (w:Weak g h) (ha:(armAx g).1=0):(armAx h).1=0:=by
 obtain ⟨h1,h2,h3⟩:=armAx_zero.1 ha
 refine armAx_zero.2 ⟨?_,?_,fun p hp=>?_⟩
 ·rw [w.len,show inM h=inM g from funext fun i=>funext fun j=>w.inn i j];exact h1
 ·rw [w.len]
  exact cyc_acyc.2 (acyc_mono (fun i j _ _ hm=>w.ob hm) (cyc_acyc.1 h2))
 ·rw [w.torn];rw [w.rmw] at hp;exact h3 p hp
end Weak
end Go.Proofs.Tst
/-
  The source's memory model: its relations, its check (plain).
-/
namespace Go.Proofs.Tst
open Go Go.Vc
def relB (g:Gr) (i:Nat):Bool:=(isK g 2 i||isK g 3 i)&&(isM g 3 i||isM g 4 i||isM g 5 i)
def acrB (g:Gr) (i:Nat):Bool:=(isK g 1 i||isK g 3 i)&&(isM g 2 i||isM g 4 i||isM g 5 i)
def escB (g:Gr) (i:Nat):Bool:=isM g 5 i&&(isK g 1 i||isK g 2 i)
def fscB (g:Gr) (i:Nat):Bool:=isM g 5 i&&isK g 3 i
def plocM (g:Gr) (i j:Nat):Bool:=relM g 0 i j&&relM g 4 i j
def rrM (g:Gr) (i j:Nat):Bool:=exB g.n fun k=>relM g 1 i k&&relM g 3 k j
def rsM (g:Gr) (i j:Nat):Bool:=isK g 2 i&&exB g.n fun m=>(plocM g i m||i==m)&&isK g 2 m&&(plusM g.n (rrM g) m j||m==j)
def swM (g:Gr) (i j:Nat):Bool:=relB g i&&(exB g.n fun a=>((isK g 3 i&&relM g 0 i a)||i==a)&&exB g.n fun b=>rsM g a b&&exB g.n fun c=>relM g 1 b c&&isK g 1 c&&((relM g 0 c j&&isK g 3 j)||c==j))&&acrB g j
def poswM (g:Gr) (i j:Nat):Bool:=relM g 0 i j||swM g i j
def hbM (g:Gr):Nat→Nat→Bool:=plusM g.n (poswM g)
def comM (g:Gr) (i j:Nat):Bool:=relM g 1 i j||relM g 2 i j||relM g 9 i j
def ecoM (g:Gr):Nat→Nat→Bool:=plusM g.n (comM g)
def otherM (g:Gr) (i j:Nat):Bool:=relM g 0 i j&&!relM g 4 i j
def scbM (g:Gr) (i j:Nat):Bool:=relM g 0 i j||(exB g.n fun a=>otherM g i a&&exB g.n fun b=>hbM g a b&&otherM g b j)||(hbM g i j&&relM g 4 i j)||relM g 2 i j||relM g 9 i j
def beginM (g:Gr) (i a:Nat):Bool:=(i==a&&escB g i)||(fscB g i&&(hbM g i a||i==a))
def endM (g:Gr) (b j:Nat):Bool:=(b==j&&escB g b)||((hbM g b j||b==j)&&fscB g j)
def baseM (g:Gr) (i j:Nat):Bool:=exB g.n fun a=>beginM g i a&&exB g.n fun b=>scbM g a b&&endM g b j
def hehM (g:Gr) (i j:Nat):Bool:=exB g.n fun a=>hbM g i a&&exB g.n fun b=>ecoM g a b&&hbM g b j
def pscfM (g:Gr) (i j:Nat):Bool:=fscB g i&&(hbM g i j||hehM g i j)&&fscB g j
def pscM (g:Gr) (i j:Nat):Bool:=baseM g i j||pscfM g i j
def thinM (g:Gr) (i j:Nat):Bool:=relM g 0 i j||relM g 1 i j
def cohGo (g:Gr) (a:Nat):Nat→Nat→List Int
 | 0,_=>[]
 | d+1,b=>if (hbM g a b&&ecoM g b a)=true then [(a:Int),(b:Int)] else cohGo g a d (b+1)
def cohAt (g:Gr) (a:Nat):List Int:=if hbM g a a=true then [(a:Int)] else cohGo g a g.n 0
def cohFrom (g:Gr):Nat→Nat→List Int
 | 0,_=>[]
 | d+1,a=>if cohAt g a≠[] then cohAt g a else cohFrom g d (a+1)
def coh (g:Gr):List Int:=cohFrom g g.n 0
def tornS (g:Gr) (p:Int×Int):Bool:=inR g.n p.1&&inR g.n p.2&&exB g.n fun k=>relM g 9 p.1.toNat k&&relM g 2 k p.2.toNat
def atomS (g:Gr):List Int:=match g.rmw.find? (tornS g) with | some p=>[p.1,p.2] | none=>[]
def natsI (l:List Nat):List Int:=l.map fun (x:Nat)=>(x:Int)
def rcAx (g:Gr):Int×List Int:=
 if coh g≠[] then (1,coh g)
 else if atomS g≠[] then (2,atomS g)
 else if cycS g.n (pscM g)≠[] then (3,natsI (cycS g.n (pscM g)))
 else if cycS g.n (thinM g)≠[] then (4,natsI (cycS g.n (thinM g)))
 else (0,[])
theorem cohGo_nil {g:Gr} {a:Nat}:∀ (d b:Nat),cohGo g a d b=[]↔∀ x,b≤x→x<b+d→(hbM g a x&&ecoM g x a)=false
 | 0,b=>by simp [cohGo];omega
 | d+1,b=>by
  unfold cohGo
  by_cases h:(hbM g a b&&ecoM g b a)=true
  ·rw [if_pos h]
   constructor
   ·intro h;cases h
   ·intro h2;rw [h2 b (Nat.le_refl _) (by omega)] at h;cases h
  ·rw [if_neg h,cohGo_nil d (b+1)]
   constructor
   ·intro h2 x h3 h4
    by_cases hx:x=b
    ·subst hx;simpa using h
    ·exact h2 x (by omega) (by omega)
   ·intro h2 x h3 h4;exact h2 x (by omega) (by omega)
theorem cohAt_nil {g:Gr} {a:Nat}:cohAt g a=[]↔hbM g a a=false∧∀ x,x<g.n→(hbM g a x&&ecoM g x a)=false:=by
 unfold cohAt
 cases h:hbM g a a
 ·rw [if_neg (by simp),cohGo_nil]
  constructor
  ·intro h2;exact ⟨rfl,fun x hx=>h2 x (by omega) (by omega)⟩
  ·rintro ⟨-,h2⟩ x - hx;exact h2 x (by omega)
 ·rw [if_pos rfl];simp
theorem cohFrom_nil {g:Gr}:∀ (d a:Nat),cohFrom g d a=[]↔∀ x,a≤x→x<a+d→cohAt g x=[]
 | 0,a=>by simp [cohFrom];omega
 | d+1,a=>by
  unfold cohFrom
  by_cases h:cohAt g a=[]
  ·rw [if_neg (by simp [h]),cohFrom_nil d (a+1)]
   constructor
   ·intro h2 x h3 h4
    by_cases hx:x=a
    ·subst hx;exact h
    ·exact h2 x (by omega) (by omega)
   ·intro h2 x h3 h4;exact h2 x (by omega) (by omega)
  ·rw [if_pos h]
   constructor
   ·intro h2;exact absurd h2 h
   ·intro h2;exact absurd (h2 a (by omega) (by omega)) h
theorem coh_nil {g:Gr}:coh g=[]↔(∀ a,a<g.n→hbM g a a=false)∧∀ a b,a<g.n→b<g.n→hbM g a b=true→ecoM g b a=false:=by
 unfold coh
 rw [cohFrom_nil]
 constructor
 ·intro h
  refine ⟨fun a ha=>(cohAt_nil.1 (h a (by omega) (by omega))).1,fun a b ha hb hh=>?_⟩
  have:=(cohAt_nil.1 (h a (by omega) (by omega))).2 b hb
  rw [hh] at this;simpa using this
 ·rintro ⟨h1,h2⟩ x - hx
  refine cohAt_nil.2 ⟨h1 x (by omega),fun y hy=>?_⟩
  cases hh:hbM g x y
  ·rfl
  ·rw [h2 x y (by omega) hy hh];rfl
theorem atomS_nil {g:Gr}:atomS g=[]↔∀ p∈g.rmw,tornS g p=false:=by
 unfold atomS
 cases hf:g.rmw.find? (tornS g) with
 | none =>
  rw [List.find?_eq_none] at hf
  simp only [true_iff]
  exact fun p hp=>by have:=hf p hp;simpa using this
 | some p =>
  have h3:=List.find?_some hf
  have h4:=List.mem_of_find?_eq_some hf
  simp only []
  constructor
  ·intro h;exact absurd h (by simp)
  ·intro h5;rw [h5 p h4] at h3;cases h3
theorem rcAx_zero {g:Gr}:(rcAx g).1=0↔coh g=[]∧(∀ p∈g.rmw,tornS g p=false)∧cycS g.n (pscM g)=[]∧cycS g.n (thinM g)=[]:=by
 rw [← atomS_nil]
 unfold rcAx
 by_cases h1:coh g=[]
 ·rw [if_neg (by simp [h1])]
  by_cases h2:atomS g=[]
  ·rw [if_neg (by simp [h2])]
   by_cases h3:cycS g.n (pscM g)=[]
   ·rw [if_neg (by simp [h3])]
    by_cases h4:cycS g.n (thinM g)=[]
    ·rw [if_neg (by simp [h4])];simp [h1,h2,h3,h4]
    ·rw [if_pos h4];simp [h4]
   ·rw [if_pos h3];simp [h3]
  ·rw [if_pos h2];simp [h2]
 ·rw [if_pos h1];simp [h1]
end Go.Proofs.Tst
/-
  What RC11's relations keep of any graph (plain).
-/
namespace Go.Proofs.Tst
open Go Go.Vc
theorem sw_spec {g:Gr} {i j:Nat}:swM g i j=true↔relB g i=true∧acrB g j=true∧∃ a,a<g.n∧((isK g 3 i=true∧relM g 0 i a=true)∨i=a)∧∃ b,b<g.n∧rsM g a b=true∧∃ c,c<g.n∧relM g 1 b c=true∧isK g 1 c=true∧((relM g 0 c j=true∧isK g 3 j=true)∨c=j):=by
 unfold swM
 simp only [Bool.and_eq_true,Bool.or_eq_true,exB_true,beq_iff_eq]
 constructor
 ·rintro ⟨⟨h1,a,ha,h2,b,hb,h3,c,hc,⟨h4,h5⟩,h6⟩,h7⟩
  exact ⟨h1,h7,a,ha,h2,b,hb,h3,c,hc,h4,h5,h6⟩
 ·rintro ⟨h1,h7,a,ha,h2,b,hb,h3,c,hc,h4,h5,h6⟩
  exact ⟨⟨h1,a,ha,h2,b,hb,h3,c,hc,⟨h4,h5⟩,h6⟩,h7⟩
theorem rs_spec {g:Gr} {i j:Nat}:rsM g i j=true↔isK g 2 i=true∧∃ m,m<g.n∧(plocM g i m=true∨i=m)∧isK g 2 m=true∧(plusM g.n (rrM g) m j=true∨m=j):=by
 unfold rsM
 simp only [Bool.and_eq_true,Bool.or_eq_true,exB_true,beq_iff_eq]
 constructor
 ·rintro ⟨h1,m,hm,⟨h2,h3⟩,h4⟩;exact ⟨h1,m,hm,h2,h3,h4⟩
 ·rintro ⟨h1,m,hm,h2,h3,h4⟩;exact ⟨h1,m,hm,⟨h2,h3⟩,h4⟩
theorem isK_iff {g:Gr} {k:Int} {i:Nat}:isK g k i=true↔(g.ev i).kind=k:=by unfold isK;simp
theorem isM_iff {g:Gr} {k:Int} {i:Nat}:isM g k i=true↔(g.ev i).mode=k:=by unfold isM;simp
theorem relB_iff {g:Gr} {i:Nat}:relB g i=true↔((g.ev i).kind=2∨(g.ev i).kind=3)∧((g.ev i).mode=3∨(g.ev i).mode=4∨(g.ev i).mode=5):=by
 unfold relB;simp only [Bool.and_eq_true,Bool.or_eq_true,isK_iff,isM_iff,or_assoc]
theorem acrB_iff {g:Gr} {i:Nat}:acrB g i=true↔((g.ev i).kind=1∨(g.ev i).kind=3)∧((g.ev i).mode=2∨(g.ev i).mode=4∨(g.ev i).mode=5):=by
 unfold acrB;simp only [Bool.and_eq_true,Bool.or_eq_true,isK_iff,isM_iff,or_assoc]
theorem src_thread {g:Gr} (h:(g.check false).1=0) {i:Nat} (hi:i<g.n):((g.ev i).thread = -1∧(g.ev i).kind=2∧(g.ev i).mode=1∧(i:Int)<g.cells∧(g.ev i).loc=(i:Int))∨(0≤(g.ev i).thread∧g.cells≤(i:Int)):=by
 obtain ⟨hs,h2,h3,-⟩:=check_zero h
 simp only [Gr.size,Bool.and_eq_true,decide_eq_true_eq] at hs
 by_cases hc:i<g.cells.toNat
 ·have:=firstEv_neg _ _ h2 i (by omega) (by omega)
  simp only [Bool.not_eq_false',beq_iff_eq] at this
  left;rw [this];unfold Gr.first;exact ⟨rfl,rfl,rfl,by omega,rfl⟩
 ·have:=firstEv_neg _ _ h3 i (by omega) (by omega)
  simp only [Bool.not_eq_false'] at this
  unfold Gr.evOk at this
  simp only [Bool.and_eq_true,decide_eq_true_eq] at this
  right;exact ⟨this.1.1.1,by omega⟩
theorem rmw_po {g:Gr} {words:Bool} (h:(g.check words).1=0) {i j:Nat} (hm:relM g 3 i j=true):relM g 0 i j=true:=by
 obtain ⟨-,-,-,-,-,h6,-⟩:=check_zero h
 exact rmw_before h6 (ofM_mem' hm)
theorem ofM_in {n:Nat} {l:List (Int×Int)} {i j:Nat} (h:ofM n l i j=true):i<n∧j<n:=by
 have hm:=ofM_mem' h
 unfold ofM at h
 rw [List.any_eq_true] at h
 obtain ⟨p,hp,h⟩:=h
 simp only [Bool.and_eq_true,beq_iff_eq] at h
 obtain ⟨⟨⟨h1,h2⟩,h3⟩,h4⟩:=h
 unfold inR at h1 h2
 simp only [Bool.and_eq_true,decide_eq_true_eq] at h1 h2
 omega
end Go.Proofs.Tst
/-
  A source graph with weaker modes (plain).
-/
namespace Go.Proofs.Tst
open Go Go.Vc
def wkR (k a b:Int):Prop:=a=b∨(k=1∧(a=1∧(b=2∨b=5)∨a=2∧b=5))∨(k=2∧(a=1∧(b=3∨b=5)∨a=3∧b=5))∨(k≠1∧k≠2∧(b=5∨b=4∧(a=2∨a=3)))
structure WeakR (g h:Gr):Prop where
 len:h.n=g.n
 rf:h.rf=g.rf
 co:h.co=g.co
 rmw:h.rmw=g.rmw
 thr:∀ i,(h.ev i).thread=(g.ev i).thread
 kind:∀ i,(h.ev i).kind=(g.ev i).kind
 loc:∀ i,(h.ev i).loc=(g.ev i).loc
 mode:∀ i,wkR (g.ev i).kind (h.ev i).mode (g.ev i).mode
namespace WeakR
variable {g h : Gr}
theorem before (w:WeakR g h) (a b:Int):h.before a b=g.before a b:=by unfold Gr.before;rw [w.len,w.thr,w.thr]
theorem po (w:WeakR g h):relM h 0=relM g 0:=by funext i j;exact w.before i j
theorem relRf (w:WeakR g h):relM h 1=relM g 1:=by show ofM h.n h.rf=ofM g.n g.rf;rw [w.len,w.rf]
theorem relCo (w:WeakR g h):relM h 2=relM g 2:=by show ofM h.n (coPairs h)=ofM g.n (coPairs g);unfold coPairs;rw [w.len,w.co]
theorem relRmw (w:WeakR g h):relM h 3=relM g 3:=by show ofM h.n h.rmw=ofM g.n g.rmw;rw [w.len,w.rmw]
theorem relSame (w:WeakR g h):relM h 4=relM g 4:=by funext i j;show h.sameM i j=g.sameM i j;unfold Gr.sameM;rw [w.loc,w.loc]
theorem relFr (w:WeakR g h):relM h 9=relM g 9:=by
 show compM h.n (invM (ofM h.n h.rf)) h.n (ofM h.n (coPairs h))=compM g.n (invM (ofM g.n g.rf)) g.n (ofM g.n (coPairs g))
 unfold coPairs;rw [w.len,w.rf,w.co]
theorem isK (w:WeakR g h) (k:Int):Tst.isK h k=Tst.isK g k:=by funext i;unfold Tst.isK;rw [w.kind]
theorem rel (w:WeakR g h) {i:Nat} (hr:relB h i=true):relB g i=true:=by
 have:=w.kind i
 rw [relB_iff] at hr ⊢
 have h2:=w.mode i
 unfold wkR at h2
 omega
theorem acr (w:WeakR g h) {i:Nat} (hr:acrB h i=true):acrB g i=true:=by
 have:=w.kind i
 rw [acrB_iff] at hr ⊢
 have h2:=w.mode i
 unfold wkR at h2
 omega
theorem esc (w:WeakR g h) {i:Nat} (hr:escB h i=true):escB g i=true:=by
 have:=w.kind i
 unfold escB at hr ⊢
 simp only [Bool.and_eq_true,Bool.or_eq_true,isK_iff,isM_iff] at hr ⊢
 have h2:=w.mode i
 unfold wkR at h2
 omega
theorem fsc (w:WeakR g h) {i:Nat} (hr:fscB h i=true):fscB g i=true:=by
 have:=w.kind i
 unfold fscB at hr ⊢
 simp only [Bool.and_eq_true,isK_iff,isM_iff] at hr ⊢
 have h2:=w.mode i
 unfold wkR at h2
 omega
theorem rs (w:WeakR g h):rsM h=rsM g:=by
 have e1:plocM h=plocM g:=by funext i j;unfold plocM;rw [w.po,w.relSame]
 have e2:rrM h=rrM g:=by funext i j;unfold rrM;rw [w.relRf,w.relRmw,w.len]
 funext i j;unfold rsM;rw [w.isK,w.len,e1,e2]
theorem sw (w:WeakR g h) {i j:Nat} (hs:swM h i j=true):swM g i j=true:=by
 obtain ⟨h1,h2,h3⟩:=sw_spec.1 hs
 rw [w.isK,w.isK,w.po,w.rs,w.relRf,w.len] at h3
 exact sw_spec.2 ⟨w.rel h1,w.acr h2,h3⟩
theorem plus_mono {n:Nat} {M N:Nat→Nat→Bool} (hM:∀ i j,i<n→j<n→M i j=true→N i j=true) {i j:Nat} (hi:i<n) (hj:j<n) (h:plusM n M i j=true):plusM n N i j=true:=
 plus_least (N:=fun x y=>plusM n N x y=true) (fun i j hi hj hr=>plus_sub (hM i j hi hj hr)) (fun _ _ _ _ hx _ h1 h2=>plus_trans hx h1 h2) hi hj h
theorem hb (w:WeakR g h) {i j:Nat} (hi:i<g.n) (hj:j<g.n) (hs:hbM h i j=true):hbM g i j=true:=by
 unfold hbM at hs ⊢
 rw [w.len] at hs
 refine plus_mono (fun i j _ _ hr=>?_) hi hj hs
 unfold poswM at hr ⊢
 rw [w.po,Bool.or_eq_true] at hr
 rw [Bool.or_eq_true]
 exact hr.imp id w.sw
theorem eco (w:WeakR g h):ecoM h=ecoM g:=by
 have:comM h=comM g:=by funext i j;unfold comM;rw [w.relRf,w.relCo,w.relFr]
 unfold ecoM;rw [this,w.len]
theorem other (w:WeakR g h):otherM h=otherM g:=by funext i j;unfold otherM;rw [w.po,w.relSame]
theorem scb (w:WeakR g h) {i j:Nat} (hi:i<g.n) (hj:j<g.n) (hs:scbM h i j=true):scbM g i j=true:=by
 unfold scbM at hs ⊢
 rw [w.po,w.relSame,w.relCo,w.relFr,w.other,w.len] at hs
 simp only [Bool.or_eq_true,Bool.and_eq_true,exB_true] at hs ⊢
 rcases hs with (((hs | ⟨a,ha,h1,b,hb',h2,h3⟩) | ⟨h1,h2⟩) | hs) | hs
 ·exact .inl (.inl (.inl (.inl hs)))
 ·exact .inl (.inl (.inl (.inr ⟨a,ha,h1,b,hb',w.hb ha hb' h2,h3⟩)))
 ·exact .inl (.inl (.inr ⟨w.hb hi hj h1,h2⟩))
 ·exact .inl (.inr hs)
 ·exact .inr hs
theorem psc (w:WeakR g h) {i j:Nat} (hi:i<g.n) (hj:j<g.n) (hs:pscM h i j=true):pscM g i j=true:=by
 unfold pscM at hs ⊢
 rw [Bool.or_eq_true] at hs ⊢
 rcases hs with hs | hs
 ·left
  unfold baseM at hs ⊢
  rw [w.len] at hs
  simp only [Bool.and_eq_true,exB_true] at hs ⊢
  obtain ⟨a,ha,h1,b,hb,h2,h3⟩:=hs
  refine ⟨a,ha,?_,b,hb,w.scb ha hb h2,?_⟩
  ·unfold beginM at h1 ⊢
   simp only [Bool.or_eq_true,Bool.and_eq_true,beq_iff_eq] at h1 ⊢
   rcases h1 with ⟨h1,h4⟩ | ⟨h1,h4⟩
   ·exact .inl ⟨h1,w.esc h4⟩
   ·exact .inr ⟨w.fsc h1,h4.imp (w.hb hi ha) id⟩
  ·unfold endM at h3 ⊢
   simp only [Bool.or_eq_true,Bool.and_eq_true,beq_iff_eq] at h3 ⊢
   rcases h3 with ⟨h1,h4⟩ | ⟨h1,h4⟩
   ·exact .inl ⟨h1,w.esc h4⟩
   ·exact .inr ⟨h1.imp (w.hb hb hj) id,w.fsc h4⟩
 ·right
  unfold pscfM at hs ⊢
  simp only [Bool.and_eq_true,Bool.or_eq_true] at hs ⊢
  obtain ⟨⟨h1,h2⟩,h3⟩:=hs
  refine ⟨⟨w.fsc h1,h2.imp (w.hb hi hj) fun h4=>?_⟩,w.fsc h3⟩
  unfold hehM at h4 ⊢
  rw [w.len,w.eco] at h4
  simp only [Bool.and_eq_true,exB_true] at h4 ⊢
  obtain ⟨a,ha,k1,b,hb,k2,k3⟩:=h4
  exact ⟨a,ha,w.hb hi ha k1,b,hb,k2,w.hb hb hj k3⟩
theorem allowed (w:WeakR g h) (ha:(rcAx g).1=0):(rcAx h).1=0:=by
 obtain ⟨h1,h2,h3,h4⟩:=rcAx_zero.1 ha
 obtain ⟨k1,k2⟩:=coh_nil.1 h1
 refine rcAx_zero.2 ⟨coh_nil.2 ⟨fun a ha=>?_,fun a b ha hb hh=>?_⟩,fun p hp=>?_,?_,?_⟩
 ·rw [w.len] at ha
  cases hh:hbM h a a
  ·rfl
  ·exact absurd (w.hb ha ha hh) (by rw [k1 a ha];simp)
 ·rw [w.len] at ha hb
  rw [w.eco];exact k2 a b ha hb (w.hb ha hb hh)
 ·rw [w.rmw] at hp
  have:=h2 p hp
  unfold tornS at this ⊢
  rw [w.len,w.relFr,w.relCo];exact this
 ·rw [w.len]
  exact cyc_acyc.2 (acyc_mono (fun i j hi hj hm=>w.psc hi hj hm) (cyc_acyc.1 h3))
 ·have:thinM h=thinM g:=by funext i j;unfold thinM;rw [w.po,w.relRf]
  rw [w.len,this];exact h4
end WeakR
end Go.Proofs.Tst
/-
  Graphs that differ by the numbers of their events alone (plain).
-/
namespace Go.Proofs.Tst
open Go Go.Vc
structure Iso (n:Nat) (s t:Nat→Nat):Prop where
 ls:∀ k,k<n→s k<n
 lt:∀ k,k<n→t k<n
 st:∀ k,k<n→s (t k)=k
 ts:∀ k,k<n→t (s k)=k
section
variable {n : Nat} {s t : Nat → Nat}
theorem Iso.inj (I:Iso n s t) {i j:Nat} (hi:i<n) (hj:j<n):(s i==s j)=(i==j):=by
 rw [Bool.eq_iff_iff,beq_iff_eq,beq_iff_eq]
 exact ⟨fun h=>by rw [← I.ts i hi,← I.ts j hj,h],fun h=>by rw [h]⟩
theorem Iso.exB (I:Iso n s t) {f f':Nat→Bool} (h:∀ k,k<n→f' (s k)=f k):Tst.exB n f'=Tst.exB n f:=by
 rw [Bool.eq_iff_iff,exB_true,exB_true]
 constructor
 ·rintro ⟨k,hk,hf⟩
  exact ⟨t k,I.lt k hk,by rw [← h _ (I.lt k hk),I.st k hk];exact hf⟩
 ·rintro ⟨k,hk,hf⟩
  exact ⟨s k,I.ls k hk,by rw [h k hk];exact hf⟩
def SameR (n:Nat) (s:Nat→Nat) (M' M:Nat→Nat→Bool):Prop:=∀ i j,i<n→j<n→M' (s i) (s j)=M i j
def SameB (n:Nat) (s:Nat→Nat) (f' f:Nat→Bool):Prop:=∀ i,i<n→f' (s i)=f i
theorem Iso.plus (I:Iso n s t) {M M':Nat→Nat→Bool} (h:SameR n s M' M):SameR n s (plusM n M') (plusM n M):=by
 intro i j hi hj
 rw [Bool.eq_iff_iff]
 constructor
 ·intro hp
  have:=plus_least (n:=n) (M:=M') (N:=fun x y=>plusM n M (t x) (t y)=true) (fun x y hx hy hm=>plus_sub (by
   rw [← h _ _ (I.lt x hx) (I.lt y hy),I.st x hx,I.st y hy];exact hm)) (fun _ x _ _ hx _ h1 h2=>plus_trans (I.lt x hx) h1 h2) (I.ls i hi) (I.ls j hj) hp
  rw [I.ts i hi,I.ts j hj] at this;exact this
 ·intro hp
  exact plus_least (n:=n) (M:=M) (N:=fun x y=>plusM n M' (s x) (s y)=true) (fun x y hx hy hm=>plus_sub (by rw [h x y hx hy];exact hm)) (fun _ x _ _ hx _ h1 h2=>plus_trans (I.ls x hx) h1 h2) hi hj hp
theorem Iso.cyc (I:Iso n s t) {M M':Nat→Nat→Bool} (h:SameR n s M' M):cycS n M'=[]↔cycS n M=[]:=by
 rw [cyc_acyc,cyc_acyc]
 unfold irrB
 rw [List.all_eq_true,List.all_eq_true]
 have hp:=I.plus h
 constructor
 ·intro hh i hi
  rw [← hp i i (List.mem_range.1 hi) (List.mem_range.1 hi)]
  exact hh _ (List.mem_range.2 (I.ls i (List.mem_range.1 hi)))
 ·intro hh i hi
  have hi:=List.mem_range.1 hi
  have:=hp (t i) (t i) (I.lt i hi) (I.lt i hi)
  rw [I.st i hi] at this
  rw [this]
  exact hh _ (List.mem_range.2 (I.lt i hi))
end
structure GIso (g h:Gr) (s t:Nat→Nat):Prop where
 n:h.n=g.n
 iso:Iso g.n s t
 r0:SameR g.n s (relM h 0) (relM g 0)
 r1:SameR g.n s (relM h 1) (relM g 1)
 r2:SameR g.n s (relM h 2) (relM g 2)
 r3:SameR g.n s (relM h 3) (relM g 3)
 r4:SameR g.n s (relM h 4) (relM g 4)
 kind:∀ i,i<g.n→(h.ev (s i)).kind=(g.ev i).kind
 mode:∀ i,i<g.n→(h.ev (s i)).mode=(g.ev i).mode
 rmw:∀ p:Int×Int,p∈h.rmw↔∃ a b:Nat,a<g.n∧b<g.n∧((a:Int),(b:Int))∈g.rmw∧p=((s a:Int),(s b:Int))
 rmwN:∀ p∈g.rmw,∃ a b:Nat,p=((a:Int),(b:Int))∧a<g.n∧b<g.n
namespace GIso
variable {g h : Gr} {s t : Nat → Nat}
theorem isK (w:GIso g h s t) (k:Int):SameB g.n s (Tst.isK h k) (Tst.isK g k):=fun i hi=>by unfold Tst.isK;rw [w.kind i hi]
theorem isM (w:GIso g h s t) (k:Int):SameB g.n s (Tst.isM h k) (Tst.isM g k):=fun i hi=>by unfold Tst.isM;rw [w.mode i hi]
theorem r9 (w:GIso g h s t):SameR g.n s (relM h 9) (relM g 9):=fun i j hi hj=>by
 show compM h.n (invM (relM h 1)) h.n (relM h 2) (s i) (s j)=compM g.n (invM (relM g 1)) g.n (relM g 2) i j
 rw [w.n]
 have e1:∀ (A B:Nat→Nat→Bool) (x y:Nat),x<g.n→y<g.n→compM g.n A g.n B x y=exB g.n fun k=>A x k&&B k y:=fun A B x y hx hy=>by
  show exB g.n (fun k=>inN g.n A x k&&inN g.n B k y)=_
  unfold exB
  rw [Bool.eq_iff_iff,List.any_eq_true,List.any_eq_true]
  exact ⟨fun ⟨k,hk,e⟩=>⟨k,hk,by rw [inN_in hx (List.mem_range.1 hk),inN_in (List.mem_range.1 hk) hy] at e;exact e⟩,fun ⟨k,hk,e⟩=>⟨k,hk,by rw [inN_in hx (List.mem_range.1 hk),inN_in (List.mem_range.1 hk) hy];exact e⟩⟩
 rw [e1 _ _ _ _ (w.iso.ls i hi) (w.iso.ls j hj),e1 _ _ _ _ hi hj]
 exact w.iso.exB fun k hk=>by
  show (relM h 1 (s k) (s i)&&relM h 2 (s k) (s j))=(relM g 1 k i&&relM g 2 k j)
  rw [w.r1 k i hk hi,w.r2 k j hk hj]
theorem rs (w:GIso g h s t):SameR g.n s (rsM h) (rsM g):=fun i j hi hj=>by
 have e1:SameR g.n s (rrM h) (rrM g):=fun a b ha hb=>by
  unfold rrM;rw [w.n]
  exact w.iso.exB fun k hk=>by rw [w.r1 a k ha hk,w.r3 k b hk hb]
 have e2:=w.iso.plus e1
 unfold rsM
 rw [w.n,w.isK 2 i hi]
 congr 1
 exact w.iso.exB fun k hk=>by
  unfold plocM
  rw [w.r0 i k hi hk,w.r4 i k hi hk,w.iso.inj hi hk,w.isK 2 k hk,e2 k j hk hj,w.iso.inj hk hj]
theorem sw (w:GIso g h s t):SameR g.n s (swM h) (swM g):=fun i j hi hj=>by
 have er:relB h (s i)=relB g i:=by unfold relB;rw [w.isK 2 i hi,w.isK 3 i hi,w.isM 3 i hi,w.isM 4 i hi,w.isM 5 i hi]
 have ea:acrB h (s j)=acrB g j:=by unfold acrB;rw [w.isK 1 j hj,w.isK 3 j hj,w.isM 2 j hj,w.isM 4 j hj,w.isM 5 j hj]
 unfold swM
 rw [er,ea,w.n]
 congr 2
 exact w.iso.exB fun a ha=>by
  rw [w.isK 3 i hi,w.r0 i a hi ha,w.iso.inj hi ha]
  congr 1
  exact w.iso.exB fun b hb=>by
   rw [w.rs a b ha hb]
   congr 1
   exact w.iso.exB fun c hc=>by
    rw [w.r1 b c hb hc,w.isK 1 c hc,w.r0 c j hc hj,w.isK 3 j hj,w.iso.inj hc hj]
theorem hb (w:GIso g h s t):SameR g.n s (hbM h) (hbM g):=by
 unfold hbM;rw [w.n]
 exact w.iso.plus fun i j hi hj=>by unfold poswM;rw [w.r0 i j hi hj,w.sw i j hi hj]
theorem eco (w:GIso g h s t):SameR g.n s (ecoM h) (ecoM g):=by
 unfold ecoM;rw [w.n]
 exact w.iso.plus fun i j hi hj=>by unfold comM;rw [w.r1 i j hi hj,w.r2 i j hi hj,w.r9 i j hi hj]
theorem scb (w:GIso g h s t):SameR g.n s (scbM h) (scbM g):=fun i j hi hj=>by
 unfold scbM
 rw [w.r0 i j hi hj,w.r2 i j hi hj,w.r9 i j hi hj,w.hb i j hi hj,w.r4 i j hi hj,w.n]
 congr 4
 exact w.iso.exB fun a ha=>by
  unfold otherM
  rw [w.r0 i a hi ha,w.r4 i a hi ha]
  congr 1
  exact w.iso.exB fun b hb=>by rw [w.hb a b ha hb,w.r0 b j hb hj,w.r4 b j hb hj]
theorem esc (w:GIso g h s t):SameB g.n s (escB h) (escB g):=fun i hi=>by unfold escB;rw [w.isM 5 i hi,w.isK 1 i hi,w.isK 2 i hi]
theorem fsc (w:GIso g h s t):SameB g.n s (fscB h) (fscB g):=fun i hi=>by unfold fscB;rw [w.isM 5 i hi,w.isK 3 i hi]
theorem psc (w:GIso g h s t):SameR g.n s (pscM h) (pscM g):=fun i j hi hj=>by
 unfold pscM
 congr 1
 ·unfold baseM
  rw [w.n]
  exact w.iso.exB fun a ha=>by
   unfold beginM
   rw [w.iso.inj hi ha,w.esc i hi,w.fsc i hi,w.hb i a hi ha]
   congr 1
   exact w.iso.exB fun b hb=>by
    unfold endM
    rw [w.scb a b ha hb,w.iso.inj hb hj,w.esc b hb,w.hb b j hb hj,w.fsc j hj]
 ·unfold pscfM hehM
  rw [w.fsc i hi,w.hb i j hi hj,w.fsc j hj,w.n]
  congr 3
  exact w.iso.exB fun a ha=>by
   rw [w.hb i a hi ha]
   congr 1
   exact w.iso.exB fun b hb=>by rw [w.eco a b ha hb,w.hb b j hb hj]
theorem coh (w:GIso g h s t):coh h=[]↔coh g=[]:=by
 rw [coh_nil,coh_nil,w.n]
 have hh:=w.hb;have he:=w.eco
 constructor
 ·rintro ⟨h1,h2⟩
  exact ⟨fun a ha=>by rw [← hh a a ha ha];exact h1 _ (w.iso.ls a ha),fun a b ha hb hx=>by rw [← he b a hb ha];exact h2 _ _ (w.iso.ls a ha) (w.iso.ls b hb) (by rw [hh a b ha hb];exact hx)⟩
 ·rintro ⟨h1,h2⟩
  refine ⟨fun a ha=>?_,fun a b ha hb hx=>?_⟩
  ·have:=hh (t a) (t a) (w.iso.lt a ha) (w.iso.lt a ha)
   rw [w.iso.st a ha] at this;rw [this];exact h1 _ (w.iso.lt a ha)
  ·have e1:=hh (t a) (t b) (w.iso.lt a ha) (w.iso.lt b hb)
   have e2:=he (t b) (t a) (w.iso.lt b hb) (w.iso.lt a ha)
   rw [w.iso.st a ha,w.iso.st b hb] at e1 e2
   rw [e2];exact h2 _ _ (w.iso.lt a ha) (w.iso.lt b hb) (by rw [← e1];exact hx)
theorem torn (w:GIso g h s t) {a b:Nat} (ha:a<g.n) (hb:b<g.n):tornS h ((s a:Int),(s b:Int))=tornS g ((a:Int),(b:Int)):=by
 have i1:∀ x:Nat,x<g.n→inR g.n (x:Int)=true:=fun x hx=>by unfold inR;simp;omega
 unfold tornS
 rw [w.n,i1 _ (w.iso.ls a ha),i1 _ (w.iso.ls b hb),i1 _ ha,i1 _ hb]
 simp only [Int.toNat_natCast,Bool.true_and]
 exact w.iso.exB fun k hk=>by rw [w.r9 a k ha hk,w.r2 k b hk hb]
theorem atom (w:GIso g h s t):atomS h=[]↔atomS g=[]:=by
 rw [atomS_nil,atomS_nil]
 constructor
 ·intro h1 p hp
  obtain ⟨a,b,rfl,ha,hb⟩:=w.rmwN p hp
  rw [← w.torn ha hb]
  exact h1 _ ((w.rmw _).2 ⟨a,b,ha,hb,hp,rfl⟩)
 ·intro h1 p hp
  obtain ⟨a,b,ha,hb,hm,rfl⟩:=(w.rmw p).1 hp
  rw [w.torn ha hb];exact h1 _ hm
theorem verdict (w:GIso g h s t):(rcAx h).1=(rcAx g).1:=by
 have c1:=w.coh
 have c2:=w.atom
 have c3:cycS h.n (pscM h)=[]↔cycS g.n (pscM g)=[]:=by rw [w.n];exact w.iso.cyc w.psc
 have c4:cycS h.n (thinM h)=[]↔cycS g.n (thinM g)=[]:=by rw [w.n];exact w.iso.cyc fun i j hi hj=>by unfold thinM;rw [w.r0 i j hi hj,w.r1 i j hi hj]
 unfold rcAx
 by_cases h1:Tst.coh g=[]
 ·rw [if_neg (not_not_intro (c1.2 h1)),if_neg (not_not_intro h1)]
  by_cases h2:atomS g=[]
  ·rw [if_neg (not_not_intro (c2.2 h2)),if_neg (not_not_intro h2)]
   by_cases h3:cycS g.n (pscM g)=[]
   ·rw [if_neg (not_not_intro (c3.2 h3)),if_neg (not_not_intro h3)]
    by_cases h4:cycS g.n (thinM g)=[]
    ·rw [if_neg (not_not_intro (c4.2 h4)),if_neg (not_not_intro h4)]
    ·rw [if_pos (show cycS h.n (thinM h)≠[] from fun h=>h4 (c4.1 h)),if_pos h4]
   ·rw [if_pos (show cycS h.n (pscM h)≠[] from fun h=>h3 (c3.1 h)),if_pos h3]
  ·rw [if_pos (show atomS h≠[] from fun h=>h2 (c2.1 h)),if_pos h2]
 ·rw [if_pos (show Tst.coh h≠[] from fun h=>h1 (c1.1 h)),if_pos h1]
end GIso
end Go.Proofs.Tst
/-
  What makes a graph well-formed, said of all its lists at once (plain).
-/
namespace Go.Proofs.Tst
open Go Go.Vc
def rfOk (g:Gr) (p:Int×Int):Bool:=g.is p.1 2&&(g.ev p.1.toNat).loc==(g.ev p.2.toNat).loc&&(g.ev p.1.toNat).val==(g.ev p.2.toNat).val
def readsFrom (g:Gr) (r d:Nat):List Int:=((List.range' r d).filter fun i=>(g.ev i).kind==1).map fun (i:Nat)=>(i:Int)
theorem rfGo_iff {g:Gr}:∀ (d r k:Nat),r+d=g.n→k≤g.rf.length→(¬ 0≤g.rfGo d r k↔(g.rf.drop k).map (·.2)=readsFrom g r d∧∀ p∈g.rf.drop k,rfOk g p=true)
 | 0,r,k,hr,hk=>by
  unfold Gr.rfGo
  by_cases h:k<g.rf.length
  ·rw [if_pos h]
   constructor
   ·intro h';omega
   ·rintro ⟨h',-⟩
    have:(g.rf.drop k).length=0:=by
     have:=congrArg List.length h'
     simpa [readsFrom] using this
    rw [List.length_drop] at this;omega
  ·rw [if_neg h,List.drop_eq_nil_of_le (by omega)]
   simp [readsFrom]
 | d+1,r,k,hr,hk=>by
  have hrs:readsFrom g r (d+1)=(if (g.ev r).kind=1 then [(r:Int)] else [])++readsFrom g (r+1) d:=by
   unfold readsFrom
   rw [List.range'_succ,List.filter_cons]
   by_cases h:(g.ev r).kind=1
   ·rw [if_pos h,if_pos (by simpa using h)];rfl
   ·rw [if_neg h,if_neg (by simpa using h)];rfl
  rw [hrs]
  by_cases hkd:(g.ev r).kind=1
  ·rw [if_pos hkd]
   by_cases hkl:k<g.rf.length
   ·have hq:g.rf[k]?=some g.rf[k]:=List.getElem?_eq_getElem hkl
    have hdr:g.rf.drop k=g.rf[k] :: g.rf.drop (k+1):=List.drop_eq_getElem_cons hkl
    generalize g.rf[k]=p at hq hdr
    rw [hdr]
    cases hb:g.rfBad r k
    ·rw [rfGo_ok hkd hb,rfGo_iff d (r+1) (k+1) (by omega) (by omega)]
     unfold Gr.rfBad at hb
     rw [hq] at hb
     simp only [Bool.or_eq_false_iff,Bool.not_eq_false',beq_iff_eq] at hb
     obtain ⟨⟨⟨hb1,hb2⟩,hb3⟩,hb4⟩:=hb
     have hok:rfOk g p=true:=by
      unfold rfOk
      rw [hb2,hb1,Int.toNat_natCast,hb3,hb4];simp
     constructor
     ·rintro ⟨h1,h2⟩
      refine ⟨by simp [hb1,h1],fun q hq'=>?_⟩
      rcases List.mem_cons.1 hq' with rfl | hq'
      ·exact hok
      ·exact h2 q hq'
     ·rintro ⟨h1,h2⟩
      refine ⟨?_,fun q hq'=>h2 q (List.mem_cons_of_mem _ hq')⟩
      simp only [List.map_cons,List.cons_append,List.nil_append,List.cons.injEq] at h1
      exact h1.2
    ·rw [rfGo_bad hkd hb]
     constructor
     ·intro h';omega
     ·rintro ⟨h1,h2⟩
      exfalso
      simp only [List.map_cons,List.cons_append,List.nil_append,List.cons.injEq] at h1
      have hok:=h2 p (List.mem_cons_self)
      unfold rfOk at hok
      rw [h1.1,Int.toNat_natCast] at hok
      simp only [Bool.and_eq_true,beq_iff_eq] at hok
      unfold Gr.rfBad at hb
      rw [hq] at hb
      simp only at hb
      rw [h1.1,hok.1.1,hok.1.2,hok.2] at hb
      simp at hb
   ·have hb:g.rfBad r k=true:=by unfold Gr.rfBad;rw [List.getElem?_eq_none (by omega)]
    rw [rfGo_bad hkd hb,List.drop_eq_nil_of_le (by omega)]
    constructor
    ·intro h';omega
    ·rintro ⟨h1,-⟩;simp at h1
  ·rw [if_neg hkd,rfGo_skip hkd,rfGo_iff d (r+1) k (by omega) hk];rfl
theorem rf_iff {g:Gr}:¬ 0≤g.rfAt↔g.rf.map (·.2)=readsFrom g 0 g.n∧∀ p∈g.rf,rfOk g p=true:=by
 unfold Gr.rfAt
 have:=rfGo_iff (g:=g) g.n 0 0 (by omega) (by omega)
 rw [List.drop_zero] at this;exact this
def rmwOk (g:Gr) (p:Int×Int):Bool:=g.is p.1 1&&g.is p.2 2&&g.isNext p.1 p.2&&(g.ev p.1.toNat).loc==(g.ev p.2.toNat).loc
theorem rises1 {l:List (Int×Int)}:(∀ (i:Nat) (p q:Int×Int),l[i]?=some p→l[i+1]?=some q→p.1<q.1)↔l.Pairwise fun p q=>p.1<q.1:=by
 constructor
 ·intro h
  induction l with
  | nil=>exact List.Pairwise.nil
  | cons p l ih =>
   have ih:=ih fun i a b ha hb=>h (i+1) a b (by simpa using ha) (by simpa using hb)
   refine List.Pairwise.cons (fun x hx=>?_) ih
   cases l with
   | nil=>cases hx
   | cons q l =>
    have h0:=h 0 p q rfl rfl
    rcases List.mem_cons.1 hx with rfl | hx
    ·exact h0
    ·have:=(List.pairwise_cons.1 ih).1 x hx;omega
 ·intro h i p q hp hq
  obtain ⟨h1,e1⟩:=List.getElem?_eq_some_iff.1 hp
  obtain ⟨h2,e2⟩:=List.getElem?_eq_some_iff.1 hq
  have:=List.pairwise_iff_getElem.1 h i (i+1) h1 h2 (by omega)
  rw [e1,e2] at this;exact this
theorem rmw_iff {g:Gr}:¬ 0≤g.rmwAt↔(g.rmw.Pairwise fun p q=>p.1<q.1)∧∀ p∈g.rmw,rmwOk g p=true:=by
 unfold Gr.rmwAt
 constructor
 ·intro h
  have hb:=firstBad_get h
  refine ⟨rises1.1 fun i p q hp hq=>?_,fun p hp=>?_⟩
  ·have:=hb (i+1) q hq
   unfold Gr.rmwBad at this
   simp only [Bool.or_eq_false_iff,Bool.and_eq_false_imp,decide_eq_true_eq] at this
   have h1:=this.1.1.1.1 (by omega)
   rw [Nat.zero_add,Nat.add_sub_cancel,List.getD_eq_getElem?_getD,hp,Option.getD_some] at h1
   simp only [decide_eq_false_iff_not] at h1
   omega
  ·obtain ⟨j,hj⟩:=List.mem_iff_getElem?.1 hp
   have:=hb j p hj
   unfold Gr.rmwBad at this
   simp only [Bool.or_eq_false_iff,Bool.not_eq_false'] at this
   unfold rmwOk
   rw [this.1.1.1.2,this.1.1.2,this.1.2,this.2];rfl
 ·rintro ⟨hr,hp⟩
  refine firstBad_none fun j p hj=>?_
  have hok:=hp p (List.mem_of_getElem? hj)
  unfold rmwOk at hok
  simp only [Bool.and_eq_true] at hok
  unfold Gr.rmwBad
  rw [hok.1.1.1,hok.1.1.2,hok.1.2,hok.2]
  simp only [Bool.not_true,Bool.or_false]
  by_cases h0:0<0+j
  ·obtain ⟨i,rfl⟩:∃ i,j=i+1:=⟨j - 1,by omega⟩
   have hlt:=(List.getElem?_eq_some_iff.1 hj).1
   have hi:g.rmw[i]?=some g.rmw[i]:=List.getElem?_eq_getElem (by omega)
   have:=rises1.2 hr i _ _ hi hj
   rw [Nat.zero_add,Nat.add_sub_cancel,List.getD_eq_getElem?_getD,hi,Option.getD_some]
   have e1:decide (p.1≤g.rmw[i].1)=false:=by simp;omega
   rw [e1];simp
  ·have:decide (0<0+j)=false:=by simpa using h0
   rw [this];rfl
theorem co_iff {g:Gr}:¬ 0≤g.coAt↔(g.co.length:Int)=g.cells∧∀ c,c<g.co.length→g.coBad c (g.co.getD c [])=false:=by
 unfold Gr.coAt
 constructor
 ·intro h
  have hlen:(g.co.length:Int)=g.cells:=by
   apply Classical.byContradiction;intro hne
   rw [if_pos (.inr hne)] at h;omega
  refine ⟨hlen,fun c hc=>?_⟩
  have hls:g.lists=g.co.length:=by unfold Gr.lists;omega
  have hf:¬ g.coFirst<g.lists:=fun hlt=>by rw [if_pos (.inl hlt)] at h;omega
  cases hb:g.coBad c (g.co.getD c [])
  ·rfl
  ·exfalso
   apply hf
   unfold Gr.coFirst
   cases hfd:(List.range g.lists).find? (fun c=>g.coBad c (g.co.getD c [])) with
   | none =>
    rw [List.find?_eq_none] at hfd
    exact absurd hb (hfd c (List.mem_range.2 (by omega)))
   | some u =>
    have:=List.mem_of_find?_eq_some hfd
    rw [List.mem_range] at this
    exact this
 ·rintro ⟨h1,h2⟩
  have hls:g.lists=g.co.length:=by unfold Gr.lists;omega
  have hf:(List.range g.lists).find? (fun c=>g.coBad c (g.co.getD c []))=none:=by
   rw [List.find?_eq_none]
   intro c hc
   rw [h2 c (by have:=List.mem_range.1 hc;omega)];simp
  have hcf:g.coFirst=g.lists:=by unfold Gr.coFirst;rw [hf];rfl
  rw [if_neg (by rw [hcf];omega)];omega
theorem dep_src {g:Gr} {l:List (Int×Int)} {f:Int→Bool}:¬ 0≤g.depAt false l f↔l=[]:=by
 unfold Gr.depAt
 constructor
 ·intro h
  cases l with
  | nil=>rfl
  | cons p l =>
   have:=firstBad_get h 0 p rfl
   unfold Gr.depBad at this
   simp at this
 ·rintro rfl;unfold Gr.firstBad;omega
theorem check_iff {g:Gr} {words:Bool}:(g.check words).1=0↔g.size=true∧¬ 0≤g.initAt words∧¬ 0≤g.evAt words∧¬ 0≤g.rfAt∧¬ 0≤g.coAt∧¬ 0≤g.rmwAt ∧
  ¬ 0≤g.depAt words g.addr (fun k=>k==1||k==2)∧¬ 0≤g.depAt words g.data (fun k=>k==2)∧¬ 0≤g.depAt words g.ctrl (fun k=>k==1||k==2||k==3):=by
 refine ⟨check_zero,?_⟩
 rintro ⟨h1,h2,h3,h4,h5,h6,h7,h8,h9⟩
 unfold Gr.check
 rw [h1,if_neg (by simp),if_neg h2,if_neg h3,if_neg h4,if_neg h5,if_neg h6,if_neg h7,if_neg h8,if_neg h9]
end Go.Proofs.Tst
/-
  Is a relation of the program's the document's?
-/
namespace Go.Proofs.Tst
open Go Go.Vc
end Go.Proofs.Tst
/-
  Changed graphs in memory.
-/
namespace Go.Proofs.Tst
open Go Go.Vc
theorem rlc_rl {h:Heap} {v:Value} {L:List (List Value)} (t:RLc h v L):RL h v L:=by
 obtain ⟨us,h1,h2⟩:=t
 exact ⟨us,h1,fun i l hl=>by obtain ⟨a,c,h3,-,h5⟩:=h2 i l hl;exact ⟨_,h3,h5⟩⟩
end Go.Proofs.Tst
/-
  The document's relations of a graph.
-/
namespace Go.Proofs.Tst
open Go Go.Vc
end Go.Proofs.Tst
/-
  GraphLaws.
-/
namespace Go.Proofs.Tst
open Go Go.Vc
theorem bools_at {h:Heap} {a:Option Addr} {n c:Nat} {l:List Bool} (w:Rd 1 h (.slice a n c) n (boolsV l)) (hn:0<n):∃ b o,a=some ⟨b,o,none⟩∧∀ h',Fr 0 0 h h'→∀ i x,l[i]?=some x→hcell h' b (o+i)=some (.bool x):=by
 obtain ⟨hl,a',c',k1,k2⟩:=w
 cases k1
 rcases k2 with k2 | ⟨b,o,k3,k4⟩
 ·omega
 ·exact ⟨b,o,k3,fun h' f i x hx=>f.keep (k4 i _ (boolsV_get hx)) (by omega)⟩
theorem kindsV_get {g:Gr} {k:Int} {i:Nat} (hi:i<g.n):(kindsV g k g.n)[i]?=some ((g.ev i).kind==k):=by
 unfold kindsV
 rw [List.getElem?_map,List.getElem?_take_of_lt hi,Gr.ev_get hi];rfl
end Go.Proofs.Tst
/-
  whole: are facts the document's?
-/
namespace Go.Proofs.Tst
open Go Go.Vc
def tV (v:Value):Tell:=tell1 fun u _ _ _=>u=v
theorem stV (v:Value):Stab (tV v):=Stab.one fun _ _ _ _ _ _ t=>t
end Go.Proofs.Tst
/-
  GraphDerives.
-/
namespace Go.Proofs.Tst
open Go Go.Vc
theorem FactsAt.fr {h h':Heap} {lo l r:Nat} {p:Nat→Value} {rd wr fe:Value} {g:Gr} (F:FactsAt h lo p rd wr fe g) (f:Fr l r h h') (hd:r≤lo):FactsAt h' lo p rd wr fe g:=by
 obtain ⟨A,B,D,dlo,dap⟩:=F.rel
 have a1:=F.hrd.at_
 have a2:=F.hwr.at_
 have a3:=F.hfe.at_
 have fz:=f.size
 exact ⟨F.n,⟨A,B,D.fr f (fun k hk=>by have:=dlo k hk;omega),fun k hk=>by have:=dlo k hk;omega,dap⟩,F.hrd.fr f (by omega),F.hwr.fr f (by omega),F.hfe.fr f (by omega),F.off⟩
end Go.Proofs.Tst
/-
  Events changed in place.
-/
namespace Go.Proofs.Tst
open Go Go.Vc
def setMode (E:List Ev) (i:Nat) (m:Int):List Ev:=E.set i { E.getD i default with mode:=m }
@[simp] theorem length_setMode {E:List Ev} {i:Nat} {m:Int}:(setMode E i m).length=E.length:=by simp [setMode]
theorem evsV_setMode:∀ {E:List Ev} {i:Nat} {m:Int},i<E.length→(evsV E).set (i * 5+4) (.int .i64 m)=evsV (setMode E i m)
 | [],i,_,h=>by simp at h
 | e :: E,0,m,_=>rfl
 | e :: E,i+1,m,h=>by
  have ih:=evsV_setMode (E:=E) (i:=i) (m:=m) (by simpa using h)
  have h1:setMode (e :: E) (i+1) m=e :: setMode E i m:=by simp [setMode]
  have h2:e.cells.length=5:=rfl
  rw [h1,evsV_cons,evsV_cons,← ih,List.set_append_right _ _ (by omega),h2]
  congr 2;omega
theorem putAt_right {a:List Value}:∀ (ws r:List Value) (o:Nat),putAt (a++r) (a.length+o) ws=a++putAt r o ws
 | [],_,_=>rfl
 | v :: ws,r,o=>by
  show putAt ((a++r).set (a.length+o) v) (a.length+o+1) ws=a++putAt (r.set o v) (o+1) ws
  rw [List.set_append_right _ _ (by omega),Nat.add_sub_cancel_left,Nat.add_assoc]
  exact putAt_right ws _ _
theorem putAt_left {r:List Value}:∀ (ws a:List Value) (o:Nat),o+ws.length≤a.length→putAt (a++r) o ws=putAt a o ws++r
 | [],_,_,_=>rfl
 | v :: ws,a,o,h=>by
  show putAt ((a++r).set o v) (o+1) ws=putAt (a.set o v) (o+1) ws++r
  simp at h
  rw [List.set_append_left _ _ (by omega)]
  exact putAt_left ws _ _ (by simp;omega)
theorem evsV_put:∀ {E:List Ev} {i:Nat} {e:Ev},i<E.length→putAt (evsV E) (i * 5) e.cells=evsV (E.set i e)
 | [],i,_,h=>by simp at h
 | x :: E,0,e,_=>rfl
 | x :: E,i+1,e,h=>by
  have ih:=evsV_put (E:=E) (i:=i) (e:=e) (by simpa using h)
  have h2:(i+1) * 5=x.cells.length+i * 5:=by show _=5 + _;omega
  rw [List.set_cons_succ,evsV_cons,evsV_cons,← ih,h2]
  exact putAt_right _ _ _
theorem holder_ev {h:Heap} {b n c lo:Nat} {E:List Ev} (w:Holder 5 h (.slice (some ⟨b,0,none⟩) n c) n (evsV E) lo) {i:Nat} (hi:i<n) :
  Wr h b (i * 5+4) 1∧Wr h b (i * 5) 5∧(∀ h' m,Sto h h' b (i * 5+4) [.int .i64 m]→Holder 5 h' (.slice (some ⟨b,0,none⟩) n c) n (evsV (setMode E i m)) lo)∧∀ h' e,Sto h h' b (i * 5) e.cells→Holder 5 h' (.slice (some ⟨b,0,none⟩) n c) n (evsV (E.set i e)) lo:=by
 have hl:=w.1
 rw [length_evsV] at hl
 have hE:i<E.length:=by omega
 obtain ⟨b',c',rest,h1,h2,h3,h4⟩:=w.blk (by omega)
 cases h1
 refine ⟨h2.wr (by simp;omega),h2.wr (by simp;omega),fun h' m s=>⟨by simp;omega,.inr ⟨b,c,rest,rfl,?_,h3,h4⟩⟩,fun h' e s=>⟨by simp;omega,.inr ⟨b,c,rest,rfl,?_,h3,h4⟩⟩⟩
 ·have:=s.row h2
  rw [putAt_one,List.set_append_left _ _ (by simp;omega),evsV_setMode hE] at this
  exact this
 ·have:=s.row h2
  rw [putAt_left _ _ _ (by simp [Ev.cells];omega),evsV_put hE] at this
  exact this
section
variable {h h' : Heap} {q : GV} {g : Gr} {lo : Nat}
theorem GrOwn.evs' {E':List Ev} {b:Nat} (w:GrOwn h q g lo) (f:Fr b (b+1) h h') (hb:q.e=some ⟨b,0,none⟩) (hl:E'.length=g.evs.length) (he:Holder 5 h' (.slice (some ⟨b,0,none⟩) g.evs.length q.ec) g.evs.length (evsV E') lo) :
  GrOwn h' q { g with evs:=E' } lo:=by
 obtain ⟨us,o1,o2,o3⟩:=w.o
 have lb:bl (.slice q.e g.evs.length q.ec)=b∧bh (.slice q.e g.evs.length q.ec)=b+1:=by rw [hb];exact ⟨rfl,rfl⟩
 have key:∀ x,Off (.slice q.e g.evs.length q.ec) x→bh x≤b∨b+1≤bl x∨b+1≤b:=fun x hx=>by
  unfold Off at hx
  have:=bh_bl x
  omega
 have ha:Away b (b+1) (.slice q.o g.co.length q.oc) us:=fun x hx=>key x (o3 x hx _ (by simp)).symm
 have hw:=w.off
 refine ⟨?_,w.f.fr f (key _ (hw _ (by simp))),⟨us,o1.fr f ha,o2,?_⟩,w.r.fr f (key _ (hw _ (by simp))),w.a.fr f (key _ (hw _ (by simp))),w.d.fr f (key _ (hw _ (by simp))),w.c.fr f (key _ (hw _ (by simp))),?_,⟨?_,w.fits.f,w.fits.o,w.fits.r,w.fits.a,w.fits.d,w.fits.c,w.fits.l⟩⟩
 ·dsimp only;rw [hl,hb];exact he
 ·dsimp only;rw [hl];exact o3
 ·dsimp only;rw [hl];exact hw
 ·dsimp only;rw [hl];exact w.fits.e
theorem GrOwn.fr {l r:Nat} (w:GrOwn h q g lo) (f:Fr l r h h') (hd:r≤lo∨h.size≤l∨r≤l):GrOwn h' q g lo:=by
 obtain ⟨us,o1,o2,o3⟩:=w.o
 have k:∀ {s n:Nat} {v:Value} {xs:List Value},Holder s h v n xs lo→Holder s h' v n xs lo:=fun o=>o.fr f (by have:=o.at_;have:=o.top;omega)
 refine ⟨k w.e,k w.f,⟨us,o1.fr f ?_,o2,o3⟩,k w.r,k w.a,k w.d,k w.c,w.off,w.fits⟩
 rcases hd with hd | hd | hd
 ·exact o1.below hd
 ·exact o1.above hd
 ·exact Away.none hd
theorem GrOwn.lower {lo':Nat} (w:GrOwn h q g lo) (hl:lo'≤lo):GrOwn h q g lo':=by
 obtain ⟨us,o1,o2⟩:=w.o
 exact ⟨w.e.lower hl,w.f.lower hl,⟨us,o1.lower hl,o2⟩,w.r.lower hl,w.a.lower hl,w.d.lower hl,w.c.lower hl,w.off,w.fits⟩
theorem GrOwn.ev (w:GrOwn h q g lo) (hn:0<g.n):∃ b,q.e=some ⟨b,0,none⟩∧lo≤b∧b<h.size∧(∀ i,i<g.n→Wr h b (i * 5+4) 1∧Wr h b (i * 5) 5) ∧
  (∀ h' i m,i<g.n→Sto h h' b (i * 5+4) [.int .i64 m]→GrOwn h' q { g with evs:=setMode g.evs i m } lo)∧∀ h' i e,i<g.n→Sto h h' b (i * 5) e.cells→GrOwn h' q { g with evs:=g.evs.set i e } lo:=by
 have we:=w.e
 obtain ⟨b,c,rest,h1,h2,h3,h4⟩:=we.blk hn
 have hq:q.e=some ⟨b,0,none⟩:=by injection h1
 rw [hq] at we
 exact ⟨b,hq,h4,h2.lt,fun i hi=>⟨(holder_ev we hi).1,(holder_ev we hi).2.1⟩,fun h' i m hi s=>w.evs' s.fr hq (by simp) ((holder_ev we hi).2.2.1 _ _ s),fun h' i e hi s=>w.evs' s.fr hq (by simp) ((holder_ev we hi).2.2.2 _ _ s)⟩
end
end Go.Proofs.Tst
/-
  Relations in memory, some at once; chains of steps.
-/
namespace Go.Proofs.Tst
open Go Go.Vc
abbrev Mx:=Nat→Nat→Bool
def PA (h:Heap) (v:Value) (n:Nat) (M:Mx):Prop:=∃ lo hi,ProgAt h lo hi v n M
def PN (h:Heap) (lo:Nat) (v:Value) (n:Nat) (M:Mx):Prop:=∃ a b,ProgAt h a b v n M∧lo≤a∧a≤b∧b≤h.size
section
variable {h h' : Heap} {v : Value} {n lo : Nat} {M N : Mx}
theorem PA.fr (t:PA h v n M) (f:Fr 0 0 h h'):PA h' v n M:=by obtain ⟨a,b,t⟩:=t;exact ⟨a,b,t.fr f (by omega)⟩
theorem PA.ptr (t:PA h v n M):∃ b,v=.pointer (some ⟨b,0,none⟩):=by obtain ⟨a,b,t⟩:=t;exact progPtr t
theorem PA.oc (t:PA h v n M):v.oneCell'=true:=by obtain ⟨b,rfl⟩:=t.ptr;rfl
theorem PA.cl (t:PA h v n M):Vc.cl v=[v]:=by obtain ⟨b,rfl⟩:=t.ptr;rfl
theorem PA.congr (t:PA h v n M) (e:∀ i j,i<n→j<n→M i j=N i j):PA h v n N:=by obtain ⟨a,b,t⟩:=t;exact ⟨a,b,t.congr e⟩
theorem PA.le (t:PA h v n M):n≤256:=by obtain ⟨a,b,t⟩:=t;exact t.1
theorem PN.pa (t:PN h lo v n M):PA h v n M:=by obtain ⟨a,b,t,-⟩:=t;exact ⟨a,b,t⟩
theorem PN.of (t:ProgAt h lo h.size v n M):PN h lo v n M:=⟨_,_,t,Nat.le_refl _,by obtain ⟨_,_,_,_,_,_,w⟩:=t;have:=w.at_;omega,Nat.le_refl _⟩
theorem PN.congr (t:PN h lo v n M) (e:∀ i j,i<n→j<n→M i j=N i j):PN h lo v n N:=by obtain ⟨a,b,t,k⟩:=t;exact ⟨a,b,t.congr e,k⟩
theorem PN.lower {lo':Nat} (t:PN h lo v n M) (hl:lo'≤lo):PN h lo' v n M:=by obtain ⟨a,b,t,k⟩:=t;exact ⟨a,b,t,by omega,k.2⟩
theorem PN.fr {l r:Nat} (t:PN h lo v n M) (f:Fr l r h h') (hd:r≤lo∨h.size≤l∨r≤l):PN h' lo v n M:=by
 obtain ⟨a,b,t,k⟩:=t
 have:=f.size
 exact ⟨a,b,t.fr f (by omega),by omega⟩
end
def UA (h:Heap) (lv:Value) (n:Nat) (M:Mx):Prop:=∃ L:List (Value×Nat×Mx),Rd 1 h lv L.length (L.map (·.1))∧RelsAt h L∧L.length≤65536∧maxN L=n∧∀ i j,i<n→j<n→anyM L i j=M i j
theorem UA.fr {h h':Heap} {v:Value} {n:Nat} {M:Mx} (t:UA h v n M) (f:Fr 0 0 h h'):UA h' v n M:=by
 obtain ⟨L,h1,h2,h3⟩:=t;exact ⟨L,h1.fr f,h2.fr f,h3⟩
theorem maxN_same {n:Nat}:∀ {l:List (Value×Mx)},l≠[]→maxN (l.map fun x=>(x.1,n,x.2))=n:=by
 have key:∀ (l:List (Value×Mx)) (m:Nat),m≤n→(l.map fun x=>(x.1,n,x.2)).foldl (fun m (x:Value×Nat×Mx)=>max m x.2.1) m=if l=[] then m else n:=by
  intro l
  induction l with
  | nil=>intro m _;rfl
  | cons x l ih =>
   intro m hm
   simp only [List.map_cons,List.foldl_cons]
   rw [ih _ (by omega),if_neg (by simp:¬ x :: l=[])]
   split
   ·omega
   ·rfl
 intro l hl
 unfold maxN
 rw [key l 0 (Nat.zero_le _),if_neg hl]
theorem UA.mk {h:Heap} {b n:Nat} {M:Mx} (l:List (Value×Mx)) (r:Rw h b (l.map (·.1))) (hp:∀ x∈l,PA h x.1 n x.2) (hne:l≠[]) (hl:l.length≤65536) (hM:∀ i j,i<n→j<n→(l.any fun x=>x.2 i j)=M i j) :
  UA h (.slice (some ⟨b,0,none⟩) l.length l.length) n M:=by
 refine ⟨l.map fun x=>(x.1,n,x.2),?_,fun x hx=>?_,by rw [List.length_map];exact hl,maxN_same hne,fun i j hi hj=>?_⟩
 ·rw [List.length_map,List.map_map]
  exact Rw.rd (s:=1) r (by simp)
 ·obtain ⟨y,hy,rfl⟩:=List.mem_map.1 hx
  exact hp y hy
 ·rw [← hM i j hi hj]
  unfold anyM
  rw [List.any_map]
  congr 1
  funext x
  exact inN_in hi hj
theorem rel_UnionU {lv:Value} {n:Nat} {M:Mx} {h:Heap} (u:UA h lv n M) :
  Con Tryd.prog 58 #[lv] h fun v h'=>Fr 0 0 h h'∧ProgAt h' h.size h'.size v n M:=by
 obtain ⟨L,h1,h2,h3,h4,h5⟩:=u
 exact (rel_Union h1 h2 h3).mono fun v h' ⟨f,t⟩=>⟨f,by rw [h4] at t;exact t.congr h5⟩
def chM (n:Nat) (A:Mx) (l:List Mx):Mx:=l.foldl (fun X Y=>compM n X n Y) A
def CA (h:Heap) (lv:Value) (n:Nat) (l:List Mx):Prop:=∃ ws:List Value,ws.length=l.length∧Rd 1 h lv ws.length ws∧ws.length≤65536∧∀ (i:Nat) (w:Value) (M:Mx),ws[i]?=some w→l[i]?=some M→PA h w n M
theorem CA.fr {h h':Heap} {v:Value} {n:Nat} {l:List Mx} (t:CA h v n l) (f:Fr 0 0 h h'):CA h' v n l:=by
 obtain ⟨L,h1,h2,h3,h4⟩:=t;exact ⟨L,h1,h2.fr f,h3,fun i w M a b=>(h4 i w M a b).fr f⟩
theorem CA.mk {h:Heap} {b n:Nat} (l:List (Value×Mx)) (r:Rw h b (l.map (·.1))) (hp:∀ x∈l,PA h x.1 n x.2) (hl:l.length≤65536):CA h (.slice (some ⟨b,0,none⟩) l.length l.length) n (l.map (·.2)):=by
 refine ⟨l.map (·.1),by simp,?_,by simpa using hl,fun i w M h1 h2=>?_⟩
 ·rw [List.length_map];exact Rw.rd (s:=1) r (by simp)
 ·rw [List.getElem?_map,Option.map_eq_some_iff] at h1 h2
  obtain ⟨x,hx,rfl⟩:=h1
  obtain ⟨y,hy,rfl⟩:=h2
  rw [hx] at hy;cases hy
  exact hp x (List.mem_of_getElem? hx)
def orM (l:List Mx):Mx:=fun i j=>l.any fun X=>X i j
theorem UA.mk' {h:Heap} {b n:Nat} (l:List (Value×Mx)) (r:Rw h b (l.map (·.1))) (hp:∀ x∈l,PA h x.1 n x.2) (hne:l≠[]) (hl:l.length≤65536):UA h (.slice (some ⟨b,0,none⟩) l.length l.length) n (orM (l.map (·.2))):=
 UA.mk l r hp hne hl fun i j _ _=>by unfold orM;rw [List.any_map];rfl
theorem pa_nil {h:Heap} {n:Nat}:∀ x∈([]:List (Value×Mx)),PA h x.1 n x.2:=fun x hx=>by cases hx
theorem pa_cons {h:Heap} {n:Nat} {v:Value} {M:Mx} {l:List (Value×Mx)} (a:PA h v n M) (t:∀ x∈l,PA h x.1 n x.2):∀ x∈(v,M) :: l,PA h x.1 n x.2:=fun x hx=>by
 rcases List.mem_cons.1 hx with rfl | hx
 ·exact a
 ·exact t x hx
def tC (n:Nat) (l:List Mx):Tell:=tell1 fun v _ _ h=>CA h v n l
def tU (n:Nat) (M:Mx):Tell:=tell1 fun v _ _ h=>UA h v n M
def tN (L n:Nat) (M:Mx):Tell:=tell1 fun v _ _ h=>PN h L v n M
theorem stC (n:Nat) (l:List Mx):Stab (tC n l):=Stab.one fun _ _ _ _ _ f t=>t.fr f
theorem stU (n:Nat) (M:Mx):Stab (tU n M):=Stab.one fun _ _ _ _ _ f t=>t.fr f
theorem stN (L n:Nat) (M:Mx):Stab (tN L n M):=Stab.one fun _ _ _ _ _ f t=>t.fr f (.inr (.inr (Nat.le_refl _)))
theorem tC_eq (n:Nat) (l:List Mx) (u:Out) (h:Heap):tC n l [u] h=CA h u.1 n l:=(rfl)
theorem tU_eq (n:Nat) (M:Mx) (u:Out) (h:Heap):tU n M [u] h=UA h u.1 n M:=(rfl)
theorem tN_eq (L n:Nat) (M:Mx) (u:Out) (h:Heap):tN L n M [u] h=PN h L u.1 n M:=(rfl)
def dM (f:Nat→Bool):Mx:=fun i j=>i==j&&f i
theorem exB_congr {n:Nat} {f g:Nat→Bool} (h:∀ k,k<n→f k=g k):exB n f=exB n g:=by
 unfold exB
 rw [Bool.eq_iff_iff,List.any_eq_true,List.any_eq_true]
 exact ⟨fun ⟨k,hk,e⟩=>⟨k,hk,by rw [← h k (List.mem_range.1 hk)];exact e⟩,fun ⟨k,hk,e⟩=>⟨k,hk,by rw [h k (List.mem_range.1 hk)];exact e⟩⟩
section
variable {n i j : Nat} {A B : Mx} {f : Nat → Bool}
theorem interM_in (hi:i<n) (hj:j<n):interM n A n B i j=(A i j&&B i j):=by unfold interM;rw [inN_in hi hj,inN_in hi hj]
theorem minusM_in (hi:i<n) (hj:j<n):minusM n A n B i j=(A i j&&!B i j):=by unfold minusM;rw [inN_in hi hj,inN_in hi hj]
theorem compM_in (hi:i<n) (hj:j<n):compM n A n B i j=exB n fun k=>A i k&&B k j:=by
 show exB n (fun k=>inN n A i k&&inN n B k j)=_
 exact exB_congr fun k hk=>by rw [inN_in hi hk,inN_in hk hj]
theorem exB_one (hi:i<n) {g:Nat→Bool}:(exB n fun k=>i==k&&g k)=g i:=by
 rw [Bool.eq_iff_iff,exB_true]
 constructor
 ·rintro ⟨k,hk,h⟩
  simp only [Bool.and_eq_true,beq_iff_eq] at h
  rw [h.1];exact h.2
 ·intro h;exact ⟨i,hi,by simp [h]⟩
theorem compM_dR (hi:i<n) (hj:j<n):compM n A n (dM f) i j=(A i j&&f j):=by
 rw [compM_in hi hj]
 have:(exB n fun k=>A i k&&dM f k j)=exB n fun k=>j==k&&(A i k&&f k):=exB_congr fun k _=>by
  unfold dM
  have:(k==j)=(j==k):=by rw [Bool.eq_iff_iff,beq_iff_eq,beq_iff_eq];exact eq_comm
  rw [this]
  cases A i k <;> cases (j==k) <;> cases f k <;> rfl
 rw [this,exB_one hj]
theorem compM_dL (hi:i<n) (hj:j<n):compM n (dM f) n A i j=(f i&&A i j):=by
 rw [compM_in hi hj]
 have:(exB n fun k=>dM f i k&&A k j)=exB n fun k=>i==k&&(f i&&A k j):=exB_congr fun k _=>by
  unfold dM
  cases A k j <;> cases (i==k) <;> cases f i <;> rfl
 rw [this,exB_one hi]
end
theorem arm_chain {v0 lv:Value} {n:Nat} {A:Mx} {l:List Mx} {h:Heap} (h0:PA h v0 n A) (hl:CA h lv n l) (ht:TabAt h) :
  Con Tryd.prog 154 #[v0,lv] h fun v h'=>Fr 0 0 h h'∧PA h' v n (chM n A l)∧(l≠[]→PN h' h.size v n (chM n A l)):=by
 refine con_q1 ?_
 obtain ⟨ws',hwl,hr,hlen,hp⟩:=hl
 obtain ⟨la,lc,rfl⟩:=hr.is
 have p0:Fr 0 0 h h:=.refl _ _ _
 simp -dsimp only [go_sem]
 refine loop_intro (fun s:Nat×Value=>[(0,s.2),(7,.slice la ws'.length lc),(8,.int .i64 ws'.length),(9,.int .i64 s.1)])
  (fun s h'=>s.1≤ws'.length∧Fr 0 0 h h'∧PA h' s.2 n (chM n A (l.take s.1))∧(0<s.1→PN h' h.size s.2 n (chM n A (l.take s.1)))) (fun s=>ws'.length - s.1) (0,v0) ?_ ?_ ?_
 ·simp [Le,find]
 ·exact ⟨by omega,p0,h0,by simp⟩
 clear p0
 rintro ⟨i,v⟩ h1 ⟨hi,p0,t,tn⟩
 dsimp only at hi t tn ⊢
 have p0_z:=p0.size
 by_cases hlt:i<ws'.length
 ·have e1:((i:Int)<(ws'.length:Int)):=by omega
  have hw:ws'[i]?=some ws'[i]:=List.getElem?_eq_getElem hlt
  have hM:l[i]?=some (l[i]'(by omega)):=List.getElem?_eq_getElem (by omega)
  have tw:=(hp i _ _ hw hM).fr p0
  generalize ws'[i]=w at hw tw
  have hs:l.take (i+1)=l.take i++[l[i]'(by omega)]:=by rw [List.take_add_one,hM];rfl
  generalize l[i]'(by omega)=B at hM tw hs
  obtain ⟨hl1,a',c',k1,k2⟩:=hr
  cases k1
  rcases k2 with k2 | ⟨b,o,rfl,hc⟩
  ·omega
  have hc:=p0.keep (hc i _ hw) (by omega)
  simp -dsimp only [go_sem,e1,hc]
  obtain ⟨_,_,t1⟩:=t
  obtain ⟨_,_,t2⟩:=tw
  refine call_of (rel_Comp t1 t2 (ht.fr p0 (.inr rfl))) ?_
  rintro v2 h2 ⟨f2,t3⟩
  rw [Nat.max_self] at t3
  have q2:=f2.size
  have p0_z:=p0.size
  have f2_z:=f2.size
  replace p0:=p0.F f2
  have hch:chM n A (l.take (i+1))=compM n (chM n A (l.take i)) n B:=by rw [hs];unfold chM;rw [List.foldl_append];rfl
  simp -dsimp only [go_sem]
  simp -dsimp (disch:=omega) only [wrap64]
  refine ⟨(i+1,v2),by dsimp only;omega,by simp [Le,find],by dsimp only;omega,p0,?_,fun _=>?_⟩
  ·dsimp only;rw [hch];exact ⟨_,_,t3⟩
  ·dsimp only;rw [hch];exact (PN.of t3).lower (by omega)
 ·obtain rfl:i=ws'.length:=by omega
  simp -dsimp only [go_sem,Int.lt_irrefl]
  rw [hwl,List.take_length] at t tn
  refine ⟨p0,t,fun hne=>tn ?_⟩
  exact List.length_pos_iff.2 hne
theorem rc11_chain {v0 lv:Value} {n:Nat} {A:Mx} {l:List Mx} {h:Heap} (h0:PA h v0 n A) (hl:CA h lv n l) (ht:TabAt h) :
  Con Tryd.prog 125 #[v0,lv] h fun v h'=>Fr 0 0 h h'∧PA h' v n (chM n A l)∧(l≠[]→PN h' h.size v n (chM n A l)):=by
 refine con_q60 ?_
 obtain ⟨ws',hwl,hr,hlen,hp⟩:=hl
 obtain ⟨la,lc,rfl⟩:=hr.is
 have p0:Fr 0 0 h h:=.refl _ _ _
 simp -dsimp only [go_sem]
 refine loop_intro (fun s:Nat×Value=>[(0,s.2),(7,.slice la ws'.length lc),(8,.int .i64 ws'.length),(9,.int .i64 s.1)])
  (fun s h'=>s.1≤ws'.length∧Fr 0 0 h h'∧PA h' s.2 n (chM n A (l.take s.1))∧(0<s.1→PN h' h.size s.2 n (chM n A (l.take s.1)))) (fun s=>ws'.length - s.1) (0,v0) ?_ ?_ ?_
 ·simp [Le,find]
 ·exact ⟨by omega,p0,h0,by simp⟩
 clear p0
 rintro ⟨i,v⟩ h1 ⟨hi,p0,t,tn⟩
 dsimp only at hi t tn ⊢
 have p0_z:=p0.size
 by_cases hlt:i<ws'.length
 ·have e1:((i:Int)<(ws'.length:Int)):=by omega
  have hw:ws'[i]?=some ws'[i]:=List.getElem?_eq_getElem hlt
  have hM:l[i]?=some (l[i]'(by omega)):=List.getElem?_eq_getElem (by omega)
  have tw:=(hp i _ _ hw hM).fr p0
  generalize ws'[i]=w at hw tw
  have hs:l.take (i+1)=l.take i++[l[i]'(by omega)]:=by rw [List.take_add_one,hM];rfl
  generalize l[i]'(by omega)=B at hM tw hs
  obtain ⟨hl1,a',c',k1,k2⟩:=hr
  cases k1
  rcases k2 with k2 | ⟨b,o,rfl,hc⟩
  ·omega
  have hc:=p0.keep (hc i _ hw) (by omega)
  simp -dsimp only [go_sem,e1,hc]
  obtain ⟨_,_,t1⟩:=t
  obtain ⟨_,_,t2⟩:=tw
  refine call_of (rel_Comp t1 t2 (ht.fr p0 (.inr rfl))) ?_
  rintro v2 h2 ⟨f2,t3⟩
  rw [Nat.max_self] at t3
  have q2:=f2.size
  have p0_z:=p0.size
  have f2_z:=f2.size
  replace p0:=p0.F f2
  have hch:chM n A (l.take (i+1))=compM n (chM n A (l.take i)) n B:=by rw [hs];unfold chM;rw [List.foldl_append];rfl
  simp -dsimp only [go_sem]
  simp -dsimp (disch:=omega) only [wrap64]
  refine ⟨(i+1,v2),by dsimp only;omega,by simp [Le,find],by dsimp only;omega,p0,?_,fun _=>?_⟩
  ·dsimp only;rw [hch];exact ⟨_,_,t3⟩
  ·dsimp only;rw [hch];exact (PN.of t3).lower (by omega)
 ·obtain rfl:i=ws'.length:=by omega
  simp -dsimp only [go_sem,Int.lt_irrefl]
  rw [hwl,List.take_length] at t tn
  refine ⟨p0,t,fun hne=>tn ?_⟩
  exact List.length_pos_iff.2 hne
end Go.Proofs.Tst
