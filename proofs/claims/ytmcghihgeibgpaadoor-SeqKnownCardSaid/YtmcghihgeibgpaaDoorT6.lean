/-
  Contracts of functions that the law reaches: what each returns and what it leaves in memory. Conditions stand in each.
-/
import Derived.Test.YtmcghihgeibgpaaDoorT5
set_option linter.all false
set_option maxRecDepth 2000
/-
  The source's memory model: its relations, its check (plain).
-/
namespace Go.Proofs.Tst
open Go Go.Vc
def relB (g:Gr) (i:Nat):Bool:=(isK g 2 i||isK g 3 i)&&(isM g 3 i||isM g 4 i||isM g 5 i)
def acrB (g:Gr) (i:Nat):Bool:=(isK g 1 i||isK g 3 i)&&(isM g 2 i||isM g 4 i||isM g 5 i)
def escB (g:Gr) (i:Nat):Bool:=isM g 5 i&&(isK g 1 i||isK g 2 i)
def fscB (g:Gr) (i:Nat):Bool:=isM g 5 i&&isK g 3 i
def plocM (g:Gr) (i j:Nat):Bool:=relM g 0 i j&&relM g 4 i j
def rrM (g:Gr) (i j:Nat):Bool:=exB g.n fun k=>relM g 1 i k&&relM g 3 k j
def rsM (g:Gr) (i j:Nat):Bool:=isK g 2 i&&exB g.n fun m=>(plocM g i m||i==m)&&isK g 2 m&&(plusM g.n (rrM g) m j||m==j)
def swM (g:Gr) (i j:Nat):Bool:=relB g i&&(exB g.n fun a=>((isK g 3 i&&relM g 0 i a)||i==a)&&exB g.n fun b=>rsM g a b&&exB g.n fun c=>relM g 1 b c&&isK g 1 c&&((relM g 0 c j&&isK g 3 j)||c==j))&&acrB g j
def poswM (g:Gr) (i j:Nat):Bool:=relM g 0 i j||swM g i j
def hbM (g:Gr):Nat→Nat→Bool:=plusM g.n (poswM g)
def comM (g:Gr) (i j:Nat):Bool:=relM g 1 i j||relM g 2 i j||relM g 9 i j
def ecoM (g:Gr):Nat→Nat→Bool:=plusM g.n (comM g)
def otherM (g:Gr) (i j:Nat):Bool:=relM g 0 i j&&!relM g 4 i j
def scbM (g:Gr) (i j:Nat):Bool:=relM g 0 i j||(exB g.n fun a=>otherM g i a&&exB g.n fun b=>hbM g a b&&otherM g b j)||(hbM g i j&&relM g 4 i j)||relM g 2 i j||relM g 9 i j
def beginM (g:Gr) (i a:Nat):Bool:=(i==a&&escB g i)||(fscB g i&&(hbM g i a||i==a))
def endM (g:Gr) (b j:Nat):Bool:=(b==j&&escB g b)||((hbM g b j||b==j)&&fscB g j)
def baseM (g:Gr) (i j:Nat):Bool:=exB g.n fun a=>beginM g i a&&exB g.n fun b=>scbM g a b&&endM g b j
def hehM (g:Gr) (i j:Nat):Bool:=exB g.n fun a=>hbM g i a&&exB g.n fun b=>ecoM g a b&&hbM g b j
def pscfM (g:Gr) (i j:Nat):Bool:=fscB g i&&(hbM g i j||hehM g i j)&&fscB g j
def tornS (g:Gr) (p:Int×Int):Bool:=inR g.n p.1&&inR g.n p.2&&exB g.n fun k=>relM g 9 p.1.toNat k&&relM g 2 k p.2.toNat
def atomS (g:Gr):List Int:=match g.rmw.find? (tornS g) with | some p=>[p.1,p.2] | none=>[]
def natsI (l:List Nat):List Int:=l.map fun (x:Nat)=>(x:Int)
theorem atomS_nil {g:Gr}:atomS g=[]↔∀ p∈g.rmw,tornS g p=false:=by
 unfold atomS
 cases hf:g.rmw.find? (tornS g) with
 | none =>
  rw [List.find?_eq_none] at hf
  simp only [true_iff]
  exact fun p hp=>by have:=hf p hp;simpa using this
 | some p =>
  have h3:=List.find?_some hf
  have h4:=List.mem_of_find?_eq_some hf
  simp only []
  constructor
  ·intro h;exact absurd h (by simp)
  ·intro h5;rw [h5 p h4] at h3;cases h3
end Go.Proofs.Tst
/-
  What RC11's relations keep of any graph (plain).
-/
namespace Go.Proofs.Tst
open Go Go.Vc
theorem sw_spec {g:Gr} {i j:Nat}:swM g i j=true↔relB g i=true∧acrB g j=true∧∃ a,a<g.n∧((isK g 3 i=true∧relM g 0 i a=true)∨i=a)∧∃ b,b<g.n∧rsM g a b=true∧∃ c,c<g.n∧relM g 1 b c=true∧isK g 1 c=true∧((relM g 0 c j=true∧isK g 3 j=true)∨c=j):=by
 unfold swM
 simp only [Bool.and_eq_true,Bool.or_eq_true,exB_true,beq_iff_eq]
 constructor
 ·rintro ⟨⟨h1,a,ha,h2,b,hb,h3,c,hc,⟨h4,h5⟩,h6⟩,h7⟩
  exact ⟨h1,h7,a,ha,h2,b,hb,h3,c,hc,h4,h5,h6⟩
 ·rintro ⟨h1,h7,a,ha,h2,b,hb,h3,c,hc,h4,h5,h6⟩
  exact ⟨⟨h1,a,ha,h2,b,hb,h3,c,hc,⟨h4,h5⟩,h6⟩,h7⟩
theorem isK_iff {g:Gr} {k:Int} {i:Nat}:isK g k i=true↔(g.ev i).kind=k:=by unfold isK;simp
theorem isM_iff {g:Gr} {k:Int} {i:Nat}:isM g k i=true↔(g.ev i).mode=k:=by unfold isM;simp
theorem relB_iff {g:Gr} {i:Nat}:relB g i=true↔((g.ev i).kind=2∨(g.ev i).kind=3)∧((g.ev i).mode=3∨(g.ev i).mode=4∨(g.ev i).mode=5):=by
 unfold relB;simp only [Bool.and_eq_true,Bool.or_eq_true,isK_iff,isM_iff,or_assoc]
theorem acrB_iff {g:Gr} {i:Nat}:acrB g i=true↔((g.ev i).kind=1∨(g.ev i).kind=3)∧((g.ev i).mode=2∨(g.ev i).mode=4∨(g.ev i).mode=5):=by
 unfold acrB;simp only [Bool.and_eq_true,Bool.or_eq_true,isK_iff,isM_iff,or_assoc]
theorem src_thread {g:Gr} (h:(g.check false).1=0) {i:Nat} (hi:i<g.n):((g.ev i).thread = -1∧(g.ev i).kind=2∧(g.ev i).mode=1∧(i:Int)<g.cells∧(g.ev i).loc=(i:Int))∨(0≤(g.ev i).thread∧g.cells≤(i:Int)):=by
 obtain ⟨hs,h2,h3,-⟩:=check_zero h
 simp only [Gr.size,Bool.and_eq_true,decide_eq_true_eq] at hs
 by_cases hc:i<g.cells.toNat
 ·have:=firstEv_neg _ _ h2 i (by omega) (by omega)
  simp only [Bool.not_eq_false',beq_iff_eq] at this
  left;rw [this];unfold Gr.first;exact ⟨rfl,rfl,rfl,by omega,rfl⟩
 ·have:=firstEv_neg _ _ h3 i (by omega) (by omega)
  simp only [Bool.not_eq_false'] at this
  unfold Gr.evOk at this
  simp only [Bool.and_eq_true,decide_eq_true_eq] at this
  right;exact ⟨this.1.1.1,by omega⟩
theorem ofM_in {n:Nat} {l:List (Int×Int)} {i j:Nat} (h:ofM n l i j=true):i<n∧j<n:=by
 have hm:=ofM_mem' h
 unfold ofM at h
 rw [List.any_eq_true] at h
 obtain ⟨p,hp,h⟩:=h
 simp only [Bool.and_eq_true,beq_iff_eq] at h
 obtain ⟨⟨⟨h1,h2⟩,h3⟩,h4⟩:=h
 unfold inR at h1 h2
 simp only [Bool.and_eq_true,decide_eq_true_eq] at h1 h2
 omega
end Go.Proofs.Tst
/-
  A source graph with weaker modes (plain).
-/
namespace Go.Proofs.Tst
open Go Go.Vc
def wkR (k a b:Int):Prop:=a=b∨(k=1∧(a=1∧(b=2∨b=5)∨a=2∧b=5))∨(k=2∧(a=1∧(b=3∨b=5)∨a=3∧b=5))∨(k≠1∧k≠2∧(b=5∨b=4∧(a=2∨a=3)))
structure WeakR (g h:Gr):Prop where
 len:h.n=g.n
 rf:h.rf=g.rf
 co:h.co=g.co
 rmw:h.rmw=g.rmw
 thr:∀ i,(h.ev i).thread=(g.ev i).thread
 kind:∀ i,(h.ev i).kind=(g.ev i).kind
 loc:∀ i,(h.ev i).loc=(g.ev i).loc
 mode:∀ i,wkR (g.ev i).kind (h.ev i).mode (g.ev i).mode
namespace WeakR
variable {g h : Gr}
theorem before (w:WeakR g h) (a b:Int):h.before a b=g.before a b:=by unfold Gr.before;rw [w.len,w.thr,w.thr]
theorem po (w:WeakR g h):relM h 0=relM g 0:=by funext i j;exact w.before i j
theorem relRf (w:WeakR g h):relM h 1=relM g 1:=by show ofM h.n h.rf=ofM g.n g.rf;rw [w.len,w.rf]
theorem relCo (w:WeakR g h):relM h 2=relM g 2:=by show ofM h.n (coPairs h)=ofM g.n (coPairs g);unfold coPairs;rw [w.len,w.co]
theorem relRmw (w:WeakR g h):relM h 3=relM g 3:=by show ofM h.n h.rmw=ofM g.n g.rmw;rw [w.len,w.rmw]
theorem relSame (w:WeakR g h):relM h 4=relM g 4:=by funext i j;show h.sameM i j=g.sameM i j;unfold Gr.sameM;rw [w.loc,w.loc]
theorem relFr (w:WeakR g h):relM h 9=relM g 9:=by
 show compM h.n (invM (ofM h.n h.rf)) h.n (ofM h.n (coPairs h))=compM g.n (invM (ofM g.n g.rf)) g.n (ofM g.n (coPairs g))
 unfold coPairs;rw [w.len,w.rf,w.co]
theorem isK (w:WeakR g h) (k:Int):Tst.isK h k=Tst.isK g k:=by funext i;unfold Tst.isK;rw [w.kind]
theorem rel (w:WeakR g h) {i:Nat} (hr:relB h i=true):relB g i=true:=by
 have:=w.kind i
 rw [relB_iff] at hr ⊢
 have h2:=w.mode i
 unfold wkR at h2
 omega
theorem acr (w:WeakR g h) {i:Nat} (hr:acrB h i=true):acrB g i=true:=by
 have:=w.kind i
 rw [acrB_iff] at hr ⊢
 have h2:=w.mode i
 unfold wkR at h2
 omega
theorem esc (w:WeakR g h) {i:Nat} (hr:escB h i=true):escB g i=true:=by
 have:=w.kind i
 unfold escB at hr ⊢
 simp only [Bool.and_eq_true,Bool.or_eq_true,isK_iff,isM_iff] at hr ⊢
 have h2:=w.mode i
 unfold wkR at h2
 omega
theorem rs (w:WeakR g h):rsM h=rsM g:=by
 have e1:plocM h=plocM g:=by funext i j;unfold plocM;rw [w.po,w.relSame]
 have e2:rrM h=rrM g:=by funext i j;unfold rrM;rw [w.relRf,w.relRmw,w.len]
 funext i j;unfold rsM;rw [w.isK,w.len,e1,e2]
theorem sw (w:WeakR g h) {i j:Nat} (hs:swM h i j=true):swM g i j=true:=by
 obtain ⟨h1,h2,h3⟩:=sw_spec.1 hs
 rw [w.isK,w.isK,w.po,w.rs,w.relRf,w.len] at h3
 exact sw_spec.2 ⟨w.rel h1,w.acr h2,h3⟩
theorem plus_mono {n:Nat} {M N:Nat→Nat→Bool} (hM:∀ i j,i<n→j<n→M i j=true→N i j=true) {i j:Nat} (hi:i<n) (hj:j<n) (h:plusM n M i j=true):plusM n N i j=true:=
 plus_least (N:=fun x y=>plusM n N x y=true) (fun i j hi hj hr=>plus_sub (hM i j hi hj hr)) (fun _ _ _ _ hx _ h1 h2=>plus_trans hx h1 h2) hi hj h
theorem hb (w:WeakR g h) {i j:Nat} (hi:i<g.n) (hj:j<g.n) (hs:hbM h i j=true):hbM g i j=true:=by
 unfold hbM at hs ⊢
 rw [w.len] at hs
 refine plus_mono (fun i j _ _ hr=>?_) hi hj hs
 unfold poswM at hr ⊢
 rw [w.po,Bool.or_eq_true] at hr
 rw [Bool.or_eq_true]
 exact hr.imp id w.sw
theorem other (w:WeakR g h):otherM h=otherM g:=by funext i j;unfold otherM;rw [w.po,w.relSame]
end WeakR
end Go.Proofs.Tst
/-
  Graphs that differ by the numbers of their events alone (plain).
-/
namespace Go.Proofs.Tst
open Go Go.Vc
structure Iso (n:Nat) (s t:Nat→Nat):Prop where
 ls:∀ k,k<n→s k<n
 lt:∀ k,k<n→t k<n
 st:∀ k,k<n→s (t k)=k
 ts:∀ k,k<n→t (s k)=k
section
variable {n : Nat} {s t : Nat → Nat}
theorem Iso.inj (I:Iso n s t) {i j:Nat} (hi:i<n) (hj:j<n):(s i==s j)=(i==j):=by
 rw [Bool.eq_iff_iff,beq_iff_eq,beq_iff_eq]
 exact ⟨fun h=>by rw [← I.ts i hi,← I.ts j hj,h],fun h=>by rw [h]⟩
theorem Iso.exB (I:Iso n s t) {f f':Nat→Bool} (h:∀ k,k<n→f' (s k)=f k):Tst.exB n f'=Tst.exB n f:=by
 rw [Bool.eq_iff_iff,exB_true,exB_true]
 constructor
 ·rintro ⟨k,hk,hf⟩
  exact ⟨t k,I.lt k hk,by rw [← h _ (I.lt k hk),I.st k hk];exact hf⟩
 ·rintro ⟨k,hk,hf⟩
  exact ⟨s k,I.ls k hk,by rw [h k hk];exact hf⟩
def SameR (n:Nat) (s:Nat→Nat) (M' M:Nat→Nat→Bool):Prop:=∀ i j,i<n→j<n→M' (s i) (s j)=M i j
def SameB (n:Nat) (s:Nat→Nat) (f' f:Nat→Bool):Prop:=∀ i,i<n→f' (s i)=f i
theorem Iso.plus (I:Iso n s t) {M M':Nat→Nat→Bool} (h:SameR n s M' M):SameR n s (plusM n M') (plusM n M):=by
 intro i j hi hj
 rw [Bool.eq_iff_iff]
 constructor
 ·intro hp
  have:=plus_least (n:=n) (M:=M') (N:=fun x y=>plusM n M (t x) (t y)=true) (fun x y hx hy hm=>plus_sub (by
   rw [← h _ _ (I.lt x hx) (I.lt y hy),I.st x hx,I.st y hy];exact hm)) (fun _ x _ _ hx _ h1 h2=>plus_trans (I.lt x hx) h1 h2) (I.ls i hi) (I.ls j hj) hp
  rw [I.ts i hi,I.ts j hj] at this;exact this
 ·intro hp
  exact plus_least (n:=n) (M:=M) (N:=fun x y=>plusM n M' (s x) (s y)=true) (fun x y hx hy hm=>plus_sub (by rw [h x y hx hy];exact hm)) (fun _ x _ _ hx _ h1 h2=>plus_trans (I.ls x hx) h1 h2) hi hj hp
end
structure GIso (g h:Gr) (s t:Nat→Nat):Prop where
 n:h.n=g.n
 iso:Iso g.n s t
 r0:SameR g.n s (relM h 0) (relM g 0)
 r1:SameR g.n s (relM h 1) (relM g 1)
 r2:SameR g.n s (relM h 2) (relM g 2)
 r3:SameR g.n s (relM h 3) (relM g 3)
 r4:SameR g.n s (relM h 4) (relM g 4)
 kind:∀ i,i<g.n→(h.ev (s i)).kind=(g.ev i).kind
 mode:∀ i,i<g.n→(h.ev (s i)).mode=(g.ev i).mode
 rmw:∀ p:Int×Int,p∈h.rmw↔∃ a b:Nat,a<g.n∧b<g.n∧((a:Int),(b:Int))∈g.rmw∧p=((s a:Int),(s b:Int))
 rmwN:∀ p∈g.rmw,∃ a b:Nat,p=((a:Int),(b:Int))∧a<g.n∧b<g.n
namespace GIso
variable {g h : Gr} {s t : Nat → Nat}
theorem isK (w:GIso g h s t) (k:Int):SameB g.n s (Tst.isK h k) (Tst.isK g k):=fun i hi=>by unfold Tst.isK;rw [w.kind i hi]
theorem isM (w:GIso g h s t) (k:Int):SameB g.n s (Tst.isM h k) (Tst.isM g k):=fun i hi=>by unfold Tst.isM;rw [w.mode i hi]
theorem r9 (w:GIso g h s t):SameR g.n s (relM h 9) (relM g 9):=fun i j hi hj=>by
 show compM h.n (invM (relM h 1)) h.n (relM h 2) (s i) (s j)=compM g.n (invM (relM g 1)) g.n (relM g 2) i j
 rw [w.n]
 have e1:∀ (A B:Nat→Nat→Bool) (x y:Nat),x<g.n→y<g.n→compM g.n A g.n B x y=exB g.n fun k=>A x k&&B k y:=fun A B x y hx hy=>by
  show exB g.n (fun k=>inN g.n A x k&&inN g.n B k y)=_
  unfold exB
  rw [Bool.eq_iff_iff,List.any_eq_true,List.any_eq_true]
  exact ⟨fun ⟨k,hk,e⟩=>⟨k,hk,by rw [inN_in hx (List.mem_range.1 hk),inN_in (List.mem_range.1 hk) hy] at e;exact e⟩,fun ⟨k,hk,e⟩=>⟨k,hk,by rw [inN_in hx (List.mem_range.1 hk),inN_in (List.mem_range.1 hk) hy];exact e⟩⟩
 rw [e1 _ _ _ _ (w.iso.ls i hi) (w.iso.ls j hj),e1 _ _ _ _ hi hj]
 exact w.iso.exB fun k hk=>by
  show (relM h 1 (s k) (s i)&&relM h 2 (s k) (s j))=(relM g 1 k i&&relM g 2 k j)
  rw [w.r1 k i hk hi,w.r2 k j hk hj]
theorem rs (w:GIso g h s t):SameR g.n s (rsM h) (rsM g):=fun i j hi hj=>by
 have e1:SameR g.n s (rrM h) (rrM g):=fun a b ha hb=>by
  unfold rrM;rw [w.n]
  exact w.iso.exB fun k hk=>by rw [w.r1 a k ha hk,w.r3 k b hk hb]
 have e2:=w.iso.plus e1
 unfold rsM
 rw [w.n,w.isK 2 i hi]
 congr 1
 exact w.iso.exB fun k hk=>by
  unfold plocM
  rw [w.r0 i k hi hk,w.r4 i k hi hk,w.iso.inj hi hk,w.isK 2 k hk,e2 k j hk hj,w.iso.inj hk hj]
theorem sw (w:GIso g h s t):SameR g.n s (swM h) (swM g):=fun i j hi hj=>by
 have er:relB h (s i)=relB g i:=by unfold relB;rw [w.isK 2 i hi,w.isK 3 i hi,w.isM 3 i hi,w.isM 4 i hi,w.isM 5 i hi]
 have ea:acrB h (s j)=acrB g j:=by unfold acrB;rw [w.isK 1 j hj,w.isK 3 j hj,w.isM 2 j hj,w.isM 4 j hj,w.isM 5 j hj]
 unfold swM
 rw [er,ea,w.n]
 congr 2
 exact w.iso.exB fun a ha=>by
  rw [w.isK 3 i hi,w.r0 i a hi ha,w.iso.inj hi ha]
  congr 1
  exact w.iso.exB fun b hb=>by
   rw [w.rs a b ha hb]
   congr 1
   exact w.iso.exB fun c hc=>by
    rw [w.r1 b c hb hc,w.isK 1 c hc,w.r0 c j hc hj,w.isK 3 j hj,w.iso.inj hc hj]
theorem hb (w:GIso g h s t):SameR g.n s (hbM h) (hbM g):=by
 unfold hbM;rw [w.n]
 exact w.iso.plus fun i j hi hj=>by unfold poswM;rw [w.r0 i j hi hj,w.sw i j hi hj]
theorem esc (w:GIso g h s t):SameB g.n s (escB h) (escB g):=fun i hi=>by unfold escB;rw [w.isM 5 i hi,w.isK 1 i hi,w.isK 2 i hi]
theorem torn (w:GIso g h s t) {a b:Nat} (ha:a<g.n) (hb:b<g.n):tornS h ((s a:Int),(s b:Int))=tornS g ((a:Int),(b:Int)):=by
 have i1:∀ x:Nat,x<g.n→inR g.n (x:Int)=true:=fun x hx=>by unfold inR;simp;omega
 unfold tornS
 rw [w.n,i1 _ (w.iso.ls a ha),i1 _ (w.iso.ls b hb),i1 _ ha,i1 _ hb]
 simp only [Int.toNat_natCast,Bool.true_and]
 exact w.iso.exB fun k hk=>by rw [w.r9 a k ha hk,w.r2 k b hk hb]
end GIso
end Go.Proofs.Tst
/-
  What makes a graph well-formed, said of all its lists at once (plain).
-/
namespace Go.Proofs.Tst
open Go Go.Vc
def rfOk (g:Gr) (p:Int×Int):Bool:=g.is p.1 2&&(g.ev p.1.toNat).loc==(g.ev p.2.toNat).loc&&(g.ev p.1.toNat).val==(g.ev p.2.toNat).val
def readsFrom (g:Gr) (r d:Nat):List Int:=((List.range' r d).filter fun i=>(g.ev i).kind==1).map fun (i:Nat)=>(i:Int)
theorem rfGo_iff {g:Gr}:∀ (d r k:Nat),r+d=g.n→k≤g.rf.length→(¬ 0≤g.rfGo d r k↔(g.rf.drop k).map (·.2)=readsFrom g r d∧∀ p∈g.rf.drop k,rfOk g p=true)
 | 0,r,k,hr,hk=>by
  unfold Gr.rfGo
  by_cases h:k<g.rf.length
  ·rw [if_pos h]
   constructor
   ·intro h';omega
   ·rintro ⟨h',-⟩
    have:(g.rf.drop k).length=0:=by
     have:=congrArg List.length h'
     simpa [readsFrom] using this
    rw [List.length_drop] at this;omega
  ·rw [if_neg h,List.drop_eq_nil_of_le (by omega)]
   simp [readsFrom]
 | d+1,r,k,hr,hk=>by
  have hrs:readsFrom g r (d+1)=(if (g.ev r).kind=1 then [(r:Int)] else [])++readsFrom g (r+1) d:=by
   unfold readsFrom
   rw [List.range'_succ,List.filter_cons]
   by_cases h:(g.ev r).kind=1
   ·rw [if_pos h,if_pos (by simpa using h)];rfl
   ·rw [if_neg h,if_neg (by simpa using h)];rfl
  rw [hrs]
  by_cases hkd:(g.ev r).kind=1
  ·rw [if_pos hkd]
   by_cases hkl:k<g.rf.length
   ·have hq:g.rf[k]?=some g.rf[k]:=List.getElem?_eq_getElem hkl
    have hdr:g.rf.drop k=g.rf[k] :: g.rf.drop (k+1):=List.drop_eq_getElem_cons hkl
    generalize g.rf[k]=p at hq hdr
    rw [hdr]
    cases hb:g.rfBad r k
    ·rw [rfGo_ok hkd hb,rfGo_iff d (r+1) (k+1) (by omega) (by omega)]
     unfold Gr.rfBad at hb
     rw [hq] at hb
     simp only [Bool.or_eq_false_iff,Bool.not_eq_false',beq_iff_eq] at hb
     obtain ⟨⟨⟨hb1,hb2⟩,hb3⟩,hb4⟩:=hb
     have hok:rfOk g p=true:=by
      unfold rfOk
      rw [hb2,hb1,Int.toNat_natCast,hb3,hb4];simp
     constructor
     ·rintro ⟨h1,h2⟩
      refine ⟨by simp [hb1,h1],fun q hq'=>?_⟩
      rcases List.mem_cons.1 hq' with rfl | hq'
      ·exact hok
      ·exact h2 q hq'
     ·rintro ⟨h1,h2⟩
      refine ⟨?_,fun q hq'=>h2 q (List.mem_cons_of_mem _ hq')⟩
      simp only [List.map_cons,List.cons_append,List.nil_append,List.cons.injEq] at h1
      exact h1.2
    ·rw [rfGo_bad hkd hb]
     constructor
     ·intro h';omega
     ·rintro ⟨h1,h2⟩
      exfalso
      simp only [List.map_cons,List.cons_append,List.nil_append,List.cons.injEq] at h1
      have hok:=h2 p (List.mem_cons_self)
      unfold rfOk at hok
      rw [h1.1,Int.toNat_natCast] at hok
      simp only [Bool.and_eq_true,beq_iff_eq] at hok
      unfold Gr.rfBad at hb
      rw [hq] at hb
      simp only at hb
      rw [h1.1,hok.1.1,hok.1.2,hok.2] at hb
      simp at hb
   ·have hb:g.rfBad r k=true:=by unfold Gr.rfBad;rw [List.getElem?_eq_none (by omega)]
    rw [rfGo_bad hkd hb,List.drop_eq_nil_of_le (by omega)]
    constructor
    ·intro h';omega
    ·rintro ⟨h1,-⟩;simp at h1
  ·rw [if_neg hkd,rfGo_skip hkd,rfGo_iff d (r+1) k (by omega) hk];rfl
theorem rf_iff {g:Gr}:¬ 0≤g.rfAt↔g.rf.map (·.2)=readsFrom g 0 g.n∧∀ p∈g.rf,rfOk g p=true:=by
 unfold Gr.rfAt
 have:=rfGo_iff (g:=g) g.n 0 0 (by omega) (by omega)
 rw [List.drop_zero] at this;exact this
def rmwOk (g:Gr) (p:Int×Int):Bool:=g.is p.1 1&&g.is p.2 2&&g.isNext p.1 p.2&&(g.ev p.1.toNat).loc==(g.ev p.2.toNat).loc
theorem rises1 {l:List (Int×Int)}:(∀ (i:Nat) (p q:Int×Int),l[i]?=some p→l[i+1]?=some q→p.1<q.1)↔l.Pairwise fun p q=>p.1<q.1:=by
 constructor
 ·intro h
  induction l with
  | nil=>exact List.Pairwise.nil
  | cons p l ih =>
   have ih:=ih fun i a b ha hb=>h (i+1) a b (by simpa using ha) (by simpa using hb)
   refine List.Pairwise.cons (fun x hx=>?_) ih
   cases l with
   | nil=>cases hx
   | cons q l =>
    have h0:=h 0 p q rfl rfl
    rcases List.mem_cons.1 hx with rfl | hx
    ·exact h0
    ·have:=(List.pairwise_cons.1 ih).1 x hx;omega
 ·intro h i p q hp hq
  obtain ⟨h1,e1⟩:=List.getElem?_eq_some_iff.1 hp
  obtain ⟨h2,e2⟩:=List.getElem?_eq_some_iff.1 hq
  have:=List.pairwise_iff_getElem.1 h i (i+1) h1 h2 (by omega)
  rw [e1,e2] at this;exact this
theorem rmw_iff {g:Gr}:¬ 0≤g.rmwAt↔(g.rmw.Pairwise fun p q=>p.1<q.1)∧∀ p∈g.rmw,rmwOk g p=true:=by
 unfold Gr.rmwAt
 constructor
 ·intro h
  have hb:=firstBad_get h
  refine ⟨rises1.1 fun i p q hp hq=>?_,fun p hp=>?_⟩
  ·have:=hb (i+1) q hq
   unfold Gr.rmwBad at this
   simp only [Bool.or_eq_false_iff,Bool.and_eq_false_imp,decide_eq_true_eq] at this
   have h1:=this.1.1.1.1 (by omega)
   rw [Nat.zero_add,Nat.add_sub_cancel,List.getD_eq_getElem?_getD,hp,Option.getD_some] at h1
   simp only [decide_eq_false_iff_not] at h1
   omega
  ·obtain ⟨j,hj⟩:=List.mem_iff_getElem?.1 hp
   have:=hb j p hj
   unfold Gr.rmwBad at this
   simp only [Bool.or_eq_false_iff,Bool.not_eq_false'] at this
   unfold rmwOk
   rw [this.1.1.1.2,this.1.1.2,this.1.2,this.2];rfl
 ·rintro ⟨hr,hp⟩
  refine firstBad_none fun j p hj=>?_
  have hok:=hp p (List.mem_of_getElem? hj)
  unfold rmwOk at hok
  simp only [Bool.and_eq_true] at hok
  unfold Gr.rmwBad
  rw [hok.1.1.1,hok.1.1.2,hok.1.2,hok.2]
  simp only [Bool.not_true,Bool.or_false]
  by_cases h0:0<0+j
  ·obtain ⟨i,rfl⟩:∃ i,j=i+1:=⟨j - 1,by omega⟩
   have hlt:=(List.getElem?_eq_some_iff.1 hj).1
   have hi:g.rmw[i]?=some g.rmw[i]:=List.getElem?_eq_getElem (by omega)
   have:=rises1.2 hr i _ _ hi hj
   rw [Nat.zero_add,Nat.add_sub_cancel,List.getD_eq_getElem?_getD,hi,Option.getD_some]
   have e1:decide (p.1≤g.rmw[i].1)=false:=by simp;omega
   rw [e1];simp
  ·have:decide (0<0+j)=false:=by simpa using h0
   rw [this];rfl
theorem co_iff {g:Gr}:¬ 0≤g.coAt↔(g.co.length:Int)=g.cells∧∀ c,c<g.co.length→g.coBad c (g.co.getD c [])=false:=by
 unfold Gr.coAt
 constructor
 ·intro h
  have hlen:(g.co.length:Int)=g.cells:=by
   apply Classical.byContradiction;intro hne
   rw [if_pos (.inr hne)] at h;omega
  refine ⟨hlen,fun c hc=>?_⟩
  have hls:g.lists=g.co.length:=by unfold Gr.lists;omega
  have hf:¬ g.coFirst<g.lists:=fun hlt=>by rw [if_pos (.inl hlt)] at h;omega
  cases hb:g.coBad c (g.co.getD c [])
  ·rfl
  ·exfalso
   apply hf
   unfold Gr.coFirst
   cases hfd:(List.range g.lists).find? (fun c=>g.coBad c (g.co.getD c [])) with
   | none =>
    rw [List.find?_eq_none] at hfd
    exact absurd hb (hfd c (List.mem_range.2 (by omega)))
   | some u =>
    have:=List.mem_of_find?_eq_some hfd
    rw [List.mem_range] at this
    exact this
 ·rintro ⟨h1,h2⟩
  have hls:g.lists=g.co.length:=by unfold Gr.lists;omega
  have hf:(List.range g.lists).find? (fun c=>g.coBad c (g.co.getD c []))=none:=by
   rw [List.find?_eq_none]
   intro c hc
   rw [h2 c (by have:=List.mem_range.1 hc;omega)];simp
  have hcf:g.coFirst=g.lists:=by unfold Gr.coFirst;rw [hf];rfl
  rw [if_neg (by rw [hcf];omega)];omega
theorem dep_src {g:Gr} {l:List (Int×Int)} {f:Int→Bool}:¬ 0≤g.depAt false l f↔l=[]:=by
 unfold Gr.depAt
 constructor
 ·intro h
  cases l with
  | nil=>rfl
  | cons p l =>
   have:=firstBad_get h 0 p rfl
   unfold Gr.depBad at this
   simp at this
 ·rintro rfl;unfold Gr.firstBad;omega
theorem check_iff {g:Gr} {words:Bool}:(g.check words).1=0↔g.size=true∧¬ 0≤g.initAt words∧¬ 0≤g.evAt words∧¬ 0≤g.rfAt∧¬ 0≤g.coAt∧¬ 0≤g.rmwAt ∧
  ¬ 0≤g.depAt words g.addr (fun k=>k==1||k==2)∧¬ 0≤g.depAt words g.data (fun k=>k==2)∧¬ 0≤g.depAt words g.ctrl (fun k=>k==1||k==2||k==3):=by
 refine ⟨check_zero,?_⟩
 rintro ⟨h1,h2,h3,h4,h5,h6,h7,h8,h9⟩
 unfold Gr.check
 rw [h1,if_neg (by simp),if_neg h2,if_neg h3,if_neg h4,if_neg h5,if_neg h6,if_neg h7,if_neg h8,if_neg h9]
end Go.Proofs.Tst
/-
  Is a relation of the program's the document's?
-/
namespace Go.Proofs.Tst
open Go Go.Vc
end Go.Proofs.Tst
/-
  Changed graphs in memory.
-/
namespace Go.Proofs.Tst
open Go Go.Vc
theorem rlc_rl {h:Heap} {v:Value} {L:List (List Value)} (t:RLc h v L):RL h v L:=by
 obtain ⟨us,h1,h2⟩:=t
 exact ⟨us,h1,fun i l hl=>by obtain ⟨a,c,h3,-,h5⟩:=h2 i l hl;exact ⟨_,h3,h5⟩⟩
theorem rlc_nil {h:Heap}:RLc h (.slice none 0 0) []:=⟨[],⟨rfl,_,_,rfl,.inl rfl⟩,fun i l hl=>by simp at hl⟩
theorem GrAt.setR {h:Heap} {q:GV} {g:Gr} (t:GrAt h q g) {l:List (Int×Int)} {a:Option Addr} {c:Nat} (w:Rd 2 h (.slice a l.length c) l.length (pairsV l)) (b:l.length≤8796093022208):GrAt h { q with r:=a,rc:=c } { g with rmw:=l }:=
 ⟨t.e,t.f,t.o,w,t.a,t.d,t.c,⟨t.fits.e,t.fits.f,t.fits.o,b,t.fits.a,t.fits.d,t.fits.c,t.fits.l⟩,t.cap,t.l⟩
end Go.Proofs.Tst
/-
  The document's relations of a graph.
-/
namespace Go.Proofs.Tst
open Go Go.Vc
end Go.Proofs.Tst
/-
  GraphLaws.
-/
namespace Go.Proofs.Tst
open Go Go.Vc
theorem kindsV_get {g:Gr} {k:Int} {i:Nat} (hi:i<g.n):(kindsV g k g.n)[i]?=some ((g.ev i).kind==k):=by
 unfold kindsV
 rw [List.getElem?_map,List.getElem?_take_of_lt hi,Gr.ev_get hi];rfl
end Go.Proofs.Tst
/-
  whole: are facts the document's?
-/
namespace Go.Proofs.Tst
open Go Go.Vc
end Go.Proofs.Tst
/-
  GraphDerives.
-/
namespace Go.Proofs.Tst
open Go Go.Vc
theorem FactsAt.fr {h h':Heap} {lo l r:Nat} {p:Nat→Value} {rd wr fe:Value} {g:Gr} (F:FactsAt h lo p rd wr fe g) (f:Fr l r h h') (hd:r≤lo):FactsAt h' lo p rd wr fe g:=by
 obtain ⟨A,B,D,dlo,dap⟩:=F.rel
 have a1:=F.hrd.at_
 have a2:=F.hwr.at_
 have a3:=F.hfe.at_
 have fz:=f.size
 exact ⟨F.n,⟨A,B,D.fr f (fun k hk=>by have:=dlo k hk;omega),fun k hk=>by have:=dlo k hk;omega,dap⟩,F.hrd.fr f (by omega),F.hwr.fr f (by omega),F.hfe.fr f (by omega),F.off⟩
end Go.Proofs.Tst
/-
  Events changed in place.
-/
namespace Go.Proofs.Tst
open Go Go.Vc
def setMode (E:List Ev) (i:Nat) (m:Int):List Ev:=E.set i { E.getD i default with mode:=m }
@[simp] theorem length_setMode {E:List Ev} {i:Nat} {m:Int}:(setMode E i m).length=E.length:=by simp [setMode]
theorem evsV_setMode:∀ {E:List Ev} {i:Nat} {m:Int},i<E.length→(evsV E).set (i * 5+4) (.int .i64 m)=evsV (setMode E i m)
 | [],i,_,h=>by simp at h
 | e :: E,0,m,_=>rfl
 | e :: E,i+1,m,h=>by
  have ih:=evsV_setMode (E:=E) (i:=i) (m:=m) (by simpa using h)
  have h1:setMode (e :: E) (i+1) m=e :: setMode E i m:=by simp [setMode]
  have h2:e.cells.length=5:=rfl
  rw [h1,evsV_cons,evsV_cons,← ih,List.set_append_right _ _ (by omega),h2]
  congr 2;omega
theorem putAt_right {a:List Value}:∀ (ws r:List Value) (o:Nat),putAt (a++r) (a.length+o) ws=a++putAt r o ws
 | [],_,_=>rfl
 | v :: ws,r,o=>by
  show putAt ((a++r).set (a.length+o) v) (a.length+o+1) ws=a++putAt (r.set o v) (o+1) ws
  rw [List.set_append_right _ _ (by omega),Nat.add_sub_cancel_left,Nat.add_assoc]
  exact putAt_right ws _ _
theorem putAt_left {r:List Value}:∀ (ws a:List Value) (o:Nat),o+ws.length≤a.length→putAt (a++r) o ws=putAt a o ws++r
 | [],_,_,_=>rfl
 | v :: ws,a,o,h=>by
  show putAt ((a++r).set o v) (o+1) ws=putAt (a.set o v) (o+1) ws++r
  simp at h
  rw [List.set_append_left _ _ (by omega)]
  exact putAt_left ws _ _ (by simp;omega)
theorem evsV_put:∀ {E:List Ev} {i:Nat} {e:Ev},i<E.length→putAt (evsV E) (i * 5) e.cells=evsV (E.set i e)
 | [],i,_,h=>by simp at h
 | x :: E,0,e,_=>rfl
 | x :: E,i+1,e,h=>by
  have ih:=evsV_put (E:=E) (i:=i) (e:=e) (by simpa using h)
  have h2:(i+1) * 5=x.cells.length+i * 5:=by show _=5 + _;omega
  rw [List.set_cons_succ,evsV_cons,evsV_cons,← ih,h2]
  exact putAt_right _ _ _
theorem holder_ev {h:Heap} {b n c lo:Nat} {E:List Ev} (w:Holder 5 h (.slice (some ⟨b,0,none⟩) n c) n (evsV E) lo) {i:Nat} (hi:i<n) :
  Wr h b (i * 5+4) 1∧Wr h b (i * 5) 5∧(∀ h' m,Sto h h' b (i * 5+4) [.int .i64 m]→Holder 5 h' (.slice (some ⟨b,0,none⟩) n c) n (evsV (setMode E i m)) lo)∧∀ h' e,Sto h h' b (i * 5) e.cells→Holder 5 h' (.slice (some ⟨b,0,none⟩) n c) n (evsV (E.set i e)) lo:=by
 have hl:=w.1
 rw [length_evsV] at hl
 have hE:i<E.length:=by omega
 obtain ⟨b',c',rest,h1,h2,h3,h4⟩:=w.blk (by omega)
 cases h1
 refine ⟨h2.wr (by simp;omega),h2.wr (by simp;omega),fun h' m s=>⟨by simp;omega,.inr ⟨b,c,rest,rfl,?_,h3,h4⟩⟩,fun h' e s=>⟨by simp;omega,.inr ⟨b,c,rest,rfl,?_,h3,h4⟩⟩⟩
 ·have:=s.row h2
  rw [putAt_one,List.set_append_left _ _ (by simp;omega),evsV_setMode hE] at this
  exact this
 ·have:=s.row h2
  rw [putAt_left _ _ _ (by simp [Ev.cells];omega),evsV_put hE] at this
  exact this
section
variable {h h' : Heap} {q : GV} {g : Gr} {lo : Nat}
theorem GrOwn.evs' {E':List Ev} {b:Nat} (w:GrOwn h q g lo) (f:Fr b (b+1) h h') (hb:q.e=some ⟨b,0,none⟩) (hl:E'.length=g.evs.length) (he:Holder 5 h' (.slice (some ⟨b,0,none⟩) g.evs.length q.ec) g.evs.length (evsV E') lo) :
  GrOwn h' q { g with evs:=E' } lo:=by
 obtain ⟨us,o1,o2,o3⟩:=w.o
 have lb:bl (.slice q.e g.evs.length q.ec)=b∧bh (.slice q.e g.evs.length q.ec)=b+1:=by rw [hb];exact ⟨rfl,rfl⟩
 have key:∀ x,Off (.slice q.e g.evs.length q.ec) x→bh x≤b∨b+1≤bl x∨b+1≤b:=fun x hx=>by
  unfold Off at hx
  have:=bh_bl x
  omega
 have ha:Away b (b+1) (.slice q.o g.co.length q.oc) us:=fun x hx=>key x (o3 x hx _ (by simp)).symm
 have hw:=w.off
 refine ⟨?_,w.f.fr f (key _ (hw _ (by simp))),⟨us,o1.fr f ha,o2,?_⟩,w.r.fr f (key _ (hw _ (by simp))),w.a.fr f (key _ (hw _ (by simp))),w.d.fr f (key _ (hw _ (by simp))),w.c.fr f (key _ (hw _ (by simp))),?_,⟨?_,w.fits.f,w.fits.o,w.fits.r,w.fits.a,w.fits.d,w.fits.c,w.fits.l⟩⟩
 ·dsimp only;rw [hl,hb];exact he
 ·dsimp only;rw [hl];exact o3
 ·dsimp only;rw [hl];exact hw
 ·dsimp only;rw [hl];exact w.fits.e
theorem GrOwn.fr {l r:Nat} (w:GrOwn h q g lo) (f:Fr l r h h') (hd:r≤lo∨h.size≤l∨r≤l):GrOwn h' q g lo:=by
 obtain ⟨us,o1,o2,o3⟩:=w.o
 have k:∀ {s n:Nat} {v:Value} {xs:List Value},Holder s h v n xs lo→Holder s h' v n xs lo:=fun o=>o.fr f (by have:=o.at_;have:=o.top;omega)
 refine ⟨k w.e,k w.f,⟨us,o1.fr f ?_,o2,o3⟩,k w.r,k w.a,k w.d,k w.c,w.off,w.fits⟩
 rcases hd with hd | hd | hd
 ·exact o1.below hd
 ·exact o1.above hd
 ·exact Away.none hd
theorem GrOwn.lower {lo':Nat} (w:GrOwn h q g lo) (hl:lo'≤lo):GrOwn h q g lo':=by
 obtain ⟨us,o1,o2⟩:=w.o
 exact ⟨w.e.lower hl,w.f.lower hl,⟨us,o1.lower hl,o2⟩,w.r.lower hl,w.a.lower hl,w.d.lower hl,w.c.lower hl,w.off,w.fits⟩
theorem GrOwn.ev (w:GrOwn h q g lo) (hn:0<g.n):∃ b,q.e=some ⟨b,0,none⟩∧lo≤b∧b<h.size∧(∀ i,i<g.n→Wr h b (i * 5+4) 1∧Wr h b (i * 5) 5) ∧
  (∀ h' i m,i<g.n→Sto h h' b (i * 5+4) [.int .i64 m]→GrOwn h' q { g with evs:=setMode g.evs i m } lo)∧∀ h' i e,i<g.n→Sto h h' b (i * 5) e.cells→GrOwn h' q { g with evs:=g.evs.set i e } lo:=by
 have we:=w.e
 obtain ⟨b,c,rest,h1,h2,h3,h4⟩:=we.blk hn
 have hq:q.e=some ⟨b,0,none⟩:=by injection h1
 rw [hq] at we
 exact ⟨b,hq,h4,h2.lt,fun i hi=>⟨(holder_ev we hi).1,(holder_ev we hi).2.1⟩,fun h' i m hi s=>w.evs' s.fr hq (by simp) ((holder_ev we hi).2.2.1 _ _ s),fun h' i e hi s=>w.evs' s.fr hq (by simp) ((holder_ev we hi).2.2.2 _ _ s)⟩
end
end Go.Proofs.Tst
/-
  Relations in memory, some at once; chains of steps.
-/
namespace Go.Proofs.Tst
open Go Go.Vc
abbrev Mx:=Nat→Nat→Bool
def PA (h:Heap) (v:Value) (n:Nat) (M:Mx):Prop:=∃ lo hi,ProgAt h lo hi v n M
def PN (h:Heap) (lo:Nat) (v:Value) (n:Nat) (M:Mx):Prop:=∃ a b,ProgAt h a b v n M∧lo≤a∧a≤b∧b≤h.size
section
variable {h h' : Heap} {v : Value} {n lo : Nat} {M N : Mx}
theorem PA.fr (t:PA h v n M) (f:Fr 0 0 h h'):PA h' v n M:=by obtain ⟨a,b,t⟩:=t;exact ⟨a,b,t.fr f (by omega)⟩
theorem PA.ptr (t:PA h v n M):∃ b,v=.pointer (some ⟨b,0,none⟩):=by obtain ⟨a,b,t⟩:=t;exact progPtr t
theorem PA.oc (t:PA h v n M):v.oneCell'=true:=by obtain ⟨b,rfl⟩:=t.ptr;rfl
theorem PA.cl (t:PA h v n M):Vc.cl v=[v]:=by obtain ⟨b,rfl⟩:=t.ptr;rfl
theorem PA.congr (t:PA h v n M) (e:∀ i j,i<n→j<n→M i j=N i j):PA h v n N:=by obtain ⟨a,b,t⟩:=t;exact ⟨a,b,t.congr e⟩
theorem PA.le (t:PA h v n M):n≤256:=by obtain ⟨a,b,t⟩:=t;exact t.1
theorem PN.pa (t:PN h lo v n M):PA h v n M:=by obtain ⟨a,b,t,-⟩:=t;exact ⟨a,b,t⟩
theorem PN.of (t:ProgAt h lo h.size v n M):PN h lo v n M:=⟨_,_,t,Nat.le_refl _,by obtain ⟨_,_,_,_,_,_,w⟩:=t;have:=w.at_;omega,Nat.le_refl _⟩
theorem PN.congr (t:PN h lo v n M) (e:∀ i j,i<n→j<n→M i j=N i j):PN h lo v n N:=by obtain ⟨a,b,t,k⟩:=t;exact ⟨a,b,t.congr e,k⟩
theorem PN.lower {lo':Nat} (t:PN h lo v n M) (hl:lo'≤lo):PN h lo' v n M:=by obtain ⟨a,b,t,k⟩:=t;exact ⟨a,b,t,by omega,k.2⟩
theorem PN.fr {l r:Nat} (t:PN h lo v n M) (f:Fr l r h h') (hd:r≤lo∨h.size≤l∨r≤l):PN h' lo v n M:=by
 obtain ⟨a,b,t,k⟩:=t
 have:=f.size
 exact ⟨a,b,t.fr f (by omega),by omega⟩
end
def UA (h:Heap) (lv:Value) (n:Nat) (M:Mx):Prop:=∃ L:List (Value×Nat×Mx),Rd 1 h lv L.length (L.map (·.1))∧RelsAt h L∧L.length≤65536∧maxN L=n∧∀ i j,i<n→j<n→anyM L i j=M i j
theorem UA.fr {h h':Heap} {v:Value} {n:Nat} {M:Mx} (t:UA h v n M) (f:Fr 0 0 h h'):UA h' v n M:=by
 obtain ⟨L,h1,h2,h3⟩:=t;exact ⟨L,h1.fr f,h2.fr f,h3⟩
theorem maxN_same {n:Nat}:∀ {l:List (Value×Mx)},l≠[]→maxN (l.map fun x=>(x.1,n,x.2))=n:=by
 have key:∀ (l:List (Value×Mx)) (m:Nat),m≤n→(l.map fun x=>(x.1,n,x.2)).foldl (fun m (x:Value×Nat×Mx)=>max m x.2.1) m=if l=[] then m else n:=by
  intro l
  induction l with
  | nil=>intro m _;rfl
  | cons x l ih =>
   intro m hm
   simp only [List.map_cons,List.foldl_cons]
   rw [ih _ (by omega),if_neg (by simp:¬ x :: l=[])]
   split
   ·omega
   ·rfl
 intro l hl
 unfold maxN
 rw [key l 0 (Nat.zero_le _),if_neg hl]
theorem UA.mk {h:Heap} {b n:Nat} {M:Mx} (l:List (Value×Mx)) (r:Rw h b (l.map (·.1))) (hp:∀ x∈l,PA h x.1 n x.2) (hne:l≠[]) (hl:l.length≤65536) (hM:∀ i j,i<n→j<n→(l.any fun x=>x.2 i j)=M i j) :
  UA h (.slice (some ⟨b,0,none⟩) l.length l.length) n M:=by
 refine ⟨l.map fun x=>(x.1,n,x.2),?_,fun x hx=>?_,by rw [List.length_map];exact hl,maxN_same hne,fun i j hi hj=>?_⟩
 ·rw [List.length_map,List.map_map]
  exact Rw.rd (s:=1) r (by simp)
 ·obtain ⟨y,hy,rfl⟩:=List.mem_map.1 hx
  exact hp y hy
 ·rw [← hM i j hi hj]
  unfold anyM
  rw [List.any_map]
  congr 1
  funext x
  exact inN_in hi hj
theorem rel_UnionU {lv:Value} {n:Nat} {M:Mx} {h:Heap} (u:UA h lv n M) :
  Con Tryd.prog 58 #[lv] h fun v h'=>Fr 0 0 h h'∧ProgAt h' h.size h'.size v n M:=by
 obtain ⟨L,h1,h2,h3,h4,h5⟩:=u
 exact (rel_Union h1 h2 h3).mono fun v h' ⟨f,t⟩=>⟨f,by rw [h4] at t;exact t.congr h5⟩
def chM (n:Nat) (A:Mx) (l:List Mx):Mx:=l.foldl (fun X Y=>compM n X n Y) A
def CA (h:Heap) (lv:Value) (n:Nat) (l:List Mx):Prop:=∃ ws:List Value,ws.length=l.length∧Rd 1 h lv ws.length ws∧ws.length≤65536∧∀ (i:Nat) (w:Value) (M:Mx),ws[i]?=some w→l[i]?=some M→PA h w n M
theorem CA.fr {h h':Heap} {v:Value} {n:Nat} {l:List Mx} (t:CA h v n l) (f:Fr 0 0 h h'):CA h' v n l:=by
 obtain ⟨L,h1,h2,h3,h4⟩:=t;exact ⟨L,h1,h2.fr f,h3,fun i w M a b=>(h4 i w M a b).fr f⟩
theorem CA.mk {h:Heap} {b n:Nat} (l:List (Value×Mx)) (r:Rw h b (l.map (·.1))) (hp:∀ x∈l,PA h x.1 n x.2) (hl:l.length≤65536):CA h (.slice (some ⟨b,0,none⟩) l.length l.length) n (l.map (·.2)):=by
 refine ⟨l.map (·.1),by simp,?_,by simpa using hl,fun i w M h1 h2=>?_⟩
 ·rw [List.length_map];exact Rw.rd (s:=1) r (by simp)
 ·rw [List.getElem?_map,Option.map_eq_some_iff] at h1 h2
  obtain ⟨x,hx,rfl⟩:=h1
  obtain ⟨y,hy,rfl⟩:=h2
  rw [hx] at hy;cases hy
  exact hp x (List.mem_of_getElem? hx)
def orM (l:List Mx):Mx:=fun i j=>l.any fun X=>X i j
theorem UA.mk' {h:Heap} {b n:Nat} (l:List (Value×Mx)) (r:Rw h b (l.map (·.1))) (hp:∀ x∈l,PA h x.1 n x.2) (hne:l≠[]) (hl:l.length≤65536):UA h (.slice (some ⟨b,0,none⟩) l.length l.length) n (orM (l.map (·.2))):=
 UA.mk l r hp hne hl fun i j _ _=>by unfold orM;rw [List.any_map];rfl
theorem pa_nil {h:Heap} {n:Nat}:∀ x∈([]:List (Value×Mx)),PA h x.1 n x.2:=fun x hx=>by cases hx
theorem pa_cons {h:Heap} {n:Nat} {v:Value} {M:Mx} {l:List (Value×Mx)} (a:PA h v n M) (t:∀ x∈l,PA h x.1 n x.2):∀ x∈(v,M) :: l,PA h x.1 n x.2:=fun x hx=>by
 rcases List.mem_cons.1 hx with rfl | hx
 ·exact a
 ·exact t x hx
def tC (n:Nat) (l:List Mx):Tell:=tell1 fun v _ _ h=>CA h v n l
def tU (n:Nat) (M:Mx):Tell:=tell1 fun v _ _ h=>UA h v n M
def tN (L n:Nat) (M:Mx):Tell:=tell1 fun v _ _ h=>PN h L v n M
theorem stC (n:Nat) (l:List Mx):Stab (tC n l):=Stab.one fun _ _ _ _ _ f t=>t.fr f
theorem stU (n:Nat) (M:Mx):Stab (tU n M):=Stab.one fun _ _ _ _ _ f t=>t.fr f
theorem stN (L n:Nat) (M:Mx):Stab (tN L n M):=Stab.one fun _ _ _ _ _ f t=>t.fr f (.inr (.inr (Nat.le_refl _)))
theorem tC_eq (n:Nat) (l:List Mx) (u:Out) (h:Heap):tC n l [u] h=CA h u.1 n l:=(rfl)
theorem tU_eq (n:Nat) (M:Mx) (u:Out) (h:Heap):tU n M [u] h=UA h u.1 n M:=(rfl)
theorem tN_eq (L n:Nat) (M:Mx) (u:Out) (h:Heap):tN L n M [u] h=PN h L u.1 n M:=(rfl)
def dM (f:Nat→Bool):Mx:=fun i j=>i==j&&f i
theorem exB_congr {n:Nat} {f g:Nat→Bool} (h:∀ k,k<n→f k=g k):exB n f=exB n g:=by
 unfold exB
 rw [Bool.eq_iff_iff,List.any_eq_true,List.any_eq_true]
 exact ⟨fun ⟨k,hk,e⟩=>⟨k,hk,by rw [← h k (List.mem_range.1 hk)];exact e⟩,fun ⟨k,hk,e⟩=>⟨k,hk,by rw [h k (List.mem_range.1 hk)];exact e⟩⟩
section
variable {n i j : Nat} {A B : Mx} {f : Nat → Bool}
theorem interM_in (hi:i<n) (hj:j<n):interM n A n B i j=(A i j&&B i j):=by unfold interM;rw [inN_in hi hj,inN_in hi hj]
theorem minusM_in (hi:i<n) (hj:j<n):minusM n A n B i j=(A i j&&!B i j):=by unfold minusM;rw [inN_in hi hj,inN_in hi hj]
theorem compM_in (hi:i<n) (hj:j<n):compM n A n B i j=exB n fun k=>A i k&&B k j:=by
 show exB n (fun k=>inN n A i k&&inN n B k j)=_
 exact exB_congr fun k hk=>by rw [inN_in hi hk,inN_in hk hj]
theorem exB_one (hi:i<n) {g:Nat→Bool}:(exB n fun k=>i==k&&g k)=g i:=by
 rw [Bool.eq_iff_iff,exB_true]
 constructor
 ·rintro ⟨k,hk,h⟩
  simp only [Bool.and_eq_true,beq_iff_eq] at h
  rw [h.1];exact h.2
 ·intro h;exact ⟨i,hi,by simp [h]⟩
theorem compM_dR (hi:i<n) (hj:j<n):compM n A n (dM f) i j=(A i j&&f j):=by
 rw [compM_in hi hj]
 have:(exB n fun k=>A i k&&dM f k j)=exB n fun k=>j==k&&(A i k&&f k):=exB_congr fun k _=>by
  unfold dM
  have:(k==j)=(j==k):=by rw [Bool.eq_iff_iff,beq_iff_eq,beq_iff_eq];exact eq_comm
  rw [this]
  cases A i k <;> cases (j==k) <;> cases f k <;> rfl
 rw [this,exB_one hj]
theorem compM_dL (hi:i<n) (hj:j<n):compM n (dM f) n A i j=(f i&&A i j):=by
 rw [compM_in hi hj]
 have:(exB n fun k=>dM f i k&&A k j)=exB n fun k=>i==k&&(f i&&A k j):=exB_congr fun k _=>by
  unfold dM
  cases A k j <;> cases (i==k) <;> cases f i <;> rfl
 rw [this,exB_one hi]
end
theorem arm_chain {v0 lv:Value} {n:Nat} {A:Mx} {l:List Mx} {h:Heap} (h0:PA h v0 n A) (hl:CA h lv n l) (ht:TabAt h) :
  Con Tryd.prog 154 #[v0,lv] h fun v h'=>Fr 0 0 h h'∧PA h' v n (chM n A l)∧(l≠[]→PN h' h.size v n (chM n A l)):=by
 refine con_q1 ?_
 obtain ⟨ws',hwl,hr,hlen,hp⟩:=hl
 obtain ⟨la,lc,rfl⟩:=hr.is
 have p0:Fr 0 0 h h:=.refl _ _ _
 simp -dsimp only [go_sem]
 refine loop_intro (fun s:Nat×Value=>[(0,s.2),(7,.slice la ws'.length lc),(8,.int .i64 ws'.length),(9,.int .i64 s.1)])
  (fun s h'=>s.1≤ws'.length∧Fr 0 0 h h'∧PA h' s.2 n (chM n A (l.take s.1))∧(0<s.1→PN h' h.size s.2 n (chM n A (l.take s.1)))) (fun s=>ws'.length - s.1) (0,v0) ?_ ?_ ?_
 ·simp [Le,find]
 ·exact ⟨by omega,p0,h0,by simp⟩
 clear p0
 rintro ⟨i,v⟩ h1 ⟨hi,p0,t,tn⟩
 dsimp only at hi t tn ⊢
 have p0_z:=p0.size
 by_cases hlt:i<ws'.length
 ·have e1:((i:Int)<(ws'.length:Int)):=by omega
  have hw:ws'[i]?=some ws'[i]:=List.getElem?_eq_getElem hlt
  have hM:l[i]?=some (l[i]'(by omega)):=List.getElem?_eq_getElem (by omega)
  have tw:=(hp i _ _ hw hM).fr p0
  generalize ws'[i]=w at hw tw
  have hs:l.take (i+1)=l.take i++[l[i]'(by omega)]:=by rw [List.take_add_one,hM];rfl
  generalize l[i]'(by omega)=B at hM tw hs
  obtain ⟨hl1,a',c',k1,k2⟩:=hr
  cases k1
  rcases k2 with k2 | ⟨b,o,rfl,hc⟩
  ·omega
  have hc:=p0.keep (hc i _ hw) (by omega)
  simp -dsimp only [go_sem,e1,hc]
  obtain ⟨_,_,t1⟩:=t
  obtain ⟨_,_,t2⟩:=tw
  refine call_of (rel_Comp t1 t2 (ht.fr p0 (.inr rfl))) ?_
  rintro v2 h2 ⟨f2,t3⟩
  rw [Nat.max_self] at t3
  have q2:=f2.size
  have p0_z:=p0.size
  have f2_z:=f2.size
  replace p0:=p0.F f2
  have hch:chM n A (l.take (i+1))=compM n (chM n A (l.take i)) n B:=by rw [hs];unfold chM;rw [List.foldl_append];rfl
  simp -dsimp only [go_sem]
  simp -dsimp (disch:=omega) only [wrap64]
  refine ⟨(i+1,v2),by dsimp only;omega,by simp [Le,find],by dsimp only;omega,p0,?_,fun _=>?_⟩
  ·dsimp only;rw [hch];exact ⟨_,_,t3⟩
  ·dsimp only;rw [hch];exact (PN.of t3).lower (by omega)
 ·obtain rfl:i=ws'.length:=by omega
  simp -dsimp only [go_sem,Int.lt_irrefl]
  rw [hwl,List.take_length] at t tn
  refine ⟨p0,t,fun hne=>tn ?_⟩
  exact List.length_pos_iff.2 hne
end Go.Proofs.Tst
/-
  The words' memory model in memory: its parts.
-/
namespace Go.Proofs.Tst
open Go Go.Vc
def mcells (q:GV) (g:Gr) (c:Nat→Nat) (rd wr fe:Value) (d:Nat→Nat):List Value:=[.int .i64 g.cells,.slice q.e g.evs.length q.ec,.slice q.f g.rf.length q.fc,.slice q.o g.co.length q.oc,.slice q.r g.rmw.length q.rc,.slice q.a g.addr.length q.ac,.slice q.d g.data.length q.dc,.slice q.c g.ctrl.length q.cc,
 .pointer (some ⟨c 0,0,none⟩),.pointer (some ⟨c 1,0,none⟩),.pointer (some ⟨c 2,0,none⟩),.pointer (some ⟨c 9,0,none⟩),.pointer (some ⟨c 3,0,none⟩),.pointer (some ⟨c 4,0,none⟩),.pointer (some ⟨c 5,0,none⟩),.pointer (some ⟨c 6,0,none⟩),.pointer (some ⟨c 7,0,none⟩),.pointer (some ⟨c 8,0,none⟩),rd,wr,fe,
 .pointer (some ⟨d 0,0,none⟩),.pointer (some ⟨d 1,0,none⟩),.pointer (some ⟨d 2,0,none⟩),.pointer (some ⟨d 3,0,none⟩),.pointer (some ⟨d 4,0,none⟩),.pointer (some ⟨d 5,0,none⟩)]
def armM (g:Gr):Nat→Mx
 | 0=>rfeM g
 | 1=>rfiM g
 | 2=>coeM g
 | 3=>coiM g
 | 4=>freM g
 | _=>dM (acqB g)
structure Md (h:Heap) (mb:Nat) (q:GV) (g:Gr) (c:Nat→Nat) (rd wr fe:Value) (d:Nat→Nat):Prop where
 row:Rw h mb (mcells q g c rd wr fe d)
 gr:GrAt h q g
 n:g.n≤256
 rel:∀ k,k<10→PA h (.pointer (some ⟨c k,0,none⟩)) g.n (relM g k)
 hm:∀ k,k<6→PA h (.pointer (some ⟨d k,0,none⟩)) g.n (armM g k)
 rd:Rd 1 h rd (kindsV g 1 g.n).length (boolsV (kindsV g 1 g.n))
 wr:Rd 1 h wr (kindsV g 2 g.n).length (boolsV (kindsV g 2 g.n))
 fe:Rd 1 h fe (kindsV g 3 g.n).length (boolsV (kindsV g 3 g.n))
theorem Md.fr {h h':Heap} {mb:Nat} {q:GV} {g:Gr} {c:Nat→Nat} {rd wr fe:Value} {d:Nat→Nat} (m:Md h mb q g c rd wr fe d) (f:Fr 0 0 h h'):Md h' mb q g c rd wr fe d:=
 ⟨m.row.fr f (by omega),m.gr.fr f,m.n,fun k hk=>(m.rel k hk).fr f,fun k hk=>(m.hm k hk).fr f,m.rd.fr f,m.wr.fr f,m.fe.fr f⟩
structure Mg (h:Heap) (mb:Nat) (q:GV) (g:Gr):Prop where
 row:∃ rest,Rw h mb (gcells q g++rest)
 gr:GrAt h q g
 n:g.n≤256
theorem Mg.fr {h h':Heap} {mb:Nat} {q:GV} {g:Gr} (m:Mg h mb q g) (f:Fr 0 0 h h'):Mg h' mb q g:=
 ⟨by obtain ⟨r,w⟩:=m.row;exact ⟨r,w.fr f (by omega)⟩,m.gr.fr f,m.n⟩
theorem Md.mg {h:Heap} {mb:Nat} {q:GV} {g:Gr} {c:Nat→Nat} {rd wr fe:Value} {d:Nat→Nat} (m:Md h mb q g c rd wr fe d):Mg h mb q g:=⟨⟨_,m.row⟩,m.gr,m.n⟩
theorem kinds_len (g:Gr) (k:Int):(kindsV g k g.n).length=g.n:=by simp [kindsV];unfold Gr.n;omega
theorem atB_kinds {g:Gr} {k:Int} {i:Nat} (hi:i<g.n):atB (kindsV g k g.n) i=isK g k i:=atB_get (kindsV_get hi)
theorem atB_with {g:Gr} {x:Int} {i:Nat} (hi:i<g.n):atB (withB g [x]) i=isM g x i:=by
 refine atB_get ?_
 unfold withB isM
 rw [List.getElem?_map,Gr.ev_get hi]
 simp only [Option.map_some,Option.some.injEq]
 rw [Bool.eq_iff_iff];simp
section
variable {h : Heap} {mb : Nat} {q : GV} {g : Gr} {c : Nat → Nat} {rd wr fe : Value} {d : Nat → Nat}
theorem arm_model_set (m:Mg h mb q g) {sv:Value} {l:List Bool} (hl:Rd 1 h sv l.length (boolsV l)) (hb:l.length≤4611686018427387904) {f:Nat→Bool} (hf:∀ i,i<g.n→atB l i=f i) :
  Con Tryd.prog 149 #[.pointer (some ⟨mb,0,none⟩),sv] h fun v h'=>Fr 0 0 h h'∧PN h' h.size v g.n (dM f):=by
 refine con_q9 ?_
 have hn:=m.n
 have hcl:clampN (g.n:Int)=g.n:=by unfold clampN;omega
 have p0:Fr 0 0 h h:=.refl _ _ _
 obtain ⟨rest,r1⟩:=m.row
 unfold gcells at r1
 simp only [List.cons_append,List.nil_append] at r1
 simp -dsimp only [go_sem,evs_len,r1.cell]
 refine call_of (rel_Ident g.n hl hb) ?_
 rintro v h1 ⟨f1,t⟩
 rw [hcl] at t
 have f1_z:=f1.size
 replace p0:=p0.F f1
 replace r1:=r1.F f1
 simp -dsimp only [go_sem,r1.cell]
 exact ⟨p0,(PN.of t).congr fun i j hi hj=>by
  show (i==j&&atB l i)=(i==j&&f i)
  rw [hf i hi]⟩
theorem arm_model_mode (m:Mg h mb q g) (x:Int) :
  Con Tryd.prog 109 #[.pointer (some ⟨mb,0,none⟩),.int .i64 x] h fun v h'=>Fr 0 0 h h'∧PN h' h.size v g.n (dM (isM g x)):=by
 refine con_q7 ?_
 have hn:=m.n
 have p0:Fr 0 0 h h:=.refl _ _ _
 obtain ⟨rest,r1⟩:=m.row
 unfold gcells at r1
 simp only [List.cons_append,List.nil_append] at r1
 simp -dsimp only [go_sem,r1.cell]
 intro b2 h2 n2
 have n2_z:=n2.az
 replace p0:=p0.F n2.f0
 replace r1:=r1.F n2.f0
 have r2:=n2.row
 simp -dsimp only [go_sem,r1.cell,r2.cell]
 refine call_of (graph_With (m.gr.fr p0) (by omega) (m:=[x]) (Rw.rd (s:=1) (n:=1) (c:=1) r2 rfl) (by simp)) ?_
 rintro v3 h3 ⟨f3,o3⟩
 have f3_z:=f3.size
 replace p0:=p0.F f3
 replace r1:=r1.F f3
 replace r2:=r2.F f3
 have hwl:(withB g [x]).length=g.n:=by simp [withB,Gr.n]
 simp -dsimp only [go_sem,r1.cell,r2.cell]
 refine call_of (arm_model_set (m.fr p0) (l:=withB g [x]) (by rw [hwl];exact o3.rd) (by omega) (fun i hi=>atB_with hi)) ?_
 rintro v4 h4 ⟨f4,t4⟩
 have f4_z:=f4.size
 replace p0:=p0.F f4
 replace r1:=r1.F f4
 replace r2:=r2.F f4
 simp -dsimp only [go_sem,r1.cell,r2.cell]
 exact ⟨p0,t4.lower (by omega)⟩
theorem arm_model_obs (m:Md h mb q g c rd wr fe d) :
  Con Tryd.prog 114 #[.pointer (some ⟨mb,0,none⟩)] h fun v h'=>Fr 0 0 h h'∧PN h' h.size v g.n (obsM g):=by
 refine con_q8 ?_
 have p0:Fr 0 0 h h:=.refl _ _ _
 have r1:=m.row
 unfold mcells at r1
 simp -dsimp only [go_sem,r1.cell]
 intro b2 h2 n2
 have n2_z:=n2.az
 replace p0:=p0.F n2.f0
 replace r1:=r1.F n2.f0
 have r2:=n2.row
 simp -dsimp only [go_sem,r1.cell,r2.cell]
 have m2:=m.fr p0
 refine call_of (rel_UnionU (UA.mk' [(.pointer (some ⟨d 0,0,none⟩),rfeM g),(.pointer (some ⟨d 2,0,none⟩),coeM g),(.pointer (some ⟨d 4,0,none⟩),freM g)] r2 (pa_cons (m2.hm 0 (by decide)) (pa_cons (m2.hm 2 (by decide)) (pa_cons (m2.hm 4 (by decide)) pa_nil))) (by simp) (by simp))) ?_
 rintro v3 h3 ⟨f3,t3⟩
 have f3_z:=f3.size
 replace p0:=p0.F f3
 replace r1:=r1.F f3
 replace r2:=r2.F f3
 simp -dsimp only [go_sem,r1.cell,r2.cell]
 exact ⟨p0,((PN.of t3).lower (by omega)).congr fun i j _ _=>by simp [orM,obsM,Bool.or_assoc]⟩
set_option maxHeartbeats 2000000 in
theorem arm_model_dob (m:Md h mb q g c rd wr fe d) (ht:TabAt h) :
  Con Tryd.prog 115 #[.pointer (some ⟨mb,0,none⟩)] h fun v h'=>Fr 0 0 h h'∧PN h' h.size v g.n (dobM g):=by
 refine con_q5 ?_
 have hn:=m.n
 have hkl:=kinds_len g
 have p0:Fr 0 0 h h:=.refl _ _ _
 have r1:=m.row
 unfold mcells at r1
 simp -dsimp only [go_sem,r1.cell]
 refine call_of (arm_model_set (m.fr p0).mg (m.fr p0).wr (by rw [hkl];omega) (fun i hi=>atB_kinds hi)) ?_
 rintro v3 hL ⟨f3,w3⟩
 have f3_z:=f3.size
 replace p0:=p0.F f3
 replace r1:=r1.F f3
 obtain ⟨w,rfl⟩:=w3.pa.ptr
 simp -dsimp only [go_sem,r1.cell]
 have P0:∀ h',Fr 0 0 hL h'→Fr 0 0 h h':=fun h' f=>p0.trans f
 have R:∀ k,k<10→∀ h',Fr 0 0 hL h'→PA h' (.pointer (some ⟨c k,0,none⟩)) g.n (relM g k):=fun k hk h' f=>(m.rel k hk).fr (P0 h' f)
 have E:∀ k,k<6→∀ h',Fr 0 0 hL h'→PA h' (.pointer (some ⟨d k,0,none⟩)) g.n (armM g k):=fun k hk h' f=>(m.hm k hk).fr (P0 h' f)
 have W:∀ h',Fr 0 0 hL h'→PA h' (.pointer (some ⟨w,0,none⟩)) g.n (dM (isK g 2)):=fun h' f=>w3.pa.fr f
 have hLz:h.size≤hL.size:=by omega
 clear p0 r1
 refine free_intro [(16,[16],tC g.n [(dM (isK g 2))]),(17,[17],tN hL.size g.n (chM g.n (relM g 8) [(dM (isK g 2))])),(29,[29],tC g.n [(relM g 0),(dM (isK g 2))]),(30,[30],tN hL.size g.n (chM g.n (relM g 6) [(relM g 0),(dM (isK g 2))])),(41,[41],tU g.n (orM [(relM g 8),(relM g 7)])),(42,[42],tN hL.size g.n (orM [(relM g 8),(relM g 7)])),(47,[47],tC g.n [(coiM g)]),(48,[48],tN hL.size g.n (chM g.n (orM [(relM g 8),(relM g 7)]) [(coiM g)])),(59,[59],tU g.n (orM [(relM g 6),(relM g 7)])),(60,[60],tN hL.size g.n (orM [(relM g 6),(relM g 7)])),(65,[65],tC g.n [(rfiM g)]),(66,[66],tN hL.size g.n (chM g.n (orM [(relM g 6),(relM g 7)]) [(rfiM g)])),(67,[67],tU g.n (orM [(relM g 6),(relM g 7),(chM g.n (relM g 8) [(dM (isK g 2))]),(chM g.n (relM g 6) [(relM g 0),(dM (isK g 2))]),(chM g.n (orM [(relM g 8),(relM g 7)]) [(coiM g)]),(chM g.n (orM [(relM g 6),(relM g 7)]) [(rfiM g)])])),(68,[68],tN hL.size g.n (orM [(relM g 6),(relM g 7),(chM g.n (relM g 8) [(dM (isK g 2))]),(chM g.n (relM g 6) [(relM g 0),(dM (isK g 2))]),(chM g.n (orM [(relM g 8),(relM g 7)]) [(coiM g)]),(chM g.n (orM [(relM g 6),(relM g 7)]) [(rfiM g)])])),(69,[69],tN hL.size g.n (orM [(relM g 6),(relM g 7),(chM g.n (relM g 8) [(dM (isK g 2))]),(chM g.n (relM g 6) [(relM g 0),(dM (isK g 2))]),(chM g.n (orM [(relM g 8),(relM g 7)]) [(coiM g)]),(chM g.n (orM [(relM g 6),(relM g 7)]) [(rfiM g)])]))] ?_ rfl ?_ ?_
 ·exact ⟨stC _ _,stN _ _ _,stC _ _,stN _ _ _,stU _ _,stN _ _ _,stC _ _,stN _ _ _,stU _ _,stN _ _ _,stC _ _,stN _ _ _,stU _ _,stN _ _ _,stN _ _ _,trivial⟩
 ·simp -dsimp only [go_sem,tC_eq,tU_eq,tN_eq]
  refine ⟨fun h4 f4 V=>?_,fun h4 f4 V a16=>?_,fun h4 f4 V=>?_,fun h4 f4 V a29 a17=>?_,fun h4 f4 V=>?_,fun h4 f4 V a41 a30=>?_,fun h4 f4 V=>?_,fun h4 f4 V a47 a42=>?_,fun h4 f4 V=>?_,fun h4 f4 V a59 a48=>?_,fun h4 f4 V=>?_,fun h4 f4 V a65 a60=>?_,fun h4 f4 V a17 a30 a48 a66=>?_,fun h4 f4 V a67 a66=>?_,fun h4 f4 V a16 a17 a29 a30 a41 a42 a47 a48 a59 a60 a65 a66 a67 a68=>?_⟩
  ·try simp -dsimp only [go_sem,putAt_one]
   intro b5 h5 n5
   try simp -dsimp only [go_sem] at n5
   simp -dsimp only [go_sem,tU_eq,tC_eq]
   exact ⟨n5.fr,CA.mk [(.pointer (some ⟨w,0,none⟩),(dM (isK g 2)))] n5.row (pa_cons (PA.fr (W h4 f4) n5.fr) (pa_nil)) (by simp)⟩
  ·try simp -dsimp only [go_sem]
   refine call_of (arm_chain (R 8 (by decide) h4 f4) a16 (ht.fr (P0 h4 f4) (.inr rfl))) ?_
   rintro v h5 ⟨f5,-,w⟩
   simp -dsimp only [go_sem,tN_eq]
   exact ⟨f5,PN.lower (w (by simp)) f4.size⟩
  ·try simp -dsimp only [go_sem,putAt_one]
   intro b5 h5 n5
   try simp -dsimp only [go_sem] at n5
   simp -dsimp only [go_sem,tU_eq,tC_eq]
   exact ⟨n5.fr,CA.mk [(.pointer (some ⟨c 0,0,none⟩),(relM g 0)),(.pointer (some ⟨w,0,none⟩),(dM (isK g 2)))] n5.row (pa_cons (PA.fr (R 0 (by decide) h4 f4) n5.fr) (pa_cons (PA.fr (W h4 f4) n5.fr) (pa_nil))) (by simp)⟩
  ·try simp -dsimp only [go_sem]
   refine call_of (arm_chain (R 6 (by decide) h4 f4) a29 (ht.fr (P0 h4 f4) (.inr rfl))) ?_
   rintro v h5 ⟨f5,-,w⟩
   simp -dsimp only [go_sem,tN_eq]
   exact ⟨f5,PN.lower (w (by simp)) f4.size⟩
  ·try simp -dsimp only [go_sem,putAt_one]
   intro b5 h5 n5
   try simp -dsimp only [go_sem] at n5
   simp -dsimp only [go_sem,tU_eq,tC_eq]
   exact ⟨n5.fr,UA.mk' [(.pointer (some ⟨c 8,0,none⟩),(relM g 8)),(.pointer (some ⟨c 7,0,none⟩),(relM g 7))] n5.row (pa_cons (PA.fr (R 8 (by decide) h4 f4) n5.fr) (pa_cons (PA.fr (R 7 (by decide) h4 f4) n5.fr) (pa_nil))) (by simp) (by simp)⟩
  ·try simp -dsimp only [go_sem]
   refine call_of (rel_UnionU a41) ?_
   rintro v h5 ⟨f5,w⟩
   simp -dsimp only [go_sem,tN_eq]
   exact ⟨f5,PN.lower (PN.of w) f4.size⟩
  ·try simp -dsimp only [go_sem,putAt_one]
   intro b5 h5 n5
   try simp -dsimp only [go_sem] at n5
   simp -dsimp only [go_sem,tU_eq,tC_eq]
   exact ⟨n5.fr,CA.mk [(.pointer (some ⟨d 3,0,none⟩),(coiM g))] n5.row (pa_cons (PA.fr (E 3 (by decide) h4 f4) n5.fr) (pa_nil)) (by simp)⟩
  ·try simp -dsimp only [go_sem]
   refine call_of (arm_chain (a42.pa) a47 (ht.fr (P0 h4 f4) (.inr rfl))) ?_
   rintro v h5 ⟨f5,-,w⟩
   simp -dsimp only [go_sem,tN_eq]
   exact ⟨f5,PN.lower (w (by simp)) f4.size⟩
  ·try simp -dsimp only [go_sem,putAt_one]
   intro b5 h5 n5
   try simp -dsimp only [go_sem] at n5
   simp -dsimp only [go_sem,tU_eq,tC_eq]
   exact ⟨n5.fr,UA.mk' [(.pointer (some ⟨c 6,0,none⟩),(relM g 6)),(.pointer (some ⟨c 7,0,none⟩),(relM g 7))] n5.row (pa_cons (PA.fr (R 6 (by decide) h4 f4) n5.fr) (pa_cons (PA.fr (R 7 (by decide) h4 f4) n5.fr) (pa_nil))) (by simp) (by simp)⟩
  ·try simp -dsimp only [go_sem]
   refine call_of (rel_UnionU a59) ?_
   rintro v h5 ⟨f5,w⟩
   simp -dsimp only [go_sem,tN_eq]
   exact ⟨f5,PN.lower (PN.of w) f4.size⟩
  ·try simp -dsimp only [go_sem,putAt_one]
   intro b5 h5 n5
   try simp -dsimp only [go_sem] at n5
   simp -dsimp only [go_sem,tU_eq,tC_eq]
   exact ⟨n5.fr,CA.mk [(.pointer (some ⟨d 1,0,none⟩),(rfiM g))] n5.row (pa_cons (PA.fr (E 1 (by decide) h4 f4) n5.fr) (pa_nil)) (by simp)⟩
  ·try simp -dsimp only [go_sem]
   refine call_of (arm_chain (a60.pa) a65 (ht.fr (P0 h4 f4) (.inr rfl))) ?_
   rintro v h5 ⟨f5,-,w⟩
   simp -dsimp only [go_sem,tN_eq]
   exact ⟨f5,PN.lower (w (by simp)) f4.size⟩
  ·try simp -dsimp only [go_sem,a17.pa.cl,a30.pa.cl,a48.pa.cl,a66.pa.cl,putAt_one]
   intro b5 h5 n5
   try simp -dsimp only [go_sem] at n5
   simp -dsimp only [go_sem,tU_eq,tC_eq]
   exact ⟨n5.fr,UA.mk' [(.pointer (some ⟨c 6,0,none⟩),(relM g 6)),(.pointer (some ⟨c 7,0,none⟩),(relM g 7)),((V 17).1,(chM g.n (relM g 8) [(dM (isK g 2))])),((V 30).1,(chM g.n (relM g 6) [(relM g 0),(dM (isK g 2))])),((V 48).1,(chM g.n (orM [(relM g 8),(relM g 7)]) [(coiM g)])),((V 66).1,(chM g.n (orM [(relM g 6),(relM g 7)]) [(rfiM g)]))] n5.row (pa_cons (PA.fr (R 6 (by decide) h4 f4) n5.fr) (pa_cons (PA.fr (R 7 (by decide) h4 f4) n5.fr) (pa_cons (PA.fr (a17.pa) n5.fr) (pa_cons (PA.fr (a30.pa) n5.fr) (pa_cons (PA.fr (a48.pa) n5.fr) (pa_cons (PA.fr (a66.pa) n5.fr) (pa_nil))))))) (by simp) (by simp)⟩
  ·try simp -dsimp only [go_sem]
   refine call_of (rel_UnionU a67) ?_
   rintro v h5 ⟨f5,w⟩
   simp -dsimp only [go_sem,tN_eq]
   exact ⟨f5,PN.lower (PN.of w) f4.size⟩
  ·try simp -dsimp only [go_sem,tN_eq]
   exact ⟨.refl _ _ _,a68⟩
 ·intro h4 f4 V _
  simp -dsimp only [go_sem,tC_eq,tU_eq,tN_eq]
  intro a16 a17 a29 a30 a41 a42 a47 a48 a59 a60 a65 a66 a67 a68 a69
  try simp -dsimp only [go_sem]
  refine ⟨P0 h4 f4,(a69.lower hLz).congr fun i j hi hj=>?_⟩
  unfold orM dobM chM
  simp only [List.foldl_cons,List.foldl_nil,List.any_cons,List.any_nil,Bool.or_false,compM_dR hi hj]
  rw [compM_in hi hj,compM_in hi hj,compM_in hi hj]
  simp only [Bool.or_assoc]
set_option maxHeartbeats 2000000 in
theorem arm_model_bob (m:Md h mb q g c rd wr fe d) (ht:TabAt h) :
  Con Tryd.prog 117 #[.pointer (some ⟨mb,0,none⟩)] h fun v h'=>Fr 0 0 h h'∧PN h' h.size v g.n (bobM g):=by
 refine con_q4 ?_
 have hn:=m.n
 have hkl:=kinds_len g
 have p0:Fr 0 0 h h:=.refl _ _ _
 have r1:=m.row
 unfold mcells at r1
 simp -dsimp only [go_sem,r1.cell]
 refine call_of (arm_model_mode (m.fr p0).mg 12) ?_
 rintro v3 h3 ⟨f3,w3⟩
 have f3_z:=f3.size
 replace p0:=p0.F f3
 replace r1:=r1.F f3
 obtain ⟨ra,rfl⟩:=w3.pa.ptr
 simp -dsimp only [go_sem,r1.cell]
 refine call_of (arm_model_mode (m.fr p0).mg 13) ?_
 rintro v4 hL ⟨f4',w4⟩
 have f4'_z:=f4'.size
 replace p0:=p0.fresh f4' (by omega)
 replace r1:=r1.fr f4' (by omega)
 obtain ⟨rl,rfl⟩:=w4.pa.ptr
 have w3':=w3.pa.fr f4'
 simp -dsimp only [go_sem,r1.cell]
 have P0:∀ h',Fr 0 0 hL h'→Fr 0 0 h h':=fun h' f=>p0.trans f
 have MD:∀ h',Fr 0 0 hL h'→Md h' mb q g c rd wr fe d:=fun h' f=>m.fr (P0 h' f)
 have R:∀ k,k<10→∀ h',Fr 0 0 hL h'→PA h' (.pointer (some ⟨c k,0,none⟩)) g.n (relM g k):=fun k hk h' f=>(m.rel k hk).fr (P0 h' f)
 have E:∀ k,k<6→∀ h',Fr 0 0 hL h'→PA h' (.pointer (some ⟨d k,0,none⟩)) g.n (armM g k):=fun k hk h' f=>(m.hm k hk).fr (P0 h' f)
 have RA:∀ h',Fr 0 0 hL h'→PA h' (.pointer (some ⟨ra,0,none⟩)) g.n (dM (isM g 12)):=fun h' f=>w3'.fr f
 have RL:∀ h',Fr 0 0 hL h'→PA h' (.pointer (some ⟨rl,0,none⟩)) g.n (dM (isM g 13)):=fun h' f=>w4.pa.fr f
 have hLz:h.size≤hL.size:=by omega
 clear p0 r1
 refine free_intro [(6,[6],tN hL.size g.n (dM (isM g 15))),(12,[12],tC g.n [(dM (isM g 15)),(relM g 0)]),(13,[13],tN hL.size g.n (chM g.n (relM g 0) [(dM (isM g 15)),(relM g 0)])),(20,[20],tN hL.size g.n (dM (isK g 1))),(27,[27],tN hL.size g.n (dM (isM g 14))),(33,[33],tC g.n [(relM g 0),(dM (isM g 14)),(relM g 0)]),(34,[34],tN hL.size g.n (chM g.n (dM (isK g 1)) [(relM g 0),(dM (isM g 14)),(relM g 0)])),(42,[42],tC g.n [(relM g 0),(dM (isM g 12))]),(43,[43],tN hL.size g.n (chM g.n (dM (isM g 13)) [(relM g 0),(dM (isM g 12))])),(53,[53],tC g.n [(relM g 0)]),(54,[54],tN hL.size g.n (chM g.n (dM (acqB g)) [(relM g 0)])),(61,[61],tC g.n [(dM (isM g 13))]),(62,[62],tN hL.size g.n (chM g.n (relM g 0) [(dM (isM g 13))])),(73,[73],tC g.n [(dM (isM g 13)),(coiM g)]),(74,[74],tN hL.size g.n (chM g.n (relM g 0) [(dM (isM g 13)),(coiM g)])),(75,[75],tU g.n (orM [(chM g.n (relM g 0) [(dM (isM g 15)),(relM g 0)]),(chM g.n (dM (isK g 1)) [(relM g 0),(dM (isM g 14)),(relM g 0)]),(chM g.n (dM (isM g 13)) [(relM g 0),(dM (isM g 12))]),(chM g.n (dM (acqB g)) [(relM g 0)]),(chM g.n (relM g 0) [(dM (isM g 13))]),(chM g.n (relM g 0) [(dM (isM g 13)),(coiM g)])])),(76,[76],tN hL.size g.n (orM [(chM g.n (relM g 0) [(dM (isM g 15)),(relM g 0)]),(chM g.n (dM (isK g 1)) [(relM g 0),(dM (isM g 14)),(relM g 0)]),(chM g.n (dM (isM g 13)) [(relM g 0),(dM (isM g 12))]),(chM g.n (dM (acqB g)) [(relM g 0)]),(chM g.n (relM g 0) [(dM (isM g 13))]),(chM g.n (relM g 0) [(dM (isM g 13)),(coiM g)])])),(77,[77],tN hL.size g.n (orM [(chM g.n (relM g 0) [(dM (isM g 15)),(relM g 0)]),(chM g.n (dM (isK g 1)) [(relM g 0),(dM (isM g 14)),(relM g 0)]),(chM g.n (dM (isM g 13)) [(relM g 0),(dM (isM g 12))]),(chM g.n (dM (acqB g)) [(relM g 0)]),(chM g.n (relM g 0) [(dM (isM g 13))]),(chM g.n (relM g 0) [(dM (isM g 13)),(coiM g)])]))] ?_ rfl ?_ ?_
 ·exact ⟨stN _ _ _,stC _ _,stN _ _ _,stN _ _ _,stN _ _ _,stC _ _,stN _ _ _,stC _ _,stN _ _ _,stC _ _,stN _ _ _,stC _ _,stN _ _ _,stC _ _,stN _ _ _,stU _ _,stN _ _ _,stN _ _ _,trivial⟩
 ·simp -dsimp only [go_sem,tC_eq,tU_eq,tN_eq]
  refine ⟨fun h4 f4 V=>?_,fun h4 f4 V a6=>?_,fun h4 f4 V a12 a6=>?_,fun h4 f4 V a13=>?_,fun h4 f4 V a20=>?_,fun h4 f4 V a27=>?_,fun h4 f4 V a20 a33 a27=>?_,fun h4 f4 V=>?_,fun h4 f4 V a42 a34=>?_,fun h4 f4 V=>?_,fun h4 f4 V a53 a43=>?_,fun h4 f4 V=>?_,fun h4 f4 V a61 a54=>?_,fun h4 f4 V=>?_,fun h4 f4 V a73 a62=>?_,fun h4 f4 V a13 a34 a43 a54 a62 a74=>?_,fun h4 f4 V a75 a74=>?_,fun h4 f4 V a6 a12 a13 a20 a27 a33 a34 a42 a43 a53 a54 a61 a62 a73 a74 a75 a76=>?_⟩
  ·try simp -dsimp only [go_sem]
   refine call_of (arm_model_mode (MD h4 f4).mg 15) ?_
   rintro v h5 ⟨f5,w⟩
   simp -dsimp only [go_sem,tN_eq]
   exact ⟨f5,PN.lower w f4.size⟩
  ·try simp -dsimp only [go_sem,a6.pa.cl,putAt_one]
   intro b5 h5 n5
   try simp -dsimp only [go_sem] at n5
   simp -dsimp only [go_sem,tU_eq,tC_eq]
   exact ⟨n5.fr,CA.mk [((V 6).1,(dM (isM g 15))),(.pointer (some ⟨c 0,0,none⟩),(relM g 0))] n5.row (pa_cons (PA.fr (a6.pa) n5.fr) (pa_cons (PA.fr (R 0 (by decide) h4 f4) n5.fr) (pa_nil))) (by simp)⟩
  ·try simp -dsimp only [go_sem]
   refine call_of (arm_chain (R 0 (by decide) h4 f4) a12 (ht.fr (P0 h4 f4) (.inr rfl))) ?_
   rintro v h5 ⟨f5,-,w⟩
   simp -dsimp only [go_sem,tN_eq]
   exact ⟨f5,PN.lower (w (by simp)) f4.size⟩
  ·try simp -dsimp only [go_sem]
   refine call_of (arm_model_set (MD h4 f4).mg (l:=kindsV g 1 g.n) (MD h4 f4).rd (by rw [hkl];omega) (fun i hi=>atB_kinds hi)) ?_
   rintro v h5 ⟨f5,w⟩
   simp -dsimp only [go_sem,tN_eq]
   exact ⟨f5,PN.lower w f4.size⟩
  ·try simp -dsimp only [go_sem]
   refine call_of (arm_model_mode (MD h4 f4).mg 14) ?_
   rintro v h5 ⟨f5,w⟩
   simp -dsimp only [go_sem,tN_eq]
   exact ⟨f5,PN.lower w f4.size⟩
  ·try simp -dsimp only [go_sem,a27.pa.cl,putAt_one]
   intro b5 h5 n5
   try simp -dsimp only [go_sem] at n5
   simp -dsimp only [go_sem,tU_eq,tC_eq]
   exact ⟨n5.fr,CA.mk [(.pointer (some ⟨c 0,0,none⟩),(relM g 0)),((V 27).1,(dM (isM g 14))),(.pointer (some ⟨c 0,0,none⟩),(relM g 0))] n5.row (pa_cons (PA.fr (R 0 (by decide) h4 f4) n5.fr) (pa_cons (PA.fr (a27.pa) n5.fr) (pa_cons (PA.fr (R 0 (by decide) h4 f4) n5.fr) (pa_nil)))) (by simp)⟩
  ·try simp -dsimp only [go_sem]
   refine call_of (arm_chain (a20.pa) a33 (ht.fr (P0 h4 f4) (.inr rfl))) ?_
   rintro v h5 ⟨f5,-,w⟩
   simp -dsimp only [go_sem,tN_eq]
   exact ⟨f5,PN.lower (w (by simp)) f4.size⟩
  ·try simp -dsimp only [go_sem,putAt_one]
   intro b5 h5 n5
   try simp -dsimp only [go_sem] at n5
   simp -dsimp only [go_sem,tU_eq,tC_eq]
   exact ⟨n5.fr,CA.mk [(.pointer (some ⟨c 0,0,none⟩),(relM g 0)),(.pointer (some ⟨ra,0,none⟩),(dM (isM g 12)))] n5.row (pa_cons (PA.fr (R 0 (by decide) h4 f4) n5.fr) (pa_cons (PA.fr (RA h4 f4) n5.fr) (pa_nil))) (by simp)⟩
  ·try simp -dsimp only [go_sem]
   refine call_of (arm_chain (RL h4 f4) a42 (ht.fr (P0 h4 f4) (.inr rfl))) ?_
   rintro v h5 ⟨f5,-,w⟩
   simp -dsimp only [go_sem,tN_eq]
   exact ⟨f5,PN.lower (w (by simp)) f4.size⟩
  ·try simp -dsimp only [go_sem,putAt_one]
   intro b5 h5 n5
   try simp -dsimp only [go_sem] at n5
   simp -dsimp only [go_sem,tU_eq,tC_eq]
   exact ⟨n5.fr,CA.mk [(.pointer (some ⟨c 0,0,none⟩),(relM g 0))] n5.row (pa_cons (PA.fr (R 0 (by decide) h4 f4) n5.fr) (pa_nil)) (by simp)⟩
  ·try simp -dsimp only [go_sem]
   refine call_of (arm_chain (E 5 (by decide) h4 f4) a53 (ht.fr (P0 h4 f4) (.inr rfl))) ?_
   rintro v h5 ⟨f5,-,w⟩
   simp -dsimp only [go_sem,tN_eq]
   exact ⟨f5,PN.lower (w (by simp)) f4.size⟩
  ·try simp -dsimp only [go_sem,putAt_one]
   intro b5 h5 n5
   try simp -dsimp only [go_sem] at n5
   simp -dsimp only [go_sem,tU_eq,tC_eq]
   exact ⟨n5.fr,CA.mk [(.pointer (some ⟨rl,0,none⟩),(dM (isM g 13)))] n5.row (pa_cons (PA.fr (RL h4 f4) n5.fr) (pa_nil)) (by simp)⟩
  ·try simp -dsimp only [go_sem]
   refine call_of (arm_chain (R 0 (by decide) h4 f4) a61 (ht.fr (P0 h4 f4) (.inr rfl))) ?_
   rintro v h5 ⟨f5,-,w⟩
   simp -dsimp only [go_sem,tN_eq]
   exact ⟨f5,PN.lower (w (by simp)) f4.size⟩
  ·try simp -dsimp only [go_sem,putAt_one]
   intro b5 h5 n5
   try simp -dsimp only [go_sem] at n5
   simp -dsimp only [go_sem,tU_eq,tC_eq]
   exact ⟨n5.fr,CA.mk [(.pointer (some ⟨rl,0,none⟩),(dM (isM g 13))),(.pointer (some ⟨d 3,0,none⟩),(coiM g))] n5.row (pa_cons (PA.fr (RL h4 f4) n5.fr) (pa_cons (PA.fr (E 3 (by decide) h4 f4) n5.fr) (pa_nil))) (by simp)⟩
  ·try simp -dsimp only [go_sem]
   refine call_of (arm_chain (R 0 (by decide) h4 f4) a73 (ht.fr (P0 h4 f4) (.inr rfl))) ?_
   rintro v h5 ⟨f5,-,w⟩
   simp -dsimp only [go_sem,tN_eq]
   exact ⟨f5,PN.lower (w (by simp)) f4.size⟩
  ·try simp -dsimp only [go_sem,a13.pa.cl,a34.pa.cl,a43.pa.cl,a54.pa.cl,a62.pa.cl,a74.pa.cl,putAt_one]
   intro b5 h5 n5
   try simp -dsimp only [go_sem] at n5
   simp -dsimp only [go_sem,tU_eq,tC_eq]
   exact ⟨n5.fr,UA.mk' [((V 13).1,(chM g.n (relM g 0) [(dM (isM g 15)),(relM g 0)])),((V 34).1,(chM g.n (dM (isK g 1)) [(relM g 0),(dM (isM g 14)),(relM g 0)])),((V 43).1,(chM g.n (dM (isM g 13)) [(relM g 0),(dM (isM g 12))])),((V 54).1,(chM g.n (dM (acqB g)) [(relM g 0)])),((V 62).1,(chM g.n (relM g 0) [(dM (isM g 13))])),((V 74).1,(chM g.n (relM g 0) [(dM (isM g 13)),(coiM g)]))] n5.row (pa_cons (PA.fr (a13.pa) n5.fr) (pa_cons (PA.fr (a34.pa) n5.fr) (pa_cons (PA.fr (a43.pa) n5.fr) (pa_cons (PA.fr (a54.pa) n5.fr) (pa_cons (PA.fr (a62.pa) n5.fr) (pa_cons (PA.fr (a74.pa) n5.fr) (pa_nil))))))) (by simp) (by simp)⟩
  ·try simp -dsimp only [go_sem]
   refine call_of (rel_UnionU a75) ?_
   rintro v h5 ⟨f5,w⟩
   simp -dsimp only [go_sem,tN_eq]
   exact ⟨f5,PN.lower (PN.of w) f4.size⟩
  ·try simp -dsimp only [go_sem,tN_eq]
   exact ⟨.refl _ _ _,a76⟩
 ·intro h4 f4 V _
  simp -dsimp only [go_sem,tC_eq,tU_eq,tN_eq]
  intro a6 a12 a13 a20 a27 a33 a34 a42 a43 a53 a54 a61 a62 a73 a74 a75 a76 a77
  try simp -dsimp only [go_sem]
  refine ⟨P0 h4 f4,(a77.lower hLz).congr fun i j hi hj=>?_⟩
  unfold orM bobM chM
  simp only [List.foldl_cons,List.foldl_nil,List.any_cons,List.any_nil,Bool.or_false,compM_dR hi hj]
  have e1:compM g.n (compM g.n (relM g 0) g.n (dM (isM g 15))) g.n (relM g 0) i j=exB g.n fun k=>relM g 0 i k&&isM g 15 k&&relM g 0 k j:=by
   rw [compM_in hi hj];exact exB_congr fun k hk=>by rw [compM_dR hi hk]
  have e2:compM g.n (compM g.n (compM g.n (dM (isK g 1)) g.n (relM g 0)) g.n (dM (isM g 14))) g.n (relM g 0) i j=exB g.n fun k=>isK g 1 i&&relM g 0 i k&&isM g 14 k&&relM g 0 k j:=by
   rw [compM_in hi hj];exact exB_congr fun k hk=>by rw [compM_dR hi hk,compM_dL hi hk]
  have e3:compM g.n (compM g.n (relM g 0) g.n (dM (isM g 13))) g.n (coiM g) i j=exB g.n fun k=>relM g 0 i k&&isM g 13 k&&coiM g k j:=by
   rw [compM_in hi hj];exact exB_congr fun k hk=>by rw [compM_dR hi hk]
  rw [e1,e2,e3]
  simp only [compM_dL hi hj,Bool.or_assoc]
end
end Go.Proofs.Tst
/-
  The words' memory model: aob, all relations, the model of a graph, Check.
-/
namespace Go.Proofs.Tst
open Go Go.Vc
section
variable {h : Heap} {mb : Nat} {q : GV} {g : Gr} {c : Nat → Nat} {rd wr fe : Value} {d : Nat → Nat}
theorem words_rmw {words:Bool} (hg:(g.check words).1=0) {p:Int×Int} (hp:p∈g.rmw):∃ a b:Nat,p=((a:Int),(b:Int))∧a<b∧b<g.n:=by
 obtain ⟨-,-,-,-,-,h6,-⟩:=check_zero hg
 obtain ⟨b1,b2,b3⟩:=before_lt (rmw_before h6 hp)
 exact ⟨p.1.toNat,p.2.toNat,Prod.ext (by dsimp only;omega) (by dsimp only;omega),by omega,by omega⟩
set_option maxHeartbeats 1000000 in
theorem arm_model_aob (m:Md h mb q g c rd wr fe d) (hg:(g.check true).1=0) (ht:TabAt h) :
  Con Tryd.prog 116 #[.pointer (some ⟨mb,0,none⟩)] h fun v h'=>Fr 0 0 h h'∧PN h' h.size v g.n (aobM g):=by
 refine con_q3 ?_
 have hn:=m.n
 have br:=m.gr.fits.r
 have p0:Fr 0 0 h h:=.refl _ _ _
 have r1:=m.row
 unfold mcells at r1
 simp -dsimp only [go_sem,evs_len,r1.cell]
 refine Chk_intro (by omega) ?_
 rw [zeros_one,Int.toNat_natCast,brow_false]
 intro b3 h2 n3
 have n3_z:=n3.az
 replace p0:=p0.F n3.f0
 replace r1:=r1.F n3.f0
 have r3:=n3.row
 simp -dsimp only [go_sem,r1.cell,r3.cell]
 refine loop_intro (fun i:Nat=>[(0,.pointer (some ⟨mb,0,none⟩)),(3,.slice (some ⟨b3,0,none⟩) g.n g.n),(17,.slice q.r g.rmw.length q.rc),(18,.int .i64 g.rmw.length),(19,.int .i64 i)])
  (fun i h'=>i≤g.rmw.length∧Fr 0 0 h h'∧Rw h' b3 (brow g.n fun j=>(g.rmw.take i).any fun p=>p.2==(j:Int))) (fun i=>g.rmw.length - i) 0 ?_ ?_ ?_
 ·simp [Le,find]
 ·exact ⟨by omega,p0,by simpa using r3⟩
 have hb3:h.size≤b3:=by omega
 have hmb:=m.row.lt
 clear p0 r1 r3
 rintro i h3 ⟨hi,p0,r3⟩
 have r1:=m.row.fr p0 (by omega)
 unfold mcells at r1
 have p0_z:=p0.size
 have r1_l:=r1.lt
 have r3_l:=r3.lt
 by_cases hlt:i<g.rmw.length
 ·have e1:((i:Int)<(g.rmw.length:Int)):=by omega
  have hq:g.rmw[i]?=some g.rmw[i]:=List.getElem?_eq_getElem hlt
  obtain ⟨x,y,he,hxy,hyn⟩:=words_rmw hg (List.mem_of_getElem? hq)
  rw [he] at hq
  obtain ⟨rb,ro,hre,hrc⟩:=m.gr.r.pairsAt (by omega)
  obtain ⟨k1,k2⟩:=hrc h3 p0 i _ hq
  dsimp only at k1 k2
  simp -dsimp only [go_sem,e1,hre,k1,k2,r1.cell,r3.cell]
  intro b5 h4 n5
  have n5_z:=n5.az
  replace p0:=p0.F n5.f0
  replace r1:=r1.F n5.f0
  replace r3:=r3.F n5.f0
  have r5:=n5.row
  simp -dsimp only [go_sem,r1.cell,r3.cell,r5.cell]
  refine Chk_intro (r5.W) fun h5 s5=>?_
  have s5_z:=s5.size
  replace p0:=p0.F s5.fr
  replace r1:=r1.F s5.fr
  replace r3:=r3.F s5.fr
  replace r5:=s5.row r5
  try simp only [cl_int,cl_bool,cl_slice,cl_ptr,putAt_one,zs0,zs1,ivec_set,brow_upd] at r5
  simp -dsimp only [go_sem] at r5
  simp -dsimp only [go_sem,r1.cell,r3.cell,r5.cell]
  refine Chk_intro (by omega) ?_
  simp -dsimp only [go_sem,r1.cell,r3.cell,r5.cell]
  refine Chk_intro (r3.W) fun h6 s6=>?_
  have s6_z:=s6.size
  replace p0:=p0.F s6.fr
  replace r1:=r1.F s6.fr
  replace r5:=r5.F s6.fr
  replace r3:=s6.row r3
  try simp only [cl_int,cl_bool,cl_slice,cl_ptr,putAt_one,zs0,zs1,ivec_set,brow_upd] at r3
  simp -dsimp only [go_sem,r1.cell,r3.cell,r5.cell]
  simp -dsimp (disch:=omega) only [wrap64]
  refine ⟨i+1,by omega,by simp [Le,find,hre],by omega,p0,?_⟩
  rw [List.take_add_one,hq,Option.toList_some,brow_congr (g:=upd (fun j=>(g.rmw.take i).any fun p=>p.2==(j:Int)) y true)]
  ·exact r3
  ·intro j _
   rw [List.any_append]
   unfold upd
   by_cases hj:j=y
   ·subst hj;rw [if_pos rfl];simp
   ·rw [if_neg hj]
    have:((y:Int)==(j:Int))=false:=by simp;omega
    simp [this]
 ·obtain rfl:i=g.rmw.length:=by omega
  rw [List.take_length] at r3
  have p3:Fr 0 0 h3 h3:=.refl _ _ _
  have hlast:brow g.n (fun j=>g.rmw.any fun p=>p.2==(j:Int))=boolsV ((List.range g.n).map (lastB g)):=by unfold brow boolsV lastB;rw [List.map_map];rfl
  rw [hlast] at r3
  have hll:((List.range g.n).map (lastB g)).length=g.n:=by simp
  have hat:∀ i,i<g.n→atB ((List.range g.n).map (lastB g)) i=lastB g i:=fun i hi=>atB_get (by simp [hi])
  have fin:∀ i j,i<g.n→j<g.n→orM [relM g 3,chM g.n (dM (lastB g)) [rfiM g,dM (acqB g)]] i j=aobM g i j:=fun i j hi hj=>by
   unfold orM aobM chM
   simp only [List.foldl_cons,List.foldl_nil,List.any_cons,List.any_nil,Bool.or_false,compM_dR hi hj,compM_dL hi hj]
  have rs:∀ h',Fr 0 0 h3 h'→Rd 1 h' (.slice (some ⟨b3,0,none⟩) g.n g.n) ((List.range g.n).map (lastB g)).length (boolsV ((List.range g.n).map (lastB g))):=fun h' f=>by rw [hll];exact (Rw.rd (s:=1) r3 (by simp)).fr f
  simp -dsimp only [go_sem,Int.lt_irrefl,r1.cell,r3.cell]
  simp -dsimp only [go_sem,r_two,r1.cell,r3.cell]
  refine ⟨?_,?_⟩
  ·refine call_of (arm_model_set (m.fr p0).mg (rs _ p3) (by omega) hat) ?_
   rintro v7 h7 ⟨f7,w7⟩
   have f7_z:=f7.size
   replace p0:=p0.F f7
   replace r1:=r1.F f7
   replace r3:=r3.F f7
   replace p3:=p3.F f7
   simp -dsimp only [go_sem,w7.pa.cl,r1.cell,r3.cell]
   intro b8 h8 n8
   have n8_a:=n8.at_
   have n8_z:=n8.size
   replace p0:=p0.F n8.f0
   replace r1:=r1.F n8.f0
   replace r3:=r3.F n8.f0
   replace p3:=p3.F n8.f0
   have r8:=n8.row
   have w8:=w7.fr n8.f0 (by omega)
   simp -dsimp only [go_sem,r1.cell,r3.cell,r8.cell]
   refine call_of (arm_chain w8.pa (CA.mk [(.pointer (some ⟨d 1,0,none⟩),rfiM g),(.pointer (some ⟨d 5,0,none⟩),dM (acqB g))] r8 (pa_cons ((m.fr p0).hm 1 (by decide)) (pa_cons ((m.fr p0).hm 5 (by decide)) pa_nil)) (by simp)) (ht.fr p0 (.inr rfl))) ?_
   rintro v9 h9 ⟨f9,w9,-⟩
   have f9_z:=f9.size
   replace p0:=p0.F f9
   replace r1:=r1.F f9
   replace r3:=r3.F f9
   replace p3:=p3.F f9
   replace r8:=r8.F f9
   simp -dsimp only [go_sem,w9.cl,r1.cell,r3.cell,r8.cell]
   intro b10 h10 n10
   have n10_a:=n10.at_
   have n10_z:=n10.size
   replace p0:=p0.F n10.f0
   replace r1:=r1.F n10.f0
   replace r3:=r3.F n10.f0
   replace p3:=p3.F n10.f0
   replace r8:=r8.F n10.f0
   have r10:=n10.row
   have w10:=w9.fr n10.f0
   simp -dsimp only [go_sem,r1.cell,r3.cell,r8.cell,r10.cell]
   refine call_of (rel_UnionU (UA.mk' [(.pointer (some ⟨c 3,0,none⟩),relM g 3),(v9,_)] r10 (pa_cons ((m.fr p0).rel 3 (by decide)) (pa_cons w10 pa_nil)) (by simp) (by simp))) ?_
   rintro v11 h11 ⟨f11,w11⟩
   have f11_z:=f11.size
   replace p0:=p0.F f11
   replace r1:=r1.F f11
   replace r3:=r3.F f11
   replace p3:=p3.F f11
   replace r8:=r8.F f11
   replace r10:=r10.F f11
   simp -dsimp only [go_sem,r1.cell,r3.cell,r8.cell,r10.cell]
   exact ⟨p0,((PN.of w11).lower (by omega)).congr fin⟩
  ·intro b8 h8 n8
   have n8_a:=n8.at_
   have n8_z:=n8.size
   replace p0:=p0.F n8.f0
   replace r1:=r1.F n8.f0
   replace r3:=r3.F n8.f0
   replace p3:=p3.F n8.f0
   have r8:=n8.row
   simp -dsimp only [go_sem,r1.cell,r3.cell,r8.cell]
   refine call_of (arm_model_set (m.fr p0).mg (rs _ p3) (by omega) hat) ?_
   rintro v7 h7 ⟨f7,w7⟩
   have f7_z:=f7.size
   replace p0:=p0.F f7
   replace r1:=r1.F f7
   replace r3:=r3.F f7
   replace p3:=p3.F f7
   replace r8:=r8.F f7
   simp -dsimp only [go_sem,r1.cell,r3.cell,r8.cell]
   refine call_of (arm_chain w7.pa (CA.mk [(.pointer (some ⟨d 1,0,none⟩),rfiM g),(.pointer (some ⟨d 5,0,none⟩),dM (acqB g))] r8 (pa_cons ((m.fr p0).hm 1 (by decide)) (pa_cons ((m.fr p0).hm 5 (by decide)) pa_nil)) (by simp)) (ht.fr p0 (.inr rfl))) ?_
   rintro v9 h9 ⟨f9,w9,-⟩
   have f9_z:=f9.size
   replace p0:=p0.F f9
   replace r1:=r1.F f9
   replace r3:=r3.F f9
   replace p3:=p3.F f9
   replace r8:=r8.F f9
   simp -dsimp only [go_sem,w9.cl,r1.cell,r3.cell,r8.cell]
   intro b10 h10 n10
   have n10_a:=n10.at_
   have n10_z:=n10.size
   replace p0:=p0.F n10.f0
   replace r1:=r1.F n10.f0
   replace r3:=r3.F n10.f0
   replace p3:=p3.F n10.f0
   replace r8:=r8.F n10.f0
   have r10:=n10.row
   have w10:=w9.fr n10.f0
   simp -dsimp only [go_sem,r1.cell,r3.cell,r8.cell,r10.cell]
   refine call_of (rel_UnionU (UA.mk' [(.pointer (some ⟨c 3,0,none⟩),relM g 3),(v9,_)] r10 (pa_cons ((m.fr p0).rel 3 (by decide)) (pa_cons w10 pa_nil)) (by simp) (by simp))) ?_
   rintro v11 h11 ⟨f11,w11⟩
   have f11_z:=f11.size
   replace p0:=p0.F f11
   replace r1:=r1.F f11
   replace r3:=r3.F f11
   replace p3:=p3.F f11
   replace r8:=r8.F f11
   replace r10:=r10.F f11
   simp -dsimp only [go_sem,r1.cell,r3.cell,r8.cell,r10.cell]
   exact ⟨p0,((PN.of w11).lower (by omega)).congr fin⟩
end
end Go.Proofs.Tst
