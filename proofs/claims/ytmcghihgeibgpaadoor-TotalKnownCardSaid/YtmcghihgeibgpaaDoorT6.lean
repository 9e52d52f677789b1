/-
  Contracts of functions that the law reaches: what each returns and what it leaves in memory. Conditions stand in each.
-/
import Derived.Test.YtmcghihgeibgpaaDoorT5
set_option linter.all false
set_option maxRecDepth 2000
/-
  The source's memory model: its relations, its check (plain).
-/
namespace Go.Proofs.Tst
open Go Go.Vc
def relB (g:Gr) (i:Nat):Bool:=(isK g 2 i||isK g 3 i)&&(isM g 3 i||isM g 4 i||isM g 5 i)
def acrB (g:Gr) (i:Nat):Bool:=(isK g 1 i||isK g 3 i)&&(isM g 2 i||isM g 4 i||isM g 5 i)
def escB (g:Gr) (i:Nat):Bool:=isM g 5 i&&(isK g 1 i||isK g 2 i)
def fscB (g:Gr) (i:Nat):Bool:=isM g 5 i&&isK g 3 i
def plocM (g:Gr) (i j:Nat):Bool:=relM g 0 i j&&relM g 4 i j
def rrM (g:Gr) (i j:Nat):Bool:=exB g.n fun k=>relM g 1 i k&&relM g 3 k j
def rsM (g:Gr) (i j:Nat):Bool:=isK g 2 i&&exB g.n fun m=>(plocM g i m||i==m)&&isK g 2 m&&(plusM g.n (rrM g) m j||m==j)
def swM (g:Gr) (i j:Nat):Bool:=relB g i&&(exB g.n fun a=>((isK g 3 i&&relM g 0 i a)||i==a)&&exB g.n fun b=>rsM g a b&&exB g.n fun c=>relM g 1 b c&&isK g 1 c&&((relM g 0 c j&&isK g 3 j)||c==j))&&acrB g j
def poswM (g:Gr) (i j:Nat):Bool:=relM g 0 i j||swM g i j
def hbM (g:Gr):Nat→Nat→Bool:=plusM g.n (poswM g)
def comM (g:Gr) (i j:Nat):Bool:=relM g 1 i j||relM g 2 i j||relM g 9 i j
def ecoM (g:Gr):Nat→Nat→Bool:=plusM g.n (comM g)
def otherM (g:Gr) (i j:Nat):Bool:=relM g 0 i j&&!relM g 4 i j
def scbM (g:Gr) (i j:Nat):Bool:=relM g 0 i j||(exB g.n fun a=>otherM g i a&&exB g.n fun b=>hbM g a b&&otherM g b j)||(hbM g i j&&relM g 4 i j)||relM g 2 i j||relM g 9 i j
def beginM (g:Gr) (i a:Nat):Bool:=(i==a&&escB g i)||(fscB g i&&(hbM g i a||i==a))
def endM (g:Gr) (b j:Nat):Bool:=(b==j&&escB g b)||((hbM g b j||b==j)&&fscB g j)
def baseM (g:Gr) (i j:Nat):Bool:=exB g.n fun a=>beginM g i a&&exB g.n fun b=>scbM g a b&&endM g b j
def hehM (g:Gr) (i j:Nat):Bool:=exB g.n fun a=>hbM g i a&&exB g.n fun b=>ecoM g a b&&hbM g b j
def pscfM (g:Gr) (i j:Nat):Bool:=fscB g i&&(hbM g i j||hehM g i j)&&fscB g j
def tornS (g:Gr) (p:Int×Int):Bool:=inR g.n p.1&&inR g.n p.2&&exB g.n fun k=>relM g 9 p.1.toNat k&&relM g 2 k p.2.toNat
def atomS (g:Gr):List Int:=match g.rmw.find? (tornS g) with | some p=>[p.1,p.2] | none=>[]
def natsI (l:List Nat):List Int:=l.map fun (x:Nat)=>(x:Int)
theorem atomS_nil {g:Gr}:atomS g=[]↔∀ p∈g.rmw,tornS g p=false:=by
 unfold atomS
 cases hf:g.rmw.find? (tornS g) with
 | none =>
  rw [List.find?_eq_none] at hf
  simp only [true_iff]
  exact fun p hp=>by have:=hf p hp;simpa using this
 | some p =>
  have h3:=List.find?_some hf
  have h4:=List.mem_of_find?_eq_some hf
  simp only []
  constructor
  ·intro h;exact absurd h (by simp)
  ·intro h5;rw [h5 p h4] at h3;cases h3
end Go.Proofs.Tst
/-
  What RC11's relations keep of any graph (plain).
-/
namespace Go.Proofs.Tst
open Go Go.Vc
theorem sw_spec {g:Gr} {i j:Nat}:swM g i j=true↔relB g i=true∧acrB g j=true∧∃ a,a<g.n∧((isK g 3 i=true∧relM g 0 i a=true)∨i=a)∧∃ b,b<g.n∧rsM g a b=true∧∃ c,c<g.n∧relM g 1 b c=true∧isK g 1 c=true∧((relM g 0 c j=true∧isK g 3 j=true)∨c=j):=by
 unfold swM
 simp only [Bool.and_eq_true,Bool.or_eq_true,exB_true,beq_iff_eq]
 constructor
 ·rintro ⟨⟨h1,a,ha,h2,b,hb,h3,c,hc,⟨h4,h5⟩,h6⟩,h7⟩
  exact ⟨h1,h7,a,ha,h2,b,hb,h3,c,hc,h4,h5,h6⟩
 ·rintro ⟨h1,h7,a,ha,h2,b,hb,h3,c,hc,h4,h5,h6⟩
  exact ⟨⟨h1,a,ha,h2,b,hb,h3,c,hc,⟨h4,h5⟩,h6⟩,h7⟩
theorem isK_iff {g:Gr} {k:Int} {i:Nat}:isK g k i=true↔(g.ev i).kind=k:=by unfold isK;simp
theorem isM_iff {g:Gr} {k:Int} {i:Nat}:isM g k i=true↔(g.ev i).mode=k:=by unfold isM;simp
theorem relB_iff {g:Gr} {i:Nat}:relB g i=true↔((g.ev i).kind=2∨(g.ev i).kind=3)∧((g.ev i).mode=3∨(g.ev i).mode=4∨(g.ev i).mode=5):=by
 unfold relB;simp only [Bool.and_eq_true,Bool.or_eq_true,isK_iff,isM_iff,or_assoc]
theorem acrB_iff {g:Gr} {i:Nat}:acrB g i=true↔((g.ev i).kind=1∨(g.ev i).kind=3)∧((g.ev i).mode=2∨(g.ev i).mode=4∨(g.ev i).mode=5):=by
 unfold acrB;simp only [Bool.and_eq_true,Bool.or_eq_true,isK_iff,isM_iff,or_assoc]
theorem ofM_in {n:Nat} {l:List (Int×Int)} {i j:Nat} (h:ofM n l i j=true):i<n∧j<n:=by
 have hm:=ofM_mem' h
 unfold ofM at h
 rw [List.any_eq_true] at h
 obtain ⟨p,hp,h⟩:=h
 simp only [Bool.and_eq_true,beq_iff_eq] at h
 obtain ⟨⟨⟨h1,h2⟩,h3⟩,h4⟩:=h
 unfold inR at h1 h2
 simp only [Bool.and_eq_true,decide_eq_true_eq] at h1 h2
 omega
end Go.Proofs.Tst
/-
  A source graph with weaker modes (plain).
-/
namespace Go.Proofs.Tst
open Go Go.Vc
def wkR (k a b:Int):Prop:=a=b∨(k=1∧(a=1∧(b=2∨b=5)∨a=2∧b=5))∨(k=2∧(a=1∧(b=3∨b=5)∨a=3∧b=5))∨(k≠1∧k≠2∧(b=5∨b=4∧(a=2∨a=3)))
structure WeakR (g h:Gr):Prop where
 len:h.n=g.n
 rf:h.rf=g.rf
 co:h.co=g.co
 rmw:h.rmw=g.rmw
 thr:∀ i,(h.ev i).thread=(g.ev i).thread
 kind:∀ i,(h.ev i).kind=(g.ev i).kind
 loc:∀ i,(h.ev i).loc=(g.ev i).loc
 mode:∀ i,wkR (g.ev i).kind (h.ev i).mode (g.ev i).mode
namespace WeakR
variable {g h : Gr}
theorem before (w:WeakR g h) (a b:Int):h.before a b=g.before a b:=by unfold Gr.before;rw [w.len,w.thr,w.thr]
theorem po (w:WeakR g h):relM h 0=relM g 0:=by funext i j;exact w.before i j
theorem relRf (w:WeakR g h):relM h 1=relM g 1:=by show ofM h.n h.rf=ofM g.n g.rf;rw [w.len,w.rf]
theorem relCo (w:WeakR g h):relM h 2=relM g 2:=by show ofM h.n (coPairs h)=ofM g.n (coPairs g);unfold coPairs;rw [w.len,w.co]
theorem relRmw (w:WeakR g h):relM h 3=relM g 3:=by show ofM h.n h.rmw=ofM g.n g.rmw;rw [w.len,w.rmw]
theorem relSame (w:WeakR g h):relM h 4=relM g 4:=by funext i j;show h.sameM i j=g.sameM i j;unfold Gr.sameM;rw [w.loc,w.loc]
theorem relFr (w:WeakR g h):relM h 9=relM g 9:=by
 show compM h.n (invM (ofM h.n h.rf)) h.n (ofM h.n (coPairs h))=compM g.n (invM (ofM g.n g.rf)) g.n (ofM g.n (coPairs g))
 unfold coPairs;rw [w.len,w.rf,w.co]
theorem isK (w:WeakR g h) (k:Int):Tst.isK h k=Tst.isK g k:=by funext i;unfold Tst.isK;rw [w.kind]
theorem rel (w:WeakR g h) {i:Nat} (hr:relB h i=true):relB g i=true:=by
 have:=w.kind i
 rw [relB_iff] at hr ⊢
 have h2:=w.mode i
 unfold wkR at h2
 omega
theorem acr (w:WeakR g h) {i:Nat} (hr:acrB h i=true):acrB g i=true:=by
 have:=w.kind i
 rw [acrB_iff] at hr ⊢
 have h2:=w.mode i
 unfold wkR at h2
 omega
theorem esc (w:WeakR g h) {i:Nat} (hr:escB h i=true):escB g i=true:=by
 have:=w.kind i
 unfold escB at hr ⊢
 simp only [Bool.and_eq_true,Bool.or_eq_true,isK_iff,isM_iff] at hr ⊢
 have h2:=w.mode i
 unfold wkR at h2
 omega
theorem rs (w:WeakR g h):rsM h=rsM g:=by
 have e1:plocM h=plocM g:=by funext i j;unfold plocM;rw [w.po,w.relSame]
 have e2:rrM h=rrM g:=by funext i j;unfold rrM;rw [w.relRf,w.relRmw,w.len]
 funext i j;unfold rsM;rw [w.isK,w.len,e1,e2]
theorem sw (w:WeakR g h) {i j:Nat} (hs:swM h i j=true):swM g i j=true:=by
 obtain ⟨h1,h2,h3⟩:=sw_spec.1 hs
 rw [w.isK,w.isK,w.po,w.rs,w.relRf,w.len] at h3
 exact sw_spec.2 ⟨w.rel h1,w.acr h2,h3⟩
theorem plus_mono {n:Nat} {M N:Nat→Nat→Bool} (hM:∀ i j,i<n→j<n→M i j=true→N i j=true) {i j:Nat} (hi:i<n) (hj:j<n) (h:plusM n M i j=true):plusM n N i j=true:=
 plus_least (N:=fun x y=>plusM n N x y=true) (fun i j hi hj hr=>plus_sub (hM i j hi hj hr)) (fun _ _ _ _ hx _ h1 h2=>plus_trans hx h1 h2) hi hj h
theorem hb (w:WeakR g h) {i j:Nat} (hi:i<g.n) (hj:j<g.n) (hs:hbM h i j=true):hbM g i j=true:=by
 unfold hbM at hs ⊢
 rw [w.len] at hs
 refine plus_mono (fun i j _ _ hr=>?_) hi hj hs
 unfold poswM at hr ⊢
 rw [w.po,Bool.or_eq_true] at hr
 rw [Bool.or_eq_true]
 exact hr.imp id w.sw
theorem other (w:WeakR g h):otherM h=otherM g:=by funext i j;unfold otherM;rw [w.po,w.relSame]
end WeakR
end Go.Proofs.Tst
/-
  Graphs that differ by the numbers of their events alone (plain).
-/
namespace Go.Proofs.Tst
open Go Go.Vc
structure Iso (n:Nat) (s t:Nat→Nat):Prop where
 ls:∀ k,k<n→s k<n
 lt:∀ k,k<n→t k<n
 st:∀ k,k<n→s (t k)=k
 ts:∀ k,k<n→t (s k)=k
section
variable {n : Nat} {s t : Nat → Nat}
theorem Iso.inj (I:Iso n s t) {i j:Nat} (hi:i<n) (hj:j<n):(s i==s j)=(i==j):=by
 rw [Bool.eq_iff_iff,beq_iff_eq,beq_iff_eq]
 exact ⟨fun h=>by rw [← I.ts i hi,← I.ts j hj,h],fun h=>by rw [h]⟩
theorem Iso.exB (I:Iso n s t) {f f':Nat→Bool} (h:∀ k,k<n→f' (s k)=f k):Tst.exB n f'=Tst.exB n f:=by
 rw [Bool.eq_iff_iff,exB_true,exB_true]
 constructor
 ·rintro ⟨k,hk,hf⟩
  exact ⟨t k,I.lt k hk,by rw [← h _ (I.lt k hk),I.st k hk];exact hf⟩
 ·rintro ⟨k,hk,hf⟩
  exact ⟨s k,I.ls k hk,by rw [h k hk];exact hf⟩
def SameR (n:Nat) (s:Nat→Nat) (M' M:Nat→Nat→Bool):Prop:=∀ i j,i<n→j<n→M' (s i) (s j)=M i j
def SameB (n:Nat) (s:Nat→Nat) (f' f:Nat→Bool):Prop:=∀ i,i<n→f' (s i)=f i
theorem Iso.plus (I:Iso n s t) {M M':Nat→Nat→Bool} (h:SameR n s M' M):SameR n s (plusM n M') (plusM n M):=by
 intro i j hi hj
 rw [Bool.eq_iff_iff]
 constructor
 ·intro hp
  have:=plus_least (n:=n) (M:=M') (N:=fun x y=>plusM n M (t x) (t y)=true) (fun x y hx hy hm=>plus_sub (by
   rw [← h _ _ (I.lt x hx) (I.lt y hy),I.st x hx,I.st y hy];exact hm)) (fun _ x _ _ hx _ h1 h2=>plus_trans (I.lt x hx) h1 h2) (I.ls i hi) (I.ls j hj) hp
  rw [I.ts i hi,I.ts j hj] at this;exact this
 ·intro hp
  exact plus_least (n:=n) (M:=M) (N:=fun x y=>plusM n M' (s x) (s y)=true) (fun x y hx hy hm=>plus_sub (by rw [h x y hx hy];exact hm)) (fun _ x _ _ hx _ h1 h2=>plus_trans (I.ls x hx) h1 h2) hi hj hp
end
structure GIso (g h:Gr) (s t:Nat→Nat):Prop where
 n:h.n=g.n
 iso:Iso g.n s t
 r0:SameR g.n s (relM h 0) (relM g 0)
 r1:SameR g.n s (relM h 1) (relM g 1)
 r2:SameR g.n s (relM h 2) (relM g 2)
 r3:SameR g.n s (relM h 3) (relM g 3)
 r4:SameR g.n s (relM h 4) (relM g 4)
 kind:∀ i,i<g.n→(h.ev (s i)).kind=(g.ev i).kind
 mode:∀ i,i<g.n→(h.ev (s i)).mode=(g.ev i).mode
 rmw:∀ p:Int×Int,p∈h.rmw↔∃ a b:Nat,a<g.n∧b<g.n∧((a:Int),(b:Int))∈g.rmw∧p=((s a:Int),(s b:Int))
 rmwN:∀ p∈g.rmw,∃ a b:Nat,p=((a:Int),(b:Int))∧a<g.n∧b<g.n
namespace GIso
variable {g h : Gr} {s t : Nat → Nat}
theorem isK (w:GIso g h s t) (k:Int):SameB g.n s (Tst.isK h k) (Tst.isK g k):=fun i hi=>by unfold Tst.isK;rw [w.kind i hi]
theorem isM (w:GIso g h s t) (k:Int):SameB g.n s (Tst.isM h k) (Tst.isM g k):=fun i hi=>by unfold Tst.isM;rw [w.mode i hi]
theorem r9 (w:GIso g h s t):SameR g.n s (relM h 9) (relM g 9):=fun i j hi hj=>by
 show compM h.n (invM (relM h 1)) h.n (relM h 2) (s i) (s j)=compM g.n (invM (relM g 1)) g.n (relM g 2) i j
 rw [w.n]
 have e1:∀ (A B:Nat→Nat→Bool) (x y:Nat),x<g.n→y<g.n→compM g.n A g.n B x y=exB g.n fun k=>A x k&&B k y:=fun A B x y hx hy=>by
  show exB g.n (fun k=>inN g.n A x k&&inN g.n B k y)=_
  unfold exB
  rw [Bool.eq_iff_iff,List.any_eq_true,List.any_eq_true]
  exact ⟨fun ⟨k,hk,e⟩=>⟨k,hk,by rw [inN_in hx (List.mem_range.1 hk),inN_in (List.mem_range.1 hk) hy] at e;exact e⟩,fun ⟨k,hk,e⟩=>⟨k,hk,by rw [inN_in hx (List.mem_range.1 hk),inN_in (List.mem_range.1 hk) hy];exact e⟩⟩
 rw [e1 _ _ _ _ (w.iso.ls i hi) (w.iso.ls j hj),e1 _ _ _ _ hi hj]
 exact w.iso.exB fun k hk=>by
  show (relM h 1 (s k) (s i)&&relM h 2 (s k) (s j))=(relM g 1 k i&&relM g 2 k j)
  rw [w.r1 k i hk hi,w.r2 k j hk hj]
theorem rs (w:GIso g h s t):SameR g.n s (rsM h) (rsM g):=fun i j hi hj=>by
 have e1:SameR g.n s (rrM h) (rrM g):=fun a b ha hb=>by
  unfold rrM;rw [w.n]
  exact w.iso.exB fun k hk=>by rw [w.r1 a k ha hk,w.r3 k b hk hb]
 have e2:=w.iso.plus e1
 unfold rsM
 rw [w.n,w.isK 2 i hi]
 congr 1
 exact w.iso.exB fun k hk=>by
  unfold plocM
  rw [w.r0 i k hi hk,w.r4 i k hi hk,w.iso.inj hi hk,w.isK 2 k hk,e2 k j hk hj,w.iso.inj hk hj]
theorem sw (w:GIso g h s t):SameR g.n s (swM h) (swM g):=fun i j hi hj=>by
 have er:relB h (s i)=relB g i:=by unfold relB;rw [w.isK 2 i hi,w.isK 3 i hi,w.isM 3 i hi,w.isM 4 i hi,w.isM 5 i hi]
 have ea:acrB h (s j)=acrB g j:=by unfold acrB;rw [w.isK 1 j hj,w.isK 3 j hj,w.isM 2 j hj,w.isM 4 j hj,w.isM 5 j hj]
 unfold swM
 rw [er,ea,w.n]
 congr 2
 exact w.iso.exB fun a ha=>by
  rw [w.isK 3 i hi,w.r0 i a hi ha,w.iso.inj hi ha]
  congr 1
  exact w.iso.exB fun b hb=>by
   rw [w.rs a b ha hb]
   congr 1
   exact w.iso.exB fun c hc=>by
    rw [w.r1 b c hb hc,w.isK 1 c hc,w.r0 c j hc hj,w.isK 3 j hj,w.iso.inj hc hj]
theorem hb (w:GIso g h s t):SameR g.n s (hbM h) (hbM g):=by
 unfold hbM;rw [w.n]
 exact w.iso.plus fun i j hi hj=>by unfold poswM;rw [w.r0 i j hi hj,w.sw i j hi hj]
theorem esc (w:GIso g h s t):SameB g.n s (escB h) (escB g):=fun i hi=>by unfold escB;rw [w.isM 5 i hi,w.isK 1 i hi,w.isK 2 i hi]
theorem torn (w:GIso g h s t) {a b:Nat} (ha:a<g.n) (hb:b<g.n):tornS h ((s a:Int),(s b:Int))=tornS g ((a:Int),(b:Int)):=by
 have i1:∀ x:Nat,x<g.n→inR g.n (x:Int)=true:=fun x hx=>by unfold inR;simp;omega
 unfold tornS
 rw [w.n,i1 _ (w.iso.ls a ha),i1 _ (w.iso.ls b hb),i1 _ ha,i1 _ hb]
 simp only [Int.toNat_natCast,Bool.true_and]
 exact w.iso.exB fun k hk=>by rw [w.r9 a k ha hk,w.r2 k b hk hb]
end GIso
end Go.Proofs.Tst
/-
  What makes a graph well-formed, said of all its lists at once (plain).
-/
namespace Go.Proofs.Tst
open Go Go.Vc
def rfOk (g:Gr) (p:Int×Int):Bool:=g.is p.1 2&&(g.ev p.1.toNat).loc==(g.ev p.2.toNat).loc&&(g.ev p.1.toNat).val==(g.ev p.2.toNat).val
def readsFrom (g:Gr) (r d:Nat):List Int:=((List.range' r d).filter fun i=>(g.ev i).kind==1).map fun (i:Nat)=>(i:Int)
theorem rfGo_iff {g:Gr}:∀ (d r k:Nat),r+d=g.n→k≤g.rf.length→(¬ 0≤g.rfGo d r k↔(g.rf.drop k).map (·.2)=readsFrom g r d∧∀ p∈g.rf.drop k,rfOk g p=true)
 | 0,r,k,hr,hk=>by
  unfold Gr.rfGo
  by_cases h:k<g.rf.length
  ·rw [if_pos h]
   constructor
   ·intro h';omega
   ·rintro ⟨h',-⟩
    have:(g.rf.drop k).length=0:=by
     have:=congrArg List.length h'
     simpa [readsFrom] using this
    rw [List.length_drop] at this;omega
  ·rw [if_neg h,List.drop_eq_nil_of_le (by omega)]
   simp [readsFrom]
 | d+1,r,k,hr,hk=>by
  have hrs:readsFrom g r (d+1)=(if (g.ev r).kind=1 then [(r:Int)] else [])++readsFrom g (r+1) d:=by
   unfold readsFrom
   rw [List.range'_succ,List.filter_cons]
   by_cases h:(g.ev r).kind=1
   ·rw [if_pos h,if_pos (by simpa using h)];rfl
   ·rw [if_neg h,if_neg (by simpa using h)];rfl
  rw [hrs]
  by_cases hkd:(g.ev r).kind=1
  ·rw [if_pos hkd]
   by_cases hkl:k<g.rf.length
   ·have hq:g.rf[k]?=some g.rf[k]:=List.getElem?_eq_getElem hkl
    have hdr:g.rf.drop k=g.rf[k] :: g.rf.drop (k+1):=List.drop_eq_getElem_cons hkl
    generalize g.rf[k]=p at hq hdr
    rw [hdr]
    cases hb:g.rfBad r k
    ·rw [rfGo_ok hkd hb,rfGo_iff d (r+1) (k+1) (by omega) (by omega)]
     unfold Gr.rfBad at hb
     rw [hq] at hb
     simp only [Bool.or_eq_false_iff,Bool.not_eq_false',beq_iff_eq] at hb
     obtain ⟨⟨⟨hb1,hb2⟩,hb3⟩,hb4⟩:=hb
     have hok:rfOk g p=true:=by
      unfold rfOk
      rw [hb2,hb1,Int.toNat_natCast,hb3,hb4];simp
     constructor
     ·rintro ⟨h1,h2⟩
      refine ⟨by simp [hb1,h1],fun q hq'=>?_⟩
      rcases List.mem_cons.1 hq' with rfl | hq'
      ·exact hok
      ·exact h2 q hq'
     ·rintro ⟨h1,h2⟩
      refine ⟨?_,fun q hq'=>h2 q (List.mem_cons_of_mem _ hq')⟩
      simp only [List.map_cons,List.cons_append,List.nil_append,List.cons.injEq] at h1
      exact h1.2
    ·rw [rfGo_bad hkd hb]
     constructor
     ·intro h';omega
     ·rintro ⟨h1,h2⟩
      exfalso
      simp only [List.map_cons,List.cons_append,List.nil_append,List.cons.injEq] at h1
      have hok:=h2 p (List.mem_cons_self)
      unfold rfOk at hok
      rw [h1.1,Int.toNat_natCast] at hok
      simp only [Bool.and_eq_true,beq_iff_eq] at hok
      unfold Gr.rfBad at hb
      rw [hq] at hb
      simp only at hb
      rw [h1.1,hok.1.1,hok.1.2,hok.2] at hb
      simp at hb
   ·have hb:g.rfBad r k=true:=by unfold Gr.rfBad;rw [List.getElem?_eq_none (by omega)]
    rw [rfGo_bad hkd hb,List.drop_eq_nil_of_le (by omega)]
    constructor
    ·intro h';omega
    ·rintro ⟨h1,-⟩;simp at h1
  ·rw [if_neg hkd,rfGo_skip hkd,rfGo_iff d (r+1) k (by omega) hk];rfl
theorem rf_iff {g:Gr}:¬ 0≤g.rfAt↔g.rf.map (·.2)=readsFrom g 0 g.n∧∀ p∈g.rf,rfOk g p=true:=by
 unfold Gr.rfAt
 have:=rfGo_iff (g:=g) g.n 0 0 (by omega) (by omega)
 rw [List.drop_zero] at this;exact this
def rmwOk (g:Gr) (p:Int×Int):Bool:=g.is p.1 1&&g.is p.2 2&&g.isNext p.1 p.2&&(g.ev p.1.toNat).loc==(g.ev p.2.toNat).loc
theorem rises1 {l:List (Int×Int)}:(∀ (i:Nat) (p q:Int×Int),l[i]?=some p→l[i+1]?=some q→p.1<q.1)↔l.Pairwise fun p q=>p.1<q.1:=by
 constructor
 ·intro h
  induction l with
  | nil=>exact List.Pairwise.nil
  | cons p l ih =>
   have ih:=ih fun i a b ha hb=>h (i+1) a b (by simpa using ha) (by simpa using hb)
   refine List.Pairwise.cons (fun x hx=>?_) ih
   cases l with
   | nil=>cases hx
   | cons q l =>
    have h0:=h 0 p q rfl rfl
    rcases List.mem_cons.1 hx with rfl | hx
    ·exact h0
    ·have:=(List.pairwise_cons.1 ih).1 x hx;omega
 ·intro h i p q hp hq
  obtain ⟨h1,e1⟩:=List.getElem?_eq_some_iff.1 hp
  obtain ⟨h2,e2⟩:=List.getElem?_eq_some_iff.1 hq
  have:=List.pairwise_iff_getElem.1 h i (i+1) h1 h2 (by omega)
  rw [e1,e2] at this;exact this
theorem rmw_iff {g:Gr}:¬ 0≤g.rmwAt↔(g.rmw.Pairwise fun p q=>p.1<q.1)∧∀ p∈g.rmw,rmwOk g p=true:=by
 unfold Gr.rmwAt
 constructor
 ·intro h
  have hb:=firstBad_get h
  refine ⟨rises1.1 fun i p q hp hq=>?_,fun p hp=>?_⟩
  ·have:=hb (i+1) q hq
   unfold Gr.rmwBad at this
   simp only [Bool.or_eq_false_iff,Bool.and_eq_false_imp,decide_eq_true_eq] at this
   have h1:=this.1.1.1.1 (by omega)
   rw [Nat.zero_add,Nat.add_sub_cancel,List.getD_eq_getElem?_getD,hp,Option.getD_some] at h1
   simp only [decide_eq_false_iff_not] at h1
   omega
  ·obtain ⟨j,hj⟩:=List.mem_iff_getElem?.1 hp
   have:=hb j p hj
   unfold Gr.rmwBad at this
   simp only [Bool.or_eq_false_iff,Bool.not_eq_false'] at this
   unfold rmwOk
   rw [this.1.1.1.2,this.1.1.2,this.1.2,this.2];rfl
 ·rintro ⟨hr,hp⟩
  refine firstBad_none fun j p hj=>?_
  have hok:=hp p (List.mem_of_getElem? hj)
  unfold rmwOk at hok
  simp only [Bool.and_eq_true] at hok
  unfold Gr.rmwBad
  rw [hok.1.1.1,hok.1.1.2,hok.1.2,hok.2]
  simp only [Bool.not_true,Bool.or_false]
  by_cases h0:0<0+j
  ·obtain ⟨i,rfl⟩:∃ i,j=i+1:=⟨j - 1,by omega⟩
   have hlt:=(List.getElem?_eq_some_iff.1 hj).1
   have hi:g.rmw[i]?=some g.rmw[i]:=List.getElem?_eq_getElem (by omega)
   have:=rises1.2 hr i _ _ hi hj
   rw [Nat.zero_add,Nat.add_sub_cancel,List.getD_eq_getElem?_getD,hi,Option.getD_some]
   have e1:decide (p.1≤g.rmw[i].1)=false:=by simp;omega
   rw [e1];simp
  ·have:decide (0<0+j)=false:=by simpa using h0
   rw [this];rfl
theorem co_iff {g:Gr}:¬ 0≤g.coAt↔(g.co.length:Int)=g.cells∧∀ c,c<g.co.length→g.coBad c (g.co.getD c [])=false:=by
 unfold Gr.coAt
 constructor
 ·intro h
  have hlen:(g.co.length:Int)=g.cells:=by
   apply Classical.byContradiction;intro hne
   rw [if_pos (.inr hne)] at h;omega
  refine ⟨hlen,fun c hc=>?_⟩
  have hls:g.lists=g.co.length:=by unfold Gr.lists;omega
  have hf:¬ g.coFirst<g.lists:=fun hlt=>by rw [if_pos (.inl hlt)] at h;omega
  cases hb:g.coBad c (g.co.getD c [])
  ·rfl
  ·exfalso
   apply hf
   unfold Gr.coFirst
   cases hfd:(List.range g.lists).find? (fun c=>g.coBad c (g.co.getD c [])) with
   | none =>
    rw [List.find?_eq_none] at hfd
    exact absurd hb (hfd c (List.mem_range.2 (by omega)))
   | some u =>
    have:=List.mem_of_find?_eq_some hfd
    rw [List.mem_range] at this
    exact this
 ·rintro ⟨h1,h2⟩
  have hls:g.lists=g.co.length:=by unfold Gr.lists;omega
  have hf:(List.range g.lists).find? (fun c=>g.coBad c (g.co.getD c []))=none:=by
   rw [List.find?_eq_none]
   intro c hc
   rw [h2 c (by have:=List.mem_range.1 hc;omega)];simp
  have hcf:g.coFirst=g.lists:=by unfold Gr.coFirst;rw [hf];rfl
  rw [if_neg (by rw [hcf];omega)];omega
theorem dep_src {g:Gr} {l:List (Int×Int)} {f:Int→Bool}:¬ 0≤g.depAt false l f↔l=[]:=by
 unfold Gr.depAt
 constructor
 ·intro h
  cases l with
  | nil=>rfl
  | cons p l =>
   have:=firstBad_get h 0 p rfl
   unfold Gr.depBad at this
   simp at this
 ·rintro rfl;unfold Gr.firstBad;omega
theorem check_iff {g:Gr} {words:Bool}:(g.check words).1=0↔g.size=true∧¬ 0≤g.initAt words∧¬ 0≤g.evAt words∧¬ 0≤g.rfAt∧¬ 0≤g.coAt∧¬ 0≤g.rmwAt ∧
  ¬ 0≤g.depAt words g.addr (fun k=>k==1||k==2)∧¬ 0≤g.depAt words g.data (fun k=>k==2)∧¬ 0≤g.depAt words g.ctrl (fun k=>k==1||k==2||k==3):=by
 refine ⟨check_zero,?_⟩
 rintro ⟨h1,h2,h3,h4,h5,h6,h7,h8,h9⟩
 unfold Gr.check
 rw [h1,if_neg (by simp),if_neg h2,if_neg h3,if_neg h4,if_neg h5,if_neg h6,if_neg h7,if_neg h8,if_neg h9]
end Go.Proofs.Tst
/-
  Is a relation of the program's the document's?
-/
namespace Go.Proofs.Tst
open Go Go.Vc
end Go.Proofs.Tst
/-
  Changed graphs in memory.
-/
namespace Go.Proofs.Tst
open Go Go.Vc
theorem rlc_rl {h:Heap} {v:Value} {L:List (List Value)} (t:RLc h v L):RL h v L:=by
 obtain ⟨us,h1,h2⟩:=t
 exact ⟨us,h1,fun i l hl=>by obtain ⟨a,c,h3,-,h5⟩:=h2 i l hl;exact ⟨_,h3,h5⟩⟩
theorem GrAt.setR {h:Heap} {q:GV} {g:Gr} (t:GrAt h q g) {l:List (Int×Int)} {a:Option Addr} {c:Nat} (w:Rd 2 h (.slice a l.length c) l.length (pairsV l)) (b:l.length≤8796093022208):GrAt h { q with r:=a,rc:=c } { g with rmw:=l }:=
 ⟨t.e,t.f,t.o,w,t.a,t.d,t.c,⟨t.fits.e,t.fits.f,t.fits.o,b,t.fits.a,t.fits.d,t.fits.c,t.fits.l⟩,t.cap,t.l⟩
end Go.Proofs.Tst
/-
  The document's relations of a graph.
-/
namespace Go.Proofs.Tst
open Go Go.Vc
end Go.Proofs.Tst
/-
  GraphLaws.
-/
namespace Go.Proofs.Tst
open Go Go.Vc
end Go.Proofs.Tst
/-
  whole: are facts the document's?
-/
namespace Go.Proofs.Tst
open Go Go.Vc
end Go.Proofs.Tst
/-
  GraphDerives.
-/
namespace Go.Proofs.Tst
open Go Go.Vc
theorem FactsAt.fr {h h':Heap} {lo l r:Nat} {p:Nat→Value} {rd wr fe:Value} {g:Gr} (F:FactsAt h lo p rd wr fe g) (f:Fr l r h h') (hd:r≤lo):FactsAt h' lo p rd wr fe g:=by
 obtain ⟨A,B,D,dlo,dap⟩:=F.rel
 have a1:=F.hrd.at_
 have a2:=F.hwr.at_
 have a3:=F.hfe.at_
 have fz:=f.size
 exact ⟨F.n,⟨A,B,D.fr f (fun k hk=>by have:=dlo k hk;omega),fun k hk=>by have:=dlo k hk;omega,dap⟩,F.hrd.fr f (by omega),F.hwr.fr f (by omega),F.hfe.fr f (by omega),F.off⟩
end Go.Proofs.Tst
/-
  Events changed in place.
-/
namespace Go.Proofs.Tst
open Go Go.Vc
def setMode (E:List Ev) (i:Nat) (m:Int):List Ev:=E.set i { E.getD i default with mode:=m }
@[simp] theorem length_setMode {E:List Ev} {i:Nat} {m:Int}:(setMode E i m).length=E.length:=by simp [setMode]
theorem evsV_setMode:∀ {E:List Ev} {i:Nat} {m:Int},i<E.length→(evsV E).set (i * 5+4) (.int .i64 m)=evsV (setMode E i m)
 | [],i,_,h=>by simp at h
 | e :: E,0,m,_=>rfl
 | e :: E,i+1,m,h=>by
  have ih:=evsV_setMode (E:=E) (i:=i) (m:=m) (by simpa using h)
  have h1:setMode (e :: E) (i+1) m=e :: setMode E i m:=by simp [setMode]
  have h2:e.cells.length=5:=rfl
  rw [h1,evsV_cons,evsV_cons,← ih,List.set_append_right _ _ (by omega),h2]
  congr 2;omega
theorem putAt_right {a:List Value}:∀ (ws r:List Value) (o:Nat),putAt (a++r) (a.length+o) ws=a++putAt r o ws
 | [],_,_=>rfl
 | v :: ws,r,o=>by
  show putAt ((a++r).set (a.length+o) v) (a.length+o+1) ws=a++putAt (r.set o v) (o+1) ws
  rw [List.set_append_right _ _ (by omega),Nat.add_sub_cancel_left,Nat.add_assoc]
  exact putAt_right ws _ _
theorem putAt_left {r:List Value}:∀ (ws a:List Value) (o:Nat),o+ws.length≤a.length→putAt (a++r) o ws=putAt a o ws++r
 | [],_,_,_=>rfl
 | v :: ws,a,o,h=>by
  show putAt ((a++r).set o v) (o+1) ws=putAt (a.set o v) (o+1) ws++r
  simp at h
  rw [List.set_append_left _ _ (by omega)]
  exact putAt_left ws _ _ (by simp;omega)
theorem evsV_put:∀ {E:List Ev} {i:Nat} {e:Ev},i<E.length→putAt (evsV E) (i * 5) e.cells=evsV (E.set i e)
 | [],i,_,h=>by simp at h
 | x :: E,0,e,_=>rfl
 | x :: E,i+1,e,h=>by
  have ih:=evsV_put (E:=E) (i:=i) (e:=e) (by simpa using h)
  have h2:(i+1) * 5=x.cells.length+i * 5:=by show _=5 + _;omega
  rw [List.set_cons_succ,evsV_cons,evsV_cons,← ih,h2]
  exact putAt_right _ _ _
theorem holder_ev {h:Heap} {b n c lo:Nat} {E:List Ev} (w:Holder 5 h (.slice (some ⟨b,0,none⟩) n c) n (evsV E) lo) {i:Nat} (hi:i<n) :
  Wr h b (i * 5+4) 1∧Wr h b (i * 5) 5∧(∀ h' m,Sto h h' b (i * 5+4) [.int .i64 m]→Holder 5 h' (.slice (some ⟨b,0,none⟩) n c) n (evsV (setMode E i m)) lo)∧∀ h' e,Sto h h' b (i * 5) e.cells→Holder 5 h' (.slice (some ⟨b,0,none⟩) n c) n (evsV (E.set i e)) lo:=by
 have hl:=w.1
 rw [length_evsV] at hl
 have hE:i<E.length:=by omega
 obtain ⟨b',c',rest,h1,h2,h3,h4⟩:=w.blk (by omega)
 cases h1
 refine ⟨h2.wr (by simp;omega),h2.wr (by simp;omega),fun h' m s=>⟨by simp;omega,.inr ⟨b,c,rest,rfl,?_,h3,h4⟩⟩,fun h' e s=>⟨by simp;omega,.inr ⟨b,c,rest,rfl,?_,h3,h4⟩⟩⟩
 ·have:=s.row h2
  rw [putAt_one,List.set_append_left _ _ (by simp;omega),evsV_setMode hE] at this
  exact this
 ·have:=s.row h2
  rw [putAt_left _ _ _ (by simp [Ev.cells];omega),evsV_put hE] at this
  exact this
section
variable {h h' : Heap} {q : GV} {g : Gr} {lo : Nat}
theorem GrOwn.evs' {E':List Ev} {b:Nat} (w:GrOwn h q g lo) (f:Fr b (b+1) h h') (hb:q.e=some ⟨b,0,none⟩) (hl:E'.length=g.evs.length) (he:Holder 5 h' (.slice (some ⟨b,0,none⟩) g.evs.length q.ec) g.evs.length (evsV E') lo) :
  GrOwn h' q { g with evs:=E' } lo:=by
 obtain ⟨us,o1,o2,o3⟩:=w.o
 have lb:bl (.slice q.e g.evs.length q.ec)=b∧bh (.slice q.e g.evs.length q.ec)=b+1:=by rw [hb];exact ⟨rfl,rfl⟩
 have key:∀ x,Off (.slice q.e g.evs.length q.ec) x→bh x≤b∨b+1≤bl x∨b+1≤b:=fun x hx=>by
  unfold Off at hx
  have:=bh_bl x
  omega
 have ha:Away b (b+1) (.slice q.o g.co.length q.oc) us:=fun x hx=>key x (o3 x hx _ (by simp)).symm
 have hw:=w.off
 refine ⟨?_,w.f.fr f (key _ (hw _ (by simp))),⟨us,o1.fr f ha,o2,?_⟩,w.r.fr f (key _ (hw _ (by simp))),w.a.fr f (key _ (hw _ (by simp))),w.d.fr f (key _ (hw _ (by simp))),w.c.fr f (key _ (hw _ (by simp))),?_,⟨?_,w.fits.f,w.fits.o,w.fits.r,w.fits.a,w.fits.d,w.fits.c,w.fits.l⟩⟩
 ·dsimp only;rw [hl,hb];exact he
 ·dsimp only;rw [hl];exact o3
 ·dsimp only;rw [hl];exact hw
 ·dsimp only;rw [hl];exact w.fits.e
theorem GrOwn.fr {l r:Nat} (w:GrOwn h q g lo) (f:Fr l r h h') (hd:r≤lo∨h.size≤l∨r≤l):GrOwn h' q g lo:=by
 obtain ⟨us,o1,o2,o3⟩:=w.o
 have k:∀ {s n:Nat} {v:Value} {xs:List Value},Holder s h v n xs lo→Holder s h' v n xs lo:=fun o=>o.fr f (by have:=o.at_;have:=o.top;omega)
 refine ⟨k w.e,k w.f,⟨us,o1.fr f ?_,o2,o3⟩,k w.r,k w.a,k w.d,k w.c,w.off,w.fits⟩
 rcases hd with hd | hd | hd
 ·exact o1.below hd
 ·exact o1.above hd
 ·exact Away.none hd
theorem GrOwn.lower {lo':Nat} (w:GrOwn h q g lo) (hl:lo'≤lo):GrOwn h q g lo':=by
 obtain ⟨us,o1,o2⟩:=w.o
 exact ⟨w.e.lower hl,w.f.lower hl,⟨us,o1.lower hl,o2⟩,w.r.lower hl,w.a.lower hl,w.d.lower hl,w.c.lower hl,w.off,w.fits⟩
theorem GrOwn.ev (w:GrOwn h q g lo) (hn:0<g.n):∃ b,q.e=some ⟨b,0,none⟩∧lo≤b∧b<h.size∧(∀ i,i<g.n→Wr h b (i * 5+4) 1∧Wr h b (i * 5) 5) ∧
  (∀ h' i m,i<g.n→Sto h h' b (i * 5+4) [.int .i64 m]→GrOwn h' q { g with evs:=setMode g.evs i m } lo)∧∀ h' i e,i<g.n→Sto h h' b (i * 5) e.cells→GrOwn h' q { g with evs:=g.evs.set i e } lo:=by
 have we:=w.e
 obtain ⟨b,c,rest,h1,h2,h3,h4⟩:=we.blk hn
 have hq:q.e=some ⟨b,0,none⟩:=by injection h1
 rw [hq] at we
 exact ⟨b,hq,h4,h2.lt,fun i hi=>⟨(holder_ev we hi).1,(holder_ev we hi).2.1⟩,fun h' i m hi s=>w.evs' s.fr hq (by simp) ((holder_ev we hi).2.2.1 _ _ s),fun h' i e hi s=>w.evs' s.fr hq (by simp) ((holder_ev we hi).2.2.2 _ _ s)⟩
end
end Go.Proofs.Tst
/-
  Relations in memory, some at once; chains of steps.
-/
namespace Go.Proofs.Tst
open Go Go.Vc
abbrev Mx:=Nat→Nat→Bool
def PA (h:Heap) (v:Value) (n:Nat) (M:Mx):Prop:=∃ lo hi,ProgAt h lo hi v n M
def PN (h:Heap) (lo:Nat) (v:Value) (n:Nat) (M:Mx):Prop:=∃ a b,ProgAt h a b v n M∧lo≤a∧a≤b∧b≤h.size
section
variable {h h' : Heap} {v : Value} {n lo : Nat} {M N : Mx}
theorem PA.fr (t:PA h v n M) (f:Fr 0 0 h h'):PA h' v n M:=by obtain ⟨a,b,t⟩:=t;exact ⟨a,b,t.fr f (by omega)⟩
theorem PA.ptr (t:PA h v n M):∃ b,v=.pointer (some ⟨b,0,none⟩):=by obtain ⟨a,b,t⟩:=t;exact progPtr t
theorem PA.oc (t:PA h v n M):v.oneCell'=true:=by obtain ⟨b,rfl⟩:=t.ptr;rfl
theorem PA.congr (t:PA h v n M) (e:∀ i j,i<n→j<n→M i j=N i j):PA h v n N:=by obtain ⟨a,b,t⟩:=t;exact ⟨a,b,t.congr e⟩
theorem PN.pa (t:PN h lo v n M):PA h v n M:=by obtain ⟨a,b,t,-⟩:=t;exact ⟨a,b,t⟩
theorem PN.of (t:ProgAt h lo h.size v n M):PN h lo v n M:=⟨_,_,t,Nat.le_refl _,by obtain ⟨_,_,_,_,_,_,w⟩:=t;have:=w.at_;omega,Nat.le_refl _⟩
theorem PN.congr (t:PN h lo v n M) (e:∀ i j,i<n→j<n→M i j=N i j):PN h lo v n N:=by obtain ⟨a,b,t,k⟩:=t;exact ⟨a,b,t.congr e,k⟩
theorem PN.lower {lo':Nat} (t:PN h lo v n M) (hl:lo'≤lo):PN h lo' v n M:=by obtain ⟨a,b,t,k⟩:=t;exact ⟨a,b,t,by omega,k.2⟩
theorem PN.fr {l r:Nat} (t:PN h lo v n M) (f:Fr l r h h') (hd:r≤lo∨h.size≤l∨r≤l):PN h' lo v n M:=by
 obtain ⟨a,b,t,k⟩:=t
 have:=f.size
 exact ⟨a,b,t.fr f (by omega),by omega⟩
end
def UA (h:Heap) (lv:Value) (n:Nat) (M:Mx):Prop:=∃ L:List (Value×Nat×Mx),Rd 1 h lv L.length (L.map (·.1))∧RelsAt h L∧L.length≤65536∧maxN L=n∧∀ i j,i<n→j<n→anyM L i j=M i j
theorem UA.fr {h h':Heap} {v:Value} {n:Nat} {M:Mx} (t:UA h v n M) (f:Fr 0 0 h h'):UA h' v n M:=by
 obtain ⟨L,h1,h2,h3⟩:=t;exact ⟨L,h1.fr f,h2.fr f,h3⟩
theorem maxN_same {n:Nat}:∀ {l:List (Value×Mx)},l≠[]→maxN (l.map fun x=>(x.1,n,x.2))=n:=by
 have key:∀ (l:List (Value×Mx)) (m:Nat),m≤n→(l.map fun x=>(x.1,n,x.2)).foldl (fun m (x:Value×Nat×Mx)=>max m x.2.1) m=if l=[] then m else n:=by
  intro l
  induction l with
  | nil=>intro m _;rfl
  | cons x l ih =>
   intro m hm
   simp only [List.map_cons,List.foldl_cons]
   rw [ih _ (by omega),if_neg (by simp:¬ x :: l=[])]
   split
   ·omega
   ·rfl
 intro l hl
 unfold maxN
 rw [key l 0 (Nat.zero_le _),if_neg hl]
theorem UA.mk {h:Heap} {b n:Nat} {M:Mx} (l:List (Value×Mx)) (r:Rw h b (l.map (·.1))) (hp:∀ x∈l,PA h x.1 n x.2) (hne:l≠[]) (hl:l.length≤65536) (hM:∀ i j,i<n→j<n→(l.any fun x=>x.2 i j)=M i j) :
  UA h (.slice (some ⟨b,0,none⟩) l.length l.length) n M:=by
 refine ⟨l.map fun x=>(x.1,n,x.2),?_,fun x hx=>?_,by rw [List.length_map];exact hl,maxN_same hne,fun i j hi hj=>?_⟩
 ·rw [List.length_map,List.map_map]
  exact Rw.rd (s:=1) r (by simp)
 ·obtain ⟨y,hy,rfl⟩:=List.mem_map.1 hx
  exact hp y hy
 ·rw [← hM i j hi hj]
  unfold anyM
  rw [List.any_map]
  congr 1
  funext x
  exact inN_in hi hj
theorem rel_UnionU {lv:Value} {n:Nat} {M:Mx} {h:Heap} (u:UA h lv n M) :
  Con Tryd.prog 58 #[lv] h fun v h'=>Fr 0 0 h h'∧ProgAt h' h.size h'.size v n M:=by
 obtain ⟨L,h1,h2,h3,h4,h5⟩:=u
 exact (rel_Union h1 h2 h3).mono fun v h' ⟨f,t⟩=>⟨f,by rw [h4] at t;exact t.congr h5⟩
def CA (h:Heap) (lv:Value) (n:Nat) (l:List Mx):Prop:=∃ ws:List Value,ws.length=l.length∧Rd 1 h lv ws.length ws∧ws.length≤65536∧∀ (i:Nat) (w:Value) (M:Mx),ws[i]?=some w→l[i]?=some M→PA h w n M
theorem CA.fr {h h':Heap} {v:Value} {n:Nat} {l:List Mx} (t:CA h v n l) (f:Fr 0 0 h h'):CA h' v n l:=by
 obtain ⟨L,h1,h2,h3,h4⟩:=t;exact ⟨L,h1,h2.fr f,h3,fun i w M a b=>(h4 i w M a b).fr f⟩
theorem CA.mk {h:Heap} {b n:Nat} (l:List (Value×Mx)) (r:Rw h b (l.map (·.1))) (hp:∀ x∈l,PA h x.1 n x.2) (hl:l.length≤65536):CA h (.slice (some ⟨b,0,none⟩) l.length l.length) n (l.map (·.2)):=by
 refine ⟨l.map (·.1),by simp,?_,by simpa using hl,fun i w M h1 h2=>?_⟩
 ·rw [List.length_map];exact Rw.rd (s:=1) r (by simp)
 ·rw [List.getElem?_map,Option.map_eq_some_iff] at h1 h2
  obtain ⟨x,hx,rfl⟩:=h1
  obtain ⟨y,hy,rfl⟩:=h2
  rw [hx] at hy;cases hy
  exact hp x (List.mem_of_getElem? hx)
def orM (l:List Mx):Mx:=fun i j=>l.any fun X=>X i j
theorem UA.mk' {h:Heap} {b n:Nat} (l:List (Value×Mx)) (r:Rw h b (l.map (·.1))) (hp:∀ x∈l,PA h x.1 n x.2) (hne:l≠[]) (hl:l.length≤65536):UA h (.slice (some ⟨b,0,none⟩) l.length l.length) n (orM (l.map (·.2))):=
 UA.mk l r hp hne hl fun i j _ _=>by unfold orM;rw [List.any_map];rfl
theorem pa_nil {h:Heap} {n:Nat}:∀ x∈([]:List (Value×Mx)),PA h x.1 n x.2:=fun x hx=>by cases hx
theorem pa_cons {h:Heap} {n:Nat} {v:Value} {M:Mx} {l:List (Value×Mx)} (a:PA h v n M) (t:∀ x∈l,PA h x.1 n x.2):∀ x∈(v,M) :: l,PA h x.1 n x.2:=fun x hx=>by
 rcases List.mem_cons.1 hx with rfl | hx
 ·exact a
 ·exact t x hx
def dM (f:Nat→Bool):Mx:=fun i j=>i==j&&f i
theorem exB_congr {n:Nat} {f g:Nat→Bool} (h:∀ k,k<n→f k=g k):exB n f=exB n g:=by
 unfold exB
 rw [Bool.eq_iff_iff,List.any_eq_true,List.any_eq_true]
 exact ⟨fun ⟨k,hk,e⟩=>⟨k,hk,by rw [← h k (List.mem_range.1 hk)];exact e⟩,fun ⟨k,hk,e⟩=>⟨k,hk,by rw [h k (List.mem_range.1 hk)];exact e⟩⟩
section
variable {n i j : Nat} {A B : Mx} {f : Nat → Bool}
theorem compM_in (hi:i<n) (hj:j<n):compM n A n B i j=exB n fun k=>A i k&&B k j:=by
 show exB n (fun k=>inN n A i k&&inN n B k j)=_
 exact exB_congr fun k hk=>by rw [inN_in hi hk,inN_in hk hj]
end
end Go.Proofs.Tst
/-
  The words' memory model in memory: its parts.
-/
namespace Go.Proofs.Tst
open Go Go.Vc
def mcells (q:GV) (g:Gr) (c:Nat→Nat) (rd wr fe:Value) (d:Nat→Nat):List Value:=[.int .i64 g.cells,.slice q.e g.evs.length q.ec,.slice q.f g.rf.length q.fc,.slice q.o g.co.length q.oc,.slice q.r g.rmw.length q.rc,.slice q.a g.addr.length q.ac,.slice q.d g.data.length q.dc,.slice q.c g.ctrl.length q.cc,
 .pointer (some ⟨c 0,0,none⟩),.pointer (some ⟨c 1,0,none⟩),.pointer (some ⟨c 2,0,none⟩),.pointer (some ⟨c 9,0,none⟩),.pointer (some ⟨c 3,0,none⟩),.pointer (some ⟨c 4,0,none⟩),.pointer (some ⟨c 5,0,none⟩),.pointer (some ⟨c 6,0,none⟩),.pointer (some ⟨c 7,0,none⟩),.pointer (some ⟨c 8,0,none⟩),rd,wr,fe,
 .pointer (some ⟨d 0,0,none⟩),.pointer (some ⟨d 1,0,none⟩),.pointer (some ⟨d 2,0,none⟩),.pointer (some ⟨d 3,0,none⟩),.pointer (some ⟨d 4,0,none⟩),.pointer (some ⟨d 5,0,none⟩)]
def armM (g:Gr):Nat→Mx
 | 0=>rfeM g
 | 1=>rfiM g
 | 2=>coeM g
 | 3=>coiM g
 | 4=>freM g
 | _=>dM (acqB g)
structure Md (h:Heap) (mb:Nat) (q:GV) (g:Gr) (c:Nat→Nat) (rd wr fe:Value) (d:Nat→Nat):Prop where
 row:Rw h mb (mcells q g c rd wr fe d)
 gr:GrAt h q g
 n:g.n≤256
 rel:∀ k,k<10→PA h (.pointer (some ⟨c k,0,none⟩)) g.n (relM g k)
 hm:∀ k,k<6→PA h (.pointer (some ⟨d k,0,none⟩)) g.n (armM g k)
 rd:Rd 1 h rd (kindsV g 1 g.n).length (boolsV (kindsV g 1 g.n))
 wr:Rd 1 h wr (kindsV g 2 g.n).length (boolsV (kindsV g 2 g.n))
 fe:Rd 1 h fe (kindsV g 3 g.n).length (boolsV (kindsV g 3 g.n))
theorem Md.fr {h h':Heap} {mb:Nat} {q:GV} {g:Gr} {c:Nat→Nat} {rd wr fe:Value} {d:Nat→Nat} (m:Md h mb q g c rd wr fe d) (f:Fr 0 0 h h'):Md h' mb q g c rd wr fe d:=
 ⟨m.row.fr f (by omega),m.gr.fr f,m.n,fun k hk=>(m.rel k hk).fr f,fun k hk=>(m.hm k hk).fr f,m.rd.fr f,m.wr.fr f,m.fe.fr f⟩
structure Mg (h:Heap) (mb:Nat) (q:GV) (g:Gr):Prop where
 row:∃ rest,Rw h mb (gcells q g++rest)
 gr:GrAt h q g
 n:g.n≤256
theorem Mg.fr {h h':Heap} {mb:Nat} {q:GV} {g:Gr} (m:Mg h mb q g) (f:Fr 0 0 h h'):Mg h' mb q g:=
 ⟨by obtain ⟨r,w⟩:=m.row;exact ⟨r,w.fr f (by omega)⟩,m.gr.fr f,m.n⟩
section
variable {h : Heap} {mb : Nat} {q : GV} {g : Gr} {c : Nat → Nat} {rd wr fe : Value} {d : Nat → Nat}
end
end Go.Proofs.Tst
/-
  The words' memory model: aob, all relations, the model of a graph, Check.
-/
namespace Go.Proofs.Tst
open Go Go.Vc
section
variable {h : Heap} {mb : Nat} {q : GV} {g : Gr} {c : Nat → Nat} {rd wr fe : Value} {d : Nat → Nat}
end
end Go.Proofs.Tst
/-
  The words' memory model: all its relations.
-/
namespace Go.Proofs.Tst
open Go Go.Vc
theorem Der.snoc {h:Heap} {A B:Nat→Nat} {p:Nat→Value} {n m lo L L':Nat} {M:Nat→Mx} {v:Value} (D:Der h A B p n M m) (hd:∀ k,k<m→lo≤A k∧A k≤B k∧B k≤L) (w:∃ a b,ProgAt h a b v n (M m)∧L≤a∧a≤b∧b≤L') (hl:lo≤L:=by omega) :
  ∃ A' B',Der h A' B' (upd p m v) n M (m+1)∧∀ k,k<m+1→lo≤A' k∧A' k≤B' k∧B' k≤L':=by
 obtain ⟨a,b,w,w1,w2,w3⟩:=w
 refine ⟨upd A m a,upd B m b,⟨fun k hk=>?_,fun k l hk hl hkl=>?_⟩,fun k hk=>?_⟩
 ·by_cases hkm:k=m
  ·subst hkm;rw [upd_same,upd_same,upd_same];exact w
  ·rw [upd_ne _ _ hkm,upd_ne _ _ hkm,upd_ne _ _ hkm];exact D.at_ k (by omega)
 ·by_cases hkm:k=m
  ·subst hkm
   rw [upd_same,upd_same,upd_ne _ _ (Ne.symm hkl),upd_ne _ _ (Ne.symm hkl)]
   have:=hd l (by omega);omega
  ·by_cases hlm:l=m
   ·subst hlm
    rw [upd_same,upd_same,upd_ne _ _ hkm,upd_ne _ _ hkm]
    have:=hd k (by omega);omega
   ·rw [upd_ne _ _ hkm,upd_ne _ _ hkm,upd_ne _ _ hlm,upd_ne _ _ hlm]
    exact D.off k l (by omega) (by omega) hkl
 ·by_cases hkm:k=m
  ·subst hkm;rw [upd_same,upd_same];omega
  ·rw [upd_ne _ _ hkm,upd_ne _ _ hkm];have:=hd k (by omega);omega
section
variable {h : Heap} {mb : Nat} {q : GV} {g : Gr} {c : Nat → Nat} {rd wr fe : Value} {d : Nat → Nat}
end
end Go.Proofs.Tst
/-
  The words' memory model of a graph; Derive, Check.
-/
namespace Go.Proofs.Tst
open Go Go.Vc
theorem good_false {g:Gr} (h:(g.check false).1=0):g.good=true:=by unfold Gr.good;rw [h];simp
section
variable {h : Heap} {q : GV} {g : Gr}
end
end Go.Proofs.Tst
/-
  The events in another order that keeps po (plain).
-/
namespace Go.Proofs.Tst
open Go Go.Vc
def mapP (s:Nat→Nat) (p:Int×Int):Int×Int:=((s p.1.toNat:Int),(s p.2.toNat:Int))
structure Relist (g h:Gr) (s t:Nat→Nat):Prop where
 cells:h.cells=g.cells
 n:h.n=g.n
 iso:Iso g.n s t
 fix:∀ c:Nat,(c:Int)<g.cells→c<g.n→s c=c
 up:∀ i j,i<j→j<g.n→(g.ev i).thread=(g.ev j).thread→0≤(g.ev i).thread→s i<s j
 ev:∀ i,i<g.n→h.ev (s i)=g.ev i
 rf:h.rf.Perm (g.rf.map (mapP s))
 rfs:h.rf.Pairwise fun p q=>p.2<q.2
 rmw:h.rmw.Perm (g.rmw.map (mapP s))
 rmws:h.rmw.Pairwise fun p q=>p.1<q.1
 co:h.co=g.co.map fun l=>l.map fun x=>(s x.toNat:Int)
 addr:h.addr=[]
 data:h.data=[]
 ctrl:h.ctrl=[]
theorem strict_ext:∀ {l m:List Int},l.Pairwise (· < ·)→m.Pairwise (· < ·)→(∀ x,x∈l↔x∈m)→l=m
 | [],[],_,_,_=>rfl
 | [],y :: m,_,_,h=>absurd ((h y).2 (by simp)) (by simp)
 | x :: l,[],_,_,h=>absurd ((h x).1 (by simp)) (by simp)
 | x :: l,y :: m,hl,hm,h=>by
  obtain ⟨h1,h2⟩:=List.pairwise_cons.1 hl
  obtain ⟨h3,h4⟩:=List.pairwise_cons.1 hm
  have e:x=y:=by
   rcases List.mem_cons.1 ((h x).1 (by simp)) with e | e
   ·exact e
   ·rcases List.mem_cons.1 ((h y).2 (by simp)) with e' | e'
    ·exact e'.symm
    ·have:=h3 x e;have:=h1 y e';omega
  subst e
  congr 1
  refine strict_ext h2 h4 fun z=>?_
  constructor
  ·intro hz
   rcases List.mem_cons.1 ((h z).1 (List.mem_cons_of_mem _ hz)) with e | e
   ·subst e;have:=h1 z hz;omega
   ·exact e
  ·intro hz
   rcases List.mem_cons.1 ((h z).2 (List.mem_cons_of_mem _ hz)) with e | e
   ·subst e;have:=h3 z hz;omega
   ·exact e
theorem reads_sorted {g:Gr}:(readsFrom g 0 g.n).Pairwise (· < ·):=by
 unfold readsFrom
 rw [List.pairwise_map]
 refine List.Pairwise.filter _ ?_
 rw [← List.range_eq_range']
 exact List.pairwise_lt_range.imp fun h=>by omega
theorem reads_mem {g:Gr} {x:Int}:x∈readsFrom g 0 g.n↔∃ i:Nat,i<g.n∧(g.ev i).kind=1∧x=(i:Int):=by
 unfold readsFrom
 rw [← List.range_eq_range',List.mem_map]
 constructor
 ·rintro ⟨i,hi,rfl⟩
  rw [List.mem_filter,List.mem_range,beq_iff_eq] at hi
  exact ⟨i,hi.1,hi.2,rfl⟩
 ·rintro ⟨i,h1,h2,rfl⟩
  exact ⟨i,List.mem_filter.2 ⟨List.mem_range.2 h1,by simpa using h2⟩,rfl⟩
namespace Relist
variable {g h : Gr} {s t : Nat → Nat}
theorem back (w:Relist g h s t) {i:Nat} (hi:i<g.n):h.ev i=g.ev (t i):=by rw [← w.ev _ (w.iso.lt i hi),w.iso.st i hi]
theorem is_s (w:Relist g h s t) {i:Nat} (hi:i<g.n) (k:Int):h.is (s i:Int) k=g.is (i:Int) k:=by
 have:=w.iso.ls i hi
 unfold Gr.is
 rw [Int.toNat_natCast,Int.toNat_natCast,w.ev i hi,w.n]
 have e1:decide (0≤(s i:Int))=true:=by simp
 have e2:decide ((s i:Int)<(g.n:Int))=true:=by simp;omega
 have e3:decide (0≤(i:Int))=true:=by simp
 have e4:decide ((i:Int)<(g.n:Int))=true:=by simp;omega
 rw [e1,e2,e3,e4]
theorem before_s (w:Relist g h s t) {i j:Nat} (hi:i<g.n) (hj:j<g.n):h.before (s i:Int) (s j:Int)=g.before (i:Int) (j:Int):=by
 have:=w.iso.ls i hi
 have:=w.iso.ls j hj
 unfold Gr.before
 simp only [Int.toNat_natCast,w.ev i hi,w.ev j hj,w.n]
 rw [Bool.eq_iff_iff]
 simp only [Bool.and_eq_true,decide_eq_true_eq,beq_iff_eq]
 constructor
 ·rintro ⟨⟨⟨⟨-,h1⟩,-⟩,h2⟩,h3⟩
  refine ⟨⟨⟨⟨by omega,?_⟩,by omega⟩,h2⟩,h3⟩
  apply Classical.byContradiction;intro hn
  rcases Nat.lt_trichotomy i j with c | c | c
  ·omega
  ·subst c;omega
  ·have:=w.up j i c hi h3.symm (by rw [← h3];exact h2);omega
 ·rintro ⟨⟨⟨⟨-,h1⟩,-⟩,h2⟩,h3⟩
  have:=w.up i j (by omega) hj h3 h2
  exact ⟨⟨⟨⟨by omega,by omega⟩,by omega⟩,h2⟩,h3⟩
theorem next_s (w:Relist g h s t) {a b:Nat} (ha:a<g.n) (hb:b<g.n) (hn:g.isNext (a:Int) (b:Int)=true):h.isNext (s a:Int) (s b:Int)=true:=by
 unfold Gr.isNext at hn ⊢
 rw [w.before_s ha hb]
 rw [Bool.and_eq_true,List.all_eq_true] at hn ⊢
 obtain ⟨h1,h2⟩:=hn
 refine ⟨h1,fun k hk=>?_⟩
 simp only [Int.toNat_natCast,List.mem_range'_1] at hk h2 ⊢
 have hbn:=w.iso.ls b hb
 have hkn:k<g.n:=by omega
 rw [w.back hkn,w.ev a ha]
 have htk:=w.iso.lt k hkn
 simp only [Bool.not_eq_true',beq_eq_false_iff_ne]
 intro hth
 have hba:=h1
 unfold Gr.before at hba
 simp only [Bool.and_eq_true,decide_eq_true_eq,beq_iff_eq,Int.toNat_natCast] at hba
 obtain ⟨⟨⟨⟨-,b1⟩,-⟩,b2⟩,b3⟩:=hba
 have k1:a<t k:=by
  rcases Nat.lt_trichotomy a (t k) with c | c | c
  ·exact c
  ·have:=w.iso.st k hkn;rw [← c] at this;omega
  ·have:=w.up (t k) a c ha hth (by rw [hth];exact b2)
   rw [w.iso.st k hkn] at this;omega
 have k2:t k<b:=by
  rcases Nat.lt_trichotomy (t k) b with c | c | c
  ·exact c
  ·have:=w.iso.st k hkn;rw [c] at this;omega
  ·have:=w.up b (t k) c htk (by rw [← b3,hth]) (by rw [← b3];exact b2)
   rw [w.iso.st k hkn] at this;omega
 have:=h2 (t k) (by omega)
 simp only [Bool.not_eq_true',beq_eq_false_iff_ne] at this
 exact this hth
theorem writes (w:Relist g h s t) (c:Int):h.writesOf c=g.writesOf c:=by
 rw [writesOf_range,writesOf_range,w.n]
 have inj:∀ (l:List Nat) (f:Nat→Nat) (f':Nat→Nat),l.Nodup→(∀ k∈l,f' (f k)=k)→(l.map fun k=>((f k:Nat):Int)).Nodup:=fun l f f' hn hf=>by
  rw [List.nodup_iff_pairwise_ne] at hn ⊢
  rw [List.pairwise_map]
  refine hn.imp_of_mem fun {a b} ha hb hab h=>hab ?_
  have h:f a=f b:=by omega
  rw [← hf a ha,← hf b hb,h]
 have nd:∀ p:Nat→Bool,((List.range g.n).filter p).Nodup:=fun p=>List.nodup_range.filter _
 apply Nat.le_antisymm
 ·have:=nodup_le (l:=((List.range g.n).filter fun i=>(h.ev i).kind==2&&(h.ev i).loc==c).map fun k=>((t k:Nat):Int)) (m:=((List.range g.n).filter fun i=>(g.ev i).kind==2&&(g.ev i).loc==c).map fun (k:Nat)=>(k:Int)) (inj _ t s (nd _) fun k hk=>w.iso.st k (List.mem_range.1 (List.mem_filter.1 hk).1)) fun x hx=>by
   obtain ⟨k,hk,rfl⟩:=List.mem_map.1 hx
   obtain ⟨k1,k2⟩:=List.mem_filter.1 hk
   have k1:=List.mem_range.1 k1
   rw [w.back k1] at k2
   exact List.mem_map.2 ⟨t k,List.mem_filter.2 ⟨List.mem_range.2 (w.iso.lt k k1),k2⟩,rfl⟩
  simpa using this
 ·have:=nodup_le (l:=((List.range g.n).filter fun i=>(g.ev i).kind==2&&(g.ev i).loc==c).map fun k=>((s k:Nat):Int)) (m:=((List.range g.n).filter fun i=>(h.ev i).kind==2&&(h.ev i).loc==c).map fun (k:Nat)=>(k:Int)) (inj _ s t (nd _) fun k hk=>w.iso.ts k (List.mem_range.1 (List.mem_filter.1 hk).1)) fun x hx=>by
   obtain ⟨k,hk,rfl⟩:=List.mem_map.1 hx
   obtain ⟨k1,k2⟩:=List.mem_filter.1 hk
   have k1:=List.mem_range.1 k1
   rw [← w.ev k k1] at k2
   exact List.mem_map.2 ⟨s k,List.mem_filter.2 ⟨List.mem_range.2 (w.iso.ls k k1),k2⟩,rfl⟩
  simpa using this
theorem rf_nat (hg:(g.check false).1=0) {p:Int×Int} (hp:p∈g.rf):∃ a b:Nat,p=((a:Int),(b:Int))∧a<g.n∧b<g.n:=by
 obtain ⟨a,b,e,h1,h2,-⟩:=rf_pair hg hp
 exact ⟨a,b,e,h1,h2⟩
theorem rmw_nat (hg:(g.check false).1=0) {p:Int×Int} (hp:p∈g.rmw):∃ a b:Nat,p=((a:Int),(b:Int))∧a<g.n∧b<g.n:=by
 obtain ⟨-,-,-,-,-,h6,-⟩:=check_iff.1 hg
 obtain ⟨b1,b2,b3⟩:=before_lt (rmw_before h6 hp)
 exact ⟨p.1.toNat,p.2.toNat,Prod.ext (by dsimp only;omega) (by dsimp only;omega),by omega,by omega⟩
theorem co_nat' (hg:(g.check false).1=0) {l:List Int} (hl:l∈g.co) {x:Int} (hx:x∈l):0≤x∧x.toNat<g.n:=by
 have hgd:=good_false hg
 obtain ⟨c,hc⟩:=List.mem_iff_getElem?.1 hl
 have hcl:=(List.getElem?_eq_some_iff.1 hc).1
 have hd:g.co.getD c []=l:=by simp [hc]
 obtain ⟨-,h2,-⟩:=co_list hgd hcl
 rw [hd] at h2
 obtain ⟨l1,l2,-⟩:=is_lt (h2 x hx).1
 exact ⟨l1,by omega⟩
theorem good (w:Relist g h s t) (hg:(g.check false).1=0):(h.check false).1=0:=by
 have hgd:=good_false hg
 obtain ⟨h1,h2,h3,h4,h5,h6,h7,h8,h9⟩:=check_iff.1 hg
 have hs:=h1
 simp only [Gr.size,Bool.and_eq_true,decide_eq_true_eq] at hs
 have fixed:∀ c:Nat,(c:Int)<g.cells→h.ev c=g.ev c:=fun c hc=>by
  have:=w.fix c hc (by omega)
  have h:=w.ev c (by omega)
  rw [this] at h;exact h
 have tcell:∀ k,k<g.n→g.cells≤(k:Int)→g.cells≤(t k:Int):=fun k hk hc=>by
  apply Classical.byContradiction;intro hn
  have:=w.fix (t k) (by omega) (w.iso.lt k hk)
  rw [w.iso.st k hk] at this;omega
 refine check_iff.2 ⟨?_,?_,?_,?_,?_,?_,?_,?_,?_⟩
 ·unfold Gr.size at h1 ⊢;rw [w.cells,w.n];exact h1
 ·unfold Gr.initAt at h2 ⊢
  refine firstEv_all _ _ fun c hc hc'=>?_
  rw [w.cells] at hc'
  have:=firstEv_neg _ _ h2 c hc hc'
  rw [fixed c (by omega)];exact this
 ·unfold Gr.evAt at h3 ⊢
  refine firstEv_all _ _ fun k hk hk'=>?_
  rw [w.cells] at hk hk'
  rw [w.n] at hk'
  have hkn:k<g.n:=by omega
  have:=tcell k hkn (by omega)
  have htk:=w.iso.lt k hkn
  have:=firstEv_neg _ _ h3 (t k) (by omega) (by omega)
  rw [w.back hkn]
  unfold Gr.evOk at this ⊢
  rw [w.cells];exact this
 ·obtain ⟨k1,k2⟩:=rf_iff.1 h4
  refine rf_iff.2 ⟨strict_ext (by rw [List.pairwise_map];exact w.rfs) reads_sorted fun x=>?_,fun p hp=>?_⟩
  ·rw [reads_mem,List.mem_map]
   constructor
   ·rintro ⟨p,hp,rfl⟩
    obtain ⟨p',hp',rfl⟩:=List.mem_map.1 (w.rf.mem_iff.1 hp)
    obtain ⟨a,b,e,ha,hb,-,hk,-⟩:=rf_pair hg hp'
    subst e
    exact ⟨s b,by rw [w.n];exact w.iso.ls b hb,by rw [w.ev b hb];exact hk,by unfold mapP;simp⟩
   ·rintro ⟨i,hi,hk,rfl⟩
    rw [w.n] at hi
    rw [w.back hi] at hk
    have hm:((t i:Nat):Int)∈g.rf.map (·.2):=by rw [k1];exact reads_mem.2 ⟨t i,w.iso.lt i hi,hk,rfl⟩
    obtain ⟨p,hp,e⟩:=List.mem_map.1 hm
    refine ⟨mapP s p,w.rf.mem_iff.2 (List.mem_map.2 ⟨p,hp,rfl⟩),?_⟩
    have e:p.2=((t i:Nat):Int):=e
    unfold mapP
    rw [e,Int.toNat_natCast,w.iso.st i hi]
  ·obtain ⟨p',hp',rfl⟩:=List.mem_map.1 (w.rf.mem_iff.1 hp)
   have hok:=k2 p' hp'
   obtain ⟨a,b,rfl,ha,hb⟩:=rf_nat hg hp'
   unfold rfOk at hok ⊢
   unfold mapP
   simp only [Int.toNat_natCast] at hok ⊢
   rw [w.is_s ha,w.ev a ha,w.ev b hb];exact hok
 ·obtain ⟨k1,k2⟩:=co_iff.1 h5
  have hcl:h.co.length=g.co.length:=by rw [w.co,List.length_map]
  refine co_iff.2 ⟨by rw [hcl,w.cells];exact k1,fun c hc=>?_⟩
  rw [hcl] at hc
  have hb:=k2 c hc
  have hl:g.co[c]?=some (g.co.getD c []):=by simp [hc]
  have hl':h.co.getD c []=(g.co.getD c []).map fun x=>(s x.toNat:Int):=by rw [w.co];simp [hc]
  have hmem:=List.mem_of_getElem? hl
  rw [hl']
  generalize g.co.getD c []=l at hb hmem
  unfold Gr.coBad at hb ⊢
  simp only [Bool.or_eq_false_iff,Bool.not_eq_false',beq_iff_eq,List.all_eq_true,Bool.and_eq_true,decide_eq_true_eq] at hb ⊢
  obtain ⟨⟨⟨b1,b2⟩,b3⟩,b4⟩:=hb
  have hnat:∀ x∈l,0≤x∧x.toNat<g.n:=fun x hx=>co_nat' hg hmem hx
  refine ⟨⟨⟨?_,by rw [List.length_map,w.writes];exact b2⟩,fun y hy=>?_⟩,?_⟩
  ·rw [List.head?_map,b1]
   simp only [Option.map_some,Int.toNat_natCast]
   rw [w.fix c (by omega) (by omega)]
  ·obtain ⟨x,hx,rfl⟩:=List.mem_map.1 hy
   obtain ⟨x1,x2⟩:=hnat x hx
   obtain ⟨y1,y2⟩:=b3 x hx
   obtain ⟨x',rfl⟩:=Int.eq_ofNat_of_zero_le x1
   simp only [Int.toNat_natCast] at x2 y2 ⊢
   rw [w.is_s x2,w.ev x' x2];exact ⟨y1,y2⟩
  ·rw [List.nodup_iff_pairwise_ne] at b4 ⊢
   rw [List.pairwise_map]
   refine b4.imp_of_mem fun {a b} ha hb hab e=>hab ?_
   obtain ⟨a1,a2⟩:=hnat a ha
   obtain ⟨b1,b2⟩:=hnat b hb
   have e1:s a.toNat=s b.toNat:=by omega
   have e2:a.toNat=b.toNat:=by rw [← w.iso.ts _ a2,← w.iso.ts _ b2,e1]
   omega
 ·obtain ⟨k1,k2⟩:=rmw_iff.1 h6
  refine rmw_iff.2 ⟨w.rmws,fun p hp=>?_⟩
  obtain ⟨p',hp',rfl⟩:=List.mem_map.1 (w.rmw.mem_iff.1 hp)
  have hok:=k2 p' hp'
  obtain ⟨a,b,rfl,ha,hb⟩:=rmw_nat hg hp'
  unfold rmwOk at hok ⊢
  unfold mapP
  simp only [Int.toNat_natCast,Bool.and_eq_true] at hok ⊢
  rw [w.is_s ha,w.is_s hb,w.ev a ha,w.ev b hb]
  exact ⟨⟨hok.1.1,w.next_s ha hb hok.1.2⟩,hok.2⟩
 ·rw [w.addr];exact dep_src.2 rfl
 ·rw [w.data];exact dep_src.2 rfl
 ·rw [w.ctrl];exact dep_src.2 rfl
end Relist
end Go.Proofs.Tst
/-
  What the source model's chains make (plain).
-/
namespace Go.Proofs.Tst
open Go Go.Vc
section
variable {g : Gr}
end
end Go.Proofs.Tst
/-
  The source's memory model in memory: its parts.
-/
namespace Go.Proofs.Tst
open Go Go.Vc
def rcM (g:Gr):Nat→Mx
 | 0=>rsM g
 | 1=>swM g
 | 2=>hbM g
 | 3=>ecoM g
 | 4=>scbM g
 | 5=>baseM g
 | _=>pscfM g
section
variable {h : Heap} {mb : Nat} {q : GV} {g : Gr}
end
end Go.Proofs.Tst
/-
  The source's memory model of a graph.
-/
namespace Go.Proofs.Tst
open Go Go.Vc
def scells (q:GV) (g:Gr) (c:Nat→Nat) (rd wr fe:Value) (d:Nat→Nat):List Value:=[.int .i64 g.cells,.slice q.e g.evs.length q.ec,.slice q.f g.rf.length q.fc,.slice q.o g.co.length q.oc,.slice q.r g.rmw.length q.rc,.slice q.a g.addr.length q.ac,.slice q.d g.data.length q.dc,.slice q.c g.ctrl.length q.cc,
 .pointer (some ⟨c 0,0,none⟩),.pointer (some ⟨c 1,0,none⟩),.pointer (some ⟨c 2,0,none⟩),.pointer (some ⟨c 9,0,none⟩),.pointer (some ⟨c 3,0,none⟩),.pointer (some ⟨c 4,0,none⟩),.pointer (some ⟨c 5,0,none⟩),.pointer (some ⟨c 6,0,none⟩),.pointer (some ⟨c 7,0,none⟩),.pointer (some ⟨c 8,0,none⟩),rd,wr,fe,
 .pointer (some ⟨d 0,0,none⟩),.pointer (some ⟨d 1,0,none⟩),.pointer (some ⟨d 2,0,none⟩),.pointer (some ⟨d 3,0,none⟩),.pointer (some ⟨d 4,0,none⟩),.pointer (some ⟨d 5,0,none⟩),.pointer (some ⟨d 6,0,none⟩)]
def PB (h:Heap) (lo hi:Nat) (v:Value) (n:Nat) (M:Mx):Prop:=∃ a b,ProgAt h a b v n M∧lo≤a∧a≤b∧b≤hi
theorem PB.fr {h h':Heap} {lo hi l r n:Nat} {v:Value} {M:Mx} (t:PB h lo hi v n M) (f:Fr l r h h') (hd:r≤lo∨hi≤l∨r≤l):PB h' lo hi v n M:=by
 obtain ⟨a,b,t,k⟩:=t
 exact ⟨a,b,t.fr f (by omega),k⟩
theorem PB.wide {h:Heap} {lo hi lo' hi' n:Nat} {v:Value} {M:Mx} (t:PB h lo hi v n M) (h1:lo'≤lo) (h2:hi≤hi'):PB h lo' hi' v n M:=by
 obtain ⟨a,b,t,k⟩:=t
 exact ⟨a,b,t,by omega,k.2.1,by omega⟩
theorem PB.pa {h:Heap} {lo hi n:Nat} {v:Value} {M:Mx} (t:PB h lo hi v n M):PA h v n M:=by obtain ⟨a,b,t,-⟩:=t;exact ⟨a,b,t⟩
structure Ms (h:Heap) (lo mb:Nat) (q:GV) (g:Gr) (c:Nat→Nat) (rd wr fe:Value) (d L:Nat→Nat):Prop where
 row:Rw h mb (scells q g c rd wr fe d)
 gr:GrAt h q g
 n:g.n≤256
 rel:∀ k,k<10→PA h (.pointer (some ⟨c k,0,none⟩)) g.n (relM g k)
 hm:∀ k,k<7→PB h (L k) (L (k+1)) (.pointer (some ⟨d k,0,none⟩)) g.n (rcM g k)
 mono:∀ k,k<7→L k≤L (k+1)
 lo:lo≤L 0
 hi:L 7≤h.size
theorem Ms.fr {h h':Heap} {lo mb:Nat} {q:GV} {g:Gr} {c:Nat→Nat} {rd wr fe:Value} {d L:Nat→Nat} (m:Ms h lo mb q g c rd wr fe d L) (f:Fr 0 0 h h'):Ms h' lo mb q g c rd wr fe d L:=
 ⟨m.row.fr f (by omega),m.gr.fr f,m.n,fun k hk=>(m.rel k hk).fr f,fun k hk=>(m.hm k hk).fr f (by omega),m.mono,m.lo,Nat.le_trans m.hi f.size⟩
theorem PN.F {h h' : Heap} {lo n l r : Nat} {v : Value} {M : Mx} (t : PN h lo v n M) (f : Fr l r h h') (hd : r ≤ lo ∨ h.size ≤ l ∨ r ≤ l := by omega) : PN h' lo v n M := t.fr f hd
theorem PB.F {h h' : Heap} {lo hi n l r : Nat} {v : Value} {M : Mx} (t : PB h lo hi v n M) (f : Fr l r h h') (hd : r ≤ lo ∨ hi ≤ l ∨ r ≤ l := by omega) : PB h' lo hi v n M := t.fr f hd
section
variable {h : Heap} {q : GV} {g : Gr}
end
end Go.Proofs.Tst
/-
  The words' memory model: Derive, Check.
-/
namespace Go.Proofs.Tst
open Go Go.Vc
theorem natsV_ints (l:List Nat):natsV l=intsV (l.map fun (x:Nat)=>(x:Int)):=by unfold natsV intsV;rw [List.map_map];rfl
theorem find_at {α:Type} {f:α→Bool} {l:List α} {i:Nat} {x:α} (h:l[i]?=some x) (hn:(l.take i).find? f=none) (hx:f x=true):l.find? f=some x:=by
 have hlt:=(List.getElem?_eq_some_iff.1 h).1
 have hd:l.drop i=x :: l.drop (i+1):=by rw [List.drop_eq_getElem_cons hlt];congr 1;exact (List.getElem?_eq_some_iff.1 h).2
 rw [← List.take_append_drop i l,List.find?_append,hn,hd]
 simp [hx]
theorem find_next {α:Type} {f:α→Bool} {l:List α} {i:Nat} {x:α} (h:l[i]?=some x) (hn:(l.take i).find? f=none) (hx:f x=false):(l.take (i+1)).find? f=none:=by
 rw [List.take_add_one,h,List.find?_append,hn]
 simp [hx]
section
variable {h : Heap} {q : GV} {g : Gr}
end
end Go.Proofs.Tst
/-
  The source's memory model: Derive, the axioms, Check.
-/
namespace Go.Proofs.Tst
open Go Go.Vc
theorem tornS_has {g:Gr} {p:Int×Int}:(inR g.n p.1&&inR g.n p.2&&compM g.n (relM g 9) g.n (relM g 2) p.1.toNat p.2.toNat)=tornS g p:=by
 unfold tornS
 cases h1:inR g.n p.1
 ·rfl
 cases h2:inR g.n p.2
 ·rfl
 unfold inR at h1 h2
 simp only [Bool.and_eq_true,decide_eq_true_eq] at h1 h2
 rw [compM_in (by omega) (by omega)]
section
variable {h : Heap} {lo mb : Nat} {q : GV} {g : Gr} {c : Nat → Nat} {rd wr fe : Value} {d L : Nat → Nat}
end
end Go.Proofs.Tst
/-
  The source's memory model: Derive, Check.
-/
namespace Go.Proofs.Tst
open Go Go.Vc
section
variable {h : Heap} {q : GV} {g : Gr}
end
end Go.Proofs.Tst
/-
  Sequential consistency and TSO (plain).
-/
namespace Go.Proofs.Tst
open Go Go.Vc
def allM (g:Gr) (i j:Nat):Bool:=relM g 0 i j||relM g 1 i j||relM g 2 i j||relM g 9 i j
def scAx (g:Gr):Int×List Int:=
 if cycS g.n (allM g)≠[] then (1,natsI (cycS g.n (allM g)))
 else if atomS g≠[] then (2,atomS g)
 else (0,[])
theorem scAx_zero {g:Gr}:(scAx g).1=0↔cycS g.n (allM g)=[]∧∀ p∈g.rmw,tornS g p=false:=by
 rw [← atomS_nil]
 unfold scAx
 by_cases h1:cycS g.n (allM g)=[]
 ·rw [if_neg (by simp [h1])]
  by_cases h2:atomS g=[]
  ·rw [if_neg (by simp [h2])];simp [h1,h2]
  ·rw [if_pos h2];simp [h2]
 ·rw [if_pos h1];simp [h1]
section
variable {g : Gr}
end
end Go.Proofs.Tst
/-
  Sequential consistency and TSO: the axioms in a row (plain).
-/
namespace Go.Proofs.Tst
open Go Go.Vc
def scL (g:Gr) (k:Nat):List Int:=match k with | 0=>natsI (cycS g.n (allM g)) | _=>atomS g
theorem natsI_nil {l:List Nat}:natsI l=[]↔l=[]:=by unfold natsI;simp
theorem scAx_at {g:Gr} {k:Nat} (hk:k<2) (h0:∀ l,l<k→scL g l=[]) (h1:scL g k≠[]):scAx g=(((k+1:Nat):Int),scL g k):=by
 unfold scAx
 have hk:k=0∨k=1:=by omega
 rcases hk with rfl | rfl
 ·rw [if_pos (show cycS g.n (allM g)≠[] from fun e=>h1 (natsI_nil.2 e))];rfl
 ·have e0:cycS g.n (allM g)=[]:=natsI_nil.1 (h0 0 (by decide))
  rw [if_neg (by simp [e0]),if_pos (show atomS g≠[] from h1)];rfl
theorem scAx_none {g:Gr} (h0:∀ l,l<2→scL g l=[]):scAx g=(0,[]):=by
 have e0:cycS g.n (allM g)=[]:=natsI_nil.1 (h0 0 (by decide))
 have e1:atomS g=[]:=h0 1 (by decide)
 unfold scAx
 rw [if_neg (by simp [e0]),if_neg (by simp [e1])]
end Go.Proofs.Tst
/-
  The order of a graph's events: where the graph is sequentially consistent there is one (plain).
-/
namespace Go.Proofs.Tst
open Go Go.Vc
section
variable {n : Nat} {M : Nat → Nat → Bool} {F : Nat → Nat} {S : Nat → Int}
end
/-! ### The order -/
section
variable {g : Gr}
structure PairOk (g:Gr) (a b:Nat):Prop where
 la:a<g.n
 lb:b<g.n
 ka:(g.ev a).kind=1
 kb:(g.ev b).kind=2
 po:relM g 0 a b=true
 nx:∀ i,a<i→i<b→(g.ev i).thread≠(g.ev a).thread
 loc:(g.ev a).loc=(g.ev b).loc
theorem pair_ok (hg:g.good=true) {p:Int×Int} (hp:p∈g.rmw):∃ a b:Nat,p=((a:Int),(b:Int))∧PairOk g a b:=by
 obtain ⟨words,hz⟩:=good_check hg
 obtain ⟨-,-,-,-,-,h6,-⟩:=check_iff.1 hz
 have hok:=(rmw_iff.1 h6).2 p hp
 unfold rmwOk Gr.is Gr.isNext at hok
 simp only [Bool.and_eq_true,decide_eq_true_eq,beq_iff_eq,List.all_eq_true,List.mem_range'_1,Bool.not_eq_true',beq_eq_false_iff_ne] at hok
 obtain ⟨⟨⟨⟨⟨a1,a2⟩,a3⟩,⟨b1,b2⟩,b3⟩,c1,c2⟩,d⟩:=hok
 obtain ⟨x,y⟩:=p
 obtain ⟨a,rfl⟩:∃ a:Nat,x=a:=⟨x.toNat,by dsimp only at a1;omega⟩
 obtain ⟨b,rfl⟩:∃ b:Nat,y=b:=⟨y.toNat,by dsimp only at b1;omega⟩
 simp only [Int.toNat_natCast] at a3 b3 c2 d
 dsimp only at a2 b2 c1
 exact ⟨a,b,rfl,by omega,by omega,a3,b3,c1,fun i h1 h2=>c2 i (by omega),d⟩
end
end Go.Proofs.Tst
/-
  Orders of a graph's events: what is right; the replay (plain).
-/
namespace Go.Proofs.Tst
open Go Go.Vc
section
variable {g : Gr}
theorem ev_init (hg:g.good=true) {i:Nat} (hi:i<g.n):((g.ev i).thread = -1∧(g.ev i).kind=2∧(i:Int)<g.cells∧(g.ev i).loc=(i:Int))∨(0≤(g.ev i).thread∧g.cells≤(i:Int)):=by
 obtain ⟨words,h⟩:=good_check hg
 obtain ⟨hs,h2,h3,-⟩:=check_zero h
 simp only [Gr.size,Bool.and_eq_true,decide_eq_true_eq] at hs
 by_cases hc:i<g.cells.toNat
 ·have:=firstEv_neg _ _ h2 i (by omega) (by omega)
  simp only [Bool.not_eq_false',beq_iff_eq] at this
  left;rw [this];unfold Gr.first;exact ⟨rfl,rfl,by omega,rfl⟩
 ·have:=firstEv_neg _ _ h3 i (by omega) (by omega)
  simp only [Bool.not_eq_false'] at this
  unfold Gr.evOk at this
  simp only [Bool.and_eq_true,decide_eq_true_eq] at this
  right;exact ⟨this.1.1.1,by omega⟩
theorem co_in (hg:g.good=true) {i j:Nat} (h:relM g 2 i j=true):0≤(g.ev j).thread∧(g.ev i).kind=2∧(g.ev j).kind=2∧(g.ev i).loc=(g.ev j).loc∧0≤(g.ev j).loc∧i<g.n∧j<g.n:=by
 obtain ⟨hin,hjn⟩:=ofM_in (n:=g.n) (l:=coPairs g) h
 obtain ⟨c,hcl,hp⟩:=coPairs_list (ofM_mem' (L:=coPairs g) h)
 obtain ⟨hnd,hall,-⟩:=co_list hg hcl
 obtain ⟨x1,x2⟩:=hall _ (lpairs_mem hp).1
 obtain ⟨y1,y2⟩:=hall _ (lpairs_mem hp).2
 have hb:=(good_co hg).2 c hcl
 unfold Gr.coBad at hb
 simp only [Bool.or_eq_false_iff,Bool.not_eq_false',beq_iff_eq,List.all_eq_true,Bool.and_eq_true,decide_eq_true_eq] at hb
 obtain ⟨⟨⟨b1,-⟩,-⟩,b4⟩:=hb
 have hidx:=lpairs_idx b4 hp
 have k1:=(is_lt x1).2.2
 have k2:=(is_lt y1).2.2
 rw [Int.toNat_natCast] at k1 k2 x2 y2
 refine ⟨?_,k1,k2,by omega,by omega,hin,hjn⟩
 rcases ev_init hg hjn with ⟨-,-,-,hl⟩ | ⟨h0,-⟩
 ·rw [y2] at hl
  cases hlist:g.co.getD c [] with
  | nil=>rw [hlist] at b1;cases b1
  | cons a t =>
   rw [hlist] at b1 hidx
   simp at b1
   subst b1
   rw [← hl,List.idxOf_cons_self] at hidx
   omega
 ·exact h0
theorem rf_in (hg:g.good=true) {i j:Nat} (h:relM g 1 i j=true):(g.ev i).kind=2∧(g.ev j).kind=1∧(g.ev i).loc=(g.ev j).loc∧0≤(g.ev i).loc∧0≤(g.ev j).thread∧i<g.n∧j<g.n:=by
 obtain ⟨words,hz⟩:=good_check hg
 obtain ⟨w,r,e,hw,hr,k1,k2,k3,k4⟩:=rf_pair hz (ofM_mem' (L:=g.rf) h)
 simp only [Prod.mk.injEq] at e
 obtain rfl:i=w:=by omega
 obtain rfl:j=r:=by omega
 refine ⟨k1,k2,k3,k4,?_,hw,hr⟩
 rcases ev_init hg hr with ⟨-,hk,-⟩ | ⟨h0,-⟩
 ·rw [hk] at k2;cases k2
 ·exact h0
theorem fr_in {i j:Nat} (hi:i<g.n) (hj:j<g.n):relM g 9 i j=true↔∃ u,u<g.n∧relM g 1 u i=true∧relM g 2 u j=true:=by
 have e:relM g 9 i j=compM g.n (invM (ofM g.n g.rf)) g.n (ofM g.n (coPairs g)) i j:=rfl
 rw [e,compM_in hi hj,exB_true]
 constructor
 ·rintro ⟨k,hk,h⟩
  rw [Bool.and_eq_true] at h
  exact ⟨k,hk,h.1,h.2⟩
 ·rintro ⟨k,hk,h1,h2⟩
  exact ⟨k,hk,by rw [Bool.and_eq_true];exact ⟨h1,h2⟩⟩
def wrB (g:Gr) (c:Int) (x:Nat):Bool:=(g.ev x).kind==2&&(g.ev x).loc==c
theorem wrB_iff {c:Int} {x:Nat}:wrB g c x=true↔(g.ev x).kind=2∧(g.ev x).loc=c:=by unfold wrB;simp
def lastW (g:Gr):List Nat→Int→Option Nat
 | [],_=>none
 | x :: l,c=>match lastW g l c with
  | some w=>some w
  | none=>if wrB g c x then some x else none
theorem lastW_snoc:∀ (l:List Nat) (x:Nat) (c:Int),lastW g (l++[x]) c=if wrB g c x then some x else lastW g l c
 | [],x,c=>by simp [lastW]
 | y :: l,x,c=>by
  show (match lastW g (l++[x]) c with | some w=>some w | none=>if wrB g c y then some y else none)=_
  rw [lastW_snoc l x c]
  by_cases h:wrB g c x=true
  ·rw [if_pos h,if_pos h]
  ·rw [if_neg h,if_neg h];rfl
theorem lastW_none:∀ {l:List Nat} {c:Int},lastW g l c=none↔∀ x∈l,wrB g c x=false
 | [],c=>by simp [lastW]
 | y :: l,c=>by
  have ih:=lastW_none (l:=l) (c:=c)
  have e:lastW g (y :: l) c=match lastW g l c with | some w=>some w | none=>if wrB g c y then some y else none:=rfl
  rw [e]
  cases h:lastW g l c with
  | some w =>
   dsimp only
   constructor
   ·intro e;cases e
   ·intro hall
    have:=ih.2 fun x hx=>hall x (by simp [hx])
    rw [h] at this;cases this
  | none =>
   dsimp only
   cases hy:wrB g c y
   ·constructor
    ·intro _ x hx
     rcases List.mem_cons.1 hx with rfl | hx
     ·exact hy
     ·exact ih.1 h x hx
    ·intro _;simp
   ·constructor
    ·intro e;simp at e
    ·intro hall
     have:=hall y (by simp)
     rw [hy] at this;cases this
theorem lastW_some:∀ {l:List Nat} {c:Int} {w:Nat},lastW g l c=some w→∃ i:Nat,l[i]?=some w∧wrB g c w=true∧∀ (j y:Nat),i<j→l[j]?=some y→wrB g c y=false
 | [],_,_,h=>by simp [lastW] at h
 | x :: l,c,w,h=>by
  unfold lastW at h
  cases hl:lastW g l c with
  | some v =>
   rw [hl] at h
   simp only [Option.some.injEq] at h
   subst h
   obtain ⟨i,h1,h2,h3⟩:=lastW_some hl
   refine ⟨i+1,by simpa using h1,h2,fun j y hj hy=>?_⟩
   obtain ⟨j,rfl⟩:∃ k,j=k+1:=⟨j - 1,by omega⟩
   exact h3 j y (by omega) (by simpa using hy)
  | none =>
   rw [hl] at h
   cases hw:wrB g c x
   ·simp [hw] at h
   ·simp [hw] at h
    subst h
    refine ⟨0,by simp,hw,fun j y hj hy=>?_⟩
    obtain ⟨j,rfl⟩:∃ k,j=k+1:=⟨j - 1,by omega⟩
    exact lastW_none.1 hl y (List.mem_of_getElem? (i:=j) (by simpa using hy))
def pcM (g:Gr) (i j:Nat):Bool:=relM g 0 i j||relM g 2 i j
def natO (o:Option Nat):Option Int:=o.map fun (w:Nat)=>(w:Int)
def okAt (g:Gr) (m:List Nat) (i x:Nat):Bool:=
 (!decide ((i:Int)<g.cells)||decide ((g.ev x).thread<0))&&(g.rf.all fun p=>!(p.2==(x:Int))||natO (lastW g (m.take i) (g.ev x).loc)==some p.1)&&(g.rmw.all fun p=>!(p.1==(x:Int))||natO m[i+1]? == some p.2)
theorem okAt_iff {m:List Nat} {i x:Nat}:okAt g m i x=true↔((i:Int)<g.cells→(g.ev x).thread<0)∧(∀ p∈g.rf,p.2=(x:Int)→natO (lastW g (m.take i) (g.ev x).loc)=some p.1)∧(∀ p∈g.rmw,p.1=(x:Int)→natO m[i+1]?=some p.2):=by
 unfold okAt
 simp only [Bool.and_eq_true,List.all_eq_true,Bool.or_eq_true,Bool.not_eq_true',decide_eq_false_iff_not,decide_eq_true_eq,beq_eq_false_iff_ne,beq_iff_eq,and_assoc]
 refine and_congr ?_ (and_congr ?_ ?_)
 ·constructor
  ·rintro (h | h) h1
   ·exact absurd h1 h
   ·exact h
  ·intro h
   by_cases h1:(i:Int)<g.cells
   ·exact .inr (h h1)
   ·exact .inl h1
 ·refine forall_congr' fun p=>forall_congr' fun _=>?_
  constructor
  ·rintro (h | h) h1
   ·exact absurd h1 h
   ·exact h
  ·intro h
   by_cases h1:p.2=(x:Int)
   ·exact .inr (h h1)
   ·exact .inl h1
 ·refine forall_congr' fun p=>forall_congr' fun _=>?_
  constructor
  ·rintro (h | h) h1
   ·exact absurd h1 h
   ·exact h
  ·intro h
   by_cases h1:p.1=(x:Int)
   ·exact .inr (h h1)
   ·exact .inl h1
structure Right (g:Gr) (m:List Nat):Prop where
 pre:Pre g.n (pcM g) m
 len:m.length=g.n
 ok:∀ i x,m[i]?=some x→okAt g m i x=true
theorem nodup_at {m:List Nat} (hm:m.Nodup) {i x:Nat} (h:m[i]?=some x):m.idxOf x=i:=by
 obtain ⟨hi,rfl⟩:=List.getElem?_eq_some_iff.1 h
 exact hm.idxOf_getElem i hi
theorem at_nodup {m:List Nat} {x:Nat} (h:x∈m):m[m.idxOf x]?=some x:=by
 have hi:=List.idxOf_lt_length_iff.2 h
 rw [List.getElem?_eq_getElem hi,List.getElem_idxOf]
theorem natO_some {o:Option Nat} {w:Nat}:natO o=some (w:Int)↔o=some w:=by
 unfold natO
 cases o with
 | none=>simp
 | some v=>simp;omega
theorem take_at {m:List Nat} {i j x:Nat}:(m.take i)[j]?=some x↔j<i∧m[j]?=some x:=by
 rw [List.getElem?_take]
 by_cases h:j<i
 ·rw [if_pos h];simp [h]
 ·rw [if_neg h];simp [h]
namespace Right
variable {m : List Nat}
theorem mem (R:Right g m) {x:Nat} (hx:x<g.n):x∈m:=all_in R.pre R.len hx
theorem lt (R:Right g m) {i x:Nat} (h:m[i]?=some x):x<g.n:=R.pre.2.1 x (List.mem_of_getElem? h)
theorem po (R:Right g m) {i j:Nat} (h:relM g 0 i j=true):m.idxOf i<m.idxOf j:=by
 obtain ⟨-,-,h1,h2⟩:=po_th h
 exact R.pre.idx (by omega) (R.mem h2) (by unfold pcM;rw [h];rfl)
theorem co (R:Right g m) (hg:g.good=true) {i j:Nat} (h:relM g 2 i j=true):m.idxOf i<m.idxOf j:=by
 obtain ⟨-,-,-,-,-,h1,h2⟩:=co_in hg h
 exact R.pre.idx h1 (R.mem h2) (by unfold pcM;rw [h];simp)
theorem rd (R:Right g m) (hg:g.good=true) {w x:Nat} (h:relM g 1 w x=true):lastW g (m.take (m.idxOf x)) (g.ev x).loc=some w:=by
 obtain ⟨-,-,-,-,-,h1,h2⟩:=rf_in hg h
 have hok:=(okAt_iff.1 (R.ok _ _ (at_nodup (R.mem h2)))).2.1 ((w:Int),(x:Int)) (ofM_mem' (L:=g.rf) h) rfl
 exact natO_some.1 hok
theorem rf (R:Right g m) (hg:g.good=true) {i j:Nat} (h:relM g 1 i j=true):m.idxOf i<m.idxOf j:=by
 obtain ⟨k,h1,-,-⟩:=lastW_some (R.rd hg h)
 rw [take_at] at h1
 rw [nodup_at R.pre.1 h1.2];exact h1.1
theorem fr (R:Right g m) (hg:g.good=true) {i j:Nat} (hi:i<g.n) (hj:j<g.n) (h:relM g 9 i j=true):m.idxOf i<m.idxOf j:=by
 obtain ⟨u,hu,h1,h2⟩:=(fr_in hi hj).1 h
 have k1:=rf_in hg h1
 have k2:=co_in hg h2
 obtain ⟨k,e1,e2,e3⟩:=lastW_some (R.rd hg h1)
 rw [take_at] at e1
 have ek:=nodup_at R.pre.1 e1.2
 have hc:=R.co hg h2
 apply Classical.byContradiction;intro hlt
 have hne:m.idxOf i≠m.idxOf j:=fun e=>by
  have a:=at_nodup (R.mem hi)
  have b:=at_nodup (R.mem hj)
  rw [e,b] at a
  simp only [Option.some.injEq] at a
  subst a
  rw [k1.2.1] at k2;omega
 have:=e3 (m.idxOf j) j (by omega) (take_at.2 ⟨by omega,at_nodup (R.mem hj)⟩)
 rw [Bool.eq_false_iff] at this
 exact this (wrB_iff.2 ⟨k2.2.2.1,by omega⟩)
theorem all (R:Right g m) (hg:g.good=true) {i j:Nat} (hi:i<g.n) (hj:j<g.n) (hm:allM g i j=true):m.idxOf i<m.idxOf j:=by
 unfold allM at hm
 simp only [Bool.or_eq_true] at hm
 rcases hm with ((hm | hm) | hm) | hm
 ·exact R.po hm
 ·exact R.rf hg hm
 ·exact R.co hg hm
 ·exact R.fr hg hi hj hm
theorem adj (R:Right g m) (hg:g.good=true) {a b:Nat} (h:((a:Int),(b:Int))∈g.rmw):m.idxOf b=m.idxOf a+1:=by
 obtain ⟨a',b',e,P⟩:=pair_ok hg h
 simp only [Prod.mk.injEq] at e
 obtain rfl:a=a':=by omega
 obtain rfl:b=b':=by omega
 have:=(okAt_iff.1 (R.ok _ _ (at_nodup (R.mem P.la)))).2.2 _ h rfl
 exact nodup_at R.pre.1 (natO_some.1 this)
theorem sc (R:Right g m) (hg:g.good=true):(scAx g).1=0:=by
 refine scAx_zero.2 ⟨?_,fun p hp=>?_⟩
 ·rw [cyc_acyc]
  exact acyc_rank (fun i=>m.idxOf i) fun i j hi hj hm=>R.all hg hi hj hm
 ·obtain ⟨a,b,rfl,P⟩:=pair_ok hg hp
  have had:=R.adj hg hp
  cases ht:tornS g ((a:Int),(b:Int))
  ·rfl
  ·unfold tornS at ht
   simp only [Bool.and_eq_true,exB_true,Int.toNat_natCast] at ht
   obtain ⟨-,k,hk,h1,h2⟩:=ht
   have:=R.fr hg P.la hk h1
   have:=R.co hg h2
   omega
end Right
def repVal (g:Gr) (m:List Nat) (c:Int):Int:=match lastW g m c with | some w=>(g.ev w).val | none=>0
def readOk (g:Gr) (m:List Nat) (i x:Nat):Bool:=!((g.ev x).kind==1)||match lastW g (m.take i) (g.ev x).loc with | some w=>(g.ev w).val==(g.ev x).val | none=>false
def repOk (g:Gr) (m:List Nat):Bool:=(List.range m.length).all fun i=>readOk g m i (m.getD i 0)
theorem Right.reads {m:List Nat} (R:Right g m) (hg:g.good=true) {i x:Nat} (h:m[i]?=some x):readOk g m i x=true:=by
 unfold readOk
 by_cases hk:(g.ev x).kind=1
 rotate_left
 ·simp [hk]
 obtain ⟨words,hz⟩:=good_check hg
 obtain ⟨-,-,-,h4,-⟩:=check_iff.1 hz
 have hr:=rf_iff.1 h4
 have hx:=R.lt h
 have hm:(x:Int)∈g.rf.map (·.2):=by
  rw [hr.1];exact List.mem_map.2 ⟨x,List.mem_filter.2 ⟨List.mem_range'_1.2 ⟨by omega,by omega⟩,by simp [hk]⟩,rfl⟩
 obtain ⟨p,hp,he⟩:=List.mem_map.1 hm
 obtain ⟨w,r,e,hw,hrn,-⟩:=rf_pair hz hp
 subst e
 dsimp only at he
 obtain rfl:r=x:=by omega
 have h1:=R.rd hg ((ofM_mem hw hrn).2 hp:relM g 1 w r=true)
 rw [nodup_at R.pre.1 h] at h1
 rw [h1]
 have:=hr.2 _ hp
 unfold rfOk at this
 simp only [Bool.and_eq_true,Int.toNat_natCast] at this
 simp only [this.2,Bool.or_true]
end
/-! ### The order that is made -/
section
variable {n : Nat} {N : Nat → Nat → Bool} {F : Nat → Nat} {S : Nat → Int}
end
section
variable {g : Gr} {m : List Nat}
end
end Go.Proofs.Tst
/-
  Orders of a graph's events: each write stands at its place of its cell's list (plain).
-/
namespace Go.Proofs.Tst
open Go Go.Vc
section
variable {g : Gr}
end
end Go.Proofs.Tst
/-
  Orders of a graph's events: the forms that the code works out (plain).
-/
namespace Go.Proofs.Tst
open Go Go.Vc
def lkp (L:List (Int×Int)) (x:Int):Option Int:=(L.reverse.find? fun p=>p.1==x).map (·.2)
theorem lkp_snoc (L:List (Int×Int)) (p:Int×Int) (x:Int):lkp (L++[p]) x=if x=p.1 then some p.2 else lkp L x:=by
 unfold lkp
 rw [List.reverse_append,List.reverse_singleton,List.singleton_append,List.find?_cons]
 by_cases h:x=p.1
 ·subst h;simp
 ·have:(p.1==x)=false:=by simp;exact fun e=>h e.symm
  rw [this,if_neg h]
section
variable {g : Gr}
def rfK (g:Gr):List (Int×Int):=g.rf.map fun p=>(p.2,p.1)
def lkOk (L:List (Int×Int)) (x:Int) (o:Option Int):Bool:=match lkp L x with | none=>true | some v=>o==some v
def okB (g:Gr) (m:List Nat) (i x:Nat):Bool:=
 (!decide ((i:Int)<g.cells)||decide ((g.ev x).thread<0))&&lkOk (rfK g) (x:Int) (natO (lastW g (m.take i) (g.ev x).loc))&&lkOk g.rmw (x:Int) (natO m[i+1]?)
def allB (P:Nat→Nat→Bool) (m:List Nat):Bool:=(List.range m.length).all fun i=>P i (m.getD i 0)
theorem allB_iff {P:Nat→Nat→Bool} {m:List Nat}:allB P m=true↔∀ i x,m[i]?=some x→P i x=true:=by
 unfold allB
 simp only [List.all_eq_true,List.mem_range]
 constructor
 ·intro h i x hx
  have:=h i (List.getElem?_eq_some_iff.1 hx).1
  rwa [List.getD_eq_getElem?_getD,hx] at this
 ·intro h i hi
  exact h i _ (by rw [List.getD_eq_getElem?_getD,List.getElem?_eq_getElem hi];rfl)
def natsOf (l:List Int):List Nat:=l.map Int.toNat
theorem natsOf_back {n:Nat} {M:Nat→Nat→Bool} {l:List Int} (h:LinP n M l):(natsOf l).map (fun (p:Nat)=>(p:Int))=l:=by
 unfold natsOf
 rw [List.map_map]
 conv=>rhs;rw [← List.map_id l]
 refine List.map_congr_left fun x hx=>?_
 have:=(h.2.1 x hx).1
 show ((x.toNat:Nat):Int)=x
 omega
theorem lin_pre {n:Nat} {M:Nat→Nat→Bool} {l:List Int}:LinP n M l↔(natsOf l).map (fun (p:Nat)=>(p:Int))=l∧Pre n M (natsOf l)∧(natsOf l).length=n:=by
 constructor
 ·intro h
  have e:=natsOf_back h
  rw [← e] at h
  exact ⟨e,linP_pre.1 h⟩
 ·rintro ⟨e,h⟩
  rw [← e];exact linP_pre.2 h
def rightB (g:Gr) (l:List Int):Bool:=g.good&&(decide (LinP g.n (pcM g) l)&&allB (okB g (natsOf l)) (natsOf l))
def eachB (g:Gr) (l:List Int):Bool:=g.good&&decide (LinP g.n (fun _ _=>false) l)
def repFin (g:Gr) (m:List Nat):List Int:=(List.range g.cells.toNat).map fun c=>repVal g m (c:Nat)
def picksL (g:Gr) (m:List Nat):List Int:=(m.map fun x=>(g.ev x).thread).filter fun t=>decide (0≤t)
theorem picksL_snoc (m:List Nat) (x:Nat):picksL g (m++[x])=picksL g m++(if 0≤(g.ev x).thread then [(g.ev x).thread] else []):=by
 unfold picksL
 rw [List.map_append,List.filter_append]
 congr 1
 by_cases h:0≤(g.ev x).thread
 ·rw [if_pos h];simp [h]
 ·rw [if_neg h];simp [h]
end
end Go.Proofs.Tst
/-
  The graphs of two cells that the laws lay.
-/
namespace Go.Vc
open Go
theorem Fr.wide {l r b:Nat} {h h':Heap} (f:Fr l r h h') (hr:r≤b):Fr 0 b h h':=⟨f.size,fun x hx hc=>f.old x hx (by omega)⟩
end Go.Vc
namespace Go.Proofs.Tst
open Go Go.Vc
def twoG (m:Int) (E:List Ev) (rf:List (Int×Int)) (x y:List Int):Gr:=⟨2,[⟨-1,2,0,0,m⟩,⟨-1,2,1,0,m⟩]++E,rf,[[0]++x,[1]++y],[],[],[],[]⟩
theorem nilP {h:Heap}:Rd 2 h (.slice none ([]:List (Int×Int)).length 0) ([]:List (Int×Int)).length (pairsV []):=⟨rfl,_,_,rfl,.inl rfl⟩
end Go.Proofs.Tst
/-
  law11: says, buffering, passing.
-/
namespace Go.Proofs.Tst
open Go Go.Vc
end Go.Proofs.Tst
/-
  law10: two, says, buffering, passing, fenced.
-/
namespace Go.Proofs.Tst
open Go Go.Vc
end Go.Proofs.Tst
/-
  Go's library: Clone of events and of pairs; Grow, Concat.
-/
namespace Go.Proofs.Tst
open Go Go.Vc
end Go.Proofs.Tst
/-
  seq: a graph's model; torn, together, global, first.
-/
namespace Go.Proofs.Tst
open Go Go.Vc
def smC (q : GV) (g : Gr) (c : Nat → Nat) (ra wa fa : Option Addr) (rn wn fn : Nat) : List Value :=
  [.int .i64 g.cells, .slice q.e g.evs.length q.ec, .slice q.f g.rf.length q.fc, .slice q.o g.co.length q.oc, .slice q.r g.rmw.length q.rc, .slice q.a g.addr.length q.ac, .slice q.d g.data.length q.dc, .slice q.c g.ctrl.length q.cc,
   .pointer (some ⟨c 0, 0, none⟩), .pointer (some ⟨c 1, 0, none⟩), .pointer (some ⟨c 2, 0, none⟩), .pointer (some ⟨c 9, 0, none⟩), .pointer (some ⟨c 3, 0, none⟩), .pointer (some ⟨c 4, 0, none⟩), .pointer (some ⟨c 5, 0, none⟩), .pointer (some ⟨c 6, 0, none⟩), .pointer (some ⟨c 7, 0, none⟩), .pointer (some ⟨c 8, 0, none⟩), .slice ra g.n rn, .slice wa g.n wn, .slice fa g.n fn]
structure Sm (h:Heap) (q:GV) (g:Gr) (c:Nat→Nat) (ra wa fa:Option Addr) (rn wn fn:Nat):Prop where
 gr:GrAt h q g
 good:g.good=true
 rel:∀ k,k<10→PA h (.pointer (some ⟨c k,0,none⟩)) g.n (relM g k)
 rd:Rd 1 h (.slice ra g.n rn) g.n (boolsV (kindsV g 1 g.n))
 wr:Rd 1 h (.slice wa g.n wn) g.n (boolsV (kindsV g 2 g.n))
 fe:Rd 1 h (.slice fa g.n fn) g.n (boolsV (kindsV g 3 g.n))
section
variable {h : Heap} {q : GV} {g : Gr} {c : Nat → Nat} {ra wa fa : Option Addr} {rn wn fn : Nat}
theorem Sm.fr {h':Heap} (m:Sm h q g c ra wa fa rn wn fn) (f:Fr 0 0 h h'):Sm h' q g c ra wa fa rn wn fn:=
 ⟨m.gr.fr f,m.good,fun k hk=>(m.rel k hk).fr f,m.rd.fr f,m.wr.fr f,m.fe.fr f⟩
theorem Sm.of {lo:Nat} {p:Nat→Value} {rd wr fe:Value} (t:GrAt h q g) (hg:g.good=true) (F:FactsAt h lo p rd wr fe g):∃ c ra wa fa rn wn fn,fcells p rd wr fe=[.pointer (some ⟨c 0,0,none⟩),.pointer (some ⟨c 1,0,none⟩),.pointer (some ⟨c 2,0,none⟩),.pointer (some ⟨c 9,0,none⟩),.pointer (some ⟨c 3,0,none⟩),.pointer (some ⟨c 4,0,none⟩),.pointer (some ⟨c 5,0,none⟩),.pointer (some ⟨c 6,0,none⟩),.pointer (some ⟨c 7,0,none⟩),.pointer (some ⟨c 8,0,none⟩),.slice ra g.n rn,.slice wa g.n wn,.slice fa g.n fn]∧Sm h q g c ra wa fa rn wn fn:=by
 obtain ⟨A,B,D,-,-⟩:=F.rel
 have hx:∃ c:Nat→Nat,∀ k,k<10→p k=.pointer (some ⟨c k,0,none⟩):=
  ⟨fun k=>if hk:k<10 then (progPtr (D.at_ k hk)).choose else 0,fun k hk=>by simp only [dif_pos hk];exact (progPtr (D.at_ k hk)).choose_spec⟩
 obtain ⟨c,hc⟩:=hx
 obtain ⟨ra,rn,e1⟩:=F.hrd.is
 obtain ⟨wa,wn,e2⟩:=F.hwr.is
 obtain ⟨fa,fn,e3⟩:=F.hfe.is
 refine ⟨c,ra,wa,fa,rn,wn,fn,?_,t,hg,fun k hk=>?_,e1▸F.hrd.rd,e2▸F.hwr.rd,e3▸F.hfe.rd⟩
 ·unfold fcells
  rw [hc 0 (by decide),hc 1 (by decide),hc 2 (by decide),hc 9 (by decide),hc 3 (by decide),hc 4 (by decide),hc 5 (by decide),hc 6 (by decide),hc 7 (by decide),hc 8 (by decide),e1,e2,e3]
 ·rw [← hc k hk];exact ⟨_,_,D.at_ k hk⟩
theorem seq_torn (m:Sm h q g c ra wa fa rn wn fn) (ht:TabAt h) :
  Con Tryd.prog 68 #[.agg (smC q g c ra wa fa rn wn fn).toArray] h fun v h'=>Fr 0 0 h h'∧Holder 1 h' v (atomS g).length (intsV (atomS g)) h.size:=by
 refine con_q144 ?_
 have br:=m.gr.fits.r
 have p0:Fr 0 0 h h:=.refl _ _ _
 unfold smC
 simp -dsimp only [go_sem]
 intro b1 h1 n1
 have n1_z:=n1.az
 replace p0:=p0.F n1.f0
 have r1:=n1.row
 simp -dsimp only [go_sem,r1.cell]
 obtain ⟨_,_,ta⟩:=(m.fr p0).rel 9 (by decide)
 obtain ⟨_,_,tb⟩:=(m.fr p0).rel 2 (by decide)
 refine call_of (rel_Comp ta tb (ht.fr p0 (.inr rfl))) ?_
 rintro v2 h2 ⟨f2,t2⟩
 rw [Nat.max_self] at t2
 have f2_z:=f2.size
 replace p0:=p0.F f2
 replace r1:=r1.F f2
 obtain ⟨bt,rfl⟩:=progPtr t2
 simp -dsimp only [go_sem,r1.cell]
 have p2:Fr 0 0 h2 h2:=.refl _ _ _
 have g2:h.size≤h2.size:=by omega
 refine loop_intro (fun i:Nat=>[(3,.pointer (some ⟨bt,0,none⟩)),(15,.slice q.r g.rmw.length q.rc),(16,.int .i64 g.rmw.length),(17,.int .i64 i)])
  (fun i h'=>i≤g.rmw.length∧Fr 0 0 h h'∧Fr 0 0 h2 h'∧(g.rmw.take i).find? (tornS g)=none) (fun i=>g.rmw.length - i) 0 ?_ ?_ ?_
 ·simp [Le,find]
 ·exact ⟨by omega,p0,p2,rfl⟩
 clear p0 r1 p2
 rintro i h3 ⟨hi,p0,p2,hfn⟩
 have p0_z:=p0.size
 have p2_z:=p2.size
 by_cases hlt:i<g.rmw.length
 ·have e1:((i:Int)<(g.rmw.length:Int)):=by omega
  have hq:g.rmw[i]?=some g.rmw[i]:=List.getElem?_eq_getElem hlt
  generalize g.rmw[i]=pr at hq
  obtain ⟨rb,ro,hre,hrc⟩:=m.gr.r.pairsAt (by omega)
  obtain ⟨k1,k2⟩:=hrc h3 p0 i _ hq
  simp -dsimp only [go_sem,e1,hre,k1,k2]
  intro b4 h4 n4
  have n4_z:=n4.az
  replace p0:=p0.F n4.f0
  replace p2:=p2.F n4.f0
  have r4:=n4.row
  simp -dsimp only [go_sem,r4.cell]
  refine Chk_intro (r4.W) fun h5 s5=>?_
  have s5_z:=s5.size
  replace p0:=p0.F s5.fr
  replace p2:=p2.F s5.fr
  replace r4:=s5.row r4
  try simp only [cl_int,cl_bool,cl_slice,cl_ptr,putAt_one,zs0,zs1,ivec_set,brow_upd] at r4
  try simp -dsimp only [go_sem] at r4
  simp -dsimp only [go_sem,r4.cell]
  refine call_of (rel_Has (t2.fr p2 (by omega)) pr.1 pr.2) ?_
  rintro v6 h6 ⟨hh,rfl⟩
  obtain rfl:h5=h6:=hh.symm
  have htn:=tornS_has (g:=g) (p:=pr)
  rw [htn]
  cases hb:tornS g pr
  ·simp -dsimp only [go_sem,r4.cell]
   simp -dsimp (disch:=omega) only [wrap64]
   exact ⟨i+1,by omega,by simp [Le,find,hre],by omega,p0,p2,find_next hq hfn hb⟩
  ·simp -dsimp only [go_sem,r4.cell]
   intro b7 h7 n7
   have n7_z:=n7.az
   replace p0:=p0.F n7.f0
   replace p2:=p2.F n7.f0
   replace r4:=r4.F n7.f0
   have r7:=n7.row
   simp -dsimp only [go_sem,r4.cell,r7.cell]
   have hA:atomS g=[pr.1,pr.2]:=by unfold atomS;rw [find_at hq hfn hb]
   rw [hA]
   exact ⟨p0,holder_row (s:=1) (n:=2) r7 rfl (by omega)⟩
 ·obtain rfl:i=g.rmw.length:=by omega
  simp -dsimp only [go_sem,Int.lt_irrefl]
  rw [List.take_length] at hfn
  have hA:atomS g=[]:=by unfold atomS;rw [hfn]
  rw [hA]
  exact ⟨p0,.none _ _ _⟩
theorem natsI_V (l:List Nat):natsV l=intsV (natsI l):=natsV_ints l
theorem natsI_len (l:List Nat):(natsI l).length=l.length:=by simp [natsI]
theorem seq_together {v:Value} {M:Mx} (m:Sm h q g c ra wa fa rn wn fn) (ht:TabAt h) (hv:PA h v g.n M) :
  Con Tryd.prog 67 #[.agg (smC q g c ra wa fa rn wn fn).toArray,v] h fun w h'=>Fr 0 0 h h'∧Holder 1 h' w (natsI (cycS g.n (orM [M,relM g 1,relM g 2,relM g 9]))).length (intsV (natsI (cycS g.n (orM [M,relM g 1,relM g 2,relM g 9])))) h.size:=by
 refine con_q143 ?_
 have p0:Fr 0 0 h h:=.refl _ _ _
 unfold smC
 obtain ⟨bv,rfl⟩:=hv.ptr
 simp -dsimp only [go_sem]
 intro b1 h1 n1
 have n1_z:=n1.az
 replace p0:=p0.F n1.f0
 have r1:=n1.row
 simp -dsimp only [go_sem,r1.cell]
 intro b2 h2 n2
 have n2_z:=n2.az
 replace p0:=p0.F n2.f0
 replace r1:=r1.F n2.f0
 have r2:=n2.row
 simp -dsimp only [go_sem,r1.cell,r2.cell]
 have m2:=m.fr p0
 refine call_of (rel_UnionU (UA.mk' [(.pointer (some ⟨bv,0,none⟩),M),(.pointer (some ⟨c 1,0,none⟩),relM g 1),(.pointer (some ⟨c 2,0,none⟩),relM g 2),(.pointer (some ⟨c 9,0,none⟩),relM g 9)] r2 (pa_cons (hv.fr p0) (pa_cons (m2.rel 1 (by decide)) (pa_cons (m2.rel 2 (by decide)) (pa_cons (m2.rel 9 (by decide)) pa_nil)))) (by simp) (by simp))) ?_
 rintro v3 h3 ⟨f3,t3⟩
 have f3_z:=f3.size
 replace p0:=p0.F f3
 replace r1:=r1.F f3
 replace r2:=r2.F f3
 simp -dsimp only [go_sem,r1.cell,r2.cell]
 refine call_of (rel_Cycle t3 (ht.fr p0 (.inr rfl))) ?_
 rintro v4 h4 ⟨f4,o4⟩
 have f4_z:=f4.size
 replace p0:=p0.F f4
 replace r1:=r1.F f4
 replace r2:=r2.F f4
 simp -dsimp only [go_sem,r1.cell,r2.cell]
 rw [natsI_V] at o4
 rw [natsI_len]
 exact ⟨p0,o4.lower (by omega)⟩
theorem seq_Sc_1 (m:Sm h q g c ra wa fa rn wn fn) (ht:TabAt h) :
  Con Tryd.prog 66 #[.agg (smC q g c ra wa fa rn wn fn).toArray] h fun v h'=>Fr 0 0 h h'∧Holder 1 h' v (scL g 0).length (intsV (scL g 0)) h.size:=by
 refine con_q137 ?_
 have p0:Fr 0 0 h h:=.refl _ _ _
 have e:orM [relM g 0,relM g 1,relM g 2,relM g 9]=allM g:=by funext i j;simp [orM,allM,Bool.or_assoc]
 unfold smC
 simp -dsimp only [go_sem]
 intro b1 h1 n1
 have n1_z:=n1.az
 replace p0:=p0.F n1.f0
 have r1:=n1.row
 simp -dsimp only [go_sem,r1.cell]
 have m1:=m.fr p0
 refine withC_of (smC q g c ra wa fa rn wn fn) 0 (fun j x hj=>by rw [r1.cell,Nat.zero_add];exact hj) ?_
 try simp -dsimp only [go_sem,r1.cell]
 refine call_of (seq_together m1 (ht.fr p0 (.inr rfl)) (m1.rel 0 (by decide))) ?_
 rintro v2 h2 ⟨f2,o2⟩
 have f2_z:=f2.size
 replace p0:=p0.F f2
 replace r1:=r1.F f2
 rw [e] at o2
 simp -dsimp only [go_sem,r1.cell]
 exact ⟨p0,o2.lower (by omega)⟩
def firstA (N:Nat) (num:Nat→Int) (L:Nat→List Int):Int×List Int:=match (List.range N).find? (fun i=>!(L i).isEmpty) with | some i=>(num i,L i) | none=>(0,[])
def axV (N:Nat) (num:Nat→Int) (F:Nat→FuncId):List Value:=(List.range N).flatMap fun i=>[.int .i64 (num i),.func (.func (F i)) #[] #[]]
theorem axV_succ {N:Nat} {num:Nat→Int} {F:Nat→FuncId}:axV (N+1) num F=axV N num F++[.int .i64 (num N),.func (.func (F N)) #[] #[]]:=by
 unfold axV;rw [List.range_succ,List.flatMap_append];simp
theorem axV_len {N:Nat} {num:Nat→Int} {F:Nat→FuncId}:(axV N num F).length=N * 2:=by
 induction N with
 | zero=>rfl
 | succ N ih=>rw [axV_succ,List.length_append,ih];simp;omega
theorem axV_get {num:Nat→Int} {F:Nat→FuncId}:∀ {N i:Nat},i<N→(axV N num F)[i * 2]?=some (.int .i64 (num i))∧(axV N num F)[i * 2+1]?=some (.func (.func (F i)) #[] #[])
 | N+1,i,h=>by
  rw [axV_succ]
  by_cases he:i=N
  ·subst he
   rw [List.getElem?_append_right (by rw [axV_len];omega),List.getElem?_append_right (by rw [axV_len];omega),axV_len]
   simp
  ·have:=axV_get (num:=num) (F:=F) (N:=N) (i:=i) (by omega)
   rw [List.getElem?_append_left (by rw [axV_len];omega),List.getElem?_append_left (by rw [axV_len];omega)]
   exact this
set_option maxHeartbeats 1000000 in
theorem seq_first {b:Nat} {N:Nat} {num:Nat→Int} {F:Nat→FuncId} {L:Nat→List Int} (hax:Rw h b (axV N num F)) (hN:N≤1000) (hF:∀ i,i<N→∀ h1,Fr 0 0 h h1→Con Tryd.prog (F i) #[.agg (smC q g c ra wa fa rn wn fn).toArray] h1 fun v h'=>Fr 0 0 h1 h'∧Holder 1 h' v (L i).length (intsV (L i)) h1.size) :
  Con Tryd.prog 65 #[.agg (smC q g c ra wa fa rn wn fn).toArray,.slice (some ⟨b,0,none⟩) N N] h fun v h'=>Fr 0 0 h h'∧∃ w,v=.tuple #[.int .i64 (firstA N num L).1,w,.int .i64 0]∧Holder 1 h' w (firstA N num L).2.length (intsV (firstA N num L).2) h.size:=by
 refine con_q140 ?_
 have p0:Fr 0 0 h h:=.refl _ _ _
 unfold smC
 simp -dsimp only [go_sem]
 intro b2 h2 n2
 have n2_z:=n2.az
 replace p0:=p0.F n2.f0
 have r2:=n2.row
 simp -dsimp only [go_sem,r2.cell]
 have g2:h.size≤b2:=by omega
 refine loop_intro (fun i:Nat=>[(2,.pointer (some ⟨b2,0,none⟩)),(10,.slice (some ⟨b,0,none⟩) N N),(11,.int .i64 N),(12,.int .i64 i)])
  (fun i h'=>i≤N∧Fr 0 0 h h'∧Rw h' b2 (smC q g c ra wa fa rn wn fn)∧(List.range i).find? (fun i=>!(L i).isEmpty)=none) (fun i=>N - i) 0 ?_ ?_ ?_
 ·simp [Le,find]
 ·exact ⟨by omega,p0,r2,rfl⟩
 clear p0 r2
 rintro i h3 ⟨hi,p0,r2,hfn⟩
 unfold smC at r2
 have p0_z:=p0.size
 have r2_l:=r2.lt
 by_cases hlt:i<N
 ·have e1:((i:Int)<(N:Int)):=by omega
  have ax3:=hax.fr p0 (.inr (Nat.zero_le _))
  obtain ⟨k1,k2⟩:=axV_get (num:=num) (F:=F) hlt
  have k1:hcell h3 b (i * 2)=some (.int .i64 (num i)):=by rw [ax3.cell];exact k1
  have k2:hcell h3 b (i * 2+1)=some (.func (.func (F i)) #[] #[]):=by rw [ax3.cell];exact k2
  simp -dsimp only [go_sem,e1,k1,k2,r2.cell]
  intro b4 h4 n4
  have n4_z:=n4.az
  replace p0:=p0.F n4.f0
  replace r2:=r2.F n4.f0
  have r4:=n4.row
  simp -dsimp only [go_sem,r2.cell,r4.cell]
  refine Chk_intro (r4.W) fun h5 s5=>?_
  have s5_z:=s5.size
  replace p0:=p0.F s5.fr
  replace r2:=r2.F s5.fr
  replace r4:=s5.row r4
  try simp only [cl_int,cl_bool,cl_slice,cl_ptr,putAt_one,zs0,zs1,ivec_set,brow_upd] at r4
  try simp -dsimp only [go_sem] at r4
  simp -dsimp only [go_sem,r2.cell,r4.cell]
  refine withC_of (smC q g c ra wa fa rn wn fn) 0 (fun j x hj=>by rw [r2.cell,Nat.zero_add];exact hj) ?_
  try simp -dsimp only [go_sem,r2.cell,r4.cell]
  refine call_of (hF i hlt h5 p0) ?_
  rintro v6 h6 ⟨f6,o6⟩
  have f6_z:=f6.size
  replace p0:=p0.F f6
  replace r2:=r2.F f6
  replace r4:=r4.F f6
  obtain ⟨a6,c6,rfl⟩:=o6.is
  simp -dsimp only [go_sem,r2.cell,r4.cell]
  by_cases hk:L i=[]
  ·have hl:¬ (((L i).length:Nat):Int) > 0:=by rw [hk];decide
   simp -dsimp only [go_sem,hl,r2.cell,r4.cell]
   simp -dsimp (disch:=omega) only [wrap64]
   exact ⟨i+1,by omega,by simp [Le,find],by omega,p0,r2,by rw [List.range_succ,List.find?_append,hfn];simp [hk]⟩
  ·have hl:(((L i).length:Nat):Int) > 0:=by have:=List.length_pos_iff.2 hk;omega
   simp -dsimp only [go_sem,hl,r2.cell,r4.cell]
   have hA:firstA N num L=(num i,L i):=by
    unfold firstA
    rw [find_at (l:=List.range N) (i:=i) (x:=i) (List.getElem?_range hlt) (by rw [List.take_range,Nat.min_eq_left (by omega)];exact hfn) (by simp [hk])]
   rw [hA]
   exact ⟨p0,_,rfl,o6.lower (by omega)⟩
 ·obtain rfl:i=N:=by omega
  simp -dsimp only [go_sem,Int.lt_irrefl,r2.cell]
  have hA:firstA i num L=(0,[]):=by unfold firstA;rw [hfn]
  rw [hA]
  exact ⟨p0,_,rfl,.none _ _ _⟩
end
end Go.Proofs.Tst
/-
  seq: global; Sc, Tso.
-/
namespace Go.Proofs.Tst
open Go Go.Vc
section
variable {h : Heap} {q : GV} {g : Gr} {c : Nat → Nat} {ra wa fa : Option Addr} {rn wn fn : Nat}
end
end Go.Proofs.Tst
