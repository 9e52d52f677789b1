/-
  Contracts of functions that the law reaches: what each returns and what it leaves in memory. Conditions stand in each.
-/
import Derived.Test.YtmcghihgeibgpaaDoorG1
set_option linter.all false
set_option maxRecDepth 2000
namespace Go.Vc
open Go
def brow (n:Nat) (f:Nat→Bool):List Value:=(List.range n).map fun j=>.bool (f j)
@[simp] theorem length_brow (n:Nat) (f:Nat→Bool):(brow n f).length=n:=by simp [brow]
theorem brow_get {n:Nat} {f:Nat→Bool} {j:Nat} (hj:j<n):(brow n f)[j]?=some (.bool (f j)):=by simp [brow,hj]
theorem brow_congr {n:Nat} {f g:Nat→Bool} (h:∀ j,j<n→f j=g j):brow n f=brow n g:=by
 apply List.ext_getElem?;intro j
 by_cases hj:j<n
 ·rw [brow_get hj,brow_get hj,h j hj]
 ·simp [brow,hj]
theorem brow_set {n:Nat} {f:Nat→Bool} {j:Nat} {v:Bool}:(brow n f).set j (.bool v)=brow n fun k=>if k=j then v else f k:=by
 apply List.ext_getElem?;intro k
 by_cases hk:k<n
 ·rw [brow_get hk,List.getElem?_set]
  by_cases hj:j=k
  ·subst hj;simp [hk]
  ·rw [if_neg hj,brow_get hk,if_neg (fun h=>hj h.symm)]
 ·rw [List.getElem?_eq_none (by simp;omega),List.getElem?_eq_none (by simp;omega)]
theorem brow_false (n:Nat):List.replicate n (Value.bool false)=brow n fun _=>false:=by
 apply List.ext_getElem?;intro k
 by_cases hk:k<n
 ·rw [brow_get hk];simp [hk]
 ·simp [brow,hk]
abbrev sl (b n c:Nat):Value:=.slice (some ⟨b,0,none⟩) n c
def rowsV (n:Nat) (R:Nat→Nat) (k:Nat):List Value:=(List.range k).map fun i=>sl (R i) n n
@[simp] theorem length_rowsV (n:Nat) (R:Nat→Nat) (k:Nat):(rowsV n R k).length=k:=by simp [rowsV]
theorem rowsV_get {n:Nat} {R:Nat→Nat} {k i:Nat} (hi:i<k):(rowsV n R k)[i]?=some (sl (R i) n n):=by simp [rowsV,hi]
structure Tab (h:Heap) (lo hi:Nat) (s:Value) (n k:Nat) (R:Nat→Nat) (M:Nat→Nat→Bool):Prop where
 own:Holder 1 h s k (rowsV n R k) lo
 top:bh s≤hi
 row:∀ i,i<k→Rw h (R i) (brow n (M i))∧lo≤R i∧R i<hi∧R i≠bl s
 inj:∀ i j,i<k→j<k→R i=R j→i=j
theorem Tab.fr {h h':Heap} {lo hi l r:Nat} {s:Value} {n k:Nat} {R:Nat→Nat} {M:Nat→Nat→Bool} (t:Tab h lo hi s n k R M) (f:Fr l r h h') (hd:hi≤l∨r≤lo∨r≤l):Tab h' lo hi s n k R M:=by
 refine ⟨t.own.fr f ?_,t.top,fun i hi=>?_,t.inj⟩
 ·have:=t.own.at_;have:=t.top;omega
 ·obtain ⟨h1,h2,h3,h4⟩:=t.row i hi;exact ⟨h1.fr f (by omega),h2,h3,h4⟩
theorem Tab.mono {h:Heap} {lo hi lo' hi':Nat} {s:Value} {n k:Nat} {R:Nat→Nat} {M:Nat→Nat→Bool} (t:Tab h lo hi s n k R M) (h1:lo'≤lo) (h2:hi≤hi'):Tab h lo' hi' s n k R M:=by
 refine ⟨⟨t.own.1,?_⟩,Nat.le_trans t.top h2,fun i hi=>?_,t.inj⟩
 ·rcases t.own.2 with h | ⟨b,c,rest,h3,h4,h5,h6⟩
  ·exact .inl h
  ·exact .inr ⟨b,c,rest,h3,h4,h5,by omega⟩
 ·obtain ⟨h1,h2,h3,h4⟩:=t.row i hi;exact ⟨h1,by omega,by omega,h4⟩
theorem Tab.congr {h:Heap} {lo hi:Nat} {s:Value} {n k:Nat} {R:Nat→Nat} {M M':Nat→Nat→Bool} (t:Tab h lo hi s n k R M) (he:∀ i j,i<k→j<n→M i j=M' i j):Tab h lo hi s n k R M':=
 ⟨t.own,t.top,fun i hi=>by obtain ⟨h1,h2⟩:=t.row i hi;exact ⟨by rw [← brow_congr (he i · hi)];exact h1,h2⟩,t.inj⟩
def RefAt (h:Heap) (lo hi:Nat) (v:Value) (n:Nat) (M:Nat→Nat→Bool):Prop:=
 n≤256∧∃ s R,v=.agg #[.int .i64 n,s]∧Tab h lo hi s n n R M
theorem RefAt.fr {h h':Heap} {lo hi l r:Nat} {v:Value} {n:Nat} {M:Nat→Nat→Bool} (t:RefAt h lo hi v n M) (f:Fr l r h h') (hd:hi≤l∨r≤lo∨r≤l):RefAt h' lo hi v n M:=by
 obtain ⟨hn,s,R,hv,ht⟩:=t;exact ⟨hn,s,R,hv,ht.fr f hd⟩
theorem RefAt.mono {h:Heap} {lo hi lo' hi':Nat} {v:Value} {n:Nat} {M:Nat→Nat→Bool} (t:RefAt h lo hi v n M) (h1:lo'≤lo) (h2:hi≤hi'):RefAt h lo' hi' v n M:=by
 obtain ⟨hn,s,R,hv,ht⟩:=t;exact ⟨hn,s,R,hv,ht.mono h1 h2⟩
theorem RefAt.congr {h:Heap} {lo hi:Nat} {v:Value} {n:Nat} {M M':Nat→Nat→Bool} (t:RefAt h lo hi v n M) (he:∀ i j,i<n→j<n→M i j=M' i j):RefAt h lo hi v n M':=by
 obtain ⟨hn,s,R,hv,ht⟩:=t;exact ⟨hn,s,R,hv,ht.congr he⟩
theorem Tab.idx {h:Heap} {lo hi:Nat} {a:Option Addr} {c n k:Nat} {R:Nat→Nat} {M:Nat→Nat→Bool} {K:Nat→Nat→Prop} {d:Dep K} (t:Tab h lo hi (.slice a k c) n k R M) {p:Nat} (hp:p<k)
  (hk:∀ b o,hcell h b (o+p)=some (sl (R p) n n)→K b o):withAd a K d:=
 t.own.rd.idx (by omega) fun b o hc=>hk b o (hc p _ (rowsV_get hp))
theorem Tab.cell {h:Heap} {lo hi:Nat} {s:Value} {n k:Nat} {R:Nat→Nat} {M:Nat→Nat→Bool} (t:Tab h lo hi s n k R M) {p q:Nat} (hp:p<k) (hq:q<n):hcell h (R p) q=some (.bool (M p q)):=by
 rw [(t.row p hp).1.cell,brow_get hq]
theorem Tab.wr {h:Heap} {lo hi:Nat} {s:Value} {n k:Nat} {R:Nat→Nat} {M:Nat→Nat→Bool} (t:Tab h lo hi s n k R M) {p q:Nat} (hp:p<k) (hq:q<n):Wr h (R p) q 1:=
 (t.row p hp).1.wr (by simp;omega)
theorem Tab.set {h h':Heap} {lo hi:Nat} {s:Value} {n k:Nat} {R:Nat→Nat} {M:Nat→Nat→Bool} (t:Tab h lo hi s n k R M) {p q:Nat} {v:Bool} (hp:p<k) (st:Sto h h' (R p) q [.bool v]) :
  Tab h' lo hi s n k R fun i j=>if i=p∧j=q then v else M i j:=by
 have w:=t.own.at_
 have hr:=(t.row p hp).2.2.2
 refine ⟨t.own.fr st.fr (by omega),t.top,fun i hi=>?_,t.inj⟩
 obtain ⟨h1,h2,h3,h4⟩:=t.row i hi
 by_cases hip:i=p
 ·subst hip
  have:=st.row h1
  rw [putAt_one,brow_set] at this
  refine ⟨?_,h2,h3,h4⟩
  simpa using this
 ·have hne:R i≠R p:=fun he=>hip (t.inj i p hi hp he)
  refine ⟨?_,h2,h3,h4⟩
  have:=st.rw h1 hne
  simpa [hip] using this
end Go.Vc
/-
  Vectors of cells; what Glue answers.
-/
namespace Go.Vc
open Go
theorem Holder.top {s:Nat} {h:Heap} {v:Value} {n:Nat} {xs:List Value} {lo:Nat} (w:Holder s h v n xs lo):bh v≤h.size:=by
 have:=w.at_;omega
def upd {α:Type} (f:Nat→α) (p:Nat) (v:α):Nat→α:=fun q=>if q=p then v else f q
theorem upd_same {α:Type} (f:Nat→α) (p:Nat) (v:α):upd f p v p=v:=by simp [upd]
theorem upd_ne {α:Type} (f:Nat→α) {p q:Nat} (v:α) (h:q≠p):upd f p v q=f q:=by simp [upd,h]
def ivec (n:Nat) (c:Nat→Int):List Value:=(List.range n).map fun p=>Value.int .i64 (c p)
@[simp] theorem length_ivec (n:Nat) (c:Nat→Int):(ivec n c).length=n:=by simp [ivec]
theorem ivec_get {n:Nat} {c:Nat→Int} {p:Nat} (hp:p<n):(ivec n c)[p]?=some (.int .i64 (c p)):=by simp [ivec,hp]
theorem ivec_congr {n:Nat} {c d:Nat→Int} (h:∀ p,p<n→c p=d p):ivec n c=ivec n d:=by
 unfold ivec;apply List.map_congr_left;intro i hi;rw [h i (List.mem_range.1 hi)]
theorem ivec_set {n:Nat} {c:Nat→Int} {p:Nat} {x:Int}:(ivec n c).set p (.int .i64 x)=ivec n (upd c p x):=by
 apply List.ext_getElem?;intro k
 by_cases hk:k<n
 ·rw [ivec_get hk,List.getElem?_set]
  by_cases hj:p=k
  ·subst hj;simp [hk,upd]
  ·rw [if_neg hj,ivec_get hk,upd_ne _ _ (fun h=>hj h.symm)]
 ·rw [List.getElem?_eq_none (by simp;omega),List.getElem?_eq_none (by simp;omega)]
theorem ivec_rep (n:Nat) (x:Int):List.replicate n (Value.int .i64 x)=ivec n fun _=>x:=by
 apply List.ext_getElem?;intro k
 by_cases hk:k<n
 ·rw [ivec_get hk];simp [hk]
 ·rw [List.getElem?_eq_none (by simp;omega),List.getElem?_eq_none (by simp;omega)]
theorem brow_upd {n:Nat} {f:Nat→Bool} {j:Nat} {v:Bool}:(brow n f).set j (.bool v)=brow n (upd f j v):=brow_set
theorem neg_ge0:((-1:Int)≥0)=False:=by simp
theorem neg_lt0:((-1:Int)<0)=True:=by simp
theorem nat_ge0 (x:Nat):((x:Int)≥0)=True:=by simp
theorem nat_lt0 (x:Nat):((x:Int)<0)=False:=by simp
attribute [go_sem] nx_some nx_none neg_ge0 neg_lt0 nat_ge0 nat_lt0
def badP (n:Nat) (U:Nat→Bool) (p:Int×Int):Prop:=p.1<0∨p.1≥(n:Int)∨p.2<0∨p.2≥(n:Int)∨p.1=p.2∨U p.1.toNat=true∨U p.2.toNat=true
instance (n:Nat) (U:Nat→Bool) (p:Int×Int):Decidable (badP n U p):=by unfold badP;infer_instance
structure GluI (n:Nat) (U:Nat→Bool) (F:Nat→Nat) (S:Nat→Int):Prop where
 lt:∀ p,p<n→F p<n
 free:∀ p,p<n→U p=false→F p=p∧S p = -1
 snd:∀ p,p<n→S p = -1∨∃ q,q<n∧S p=(q:Int)∧q≠p∧F q=p∧F p=p
 fst:∀ q,q<n→F q≠q→S (F q)=(q:Int)∧F (F q)=F q
theorem GluI.step {n:Nat} {U:Nat→Bool} {F:Nat→Nat} {S:Nat→Int} (g:GluI n U F S) {a b:Nat} (ha:a<n) (hb:b<n) (hab:a≠b) (ua:U a=false) (ub:U b=false) :
  GluI n (upd (upd U a true) b true) (upd F b a) (upd S a (b:Int)):=by
 have fa:=g.free a ha ua
 have fb:=g.free b hb ub
 refine ⟨fun p hp=>?_,fun p hp hu=>?_,fun p hp=>?_,fun q hq hF=>?_⟩
 ·by_cases h:p=b
  ·subst h;rw [upd_same];exact ha
  ·rw [upd_ne _ _ h];exact g.lt p hp
 ·by_cases h:p=b
  ·subst h;rw [upd_same] at hu;cases hu
  ·rw [upd_ne _ _ h] at hu ⊢
   by_cases h':p=a
   ·subst h';rw [upd_same] at hu;cases hu
   ·rw [upd_ne _ _ h'] at hu ⊢;exact g.free p hp hu
 ·by_cases h:p=a
  ·subst h;rw [upd_same]
   exact .inr ⟨b,hb,rfl,Ne.symm hab,by rw [upd_same],by rw [upd_ne _ _ hab];exact fa.1⟩
  ·rw [upd_ne _ _ h]
   rcases g.snd p hp with h1 | ⟨q,h1,h2,h3,h4,h5⟩
   ·exact .inl h1
   ·by_cases hqb:q=b
    ·subst hqb;rw [fb.1] at h4;exact absurd h4 h3
    ·refine .inr ⟨q,h1,h2,h3,by rw [upd_ne _ _ hqb];exact h4,?_⟩
     by_cases hpb:p=b
     ·subst hpb;rw [fb.2] at h2;omega
     ·rw [upd_ne _ _ hpb];exact h5
 ·by_cases h:q=b
  ·subst h;rw [upd_same] at hF ⊢
   rw [upd_same,upd_ne _ _ hab];exact ⟨rfl,fa.1⟩
  ·rw [upd_ne _ _ h] at hF ⊢
   obtain ⟨h1,h2⟩:=g.fst q hq hF
   have hFb:F q≠b:=fun e=>by rw [e,fb.2] at h1;omega
   have hFa:F q≠a:=fun e=>by rw [e,fa.2] at h1;omega
   rw [upd_ne _ _ hFa,upd_ne _ _ hFb];exact ⟨h1,h2⟩
def glueM (n:Nat) (M:Nat→Nat→Bool) (F:Nat→Nat) (S:Nat→Int) (x y:Nat):Bool:=
 (List.range n).any fun p=>(List.range n).any fun q=>M p q&&!(S p==(q:Int))&&F p==x&&F q==y
theorem glueM_true {n:Nat} {M:Nat→Nat→Bool} {F:Nat→Nat} {S:Nat→Int} {x y:Nat}:glueM n M F S x y=true↔∃ p,p<n∧∃ q,q<n∧M p q=true∧S p≠(q:Int)∧F p=x∧F q=y:=by
 simp only [glueM,List.any_eq_true,List.mem_range,Bool.and_eq_true,Bool.not_eq_true',beq_eq_false_iff_ne,beq_iff_eq,and_assoc,ne_eq]
theorem GluI.keep {n:Nat} {U:Nat→Bool} {F:Nat→Nat} {S:Nat→Int} (g:GluI n U F S) {m:List Nat} {x:Nat} (hx:x<n) (hm:∀ q,q<n→F q≠q→m.contains q=m.contains (F q)) (hF:F x=x) :
  ∀ q,q<n→F q≠q→(if S x≥0 then m++[x]++[(S x).toNat] else m++[x]).contains q=(if S x≥0 then m++[x]++[(S x).toNat] else m++[x]).contains (F q):=by
 intro q hq hFq
 have h0:=hm q hq hFq
 obtain ⟨h1,h2⟩:=g.fst q hq hFq
 have hqx:q≠x:=by rintro rfl;exact hFq hF
 rcases g.snd x hx with hs | ⟨y,hy,hs,hyx,hyF,hxF⟩
 ·rw [hs,if_neg (by decide)]
  have:F q≠x:=fun e=>by rw [e,hs] at h1;omega
  simp only [List.contains_append,List.contains_cons,List.contains_nil,Bool.or_false]
  rw [h0,beq_eq_false_iff_ne.2 hqx,beq_eq_false_iff_ne.2 this]
 ·rw [hs,if_pos (by omega),Int.toNat_natCast]
  simp only [List.contains_append,List.contains_cons,List.contains_nil,Bool.or_false]
  by_cases hqy:q=y
  ·subst hqy;rw [hyF];simp
  ·have h3:F q≠x:=fun e=>by rw [e,hs] at h1;omega
   have h4:F q≠y:=fun e=>by rw [e] at h2;rw [hyF] at h2;exact hyx h2.symm
   rw [h0,beq_eq_false_iff_ne.2 hqx,beq_eq_false_iff_ne.2 h3,beq_eq_false_iff_ne.2 hqy,beq_eq_false_iff_ne.2 h4]
end Go.Vc
/-
  Relations, rows by rows: plain facts.
-/
namespace Go.Vc
open Go
theorem Rw.ext {B:Nat} {h h':Heap} {b:Nat} {c:List Value} (r:Rw h b c) (x:Ext B h h'):Rw h' b c:=x.rw r
theorem Holder.ext {B:Nat} {h h':Heap} {s:Nat} {v:Value} {n:Nat} {xs:List Value} {lo:Nat} (w:Holder s h v n xs lo) (x:Ext B h h'):Holder s h' v n xs lo:=x.holder w
theorem Rd.ext {B:Nat} {h h':Heap} {s:Nat} {v:Value} {n:Nat} {xs:List Value} (w:Rd s h v n xs) (x:Ext B h h'):Rd s h' v n xs:=x.rd w
theorem PTab.ext {B:Nat} {h h':Heap} {lo hi pb rb n:Nat} {R:Nat→Nat} {W:Nat→Nat→Nat} {M:Nat→Nat→Bool} (t:PTab h lo hi pb rb n R W M) (x:Ext B h h'):PTab h' lo hi pb rb n R W M:=x.ptab t
theorem ProgAt.ext {B:Nat} {h h':Heap} {lo hi:Nat} {p:Value} {n:Nat} {M:Nat→Nat→Bool} (t:ProgAt h lo hi p n M) (x:Ext B h h'):ProgAt h' lo hi p n M:=x.prog t
theorem TabAt.ext {B:Nat} {h h':Heap} (t:TabAt h) (x:Ext B h h'):TabAt h':=x.tab t
theorem Fr.ext {B:Nat} {h h1 h2:Heap} (f:Fr 0 0 h h1) (x:Ext B h1 h2) (hB:h.size≤B):Fr 0 0 h h2:=x.fr f hB
theorem Tab.ext {B:Nat} {h h':Heap} {lo hi:Nat} {s:Value} {n k:Nat} {R:Nat→Nat} {M:Nat→Nat→Bool} (t:Tab h lo hi s n k R M) (x:Ext B h h'):Tab h' lo hi s n k R M:=
 ⟨t.own.ext x,t.top,fun i hi=>by obtain ⟨h1,h2⟩:=t.row i hi;exact ⟨h1.ext x,h2⟩,t.inj⟩
theorem PTab.mono' {h:Heap} {lo hi hi' pb rb n:Nat} {R:Nat→Nat} {W:Nat→Nat→Nat} {M:Nat→Nat→Bool} (t:PTab h lo hi pb rb n R W M) (h2:hi≤hi'):PTab h lo hi' pb rb n R W M:=by
 have a:=t.at_
 refine ⟨t.ptr,t.rows,fun i hi=>?_,t.inj,by omega⟩
 obtain ⟨g1,g2,g3,g4⟩:=t.row i hi
 exact ⟨g1,by omega,by omega,g4⟩
theorem PTab.lower {h:Heap} {lo lo' hi pb rb n:Nat} {R:Nat→Nat} {W:Nat→Nat→Nat} {M:Nat→Nat→Bool} (t:PTab h lo hi pb rb n R W M) (h2:lo'≤lo):PTab h lo' hi pb rb n R W M:=by
 have a:=t.at_
 refine ⟨t.ptr,t.rows,fun i hi=>?_,t.inj,by omega⟩
 obtain ⟨g1,g2,g3,g4⟩:=t.row i hi
 exact ⟨g1,by omega,by omega,g4⟩
theorem PTab.congr {h:Heap} {lo hi pb rb n:Nat} {R:Nat→Nat} {W:Nat→Nat→Nat} {M M':Nat→Nat→Bool} (t:PTab h lo hi pb rb n R W M) (he:∀ i j,i<n→j<n→M i j=M' i j):PTab h lo hi pb rb n R W M':=by
 refine ⟨t.ptr,t.rows,fun i hi=>?_,t.inj,t.at_⟩
 obtain ⟨h1,h2,h3,h4,h5,h6⟩:=t.row i hi
 refine ⟨h1,h2,h3,h4,h5,fun j=>⟨(h6 j).1,fun k hk=>?_⟩⟩
 rw [(h6 j).2 k hk]
 by_cases hjk:64 * j+k<n
 ·rw [he i _ hi hjk]
 ·simp [hjk]
theorem PTab.updRow {h h':Heap} {lo hi pb rb n:Nat} {R:Nat→Nat} {W:Nat→Nat→Nat} {M:Nat→Nat→Bool} (t:PTab h lo hi pb rb n R W M) {x:Nat} {w:Nat→Nat} {f:Nat→Bool} (hx:x<n) (fr:Fr (R x) (R x+1) h h')
  (hr:Rw h' (R x) (wrow (nw n) w)) (hb:Bits n w f):PTab h' lo hi pb rb n R (Vc.upd W x w) (Vc.upd M x f):=by
 obtain ⟨g1,g2,g3,g4,g5,g6⟩:=t.row x hx
 have l1:=t.ptr.lt;have l2:=t.rows.lt
 refine ⟨t.ptr.fr fr (by omega),t.rows.fr fr (by omega),fun i hi=>?_,t.inj,t.at_⟩
 obtain ⟨h1,h2,h3,h4,h5,h6⟩:=t.row i hi
 by_cases hix:i=x
 ·subst hix
  rw [upd_same,upd_same];exact ⟨hr,h2,h3,h4,h5,hb⟩
 ·rw [upd_ne _ _ hix,upd_ne _ _ hix]
  have:R i≠R x:=fun he=>hix (t.inj i x hi hx he)
  exact ⟨h1.fr fr (by omega),h2,h3,h4,h5,h6⟩
theorem PTab.le {h:Heap} {lo hi pb rb n:Nat} {R:Nat→Nat} {W:Nat→Nat→Nat} {M:Nat→Nat→Bool} (t:PTab h lo hi pb rb n R W M):pb<h.size∧rb<h.size:=⟨t.ptr.lt,t.rows.lt⟩
theorem Bits.or {n m:Nat} {W V:Nat→Nat} {f g:Nat→Bool} (b:Bits n W f) (c:Bits m V g) (hm:m≤n):Bits n (fun j=>if j<nw m then W j ||| V j else W j) fun q=>f q||(decide (q<m)&&g q):=by
 intro j
 by_cases hj:j<nw m
 ·simp only [hj,if_true]
  refine ⟨Nat.or_lt_two_pow (b j).1 (c j).1,fun k hk=>?_⟩
  rw [Nat.testBit_or,(b j).2 k hk,(c j).2 k hk]
  by_cases h1:64 * j+k<m
  ·have:64 * j+k<n:=by omega
   simp [h1,this]
  ·simp [h1]
 ·simp only [hj,if_false]
  refine ⟨(b j).1,fun k hk=>?_⟩
  rw [(b j).2 k hk]
  have:¬ 64 * j+k<m:=by unfold nw at hj;omega
  simp [this]
theorem wrow_inj {w v:Nat} {W V:Nat→Nat} (h:wrow w W=wrow v V):w=v∧∀ i,i<w→W i=V i:=by
 have hl:w=v:=by have:=congrArg List.length h;simpa using this
 subst hl
 refine ⟨rfl,fun i hi=>?_⟩
 have h1:=wrow_get (W:=W) hi
 rw [h,wrow_get hi] at h1
 simp only [Option.some.injEq,Value.int.injEq,true_and] at h1
 omega
theorem Rw.inj {h:Heap} {b:Nat} {c d:List Value} (r:Rw h b c) (s:Rw h b d):c=d:=by
 obtain ⟨t,r⟩:=r;obtain ⟨u,s⟩:=s
 unfold Blk at *
 rw [r] at s
 simp only [Option.some.injEq,Obj.cells.injEq] at s
 have:=congrArg Array.toList s.1
 simpa using this
theorem wrow_congr {w:Nat} {W V:Nat→Nat} (h:∀ i,i<w→W i=V i):wrow w W=wrow w V:=by
 unfold wrow;apply List.map_congr_left;intro i hi;rw [h i (List.mem_range.1 hi)]
theorem wrow_upd {w:Nat} {W:Nat→Nat} {j x:Nat}:(wrow w W).set j (.int .u64 (x:Int))=wrow w (upd W j x):=wrow_set
def inN (n:Nat) (M:Nat→Nat→Bool) (i j:Nat):Bool:=decide (i<n)&&decide (j<n)&&M i j
theorem inN_true {n:Nat} {M:Nat→Nat→Bool} {i j:Nat}:inN n M i j=true↔i<n∧j<n∧M i j=true:=by simp [inN,and_assoc]
theorem inN_in {n:Nat} {M:Nat→Nat→Bool} {i j:Nat} (hi:i<n) (hj:j<n):inN n M i j=M i j:=by simp [inN,hi,hj]
theorem inN_out {n:Nat} {M:Nat→Nat→Bool} {i j:Nat} (h:¬ (i<n∧j<n)):inN n M i j=false:=by
 rw [Bool.eq_false_iff];intro h';have:=inN_true.1 h';exact h ⟨this.1,this.2.1⟩
def interM (n:Nat) (M:Nat→Nat→Bool) (m:Nat) (N:Nat→Nat→Bool) (i j:Nat):Bool:=inN n M i j&&inN m N i j
def minusM (n:Nat) (M:Nat→Nat→Bool) (m:Nat) (N:Nat→Nat→Bool) (i j:Nat):Bool:=inN n M i j&&!inN m N i j
def compM (n:Nat) (M:Nat→Nat→Bool) (m:Nat) (N:Nat→Nat→Bool) (i j:Nat):Bool:=(List.range n).any fun k=>inN n M i k&&inN m N k j
theorem compM_true {n m:Nat} {M N:Nat→Nat→Bool} {i j:Nat}:compM n M m N i j=true↔∃ k,inN n M i k=true∧inN m N k j=true:=by
 simp only [compM,List.any_eq_true,List.mem_range,Bool.and_eq_true]
 exact ⟨fun ⟨k,_,h⟩=>⟨k,h⟩,fun ⟨k,h1,h2⟩=>⟨k,(inN_true.1 h1).2.1,h1,h2⟩⟩
def invM (M:Nat→Nat→Bool) (i j:Nat):Bool:=M j i
def atB (l:List Bool) (p:Nat):Bool:=l.getD p false
def cutM (M:Nat→Nat→Bool) (r c:List Bool) (i j:Nat):Bool:=M i j&&atB r i&&atB c j
def warM (n:Nat) (M:Nat→Nat→Bool):Nat→Nat→Nat→Bool
 | 0,i,j=>M i j
 | k+1,i,j=>warM n M k i j||(warM n M k i k&&warM n M k k j)
def plusM (n:Nat) (M:Nat→Nat→Bool):Nat→Nat→Bool:=warM n M n
def optM (M:Nat→Nat→Bool) (i j:Nat):Bool:=M i j||i==j
def idM (l:List Bool) (i j:Nat):Bool:=i==j&&atB l i
def irrB (n:Nat) (M:Nat→Nat→Bool):Bool:=(List.range n).all fun i=>!M i i
def boolsV (l:List Bool):List Value:=l.map .bool
@[simp] theorem length_boolsV (l:List Bool):(boolsV l).length=l.length:=by simp [boolsV]
theorem boolsV_get {l:List Bool} {i:Nat} {b:Bool} (h:l[i]?=some b):(boolsV l)[i]?=some (.bool b):=by simp [boolsV,h]
theorem atB_get {l:List Bool} {i:Nat} {b:Bool} (h:l[i]?=some b):atB l i=b:=by simp [atB,h]
theorem atB_out {l:List Bool} {i:Nat} (h:l.length≤i):atB l i=false:=by simp [atB,h]
theorem rvc_joint {P:Program} {y:Option Nat} {r:GR} {W:Watch} {e:Env} {h:Heap} {K:Env→Heap→Prop} {α:Type} (E:α→Env) (I:α→Heap→Prop)
  (h1:rvc P y r W e h (fun e h=>∃ s,Le (E s) e∧I s h)) (h2:∀ s h,I s h→∀ e,Le (E s) e→K e h):rvc P y r W e h K:=
 rvc_mono (fun e h ⟨s,hl,hi⟩=>h2 s h hi e hl) h1
def mixM (p q n:Nat) (N O:Nat→Nat→Bool) (i j:Nat):Bool:=if (i<p∧j<n)∨(i=p∧j<q) then N i j else O i j
theorem mixM_zero {n:Nat} {N O:Nat→Nat→Bool} {i j:Nat}:mixM 0 0 n N O i j=O i j:=by unfold mixM;rw [if_neg (by omega)]
theorem mixM_next {p n:Nat} {N O:Nat→Nat→Bool} {i j:Nat}:mixM p n n N O i j=mixM (p+1) 0 n N O i j:=by
 unfold mixM
 by_cases h:(i<p∧j<n)∨(i=p∧j<n)
 ·rw [if_pos h,if_pos (by omega)]
 ·rw [if_neg h,if_neg (by omega)]
theorem mixM_set {p q n:Nat} {N O:Nat→Nat→Bool} {v:Bool} (hv:v=N p q) {i j:Nat}:(if i=p∧j=q then v else mixM p q n N O i j)=mixM p (q+1) n N O i j:=by
 unfold mixM
 by_cases h:i=p∧j=q
 ·obtain ⟨rfl,rfl⟩:=h
  rw [if_pos ⟨rfl,rfl⟩,if_pos (by omega),hv]
 ·rw [if_neg h]
  by_cases h2:(i<p∧j<n)∨(i=p∧j<q)
  ·rw [if_pos h2,if_pos (by omega)]
  ·rw [if_neg h2,if_neg (by omega)]
theorem mixM_end {p n:Nat} {N O:Nat→Nat→Bool} {i j:Nat} (hi:i<p) (hj:j<n):mixM p 0 n N O i j=N i j:=by unfold mixM;rw [if_pos (by omega)]
end Go.Vc
/-
  How many bits a word has: the library's way of adding them up.
-/
namespace Go.Vc
end Go.Vc
/-
  How far it is to a point; a least cycle.
-/
namespace Go.Vc
def lay (n:Nat) (M:Nat→Nat→Bool) (p:Nat) (F:Nat→Nat) (k i:Nat):Bool:=if k=0 then M i p else (List.range n).any fun j=>M i j&&F j==k
def farK (n:Nat) (M:Nat→Nat→Bool) (p:Nat):Nat→Nat→Nat
 | 0,_=>0
 | k+1,i=>if farK n M p k i≠0 then farK n M p k i else if lay n M p (farK n M p k) k i=true then k+1 else 0
def farS (n:Nat) (M:Nat→Nat→Bool) (p:Nat):Nat→Nat:=farK n M p n
section
variable {n : Nat} {M : Nat → Nat → Bool} {p : Nat}
theorem lay_zero {F:Nat→Nat} {i:Nat}:lay n M p F 0 i=M i p:=by simp [lay]
theorem lay_succ {F:Nat→Nat} {k i:Nat}:lay n M p F (k+1) i=true↔∃ j,j<n∧M i j=true∧F j=k+1:=by
 simp [lay,List.any_eq_true]
theorem farK_le:∀ k i,farK n M p k i≤k
 | 0,_=>Nat.le_refl _
 | k+1,i=>by
  have:=farK_le k i
  simp only [farK]
  split
  ·omega
  ·split <;> omega
theorem farK_keep {k i:Nat} (h:farK n M p k i≠0):farK n M p (k+1) i=farK n M p k i:=by simp only [farK];rw [if_pos h]
theorem farK_new {k i:Nat} (h:farK n M p k i=0):farK n M p (k+1) i=if lay n M p (farK n M p k) k i=true then k+1 else 0:=by
 simp only [farK];rw [if_neg (by omega)]
theorem farK_step:∀ {k i m:Nat},farK n M p k i=m+1→(m=0→M i p=true)∧(0<m→∃ j,j<n∧M i j=true∧farK n M p k j=m)
 | 0,i,m,h=>by simp [farK] at h
 | k+1,i,m,h=>by
  by_cases h0:farK n M p k i=0
  ·rw [farK_new h0] at h
   split at h
   ·rename_i hl
    have hkm:k=m:=by omega
    subst hkm
    cases k with
    | zero=>exact ⟨fun _=>by rwa [lay_zero] at hl,fun h=>by omega⟩
    | succ k =>
     refine ⟨fun h=>by omega,fun _=>?_⟩
     obtain ⟨j,hj,hm,hf⟩:=lay_succ.1 hl
     exact ⟨j,hj,hm,by rw [farK_keep (by omega),hf]⟩
   ·omega
  ·rw [farK_keep h0] at h
   obtain ⟨h1,h2⟩:=farK_step h
   refine ⟨h1,fun hm=>?_⟩
   obtain ⟨j,hj,hM,hf⟩:=h2 hm
   exact ⟨j,hj,hM,by rw [farK_keep (by omega),hf]⟩
theorem farK_stable {k:Nat} (h:∀ i,i<n→farK n M p (k+1) i≠k+1):∀ d i,i<n→farK n M p (k+d) i=farK n M p k i
 | 0,_,_=>rfl
 | d+1,i,hi=>by
  have ih:=farK_stable h d
  rw [show k+(d+1)=k+d+1 by omega]
  by_cases h0:farK n M p (k+d) i=0
  ·rw [farK_new h0,← ih i hi,h0,if_neg]
   intro hl
   cases d with
   | zero =>
    have:=h i hi
    rw [farK_new h0,if_pos hl] at this
    exact this rfl
   | succ d =>
    rw [show k+(d+1)=(k+d)+1 by omega] at hl
    obtain ⟨j,hj,hm,hf⟩:=lay_succ.1 hl
    rw [show k+d+1=k+(d+1) by omega,ih j hj] at hf
    have:=farK_le (n:=n) (M:=M) (p:=p) k j
    omega
  ·rw [farK_keep h0,ih i hi]
def known (n:Nat) (M:Nat→Nat→Bool) (p k:Nat):Nat:=(List.range n).countP fun i=>farK n M p k i != 0
theorem known_le (k:Nat):known n M p k≤n:=by unfold known;exact Nat.le_trans List.countP_le_length (by simp)
theorem countP_lt {f g:Nat→Bool}:∀ (m x:Nat),x<m→(∀ i,f i=true→g i=true)→f x=false→g x=true→(List.range m).countP f<(List.range m).countP g
 | 0,x,h,_,_,_=>by omega
 | m+1,x,h,hfg,h1,h2=>by
  rw [List.range_succ,List.countP_append,List.countP_append,List.countP_singleton,List.countP_singleton]
  have hmono:∀ k,(List.range k).countP f≤(List.range k).countP g:=fun k=>List.countP_mono_left fun i _ hi=>hfg i hi
  by_cases hx:x=m
  ·subst hx
   rw [h1,h2];have:=hmono x;simp;omega
  ·have:=countP_lt m x (by omega) hfg h1 h2
   have h3:(if f m=true then 1 else 0)≤(if g m=true then 1 else 0):=by
    by_cases hf:f m=true
    ·rw [if_pos hf,if_pos (hfg m hf)];exact Nat.le_refl _
    ·rw [if_neg hf];omega
   omega
theorem known_grows {k i:Nat} (hi:i<n) (h:farK n M p (k+1) i=k+1):known n M p k<known n M p (k+1):=by
 refine countP_lt n i hi (fun j hj=>?_) ?_ ?_
 ·have:farK n M p k j≠0:=by simpa using hj
  simpa [farK_keep this] using hj
 ·apply Classical.byContradiction;intro h0
  have h0:farK n M p k i≠0:=by simpa using h0
  rw [farK_keep h0] at h
  have:=farK_le (n:=n) (M:=M) (p:=p) k i
  omega
 ·simp [h]
theorem layer_prev {k i:Nat} (hi:i<n) (h:farK n M p (k+2) i=k+2):∃ j,j<n∧farK n M p (k+1) j=k+1:=by
 obtain ⟨j,hj,hm,hf⟩:=(farK_step h).2 (by omega)
 refine ⟨j,hj,?_⟩
 by_cases h0:farK n M p (k+1) j=0
 ·rw [farK_new h0] at hf;split at hf <;> omega
 ·rw [farK_keep h0] at hf;exact hf
theorem known_ge:∀ {k i:Nat},i<n→farK n M p (k+1) i=k+1→k+1≤known n M p (k+1)
 | 0,i,hi,h=>by have:=known_grows hi h;omega
 | k+1,i,hi,h=>by
  obtain ⟨j,hj,hf⟩:=layer_prev hi h
  have:=known_ge hj hf
  have:=known_grows hi h
  omega
theorem farK_all {k:Nat} (h:∀ i,i<n→farK n M p (k+1) i≠k+1) {i:Nat} (hi:i<n):farK n M p k i=farS n M p i:=by
 have hn:∀ i,i<n→farK n M p (n+1) i≠n+1:=fun i hi h=>by
  have:=known_ge hi h;have:=known_le (n:=n) (M:=M) (p:=p) (n+1);omega
 unfold farS
 rcases Nat.le_total k n with hk | hk
 ·obtain ⟨d,rfl⟩:∃ d,n=k+d:=⟨n - k,by omega⟩
  exact (farK_stable h d i hi).symm
 ·obtain ⟨d,hd⟩:∃ d,k=n+d:=⟨k - n,by omega⟩
  rw [hd];exact farK_stable hn d i hi
theorem farS_step {i m:Nat} (h:farS n M p i=m+1):(m=0→M i p=true)∧(0<m→∃ j,j<n∧M i j=true∧farS n M p j=m):=farK_step h
theorem farS_le (i:Nat):farS n M p i≤n:=farK_le n i
end
def cycGo (n:Nat) (M:Nat→Nat→Bool) (F:Nat→Nat):Nat→Nat→List Nat
 | 0,_=>[]
 | k+1,a=>match lf (fun q=>M a q&&F q==k+1) n 0 with
  | none=>[]
  | some q=>q :: cycGo n M F k q
def shortS (n:Nat) (M:Nat→Nat→Bool) (p:Nat):List Nat:=p :: cycGo n M (farS n M p) (farS n M p p - 1) p
def cycS (n:Nat) (M:Nat→Nat→Bool):List Nat:=match lf (fun p=>plusM n M p p) n 0 with
 | none=>[]
 | some p=>shortS n M p
theorem lf_none {f:Nat→Bool} {n q:Nat} (h:lf f n q=none):∀ x,q≤x→x<n→f x=false:=fun x h1 h2=>by
 unfold lf at h
 have:=List.find?_eq_none.1 h x (List.mem_range'_1.2 ⟨h1,by omega⟩)
 simpa using this
theorem lf_least {f:Nat→Bool} {n q x:Nat} (h:lf f n q=some x):∀ y,q≤y→y<x→f y=false:=by
 obtain ⟨h1,h2,_⟩:=lf_some h
 intro y hy hyx
 have hr:∀ d q,n - q=d→lf f n q=some x→∀ y,q≤y→y<x→f y=false:=by
  intro d
  induction d with
  | zero=>intro q hq h';rw [lf_end f (by omega)] at h';cases h'
  | succ d ih =>
   intro q hq h' y hy hyx
   rw [lf_step f (by omega)] at h'
   cases hf:f q with
   | true=>rw [if_pos hf] at h';cases h';omega
   | false =>
    rw [if_neg (by simp [hf])] at h'
    by_cases hyq:y=q
    ·subst hyq;exact hf
    ·exact ih (q+1) (by omega) h' y (by omega) hyx
 exact hr _ q rfl h y hy hyx
theorem lf_is {f:Nat→Bool} {n q x:Nat} (h1:q≤x) (h2:x<n) (h3:f x=true) (h4:∀ y,q≤y→y<x→f y=false):lf f n q=some x:=by
 cases h:lf f n q with
 | none=>have:=lf_none h x h1 h2;rw [this] at h3;cases h3
 | some y =>
  obtain ⟨g1,g2,g3⟩:=lf_some h
  by_cases hyx:y<x
  ·have:=h4 y g1 hyx;rw [this] at g3;cases g3
  ·by_cases hxy:x<y
   ·have:=lf_least h x h1 hxy;rw [this] at h3;cases h3
   ·congr 1;omega
theorem nodup_lt {n:Nat} {l:List Nat} (hd:l.Nodup) (hl:∀ x∈l,x<n):l.length≤n:=by
 have h:∀ (l m:List Nat),l.Nodup→(∀ x∈l,x∈m)→l.length≤m.length:=by
  intro l
  induction l with
  | nil=>intro m _ _;simp
  | cons x l ih =>
   intro m hd hs
   have hx:=hs x (by simp)
   have hd':=List.nodup_cons.1 hd
   have:=ih (m.erase x) hd'.2 fun y hy=>(List.mem_erase_of_ne (by rintro rfl;exact hd'.1 hy)).2 (hs y (by simp [hy]))
   rw [List.length_erase_of_mem hx] at this
   have:=List.length_pos_of_mem hx
   simp;omega
 have:=h l (List.range n) hd fun x hx=>List.mem_range.2 (hl x hx)
 simpa using this
theorem rest_before {f:Nat→Bool} {n d s y:Nat} (hs:(rest f n 0)[d]?=some s) (hy:y<s) (hf:f y=true):y∈(rest f n 0).take d:=by
 have hsm:=mem_rest.1 (List.mem_of_getElem? hs)
 have hm:y∈rest f n 0:=mem_rest.2 ⟨by omega,by omega,hf⟩
 have hp:(rest f n 0).Pairwise (· < ·):=by unfold rest;exact List.Pairwise.sublist List.filter_sublist (List.pairwise_lt_range')
 obtain ⟨e,he,hye⟩:=List.getElem_of_mem hm
 obtain ⟨hd,hsd⟩:=List.getElem?_eq_some_iff.1 hs
 have hed:e<d:=by
  apply Classical.byContradiction;intro hh
  by_cases h1:e=d
  ·subst h1;omega
  ·have:=(List.pairwise_iff_getElem.1 hp) d e hd he (by omega)
   omega
 exact List.mem_iff_getElem.2 ⟨e,by simp;omega,by simp [hye]⟩
end Go.Vc
/-
  The closure is the least transitive relation over a relation; ways.
-/
namespace Go.Vc
section
variable {n : Nat} {M : Nat → Nat → Bool}
theorem warM_self (n:Nat) (M:Nat→Nat→Bool) (k j:Nat):warM n M (k+1) k j=warM n M k k j:=by
 simp only [warM];cases warM n M k k j <;> simp
theorem warM_mono {k i j:Nat} (h:warM n M k i j=true):warM n M (k+1) i j=true:=by simp only [warM,h,Bool.true_or]
theorem warM_sub:∀ (k:Nat) {i j:Nat},M i j=true→warM n M k i j=true
 | 0,_,_,h=>h
 | k+1,_,_,h=>warM_mono (warM_sub k h)
theorem warM_succ {k i j:Nat}:warM n M (k+1) i j=true↔warM n M k i j=true∨(warM n M k i k=true∧warM n M k k j=true):=by
 simp [warM]
theorem warM_trans:∀ (k:Nat) {i x j:Nat},x<k→warM n M k i x=true→warM n M k x j=true→warM n M k i j=true
 | 0,_,_,_,h,_,_=>by omega
 | k+1,i,x,j,hx,h1,h2=>by
  rw [warM_succ] at h1 h2 ⊢
  by_cases hxk:x=k
  ·subst hxk
   refine .inr ⟨?_,?_⟩
   ·rcases h1 with h | ⟨h,_⟩ <;> exact h
   ·rcases h2 with h | ⟨_,h⟩ <;> exact h
  ·have hx':x<k:=by omega
   rcases h1 with h1 | ⟨h1,h1'⟩ <;> rcases h2 with h2 | ⟨h2,h2'⟩
   ·exact .inl (warM_trans k hx' h1 h2)
   ·exact .inr ⟨warM_trans k hx' h1 h2,h2'⟩
   ·exact .inr ⟨h1,warM_trans k hx' h1' h2⟩
   ·exact .inr ⟨h1,h2'⟩
theorem plus_sub {i j:Nat} (h:M i j=true):plusM n M i j=true:=warM_sub n h
theorem plus_trans {i x j:Nat} (hx:x<n) (h1:plusM n M i x=true) (h2:plusM n M x j=true):plusM n M i j=true:=warM_trans n hx h1 h2
theorem plus_least {N:Nat→Nat→Prop} (hM:∀ i j,i<n→j<n→M i j=true→N i j) (ht:∀ i x j,i<n→x<n→j<n→N i x→N x j→N i j) {i j:Nat} (hi:i<n) (hj:j<n) (h:plusM n M i j=true):N i j:=by
 have all:∀ k,k≤n→∀ i j,i<n→j<n→warM n M k i j=true→N i j:=by
  intro k
  induction k with
  | zero=>exact fun _ i j hi hj h=>hM i j hi hj h
  | succ k ih =>
   intro hk i j hi hj h
   rcases warM_succ.1 h with h | ⟨h1,h2⟩
   ·exact ih (by omega) i j hi hj h
   ·exact ht i k j hi (by omega) hj (ih (by omega) i k hi (by omega) h1) (ih (by omega) k j (by omega) hj h2)
 exact all n (Nat.le_refl _) i j hi hj h
inductive Way (n:Nat) (M:Nat→Nat→Bool):Nat→Nat→Nat→Prop
 | one {i j:Nat}:M i j=true→Way n M 1 i j
 | more {k i x j:Nat}:x<n→M i x=true→Way n M k x j→Way n M (k+1) i j
theorem Way.app {k m i x j:Nat} (hx:x<n) (h:Way n M k i x) (h':Way n M m x j):Way n M (k+m) i j:=by
 induction h with
 | one h=>rw [Nat.add_comm];exact .more hx h h'
 | more hy hm _ ih=>rw [Nat.add_right_comm];exact .more hy hm (ih hx h')
theorem plus_way {i j:Nat} (hi:i<n) (hj:j<n) (h:plusM n M i j=true):∃ k,Way n M k i j:=
 plus_least (N:=fun i j=>∃ k,Way n M k i j) (fun i j _ _ h=>⟨1,.one h⟩) (fun i x j _ hx _ ⟨k,h1⟩ ⟨m,h2⟩=>⟨k+m,h1.app hx h2⟩) hi hj h
variable {p : Nat}
theorem farK_mono {k m i:Nat} (hk:k≤m) (h:farK n M p k i≠0):farK n M p m i=farK n M p k i:=by
 obtain ⟨d,rfl⟩:∃ d,m=k+d:=⟨m - k,by omega⟩
 induction d with
 | zero=>rfl
 | succ d ih =>
  have:=ih (by omega)
  rw [show k+(d+1)=k+d+1 by omega,farK_keep (by omega),this]
theorem farK_at:∀ {k i v:Nat},farK n M p k i=v→v≠0→farK n M p v i=v
 | 0,i,v,h,hv=>by simp [farK] at h;omega
 | k+1,i,v,h,hv=>by
  by_cases h0:farK n M p k i=0
  ·have h':=h
   rw [farK_new h0] at h'
   split at h'
   ·subst h';exact h
   ·omega
  ·rw [farK_keep h0] at h;exact farK_at h hv
theorem way_far {k i p:Nat} (h:Way n M k i p):∃ m,farK n M p m i≠0:=by
 induction h with
 | one h=>exact ⟨1,by rw [farK_new rfl,lay_zero,if_pos h];omega⟩
 | @more k i x j hx h _ ih =>
  obtain ⟨m,hm⟩:=ih
  have hv:=farK_at rfl hm
  obtain ⟨v,hv'⟩:∃ v,farK n M j m x=v+1:=⟨farK n M j m x - 1,by omega⟩
  rw [hv'] at hv
  refine ⟨v+2,?_⟩
  by_cases h0:farK n M j (v+1) i=0
  ·rw [farK_new h0,if_pos (lay_succ.2 ⟨x,hx,h,hv⟩)];omega
  ·rw [farK_keep h0];exact h0
theorem farS_of {k i:Nat} (hi:i<n) (h:farK n M p k i≠0):farS n M p i≠0:=by
 have hn:∀ i,i<n→farK n M p (n+1) i≠n+1:=fun i hi h=>by
  have:=known_ge hi h;have:=known_le (n:=n) (M:=M) (p:=p) (n+1);omega
 unfold farS
 rcases Nat.le_total k n with hk | hk
 ·rw [farK_mono hk h];exact h
 ·obtain ⟨d,hd⟩:∃ d,k=n+d:=⟨k - n,by omega⟩
  rw [hd,farK_stable hn d i hi] at h;exact h
theorem plus_far {i:Nat} (hi:i<n) (hp:p<n) (h:plusM n M i p=true):farS n M p i≠0:=by
 obtain ⟨k,hw⟩:=plus_way hi hp h
 obtain ⟨m,hm⟩:=way_far hw
 exact farS_of hi hm
end
theorem cycGo_len {n:Nat} {M:Nat→Nat→Bool} {F:Nat→Nat}:∀ (k a:Nat),(cycGo n M F k a).length≤k
 | 0,_=>Nat.le_refl _
 | k+1,a=>by
  simp only [cycGo]
  split
  ·simp
  ·rename_i q _;have:=cycGo_len (n:=n) (M:=M) (F:=F) k q;simp;omega
theorem shortS_len {n:Nat} {M:Nat→Nat→Bool} {p:Nat}:(shortS n M p).length≤n+1:=by
 have:=cycGo_len (n:=n) (M:=M) (F:=farS n M p) (farS n M p p - 1) p
 have:=farS_le (n:=n) (M:=M) (p:=p) p
 simp only [shortS,List.length_cons];omega
theorem cycS_len {n:Nat} {M:Nat→Nat→Bool}:(cycS n M).length≤n+1:=by
 unfold cycS
 split
 ·simp
 ·exact shortS_len
end Go.Vc
/-
  A least cycle is one; numbers that rise, round by round.
-/
namespace Go.Vc
section
variable {n : Nat} {M : Nat → Nat → Bool} {p : Nat}
theorem far_plus:∀ {m i:Nat},farS n M p i=m+1→plusM n M i p=true
 | 0,i,h=>plus_sub ((farS_step h).1 rfl)
 | m+1,i,h=>by
  obtain ⟨j,hj,hM,hf⟩:=(farS_step h).2 (by omega)
  exact plus_trans hj (plus_sub hM) (far_plus hf)
theorem cycGo_way:∀ (k a:Nat),farS n M p a=k+1→(a :: cycGo n M (farS n M p) k a).length=k+1∧∀ i x,(a :: cycGo n M (farS n M p) k a)[i]?=some x →
  farS n M p x+i=k+1∧(i≠0→x<n∧plusM n M a x=true)∧(i<k→∃ y,(a :: cycGo n M (farS n M p) k a)[i+1]?=some y∧M x y=true)∧(i=k→M x p=true)
 | 0,a,h=>by
  refine ⟨rfl,fun i x hx=>?_⟩
  simp only [cycGo] at hx
  cases i with
  | succ i=>simp at hx
  | zero =>
   simp at hx;subst hx
   exact ⟨by omega,by omega,by omega,fun _=>(farS_step h).1 rfl⟩
 | k+1,a,h=>by
  obtain ⟨j,hj,hM,hf⟩:=(farS_step h).2 (by omega)
  simp only [cycGo]
  cases hl:lf (fun q=>M a q&&farS n M p q==k+1) n 0 with
  | none =>
   have:=lf_none hl j (by omega) hj
   simp [hM,hf] at this
  | some q =>
   obtain ⟨-,hq,hfq⟩:=lf_some hl
   simp only [Bool.and_eq_true,beq_iff_eq] at hfq
   obtain ⟨ih1,ih2⟩:=cycGo_way k q hfq.2
   refine ⟨by simpa using ih1,fun i x hx=>?_⟩
   cases i with
   | zero =>
    simp at hx;subst hx
    exact ⟨by omega,by omega,fun _=>⟨q,by simp,hfq.1⟩,by omega⟩
   | succ i =>
    rw [List.getElem?_cons_succ] at hx
    obtain ⟨g1,g2,g3,g4⟩:=ih2 i x hx
    refine ⟨by omega,fun _=>?_,fun hi=>?_,fun hi=>g4 (by omega)⟩
    ·cases i with
     | zero=>simp at hx;subst hx;exact ⟨hq,plus_sub hfq.1⟩
     | succ i=>exact ⟨(g2 (by omega)).1,plus_trans hq (plus_sub hfq.1) (g2 (by omega)).2⟩
    ·obtain ⟨y,hy,hm⟩:=g3 (by omega)
     exact ⟨y,by rw [List.getElem?_cons_succ];exact hy,hm⟩
end
theorem cycS_is {n:Nat} {M:Nat→Nat→Bool} (hne:cycS n M≠[]):∃ p,p<n∧(cycS n M)[0]?=some p∧plusM n M p p=true∧(∀ q,q<p→plusM n M q q=false) ∧
  (∀ (i x:Nat),(cycS n M)[i]?=some x→x<n∧p≤x∧(∀ y:Nat,(cycS n M)[i+1]?=some y→M x y=true)∧(i+1=(cycS n M).length→M x p=true)) ∧
  ∀ i j x:Nat,(cycS n M)[i]?=some x→(cycS n M)[j]?=some x→i=j:=by
 unfold cycS at hne ⊢
 cases hl:lf (fun p=>plusM n M p p) n 0 with
 | none=>rw [hl] at hne;simp at hne
 | some p =>
  obtain ⟨-,hp,hpp⟩:=lf_some hl
  dsimp only
  have hF:=plus_far hp hp hpp
  obtain ⟨k,hk⟩:∃ k,farS n M p p=k+1:=⟨farS n M p p - 1,by omega⟩
  have hs:shortS n M p=p :: cycGo n M (farS n M p) k p:=by unfold shortS;rw [hk];rfl
  rw [hs]
  obtain ⟨h1,h2⟩:=cycGo_way (n:=n) (M:=M) (p:=p) k p hk
  refine ⟨p,hp,by simp,hpp,fun q hq=>lf_least hl q (by omega) hq,fun i x hx=>?_,fun i j x hi hj=>?_⟩
  ·obtain ⟨g1,g2,g3,g4⟩:=h2 i x hx
   have hil:i<k+1:=by rw [← h1];exact (List.getElem?_eq_some_iff.1 hx).1
   have hx2:x<n∧plusM n M p x=true:=by
    by_cases hi:i=0
    ·subst hi;simp at hx;subst hx;exact ⟨hp,hpp⟩
    ·exact g2 hi
   have hxx:plusM n M x x=true:=by
    obtain ⟨m,hm⟩:∃ m,farS n M p x=m+1:=⟨farS n M p x - 1,by omega⟩
    exact plus_trans hp (far_plus hm) hx2.2
   refine ⟨hx2.1,?_,fun y hy=>?_,fun hi=>g4 (by omega)⟩
   ·apply Classical.byContradiction;intro hlt
    have:=lf_least hl x (by omega) (by omega)
    rw [this] at hxx;cases hxx
   ·have:i+1<k+1:=by rw [← h1];exact (List.getElem?_eq_some_iff.1 hy).1
    obtain ⟨z,hz,hm⟩:=g3 (by omega)
    rw [hy] at hz;cases hz;exact hm
  ·have:=(h2 i x hi).1;have:=(h2 j x hj).1;omega
theorem cycS_nil {n:Nat} {M:Nat→Nat→Bool} (h:cycS n M=[]):∀ i,i<n→plusM n M i i=false:=by
 unfold cycS at h
 split at h
 ·rename_i hl;exact fun i hi=>lf_none hl i (by omega) hi
 ·simp [shortS] at h
theorem way_short {n:Nat} {M:Nat→Nat→Bool} (ha:∀ i,i<n→plusM n M i i=false) {k i j:Nat} (hi:i<n) (hj:j<n) (h:Way n M k i j):k≤(List.range n).countP fun x=>plusM n M i x:=by
 induction h with
 | @one i j h =>
  rw [Nat.succ_le_iff]
  exact List.countP_pos_iff.2 ⟨j,List.mem_range.2 hj,plus_sub h⟩
 | @more k i x j hx h hw ih =>
  have:=ih hx hj
  have:=countP_lt (f:=fun y=>plusM n M x y) (g:=fun y=>plusM n M i y) n x hx (fun y hy=>plus_trans hx (plus_sub h) hy) (ha x hx) (plus_sub h)
  omega
theorem no_way {n:Nat} {M:Nat→Nat→Bool} (ha:∀ i,i<n→plusM n M i i=false) {i j:Nat} (hi:i<n) (hj:j<n) (h:Way n M n i j):False:=by
 have:=way_short ha hi hj h
 have h2:=countP_lt (f:=fun y=>plusM n M i y) (g:=fun _=>true) n i hi (fun _ _=>rfl) (ha i hi) rfl
 simp at h2
 omega
theorem Way.end {n:Nat} {M:Nat→Nat→Bool} {k a i j:Nat} (h:Way n M k a i) (hi:i<n) (hm:M i j=true):Way n M (k+1) a j:=h.app hi (.one hm)
def WayTo (n:Nat) (M:Nat→Nat→Bool) (r i:Nat):Prop:=r=0∨∃ a,a<n∧Way n M r a i
structure Num (n:Nat) (M:Nat→Nat→Bool) (r p:Nat) (N:Nat→Nat):Prop where
 top:∀ i,i<n→N i≤r
 new:∀ i,i<n→p≤i→N i<r
 up:∀ a b,a<n→b<n→M a b=true→N b≠0→N a≠0∧N a<N b
 old:∀ i,i<n→N i=0∨N i=r→WayTo n M (r - 1) i
 done:∀ i,i<p→N i=0→WayTo n M r i
section
variable {n : Nat} {M : Nat → Nat → Bool} {r p : Nat} {N : Nat → Nat}
theorem Num.skip (h:Num n M r p N) (h0:N p≠0∨∃ a,a<n∧M a p=true∧(N a=0∨N a=r)) (hr:1≤r):Num n M r (p+1) N:=by
 refine ⟨h.top,fun i hi hpi=>h.new i hi (by omega),h.up,h.old,fun i hi hN=>?_⟩
 by_cases hip:i=p
 ·subst hip
  rcases h0 with h0 | ⟨a,ha,hm,h0⟩
  ·exact absurd hN h0
  ·obtain ⟨r,rfl⟩:∃ r',r=r' + 1:=⟨r - 1,by omega⟩
   rcases h.old a ha h0 with h1 | ⟨b,hb,hw⟩
   ·have:r=0:=by omega
    subst this
    exact .inr ⟨a,ha,.one hm⟩
   ·exact .inr ⟨b,hb,hw.end ha hm⟩
 ·exact h.done i (by omega) hN
theorem Num.next (h:Num n M r n N):Num n M (r+1) 0 N:=
 ⟨fun i hi=>by have:=h.top i hi;omega,fun i hi _=>by have:=h.top i hi;omega,h.up,fun i hi hN=>by
  rcases hN with hN | hN
  ·exact h.done i hi hN
  ·have:=h.top i hi;omega,fun i hi=>by omega⟩
theorem Num.all (h:Num n M (n+1) 0 N) (ha:∀ i,i<n→plusM n M i i=false) {a b:Nat} (h1:a<n) (h2:b<n) (hm:M a b=true):N a≠0∧N a<N b:=by
 have hb:N b≠0:=by
  intro h0
  rcases h.old b h2 (.inl h0) with h3 | ⟨c,hc,hw⟩
  ·omega
  ·exact no_way ha hc h2 hw
 exact h.up a b h1 h2 hm hb
end
end Go.Vc
/-
  Lists of lists in memory: a slice of slices, each owned, none in the block of the slice itself.
-/
namespace Go.Vc
open Go
def Off (v w:Value):Prop:=bh v=0∨bh w=0∨bl v≠bl w
theorem Off.symm {v w:Value} (h:Off v w):Off w v:=by unfold Off at *;omega
theorem bh_bl (v:Value):(bh v=0∧bl v=0)∨bh v=bl v+1:=by unfold bh bl;split <;> simp
structure LL (h:Heap) (v:Value) (vs:List Value) (L:List (List Value)) (lo:Nat):Prop where
 own:Holder 1 h v L.length vs lo
 at_:∀ (i:Nat) (w:Value) (l:List Value),vs[i]?=some w→L[i]?=some l→Holder 1 h w l.length l lo
 off:∀ w,w∈vs→Off w v
theorem LL.len {h:Heap} {v:Value} {vs:List Value} {L:List (List Value)} {lo:Nat} (t:LL h v vs L lo):vs.length=L.length:=by
 have:=t.own.1;omega
theorem LL.get {h:Heap} {v:Value} {vs:List Value} {L:List (List Value)} {lo:Nat} (t:LL h v vs L lo) {w:Value} (hw:w∈vs):∃ (i:Nat) (l:List Value),vs[i]?=some w∧L[i]?=some l∧Holder 1 h w l.length l lo:=by
 obtain ⟨i,hi,rfl⟩:=List.mem_iff_getElem.1 hw
 have hl:i<L.length:=by rw [← t.len];exact hi
 have h1:vs[i]?=some vs[i]:=List.getElem?_eq_getElem hi
 have h2:L[i]?=some L[i]:=List.getElem?_eq_getElem hl
 exact ⟨i,_,h1,h2,t.at_ i _ _ h1 h2⟩
theorem LL.nil {h:Heap} {lo:Nat}:LL h (.slice none 0 0) [] [] lo:=
 ⟨.none _ _ _,fun _ _ _ h=>by simp at h,fun _ h=>by simp at h⟩
theorem LL.lower {h:Heap} {v:Value} {vs:List Value} {L:List (List Value)} {lo lo':Nat} (t:LL h v vs L lo) (hl:lo'≤lo):LL h v vs L lo':=
 ⟨t.own.lower hl,fun i w l h1 h2=>(t.at_ i w l h1 h2).lower hl,t.off⟩
def Away (l r:Nat) (v:Value) (vs:List Value):Prop:=∀ w,w=v∨w∈vs→bh w≤l∨r≤bl w∨r≤l
theorem LL.fr {h h':Heap} {v:Value} {vs:List Value} {L:List (List Value)} {lo l r:Nat} (t:LL h v vs L lo) (f:Fr l r h h') (ha:Away l r v vs):LL h' v vs L lo:=
 ⟨t.own.fr f (ha v (.inl rfl)),fun i w x h1 h2=>(t.at_ i w x h1 h2).fr f (ha w (.inr (List.mem_of_getElem? h1))),t.off⟩
theorem Away.none {v:Value} {vs:List Value} {l r:Nat} (h:r≤l):Away l r v vs:=fun _ _=>.inr (.inr h)
theorem LL.below {h:Heap} {v:Value} {vs:List Value} {L:List (List Value)} {lo l r:Nat} (t:LL h v vs L lo) (hr:r≤lo):Away l r v vs:=fun w hw=>by
 rcases hw with rfl | hw
 ·have:=t.own.at_;omega
 ·obtain ⟨i,x,-,-,o⟩:=t.get hw
  have:=o.at_;omega
theorem LL.top {h:Heap} {v:Value} {vs:List Value} {L:List (List Value)} {lo:Nat} (t:LL h v vs L lo):∀ w,w=v∨w∈vs→bh w≤h.size:=fun w hw=>by
 rcases hw with rfl | hw
 ·exact t.own.top
 ·obtain ⟨i,x,-,-,o⟩:=t.get hw;exact o.top
theorem LL.above {h:Heap} {v:Value} {vs:List Value} {L:List (List Value)} {lo l r:Nat} (t:LL h v vs L lo) (hr:h.size≤l):Away l r v vs:=fun w hw=>.inl (Nat.le_trans (t.top w hw) hr)
theorem Off.away {v w:Value} (h:Off w v):bh w≤bl v∨bh v≤bl w∨bh v≤bl v:=by
 have:=bh_bl v;have:=bh_bl w;unfold Off at h;omega
theorem Off.app {h h':Heap} {v v' w:Value} {lo n:Nat} {xs:List Value} (hx:Off w v) (ht:bh w≤h.size) (h0:0<lo) (o:Holder 1 h' v' n xs lo)
  (e:bl v'=bl v∧h'.size=h.size∨bl v'=h.size∧h'.size=h.size+1∨bh v'=0∧h'=h):Off w v':=by
 have:=bh_bl w;have:=bh_bl v;have:=bh_bl v';have:=o.at_
 unfold Off at *
 rcases e with ⟨e,-⟩ | ⟨e,-⟩ | ⟨e,-⟩ <;> omega
theorem LL.push {h h':Heap} {v v' w:Value} {vs:List Value} {L:List (List Value)} {l:List Value} {lo:Nat} (t:LL h v vs L lo) (h0:0<lo) (hw:Holder 1 h w l.length l lo) (h1:Off w v)
  (o:Holder 1 h' v' (L.length+1) (vs++[w]) lo) (f:Fr (bl v) (bh v) h h') (e:bl v'=bl v∧h'.size=h.size∨bl v'=h.size∧h'.size=h.size+1∨bh v'=0∧h'=h):LL h' v' (vs++[w]) (L++[l]) lo:=by
 have key:∀ x,Off x v→bh x≤h.size→Off x v':=fun x hx ht=>by
  have:=bh_bl x;have:=bh_bl v;have:=bh_bl v'
  have:=t.own.at_;have:=t.own.top;have:=o.at_
  unfold Off at *
  rcases e with ⟨e,-⟩ | ⟨e,-⟩ | ⟨e,-⟩
  ·omega
  ·omega
  ·omega
 refine ⟨by rw [List.length_append];exact o,fun i x y hx hy=>?_,fun x hx=>?_⟩
 ·by_cases hi:i<vs.length
  ·rw [List.getElem?_append_left hi] at hx
   rw [List.getElem?_append_left (by rw [← t.len];exact hi)] at hy
   exact (t.at_ i x y hx hy).fr f (t.off x (List.mem_of_getElem? hx)).away
  ·have:=(List.getElem?_eq_some_iff.1 hx).1
   simp at this
   obtain rfl:i=vs.length:=by omega
   simp at hx;subst hx
   rw [t.len] at hy;simp at hy;subst hy
   exact hw.fr f h1.away
 ·rcases List.mem_append.1 hx with hx | hx
  ·exact key x (t.off x hx) (t.top x (.inr hx))
  ·simp at hx;subst hx;exact key x h1 hw.top
end Go.Vc
namespace Go.Vc
open Go
theorem Holder.blk {s:Nat} {h:Heap} {v:Value} {n:Nat} {xs:List Value} {lo:Nat} (w:Holder s h v n xs lo) (hn:0<n):∃ b c rest,v=.slice (some ⟨b,0,Option.none⟩) n c∧Rw h b (xs++rest)∧rest.length+n * s=c * s∧lo≤b:=by
 obtain ⟨_,⟨rfl,h0⟩ | h1⟩:=w
 ·omega
 ·exact h1
theorem Holder.set {h h':Heap} {b n c j:Nat} {xs:List Value} {x:Value} {lo:Nat} (w:Holder 1 h (.slice (some ⟨b,0,Option.none⟩) n c) n xs lo) (hj:j<n) (s:Sto h h' b j [x]):Holder 1 h' (.slice (some ⟨b,0,Option.none⟩) n c) n (xs.set j x) lo:=by
 have hl:=w.1
 obtain ⟨b',c',rest,h1,h2,h3,h4⟩:=w.blk (by omega)
 cases h1
 refine ⟨by simpa using hl,.inr ⟨b,c,rest,rfl,?_,h3,h4⟩⟩
 have:=s.row h2
 rwa [putAt_one,List.set_append_left _ _ (by omega)] at this
theorem LL.put {h h':Heap} {v w:Value} {us:List Value} {L:List (List Value)} {l:List Value} {lo i:Nat} (t:LL h v us L lo) (hi:us[i]?=some w) (o:Holder 1 h' w l.length l lo) (f:Fr (bl w) (bh w) h h')
  (hp:us.Pairwise Off):LL h' v us (L.set i l) lo:=by
 have hl:i<us.length:=(List.getElem?_eq_some_iff.1 hi).1
 have hw:=t.off w (List.mem_of_getElem? hi)
 have key:∀ j x,j≠i→us[j]?=some x→Off x w:=fun j x hj hx=>by
  obtain ⟨hjl,rfl⟩:=List.getElem?_eq_some_iff.1 hx
  obtain ⟨hil,rfl⟩:=List.getElem?_eq_some_iff.1 hi
  rw [List.pairwise_iff_getElem] at hp
  rcases Nat.lt_or_gt_of_ne hj with h | h
  ·exact hp j i hjl hil h
  ·exact (hp i j hil hjl h).symm
 refine ⟨by rw [List.length_set];exact t.own.fr f hw.symm.away,fun j x y hx hy=>?_,t.off⟩
 by_cases hj:j=i
 ·subst hj
  rw [hi] at hx;cases hx
  rw [List.getElem?_set_self (by rw [← t.len];exact hl)] at hy;cases hy
  exact o
 ·rw [List.getElem?_set_ne (fun h=>hj h.symm)] at hy
  exact (t.at_ j x y hx hy).fr f (key j x hj hx).away
def RL (h:Heap) (v:Value) (L:List (List Value)):Prop:=∃ us,Rd 1 h v L.length us∧∀ (i:Nat) (l:List Value),L[i]?=some l→∃ w,us[i]?=some w∧Rd 1 h w l.length l
theorem LL.rl {h:Heap} {v:Value} {us:List Value} {L:List (List Value)} {lo:Nat} (t:LL h v us L lo):RL h v L:=⟨us,t.own.rd,fun i l hl=>by
 have hi:i<us.length:=by rw [t.len];exact (List.getElem?_eq_some_iff.1 hl).1
 exact ⟨us[i],List.getElem?_eq_getElem hi,(t.at_ i _ _ (List.getElem?_eq_getElem hi) hl).rd⟩⟩
theorem RL.fr {h h':Heap} {v:Value} {L:List (List Value)} (t:RL h v L) (f:Fr 0 0 h h'):RL h' v L:=by
 obtain ⟨us,h1,h2⟩:=t
 exact ⟨us,h1.fr f,fun i l hl=>by obtain ⟨w,h3,h4⟩:=h2 i l hl;exact ⟨w,h3,h4.fr f⟩⟩
end Go.Vc
/-
  Graphs of events: what makes one well-formed; plain facts.
-/
namespace Go.Vc
open Go
structure Ev where
 thread:Int
 kind:Int
 loc:Int
 val:Int
 mode:Int
 deriving DecidableEq,Inhabited
def Ev.cells (e:Ev):List Value:=[.int .i64 e.thread,.int .i64 e.kind,.int .i64 e.loc,.int .u64 e.val,.int .i64 e.mode]
def evsV (l:List Ev):List Value:=l.flatMap Ev.cells
theorem evsV_cons (e:Ev) (l:List Ev):evsV (e :: l)=e.cells++evsV l:=rfl
@[simp] theorem length_evsV:∀ l:List Ev,(evsV l).length=l.length * 5
 | []=>rfl
 | e :: l=>by rw [evsV_cons,List.length_append,length_evsV l,List.length_cons,Nat.add_mul];simp [Ev.cells];omega
theorem evsV_append (l m:List Ev):evsV (l++m)=evsV l++evsV m:=by simp [evsV]
theorem evsV_get:∀ {l:List Ev} {i:Nat} {e:Ev},l[i]?=some e→∀ j,j<5→(evsV l)[i * 5+j]?=e.cells[j]?
 | [],_,_,h,_,_=>by simp at h
 | x :: l,0,e,h,j,hj=>by simp at h;subst h;rw [evsV_cons,List.getElem?_append_left (by simp [Ev.cells];omega),Nat.zero_mul,Nat.zero_add]
 | x :: l,i+1,e,h,j,hj=>by
  have:=evsV_get (l:=l) (i:=i) (e:=e) (by simpa using h) j hj
  rw [evsV_cons,List.getElem?_append_right (by simp [Ev.cells];omega)]
  rw [← this];congr 1;simp [Ev.cells];omega
theorem oc_evs:∀ l:List Ev,(evsV l).all Value.oneCell'=true
 | []=>rfl
 | e :: l=>by rw [evsV_cons,List.all_append,oc_evs l,Bool.and_true];rfl
structure Gr where
 cells:Int
 evs:List Ev
 rf:List (Int×Int)
 co:List (List Int)
 rmw:List (Int×Int)
 addr:List (Int×Int)
 data:List (Int×Int)
 ctrl:List (Int×Int)
 deriving DecidableEq,Inhabited
namespace Gr
def n (g:Gr):Nat:=g.evs.length
def ev (g:Gr) (i:Nat):Ev:=g.evs.getD i default
def first (words:Bool) (c:Nat):Ev:=⟨-1,2,(c:Int),0,if words then 11 else 1⟩
def modeOk (words:Bool) (kind mode:Int):Bool:=
 if words then kind==1&&(mode==11||mode==12||mode==16)||kind==2&&(mode==11||mode==13)||kind==3&&(mode==14||mode==15)
 else kind==1&&(mode==1||mode==2||mode==5)||kind==2&&(mode==1||mode==3||mode==5)||kind==3&&(mode==2||mode==3||mode==4||mode==5)
def evOk (g:Gr) (words:Bool) (e:Ev):Bool:=
 decide (0≤e.thread)&&decide (e.thread≤63)&&modeOk words e.kind e.mode&&(if e.kind=3 then e.loc == -1&&e.val==0 else decide (0≤e.loc)&&decide (e.loc<g.cells))
def is (g:Gr) (i kind:Int):Bool:=decide (0≤i)&&decide (i<(g.n:Int))&&(g.ev i.toNat).kind==kind
def before (g:Gr) (a b:Int):Bool:=decide (0≤a)&&decide (a<b)&&decide (b<(g.n:Int))&&decide (0≤(g.ev a.toNat).thread)&&(g.ev a.toNat).thread==(g.ev b.toNat).thread
def rfBad (g:Gr) (r k:Nat):Bool:=
 match g.rf[k]? with
 | none=>true
 | some p=>!(p.2==(r:Int))||!g.is p.1 2||!((g.ev p.1.toNat).loc==(g.ev r).loc)||!((g.ev p.1.toNat).val==(g.ev r).val)
def rfGo (g:Gr):Nat→Nat→Nat→Int
 | 0,_,k=>if k<g.rf.length then (k:Int) else -1
 | d+1,r,k=>if (g.ev r).kind=1 then (if g.rfBad r k then (k:Int) else g.rfGo d (r+1) (k+1)) else g.rfGo d (r+1) k
def rfAt (g:Gr):Int:=g.rfGo g.n 0 0
def writesOf (g:Gr) (c:Int):Nat:=g.evs.countP fun e=>e.kind==2&&e.loc==c
def coBad (g:Gr) (c:Nat) (l:List Int):Bool:=
 !(l.head? == some (c:Int))||!(l.length==g.writesOf c)||!(l.all fun w=>g.is w 2&&(g.ev w.toNat).loc==(c:Int))||!decide l.Nodup
def lists (g:Gr):Nat:=min g.co.length g.cells.toNat
def coFirst (g:Gr):Nat:=((List.range g.lists).find? fun c=>g.coBad c (g.co.getD c [])).getD g.lists
def coAt (g:Gr):Int:=if g.coFirst<g.lists∨(g.co.length:Int)≠g.cells then (g.coFirst:Int) else -1
def isNext (g:Gr) (a b:Int):Bool:=g.before a b&&(List.range' (a.toNat+1) (b.toNat - a.toNat - 1)).all fun i=>!((g.ev i).thread==(g.ev a.toNat).thread)
def rmwBad (g:Gr) (i:Nat) (p:Int×Int):Bool:=
 (decide (0<i)&&decide (p.1≤(g.rmw.getD (i - 1) default).1))||!g.is p.1 1||!g.is p.2 2||!g.isNext p.1 p.2||!((g.ev p.1.toNat).loc==(g.ev p.2.toNat).loc)
def firstBad (f:Nat→Int×Int→Bool):List (Int×Int)→Nat→Int
 | [],_=>-1
 | p :: l,i=>if f i p then (i:Int) else firstBad f l (i+1)
def rmwAt (g:Gr):Int:=firstBad g.rmwBad g.rmw 0
def depBad (g:Gr) (words:Bool) (l:List (Int×Int)) (kinds:Int→Bool) (i:Nat) (p:Int×Int):Bool:=
 (decide (0<i)&&(decide (p.1<(l.getD (i - 1) default).1)||(p.1==(l.getD (i - 1) default).1)&&decide (p.2≤(l.getD (i - 1) default).2)))||!words||!g.is p.1 1||!g.before p.1 p.2||!kinds (g.ev p.2.toNat).kind
def depAt (g:Gr) (words:Bool) (l:List (Int×Int)) (kinds:Int→Bool):Int:=firstBad (g.depBad words l kinds) l 0
def firstEv (f:Nat→Bool):Nat→Nat→Int
 | 0,_=>-1
 | d+1,i=>if f i then (i:Int) else firstEv f d (i+1)
def size (g:Gr):Bool:=decide (0≤g.cells)&&decide (g.cells≤4096)&&decide (g.cells≤(g.n:Int))&&decide (g.n≤256)
def initAt (g:Gr) (words:Bool):Int:=firstEv (fun c=>!(g.ev c==first words c)) g.cells.toNat 0
def evAt (g:Gr) (words:Bool):Int:=firstEv (fun i=>!g.evOk words (g.ev i)) (g.n - g.cells.toNat) g.cells.toNat
def check (g:Gr) (words:Bool):Int×Int:=
 if !g.size then (1,0)
 else if 0≤g.initAt words then (2,g.initAt words)
 else if 0≤g.evAt words then (3,g.evAt words)
 else if 0≤g.rfAt then (4,g.rfAt)
 else if 0≤g.coAt then (5,g.coAt)
 else if 0≤g.rmwAt then (6,g.rmwAt)
 else if 0≤g.depAt words g.addr (fun k=>k==1||k==2) then (7,g.depAt words g.addr (fun k=>k==1||k==2))
 else if 0≤g.depAt words g.data (fun k=>k==2) then (8,g.depAt words g.data (fun k=>k==2))
 else if 0≤g.depAt words g.ctrl (fun k=>k==1||k==2||k==3) then (9,g.depAt words g.ctrl (fun k=>k==1||k==2||k==3))
 else (0,0)
def good (g:Gr):Bool:=(g.check false).1==0||(g.check true).1==0
def poM (g:Gr) (a b:Nat):Bool:=g.before a b
def sameM (g:Gr) (a b:Nat):Bool:=decide (0≤(g.ev a).loc)&&(g.ev a).loc==(g.ev b).loc
def extM (g:Gr) (a b:Nat):Bool:=!((g.ev a).thread==(g.ev b).thread)
end Gr
end Go.Vc
namespace Go.Vc
open Go
structure GV where
 (e f o r a d c:Option Addr)
 (ec fc oc rc ac dc cc:Nat)
def gcells (q:GV) (g:Gr):List Value:=[.int .i64 g.cells,.slice q.e g.evs.length q.ec,.slice q.f g.rf.length q.fc,.slice q.o g.co.length q.oc,.slice q.r g.rmw.length q.rc,.slice q.a g.addr.length q.ac,.slice q.d g.data.length q.dc,.slice q.c g.ctrl.length q.cc]
structure GrFits (g:Gr):Prop where
 e:g.evs.length≤3518437208883
 f:g.rf.length≤8796093022208
 o:g.co.length≤5864062014805
 r:g.rmw.length≤8796093022208
 a:g.addr.length≤8796093022208
 d:g.data.length≤8796093022208
 c:g.ctrl.length≤8796093022208
 l:∀ l∈g.co,l.length≤17592186044416
def RLc (h:Heap) (v:Value) (L:List (List Value)):Prop:=∃ us,Rd 1 h v L.length us∧∀ (i:Nat) (l:List Value),L[i]?=some l→∃ a c,us[i]?=some (.slice a l.length c)∧l.length≤c∧Rd 1 h (.slice a l.length c) l.length l
theorem RLc.fr {h h':Heap} {v:Value} {L:List (List Value)} (t:RLc h v L) (f:Fr 0 0 h h'):RLc h' v L:=by
 obtain ⟨us,h1,h2⟩:=t
 exact ⟨us,h1.fr f,fun i l hl=>by obtain ⟨a,c,h3,h4,h5⟩:=h2 i l hl;exact ⟨a,c,h3,h4,h5.fr f⟩⟩
theorem Holder.room {s:Nat} {h:Heap} {v:Value} {n:Nat} {xs:List Value} {lo:Nat} (hs:0<s) (w:Holder s h v n xs lo):∃ a c,v=.slice a n c∧n≤c:=by
 obtain ⟨hl,⟨rfl,rfl⟩ | ⟨b,c,rest,rfl,h2,h3,h4⟩⟩:=w
 ·exact ⟨_,_,rfl,Nat.le_refl _⟩
 ·exact ⟨_,_,rfl,Nat.le_of_mul_le_mul_right (show n * s≤c * s by omega) hs⟩
theorem LL.rlc {h:Heap} {v:Value} {us:List Value} {L:List (List Value)} {lo:Nat} (t:LL h v us L lo):RLc h v L:=⟨us,t.own.rd,fun i l hl=>by
 have hi:i<us.length:=by rw [t.len];exact (List.getElem?_eq_some_iff.1 hl).1
 have o:=t.at_ i _ _ (List.getElem?_eq_getElem hi) hl
 obtain ⟨a,c,e,hc⟩:=o.room (by omega)
 refine ⟨a,c,?_,hc,e▸o.rd⟩
 rw [List.getElem?_eq_getElem hi,e]⟩
theorem rlc_at {h:Heap} {q:Option Addr} {n c:Nat} {L:List (List Int)} (t:RLc h (.slice q n c) (L.map intsV)):∀ i,i<L.length→∃ ob oo,q=some ⟨ob,oo,none⟩∧∃ la lc,(L.getD i []).length≤lc∧∀ h',Fr 0 0 h h' →
  hcell h' ob (oo+i)=some (.slice la (L.getD i []).length lc)∧Rd 1 h' (.slice la (L.getD i []).length lc) (L.getD i []).length (intsV (L.getD i [])):=by
 obtain ⟨us,h1,h2⟩:=t
 intro i hi
 have hl:(L.map intsV)[i]?=some (intsV (L.getD i [])):=by simp [hi]
 obtain ⟨la,lc,hw,hc,hr⟩:=h2 i _ hl
 rw [length_intsV] at hr hw hc
 obtain ⟨hlen,a,c',e1,e2⟩:=h1
 cases e1
 rcases e2 with e2 | ⟨ob,oo,rfl,hcell⟩
 ·rw [List.length_map] at e2;omega
 ·exact ⟨ob,oo,rfl,la,lc,hc,fun h' f=>⟨f.keep (hcell i _ hw) (by omega),hr.fr f⟩⟩
structure GrAt (h:Heap) (q:GV) (g:Gr):Prop where
 e:Rd 5 h (.slice q.e g.evs.length q.ec) g.evs.length (evsV g.evs)
 f:Rd 2 h (.slice q.f g.rf.length q.fc) g.rf.length (pairsV g.rf)
 o:RL h (.slice q.o g.co.length q.oc) (g.co.map intsV)
 r:Rd 2 h (.slice q.r g.rmw.length q.rc) g.rmw.length (pairsV g.rmw)
 a:Rd 2 h (.slice q.a g.addr.length q.ac) g.addr.length (pairsV g.addr)
 d:Rd 2 h (.slice q.d g.data.length q.dc) g.data.length (pairsV g.data)
 c:Rd 2 h (.slice q.c g.ctrl.length q.cc) g.ctrl.length (pairsV g.ctrl)
 fits:GrFits g
 cap:g.co.length≤q.oc
 l:RLc h (.slice q.o g.co.length q.oc) (g.co.map intsV)
theorem GrAt.fr {h h':Heap} {q:GV} {g:Gr} (t:GrAt h q g) (f:Fr 0 0 h h'):GrAt h' q g:=
 ⟨t.e.fr f,t.f.fr f,t.o.fr f,t.r.fr f,t.a.fr f,t.d.fr f,t.c.fr f,t.fits,t.cap,t.l.fr f⟩
theorem GrAt.ext {B:Nat} {h h':Heap} {q:GV} {g:Gr} (t:GrAt h q g) (x:Ext B h h'):GrAt h' q g:=by
 refine ⟨x.rd t.e,x.rd t.f,?_,x.rd t.r,x.rd t.a,x.rd t.d,x.rd t.c,t.fits,t.cap,?_⟩
 ·obtain ⟨us,h1,h2⟩:=t.o
  exact ⟨us,x.rd h1,fun i l hl=>by obtain ⟨w,h3,h4⟩:=h2 i l hl;exact ⟨w,h3,x.rd h4⟩⟩
 ·obtain ⟨us,h1,h2⟩:=t.l
  exact ⟨us,x.rd h1,fun i l hl=>by obtain ⟨a,c,h3,h4,h5⟩:=h2 i l hl;exact ⟨a,c,h3,h4,x.rd h5⟩⟩
theorem Gr.ev_get {g:Gr} {i:Nat} (hi:i<g.n):g.evs[i]?=some (g.ev i):=by
 unfold Gr.ev Gr.n at *;simp [hi]
theorem GrAt.evs {h:Heap} {q:GV} {g:Gr} (t:GrAt h q g) (hn:0<g.n):∃ b o,q.e=some ⟨b,o,none⟩∧∀ h',Fr 0 0 h h'→∀ i,i<g.n →
  hcell h' b (o+i * 5)=some (.int .i64 (g.ev i).thread)∧hcell h' b (o+i * 5+1)=some (.int .i64 (g.ev i).kind)∧hcell h' b (o+i * 5+2)=some (.int .i64 (g.ev i).loc) ∧
  hcell h' b (o+i * 5+3)=some (.int .u64 (g.ev i).val)∧hcell h' b (o+i * 5+4)=some (.int .i64 (g.ev i).mode):=by
 obtain ⟨hl,a,c,h1,h2⟩:=t.e
 cases h1
 rcases h2 with h2 | ⟨b,o,h3,h4⟩
 ·unfold Gr.n at hn;omega
 ·refine ⟨b,o,h3,fun h' f i hi=>?_⟩
  have h4:∀ (j:Nat) x,(evsV g.evs)[j]?=some x→hcell h' b (o+j)=some x:=fun j x hj=>f.keep (h4 j x hj) (by omega)
  have key:=evsV_get (Gr.ev_get hi)
  refine ⟨?_,?_,?_,?_,?_⟩
  ·exact h4 _ _ (by have:=key 0 (by omega);rw [Nat.add_zero] at this;rw [this];rfl)
  ·rw [Nat.add_assoc];exact h4 _ _ (by rw [key 1 (by omega)];rfl)
  ·rw [Nat.add_assoc];exact h4 _ _ (by rw [key 2 (by omega)];rfl)
  ·rw [Nat.add_assoc];exact h4 _ _ (by rw [key 3 (by omega)];rfl)
  ·rw [Nat.add_assoc];exact h4 _ _ (by rw [key 4 (by omega)];rfl)
theorem GrAt.ev {h:Heap} {q:GV} {g:Gr} (t:GrAt h q g) (hn:0<g.n):∃ b o,q.e=some ⟨b,o,none⟩∧∀ i,i<g.n →
  hcell h b (o+i * 5)=some (.int .i64 (g.ev i).thread)∧hcell h b (o+i * 5+1)=some (.int .i64 (g.ev i).kind)∧hcell h b (o+i * 5+2)=some (.int .i64 (g.ev i).loc) ∧
  hcell h b (o+i * 5+3)=some (.int .u64 (g.ev i).val)∧hcell h b (o+i * 5+4)=some (.int .i64 (g.ev i).mode):=by
 obtain ⟨hl,a,c,h1,h2⟩:=t.e
 cases h1
 rcases h2 with h2 | ⟨b,o,h3,h4⟩
 ·unfold Gr.n at hn;omega
 ·refine ⟨b,o,h3,fun i hi=>?_⟩
  have key:=evsV_get (Gr.ev_get hi)
  refine ⟨?_,?_,?_,?_,?_⟩
  ·exact h4 _ _ (by have:=key 0 (by omega);rw [Nat.add_zero] at this;rw [this];rfl)
  ·rw [Nat.add_assoc];exact h4 _ _ (by rw [key 1 (by omega)];rfl)
  ·rw [Nat.add_assoc];exact h4 _ _ (by rw [key 2 (by omega)];rfl)
  ·rw [Nat.add_assoc];exact h4 _ _ (by rw [key 3 (by omega)];rfl)
  ·rw [Nat.add_assoc];exact h4 _ _ (by rw [key 4 (by omega)];rfl)
theorem Rd.pairsAt {h:Heap} {a:Option Addr} {c:Nat} {l:List (Int×Int)} (w:Rd 2 h (.slice a l.length c) l.length (pairsV l)) (hn:0<l.length):∃ b o,a=some ⟨b,o,none⟩∧∀ h',Fr 0 0 h h'→∀ (i:Nat) (p:Int×Int),l[i]?=some p →
  hcell h' b (o+i * 2)=some (.int .i64 p.1)∧hcell h' b (o+i * 2+1)=some (.int .i64 p.2):=by
 obtain ⟨hl,a,c,h1,h2⟩:=w
 cases h1
 rcases h2 with h2 | ⟨b,o,h3,h4⟩
 ·omega
 ·refine ⟨b,o,h3,fun h' f i p hp=>?_⟩
  have h4:∀ (j:Nat) x,(pairsV l)[j]?=some x→hcell h' b (o+j)=some x:=fun j x hj=>f.keep (h4 j x hj) (by omega)
  obtain ⟨g1,g2⟩:=pairsV_get l i p hp
  exact ⟨h4 _ _ g1,by rw [Nat.add_assoc];exact h4 _ _ g2⟩
theorem Rd.of_new {s n b:Nat} {h h':Heap} {xs:List Value} (w:New h h' b xs) (hl:xs.length=n * s):Rd s h' (.slice (some ⟨b,0,none⟩) n n) n xs:=
 ⟨hl,_,_,rfl,.inr ⟨b,0,rfl,fun j x hj=>by rw [w.row.cell,Nat.zero_add,hj]⟩⟩
theorem k_5 (h:Heap) (b o:Nat) (K:List Value→Prop):withC h b o 5 K=withV (hcell h b o) fun v0=>withV (hcell h b (o+1)) fun v1=>withV (hcell h b (o+2)) fun v2=>withV (hcell h b (o+3)) fun v3=>withV (hcell h b (o+4)) fun v4=>K [v0,v1,v2,v3,v4]:=(rfl)
theorem k_8 (h:Heap) (b o:Nat) (K:List Value→Prop):withC h b o 8 K=withV (hcell h b o) fun v0=>withV (hcell h b (o+1)) fun v1=>withV (hcell h b (o+2)) fun v2=>withV (hcell h b (o+3)) fun v3=>withV (hcell h b (o+4)) fun v4=>withV (hcell h b (o+5)) fun v5=>withV (hcell h b (o+6)) fun v6=>withV (hcell h b (o+7)) fun v7=>K [v0,v1,v2,v3,v4,v5,v6,v7]:=(rfl)
theorem wf_nil (j:Nat):wfind [] j=[]:=(rfl)
theorem rdAtN_5 (b o:Nat) (v0 v1 v2 v3 v4:Value):rdAtN (some (.pointer (some ⟨b,o,none⟩))) [v0,v1,v2,v3,v4]=[(b,o,v0),(b,o+1,v1),(b,o+2,v2),(b,o+3,v3),(b,o+4,v4)]:=(rfl)
theorem rdAtN_8 (b o:Nat) (v0 v1 v2 v3 v4 v5 v6 v7:Value):rdAtN (some (.pointer (some ⟨b,o,none⟩))) [v0,v1,v2,v3,v4,v5,v6,v7]=[(b,o,v0),(b,o+1,v1),(b,o+2,v2),(b,o+3,v3),(b,o+4,v4),(b,o+5,v5),(b,o+6,v6),(b,o+7,v7)]:=(rfl)
attribute [go_sem] k_5 k_8 wf_nil rdAtN_5 rdAtN_8
theorem MapF.congr {h:Heap} {r:Nat} {f f':Int→Option Value} (w:MapF h r f) (e:∀ x,f x=f' x):MapF h r f':=by obtain ⟨m,hm,hn,h1⟩:=w;exact ⟨m,hm,hn,fun k=>(h1 k).trans (e k)⟩
theorem Ext.mapF {B:Nat} {h h':Heap} (x:Ext B h h') {r:Nat} {f:Int→Option Value} (w:MapF h r f):MapF h' r f:=by
 obtain ⟨m,hm,h1⟩:=w;exact ⟨m,x.old r _ hm (.inr rfl),h1⟩
end Go.Vc
/-
  Several of the program's relations in memory, apart from each other.
-/
namespace Go.Vc
open Go
structure Der (h:Heap) (A B:Nat→Nat) (p:Nat→Value) (n:Nat) (M:Nat→Nat→Nat→Bool) (m:Nat):Prop where
 at_:∀ k,k<m→ProgAt h (A k) (B k) (p k) n (M k)
 off:∀ k l,k<m→l<m→k≠l→B k≤A l∨B l≤A k
section
variable {h h' : Heap} {A B : Nat → Nat} {p : Nat → Value} {n m : Nat} {M M' : Nat → Nat → Nat → Bool} {l r : Nat}
theorem Der.fr (t:Der h A B p n M m) (f:Fr l r h h') (hd:∀ k,k<m→B k≤l∨r≤A k∨r≤l):Der h' A B p n M m:=⟨fun k hk=>(t.at_ k hk).fr f (hd k hk),t.off⟩
theorem Der.congr (t:Der h A B p n M m) (e:∀ k,k<m→∀ i j,i<n→j<n→M k i j=M' k i j):Der h A B p n M' m:=⟨fun k hk=>(t.at_ k hk).congr fun i j hi hj=>e k hk i j hi hj,t.off⟩
theorem Der.put {k:Nat} {N:Nat→Nat→Bool} (t:Der h A B p n M m) (hk:k<m) (f:Fr (A k) (B k) h h') (q:ProgAt h' (A k) (B k) (p k) n N):Der h' A B p n (fun l=>if l=k then N else M l) m:=by
 refine ⟨fun l hl=>?_,t.off⟩
 by_cases hlk:l=k
 ·subst hlk;simp only [if_true];exact q
 ·simp only [if_neg hlk]
  have:=t.off l k hl hk hlk
  exact (t.at_ l hl).fr f (by omega)
end
structure FrX (S:Nat→Prop) (h h':Heap):Prop where
 size:h.size≤h'.size
 old:∀ b,b<h.size→¬ S b→h'[b]?=h[b]?
def InR (A B:Nat→Nat) (m x:Nat):Prop:=∃ k,k<m∧A k≤x∧x<B k
section
variable {S : Nat → Prop} {h h' h'' : Heap} {l r : Nat}
theorem FrX.refl (S:Nat→Prop) (h:Heap):FrX S h h:=⟨Nat.le_refl _,fun _ _ _=>rfl⟩
theorem FrX.trans (a:FrX S h h') (b:FrX S h' h''):FrX S h h'':=⟨Nat.le_trans a.size b.size,fun x hx hc=>(b.old x (Nat.lt_of_lt_of_le hx a.size) hc).trans (a.old x hx hc)⟩
theorem FrX.of (f:Fr l r h h') (hs:∀ x,l≤x→x<r→S x):FrX S h h':=⟨f.size,fun x hx hc=>f.old x hx (by
 rcases Nat.lt_or_ge x l with h | h
 ·exact .inl h
 ·rcases Nat.lt_or_ge x r with h' | h'
  ·exact absurd (hs x h h') hc
  ·exact .inr h')⟩
theorem FrX.step (a:FrX S h h') (f:Fr l r h' h'') (hs:∀ x,l≤x→x<r→S x∨h.size≤x):FrX S h h'':=⟨Nat.le_trans a.size f.size,fun x hx hc=>(f.old x (Nat.lt_of_lt_of_le hx a.size) (by
 rcases Nat.lt_or_ge x l with h | h
 ·exact .inl h
 ·rcases Nat.lt_or_ge x r with h' | h'
  ·rcases hs x h h' with h | h
   ·exact absurd h hc
   ·omega
  ·exact .inr h')).trans (a.old x hx hc)⟩
theorem FrX.rw {b:Nat} {c:List Value} (a:FrX S h h') (w:Rw h b c) (hb:¬ S b):Rw h' b c:=by
 have:=w.lt
 obtain ⟨t,w⟩:=w;exact ⟨t,(a.old b this hb).trans w⟩
theorem FrX.holder {s:Nat} {v:Value} {n:Nat} {xs:List Value} {lo:Nat} (a:FrX S h h') (w:Holder s h v n xs lo) (hb:∀ x,lo≤x→¬ S x):Holder s h' v n xs lo:=by
 obtain ⟨hl,h1 | ⟨b,c,rest,rfl,h2,h3,h4⟩⟩:=w
 ·exact ⟨hl,.inl h1⟩
 ·exact ⟨hl,.inr ⟨b,c,rest,rfl,a.rw h2 (hb b h4),h3,h4⟩⟩
theorem FrX.fresh {h0:Heap} (p:Fr 0 0 h0 h) (a:FrX S h h') (hs:∀ x,S x→h0.size≤x):Fr 0 0 h0 h':=
 ⟨Nat.le_trans p.size a.size,fun x hx hc=>(a.old x (Nat.lt_of_lt_of_le hx p.size) (fun h=>by have:=hs x h;omega)).trans (p.old x hx hc)⟩
end
theorem Sep.at_ {V:Nat→Out} {lo hi:Nat} {l:List FI} {L:List Nat} (s:Sep V lo hi l) (hL:l.map (fun f=>f.g.idx)=L):(∀ i∈L,lo≤(V i).2.1∧(V i).2.1≤(V i).2.2∧(V i).2.2≤hi)∧∀ i∈L,∀ j∈L,i≠j→(V i).2.2≤(V j).2.1∨(V j).2.2≤(V i).2.1:=by
 subst hL
 constructor
 ·intro i hi
  obtain ⟨f,hf,rfl⟩:=List.mem_map.1 hi
  exact s.1 f hf
 ·intro i hi j hj hij
  obtain ⟨f,hf,rfl⟩:=List.mem_map.1 hi
  obtain ⟨f',hf',rfl⟩:=List.mem_map.1 hj
  exact s.2 f hf f' hf' hij
end Go.Vc
/-
  From a contract to a row: what a law's call leaves; how arguments are read.
-/
namespace Go.Vc
open Go Go.RowKit Go.ChangeShapes Go.WideShapes Go.ChangeAt Go.Deep
section
variable {H : Type} {enc : TypeId × Value → H} {P : Program}
theorem trodAll_below (hl:laidOutB P=true) {W W':World} (hb:Below W.heap.size W W'):∀ {ts:List TypeId} {vs:List Value} {ds:List (DataW H)} {ps:List MemPlace},
  ts.all (fun t=>P.readableRec t&&decide (t<P.types.size))=true→DataW.TrodAll enc P W 0 (fun _=>true) true ts vs ds ps→DataW.TrodAll enc P W' 0 (fun b=>decide (b<W.heap.size)) true ts vs ds ps
 | [],_,_,_,_,h=>by
  obtain ⟨rfl,rfl,rfl⟩:=trodAll_nil h
  exact rfl
 | t :: ts,_,_,_,hr,h=>by
  have hlt:=h.lt
  obtain ⟨v,vs,d,ds,p,q,rfl,rfl,rfl,h1,h2⟩:=trodAll_cons h
  simp only [List.all_cons,Bool.and_eq_true,decide_eq_true_eq] at hr
  exact ⟨p,q,Below.trod hl hr.1.1 hr.1.2 h1 hb (fun x hx=>hlt x (List.mem_append_left _ hx)),trodAll_below hl hb hr.2 h2,rfl⟩
theorem law_post {f:Func} {s:ChangeSpec} {W W':World} {args:Array Value} {ds gs:List (DataW H)} {before:List MemPlace} {tb:TypeId}
  (hl:laidOutB P=true) (hp:f.params.toList.all (fun t=>P.readableRec t&&decide (t<P.types.size))=true) (hv:s.vars=[])
  (hrt:f.resultTypes = #[tb]) (htb:P.underlying tb=some .bool) (hW:DataW.Whole enc P f.params.toList s.vars false W args.toList ds gs before)
  (hb:Below W.heap.size W W') (hfn:s.fn H (ds++gs)={ results:=[.lit (.bool true)],args:=ds }):s.post enc P f false true false false W args (.bool true) W':=by
 have hW0:=hW
 obtain ⟨p,q,hA,hV,rfl,hz,hn⟩:=hW0
 rw [hv] at hV
 obtain ⟨rfl,rfl⟩:=trodVars_none hV
 refine ⟨ds,[],_,[],p,[],hW,?_,?_,?_,?_,fun h=>by cases h⟩
 ·rw [hfn,hrt];exact trodAll_cons_mk (shut_bool htb true) trodAll_mk0
 ·rw [hfn];exact trodAll_below hl hb hp hA
 ·rw [hfn,hv];exact rfl
 ·refine World.keptBut_mono (fun p hp=>⟨hp,?_⟩) (hb.frame (·∈p++[]))
  rw [List.append_nil] at hp
  exact .inr (.inl hp)
theorem below_of {w w':World} (hf:Fr 0 0 w.heap w'.heap) (hl:Like none w w'):Below w.heap.size w w':=
 ⟨hl.os,hl.tape,hl.output,hl.size,fun k hk=>hf.old k hk (.inr (Nat.zero_le _))⟩
theorem cell?_plain {w:World} {a:Addr} {v:Value} (h:w.cell? a=some v):a.spot=none:=by
 unfold World.cell? at h
 split at h
 ·split at h
  ·cases h
  ·rename_i hs;simpa using hs
 ·cases h
theorem addr_plain {a:Addr} (h:a.spot=none):a=⟨a.block,a.off,none⟩:=by cases a;simp_all
theorem cell?_add {w:World} {a:Addr} (ha:a.spot=none) (j:Nat):w.cell? (a.add j)=hcell w.heap a.block (a.off+j):=by
 rw [← cell?_heap]
 unfold Addr.add
 split
 ·rename_i h;subst h;rw [Nat.add_zero,← addr_plain ha]
 ·rw [← ha]
theorem rd_of {w:World} {s n c:Nat} {a:Addr} {xs:List Value} (hs:0<s) (hl:xs.length=n * s) (hc:∀ j,j<n * s→∃ v,xs[j]?=some v∧w.cell? (a.add j)=some v):Rd s w.heap (.slice (some a) n c) n xs:=by
 refine ⟨hl,_,_,rfl,?_⟩
 rcases Nat.eq_zero_or_pos n with h0 | h0
 ·exact .inl h0
 ·have hp:0<n * s:=Nat.mul_pos h0 hs
  obtain ⟨v,_,hv⟩:=hc 0 hp
  have ha:a.spot=none:=cell?_plain (w:=w) (a:=a) (by simpa [Addr.add] using hv)
  refine .inr ⟨a.block,a.off,by rw [← addr_plain ha],fun j x hj=>?_⟩
  obtain ⟨v,h1,h2⟩:=hc j (by have:=(List.getElem?_eq_some_iff.1 hj).1;omega)
  rw [hj] at h1;cases h1
  rw [← cell?_add ha];exact h2
variable {w : World} {base : Nat} {held : Bool}
end
end Go.Vc
namespace Go.Proofs.Tst
open Go Go.Vc
def clampN (n:Int):Nat:=min n.toNat 256
end Go.Proofs.Tst
namespace Go.Proofs.Tst
open Go Go.Vc
def inR (n a:Int):Bool:=decide (0≤a∧a<n)
def ofM (n:Nat) (l:List (Int×Int)) (i j:Nat):Bool:=l.any fun p=>inR n p.1&&inR n p.2&&p.1==i&&p.2==j
theorem ofM_take {n:Nat} {l:List (Int×Int)} {i:Nat} {p:Int×Int} (hp:l[i]?=some p) (x y:Nat):ofM n (l.take (i+1)) x y=(ofM n (l.take i) x y||(inR n p.1&&inR n p.2&&p.1==x&&p.2==y)):=by
 simp only [ofM,List.take_add_one,hp,Option.toList_some,List.any_append,List.any_cons,List.any_nil,Bool.or_false]
end Go.Proofs.Tst
namespace Go.Proofs.Tst
open Go Go.Vc
def freeB (n:Nat) (M:Nat→Nat→Bool) (D:Nat→Bool) (p:Nat):Bool:=!D p&&(List.range n).all fun a=>!M a p||D a
theorem freeB_true {n:Nat} {M:Nat→Nat→Bool} {D:Nat→Bool} {p:Nat}:freeB n M D p=true↔D p=false∧∀ a,a<n→M a p=true→D a=true:=by
 simp only [freeB,Bool.and_eq_true,Bool.not_eq_true',List.all_eq_true,List.mem_range,Bool.or_eq_true]
 refine and_congr_right fun _=>forall_congr' fun a=>forall_congr' fun _=>?_
 cases M a p <;> simp
end Go.Proofs.Tst
namespace Go.Proofs.Tst
open Go Go.Vc
def LinP (n:Nat) (M:Nat→Nat→Bool) (l:List Int):Prop:=
 l.length=n∧(∀ x∈l,0≤x∧x<(n:Int))∧l.Nodup∧∀ a,a<n→∀ b,b<n→M a b=true→l.idxOf (a:Int)<l.idxOf (b:Int)
instance (n:Nat) (M:Nat→Nat→Bool) (l:List Int):Decidable (LinP n M l):=by unfold LinP;infer_instance
theorem nodup_le:∀ {l m:List Int},l.Nodup→(∀ x∈l,x∈m)→l.length≤m.length
 | [],m,_,_=>by simp
 | x :: l,m,hd,hs=>by
  have hx:=hs x (by simp)
  have hd':=List.nodup_cons.1 hd
  have:=nodup_le (m:=m.erase x) hd'.2 fun y hy=>(List.mem_erase_of_ne (by rintro rfl;exact hd'.1 hy)).2 (hs y (by simp [hy]))
  rw [List.length_erase_of_mem hx] at this
  have:=List.length_pos_of_mem hx
  simp;omega
end Go.Proofs.Tst
namespace Go.Proofs.Tst
open Go Go.Vc
theorem rel_inside {n:Nat} {M:Nat→Nat→Bool} {p:Value} {lo hi:Nat} {h:Heap} (hr:ProgAt h lo hi p n M) (a b:Int) :
  Con Tryd.prog 119 #[p,.int .i64 a,.int .i64 b] h fun v h'=>h'=h∧v=.bool (inR n a&&inR n b):=by
 refine con_q124 ?_
 obtain ⟨hn,pb,rb,R,W,rfl,t⟩:=hr
 have hI:∀ x:Int,0≤x→x<(n:Int)→inR n x=true:=fun x h1 h2=>by simp [inR,h1,h2]
 by_cases h1:a≥0
 ·by_cases h2:a<(n:Int)
  ·by_cases h3:b≥0
   ·simp -dsimp only [go_sem,h1,h2,h3,t.ptr.cell,decide_true]
    simp [inR,h1,h2,h3]
    try exact fun _=>h1
   ·simp -dsimp only [go_sem,h1,h2,h3,t.ptr.cell,decide_true,decide_false]
    simp [inR,h1,h2];omega
  ·simp -dsimp only [go_sem,h1,h2,t.ptr.cell,decide_true,decide_false]
   simp [inR];omega
 ·simp -dsimp only [go_sem,h1,decide_false]
  simp [inR];omega
theorem row_has {W:Nat→Nat} {w p:Nat} {xv:Value} {h:Heap} (hx:Rd 1 h xv w (wrow w W)) (hp:p / 64<w) (hW:W (p / 64)<2 ^ 64) (hp6:p≤65536) :
  Con Tryd.prog 111 #[xv,.int .i64 p] h fun v h'=>h'=h∧v=.bool ((W (p / 64)).testBit (p % 64)):=by
 refine con_q130 ?_
 obtain ⟨xa,xc,rfl⟩:=hx.is
 simp -dsimp only [go_sem]
 rw [tdiv64]
 refine Chk_intro (by decide) ?_
 rw [wrap64 (by omega) (by omega)]
 simp -dsimp only [go_sem]
 refine Chk_intro (by omega) (hx.idx (by omega) fun b o c=>?_)
 have c:=c _ _ (wrow_get hp)
 simp -dsimp only [go_sem,c]
 rw [tmod64]
 refine Chk_intro (by decide) ?_
 simp -dsimp only [go_sem]
 have e64:((W (p / 64):Nat):Int).fdiv (2 ^ min (p % 64) 64)=((W (p / 64) / 2 ^ (p % 64):Nat):Int):=shr64 (W (p / 64)) (p % 64) (by omega)
 rw [e64]
 have hd:W (p / 64) / 2 ^ (p % 64)<2 ^ 64:=Nat.lt_of_le_of_lt (Nat.div_le_self _ _) hW
 have ha:IntKind.u64.wrap ((BitVec.ofInt IntKind.u64.bits ((W (p / 64) / 2 ^ (p % 64):Nat):Int) &&& BitVec.ofInt IntKind.u64.bits 1).toNat:Int)=((W (p / 64) / 2 ^ (p % 64) &&& 1:Nat):Int):=and64 (b:=1) hd (by decide)
 rw [ha,bit_has hW (by omega)]
theorem ptab_rd {h:Heap} {lo hi pb rb n:Nat} {R:Nat→Nat} {W:Nat→Nat→Nat} {M:Nat→Nat→Bool} (t:PTab h lo hi pb rb n R W M) {i:Nat} (hi':i<n):Rd 1 h (.slice (some ⟨R i,0,none⟩) (nw n) (nw n)) (nw n) (wrow (nw n) (W i)):=
 (t.row i hi').1.rd (by simp)
def putM (n:Nat) (M:Nat→Nat→Bool) (a b:Int) (put:Bool) (i j:Nat):Bool:=if inR n a&&inR n b&&a==i&&b==j then put else M i j
theorem rel_PutT {n:Nat} {M:Nat→Nat→Bool} {lo hi pb rb:Nat} {R:Nat→Nat} {W:Nat→Nat→Nat} {h:Heap} (hn:n≤256) (t:PTab h lo hi pb rb n R W M) (a b:Int) (put:Bool) :
  Con Tryd.prog 95 #[.pointer (some ⟨pb,0,none⟩),.int .i64 a,.int .i64 b,.bool put] h fun v h'=>Fr lo hi h h'∧h'.size=h.size∧v=.bool (inR n a&&inR n b&&(M a.toNat b.toNat != put))∧∃ W',PTab h' lo hi pb rb n R W' (putM n M a b put):=by
 refine con_q123 ?_
 have hr0:ProgAt h lo hi (.pointer (some ⟨pb,0,none⟩)) n M:=⟨hn,pb,rb,R,W,rfl,t⟩
 simp -dsimp only [go_sem]
 refine call_of (rel_inside hr0 a b) ?_
 rintro v h1 ⟨rfl,rfl⟩
 simp -dsimp only [go_sem]
 by_cases hin:(inR n a&&inR n b)=true
 ·have hin':=hin
  simp only [Bool.and_eq_true,inR,decide_eq_true_eq] at hin'
  obtain ⟨x,rfl⟩:∃ x:Nat,a=x:=⟨a.toNat,by omega⟩
  obtain ⟨y,rfl⟩:∃ y:Nat,b=y:=⟨b.toNat,by omega⟩
  have hx:x<n:=by omega
  have hy:y<n:=by omega
  obtain ⟨hrw,_,_,hnp,hnr,hbits⟩:=t.row x hx
  simp -dsimp only [go_sem,hin,Bool.not_true,t.ptr.cell]
  refine Chk_intro (by omega) ?_
  simp -dsimp only [go_sem,t.rowsGet hx,hin,Bool.not_true]
  refine call_of (row_has (p:=y) (ptab_rd t hx) (by unfold nw;omega) (hbits _).1 (by omega)) ?_
  rintro v h2 ⟨rfl,rfl⟩
  rw [hbits.get hy]
  simp -dsimp only [go_sem,hin,Bool.not_true]
  by_cases hM:M x y=put
  ·simp -dsimp only [go_sem,hin,Bool.not_true,hM,BEq.rfl]
   refine ⟨.refl _ _ _,by simp [hM],W,t.congr fun i j hi hj=>?_⟩
   simp only [putM]
   split
   ·rename_i hc;simp at hc;obtain ⟨⟨_,e1⟩,e2⟩:=hc;have e1:x=i:=by omega
    have e2:y=j:=by omega
    subst e1 e2;exact hM
   ·rfl
  ·have hMb:(M x y==put)=false:=by simpa using hM
   simp -dsimp only [go_sem,hin,Bool.not_true,hMb,t.ptr.cell]
   refine Chk_intro (by omega) ?_
   simp -dsimp only [go_sem,t.rowsGet hx]
   rw [tdiv64]
   refine Chk_intro (by decide) ?_
   rw [wrap64 (by omega) (by omega)]
   have hyw:y / 64<nw n:=by unfold nw;omega
   simp -dsimp only [go_sem]
   refine Chk_intro (by omega) ?_
   simp -dsimp only [go_sem,hrw.cell,wrow_get hyw]
   rw [tmod64]
   refine Chk_intro (by decide) ?_
   simp -dsimp only [go_sem]
   have e64:IntKind.u64.wrap (1 * 2 ^ min (y % 64) 64)=((2 ^ (y % 64):Nat):Int):=shl64 (y % 64) (by omega)
   first | rw [e64] | rw [shl64 _ (by omega)]
   rw [xor64 (hbits _).1 (Nat.pow_lt_pow_right (by decide) (by omega))]
   refine Chk_intro (by omega) ?_
   simp -dsimp only [go_sem]
   refine Chk_intro (hrw.wr (by simp;omega)) fun h2 s2=>?_
   simp -dsimp only [go_sem]
   refine ⟨s2.fr.mono (by omega),s2.size,by have:=hin;simp at this;simp [this,hM],_,PTab.congr (M:=fun i=>if i=x then fun q=>if q=y then !M x y else M x q else M i) (t.upd hx s2 wrow_set (hbits.flip hy)) fun i j hi hj=>?_⟩
   have hp:put=!M x y:=by cases put <;> cases hm:M x y <;> simp_all
   simp only [putM,hin,hp]
   by_cases hix:i=x
   ·subst hix
    by_cases hjy:j=y
    ·subst hjy;simp
    ·have:((y:Int)==(j:Int))=false:=by simp;omega
     simp [hjy,this]
   ·have:((x:Int)==(i:Int))=false:=by simp;omega
    simp [hix,this]
 ·have hin:(inR n a&&inR n b)=false:=by simpa using hin
  simp -dsimp only [go_sem,hin,Bool.not_false]
  exact ⟨.refl _ _ _,by simp,W,t.congr fun i j hi hj=>by simp [putM,hin]⟩
theorem rel_Put {n:Nat} {M:Nat→Nat→Bool} {p:Value} {lo hi:Nat} {h:Heap} (hr:ProgAt h lo hi p n M) (a b:Int) (put:Bool) :
  Con Tryd.prog 95 #[p,.int .i64 a,.int .i64 b,.bool put] h fun v h'=>Fr lo hi h h'∧h'.size=h.size∧v=.bool (inR n a&&inR n b&&(M a.toNat b.toNat != put))∧ProgAt h' lo hi p n (putM n M a b put):=by
 obtain ⟨hn,pb,rb,R,W,rfl,t⟩:=hr
 exact (rel_PutT hn t a b put).mono fun v h' ⟨h1,h2,h3,W',h4⟩=>⟨h1,h2,h3,hn,pb,rb,R,W',rfl,h4⟩
end Go.Proofs.Tst
namespace Go.Proofs.Tst
open Go Go.Vc
theorem ite_max (n:Int):(if (if (256:Int)<n then 256 else n) > 0 then (if (256:Int)<n then 256 else n) else 0)=(clampN n:Int):=by
 unfold clampN;split <;> split <;> omega
def rowsTo (k:Nat) (R:Nat→Nat) (i:Nat):List Value:=(List.range k).map fun (j:Nat)=>if j<i then Value.slice (some ⟨R j,0,none⟩) (nw k) (nw k) else Value.slice none 0 0
theorem length_rowsTo (k:Nat) (R:Nat→Nat) (i:Nat):(rowsTo k R i).length=k:=by simp [rowsTo]
theorem rowsTo_zero (k:Nat) (R:Nat→Nat):List.replicate k (Value.slice none 0 0)=rowsTo k R 0:=by
 apply List.ext_getElem?;intro j
 by_cases hj:j<k
 ·simp [rowsTo,hj]
 ·simp [rowsTo,hj]
theorem rowsTo_set (k:Nat) (R:Nat→Nat) (i b:Nat) (hi:i<k):(rowsTo k R i).set i (.slice (some ⟨b,0,none⟩) (nw k) (nw k))=rowsTo k (fun j=>if j=i then b else R j) (i+1):=by
 apply List.ext_getElem?;intro j
 by_cases hj:j<k
 ·rw [List.getElem?_set]
  by_cases hij:i=j
  ·subst hij;simp [rowsTo,hj]
  ·have e1:(j<i+1)=(j<i):=by simp;omega
   simp [rowsTo,hij,hj,Ne.symm hij,e1]
 ·rw [List.getElem?_eq_none (by simp [rowsTo];omega),List.getElem?_eq_none (by simp [rowsTo];omega)]
theorem rel_New (n:Int) (h:Heap):Con Tryd.prog 56 #[.int .i64 n] h fun v h'=>Fr 0 0 h h'∧ProgAt h' h.size h'.size v (clampN n) (fun _ _=>false):=by
 refine con_q115 ?_
 simp -dsimp only [go_sem]
 rw [ite_max]
 have hc:clampN n≤256:=by unfold clampN;omega
 generalize clampN n=k at *
 refine Chk_intro (by omega) ?_
 intro rb h1 n1
 simp -dsimp only [go_sem]
 intro pb h2 n2
 have r1:=n2.rw n1.row
 rw [zeros_one,Int.toNat_natCast,rowsTo_zero k fun _=>0] at r1
 have r2:=n2.row
 have z1:=n1.size;have z2:=n2.size;have a1:=n1.at_;have a2:=n2.at_
 have p2:Fr 0 0 h h2:=n1.f0.trans n2.fr
 simp -dsimp only [go_sem,r2.cell]
 refine loop_intro (fun i:Nat=>[(0,.int .i64 k),(3,.pointer (some ⟨pb,0,none⟩)),(17,.int .i64 k),(18,.int .i64 i)])
  (fun i h'=>i≤k∧Fr 0 0 h h'∧h2.size≤h'.size∧Rw h' pb [.int .i64 k,.slice (some ⟨rb,0,none⟩) k k]∧∃ R,Rw h' rb (rowsTo k R i)∧(∀ j,j<i→Rw h' (R j) (wrow (nw k) fun _=>0)∧h2.size≤R j∧R j<h'.size)∧∀ x y,x<i→y<i→R x=R y→x=y)
  (fun i=>k - i) 0 ?_ ?_ ?_
 ·simp [Le,find]
 ·exact ⟨by omega,p2,by omega,r2,_,r1,fun j hj=>by omega,fun x y hx=>by omega⟩
 rintro i h3 ⟨hi,p3,y3,r2,R,r1,hR,hinj⟩
 simp -dsimp only [go_sem]
 refine ⟨fun hlt=>?_,fun hge=>?_⟩
 ·have hlt:i<k:=by omega
  simp -dsimp only [go_sem,r2.cell]
  rw [wrap64 (by omega) (by omega),show ((k:Int)+63)=((k+63:Nat):Int) from by omega,tdiv64,wrap64 (by omega) (by omega)]
  refine Chk_intro (by decide) ?_
  simp -dsimp only [go_sem]
  refine Chk_intro (by omega) ?_
  intro b4 h4 n4
  have z4:=n4.size;have a4:=n4.at_
  have r4:=n4.row
  rw [zeros_one,Int.toNat_natCast,wrow_zero] at r4
  simp -dsimp only [go_sem]
  refine Chk_intro (by omega) ?_
  simp -dsimp only [go_sem]
  have r14:=n4.rw r1
  have r24:=n4.rw r2
  refine Chk_intro (r14.wr (by rw [length_rowsTo];omega)) fun h5 s5=>?_
  have r15:=s5.row r14
  rw [cl_slice,putAt_one,show (k+63) / 64=nw k from rfl,rowsTo_set _ _ _ _ hlt] at r15
  have z5:=s5.size
  simp -dsimp only [go_sem]
  simp -dsimp (disch:=omega) only [wrap64]
  refine ⟨i+1,by omega,by simp [Le,find],by omega,(p3.trans n4.fr).fresh s5.fr (by omega),by omega,s5.rw r24 (by omega),_,r15,fun j hj=>?_,fun x y hx hy=>?_⟩
  ·by_cases hji:j=i
   ·subst hji;simp only [if_true]
    exact ⟨s5.rw r4 (by omega),by omega,by omega⟩
   ·simp only [if_neg hji]
    obtain ⟨g1,g2,g3⟩:=hR j (by omega)
    exact ⟨s5.rw (n4.rw g1) (by omega),g2,by omega⟩
  ·have gx:x<i→R x<b4:=fun h=>by have:=(hR x h).2.2;omega
   have gy:y<i→R y<b4:=fun h=>by have:=(hR y h).2.2;omega
   split <;> split <;> intro he
   ·omega
   ·have:=gy (by omega);omega
   ·have:=gx (by omega);omega
   ·exact hinj x y (by omega) (by omega) he
 ·have hik:i=k:=by omega
  subst hik
  simp -dsimp only [go_sem]
  refine ⟨p3,hc,pb,rb,R,fun _ _=>0,rfl,r2,?_,fun j hj=>?_,fun x y hx hy=>hinj x y hx hy,by omega⟩
  ·have e:rowsTo i R i=(List.range i).map fun (j:Nat)=>Value.slice (some ⟨R j,0,none⟩) (nw i) (nw i):=by
    unfold rowsTo
    apply List.map_congr_left
    intro j hj
    rw [if_pos (List.mem_range.1 hj)]
   rw [e] at r1;exact r1
  ·obtain ⟨g1,g2,g3⟩:=hR j hj
   exact ⟨g1,by omega,g3,by omega,by omega,Bits.zero _⟩
theorem rel_Of (n:Int) (lv:Value) (l:List (Int×Int)) (h:Heap) (hl:Rd 2 h lv l.length (pairsV l)) (hb:l.length≤4611686018427387904) :
  Con Tryd.prog 94 #[.int .i64 n,lv] h fun v h'=>Fr 0 0 h h'∧ProgAt h' h.size h'.size v (clampN n) (ofM (clampN n) l):=by
 refine con_q116 ?_
 obtain ⟨a,c,rfl⟩:=hl.is
 simp -dsimp only [go_sem]
 refine call_of (rel_New n h) ?_
 rintro v h1 ⟨p1,t1⟩
 simp -dsimp only [go_sem]
 refine loop_intro (fun i:Nat=>[(5,v),(10,.slice a l.length c),(11,.int .i64 l.length),(12,.int .i64 i)])
  (fun i h'=>i≤l.length∧Fr 0 0 h h'∧h1.size≤h'.size∧ProgAt h' h.size h1.size v (clampN n) (ofM (clampN n) (l.take i)))
  (fun i=>l.length - i) 0 ?_ ?_ ?_
 ·simp [Le,find]
 ·exact ⟨by omega,p1,by omega,t1.congr fun _ _ _ _=>by simp [ofM]⟩
 rintro i h2 ⟨hi,p2,y2,t2⟩
 simp -dsimp only [go_sem]
 refine ⟨fun hlt=>?_,fun hge=>?_⟩
 ·have hlt:i<l.length:=by omega
  have hp:l[i]?=some l[i]:=by simp [hlt]
  generalize l[i]=p at hp
  simp -dsimp only [go_sem]
  refine Chk_intro (by omega) ((hl.fr p2).pair hp fun b o c1 c2=>?_)
  simp -dsimp only [go_sem,c1,c2]
  intro b3 h3 n3
  have r3:=n3.row
  simp -dsimp only [go_sem]
  refine ⟨r3.wr (by simp),fun h4 s4=>?_⟩
  have r4:=s4.row r3
  simp -dsimp only [go_sem] at r4
  have z3:=n3.size;have a3:=n3.at_;have z4:=s4.size;have z1:=p1.size
  have t4:=(t2.fr n3.f0 (by omega)).fr s4.fr (by omega)
  have p4:=(p2.trans n3.fr).fresh s4.fr (by omega)
  simp -dsimp only [go_sem,r4.cell]
  refine call_of (rel_Put t4 p.1 p.2 true) ?_
  rintro v5 h5 ⟨f5,z5,rfl,t5⟩
  simp -dsimp only [go_sem]
  simp -dsimp (disch:=omega) only [wrap64]
  refine ⟨i+1,by omega,by simp [Le,find],by omega,p4.fresh f5 (by omega),by omega,t5.congr fun x y hx hy=>?_⟩
  rw [ofM_take hp]
  simp only [putM]
  split <;> rename_i hc
  ·rw [hc];simp
  ·have:(inR (clampN n) p.1&&inR (clampN n) p.2&&p.1==(x:Int)&&p.2==(y:Int))=false:=by simpa using hc
   rw [this];simp
 ·have hil:i=l.length:=by omega
  subst hil
  rw [List.take_length] at t2
  simp -dsimp only [go_sem]
  exact ⟨p2,t2.mono (Nat.le_refl _) y2⟩
end Go.Proofs.Tst
namespace Go.Proofs.Tst
open Go Go.Vc
theorem TrailingZeros64 {x k:Nat} {h:Heap} (hx:x<2 ^ 64) (hk:Low x k) (ht:TabAt h) :
  Con Tryd.prog 156 #[.int .u64 x] h fun v h'=>h'=h∧v=.int .i64 k:=by
 refine con_q50 ?_
 have h0:x≠0:=by rintro rfl;have:=hk.1;simp at this
 simp -dsimp only [go_sem]
 refine ⟨fun h=>absurd h (by simp;omega),fun _=>?_⟩
 simp -dsimp only [go_sem]
 have hk64:=hk.lt hx
 obtain ⟨y,hy⟩:∃ y,x+y=18446744073709551616:=⟨18446744073709551616 - x,by omega⟩
 have hi:=tab64_at k hk64
 obtain ⟨z,hz⟩:∃ z,2 ^ k * 285870213051353865 % 18446744073709551616=z:=⟨_,rfl⟩
 obtain ⟨p,hp⟩:∃ p,2 ^ k=p:=⟨_,rfl⟩
 have hpl:p<2 ^ 64:=by rw [← hp];exact Nat.pow_lt_pow_right (by decide) hk64
 have e58:(z:Int).fdiv (2 ^ min (Int.toNat 58) 64)=((z / 2 ^ 58:Nat):Int):=shr64 z 58 (by decide)
 rw [neg64 x y hy (by omega),and64 hx (by omega),hk.and_neg' hy (by omega),hp,show (285870213051353865:Int)=((285870213051353865:Nat):Int) from rfl,mul64 _ _ z (by rw [← hp];exact hz),e58]
 have hi:tab64[z / 2 ^ 58]?=some k:=by rw [← hz];exact hi
 generalize z / 2 ^ 58=i at hi
 have hi64:i<64:=(List.getElem?_eq_some_iff.1 hi).1
 refine Chk_intro (by omega) ?_
 simp -dsimp only [go_sem,ht i k hi]
 rw [wrap64 (by omega) (by omega)]
end Go.Proofs.Tst
namespace Go.Proofs.Tst
open Go Go.Vc
def RowC (b:Nat) (xv:Value) (w:Nat) (W:Nat→Nat) (h:Heap):Prop:=hcell h b 0=some xv∧Rd 1 h xv w (wrow w W)∧TabAt h
theorem points_1 {b w:Nat} {xv:Value} {W:Nat→Nat} (hW:∀ j,W j<2 ^ 64) (hw:w≤1024) :
  Iter Tryd.prog 155 #[.pointer (some ⟨b,0,none⟩)] ((rest (wbit W) (64 * w) 0).map fun (p:Nat)=>[Value.int .i64 (p:Int)]) (RowC b xv w W):=by
 refine ⟨by unfold goodF;rw [Tryd.func155];rfl,fun l I X hy h hI hC=>?_⟩
 show ConX (some l) Tryd.prog 155 #[.func (.yield l) #[] #[],.pointer (some ⟨b,0,none⟩)] h _
 refine con_q133 ?_
 obtain ⟨xa,xc,rfl⟩:=hC.2.1.is
 simp -dsimp only [go_sem,hC.1]
 refine loop_intro (fun i:Nat=>[(0,.func (.yield l) #[] #[]),(5,.slice xa w xc),(6,.int .i64 w),(7,.int .i64 i)])
  (fun i h'=>i≤w∧RowC b (.slice xa w xc) w W h'∧∃ d,d≤(rest (wbit W) (64 * w) 0).length∧(rest (wbit W) (64 * w) 0).drop d=rest (wbit W) (64 * w) (64 * i)∧I d h') (fun i=>w - i) 0 ?_ ?_ ?_
 ·simp [Le,find]
 ·exact ⟨by omega,hC,0,Nat.zero_le _,rfl,hI⟩
 rintro i h1 ⟨hi,hC1,d,hdl,hd,hI1⟩
 simp -dsimp only [go_sem]
 refine ⟨fun hlt=>?_,fun hge=>?_⟩
 ·have hlt:i<w:=by omega
  simp -dsimp only [go_sem]
  refine Chk_intro (by omega) (hC1.2.1.idx (by omega) fun b2 o2 c2=>?_)
  simp -dsimp only [go_sem,c2 i _ (wrow_get hlt)]
  refine loop_intro (fun s:Nat×Nat=>[(0,.func (.yield l) #[] #[]),(3,.int .i64 i),(4,.int .u64 s.2),(5,.slice xa w xc),(6,.int .i64 w),(7,.int .i64 i)])
   (fun s h'=>s.1≤64∧RowC b (.slice xa w xc) w W h'∧s.2<2 ^ 64∧(∀ k,s.2.testBit k=((W i).testBit k&&decide (s.1≤k)))∧∃ d,d≤(rest (wbit W) (64 * w) 0).length∧(rest (wbit W) (64 * w) 0).drop d=rest (wbit W) (64 * w) (64 * i+s.1)∧I d h')
   (fun s=>64 - s.1) (0,W i) ?_ ?_ ?_
  ·simp [Le,find]
  ·exact ⟨Nat.zero_le _,hC1,hW i,by simp,d,hdl,hd,hI1⟩
  rintro ⟨c,x⟩ h2 ⟨hc,hC2,hx,hbit,d,hdl,hd,hI2⟩
  dsimp only at hc hC2 hx hbit hd hI2 ⊢
  simp -dsimp only [go_sem]
  have hg:∀ k,k<64→wbit W (64 * i+k)=(W i).testBit k:=fun k hk=>by
   unfold wbit;rw [show (64 * i+k) / 64=i from by omega,show (64 * i+k) % 64=k from by omega]
  refine ⟨fun hx0=>?_,fun hx0=>?_⟩
  ·have hx0:x≠0:=by rintro rfl;simp at hx0
   obtain ⟨k,hk⟩:=low_exists hx0
   have hk64:=hk.lt hx
   have hbk:=hk.1
   rw [hbit] at hbk
   simp only [Bool.and_eq_true,decide_eq_true_eq] at hbk
   have hrest:rest (wbit W) (64 * w) (64 * i+c)=(64 * i+k) :: rest (wbit W) (64 * w) (64 * i+(k+1)):=by
    rw [rest_skip (q:=64 * i+c) (k - c) (by omega) fun j h1 h2=>?_,show 64 * i+c+(k - c)=64 * i+k from by omega,rest_step (by omega),if_pos (by rw [hg k hk64];exact hbk.1)]
    ·rfl
    ·obtain ⟨m,rfl⟩:∃ m,j=64 * i+m:=⟨j - 64 * i,by omega⟩
     rw [hg m (by omega)]
     have:=hk.2 m (by omega)
     rw [hbit] at this
     simpa [show c≤m by omega] using this
   simp -dsimp only [go_sem]
   refine call_of (TrailingZeros64 hx hk hC2.2.2) ?_
   rintro v h3 ⟨rfl,rfl⟩
   simp -dsimp only [go_sem]
   rw [wrap64 (n:=64 * (i:Int)) (by omega) (by omega),wrap64 (n:=64 * (i:Int)+(k:Int)) (by omega) (by omega)]
   rw [hrest] at hd
   have hdx:((rest (wbit W) (64 * w) 0).map fun (p:Nat)=>[Value.int .i64 (p:Int)])[d]?=some [.int .i64 ((64 * i+k:Nat):Int)]:=by
    rw [List.getElem?_map,← List.head?_drop,hd];rfl
   refine yld_of (hy d _ _ hdx hI2 hC2) ?_
   rintro v h4 (⟨rfl,hI4,hC4⟩ | ⟨rfl,hX4⟩)
   ·simp -dsimp only [go_sem]
    have e1:IntKind.u64.wrap ((x:Int) - 1)=((x - 1:Nat):Int):=by
     rw [wrapu64 (by omega) (by omega)];omega
    rw [e1,and64 hx (by omega)]
    refine ⟨(k+1,x &&& (x - 1)),by dsimp only;omega,by simp [Le,find],by dsimp only;omega,hC4,Nat.lt_of_le_of_lt Nat.and_le_left hx,fun m=>?_,d+1,?_,?_,hI4⟩
    ·rw [hk.strike,hbit]
     have hm:=hk.2 m
     rw [hbit] at hm
     by_cases h1:m<k
     ·have:=hm h1
      rw [this]
      simp [show ¬ k+1≤m by omega]
     ·by_cases h2:m=k
      ·subst h2;simp
      ·simp [h2,show k+1≤m by omega,show c≤m by omega]
    ·have:=congrArg List.length hd
     simp only [List.length_drop,List.length_cons] at this
     omega
    ·rw [show d+1=1+d from by omega,← List.drop_drop,List.drop_drop,Nat.add_comm 1 d,← List.drop_drop,hd];rfl
   ·simp -dsimp only [go_sem]
    exact .inr hX4
  ·have hx0:x=0:=by simpa using hx0
   subst hx0
   simp -dsimp only [go_sem]
   simp -dsimp (disch:=omega) only [wrap64]
   refine ⟨i+1,by omega,by simp [Le,find],by omega,hC2,d,hdl,?_,hI2⟩
   rw [hd,rest_skip (q:=64 * i+c) (64 - c) (by omega) fun j h1 h2=>?_,show 64 * i+c+(64 - c)=64 * (i+1) from by omega]
   obtain ⟨m,rfl⟩:∃ m,j=64 * i+m:=⟨j - 64 * i,by omega⟩
   rw [hg m (by omega)]
   have:=hbit m
   simp only [Nat.zero_testBit] at this
   simpa [show c≤m by omega] using this.symm
 ·have:i=w:=by omega
  subst this
  simp -dsimp only [go_sem]
  refine .inl ⟨?_,hC1⟩
  rw [rest_end (Nat.le_refl _)] at hd
  have hle:=List.drop_eq_nil_iff.1 hd
  rw [List.length_map,← Nat.le_antisymm hdl hle]
  exact hI1
end Go.Proofs.Tst
namespace Go.Proofs.Tst
open Go Go.Vc
theorem rel_points (a:Option Addr) (n c:Nat) (h:Heap):Con Tryd.prog 118 #[.slice a n c] h fun v h'=>Fr 0 0 h h'∧v=.func (.func 155) #[] #[.pointer (some ⟨h.size,0,none⟩)]∧hcell h' h.size 0=some (.slice a n c)∧h'.size=h.size+1:=by
 refine con_q132 ?_
 simp -dsimp only [go_sem]
 intro b h1 n1
 have r1:=n1.row
 have a1:=n1.at_
 subst a1
 simp -dsimp only [go_sem]
 exact ⟨n1.fr,by rw [r1.cell];rfl,n1.size⟩
end Go.Proofs.Tst
namespace Go.Proofs.Tst
open Go Go.Vc
theorem rel_Has {n:Nat} {M:Nat→Nat→Bool} {p:Value} {lo hi:Nat} {h:Heap} (hr:ProgAt h lo hi p n M) (a b:Int) :
  Con Tryd.prog 76 #[p,.int .i64 a,.int .i64 b] h fun v h'=>h'=h∧v=.bool (inR n a&&inR n b&&M a.toNat b.toNat):=by
 refine con_q120 ?_
 have hr0:=hr
 obtain ⟨hn,pb,rb,R,W,rfl,t⟩:=hr
 simp -dsimp only [go_sem]
 refine call_of (rel_inside hr0 a b) ?_
 rintro v h1 ⟨rfl,rfl⟩
 simp -dsimp only [go_sem]
 by_cases hin:(inR n a&&inR n b)=true
 ·have hin':=hin
  simp only [Bool.and_eq_true,inR,decide_eq_true_eq] at hin'
  obtain ⟨x,rfl⟩:∃ x:Nat,a=x:=⟨a.toNat,by omega⟩
  obtain ⟨y,rfl⟩:∃ y:Nat,b=y:=⟨b.toNat,by omega⟩
  have hx:x<n:=by omega
  have hy:y<n:=by omega
  obtain ⟨hrw,_,_,hnp,hnr,hbits⟩:=t.row x hx
  rw [hin]
  simp -dsimp only [go_sem,t.ptr.cell]
  refine Chk_intro (by omega) ?_
  simp -dsimp only [go_sem,t.rowsGet hx]
  refine call_of (row_has (p:=y) (ptab_rd t hx) (by unfold nw;omega) (hbits _).1 (by omega)) ?_
  rintro v h2 ⟨rfl,rfl⟩
  rw [hbits.get hy]
  simp -dsimp only [go_sem]
  simp
 ·have hin:(inR n a&&inR n b)=false:=by simpa using hin
  rw [hin]
  simp -dsimp only [go_sem]
  simp
end Go.Proofs.Tst
