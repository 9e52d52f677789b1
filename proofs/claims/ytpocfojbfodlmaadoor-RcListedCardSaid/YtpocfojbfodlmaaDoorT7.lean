/-
  Contracts of functions that the law reaches: what each returns and what it leaves in memory. Conditions stand in each.
-/
import Derived.Test.YtpocfojbfodlmaaDoorT6
set_option linter.all false
set_option maxRecDepth 2000
/-
  What makes a graph well-formed, said of all its lists at once (plain).
-/
namespace Go.Proofs.Tst
open Go Go.Vc
def rfOk (g:Gr) (p:Int×Int):Bool:=g.is p.1 2&&(g.ev p.1.toNat).loc==(g.ev p.2.toNat).loc&&(g.ev p.1.toNat).val==(g.ev p.2.toNat).val
def readsFrom (g:Gr) (r d:Nat):List Int:=((List.range' r d).filter fun i=>(g.ev i).kind==1).map fun (i:Nat)=>(i:Int)
theorem rfGo_iff {g:Gr}:∀ (d r k:Nat),r+d=g.n→k≤g.rf.length→(¬ 0≤g.rfGo d r k↔(g.rf.drop k).map (·.2)=readsFrom g r d∧∀ p∈g.rf.drop k,rfOk g p=true)
 | 0,r,k,hr,hk=>by
  unfold Gr.rfGo
  by_cases h:k<g.rf.length
  ·rw [if_pos h]
   constructor
   ·intro h';omega
   ·rintro ⟨h',-⟩
    have:(g.rf.drop k).length=0:=by
     have:=congrArg List.length h'
     simpa [readsFrom] using this
    rw [List.length_drop] at this;omega
  ·rw [if_neg h,List.drop_eq_nil_of_le (by omega)]
   simp [readsFrom]
 | d+1,r,k,hr,hk=>by
  have hrs:readsFrom g r (d+1)=(if (g.ev r).kind=1 then [(r:Int)] else [])++readsFrom g (r+1) d:=by
   unfold readsFrom
   rw [List.range'_succ,List.filter_cons]
   by_cases h:(g.ev r).kind=1
   ·rw [if_pos h,if_pos (by simpa using h)];rfl
   ·rw [if_neg h,if_neg (by simpa using h)];rfl
  rw [hrs]
  by_cases hkd:(g.ev r).kind=1
  ·rw [if_pos hkd]
   by_cases hkl:k<g.rf.length
   ·have hq:g.rf[k]?=some g.rf[k]:=List.getElem?_eq_getElem hkl
    have hdr:g.rf.drop k=g.rf[k] :: g.rf.drop (k+1):=List.drop_eq_getElem_cons hkl
    generalize g.rf[k]=p at hq hdr
    rw [hdr]
    cases hb:g.rfBad r k
    ·rw [rfGo_ok hkd hb,rfGo_iff d (r+1) (k+1) (by omega) (by omega)]
     unfold Gr.rfBad at hb
     rw [hq] at hb
     simp only [Bool.or_eq_false_iff,Bool.not_eq_false',beq_iff_eq] at hb
     obtain ⟨⟨⟨hb1,hb2⟩,hb3⟩,hb4⟩:=hb
     have hok:rfOk g p=true:=by
      unfold rfOk
      rw [hb2,hb1,Int.toNat_natCast,hb3,hb4];simp
     constructor
     ·rintro ⟨h1,h2⟩
      refine ⟨by simp [hb1,h1],fun q hq'=>?_⟩
      rcases List.mem_cons.1 hq' with rfl | hq'
      ·exact hok
      ·exact h2 q hq'
     ·rintro ⟨h1,h2⟩
      refine ⟨?_,fun q hq'=>h2 q (List.mem_cons_of_mem _ hq')⟩
      simp only [List.map_cons,List.cons_append,List.nil_append,List.cons.injEq] at h1
      exact h1.2
    ·rw [rfGo_bad hkd hb]
     constructor
     ·intro h';omega
     ·rintro ⟨h1,h2⟩
      exfalso
      simp only [List.map_cons,List.cons_append,List.nil_append,List.cons.injEq] at h1
      have hok:=h2 p (List.mem_cons_self)
      unfold rfOk at hok
      rw [h1.1,Int.toNat_natCast] at hok
      simp only [Bool.and_eq_true,beq_iff_eq] at hok
      unfold Gr.rfBad at hb
      rw [hq] at hb
      simp only at hb
      rw [h1.1,hok.1.1,hok.1.2,hok.2] at hb
      simp at hb
   ·have hb:g.rfBad r k=true:=by unfold Gr.rfBad;rw [List.getElem?_eq_none (by omega)]
    rw [rfGo_bad hkd hb,List.drop_eq_nil_of_le (by omega)]
    constructor
    ·intro h';omega
    ·rintro ⟨h1,-⟩;simp at h1
  ·rw [if_neg hkd,rfGo_skip hkd,rfGo_iff d (r+1) k (by omega) hk];rfl
theorem rf_iff {g:Gr}:¬ 0≤g.rfAt↔g.rf.map (·.2)=readsFrom g 0 g.n∧∀ p∈g.rf,rfOk g p=true:=by
 unfold Gr.rfAt
 have:=rfGo_iff (g:=g) g.n 0 0 (by omega) (by omega)
 rw [List.drop_zero] at this;exact this
def rmwOk (g:Gr) (p:Int×Int):Bool:=g.is p.1 1&&g.is p.2 2&&g.isNext p.1 p.2&&(g.ev p.1.toNat).loc==(g.ev p.2.toNat).loc
theorem rises1 {l:List (Int×Int)}:(∀ (i:Nat) (p q:Int×Int),l[i]?=some p→l[i+1]?=some q→p.1<q.1)↔l.Pairwise fun p q=>p.1<q.1:=by
 constructor
 ·intro h
  induction l with
  | nil=>exact List.Pairwise.nil
  | cons p l ih =>
   have ih:=ih fun i a b ha hb=>h (i+1) a b (by simpa using ha) (by simpa using hb)
   refine List.Pairwise.cons (fun x hx=>?_) ih
   cases l with
   | nil=>cases hx
   | cons q l =>
    have h0:=h 0 p q rfl rfl
    rcases List.mem_cons.1 hx with rfl | hx
    ·exact h0
    ·have:=(List.pairwise_cons.1 ih).1 x hx;omega
 ·intro h i p q hp hq
  obtain ⟨h1,e1⟩:=List.getElem?_eq_some_iff.1 hp
  obtain ⟨h2,e2⟩:=List.getElem?_eq_some_iff.1 hq
  have:=List.pairwise_iff_getElem.1 h i (i+1) h1 h2 (by omega)
  rw [e1,e2] at this;exact this
theorem rmw_iff {g:Gr}:¬ 0≤g.rmwAt↔(g.rmw.Pairwise fun p q=>p.1<q.1)∧∀ p∈g.rmw,rmwOk g p=true:=by
 unfold Gr.rmwAt
 constructor
 ·intro h
  have hb:=firstBad_get h
  refine ⟨rises1.1 fun i p q hp hq=>?_,fun p hp=>?_⟩
  ·have:=hb (i+1) q hq
   unfold Gr.rmwBad at this
   simp only [Bool.or_eq_false_iff,Bool.and_eq_false_imp,decide_eq_true_eq] at this
   have h1:=this.1.1.1.1 (by omega)
   rw [Nat.zero_add,Nat.add_sub_cancel,List.getD_eq_getElem?_getD,hp,Option.getD_some] at h1
   simp only [decide_eq_false_iff_not] at h1
   omega
  ·obtain ⟨j,hj⟩:=List.mem_iff_getElem?.1 hp
   have:=hb j p hj
   unfold Gr.rmwBad at this
   simp only [Bool.or_eq_false_iff,Bool.not_eq_false'] at this
   unfold rmwOk
   rw [this.1.1.1.2,this.1.1.2,this.1.2,this.2];rfl
 ·rintro ⟨hr,hp⟩
  refine firstBad_none fun j p hj=>?_
  have hok:=hp p (List.mem_of_getElem? hj)
  unfold rmwOk at hok
  simp only [Bool.and_eq_true] at hok
  unfold Gr.rmwBad
  rw [hok.1.1.1,hok.1.1.2,hok.1.2,hok.2]
  simp only [Bool.not_true,Bool.or_false]
  by_cases h0:0<0+j
  ·obtain ⟨i,rfl⟩:∃ i,j=i+1:=⟨j - 1,by omega⟩
   have hlt:=(List.getElem?_eq_some_iff.1 hj).1
   have hi:g.rmw[i]?=some g.rmw[i]:=List.getElem?_eq_getElem (by omega)
   have:=rises1.2 hr i _ _ hi hj
   rw [Nat.zero_add,Nat.add_sub_cancel,List.getD_eq_getElem?_getD,hi,Option.getD_some]
   have e1:decide (p.1≤g.rmw[i].1)=false:=by simp;omega
   rw [e1];simp
  ·have:decide (0<0+j)=false:=by simpa using h0
   rw [this];rfl
theorem co_iff {g:Gr}:¬ 0≤g.coAt↔(g.co.length:Int)=g.cells∧∀ c,c<g.co.length→g.coBad c (g.co.getD c [])=false:=by
 unfold Gr.coAt
 constructor
 ·intro h
  have hlen:(g.co.length:Int)=g.cells:=by
   apply Classical.byContradiction;intro hne
   rw [if_pos (.inr hne)] at h;omega
  refine ⟨hlen,fun c hc=>?_⟩
  have hls:g.lists=g.co.length:=by unfold Gr.lists;omega
  have hf:¬ g.coFirst<g.lists:=fun hlt=>by rw [if_pos (.inl hlt)] at h;omega
  cases hb:g.coBad c (g.co.getD c [])
  ·rfl
  ·exfalso
   apply hf
   unfold Gr.coFirst
   cases hfd:(List.range g.lists).find? (fun c=>g.coBad c (g.co.getD c [])) with
   | none =>
    rw [List.find?_eq_none] at hfd
    exact absurd hb (hfd c (List.mem_range.2 (by omega)))
   | some u =>
    have:=List.mem_of_find?_eq_some hfd
    rw [List.mem_range] at this
    exact this
 ·rintro ⟨h1,h2⟩
  have hls:g.lists=g.co.length:=by unfold Gr.lists;omega
  have hf:(List.range g.lists).find? (fun c=>g.coBad c (g.co.getD c []))=none:=by
   rw [List.find?_eq_none]
   intro c hc
   rw [h2 c (by have:=List.mem_range.1 hc;omega)];simp
  have hcf:g.coFirst=g.lists:=by unfold Gr.coFirst;rw [hf];rfl
  rw [if_neg (by rw [hcf];omega)];omega
theorem dep_src {g:Gr} {l:List (Int×Int)} {f:Int→Bool}:¬ 0≤g.depAt false l f↔l=[]:=by
 unfold Gr.depAt
 constructor
 ·intro h
  cases l with
  | nil=>rfl
  | cons p l =>
   have:=firstBad_get h 0 p rfl
   unfold Gr.depBad at this
   simp at this
 ·rintro rfl;unfold Gr.firstBad;omega
theorem check_iff {g:Gr} {words:Bool}:(g.check words).1=0↔g.size=true∧¬ 0≤g.initAt words∧¬ 0≤g.evAt words∧¬ 0≤g.rfAt∧¬ 0≤g.coAt∧¬ 0≤g.rmwAt ∧
  ¬ 0≤g.depAt words g.addr (fun k=>k==1||k==2)∧¬ 0≤g.depAt words g.data (fun k=>k==2)∧¬ 0≤g.depAt words g.ctrl (fun k=>k==1||k==2||k==3):=by
 refine ⟨check_zero,?_⟩
 rintro ⟨h1,h2,h3,h4,h5,h6,h7,h8,h9⟩
 unfold Gr.check
 rw [h1,if_neg (by simp),if_neg h2,if_neg h3,if_neg h4,if_neg h5,if_neg h6,if_neg h7,if_neg h8,if_neg h9]
end Go.Proofs.Tst
/-
  Is a relation of the program's the document's?
-/
namespace Go.Proofs.Tst
open Go Go.Vc
end Go.Proofs.Tst
/-
  Changed graphs in memory.
-/
namespace Go.Proofs.Tst
open Go Go.Vc
theorem rlc_rl {h:Heap} {v:Value} {L:List (List Value)} (t:RLc h v L):RL h v L:=by
 obtain ⟨us,h1,h2⟩:=t
 exact ⟨us,h1,fun i l hl=>by obtain ⟨a,c,h3,-,h5⟩:=h2 i l hl;exact ⟨_,h3,h5⟩⟩
end Go.Proofs.Tst
/-
  The document's relations of a graph.
-/
namespace Go.Proofs.Tst
open Go Go.Vc
end Go.Proofs.Tst
/-
  GraphLaws.
-/
namespace Go.Proofs.Tst
open Go Go.Vc
theorem bools_at {h:Heap} {a:Option Addr} {n c:Nat} {l:List Bool} (w:Rd 1 h (.slice a n c) n (boolsV l)) (hn:0<n):∃ b o,a=some ⟨b,o,none⟩∧∀ h',Fr 0 0 h h'→∀ i x,l[i]?=some x→hcell h' b (o+i)=some (.bool x):=by
 obtain ⟨hl,a',c',k1,k2⟩:=w
 cases k1
 rcases k2 with k2 | ⟨b,o,k3,k4⟩
 ·omega
 ·exact ⟨b,o,k3,fun h' f i x hx=>f.keep (k4 i _ (boolsV_get hx)) (by omega)⟩
theorem kindsV_get {g:Gr} {k:Int} {i:Nat} (hi:i<g.n):(kindsV g k g.n)[i]?=some ((g.ev i).kind==k):=by
 unfold kindsV
 rw [List.getElem?_map,List.getElem?_take_of_lt hi,Gr.ev_get hi];rfl
end Go.Proofs.Tst
/-
  whole: are facts the document's?
-/
namespace Go.Proofs.Tst
open Go Go.Vc
def tV (v:Value):Tell:=tell1 fun u _ _ _=>u=v
theorem stV (v:Value):Stab (tV v):=Stab.one fun _ _ _ _ _ _ t=>t
end Go.Proofs.Tst
/-
  GraphDerives.
-/
namespace Go.Proofs.Tst
open Go Go.Vc
theorem FactsAt.fr {h h':Heap} {lo l r:Nat} {p:Nat→Value} {rd wr fe:Value} {g:Gr} (F:FactsAt h lo p rd wr fe g) (f:Fr l r h h') (hd:r≤lo):FactsAt h' lo p rd wr fe g:=by
 obtain ⟨A,B,D,dlo,dap⟩:=F.rel
 have a1:=F.hrd.at_
 have a2:=F.hwr.at_
 have a3:=F.hfe.at_
 have fz:=f.size
 exact ⟨F.n,⟨A,B,D.fr f (fun k hk=>by have:=dlo k hk;omega),fun k hk=>by have:=dlo k hk;omega,dap⟩,F.hrd.fr f (by omega),F.hwr.fr f (by omega),F.hfe.fr f (by omega),F.off⟩
end Go.Proofs.Tst
/-
  Events changed in place.
-/
namespace Go.Proofs.Tst
open Go Go.Vc
def setMode (E:List Ev) (i:Nat) (m:Int):List Ev:=E.set i { E.getD i default with mode:=m }
@[simp] theorem length_setMode {E:List Ev} {i:Nat} {m:Int}:(setMode E i m).length=E.length:=by simp [setMode]
theorem evsV_setMode:∀ {E:List Ev} {i:Nat} {m:Int},i<E.length→(evsV E).set (i * 5+4) (.int .i64 m)=evsV (setMode E i m)
 | [],i,_,h=>by simp at h
 | e :: E,0,m,_=>rfl
 | e :: E,i+1,m,h=>by
  have ih:=evsV_setMode (E:=E) (i:=i) (m:=m) (by simpa using h)
  have h1:setMode (e :: E) (i+1) m=e :: setMode E i m:=by simp [setMode]
  have h2:e.cells.length=5:=rfl
  rw [h1,evsV_cons,evsV_cons,← ih,List.set_append_right _ _ (by omega),h2]
  congr 2;omega
theorem putAt_right {a:List Value}:∀ (ws r:List Value) (o:Nat),putAt (a++r) (a.length+o) ws=a++putAt r o ws
 | [],_,_=>rfl
 | v :: ws,r,o=>by
  show putAt ((a++r).set (a.length+o) v) (a.length+o+1) ws=a++putAt (r.set o v) (o+1) ws
  rw [List.set_append_right _ _ (by omega),Nat.add_sub_cancel_left,Nat.add_assoc]
  exact putAt_right ws _ _
theorem putAt_left {r:List Value}:∀ (ws a:List Value) (o:Nat),o+ws.length≤a.length→putAt (a++r) o ws=putAt a o ws++r
 | [],_,_,_=>rfl
 | v :: ws,a,o,h=>by
  show putAt ((a++r).set o v) (o+1) ws=putAt (a.set o v) (o+1) ws++r
  simp at h
  rw [List.set_append_left _ _ (by omega)]
  exact putAt_left ws _ _ (by simp;omega)
theorem evsV_put:∀ {E:List Ev} {i:Nat} {e:Ev},i<E.length→putAt (evsV E) (i * 5) e.cells=evsV (E.set i e)
 | [],i,_,h=>by simp at h
 | x :: E,0,e,_=>rfl
 | x :: E,i+1,e,h=>by
  have ih:=evsV_put (E:=E) (i:=i) (e:=e) (by simpa using h)
  have h2:(i+1) * 5=x.cells.length+i * 5:=by show _=5 + _;omega
  rw [List.set_cons_succ,evsV_cons,evsV_cons,← ih,h2]
  exact putAt_right _ _ _
theorem holder_ev {h:Heap} {b n c lo:Nat} {E:List Ev} (w:Holder 5 h (.slice (some ⟨b,0,none⟩) n c) n (evsV E) lo) {i:Nat} (hi:i<n) :
  Wr h b (i * 5+4) 1∧Wr h b (i * 5) 5∧(∀ h' m,Sto h h' b (i * 5+4) [.int .i64 m]→Holder 5 h' (.slice (some ⟨b,0,none⟩) n c) n (evsV (setMode E i m)) lo)∧∀ h' e,Sto h h' b (i * 5) e.cells→Holder 5 h' (.slice (some ⟨b,0,none⟩) n c) n (evsV (E.set i e)) lo:=by
 have hl:=w.1
 rw [length_evsV] at hl
 have hE:i<E.length:=by omega
 obtain ⟨b',c',rest,h1,h2,h3,h4⟩:=w.blk (by omega)
 cases h1
 refine ⟨h2.wr (by simp;omega),h2.wr (by simp;omega),fun h' m s=>⟨by simp;omega,.inr ⟨b,c,rest,rfl,?_,h3,h4⟩⟩,fun h' e s=>⟨by simp;omega,.inr ⟨b,c,rest,rfl,?_,h3,h4⟩⟩⟩
 ·have:=s.row h2
  rw [putAt_one,List.set_append_left _ _ (by simp;omega),evsV_setMode hE] at this
  exact this
 ·have:=s.row h2
  rw [putAt_left _ _ _ (by simp [Ev.cells];omega),evsV_put hE] at this
  exact this
section
variable {h h' : Heap} {q : GV} {g : Gr} {lo : Nat}
theorem GrOwn.evs' {E':List Ev} {b:Nat} (w:GrOwn h q g lo) (f:Fr b (b+1) h h') (hb:q.e=some ⟨b,0,none⟩) (hl:E'.length=g.evs.length) (he:Holder 5 h' (.slice (some ⟨b,0,none⟩) g.evs.length q.ec) g.evs.length (evsV E') lo) :
  GrOwn h' q { g with evs:=E' } lo:=by
 obtain ⟨us,o1,o2,o3⟩:=w.o
 have lb:bl (.slice q.e g.evs.length q.ec)=b∧bh (.slice q.e g.evs.length q.ec)=b+1:=by rw [hb];exact ⟨rfl,rfl⟩
 have key:∀ x,Off (.slice q.e g.evs.length q.ec) x→bh x≤b∨b+1≤bl x∨b+1≤b:=fun x hx=>by
  unfold Off at hx
  have:=bh_bl x
  omega
 have ha:Away b (b+1) (.slice q.o g.co.length q.oc) us:=fun x hx=>key x (o3 x hx _ (by simp)).symm
 have hw:=w.off
 refine ⟨?_,w.f.fr f (key _ (hw _ (by simp))),⟨us,o1.fr f ha,o2,?_⟩,w.r.fr f (key _ (hw _ (by simp))),w.a.fr f (key _ (hw _ (by simp))),w.d.fr f (key _ (hw _ (by simp))),w.c.fr f (key _ (hw _ (by simp))),?_,⟨?_,w.fits.f,w.fits.o,w.fits.r,w.fits.a,w.fits.d,w.fits.c,w.fits.l⟩⟩
 ·dsimp only;rw [hl,hb];exact he
 ·dsimp only;rw [hl];exact o3
 ·dsimp only;rw [hl];exact hw
 ·dsimp only;rw [hl];exact w.fits.e
theorem GrOwn.fr {l r:Nat} (w:GrOwn h q g lo) (f:Fr l r h h') (hd:r≤lo∨h.size≤l∨r≤l):GrOwn h' q g lo:=by
 obtain ⟨us,o1,o2,o3⟩:=w.o
 have k:∀ {s n:Nat} {v:Value} {xs:List Value},Holder s h v n xs lo→Holder s h' v n xs lo:=fun o=>o.fr f (by have:=o.at_;have:=o.top;omega)
 refine ⟨k w.e,k w.f,⟨us,o1.fr f ?_,o2,o3⟩,k w.r,k w.a,k w.d,k w.c,w.off,w.fits⟩
 rcases hd with hd | hd | hd
 ·exact o1.below hd
 ·exact o1.above hd
 ·exact Away.none hd
theorem GrOwn.lower {lo':Nat} (w:GrOwn h q g lo) (hl:lo'≤lo):GrOwn h q g lo':=by
 obtain ⟨us,o1,o2⟩:=w.o
 exact ⟨w.e.lower hl,w.f.lower hl,⟨us,o1.lower hl,o2⟩,w.r.lower hl,w.a.lower hl,w.d.lower hl,w.c.lower hl,w.off,w.fits⟩
theorem GrOwn.ev (w:GrOwn h q g lo) (hn:0<g.n):∃ b,q.e=some ⟨b,0,none⟩∧lo≤b∧b<h.size∧(∀ i,i<g.n→Wr h b (i * 5+4) 1∧Wr h b (i * 5) 5) ∧
  (∀ h' i m,i<g.n→Sto h h' b (i * 5+4) [.int .i64 m]→GrOwn h' q { g with evs:=setMode g.evs i m } lo)∧∀ h' i e,i<g.n→Sto h h' b (i * 5) e.cells→GrOwn h' q { g with evs:=g.evs.set i e } lo:=by
 have we:=w.e
 obtain ⟨b,c,rest,h1,h2,h3,h4⟩:=we.blk hn
 have hq:q.e=some ⟨b,0,none⟩:=by injection h1
 rw [hq] at we
 exact ⟨b,hq,h4,h2.lt,fun i hi=>⟨(holder_ev we hi).1,(holder_ev we hi).2.1⟩,fun h' i m hi s=>w.evs' s.fr hq (by simp) ((holder_ev we hi).2.2.1 _ _ s),fun h' i e hi s=>w.evs' s.fr hq (by simp) ((holder_ev we hi).2.2.2 _ _ s)⟩
end
end Go.Proofs.Tst
/-
  Relations in memory, some at once; chains of steps.
-/
namespace Go.Proofs.Tst
open Go Go.Vc
abbrev Mx:=Nat→Nat→Bool
def PA (h:Heap) (v:Value) (n:Nat) (M:Mx):Prop:=∃ lo hi,ProgAt h lo hi v n M
def PN (h:Heap) (lo:Nat) (v:Value) (n:Nat) (M:Mx):Prop:=∃ a b,ProgAt h a b v n M∧lo≤a∧a≤b∧b≤h.size
section
variable {h h' : Heap} {v : Value} {n lo : Nat} {M N : Mx}
theorem PA.fr (t:PA h v n M) (f:Fr 0 0 h h'):PA h' v n M:=by obtain ⟨a,b,t⟩:=t;exact ⟨a,b,t.fr f (by omega)⟩
theorem PA.ptr (t:PA h v n M):∃ b,v=.pointer (some ⟨b,0,none⟩):=by obtain ⟨a,b,t⟩:=t;exact progPtr t
theorem PA.oc (t:PA h v n M):v.oneCell'=true:=by obtain ⟨b,rfl⟩:=t.ptr;rfl
theorem PA.cl (t:PA h v n M):Vc.cl v=[v]:=by obtain ⟨b,rfl⟩:=t.ptr;rfl
theorem PA.congr (t:PA h v n M) (e:∀ i j,i<n→j<n→M i j=N i j):PA h v n N:=by obtain ⟨a,b,t⟩:=t;exact ⟨a,b,t.congr e⟩
theorem PA.le (t:PA h v n M):n≤256:=by obtain ⟨a,b,t⟩:=t;exact t.1
theorem PN.pa (t:PN h lo v n M):PA h v n M:=by obtain ⟨a,b,t,-⟩:=t;exact ⟨a,b,t⟩
theorem PN.of (t:ProgAt h lo h.size v n M):PN h lo v n M:=⟨_,_,t,Nat.le_refl _,by obtain ⟨_,_,_,_,_,_,w⟩:=t;have:=w.at_;omega,Nat.le_refl _⟩
theorem PN.congr (t:PN h lo v n M) (e:∀ i j,i<n→j<n→M i j=N i j):PN h lo v n N:=by obtain ⟨a,b,t,k⟩:=t;exact ⟨a,b,t.congr e,k⟩
theorem PN.lower {lo':Nat} (t:PN h lo v n M) (hl:lo'≤lo):PN h lo' v n M:=by obtain ⟨a,b,t,k⟩:=t;exact ⟨a,b,t,by omega,k.2⟩
theorem PN.fr {l r:Nat} (t:PN h lo v n M) (f:Fr l r h h') (hd:r≤lo∨h.size≤l∨r≤l):PN h' lo v n M:=by
 obtain ⟨a,b,t,k⟩:=t
 have:=f.size
 exact ⟨a,b,t.fr f (by omega),by omega⟩
end
def UA (h:Heap) (lv:Value) (n:Nat) (M:Mx):Prop:=∃ L:List (Value×Nat×Mx),Rd 1 h lv L.length (L.map (·.1))∧RelsAt h L∧L.length≤65536∧maxN L=n∧∀ i j,i<n→j<n→anyM L i j=M i j
theorem UA.fr {h h':Heap} {v:Value} {n:Nat} {M:Mx} (t:UA h v n M) (f:Fr 0 0 h h'):UA h' v n M:=by
 obtain ⟨L,h1,h2,h3⟩:=t;exact ⟨L,h1.fr f,h2.fr f,h3⟩
theorem maxN_same {n:Nat}:∀ {l:List (Value×Mx)},l≠[]→maxN (l.map fun x=>(x.1,n,x.2))=n:=by
 have key:∀ (l:List (Value×Mx)) (m:Nat),m≤n→(l.map fun x=>(x.1,n,x.2)).foldl (fun m (x:Value×Nat×Mx)=>max m x.2.1) m=if l=[] then m else n:=by
  intro l
  induction l with
  | nil=>intro m _;rfl
  | cons x l ih =>
   intro m hm
   simp only [List.map_cons,List.foldl_cons]
   rw [ih _ (by omega),if_neg (by simp:¬ x :: l=[])]
   split
   ·omega
   ·rfl
 intro l hl
 unfold maxN
 rw [key l 0 (Nat.zero_le _),if_neg hl]
theorem UA.mk {h:Heap} {b n:Nat} {M:Mx} (l:List (Value×Mx)) (r:Rw h b (l.map (·.1))) (hp:∀ x∈l,PA h x.1 n x.2) (hne:l≠[]) (hl:l.length≤65536) (hM:∀ i j,i<n→j<n→(l.any fun x=>x.2 i j)=M i j) :
  UA h (.slice (some ⟨b,0,none⟩) l.length l.length) n M:=by
 refine ⟨l.map fun x=>(x.1,n,x.2),?_,fun x hx=>?_,by rw [List.length_map];exact hl,maxN_same hne,fun i j hi hj=>?_⟩
 ·rw [List.length_map,List.map_map]
  exact Rw.rd (s:=1) r (by simp)
 ·obtain ⟨y,hy,rfl⟩:=List.mem_map.1 hx
  exact hp y hy
 ·rw [← hM i j hi hj]
  unfold anyM
  rw [List.any_map]
  congr 1
  funext x
  exact inN_in hi hj
theorem rel_UnionU {lv:Value} {n:Nat} {M:Mx} {h:Heap} (u:UA h lv n M) :
  Con Tryd.prog 24 #[lv] h fun v h'=>Fr 0 0 h h'∧ProgAt h' h.size h'.size v n M:=by
 obtain ⟨L,h1,h2,h3,h4,h5⟩:=u
 exact (rel_Union h1 h2 h3).mono fun v h' ⟨f,t⟩=>⟨f,by rw [h4] at t;exact t.congr h5⟩
def chM (n:Nat) (A:Mx) (l:List Mx):Mx:=l.foldl (fun X Y=>compM n X n Y) A
def CA (h:Heap) (lv:Value) (n:Nat) (l:List Mx):Prop:=∃ ws:List Value,ws.length=l.length∧Rd 1 h lv ws.length ws∧ws.length≤65536∧∀ (i:Nat) (w:Value) (M:Mx),ws[i]?=some w→l[i]?=some M→PA h w n M
theorem CA.fr {h h':Heap} {v:Value} {n:Nat} {l:List Mx} (t:CA h v n l) (f:Fr 0 0 h h'):CA h' v n l:=by
 obtain ⟨L,h1,h2,h3,h4⟩:=t;exact ⟨L,h1,h2.fr f,h3,fun i w M a b=>(h4 i w M a b).fr f⟩
theorem CA.mk {h:Heap} {b n:Nat} (l:List (Value×Mx)) (r:Rw h b (l.map (·.1))) (hp:∀ x∈l,PA h x.1 n x.2) (hl:l.length≤65536):CA h (.slice (some ⟨b,0,none⟩) l.length l.length) n (l.map (·.2)):=by
 refine ⟨l.map (·.1),by simp,?_,by simpa using hl,fun i w M h1 h2=>?_⟩
 ·rw [List.length_map];exact Rw.rd (s:=1) r (by simp)
 ·rw [List.getElem?_map,Option.map_eq_some_iff] at h1 h2
  obtain ⟨x,hx,rfl⟩:=h1
  obtain ⟨y,hy,rfl⟩:=h2
  rw [hx] at hy;cases hy
  exact hp x (List.mem_of_getElem? hx)
def orM (l:List Mx):Mx:=fun i j=>l.any fun X=>X i j
theorem UA.mk' {h:Heap} {b n:Nat} (l:List (Value×Mx)) (r:Rw h b (l.map (·.1))) (hp:∀ x∈l,PA h x.1 n x.2) (hne:l≠[]) (hl:l.length≤65536):UA h (.slice (some ⟨b,0,none⟩) l.length l.length) n (orM (l.map (·.2))):=
 UA.mk l r hp hne hl fun i j _ _=>by unfold orM;rw [List.any_map];rfl
theorem pa_nil {h:Heap} {n:Nat}:∀ x∈([]:List (Value×Mx)),PA h x.1 n x.2:=fun x hx=>by cases hx
theorem pa_cons {h:Heap} {n:Nat} {v:Value} {M:Mx} {l:List (Value×Mx)} (a:PA h v n M) (t:∀ x∈l,PA h x.1 n x.2):∀ x∈(v,M) :: l,PA h x.1 n x.2:=fun x hx=>by
 rcases List.mem_cons.1 hx with rfl | hx
 ·exact a
 ·exact t x hx
def tC (n:Nat) (l:List Mx):Tell:=tell1 fun v _ _ h=>CA h v n l
def tU (n:Nat) (M:Mx):Tell:=tell1 fun v _ _ h=>UA h v n M
def tN (L n:Nat) (M:Mx):Tell:=tell1 fun v _ _ h=>PN h L v n M
theorem stC (n:Nat) (l:List Mx):Stab (tC n l):=Stab.one fun _ _ _ _ _ f t=>t.fr f
theorem stU (n:Nat) (M:Mx):Stab (tU n M):=Stab.one fun _ _ _ _ _ f t=>t.fr f
theorem stN (L n:Nat) (M:Mx):Stab (tN L n M):=Stab.one fun _ _ _ _ _ f t=>t.fr f (.inr (.inr (Nat.le_refl _)))
theorem tC_eq (n:Nat) (l:List Mx) (u:Out) (h:Heap):tC n l [u] h=CA h u.1 n l:=(rfl)
theorem tU_eq (n:Nat) (M:Mx) (u:Out) (h:Heap):tU n M [u] h=UA h u.1 n M:=(rfl)
theorem tN_eq (L n:Nat) (M:Mx) (u:Out) (h:Heap):tN L n M [u] h=PN h L u.1 n M:=(rfl)
def dM (f:Nat→Bool):Mx:=fun i j=>i==j&&f i
theorem exB_congr {n:Nat} {f g:Nat→Bool} (h:∀ k,k<n→f k=g k):exB n f=exB n g:=by
 unfold exB
 rw [Bool.eq_iff_iff,List.any_eq_true,List.any_eq_true]
 exact ⟨fun ⟨k,hk,e⟩=>⟨k,hk,by rw [← h k (List.mem_range.1 hk)];exact e⟩,fun ⟨k,hk,e⟩=>⟨k,hk,by rw [h k (List.mem_range.1 hk)];exact e⟩⟩
section
variable {n i j : Nat} {A B : Mx} {f : Nat → Bool}
theorem interM_in (hi:i<n) (hj:j<n):interM n A n B i j=(A i j&&B i j):=by unfold interM;rw [inN_in hi hj,inN_in hi hj]
theorem minusM_in (hi:i<n) (hj:j<n):minusM n A n B i j=(A i j&&!B i j):=by unfold minusM;rw [inN_in hi hj,inN_in hi hj]
theorem compM_in (hi:i<n) (hj:j<n):compM n A n B i j=exB n fun k=>A i k&&B k j:=by
 show exB n (fun k=>inN n A i k&&inN n B k j)=_
 exact exB_congr fun k hk=>by rw [inN_in hi hk,inN_in hk hj]
theorem exB_one (hi:i<n) {g:Nat→Bool}:(exB n fun k=>i==k&&g k)=g i:=by
 rw [Bool.eq_iff_iff,exB_true]
 constructor
 ·rintro ⟨k,hk,h⟩
  simp only [Bool.and_eq_true,beq_iff_eq] at h
  rw [h.1];exact h.2
 ·intro h;exact ⟨i,hi,by simp [h]⟩
theorem compM_dR (hi:i<n) (hj:j<n):compM n A n (dM f) i j=(A i j&&f j):=by
 rw [compM_in hi hj]
 have:(exB n fun k=>A i k&&dM f k j)=exB n fun k=>j==k&&(A i k&&f k):=exB_congr fun k _=>by
  unfold dM
  have:(k==j)=(j==k):=by rw [Bool.eq_iff_iff,beq_iff_eq,beq_iff_eq];exact eq_comm
  rw [this]
  cases A i k <;> cases (j==k) <;> cases f k <;> rfl
 rw [this,exB_one hj]
theorem compM_dL (hi:i<n) (hj:j<n):compM n (dM f) n A i j=(f i&&A i j):=by
 rw [compM_in hi hj]
 have:(exB n fun k=>dM f i k&&A k j)=exB n fun k=>i==k&&(f i&&A k j):=exB_congr fun k _=>by
  unfold dM
  cases A k j <;> cases (i==k) <;> cases f i <;> rfl
 rw [this,exB_one hi]
end
theorem rc11_chain {v0 lv:Value} {n:Nat} {A:Mx} {l:List Mx} {h:Heap} (h0:PA h v0 n A) (hl:CA h lv n l) (ht:TabAt h) :
  Con Tryd.prog 46 #[v0,lv] h fun v h'=>Fr 0 0 h h'∧PA h' v n (chM n A l)∧(l≠[]→PN h' h.size v n (chM n A l)):=by
 refine con_rc11_chain ?_
 obtain ⟨ws',hwl,hr,hlen,hp⟩:=hl
 obtain ⟨la,lc,rfl⟩:=hr.is
 have p0:Fr 0 0 h h:=.refl _ _ _
 simp -dsimp only [go_sem]
 refine loop_intro (fun s:Nat×Value=>[(0,s.2),(7,.slice la ws'.length lc),(8,.int .i64 ws'.length),(9,.int .i64 s.1)])
  (fun s h'=>s.1≤ws'.length∧Fr 0 0 h h'∧PA h' s.2 n (chM n A (l.take s.1))∧(0<s.1→PN h' h.size s.2 n (chM n A (l.take s.1)))) (fun s=>ws'.length - s.1) (0,v0) ?_ ?_ ?_
 ·simp [Le,find]
 ·exact ⟨by omega,p0,h0,by simp⟩
 clear p0
 rintro ⟨i,v⟩ h1 ⟨hi,p0,t,tn⟩
 dsimp only at hi t tn ⊢
 have p0_z:=p0.size
 by_cases hlt:i<ws'.length
 ·have e1:((i:Int)<(ws'.length:Int)):=by omega
  have hw:ws'[i]?=some ws'[i]:=List.getElem?_eq_getElem hlt
  have hM:l[i]?=some (l[i]'(by omega)):=List.getElem?_eq_getElem (by omega)
  have tw:=(hp i _ _ hw hM).fr p0
  generalize ws'[i]=w at hw tw
  have hs:l.take (i+1)=l.take i++[l[i]'(by omega)]:=by rw [List.take_add_one,hM];rfl
  generalize l[i]'(by omega)=B at hM tw hs
  obtain ⟨hl1,a',c',k1,k2⟩:=hr
  cases k1
  rcases k2 with k2 | ⟨b,o,rfl,hc⟩
  ·omega
  have hc:=p0.keep (hc i _ hw) (by omega)
  simp -dsimp only [go_sem,e1,hc]
  obtain ⟨_,_,t1⟩:=t
  obtain ⟨_,_,t2⟩:=tw
  refine call_of (rel_Comp t1 t2 (ht.fr p0 (.inr rfl))) ?_
  rintro v2 h2 ⟨f2,t3⟩
  rw [Nat.max_self] at t3
  have q2:=f2.size
  have p0_z:=p0.size
  have f2_z:=f2.size
  replace p0:=p0.F f2
  have hch:chM n A (l.take (i+1))=compM n (chM n A (l.take i)) n B:=by rw [hs];unfold chM;rw [List.foldl_append];rfl
  simp -dsimp only [go_sem]
  simp -dsimp (disch:=omega) only [wrap64]
  refine ⟨(i+1,v2),by dsimp only;omega,by simp [Le,find],by dsimp only;omega,p0,?_,fun _=>?_⟩
  ·dsimp only;rw [hch];exact ⟨_,_,t3⟩
  ·dsimp only;rw [hch];exact (PN.of t3).lower (by omega)
 ·obtain rfl:i=ws'.length:=by omega
  simp -dsimp only [go_sem,Int.lt_irrefl]
  rw [hwl,List.take_length] at t tn
  refine ⟨p0,t,fun hne=>tn ?_⟩
  exact List.length_pos_iff.2 hne
end Go.Proofs.Tst
/-
  The words' memory model in memory: its parts.
-/
namespace Go.Proofs.Tst
open Go Go.Vc
def mcells (q:GV) (g:Gr) (c:Nat→Nat) (rd wr fe:Value) (d:Nat→Nat):List Value:=[.int .i64 g.cells,.slice q.e g.evs.length q.ec,.slice q.f g.rf.length q.fc,.slice q.o g.co.length q.oc,.slice q.r g.rmw.length q.rc,.slice q.a g.addr.length q.ac,.slice q.d g.data.length q.dc,.slice q.c g.ctrl.length q.cc,
 .pointer (some ⟨c 0,0,none⟩),.pointer (some ⟨c 1,0,none⟩),.pointer (some ⟨c 2,0,none⟩),.pointer (some ⟨c 9,0,none⟩),.pointer (some ⟨c 3,0,none⟩),.pointer (some ⟨c 4,0,none⟩),.pointer (some ⟨c 5,0,none⟩),.pointer (some ⟨c 6,0,none⟩),.pointer (some ⟨c 7,0,none⟩),.pointer (some ⟨c 8,0,none⟩),rd,wr,fe,
 .pointer (some ⟨d 0,0,none⟩),.pointer (some ⟨d 1,0,none⟩),.pointer (some ⟨d 2,0,none⟩),.pointer (some ⟨d 3,0,none⟩),.pointer (some ⟨d 4,0,none⟩),.pointer (some ⟨d 5,0,none⟩)]
def armM (g:Gr):Nat→Mx
 | 0=>rfeM g
 | 1=>rfiM g
 | 2=>coeM g
 | 3=>coiM g
 | 4=>freM g
 | _=>dM (acqB g)
structure Md (h:Heap) (mb:Nat) (q:GV) (g:Gr) (c:Nat→Nat) (rd wr fe:Value) (d:Nat→Nat):Prop where
 row:Rw h mb (mcells q g c rd wr fe d)
 gr:GrAt h q g
 n:g.n≤256
 rel:∀ k,k<10→PA h (.pointer (some ⟨c k,0,none⟩)) g.n (relM g k)
 hm:∀ k,k<6→PA h (.pointer (some ⟨d k,0,none⟩)) g.n (armM g k)
 rd:Rd 1 h rd (kindsV g 1 g.n).length (boolsV (kindsV g 1 g.n))
 wr:Rd 1 h wr (kindsV g 2 g.n).length (boolsV (kindsV g 2 g.n))
 fe:Rd 1 h fe (kindsV g 3 g.n).length (boolsV (kindsV g 3 g.n))
theorem Md.fr {h h':Heap} {mb:Nat} {q:GV} {g:Gr} {c:Nat→Nat} {rd wr fe:Value} {d:Nat→Nat} (m:Md h mb q g c rd wr fe d) (f:Fr 0 0 h h'):Md h' mb q g c rd wr fe d:=
 ⟨m.row.fr f (by omega),m.gr.fr f,m.n,fun k hk=>(m.rel k hk).fr f,fun k hk=>(m.hm k hk).fr f,m.rd.fr f,m.wr.fr f,m.fe.fr f⟩
structure Mg (h:Heap) (mb:Nat) (q:GV) (g:Gr):Prop where
 row:∃ rest,Rw h mb (gcells q g++rest)
 gr:GrAt h q g
 n:g.n≤256
theorem Mg.fr {h h':Heap} {mb:Nat} {q:GV} {g:Gr} (m:Mg h mb q g) (f:Fr 0 0 h h'):Mg h' mb q g:=
 ⟨by obtain ⟨r,w⟩:=m.row;exact ⟨r,w.fr f (by omega)⟩,m.gr.fr f,m.n⟩
theorem kinds_len (g:Gr) (k:Int):(kindsV g k g.n).length=g.n:=by simp [kindsV];unfold Gr.n;omega
theorem atB_kinds {g:Gr} {k:Int} {i:Nat} (hi:i<g.n):atB (kindsV g k g.n) i=isK g k i:=atB_get (kindsV_get hi)
theorem atB_with {g:Gr} {x:Int} {i:Nat} (hi:i<g.n):atB (withB g [x]) i=isM g x i:=by
 refine atB_get ?_
 unfold withB isM
 rw [List.getElem?_map,Gr.ev_get hi]
 simp only [Option.map_some,Option.some.injEq]
 rw [Bool.eq_iff_iff];simp
section
variable {h : Heap} {mb : Nat} {q : GV} {g : Gr} {c : Nat → Nat} {rd wr fe : Value} {d : Nat → Nat}
end
end Go.Proofs.Tst
/-
  The words' memory model: aob, all relations, the model of a graph, Check.
-/
namespace Go.Proofs.Tst
open Go Go.Vc
section
variable {h : Heap} {mb : Nat} {q : GV} {g : Gr} {c : Nat → Nat} {rd wr fe : Value} {d : Nat → Nat}
end
end Go.Proofs.Tst
/-
  The words' memory model: all its relations.
-/
namespace Go.Proofs.Tst
open Go Go.Vc
theorem Der.snoc {h:Heap} {A B:Nat→Nat} {p:Nat→Value} {n m lo L L':Nat} {M:Nat→Mx} {v:Value} (D:Der h A B p n M m) (hd:∀ k,k<m→lo≤A k∧A k≤B k∧B k≤L) (w:∃ a b,ProgAt h a b v n (M m)∧L≤a∧a≤b∧b≤L') (hl:lo≤L:=by omega) :
  ∃ A' B',Der h A' B' (upd p m v) n M (m+1)∧∀ k,k<m+1→lo≤A' k∧A' k≤B' k∧B' k≤L':=by
 obtain ⟨a,b,w,w1,w2,w3⟩:=w
 refine ⟨upd A m a,upd B m b,⟨fun k hk=>?_,fun k l hk hl hkl=>?_⟩,fun k hk=>?_⟩
 ·by_cases hkm:k=m
  ·subst hkm;rw [upd_same,upd_same,upd_same];exact w
  ·rw [upd_ne _ _ hkm,upd_ne _ _ hkm,upd_ne _ _ hkm];exact D.at_ k (by omega)
 ·by_cases hkm:k=m
  ·subst hkm
   rw [upd_same,upd_same,upd_ne _ _ (Ne.symm hkl),upd_ne _ _ (Ne.symm hkl)]
   have:=hd l (by omega);omega
  ·by_cases hlm:l=m
   ·subst hlm
    rw [upd_same,upd_same,upd_ne _ _ hkm,upd_ne _ _ hkm]
    have:=hd k (by omega);omega
   ·rw [upd_ne _ _ hkm,upd_ne _ _ hkm,upd_ne _ _ hlm,upd_ne _ _ hlm]
    exact D.off k l (by omega) (by omega) hkl
 ·by_cases hkm:k=m
  ·subst hkm;rw [upd_same,upd_same];omega
  ·rw [upd_ne _ _ hkm,upd_ne _ _ hkm];have:=hd k (by omega);omega
section
variable {h : Heap} {mb : Nat} {q : GV} {g : Gr} {c : Nat → Nat} {rd wr fe : Value} {d : Nat → Nat}
end
end Go.Proofs.Tst
/-
  The words' memory model of a graph; Derive, Check.
-/
namespace Go.Proofs.Tst
open Go Go.Vc
theorem facts_ptr {p:Nat→Value} {h:Heap} {lo:Nat} {rd wr fe:Value} {g:Gr} (F:FactsAt h lo p rd wr fe g):∃ c:Nat→Nat,∀ k,k<10→p k=.pointer (some ⟨c k,0,none⟩):=by
 obtain ⟨A,B,D,-⟩:=F.rel
 exact ⟨fun k=>if hk:k<10 then (progPtr (D.at_ k hk)).choose else 0,fun k hk=>by dsimp only;rw [dif_pos hk];exact (progPtr (D.at_ k hk)).choose_spec⟩
theorem good_false {g:Gr} (h:(g.check false).1=0):g.good=true:=by unfold Gr.good;rw [h];simp
section
variable {h : Heap} {q : GV} {g : Gr}
end
end Go.Proofs.Tst
/-
  The events in another order that keeps po (plain).
-/
namespace Go.Proofs.Tst
open Go Go.Vc
def mapP (s:Nat→Nat) (p:Int×Int):Int×Int:=((s p.1.toNat:Int),(s p.2.toNat:Int))
structure Relist (g h:Gr) (s t:Nat→Nat):Prop where
 cells:h.cells=g.cells
 n:h.n=g.n
 iso:Iso g.n s t
 fix:∀ c:Nat,(c:Int)<g.cells→c<g.n→s c=c
 up:∀ i j,i<j→j<g.n→(g.ev i).thread=(g.ev j).thread→0≤(g.ev i).thread→s i<s j
 ev:∀ i,i<g.n→h.ev (s i)=g.ev i
 rf:h.rf.Perm (g.rf.map (mapP s))
 rfs:h.rf.Pairwise fun p q=>p.2<q.2
 rmw:h.rmw.Perm (g.rmw.map (mapP s))
 rmws:h.rmw.Pairwise fun p q=>p.1<q.1
 co:h.co=g.co.map fun l=>l.map fun x=>(s x.toNat:Int)
 addr:h.addr=[]
 data:h.data=[]
 ctrl:h.ctrl=[]
theorem strict_ext:∀ {l m:List Int},l.Pairwise (· < ·)→m.Pairwise (· < ·)→(∀ x,x∈l↔x∈m)→l=m
 | [],[],_,_,_=>rfl
 | [],y :: m,_,_,h=>absurd ((h y).2 (by simp)) (by simp)
 | x :: l,[],_,_,h=>absurd ((h x).1 (by simp)) (by simp)
 | x :: l,y :: m,hl,hm,h=>by
  obtain ⟨h1,h2⟩:=List.pairwise_cons.1 hl
  obtain ⟨h3,h4⟩:=List.pairwise_cons.1 hm
  have e:x=y:=by
   rcases List.mem_cons.1 ((h x).1 (by simp)) with e | e
   ·exact e
   ·rcases List.mem_cons.1 ((h y).2 (by simp)) with e' | e'
    ·exact e'.symm
    ·have:=h3 x e;have:=h1 y e';omega
  subst e
  congr 1
  refine strict_ext h2 h4 fun z=>?_
  constructor
  ·intro hz
   rcases List.mem_cons.1 ((h z).1 (List.mem_cons_of_mem _ hz)) with e | e
   ·subst e;have:=h1 z hz;omega
   ·exact e
  ·intro hz
   rcases List.mem_cons.1 ((h z).2 (List.mem_cons_of_mem _ hz)) with e | e
   ·subst e;have:=h3 z hz;omega
   ·exact e
theorem reads_sorted {g:Gr}:(readsFrom g 0 g.n).Pairwise (· < ·):=by
 unfold readsFrom
 rw [List.pairwise_map]
 refine List.Pairwise.filter _ ?_
 rw [← List.range_eq_range']
 exact List.pairwise_lt_range.imp fun h=>by omega
theorem reads_mem {g:Gr} {x:Int}:x∈readsFrom g 0 g.n↔∃ i:Nat,i<g.n∧(g.ev i).kind=1∧x=(i:Int):=by
 unfold readsFrom
 rw [← List.range_eq_range',List.mem_map]
 constructor
 ·rintro ⟨i,hi,rfl⟩
  rw [List.mem_filter,List.mem_range,beq_iff_eq] at hi
  exact ⟨i,hi.1,hi.2,rfl⟩
 ·rintro ⟨i,h1,h2,rfl⟩
  exact ⟨i,List.mem_filter.2 ⟨List.mem_range.2 h1,by simpa using h2⟩,rfl⟩
theorem lpairs_map {f:Int→Int}:∀ l:List Int,lpairs (l.map f)=(lpairs l).map fun p=>(f p.1,f p.2)
 | []=>rfl
 | a :: l=>by
  show (l.map f).map (fun b=>(f a,b))++lpairs (l.map f)=(l.map (fun b=>(a,b))++lpairs l).map fun p=>(f p.1,f p.2)
  rw [lpairs_map l,List.map_append,List.map_map,List.map_map];rfl
namespace Relist
variable {g h : Gr} {s t : Nat → Nat}
theorem back (w:Relist g h s t) {i:Nat} (hi:i<g.n):h.ev i=g.ev (t i):=by rw [← w.ev _ (w.iso.lt i hi),w.iso.st i hi]
theorem is_s (w:Relist g h s t) {i:Nat} (hi:i<g.n) (k:Int):h.is (s i:Int) k=g.is (i:Int) k:=by
 have:=w.iso.ls i hi
 unfold Gr.is
 rw [Int.toNat_natCast,Int.toNat_natCast,w.ev i hi,w.n]
 have e1:decide (0≤(s i:Int))=true:=by simp
 have e2:decide ((s i:Int)<(g.n:Int))=true:=by simp;omega
 have e3:decide (0≤(i:Int))=true:=by simp
 have e4:decide ((i:Int)<(g.n:Int))=true:=by simp;omega
 rw [e1,e2,e3,e4]
theorem before_s (w:Relist g h s t) {i j:Nat} (hi:i<g.n) (hj:j<g.n):h.before (s i:Int) (s j:Int)=g.before (i:Int) (j:Int):=by
 have:=w.iso.ls i hi
 have:=w.iso.ls j hj
 unfold Gr.before
 simp only [Int.toNat_natCast,w.ev i hi,w.ev j hj,w.n]
 rw [Bool.eq_iff_iff]
 simp only [Bool.and_eq_true,decide_eq_true_eq,beq_iff_eq]
 constructor
 ·rintro ⟨⟨⟨⟨-,h1⟩,-⟩,h2⟩,h3⟩
  refine ⟨⟨⟨⟨by omega,?_⟩,by omega⟩,h2⟩,h3⟩
  apply Classical.byContradiction;intro hn
  rcases Nat.lt_trichotomy i j with c | c | c
  ·omega
  ·subst c;omega
  ·have:=w.up j i c hi h3.symm (by rw [← h3];exact h2);omega
 ·rintro ⟨⟨⟨⟨-,h1⟩,-⟩,h2⟩,h3⟩
  have:=w.up i j (by omega) hj h3 h2
  exact ⟨⟨⟨⟨by omega,by omega⟩,by omega⟩,h2⟩,h3⟩
theorem next_s (w:Relist g h s t) {a b:Nat} (ha:a<g.n) (hb:b<g.n) (hn:g.isNext (a:Int) (b:Int)=true):h.isNext (s a:Int) (s b:Int)=true:=by
 unfold Gr.isNext at hn ⊢
 rw [w.before_s ha hb]
 rw [Bool.and_eq_true,List.all_eq_true] at hn ⊢
 obtain ⟨h1,h2⟩:=hn
 refine ⟨h1,fun k hk=>?_⟩
 simp only [Int.toNat_natCast,List.mem_range'_1] at hk h2 ⊢
 have hbn:=w.iso.ls b hb
 have hkn:k<g.n:=by omega
 rw [w.back hkn,w.ev a ha]
 have htk:=w.iso.lt k hkn
 simp only [Bool.not_eq_true',beq_eq_false_iff_ne]
 intro hth
 have hba:=h1
 unfold Gr.before at hba
 simp only [Bool.and_eq_true,decide_eq_true_eq,beq_iff_eq,Int.toNat_natCast] at hba
 obtain ⟨⟨⟨⟨-,b1⟩,-⟩,b2⟩,b3⟩:=hba
 have k1:a<t k:=by
  rcases Nat.lt_trichotomy a (t k) with c | c | c
  ·exact c
  ·have:=w.iso.st k hkn;rw [← c] at this;omega
  ·have:=w.up (t k) a c ha hth (by rw [hth];exact b2)
   rw [w.iso.st k hkn] at this;omega
 have k2:t k<b:=by
  rcases Nat.lt_trichotomy (t k) b with c | c | c
  ·exact c
  ·have:=w.iso.st k hkn;rw [c] at this;omega
  ·have:=w.up b (t k) c htk (by rw [← b3,hth]) (by rw [← b3];exact b2)
   rw [w.iso.st k hkn] at this;omega
 have:=h2 (t k) (by omega)
 simp only [Bool.not_eq_true',beq_eq_false_iff_ne] at this
 exact this hth
theorem writes (w:Relist g h s t) (c:Int):h.writesOf c=g.writesOf c:=by
 rw [writesOf_range,writesOf_range,w.n]
 have inj:∀ (l:List Nat) (f:Nat→Nat) (f':Nat→Nat),l.Nodup→(∀ k∈l,f' (f k)=k)→(l.map fun k=>((f k:Nat):Int)).Nodup:=fun l f f' hn hf=>by
  rw [List.nodup_iff_pairwise_ne] at hn ⊢
  rw [List.pairwise_map]
  refine hn.imp_of_mem fun {a b} ha hb hab h=>hab ?_
  have h:f a=f b:=by omega
  rw [← hf a ha,← hf b hb,h]
 have nd:∀ p:Nat→Bool,((List.range g.n).filter p).Nodup:=fun p=>List.nodup_range.filter _
 apply Nat.le_antisymm
 ·have:=nodup_le (l:=((List.range g.n).filter fun i=>(h.ev i).kind==2&&(h.ev i).loc==c).map fun k=>((t k:Nat):Int)) (m:=((List.range g.n).filter fun i=>(g.ev i).kind==2&&(g.ev i).loc==c).map fun (k:Nat)=>(k:Int)) (inj _ t s (nd _) fun k hk=>w.iso.st k (List.mem_range.1 (List.mem_filter.1 hk).1)) fun x hx=>by
   obtain ⟨k,hk,rfl⟩:=List.mem_map.1 hx
   obtain ⟨k1,k2⟩:=List.mem_filter.1 hk
   have k1:=List.mem_range.1 k1
   rw [w.back k1] at k2
   exact List.mem_map.2 ⟨t k,List.mem_filter.2 ⟨List.mem_range.2 (w.iso.lt k k1),k2⟩,rfl⟩
  simpa using this
 ·have:=nodup_le (l:=((List.range g.n).filter fun i=>(g.ev i).kind==2&&(g.ev i).loc==c).map fun k=>((s k:Nat):Int)) (m:=((List.range g.n).filter fun i=>(h.ev i).kind==2&&(h.ev i).loc==c).map fun (k:Nat)=>(k:Int)) (inj _ s t (nd _) fun k hk=>w.iso.ts k (List.mem_range.1 (List.mem_filter.1 hk).1)) fun x hx=>by
   obtain ⟨k,hk,rfl⟩:=List.mem_map.1 hx
   obtain ⟨k1,k2⟩:=List.mem_filter.1 hk
   have k1:=List.mem_range.1 k1
   rw [← w.ev k k1] at k2
   exact List.mem_map.2 ⟨s k,List.mem_filter.2 ⟨List.mem_range.2 (w.iso.ls k k1),k2⟩,rfl⟩
  simpa using this
theorem rf_nat (hg:(g.check false).1=0) {p:Int×Int} (hp:p∈g.rf):∃ a b:Nat,p=((a:Int),(b:Int))∧a<g.n∧b<g.n:=by
 obtain ⟨a,b,e,h1,h2,-⟩:=rf_pair hg hp
 exact ⟨a,b,e,h1,h2⟩
theorem rmw_nat (hg:(g.check false).1=0) {p:Int×Int} (hp:p∈g.rmw):∃ a b:Nat,p=((a:Int),(b:Int))∧a<g.n∧b<g.n:=by
 obtain ⟨-,-,-,-,-,h6,-⟩:=check_iff.1 hg
 obtain ⟨b1,b2,b3⟩:=before_lt (rmw_before h6 hp)
 exact ⟨p.1.toNat,p.2.toNat,Prod.ext (by dsimp only;omega) (by dsimp only;omega),by omega,by omega⟩
theorem mem_map_iff (w:Relist g h s t) {L:List (Int×Int)} (hL:∀ p∈L,∃ a b:Nat,p=((a:Int),(b:Int))∧a<g.n∧b<g.n) {a b:Nat} (ha:a<g.n) (hb:b<g.n):((s a:Int),(s b:Int))∈L.map (mapP s)↔((a:Int),(b:Int))∈L:=by
 constructor
 ·intro h1
  obtain ⟨p,hp,e⟩:=List.mem_map.1 h1
  obtain ⟨x,y,rfl,hx,hy⟩:=hL p hp
  unfold mapP at e
  simp only [Int.toNat_natCast,Prod.mk.injEq] at e
  have e1:s x=s a:=by omega
  have e2:s y=s b:=by omega
  have e3:x=a:=by rw [← w.iso.ts x hx,← w.iso.ts a ha,e1]
  have e4:y=b:=by rw [← w.iso.ts y hy,← w.iso.ts b hb,e2]
  subst e3;subst e4;exact hp
 ·intro h1
  exact List.mem_map.2 ⟨_,h1,by unfold mapP;simp⟩
theorem ofM_same (w:Relist g h s t) {L' L:List (Int×Int)} (hL:∀ p∈L,∃ a b:Nat,p=((a:Int),(b:Int))∧a<g.n∧b<g.n) (hp:∀ x,x∈L'↔x∈L.map (mapP s)):SameR g.n s (ofM h.n L') (ofM g.n L):=fun i j hi hj=>by
 rw [w.n,Bool.eq_iff_iff,ofM_mem (w.iso.ls i hi) (w.iso.ls j hj),ofM_mem hi hj,hp]
 exact w.mem_map_iff hL hi hj
theorem co_nat' (hg:(g.check false).1=0) {l:List Int} (hl:l∈g.co) {x:Int} (hx:x∈l):0≤x∧x.toNat<g.n:=by
 have hgd:=good_false hg
 obtain ⟨c,hc⟩:=List.mem_iff_getElem?.1 hl
 have hcl:=(List.getElem?_eq_some_iff.1 hc).1
 have hd:g.co.getD c []=l:=by simp [hc]
 obtain ⟨-,h2,-⟩:=co_list hgd hcl
 rw [hd] at h2
 obtain ⟨l1,l2,-⟩:=is_lt (h2 x hx).1
 exact ⟨l1,by omega⟩
theorem coPairs_s (w:Relist g h s t) (hg:(g.check false).1=0):coPairs h=(coPairs g).map (mapP s):=by
 unfold coPairs
 rw [w.co,List.flatMap_map,List.map_flatMap]
 congr 1
 funext l
 rw [lpairs_map];rfl
theorem coPairs_nat (hg:(g.check false).1=0) {p:Int×Int} (hp:p∈coPairs g):∃ a b:Nat,p=((a:Int),(b:Int))∧a<g.n∧b<g.n:=by
 unfold coPairs at hp
 obtain ⟨l,hl,hp⟩:=List.mem_flatMap.1 hp
 obtain ⟨x,y⟩:=p
 obtain ⟨m1,m2⟩:=lpairs_mem hp
 obtain ⟨a1,a2⟩:=co_nat' hg hl m1
 obtain ⟨b1,b2⟩:=co_nat' hg hl m2
 exact ⟨x.toNat,y.toNat,Prod.ext (by dsimp only;omega) (by dsimp only;omega),a2,b2⟩
theorem giso (w:Relist g h s t) (hg:(g.check false).1=0):GIso g h s t:=by
 refine ⟨w.n,w.iso,fun i j hi hj=>w.before_s hi hj,w.ofM_same (fun p hp=>rf_nat hg hp) fun x=>w.rf.mem_iff,w.ofM_same (fun p hp=>coPairs_nat hg hp) fun x=>by rw [w.coPairs_s hg],w.ofM_same (fun p hp=>rmw_nat hg hp) fun x=>w.rmw.mem_iff,fun i j hi hj=>?_,fun i hi=>by rw [w.ev i hi],fun i hi=>by rw [w.ev i hi],fun p=>?_,fun p hp=>rmw_nat hg hp⟩
 ·show h.sameM (s i) (s j)=g.sameM i j
  unfold Gr.sameM;rw [w.ev i hi,w.ev j hj]
 ·rw [w.rmw.mem_iff]
  constructor
  ·intro hp
   obtain ⟨p',hp',rfl⟩:=List.mem_map.1 hp
   obtain ⟨a,b,rfl,ha,hb⟩:=rmw_nat hg hp'
   exact ⟨a,b,ha,hb,hp',by unfold mapP;simp⟩
  ·rintro ⟨a,b,ha,hb,hm,rfl⟩
   exact List.mem_map.2 ⟨_,hm,by unfold mapP;simp⟩
theorem good (w:Relist g h s t) (hg:(g.check false).1=0):(h.check false).1=0:=by
 have hgd:=good_false hg
 obtain ⟨h1,h2,h3,h4,h5,h6,h7,h8,h9⟩:=check_iff.1 hg
 have hs:=h1
 simp only [Gr.size,Bool.and_eq_true,decide_eq_true_eq] at hs
 have fixed:∀ c:Nat,(c:Int)<g.cells→h.ev c=g.ev c:=fun c hc=>by
  have:=w.fix c hc (by omega)
  have h:=w.ev c (by omega)
  rw [this] at h;exact h
 have tcell:∀ k,k<g.n→g.cells≤(k:Int)→g.cells≤(t k:Int):=fun k hk hc=>by
  apply Classical.byContradiction;intro hn
  have:=w.fix (t k) (by omega) (w.iso.lt k hk)
  rw [w.iso.st k hk] at this;omega
 refine check_iff.2 ⟨?_,?_,?_,?_,?_,?_,?_,?_,?_⟩
 ·unfold Gr.size at h1 ⊢;rw [w.cells,w.n];exact h1
 ·unfold Gr.initAt at h2 ⊢
  refine firstEv_all _ _ fun c hc hc'=>?_
  rw [w.cells] at hc'
  have:=firstEv_neg _ _ h2 c hc hc'
  rw [fixed c (by omega)];exact this
 ·unfold Gr.evAt at h3 ⊢
  refine firstEv_all _ _ fun k hk hk'=>?_
  rw [w.cells] at hk hk'
  rw [w.n] at hk'
  have hkn:k<g.n:=by omega
  have:=tcell k hkn (by omega)
  have htk:=w.iso.lt k hkn
  have:=firstEv_neg _ _ h3 (t k) (by omega) (by omega)
  rw [w.back hkn]
  unfold Gr.evOk at this ⊢
  rw [w.cells];exact this
 ·obtain ⟨k1,k2⟩:=rf_iff.1 h4
  refine rf_iff.2 ⟨strict_ext (by rw [List.pairwise_map];exact w.rfs) reads_sorted fun x=>?_,fun p hp=>?_⟩
  ·rw [reads_mem,List.mem_map]
   constructor
   ·rintro ⟨p,hp,rfl⟩
    obtain ⟨p',hp',rfl⟩:=List.mem_map.1 (w.rf.mem_iff.1 hp)
    obtain ⟨a,b,e,ha,hb,-,hk,-⟩:=rf_pair hg hp'
    subst e
    exact ⟨s b,by rw [w.n];exact w.iso.ls b hb,by rw [w.ev b hb];exact hk,by unfold mapP;simp⟩
   ·rintro ⟨i,hi,hk,rfl⟩
    rw [w.n] at hi
    rw [w.back hi] at hk
    have hm:((t i:Nat):Int)∈g.rf.map (·.2):=by rw [k1];exact reads_mem.2 ⟨t i,w.iso.lt i hi,hk,rfl⟩
    obtain ⟨p,hp,e⟩:=List.mem_map.1 hm
    refine ⟨mapP s p,w.rf.mem_iff.2 (List.mem_map.2 ⟨p,hp,rfl⟩),?_⟩
    have e:p.2=((t i:Nat):Int):=e
    unfold mapP
    rw [e,Int.toNat_natCast,w.iso.st i hi]
  ·obtain ⟨p',hp',rfl⟩:=List.mem_map.1 (w.rf.mem_iff.1 hp)
   have hok:=k2 p' hp'
   obtain ⟨a,b,rfl,ha,hb⟩:=rf_nat hg hp'
   unfold rfOk at hok ⊢
   unfold mapP
   simp only [Int.toNat_natCast] at hok ⊢
   rw [w.is_s ha,w.ev a ha,w.ev b hb];exact hok
 ·obtain ⟨k1,k2⟩:=co_iff.1 h5
  have hcl:h.co.length=g.co.length:=by rw [w.co,List.length_map]
  refine co_iff.2 ⟨by rw [hcl,w.cells];exact k1,fun c hc=>?_⟩
  rw [hcl] at hc
  have hb:=k2 c hc
  have hl:g.co[c]?=some (g.co.getD c []):=by simp [hc]
  have hl':h.co.getD c []=(g.co.getD c []).map fun x=>(s x.toNat:Int):=by rw [w.co];simp [hc]
  have hmem:=List.mem_of_getElem? hl
  rw [hl']
  generalize g.co.getD c []=l at hb hmem
  unfold Gr.coBad at hb ⊢
  simp only [Bool.or_eq_false_iff,Bool.not_eq_false',beq_iff_eq,List.all_eq_true,Bool.and_eq_true,decide_eq_true_eq] at hb ⊢
  obtain ⟨⟨⟨b1,b2⟩,b3⟩,b4⟩:=hb
  have hnat:∀ x∈l,0≤x∧x.toNat<g.n:=fun x hx=>co_nat' hg hmem hx
  refine ⟨⟨⟨?_,by rw [List.length_map,w.writes];exact b2⟩,fun y hy=>?_⟩,?_⟩
  ·rw [List.head?_map,b1]
   simp only [Option.map_some,Int.toNat_natCast]
   rw [w.fix c (by omega) (by omega)]
  ·obtain ⟨x,hx,rfl⟩:=List.mem_map.1 hy
   obtain ⟨x1,x2⟩:=hnat x hx
   obtain ⟨y1,y2⟩:=b3 x hx
   obtain ⟨x',rfl⟩:=Int.eq_ofNat_of_zero_le x1
   simp only [Int.toNat_natCast] at x2 y2 ⊢
   rw [w.is_s x2,w.ev x' x2];exact ⟨y1,y2⟩
  ·rw [List.nodup_iff_pairwise_ne] at b4 ⊢
   rw [List.pairwise_map]
   refine b4.imp_of_mem fun {a b} ha hb hab e=>hab ?_
   obtain ⟨a1,a2⟩:=hnat a ha
   obtain ⟨b1,b2⟩:=hnat b hb
   have e1:s a.toNat=s b.toNat:=by omega
   have e2:a.toNat=b.toNat:=by rw [← w.iso.ts _ a2,← w.iso.ts _ b2,e1]
   omega
 ·obtain ⟨k1,k2⟩:=rmw_iff.1 h6
  refine rmw_iff.2 ⟨w.rmws,fun p hp=>?_⟩
  obtain ⟨p',hp',rfl⟩:=List.mem_map.1 (w.rmw.mem_iff.1 hp)
  have hok:=k2 p' hp'
  obtain ⟨a,b,rfl,ha,hb⟩:=rmw_nat hg hp'
  unfold rmwOk at hok ⊢
  unfold mapP
  simp only [Int.toNat_natCast,Bool.and_eq_true] at hok ⊢
  rw [w.is_s ha,w.is_s hb,w.ev a ha,w.ev b hb]
  exact ⟨⟨hok.1.1,w.next_s ha hb hok.1.2⟩,hok.2⟩
 ·rw [w.addr];exact dep_src.2 rfl
 ·rw [w.data];exact dep_src.2 rfl
 ·rw [w.ctrl];exact dep_src.2 rfl
theorem verdict (w:Relist g h s t) (hg:(g.check false).1=0):(rcAx h).1=(rcAx g).1:=(w.giso hg).verdict
end Relist
end Go.Proofs.Tst
/-
  What the source model's chains make (plain).
-/
namespace Go.Proofs.Tst
open Go Go.Vc
def In (n:Nat) (M N:Mx):Prop:=∀ i j,i<n→j<n→M i j=N i j
theorem In.rfl' {n:Nat} {M:Mx}:In n M M:=fun _ _ _ _=>rfl
theorem plus_in {n:Nat} {M N:Mx} (e:In n M N):In n (plusM n M) (plusM n N):=fun i j hi hj=>by
 rw [Bool.eq_iff_iff]
 constructor
 ·exact fun h=>plus_least (N:=fun x y=>plusM n N x y=true) (fun i j hi hj hr=>plus_sub (by rw [← e i j hi hj];exact hr)) (fun _ _ _ _ hx _ h1 h2=>plus_trans hx h1 h2) hi hj h
 ·exact fun h=>plus_least (N:=fun x y=>plusM n M x y=true) (fun i j hi hj hr=>plus_sub (by rw [e i j hi hj];exact hr)) (fun _ _ _ _ hx _ h1 h2=>plus_trans hx h1 h2) hi hj h
theorem opt_in {n:Nat} {M N:Mx} (e:In n M N):In n (optM M) (optM N):=fun i j hi hj=>by unfold optM;rw [e i j hi hj]
theorem dM_in {n:Nat} {f g:Nat→Bool} (e:∀ i,i<n→f i=g i):In n (dM f) (dM g):=fun i j hi _=>by unfold dM;rw [e i hi]
theorem dM_true {f:Nat→Bool} {i j:Nat} (h:dM f i j=true):i=j∧f i=true:=by
 unfold dM at h;simpa using h
theorem chM_nil {n:Nat} {A:Mx}:chM n A []=A:=rfl
theorem chM_cons {n:Nat}:∀ (l:List Mx) (A B:Mx) {i j:Nat},i<n→j<n→chM n A (B :: l) i j=exB n fun a=>A i a&&chM n B l a j
 | [],A,B,i,j,hi,hj=>compM_in hi hj
 | C :: l,A,B,i,j,hi,hj=>by
  show chM n (compM n A n B) (C :: l) i j=_
  rw [chM_cons l _ C hi hj,Bool.eq_iff_iff,exB_true,exB_true]
  constructor
  ·rintro ⟨c,hc,h⟩
   rw [compM_in hi hc,Bool.and_eq_true,exB_true] at h
   obtain ⟨⟨a,ha,h1⟩,h2⟩:=h
   rw [Bool.and_eq_true] at h1
   refine ⟨a,ha,?_⟩
   rw [Bool.and_eq_true,chM_cons l B C ha hj,exB_true]
   exact ⟨h1.1,c,hc,by rw [h1.2,h2];rfl⟩
  ·rintro ⟨a,ha,h⟩
   rw [Bool.and_eq_true,chM_cons l B C ha hj,exB_true] at h
   obtain ⟨h1,c,hc,h2⟩:=h
   rw [Bool.and_eq_true] at h2
   refine ⟨c,hc,?_⟩
   rw [compM_in hi hc,Bool.and_eq_true,exB_true]
   exact ⟨⟨a,ha,by rw [h1,h2.1];rfl⟩,h2.2⟩
theorem chM_ex {n:Nat} {l:List Mx} {A B:Mx} {i j:Nat} (hi:i<n) (hj:j<n):chM n A (B :: l) i j=true↔∃ a,a<n∧A i a=true∧chM n B l a j=true:=by
 rw [chM_cons l A B hi hj,exB_true]
 exact ⟨fun ⟨a,ha,h⟩=>⟨a,ha,by rwa [Bool.and_eq_true] at h⟩,fun ⟨a,ha,h⟩=>⟨a,ha,by rwa [Bool.and_eq_true]⟩⟩
section
variable {g : Gr}
theorem rr_of:In g.n (compM g.n (relM g 1) g.n (relM g 3)) (rrM g):=fun i j hi hj=>compM_in hi hj
theorem ploc_of:In g.n (interM g.n (relM g 0) g.n (relM g 4)) (plocM g):=fun i j hi hj=>interM_in hi hj
theorem other_of:In g.n (minusM g.n (relM g 0) g.n (relM g 4)) (otherM g):=fun i j hi hj=>minusM_in hi hj
theorem rs_of {P R:Mx} (hP:In g.n P (plocM g)) (hR:In g.n R (rrM g)):In g.n (chM g.n (dM (isK g 2)) [optM P,dM (isK g 2),optM (plusM g.n R)]) (rsM g):=fun i j hi hj=>by
 rw [Bool.eq_iff_iff,rs_spec,chM_ex hi hj]
 constructor
 ·rintro ⟨a,ha,h1,h⟩
  obtain ⟨rfl,q1⟩:=dM_true h1
  rw [chM_ex ha hj] at h
  obtain ⟨b,hb,h2,h⟩:=h
  rw [chM_ex hb hj] at h
  obtain ⟨c,hc,h3,h⟩:=h
  obtain ⟨rfl,q3⟩:=dM_true h3
  rw [chM_nil,opt_in (plus_in hR) _ _ hb hj] at h
  rw [opt_in hP _ _ ha hb] at h2
  unfold optM at h h2
  simp only [Bool.or_eq_true,beq_iff_eq] at h h2
  exact ⟨q1,b,hb,h2,q3,h⟩
 ·rintro ⟨h1,b,hb,h2,h3,h⟩
  refine ⟨i,hi,by unfold dM;simp [h1],?_⟩
  rw [chM_ex hi hj]
  refine ⟨b,hb,?_,?_⟩
  ·rw [opt_in hP _ _ hi hb];unfold optM;simpa using h2
  ·rw [chM_ex hb hj]
   refine ⟨b,hb,by unfold dM;simp [h3],?_⟩
   rw [chM_nil,opt_in (plus_in hR) _ _ hb hj];unfold optM;simpa using h
theorem fpo_of:In g.n (compM g.n (dM (isK g 3)) g.n (relM g 0)) (fun i j=>isK g 3 i&&relM g 0 i j):=fun i j hi hj=>compM_dL hi hj
theorem pof_of:In g.n (compM g.n (relM g 0) g.n (dM (isK g 3))) (fun i j=>relM g 0 i j&&isK g 3 j):=fun i j hi hj=>compM_dR hi hj
theorem sw_of {A C F1 F2 S:Mx} (hA:In g.n A (dM (relB g))) (hC:In g.n C (dM (acrB g))) (h1:In g.n F1 fun i j=>isK g 3 i&&relM g 0 i j) (h2:In g.n F2 fun i j=>relM g 0 i j&&isK g 3 j) (hS:In g.n S (rsM g)) :
  In g.n (chM g.n A [optM F1,S,relM g 1,dM (isK g 1),optM F2,C]) (swM g):=fun i j hi hj=>by
 rw [Bool.eq_iff_iff,sw_spec,chM_ex hi hj]
 constructor
 ·rintro ⟨i',hi',k1,h⟩
  rw [hA _ _ hi hi'] at k1
  obtain ⟨rfl,q1⟩:=dM_true k1
  rw [chM_ex hi hj] at h
  obtain ⟨a,ha,k2,h⟩:=h
  rw [chM_ex ha hj] at h
  obtain ⟨b,hb,k3,h⟩:=h
  rw [chM_ex hb hj] at h
  obtain ⟨c,hc,k4,h⟩:=h
  rw [chM_ex hc hj] at h
  obtain ⟨d,hd,k5,h⟩:=h
  obtain ⟨rfl,q5⟩:=dM_true k5
  rw [chM_ex hc hj] at h
  obtain ⟨e,he,k6,h⟩:=h
  rw [chM_nil,hC _ _ he hj] at h
  obtain ⟨rfl,q7⟩:=dM_true h
  rw [opt_in h1 _ _ hi ha] at k2
  rw [hS _ _ ha hb] at k3
  rw [opt_in h2 _ _ hc he] at k6
  unfold optM at k2 k6
  simp only [Bool.or_eq_true,Bool.and_eq_true,beq_iff_eq] at k2 k6
  exact ⟨q1,q7,a,ha,k2,b,hb,k3,c,hc,k4,q5,k6⟩
 ·rintro ⟨k1,k7,a,ha,k2,b,hb,k3,c,hc,k4,k5,k6⟩
  refine ⟨i,hi,by rw [hA _ _ hi hi];unfold dM;simp [k1],?_⟩
  rw [chM_ex hi hj]
  refine ⟨a,ha,by rw [opt_in h1 _ _ hi ha];unfold optM;simpa using k2,?_⟩
  rw [chM_ex ha hj]
  refine ⟨b,hb,by rw [hS _ _ ha hb];exact k3,?_⟩
  rw [chM_ex hb hj]
  refine ⟨c,hc,k4,?_⟩
  rw [chM_ex hc hj]
  refine ⟨c,hc,by unfold dM;simp [k5],?_⟩
  rw [chM_ex hc hj]
  refine ⟨j,hj,by rw [opt_in h2 _ _ hc hj];unfold optM;simpa using k6,?_⟩
  rw [chM_nil,hC _ _ hj hj];unfold dM;simp [k7]
theorem chM3 {n:Nat} {A B C:Mx} {i j:Nat} (hi:i<n) (hj:j<n):chM n A [B,C] i j=exB n fun a=>A i a&&exB n fun b=>B a b&&C b j:=by
 rw [chM_cons _ _ _ hi hj]
 exact exB_congr fun a ha=>by rw [chM_cons _ _ _ ha hj];rfl
theorem chM3_in {n:Nat} {A B C A' B' C':Mx} (hA:In n A A') (hB:In n B B') (hC:In n C C'):In n (chM n A [B,C]) (fun i j=>exB n fun a=>A' i a&&exB n fun b=>B' a b&&C' b j):=fun i j hi hj=>by
 rw [chM3 hi hj]
 exact exB_congr fun a ha=>by rw [hA i a hi ha];congr 1;exact exB_congr fun b hb=>by rw [hB a b ha hb,hC b j hb hj]
theorem heh_of {H E:Mx} (hH:In g.n H (hbM g)) (hE:In g.n E (ecoM g)):In g.n (chM g.n H [E,H]) (hehM g):=chM3_in hH hE hH
theorem oho_of {O H:Mx} (hO:In g.n O (otherM g)) (hH:In g.n H (hbM g)):In g.n (chM g.n O [H,O]) (fun i j=>exB g.n fun a=>otherM g i a&&exB g.n fun b=>hbM g a b&&otherM g b j):=chM3_in hO hH hO
theorem base_of {B S E:Mx} (hB:In g.n B (beginM g)) (hS:In g.n S (scbM g)) (hE:In g.n E (endM g)):In g.n (chM g.n B [S,E]) (baseM g):=chM3_in hB hS hE
theorem fsc_of {X Y F:Mx} (hF:In g.n F (dM (fscB g))) (hX:In g.n X Y):In g.n (chM g.n F [X,F]) (fun i j=>fscB g i&&Y i j&&fscB g j):=fun i j hi hj=>by
 rw [chM3_in hF hX hF i j hi hj,Bool.eq_iff_iff,exB_true]
 simp only [Bool.and_eq_true,exB_true]
 constructor
 ·rintro ⟨a,ha,h1,b,hb,h2,h3⟩
  obtain ⟨rfl,q1⟩:=dM_true h1
  obtain ⟨rfl,q3⟩:=dM_true h3
  exact ⟨⟨q1,h2⟩,q3⟩
 ·rintro ⟨⟨h1,h2⟩,h3⟩
  exact ⟨i,hi,by unfold dM;simp [h1],j,hj,h2,by unfold dM;simp [h3]⟩
theorem fh_of {F H:Mx} (hF:In g.n F (dM (fscB g))) (hH:In g.n H (hbM g)):In g.n (compM g.n F g.n (optM H)) (fun i j=>fscB g i&&(hbM g i j||i==j)):=fun i j hi hj=>by
 rw [compM_in hi hj]
 have:(exB g.n fun k=>F i k&&optM H k j)=exB g.n fun k=>dM (fscB g) i k&&optM (hbM g) k j:=exB_congr fun k hk=>by rw [hF i k hi hk,opt_in hH k j hk hj]
 rw [this,← compM_in hi hj,compM_dL hi hj];rfl
theorem hf_of {F H:Mx} (hF:In g.n F (dM (fscB g))) (hH:In g.n H (hbM g)):In g.n (compM g.n (optM H) g.n F) (fun i j=>(hbM g i j||i==j)&&fscB g j):=fun i j hi hj=>by
 rw [compM_in hi hj]
 have:(exB g.n fun k=>optM H i k&&F k j)=exB g.n fun k=>optM (hbM g) i k&&dM (fscB g) k j:=exB_congr fun k hk=>by rw [hF k j hk hj,opt_in hH i k hi hk]
 rw [this,← compM_in hi hj,compM_dR hi hj];rfl
theorem dOr {f1 f2 f:Nat→Bool} {n:Nat} (e:∀ i,i<n→(f1 i||f2 i)=f i):In n (orM [dM f1,dM f2]) (dM f):=fun i j hi _=>by
 unfold orM dM;rw [← e i hi];cases h:(i==j) <;> simp [h]
theorem fsc_pts:In g.n (dM fun i=>isK g 3 i&&isM g 5 i) (dM (fscB g)):=dM_in fun i _=>by unfold fscB;rw [Bool.and_comm]
theorem begin_of:In g.n (orM [dM (escB g),compM g.n (dM (fscB g)) g.n (optM (hbM g))]) (beginM g):=fun i j hi hj=>by
 show (dM (escB g) i j||(compM g.n (dM (fscB g)) g.n (optM (hbM g)) i j||false))=_
 rw [fh_of In.rfl' In.rfl' i j hi hj,Bool.or_false];rfl
theorem end_of:In g.n (orM [dM (escB g),compM g.n (optM (hbM g)) g.n (dM (fscB g))]) (endM g):=fun i j hi hj=>by
 show (dM (escB g) i j||(compM g.n (optM (hbM g)) g.n (dM (fscB g)) i j||false))=_
 rw [hf_of In.rfl' In.rfl' i j hi hj,Bool.or_false];rfl
theorem hb_of:In g.n (plusM g.n (orM [relM g 0,swM g])) (hbM g):=plus_in fun i j _ _=>by simp [orM,poswM]
theorem eco_of:In g.n (plusM g.n (orM [relM g 1,relM g 2,relM g 9])) (ecoM g):=plus_in fun i j _ _=>by simp [orM,comM,Bool.or_assoc]
theorem scb_of:In g.n (orM [relM g 0,chM g.n (otherM g) [hbM g,otherM g],interM g.n (hbM g) g.n (relM g 4),relM g 2,relM g 9]) (scbM g):=fun i j hi hj=>by
 show (relM g 0 i j||(chM g.n (otherM g) [hbM g,otherM g] i j||(interM g.n (hbM g) g.n (relM g 4) i j||(relM g 2 i j||(relM g 9 i j||false)))))=_
 rw [oho_of In.rfl' In.rfl' i j hi hj,interM_in hi hj];unfold scbM;simp only [Bool.or_assoc,Bool.or_false]
theorem pscf_of:In g.n (chM g.n (dM (fscB g)) [orM [hbM g,chM g.n (hbM g) [ecoM g,hbM g]],dM (fscB g)]) (pscfM g):=
 fsc_of In.rfl' (Y:=fun i j=>hbM g i j||hehM g i j) fun i j hi hj=>by
  show (hbM g i j||(chM g.n (hbM g) [ecoM g,hbM g] i j||false))=_
  rw [heh_of In.rfl' In.rfl' i j hi hj,Bool.or_false]
theorem rs_of':In g.n (chM g.n (dM (isK g 2)) [optM (plocM g),dM (isK g 2),optM (plusM g.n (rrM g))]) (rsM g):=rs_of In.rfl' In.rfl'
theorem sw_of':In g.n (chM g.n (dM (relB g)) [optM (chM g.n (dM (isK g 3)) [relM g 0]),rsM g,relM g 1,dM (isK g 1),optM (chM g.n (relM g 0) [dM (isK g 3)]),dM (acrB g)]) (swM g):=sw_of In.rfl' In.rfl' fpo_of pof_of In.rfl'
theorem base_of':In g.n (chM g.n (beginM g) [scbM g,endM g]) (baseM g):=base_of In.rfl' In.rfl' In.rfl'
theorem rel_pts:In g.n (orM [dM fun i=>isK g 2 i&&(isM g 3 i||isM g 4 i||isM g 5 i),dM fun i=>isK g 3 i&&(isM g 3 i||isM g 4 i||isM g 5 i)]) (dM (relB g)):=dOr fun i _=>by
 unfold relB;cases isK g 2 i <;> cases isK g 3 i <;> simp
theorem acr_pts:In g.n (orM [dM fun i=>isK g 1 i&&(isM g 2 i||isM g 4 i||isM g 5 i),dM fun i=>isK g 3 i&&(isM g 2 i||isM g 4 i||isM g 5 i)]) (dM (acrB g)):=dOr fun i _=>by
 unfold acrB;cases isK g 1 i <;> cases isK g 3 i <;> simp
theorem esc_pts:In g.n (orM [dM fun i=>isK g 2 i&&isM g 5 i,dM fun i=>isK g 1 i&&isM g 5 i]) (dM (escB g)):=dOr fun i _=>by
 unfold escB;cases isK g 1 i <;> cases isK g 2 i <;> cases isM g 5 i <;> rfl
end
end Go.Proofs.Tst
/-
  The source's memory model in memory: its parts.
-/
namespace Go.Proofs.Tst
open Go Go.Vc
def tI (ms:List Int):Tell:=tell1 fun v _ _ h=>Rd 1 h v ms.length (intsV ms)
theorem stI (ms:List Int):Stab (tI ms):=Stab.one fun _ _ _ _ _ f t=>t.fr f
theorem tI_eq (ms:List Int) (u:Out) (h:Heap):tI ms [u] h=Rd 1 h u.1 ms.length (intsV ms):=(rfl)
theorem tV_eq (v:Value) (u:Out) (h:Heap):tV v [u] h=(u.1=v):=(rfl)
def rcM (g:Gr):Nat→Mx
 | 0=>rsM g
 | 1=>swM g
 | 2=>hbM g
 | 3=>ecoM g
 | 4=>scbM g
 | 5=>baseM g
 | _=>pscfM g
theorem atB_w3 {g:Gr} {a b c:Int} {i:Nat} (hi:i<g.n):atB (withB g [a,b,c]) i=(isM g a i||isM g b i||isM g c i):=by
 refine atB_get ?_
 unfold withB isM
 rw [List.getElem?_map,Gr.ev_get hi]
 simp only [Option.map_some,Option.some.injEq]
 rw [Bool.eq_iff_iff];simp [or_assoc]
theorem atB_list {l:List Bool} {i:Nat} (hi:i<l.length):l[i]?=some (atB l i):=by simp [atB,hi]
theorem row_step {f:Nat→Bool} {i:Nat} {v:Bool} (hv:v=f i) (j:Nat):(decide (j<i+1)&&f j)=upd (fun j=>decide (j<i)&&f j) i v j:=by
 unfold upd
 by_cases hj:j=i
 ·subst hj;rw [if_pos rfl,hv];simp
 ·rw [if_neg hj]
  have:(j<i+1)=(j<i):=propext ⟨fun _=>by omega,fun _=>by omega⟩
  simp only [this]
section
variable {h : Heap} {mb : Nat} {q : GV} {g : Gr}
set_option maxHeartbeats 1000000 in
theorem rc11_model_some (m:Mg h mb q g) {sv mv:Value} {l:List Bool} {ms:List Int} (hl:Rd 1 h sv l.length (boolsV l)) (hn:l.length=g.n) (hm:Rd 1 h mv ms.length (intsV ms)) (bm:ms.length≤17592186044416) {f:Nat→Bool} (hf:∀ i,i<g.n→(atB l i&&(decide (ms.length=0)||atB (withB g ms) i))=f i) :
  Con Tryd.prog 45 #[.pointer (some ⟨mb,0,none⟩),sv,mv] h fun v h'=>Fr 0 0 h h'∧PN h' h.size v g.n (dM f):=by
 refine con_rc11_model_some ?_
 have hn256:=m.n
 have hcl:clampN (g.n:Int)=g.n:=by unfold clampN;omega
 have p0:Fr 0 0 h h:=.refl _ _ _
 obtain ⟨rest,r1⟩:=m.row
 unfold gcells at r1
 simp only [List.cons_append,List.nil_append] at r1
 rw [hn] at hl
 obtain ⟨sa,sc,rfl⟩:=hl.is
 obtain ⟨ma,mc,rfl⟩:=hm.is
 simp -dsimp only [go_sem,r1.cell]
 refine call_of (graph_With (m.gr.fr p0) (by omega) (m:=ms) (hm.fr p0) (by omega)) ?_
 rintro v2 h2 ⟨f2,o2⟩
 have f2_z:=f2.size
 replace p0:=p0.F f2
 replace r1:=r1.F f2
 obtain ⟨wa,wc,rfl⟩:=o2.is
 have hwl:(withB g ms).length=g.n:=by simp [withB,Gr.n]
 have hw2:=o2.rd
 have p2:Fr 0 0 h2 h2:=.refl _ _ _
 simp -dsimp only [go_sem,r1.cell]
 refine Chk_intro (by omega) ?_
 rw [zeros_one,Int.toNat_natCast,brow_false]
 intro b3 h3 n3
 have n3_a:=n3.at_
 have n3_z:=n3.size
 replace p0:=p0.F n3.f0
 replace r1:=r1.F n3.f0
 replace p2:=p2.F n3.f0
 have r3:=n3.row
 simp -dsimp only [go_sem,r1.cell,r3.cell]
 have P0:=p0
 refine loop_intro (fun i:Nat=>[(2,.slice ma ms.length mc),(7,.slice wa g.n wc),(8,.slice (some ⟨b3,0,none⟩) g.n g.n),(20,.slice sa g.n sc),(21,.int .i64 g.n),(22,.int .i64 i)])
  (fun i h'=>i≤g.n∧Fr b3 (b3+1) h3 h'∧Rw h' b3 (brow g.n fun j=>decide (j<i)&&f j)) (fun i=>g.n - i) 0 ?_ ?_ ?_
 ·simp [Le,find]
 ·exact ⟨by omega,.refl _ _ _,by simpa using r3⟩
 have P23:Fr 0 0 h2 h3:=p2
 clear p0 r1 r3 o2 p2
 rintro i h4 ⟨hi,q4,r3⟩
 have hb3:h.size≤b3∧h2.size=b3:=by omega
 by_cases hlt:i<g.n
 ·have e1:((i:Int)<(g.n:Int)):=by omega
  have hfi:=hf i hlt
  have p4:=P0.fresh q4 (by omega)
  have p24:=P23.fresh q4 (by omega)
  obtain ⟨ab,ao,rfl,hac⟩:=bools_at hl (by omega)
  obtain ⟨bb,bo,rfl,hbc⟩:=bools_at hw2 (by omega)
  have k1:=hac h4 p4 i _ (atB_list (by omega))
  have k2:=hbc h4 p24 i _ (atB_list (by omega))
  generalize atB l i=x at k1 hfi
  generalize atB (withB g ms) i=y at k2 hfi
  cases x
  ·simp -dsimp only [go_sem,e1,k1,r3.cell]
   refine Chk_intro (r3.wr (by first | (simp;done) | (simp;omega))) fun h5 s5=>?_
   have s5_z:=s5.size
   replace r3:=s5.row r3
   try simp only [cl_int,cl_bool,cl_slice,cl_ptr,putAt_one,List.set_cons_zero,List.set_cons_succ,ivec_set,brow_upd] at r3
   simp -dsimp only [go_sem,r3.cell]
   simp -dsimp (disch:=omega) only [wrap64]
   refine ⟨i+1,by omega,by simp [Le,find],by omega,q4.freshIn s5.fr (by omega),?_⟩
   rw [brow_congr (g:=upd (fun j=>decide (j<i)&&f j) i false) fun j _=>row_step hfi j]
   exact r3
  ·rw [Bool.true_and] at hfi
   by_cases hms:ms.length=0
   ·have e2:((ms.length:Int)==0)=true:=by simpa using hms
    rw [decide_eq_true hms,Bool.true_or] at hfi
    simp -dsimp only [go_sem,e1,k1,e2,r3.cell]
    refine Chk_intro (r3.wr (by first | (simp;done) | (simp;omega))) fun h5 s5=>?_
    have s5_z:=s5.size
    replace r3:=s5.row r3
    try simp only [cl_int,cl_bool,cl_slice,cl_ptr,putAt_one,List.set_cons_zero,List.set_cons_succ,ivec_set,brow_upd] at r3
    simp -dsimp only [go_sem,r3.cell]
    simp -dsimp (disch:=omega) only [wrap64]
    refine ⟨i+1,by omega,by simp [Le,find],by omega,q4.freshIn s5.fr (by omega),?_⟩
    rw [brow_congr (g:=upd (fun j=>decide (j<i)&&f j) i true) fun j _=>row_step hfi j]
    exact r3
   ·have e2:((ms.length:Int)==0)=false:=by simpa using hms
    rw [decide_eq_false hms,Bool.false_or] at hfi
    simp -dsimp only [go_sem,e1,k1,k2,e2,r3.cell]
    refine Chk_intro (r3.wr (by first | (simp;done) | (simp;omega))) fun h5 s5=>?_
    have s5_z:=s5.size
    replace r3:=s5.row r3
    try simp only [cl_int,cl_bool,cl_slice,cl_ptr,putAt_one,List.set_cons_zero,List.set_cons_succ,ivec_set,brow_upd] at r3
    simp -dsimp only [go_sem,r3.cell]
    simp -dsimp (disch:=omega) only [wrap64]
    refine ⟨i+1,by omega,by simp [Le,find],by omega,q4.freshIn s5.fr (by omega),?_⟩
    rw [brow_congr (g:=upd (fun j=>decide (j<i)&&f j) i y) fun j _=>row_step hfi j]
    exact r3
 ·obtain rfl:i=g.n:=by omega
  simp -dsimp only [go_sem,Int.lt_irrefl,r3.cell]
  have p4:=P0.fresh q4 (by omega)
  have hr:Rd 1 h4 (.slice (some ⟨b3,0,none⟩) g.n g.n) ((List.range g.n).map f).length (boolsV ((List.range g.n).map f)):=by
   have e:brow g.n (fun j=>decide (j<g.n)&&f j)=boolsV ((List.range g.n).map f):=by
    rw [brow_congr (g:=f) fun j hj=>by simp [hj]]
    unfold brow boolsV;rw [List.map_map];rfl
   rw [e] at r3
   have:=Rw.rd (s:=1) (n:=g.n) (c:=g.n) r3 (by simp [boolsV])
   simpa using this
  refine call_of (rel_Ident g.n hr (by simp;omega)) ?_
  rintro v5 h5 ⟨f5,t5⟩
  rw [hcl] at t5
  simp -dsimp only [go_sem,r3.cell]
  exact ⟨p4.fresh f5 (by omega),((PN.of t5).lower (by have:=q4.size;omega)).congr fun i j hi hj=>by
   show (i==j&&atB ((List.range g.n).map f) i)=dM f i j
   unfold dM;rw [atB_get (b:=f i) (by simp [hi])]⟩
end
end Go.Proofs.Tst
