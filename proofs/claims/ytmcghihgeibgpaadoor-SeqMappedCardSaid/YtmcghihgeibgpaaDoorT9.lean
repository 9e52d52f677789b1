/-
  Contracts of functions that the law reaches: what each returns and what it leaves in memory. Conditions stand in each.
-/
import Derived.Test.YtmcghihgeibgpaaDoorT8
set_option linter.all false
set_option maxRecDepth 2000
/-
  The source's memory model: Derive, the axioms, Check.
-/
namespace Go.Proofs.Tst
open Go Go.Vc
theorem has_in {n i j:Nat} {M:Mx} (hi:i<n) (hj:j<n):(inR n (i:Int)&&inR n (j:Int)&&M (i:Int).toNat (j:Int).toNat)=M i j:=by
 have i1:inR n (i:Int)=true:=by unfold inR;simp;omega
 have i2:inR n (j:Int)=true:=by unfold inR;simp;omega
 rw [i1,i2,Int.toNat_natCast,Int.toNat_natCast,Bool.true_and,Bool.true_and]
def rcL (g:Gr):Nat→List Int
 | 0=>coh g
 | 1=>atomS g
 | 2=>natsI (cycS g.n (pscM g))
 | _=>natsI (cycS g.n (thinM g))
theorem tornS_has {g:Gr} {p:Int×Int}:(inR g.n p.1&&inR g.n p.2&&compM g.n (relM g 9) g.n (relM g 2) p.1.toNat p.2.toNat)=tornS g p:=by
 unfold tornS
 cases h1:inR g.n p.1
 ·rfl
 cases h2:inR g.n p.2
 ·rfl
 unfold inR at h1 h2
 simp only [Bool.and_eq_true,decide_eq_true_eq] at h1 h2
 rw [compM_in (by omega) (by omega)]
section
variable {h : Heap} {lo mb : Nat} {q : GV} {g : Gr} {c : Nat → Nat} {rd wr fe : Value} {d L : Nat → Nat}
set_option maxHeartbeats 1000000 in
theorem rc11_model_coherence (m:Ms h lo mb q g c rd wr fe d L) :
  Con Tryd.prog 128 #[.pointer (some ⟨mb,0,none⟩)] h fun v h'=>Fr 0 0 h h'∧Holder 1 h' v (coh g).length (intsV (coh g)) h.size:=by
 refine con_q63 ?_
 have hn:=m.n
 have r1:=m.row
 obtain ⟨_,_,ta,-⟩:=m.hm 2 (by decide)
 obtain ⟨_,_,tb,-⟩:=m.hm 3 (by decide)
 replace ta:ProgAt h _ _ _ g.n (hbM g):=ta
 replace tb:ProgAt h _ _ _ g.n (ecoM g):=tb
 unfold scells at r1
 simp -dsimp only [go_sem,evs_len,r1.cell]
 refine loop_intro (fun i:Nat=>[(0,.pointer (some ⟨mb,0,none⟩)),(10,.int .i64 g.n),(11,.int .i64 i)])
  (fun i h'=>i≤g.n∧h'=h∧coh g=cohFrom g (g.n - i) i) (fun i=>g.n - i) 0 ?_ ?_ ?_
 ·simp [Le,find]
 ·exact ⟨by omega,rfl,by simp [coh]⟩
 rintro i h1 ⟨hi,hh,hco⟩
 obtain rfl:h=h1:=hh.symm
 by_cases hlt:i<g.n
 rotate_left
 ·obtain rfl:i=g.n:=by omega
  simp -dsimp only [go_sem,Int.lt_irrefl,r1.cell]
  rw [Nat.sub_self] at hco
  rw [hco]
  exact ⟨.refl _ _ _,.none _ _ _⟩
 have e1:((i:Int)<(g.n:Int)):=by omega
 have hs:g.n - i=(g.n - (i+1))+1:=by omega
 rw [hs,cohFrom] at hco
 simp -dsimp only [go_sem,e1,r1.cell]
 refine call_of (rel_Has ta i i) ?_
 rintro v2 h2 ⟨hh,rfl⟩
 obtain rfl:h=h2:=hh.symm
 rw [has_in hlt hlt]
 cases hb:hbM g i i
 rotate_left
 ·simp -dsimp only [go_sem,r1.cell]
  intro b3 h3 n3
  have n3_z:=n3.az
  replace r1:=r1.F n3.f0
  have r3:=n3.row
  simp -dsimp only [go_sem,r1.cell,r3.cell]
  have ha:cohAt g i=[(i:Int)]:=by unfold cohAt;rw [if_pos hb]
  rw [ha,if_pos (by simp)] at hco
  rw [hco]
  exact ⟨n3.fr,holder_row (s:=1) (n:=1) r3 rfl (by omega)⟩
 have ha:cohAt g i=cohGo g i g.n 0:=by unfold cohAt;rw [if_neg (by simp [hb])]
 simp -dsimp only [go_sem,evs_len,r1.cell]
 refine loop_intro (fun j:Nat=>[(0,.pointer (some ⟨mb,0,none⟩)),(3,.int .i64 i),(10,.int .i64 g.n),(11,.int .i64 i),(29,.int .i64 g.n),(30,.int .i64 j)])
  (fun j h'=>j≤g.n∧h'=h∧cohAt g i=cohGo g i (g.n - j) j) (fun j=>g.n - j) 0 ?_ ?_ ?_
 ·simp [Le,find]
 ·exact ⟨by omega,rfl,ha⟩
 rintro j h1 ⟨hj,hh,hat⟩
 obtain rfl:h=h1:=hh.symm
 by_cases hjl:j<g.n
 rotate_left
 ·obtain rfl:j=g.n:=by omega
  simp -dsimp only [go_sem,Int.lt_irrefl,r1.cell]
  simp -dsimp (disch:=omega) only [wrap64]
  rw [Nat.sub_self] at hat
  rw [hat] at hco
  exact ⟨i+1,by omega,by simp [Le,find],by omega,by rw [hco];simp [cohGo]⟩
 have e2:((j:Int)<(g.n:Int)):=by omega
 have hs2:g.n - j=(g.n - (j+1))+1:=by omega
 rw [hs2,cohGo] at hat
 simp -dsimp only [go_sem,e2,r1.cell]
 refine call_of (rel_Has ta i j) ?_
 rintro v4 h4 ⟨hh,rfl⟩
 obtain rfl:h=h4:=hh.symm
 rw [has_in hlt hjl]
 cases hb1:hbM g i j
 ·simp -dsimp only [go_sem,r1.cell]
  simp -dsimp (disch:=omega) only [wrap64]
  rw [hb1,Bool.false_and,if_neg (by simp)] at hat
  exact ⟨j+1,by omega,by simp [Le,find],by omega,hat⟩
 simp -dsimp only [go_sem,r1.cell]
 refine call_of (rel_Has tb j i) ?_
 rintro v5 h5 ⟨hh,rfl⟩
 obtain rfl:h=h5:=hh.symm
 rw [has_in hjl hlt]
 cases hb2:ecoM g j i
 ·simp -dsimp only [go_sem,r1.cell]
  simp -dsimp (disch:=omega) only [wrap64]
  rw [hb1,hb2,Bool.true_and,if_neg (by simp)] at hat
  exact ⟨j+1,by omega,by simp [Le,find],by omega,hat⟩
 rw [hb1,hb2,Bool.true_and,if_pos rfl] at hat
 rw [hat,if_pos (by simp)] at hco
 simp -dsimp only [go_sem,r1.cell]
 intro b6 h6 n6
 have n6_z:=n6.az
 replace r1:=r1.F n6.f0
 have r6:=n6.row
 simp -dsimp only [go_sem,r1.cell,r6.cell]
 rw [hco]
 exact ⟨n6.fr,holder_row (s:=1) (n:=2) r6 rfl (by omega)⟩
set_option maxHeartbeats 1000000 in
theorem rc11_model_atomicity (m:Ms h lo mb q g c rd wr fe d L) (ht:TabAt h) :
  Con Tryd.prog 129 #[.pointer (some ⟨mb,0,none⟩)] h fun v h'=>Fr 0 0 h h'∧Holder 1 h' v (atomS g).length (intsV (atomS g)) h.size:=by
 refine con_q62 ?_
 have br:=m.gr.fits.r
 have p0:Fr 0 0 h h:=.refl _ _ _
 have r1:=m.row
 unfold scells at r1
 simp -dsimp only [go_sem,r1.cell]
 obtain ⟨_,_,ta⟩:=m.rel 9 (by decide)
 obtain ⟨_,_,tb⟩:=m.rel 2 (by decide)
 refine call_of (rel_Comp ta tb (ht.fr p0 (.inr rfl))) ?_
 rintro v2 h2 ⟨f2,t2⟩
 rw [Nat.max_self] at t2
 have f2_z:=f2.size
 replace p0:=p0.F f2
 replace r1:=r1.F f2
 obtain ⟨bt,rfl⟩:=progPtr t2
 simp -dsimp only [go_sem,r1.cell]
 have p2:Fr 0 0 h2 h2:=.refl _ _ _
 have g2:h.size≤h2.size:=by omega
 refine loop_intro (fun i:Nat=>[(3,.pointer (some ⟨bt,0,none⟩)),(21,.slice q.r g.rmw.length q.rc),(22,.int .i64 g.rmw.length),(23,.int .i64 i)])
  (fun i h'=>i≤g.rmw.length∧Fr 0 0 h h'∧Fr 0 0 h2 h'∧(g.rmw.take i).find? (tornS g)=none) (fun i=>g.rmw.length - i) 0 ?_ ?_ ?_
 ·simp [Le,find]
 ·exact ⟨by omega,p0,p2,rfl⟩
 clear p0 r1 p2
 rintro i h3 ⟨hi,p0,p2,hfn⟩
 have p0_z:=p0.size
 have p2_z:=p2.size
 by_cases hlt:i<g.rmw.length
 ·have e1:((i:Int)<(g.rmw.length:Int)):=by omega
  have hq:g.rmw[i]?=some g.rmw[i]:=List.getElem?_eq_getElem hlt
  generalize g.rmw[i]=pr at hq
  obtain ⟨rb,ro,hre,hrc⟩:=m.gr.r.pairsAt (by omega)
  obtain ⟨k1,k2⟩:=hrc h3 p0 i _ hq
  simp -dsimp only [go_sem,e1,hre,k1,k2]
  intro b4 h4 n4
  have n4_z:=n4.az
  replace p0:=p0.F n4.f0
  replace p2:=p2.F n4.f0
  have r4:=n4.row
  simp -dsimp only [go_sem,r4.cell]
  refine Chk_intro (r4.W) fun h5 s5=>?_
  have s5_z:=s5.size
  replace p0:=p0.F s5.fr
  replace p2:=p2.F s5.fr
  replace r4:=s5.row r4
  try simp only [cl_int,cl_bool,cl_slice,cl_ptr,putAt_one,zs0,zs1,ivec_set,brow_upd] at r4
  try simp -dsimp only [go_sem] at r4
  simp -dsimp only [go_sem,r4.cell]
  refine call_of (rel_Has (t2.fr p2 (by omega)) pr.1 pr.2) ?_
  rintro v6 h6 ⟨hh,rfl⟩
  obtain rfl:h5=h6:=hh.symm
  have htn:=tornS_has (g:=g) (p:=pr)
  rw [htn]
  cases hb:tornS g pr
  ·simp -dsimp only [go_sem,r4.cell]
   simp -dsimp (disch:=omega) only [wrap64]
   exact ⟨i+1,by omega,by simp [Le,find,hre],by omega,p0,p2,find_next hq hfn hb⟩
  ·simp -dsimp only [go_sem,r4.cell]
   intro b7 h7 n7
   have n7_z:=n7.az
   replace p0:=p0.F n7.f0
   replace p2:=p2.F n7.f0
   replace r4:=r4.F n7.f0
   have r7:=n7.row
   simp -dsimp only [go_sem,r4.cell,r7.cell]
   have hA:atomS g=[pr.1,pr.2]:=by unfold atomS;rw [find_at hq hfn hb]
   rw [hA]
   exact ⟨p0,holder_row (s:=1) (n:=2) r7 rfl (by omega)⟩
 ·obtain rfl:i=g.rmw.length:=by omega
  simp -dsimp only [go_sem,Int.lt_irrefl]
  rw [List.take_length] at hfn
  have hA:atomS g=[]:=by unfold atomS;rw [hfn]
  rw [hA]
  exact ⟨p0,.none _ _ _⟩
theorem rc11_axioms_1 (m:Ms h lo mb q g c rd wr fe d L) (ht:TabAt h) :
  Con Tryd.prog 130 #[.pointer (some ⟨mb,0,none⟩)] h fun v h'=>Fr 0 0 h h'∧Holder 1 h' v (natsI (cycS g.n (pscM g))).length (intsV (natsI (cycS g.n (pscM g)))) h.size:=by
 refine con_q58 ?_
 have p0:Fr 0 0 h h:=.refl _ _ _
 have r1:=m.row
 unfold scells at r1
 simp -dsimp only [go_sem,r1.cell]
 intro b2 h2 n2
 have n2_z:=n2.az
 replace p0:=p0.F n2.f0
 replace r1:=r1.F n2.f0
 have r2:=n2.row
 simp -dsimp only [go_sem,r1.cell,r2.cell]
 have m2:=m.fr n2.fr
 refine call_of (rel_UnionU (UA.mk' [(.pointer (some ⟨d 5,0,none⟩),baseM g),(.pointer (some ⟨d 6,0,none⟩),pscfM g)] r2 (pa_cons (m2.hm 5 (by decide)).pa (pa_cons (m2.hm 6 (by decide)).pa pa_nil)) (by simp) (by simp))) ?_
 rintro v3 h3 ⟨f3,t3⟩
 have f3_z:=f3.size
 replace p0:=p0.F f3
 replace r1:=r1.F f3
 replace r2:=r2.F f3
 have t3:=t3.congr (M':=pscM g) fun i j _ _=>by simp [orM,pscM]
 simp -dsimp only [go_sem,r1.cell,r2.cell]
 refine call_of (rel_Cycle t3 (ht.fr p0 (.inr rfl))) ?_
 rintro v4 h4 ⟨f4,o4⟩
 have f4_z:=f4.size
 replace p0:=p0.F f4
 replace r1:=r1.F f4
 replace r2:=r2.F f4
 simp -dsimp only [go_sem,r1.cell,r2.cell]
 refine ⟨p0,?_⟩
 rw [natsI,List.length_map,← natsV_ints]
 exact o4.lower (by omega)
theorem rc11_axioms_2 (m:Ms h lo mb q g c rd wr fe d L) (ht:TabAt h) :
  Con Tryd.prog 131 #[.pointer (some ⟨mb,0,none⟩)] h fun v h'=>Fr 0 0 h h'∧Holder 1 h' v (natsI (cycS g.n (thinM g))).length (intsV (natsI (cycS g.n (thinM g)))) h.size:=by
 refine con_q59 ?_
 have p0:Fr 0 0 h h:=.refl _ _ _
 have r1:=m.row
 unfold scells at r1
 simp -dsimp only [go_sem,r1.cell]
 intro b2 h2 n2
 have n2_z:=n2.az
 replace p0:=p0.F n2.f0
 replace r1:=r1.F n2.f0
 have r2:=n2.row
 simp -dsimp only [go_sem,r1.cell,r2.cell]
 have m2:=m.fr n2.fr
 refine call_of (rel_UnionU (UA.mk' [(.pointer (some ⟨c 0,0,none⟩),relM g 0),(.pointer (some ⟨c 1,0,none⟩),relM g 1)] r2 (pa_cons (m2.rel 0 (by decide)) (pa_cons (m2.rel 1 (by decide)) pa_nil)) (by simp) (by simp))) ?_
 rintro v3 h3 ⟨f3,t3⟩
 have f3_z:=f3.size
 replace p0:=p0.F f3
 replace r1:=r1.F f3
 replace r2:=r2.F f3
 have t3:=t3.congr (M':=thinM g) fun i j _ _=>by simp [orM,thinM]
 simp -dsimp only [go_sem,r1.cell,r2.cell]
 refine call_of (rel_Cycle t3 (ht.fr p0 (.inr rfl))) ?_
 rintro v4 h4 ⟨f4,o4⟩
 have f4_z:=f4.size
 replace p0:=p0.F f4
 replace r1:=r1.F f4
 replace r2:=r2.F f4
 simp -dsimp only [go_sem,r1.cell,r2.cell]
 refine ⟨p0,?_⟩
 rw [natsI,List.length_map,← natsV_ints]
 exact o4.lower (by omega)
end
end Go.Proofs.Tst
/-
  The source's memory model: Derive, Check.
-/
namespace Go.Proofs.Tst
open Go Go.Vc
theorem rcAx_at {g:Gr} {k:Nat} (hk:k<4) (h0:∀ l,l<k→rcL g l=[]) (h1:rcL g k≠[]):rcAx g=(((k+1:Nat):Int),rcL g k):=by
 have nn:∀ l:List Nat,natsI l=[]↔l=[]:=fun l=>by unfold natsI;simp
 unfold rcAx
 have hk:k=0∨k=1∨k=2∨k=3:=by omega
 rcases hk with rfl | rfl | rfl | rfl
 ·rw [if_pos (show coh g≠[] from h1)];rfl
 ·have e0:coh g=[]:=h0 0 (by decide)
  rw [if_neg (by simp [e0]),if_pos (show atomS g≠[] from h1)];rfl
 ·have e0:coh g=[]:=h0 0 (by decide)
  have e1:atomS g=[]:=h0 1 (by decide)
  have e2:cycS g.n (pscM g)≠[]:=fun e=>h1 ((nn _).2 e)
  rw [if_neg (by simp [e0]),if_neg (by simp [e1]),if_pos e2];rfl
 ·have e0:coh g=[]:=h0 0 (by decide)
  have e1:atomS g=[]:=h0 1 (by decide)
  have e2:cycS g.n (pscM g)=[]:=(nn _).1 (h0 2 (by decide))
  have e3:cycS g.n (thinM g)≠[]:=fun e=>h1 ((nn _).2 e)
  rw [if_neg (by simp [e0]),if_neg (by simp [e1]),if_neg (by simp [e2]),if_pos e3];rfl
theorem rcAx_none {g:Gr} (h0:∀ l,l<4→rcL g l=[]):rcAx g=(0,[]):=by
 have nn:∀ l:List Nat,natsI l=[]↔l=[]:=fun l=>by unfold natsI;simp
 have e0:coh g=[]:=h0 0 (by decide)
 have e1:atomS g=[]:=h0 1 (by decide)
 have e2:cycS g.n (pscM g)=[]:=(nn _).1 (h0 2 (by decide))
 have e3:cycS g.n (thinM g)=[]:=(nn _).1 (h0 3 (by decide))
 unfold rcAx
 rw [if_neg (by simp [e0]),if_neg (by simp [e1]),if_neg (by simp [e2]),if_neg (by simp [e3])]
section
variable {h : Heap} {q : GV} {g : Gr}
def axC:List Value:=[.int .i64 1,.func (.func 128) #[] #[],.int .i64 2,.func (.func 129) #[] #[],.int .i64 3,.func (.func 130) #[] #[],.int .i64 4,.func (.func 131) #[] #[]]
theorem rc11_axioms {h:Heap}:Con Tryd.prog 80 #[] h fun v h'=>Fr 0 0 h h'∧∃ b,v=.slice (some ⟨b,0,none⟩) 4 4∧Rw h' b axC∧h.size≤b:=by
 refine con_q57 ?_
 simp -dsimp only [go_sem]
 intro b1 h1 n1
 have n1_z:=n1.az
 have r1:=n1.row
 try simp -dsimp only [go_sem] at r1
 simp -dsimp only [go_sem,r1.cell]
 exact ⟨n1.fr,b1,rfl,r1,by omega⟩
set_option maxHeartbeats 2000000 in
theorem rc11_Check (t:GrAt h q g) (ht:TabAt h) :
  Con Tryd.prog 41 #[.agg (gcells q g).toArray] h fun v h'=>Fr 0 0 h h'∧if (g.check false).1=0 then ∃ w,v=.tuple #[.int .i64 (rcAx g).1,w,.int .i64 0]∧Holder 1 h' w (rcAx g).2.length (intsV (rcAx g).2) h.size
   else v=.tuple #[.int .i64 0,.slice none 0 0,.int .i64 4]:=by
 have p0:Fr 0 0 h h:=.refl _ _ _
 by_cases hc:(g.check false).1=0
 rotate_left
 ·simp only [if_neg hc]
  refine con_q56 ?_
  unfold gcells
  simp -dsimp only [go_sem]
  intro b1 h1 n1
  have n1_a:=n1.at_
  have n1_z:=n1.size
  replace p0:=p0.F n1.f0
  have r1:=n1.row
  simp -dsimp only [go_sem,r1.cell]
  refine call_of (rc11_derive (t.fr p0) (ht.fr p0 (.inr rfl))) ?_
  rintro v2 h3 ⟨f2,w⟩
  have f2_z:=f2.size
  replace p0:=p0.F f2
  replace r1:=r1.F f2
  rw [if_neg hc] at w
  subst w
  simp -dsimp only [go_sem,r1.cell]
  exact p0
 simp only [if_pos hc]
 refine con_q56 ?_
 unfold gcells
 simp -dsimp only [go_sem]
 intro b1 h1 n1
 have n1_a:=n1.at_
 have n1_z:=n1.size
 replace p0:=p0.F n1.f0
 have r1:=n1.row
 simp -dsimp only [go_sem,r1.cell]
 refine call_of (rc11_derive (t.fr p0) (ht.fr p0 (.inr rfl))) ?_
 rintro v2 h3 ⟨f2,w⟩
 have f2_z:=f2.size
 replace p0:=p0.F f2
 replace r1:=r1.F f2
 rw [if_pos hc] at w
 obtain ⟨mb,c,rd,wr,fe,d,L,rfl,m⟩:=w
 have g3:h.size≤h3.size∧h.size≤h1.size∧h1.size≤h3.size:=by omega
 have p3:Fr 0 0 h3 h3:=.refl _ _ _
 simp -dsimp only [go_sem]
 refine call_of (rc11_axioms) ?_
 rintro v4 h4 ⟨f4,b4,rfl,r4,z4⟩
 have f4_z:=f4.size
 replace p0:=p0.F f4
 replace p3:=p3.F f4
 have g4:h1.size≤h4.size:=by omega
 simp -dsimp only [go_sem]
 have P3:=p3
 refine loop_intro (fun i:Nat=>[(5,.pointer (some ⟨mb,0,none⟩)),(17,.slice (some ⟨b4,0,none⟩) 4 4),(18,.int .i64 (4:Nat)),(19,.int .i64 i)])
  (fun i h'=>i≤4∧Fr 0 0 h h'∧Fr 0 0 h3 h'∧Rw h' b4 axC∧∀ l,l<i→rcL g l=[]) (fun i=>4 - i) 0 ?_ ?_ ?_
 ·simp [Le,find]
 ·exact ⟨by omega,p0,p3,r4,fun l hl=>by omega⟩
 clear p0 p3 r4 P3
 rintro i h5 ⟨hi,p0,p3,r4,hL⟩
 unfold axC at r4
 have p0_z:=p0.size
 have p3_z:=p3.size
 have r4_l:=r4.lt
 by_cases hlt:i<4
 ·have e1:((i:Int)<((4:Nat):Int)):=by omega
  have hi':i=0∨i=1∨i=2∨i=3:=by omega
  rcases hi' with rfl | rfl | rfl | rfl
  ·skip
   simp -dsimp only [go_sem,e1,r4.cell]
   intro b6 h6 n6
   have n6_a:=n6.at_
   have n6_z:=n6.size
   replace p0:=p0.F n6.f0
   replace p3:=p3.F n6.f0
   replace r4:=r4.F n6.f0
   have r6:=n6.row
   simp -dsimp only [go_sem,r4.cell,r6.cell]
   refine Chk_intro (r6.W) fun h7 s7=>?_
   have s7_z:=s7.size
   replace p0:=p0.F s7.fr
   replace p3:=p3.F s7.fr
   replace r4:=r4.F s7.fr
   replace r6:=s7.row r6
   try simp only [cl_int,cl_bool,cl_slice,cl_ptr,putAt_one,zs0,zs1,ivec_set,brow_upd] at r6
   try simp -dsimp only [go_sem] at r6
   simp -dsimp only [go_sem,r4.cell,r6.cell]
   refine call_of (rc11_model_coherence (m.fr p3)) ?_
   rintro v8 h8 ⟨f8,o8⟩
   have f8_z:=f8.size
   replace p0:=p0.F f8
   replace p3:=p3.F f8
   replace r4:=r4.F f8
   replace r6:=r6.F f8
   replace o8:Holder 1 h8 v8 (rcL g 0).length (intsV (rcL g 0)) h7.size:=o8
   obtain ⟨a8,c8,rfl⟩:=o8.is
   simp -dsimp only [go_sem,r4.cell,r6.cell]
   by_cases hk:rcL g 0=[]
   ·have hl:¬ (((rcL g 0).length:Nat):Int) > 0:=by rw [hk];decide
    simp -dsimp only [go_sem,hl,r4.cell,r6.cell]
    simp -dsimp (disch:=omega) only [wrap64]
    exact ⟨0+1,by omega,by simp [Le,find],by omega,p0,p3,r4,fun l hl=>by
     by_cases h:l=0
     ·rw [h];exact hk
     ·exact hL l (by omega)⟩
   ·have hl:(((rcL g 0).length:Nat):Int) > 0:=by have:=List.length_pos_iff.2 hk;omega
    simp -dsimp only [go_sem,hl,r4.cell,r6.cell]
    rw [rcAx_at (by decide) hL hk]
    exact ⟨p0,_,rfl,o8.lower (by omega)⟩
  ·skip
   simp -dsimp only [go_sem,e1,r4.cell]
   intro b6 h6 n6
   have n6_a:=n6.at_
   have n6_z:=n6.size
   replace p0:=p0.F n6.f0
   replace p3:=p3.F n6.f0
   replace r4:=r4.F n6.f0
   have r6:=n6.row
   simp -dsimp only [go_sem,r4.cell,r6.cell]
   refine Chk_intro (r6.W) fun h7 s7=>?_
   have s7_z:=s7.size
   replace p0:=p0.F s7.fr
   replace p3:=p3.F s7.fr
   replace r4:=r4.F s7.fr
   replace r6:=s7.row r6
   try simp only [cl_int,cl_bool,cl_slice,cl_ptr,putAt_one,zs0,zs1,ivec_set,brow_upd] at r6
   try simp -dsimp only [go_sem] at r6
   simp -dsimp only [go_sem,r4.cell,r6.cell]
   refine call_of (rc11_model_atomicity (m.fr p3) (ht.fr p0 (.inr rfl))) ?_
   rintro v8 h8 ⟨f8,o8⟩
   have f8_z:=f8.size
   replace p0:=p0.F f8
   replace p3:=p3.F f8
   replace r4:=r4.F f8
   replace r6:=r6.F f8
   replace o8:Holder 1 h8 v8 (rcL g 1).length (intsV (rcL g 1)) h7.size:=o8
   obtain ⟨a8,c8,rfl⟩:=o8.is
   simp -dsimp only [go_sem,r4.cell,r6.cell]
   by_cases hk:rcL g 1=[]
   ·have hl:¬ (((rcL g 1).length:Nat):Int) > 0:=by rw [hk];decide
    simp -dsimp only [go_sem,hl,r4.cell,r6.cell]
    simp -dsimp (disch:=omega) only [wrap64]
    exact ⟨1+1,by omega,by simp [Le,find],by omega,p0,p3,r4,fun l hl=>by
     by_cases h:l=1
     ·rw [h];exact hk
     ·exact hL l (by omega)⟩
   ·have hl:(((rcL g 1).length:Nat):Int) > 0:=by have:=List.length_pos_iff.2 hk;omega
    simp -dsimp only [go_sem,hl,r4.cell,r6.cell]
    rw [rcAx_at (by decide) hL hk]
    exact ⟨p0,_,rfl,o8.lower (by omega)⟩
  ·skip
   simp -dsimp only [go_sem,e1,r4.cell]
   intro b6 h6 n6
   have n6_a:=n6.at_
   have n6_z:=n6.size
   replace p0:=p0.F n6.f0
   replace p3:=p3.F n6.f0
   replace r4:=r4.F n6.f0
   have r6:=n6.row
   simp -dsimp only [go_sem,r4.cell,r6.cell]
   refine Chk_intro (r6.W) fun h7 s7=>?_
   have s7_z:=s7.size
   replace p0:=p0.F s7.fr
   replace p3:=p3.F s7.fr
   replace r4:=r4.F s7.fr
   replace r6:=s7.row r6
   try simp only [cl_int,cl_bool,cl_slice,cl_ptr,putAt_one,zs0,zs1,ivec_set,brow_upd] at r6
   try simp -dsimp only [go_sem] at r6
   simp -dsimp only [go_sem,r4.cell,r6.cell]
   refine call_of (rc11_axioms_1 (m.fr p3) (ht.fr p0 (.inr rfl))) ?_
   rintro v8 h8 ⟨f8,o8⟩
   have f8_z:=f8.size
   replace p0:=p0.F f8
   replace p3:=p3.F f8
   replace r4:=r4.F f8
   replace r6:=r6.F f8
   replace o8:Holder 1 h8 v8 (rcL g 2).length (intsV (rcL g 2)) h7.size:=o8
   obtain ⟨a8,c8,rfl⟩:=o8.is
   simp -dsimp only [go_sem,r4.cell,r6.cell]
   by_cases hk:rcL g 2=[]
   ·have hl:¬ (((rcL g 2).length:Nat):Int) > 0:=by rw [hk];decide
    simp -dsimp only [go_sem,hl,r4.cell,r6.cell]
    simp -dsimp (disch:=omega) only [wrap64]
    exact ⟨2+1,by omega,by simp [Le,find],by omega,p0,p3,r4,fun l hl=>by
     by_cases h:l=2
     ·rw [h];exact hk
     ·exact hL l (by omega)⟩
   ·have hl:(((rcL g 2).length:Nat):Int) > 0:=by have:=List.length_pos_iff.2 hk;omega
    simp -dsimp only [go_sem,hl,r4.cell,r6.cell]
    rw [rcAx_at (by decide) hL hk]
    exact ⟨p0,_,rfl,o8.lower (by omega)⟩
  ·skip
   simp -dsimp only [go_sem,e1,r4.cell]
   intro b6 h6 n6
   have n6_a:=n6.at_
   have n6_z:=n6.size
   replace p0:=p0.F n6.f0
   replace p3:=p3.F n6.f0
   replace r4:=r4.F n6.f0
   have r6:=n6.row
   simp -dsimp only [go_sem,r4.cell,r6.cell]
   refine Chk_intro (r6.W) fun h7 s7=>?_
   have s7_z:=s7.size
   replace p0:=p0.F s7.fr
   replace p3:=p3.F s7.fr
   replace r4:=r4.F s7.fr
   replace r6:=s7.row r6
   try simp only [cl_int,cl_bool,cl_slice,cl_ptr,putAt_one,zs0,zs1,ivec_set,brow_upd] at r6
   try simp -dsimp only [go_sem] at r6
   simp -dsimp only [go_sem,r4.cell,r6.cell]
   refine call_of (rc11_axioms_2 (m.fr p3) (ht.fr p0 (.inr rfl))) ?_
   rintro v8 h8 ⟨f8,o8⟩
   have f8_z:=f8.size
   replace p0:=p0.F f8
   replace p3:=p3.F f8
   replace r4:=r4.F f8
   replace r6:=r6.F f8
   replace o8:Holder 1 h8 v8 (rcL g 3).length (intsV (rcL g 3)) h7.size:=o8
   obtain ⟨a8,c8,rfl⟩:=o8.is
   simp -dsimp only [go_sem,r4.cell,r6.cell]
   by_cases hk:rcL g 3=[]
   ·have hl:¬ (((rcL g 3).length:Nat):Int) > 0:=by rw [hk];decide
    simp -dsimp only [go_sem,hl,r4.cell,r6.cell]
    simp -dsimp (disch:=omega) only [wrap64]
    exact ⟨3+1,by omega,by simp [Le,find],by omega,p0,p3,r4,fun l hl=>by
     by_cases h:l=3
     ·rw [h];exact hk
     ·exact hL l (by omega)⟩
   ·have hl:(((rcL g 3).length:Nat):Int) > 0:=by have:=List.length_pos_iff.2 hk;omega
    simp -dsimp only [go_sem,hl,r4.cell,r6.cell]
    rw [rcAx_at (by decide) hL hk]
    exact ⟨p0,_,rfl,o8.lower (by omega)⟩
 ·obtain rfl:i=4:=by omega
  simp -dsimp only [go_sem,Int.lt_irrefl,r4.cell]
  rw [rcAx_none hL]
  exact ⟨p0,_,rfl,.none _ _ _⟩
end
end Go.Proofs.Tst
/-
  Sequential consistency and TSO (plain).
-/
namespace Go.Proofs.Tst
open Go Go.Vc
def allM (g:Gr) (i j:Nat):Bool:=relM g 0 i j||relM g 1 i j||relM g 2 i j||relM g 9 i j
def fullB (g:Gr) (i:Nat):Bool:=isK g 3 i&&(isM g 5 i||isM g 15 i)
def tiedB (g:Gr) (i:Nat):Bool:=g.rmw.any fun p=>p.1==(i:Int)||p.2==(i:Int)
def keptM (g:Gr) (i j:Nat):Bool:=(relM g 0 i j&&(!isK g 3 i&&!isK g 3 j&&(isK g 1 i||isK g 2 j)))||(relM g 0 i j&&(tiedB g i||tiedB g j))||exB g.n fun f=>fullB g f&&relM g 0 i f&&relM g 0 f j
def globM (g:Gr) (i j:Nat):Bool:=keptM g i j||rfeM g i j||relM g 2 i j||relM g 9 i j
def scAx (g:Gr):Int×List Int:=
 if cycS g.n (allM g)≠[] then (1,natsI (cycS g.n (allM g)))
 else if atomS g≠[] then (2,atomS g)
 else (0,[])
def tsoAx (g:Gr):Int×List Int:=
 if cycS g.n (inM g)≠[] then (1,natsI (cycS g.n (inM g)))
 else if atomS g≠[] then (2,atomS g)
 else if cycS g.n (globM g)≠[] then (3,natsI (cycS g.n (globM g)))
 else (0,[])
theorem scAx_zero {g:Gr}:(scAx g).1=0↔cycS g.n (allM g)=[]∧∀ p∈g.rmw,tornS g p=false:=by
 rw [← atomS_nil]
 unfold scAx
 by_cases h1:cycS g.n (allM g)=[]
 ·rw [if_neg (by simp [h1])]
  by_cases h2:atomS g=[]
  ·rw [if_neg (by simp [h2])];simp [h1,h2]
  ·rw [if_pos h2];simp [h2]
 ·rw [if_pos h1];simp [h1]
theorem tsoAx_zero {g:Gr}:(tsoAx g).1=0↔cycS g.n (inM g)=[]∧(∀ p∈g.rmw,tornS g p=false)∧cycS g.n (globM g)=[]:=by
 rw [← atomS_nil]
 unfold tsoAx
 by_cases h1:cycS g.n (inM g)=[]
 ·rw [if_neg (by simp [h1])]
  by_cases h2:atomS g=[]
  ·rw [if_neg (by simp [h2])]
   by_cases h3:cycS g.n (globM g)=[]
   ·rw [if_neg (by simp [h3])];simp [h1,h2,h3]
   ·rw [if_pos h3];simp [h3]
  ·rw [if_pos h2];simp [h2]
 ·rw [if_pos h1];simp [h1]
theorem acyc_ways {n:Nat} {M N:Nat→Nat→Bool} (hN:cycS n N=[]) (h:∀ i j,i<n→j<n→M i j=true→plusM n N i j=true):cycS n M=[]:=by
 rw [cyc_acyc] at hN ⊢
 unfold irrB at hN ⊢
 rw [List.all_eq_true] at hN ⊢
 intro i hi
 have hi':=List.mem_range.1 hi
 cases hp:plusM n M i i
 ·rfl
 ·have:=plus_least (N:=fun x y=>plusM n N x y=true) h (fun _ _ _ _ hx _ h1 h2=>plus_trans hx h1 h2) hi' hi' hp
  have h2:=hN i hi
  rw [this] at h2;cases h2
section
variable {g : Gr}
theorem w_po {i j:Nat} (h:relM g 0 i j=true):plusM g.n (allM g) i j=true:=plus_sub (by unfold allM;rw [h];rfl)
theorem w_rf {i j:Nat} (h:relM g 1 i j=true):plusM g.n (allM g) i j=true:=plus_sub (by unfold allM;rw [h];simp)
theorem w_co {i j:Nat} (h:relM g 2 i j=true):plusM g.n (allM g) i j=true:=plus_sub (by unfold allM;rw [h];simp)
theorem w_fr {i j:Nat} (h:relM g 9 i j=true):plusM g.n (allM g) i j=true:=plus_sub (by unfold allM;rw [h];simp)
theorem sc_tso (h:(scAx g).1=0):(tsoAx g).1=0:=by
 obtain ⟨h1,h2⟩:=scAx_zero.1 h
 refine tsoAx_zero.2 ⟨acyc_ways h1 fun i j hi hj hm=>?_,h2,acyc_ways h1 fun i j hi hj hm=>?_⟩
 ·unfold inM at hm
  simp only [Bool.or_eq_true,Bool.and_eq_true] at hm
  rcases hm with ((⟨hm,-⟩ | hm) | hm) | hm
  ·exact w_po hm
  ·exact w_rf hm
  ·exact w_co hm
  ·exact w_fr hm
 ·unfold globM keptM rfeM at hm
  simp only [Bool.or_eq_true,Bool.and_eq_true,exB_true] at hm
  rcases hm with ((((⟨hm,-⟩ | ⟨hm,-⟩) | ⟨f,hf,⟨-,k1⟩,k2⟩) | ⟨hm,-⟩) | hm) | hm
  ·exact w_po hm
  ·exact w_po hm
  ·exact plus_trans hf (w_po k1) (w_po k2)
  ·exact w_rf hm
  ·exact w_co hm
  ·exact w_fr hm
theorem all_tr {i x j:Nat} (hx:x<g.n) (h1:plusM g.n (allM g) i x=true) (h2:plusM g.n (allM g) x j=true):plusM g.n (allM g) i j=true:=plus_trans hx h1 h2
theorem dep_po (hc:(g.check true).1=0) {i j:Nat}:(relM g 6 i j=true→relM g 0 i j=true)∧(relM g 7 i j=true→relM g 0 i j=true)∧(relM g 8 i j=true→relM g 0 i j=true):=by
 obtain ⟨-,-,-,-,-,h6,h7,h8,h9⟩:=check_zero hc
 exact ⟨fun hm=>dep_go h7 hm,fun hm=>dep_go h8 hm,fun hm=>dep_go h9 hm⟩
theorem w_ob (hc:(g.check true).1=0) {i j:Nat} (hi:i<g.n) (hj:j<g.n) (h:obM g i j=true):plusM g.n (allM g) i j=true:=by
 have d6:∀ {i j},relM g 6 i j=true→plusM g.n (allM g) i j=true:=fun h=>w_po ((dep_po hc).1 h)
 have d7:∀ {i j},relM g 7 i j=true→plusM g.n (allM g) i j=true:=fun h=>w_po ((dep_po hc).2.1 h)
 have d8:∀ {i j},relM g 8 i j=true→plusM g.n (allM g) i j=true:=fun h=>w_po ((dep_po hc).2.2 h)
 unfold obM at h
 simp only [Bool.or_eq_true] at h
 rcases h with ((h | h) | h) | h
 ·unfold obsM rfeM coeM freM at h
  simp only [Bool.or_eq_true,Bool.and_eq_true] at h
  rcases h with (⟨h,-⟩ | ⟨h,-⟩) | ⟨h,-⟩
  ·exact w_rf h
  ·exact w_co h
  ·exact w_fr h
 ·unfold dobM coiM rfiM at h
  simp only [Bool.or_eq_true,Bool.and_eq_true,exB_true] at h
  rcases h with ((((h | h) | ⟨h,-⟩) | ⟨⟨k,hk,h1,h2⟩,-⟩) | ⟨k,hk,h1,h2,-⟩) | ⟨k,hk,h1,h2,-⟩
  ·exact d6 h
  ·exact d7 h
  ·exact d8 h
  ·exact all_tr hk (d6 h1) (w_po h2)
  ·exact all_tr hk (h1.elim d8 d7) (w_co h2)
  ·exact all_tr hk (h1.elim d6 d7) (w_rf h2)
 ·unfold aobM rfiM at h
  simp only [Bool.or_eq_true,Bool.and_eq_true] at h
  rcases h with h | ⟨⟨-,h,-⟩,-⟩
  ·exact w_po (rmw_po hc h)
  ·exact w_rf h
 ·unfold bobM coiM at h
  simp only [Bool.or_eq_true,Bool.and_eq_true,exB_true] at h
  rcases h with ((((⟨k,hk,⟨h1,-⟩,h2⟩ | ⟨k,hk,⟨⟨-,h1⟩,-⟩,h2⟩) | ⟨⟨-,h⟩,-⟩) | ⟨-,h⟩) | ⟨h,-⟩) | ⟨k,hk,⟨h1,-⟩,h2,-⟩
  ·exact all_tr hk (w_po h1) (w_po h2)
  ·exact all_tr hk (w_po h1) (w_po h2)
  ·exact w_po h
  ·exact w_po h
  ·exact w_po h
  ·exact all_tr hk (w_po h1) (w_co h2)
theorem sc_arm (hc:(g.check true).1=0) (h:(scAx g).1=0):(armAx g).1=0:=by
 obtain ⟨h1,h2⟩:=scAx_zero.1 h
 refine armAx_zero.2 ⟨(tsoAx_zero.1 (sc_tso h)).1,acyc_ways h1 fun i j hi hj hm=>w_ob hc hi hj hm,fun p hp=>?_⟩
 have ht:=h2 p hp
 cases hx:tornB g p
 ·rfl
 ·have:tornS g p=true:=by
   unfold tornB freM coeM at hx
   unfold tornS
   simp only [Bool.and_eq_true,exB_true] at hx ⊢
   obtain ⟨k1,k,hk,⟨a,-⟩,b,-⟩:=hx
   exact ⟨k1,k,hk,a,b⟩
  rw [ht] at this;cases this
end
end Go.Proofs.Tst
/-
  Sequential consistency of a graph all of whose accesses are SC (plain).
-/
namespace Go.Proofs.Tst
open Go Go.Vc
section
variable {g : Gr}
end
end Go.Proofs.Tst
/-
  Sequential consistency and TSO: the axioms in a row (plain).
-/
namespace Go.Proofs.Tst
open Go Go.Vc
def scL (g:Gr) (k:Nat):List Int:=match k with | 0=>natsI (cycS g.n (allM g)) | _=>atomS g
def tsoL (g:Gr) (k:Nat):List Int:=match k with | 0=>natsI (cycS g.n (inM g)) | 1=>atomS g | _=>natsI (cycS g.n (globM g))
theorem natsI_nil {l:List Nat}:natsI l=[]↔l=[]:=by unfold natsI;simp
theorem scAx_at {g:Gr} {k:Nat} (hk:k<2) (h0:∀ l,l<k→scL g l=[]) (h1:scL g k≠[]):scAx g=(((k+1:Nat):Int),scL g k):=by
 unfold scAx
 have hk:k=0∨k=1:=by omega
 rcases hk with rfl | rfl
 ·rw [if_pos (show cycS g.n (allM g)≠[] from fun e=>h1 (natsI_nil.2 e))];rfl
 ·have e0:cycS g.n (allM g)=[]:=natsI_nil.1 (h0 0 (by decide))
  rw [if_neg (by simp [e0]),if_pos (show atomS g≠[] from h1)];rfl
theorem scAx_none {g:Gr} (h0:∀ l,l<2→scL g l=[]):scAx g=(0,[]):=by
 have e0:cycS g.n (allM g)=[]:=natsI_nil.1 (h0 0 (by decide))
 have e1:atomS g=[]:=h0 1 (by decide)
 unfold scAx
 rw [if_neg (by simp [e0]),if_neg (by simp [e1])]
theorem tsoAx_at {g:Gr} {k:Nat} (hk:k<3) (h0:∀ l,l<k→tsoL g l=[]) (h1:tsoL g k≠[]):tsoAx g=(((k+1:Nat):Int),tsoL g k):=by
 unfold tsoAx
 have hk:k=0∨k=1∨k=2:=by omega
 rcases hk with rfl | rfl | rfl
 ·rw [if_pos (show cycS g.n (inM g)≠[] from fun e=>h1 (natsI_nil.2 e))];rfl
 ·have e0:cycS g.n (inM g)=[]:=natsI_nil.1 (h0 0 (by decide))
  rw [if_neg (by simp [e0]),if_pos (show atomS g≠[] from h1)];rfl
 ·have e0:cycS g.n (inM g)=[]:=natsI_nil.1 (h0 0 (by decide))
  have e1:atomS g=[]:=h0 1 (by decide)
  rw [if_neg (by simp [e0]),if_neg (by simp [e1]),if_pos (show cycS g.n (globM g)≠[] from fun e=>h1 (natsI_nil.2 e))];rfl
theorem tsoAx_none {g:Gr} (h0:∀ l,l<3→tsoL g l=[]):tsoAx g=(0,[]):=by
 have e0:cycS g.n (inM g)=[]:=natsI_nil.1 (h0 0 (by decide))
 have e1:atomS g=[]:=h0 1 (by decide)
 have e2:cycS g.n (globM g)=[]:=natsI_nil.1 (h0 2 (by decide))
 unfold tsoAx
 rw [if_neg (by simp [e0]),if_neg (by simp [e1]),if_neg (by simp [e2])]
def keptP (g:Gr) (i j:Nat):Bool:=
 (relM g 0 i j&&isK g 1 i&&!isK g 3 j)||(relM g 0 i j&&!isK g 3 i&&isK g 2 j)||(exB g.n fun f=>relM g 0 i f&&fullB g f&&relM g 0 f j)||(relM g 0 i j&&tiedB g j)||(tiedB g i&&relM g 0 i j)
theorem keptP_in {g:Gr} {i j:Nat}:keptP g i j=keptM g i j:=by
 have hx:(exB g.n fun f=>relM g 0 i f&&fullB g f&&relM g 0 f j)=exB g.n fun f=>fullB g f&&relM g 0 i f&&relM g 0 f j:=by
  congr 1;funext f;cases relM g 0 i f <;> cases fullB g f <;> rfl
 unfold keptP keptM
 rw [hx]
 have k1:isK g 1 i=true→isK g 3 i=false:=fun h=>by unfold isK at *;simp only [beq_iff_eq] at h;rw [h];rfl
 have k2:isK g 2 j=true→isK g 3 j=false:=fun h=>by unfold isK at *;simp only [beq_iff_eq] at h;rw [h];rfl
 cases relM g 0 i j <;> cases h1:isK g 1 i <;> cases h3:isK g 3 i <;> cases h4:isK g 2 j <;> cases h5:isK g 3 j <;> cases tiedB g i <;> cases tiedB g j <;> cases (exB g.n fun f=>fullB g f&&relM g 0 i f&&relM g 0 f j) <;> simp_all
end Go.Proofs.Tst
/-
  A source graph as one of words (plain).
-/
namespace Go.Proofs.Tst
open Go Go.Vc
def mapMode (k m:Int):Int:=if k=3 then (if m=2 then 14 else 15) else if m=1 then 11 else if k=1 then 12 else 13
def pairB (g:Gr) (i:Nat):Bool:=g.rmw.any fun p=>p.1==(i:Int)
def lseB (g:Gr) (lse:Bool) (i:Nat):Bool:=lse&&(g.ev i).kind==1&&(g.ev i).mode==2&&!pairB g i
def mapEv (g:Gr) (lse:Bool) (i:Nat):Ev:={ g.ev i with mode:=if lseB g lse i=true then 16 else mapMode (g.ev i).kind (g.ev i).mode }
def rlxB (g:Gr) (i:Nat):Bool:=(g.ev i).kind==1&&(g.ev i).mode==1
def ctrlTo (g:Gr) (i k:Nat):List (Int×Int):=((List.range k).filter fun b=>relM g 0 i b).map fun (b:Nat)=>((i:Int),(b:Int))
def ctrlOf (g:Gr) (i:Nat):List (Int×Int):=if rlxB g i=true then ctrlTo g i g.n else []
def mapTo (g:Gr) (k:Nat):List (Int×Int):=(List.range k).flatMap (ctrlOf g)
def evsTo (g:Gr) (lse:Bool) (k:Nat):List Ev:=(List.range g.n).map fun j=>if j<k then mapEv g lse j else g.ev j
def mapG (g:Gr) (lse:Bool):Gr:=⟨g.cells,evsTo g lse g.n,g.rf,g.co,g.rmw,[],[],mapTo g g.n⟩
section
variable {g : Gr} {lse : Bool}
theorem ctrlTo_len {i k:Nat}:(ctrlTo g i k).length≤k:=by
 unfold ctrlTo
 rw [List.length_map]
 exact Nat.le_trans (List.length_filter_le _ _) (by simp)
theorem ctrlOf_len {i:Nat}:(ctrlOf g i).length≤g.n:=by
 unfold ctrlOf
 split
 ·exact ctrlTo_len
 ·simp
theorem mapTo_succ {k:Nat}:mapTo g (k+1)=mapTo g k++ctrlOf g k:=by unfold mapTo;rw [List.range_succ,List.flatMap_append];simp
theorem mapTo_len:∀ {k:Nat},(mapTo g k).length≤k * g.n
 | 0=>by simp [mapTo]
 | k+1=>by
  have ih:=mapTo_len (k:=k)
  have:=ctrlOf_len (g:=g) (i:=k)
  rw [mapTo_succ,List.length_append,Nat.add_mul];omega
@[simp] theorem evsTo_len {k:Nat}:(evsTo g lse k).length=g.n:=by unfold evsTo;simp
theorem evsTo_get {k i:Nat} (hi:i<g.n):(evsTo g lse k)[i]?=some (if i<k then mapEv g lse i else g.ev i):=by
 unfold evsTo
 rw [List.getElem?_map,List.getElem?_range hi];rfl
theorem ev_get {i:Nat} (hi:i<g.n):g.evs[i]?=some (g.ev i):=by
 unfold Gr.ev
 rw [List.getD_eq_getElem?_getD]
 have:i<g.evs.length:=hi
 rw [List.getElem?_eq_getElem this];rfl
theorem evsTo_zero:evsTo g lse 0=g.evs:=by
 apply List.ext_getElem?
 intro i
 by_cases hi:i<g.n
 ·rw [evsTo_get hi,ev_get hi];simp
 ·rw [List.getElem?_eq_none (by simp;omega),List.getElem?_eq_none (by exact Nat.le_of_not_lt hi)]
theorem evsTo_succ {k:Nat} (hk:k<g.n):evsTo g lse (k+1)=(evsTo g lse k).set k (mapEv g lse k):=by
 apply List.ext_getElem?
 intro i
 by_cases hi:i<g.n
 ·rw [evsTo_get hi,List.getElem?_set]
  by_cases he:k=i
  ·subst he;simp [hk]
  ·rw [if_neg he,evsTo_get hi]
   by_cases h1:i<k
   ·rw [if_pos h1,if_pos (by omega)]
   ·rw [if_neg h1,if_neg (by omega)]
 ·rw [List.getElem?_eq_none (by simp;omega),List.getElem?_eq_none (by simp;omega)]
theorem mapG_n:(mapG g lse).n=g.n:=by show (evsTo g lse g.n).length=g.n;simp
theorem mapG_ev {i:Nat} (hi:i<g.n):(mapG g lse).ev i=mapEv g lse i:=by
 unfold Gr.ev mapG
 rw [List.getD_eq_getElem?_getD,evsTo_get hi];simp [hi]
end
end Go.Proofs.Tst
/-
  The order of a graph's events: where the graph is sequentially consistent there is one (plain).
-/
namespace Go.Proofs.Tst
open Go Go.Vc
section
variable {n : Nat} {M : Nat → Nat → Bool} {F : Nat → Nat} {S : Nat → Int}
end
/-! ### The order -/
section
variable {g : Gr}
structure PairOk (g:Gr) (a b:Nat):Prop where
 la:a<g.n
 lb:b<g.n
 ka:(g.ev a).kind=1
 kb:(g.ev b).kind=2
 po:relM g 0 a b=true
 nx:∀ i,a<i→i<b→(g.ev i).thread≠(g.ev a).thread
 loc:(g.ev a).loc=(g.ev b).loc
theorem pair_ok (hg:g.good=true) {p:Int×Int} (hp:p∈g.rmw):∃ a b:Nat,p=((a:Int),(b:Int))∧PairOk g a b:=by
 obtain ⟨words,hz⟩:=good_check hg
 obtain ⟨-,-,-,-,-,h6,-⟩:=check_iff.1 hz
 have hok:=(rmw_iff.1 h6).2 p hp
 unfold rmwOk Gr.is Gr.isNext at hok
 simp only [Bool.and_eq_true,decide_eq_true_eq,beq_iff_eq,List.all_eq_true,List.mem_range'_1,Bool.not_eq_true',beq_eq_false_iff_ne] at hok
 obtain ⟨⟨⟨⟨⟨a1,a2⟩,a3⟩,⟨b1,b2⟩,b3⟩,c1,c2⟩,d⟩:=hok
 obtain ⟨x,y⟩:=p
 obtain ⟨a,rfl⟩:∃ a:Nat,x=a:=⟨x.toNat,by dsimp only at a1;omega⟩
 obtain ⟨b,rfl⟩:∃ b:Nat,y=b:=⟨y.toNat,by dsimp only at b1;omega⟩
 simp only [Int.toNat_natCast] at a3 b3 c2 d
 dsimp only at a2 b2 c1
 exact ⟨a,b,rfl,by omega,by omega,a3,b3,c1,fun i h1 h2=>c2 i (by omega),d⟩
end
end Go.Proofs.Tst
/-
  Orders of a graph's events: what is right; the replay (plain).
-/
namespace Go.Proofs.Tst
open Go Go.Vc
section
variable {g : Gr}
theorem ev_init (hg:g.good=true) {i:Nat} (hi:i<g.n):((g.ev i).thread = -1∧(g.ev i).kind=2∧(i:Int)<g.cells∧(g.ev i).loc=(i:Int))∨(0≤(g.ev i).thread∧g.cells≤(i:Int)):=by
 obtain ⟨words,h⟩:=good_check hg
 obtain ⟨hs,h2,h3,-⟩:=check_zero h
 simp only [Gr.size,Bool.and_eq_true,decide_eq_true_eq] at hs
 by_cases hc:i<g.cells.toNat
 ·have:=firstEv_neg _ _ h2 i (by omega) (by omega)
  simp only [Bool.not_eq_false',beq_iff_eq] at this
  left;rw [this];unfold Gr.first;exact ⟨rfl,rfl,by omega,rfl⟩
 ·have:=firstEv_neg _ _ h3 i (by omega) (by omega)
  simp only [Bool.not_eq_false'] at this
  unfold Gr.evOk at this
  simp only [Bool.and_eq_true,decide_eq_true_eq] at this
  right;exact ⟨this.1.1.1,by omega⟩
theorem co_in (hg:g.good=true) {i j:Nat} (h:relM g 2 i j=true):0≤(g.ev j).thread∧(g.ev i).kind=2∧(g.ev j).kind=2∧(g.ev i).loc=(g.ev j).loc∧0≤(g.ev j).loc∧i<g.n∧j<g.n:=by
 obtain ⟨hin,hjn⟩:=ofM_in (n:=g.n) (l:=coPairs g) h
 obtain ⟨c,hcl,hp⟩:=coPairs_list (ofM_mem' (L:=coPairs g) h)
 obtain ⟨hnd,hall,-⟩:=co_list hg hcl
 obtain ⟨x1,x2⟩:=hall _ (lpairs_mem hp).1
 obtain ⟨y1,y2⟩:=hall _ (lpairs_mem hp).2
 have hb:=(good_co hg).2 c hcl
 unfold Gr.coBad at hb
 simp only [Bool.or_eq_false_iff,Bool.not_eq_false',beq_iff_eq,List.all_eq_true,Bool.and_eq_true,decide_eq_true_eq] at hb
 obtain ⟨⟨⟨b1,-⟩,-⟩,b4⟩:=hb
 have hidx:=lpairs_idx b4 hp
 have k1:=(is_lt x1).2.2
 have k2:=(is_lt y1).2.2
 rw [Int.toNat_natCast] at k1 k2 x2 y2
 refine ⟨?_,k1,k2,by omega,by omega,hin,hjn⟩
 rcases ev_init hg hjn with ⟨-,-,-,hl⟩ | ⟨h0,-⟩
 ·rw [y2] at hl
  cases hlist:g.co.getD c [] with
  | nil=>rw [hlist] at b1;cases b1
  | cons a t =>
   rw [hlist] at b1 hidx
   simp at b1
   subst b1
   rw [← hl,List.idxOf_cons_self] at hidx
   omega
 ·exact h0
theorem rf_in (hg:g.good=true) {i j:Nat} (h:relM g 1 i j=true):(g.ev i).kind=2∧(g.ev j).kind=1∧(g.ev i).loc=(g.ev j).loc∧0≤(g.ev i).loc∧0≤(g.ev j).thread∧i<g.n∧j<g.n:=by
 obtain ⟨words,hz⟩:=good_check hg
 obtain ⟨w,r,e,hw,hr,k1,k2,k3,k4⟩:=rf_pair hz (ofM_mem' (L:=g.rf) h)
 simp only [Prod.mk.injEq] at e
 obtain rfl:i=w:=by omega
 obtain rfl:j=r:=by omega
 refine ⟨k1,k2,k3,k4,?_,hw,hr⟩
 rcases ev_init hg hr with ⟨-,hk,-⟩ | ⟨h0,-⟩
 ·rw [hk] at k2;cases k2
 ·exact h0
theorem fr_in {i j:Nat} (hi:i<g.n) (hj:j<g.n):relM g 9 i j=true↔∃ u,u<g.n∧relM g 1 u i=true∧relM g 2 u j=true:=by
 have e:relM g 9 i j=compM g.n (invM (ofM g.n g.rf)) g.n (ofM g.n (coPairs g)) i j:=rfl
 rw [e,compM_in hi hj,exB_true]
 constructor
 ·rintro ⟨k,hk,h⟩
  rw [Bool.and_eq_true] at h
  exact ⟨k,hk,h.1,h.2⟩
 ·rintro ⟨k,hk,h1,h2⟩
  exact ⟨k,hk,by rw [Bool.and_eq_true];exact ⟨h1,h2⟩⟩
def wrB (g:Gr) (c:Int) (x:Nat):Bool:=(g.ev x).kind==2&&(g.ev x).loc==c
theorem wrB_iff {c:Int} {x:Nat}:wrB g c x=true↔(g.ev x).kind=2∧(g.ev x).loc=c:=by unfold wrB;simp
def lastW (g:Gr):List Nat→Int→Option Nat
 | [],_=>none
 | x :: l,c=>match lastW g l c with
  | some w=>some w
  | none=>if wrB g c x then some x else none
theorem lastW_none:∀ {l:List Nat} {c:Int},lastW g l c=none↔∀ x∈l,wrB g c x=false
 | [],c=>by simp [lastW]
 | y :: l,c=>by
  have ih:=lastW_none (l:=l) (c:=c)
  have e:lastW g (y :: l) c=match lastW g l c with | some w=>some w | none=>if wrB g c y then some y else none:=rfl
  rw [e]
  cases h:lastW g l c with
  | some w =>
   dsimp only
   constructor
   ·intro e;cases e
   ·intro hall
    have:=ih.2 fun x hx=>hall x (by simp [hx])
    rw [h] at this;cases this
  | none =>
   dsimp only
   cases hy:wrB g c y
   ·constructor
    ·intro _ x hx
     rcases List.mem_cons.1 hx with rfl | hx
     ·exact hy
     ·exact ih.1 h x hx
    ·intro _;simp
   ·constructor
    ·intro e;simp at e
    ·intro hall
     have:=hall y (by simp)
     rw [hy] at this;cases this
theorem lastW_some:∀ {l:List Nat} {c:Int} {w:Nat},lastW g l c=some w→∃ i:Nat,l[i]?=some w∧wrB g c w=true∧∀ (j y:Nat),i<j→l[j]?=some y→wrB g c y=false
 | [],_,_,h=>by simp [lastW] at h
 | x :: l,c,w,h=>by
  unfold lastW at h
  cases hl:lastW g l c with
  | some v =>
   rw [hl] at h
   simp only [Option.some.injEq] at h
   subst h
   obtain ⟨i,h1,h2,h3⟩:=lastW_some hl
   refine ⟨i+1,by simpa using h1,h2,fun j y hj hy=>?_⟩
   obtain ⟨j,rfl⟩:∃ k,j=k+1:=⟨j - 1,by omega⟩
   exact h3 j y (by omega) (by simpa using hy)
  | none =>
   rw [hl] at h
   cases hw:wrB g c x
   ·simp [hw] at h
   ·simp [hw] at h
    subst h
    refine ⟨0,by simp,hw,fun j y hj hy=>?_⟩
    obtain ⟨j,rfl⟩:∃ k,j=k+1:=⟨j - 1,by omega⟩
    exact lastW_none.1 hl y (List.mem_of_getElem? (i:=j) (by simpa using hy))
def pcM (g:Gr) (i j:Nat):Bool:=relM g 0 i j||relM g 2 i j
def natO (o:Option Nat):Option Int:=o.map fun (w:Nat)=>(w:Int)
def okAt (g:Gr) (m:List Nat) (i x:Nat):Bool:=
 (!decide ((i:Int)<g.cells)||decide ((g.ev x).thread<0))&&(g.rf.all fun p=>!(p.2==(x:Int))||natO (lastW g (m.take i) (g.ev x).loc)==some p.1)&&(g.rmw.all fun p=>!(p.1==(x:Int))||natO m[i+1]? == some p.2)
theorem okAt_iff {m:List Nat} {i x:Nat}:okAt g m i x=true↔((i:Int)<g.cells→(g.ev x).thread<0)∧(∀ p∈g.rf,p.2=(x:Int)→natO (lastW g (m.take i) (g.ev x).loc)=some p.1)∧(∀ p∈g.rmw,p.1=(x:Int)→natO m[i+1]?=some p.2):=by
 unfold okAt
 simp only [Bool.and_eq_true,List.all_eq_true,Bool.or_eq_true,Bool.not_eq_true',decide_eq_false_iff_not,decide_eq_true_eq,beq_eq_false_iff_ne,beq_iff_eq,and_assoc]
 refine and_congr ?_ (and_congr ?_ ?_)
 ·constructor
  ·rintro (h | h) h1
   ·exact absurd h1 h
   ·exact h
  ·intro h
   by_cases h1:(i:Int)<g.cells
   ·exact .inr (h h1)
   ·exact .inl h1
 ·refine forall_congr' fun p=>forall_congr' fun _=>?_
  constructor
  ·rintro (h | h) h1
   ·exact absurd h1 h
   ·exact h
  ·intro h
   by_cases h1:p.2=(x:Int)
   ·exact .inr (h h1)
   ·exact .inl h1
 ·refine forall_congr' fun p=>forall_congr' fun _=>?_
  constructor
  ·rintro (h | h) h1
   ·exact absurd h1 h
   ·exact h
  ·intro h
   by_cases h1:p.1=(x:Int)
   ·exact .inr (h h1)
   ·exact .inl h1
structure Right (g:Gr) (m:List Nat):Prop where
 pre:Pre g.n (pcM g) m
 len:m.length=g.n
 ok:∀ i x,m[i]?=some x→okAt g m i x=true
theorem nodup_at {m:List Nat} (hm:m.Nodup) {i x:Nat} (h:m[i]?=some x):m.idxOf x=i:=by
 obtain ⟨hi,rfl⟩:=List.getElem?_eq_some_iff.1 h
 exact hm.idxOf_getElem i hi
theorem at_nodup {m:List Nat} {x:Nat} (h:x∈m):m[m.idxOf x]?=some x:=by
 have hi:=List.idxOf_lt_length_iff.2 h
 rw [List.getElem?_eq_getElem hi,List.getElem_idxOf]
theorem natO_some {o:Option Nat} {w:Nat}:natO o=some (w:Int)↔o=some w:=by
 unfold natO
 cases o with
 | none=>simp
 | some v=>simp;omega
theorem take_at {m:List Nat} {i j x:Nat}:(m.take i)[j]?=some x↔j<i∧m[j]?=some x:=by
 rw [List.getElem?_take]
 by_cases h:j<i
 ·rw [if_pos h];simp [h]
 ·rw [if_neg h];simp [h]
namespace Right
variable {m : List Nat}
theorem mem (R:Right g m) {x:Nat} (hx:x<g.n):x∈m:=all_in R.pre R.len hx
theorem lt (R:Right g m) {i x:Nat} (h:m[i]?=some x):x<g.n:=R.pre.2.1 x (List.mem_of_getElem? h)
theorem po (R:Right g m) {i j:Nat} (h:relM g 0 i j=true):m.idxOf i<m.idxOf j:=by
 obtain ⟨-,-,h1,h2⟩:=po_th h
 exact R.pre.idx (by omega) (R.mem h2) (by unfold pcM;rw [h];rfl)
theorem co (R:Right g m) (hg:g.good=true) {i j:Nat} (h:relM g 2 i j=true):m.idxOf i<m.idxOf j:=by
 obtain ⟨-,-,-,-,-,h1,h2⟩:=co_in hg h
 exact R.pre.idx h1 (R.mem h2) (by unfold pcM;rw [h];simp)
theorem rd (R:Right g m) (hg:g.good=true) {w x:Nat} (h:relM g 1 w x=true):lastW g (m.take (m.idxOf x)) (g.ev x).loc=some w:=by
 obtain ⟨-,-,-,-,-,h1,h2⟩:=rf_in hg h
 have hok:=(okAt_iff.1 (R.ok _ _ (at_nodup (R.mem h2)))).2.1 ((w:Int),(x:Int)) (ofM_mem' (L:=g.rf) h) rfl
 exact natO_some.1 hok
theorem rf (R:Right g m) (hg:g.good=true) {i j:Nat} (h:relM g 1 i j=true):m.idxOf i<m.idxOf j:=by
 obtain ⟨k,h1,-,-⟩:=lastW_some (R.rd hg h)
 rw [take_at] at h1
 rw [nodup_at R.pre.1 h1.2];exact h1.1
theorem fr (R:Right g m) (hg:g.good=true) {i j:Nat} (hi:i<g.n) (hj:j<g.n) (h:relM g 9 i j=true):m.idxOf i<m.idxOf j:=by
 obtain ⟨u,hu,h1,h2⟩:=(fr_in hi hj).1 h
 have k1:=rf_in hg h1
 have k2:=co_in hg h2
 obtain ⟨k,e1,e2,e3⟩:=lastW_some (R.rd hg h1)
 rw [take_at] at e1
 have ek:=nodup_at R.pre.1 e1.2
 have hc:=R.co hg h2
 apply Classical.byContradiction;intro hlt
 have hne:m.idxOf i≠m.idxOf j:=fun e=>by
  have a:=at_nodup (R.mem hi)
  have b:=at_nodup (R.mem hj)
  rw [e,b] at a
  simp only [Option.some.injEq] at a
  subst a
  rw [k1.2.1] at k2;omega
 have:=e3 (m.idxOf j) j (by omega) (take_at.2 ⟨by omega,at_nodup (R.mem hj)⟩)
 rw [Bool.eq_false_iff] at this
 exact this (wrB_iff.2 ⟨k2.2.2.1,by omega⟩)
theorem all (R:Right g m) (hg:g.good=true) {i j:Nat} (hi:i<g.n) (hj:j<g.n) (hm:allM g i j=true):m.idxOf i<m.idxOf j:=by
 unfold allM at hm
 simp only [Bool.or_eq_true] at hm
 rcases hm with ((hm | hm) | hm) | hm
 ·exact R.po hm
 ·exact R.rf hg hm
 ·exact R.co hg hm
 ·exact R.fr hg hi hj hm
theorem adj (R:Right g m) (hg:g.good=true) {a b:Nat} (h:((a:Int),(b:Int))∈g.rmw):m.idxOf b=m.idxOf a+1:=by
 obtain ⟨a',b',e,P⟩:=pair_ok hg h
 simp only [Prod.mk.injEq] at e
 obtain rfl:a=a':=by omega
 obtain rfl:b=b':=by omega
 have:=(okAt_iff.1 (R.ok _ _ (at_nodup (R.mem P.la)))).2.2 _ h rfl
 exact nodup_at R.pre.1 (natO_some.1 this)
theorem sc (R:Right g m) (hg:g.good=true):(scAx g).1=0:=by
 refine scAx_zero.2 ⟨?_,fun p hp=>?_⟩
 ·rw [cyc_acyc]
  exact acyc_rank (fun i=>m.idxOf i) fun i j hi hj hm=>R.all hg hi hj hm
 ·obtain ⟨a,b,rfl,P⟩:=pair_ok hg hp
  have had:=R.adj hg hp
  cases ht:tornS g ((a:Int),(b:Int))
  ·rfl
  ·unfold tornS at ht
   simp only [Bool.and_eq_true,exB_true,Int.toNat_natCast] at ht
   obtain ⟨-,k,hk,h1,h2⟩:=ht
   have:=R.fr hg P.la hk h1
   have:=R.co hg h2
   omega
end Right
def readOk (g:Gr) (m:List Nat) (i x:Nat):Bool:=!((g.ev x).kind==1)||match lastW g (m.take i) (g.ev x).loc with | some w=>(g.ev w).val==(g.ev x).val | none=>false
theorem Right.reads {m:List Nat} (R:Right g m) (hg:g.good=true) {i x:Nat} (h:m[i]?=some x):readOk g m i x=true:=by
 unfold readOk
 by_cases hk:(g.ev x).kind=1
 rotate_left
 ·simp [hk]
 obtain ⟨words,hz⟩:=good_check hg
 obtain ⟨-,-,-,h4,-⟩:=check_iff.1 hz
 have hr:=rf_iff.1 h4
 have hx:=R.lt h
 have hm:(x:Int)∈g.rf.map (·.2):=by
  rw [hr.1];exact List.mem_map.2 ⟨x,List.mem_filter.2 ⟨List.mem_range'_1.2 ⟨by omega,by omega⟩,by simp [hk]⟩,rfl⟩
 obtain ⟨p,hp,he⟩:=List.mem_map.1 hm
 obtain ⟨w,r,e,hw,hrn,-⟩:=rf_pair hz hp
 subst e
 dsimp only at he
 obtain rfl:r=x:=by omega
 have h1:=R.rd hg ((ofM_mem hw hrn).2 hp:relM g 1 w r=true)
 rw [nodup_at R.pre.1 h] at h1
 rw [h1]
 have:=hr.2 _ hp
 unfold rfOk at this
 simp only [Bool.and_eq_true,Int.toNat_natCast] at this
 simp only [this.2,Bool.or_true]
end
/-! ### The order that is made -/
section
variable {n : Nat} {N : Nat → Nat → Bool} {F : Nat → Nat} {S : Nat → Int}
end
section
variable {g : Gr} {m : List Nat}
end
end Go.Proofs.Tst
/-
  Orders of a graph's events: each write stands at its place of its cell's list (plain).
-/
namespace Go.Proofs.Tst
open Go Go.Vc
section
variable {g : Gr}
end
end Go.Proofs.Tst
/-
  Orders of a graph's events: the forms that the code works out (plain).
-/
namespace Go.Proofs.Tst
open Go Go.Vc
section
variable {g : Gr}
theorem keys_uniq {α:Type} {f:α→Int} {L:List α} (hp:L.Pairwise fun p q=>f p<f q):∀ p∈L,∀ p'∈L,f p=f p'→p=p':=by
 induction L with
 | nil=>intro p hp;simp at hp
 | cons a L ih =>
  obtain ⟨h1,h2⟩:=List.pairwise_cons.1 hp
  intro p k1 p' k2 he
  rcases List.mem_cons.1 k1 with e1 | m1
  ·rcases List.mem_cons.1 k2 with e2 | m2
   ·rw [e1,e2]
   ·have:=h1 p' m2;rw [e1] at he;omega
  ·rcases List.mem_cons.1 k2 with e2 | m2
   ·have:=h1 p m1;rw [e2] at he;omega
   ·exact ih h2 p m1 p' m2 he
end
end Go.Proofs.Tst
/-
  The graphs of two cells that the laws lay.
-/
namespace Go.Vc
open Go
theorem Fr.wide {l r b:Nat} {h h':Heap} (f:Fr l r h h') (hr:r≤b):Fr 0 b h h':=⟨f.size,fun x hx hc=>f.old x hx (by omega)⟩
end Go.Vc
namespace Go.Proofs.Tst
open Go Go.Vc
def twoG (m:Int) (E:List Ev) (rf:List (Int×Int)) (x y:List Int):Gr:=⟨2,[⟨-1,2,0,0,m⟩,⟨-1,2,1,0,m⟩]++E,rf,[[0]++x,[1]++y],[],[],[],[]⟩
theorem nilP {h:Heap}:Rd 2 h (.slice none ([]:List (Int×Int)).length 0) ([]:List (Int×Int)).length (pairsV []):=⟨rfl,_,_,rfl,.inl rfl⟩
end Go.Proofs.Tst
/-
  law11: says, buffering, passing.
-/
namespace Go.Proofs.Tst
open Go Go.Vc
def bufE (w r:Int):List Ev:=[⟨0,2,0,1,w⟩,⟨0,1,1,0,r⟩,⟨1,2,1,1,w⟩,⟨1,1,0,0,r⟩]
def bufG (m w r:Int):Gr:=twoG m (bufE w r) [(1,3),(0,5)] [2] [4]
end Go.Proofs.Tst
/-
  law10: two, says, buffering, passing, fenced.
-/
namespace Go.Proofs.Tst
open Go Go.Vc
end Go.Proofs.Tst
/-
  Go's library: Clone of events and of pairs; Grow, Concat.
-/
namespace Go.Proofs.Tst
open Go Go.Vc
theorem slices_CloneE {a:Option Addr} {n c:Nat} {xs:List Value} {h:Heap} (hr:Rd 5 h (.slice a n c) n xs) (hoc:xs.all Value.oneCell'=true) (hb:n≤65536) :
  Con Tryd.prog 44 #[.slice a n c] h fun v h'=>Fr 0 0 h h'∧Holder 5 h' v n xs h.size:=by
 refine con_q149 ?_
 have p0:Fr 0 0 h h:=.refl _ _ _
 have hl:=hr.1
 cases a with
 | none =>
  obtain ⟨-,a',c',h1,h2⟩:=hr
  cases h1
  have hn:n=0:=by rcases h2 with h2 | ⟨b,o,h2,-⟩ <;> simp_all
  subst hn
  obtain rfl:xs=[]:=List.eq_nil_of_length_eq_zero (by simpa using hl)
  simp -dsimp only [go_sem]
  exact ⟨p0,.none _ _ _⟩
 | some a =>
  simp -dsimp only [go_sem]
  intro b1 h1 n1
  have n1_z:=n1.az
  replace p0:=p0.F n1.f0
  have r1:=n1.row
  have o1:Holder 5 h1 (.slice (some ⟨b1,0,none⟩) 0 0) 0 [] h.size:=⟨rfl,.inr ⟨b1,0,[],rfl,r1,rfl,by omega⟩⟩
  simp -dsimp only [go_sem,r1.cell]
  refine o1.appendRd (hr.fr p0) (by omega) rfl (by omega) hoc (by omega) fun v2 h2 o2 f2 e2=>?_
  simp -dsimp only [go_sem,r1.cell]
  rw [Nat.zero_add,List.nil_append] at o2
  exact ⟨p0.fresh f2 (by simp [bl,bh];omega),o2⟩
theorem slices_CloneP {a:Option Addr} {n c:Nat} {xs:List Value} {h:Heap} (hr:Rd 2 h (.slice a n c) n xs) (hoc:xs.all Value.oneCell'=true) (hb:n≤65536) :
  Con Tryd.prog 45 #[.slice a n c] h fun v h'=>Fr 0 0 h h'∧Holder 2 h' v n xs h.size:=by
 refine con_q150 ?_
 have p0:Fr 0 0 h h:=.refl _ _ _
 have hl:=hr.1
 cases a with
 | none =>
  obtain ⟨-,a',c',h1,h2⟩:=hr
  cases h1
  have hn:n=0:=by rcases h2 with h2 | ⟨b,o,h2,-⟩ <;> simp_all
  subst hn
  obtain rfl:xs=[]:=List.eq_nil_of_length_eq_zero (by simpa using hl)
  simp -dsimp only [go_sem]
  exact ⟨p0,.none _ _ _⟩
 | some a =>
  simp -dsimp only [go_sem]
  intro b1 h1 n1
  have n1_z:=n1.az
  replace p0:=p0.F n1.f0
  have r1:=n1.row
  have o1:Holder 2 h1 (.slice (some ⟨b1,0,none⟩) 0 0) 0 [] h.size:=⟨rfl,.inr ⟨b1,0,[],rfl,r1,rfl,by omega⟩⟩
  simp -dsimp only [go_sem,r1.cell]
  refine o1.appendRd (hr.fr p0) (by omega) rfl (by omega) hoc (by omega) fun v2 h2 o2 f2 e2=>?_
  simp -dsimp only [go_sem,r1.cell]
  rw [Nat.zero_add,List.nil_append] at o2
  exact ⟨p0.fresh f2 (by simp [bl,bh];omega),o2⟩
theorem zeros_len (z:Value):∀ n,(zeros [z] n).length=n
 | 0=>rfl
 | n+1=>by simp [zeros,zeros_len z n]
theorem slices_Grow {m:Nat} {h:Heap} (hm:m≤65536) :
  Con Tryd.prog 157 #[.slice none 0 0,.int .i64 m] h fun v h'=>Fr 0 0 h h'∧Holder 1 h' v 0 [] h.size:=by
 refine con_q154 ?_
 have p0:Fr 0 0 h h:=.refl _ _ _
 have e1:¬ ((m:Int)<0):=by omega
 have e2:(m:Int) - (((0:Nat):Int) - ((0:Nat):Int))=m:=by omega
 simp -dsimp only [go_sem,e1]
 simp -dsimp (disch:=omega) only [wrap64]
 rw [e2]
 by_cases h0:0<m
 ·have e3:(m:Int) > 0:=by omega
  simp -dsimp only [go_sem,e3]
  simp -dsimp (disch:=omega) only [wrap64]
  simp only [e2]
  refine Chk_intro (by omega) ?_
  intro c' b1 h1 hc n1
  have ew:IntKind.i64.wrap ((m:Int) - IntKind.i64.wrap (((0:Nat):Int) - ((0:Nat):Int)))=m:=by
   rw [show (((0:Nat):Int) - ((0:Nat):Int))=0 by omega,show IntKind.i64.wrap 0=0 from rfl,IntKind.wrap_i64];omega
  rw [ew] at hc n1 ⊢
  rw [Int.toNat_natCast] at hc n1 ⊢
  have r1:=n1.row
  have z1:=n1.size
  have a1:=n1.at_
  have f1:Fr 0 0 h h1:=n1.fr
  simp -dsimp only [go_sem]
  refine Chk_intro (by omega) ?_
  simp -dsimp only [go_sem]
  refine ⟨f1,by simp,.inr ⟨b1,c',_,?_,r1,by simp [zeros_len];omega,by omega⟩⟩
  by_cases hc0:c'=0 <;> simp [hc0]
 ·have e3:¬ (m:Int) > 0:=by omega
  obtain rfl:m=0:=by omega
  simp -dsimp only [go_sem,e3]
  exact ⟨p0,.none _ _ _⟩
def lenTo (L:List (List Value)) (i:Nat):Nat:=(L.take i).flatten.length
theorem cat_at {L:List (List Value)} {i:Nat} {l:List Value} (h:L[i]?=some l):(L.take (i+1)).flatten=(L.take i).flatten++l:=by
 rw [List.take_add_one,h];simp
theorem lenTo_at {L:List (List Value)} {i:Nat} {l:List Value} (h:L[i]?=some l):lenTo L (i+1)=lenTo L i+l.length:=by
 unfold lenTo;rw [cat_at h,List.length_append]
theorem lenTo_le {L:List (List Value)} {i:Nat}:lenTo L i≤L.flatten.length:=by
 unfold lenTo
 conv=>rhs;rw [← List.take_append_drop i L,List.flatten_append,List.length_append]
 omega
set_option maxHeartbeats 1000000 in
theorem slices_Concat {a:Option Addr} {c:Nat} {L:List (List Value)} {h:Heap} (hr:RLc h (.slice a L.length c) L) (hoc:∀ l∈L,l.all Value.oneCell'=true) (hb:L.flatten.length≤65536) (hL:L.length≤65536) :
  Con Tryd.prog 123 #[.slice a L.length c] h fun v h'=>Fr 0 0 h h'∧Holder 1 h' v L.flatten.length L.flatten h.size:=by
 refine con_q152 ?_
 have p0:Fr 0 0 h h:=.refl _ _ _
 obtain ⟨us,hu,hl⟩:=hr
 simp -dsimp only [go_sem]
 refine loop_intro (fun i:Nat=>[(0,.slice a L.length c),(3,.int .i64 (lenTo L i:Nat)),(9,.slice a L.length c),(10,.int .i64 L.length),(11,.int .i64 i)])
  (fun i h'=>i≤L.length∧Fr 0 0 h h') (fun i=>L.length - i) 0 ?_ ?_ ?_
 ·simp [Le,find,lenTo]
 ·exact ⟨by omega,p0⟩
 clear p0
 rintro i h1 ⟨hi,p0⟩
 have p0_z:=p0.size
 by_cases hlt:i<L.length
 ·have e1:((i:Int)<(L.length:Int)):=by omega
  have hq:L[i]?=some L[i]:=List.getElem?_eq_getElem hlt
  obtain ⟨ua,uc,h3,h4,h5⟩:=hl i _ hq
  have h6:=lenTo_at hq
  have h7:=lenTo_le (L:=L) (i:=i+1)
  generalize L[i]=l at hq h3 h4 h5 h6
  simp -dsimp only [go_sem,e1]
  refine (hu.fr p0).idx (by omega) fun b o hc=>?_
  have k1:=hc i _ h3
  have e2:((lenTo L i:Nat):Int)+(l.length:Nat)=(lenTo L (i+1):Nat):=by rw [h6];omega
  have e3:¬ (((lenTo L (i+1):Nat):Int)<0):=by omega
  simp -dsimp only [go_sem,k1]
  simp -dsimp (disch:=omega) only [wrap64]
  rw [e2]
  simp -dsimp only [go_sem,e3]
  simp -dsimp (disch:=omega) only [wrap64]
  exact ⟨i+1,by omega,by simp [Le,find],by omega,p0⟩
 obtain rfl:i=L.length:=by omega
 have hal:lenTo L L.length=L.flatten.length:=by unfold lenTo;rw [List.take_length]
 rw [hal]
 simp -dsimp only [go_sem,Int.lt_irrefl]
 refine call_of (slices_Grow (m:=L.flatten.length) (by omega)) ?_
 rintro v2 h2 ⟨f2,o2⟩
 have f2_z:=f2.size
 replace p0:=p0.F f2
 have zz:h1.size≤h2.size:=f2.size
 have z1:h.size≤h1.size:=by omega
 simp -dsimp only [go_sem]
 have o2':=o2.lower (lo':=h.size) (by omega)
 refine loop_intro (fun s:Nat×Value=>[(6,s.2),(25,.slice a L.length c),(26,.int .i64 L.length),(27,.int .i64 s.1)])
  (fun s h'=>s.1≤L.length∧Fr 0 0 h h'∧Holder 1 h' s.2 (lenTo L s.1) (L.take s.1).flatten h.size) (fun s=>L.length - s.1) (0,v2) ?_ ?_ ?_
 ·simp [Le,find]
 ·exact ⟨by omega,p0,by simpa [lenTo] using o2'⟩
 clear p0 o2 o2'
 rintro ⟨i,v⟩ h3 ⟨hi,p0,ov⟩
 dsimp only at hi ov ⊢
 obtain ⟨va,vc,rfl⟩:=ov.is
 have p0_z:=p0.size
 have ov_l:=ov.top
 by_cases hlt:i<L.length
 ·have e1:((i:Int)<(L.length:Int)):=by omega
  have hq:L[i]?=some L[i]:=List.getElem?_eq_getElem hlt
  obtain ⟨ua,uc,h4,h5,h6⟩:=hl i _ hq
  have h7:=lenTo_at hq
  have h8:=lenTo_le (L:=L) (i:=i+1)
  have h9:=cat_at hq
  have h10:=hoc _ (List.mem_of_getElem? hq)
  generalize L[i]=l at hq h4 h5 h6 h7 h9 h10
  simp -dsimp only [go_sem,e1]
  refine (hu.fr p0).idx (by omega) fun b o hc=>?_
  have k1:=hc i _ h4
  simp -dsimp only [go_sem,k1]
  refine ov.appendRd (h6.fr p0) (by omega) rfl (by omega) h10 (by omega) fun v11 h11 o11 f11 e11=>?_
  simp -dsimp only [go_sem]
  simp -dsimp (disch:=omega) only [wrap64]
  refine ⟨(i+1,v11),by dsimp only;omega,by simp [Le,find],by omega,?_,?_⟩
  ·have:=ov.at_
   exact p0.fresh f11 (by omega)
  ·dsimp only;rw [h9,h7];exact o11
 ·obtain rfl:i=L.length:=by omega
  rw [List.take_length] at ov
  simp -dsimp only [go_sem,Int.lt_irrefl]
  refine ⟨p0,?_⟩
  rw [← hal];exact ov
end Go.Proofs.Tst
/-
  seq: a graph's model; torn, together, global, first.
-/
namespace Go.Proofs.Tst
open Go Go.Vc
def smC (q : GV) (g : Gr) (c : Nat → Nat) (ra wa fa : Option Addr) (rn wn fn : Nat) : List Value :=
  [.int .i64 g.cells, .slice q.e g.evs.length q.ec, .slice q.f g.rf.length q.fc, .slice q.o g.co.length q.oc, .slice q.r g.rmw.length q.rc, .slice q.a g.addr.length q.ac, .slice q.d g.data.length q.dc, .slice q.c g.ctrl.length q.cc,
   .pointer (some ⟨c 0, 0, none⟩), .pointer (some ⟨c 1, 0, none⟩), .pointer (some ⟨c 2, 0, none⟩), .pointer (some ⟨c 9, 0, none⟩), .pointer (some ⟨c 3, 0, none⟩), .pointer (some ⟨c 4, 0, none⟩), .pointer (some ⟨c 5, 0, none⟩), .pointer (some ⟨c 6, 0, none⟩), .pointer (some ⟨c 7, 0, none⟩), .pointer (some ⟨c 8, 0, none⟩), .slice ra g.n rn, .slice wa g.n wn, .slice fa g.n fn]
structure Sm (h:Heap) (q:GV) (g:Gr) (c:Nat→Nat) (ra wa fa:Option Addr) (rn wn fn:Nat):Prop where
 gr:GrAt h q g
 good:g.good=true
 rel:∀ k,k<10→PA h (.pointer (some ⟨c k,0,none⟩)) g.n (relM g k)
 rd:Rd 1 h (.slice ra g.n rn) g.n (boolsV (kindsV g 1 g.n))
 wr:Rd 1 h (.slice wa g.n wn) g.n (boolsV (kindsV g 2 g.n))
 fe:Rd 1 h (.slice fa g.n fn) g.n (boolsV (kindsV g 3 g.n))
theorem UA.mkR {h:Heap} {a:Option Addr} {c n k:Nat} {M:Mx} (l:List (Value×Mx)) (hk:k=l.length) (r:Rd 1 h (.slice a k c) k (l.map (·.1))) (hp:∀ x∈l,PA h x.1 n x.2) (hne:l≠[]) (hl:l.length≤65536) (hM:∀ i j,i<n→j<n→(l.any fun x=>x.2 i j)=M i j) :
  UA h (.slice a k c) n M:=by
 subst hk
 refine ⟨l.map fun x=>(x.1,n,x.2),?_,fun x hx=>?_,by rw [List.length_map];exact hl,maxN_same hne,fun i j hi hj=>?_⟩
 ·rw [List.length_map,List.map_map]
  exact r
 ·obtain ⟨y,hy,rfl⟩:=List.mem_map.1 hx
  exact hp y hy
 ·rw [← hM i j hi hj]
  unfold anyM
  rw [List.any_map]
  congr 1
  funext x
  exact inN_in hi hj
theorem allAt_of {h:Heap}:∀ {rs:List (Nat×Nat×Value)},(∀ r∈rs,hcell h r.1 r.2.1=some r.2.2)→allAt rs h
 | [],_=>trivial
 | (b,o,v) :: rs,hr=>⟨hr (b,o,v) (by simp),allAt_of fun r hm=>hr r (by simp [hm])⟩
theorem row_allAt {h:Heap} {b:Nat} {xs:List Value} (r:Rw h b xs):allAt (rdAtN (some (.pointer (some ⟨b,0,none⟩))) xs) h:=allAt_of fun t ht=>by
 simp only [rdAtN,List.mem_map] at ht
 obtain ⟨⟨v,j⟩,hm,rfl⟩:=ht
 have:=List.mk_mem_zipIdx_iff_getElem?.1 hm
 dsimp only
 rw [r.cell,Nat.zero_add];exact this
section
variable {h : Heap} {q : GV} {g : Gr} {c : Nat → Nat} {ra wa fa : Option Addr} {rn wn fn : Nat}
theorem Sm.fr {h':Heap} (m:Sm h q g c ra wa fa rn wn fn) (f:Fr 0 0 h h'):Sm h' q g c ra wa fa rn wn fn:=
 ⟨m.gr.fr f,m.good,fun k hk=>(m.rel k hk).fr f,m.rd.fr f,m.wr.fr f,m.fe.fr f⟩
theorem Sm.of {lo:Nat} {p:Nat→Value} {rd wr fe:Value} (t:GrAt h q g) (hg:g.good=true) (F:FactsAt h lo p rd wr fe g):∃ c ra wa fa rn wn fn,fcells p rd wr fe=[.pointer (some ⟨c 0,0,none⟩),.pointer (some ⟨c 1,0,none⟩),.pointer (some ⟨c 2,0,none⟩),.pointer (some ⟨c 9,0,none⟩),.pointer (some ⟨c 3,0,none⟩),.pointer (some ⟨c 4,0,none⟩),.pointer (some ⟨c 5,0,none⟩),.pointer (some ⟨c 6,0,none⟩),.pointer (some ⟨c 7,0,none⟩),.pointer (some ⟨c 8,0,none⟩),.slice ra g.n rn,.slice wa g.n wn,.slice fa g.n fn]∧Sm h q g c ra wa fa rn wn fn:=by
 obtain ⟨A,B,D,-,-⟩:=F.rel
 have hx:∃ c:Nat→Nat,∀ k,k<10→p k=.pointer (some ⟨c k,0,none⟩):=
  ⟨fun k=>if hk:k<10 then (progPtr (D.at_ k hk)).choose else 0,fun k hk=>by simp only [dif_pos hk];exact (progPtr (D.at_ k hk)).choose_spec⟩
 obtain ⟨c,hc⟩:=hx
 obtain ⟨ra,rn,e1⟩:=F.hrd.is
 obtain ⟨wa,wn,e2⟩:=F.hwr.is
 obtain ⟨fa,fn,e3⟩:=F.hfe.is
 refine ⟨c,ra,wa,fa,rn,wn,fn,?_,t,hg,fun k hk=>?_,e1▸F.hrd.rd,e2▸F.hwr.rd,e3▸F.hfe.rd⟩
 ·unfold fcells
  rw [hc 0 (by decide),hc 1 (by decide),hc 2 (by decide),hc 9 (by decide),hc 3 (by decide),hc 4 (by decide),hc 5 (by decide),hc 6 (by decide),hc 7 (by decide),hc 8 (by decide),e1,e2,e3]
 ·rw [← hc k hk];exact ⟨_,_,D.at_ k hk⟩
theorem seq_torn (m:Sm h q g c ra wa fa rn wn fn) (ht:TabAt h) :
  Con Tryd.prog 68 #[.agg (smC q g c ra wa fa rn wn fn).toArray] h fun v h'=>Fr 0 0 h h'∧Holder 1 h' v (atomS g).length (intsV (atomS g)) h.size:=by
 refine con_q144 ?_
 have br:=m.gr.fits.r
 have p0:Fr 0 0 h h:=.refl _ _ _
 unfold smC
 simp -dsimp only [go_sem]
 intro b1 h1 n1
 have n1_z:=n1.az
 replace p0:=p0.F n1.f0
 have r1:=n1.row
 simp -dsimp only [go_sem,r1.cell]
 obtain ⟨_,_,ta⟩:=(m.fr p0).rel 9 (by decide)
 obtain ⟨_,_,tb⟩:=(m.fr p0).rel 2 (by decide)
 refine call_of (rel_Comp ta tb (ht.fr p0 (.inr rfl))) ?_
 rintro v2 h2 ⟨f2,t2⟩
 rw [Nat.max_self] at t2
 have f2_z:=f2.size
 replace p0:=p0.F f2
 replace r1:=r1.F f2
 obtain ⟨bt,rfl⟩:=progPtr t2
 simp -dsimp only [go_sem,r1.cell]
 have p2:Fr 0 0 h2 h2:=.refl _ _ _
 have g2:h.size≤h2.size:=by omega
 refine loop_intro (fun i:Nat=>[(3,.pointer (some ⟨bt,0,none⟩)),(15,.slice q.r g.rmw.length q.rc),(16,.int .i64 g.rmw.length),(17,.int .i64 i)])
  (fun i h'=>i≤g.rmw.length∧Fr 0 0 h h'∧Fr 0 0 h2 h'∧(g.rmw.take i).find? (tornS g)=none) (fun i=>g.rmw.length - i) 0 ?_ ?_ ?_
 ·simp [Le,find]
 ·exact ⟨by omega,p0,p2,rfl⟩
 clear p0 r1 p2
 rintro i h3 ⟨hi,p0,p2,hfn⟩
 have p0_z:=p0.size
 have p2_z:=p2.size
 by_cases hlt:i<g.rmw.length
 ·have e1:((i:Int)<(g.rmw.length:Int)):=by omega
  have hq:g.rmw[i]?=some g.rmw[i]:=List.getElem?_eq_getElem hlt
  generalize g.rmw[i]=pr at hq
  obtain ⟨rb,ro,hre,hrc⟩:=m.gr.r.pairsAt (by omega)
  obtain ⟨k1,k2⟩:=hrc h3 p0 i _ hq
  simp -dsimp only [go_sem,e1,hre,k1,k2]
  intro b4 h4 n4
  have n4_z:=n4.az
  replace p0:=p0.F n4.f0
  replace p2:=p2.F n4.f0
  have r4:=n4.row
  simp -dsimp only [go_sem,r4.cell]
  refine Chk_intro (r4.W) fun h5 s5=>?_
  have s5_z:=s5.size
  replace p0:=p0.F s5.fr
  replace p2:=p2.F s5.fr
  replace r4:=s5.row r4
  try simp only [cl_int,cl_bool,cl_slice,cl_ptr,putAt_one,zs0,zs1,ivec_set,brow_upd] at r4
  try simp -dsimp only [go_sem] at r4
  simp -dsimp only [go_sem,r4.cell]
  refine call_of (rel_Has (t2.fr p2 (by omega)) pr.1 pr.2) ?_
  rintro v6 h6 ⟨hh,rfl⟩
  obtain rfl:h5=h6:=hh.symm
  have htn:=tornS_has (g:=g) (p:=pr)
  rw [htn]
  cases hb:tornS g pr
  ·simp -dsimp only [go_sem,r4.cell]
   simp -dsimp (disch:=omega) only [wrap64]
   exact ⟨i+1,by omega,by simp [Le,find,hre],by omega,p0,p2,find_next hq hfn hb⟩
  ·simp -dsimp only [go_sem,r4.cell]
   intro b7 h7 n7
   have n7_z:=n7.az
   replace p0:=p0.F n7.f0
   replace p2:=p2.F n7.f0
   replace r4:=r4.F n7.f0
   have r7:=n7.row
   simp -dsimp only [go_sem,r4.cell,r7.cell]
   have hA:atomS g=[pr.1,pr.2]:=by unfold atomS;rw [find_at hq hfn hb]
   rw [hA]
   exact ⟨p0,holder_row (s:=1) (n:=2) r7 rfl (by omega)⟩
 ·obtain rfl:i=g.rmw.length:=by omega
  simp -dsimp only [go_sem,Int.lt_irrefl]
  rw [List.take_length] at hfn
  have hA:atomS g=[]:=by unfold atomS;rw [hfn]
  rw [hA]
  exact ⟨p0,.none _ _ _⟩
theorem natsI_V (l:List Nat):natsV l=intsV (natsI l):=natsV_ints l
theorem natsI_len (l:List Nat):(natsI l).length=l.length:=by simp [natsI]
theorem seq_together {v:Value} {M:Mx} (m:Sm h q g c ra wa fa rn wn fn) (ht:TabAt h) (hv:PA h v g.n M) :
  Con Tryd.prog 67 #[.agg (smC q g c ra wa fa rn wn fn).toArray,v] h fun w h'=>Fr 0 0 h h'∧Holder 1 h' w (natsI (cycS g.n (orM [M,relM g 1,relM g 2,relM g 9]))).length (intsV (natsI (cycS g.n (orM [M,relM g 1,relM g 2,relM g 9])))) h.size:=by
 refine con_q143 ?_
 have p0:Fr 0 0 h h:=.refl _ _ _
 unfold smC
 obtain ⟨bv,rfl⟩:=hv.ptr
 simp -dsimp only [go_sem]
 intro b1 h1 n1
 have n1_z:=n1.az
 replace p0:=p0.F n1.f0
 have r1:=n1.row
 simp -dsimp only [go_sem,r1.cell]
 intro b2 h2 n2
 have n2_z:=n2.az
 replace p0:=p0.F n2.f0
 replace r1:=r1.F n2.f0
 have r2:=n2.row
 simp -dsimp only [go_sem,r1.cell,r2.cell]
 have m2:=m.fr p0
 refine call_of (rel_UnionU (UA.mk' [(.pointer (some ⟨bv,0,none⟩),M),(.pointer (some ⟨c 1,0,none⟩),relM g 1),(.pointer (some ⟨c 2,0,none⟩),relM g 2),(.pointer (some ⟨c 9,0,none⟩),relM g 9)] r2 (pa_cons (hv.fr p0) (pa_cons (m2.rel 1 (by decide)) (pa_cons (m2.rel 2 (by decide)) (pa_cons (m2.rel 9 (by decide)) pa_nil)))) (by simp) (by simp))) ?_
 rintro v3 h3 ⟨f3,t3⟩
 have f3_z:=f3.size
 replace p0:=p0.F f3
 replace r1:=r1.F f3
 replace r2:=r2.F f3
 simp -dsimp only [go_sem,r1.cell,r2.cell]
 refine call_of (rel_Cycle t3 (ht.fr p0 (.inr rfl))) ?_
 rintro v4 h4 ⟨f4,o4⟩
 have f4_z:=f4.size
 replace p0:=p0.F f4
 replace r1:=r1.F f4
 replace r2:=r2.F f4
 simp -dsimp only [go_sem,r1.cell,r2.cell]
 rw [natsI_V] at o4
 rw [natsI_len]
 exact ⟨p0,o4.lower (by omega)⟩
theorem seq_Sc_1 (m:Sm h q g c ra wa fa rn wn fn) (ht:TabAt h) :
  Con Tryd.prog 66 #[.agg (smC q g c ra wa fa rn wn fn).toArray] h fun v h'=>Fr 0 0 h h'∧Holder 1 h' v (scL g 0).length (intsV (scL g 0)) h.size:=by
 refine con_q137 ?_
 have p0:Fr 0 0 h h:=.refl _ _ _
 have e:orM [relM g 0,relM g 1,relM g 2,relM g 9]=allM g:=by funext i j;simp [orM,allM,Bool.or_assoc]
 unfold smC
 simp -dsimp only [go_sem]
 intro b1 h1 n1
 have n1_z:=n1.az
 replace p0:=p0.F n1.f0
 have r1:=n1.row
 simp -dsimp only [go_sem,r1.cell]
 have m1:=m.fr p0
 refine withC_of (smC q g c ra wa fa rn wn fn) 0 (fun j x hj=>by rw [r1.cell,Nat.zero_add];exact hj) ?_
 try simp -dsimp only [go_sem,r1.cell]
 refine call_of (seq_together m1 (ht.fr p0 (.inr rfl)) (m1.rel 0 (by decide))) ?_
 rintro v2 h2 ⟨f2,o2⟩
 have f2_z:=f2.size
 replace p0:=p0.F f2
 replace r1:=r1.F f2
 rw [e] at o2
 simp -dsimp only [go_sem,r1.cell]
 exact ⟨p0,o2.lower (by omega)⟩
theorem seq_Tso_1 (m:Sm h q g c ra wa fa rn wn fn) (ht:TabAt h) :
  Con Tryd.prog 77 #[.agg (smC q g c ra wa fa rn wn fn).toArray] h fun v h'=>Fr 0 0 h h'∧Holder 1 h' v (tsoL g 0).length (intsV (tsoL g 0)) h.size:=by
 refine con_q139 ?_
 have p0:Fr 0 0 h h:=.refl _ _ _
 have e:orM [(fun i j=>relM g 0 i j&&relM g 4 i j),relM g 1,relM g 2,relM g 9]=inM g:=by funext i j;simp [orM,inM,Bool.or_assoc]
 unfold smC
 simp -dsimp only [go_sem]
 intro b1 h1 n1
 have n1_z:=n1.az
 replace p0:=p0.F n1.f0
 have r1:=n1.row
 simp -dsimp only [go_sem,r1.cell]
 refine withC_of (smC q g c ra wa fa rn wn fn) 0 (fun j x hj=>by rw [r1.cell,Nat.zero_add];exact hj) ?_
 unfold smC
 try simp -dsimp only [go_sem,r1.cell]
 obtain ⟨_,_,ta⟩:=(m.fr p0).rel 0 (by decide)
 obtain ⟨_,_,tb⟩:=(m.fr p0).rel 4 (by decide)
 refine call_of (rel_Inter ta tb (ht.fr p0 (.inr rfl))) ?_
 rintro v2 h2 ⟨f2,t2⟩
 rw [Nat.max_self] at t2
 have f2_z:=f2.size
 replace p0:=p0.F f2
 replace r1:=r1.F f2
 have t2:PA h2 v2 g.n (fun i j=>relM g 0 i j&&relM g 4 i j):=PA.congr ⟨_,_,t2⟩ fun i j hi hj=>interM_in hi hj
 simp -dsimp only [go_sem,r1.cell]
 refine Chk_intro (row_allAt r1) ?_
 try simp -dsimp only [go_sem,r1.cell]
 refine call_of (seq_together (m.fr p0) (ht.fr p0 (.inr rfl)) t2) ?_
 rintro v3 h3 ⟨f3,o3⟩
 have f3_z:=f3.size
 replace p0:=p0.F f3
 replace r1:=r1.F f3
 rw [e] at o3
 simp -dsimp only [go_sem,r1.cell]
 exact ⟨p0,o3.lower (by omega)⟩
def firstA (N:Nat) (num:Nat→Int) (L:Nat→List Int):Int×List Int:=match (List.range N).find? (fun i=>!(L i).isEmpty) with | some i=>(num i,L i) | none=>(0,[])
def axV (N:Nat) (num:Nat→Int) (F:Nat→FuncId):List Value:=(List.range N).flatMap fun i=>[.int .i64 (num i),.func (.func (F i)) #[] #[]]
theorem axV_succ {N:Nat} {num:Nat→Int} {F:Nat→FuncId}:axV (N+1) num F=axV N num F++[.int .i64 (num N),.func (.func (F N)) #[] #[]]:=by
 unfold axV;rw [List.range_succ,List.flatMap_append];simp
theorem axV_len {N:Nat} {num:Nat→Int} {F:Nat→FuncId}:(axV N num F).length=N * 2:=by
 induction N with
 | zero=>rfl
 | succ N ih=>rw [axV_succ,List.length_append,ih];simp;omega
theorem axV_get {num:Nat→Int} {F:Nat→FuncId}:∀ {N i:Nat},i<N→(axV N num F)[i * 2]?=some (.int .i64 (num i))∧(axV N num F)[i * 2+1]?=some (.func (.func (F i)) #[] #[])
 | N+1,i,h=>by
  rw [axV_succ]
  by_cases he:i=N
  ·subst he
   rw [List.getElem?_append_right (by rw [axV_len];omega),List.getElem?_append_right (by rw [axV_len];omega),axV_len]
   simp
  ·have:=axV_get (num:=num) (F:=F) (N:=N) (i:=i) (by omega)
   rw [List.getElem?_append_left (by rw [axV_len];omega),List.getElem?_append_left (by rw [axV_len];omega)]
   exact this
set_option maxHeartbeats 1000000 in
theorem seq_first {b:Nat} {N:Nat} {num:Nat→Int} {F:Nat→FuncId} {L:Nat→List Int} (hax:Rw h b (axV N num F)) (hN:N≤1000) (hF:∀ i,i<N→∀ h1,Fr 0 0 h h1→Con Tryd.prog (F i) #[.agg (smC q g c ra wa fa rn wn fn).toArray] h1 fun v h'=>Fr 0 0 h1 h'∧Holder 1 h' v (L i).length (intsV (L i)) h1.size) :
  Con Tryd.prog 65 #[.agg (smC q g c ra wa fa rn wn fn).toArray,.slice (some ⟨b,0,none⟩) N N] h fun v h'=>Fr 0 0 h h'∧∃ w,v=.tuple #[.int .i64 (firstA N num L).1,w,.int .i64 0]∧Holder 1 h' w (firstA N num L).2.length (intsV (firstA N num L).2) h.size:=by
 refine con_q140 ?_
 have p0:Fr 0 0 h h:=.refl _ _ _
 unfold smC
 simp -dsimp only [go_sem]
 intro b2 h2 n2
 have n2_z:=n2.az
 replace p0:=p0.F n2.f0
 have r2:=n2.row
 simp -dsimp only [go_sem,r2.cell]
 have g2:h.size≤b2:=by omega
 refine loop_intro (fun i:Nat=>[(2,.pointer (some ⟨b2,0,none⟩)),(10,.slice (some ⟨b,0,none⟩) N N),(11,.int .i64 N),(12,.int .i64 i)])
  (fun i h'=>i≤N∧Fr 0 0 h h'∧Rw h' b2 (smC q g c ra wa fa rn wn fn)∧(List.range i).find? (fun i=>!(L i).isEmpty)=none) (fun i=>N - i) 0 ?_ ?_ ?_
 ·simp [Le,find]
 ·exact ⟨by omega,p0,r2,rfl⟩
 clear p0 r2
 rintro i h3 ⟨hi,p0,r2,hfn⟩
 unfold smC at r2
 have p0_z:=p0.size
 have r2_l:=r2.lt
 by_cases hlt:i<N
 ·have e1:((i:Int)<(N:Int)):=by omega
  have ax3:=hax.fr p0 (.inr (Nat.zero_le _))
  obtain ⟨k1,k2⟩:=axV_get (num:=num) (F:=F) hlt
  have k1:hcell h3 b (i * 2)=some (.int .i64 (num i)):=by rw [ax3.cell];exact k1
  have k2:hcell h3 b (i * 2+1)=some (.func (.func (F i)) #[] #[]):=by rw [ax3.cell];exact k2
  simp -dsimp only [go_sem,e1,k1,k2,r2.cell]
  intro b4 h4 n4
  have n4_z:=n4.az
  replace p0:=p0.F n4.f0
  replace r2:=r2.F n4.f0
  have r4:=n4.row
  simp -dsimp only [go_sem,r2.cell,r4.cell]
  refine Chk_intro (r4.W) fun h5 s5=>?_
  have s5_z:=s5.size
  replace p0:=p0.F s5.fr
  replace r2:=r2.F s5.fr
  replace r4:=s5.row r4
  try simp only [cl_int,cl_bool,cl_slice,cl_ptr,putAt_one,zs0,zs1,ivec_set,brow_upd] at r4
  try simp -dsimp only [go_sem] at r4
  simp -dsimp only [go_sem,r2.cell,r4.cell]
  refine withC_of (smC q g c ra wa fa rn wn fn) 0 (fun j x hj=>by rw [r2.cell,Nat.zero_add];exact hj) ?_
  try simp -dsimp only [go_sem,r2.cell,r4.cell]
  refine call_of (hF i hlt h5 p0) ?_
  rintro v6 h6 ⟨f6,o6⟩
  have f6_z:=f6.size
  replace p0:=p0.F f6
  replace r2:=r2.F f6
  replace r4:=r4.F f6
  obtain ⟨a6,c6,rfl⟩:=o6.is
  simp -dsimp only [go_sem,r2.cell,r4.cell]
  by_cases hk:L i=[]
  ·have hl:¬ (((L i).length:Nat):Int) > 0:=by rw [hk];decide
   simp -dsimp only [go_sem,hl,r2.cell,r4.cell]
   simp -dsimp (disch:=omega) only [wrap64]
   exact ⟨i+1,by omega,by simp [Le,find],by omega,p0,r2,by rw [List.range_succ,List.find?_append,hfn];simp [hk]⟩
  ·have hl:(((L i).length:Nat):Int) > 0:=by have:=List.length_pos_iff.2 hk;omega
   simp -dsimp only [go_sem,hl,r2.cell,r4.cell]
   have hA:firstA N num L=(num i,L i):=by
    unfold firstA
    rw [find_at (l:=List.range N) (i:=i) (x:=i) (List.getElem?_range hlt) (by rw [List.take_range,Nat.min_eq_left (by omega)];exact hfn) (by simp [hk])]
   rw [hA]
   exact ⟨p0,_,rfl,o6.lower (by omega)⟩
 ·obtain rfl:i=N:=by omega
  simp -dsimp only [go_sem,Int.lt_irrefl,r2.cell]
  have hA:firstA i num L=(0,[]):=by unfold firstA;rw [hfn]
  rw [hA]
  exact ⟨p0,_,rfl,.none _ _ _⟩
end
end Go.Proofs.Tst
