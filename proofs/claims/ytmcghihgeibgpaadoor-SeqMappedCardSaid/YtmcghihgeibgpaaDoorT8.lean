/-
  Contracts of functions that the law reaches: what each returns and what it leaves in memory. Conditions stand in each.
-/
import Derived.Test.YtmcghihgeibgpaaDoorT7
set_option linter.all false
set_option maxRecDepth 2000
/-
  What the source model's chains make (plain).
-/
namespace Go.Proofs.Tst
open Go Go.Vc
def In (n:Nat) (M N:Mx):Prop:=∀ i j,i<n→j<n→M i j=N i j
theorem In.rfl' {n:Nat} {M:Mx}:In n M M:=fun _ _ _ _=>rfl
theorem plus_in {n:Nat} {M N:Mx} (e:In n M N):In n (plusM n M) (plusM n N):=fun i j hi hj=>by
 rw [Bool.eq_iff_iff]
 constructor
 ·exact fun h=>plus_least (N:=fun x y=>plusM n N x y=true) (fun i j hi hj hr=>plus_sub (by rw [← e i j hi hj];exact hr)) (fun _ _ _ _ hx _ h1 h2=>plus_trans hx h1 h2) hi hj h
 ·exact fun h=>plus_least (N:=fun x y=>plusM n M x y=true) (fun i j hi hj hr=>plus_sub (by rw [e i j hi hj];exact hr)) (fun _ _ _ _ hx _ h1 h2=>plus_trans hx h1 h2) hi hj h
theorem opt_in {n:Nat} {M N:Mx} (e:In n M N):In n (optM M) (optM N):=fun i j hi hj=>by unfold optM;rw [e i j hi hj]
theorem dM_in {n:Nat} {f g:Nat→Bool} (e:∀ i,i<n→f i=g i):In n (dM f) (dM g):=fun i j hi _=>by unfold dM;rw [e i hi]
theorem dM_true {f:Nat→Bool} {i j:Nat} (h:dM f i j=true):i=j∧f i=true:=by
 unfold dM at h;simpa using h
theorem chM_nil {n:Nat} {A:Mx}:chM n A []=A:=rfl
theorem chM_cons {n:Nat}:∀ (l:List Mx) (A B:Mx) {i j:Nat},i<n→j<n→chM n A (B :: l) i j=exB n fun a=>A i a&&chM n B l a j
 | [],A,B,i,j,hi,hj=>compM_in hi hj
 | C :: l,A,B,i,j,hi,hj=>by
  show chM n (compM n A n B) (C :: l) i j=_
  rw [chM_cons l _ C hi hj,Bool.eq_iff_iff,exB_true,exB_true]
  constructor
  ·rintro ⟨c,hc,h⟩
   rw [compM_in hi hc,Bool.and_eq_true,exB_true] at h
   obtain ⟨⟨a,ha,h1⟩,h2⟩:=h
   rw [Bool.and_eq_true] at h1
   refine ⟨a,ha,?_⟩
   rw [Bool.and_eq_true,chM_cons l B C ha hj,exB_true]
   exact ⟨h1.1,c,hc,by rw [h1.2,h2];rfl⟩
  ·rintro ⟨a,ha,h⟩
   rw [Bool.and_eq_true,chM_cons l B C ha hj,exB_true] at h
   obtain ⟨h1,c,hc,h2⟩:=h
   rw [Bool.and_eq_true] at h2
   refine ⟨c,hc,?_⟩
   rw [compM_in hi hc,Bool.and_eq_true,exB_true]
   exact ⟨⟨a,ha,by rw [h1,h2.1];rfl⟩,h2.2⟩
theorem chM_ex {n:Nat} {l:List Mx} {A B:Mx} {i j:Nat} (hi:i<n) (hj:j<n):chM n A (B :: l) i j=true↔∃ a,a<n∧A i a=true∧chM n B l a j=true:=by
 rw [chM_cons l A B hi hj,exB_true]
 exact ⟨fun ⟨a,ha,h⟩=>⟨a,ha,by rwa [Bool.and_eq_true] at h⟩,fun ⟨a,ha,h⟩=>⟨a,ha,by rwa [Bool.and_eq_true]⟩⟩
section
variable {g : Gr}
theorem rr_of:In g.n (compM g.n (relM g 1) g.n (relM g 3)) (rrM g):=fun i j hi hj=>compM_in hi hj
theorem ploc_of:In g.n (interM g.n (relM g 0) g.n (relM g 4)) (plocM g):=fun i j hi hj=>interM_in hi hj
theorem other_of:In g.n (minusM g.n (relM g 0) g.n (relM g 4)) (otherM g):=fun i j hi hj=>minusM_in hi hj
theorem rs_of {P R:Mx} (hP:In g.n P (plocM g)) (hR:In g.n R (rrM g)):In g.n (chM g.n (dM (isK g 2)) [optM P,dM (isK g 2),optM (plusM g.n R)]) (rsM g):=fun i j hi hj=>by
 rw [Bool.eq_iff_iff,rs_spec,chM_ex hi hj]
 constructor
 ·rintro ⟨a,ha,h1,h⟩
  obtain ⟨rfl,q1⟩:=dM_true h1
  rw [chM_ex ha hj] at h
  obtain ⟨b,hb,h2,h⟩:=h
  rw [chM_ex hb hj] at h
  obtain ⟨c,hc,h3,h⟩:=h
  obtain ⟨rfl,q3⟩:=dM_true h3
  rw [chM_nil,opt_in (plus_in hR) _ _ hb hj] at h
  rw [opt_in hP _ _ ha hb] at h2
  unfold optM at h h2
  simp only [Bool.or_eq_true,beq_iff_eq] at h h2
  exact ⟨q1,b,hb,h2,q3,h⟩
 ·rintro ⟨h1,b,hb,h2,h3,h⟩
  refine ⟨i,hi,by unfold dM;simp [h1],?_⟩
  rw [chM_ex hi hj]
  refine ⟨b,hb,?_,?_⟩
  ·rw [opt_in hP _ _ hi hb];unfold optM;simpa using h2
  ·rw [chM_ex hb hj]
   refine ⟨b,hb,by unfold dM;simp [h3],?_⟩
   rw [chM_nil,opt_in (plus_in hR) _ _ hb hj];unfold optM;simpa using h
theorem fpo_of:In g.n (compM g.n (dM (isK g 3)) g.n (relM g 0)) (fun i j=>isK g 3 i&&relM g 0 i j):=fun i j hi hj=>compM_dL hi hj
theorem pof_of:In g.n (compM g.n (relM g 0) g.n (dM (isK g 3))) (fun i j=>relM g 0 i j&&isK g 3 j):=fun i j hi hj=>compM_dR hi hj
theorem sw_of {A C F1 F2 S:Mx} (hA:In g.n A (dM (relB g))) (hC:In g.n C (dM (acrB g))) (h1:In g.n F1 fun i j=>isK g 3 i&&relM g 0 i j) (h2:In g.n F2 fun i j=>relM g 0 i j&&isK g 3 j) (hS:In g.n S (rsM g)) :
  In g.n (chM g.n A [optM F1,S,relM g 1,dM (isK g 1),optM F2,C]) (swM g):=fun i j hi hj=>by
 rw [Bool.eq_iff_iff,sw_spec,chM_ex hi hj]
 constructor
 ·rintro ⟨i',hi',k1,h⟩
  rw [hA _ _ hi hi'] at k1
  obtain ⟨rfl,q1⟩:=dM_true k1
  rw [chM_ex hi hj] at h
  obtain ⟨a,ha,k2,h⟩:=h
  rw [chM_ex ha hj] at h
  obtain ⟨b,hb,k3,h⟩:=h
  rw [chM_ex hb hj] at h
  obtain ⟨c,hc,k4,h⟩:=h
  rw [chM_ex hc hj] at h
  obtain ⟨d,hd,k5,h⟩:=h
  obtain ⟨rfl,q5⟩:=dM_true k5
  rw [chM_ex hc hj] at h
  obtain ⟨e,he,k6,h⟩:=h
  rw [chM_nil,hC _ _ he hj] at h
  obtain ⟨rfl,q7⟩:=dM_true h
  rw [opt_in h1 _ _ hi ha] at k2
  rw [hS _ _ ha hb] at k3
  rw [opt_in h2 _ _ hc he] at k6
  unfold optM at k2 k6
  simp only [Bool.or_eq_true,Bool.and_eq_true,beq_iff_eq] at k2 k6
  exact ⟨q1,q7,a,ha,k2,b,hb,k3,c,hc,k4,q5,k6⟩
 ·rintro ⟨k1,k7,a,ha,k2,b,hb,k3,c,hc,k4,k5,k6⟩
  refine ⟨i,hi,by rw [hA _ _ hi hi];unfold dM;simp [k1],?_⟩
  rw [chM_ex hi hj]
  refine ⟨a,ha,by rw [opt_in h1 _ _ hi ha];unfold optM;simpa using k2,?_⟩
  rw [chM_ex ha hj]
  refine ⟨b,hb,by rw [hS _ _ ha hb];exact k3,?_⟩
  rw [chM_ex hb hj]
  refine ⟨c,hc,k4,?_⟩
  rw [chM_ex hc hj]
  refine ⟨c,hc,by unfold dM;simp [k5],?_⟩
  rw [chM_ex hc hj]
  refine ⟨j,hj,by rw [opt_in h2 _ _ hc hj];unfold optM;simpa using k6,?_⟩
  rw [chM_nil,hC _ _ hj hj];unfold dM;simp [k7]
theorem chM3 {n:Nat} {A B C:Mx} {i j:Nat} (hi:i<n) (hj:j<n):chM n A [B,C] i j=exB n fun a=>A i a&&exB n fun b=>B a b&&C b j:=by
 rw [chM_cons _ _ _ hi hj]
 exact exB_congr fun a ha=>by rw [chM_cons _ _ _ ha hj];rfl
theorem chM3_in {n:Nat} {A B C A' B' C':Mx} (hA:In n A A') (hB:In n B B') (hC:In n C C'):In n (chM n A [B,C]) (fun i j=>exB n fun a=>A' i a&&exB n fun b=>B' a b&&C' b j):=fun i j hi hj=>by
 rw [chM3 hi hj]
 exact exB_congr fun a ha=>by rw [hA i a hi ha];congr 1;exact exB_congr fun b hb=>by rw [hB a b ha hb,hC b j hb hj]
theorem heh_of {H E:Mx} (hH:In g.n H (hbM g)) (hE:In g.n E (ecoM g)):In g.n (chM g.n H [E,H]) (hehM g):=chM3_in hH hE hH
theorem oho_of {O H:Mx} (hO:In g.n O (otherM g)) (hH:In g.n H (hbM g)):In g.n (chM g.n O [H,O]) (fun i j=>exB g.n fun a=>otherM g i a&&exB g.n fun b=>hbM g a b&&otherM g b j):=chM3_in hO hH hO
theorem base_of {B S E:Mx} (hB:In g.n B (beginM g)) (hS:In g.n S (scbM g)) (hE:In g.n E (endM g)):In g.n (chM g.n B [S,E]) (baseM g):=chM3_in hB hS hE
theorem fsc_of {X Y F:Mx} (hF:In g.n F (dM (fscB g))) (hX:In g.n X Y):In g.n (chM g.n F [X,F]) (fun i j=>fscB g i&&Y i j&&fscB g j):=fun i j hi hj=>by
 rw [chM3_in hF hX hF i j hi hj,Bool.eq_iff_iff,exB_true]
 simp only [Bool.and_eq_true,exB_true]
 constructor
 ·rintro ⟨a,ha,h1,b,hb,h2,h3⟩
  obtain ⟨rfl,q1⟩:=dM_true h1
  obtain ⟨rfl,q3⟩:=dM_true h3
  exact ⟨⟨q1,h2⟩,q3⟩
 ·rintro ⟨⟨h1,h2⟩,h3⟩
  exact ⟨i,hi,by unfold dM;simp [h1],j,hj,h2,by unfold dM;simp [h3]⟩
theorem fh_of {F H:Mx} (hF:In g.n F (dM (fscB g))) (hH:In g.n H (hbM g)):In g.n (compM g.n F g.n (optM H)) (fun i j=>fscB g i&&(hbM g i j||i==j)):=fun i j hi hj=>by
 rw [compM_in hi hj]
 have:(exB g.n fun k=>F i k&&optM H k j)=exB g.n fun k=>dM (fscB g) i k&&optM (hbM g) k j:=exB_congr fun k hk=>by rw [hF i k hi hk,opt_in hH k j hk hj]
 rw [this,← compM_in hi hj,compM_dL hi hj];rfl
theorem hf_of {F H:Mx} (hF:In g.n F (dM (fscB g))) (hH:In g.n H (hbM g)):In g.n (compM g.n (optM H) g.n F) (fun i j=>(hbM g i j||i==j)&&fscB g j):=fun i j hi hj=>by
 rw [compM_in hi hj]
 have:(exB g.n fun k=>optM H i k&&F k j)=exB g.n fun k=>optM (hbM g) i k&&dM (fscB g) k j:=exB_congr fun k hk=>by rw [hF k j hk hj,opt_in hH i k hi hk]
 rw [this,← compM_in hi hj,compM_dR hi hj];rfl
theorem dOr {f1 f2 f:Nat→Bool} {n:Nat} (e:∀ i,i<n→(f1 i||f2 i)=f i):In n (orM [dM f1,dM f2]) (dM f):=fun i j hi _=>by
 unfold orM dM;rw [← e i hi];cases h:(i==j) <;> simp [h]
theorem fsc_pts:In g.n (dM fun i=>isK g 3 i&&isM g 5 i) (dM (fscB g)):=dM_in fun i _=>by unfold fscB;rw [Bool.and_comm]
theorem begin_of:In g.n (orM [dM (escB g),compM g.n (dM (fscB g)) g.n (optM (hbM g))]) (beginM g):=fun i j hi hj=>by
 show (dM (escB g) i j||(compM g.n (dM (fscB g)) g.n (optM (hbM g)) i j||false))=_
 rw [fh_of In.rfl' In.rfl' i j hi hj,Bool.or_false];rfl
theorem end_of:In g.n (orM [dM (escB g),compM g.n (optM (hbM g)) g.n (dM (fscB g))]) (endM g):=fun i j hi hj=>by
 show (dM (escB g) i j||(compM g.n (optM (hbM g)) g.n (dM (fscB g)) i j||false))=_
 rw [hf_of In.rfl' In.rfl' i j hi hj,Bool.or_false];rfl
theorem hb_of:In g.n (plusM g.n (orM [relM g 0,swM g])) (hbM g):=plus_in fun i j _ _=>by simp [orM,poswM]
theorem eco_of:In g.n (plusM g.n (orM [relM g 1,relM g 2,relM g 9])) (ecoM g):=plus_in fun i j _ _=>by simp [orM,comM,Bool.or_assoc]
theorem scb_of:In g.n (orM [relM g 0,chM g.n (otherM g) [hbM g,otherM g],interM g.n (hbM g) g.n (relM g 4),relM g 2,relM g 9]) (scbM g):=fun i j hi hj=>by
 show (relM g 0 i j||(chM g.n (otherM g) [hbM g,otherM g] i j||(interM g.n (hbM g) g.n (relM g 4) i j||(relM g 2 i j||(relM g 9 i j||false)))))=_
 rw [oho_of In.rfl' In.rfl' i j hi hj,interM_in hi hj];unfold scbM;simp only [Bool.or_assoc,Bool.or_false]
theorem pscf_of:In g.n (chM g.n (dM (fscB g)) [orM [hbM g,chM g.n (hbM g) [ecoM g,hbM g]],dM (fscB g)]) (pscfM g):=
 fsc_of In.rfl' (Y:=fun i j=>hbM g i j||hehM g i j) fun i j hi hj=>by
  show (hbM g i j||(chM g.n (hbM g) [ecoM g,hbM g] i j||false))=_
  rw [heh_of In.rfl' In.rfl' i j hi hj,Bool.or_false]
theorem rs_of':In g.n (chM g.n (dM (isK g 2)) [optM (plocM g),dM (isK g 2),optM (plusM g.n (rrM g))]) (rsM g):=rs_of In.rfl' In.rfl'
theorem sw_of':In g.n (chM g.n (dM (relB g)) [optM (chM g.n (dM (isK g 3)) [relM g 0]),rsM g,relM g 1,dM (isK g 1),optM (chM g.n (relM g 0) [dM (isK g 3)]),dM (acrB g)]) (swM g):=sw_of In.rfl' In.rfl' fpo_of pof_of In.rfl'
theorem base_of':In g.n (chM g.n (beginM g) [scbM g,endM g]) (baseM g):=base_of In.rfl' In.rfl' In.rfl'
theorem rel_pts:In g.n (orM [dM fun i=>isK g 2 i&&(isM g 3 i||isM g 4 i||isM g 5 i),dM fun i=>isK g 3 i&&(isM g 3 i||isM g 4 i||isM g 5 i)]) (dM (relB g)):=dOr fun i _=>by
 unfold relB;cases isK g 2 i <;> cases isK g 3 i <;> simp
theorem acr_pts:In g.n (orM [dM fun i=>isK g 1 i&&(isM g 2 i||isM g 4 i||isM g 5 i),dM fun i=>isK g 3 i&&(isM g 2 i||isM g 4 i||isM g 5 i)]) (dM (acrB g)):=dOr fun i _=>by
 unfold acrB;cases isK g 1 i <;> cases isK g 3 i <;> simp
theorem esc_pts:In g.n (orM [dM fun i=>isK g 2 i&&isM g 5 i,dM fun i=>isK g 1 i&&isM g 5 i]) (dM (escB g)):=dOr fun i _=>by
 unfold escB;cases isK g 1 i <;> cases isK g 2 i <;> cases isM g 5 i <;> rfl
end
end Go.Proofs.Tst
/-
  The source's memory model in memory: its parts.
-/
namespace Go.Proofs.Tst
open Go Go.Vc
def tI (ms:List Int):Tell:=tell1 fun v _ _ h=>Rd 1 h v ms.length (intsV ms)
theorem stI (ms:List Int):Stab (tI ms):=Stab.one fun _ _ _ _ _ f t=>t.fr f
theorem tI_eq (ms:List Int) (u:Out) (h:Heap):tI ms [u] h=Rd 1 h u.1 ms.length (intsV ms):=(rfl)
theorem tV_eq (v:Value) (u:Out) (h:Heap):tV v [u] h=(u.1=v):=(rfl)
def rcM (g:Gr):Nat→Mx
 | 0=>rsM g
 | 1=>swM g
 | 2=>hbM g
 | 3=>ecoM g
 | 4=>scbM g
 | 5=>baseM g
 | _=>pscfM g
theorem atB_w3 {g:Gr} {a b c:Int} {i:Nat} (hi:i<g.n):atB (withB g [a,b,c]) i=(isM g a i||isM g b i||isM g c i):=by
 refine atB_get ?_
 unfold withB isM
 rw [List.getElem?_map,Gr.ev_get hi]
 simp only [Option.map_some,Option.some.injEq]
 rw [Bool.eq_iff_iff];simp [or_assoc]
theorem atB_list {l:List Bool} {i:Nat} (hi:i<l.length):l[i]?=some (atB l i):=by simp [atB,hi]
theorem row_step {f:Nat→Bool} {i:Nat} {v:Bool} (hv:v=f i) (j:Nat):(decide (j<i+1)&&f j)=upd (fun j=>decide (j<i)&&f j) i v j:=by
 unfold upd
 by_cases hj:j=i
 ·subst hj;rw [if_pos rfl,hv];simp
 ·rw [if_neg hj]
  have:(j<i+1)=(j<i):=propext ⟨fun _=>by omega,fun _=>by omega⟩
  simp only [this]
section
variable {h : Heap} {mb : Nat} {q : GV} {g : Gr}
set_option maxHeartbeats 1000000 in
theorem rc11_model_some (m:Mg h mb q g) {sv mv:Value} {l:List Bool} {ms:List Int} (hl:Rd 1 h sv l.length (boolsV l)) (hn:l.length=g.n) (hm:Rd 1 h mv ms.length (intsV ms)) (bm:ms.length≤17592186044416) {f:Nat→Bool} (hf:∀ i,i<g.n→(atB l i&&(decide (ms.length=0)||atB (withB g ms) i))=f i) :
  Con Tryd.prog 124 #[.pointer (some ⟨mb,0,none⟩),sv,mv] h fun v h'=>Fr 0 0 h h'∧PN h' h.size v g.n (dM f):=by
 refine con_q64 ?_
 have hn256:=m.n
 have hcl:clampN (g.n:Int)=g.n:=by unfold clampN;omega
 have p0:Fr 0 0 h h:=.refl _ _ _
 obtain ⟨rest,r1⟩:=m.row
 unfold gcells at r1
 simp only [List.cons_append,List.nil_append] at r1
 rw [hn] at hl
 obtain ⟨sa,sc,rfl⟩:=hl.is
 obtain ⟨ma,mc,rfl⟩:=hm.is
 simp -dsimp only [go_sem,r1.cell]
 refine call_of (graph_With (m.gr.fr p0) (by omega) (m:=ms) (hm.fr p0) (by omega)) ?_
 rintro v2 h2 ⟨f2,o2⟩
 have f2_z:=f2.size
 replace p0:=p0.F f2
 replace r1:=r1.F f2
 obtain ⟨wa,wc,rfl⟩:=o2.is
 have hwl:(withB g ms).length=g.n:=by simp [withB,Gr.n]
 have hw2:=o2.rd
 have p2:Fr 0 0 h2 h2:=.refl _ _ _
 simp -dsimp only [go_sem,r1.cell]
 refine Chk_intro (by omega) ?_
 rw [zeros_one,Int.toNat_natCast,brow_false]
 intro b3 h3 n3
 have n3_z:=n3.az
 replace p0:=p0.F n3.f0
 replace r1:=r1.F n3.f0
 replace p2:=p2.F n3.f0
 have r3:=n3.row
 simp -dsimp only [go_sem,r1.cell,r3.cell]
 have P0:=p0
 refine loop_intro (fun i:Nat=>[(2,.slice ma ms.length mc),(7,.slice wa g.n wc),(8,.slice (some ⟨b3,0,none⟩) g.n g.n),(20,.slice sa g.n sc),(21,.int .i64 g.n),(22,.int .i64 i)])
  (fun i h'=>i≤g.n∧Fr b3 (b3+1) h3 h'∧Rw h' b3 (brow g.n fun j=>decide (j<i)&&f j)) (fun i=>g.n - i) 0 ?_ ?_ ?_
 ·simp [Le,find]
 ·exact ⟨by omega,.refl _ _ _,by simpa using r3⟩
 have P23:Fr 0 0 h2 h3:=p2
 clear p0 r1 r3 o2 p2
 rintro i h4 ⟨hi,q4,r3⟩
 have hb3:h.size≤b3∧h2.size=b3:=by omega
 by_cases hlt:i<g.n
 ·have e1:((i:Int)<(g.n:Int)):=by omega
  have hfi:=hf i hlt
  have p4:=P0.fresh q4 (by omega)
  have p24:=P23.fresh q4 (by omega)
  obtain ⟨ab,ao,rfl,hac⟩:=bools_at hl (by omega)
  obtain ⟨bb,bo,rfl,hbc⟩:=bools_at hw2 (by omega)
  have k1:=hac h4 p4 i _ (atB_list (by omega))
  have k2:=hbc h4 p24 i _ (atB_list (by omega))
  generalize atB l i=x at k1 hfi
  generalize atB (withB g ms) i=y at k2 hfi
  cases x
  ·simp -dsimp only [go_sem,e1,k1,r3.cell]
   refine Chk_intro (r3.W) fun h5 s5=>?_
   have s5_z:=s5.size
   replace r3:=s5.row r3
   try simp only [cl_int,cl_bool,cl_slice,cl_ptr,putAt_one,zs0,zs1,ivec_set,brow_upd] at r3
   simp -dsimp only [go_sem,r3.cell]
   simp -dsimp (disch:=omega) only [wrap64]
   refine ⟨i+1,by omega,by simp [Le,find],by omega,q4.freshIn s5.fr (by omega),?_⟩
   rw [brow_congr (g:=upd (fun j=>decide (j<i)&&f j) i false) fun j _=>row_step hfi j]
   exact r3
  ·rw [Bool.true_and] at hfi
   by_cases hms:ms.length=0
   ·have e2:((ms.length:Int)==0)=true:=by simpa using hms
    rw [decide_eq_true hms,Bool.true_or] at hfi
    simp -dsimp only [go_sem,e1,k1,e2,r3.cell]
    refine Chk_intro (r3.W) fun h5 s5=>?_
    have s5_z:=s5.size
    replace r3:=s5.row r3
    try simp only [cl_int,cl_bool,cl_slice,cl_ptr,putAt_one,zs0,zs1,ivec_set,brow_upd] at r3
    simp -dsimp only [go_sem,r3.cell]
    simp -dsimp (disch:=omega) only [wrap64]
    refine ⟨i+1,by omega,by simp [Le,find],by omega,q4.freshIn s5.fr (by omega),?_⟩
    rw [brow_congr (g:=upd (fun j=>decide (j<i)&&f j) i true) fun j _=>row_step hfi j]
    exact r3
   ·have e2:((ms.length:Int)==0)=false:=by simpa using hms
    rw [decide_eq_false hms,Bool.false_or] at hfi
    simp -dsimp only [go_sem,e1,k1,k2,e2,r3.cell]
    refine Chk_intro (r3.W) fun h5 s5=>?_
    have s5_z:=s5.size
    replace r3:=s5.row r3
    try simp only [cl_int,cl_bool,cl_slice,cl_ptr,putAt_one,zs0,zs1,ivec_set,brow_upd] at r3
    simp -dsimp only [go_sem,r3.cell]
    simp -dsimp (disch:=omega) only [wrap64]
    refine ⟨i+1,by omega,by simp [Le,find],by omega,q4.freshIn s5.fr (by omega),?_⟩
    rw [brow_congr (g:=upd (fun j=>decide (j<i)&&f j) i y) fun j _=>row_step hfi j]
    exact r3
 ·obtain rfl:i=g.n:=by omega
  simp -dsimp only [go_sem,Int.lt_irrefl,r3.cell]
  have p4:=P0.fresh q4 (by omega)
  have hr:Rd 1 h4 (.slice (some ⟨b3,0,none⟩) g.n g.n) ((List.range g.n).map f).length (boolsV ((List.range g.n).map f)):=by
   have e:brow g.n (fun j=>decide (j<g.n)&&f j)=boolsV ((List.range g.n).map f):=by
    rw [brow_congr (g:=f) fun j hj=>by simp [hj]]
    unfold brow boolsV;rw [List.map_map];rfl
   rw [e] at r3
   have:=Rw.rd (s:=1) (n:=g.n) (c:=g.n) r3 (by simp [boolsV])
   simpa using this
  refine call_of (rel_Ident g.n hr (by simp;omega)) ?_
  rintro v5 h5 ⟨f5,t5⟩
  rw [hcl] at t5
  simp -dsimp only [go_sem,r3.cell]
  exact ⟨p4.fresh f5 (by omega),((PN.of t5).lower (by have:=q4.size;omega)).congr fun i j hi hj=>by
   show (i==j&&atB ((List.range g.n).map f) i)=dM f i j
   unfold dM;rw [atB_get (b:=f i) (by simp [hi])]⟩
end
end Go.Proofs.Tst
/-
  The source's memory model of a graph.
-/
namespace Go.Proofs.Tst
open Go Go.Vc
def scells (q:GV) (g:Gr) (c:Nat→Nat) (rd wr fe:Value) (d:Nat→Nat):List Value:=[.int .i64 g.cells,.slice q.e g.evs.length q.ec,.slice q.f g.rf.length q.fc,.slice q.o g.co.length q.oc,.slice q.r g.rmw.length q.rc,.slice q.a g.addr.length q.ac,.slice q.d g.data.length q.dc,.slice q.c g.ctrl.length q.cc,
 .pointer (some ⟨c 0,0,none⟩),.pointer (some ⟨c 1,0,none⟩),.pointer (some ⟨c 2,0,none⟩),.pointer (some ⟨c 9,0,none⟩),.pointer (some ⟨c 3,0,none⟩),.pointer (some ⟨c 4,0,none⟩),.pointer (some ⟨c 5,0,none⟩),.pointer (some ⟨c 6,0,none⟩),.pointer (some ⟨c 7,0,none⟩),.pointer (some ⟨c 8,0,none⟩),rd,wr,fe,
 .pointer (some ⟨d 0,0,none⟩),.pointer (some ⟨d 1,0,none⟩),.pointer (some ⟨d 2,0,none⟩),.pointer (some ⟨d 3,0,none⟩),.pointer (some ⟨d 4,0,none⟩),.pointer (some ⟨d 5,0,none⟩),.pointer (some ⟨d 6,0,none⟩)]
def PB (h:Heap) (lo hi:Nat) (v:Value) (n:Nat) (M:Mx):Prop:=∃ a b,ProgAt h a b v n M∧lo≤a∧a≤b∧b≤hi
theorem PB.fr {h h':Heap} {lo hi l r n:Nat} {v:Value} {M:Mx} (t:PB h lo hi v n M) (f:Fr l r h h') (hd:r≤lo∨hi≤l∨r≤l):PB h' lo hi v n M:=by
 obtain ⟨a,b,t,k⟩:=t
 exact ⟨a,b,t.fr f (by omega),k⟩
theorem PB.wide {h:Heap} {lo hi lo' hi' n:Nat} {v:Value} {M:Mx} (t:PB h lo hi v n M) (h1:lo'≤lo) (h2:hi≤hi'):PB h lo' hi' v n M:=by
 obtain ⟨a,b,t,k⟩:=t
 exact ⟨a,b,t,by omega,k.2.1,by omega⟩
theorem PB.pa {h:Heap} {lo hi n:Nat} {v:Value} {M:Mx} (t:PB h lo hi v n M):PA h v n M:=by obtain ⟨a,b,t,-⟩:=t;exact ⟨a,b,t⟩
structure Ms (h:Heap) (lo mb:Nat) (q:GV) (g:Gr) (c:Nat→Nat) (rd wr fe:Value) (d L:Nat→Nat):Prop where
 row:Rw h mb (scells q g c rd wr fe d)
 gr:GrAt h q g
 n:g.n≤256
 rel:∀ k,k<10→PA h (.pointer (some ⟨c k,0,none⟩)) g.n (relM g k)
 hm:∀ k,k<7→PB h (L k) (L (k+1)) (.pointer (some ⟨d k,0,none⟩)) g.n (rcM g k)
 mono:∀ k,k<7→L k≤L (k+1)
 lo:lo≤L 0
 hi:L 7≤h.size
theorem Ms.fr {h h':Heap} {lo mb:Nat} {q:GV} {g:Gr} {c:Nat→Nat} {rd wr fe:Value} {d L:Nat→Nat} (m:Ms h lo mb q g c rd wr fe d L) (f:Fr 0 0 h h'):Ms h' lo mb q g c rd wr fe d L:=
 ⟨m.row.fr f (by omega),m.gr.fr f,m.n,fun k hk=>(m.rel k hk).fr f,fun k hk=>(m.hm k hk).fr f (by omega),m.mono,m.lo,Nat.le_trans m.hi f.size⟩
theorem nilR {h:Heap}:Rd 1 h (.slice none 0 0) ([]:List Int).length (intsV []):=⟨rfl,_,_,rfl,.inl rfl⟩
theorem PN.F {h h' : Heap} {lo n l r : Nat} {v : Value} {M : Mx} (t : PN h lo v n M) (f : Fr l r h h') (hd : r ≤ lo ∨ h.size ≤ l ∨ r ≤ l := by omega) : PN h' lo v n M := t.fr f hd
theorem PB.F {h h' : Heap} {lo hi n l r : Nat} {v : Value} {M : Mx} (t : PB h lo hi v n M) (f : Fr l r h h') (hd : r ≤ lo ∨ hi ≤ l ∨ r ≤ l := by omega) : PB h' lo hi v n M := t.fr f hd
section
variable {h : Heap} {q : GV} {g : Gr}
set_option maxHeartbeats 16000000 in
theorem rc11_derive (t:GrAt h q g) (ht:TabAt h) :
  Con Tryd.prog 79 #[.agg (gcells q g).toArray] h fun v h'=>Fr 0 0 h h'∧if (g.check false).1=0 then ∃ mb c rd wr fe d L,v=.tuple #[.pointer (some ⟨mb,0,none⟩),.int .i64 0]∧Ms h' h.size mb q g c rd wr fe d L else v=.tuple #[.pointer none,.int .i64 4]:=by
 have p0:Fr 0 0 h h:=.refl _ _ _
 have hen:g.evs.length=g.n:=rfl
 by_cases hc:(g.check false).1=0
 rotate_left
 ·simp only [if_neg hc]
  refine con_q61 ?_
  unfold gcells
  simp -dsimp only [go_sem]
  intro b1 h1 n1
  have n1_a:=n1.at_
  have n1_z:=n1.size
  replace p0:=p0.F n1.f0
  have r1:=n1.row
  simp -dsimp only [go_sem,r1.cell]
  refine call_of (graph_Check (t.fr p0) false) ?_
  rintro v2 h2 ⟨f2,rfl⟩
  have f2_z:=f2.size
  replace p0:=p0.F f2
  replace r1:=r1.F f2
  simp -dsimp only [go_sem,bne_f hc,r1.cell]
  exact p0
 simp only [if_pos hc]
 refine con_q61 ?_
 unfold gcells
 simp -dsimp only [go_sem]
 intro b1 h1 n1
 have n1_a:=n1.at_
 have n1_z:=n1.size
 replace p0:=p0.F n1.f0
 have r1:=n1.row
 simp -dsimp only [go_sem,r1.cell]
 refine call_of (graph_Check (t.fr p0) false) ?_
 rintro v2 h2 ⟨f2,rfl⟩
 have f2_z:=f2.size
 replace p0:=p0.F f2
 replace r1:=r1.F f2
 have hg:=good_false hc
 simp -dsimp only [go_sem,bne_t hc,r1.cell]
 refine call_of (graph_Derive (t.fr p0) (ht.fr p0 (.inr rfl))) ?_
 rintro v3 h3 ⟨f3,w3⟩
 have f3_z:=f3.size
 replace p0:=p0.F f3
 replace r1:=r1.F f3
 rw [if_pos hg] at w3
 obtain ⟨p,rd,wr,fe,rfl,F⟩:=w3
 obtain ⟨c,hp⟩:=facts_ptr F
 obtain ⟨A,B,D,dlo,dap⟩:=F.rel
 have hn:=F.n
 have R:∀ k,k<10→PA h3 (.pointer (some ⟨c k,0,none⟩)) g.n (relM g k):=fun k hk=>by rw [← hp k hk];exact ⟨_,_,D.at_ k hk⟩
 have dR:Rd 1 h3 rd (kindsV g 1 g.n).length (boolsV (kindsV g 1 g.n)):=by rw [kinds_len];exact F.hrd.rd
 have dW:Rd 1 h3 wr (kindsV g 2 g.n).length (boolsV (kindsV g 2 g.n)):=by rw [kinds_len];exact F.hwr.rd
 have dF:Rd 1 h3 fe (kindsV g 3 g.n).length (boolsV (kindsV g 3 g.n)):=by rw [kinds_len];exact F.hfe.rd
 obtain ⟨rda,rdc,e1⟩:=F.hrd.is
 obtain ⟨wra,wrc,e2⟩:=F.hwr.is
 obtain ⟨fea,fec,e3⟩:=F.hfe.is
 subst e1;subst e2;subst e3
 clear F D dap dlo
 have p3:Fr 0 0 h3 h3:=.refl _ _ _
 unfold fcells
 rw [hp 0 (by decide),hp 1 (by decide),hp 2 (by decide),hp 3 (by decide),hp 4 (by decide),hp 5 (by decide),hp 6 (by decide),hp 7 (by decide),hp 8 (by decide),hp 9 (by decide)]
 simp -dsimp only [go_sem,r1.cell]
 intro b6 h4 n4
 have n4_z:=n4.az
 replace p0:=p0.F n4.f0
 replace r1:=r1.F n4.f0
 replace p3:=p3.F n4.f0
 have r6:=n4.row
 simp -dsimp only [go_sem,r1.cell,r6.cell]
 refine Chk_intro (r6.W) fun h5 s5=>?_
 have s5_z:=s5.size
 replace p0:=p0.F s5.fr
 replace r1:=r1.F s5.fr
 replace p3:=p3.F s5.fr
 replace r6:=s5.row r6
 try simp only [cl_int,cl_bool,cl_slice,cl_ptr,putAt_one,zs0,zs1,ivec_set,brow_upd] at r6
 try simp -dsimp only [go_sem] at r6
 simp -dsimp only [go_sem,r1.cell,r6.cell]
 refine withC_of [.pointer (some ⟨c 0,0,none⟩),.pointer (some ⟨c 1,0,none⟩),.pointer (some ⟨c 2,0,none⟩),.pointer (some ⟨c 9,0,none⟩),.pointer (some ⟨c 3,0,none⟩),.pointer (some ⟨c 4,0,none⟩),.pointer (some ⟨c 5,0,none⟩),.pointer (some ⟨c 6,0,none⟩),.pointer (some ⟨c 7,0,none⟩),.pointer (some ⟨c 8,0,none⟩),.slice rda g.n rdc,.slice wra g.n wrc,.slice fea g.n fec] 0 (fun j x hj=>by rw [r6.cell,Nat.zero_add];exact hj) ?_
 refine Chk_intro rfl ?_
 simp -dsimp only [go_sem,r1.cell,r6.cell]
 intro mb h6 n6
 have n6_z:=n6.az
 replace p0:=p0.F n6.f0
 replace r1:=r1.F n6.f0
 replace p3:=p3.F n6.f0
 replace r6:=r6.F n6.f0
 have rm:=n6.row
 clear r1
 replace rm:Rw h6 mb [.int .i64 g.cells,.slice q.e g.evs.length q.ec,.slice q.f g.rf.length q.fc,.slice q.o g.co.length q.oc,.slice q.r g.rmw.length q.rc,.slice q.a g.addr.length q.ac,.slice q.d g.data.length q.dc,.slice q.c g.ctrl.length q.cc,.pointer (some ⟨c 0,0,none⟩),.pointer (some ⟨c 1,0,none⟩),.pointer (some ⟨c 2,0,none⟩),.pointer (some ⟨c 9,0,none⟩),.pointer (some ⟨c 3,0,none⟩),.pointer (some ⟨c 4,0,none⟩),.pointer (some ⟨c 5,0,none⟩),.pointer (some ⟨c 6,0,none⟩),.pointer (some ⟨c 7,0,none⟩),.pointer (some ⟨c 8,0,none⟩),.slice rda g.n rdc,.slice wra g.n wrc,.slice fea g.n fec,.pointer none,.pointer none,.pointer none,.pointer none,.pointer none,.pointer none,.pointer none]:=rm
 have gb:h.size≤mb∧mb<h6.size∧b6<h6.size:=by omega
 simp -dsimp only [go_sem,r6.cell,rm.cell]
 refine call_of (rc11_model_some (⟨⟨_,rm⟩,t.fr p0,hn⟩:Mg _ mb q g) (dW.fr p3) (kinds_len g 2) (ms:=[]) nilR (by simp) (f:=isK g 2) (fun i hi=>by rw [atB_kinds hi];simp)) ?_
 rintro v11 h11 ⟨f11,e_t40⟩
 replace e_t40:=e_t40.lower (lo':=h6.size) (by omega)
 obtain ⟨b_t40,rfl⟩:=e_t40.pa.ptr
 have f11_z:=f11.size
 replace p0:=p0.F f11
 replace p3:=p3.F f11
 replace r6:=r6.F f11
 replace rm:=rm.F f11
 simp -dsimp only [go_sem,r6.cell,rm.cell]
 refine call_of (rc11_model_some (⟨⟨_,rm⟩,t.fr p0,hn⟩:Mg _ mb q g) (dR.fr p3) (kinds_len g 1) (ms:=[]) nilR (by simp) (f:=isK g 1) (fun i hi=>by rw [atB_kinds hi];simp)) ?_
 rintro v12 h12 ⟨f12,e_t44⟩
 replace e_t44:=e_t44.lower (lo':=h6.size) (by omega)
 obtain ⟨b_t44,rfl⟩:=e_t44.pa.ptr
 have f12_z:=f12.size
 replace p0:=p0.F f12
 replace p3:=p3.F f12
 replace r6:=r6.F f12
 replace rm:=rm.F f12
 replace e_t40:=e_t40.F f12
 simp -dsimp only [go_sem,r6.cell,rm.cell]
 refine call_of (rc11_model_some (⟨⟨_,rm⟩,t.fr p0,hn⟩:Mg _ mb q g) (dF.fr p3) (kinds_len g 3) (ms:=[]) nilR (by simp) (f:=isK g 3) (fun i hi=>by rw [atB_kinds hi];simp)) ?_
 rintro v13 h13 ⟨f13,e_t48⟩
 replace e_t48:=e_t48.lower (lo':=h6.size) (by omega)
 obtain ⟨b_t48,rfl⟩:=e_t48.pa.ptr
 have f13_z:=f13.size
 replace p0:=p0.F f13
 replace p3:=p3.F f13
 replace r6:=r6.F f13
 replace rm:=rm.F f13
 replace e_t40:=e_t40.F f13
 replace e_t44:=e_t44.F f13
 simp -dsimp only [go_sem,r6.cell,rm.cell]
 have g_8:h.size≤h6.size∧h6.size≤h13.size∧mb<h6.size∧b6<h6.size:=by omega
 have gh:Mg h13 mb q g:=⟨⟨_,rm⟩,t.fr p0,hn⟩
 refine free_intro [(3,[3],tI [3,4,5]),(4,[4],tN h13.size g.n (dM (fun i=>isK g 2 i&&(isM g 3 i||isM g 4 i||isM g 5 i)))),(8,[8],tI [3,4,5]),(9,[9],tN h13.size g.n (dM (fun i=>isK g 3 i&&(isM g 3 i||isM g 4 i||isM g 5 i)))),(10,[10],tU g.n (orM [dM (fun i=>isK g 2 i&&(isM g 3 i||isM g 4 i||isM g 5 i)),dM (fun i=>isK g 3 i&&(isM g 3 i||isM g 4 i||isM g 5 i))])),(11,[11],tN h13.size g.n (dM (relB g))),(12,[12],tN h13.size g.n (dM (relB g)))] ?_ rfl ?_ ?_
 ·exact ⟨stI _,stN _ _ _,stI _,stN _ _ _,stU _ _,stN _ _ _,stN _ _ _,trivial⟩
 ·simp -dsimp only [go_sem,tC_eq,tU_eq,tN_eq,tI_eq,tV_eq,r6.cell,rm.cell]
  refine ⟨fun h4 f4 V=>?_,fun h4 f4 V a3=>?_,fun h4 f4 V=>?_,fun h4 f4 V a8 a4=>?_,fun h4 f4 V a4 a9=>?_,fun h4 f4 V a10 a9=>?_,fun h4 f4 V a3 a4 a8 a9 a10 a11=>?_⟩
  ·intro b5 h5 n5
   try simp -dsimp only [go_sem] at n5
   simp -dsimp only [go_sem,tI_eq,r6.cell,rm.cell]
   exact ⟨n5.fr,Rw.rd (s:=1) (n:=3) (c:=3) n5.row rfl⟩
  ·try simp -dsimp only [go_sem,r6.cell,rm.cell]
   refine call_of (rc11_model_some (gh.fr f4) (dW.fr (p3.trans f4)) (kinds_len g 2) (ms:=[3,4,5]) a3 (by simp) (f:=fun i=>isK g 2 i&&(isM g 3 i||isM g 4 i||isM g 5 i)) (fun i hi=>by rw [atB_kinds hi,atB_w3 hi];rfl)) ?_
   rintro v h5 ⟨f5,w⟩
   simp -dsimp only [go_sem,tN_eq,r6.cell,rm.cell]
   exact ⟨f5,(PN.lower w f4.size)⟩
  ·intro b5 h5 n5
   try simp -dsimp only [go_sem] at n5
   simp -dsimp only [go_sem,tI_eq,r6.cell,rm.cell]
   exact ⟨n5.fr,Rw.rd (s:=1) (n:=3) (c:=3) n5.row rfl⟩
  ·try simp -dsimp only [go_sem,r6.cell,rm.cell]
   refine call_of (rc11_model_some (gh.fr f4) (dF.fr (p3.trans f4)) (kinds_len g 3) (ms:=[3,4,5]) a8 (by simp) (f:=fun i=>isK g 3 i&&(isM g 3 i||isM g 4 i||isM g 5 i)) (fun i hi=>by rw [atB_kinds hi,atB_w3 hi];rfl)) ?_
   rintro v h5 ⟨f5,w⟩
   simp -dsimp only [go_sem,tN_eq,r6.cell,rm.cell]
   exact ⟨f5,(PN.lower w f4.size)⟩
  ·try simp -dsimp only [go_sem,a4.pa.cl,a9.pa.cl,putAt_one,r6.cell,rm.cell]
   intro b5 h5 n5
   try simp -dsimp only [go_sem] at n5
   simp -dsimp only [go_sem,tU_eq,tC_eq,r6.cell,rm.cell]
   exact ⟨n5.fr,UA.mk' [((V 4).1,dM (fun i=>isK g 2 i&&(isM g 3 i||isM g 4 i||isM g 5 i))),((V 9).1,dM (fun i=>isK g 3 i&&(isM g 3 i||isM g 4 i||isM g 5 i)))] n5.row (pa_cons (PA.fr (a4.pa) n5.fr) (pa_cons (PA.fr (a9.pa) n5.fr) (pa_nil))) (by simp) (by simp)⟩
  ·try simp -dsimp only [go_sem,r6.cell,rm.cell]
   refine call_of (rel_UnionU a10) ?_
   rintro v h5 ⟨f5,w⟩
   simp -dsimp only [go_sem,tN_eq,r6.cell,rm.cell]
   exact ⟨f5,(PN.lower (PN.of w) f4.size).congr rel_pts⟩
  ·try simp -dsimp only [go_sem,tN_eq,r6.cell,rm.cell]
   exact ⟨.refl _ _ _,a11⟩
 intro h14 f14 V _
 clear gh
 simp -dsimp only [go_sem,tC_eq,tU_eq,tN_eq,tI_eq,tV_eq,r6.cell,rm.cell]
 intro a3 a4 a8 a9 a10 a11 a12
 obtain ⟨b_rl,z_rl⟩:=a12.pa.ptr
 generalize (V 12).1=y_rl at *
 subst z_rl
 have f14_z:=f14.size
 replace p0:=p0.F f14
 replace p3:=p3.F f14
 replace r6:=r6.F f14
 replace rm:=rm.F f14
 replace e_t40:=e_t40.F f14
 replace e_t44:=e_t44.F f14
 replace e_t48:=e_t48.F f14
 simp -dsimp only [go_sem,r6.cell,rm.cell]
 have e_rl:=a12.lower (lo':=h13.size) (by omega)
 clear a3 a4 a8 a9 a10 a11 a12
 have g_9:h.size≤h6.size∧h6.size≤h14.size∧mb<h6.size∧b6<h6.size:=by omega
 have gh:Mg h14 mb q g:=⟨⟨_,rm⟩,t.fr p0,hn⟩
 refine free_intro [(3,[3],tI [2,4,5]),(4,[4],tN h14.size g.n (dM (fun i=>isK g 1 i&&(isM g 2 i||isM g 4 i||isM g 5 i)))),(8,[8],tI [2,4,5]),(9,[9],tN h14.size g.n (dM (fun i=>isK g 3 i&&(isM g 2 i||isM g 4 i||isM g 5 i)))),(10,[10],tU g.n (orM [dM (fun i=>isK g 1 i&&(isM g 2 i||isM g 4 i||isM g 5 i)),dM (fun i=>isK g 3 i&&(isM g 2 i||isM g 4 i||isM g 5 i))])),(11,[11],tN h14.size g.n (dM (acrB g))),(12,[12],tN h14.size g.n (dM (acrB g)))] ?_ rfl ?_ ?_
 ·exact ⟨stI _,stN _ _ _,stI _,stN _ _ _,stU _ _,stN _ _ _,stN _ _ _,trivial⟩
 ·simp -dsimp only [go_sem,tC_eq,tU_eq,tN_eq,tI_eq,tV_eq,r6.cell,rm.cell]
  refine ⟨fun h4 f4 V=>?_,fun h4 f4 V a3=>?_,fun h4 f4 V=>?_,fun h4 f4 V a8 a4=>?_,fun h4 f4 V a4 a9=>?_,fun h4 f4 V a10 a9=>?_,fun h4 f4 V a3 a4 a8 a9 a10 a11=>?_⟩
  ·intro b5 h5 n5
   try simp -dsimp only [go_sem] at n5
   simp -dsimp only [go_sem,tI_eq,r6.cell,rm.cell]
   exact ⟨n5.fr,Rw.rd (s:=1) (n:=3) (c:=3) n5.row rfl⟩
  ·try simp -dsimp only [go_sem,r6.cell,rm.cell]
   refine call_of (rc11_model_some (gh.fr f4) (dR.fr (p3.trans f4)) (kinds_len g 1) (ms:=[2,4,5]) a3 (by simp) (f:=fun i=>isK g 1 i&&(isM g 2 i||isM g 4 i||isM g 5 i)) (fun i hi=>by rw [atB_kinds hi,atB_w3 hi];rfl)) ?_
   rintro v h5 ⟨f5,w⟩
   simp -dsimp only [go_sem,tN_eq,r6.cell,rm.cell]
   exact ⟨f5,(PN.lower w f4.size)⟩
  ·intro b5 h5 n5
   try simp -dsimp only [go_sem] at n5
   simp -dsimp only [go_sem,tI_eq,r6.cell,rm.cell]
   exact ⟨n5.fr,Rw.rd (s:=1) (n:=3) (c:=3) n5.row rfl⟩
  ·try simp -dsimp only [go_sem,r6.cell,rm.cell]
   refine call_of (rc11_model_some (gh.fr f4) (dF.fr (p3.trans f4)) (kinds_len g 3) (ms:=[2,4,5]) a8 (by simp) (f:=fun i=>isK g 3 i&&(isM g 2 i||isM g 4 i||isM g 5 i)) (fun i hi=>by rw [atB_kinds hi,atB_w3 hi];rfl)) ?_
   rintro v h5 ⟨f5,w⟩
   simp -dsimp only [go_sem,tN_eq,r6.cell,rm.cell]
   exact ⟨f5,(PN.lower w f4.size)⟩
  ·try simp -dsimp only [go_sem,a4.pa.cl,a9.pa.cl,putAt_one,r6.cell,rm.cell]
   intro b5 h5 n5
   try simp -dsimp only [go_sem] at n5
   simp -dsimp only [go_sem,tU_eq,tC_eq,r6.cell,rm.cell]
   exact ⟨n5.fr,UA.mk' [((V 4).1,dM (fun i=>isK g 1 i&&(isM g 2 i||isM g 4 i||isM g 5 i))),((V 9).1,dM (fun i=>isK g 3 i&&(isM g 2 i||isM g 4 i||isM g 5 i)))] n5.row (pa_cons (PA.fr (a4.pa) n5.fr) (pa_cons (PA.fr (a9.pa) n5.fr) (pa_nil))) (by simp) (by simp)⟩
  ·try simp -dsimp only [go_sem,r6.cell,rm.cell]
   refine call_of (rel_UnionU a10) ?_
   rintro v h5 ⟨f5,w⟩
   simp -dsimp only [go_sem,tN_eq,r6.cell,rm.cell]
   exact ⟨f5,(PN.lower (PN.of w) f4.size).congr acr_pts⟩
  ·try simp -dsimp only [go_sem,tN_eq,r6.cell,rm.cell]
   exact ⟨.refl _ _ _,a11⟩
 intro h15 f15 V _
 clear gh
 simp -dsimp only [go_sem,tC_eq,tU_eq,tN_eq,tI_eq,tV_eq,r6.cell,rm.cell]
 intro a3 a4 a8 a9 a10 a11 a12
 obtain ⟨b_aq,z_aq⟩:=a12.pa.ptr
 generalize (V 12).1=y_aq at *
 subst z_aq
 have f15_z:=f15.size
 replace p0:=p0.F f15
 replace p3:=p3.F f15
 replace r6:=r6.F f15
 replace rm:=rm.F f15
 replace e_t40:=e_t40.F f15
 replace e_t44:=e_t44.F f15
 replace e_t48:=e_t48.F f15
 replace e_rl:=e_rl.F f15
 simp -dsimp only [go_sem,r6.cell,rm.cell]
 have e_aq:=a12.lower (lo':=h14.size) (by omega)
 clear a3 a4 a8 a9 a10 a11 a12
 have g_10:h.size≤h6.size∧h6.size≤h15.size∧mb<h6.size∧b6<h6.size:=by omega
 have gh:Mg h15 mb q g:=⟨⟨_,rm⟩,t.fr p0,hn⟩
 refine free_intro [(3,[3],tI [5]),(4,[4],tN h15.size g.n (dM (fun i=>isK g 2 i&&isM g 5 i))),(8,[8],tI [5]),(9,[9],tN h15.size g.n (dM (fun i=>isK g 1 i&&isM g 5 i))),(10,[10],tU g.n (orM [dM (fun i=>isK g 2 i&&isM g 5 i),dM (fun i=>isK g 1 i&&isM g 5 i)])),(11,[11],tN h15.size g.n (dM (escB g))),(15,[15],tI [5]),(16,[16],tN h15.size g.n (dM (fscB g))),(17,[17],tN h15.size g.n (dM (escB g))),(18,[18],tN h15.size g.n (dM (fscB g)))] ?_ rfl ?_ ?_
 ·exact ⟨stI _,stN _ _ _,stI _,stN _ _ _,stU _ _,stN _ _ _,stI _,stN _ _ _,stN _ _ _,stN _ _ _,trivial⟩
 ·simp -dsimp only [go_sem,tC_eq,tU_eq,tN_eq,tI_eq,tV_eq,r6.cell,rm.cell]
  refine ⟨fun h4 f4 V=>?_,fun h4 f4 V a3=>?_,fun h4 f4 V=>?_,fun h4 f4 V a8 a4=>?_,fun h4 f4 V a4 a9=>?_,fun h4 f4 V a10 a9=>?_,fun h4 f4 V=>?_,fun h4 f4 V a15 a11=>?_,fun h4 f4 V a16 a3 a4 a8 a9 a10 a11=>?_,fun h4 f4 V a3 a4 a8 a9 a10 a11 a15 a16 a17=>?_⟩
  ·intro b5 h5 n5
   try simp -dsimp only [go_sem] at n5
   simp -dsimp only [go_sem,tI_eq,r6.cell,rm.cell]
   exact ⟨n5.fr,Rw.rd (s:=1) (n:=1) (c:=1) n5.row rfl⟩
  ·try simp -dsimp only [go_sem,r6.cell,rm.cell]
   refine call_of (rc11_model_some (gh.fr f4) (dW.fr (p3.trans f4)) (kinds_len g 2) (ms:=[5]) a3 (by simp) (f:=fun i=>isK g 2 i&&isM g 5 i) (fun i hi=>by rw [atB_kinds hi,atB_with hi];rfl)) ?_
   rintro v h5 ⟨f5,w⟩
   simp -dsimp only [go_sem,tN_eq,r6.cell,rm.cell]
   exact ⟨f5,(PN.lower w f4.size)⟩
  ·intro b5 h5 n5
   try simp -dsimp only [go_sem] at n5
   simp -dsimp only [go_sem,tI_eq,r6.cell,rm.cell]
   exact ⟨n5.fr,Rw.rd (s:=1) (n:=1) (c:=1) n5.row rfl⟩
  ·try simp -dsimp only [go_sem,r6.cell,rm.cell]
   refine call_of (rc11_model_some (gh.fr f4) (dR.fr (p3.trans f4)) (kinds_len g 1) (ms:=[5]) a8 (by simp) (f:=fun i=>isK g 1 i&&isM g 5 i) (fun i hi=>by rw [atB_kinds hi,atB_with hi];rfl)) ?_
   rintro v h5 ⟨f5,w⟩
   simp -dsimp only [go_sem,tN_eq,r6.cell,rm.cell]
   exact ⟨f5,(PN.lower w f4.size)⟩
  ·try simp -dsimp only [go_sem,a4.pa.cl,a9.pa.cl,putAt_one,r6.cell,rm.cell]
   intro b5 h5 n5
   try simp -dsimp only [go_sem] at n5
   simp -dsimp only [go_sem,tU_eq,tC_eq,r6.cell,rm.cell]
   exact ⟨n5.fr,UA.mk' [((V 4).1,dM (fun i=>isK g 2 i&&isM g 5 i)),((V 9).1,dM (fun i=>isK g 1 i&&isM g 5 i))] n5.row (pa_cons (PA.fr (a4.pa) n5.fr) (pa_cons (PA.fr (a9.pa) n5.fr) (pa_nil))) (by simp) (by simp)⟩
  ·try simp -dsimp only [go_sem,r6.cell,rm.cell]
   refine call_of (rel_UnionU a10) ?_
   rintro v h5 ⟨f5,w⟩
   simp -dsimp only [go_sem,tN_eq,r6.cell,rm.cell]
   exact ⟨f5,(PN.lower (PN.of w) f4.size).congr esc_pts⟩
  ·intro b5 h5 n5
   try simp -dsimp only [go_sem] at n5
   simp -dsimp only [go_sem,tI_eq,r6.cell,rm.cell]
   exact ⟨n5.fr,Rw.rd (s:=1) (n:=1) (c:=1) n5.row rfl⟩
  ·try simp -dsimp only [go_sem,r6.cell,rm.cell]
   refine call_of (rc11_model_some (gh.fr f4) (dF.fr (p3.trans f4)) (kinds_len g 3) (ms:=[5]) a15 (by simp) (f:=fun i=>isK g 3 i&&isM g 5 i) (fun i hi=>by rw [atB_kinds hi,atB_with hi];rfl)) ?_
   rintro v h5 ⟨f5,w⟩
   simp -dsimp only [go_sem,tN_eq,r6.cell,rm.cell]
   exact ⟨f5,(PN.lower w f4.size).congr fsc_pts⟩
  ·try simp -dsimp only [go_sem,tN_eq,r6.cell,rm.cell]
   exact ⟨.refl _ _ _,a11⟩
  ·try simp -dsimp only [go_sem,tN_eq,r6.cell,rm.cell]
   exact ⟨.refl _ _ _,a16⟩
 intro h16 f16 V _
 clear gh
 simp -dsimp only [go_sem,tC_eq,tU_eq,tN_eq,tI_eq,tV_eq,r6.cell,rm.cell]
 intro a3 a4 a8 a9 a10 a11 a15 a16 a17 a18
 obtain ⟨b_es,z_es⟩:=a17.pa.ptr
 generalize (V 17).1=y_es at *
 subst z_es
 obtain ⟨b_fs,z_fs⟩:=a18.pa.ptr
 generalize (V 18).1=y_fs at *
 subst z_fs
 have f16_z:=f16.size
 replace p0:=p0.F f16
 replace p3:=p3.F f16
 replace r6:=r6.F f16
 replace rm:=rm.F f16
 replace e_t40:=e_t40.F f16
 replace e_t44:=e_t44.F f16
 replace e_t48:=e_t48.F f16
 replace e_rl:=e_rl.F f16
 replace e_aq:=e_aq.F f16
 simp -dsimp only [go_sem,r6.cell,rm.cell]
 have e_es:=a17.lower (lo':=h15.size) (by omega)
 have e_fs:=a18.lower (lo':=h15.size) (by omega)
 clear a3 a4 a8 a9 a10 a11 a15 a16 a17 a18
 have g_11:h.size≤h6.size∧h6.size≤h16.size∧mb<h6.size∧b6<h6.size:=by omega
 refine call_of (rel_Inter ((R 0 (by decide)).fr p3).choose_spec.choose_spec ((R 4 (by decide)).fr p3).choose_spec.choose_spec (ht.fr p0 (.inr rfl))) ?_
 rintro v17 h17 ⟨f17,w17⟩
 rw [Nat.max_self] at w17
 have e_t99:=(PN.of w17).lower (lo':=h16.size) (by omega)
 clear w17
 replace e_t99:=e_t99.congr (N:=plocM g) ploc_of
 obtain ⟨b_t99,rfl⟩:=e_t99.pa.ptr
 have f17_z:=f17.size
 replace p0:=p0.F f17
 replace p3:=p3.F f17
 replace r6:=r6.F f17
 replace rm:=rm.F f17
 replace e_t40:=e_t40.F f17
 replace e_t44:=e_t44.F f17
 replace e_t48:=e_t48.F f17
 replace e_rl:=e_rl.F f17
 replace e_aq:=e_aq.F f17
 replace e_es:=e_es.F f17
 replace e_fs:=e_fs.F f17
 simp -dsimp only [go_sem,r6.cell,rm.cell]
 refine call_of (rel_Opt e_t99.pa.choose_spec.choose_spec) ?_
 rintro v18 h18 ⟨f18,w18⟩
 have e_t100:=(PN.of w18).lower (lo':=h16.size) (by omega)
 clear w18
 obtain ⟨b_t100,rfl⟩:=e_t100.pa.ptr
 have f18_z:=f18.size
 replace p0:=p0.F f18
 replace p3:=p3.F f18
 replace r6:=r6.F f18
 replace rm:=rm.F f18
 replace e_t40:=e_t40.F f18
 replace e_t44:=e_t44.F f18
 replace e_t48:=e_t48.F f18
 replace e_rl:=e_rl.F f18
 replace e_aq:=e_aq.F f18
 replace e_es:=e_es.F f18
 replace e_fs:=e_fs.F f18
 replace e_t99:=e_t99.F f18
 simp -dsimp only [go_sem,r6.cell,rm.cell]
 refine call_of (rel_Comp ((R 1 (by decide)).fr p3).choose_spec.choose_spec ((R 3 (by decide)).fr p3).choose_spec.choose_spec (ht.fr p0 (.inr rfl))) ?_
 rintro v19 h19 ⟨f19,w19⟩
 rw [Nat.max_self] at w19
 have e_t106:=(PN.of w19).lower (lo':=h16.size) (by omega)
 clear w19
 replace e_t106:=e_t106.congr (N:=rrM g) rr_of
 obtain ⟨b_t106,rfl⟩:=e_t106.pa.ptr
 have f19_z:=f19.size
 replace p0:=p0.F f19
 replace p3:=p3.F f19
 replace r6:=r6.F f19
 replace rm:=rm.F f19
 replace e_t40:=e_t40.F f19
 replace e_t44:=e_t44.F f19
 replace e_t48:=e_t48.F f19
 replace e_rl:=e_rl.F f19
 replace e_aq:=e_aq.F f19
 replace e_es:=e_es.F f19
 replace e_fs:=e_fs.F f19
 replace e_t99:=e_t99.F f19
 replace e_t100:=e_t100.F f19
 simp -dsimp only [go_sem,r6.cell,rm.cell]
 refine call_of (rel_Star e_t106.pa.choose_spec.choose_spec) ?_
 rintro v20 h20 ⟨f20,w20⟩
 have e_t107:=(PN.of w20).lower (lo':=h16.size) (by omega)
 clear w20
 obtain ⟨b_t107,rfl⟩:=e_t107.pa.ptr
 have f20_z:=f20.size
 replace p0:=p0.F f20
 replace p3:=p3.F f20
 replace r6:=r6.F f20
 replace rm:=rm.F f20
 replace e_t40:=e_t40.F f20
 replace e_t44:=e_t44.F f20
 replace e_t48:=e_t48.F f20
 replace e_rl:=e_rl.F f20
 replace e_aq:=e_aq.F f20
 replace e_es:=e_es.F f20
 replace e_fs:=e_fs.F f20
 replace e_t99:=e_t99.F f20
 replace e_t100:=e_t100.F f20
 replace e_t106:=e_t106.F f20
 simp -dsimp only [go_sem,r6.cell,rm.cell]
 intro b21 h21 n21
 have n21_z:=n21.az
 replace p0:=p0.F n21.f0
 replace p3:=p3.F n21.f0
 replace r6:=r6.F n21.f0
 replace rm:=rm.F n21.f0
 replace e_t40:=e_t40.F n21.f0
 replace e_t44:=e_t44.F n21.f0
 replace e_t48:=e_t48.F n21.f0
 replace e_rl:=e_rl.F n21.f0
 replace e_aq:=e_aq.F n21.f0
 replace e_es:=e_es.F n21.f0
 replace e_fs:=e_fs.F n21.f0
 replace e_t99:=e_t99.F n21.f0
 replace e_t100:=e_t100.F n21.f0
 replace e_t106:=e_t106.F n21.f0
 replace e_t107:=e_t107.F n21.f0
 have r21:=n21.row
 simp -dsimp only [go_sem,r6.cell,rm.cell,r21.cell]
 refine call_of (rc11_chain e_t40.pa (CA.mk [(.pointer (some ⟨b_t100,0,none⟩),optM (plocM g)),(.pointer (some ⟨b_t40,0,none⟩),dM (isK g 2)),(.pointer (some ⟨b_t107,0,none⟩),optM (plusM g.n (rrM g)))] r21 (pa_cons e_t100.pa (pa_cons e_t40.pa (pa_cons e_t107.pa (pa_nil)))) (by simp)) (ht.fr p0 (.inr rfl))) ?_
 rintro v22 h22 ⟨f22,-,w22⟩
 have e_t109:=(w22 (by simp)).lower (lo':=h16.size) (by omega)
 clear w22
 replace e_t109:=e_t109.congr (N:=rsM g) rs_of'
 obtain ⟨b_t109,rfl⟩:=e_t109.pa.ptr
 have f22_z:=f22.size
 replace p0:=p0.F f22
 replace p3:=p3.F f22
 replace r6:=r6.F f22
 replace rm:=rm.F f22
 replace e_t40:=e_t40.F f22
 replace e_t44:=e_t44.F f22
 replace e_t48:=e_t48.F f22
 replace e_rl:=e_rl.F f22
 replace e_aq:=e_aq.F f22
 replace e_es:=e_es.F f22
 replace e_fs:=e_fs.F f22
 replace e_t99:=e_t99.F f22
 replace e_t100:=e_t100.F f22
 replace e_t106:=e_t106.F f22
 replace e_t107:=e_t107.F f22
 replace r21:=r21.F f22
 simp -dsimp only [go_sem,r6.cell,rm.cell,r21.cell]
 replace e_t109:PB h22 h16.size h22.size _ g.n (rsM g):=e_t109
 refine Chk_intro (rm.W) fun h23 s23=>?_
 have s23_z:=s23.size
 replace p0:=p0.F s23.fr
 replace p3:=p3.F s23.fr
 replace r6:=r6.F s23.fr
 replace e_t40:=e_t40.F s23.fr
 replace e_t44:=e_t44.F s23.fr
 replace e_t48:=e_t48.F s23.fr
 replace e_rl:=e_rl.F s23.fr
 replace e_aq:=e_aq.F s23.fr
 replace e_es:=e_es.F s23.fr
 replace e_fs:=e_fs.F s23.fr
 replace e_t99:=e_t99.F s23.fr
 replace e_t100:=e_t100.F s23.fr
 replace e_t106:=e_t106.F s23.fr
 replace e_t107:=e_t107.F s23.fr
 replace r21:=r21.F s23.fr
 replace e_t109:=e_t109.F s23.fr
 replace rm:=s23.row rm
 try simp only [cl_int,cl_bool,cl_slice,cl_ptr,putAt_one,zs0,zs1,ivec_set,brow_upd] at rm
 try simp -dsimp only [go_sem] at rm
 simp -dsimp only [go_sem,r6.cell,rm.cell,r21.cell]
 clear e_t99 e_t100 e_t106 e_t107 r21
 have g_13:h.size≤h6.size∧h6.size≤h23.size∧mb<h6.size∧b6<h6.size:=by omega
 have gh:Mg h23 mb q g:=⟨⟨_,rm⟩,t.fr p0,hn⟩
 refine free_intro [(5,[5],tC g.n [relM g 0]),(6,[6],tN h23.size g.n (chM g.n (dM (isK g 3)) [relM g 0])),(7,[7],tN h23.size g.n (optM (chM g.n (dM (isK g 3)) [relM g 0]))),(18,[18],tC g.n [dM (isK g 3)]),(19,[19],tN h23.size g.n (chM g.n (relM g 0) [dM (isK g 3)])),(20,[20],tN h23.size g.n (optM (chM g.n (relM g 0) [dM (isK g 3)]))),(22,[22],tC g.n [optM (chM g.n (dM (isK g 3)) [relM g 0]),rsM g,relM g 1,dM (isK g 1),optM (chM g.n (relM g 0) [dM (isK g 3)]),dM (acrB g)]),(23,[23],tN h23.size g.n (swM g)),(24,[24],tV (.pointer (some ⟨mb,21,none⟩))),(25,[25],tV (.pointer (some ⟨mb,22,none⟩)))] ?_ rfl ?_ ?_
 ·exact ⟨stC _ _,stN _ _ _,stN _ _ _,stC _ _,stN _ _ _,stN _ _ _,stC _ _,stN _ _ _,stV _,stV _,trivial⟩
 ·simp -dsimp only [go_sem,tC_eq,tU_eq,tN_eq,tI_eq,tV_eq,r6.cell,rm.cell]
  refine ⟨fun h4 f4 V=>?_,fun h4 f4 V a5=>?_,fun h4 f4 V a6=>?_,fun h4 f4 V=>?_,fun h4 f4 V a18 a7=>?_,fun h4 f4 V a19=>?_,fun h4 f4 V a7 a20=>?_,fun h4 f4 V a22 a20=>?_,fun h4 f4 V a5 a6 a7 a18 a19 a20 a22 a23=>?_,fun h4 f4 V a24 a5 a6 a7 a18 a19 a20 a22 a23=>?_⟩
  ·try simp -dsimp only [go_sem,putAt_one,r6.cell,rm.cell]
   intro b5 h5 n5
   try simp -dsimp only [go_sem] at n5
   simp -dsimp only [go_sem,tU_eq,tC_eq,r6.cell,rm.cell]
   exact ⟨n5.fr,CA.mk [(.pointer (some ⟨c 0,0,none⟩),relM g 0)] n5.row (pa_cons (PA.fr (((R 0 (by decide)).fr (p3.trans f4))) n5.fr) (pa_nil)) (by simp)⟩
  ·try simp -dsimp only [go_sem,r6.cell,rm.cell]
   refine call_of (rc11_chain (e_t48.pa.fr f4) a5 (ht.fr (p0.trans f4) (.inr rfl))) ?_
   rintro v h5 ⟨f5,-,w⟩
   simp -dsimp only [go_sem,tN_eq,r6.cell,rm.cell]
   exact ⟨f5,(PN.lower (w (by simp)) f4.size)⟩
  ·try simp -dsimp only [go_sem,r6.cell,rm.cell]
   refine call_of (rel_Opt (a6.pa).choose_spec.choose_spec) ?_
   rintro v h5 ⟨f5,w⟩
   simp -dsimp only [go_sem,tN_eq,r6.cell,rm.cell]
   exact ⟨f5,(PN.lower (PN.of w) f4.size)⟩
  ·try simp -dsimp only [go_sem,putAt_one,r6.cell,rm.cell]
   intro b5 h5 n5
   try simp -dsimp only [go_sem] at n5
   simp -dsimp only [go_sem,tU_eq,tC_eq,r6.cell,rm.cell]
   exact ⟨n5.fr,CA.mk [(.pointer (some ⟨b_t48,0,none⟩),dM (isK g 3))] n5.row (pa_cons (PA.fr (e_t48.pa.fr f4) n5.fr) (pa_nil)) (by simp)⟩
  ·try simp -dsimp only [go_sem,r6.cell,rm.cell]
   refine call_of (rc11_chain (((R 0 (by decide)).fr (p3.trans f4))) a18 (ht.fr (p0.trans f4) (.inr rfl))) ?_
   rintro v h5 ⟨f5,-,w⟩
   simp -dsimp only [go_sem,tN_eq,r6.cell,rm.cell]
   exact ⟨f5,(PN.lower (w (by simp)) f4.size)⟩
  ·try simp -dsimp only [go_sem,r6.cell,rm.cell]
   refine call_of (rel_Opt (a19.pa).choose_spec.choose_spec) ?_
   rintro v h5 ⟨f5,w⟩
   simp -dsimp only [go_sem,tN_eq,r6.cell,rm.cell]
   exact ⟨f5,(PN.lower (PN.of w) f4.size)⟩
  ·try simp -dsimp only [go_sem,a7.pa.cl,a20.pa.cl,putAt_one,r6.cell,rm.cell]
   intro b5 h5 n5
   try simp -dsimp only [go_sem] at n5
   simp -dsimp only [go_sem,tU_eq,tC_eq,r6.cell,rm.cell]
   exact ⟨n5.fr,CA.mk [((V 7).1,optM (chM g.n (dM (isK g 3)) [relM g 0])),(.pointer (some ⟨b_t109,0,none⟩),rsM g),(.pointer (some ⟨c 1,0,none⟩),relM g 1),(.pointer (some ⟨b_t44,0,none⟩),dM (isK g 1)),((V 20).1,optM (chM g.n (relM g 0) [dM (isK g 3)])),(.pointer (some ⟨b_aq,0,none⟩),dM (acrB g))] n5.row (pa_cons (PA.fr (a7.pa) n5.fr) (pa_cons (PA.fr (e_t109.pa.fr f4) n5.fr) (pa_cons (PA.fr (((R 1 (by decide)).fr (p3.trans f4))) n5.fr) (pa_cons (PA.fr (e_t44.pa.fr f4) n5.fr) (pa_cons (PA.fr (a20.pa) n5.fr) (pa_cons (PA.fr (e_aq.pa.fr f4) n5.fr) (pa_nil))))))) (by simp)⟩
  ·try simp -dsimp only [go_sem,r6.cell,rm.cell]
   refine call_of (rc11_chain (e_rl.pa.fr f4) a22 (ht.fr (p0.trans f4) (.inr rfl))) ?_
   rintro v h5 ⟨f5,-,w⟩
   simp -dsimp only [go_sem,tN_eq,r6.cell,rm.cell]
   exact ⟨f5,(PN.lower (w (by simp)) f4.size).congr sw_of'⟩
  ·try simp -dsimp only [go_sem,tV_eq,r6.cell,rm.cell]
   first | done | exact ⟨.refl _ _ _,rfl⟩ | exact .refl _ _ _
  ·try simp -dsimp only [go_sem,tV_eq,a24,r6.cell,rm.cell]
   first | done | exact ⟨.refl _ _ _,rfl⟩ | exact .refl _ _ _
 intro h24 f24 V _
 clear gh
 simp -dsimp only [go_sem,tC_eq,tU_eq,tN_eq,tI_eq,tV_eq,r6.cell,rm.cell]
 intro a5 a6 a7 a18 a19 a20 a22 a23 a24 a25
 obtain ⟨b_t135,z_t135⟩:=a23.pa.ptr
 generalize (V 23).1=y_t135 at *
 subst z_t135
 have f24_z:=f24.size
 replace p0:=p0.F f24
 replace p3:=p3.F f24
 replace r6:=r6.F f24
 replace rm:=rm.F f24
 replace e_t40:=e_t40.F f24
 replace e_t44:=e_t44.F f24
 replace e_t48:=e_t48.F f24
 replace e_rl:=e_rl.F f24
 replace e_aq:=e_aq.F f24
 replace e_es:=e_es.F f24
 replace e_fs:=e_fs.F f24
 replace e_t109:=e_t109.F f24
 simp -dsimp only [go_sem,a24,a25,r6.cell,rm.cell]
 have e_t135:=a23.lower (lo':=h23.size) (by omega)
 clear a5 a6 a7 a18 a19 a20 a22 a23 a24 a25
 replace e_t135:PB h24 h23.size h24.size _ g.n (swM g):=e_t135
 refine Chk_intro (rm.W) fun h25 s25=>?_
 have s25_z:=s25.size
 replace p0:=p0.F s25.fr
 replace p3:=p3.F s25.fr
 replace r6:=r6.F s25.fr
 replace e_t40:=e_t40.F s25.fr
 replace e_t44:=e_t44.F s25.fr
 replace e_t48:=e_t48.F s25.fr
 replace e_rl:=e_rl.F s25.fr
 replace e_aq:=e_aq.F s25.fr
 replace e_es:=e_es.F s25.fr
 replace e_fs:=e_fs.F s25.fr
 replace e_t109:=e_t109.F s25.fr
 replace e_t135:=e_t135.F s25.fr
 replace rm:=s25.row rm
 try simp only [cl_int,cl_bool,cl_slice,cl_ptr,putAt_one,zs0,zs1,ivec_set,brow_upd] at rm
 try simp -dsimp only [go_sem] at rm
 simp -dsimp only [go_sem,r6.cell,rm.cell]
 have g_14:h.size≤h6.size∧h6.size≤h25.size∧mb<h6.size∧b6<h6.size:=by omega
 intro b26 h26 n26
 have n26_z:=n26.az
 replace p0:=p0.F n26.f0
 replace p3:=p3.F n26.f0
 replace r6:=r6.F n26.f0
 replace rm:=rm.F n26.f0
 replace e_t40:=e_t40.F n26.f0
 replace e_t44:=e_t44.F n26.f0
 replace e_t48:=e_t48.F n26.f0
 replace e_rl:=e_rl.F n26.f0
 replace e_aq:=e_aq.F n26.f0
 replace e_es:=e_es.F n26.f0
 replace e_fs:=e_fs.F n26.f0
 replace e_t109:=e_t109.F n26.f0
 replace e_t135:=e_t135.F n26.f0
 have r26:=n26.row
 simp -dsimp only [go_sem,r6.cell,rm.cell,r26.cell]
 refine call_of (rel_UnionU (UA.mk' [(.pointer (some ⟨c 0,0,none⟩),relM g 0),(.pointer (some ⟨b_t135,0,none⟩),swM g)] r26 (pa_cons ((R 0 (by decide)).fr p3) (pa_cons e_t135.pa (pa_nil))) (by simp) (by simp))) ?_
 rintro v27 h27 ⟨f27,w27⟩
 have e_t146:=(PN.of w27).lower (lo':=h25.size) (by omega)
 clear w27
 obtain ⟨b_t146,rfl⟩:=e_t146.pa.ptr
 have f27_z:=f27.size
 replace p0:=p0.F f27
 replace p3:=p3.F f27
 replace r6:=r6.F f27
 replace rm:=rm.F f27
 replace e_t40:=e_t40.F f27
 replace e_t44:=e_t44.F f27
 replace e_t48:=e_t48.F f27
 replace e_rl:=e_rl.F f27
 replace e_aq:=e_aq.F f27
 replace e_es:=e_es.F f27
 replace e_fs:=e_fs.F f27
 replace e_t109:=e_t109.F f27
 replace e_t135:=e_t135.F f27
 replace r26:=r26.F f27
 simp -dsimp only [go_sem,r6.cell,rm.cell,r26.cell]
 refine call_of (rel_Plus e_t146.pa.choose_spec.choose_spec) ?_
 rintro v28 h28 ⟨f28,w28⟩
 have e_t147:=(PN.of w28).lower (lo':=h25.size) (by omega)
 clear w28
 replace e_t147:=e_t147.congr (N:=hbM g) hb_of
 obtain ⟨b_t147,rfl⟩:=e_t147.pa.ptr
 have f28_z:=f28.size
 replace p0:=p0.F f28
 replace p3:=p3.F f28
 replace r6:=r6.F f28
 replace rm:=rm.F f28
 replace e_t40:=e_t40.F f28
 replace e_t44:=e_t44.F f28
 replace e_t48:=e_t48.F f28
 replace e_rl:=e_rl.F f28
 replace e_aq:=e_aq.F f28
 replace e_es:=e_es.F f28
 replace e_fs:=e_fs.F f28
 replace e_t109:=e_t109.F f28
 replace e_t135:=e_t135.F f28
 replace r26:=r26.F f28
 replace e_t146:=e_t146.F f28
 simp -dsimp only [go_sem,r6.cell,rm.cell,r26.cell]
 replace e_t147:PB h28 h25.size h28.size _ g.n (hbM g):=e_t147
 refine Chk_intro (rm.W) fun h29 s29=>?_
 have s29_z:=s29.size
 replace p0:=p0.F s29.fr
 replace p3:=p3.F s29.fr
 replace r6:=r6.F s29.fr
 replace e_t40:=e_t40.F s29.fr
 replace e_t44:=e_t44.F s29.fr
 replace e_t48:=e_t48.F s29.fr
 replace e_rl:=e_rl.F s29.fr
 replace e_aq:=e_aq.F s29.fr
 replace e_es:=e_es.F s29.fr
 replace e_fs:=e_fs.F s29.fr
 replace e_t109:=e_t109.F s29.fr
 replace e_t135:=e_t135.F s29.fr
 replace r26:=r26.F s29.fr
 replace e_t146:=e_t146.F s29.fr
 replace e_t147:=e_t147.F s29.fr
 replace rm:=s29.row rm
 try simp only [cl_int,cl_bool,cl_slice,cl_ptr,putAt_one,zs0,zs1,ivec_set,brow_upd] at rm
 try simp -dsimp only [go_sem] at rm
 simp -dsimp only [go_sem,r6.cell,rm.cell,r26.cell]
 clear r26 e_t146
 have g_15:h.size≤h6.size∧h6.size≤h29.size∧mb<h6.size∧b6<h6.size:=by omega
 intro b30 h30 n30
 have n30_z:=n30.az
 replace p0:=p0.F n30.f0
 replace p3:=p3.F n30.f0
 replace r6:=r6.F n30.f0
 replace rm:=rm.F n30.f0
 replace e_t40:=e_t40.F n30.f0
 replace e_t44:=e_t44.F n30.f0
 replace e_t48:=e_t48.F n30.f0
 replace e_rl:=e_rl.F n30.f0
 replace e_aq:=e_aq.F n30.f0
 replace e_es:=e_es.F n30.f0
 replace e_fs:=e_fs.F n30.f0
 replace e_t109:=e_t109.F n30.f0
 replace e_t135:=e_t135.F n30.f0
 replace e_t147:=e_t147.F n30.f0
 have r30:=n30.row
 simp -dsimp only [go_sem,r6.cell,rm.cell,r30.cell]
 refine call_of (rel_UnionU (UA.mk' [(.pointer (some ⟨c 1,0,none⟩),relM g 1),(.pointer (some ⟨c 2,0,none⟩),relM g 2),(.pointer (some ⟨c 9,0,none⟩),relM g 9)] r30 (pa_cons ((R 1 (by decide)).fr p3) (pa_cons ((R 2 (by decide)).fr p3) (pa_cons ((R 9 (by decide)).fr p3) (pa_nil)))) (by simp) (by simp))) ?_
 rintro v31 h31 ⟨f31,w31⟩
 have e_t158:=(PN.of w31).lower (lo':=h29.size) (by omega)
 clear w31
 obtain ⟨b_t158,rfl⟩:=e_t158.pa.ptr
 have f31_z:=f31.size
 replace p0:=p0.F f31
 replace p3:=p3.F f31
 replace r6:=r6.F f31
 replace rm:=rm.F f31
 replace e_t40:=e_t40.F f31
 replace e_t44:=e_t44.F f31
 replace e_t48:=e_t48.F f31
 replace e_rl:=e_rl.F f31
 replace e_aq:=e_aq.F f31
 replace e_es:=e_es.F f31
 replace e_fs:=e_fs.F f31
 replace e_t109:=e_t109.F f31
 replace e_t135:=e_t135.F f31
 replace e_t147:=e_t147.F f31
 replace r30:=r30.F f31
 simp -dsimp only [go_sem,r6.cell,rm.cell,r30.cell]
 refine call_of (rel_Plus e_t158.pa.choose_spec.choose_spec) ?_
 rintro v32 h32 ⟨f32,w32⟩
 have e_t159:=(PN.of w32).lower (lo':=h29.size) (by omega)
 clear w32
 replace e_t159:=e_t159.congr (N:=ecoM g) eco_of
 obtain ⟨b_t159,rfl⟩:=e_t159.pa.ptr
 have f32_z:=f32.size
 replace p0:=p0.F f32
 replace p3:=p3.F f32
 replace r6:=r6.F f32
 replace rm:=rm.F f32
 replace e_t40:=e_t40.F f32
 replace e_t44:=e_t44.F f32
 replace e_t48:=e_t48.F f32
 replace e_rl:=e_rl.F f32
 replace e_aq:=e_aq.F f32
 replace e_es:=e_es.F f32
 replace e_fs:=e_fs.F f32
 replace e_t109:=e_t109.F f32
 replace e_t135:=e_t135.F f32
 replace e_t147:=e_t147.F f32
 replace r30:=r30.F f32
 replace e_t158:=e_t158.F f32
 simp -dsimp only [go_sem,r6.cell,rm.cell,r30.cell]
 replace e_t159:PB h32 h29.size h32.size _ g.n (ecoM g):=e_t159
 refine Chk_intro (rm.W) fun h33 s33=>?_
 have s33_z:=s33.size
 replace p0:=p0.F s33.fr
 replace p3:=p3.F s33.fr
 replace r6:=r6.F s33.fr
 replace e_t40:=e_t40.F s33.fr
 replace e_t44:=e_t44.F s33.fr
 replace e_t48:=e_t48.F s33.fr
 replace e_rl:=e_rl.F s33.fr
 replace e_aq:=e_aq.F s33.fr
 replace e_es:=e_es.F s33.fr
 replace e_fs:=e_fs.F s33.fr
 replace e_t109:=e_t109.F s33.fr
 replace e_t135:=e_t135.F s33.fr
 replace e_t147:=e_t147.F s33.fr
 replace r30:=r30.F s33.fr
 replace e_t158:=e_t158.F s33.fr
 replace e_t159:=e_t159.F s33.fr
 replace rm:=s33.row rm
 try simp only [cl_int,cl_bool,cl_slice,cl_ptr,putAt_one,zs0,zs1,ivec_set,brow_upd] at rm
 try simp -dsimp only [go_sem] at rm
 simp -dsimp only [go_sem,r6.cell,rm.cell,r30.cell]
 clear r30 e_t158
 have g_16:h.size≤h6.size∧h6.size≤h33.size∧mb<h6.size∧b6<h6.size:=by omega
 refine call_of (rel_Minus ((R 0 (by decide)).fr p3).choose_spec.choose_spec ((R 4 (by decide)).fr p3).choose_spec.choose_spec (ht.fr p0 (.inr rfl))) ?_
 rintro v34 h34 ⟨f34,w34⟩
 rw [Nat.max_self] at w34
 have e_t166:=(PN.of w34).lower (lo':=h33.size) (by omega)
 clear w34
 replace e_t166:=e_t166.congr (N:=otherM g) other_of
 obtain ⟨b_t166,rfl⟩:=e_t166.pa.ptr
 have f34_z:=f34.size
 replace p0:=p0.F f34
 replace p3:=p3.F f34
 replace r6:=r6.F f34
 replace rm:=rm.F f34
 replace e_t40:=e_t40.F f34
 replace e_t44:=e_t44.F f34
 replace e_t48:=e_t48.F f34
 replace e_rl:=e_rl.F f34
 replace e_aq:=e_aq.F f34
 replace e_es:=e_es.F f34
 replace e_fs:=e_fs.F f34
 replace e_t109:=e_t109.F f34
 replace e_t135:=e_t135.F f34
 replace e_t147:=e_t147.F f34
 replace e_t159:=e_t159.F f34
 simp -dsimp only [go_sem,r6.cell,rm.cell]
 have g_17:h.size≤h6.size∧h6.size≤h34.size∧mb<h6.size∧b6<h6.size:=by omega
 intro b35 h35 n35
 have n35_z:=n35.az
 replace p0:=p0.F n35.f0
 replace p3:=p3.F n35.f0
 replace r6:=r6.F n35.f0
 replace rm:=rm.F n35.f0
 replace e_t40:=e_t40.F n35.f0
 replace e_t44:=e_t44.F n35.f0
 replace e_t48:=e_t48.F n35.f0
 replace e_rl:=e_rl.F n35.f0
 replace e_aq:=e_aq.F n35.f0
 replace e_es:=e_es.F n35.f0
 replace e_fs:=e_fs.F n35.f0
 replace e_t109:=e_t109.F n35.f0
 replace e_t135:=e_t135.F n35.f0
 replace e_t147:=e_t147.F n35.f0
 replace e_t159:=e_t159.F n35.f0
 replace e_t166:=e_t166.F n35.f0
 have r35:=n35.row
 simp -dsimp only [go_sem,r6.cell,rm.cell,r35.cell]
 refine call_of (rc11_chain e_t166.pa (CA.mk [(.pointer (some ⟨b_t147,0,none⟩),hbM g),(.pointer (some ⟨b_t166,0,none⟩),otherM g)] r35 (pa_cons e_t147.pa (pa_cons e_t166.pa (pa_nil))) (by simp)) (ht.fr p0 (.inr rfl))) ?_
 rintro v36 h36 ⟨f36,-,w36⟩
 have e_t177:=(w36 (by simp)).lower (lo':=h34.size) (by omega)
 clear w36
 obtain ⟨b_t177,rfl⟩:=e_t177.pa.ptr
 have f36_z:=f36.size
 replace p0:=p0.F f36
 replace p3:=p3.F f36
 replace r6:=r6.F f36
 replace rm:=rm.F f36
 replace e_t40:=e_t40.F f36
 replace e_t44:=e_t44.F f36
 replace e_t48:=e_t48.F f36
 replace e_rl:=e_rl.F f36
 replace e_aq:=e_aq.F f36
 replace e_es:=e_es.F f36
 replace e_fs:=e_fs.F f36
 replace e_t109:=e_t109.F f36
 replace e_t135:=e_t135.F f36
 replace e_t147:=e_t147.F f36
 replace e_t159:=e_t159.F f36
 replace e_t166:=e_t166.F f36
 replace r35:=r35.F f36
 simp -dsimp only [go_sem,r6.cell,rm.cell,r35.cell]
 refine call_of (rel_Inter e_t147.pa.choose_spec.choose_spec ((R 4 (by decide)).fr p3).choose_spec.choose_spec (ht.fr p0 (.inr rfl))) ?_
 rintro v37 h37 ⟨f37,w37⟩
 rw [Nat.max_self] at w37
 have e_t184:=(PN.of w37).lower (lo':=h34.size) (by omega)
 clear w37
 obtain ⟨b_t184,rfl⟩:=e_t184.pa.ptr
 have f37_z:=f37.size
 replace p0:=p0.F f37
 replace p3:=p3.F f37
 replace r6:=r6.F f37
 replace rm:=rm.F f37
 replace e_t40:=e_t40.F f37
 replace e_t44:=e_t44.F f37
 replace e_t48:=e_t48.F f37
 replace e_rl:=e_rl.F f37
 replace e_aq:=e_aq.F f37
 replace e_es:=e_es.F f37
 replace e_fs:=e_fs.F f37
 replace e_t109:=e_t109.F f37
 replace e_t135:=e_t135.F f37
 replace e_t147:=e_t147.F f37
 replace e_t159:=e_t159.F f37
 replace e_t166:=e_t166.F f37
 replace r35:=r35.F f37
 replace e_t177:=e_t177.F f37
 simp -dsimp only [go_sem,r6.cell,rm.cell,r35.cell]
 intro b38 h38 n38
 have n38_z:=n38.az
 replace p0:=p0.F n38.f0
 replace p3:=p3.F n38.f0
 replace r6:=r6.F n38.f0
 replace rm:=rm.F n38.f0
 replace e_t40:=e_t40.F n38.f0
 replace e_t44:=e_t44.F n38.f0
 replace e_t48:=e_t48.F n38.f0
 replace e_rl:=e_rl.F n38.f0
 replace e_aq:=e_aq.F n38.f0
 replace e_es:=e_es.F n38.f0
 replace e_fs:=e_fs.F n38.f0
 replace e_t109:=e_t109.F n38.f0
 replace e_t135:=e_t135.F n38.f0
 replace e_t147:=e_t147.F n38.f0
 replace e_t159:=e_t159.F n38.f0
 replace e_t166:=e_t166.F n38.f0
 replace r35:=r35.F n38.f0
 replace e_t177:=e_t177.F n38.f0
 replace e_t184:=e_t184.F n38.f0
 have r38:=n38.row
 simp -dsimp only [go_sem,r6.cell,rm.cell,r35.cell,r38.cell]
 refine call_of (rel_UnionU (UA.mk' [(.pointer (some ⟨c 0,0,none⟩),relM g 0),(.pointer (some ⟨b_t177,0,none⟩),chM g.n (otherM g) [hbM g,otherM g]),(.pointer (some ⟨b_t184,0,none⟩),interM g.n (hbM g) g.n (relM g 4)),(.pointer (some ⟨c 2,0,none⟩),relM g 2),(.pointer (some ⟨c 9,0,none⟩),relM g 9)] r38 (pa_cons ((R 0 (by decide)).fr p3) (pa_cons e_t177.pa (pa_cons e_t184.pa (pa_cons ((R 2 (by decide)).fr p3) (pa_cons ((R 9 (by decide)).fr p3) (pa_nil)))))) (by simp) (by simp))) ?_
 rintro v39 h39 ⟨f39,w39⟩
 have e_t190:=(PN.of w39).lower (lo':=h34.size) (by omega)
 clear w39
 replace e_t190:=e_t190.congr (N:=scbM g) scb_of
 obtain ⟨b_t190,rfl⟩:=e_t190.pa.ptr
 have f39_z:=f39.size
 replace p0:=p0.F f39
 replace p3:=p3.F f39
 replace r6:=r6.F f39
 replace rm:=rm.F f39
 replace e_t40:=e_t40.F f39
 replace e_t44:=e_t44.F f39
 replace e_t48:=e_t48.F f39
 replace e_rl:=e_rl.F f39
 replace e_aq:=e_aq.F f39
 replace e_es:=e_es.F f39
 replace e_fs:=e_fs.F f39
 replace e_t109:=e_t109.F f39
 replace e_t135:=e_t135.F f39
 replace e_t147:=e_t147.F f39
 replace e_t159:=e_t159.F f39
 replace e_t166:=e_t166.F f39
 replace r35:=r35.F f39
 replace e_t177:=e_t177.F f39
 replace e_t184:=e_t184.F f39
 replace r38:=r38.F f39
 simp -dsimp only [go_sem,r6.cell,rm.cell,r35.cell,r38.cell]
 replace e_t190:PB h39 h34.size h39.size _ g.n (scbM g):=e_t190
 refine Chk_intro (rm.W) fun h40 s40=>?_
 have s40_z:=s40.size
 replace p0:=p0.F s40.fr
 replace p3:=p3.F s40.fr
 replace r6:=r6.F s40.fr
 replace e_t40:=e_t40.F s40.fr
 replace e_t44:=e_t44.F s40.fr
 replace e_t48:=e_t48.F s40.fr
 replace e_rl:=e_rl.F s40.fr
 replace e_aq:=e_aq.F s40.fr
 replace e_es:=e_es.F s40.fr
 replace e_fs:=e_fs.F s40.fr
 replace e_t109:=e_t109.F s40.fr
 replace e_t135:=e_t135.F s40.fr
 replace e_t147:=e_t147.F s40.fr
 replace e_t159:=e_t159.F s40.fr
 replace e_t166:=e_t166.F s40.fr
 replace r35:=r35.F s40.fr
 replace e_t177:=e_t177.F s40.fr
 replace e_t184:=e_t184.F s40.fr
 replace r38:=r38.F s40.fr
 replace e_t190:=e_t190.F s40.fr
 replace rm:=s40.row rm
 try simp only [cl_int,cl_bool,cl_slice,cl_ptr,putAt_one,zs0,zs1,ivec_set,brow_upd] at rm
 try simp -dsimp only [go_sem] at rm
 simp -dsimp only [go_sem,r6.cell,rm.cell,r35.cell,r38.cell]
 clear r35 e_t177 e_t184 r38
 have g_18:h.size≤h6.size∧h6.size≤h40.size∧mb<h6.size∧b6<h6.size:=by omega
 have gh:Mg h40 mb q g:=⟨⟨_,rm⟩,t.fr p0,hn⟩
 refine free_intro [(7,[7],tN h40.size g.n (optM (hbM g))),(8,[8],tC g.n [optM (hbM g)]),(9,[9],tN h40.size g.n (chM g.n (dM (fscB g)) [optM (hbM g)])),(10,[10],tU g.n (orM [dM (escB g),chM g.n (dM (fscB g)) [optM (hbM g)]])),(11,[11],tN h40.size g.n (beginM g)),(21,[21],tN h40.size g.n (optM (hbM g))),(23,[23],tC g.n [dM (fscB g)]),(24,[24],tN h40.size g.n (chM g.n (optM (hbM g)) [dM (fscB g)])),(25,[25],tU g.n (orM [dM (escB g),chM g.n (optM (hbM g)) [dM (fscB g)]])),(26,[26],tN h40.size g.n (endM g)),(27,[27],tC g.n [scbM g,endM g]),(28,[28],tN h40.size g.n (baseM g)),(29,[29],tV (.pointer (some ⟨mb,21,none⟩))),(30,[30],tV (.pointer (some ⟨mb,26,none⟩)))] ?_ rfl ?_ ?_
 ·exact ⟨stN _ _ _,stC _ _,stN _ _ _,stU _ _,stN _ _ _,stN _ _ _,stC _ _,stN _ _ _,stU _ _,stN _ _ _,stC _ _,stN _ _ _,stV _,stV _,trivial⟩
 ·simp -dsimp only [go_sem,tC_eq,tU_eq,tN_eq,tI_eq,tV_eq,r6.cell,rm.cell]
  refine ⟨fun h4 f4 V=>?_,fun h4 f4 V a7=>?_,fun h4 f4 V a8 a7=>?_,fun h4 f4 V a9=>?_,fun h4 f4 V a10 a9=>?_,fun h4 f4 V a11=>?_,fun h4 f4 V=>?_,fun h4 f4 V a23 a21=>?_,fun h4 f4 V a24=>?_,fun h4 f4 V a25 a24=>?_,fun h4 f4 V a26=>?_,fun h4 f4 V a11 a27 a26=>?_,fun h4 f4 V a7 a8 a9 a10 a11 a21 a23 a24 a25 a26 a27 a28=>?_,fun h4 f4 V a29 a7 a8 a9 a10 a11 a21 a23 a24 a25 a26 a27 a28=>?_⟩
  ·try simp -dsimp only [go_sem,r6.cell,rm.cell]
   refine call_of (rel_Opt (e_t147.pa.fr f4).choose_spec.choose_spec) ?_
   rintro v h5 ⟨f5,w⟩
   simp -dsimp only [go_sem,tN_eq,r6.cell,rm.cell]
   exact ⟨f5,(PN.lower (PN.of w) f4.size)⟩
  ·try simp -dsimp only [go_sem,a7.pa.cl,putAt_one,r6.cell,rm.cell]
   intro b5 h5 n5
   try simp -dsimp only [go_sem] at n5
   simp -dsimp only [go_sem,tU_eq,tC_eq,r6.cell,rm.cell]
   exact ⟨n5.fr,CA.mk [((V 7).1,optM (hbM g))] n5.row (pa_cons (PA.fr (a7.pa) n5.fr) (pa_nil)) (by simp)⟩
  ·try simp -dsimp only [go_sem,r6.cell,rm.cell]
   refine call_of (rc11_chain (e_fs.pa.fr f4) a8 (ht.fr (p0.trans f4) (.inr rfl))) ?_
   rintro v h5 ⟨f5,-,w⟩
   simp -dsimp only [go_sem,tN_eq,r6.cell,rm.cell]
   exact ⟨f5,(PN.lower (w (by simp)) f4.size)⟩
  ·try simp -dsimp only [go_sem,a9.pa.cl,putAt_one,r6.cell,rm.cell]
   intro b5 h5 n5
   try simp -dsimp only [go_sem] at n5
   simp -dsimp only [go_sem,tU_eq,tC_eq,r6.cell,rm.cell]
   exact ⟨n5.fr,UA.mk' [(.pointer (some ⟨b_es,0,none⟩),dM (escB g)),((V 9).1,chM g.n (dM (fscB g)) [optM (hbM g)])] n5.row (pa_cons (PA.fr (e_es.pa.fr f4) n5.fr) (pa_cons (PA.fr (a9.pa) n5.fr) (pa_nil))) (by simp) (by simp)⟩
  ·try simp -dsimp only [go_sem,r6.cell,rm.cell]
   refine call_of (rel_UnionU a10) ?_
   rintro v h5 ⟨f5,w⟩
   simp -dsimp only [go_sem,tN_eq,r6.cell,rm.cell]
   exact ⟨f5,(PN.lower (PN.of w) f4.size).congr begin_of⟩
  ·try simp -dsimp only [go_sem,r6.cell,rm.cell]
   refine call_of (rel_Opt (e_t147.pa.fr f4).choose_spec.choose_spec) ?_
   rintro v h5 ⟨f5,w⟩
   simp -dsimp only [go_sem,tN_eq,r6.cell,rm.cell]
   exact ⟨f5,(PN.lower (PN.of w) f4.size)⟩
  ·try simp -dsimp only [go_sem,putAt_one,r6.cell,rm.cell]
   intro b5 h5 n5
   try simp -dsimp only [go_sem] at n5
   simp -dsimp only [go_sem,tU_eq,tC_eq,r6.cell,rm.cell]
   exact ⟨n5.fr,CA.mk [(.pointer (some ⟨b_fs,0,none⟩),dM (fscB g))] n5.row (pa_cons (PA.fr (e_fs.pa.fr f4) n5.fr) (pa_nil)) (by simp)⟩
  ·try simp -dsimp only [go_sem,r6.cell,rm.cell]
   refine call_of (rc11_chain (a21.pa) a23 (ht.fr (p0.trans f4) (.inr rfl))) ?_
   rintro v h5 ⟨f5,-,w⟩
   simp -dsimp only [go_sem,tN_eq,r6.cell,rm.cell]
   exact ⟨f5,(PN.lower (w (by simp)) f4.size)⟩
  ·try simp -dsimp only [go_sem,a24.pa.cl,putAt_one,r6.cell,rm.cell]
   intro b5 h5 n5
   try simp -dsimp only [go_sem] at n5
   simp -dsimp only [go_sem,tU_eq,tC_eq,r6.cell,rm.cell]
   exact ⟨n5.fr,UA.mk' [(.pointer (some ⟨b_es,0,none⟩),dM (escB g)),((V 24).1,chM g.n (optM (hbM g)) [dM (fscB g)])] n5.row (pa_cons (PA.fr (e_es.pa.fr f4) n5.fr) (pa_cons (PA.fr (a24.pa) n5.fr) (pa_nil))) (by simp) (by simp)⟩
  ·try simp -dsimp only [go_sem,r6.cell,rm.cell]
   refine call_of (rel_UnionU a25) ?_
   rintro v h5 ⟨f5,w⟩
   simp -dsimp only [go_sem,tN_eq,r6.cell,rm.cell]
   exact ⟨f5,(PN.lower (PN.of w) f4.size).congr end_of⟩
  ·try simp -dsimp only [go_sem,a26.pa.cl,putAt_one,r6.cell,rm.cell]
   intro b5 h5 n5
   try simp -dsimp only [go_sem] at n5
   simp -dsimp only [go_sem,tU_eq,tC_eq,r6.cell,rm.cell]
   exact ⟨n5.fr,CA.mk [(.pointer (some ⟨b_t190,0,none⟩),scbM g),((V 26).1,endM g)] n5.row (pa_cons (PA.fr (e_t190.pa.fr f4) n5.fr) (pa_cons (PA.fr (a26.pa) n5.fr) (pa_nil))) (by simp)⟩
  ·try simp -dsimp only [go_sem,r6.cell,rm.cell]
   refine call_of (rc11_chain (a11.pa) a27 (ht.fr (p0.trans f4) (.inr rfl))) ?_
   rintro v h5 ⟨f5,-,w⟩
   simp -dsimp only [go_sem,tN_eq,r6.cell,rm.cell]
   exact ⟨f5,(PN.lower (w (by simp)) f4.size).congr base_of'⟩
  ·try simp -dsimp only [go_sem,tV_eq,r6.cell,rm.cell]
   first | done | exact ⟨.refl _ _ _,rfl⟩ | exact .refl _ _ _
  ·try simp -dsimp only [go_sem,tV_eq,a29,r6.cell,rm.cell]
   first | done | exact ⟨.refl _ _ _,rfl⟩ | exact .refl _ _ _
 intro h41 f41 V _
 clear gh
 simp -dsimp only [go_sem,tC_eq,tU_eq,tN_eq,tI_eq,tV_eq,r6.cell,rm.cell]
 intro a7 a8 a9 a10 a11 a21 a23 a24 a25 a26 a27 a28 a29 a30
 obtain ⟨b_t221,z_t221⟩:=a28.pa.ptr
 generalize (V 28).1=y_t221 at *
 subst z_t221
 have f41_z:=f41.size
 replace p0:=p0.F f41
 replace p3:=p3.F f41
 replace r6:=r6.F f41
 replace rm:=rm.F f41
 replace e_t40:=e_t40.F f41
 replace e_t44:=e_t44.F f41
 replace e_t48:=e_t48.F f41
 replace e_rl:=e_rl.F f41
 replace e_aq:=e_aq.F f41
 replace e_es:=e_es.F f41
 replace e_fs:=e_fs.F f41
 replace e_t109:=e_t109.F f41
 replace e_t135:=e_t135.F f41
 replace e_t147:=e_t147.F f41
 replace e_t159:=e_t159.F f41
 replace e_t166:=e_t166.F f41
 replace e_t190:=e_t190.F f41
 simp -dsimp only [go_sem,a29,a30,r6.cell,rm.cell]
 have e_t221:=a28.lower (lo':=h40.size) (by omega)
 clear a7 a8 a9 a10 a11 a21 a23 a24 a25 a26 a27 a28 a29 a30
 replace e_t221:PB h41 h40.size h41.size _ g.n (baseM g):=e_t221
 refine Chk_intro (rm.W) fun h42 s42=>?_
 have s42_z:=s42.size
 replace p0:=p0.F s42.fr
 replace p3:=p3.F s42.fr
 replace r6:=r6.F s42.fr
 replace e_t40:=e_t40.F s42.fr
 replace e_t44:=e_t44.F s42.fr
 replace e_t48:=e_t48.F s42.fr
 replace e_rl:=e_rl.F s42.fr
 replace e_aq:=e_aq.F s42.fr
 replace e_es:=e_es.F s42.fr
 replace e_fs:=e_fs.F s42.fr
 replace e_t109:=e_t109.F s42.fr
 replace e_t135:=e_t135.F s42.fr
 replace e_t147:=e_t147.F s42.fr
 replace e_t159:=e_t159.F s42.fr
 replace e_t166:=e_t166.F s42.fr
 replace e_t190:=e_t190.F s42.fr
 replace e_t221:=e_t221.F s42.fr
 replace rm:=s42.row rm
 try simp only [cl_int,cl_bool,cl_slice,cl_ptr,putAt_one,zs0,zs1,ivec_set,brow_upd] at rm
 try simp -dsimp only [go_sem] at rm
 simp -dsimp only [go_sem,r6.cell,rm.cell]
 have g_19:h.size≤h6.size∧h6.size≤h42.size∧mb<h6.size∧b6<h6.size:=by omega
 intro b43 h43 n43
 have n43_z:=n43.az
 replace p0:=p0.F n43.f0
 replace p3:=p3.F n43.f0
 replace r6:=r6.F n43.f0
 replace rm:=rm.F n43.f0
 replace e_t40:=e_t40.F n43.f0
 replace e_t44:=e_t44.F n43.f0
 replace e_t48:=e_t48.F n43.f0
 replace e_rl:=e_rl.F n43.f0
 replace e_aq:=e_aq.F n43.f0
 replace e_es:=e_es.F n43.f0
 replace e_fs:=e_fs.F n43.f0
 replace e_t109:=e_t109.F n43.f0
 replace e_t135:=e_t135.F n43.f0
 replace e_t147:=e_t147.F n43.f0
 replace e_t159:=e_t159.F n43.f0
 replace e_t166:=e_t166.F n43.f0
 replace e_t190:=e_t190.F n43.f0
 replace e_t221:=e_t221.F n43.f0
 have r43:=n43.row
 simp -dsimp only [go_sem,r6.cell,rm.cell,r43.cell]
 refine call_of (rc11_chain e_t147.pa (CA.mk [(.pointer (some ⟨b_t159,0,none⟩),ecoM g),(.pointer (some ⟨b_t147,0,none⟩),hbM g)] r43 (pa_cons e_t159.pa (pa_cons e_t147.pa (pa_nil))) (by simp)) (ht.fr p0 (.inr rfl))) ?_
 rintro v44 h44 ⟨f44,-,w44⟩
 have e_t243:=(w44 (by simp)).lower (lo':=h42.size) (by omega)
 clear w44
 obtain ⟨b_t243,rfl⟩:=e_t243.pa.ptr
 have f44_z:=f44.size
 replace p0:=p0.F f44
 replace p3:=p3.F f44
 replace r6:=r6.F f44
 replace rm:=rm.F f44
 replace e_t40:=e_t40.F f44
 replace e_t44:=e_t44.F f44
 replace e_t48:=e_t48.F f44
 replace e_rl:=e_rl.F f44
 replace e_aq:=e_aq.F f44
 replace e_es:=e_es.F f44
 replace e_fs:=e_fs.F f44
 replace e_t109:=e_t109.F f44
 replace e_t135:=e_t135.F f44
 replace e_t147:=e_t147.F f44
 replace e_t159:=e_t159.F f44
 replace e_t166:=e_t166.F f44
 replace e_t190:=e_t190.F f44
 replace e_t221:=e_t221.F f44
 replace r43:=r43.F f44
 simp -dsimp only [go_sem,r6.cell,rm.cell,r43.cell]
 intro b45 h45 n45
 have n45_z:=n45.az
 replace p0:=p0.F n45.f0
 replace p3:=p3.F n45.f0
 replace r6:=r6.F n45.f0
 replace rm:=rm.F n45.f0
 replace e_t40:=e_t40.F n45.f0
 replace e_t44:=e_t44.F n45.f0
 replace e_t48:=e_t48.F n45.f0
 replace e_rl:=e_rl.F n45.f0
 replace e_aq:=e_aq.F n45.f0
 replace e_es:=e_es.F n45.f0
 replace e_fs:=e_fs.F n45.f0
 replace e_t109:=e_t109.F n45.f0
 replace e_t135:=e_t135.F n45.f0
 replace e_t147:=e_t147.F n45.f0
 replace e_t159:=e_t159.F n45.f0
 replace e_t166:=e_t166.F n45.f0
 replace e_t190:=e_t190.F n45.f0
 replace e_t221:=e_t221.F n45.f0
 replace r43:=r43.F n45.f0
 replace e_t243:=e_t243.F n45.f0
 have r45:=n45.row
 simp -dsimp only [go_sem,r6.cell,rm.cell,r43.cell,r45.cell]
 refine call_of (rel_UnionU (UA.mk' [(.pointer (some ⟨b_t147,0,none⟩),hbM g),(.pointer (some ⟨b_t243,0,none⟩),chM g.n (hbM g) [ecoM g,hbM g])] r45 (pa_cons e_t147.pa (pa_cons e_t243.pa (pa_nil))) (by simp) (by simp))) ?_
 rintro v46 h46 ⟨f46,w46⟩
 have e_t245:=(PN.of w46).lower (lo':=h42.size) (by omega)
 clear w46
 obtain ⟨b_t245,rfl⟩:=e_t245.pa.ptr
 have f46_z:=f46.size
 replace p0:=p0.F f46
 replace p3:=p3.F f46
 replace r6:=r6.F f46
 replace rm:=rm.F f46
 replace e_t40:=e_t40.F f46
 replace e_t44:=e_t44.F f46
 replace e_t48:=e_t48.F f46
 replace e_rl:=e_rl.F f46
 replace e_aq:=e_aq.F f46
 replace e_es:=e_es.F f46
 replace e_fs:=e_fs.F f46
 replace e_t109:=e_t109.F f46
 replace e_t135:=e_t135.F f46
 replace e_t147:=e_t147.F f46
 replace e_t159:=e_t159.F f46
 replace e_t166:=e_t166.F f46
 replace e_t190:=e_t190.F f46
 replace e_t221:=e_t221.F f46
 replace r43:=r43.F f46
 replace e_t243:=e_t243.F f46
 replace r45:=r45.F f46
 simp -dsimp only [go_sem,r6.cell,rm.cell,r43.cell,r45.cell]
 intro b47 h47 n47
 have n47_z:=n47.az
 replace p0:=p0.F n47.f0
 replace p3:=p3.F n47.f0
 replace r6:=r6.F n47.f0
 replace rm:=rm.F n47.f0
 replace e_t40:=e_t40.F n47.f0
 replace e_t44:=e_t44.F n47.f0
 replace e_t48:=e_t48.F n47.f0
 replace e_rl:=e_rl.F n47.f0
 replace e_aq:=e_aq.F n47.f0
 replace e_es:=e_es.F n47.f0
 replace e_fs:=e_fs.F n47.f0
 replace e_t109:=e_t109.F n47.f0
 replace e_t135:=e_t135.F n47.f0
 replace e_t147:=e_t147.F n47.f0
 replace e_t159:=e_t159.F n47.f0
 replace e_t166:=e_t166.F n47.f0
 replace e_t190:=e_t190.F n47.f0
 replace e_t221:=e_t221.F n47.f0
 replace r43:=r43.F n47.f0
 replace e_t243:=e_t243.F n47.f0
 replace r45:=r45.F n47.f0
 replace e_t245:=e_t245.F n47.f0
 have r47:=n47.row
 simp -dsimp only [go_sem,r6.cell,rm.cell,r43.cell,r45.cell,r47.cell]
 refine call_of (rc11_chain e_fs.pa (CA.mk [(.pointer (some ⟨b_t245,0,none⟩),orM [hbM g,chM g.n (hbM g) [ecoM g,hbM g]]),(.pointer (some ⟨b_fs,0,none⟩),dM (fscB g))] r47 (pa_cons e_t245.pa (pa_cons e_fs.pa (pa_nil))) (by simp)) (ht.fr p0 (.inr rfl))) ?_
 rintro v48 h48 ⟨f48,-,w48⟩
 have e_t248:=(w48 (by simp)).lower (lo':=h42.size) (by omega)
 clear w48
 replace e_t248:=e_t248.congr (N:=pscfM g) pscf_of
 obtain ⟨b_t248,rfl⟩:=e_t248.pa.ptr
 have f48_z:=f48.size
 replace p0:=p0.F f48
 replace p3:=p3.F f48
 replace r6:=r6.F f48
 replace rm:=rm.F f48
 replace e_t40:=e_t40.F f48
 replace e_t44:=e_t44.F f48
 replace e_t48:=e_t48.F f48
 replace e_rl:=e_rl.F f48
 replace e_aq:=e_aq.F f48
 replace e_es:=e_es.F f48
 replace e_fs:=e_fs.F f48
 replace e_t109:=e_t109.F f48
 replace e_t135:=e_t135.F f48
 replace e_t147:=e_t147.F f48
 replace e_t159:=e_t159.F f48
 replace e_t166:=e_t166.F f48
 replace e_t190:=e_t190.F f48
 replace e_t221:=e_t221.F f48
 replace r43:=r43.F f48
 replace e_t243:=e_t243.F f48
 replace r45:=r45.F f48
 replace e_t245:=e_t245.F f48
 replace r47:=r47.F f48
 simp -dsimp only [go_sem,r6.cell,rm.cell,r43.cell,r45.cell,r47.cell]
 replace e_t248:PB h48 h42.size h48.size _ g.n (pscfM g):=e_t248
 refine Chk_intro (rm.W) fun h49 s49=>?_
 have s49_z:=s49.size
 replace p0:=p0.F s49.fr
 replace p3:=p3.F s49.fr
 replace r6:=r6.F s49.fr
 replace e_t40:=e_t40.F s49.fr
 replace e_t44:=e_t44.F s49.fr
 replace e_t48:=e_t48.F s49.fr
 replace e_rl:=e_rl.F s49.fr
 replace e_aq:=e_aq.F s49.fr
 replace e_es:=e_es.F s49.fr
 replace e_fs:=e_fs.F s49.fr
 replace e_t109:=e_t109.F s49.fr
 replace e_t135:=e_t135.F s49.fr
 replace e_t147:=e_t147.F s49.fr
 replace e_t159:=e_t159.F s49.fr
 replace e_t166:=e_t166.F s49.fr
 replace e_t190:=e_t190.F s49.fr
 replace e_t221:=e_t221.F s49.fr
 replace r43:=r43.F s49.fr
 replace e_t243:=e_t243.F s49.fr
 replace r45:=r45.F s49.fr
 replace e_t245:=e_t245.F s49.fr
 replace r47:=r47.F s49.fr
 replace e_t248:=e_t248.F s49.fr
 replace rm:=s49.row rm
 try simp only [cl_int,cl_bool,cl_slice,cl_ptr,putAt_one,zs0,zs1,ivec_set,brow_upd] at rm
 try simp -dsimp only [go_sem] at rm
 simp -dsimp only [go_sem,r6.cell,rm.cell,r43.cell,r45.cell,r47.cell]
 clear r43 e_t243 r45 e_t245 r47
 have g_20:h.size≤h6.size∧h6.size≤h49.size∧mb<h6.size∧b6<h6.size:=by omega
 have hLz:h.size≤h16.size∧h16.size≤h23.size∧h23.size≤h25.size∧h25.size≤h29.size∧h29.size≤h34.size∧h34.size≤h40.size∧h40.size≤h42.size∧h42.size≤h48.size∧h48.size≤h49.size:=by omega
 have wd:∀ k,k<7→PB h49 ([h16.size,h23.size,h25.size,h29.size,h34.size,h40.size,h42.size,h48.size].getD k 0) ([h16.size,h23.size,h25.size,h29.size,h34.size,h40.size,h42.size,h48.size].getD (k+1) 0) (.pointer (some ⟨[b_t109,b_t135,b_t147,b_t159,b_t190,b_t221,b_t248].getD k 0,0,none⟩)) g.n (rcM g k):=fun k hk=>by
  match k,hk with
  | 0,_=>exact PB.wide e_t109 (by show h16.size≤h16.size;omega) (by show h22.size≤h23.size;omega)
  | 1,_=>exact PB.wide e_t135 (by show h23.size≤h23.size;omega) (by show h24.size≤h25.size;omega)
  | 2,_=>exact PB.wide e_t147 (by show h25.size≤h25.size;omega) (by show h28.size≤h29.size;omega)
  | 3,_=>exact PB.wide e_t159 (by show h29.size≤h29.size;omega) (by show h32.size≤h34.size;omega)
  | 4,_=>exact PB.wide e_t190 (by show h34.size≤h34.size;omega) (by show h39.size≤h40.size;omega)
  | 5,_=>exact PB.wide e_t221 (by show h40.size≤h40.size;omega) (by show h41.size≤h42.size;omega)
  | 6,_=>exact PB.wide e_t248 (by show h42.size≤h42.size;omega) (by show h48.size≤h48.size;omega)
 refine ⟨p0,mb,c,.slice rda g.n rdc,.slice wra g.n wrc,.slice fea g.n fec,fun k=>[b_t109,b_t135,b_t147,b_t159,b_t190,b_t221,b_t248].getD k 0,fun k=>[h16.size,h23.size,h25.size,h29.size,h34.size,h40.size,h42.size,h48.size].getD k 0,rfl,⟨rm,t.fr p0,hn,fun k hk=>(R k hk).fr p3,wd,fun k hk=>?_,?_,?_⟩⟩
 ·match k,hk with
  | 0,_=>show h16.size≤h23.size;omega
  | 1,_=>show h23.size≤h25.size;omega
  | 2,_=>show h25.size≤h29.size;omega
  | 3,_=>show h29.size≤h34.size;omega
  | 4,_=>show h34.size≤h40.size;omega
  | 5,_=>show h40.size≤h42.size;omega
  | 6,_=>show h42.size≤h48.size;omega
 ·show h.size≤h16.size;omega
 ·show h48.size≤h49.size;omega
end
end Go.Proofs.Tst
/-
  The words' memory model: Derive, Check.
-/
namespace Go.Proofs.Tst
open Go Go.Vc
theorem natsV_ints (l:List Nat):natsV l=intsV (l.map fun (x:Nat)=>(x:Int)):=by unfold natsV intsV;rw [List.map_map];rfl
theorem find_at {α:Type} {f:α→Bool} {l:List α} {i:Nat} {x:α} (h:l[i]?=some x) (hn:(l.take i).find? f=none) (hx:f x=true):l.find? f=some x:=by
 have hlt:=(List.getElem?_eq_some_iff.1 h).1
 have hd:l.drop i=x :: l.drop (i+1):=by rw [List.drop_eq_getElem_cons hlt];congr 1;exact (List.getElem?_eq_some_iff.1 h).2
 rw [← List.take_append_drop i l,List.find?_append,hn,hd]
 simp [hx]
theorem find_next {α:Type} {f:α→Bool} {l:List α} {i:Nat} {x:α} (h:l[i]?=some x) (hn:(l.take i).find? f=none) (hx:f x=false):(l.take (i+1)).find? f=none:=by
 rw [List.take_add_one,h,List.find?_append,hn]
 simp [hx]
theorem torn_has {g:Gr} {p:Int×Int}:(inR g.n p.1&&inR g.n p.2&&compM g.n (freM g) g.n (coeM g) p.1.toNat p.2.toNat)=tornB g p:=by
 unfold tornB
 cases h1:inR g.n p.1
 ·rfl
 cases h2:inR g.n p.2
 ·rfl
 unfold inR at h1 h2
 simp only [Bool.and_eq_true,decide_eq_true_eq] at h1 h2
 rw [compM_in (by omega) (by omega)]
section
variable {h : Heap} {q : GV} {g : Gr}
set_option maxHeartbeats 2000000 in
theorem arm_Check (t:GrAt h q g) (ht:TabAt h) :
  Con Tryd.prog 39 #[.agg (gcells q g).toArray] h fun v h'=>Fr 0 0 h h'∧if (g.check true).1=0 then ∃ w,v=.tuple #[.int .i64 (armAx g).1,w,.int .i64 0]∧Holder 1 h' w (armAx g).2.length (intsV (armAx g).2) h.size
   else v=.tuple #[.int .i64 0,.slice none 0 0,.int .i64 4]:=by
 have p0:Fr 0 0 h h:=.refl _ _ _
 have br:=t.fits.r
 by_cases hc:(g.check true).1=0
 rotate_left
 ·simp only [if_neg hc]
  refine con_q0 ?_
  unfold gcells
  simp -dsimp only [go_sem]
  intro b1 h1 n1
  have n1_a:=n1.at_
  have n1_z:=n1.size
  replace p0:=p0.F n1.f0
  have r1:=n1.row
  simp -dsimp only [go_sem,r1.cell]
  refine call_of (arm_derive (t.fr p0) (ht.fr p0 (.inr rfl))) ?_
  rintro v2 h3 ⟨f2,w⟩
  have f2_z:=f2.size
  replace p0:=p0.F f2
  replace r1:=r1.F f2
  rw [if_neg hc] at w
  subst w
  simp -dsimp only [go_sem,r1.cell]
  exact p0
 simp only [if_pos hc]
 refine con_q0 ?_
 unfold gcells
 simp -dsimp only [go_sem]
 intro b1 h1 n1
 have n1_a:=n1.at_
 have n1_z:=n1.size
 replace p0:=p0.F n1.f0
 have r1:=n1.row
 simp -dsimp only [go_sem,r1.cell]
 refine call_of (arm_derive (t.fr p0) (ht.fr p0 (.inr rfl))) ?_
 rintro v2 h3 ⟨f2,w⟩
 have f2_z:=f2.size
 replace p0:=p0.F f2
 replace r1:=r1.F f2
 rw [if_pos hc] at w
 obtain ⟨mb,c,rd,wr,fe,d,rfl,m⟩:=w
 have g3:h.size≤h3.size∧h.size≤b1:=by omega
 have p3:Fr 0 0 h3 h3:=.refl _ _ _
 have rm:=m.row
 unfold mcells at rm
 simp -dsimp only [go_sem,r1.cell,rm.cell]
 obtain ⟨_,_,ta⟩:=m.rel 0 (by decide)
 obtain ⟨_,_,tb⟩:=m.rel 4 (by decide)
 refine call_of (rel_Inter ta tb (ht.fr p0 (.inr rfl))) ?_
 rintro v4 h4 ⟨f4,t4⟩
 rw [Nat.max_self] at t4
 have f4_z:=f4.size
 replace p0:=p0.F f4
 replace r1:=r1.F f4
 replace p3:=p3.F f4
 replace rm:=rm.F f4
 have t4:PA h4 v4 g.n (fun i j=>relM g 0 i j&&relM g 4 i j):=PA.congr ⟨_,_,t4⟩ fun i j hi hj=>interM_in hi hj
 simp -dsimp only [go_sem,t4.cl,r1.cell,rm.cell]
 intro b5 h5 n5
 have n5_z:=n5.az
 replace p0:=p0.F n5.f0
 replace r1:=r1.F n5.f0
 replace p3:=p3.F n5.f0
 replace rm:=rm.F n5.f0
 have r5:=n5.row
 have t5:=t4.fr n5.f0
 simp -dsimp only [go_sem,r1.cell,rm.cell,r5.cell]
 have m5:=m.fr p3
 refine call_of (rel_UnionU (UA.mk' [(v4,_),(.pointer (some ⟨c 1,0,none⟩),relM g 1),(.pointer (some ⟨c 2,0,none⟩),relM g 2),(.pointer (some ⟨c 9,0,none⟩),relM g 9)] r5 (pa_cons t5 (pa_cons (m5.rel 1 (by decide)) (pa_cons (m5.rel 2 (by decide)) (pa_cons (m5.rel 9 (by decide)) pa_nil)))) (by simp) (by simp))) ?_
 rintro v6 h6 ⟨f6,t6⟩
 have f6_z:=f6.size
 replace p0:=p0.F f6
 replace r1:=r1.F f6
 replace p3:=p3.F f6
 replace rm:=rm.F f6
 replace r5:=r5.F f6
 have t6:=t6.congr (M':=inM g) fun i j _ _=>by simp [orM,inM,Bool.or_assoc]
 simp -dsimp only [go_sem,r1.cell,rm.cell,r5.cell]
 refine call_of (rel_Cycle t6 (ht.fr p0 (.inr rfl))) ?_
 rintro v7 h7 ⟨f7,o7⟩
 have f7_z:=f7.size
 replace p0:=p0.F f7
 replace r1:=r1.F f7
 replace p3:=p3.F f7
 replace rm:=rm.F f7
 replace r5:=r5.F f7
 obtain ⟨a7,c7,rfl⟩:=o7.is
 by_cases h1:cycS g.n (inM g)=[]
 rotate_left
 ·have hl:(((cycS g.n (inM g)).length:Nat):Int) > 0:=by have:=List.length_pos_iff.2 h1;omega
  simp -dsimp only [go_sem,hl,r1.cell,rm.cell,r5.cell]
  have hA:armAx g=(1,(cycS g.n (inM g)).map fun (x:Nat)=>(x:Int)):=by unfold armAx;rw [if_pos h1]
  rw [hA]
  refine ⟨p0,_,rfl,?_⟩
  dsimp only
  rw [List.length_map,← natsV_ints]
  exact o7.lower (by omega)
 have hl:¬ (((cycS g.n (inM g)).length:Nat):Int) > 0:=by rw [h1];decide
 clear o7
 simp -dsimp only [go_sem,hl,r1.cell,rm.cell,r5.cell]
 refine call_of (arm_model_facts (m.fr p3) hc (ht.fr p0 (.inr rfl))) ?_
 rintro v8 h8 ⟨f8,x,A,B,rfl,D,dlo⟩
 have f8_z:=f8.size
 replace p0:=p0.F f8
 replace r1:=r1.F f8
 replace p3:=p3.F f8
 replace rm:=rm.F f8
 replace r5:=r5.F f8
 simp -dsimp only [go_sem,r1.cell,rm.cell,r5.cell]
 refine call_of (rel_Cycle (D.at_ 4 (by decide)) (ht.fr p0 (.inr rfl))) ?_
 rintro v9 h9 ⟨f9,o9⟩
 have f9_z:=f9.size
 replace p0:=p0.F f9
 replace r1:=r1.F f9
 replace p3:=p3.F f9
 replace rm:=rm.F f9
 replace r5:=r5.F f9
 replace o9:Holder 1 h9 v9 (cycS g.n (obM g)).length (natsV (cycS g.n (obM g))) h8.size:=o9
 obtain ⟨a9,c9,rfl⟩:=o9.is
 by_cases h2:cycS g.n (obM g)=[]
 rotate_left
 ·have hl:(((cycS g.n (obM g)).length:Nat):Int) > 0:=by have:=List.length_pos_iff.2 h2;omega
  simp -dsimp only [go_sem,hl,r1.cell,rm.cell,r5.cell]
  have hA:armAx g=(2,(cycS g.n (obM g)).map fun (x:Nat)=>(x:Int)):=by unfold armAx;rw [if_neg (by simp [h1]),if_pos h2]
  rw [hA]
  refine ⟨p0,_,rfl,?_⟩
  dsimp only
  rw [List.length_map,← natsV_ints]
  exact o9.lower (by omega)
 have hl:¬ (((cycS g.n (obM g)).length:Nat):Int) > 0:=by rw [h2];decide
 clear o9
 simp -dsimp only [go_sem,hl,r1.cell,rm.cell,r5.cell]
 obtain ⟨_,_,ta⟩:=(m.fr p3).hm 4 (by decide)
 obtain ⟨_,_,tb⟩:=(m.fr p3).hm 2 (by decide)
 refine call_of (rel_Comp ta tb (ht.fr p0 (.inr rfl))) ?_
 rintro v10 h10 ⟨f10,t10⟩
 rw [Nat.max_self] at t10
 have f10_z:=f10.size
 replace p0:=p0.F f10
 replace r1:=r1.F f10
 replace p3:=p3.F f10
 replace rm:=rm.F f10
 replace r5:=r5.F f10
 obtain ⟨bt,rfl⟩:=progPtr t10
 have g10:h.size≤h10.size:=by omega
 simp -dsimp only [go_sem,r1.cell,rm.cell,r5.cell]
 refine loop_intro (fun i:Nat=>[(8,.pointer (some ⟨bt,0,none⟩)),(70,.slice q.r g.rmw.length q.rc),(71,.int .i64 g.rmw.length),(72,.int .i64 i)])
  (fun i h'=>i≤g.rmw.length∧Fr 0 0 h h'∧Fr 0 0 h10 h'∧(g.rmw.take i).find? (tornB g)=none) (fun i=>g.rmw.length - i) 0 ?_ ?_ ?_
 ·simp [Le,find]
 ·exact ⟨by omega,p0,.refl _ _ _,rfl⟩
 clear p0 r1 p3 rm
 rintro i h11 ⟨hi,p0,p10,hfn⟩
 have p0_z:=p0.size
 have p10_z:=p10.size
 by_cases hlt:i<g.rmw.length
 ·have e1:((i:Int)<(g.rmw.length:Int)):=by omega
  have hq:g.rmw[i]?=some g.rmw[i]:=List.getElem?_eq_getElem hlt
  generalize g.rmw[i]=pr at hq
  obtain ⟨rb,ro,hre,hrc⟩:=t.r.pairsAt (by omega)
  obtain ⟨k1,k2⟩:=hrc h11 p0 i _ hq
  simp -dsimp only [go_sem,e1,hre,k1,k2]
  intro b12 h12 n12
  have n12_z:=n12.az
  replace p0:=p0.F n12.f0
  replace p10:=p10.F n12.f0
  have r12:=n12.row
  simp -dsimp only [go_sem,r12.cell]
  refine Chk_intro (r12.W) fun h13 s13=>?_
  have s13_z:=s13.size
  replace p0:=p0.F s13.fr
  replace p10:=p10.F s13.fr
  replace r12:=s13.row r12
  try simp only [cl_int,cl_bool,cl_slice,cl_ptr,putAt_one,zs0,zs1,ivec_set,brow_upd] at r12
  try simp -dsimp only [go_sem] at r12
  simp -dsimp only [go_sem,r12.cell]
  refine call_of (rel_Has (t10.fr p10 (by omega)) pr.1 pr.2) ?_
  rintro v14 h14 ⟨hh,rfl⟩
  obtain rfl:h13=h14:=hh.symm
  have htn:=torn_has (g:=g) (p:=pr)
  replace htn:(inR g.n pr.1&&inR g.n pr.2&&compM g.n (armM g 4) g.n (armM g 2) pr.1.toNat pr.2.toNat)=tornB g pr:=htn
  rw [htn]
  cases hb:tornB g pr
  ·simp -dsimp only [go_sem,r12.cell]
   simp -dsimp (disch:=omega) only [wrap64]
   exact ⟨i+1,by omega,by simp [Le,find,hre],by omega,p0,p10,find_next hq hfn hb⟩
  ·simp -dsimp only [go_sem,r12.cell]
   intro b15 h15 n15
   have n15_z:=n15.az
   replace p0:=p0.F n15.f0
   replace p10:=p10.F n15.f0
   replace r12:=r12.F n15.f0
   have r15:=n15.row
   simp -dsimp only [go_sem,r12.cell,r15.cell]
   have hA:armAx g=(3,[pr.1,pr.2]):=by unfold armAx;rw [if_neg (by simp [h1]),if_neg (by simp [h2]),find_at hq hfn hb]
   rw [hA]
   exact ⟨p0,_,rfl,holder_row (s:=1) (n:=2) r15 rfl (by omega)⟩
 ·obtain rfl:i=g.rmw.length:=by omega
  simp -dsimp only [go_sem,Int.lt_irrefl]
  rw [List.take_length] at hfn
  have hA:armAx g=(0,[]):=by unfold armAx;rw [if_neg (by simp [h1]),if_neg (by simp [h2]),hfn]
  rw [hA]
  exact ⟨p0,_,rfl,.none _ _ _⟩
end
end Go.Proofs.Tst
