/-
  Contracts of functions that the law reaches: what each returns and what it leaves in memory. Conditions stand in each.
-/
import Derived.Test.YtmilaghhnaoidaaGreatDoorT9
set_option linter.all false
set_option maxRecDepth 2000
/-
  What ref11's Derive needs of a graph of words (plain).
-/
namespace Go.Proofs.Tst
open Go Go.Vc
theorem VA.at_ {h:Heap} {n:Nat} {L:List (Nat×Value×Mx)} (t:VA h n L) (i:Nat) {x:Nat×Value×Mx} (hx:L[i]?=some x):Rw h x.1 [.int .i64 n,x.2.1]∧RA h (.agg #[.int .i64 n,x.2.1]) n x.2.2:=t x (List.mem_of_getElem? hx)
theorem words_mode {g:Gr} (hg:(g.check true).1=0) {i:Nat} (hi:i<g.n):((g.ev i).mode=12→(g.ev i).kind=1)∧((g.ev i).mode=16→(g.ev i).kind=1)∧((g.ev i).mode=13→(g.ev i).kind=2):=by
 obtain ⟨hs,h2,h3,-⟩:=check_zero hg
 simp only [Gr.size,Bool.and_eq_true,decide_eq_true_eq] at hs
 by_cases hc:i<g.cells.toNat
 ·have:=firstEv_neg _ _ h2 i (by omega) (by omega)
  simp only [Bool.not_eq_false',beq_iff_eq] at this
  rw [this];unfold Gr.first;simp
 ·have:=firstEv_neg _ _ h3 i (by omega) (by omega)
  simp only [Bool.not_eq_false'] at this
  unfold Gr.evOk Gr.modeOk at this
  simp only [if_true,Bool.and_eq_true,Bool.or_eq_true,beq_iff_eq] at this
  obtain ⟨⟨-,h⟩,-⟩:=this
  omega
section
variable {g : Gr}
theorem m12 (hg:(g.check true).1=0) {i:Nat} (hi:i<g.n):(isK g 1 i&&isM g 12 i)=isM g 12 i:=by
 have:=(words_mode hg hi).1
 unfold isK isM
 rw [Bool.eq_iff_iff];simp;exact this
theorem m13 (hg:(g.check true).1=0) {i:Nat} (hi:i<g.n):(isK g 2 i&&isM g 13 i)=isM g 13 i:=by
 have:=(words_mode hg hi).2.2
 unfold isK isM
 rw [Bool.eq_iff_iff];simp;exact this
theorem macq (hg:(g.check true).1=0) {i:Nat} (hi:i<g.n):(isK g 1 i&&acqB g i)=acqB g i:=by
 have h1:=(words_mode hg hi).1
 have h2:=(words_mode hg hi).2.1
 unfold acqB isK isM
 rw [Bool.eq_iff_iff];simp
 exact fun h=>h.elim h1 h2
theorem atB_with2 {i:Nat} (hi:i<g.n):atB (withB g [12,16]) i=acqB g i:=by
 refine atB_get ?_
 unfold withB acqB isM
 rw [List.getElem?_map,Gr.ev_get hi]
 simp only [Option.map_some,Option.some.injEq]
 rw [Bool.eq_iff_iff];simp
theorem id2 {n:Nat} {l:List Bool} {f:Nat→Bool} (h:∀ i,i<n→atB l i=f i):∀ i j,i<n→j<n→idM l i j=dM f i j:=fun i j hi _=>by
 show (i==j&&atB l i)=(i==j&&f i)
 rw [h i hi]
theorem ref_obs {i j:Nat} (hi:i<g.n) (hj:j<g.n):oM g.n (rfeM g) [interM g.n (relM g 2) g.n (relM g 5),interM g.n (relM g 9) g.n (relM g 5)] i j=obsM g i j:=by
 rw [oM_in hi hj]
 simp only [List.any_cons,List.any_nil,Bool.or_false,interM_in hi hj]
 unfold obsM coeM freM;rw [Bool.or_assoc]
theorem ref_dob {i j:Nat} (hi:i<g.n) (hj:j<g.n):oM g.n (relM g 6) [relM g 7,chM g.n (relM g 8) [dM (isK g 2)],chM g.n (relM g 6) [relM g 0,dM (isK g 2)],chM g.n (oM g.n (relM g 8) [relM g 7]) [coiM g],chM g.n (oM g.n (relM g 6) [relM g 7]) [rfiM g]] i j=dobM g i j:=by
 rw [oM_in hi hj]
 unfold dobM chM
 simp only [List.foldl_cons,List.foldl_nil,List.any_cons,List.any_nil,Bool.or_false,compM_dR hi hj]
 rw [compM_in hi hj,compM_in hi hj,compM_in hi hj]
 have e:∀ (A B C:Mx),(exB g.n fun k=>oM g.n A [B] i k&&C k j)=exB g.n fun k=>(A i k||B i k)&&C k j:=fun A B C=>exB_congr fun k hk=>by
  rw [oM_in hi hk];simp
 rw [e,e]
 simp only [Bool.or_assoc]
theorem ref_aob {i j:Nat} (hi:i<g.n) (hj:j<g.n):oM g.n (relM g 3) [chM g.n (dM (lastB g)) [rfiM g,dM (acqB g)]] i j=aobM g i j:=by
 rw [oM_in hi hj]
 unfold aobM chM
 simp only [List.foldl_cons,List.foldl_nil,List.any_cons,List.any_nil,Bool.or_false,compM_dR hi hj,compM_dL hi hj]
theorem ref_bob {i j:Nat} (hi:i<g.n) (hj:j<g.n):oM g.n (chM g.n (relM g 0) [dM (isM g 15),relM g 0]) [chM g.n (dM (isK g 1)) [relM g 0,dM (isM g 14),relM g 0],chM g.n (dM (isM g 13)) [relM g 0,dM (isM g 12)],chM g.n (dM (acqB g)) [relM g 0],chM g.n (relM g 0) [dM (isM g 13)],chM g.n (relM g 0) [dM (isM g 13),coiM g]] i j=bobM g i j:=by
 rw [oM_in hi hj]
 unfold bobM chM
 simp only [List.foldl_cons,List.foldl_nil,List.any_cons,List.any_nil,Bool.or_false,compM_dR hi hj]
 have e1:compM g.n (compM g.n (relM g 0) g.n (dM (isM g 15))) g.n (relM g 0) i j=exB g.n fun k=>relM g 0 i k&&isM g 15 k&&relM g 0 k j:=by
  rw [compM_in hi hj];exact exB_congr fun k hk=>by rw [compM_dR hi hk]
 have e2:compM g.n (compM g.n (compM g.n (dM (isK g 1)) g.n (relM g 0)) g.n (dM (isM g 14))) g.n (relM g 0) i j=exB g.n fun k=>isK g 1 i&&relM g 0 i k&&isM g 14 k&&relM g 0 k j:=by
  rw [compM_in hi hj];exact exB_congr fun k hk=>by rw [compM_dR hi hk,compM_dL hi hk]
 have e3:compM g.n (compM g.n (relM g 0) g.n (dM (isM g 13))) g.n (coiM g) i j=exB g.n fun k=>relM g 0 i k&&isM g 13 k&&coiM g k j:=by
  rw [compM_in hi hj];exact exB_congr fun k hk=>by rw [compM_dR hi hk]
 rw [e1,e2,e3]
 simp only [compM_dL hi hj,Bool.or_assoc]
end
end Go.Proofs.Tst
/-
  The document's relations of a graph of words: Derive.
-/
namespace Go.Proofs.Tst
open Go Go.Vc
def tCR (n:Nat) (l:List Mx):Tell:=tell1 fun v _ _ h=>CR h v n l
def tRR (n:Nat) (M:Mx):Tell:=tell1 fun v a b h=>RefAt h a b v n M
def tRA (n:Nat) (M:Mx):Tell:=tell1 fun v _ _ h=>RA h v n M
theorem stCR (n:Nat) (l:List Mx):Stab (tCR n l):=Stab.one fun _ _ _ _ _ f t=>t.fr f
theorem stRR (n:Nat) (M:Mx):Stab (tRR n M):=Stab.one fun _ _ _ _ _ f t=>t.fr f (by omega)
theorem stRA (n:Nat) (M:Mx):Stab (tRA n M):=Stab.one fun _ _ _ _ _ f t=>t.fr f
theorem tCR_eq (n:Nat) (l:List Mx) (u:Out) (h:Heap):tCR n l [u] h=CR h u.1 n l:=(rfl)
theorem tRR_eq (n:Nat) (M:Mx) (u:Out) (h:Heap):tRR n M [u] h=RefAt h u.2.1 u.2.2 u.1 n M:=(rfl)
theorem tRA_eq (n:Nat) (M:Mx) (u:Out) (h:Heap):tRA n M [u] h=RA h u.1 n M:=(rfl)
def derV (n:Nat) (a b c d e:Value):Value:=.agg #[.int .i64 n,a,.int .i64 n,b,.int .i64 n,c,.int .i64 n,d,.int .i64 n,e]
def RG (B:Nat) (h:Heap) (v:Value) (n:Nat) (M:Mx):Prop:=∃ lo hi,B≤lo∧RefAt h lo hi v n M
section
variable {B n : Nat} {h h' : Heap} {v : Value} {M N : Mx}
theorem RG.fr (t:RG B h v n M) {l r:Nat} (f:Fr l r h h') (hd:r≤B:=by omega):RG B h' v n M:=by obtain ⟨a,b,hb,t⟩:=t;exact ⟨a,b,hb,t.fr f (by omega)⟩
theorem RG.lower (t:RG B h v n M) {B':Nat} (hb:B'≤B):RG B' h v n M:=by obtain ⟨a,b,h1,t⟩:=t;exact ⟨a,b,by omega,t⟩
theorem RG.ra (t:RG B h v n M):RA h v n M:=by obtain ⟨a,b,_,t⟩:=t;exact ⟨a,b,t⟩
theorem RG.is (t:RG B h v n M):∃ a c,v=.agg #[.int .i64 n,.slice a n c]:=t.ra.is
theorem RG.congr (t:RG B h v n M) (e:∀ i j,i<n→j<n→M i j=N i j):RG B h v n N:=by obtain ⟨a,b,hb,t⟩:=t;exact ⟨a,b,hb,RefAt.congr t e⟩
def VG (B:Nat) (h:Heap) (n:Nat) (L:List (Nat×Value×Mx)):Prop:=∀ x∈L,Rw h x.1 [.int .i64 n,x.2.1]∧RG B h (.agg #[.int .i64 n,x.2.1]) n x.2.2
theorem VG.nil:VG B h n []:=fun x hx=>by cases hx
theorem VG.fr {L:List (Nat×Value×Mx)} (t:VG B h n L) (f:Fr 0 0 h h'):VG B h' n L:=fun x hx=>⟨(t x hx).1.fr f (by omega),(t x hx).2.fr f (by omega)⟩
theorem VG.cons {b:Nat} {s:Value} {L:List (Nat×Value×Mx)} (r:Rw h b [.int .i64 n,s]) (a:RG B h (.agg #[.int .i64 n,s]) n M) (t:VG B h n L):VG B h n ((b,s,M) :: L):=fun x hx=>by
 rcases List.mem_cons.1 hx with rfl | hx
 ·exact ⟨r,a⟩
 ·exact t x hx
theorem VG.at_ {L:List (Nat×Value×Mx)} (t:VG B h n L) (i:Nat) {x:Nat×Value×Mx} (hx:L[i]?=some x):Rw h x.1 [.int .i64 n,x.2.1]∧RG B h (.agg #[.int .i64 n,x.2.1]) n x.2.2:=t x (List.mem_of_getElem? hx)
end
theorem ra_of {h:Heap} {lo hi:Nat} {v:Value} {n:Nat} {M:Mx} (t:RefAt h lo hi v n M):RA h v n M:=⟨_,_,t⟩
set_option maxHeartbeats 8000000 in
theorem ref11_Derive {h:Heap} {q:GV} {g:Gr} (t:GrAt h q g) (hc:(g.check true).1=0) :
  Con Tryz.prog 13 #[.agg (gcells q g).toArray] h fun v h'=>Fr 0 0 h h'∧∃ a b c d e:Value,v=derV g.n a b c d e∧RG h.size h' (.agg #[.int .i64 g.n,a]) g.n (obsM g)∧RG h.size h' (.agg #[.int .i64 g.n,b]) g.n (dobM g)∧RG h.size h' (.agg #[.int .i64 g.n,c]) g.n (aobM g)∧RG h.size h' (.agg #[.int .i64 g.n,d]) g.n (bobM g)∧RG h.size h' (.agg #[.int .i64 g.n,e]) g.n (obM g):=by
 refine con_ref11_Derive ?_
 have hg:g.good=true:=good_true hc
 have hn:=(good_n hg).1
 have hcl:clampN (g.n:Int)=g.n:=by unfold clampN;omega
 have p0:Fr 0 0 h h:=.refl _ _ _
 have be:=t.fits.e
 have bf:=t.fits.f
 have br:=t.fits.r
 have ba:=t.fits.a
 have bd:=t.fits.d
 have bc:=t.fits.c
 have hen:g.evs.length=g.n:=rfl
 have lk_:∀ k,(kindsV g k g.n).length=g.n:=fun k=>kinds_len g k
 have lw_:∀ {m:List Int},(withB g m).length=g.n:=by intro m;unfold withB;simp;rfl
 unfold gcells
 simp -dsimp only [go_sem]
 intro b1 h1 n1
 have n1_a:=n1.at_
 have n1_z:=n1.size
 replace p0:=p0.F n1.f0
 have r1:=n1.row
 simp -dsimp only [go_sem]
 intro b2 h2 n2
 have n2_a:=n2.at_
 have n2_z:=n2.size
 replace p0:=p0.F n2.f0
 replace r1:=r1.F n2.f0
 have r2:=n2.row
 have hb12:h.size≤b1∧b1<b2∧b2<h2.size:=by omega
 have dE:VG (b2+1) h2 g.n []:=VG.nil
 try simp -dsimp only [go_sem,evs_len,r1.cell]
 refine call_of (ref8_Po (t.fr p0) hn) ?_
 rintro v3 h3 ⟨f3,u3⟩
 have f3_z:=f3.size
 replace p0:=p0.F f3
 replace r1:=r1.F f3
 replace r2:=r2.F f3
 have dU3:RG (b2+1) h3 v3 g.n (relM g 0):=RG.congr ⟨_,_,by omega,u3⟩ (fun _ _ _ _=>rfl)
 obtain ⟨a3,c3,rfl⟩:=dU3.is
 clear u3
 simp -dsimp only [go_sem]
 intro b4 h4 n4
 have n4_a:=n4.at_
 have n4_z:=n4.size
 replace p0:=p0.F n4.f0
 replace r1:=r1.F n4.f0
 replace r2:=r2.F n4.f0
 have r4:=n4.row
 simp -dsimp only [go_sem]
 refine Chk_intro (r4.wr (by first | (simp;done) | (simp;omega))) fun h5 s5=>?_
 have s5_z:=s5.size
 replace p0:=p0.F s5.fr
 replace r1:=r1.F s5.fr
 replace r2:=r2.F s5.fr
 replace r4:=s5.row r4
 try simp only [cl_int,cl_bool,cl_slice,cl_ptr,putAt_one,List.set_cons_zero,List.set_cons_succ,ivec_set,brow_upd] at r4
 have fz5:Fr 0 0 h3 h5:=n4.f0.fresh s5.fr (by omega)
 have dV3:=dU3.fr fz5
 replace r4:Rw h5 b4 [.int .i64 g.n,.slice a3 g.n c3]:=r4
 have ab5:Fr 0 0 h2 h5:=((f3).trans n4.f0).fresh s5.fr (by omega)
 replace dE:=VG.cons r4 dV3 (dE.fr ab5)
 clear dU3 dV3 r4
 have g_5:b1<h5.size∧b2<h5.size∧h.size≤h5.size:=by omega
 try simp -dsimp only [go_sem,evs_len,r1.cell]
 refine call_of (ref8_Rf (t.fr p0) hn) ?_
 rintro v6 h6 ⟨f6,u6⟩
 have f6_z:=f6.size
 replace p0:=p0.F f6
 replace r1:=r1.F f6
 replace r2:=r2.F f6
 have dU6:RG (b2+1) h6 v6 g.n (relM g 1):=RG.congr ⟨_,_,by omega,u6⟩ (fun _ _ _ _=>rfl)
 obtain ⟨a6,c6,rfl⟩:=dU6.is
 clear u6
 simp -dsimp only [go_sem]
 intro b7 h7 n7
 have n7_a:=n7.at_
 have n7_z:=n7.size
 replace p0:=p0.F n7.f0
 replace r1:=r1.F n7.f0
 replace r2:=r2.F n7.f0
 have r7:=n7.row
 simp -dsimp only [go_sem]
 refine Chk_intro (r7.wr (by first | (simp;done) | (simp;omega))) fun h8 s8=>?_
 have s8_z:=s8.size
 replace p0:=p0.F s8.fr
 replace r1:=r1.F s8.fr
 replace r2:=r2.F s8.fr
 replace r7:=s8.row r7
 try simp only [cl_int,cl_bool,cl_slice,cl_ptr,putAt_one,List.set_cons_zero,List.set_cons_succ,ivec_set,brow_upd] at r7
 have fz8:Fr 0 0 h6 h8:=n7.f0.fresh s8.fr (by omega)
 have dV6:=dU6.fr fz8
 replace r7:Rw h8 b7 [.int .i64 g.n,.slice a6 g.n c6]:=r7
 have ab8:Fr 0 0 h5 h8:=((f6).trans n7.f0).fresh s8.fr (by omega)
 replace dE:=VG.cons r7 dV6 (dE.fr ab8)
 clear dU6 dV6 r7
 have g_8:b1<h8.size∧b2<h8.size∧h.size≤h8.size:=by omega
 try simp -dsimp only [go_sem,evs_len,r1.cell]
 refine call_of (ref8_Co (t.fr p0) hg) ?_
 rintro v9 h9 ⟨f9,u9⟩
 have f9_z:=f9.size
 replace p0:=p0.F f9
 replace r1:=r1.F f9
 replace r2:=r2.F f9
 have dU9:RG (b2+1) h9 v9 g.n (relM g 2):=RG.congr ⟨_,_,by omega,u9⟩ (fun _ _ _ _=>rfl)
 obtain ⟨a9,c9,rfl⟩:=dU9.is
 clear u9
 simp -dsimp only [go_sem]
 intro b10 h10 n10
 have n10_a:=n10.at_
 have n10_z:=n10.size
 replace p0:=p0.F n10.f0
 replace r1:=r1.F n10.f0
 replace r2:=r2.F n10.f0
 have r10:=n10.row
 simp -dsimp only [go_sem]
 refine Chk_intro (r10.wr (by first | (simp;done) | (simp;omega))) fun h11 s11=>?_
 have s11_z:=s11.size
 replace p0:=p0.F s11.fr
 replace r1:=r1.F s11.fr
 replace r2:=r2.F s11.fr
 replace r10:=s11.row r10
 try simp only [cl_int,cl_bool,cl_slice,cl_ptr,putAt_one,List.set_cons_zero,List.set_cons_succ,ivec_set,brow_upd] at r10
 have fz11:Fr 0 0 h9 h11:=n10.f0.fresh s11.fr (by omega)
 have dV9:=dU9.fr fz11
 replace r10:Rw h11 b10 [.int .i64 g.n,.slice a9 g.n c9]:=r10
 have ab11:Fr 0 0 h8 h11:=((f9).trans n10.f0).fresh s11.fr (by omega)
 replace dE:=VG.cons r10 dV9 (dE.fr ab11)
 clear dU9 dV9 r10
 have g_11:b1<h11.size∧b2<h11.size∧h.size≤h11.size:=by omega
 try simp -dsimp only [go_sem,evs_len,r1.cell]
 refine call_of (ref8_Fr (t.fr p0) hg) ?_
 rintro v12 h12 ⟨f12,u12⟩
 have f12_z:=f12.size
 replace p0:=p0.F f12
 replace r1:=r1.F f12
 replace r2:=r2.F f12
 have dU12:RG (b2+1) h12 v12 g.n (relM g 9):=RG.congr ⟨_,_,by omega,u12⟩ (fun _ _ _ _=>rfl)
 obtain ⟨a12,c12,rfl⟩:=dU12.is
 clear u12
 simp -dsimp only [go_sem]
 intro b13 h13 n13
 have n13_a:=n13.at_
 have n13_z:=n13.size
 replace p0:=p0.F n13.f0
 replace r1:=r1.F n13.f0
 replace r2:=r2.F n13.f0
 have r13:=n13.row
 simp -dsimp only [go_sem]
 refine Chk_intro (r13.wr (by first | (simp;done) | (simp;omega))) fun h14 s14=>?_
 have s14_z:=s14.size
 replace p0:=p0.F s14.fr
 replace r1:=r1.F s14.fr
 replace r2:=r2.F s14.fr
 replace r13:=s14.row r13
 try simp only [cl_int,cl_bool,cl_slice,cl_ptr,putAt_one,List.set_cons_zero,List.set_cons_succ,ivec_set,brow_upd] at r13
 have fz14:Fr 0 0 h12 h14:=n13.f0.fresh s14.fr (by omega)
 have dV12:=dU12.fr fz14
 replace r13:Rw h14 b13 [.int .i64 g.n,.slice a12 g.n c12]:=r13
 have ab14:Fr 0 0 h11 h14:=((f12).trans n13.f0).fresh s14.fr (by omega)
 replace dE:=VG.cons r13 dV12 (dE.fr ab14)
 clear dU12 dV12 r13
 have g_14:b1<h14.size∧b2<h14.size∧h.size≤h14.size:=by omega
 try simp -dsimp only [go_sem,evs_len,r1.cell]
 refine call_of (ref8_Ext (t.fr p0) hn) ?_
 rintro v15 h15 ⟨f15,u15⟩
 have f15_z:=f15.size
 replace p0:=p0.F f15
 replace r1:=r1.F f15
 replace r2:=r2.F f15
 have dU15:RG (b2+1) h15 v15 g.n (relM g 5):=RG.congr ⟨_,_,by omega,u15⟩ (fun _ _ _ _=>rfl)
 obtain ⟨a15,c15,rfl⟩:=dU15.is
 clear u15
 simp -dsimp only [go_sem]
 intro b16 h16 n16
 have n16_a:=n16.at_
 have n16_z:=n16.size
 replace p0:=p0.F n16.f0
 replace r1:=r1.F n16.f0
 replace r2:=r2.F n16.f0
 have r16:=n16.row
 simp -dsimp only [go_sem]
 refine Chk_intro (r16.wr (by first | (simp;done) | (simp;omega))) fun h17 s17=>?_
 have s17_z:=s17.size
 replace p0:=p0.F s17.fr
 replace r1:=r1.F s17.fr
 replace r2:=r2.F s17.fr
 replace r16:=s17.row r16
 try simp only [cl_int,cl_bool,cl_slice,cl_ptr,putAt_one,List.set_cons_zero,List.set_cons_succ,ivec_set,brow_upd] at r16
 have fz17:Fr 0 0 h15 h17:=n16.f0.fresh s17.fr (by omega)
 have dV15:=dU15.fr fz17
 replace r16:Rw h17 b16 [.int .i64 g.n,.slice a15 g.n c15]:=r16
 have ab17:Fr 0 0 h14 h17:=((f15).trans n16.f0).fresh s17.fr (by omega)
 replace dE:=VG.cons r16 dV15 (dE.fr ab17)
 clear dU15 dV15 r16
 have g_17:b1<h17.size∧b2<h17.size∧h.size≤h17.size:=by omega
 try simp -dsimp only [go_sem,evs_len,r1.cell]
 refine call_of (ref8_Of (t.fr p0) hn (t.a.fr p0) (by omega)) ?_
 rintro v18 h18 ⟨f18,u18⟩
 have f18_z:=f18.size
 replace p0:=p0.F f18
 replace r1:=r1.F f18
 replace r2:=r2.F f18
 have dU18:RG (b2+1) h18 v18 g.n (relM g 6):=RG.congr ⟨_,_,by omega,u18⟩ (fun _ _ _ _=>rfl)
 obtain ⟨a18,c18,rfl⟩:=dU18.is
 clear u18
 simp -dsimp only [go_sem]
 intro b19 h19 n19
 have n19_a:=n19.at_
 have n19_z:=n19.size
 replace p0:=p0.F n19.f0
 replace r1:=r1.F n19.f0
 replace r2:=r2.F n19.f0
 have r19:=n19.row
 simp -dsimp only [go_sem]
 refine Chk_intro (r19.wr (by first | (simp;done) | (simp;omega))) fun h20 s20=>?_
 have s20_z:=s20.size
 replace p0:=p0.F s20.fr
 replace r1:=r1.F s20.fr
 replace r2:=r2.F s20.fr
 replace r19:=s20.row r19
 try simp only [cl_int,cl_bool,cl_slice,cl_ptr,putAt_one,List.set_cons_zero,List.set_cons_succ,ivec_set,brow_upd] at r19
 have fz20:Fr 0 0 h18 h20:=n19.f0.fresh s20.fr (by omega)
 have dV18:=dU18.fr fz20
 replace r19:Rw h20 b19 [.int .i64 g.n,.slice a18 g.n c18]:=r19
 have ab20:Fr 0 0 h17 h20:=((f18).trans n19.f0).fresh s20.fr (by omega)
 replace dE:=VG.cons r19 dV18 (dE.fr ab20)
 clear dU18 dV18 r19
 have g_20:b1<h20.size∧b2<h20.size∧h.size≤h20.size:=by omega
 try simp -dsimp only [go_sem,evs_len,r1.cell]
 refine call_of (ref8_Of (t.fr p0) hn (t.d.fr p0) (by omega)) ?_
 rintro v21 h21 ⟨f21,u21⟩
 have f21_z:=f21.size
 replace p0:=p0.F f21
 replace r1:=r1.F f21
 replace r2:=r2.F f21
 have dU21:RG (b2+1) h21 v21 g.n (relM g 7):=RG.congr ⟨_,_,by omega,u21⟩ (fun _ _ _ _=>rfl)
 obtain ⟨a21,c21,rfl⟩:=dU21.is
 clear u21
 simp -dsimp only [go_sem]
 intro b22 h22 n22
 have n22_a:=n22.at_
 have n22_z:=n22.size
 replace p0:=p0.F n22.f0
 replace r1:=r1.F n22.f0
 replace r2:=r2.F n22.f0
 have r22:=n22.row
 simp -dsimp only [go_sem]
 refine Chk_intro (r22.wr (by first | (simp;done) | (simp;omega))) fun h23 s23=>?_
 have s23_z:=s23.size
 replace p0:=p0.F s23.fr
 replace r1:=r1.F s23.fr
 replace r2:=r2.F s23.fr
 replace r22:=s23.row r22
 try simp only [cl_int,cl_bool,cl_slice,cl_ptr,putAt_one,List.set_cons_zero,List.set_cons_succ,ivec_set,brow_upd] at r22
 have fz23:Fr 0 0 h21 h23:=n22.f0.fresh s23.fr (by omega)
 have dV21:=dU21.fr fz23
 replace r22:Rw h23 b22 [.int .i64 g.n,.slice a21 g.n c21]:=r22
 have ab23:Fr 0 0 h20 h23:=((f21).trans n22.f0).fresh s23.fr (by omega)
 replace dE:=VG.cons r22 dV21 (dE.fr ab23)
 clear dU21 dV21 r22
 have g_23:b1<h23.size∧b2<h23.size∧h.size≤h23.size:=by omega
 try simp -dsimp only [go_sem,evs_len,r1.cell]
 refine call_of (ref8_Of (t.fr p0) hn (t.c.fr p0) (by omega)) ?_
 rintro v24 h24 ⟨f24,u24⟩
 have f24_z:=f24.size
 replace p0:=p0.F f24
 replace r1:=r1.F f24
 replace r2:=r2.F f24
 have dU24:RG (b2+1) h24 v24 g.n (relM g 8):=RG.congr ⟨_,_,by omega,u24⟩ (fun _ _ _ _=>rfl)
 obtain ⟨a24,c24,rfl⟩:=dU24.is
 clear u24
 simp -dsimp only [go_sem]
 intro b25 h25 n25
 have n25_a:=n25.at_
 have n25_z:=n25.size
 replace p0:=p0.F n25.f0
 replace r1:=r1.F n25.f0
 replace r2:=r2.F n25.f0
 have r25:=n25.row
 simp -dsimp only [go_sem]
 refine Chk_intro (r25.wr (by first | (simp;done) | (simp;omega))) fun h26 s26=>?_
 have s26_z:=s26.size
 replace p0:=p0.F s26.fr
 replace r1:=r1.F s26.fr
 replace r2:=r2.F s26.fr
 replace r25:=s26.row r25
 try simp only [cl_int,cl_bool,cl_slice,cl_ptr,putAt_one,List.set_cons_zero,List.set_cons_succ,ivec_set,brow_upd] at r25
 have fz26:Fr 0 0 h24 h26:=n25.f0.fresh s26.fr (by omega)
 have dV24:=dU24.fr fz26
 replace r25:Rw h26 b25 [.int .i64 g.n,.slice a24 g.n c24]:=r25
 have ab26:Fr 0 0 h23 h26:=((f24).trans n25.f0).fresh s26.fr (by omega)
 replace dE:=VG.cons r25 dV24 (dE.fr ab26)
 clear dU24 dV24 r25
 have g_26:b1<h26.size∧b2<h26.size∧h.size≤h26.size:=by omega
 try simp -dsimp only [go_sem,evs_len,r1.cell]
 refine call_of (ref8_Kinds (t.fr p0) (by omega) 1) ?_
 rintro v27 h27 ⟨f27,o27⟩
 have f27_z:=f27.size
 replace p0:=p0.F f27
 replace r1:=r1.F f27
 replace r2:=r2.F f27
 obtain ⟨a27,c27,rfl⟩:=o27.is
 simp -dsimp only [go_sem,r1.cell]
 replace dE:=dE.fr (f27)
 have dK12:=o27.rd
 try simp -dsimp only [go_sem,evs_len]
 refine call_of (ref8_Kinds (t.fr p0) (by omega) 2) ?_
 rintro v28 h28 ⟨f28,o28⟩
 have f28_z:=f28.size
 replace p0:=p0.F f28
 replace r1:=r1.F f28
 replace r2:=r2.F f28
 obtain ⟨a28,c28,rfl⟩:=o28.is
 simp -dsimp only [go_sem]
 replace dE:=dE.fr (f28)
 have dK13:=o28.rd
 replace dK12:=dK12.fr (f28)
 try simp -dsimp only [go_sem,evs_len,r1.cell,r2.cell]
 refine call_of (ref1_Ident g.n (l:=kindsV g 2 g.n) (by rw [lk_];exact dK13)) ?_
 rintro v29 h29 ⟨f29,u29⟩
 rw [hcl] at u29
 have f29_z:=f29.size
 replace p0:=p0.F f29
 replace r1:=r1.F f29
 replace r2:=r2.F f29
 have dU29:RG (b2+1) h29 v29 g.n (dM (isK g 2)):=RG.congr ⟨_,_,by omega,u29⟩ (id2 fun i hi=>atB_kinds hi)
 obtain ⟨a29,c29,rfl⟩:=dU29.is
 clear u29
 simp -dsimp only [go_sem]
 intro b30 h30 n30
 have n30_a:=n30.at_
 have n30_z:=n30.size
 replace p0:=p0.F n30.f0
 replace r1:=r1.F n30.f0
 replace r2:=r2.F n30.f0
 have r30:=n30.row
 simp -dsimp only [go_sem]
 refine Chk_intro (r30.wr (by first | (simp;done) | (simp;omega))) fun h31 s31=>?_
 have s31_z:=s31.size
 replace p0:=p0.F s31.fr
 replace r1:=r1.F s31.fr
 replace r2:=r2.F s31.fr
 replace r30:=s31.row r30
 try simp only [cl_int,cl_bool,cl_slice,cl_ptr,putAt_one,List.set_cons_zero,List.set_cons_succ,ivec_set,brow_upd] at r30
 have fz31:Fr 0 0 h29 h31:=n30.f0.fresh s31.fr (by omega)
 have dV29:=dU29.fr fz31
 replace r30:Rw h31 b30 [.int .i64 g.n,.slice a29 g.n c29]:=r30
 have ab31:Fr 0 0 h28 h31:=((f29).trans n30.f0).fresh s31.fr (by omega)
 replace dE:=VG.cons r30 dV29 (dE.fr ab31)
 replace dK12:=dK12.fr (ab31)
 replace dK13:=dK13.fr (ab31)
 clear dU29 dV29 r30
 have g_31:b1<h31.size∧b2<h31.size∧h.size≤h31.size:=by omega
 try simp -dsimp only [go_sem]
 refine call_of (ref1_Ident g.n (l:=kindsV g 1 g.n) (by rw [lk_];exact dK12)) ?_
 rintro v32 h32 ⟨f32,u32⟩
 rw [hcl] at u32
 have f32_z:=f32.size
 replace p0:=p0.F f32
 replace r1:=r1.F f32
 replace r2:=r2.F f32
 have dU32:RG (b2+1) h32 v32 g.n (dM (isK g 1)):=RG.congr ⟨_,_,by omega,u32⟩ (id2 fun i hi=>atB_kinds hi)
 obtain ⟨a32,c32,rfl⟩:=dU32.is
 clear u32
 simp -dsimp only [go_sem]
 intro b33 h33 n33
 have n33_a:=n33.at_
 have n33_z:=n33.size
 replace p0:=p0.F n33.f0
 replace r1:=r1.F n33.f0
 replace r2:=r2.F n33.f0
 have r33:=n33.row
 simp -dsimp only [go_sem]
 refine Chk_intro (r33.wr (by first | (simp;done) | (simp;omega))) fun h34 s34=>?_
 have s34_z:=s34.size
 replace p0:=p0.F s34.fr
 replace r1:=r1.F s34.fr
 replace r2:=r2.F s34.fr
 replace r33:=s34.row r33
 try simp only [cl_int,cl_bool,cl_slice,cl_ptr,putAt_one,List.set_cons_zero,List.set_cons_succ,ivec_set,brow_upd] at r33
 have fz34:Fr 0 0 h32 h34:=n33.f0.fresh s34.fr (by omega)
 have dV32:=dU32.fr fz34
 replace r33:Rw h34 b33 [.int .i64 g.n,.slice a32 g.n c32]:=r33
 have ab34:Fr 0 0 h31 h34:=((f32).trans n33.f0).fresh s34.fr (by omega)
 replace dE:=VG.cons r33 dV32 (dE.fr ab34)
 replace dK12:=dK12.fr (ab34)
 replace dK13:=dK13.fr (ab34)
 clear dU32 dV32 r33
 have g_34:b1<h34.size∧b2<h34.size∧h.size≤h34.size:=by omega
 try simp -dsimp only [go_sem,evs_len,r1.cell]
 intro b35 h35 n35
 have n35_a:=n35.at_
 have n35_z:=n35.size
 replace p0:=p0.F n35.f0
 replace r1:=r1.F n35.f0
 replace r2:=r2.F n35.f0
 have r35:=n35.row
 simp -dsimp only [go_sem]
 refine call_of (ref8_With (t.fr p0) (by omega) (m:=[12]) (Rw.rd (s:=1) (n:=1) (c:=1) r35 rfl) (by simp)) ?_
 rintro v36 h36 ⟨f36,o36⟩
 have f36_z:=f36.size
 replace p0:=p0.F f36
 replace r1:=r1.F f36
 replace r2:=r2.F f36
 replace r35:=r35.F f36
 obtain ⟨a36,c36,rfl⟩:=o36.is
 simp -dsimp only [go_sem]
 refine call_of (ref8_Both (la:=kindsV g 1 g.n) (lb:=withB g [12]) (n:=g.n) (by rw [lk_];exact dK12.fr (n35.f0.trans (f36))) (by rw [lw_];exact o36.rd) (lk_ _) lw_ (by omega)) ?_
 rintro v37 h37 ⟨f37,o37⟩
 have f37_z:=f37.size
 replace p0:=p0.F f37
 replace r1:=r1.F f37
 replace r2:=r2.F f37
 replace r35:=r35.F f37
 replace o36:=o36.fr f37 (by have:=o36.at_;omega)
 obtain ⟨a37,c37,rfl⟩:=o37.is
 simp -dsimp only [go_sem]
 refine call_of (ref1_Ident g.n (l:=bothL g.n fun i=>atB (kindsV g 1 g.n) i&&atB (withB g [12]) i) (by rw [bothL_len];exact o37.rd)) ?_
 rintro v38 h38 ⟨f38,u38⟩
 rw [hcl] at u38
 have f38_z:=f38.size
 replace p0:=p0.F f38
 replace r1:=r1.F f38
 replace r2:=r2.F f38
 replace r35:=r35.F f38
 replace o36:=o36.fr f38 (by have:=o36.at_;omega)
 replace o37:=o37.fr f38 (by have:=o37.at_;omega)
 have dU38:RG (b2+1) h38 v38 g.n (dM (isM g 12)):=RG.congr ⟨_,_,by omega,u38⟩ (id2 fun i hi=>by rw [atB_both hi,atB_kinds hi,atB_with hi,m12 hc hi])
 obtain ⟨a38,c38,rfl⟩:=dU38.is
 clear u38
 simp -dsimp only [go_sem]
 intro b39 h39 n39
 have n39_a:=n39.at_
 have n39_z:=n39.size
 replace p0:=p0.F n39.f0
 replace r1:=r1.F n39.f0
 replace r2:=r2.F n39.f0
 have r39:=n39.row
 simp -dsimp only [go_sem]
 refine Chk_intro (r39.wr (by first | (simp;done) | (simp;omega))) fun h40 s40=>?_
 have s40_z:=s40.size
 replace p0:=p0.F s40.fr
 replace r1:=r1.F s40.fr
 replace r2:=r2.F s40.fr
 replace r39:=s40.row r39
 try simp only [cl_int,cl_bool,cl_slice,cl_ptr,putAt_one,List.set_cons_zero,List.set_cons_succ,ivec_set,brow_upd] at r39
 have fz40:Fr 0 0 h38 h40:=n39.f0.fresh s40.fr (by omega)
 have dV38:=dU38.fr fz40
 replace r39:Rw h40 b39 [.int .i64 g.n,.slice a38 g.n c38]:=r39
 have ab40:Fr 0 0 h34 h40:=((((n35.f0.trans (f36)).trans (f37)).trans (f38)).trans n39.f0).fresh s40.fr (by omega)
 replace dE:=VG.cons r39 dV38 (dE.fr ab40)
 replace dK12:=dK12.fr (ab40)
 replace dK13:=dK13.fr (ab40)
 clear r35 o36 o37 dU38 dV38 r39
 have g_40:b1<h40.size∧b2<h40.size∧h.size≤h40.size:=by omega
 try simp -dsimp only [go_sem,evs_len,r1.cell]
 intro b41 h41 n41
 have n41_a:=n41.at_
 have n41_z:=n41.size
 replace p0:=p0.F n41.f0
 replace r1:=r1.F n41.f0
 replace r2:=r2.F n41.f0
 have r41:=n41.row
 simp -dsimp only [go_sem]
 refine call_of (ref8_With (t.fr p0) (by omega) (m:=[12,16]) (Rw.rd (s:=1) (n:=2) (c:=2) r41 rfl) (by simp)) ?_
 rintro v42 h42 ⟨f42,o42⟩
 have f42_z:=f42.size
 replace p0:=p0.F f42
 replace r1:=r1.F f42
 replace r2:=r2.F f42
 replace r41:=r41.F f42
 obtain ⟨a42,c42,rfl⟩:=o42.is
 simp -dsimp only [go_sem]
 refine call_of (ref8_Both (la:=kindsV g 1 g.n) (lb:=withB g [12,16]) (n:=g.n) (by rw [lk_];exact dK12.fr (n41.f0.trans (f42))) (by rw [lw_];exact o42.rd) (lk_ _) lw_ (by omega)) ?_
 rintro v43 h43 ⟨f43,o43⟩
 have f43_z:=f43.size
 replace p0:=p0.F f43
 replace r1:=r1.F f43
 replace r2:=r2.F f43
 replace r41:=r41.F f43
 replace o42:=o42.fr f43 (by have:=o42.at_;omega)
 obtain ⟨a43,c43,rfl⟩:=o43.is
 simp -dsimp only [go_sem]
 refine call_of (ref1_Ident g.n (l:=bothL g.n fun i=>atB (kindsV g 1 g.n) i&&atB (withB g [12,16]) i) (by rw [bothL_len];exact o43.rd)) ?_
 rintro v44 h44 ⟨f44,u44⟩
 rw [hcl] at u44
 have f44_z:=f44.size
 replace p0:=p0.F f44
 replace r1:=r1.F f44
 replace r2:=r2.F f44
 replace r41:=r41.F f44
 replace o42:=o42.fr f44 (by have:=o42.at_;omega)
 replace o43:=o43.fr f44 (by have:=o43.at_;omega)
 have dU44:RG (b2+1) h44 v44 g.n (dM (acqB g)):=RG.congr ⟨_,_,by omega,u44⟩ (id2 fun i hi=>by rw [atB_both hi,atB_kinds hi,atB_with2 hi,macq hc hi])
 obtain ⟨a44,c44,rfl⟩:=dU44.is
 clear u44
 simp -dsimp only [go_sem]
 intro b45 h45 n45
 have n45_a:=n45.at_
 have n45_z:=n45.size
 replace p0:=p0.F n45.f0
 replace r1:=r1.F n45.f0
 replace r2:=r2.F n45.f0
 have r45:=n45.row
 simp -dsimp only [go_sem]
 refine Chk_intro (r45.wr (by first | (simp;done) | (simp;omega))) fun h46 s46=>?_
 have s46_z:=s46.size
 replace p0:=p0.F s46.fr
 replace r1:=r1.F s46.fr
 replace r2:=r2.F s46.fr
 replace r45:=s46.row r45
 try simp only [cl_int,cl_bool,cl_slice,cl_ptr,putAt_one,List.set_cons_zero,List.set_cons_succ,ivec_set,brow_upd] at r45
 have fz46:Fr 0 0 h44 h46:=n45.f0.fresh s46.fr (by omega)
 have dV44:=dU44.fr fz46
 replace r45:Rw h46 b45 [.int .i64 g.n,.slice a44 g.n c44]:=r45
 have ab46:Fr 0 0 h40 h46:=((((n41.f0.trans (f42)).trans (f43)).trans (f44)).trans n45.f0).fresh s46.fr (by omega)
 replace dE:=VG.cons r45 dV44 (dE.fr ab46)
 replace dK12:=dK12.fr (ab46)
 replace dK13:=dK13.fr (ab46)
 clear r41 o42 o43 dU44 dV44 r45
 have g_46:b1<h46.size∧b2<h46.size∧h.size≤h46.size:=by omega
 try simp -dsimp only [go_sem,evs_len,r1.cell]
 intro b47 h47 n47
 have n47_a:=n47.at_
 have n47_z:=n47.size
 replace p0:=p0.F n47.f0
 replace r1:=r1.F n47.f0
 replace r2:=r2.F n47.f0
 have r47:=n47.row
 simp -dsimp only [go_sem]
 refine call_of (ref8_With (t.fr p0) (by omega) (m:=[13]) (Rw.rd (s:=1) (n:=1) (c:=1) r47 rfl) (by simp)) ?_
 rintro v48 h48 ⟨f48,o48⟩
 have f48_z:=f48.size
 replace p0:=p0.F f48
 replace r1:=r1.F f48
 replace r2:=r2.F f48
 replace r47:=r47.F f48
 obtain ⟨a48,c48,rfl⟩:=o48.is
 simp -dsimp only [go_sem]
 refine call_of (ref8_Both (la:=kindsV g 2 g.n) (lb:=withB g [13]) (n:=g.n) (by rw [lk_];exact dK13.fr (n47.f0.trans (f48))) (by rw [lw_];exact o48.rd) (lk_ _) lw_ (by omega)) ?_
 rintro v49 h49 ⟨f49,o49⟩
 have f49_z:=f49.size
 replace p0:=p0.F f49
 replace r1:=r1.F f49
 replace r2:=r2.F f49
 replace r47:=r47.F f49
 replace o48:=o48.fr f49 (by have:=o48.at_;omega)
 obtain ⟨a49,c49,rfl⟩:=o49.is
 simp -dsimp only [go_sem]
 refine call_of (ref1_Ident g.n (l:=bothL g.n fun i=>atB (kindsV g 2 g.n) i&&atB (withB g [13]) i) (by rw [bothL_len];exact o49.rd)) ?_
 rintro v50 h50 ⟨f50,u50⟩
 rw [hcl] at u50
 have f50_z:=f50.size
 replace p0:=p0.F f50
 replace r1:=r1.F f50
 replace r2:=r2.F f50
 replace r47:=r47.F f50
 replace o48:=o48.fr f50 (by have:=o48.at_;omega)
 replace o49:=o49.fr f50 (by have:=o49.at_;omega)
 have dU50:RG (b2+1) h50 v50 g.n (dM (isM g 13)):=RG.congr ⟨_,_,by omega,u50⟩ (id2 fun i hi=>by rw [atB_both hi,atB_kinds hi,atB_with hi,m13 hc hi])
 obtain ⟨a50,c50,rfl⟩:=dU50.is
 clear u50
 simp -dsimp only [go_sem]
 intro b51 h51 n51
 have n51_a:=n51.at_
 have n51_z:=n51.size
 replace p0:=p0.F n51.f0
 replace r1:=r1.F n51.f0
 replace r2:=r2.F n51.f0
 have r51:=n51.row
 simp -dsimp only [go_sem]
 refine Chk_intro (r51.wr (by first | (simp;done) | (simp;omega))) fun h52 s52=>?_
 have s52_z:=s52.size
 replace p0:=p0.F s52.fr
 replace r1:=r1.F s52.fr
 replace r2:=r2.F s52.fr
 replace r51:=s52.row r51
 try simp only [cl_int,cl_bool,cl_slice,cl_ptr,putAt_one,List.set_cons_zero,List.set_cons_succ,ivec_set,brow_upd] at r51
 have fz52:Fr 0 0 h50 h52:=n51.f0.fresh s52.fr (by omega)
 have dV50:=dU50.fr fz52
 replace r51:Rw h52 b51 [.int .i64 g.n,.slice a50 g.n c50]:=r51
 have ab52:Fr 0 0 h46 h52:=((((n47.f0.trans (f48)).trans (f49)).trans (f50)).trans n51.f0).fresh s52.fr (by omega)
 replace dE:=VG.cons r51 dV50 (dE.fr ab52)
 replace dK12:=dK12.fr (ab52)
 replace dK13:=dK13.fr (ab52)
 clear r47 o48 o49 dU50 dV50 r51
 have g_52:b1<h52.size∧b2<h52.size∧h.size≤h52.size:=by omega
 try simp -dsimp only [go_sem,evs_len,r1.cell]
 intro b53 h53 n53
 have n53_a:=n53.at_
 have n53_z:=n53.size
 replace p0:=p0.F n53.f0
 replace r1:=r1.F n53.f0
 replace r2:=r2.F n53.f0
 have r53:=n53.row
 simp -dsimp only [go_sem]
 refine call_of (ref8_With (t.fr p0) (by omega) (m:=[14]) (Rw.rd (s:=1) (n:=1) (c:=1) r53 rfl) (by simp)) ?_
 rintro v54 h54 ⟨f54,o54⟩
 have f54_z:=f54.size
 replace p0:=p0.F f54
 replace r1:=r1.F f54
 replace r2:=r2.F f54
 replace r53:=r53.F f54
 obtain ⟨a54,c54,rfl⟩:=o54.is
 simp -dsimp only [go_sem]
 refine call_of (ref1_Ident g.n (l:=withB g [14]) (by rw [lw_];exact o54.rd)) ?_
 rintro v55 h55 ⟨f55,u55⟩
 rw [hcl] at u55
 have f55_z:=f55.size
 replace p0:=p0.F f55
 replace r1:=r1.F f55
 replace r2:=r2.F f55
 replace r53:=r53.F f55
 replace o54:=o54.fr f55 (by have:=o54.at_;omega)
 have dU55:RG (b2+1) h55 v55 g.n (dM (isM g 14)):=RG.congr ⟨_,_,by omega,u55⟩ (id2 fun i hi=>atB_with hi)
 obtain ⟨a55,c55,rfl⟩:=dU55.is
 clear u55
 simp -dsimp only [go_sem]
 intro b56 h56 n56
 have n56_a:=n56.at_
 have n56_z:=n56.size
 replace p0:=p0.F n56.f0
 replace r1:=r1.F n56.f0
 replace r2:=r2.F n56.f0
 have r56:=n56.row
 simp -dsimp only [go_sem]
 refine Chk_intro (r56.wr (by first | (simp;done) | (simp;omega))) fun h57 s57=>?_
 have s57_z:=s57.size
 replace p0:=p0.F s57.fr
 replace r1:=r1.F s57.fr
 replace r2:=r2.F s57.fr
 replace r56:=s57.row r56
 try simp only [cl_int,cl_bool,cl_slice,cl_ptr,putAt_one,List.set_cons_zero,List.set_cons_succ,ivec_set,brow_upd] at r56
 have fz57:Fr 0 0 h55 h57:=n56.f0.fresh s57.fr (by omega)
 have dV55:=dU55.fr fz57
 replace r56:Rw h57 b56 [.int .i64 g.n,.slice a55 g.n c55]:=r56
 have ab57:Fr 0 0 h52 h57:=(((n53.f0.trans (f54)).trans (f55)).trans n56.f0).fresh s57.fr (by omega)
 replace dE:=VG.cons r56 dV55 (dE.fr ab57)
 replace dK12:=dK12.fr (ab57)
 replace dK13:=dK13.fr (ab57)
 clear r53 o54 dU55 dV55 r56
 have g_57:b1<h57.size∧b2<h57.size∧h.size≤h57.size:=by omega
 try simp -dsimp only [go_sem,evs_len,r1.cell]
 intro b58 h58 n58
 have n58_a:=n58.at_
 have n58_z:=n58.size
 replace p0:=p0.F n58.f0
 replace r1:=r1.F n58.f0
 replace r2:=r2.F n58.f0
 have r58:=n58.row
 simp -dsimp only [go_sem]
 refine call_of (ref8_With (t.fr p0) (by omega) (m:=[15]) (Rw.rd (s:=1) (n:=1) (c:=1) r58 rfl) (by simp)) ?_
 rintro v59 h59 ⟨f59,o59⟩
 have f59_z:=f59.size
 replace p0:=p0.F f59
 replace r1:=r1.F f59
 replace r2:=r2.F f59
 replace r58:=r58.F f59
 obtain ⟨a59,c59,rfl⟩:=o59.is
 simp -dsimp only [go_sem]
 refine call_of (ref1_Ident g.n (l:=withB g [15]) (by rw [lw_];exact o59.rd)) ?_
 rintro v60 h60 ⟨f60,u60⟩
 rw [hcl] at u60
 have f60_z:=f60.size
 replace p0:=p0.F f60
 replace r1:=r1.F f60
 replace r2:=r2.F f60
 replace r58:=r58.F f60
 replace o59:=o59.fr f60 (by have:=o59.at_;omega)
 have dU60:RG (b2+1) h60 v60 g.n (dM (isM g 15)):=RG.congr ⟨_,_,by omega,u60⟩ (id2 fun i hi=>atB_with hi)
 obtain ⟨a60,c60,rfl⟩:=dU60.is
 clear u60
 simp -dsimp only [go_sem]
 intro b61 h61 n61
 have n61_a:=n61.at_
 have n61_z:=n61.size
 replace p0:=p0.F n61.f0
 replace r1:=r1.F n61.f0
 replace r2:=r2.F n61.f0
 have r61:=n61.row
 simp -dsimp only [go_sem]
 refine Chk_intro (r61.wr (by first | (simp;done) | (simp;omega))) fun h62 s62=>?_
 have s62_z:=s62.size
 replace p0:=p0.F s62.fr
 replace r1:=r1.F s62.fr
 replace r2:=r2.F s62.fr
 replace r61:=s62.row r61
 try simp only [cl_int,cl_bool,cl_slice,cl_ptr,putAt_one,List.set_cons_zero,List.set_cons_succ,ivec_set,brow_upd] at r61
 have fz62:Fr 0 0 h60 h62:=n61.f0.fresh s62.fr (by omega)
 have dV60:=dU60.fr fz62
 replace r61:Rw h62 b61 [.int .i64 g.n,.slice a60 g.n c60]:=r61
 have ab62:Fr 0 0 h57 h62:=(((n58.f0.trans (f59)).trans (f60)).trans n61.f0).fresh s62.fr (by omega)
 replace dE:=VG.cons r61 dV60 (dE.fr ab62)
 replace dK12:=dK12.fr (ab62)
 replace dK13:=dK13.fr (ab62)
 clear r58 o59 dU60 dV60 r61
 have g_62:b1<h62.size∧b2<h62.size∧h.size≤h62.size:=by omega
 simp -dsimp only [go_sem]
 refine Chk_intro (by omega) ?_
 rw [zeros_one,Int.toNat_natCast,brow_false]
 have pK:=p0
 have rK1:=r1
 have rK2:=r2
 intro b63 h63 n63
 have n63_a:=n63.at_
 have n63_z:=n63.size
 replace p0:=p0.F n63.f0
 replace r1:=r1.F n63.f0
 replace r2:=r2.F n63.f0
 have r63:=n63.row
 simp -dsimp only [go_sem]
 refine loop_intro (fun i:Nat=>[(1,.pointer (some ⟨b1,0,none⟩)),(2,.pointer (some ⟨b2,0,none⟩)),(3,.int .i64 g.n),(4,.pointer (some ⟨b4,0,none⟩)),(5,.pointer (some ⟨b7,0,none⟩)),(6,.pointer (some ⟨b10,0,none⟩)),(7,.pointer (some ⟨b13,0,none⟩)),(8,.pointer (some ⟨b16,0,none⟩)),(9,.pointer (some ⟨b19,0,none⟩)),(10,.pointer (some ⟨b22,0,none⟩)),(11,.pointer (some ⟨b25,0,none⟩)),(14,.pointer (some ⟨b30,0,none⟩)),(15,.pointer (some ⟨b33,0,none⟩)),(16,.pointer (some ⟨b39,0,none⟩)),(17,.pointer (some ⟨b45,0,none⟩)),(18,.pointer (some ⟨b51,0,none⟩)),(19,.pointer (some ⟨b56,0,none⟩)),(20,.pointer (some ⟨b61,0,none⟩)),(21,.slice (some ⟨b63,0,none⟩) g.n g.n),(22,.int .i64 i)])
  (fun i h'=>i≤g.rmw.length∧Fr 0 0 h62 h'∧Rw h' b63 (brow g.n fun j=>(g.rmw.take i).any fun p=>p.2==(j:Int))) (fun i=>g.rmw.length - i) 0 ?_ ?_ ?_
 ·simp [Le,find]
 ·exact ⟨by omega,n63.fr,by simpa using r63⟩
 have hL:h62.size≤b63∧b1<h62.size∧b2<h62.size:=by omega
 clear p0 r1 r2 r63
 rintro i h3 ⟨hi,pk,r63⟩
 have r1:=rK1.fr pk (by omega)
 have pk_z:=pk.size
 have r63_l:=r63.lt
 have r1_l:=r1.lt
 by_cases hlt:i<g.rmw.length
 ·have e1:((i:Int)<(g.rmw.length:Int)):=by omega
  have hq:g.rmw[i]?=some g.rmw[i]:=List.getElem?_eq_getElem hlt
  obtain ⟨x,y,he,hxy,hyn⟩:=words_rmw hc (List.mem_of_getElem? hq)
  rw [he] at hq
  obtain ⟨rb,ro,hre,hrc⟩:=t.r.pairsAt (by omega)
  obtain ⟨k1,k2⟩:=hrc h3 (pK.trans pk) i _ hq
  dsimp only at k1 k2
  simp -dsimp only [go_sem,e1,hre,k2,r1.cell]
  try refine Chk_intro (by omega) ?_
  try simp -dsimp only [go_sem]
  refine Chk_intro (r63.wr (by first | (simp;done) | (simp;omega))) fun h6 s6=>?_
  have s6_z:=s6.size
  replace pk:=pk.fresh s6.fr (by omega)
  replace r1:=r1.F s6.fr
  replace r63:=s6.row r63
  try simp only [cl_bool,putAt_one,brow_upd] at r63
  simp -dsimp only [go_sem]
  simp -dsimp (disch:=omega) only [wrap64]
  refine ⟨i+1,by omega,by simp [Le,find],by omega,pk,?_⟩
  rw [List.take_add_one,hq,Option.toList_some,brow_congr (g:=upd (fun j=>(g.rmw.take i).any fun p=>p.2==(j:Int)) y true)]
  ·exact r63
  ·intro j _
   rw [List.any_append]
   unfold upd
   by_cases hj:j=y
   ·subst hj;rw [if_pos rfl];simp
   ·rw [if_neg hj]
    have:((y:Int)==(j:Int))=false:=by simp;omega
    simp [this]
 obtain rfl:i=g.rmw.length:=by omega
 rw [List.take_length] at r63
 have hlast:brow g.n (fun j=>g.rmw.any fun p=>p.2==(j:Int))=boolsV ((List.range g.n).map (lastB g)):=by unfold brow boolsV lastB;rw [List.map_map];rfl
 rw [hlast] at r63
 have hll:((List.range g.n).map (lastB g)).length=g.n:=by simp
 have hat:∀ i,i<g.n→atB ((List.range g.n).map (lastB g)) i=lastB g i:=fun i hi=>atB_get (by simp [hi])
 have dK21:Rd 1 h3 (.slice (some ⟨b63,0,none⟩) g.n g.n) ((List.range g.n).map (lastB g)).length (boolsV ((List.range g.n).map (lastB g))):=by rw [hll];exact Rw.rd (s:=1) r63 (by simp)
 replace dE:=dE.fr pk
 have r2:=rK2.fr pk (by omega)
 have p0:=pK.trans pk
 have e1:¬ ((g.rmw.length:Int)<(g.rmw.length:Int)):=by omega
 have p0_z:=p0.size
 have r1_l:=r1.lt
 have r2_l:=r2.lt
 have g_L:b1<h3.size∧b2<h3.size∧h.size≤h3.size:=by have:=pk.size;omega
 clear pk r63 rK1 rK2 pK
 simp -dsimp only [go_sem,e1,r1.cell]
 obtain ⟨rY5,dW5⟩:=dE.at_ 13 (x:=(b7,.slice a6 g.n c6,relM g 1)) rfl
 have dZ5:=dW5.ra
 replace rY5:Rw _ b7 [.int .i64 g.n,.slice a6 g.n c6]:=rY5
 obtain ⟨rY8,dW8⟩:=dE.at_ 10 (x:=(b16,.slice a15 g.n c15,relM g 5)) rfl
 have dZ8:=dW8.ra
 replace rY8:Rw _ b16 [.int .i64 g.n,.slice a15 g.n c15]:=rY8
 try simp -dsimp only [go_sem,rY5.cell,rY8.cell]
 refine call_of (ref1_Inter dZ5.choose_spec.choose_spec dZ8.choose_spec.choose_spec) ?_
 rintro v64 h64 ⟨f64,u64⟩
 rw [Nat.max_self] at u64
 clear rY5 dZ5 rY8 dZ8
 have f64_z:=f64.size
 replace p0:=p0.F f64
 replace r1:=r1.F f64
 replace r2:=r2.F f64
 have dU64:RG (b2+1) h64 v64 g.n (rfeM g):=RG.congr ⟨_,_,by omega,u64⟩ (fun i j hi hj=>interM_in hi hj)
 obtain ⟨a64,c64,rfl⟩:=dU64.is
 clear u64
 simp -dsimp only [go_sem]
 intro b65 h65 n65
 have n65_a:=n65.at_
 have n65_z:=n65.size
 replace p0:=p0.F n65.f0
 replace r1:=r1.F n65.f0
 replace r2:=r2.F n65.f0
 have r65:=n65.row
 simp -dsimp only [go_sem]
 refine Chk_intro (r65.wr (by first | (simp;done) | (simp;omega))) fun h66 s66=>?_
 have s66_z:=s66.size
 replace p0:=p0.F s66.fr
 replace r1:=r1.F s66.fr
 replace r2:=r2.F s66.fr
 replace r65:=s66.row r65
 try simp only [cl_int,cl_bool,cl_slice,cl_ptr,putAt_one,List.set_cons_zero,List.set_cons_succ,ivec_set,brow_upd] at r65
 have fz66:Fr 0 0 h64 h66:=n65.f0.fresh s66.fr (by omega)
 have dV64:=dU64.fr fz66
 replace r65:Rw h66 b65 [.int .i64 g.n,.slice a64 g.n c64]:=r65
 have ab66:Fr 0 0 h3 h66:=((f64).trans n65.f0).fresh s66.fr (by omega)
 replace dE:=VG.cons r65 dV64 (dE.fr ab66)
 replace dK21:=dK21.fr (ab66)
 clear dU64 dV64 r65
 have g_66:b1<h66.size∧b2<h66.size∧h.size≤h66.size:=by omega
 obtain ⟨rY5,dW5⟩:=dE.at_ 14 (x:=(b7,.slice a6 g.n c6,relM g 1)) rfl
 have dZ5:=dW5.ra
 replace rY5:Rw _ b7 [.int .i64 g.n,.slice a6 g.n c6]:=rY5
 obtain ⟨rY8,dW8⟩:=dE.at_ 11 (x:=(b16,.slice a15 g.n c15,relM g 5)) rfl
 have dZ8:=dW8.ra
 replace rY8:Rw _ b16 [.int .i64 g.n,.slice a15 g.n c15]:=rY8
 try simp -dsimp only [go_sem,rY5.cell,rY8.cell]
 refine call_of (ref1_Minus dZ5.choose_spec.choose_spec dZ8.choose_spec.choose_spec) ?_
 rintro v67 h67 ⟨f67,u67⟩
 rw [Nat.max_self] at u67
 clear rY5 dZ5 rY8 dZ8
 have f67_z:=f67.size
 replace p0:=p0.F f67
 replace r1:=r1.F f67
 replace r2:=r2.F f67
 have dU67:RG (b2+1) h67 v67 g.n (rfiM g):=RG.congr ⟨_,_,by omega,u67⟩ (fun i j hi hj=>minusM_in hi hj)
 obtain ⟨a67,c67,rfl⟩:=dU67.is
 clear u67
 simp -dsimp only [go_sem]
 intro b68 h68 n68
 have n68_a:=n68.at_
 have n68_z:=n68.size
 replace p0:=p0.F n68.f0
 replace r1:=r1.F n68.f0
 replace r2:=r2.F n68.f0
 have r68:=n68.row
 simp -dsimp only [go_sem]
 refine Chk_intro (r68.wr (by first | (simp;done) | (simp;omega))) fun h69 s69=>?_
 have s69_z:=s69.size
 replace p0:=p0.F s69.fr
 replace r1:=r1.F s69.fr
 replace r2:=r2.F s69.fr
 replace r68:=s69.row r68
 try simp only [cl_int,cl_bool,cl_slice,cl_ptr,putAt_one,List.set_cons_zero,List.set_cons_succ,ivec_set,brow_upd] at r68
 have fz69:Fr 0 0 h67 h69:=n68.f0.fresh s69.fr (by omega)
 have dV67:=dU67.fr fz69
 replace r68:Rw h69 b68 [.int .i64 g.n,.slice a67 g.n c67]:=r68
 have ab69:Fr 0 0 h66 h69:=((f67).trans n68.f0).fresh s69.fr (by omega)
 replace dE:=VG.cons r68 dV67 (dE.fr ab69)
 replace dK21:=dK21.fr (ab69)
 clear dU67 dV67 r68
 have g_69:b1<h69.size∧b2<h69.size∧h.size≤h69.size:=by omega
 obtain ⟨rY6,dW6⟩:=dE.at_ 14 (x:=(b10,.slice a9 g.n c9,relM g 2)) rfl
 have dZ6:=dW6.ra
 replace rY6:Rw _ b10 [.int .i64 g.n,.slice a9 g.n c9]:=rY6
 obtain ⟨rY8,dW8⟩:=dE.at_ 12 (x:=(b16,.slice a15 g.n c15,relM g 5)) rfl
 have dZ8:=dW8.ra
 replace rY8:Rw _ b16 [.int .i64 g.n,.slice a15 g.n c15]:=rY8
 try simp -dsimp only [go_sem,rY6.cell,rY8.cell]
 refine call_of (ref1_Minus dZ6.choose_spec.choose_spec dZ8.choose_spec.choose_spec) ?_
 rintro v70 h70 ⟨f70,u70⟩
 rw [Nat.max_self] at u70
 clear rY6 dZ6 rY8 dZ8
 have f70_z:=f70.size
 replace p0:=p0.F f70
 replace r1:=r1.F f70
 replace r2:=r2.F f70
 have dU70:RG (b2+1) h70 v70 g.n (coiM g):=RG.congr ⟨_,_,by omega,u70⟩ (fun i j hi hj=>minusM_in hi hj)
 obtain ⟨a70,c70,rfl⟩:=dU70.is
 clear u70
 simp -dsimp only [go_sem]
 intro b71 h71 n71
 have n71_a:=n71.at_
 have n71_z:=n71.size
 replace p0:=p0.F n71.f0
 replace r1:=r1.F n71.f0
 replace r2:=r2.F n71.f0
 have r71:=n71.row
 simp -dsimp only [go_sem]
 refine Chk_intro (r71.wr (by first | (simp;done) | (simp;omega))) fun h72 s72=>?_
 have s72_z:=s72.size
 replace p0:=p0.F s72.fr
 replace r1:=r1.F s72.fr
 replace r2:=r2.F s72.fr
 replace r71:=s72.row r71
 try simp only [cl_int,cl_bool,cl_slice,cl_ptr,putAt_one,List.set_cons_zero,List.set_cons_succ,ivec_set,brow_upd] at r71
 have fz72:Fr 0 0 h70 h72:=n71.f0.fresh s72.fr (by omega)
 have dV70:=dU70.fr fz72
 replace r71:Rw h72 b71 [.int .i64 g.n,.slice a70 g.n c70]:=r71
 have ab72:Fr 0 0 h69 h72:=((f70).trans n71.f0).fresh s72.fr (by omega)
 replace dE:=VG.cons r71 dV70 (dE.fr ab72)
 replace dK21:=dK21.fr (ab72)
 clear dU70 dV70 r71
 have g_72:b1<h72.size∧b2<h72.size∧h.size≤h72.size:=by omega
 obtain ⟨rY23,dW23⟩:=dE.at_ 2 (x:=(b65,.slice a64 g.n c64,rfeM g)) rfl
 have dZ23:=dW23.ra
 replace rY23:Rw _ b65 [.int .i64 g.n,.slice a64 g.n c64]:=rY23
 obtain ⟨rY6,dW6⟩:=dE.at_ 15 (x:=(b10,.slice a9 g.n c9,relM g 2)) rfl
 have dZ6:=dW6.ra
 replace rY6:Rw _ b10 [.int .i64 g.n,.slice a9 g.n c9]:=rY6
 obtain ⟨rY8,dW8⟩:=dE.at_ 13 (x:=(b16,.slice a15 g.n c15,relM g 5)) rfl
 have dZ8:=dW8.ra
 replace rY8:Rw _ b16 [.int .i64 g.n,.slice a15 g.n c15]:=rY8
 obtain ⟨rY7,dW7⟩:=dE.at_ 14 (x:=(b13,.slice a12 g.n c12,relM g 9)) rfl
 have dZ7:=dW7.ra
 replace rY7:Rw _ b13 [.int .i64 g.n,.slice a12 g.n c12]:=rY7
 simp -dsimp only [go_sem,rY23.cell,rY6.cell,rY8.cell,rY7.cell]
 refine free_intro [(3,[3],tRR g.n (interM g.n (relM g 2) g.n (relM g 5))),(6,[6],tRR g.n (interM g.n (relM g 9) g.n (relM g 5))),(7,[7],tCR g.n [rfeM g,(interM g.n (relM g 2) g.n (relM g 5)),(interM g.n (relM g 9) g.n (relM g 5))]),(8,[8],tRR g.n (oM g.n (rfeM g) [(interM g.n (relM g 2) g.n (relM g 5)),(interM g.n (relM g 9) g.n (relM g 5))])),(9,[9],tellA [.int .i64 0,.slice none 0 0])] ?_ rfl ?_ ?_
 ·exact ⟨stRR _ _,stRR _ _,stCR _ _,stRR _ _,stabA _,trivial⟩
 ·simp -dsimp only [go_sem,tCR_eq,tRR_eq]
  refine ⟨fun h4 f4 V=>?_,fun h4 f4 V a3=>?_,fun h4 f4 V a3 a6=>?_,fun h4 f4 V a7 a6=>?_,fun h4 f4 V=>?_⟩
  ·try simp -dsimp only [go_sem,r1.cell,r2.cell,rY23.cell,rY6.cell,rY8.cell,rY7.cell]
   refine call_of (ref1_Inter (dZ6.fr f4).choose_spec.choose_spec (dZ8.fr f4).choose_spec.choose_spec) ?_
   rintro v h5 ⟨f5,w⟩
   rw [Nat.max_self] at w
   simp -dsimp only [go_sem,tRR_eq]
   exact ⟨f5,w⟩
  ·try simp -dsimp only [go_sem,r1.cell,r2.cell,rY23.cell,rY6.cell,rY8.cell,rY7.cell]
   refine call_of (ref1_Inter (dZ7.fr f4).choose_spec.choose_spec (dZ8.fr f4).choose_spec.choose_spec) ?_
   rintro v h5 ⟨f5,w⟩
   rw [Nat.max_self] at w
   simp -dsimp only [go_sem,tRR_eq]
   exact ⟨f5,w⟩
  ·obtain ⟨x3,y3,e3⟩:=((ra_of a3)).is
   rw [e3] at a3
   obtain ⟨x6,y6,e6⟩:=((ra_of a6)).is
   rw [e6] at a6
   try simp -dsimp only [go_sem,e3,e6]
   intro b5 h5 n5
   try simp -dsimp only [go_sem] at n5
   simp -dsimp only [go_sem,tCR_eq]
   exact ⟨n5.fr,CR.mk [(.slice a64 g.n c64,rfeM g),(.slice x3 g.n y3,(interM g.n (relM g 2) g.n (relM g 5))),(.slice x6 g.n y6,(interM g.n (relM g 9) g.n (relM g 5)))] n5.row (ra_cons (RA.fr (dZ23.fr f4) n5.fr) (ra_cons (RA.fr (ra_of a3) n5.fr) (ra_cons (RA.fr (ra_of a6) n5.fr) (ra_nil)))) (by simp)⟩
  ·try simp -dsimp only [go_sem,r1.cell,r2.cell,rY23.cell,rY6.cell,rY8.cell,rY7.cell]
   refine call_of (ref11_any a7) ?_
   rintro v h5 ⟨f5,-,w⟩
   simp -dsimp only [go_sem,tRR_eq]
   exact ⟨f5,w (by simp)⟩
  ·intro b5 h5 n5
   simp -dsimp only [go_sem,tellA_eq]
   exact ⟨n5.fr,n5.at_.symm▸rfl,n5.size,n5.at_▸n5.row⟩
 intro h73 f73 V sep
 have q1:=(sep.at_ (L:=[3,6,7,8,9]) rfl).1 9 (by decide)
 have q3:=(sep.at_ (L:=[3,6,7,8,9]) rfl).1 8 (by decide)
 have q2:=(sep.at_ (L:=[3,6,7,8,9]) rfl).2 8 (by decide) 9 (by decide) (by decide)
 clear sep
 simp -dsimp only [go_sem,tCR_eq,tRR_eq,tellA_eq]
 intro _ _ _ a_8 a_9
 obtain ⟨e_1,z_1,r74⟩:=a_9
 obtain ⟨a73,c73,e_2⟩:=(ra_of a_8).is
 rw [e_2] at a_8
 generalize (V 9).2.1=b74 at *
 generalize (V 8).2.1=l_1 at *
 generalize (V 8).2.2=l_2 at *
 rw [z_1] at q1 q2
 generalize (V 9).1=w_1 at *
 subst e_1
 have f73_z:=f73.size
 replace p0:=p0.F f73
 replace r1:=r1.F f73
 replace r2:=r2.F f73
 replace rY23:=rY23.fr f73 (by omega)
 replace rY6:=rY6.fr f73 (by omega)
 replace rY8:=rY8.fr f73 (by omega)
 replace rY7:=rY7.fr f73 (by omega)
 simp -dsimp only [go_sem,e_2]
 refine Chk_intro (r74.wr (by first | (simp;done) | (simp;omega))) fun h74 s74=>?_
 have s74_z:=s74.size
 replace p0:=p0.F s74.fr
 replace r1:=r1.F s74.fr
 replace r2:=r2.F s74.fr
 replace r74:=s74.row r74
 try simp only [cl_int,cl_bool,cl_slice,cl_ptr,putAt_one,List.set_cons_zero,List.set_cons_succ,ivec_set,brow_upd] at r74
 have dU73:RG (b2+1) h74 (.agg #[.int .i64 g.n,.slice a73 g.n c73]) g.n (obsM g):=RG.congr ⟨_,_,by omega,a_8.fr s74.fr (by omega)⟩ (fun i j hi hj=>ref_obs hi hj)
 replace r74:Rw h74 b74 [.int .i64 g.n,.slice a73 g.n c73]:=r74
 have ab74:Fr 0 0 h72 h74:=f73.fresh s74.fr (by omega)
 replace dE:=VG.cons r74 dU73 (dE.fr ab74)
 replace dK21:=dK21.fr (ab74)
 have g_74:b1<h74.size∧b2<h74.size∧h.size≤h74.size:=by omega
 clear r74 dU73 a_8 e_2 z_1 q1 q2 q3 rY23 dZ23 rY6 dZ6 rY8 dZ8 rY7 dZ7
 obtain ⟨rY9,dW9⟩:=dE.at_ 13 (x:=(b19,.slice a18 g.n c18,relM g 6)) rfl
 have dZ9:=dW9.ra
 replace rY9:Rw _ b19 [.int .i64 g.n,.slice a18 g.n c18]:=rY9
 obtain ⟨rY10,dW10⟩:=dE.at_ 12 (x:=(b22,.slice a21 g.n c21,relM g 7)) rfl
 have dZ10:=dW10.ra
 replace rY10:Rw _ b22 [.int .i64 g.n,.slice a21 g.n c21]:=rY10
 obtain ⟨rY11,dW11⟩:=dE.at_ 11 (x:=(b25,.slice a24 g.n c24,relM g 8)) rfl
 have dZ11:=dW11.ra
 replace rY11:Rw _ b25 [.int .i64 g.n,.slice a24 g.n c24]:=rY11
 obtain ⟨rY14,dW14⟩:=dE.at_ 10 (x:=(b30,.slice a29 g.n c29,dM (isK g 2))) rfl
 have dZ14:=dW14.ra
 replace rY14:Rw _ b30 [.int .i64 g.n,.slice a29 g.n c29]:=rY14
 obtain ⟨rY4,dW4⟩:=dE.at_ 18 (x:=(b4,.slice a3 g.n c3,relM g 0)) rfl
 have dZ4:=dW4.ra
 replace rY4:Rw _ b4 [.int .i64 g.n,.slice a3 g.n c3]:=rY4
 obtain ⟨rY25,dW25⟩:=dE.at_ 1 (x:=(b71,.slice a70 g.n c70,coiM g)) rfl
 have dZ25:=dW25.ra
 replace rY25:Rw _ b71 [.int .i64 g.n,.slice a70 g.n c70]:=rY25
 obtain ⟨rY24,dW24⟩:=dE.at_ 2 (x:=(b68,.slice a67 g.n c67,rfiM g)) rfl
 have dZ24:=dW24.ra
 replace rY24:Rw _ b68 [.int .i64 g.n,.slice a67 g.n c67]:=rY24
 simp -dsimp only [go_sem,rY9.cell,rY10.cell,rY11.cell,rY14.cell,rY4.cell,rY25.cell,rY24.cell]
 refine free_intro [(4,[4],tCR g.n [relM g 8,dM (isK g 2)]),(5,[5],tRA g.n (chM g.n (relM g 8) [dM (isK g 2)])),(9,[9],tCR g.n [relM g 6,relM g 0,dM (isK g 2)]),(10,[10],tRA g.n (chM g.n (relM g 6) [relM g 0,dM (isK g 2)])),(13,[13],tCR g.n [relM g 8,relM g 7]),(14,[14],tRR g.n (oM g.n (relM g 8) [relM g 7])),(16,[16],tCR g.n [(oM g.n (relM g 8) [relM g 7]),coiM g]),(17,[17],tRA g.n (chM g.n (oM g.n (relM g 8) [relM g 7]) [coiM g])),(20,[20],tCR g.n [relM g 6,relM g 7]),(21,[21],tRR g.n (oM g.n (relM g 6) [relM g 7])),(23,[23],tCR g.n [(oM g.n (relM g 6) [relM g 7]),rfiM g]),(24,[24],tRA g.n (chM g.n (oM g.n (relM g 6) [relM g 7]) [rfiM g])),(25,[25],tCR g.n [relM g 6,relM g 7,(chM g.n (relM g 8) [dM (isK g 2)]),(chM g.n (relM g 6) [relM g 0,dM (isK g 2)]),(chM g.n (oM g.n (relM g 8) [relM g 7]) [coiM g]),(chM g.n (oM g.n (relM g 6) [relM g 7]) [rfiM g])]),(26,[26],tRR g.n (oM g.n (relM g 6) [relM g 7,(chM g.n (relM g 8) [dM (isK g 2)]),(chM g.n (relM g 6) [relM g 0,dM (isK g 2)]),(chM g.n (oM g.n (relM g 8) [relM g 7]) [coiM g]),(chM g.n (oM g.n (relM g 6) [relM g 7]) [rfiM g])])),(27,[27],tellA [.int .i64 0,.slice none 0 0])] ?_ rfl ?_ ?_
 ·exact ⟨stCR _ _,stRA _ _,stCR _ _,stRA _ _,stCR _ _,stRR _ _,stCR _ _,stRA _ _,stCR _ _,stRR _ _,stCR _ _,stRA _ _,stCR _ _,stRR _ _,stabA _,trivial⟩
 ·simp -dsimp only [go_sem,tCR_eq,tRR_eq,tRA_eq]
  refine ⟨fun h4 f4 V=>?_,fun h4 f4 V a4=>?_,fun h4 f4 V=>?_,fun h4 f4 V a9 a5=>?_,fun h4 f4 V=>?_,fun h4 f4 V a13 a10=>?_,fun h4 f4 V a14=>?_,fun h4 f4 V a16 a14=>?_,fun h4 f4 V=>?_,fun h4 f4 V a20 a17=>?_,fun h4 f4 V a21=>?_,fun h4 f4 V a23 a21=>?_,fun h4 f4 V a5 a10 a17 a24=>?_,fun h4 f4 V a25 a24=>?_,fun h4 f4 V=>?_⟩
  ·try simp -dsimp only [go_sem,r1.cell,r2.cell,rY9.cell,rY10.cell,rY11.cell,rY14.cell,rY4.cell,rY25.cell,rY24.cell]
   intro b5 h5 n5
   try simp -dsimp only [go_sem] at n5
   simp -dsimp only [go_sem,tCR_eq]
   exact ⟨n5.fr,CR.mk [(.slice a24 g.n c24,relM g 8),(.slice a29 g.n c29,dM (isK g 2))] n5.row (ra_cons (RA.fr (dZ11.fr f4) n5.fr) (ra_cons (RA.fr (dZ14.fr f4) n5.fr) (ra_nil))) (by simp)⟩
  ·try simp -dsimp only [go_sem,r1.cell,r2.cell,rY9.cell,rY10.cell,rY11.cell,rY14.cell,rY4.cell,rY25.cell,rY24.cell]
   refine call_of (ref11_seq a4) ?_
   rintro v h5 ⟨f5,w⟩
   simp -dsimp only [go_sem,tRA_eq]
   exact ⟨f5,w⟩
  ·try simp -dsimp only [go_sem,r1.cell,r2.cell,rY9.cell,rY10.cell,rY11.cell,rY14.cell,rY4.cell,rY25.cell,rY24.cell]
   intro b5 h5 n5
   try simp -dsimp only [go_sem] at n5
   simp -dsimp only [go_sem,tCR_eq]
   exact ⟨n5.fr,CR.mk [(.slice a18 g.n c18,relM g 6),(.slice a3 g.n c3,relM g 0),(.slice a29 g.n c29,dM (isK g 2))] n5.row (ra_cons (RA.fr (dZ9.fr f4) n5.fr) (ra_cons (RA.fr (dZ4.fr f4) n5.fr) (ra_cons (RA.fr (dZ14.fr f4) n5.fr) (ra_nil)))) (by simp)⟩
  ·try simp -dsimp only [go_sem,r1.cell,r2.cell,rY9.cell,rY10.cell,rY11.cell,rY14.cell,rY4.cell,rY25.cell,rY24.cell]
   refine call_of (ref11_seq a9) ?_
   rintro v h5 ⟨f5,w⟩
   simp -dsimp only [go_sem,tRA_eq]
   exact ⟨f5,w⟩
  ·try simp -dsimp only [go_sem,r1.cell,r2.cell,rY9.cell,rY10.cell,rY11.cell,rY14.cell,rY4.cell,rY25.cell,rY24.cell]
   intro b5 h5 n5
   try simp -dsimp only [go_sem] at n5
   simp -dsimp only [go_sem,tCR_eq]
   exact ⟨n5.fr,CR.mk [(.slice a24 g.n c24,relM g 8),(.slice a21 g.n c21,relM g 7)] n5.row (ra_cons (RA.fr (dZ11.fr f4) n5.fr) (ra_cons (RA.fr (dZ10.fr f4) n5.fr) (ra_nil))) (by simp)⟩
  ·try simp -dsimp only [go_sem,r1.cell,r2.cell,rY9.cell,rY10.cell,rY11.cell,rY14.cell,rY4.cell,rY25.cell,rY24.cell]
   refine call_of (ref11_any a13) ?_
   rintro v h5 ⟨f5,-,w⟩
   simp -dsimp only [go_sem,tRR_eq]
   exact ⟨f5,w (by simp)⟩
  ·obtain ⟨x14,y14,e14⟩:=((ra_of a14)).is
   rw [e14] at a14
   try simp -dsimp only [go_sem,e14]
   intro b5 h5 n5
   try simp -dsimp only [go_sem] at n5
   simp -dsimp only [go_sem,tCR_eq]
   exact ⟨n5.fr,CR.mk [(.slice x14 g.n y14,(oM g.n (relM g 8) [relM g 7])),(.slice a70 g.n c70,coiM g)] n5.row (ra_cons (RA.fr (ra_of a14) n5.fr) (ra_cons (RA.fr (dZ25.fr f4) n5.fr) (ra_nil))) (by simp)⟩
  ·try simp -dsimp only [go_sem,r1.cell,r2.cell,rY9.cell,rY10.cell,rY11.cell,rY14.cell,rY4.cell,rY25.cell,rY24.cell]
   refine call_of (ref11_seq a16) ?_
   rintro v h5 ⟨f5,w⟩
   simp -dsimp only [go_sem,tRA_eq]
   exact ⟨f5,w⟩
  ·try simp -dsimp only [go_sem,r1.cell,r2.cell,rY9.cell,rY10.cell,rY11.cell,rY14.cell,rY4.cell,rY25.cell,rY24.cell]
   intro b5 h5 n5
   try simp -dsimp only [go_sem] at n5
   simp -dsimp only [go_sem,tCR_eq]
   exact ⟨n5.fr,CR.mk [(.slice a18 g.n c18,relM g 6),(.slice a21 g.n c21,relM g 7)] n5.row (ra_cons (RA.fr (dZ9.fr f4) n5.fr) (ra_cons (RA.fr (dZ10.fr f4) n5.fr) (ra_nil))) (by simp)⟩
  ·try simp -dsimp only [go_sem,r1.cell,r2.cell,rY9.cell,rY10.cell,rY11.cell,rY14.cell,rY4.cell,rY25.cell,rY24.cell]
   refine call_of (ref11_any a20) ?_
   rintro v h5 ⟨f5,-,w⟩
   simp -dsimp only [go_sem,tRR_eq]
   exact ⟨f5,w (by simp)⟩
  ·obtain ⟨x21,y21,e21⟩:=((ra_of a21)).is
   rw [e21] at a21
   try simp -dsimp only [go_sem,e21]
   intro b5 h5 n5
   try simp -dsimp only [go_sem] at n5
   simp -dsimp only [go_sem,tCR_eq]
   exact ⟨n5.fr,CR.mk [(.slice x21 g.n y21,(oM g.n (relM g 6) [relM g 7])),(.slice a67 g.n c67,rfiM g)] n5.row (ra_cons (RA.fr (ra_of a21) n5.fr) (ra_cons (RA.fr (dZ24.fr f4) n5.fr) (ra_nil))) (by simp)⟩
  ·try simp -dsimp only [go_sem,r1.cell,r2.cell,rY9.cell,rY10.cell,rY11.cell,rY14.cell,rY4.cell,rY25.cell,rY24.cell]
   refine call_of (ref11_seq a23) ?_
   rintro v h5 ⟨f5,w⟩
   simp -dsimp only [go_sem,tRA_eq]
   exact ⟨f5,w⟩
  ·obtain ⟨x5,y5,e5⟩:=((id a5)).is
   rw [e5] at a5
   obtain ⟨x10,y10,e10⟩:=((id a10)).is
   rw [e10] at a10
   obtain ⟨x17,y17,e17⟩:=((id a17)).is
   rw [e17] at a17
   obtain ⟨x24,y24,e24⟩:=((id a24)).is
   rw [e24] at a24
   try simp -dsimp only [go_sem,e5,e10,e17,e24]
   intro b5 h5 n5
   try simp -dsimp only [go_sem] at n5
   simp -dsimp only [go_sem,tCR_eq]
   exact ⟨n5.fr,CR.mk [(.slice a18 g.n c18,relM g 6),(.slice a21 g.n c21,relM g 7),(.slice x5 g.n y5,(chM g.n (relM g 8) [dM (isK g 2)])),(.slice x10 g.n y10,(chM g.n (relM g 6) [relM g 0,dM (isK g 2)])),(.slice x17 g.n y17,(chM g.n (oM g.n (relM g 8) [relM g 7]) [coiM g])),(.slice x24 g.n y24,(chM g.n (oM g.n (relM g 6) [relM g 7]) [rfiM g]))] n5.row (ra_cons (RA.fr (dZ9.fr f4) n5.fr) (ra_cons (RA.fr (dZ10.fr f4) n5.fr) (ra_cons (RA.fr (id a5) n5.fr) (ra_cons (RA.fr (id a10) n5.fr) (ra_cons (RA.fr (id a17) n5.fr) (ra_cons (RA.fr (id a24) n5.fr) (ra_nil))))))) (by simp)⟩
  ·try simp -dsimp only [go_sem,r1.cell,r2.cell,rY9.cell,rY10.cell,rY11.cell,rY14.cell,rY4.cell,rY25.cell,rY24.cell]
   refine call_of (ref11_any a25) ?_
   rintro v h5 ⟨f5,-,w⟩
   simp -dsimp only [go_sem,tRR_eq]
   exact ⟨f5,w (by simp)⟩
  ·intro b5 h5 n5
   simp -dsimp only [go_sem,tellA_eq]
   exact ⟨n5.fr,n5.at_.symm▸rfl,n5.size,n5.at_▸n5.row⟩
 intro h75 f75 V sep
 have q1:=(sep.at_ (L:=[4,5,9,10,13,14,16,17,20,21,23,24,25,26,27]) rfl).1 27 (by decide)
 have q3:=(sep.at_ (L:=[4,5,9,10,13,14,16,17,20,21,23,24,25,26,27]) rfl).1 26 (by decide)
 have q2:=(sep.at_ (L:=[4,5,9,10,13,14,16,17,20,21,23,24,25,26,27]) rfl).2 26 (by decide) 27 (by decide) (by decide)
 clear sep
 simp -dsimp only [go_sem,tCR_eq,tRR_eq,tRA_eq,tellA_eq]
 intro _ _ _ _ _ _ _ _ _ _ _ _ _ a_26 a_27
 obtain ⟨e_1,z_1,r76⟩:=a_27
 obtain ⟨a75,c75,e_2⟩:=(ra_of a_26).is
 rw [e_2] at a_26
 generalize (V 27).2.1=b76 at *
 generalize (V 26).2.1=l_1 at *
 generalize (V 26).2.2=l_2 at *
 rw [z_1] at q1 q2
 generalize (V 27).1=w_1 at *
 subst e_1
 have f75_z:=f75.size
 replace p0:=p0.F f75
 replace r1:=r1.F f75
 replace r2:=r2.F f75
 replace rY9:=rY9.fr f75 (by omega)
 replace rY10:=rY10.fr f75 (by omega)
 replace rY11:=rY11.fr f75 (by omega)
 replace rY14:=rY14.fr f75 (by omega)
 replace rY4:=rY4.fr f75 (by omega)
 replace rY25:=rY25.fr f75 (by omega)
 replace rY24:=rY24.fr f75 (by omega)
 simp -dsimp only [go_sem,e_2]
 refine Chk_intro (r76.wr (by first | (simp;done) | (simp;omega))) fun h76 s76=>?_
 have s76_z:=s76.size
 replace p0:=p0.F s76.fr
 replace r1:=r1.F s76.fr
 replace r2:=r2.F s76.fr
 replace r76:=s76.row r76
 try simp only [cl_int,cl_bool,cl_slice,cl_ptr,putAt_one,List.set_cons_zero,List.set_cons_succ,ivec_set,brow_upd] at r76
 have dU75:RG (b2+1) h76 (.agg #[.int .i64 g.n,.slice a75 g.n c75]) g.n (dobM g):=RG.congr ⟨_,_,by omega,a_26.fr s76.fr (by omega)⟩ (fun i j hi hj=>ref_dob hi hj)
 replace r76:Rw h76 b76 [.int .i64 g.n,.slice a75 g.n c75]:=r76
 have ab76:Fr 0 0 h74 h76:=f75.fresh s76.fr (by omega)
 replace dE:=VG.cons r76 dU75 (dE.fr ab76)
 replace dK21:=dK21.fr (ab76)
 have g_76:b1<h76.size∧b2<h76.size∧h.size≤h76.size:=by omega
 clear r76 dU75 a_26 e_2 z_1 q1 q2 q3 rY9 dZ9 rY10 dZ10 rY11 dZ11 rY14 dZ14 rY4 dZ4 rY25 dZ25 rY24 dZ24
 obtain ⟨rY24,dW24⟩:=dE.at_ 3 (x:=(b68,.slice a67 g.n c67,rfiM g)) rfl
 have dZ24:=dW24.ra
 replace rY24:Rw _ b68 [.int .i64 g.n,.slice a67 g.n c67]:=rY24
 obtain ⟨rY17,dW17⟩:=dE.at_ 8 (x:=(b45,.slice a44 g.n c44,dM (acqB g))) rfl
 have dZ17:=dW17.ra
 replace rY17:Rw _ b45 [.int .i64 g.n,.slice a44 g.n c44]:=rY17
 simp -dsimp only [go_sem,evs_len,r1.cell,rY24.cell,rY17.cell]
 refine free_intro [(1,[1],tRR g.n (relM g 3)),(4,[4],tRR g.n (dM (lastB g))),(7,[7],tCR g.n [(dM (lastB g)),rfiM g,dM (acqB g)]),(8,[8],tRA g.n (chM g.n (dM (lastB g)) [rfiM g,dM (acqB g)])),(9,[9],tCR g.n [(relM g 3),(chM g.n (dM (lastB g)) [rfiM g,dM (acqB g)])]),(10,[10],tRR g.n (oM g.n (relM g 3) [(chM g.n (dM (lastB g)) [rfiM g,dM (acqB g)])])),(11,[11],tellA [.int .i64 0,.slice none 0 0])] ?_ rfl ?_ ?_
 ·exact ⟨stRR _ _,stRR _ _,stCR _ _,stRA _ _,stCR _ _,stRR _ _,stabA _,trivial⟩
 ·simp -dsimp only [go_sem,tCR_eq,tRR_eq,tRA_eq]
  refine ⟨fun h4 f4 V=>?_,fun h4 f4 V a1=>?_,fun h4 f4 V a4=>?_,fun h4 f4 V a7 a4=>?_,fun h4 f4 V a1 a8=>?_,fun h4 f4 V a9 a8=>?_,fun h4 f4 V=>?_⟩
  ·try simp -dsimp only [go_sem,r1.cell,r2.cell,rY24.cell,rY17.cell]
   refine call_of (ref8_Rmw (t.fr (p0.trans f4)) hn) ?_
   rintro v h5 ⟨f5,w⟩
   simp -dsimp only [go_sem,tRR_eq]
   exact ⟨f5,w⟩
  ·try simp -dsimp only [go_sem,r1.cell,r2.cell,rY24.cell,rY17.cell]
   refine call_of (ref1_Ident g.n (dK21.fr f4)) ?_
   rintro v h5 ⟨f5,w⟩
   rw [hcl] at w
   simp -dsimp only [go_sem,tRR_eq]
   exact ⟨f5,w.congr (id2 fun i hi=>hat i hi)⟩
  ·obtain ⟨x4,y4,e4⟩:=((ra_of a4)).is
   rw [e4] at a4
   try simp -dsimp only [go_sem,e4]
   intro b5 h5 n5
   try simp -dsimp only [go_sem] at n5
   simp -dsimp only [go_sem,tCR_eq]
   exact ⟨n5.fr,CR.mk [(.slice x4 g.n y4,(dM (lastB g))),(.slice a67 g.n c67,rfiM g),(.slice a44 g.n c44,dM (acqB g))] n5.row (ra_cons (RA.fr (ra_of a4) n5.fr) (ra_cons (RA.fr (dZ24.fr f4) n5.fr) (ra_cons (RA.fr (dZ17.fr f4) n5.fr) (ra_nil)))) (by simp)⟩
  ·try simp -dsimp only [go_sem,r1.cell,r2.cell,rY24.cell,rY17.cell]
   refine call_of (ref11_seq a7) ?_
   rintro v h5 ⟨f5,w⟩
   simp -dsimp only [go_sem,tRA_eq]
   exact ⟨f5,w⟩
  ·obtain ⟨x1,y1,e1⟩:=((ra_of a1)).is
   rw [e1] at a1
   obtain ⟨x8,y8,e8⟩:=((id a8)).is
   rw [e8] at a8
   try simp -dsimp only [go_sem,e1,e8]
   intro b5 h5 n5
   try simp -dsimp only [go_sem] at n5
   simp -dsimp only [go_sem,tCR_eq]
   exact ⟨n5.fr,CR.mk [(.slice x1 g.n y1,(relM g 3)),(.slice x8 g.n y8,(chM g.n (dM (lastB g)) [rfiM g,dM (acqB g)]))] n5.row (ra_cons (RA.fr (ra_of a1) n5.fr) (ra_cons (RA.fr (id a8) n5.fr) (ra_nil))) (by simp)⟩
  ·try simp -dsimp only [go_sem,r1.cell,r2.cell,rY24.cell,rY17.cell]
   refine call_of (ref11_any a9) ?_
   rintro v h5 ⟨f5,-,w⟩
   simp -dsimp only [go_sem,tRR_eq]
   exact ⟨f5,w (by simp)⟩
  ·intro b5 h5 n5
   simp -dsimp only [go_sem,tellA_eq]
   exact ⟨n5.fr,n5.at_.symm▸rfl,n5.size,n5.at_▸n5.row⟩
 intro h77 f77 V sep
 have q1:=(sep.at_ (L:=[1,4,7,8,9,10,11]) rfl).1 11 (by decide)
 have q3:=(sep.at_ (L:=[1,4,7,8,9,10,11]) rfl).1 10 (by decide)
 have q2:=(sep.at_ (L:=[1,4,7,8,9,10,11]) rfl).2 10 (by decide) 11 (by decide) (by decide)
 clear sep
 simp -dsimp only [go_sem,tCR_eq,tRR_eq,tRA_eq,tellA_eq]
 intro _ _ _ _ _ a_10 a_11
 obtain ⟨e_1,z_1,r78⟩:=a_11
 obtain ⟨a77,c77,e_2⟩:=(ra_of a_10).is
 rw [e_2] at a_10
 generalize (V 11).2.1=b78 at *
 generalize (V 10).2.1=l_1 at *
 generalize (V 10).2.2=l_2 at *
 rw [z_1] at q1 q2
 generalize (V 11).1=w_1 at *
 subst e_1
 have f77_z:=f77.size
 replace p0:=p0.F f77
 replace r1:=r1.F f77
 replace r2:=r2.F f77
 replace rY24:=rY24.fr f77 (by omega)
 replace rY17:=rY17.fr f77 (by omega)
 simp -dsimp only [go_sem,e_2]
 refine Chk_intro (r78.wr (by first | (simp;done) | (simp;omega))) fun h78 s78=>?_
 have s78_z:=s78.size
 replace p0:=p0.F s78.fr
 replace r1:=r1.F s78.fr
 replace r2:=r2.F s78.fr
 replace r78:=s78.row r78
 try simp only [cl_int,cl_bool,cl_slice,cl_ptr,putAt_one,List.set_cons_zero,List.set_cons_succ,ivec_set,brow_upd] at r78
 have dU77:RG (b2+1) h78 (.agg #[.int .i64 g.n,.slice a77 g.n c77]) g.n (aobM g):=RG.congr ⟨_,_,by omega,a_10.fr s78.fr (by omega)⟩ (fun i j hi hj=>ref_aob hi hj)
 replace r78:Rw h78 b78 [.int .i64 g.n,.slice a77 g.n c77]:=r78
 have ab78:Fr 0 0 h76 h78:=f77.fresh s78.fr (by omega)
 replace dE:=VG.cons r78 dU77 (dE.fr ab78)
 replace dK21:=dK21.fr (ab78)
 have g_78:b1<h78.size∧b2<h78.size∧h.size≤h78.size:=by omega
 clear r78 dU77 a_10 e_2 z_1 q1 q2 q3 rY24 dZ24 rY17 dZ17
 obtain ⟨rY4,dW4⟩:=dE.at_ 20 (x:=(b4,.slice a3 g.n c3,relM g 0)) rfl
 have dZ4:=dW4.ra
 replace rY4:Rw _ b4 [.int .i64 g.n,.slice a3 g.n c3]:=rY4
 obtain ⟨rY20,dW20⟩:=dE.at_ 6 (x:=(b61,.slice a60 g.n c60,dM (isM g 15))) rfl
 have dZ20:=dW20.ra
 replace rY20:Rw _ b61 [.int .i64 g.n,.slice a60 g.n c60]:=rY20
 obtain ⟨rY15,dW15⟩:=dE.at_ 11 (x:=(b33,.slice a32 g.n c32,dM (isK g 1))) rfl
 have dZ15:=dW15.ra
 replace rY15:Rw _ b33 [.int .i64 g.n,.slice a32 g.n c32]:=rY15
 obtain ⟨rY19,dW19⟩:=dE.at_ 7 (x:=(b56,.slice a55 g.n c55,dM (isM g 14))) rfl
 have dZ19:=dW19.ra
 replace rY19:Rw _ b56 [.int .i64 g.n,.slice a55 g.n c55]:=rY19
 obtain ⟨rY18,dW18⟩:=dE.at_ 8 (x:=(b51,.slice a50 g.n c50,dM (isM g 13))) rfl
 have dZ18:=dW18.ra
 replace rY18:Rw _ b51 [.int .i64 g.n,.slice a50 g.n c50]:=rY18
 obtain ⟨rY16,dW16⟩:=dE.at_ 10 (x:=(b39,.slice a38 g.n c38,dM (isM g 12))) rfl
 have dZ16:=dW16.ra
 replace rY16:Rw _ b39 [.int .i64 g.n,.slice a38 g.n c38]:=rY16
 obtain ⟨rY17,dW17⟩:=dE.at_ 9 (x:=(b45,.slice a44 g.n c44,dM (acqB g))) rfl
 have dZ17:=dW17.ra
 replace rY17:Rw _ b45 [.int .i64 g.n,.slice a44 g.n c44]:=rY17
 obtain ⟨rY25,dW25⟩:=dE.at_ 3 (x:=(b71,.slice a70 g.n c70,coiM g)) rfl
 have dZ25:=dW25.ra
 replace rY25:Rw _ b71 [.int .i64 g.n,.slice a70 g.n c70]:=rY25
 simp -dsimp only [go_sem,rY4.cell,rY20.cell,rY15.cell,rY19.cell,rY18.cell,rY16.cell,rY17.cell,rY25.cell]
 refine free_intro [(3,[3],tCR g.n [relM g 0,dM (isM g 15),relM g 0]),(4,[4],tRA g.n (chM g.n (relM g 0) [dM (isM g 15),relM g 0])),(9,[9],tCR g.n [dM (isK g 1),relM g 0,dM (isM g 14),relM g 0]),(10,[10],tRA g.n (chM g.n (dM (isK g 1)) [relM g 0,dM (isM g 14),relM g 0])),(14,[14],tCR g.n [dM (isM g 13),relM g 0,dM (isM g 12)]),(15,[15],tRA g.n (chM g.n (dM (isM g 13)) [relM g 0,dM (isM g 12)])),(18,[18],tCR g.n [dM (acqB g),relM g 0]),(19,[19],tRA g.n (chM g.n (dM (acqB g)) [relM g 0])),(22,[22],tCR g.n [relM g 0,dM (isM g 13)]),(23,[23],tRA g.n (chM g.n (relM g 0) [dM (isM g 13)])),(27,[27],tCR g.n [relM g 0,dM (isM g 13),coiM g]),(28,[28],tRA g.n (chM g.n (relM g 0) [dM (isM g 13),coiM g])),(29,[29],tCR g.n [(chM g.n (relM g 0) [dM (isM g 15),relM g 0]),(chM g.n (dM (isK g 1)) [relM g 0,dM (isM g 14),relM g 0]),(chM g.n (dM (isM g 13)) [relM g 0,dM (isM g 12)]),(chM g.n (dM (acqB g)) [relM g 0]),(chM g.n (relM g 0) [dM (isM g 13)]),(chM g.n (relM g 0) [dM (isM g 13),coiM g])]),(30,[30],tRR g.n (oM g.n (chM g.n (relM g 0) [dM (isM g 15),relM g 0]) [(chM g.n (dM (isK g 1)) [relM g 0,dM (isM g 14),relM g 0]),(chM g.n (dM (isM g 13)) [relM g 0,dM (isM g 12)]),(chM g.n (dM (acqB g)) [relM g 0]),(chM g.n (relM g 0) [dM (isM g 13)]),(chM g.n (relM g 0) [dM (isM g 13),coiM g])])),(31,[31],tellA [.int .i64 0,.slice none 0 0])] ?_ rfl ?_ ?_
 ·exact ⟨stCR _ _,stRA _ _,stCR _ _,stRA _ _,stCR _ _,stRA _ _,stCR _ _,stRA _ _,stCR _ _,stRA _ _,stCR _ _,stRA _ _,stCR _ _,stRR _ _,stabA _,trivial⟩
 ·simp -dsimp only [go_sem,tCR_eq,tRA_eq]
  refine ⟨fun h4 f4 V=>?_,fun h4 f4 V a3=>?_,fun h4 f4 V=>?_,fun h4 f4 V a9 a4=>?_,fun h4 f4 V=>?_,fun h4 f4 V a14 a10=>?_,fun h4 f4 V=>?_,fun h4 f4 V a18 a15=>?_,fun h4 f4 V=>?_,fun h4 f4 V a22 a19=>?_,fun h4 f4 V=>?_,fun h4 f4 V a27 a23=>?_,fun h4 f4 V a4 a10 a15 a19 a23 a28=>?_,fun h4 f4 V a29 a28=>?_,fun h4 f4 V=>?_⟩
  ·try simp -dsimp only [go_sem,r1.cell,r2.cell,rY4.cell,rY20.cell,rY15.cell,rY19.cell,rY18.cell,rY16.cell,rY17.cell,rY25.cell]
   intro b5 h5 n5
   try simp -dsimp only [go_sem] at n5
   simp -dsimp only [go_sem,tCR_eq]
   exact ⟨n5.fr,CR.mk [(.slice a3 g.n c3,relM g 0),(.slice a60 g.n c60,dM (isM g 15)),(.slice a3 g.n c3,relM g 0)] n5.row (ra_cons (RA.fr (dZ4.fr f4) n5.fr) (ra_cons (RA.fr (dZ20.fr f4) n5.fr) (ra_cons (RA.fr (dZ4.fr f4) n5.fr) (ra_nil)))) (by simp)⟩
  ·try simp -dsimp only [go_sem,r1.cell,r2.cell,rY4.cell,rY20.cell,rY15.cell,rY19.cell,rY18.cell,rY16.cell,rY17.cell,rY25.cell]
   refine call_of (ref11_seq a3) ?_
   rintro v h5 ⟨f5,w⟩
   simp -dsimp only [go_sem,tRA_eq]
   exact ⟨f5,w⟩
  ·try simp -dsimp only [go_sem,r1.cell,r2.cell,rY4.cell,rY20.cell,rY15.cell,rY19.cell,rY18.cell,rY16.cell,rY17.cell,rY25.cell]
   intro b5 h5 n5
   try simp -dsimp only [go_sem] at n5
   simp -dsimp only [go_sem,tCR_eq]
   exact ⟨n5.fr,CR.mk [(.slice a32 g.n c32,dM (isK g 1)),(.slice a3 g.n c3,relM g 0),(.slice a55 g.n c55,dM (isM g 14)),(.slice a3 g.n c3,relM g 0)] n5.row (ra_cons (RA.fr (dZ15.fr f4) n5.fr) (ra_cons (RA.fr (dZ4.fr f4) n5.fr) (ra_cons (RA.fr (dZ19.fr f4) n5.fr) (ra_cons (RA.fr (dZ4.fr f4) n5.fr) (ra_nil))))) (by simp)⟩
  ·try simp -dsimp only [go_sem,r1.cell,r2.cell,rY4.cell,rY20.cell,rY15.cell,rY19.cell,rY18.cell,rY16.cell,rY17.cell,rY25.cell]
   refine call_of (ref11_seq a9) ?_
   rintro v h5 ⟨f5,w⟩
   simp -dsimp only [go_sem,tRA_eq]
   exact ⟨f5,w⟩
  ·try simp -dsimp only [go_sem,r1.cell,r2.cell,rY4.cell,rY20.cell,rY15.cell,rY19.cell,rY18.cell,rY16.cell,rY17.cell,rY25.cell]
   intro b5 h5 n5
   try simp -dsimp only [go_sem] at n5
   simp -dsimp only [go_sem,tCR_eq]
   exact ⟨n5.fr,CR.mk [(.slice a50 g.n c50,dM (isM g 13)),(.slice a3 g.n c3,relM g 0),(.slice a38 g.n c38,dM (isM g 12))] n5.row (ra_cons (RA.fr (dZ18.fr f4) n5.fr) (ra_cons (RA.fr (dZ4.fr f4) n5.fr) (ra_cons (RA.fr (dZ16.fr f4) n5.fr) (ra_nil)))) (by simp)⟩
  ·try simp -dsimp only [go_sem,r1.cell,r2.cell,rY4.cell,rY20.cell,rY15.cell,rY19.cell,rY18.cell,rY16.cell,rY17.cell,rY25.cell]
   refine call_of (ref11_seq a14) ?_
   rintro v h5 ⟨f5,w⟩
   simp -dsimp only [go_sem,tRA_eq]
   exact ⟨f5,w⟩
  ·try simp -dsimp only [go_sem,r1.cell,r2.cell,rY4.cell,rY20.cell,rY15.cell,rY19.cell,rY18.cell,rY16.cell,rY17.cell,rY25.cell]
   intro b5 h5 n5
   try simp -dsimp only [go_sem] at n5
   simp -dsimp only [go_sem,tCR_eq]
   exact ⟨n5.fr,CR.mk [(.slice a44 g.n c44,dM (acqB g)),(.slice a3 g.n c3,relM g 0)] n5.row (ra_cons (RA.fr (dZ17.fr f4) n5.fr) (ra_cons (RA.fr (dZ4.fr f4) n5.fr) (ra_nil))) (by simp)⟩
  ·try simp -dsimp only [go_sem,r1.cell,r2.cell,rY4.cell,rY20.cell,rY15.cell,rY19.cell,rY18.cell,rY16.cell,rY17.cell,rY25.cell]
   refine call_of (ref11_seq a18) ?_
   rintro v h5 ⟨f5,w⟩
   simp -dsimp only [go_sem,tRA_eq]
   exact ⟨f5,w⟩
  ·try simp -dsimp only [go_sem,r1.cell,r2.cell,rY4.cell,rY20.cell,rY15.cell,rY19.cell,rY18.cell,rY16.cell,rY17.cell,rY25.cell]
   intro b5 h5 n5
   try simp -dsimp only [go_sem] at n5
   simp -dsimp only [go_sem,tCR_eq]
   exact ⟨n5.fr,CR.mk [(.slice a3 g.n c3,relM g 0),(.slice a50 g.n c50,dM (isM g 13))] n5.row (ra_cons (RA.fr (dZ4.fr f4) n5.fr) (ra_cons (RA.fr (dZ18.fr f4) n5.fr) (ra_nil))) (by simp)⟩
  ·try simp -dsimp only [go_sem,r1.cell,r2.cell,rY4.cell,rY20.cell,rY15.cell,rY19.cell,rY18.cell,rY16.cell,rY17.cell,rY25.cell]
   refine call_of (ref11_seq a22) ?_
   rintro v h5 ⟨f5,w⟩
   simp -dsimp only [go_sem,tRA_eq]
   exact ⟨f5,w⟩
  ·try simp -dsimp only [go_sem,r1.cell,r2.cell,rY4.cell,rY20.cell,rY15.cell,rY19.cell,rY18.cell,rY16.cell,rY17.cell,rY25.cell]
   intro b5 h5 n5
   try simp -dsimp only [go_sem] at n5
   simp -dsimp only [go_sem,tCR_eq]
   exact ⟨n5.fr,CR.mk [(.slice a3 g.n c3,relM g 0),(.slice a50 g.n c50,dM (isM g 13)),(.slice a70 g.n c70,coiM g)] n5.row (ra_cons (RA.fr (dZ4.fr f4) n5.fr) (ra_cons (RA.fr (dZ18.fr f4) n5.fr) (ra_cons (RA.fr (dZ25.fr f4) n5.fr) (ra_nil)))) (by simp)⟩
  ·try simp -dsimp only [go_sem,r1.cell,r2.cell,rY4.cell,rY20.cell,rY15.cell,rY19.cell,rY18.cell,rY16.cell,rY17.cell,rY25.cell]
   refine call_of (ref11_seq a27) ?_
   rintro v h5 ⟨f5,w⟩
   simp -dsimp only [go_sem,tRA_eq]
   exact ⟨f5,w⟩
  ·obtain ⟨x4,y4,e4⟩:=((id a4)).is
   rw [e4] at a4
   obtain ⟨x10,y10,e10⟩:=((id a10)).is
   rw [e10] at a10
   obtain ⟨x15,y15,e15⟩:=((id a15)).is
   rw [e15] at a15
   obtain ⟨x19,y19,e19⟩:=((id a19)).is
   rw [e19] at a19
   obtain ⟨x23,y23,e23⟩:=((id a23)).is
   rw [e23] at a23
   obtain ⟨x28,y28,e28⟩:=((id a28)).is
   rw [e28] at a28
   try simp -dsimp only [go_sem,e4,e10,e15,e19,e23,e28]
   intro b5 h5 n5
   try simp -dsimp only [go_sem] at n5
   simp -dsimp only [go_sem,tCR_eq]
   exact ⟨n5.fr,CR.mk [(.slice x4 g.n y4,(chM g.n (relM g 0) [dM (isM g 15),relM g 0])),(.slice x10 g.n y10,(chM g.n (dM (isK g 1)) [relM g 0,dM (isM g 14),relM g 0])),(.slice x15 g.n y15,(chM g.n (dM (isM g 13)) [relM g 0,dM (isM g 12)])),(.slice x19 g.n y19,(chM g.n (dM (acqB g)) [relM g 0])),(.slice x23 g.n y23,(chM g.n (relM g 0) [dM (isM g 13)])),(.slice x28 g.n y28,(chM g.n (relM g 0) [dM (isM g 13),coiM g]))] n5.row (ra_cons (RA.fr (id a4) n5.fr) (ra_cons (RA.fr (id a10) n5.fr) (ra_cons (RA.fr (id a15) n5.fr) (ra_cons (RA.fr (id a19) n5.fr) (ra_cons (RA.fr (id a23) n5.fr) (ra_cons (RA.fr (id a28) n5.fr) (ra_nil))))))) (by simp)⟩
  ·try simp -dsimp only [go_sem,r1.cell,r2.cell,rY4.cell,rY20.cell,rY15.cell,rY19.cell,rY18.cell,rY16.cell,rY17.cell,rY25.cell]
   refine call_of (ref11_any a29) ?_
   rintro v h5 ⟨f5,-,w⟩
   simp -dsimp only [go_sem,tRR_eq]
   exact ⟨f5,w (by simp)⟩
  ·intro b5 h5 n5
   simp -dsimp only [go_sem,tellA_eq]
   exact ⟨n5.fr,n5.at_.symm▸rfl,n5.size,n5.at_▸n5.row⟩
 intro h79 f79 V sep
 have q1:=(sep.at_ (L:=[3,4,9,10,14,15,18,19,22,23,27,28,29,30,31]) rfl).1 31 (by decide)
 have q3:=(sep.at_ (L:=[3,4,9,10,14,15,18,19,22,23,27,28,29,30,31]) rfl).1 30 (by decide)
 have q2:=(sep.at_ (L:=[3,4,9,10,14,15,18,19,22,23,27,28,29,30,31]) rfl).2 30 (by decide) 31 (by decide) (by decide)
 clear sep
 simp -dsimp only [go_sem,tCR_eq,tRR_eq,tRA_eq,tellA_eq]
 intro _ _ _ _ _ _ _ _ _ _ _ _ _ a_30 a_31
 obtain ⟨e_1,z_1,r80⟩:=a_31
 obtain ⟨a79,c79,e_2⟩:=(ra_of a_30).is
 rw [e_2] at a_30
 generalize (V 31).2.1=b80 at *
 generalize (V 30).2.1=l_1 at *
 generalize (V 30).2.2=l_2 at *
 rw [z_1] at q1 q2
 generalize (V 31).1=w_1 at *
 subst e_1
 have f79_z:=f79.size
 replace p0:=p0.F f79
 replace r1:=r1.F f79
 replace r2:=r2.F f79
 replace rY4:=rY4.fr f79 (by omega)
 replace rY20:=rY20.fr f79 (by omega)
 replace rY15:=rY15.fr f79 (by omega)
 replace rY19:=rY19.fr f79 (by omega)
 replace rY18:=rY18.fr f79 (by omega)
 replace rY16:=rY16.fr f79 (by omega)
 replace rY17:=rY17.fr f79 (by omega)
 replace rY25:=rY25.fr f79 (by omega)
 simp -dsimp only [go_sem,e_2]
 refine Chk_intro (r80.wr (by first | (simp;done) | (simp;omega))) fun h80 s80=>?_
 have s80_z:=s80.size
 replace p0:=p0.F s80.fr
 replace r1:=r1.F s80.fr
 replace r2:=r2.F s80.fr
 replace r80:=s80.row r80
 try simp only [cl_int,cl_bool,cl_slice,cl_ptr,putAt_one,List.set_cons_zero,List.set_cons_succ,ivec_set,brow_upd] at r80
 have dU79:RG (b2+1) h80 (.agg #[.int .i64 g.n,.slice a79 g.n c79]) g.n (bobM g):=RG.congr ⟨_,_,by omega,a_30.fr s80.fr (by omega)⟩ (fun i j hi hj=>ref_bob hi hj)
 replace r80:Rw h80 b80 [.int .i64 g.n,.slice a79 g.n c79]:=r80
 have ab80:Fr 0 0 h78 h80:=f79.fresh s80.fr (by omega)
 replace dE:=VG.cons r80 dU79 (dE.fr ab80)
 replace dK21:=dK21.fr (ab80)
 have g_80:b1<h80.size∧b2<h80.size∧h.size≤h80.size:=by omega
 clear r80 dU79 a_30 e_2 z_1 q1 q2 q3 rY4 dZ4 rY20 dZ20 rY15 dZ15 rY19 dZ19 rY18 dZ18 rY16 dZ16 rY17 dZ17 rY25 dZ25
 obtain ⟨rY26,dW26⟩:=dE.at_ 3 (x:=(b74,.slice a73 g.n c73,obsM g)) rfl
 have dZ26:=dW26.ra
 replace rY26:Rw _ b74 [.int .i64 g.n,.slice a73 g.n c73]:=rY26
 obtain ⟨rY27,dW27⟩:=dE.at_ 2 (x:=(b76,.slice a75 g.n c75,dobM g)) rfl
 have dZ27:=dW27.ra
 replace rY27:Rw _ b76 [.int .i64 g.n,.slice a75 g.n c75]:=rY27
 obtain ⟨rY28,dW28⟩:=dE.at_ 1 (x:=(b78,.slice a77 g.n c77,aobM g)) rfl
 have dZ28:=dW28.ra
 replace rY28:Rw _ b78 [.int .i64 g.n,.slice a77 g.n c77]:=rY28
 obtain ⟨rY29,dW29⟩:=dE.at_ 0 (x:=(b80,.slice a79 g.n c79,bobM g)) rfl
 have dZ29:=dW29.ra
 replace rY29:Rw _ b80 [.int .i64 g.n,.slice a79 g.n c79]:=rY29
 simp -dsimp only [go_sem,rY26.cell,rY27.cell,rY28.cell,rY29.cell]
 intro b90 h90 n90
 have n90_a:=n90.at_
 have n90_z:=n90.size
 replace p0:=p0.F n90.f0
 replace r1:=r1.F n90.f0
 replace r2:=r2.F n90.f0
 replace rY26:=rY26.fr n90.f0 (by omega)
 replace dW26:=dW26.fr n90.f0
 replace rY27:=rY27.fr n90.f0 (by omega)
 replace dW27:=dW27.fr n90.f0
 replace rY28:=rY28.fr n90.f0 (by omega)
 replace dW28:=dW28.fr n90.f0
 replace rY29:=rY29.fr n90.f0 (by omega)
 replace dW29:=dW29.fr n90.f0
 have r90:=n90.row
 simp -dsimp only [go_sem]
 refine call_of (ref11_any (CR.mk [(.slice a73 g.n c73,obsM g),(.slice a75 g.n c75,dobM g),(.slice a77 g.n c77,aobM g),(.slice a79 g.n c79,bobM g)] r90 (ra_cons dW26.ra (ra_cons dW27.ra (ra_cons dW28.ra (ra_cons dW29.ra ra_nil)))) (by simp))) ?_
 rintro v91 h91 ⟨f91,-,u91⟩
 replace u91:=u91 (by simp)
 have f91_z:=f91.size
 replace p0:=p0.F f91
 replace r1:=r1.F f91
 replace r2:=r2.F f91
 replace rY26:=rY26.fr f91 (by omega)
 replace dW26:=dW26.fr f91
 replace rY27:=rY27.fr f91 (by omega)
 replace dW27:=dW27.fr f91
 replace rY28:=rY28.fr f91 (by omega)
 replace dW28:=dW28.fr f91
 replace rY29:=rY29.fr f91 (by omega)
 replace dW29:=dW29.fr f91
 obtain ⟨a91,c91,rfl⟩:=(ra_of u91).is
 simp -dsimp only [go_sem,rY26.cell,rY27.cell,rY28.cell,rY29.cell]
 refine Chk_intro (r2.wr (by first | (simp;done) | (simp;omega))) fun h92 s92=>?_
 have s92_z:=s92.size
 replace p0:=p0.F s92.fr
 replace r1:=r1.F s92.fr
 replace dW26:=dW26.fr s92.fr
 replace dW27:=dW27.fr s92.fr
 replace dW28:=dW28.fr s92.fr
 replace dW29:=dW29.fr s92.fr
 replace r2:=s92.row r2
 try simp only [cl_int,cl_bool,cl_slice,cl_ptr,putAt_one,List.set_cons_zero,List.set_cons_succ,ivec_set,brow_upd] at r2
 replace r2:Rw h92 b2 [.int .i64 g.n,.slice a73 g.n c73,.int .i64 g.n,.slice a75 g.n c75,.int .i64 g.n,.slice a77 g.n c77,.int .i64 g.n,.slice a79 g.n c79,.int .i64 g.n,.slice a91 g.n c91]:=r2
 simp -dsimp only [go_sem]
 refine withC_of [.int .i64 g.n,.slice a73 g.n c73,.int .i64 g.n,.slice a75 g.n c75,.int .i64 g.n,.slice a77 g.n c77,.int .i64 g.n,.slice a79 g.n c79,.int .i64 g.n,.slice a91 g.n c91] 0 (fun j x hj=>by rw [r2.cell,Nat.zero_add];exact hj) ?_
 exact ⟨p0,_,_,_,_,_,rfl,dW26.lower (by omega),dW27.lower (by omega),dW28.lower (by omega),dW29.lower (by omega),RG.congr ⟨_,_,by omega,u91.fr s92.fr (by omega)⟩ fun i j hi hj=>by rw [oM_in hi hj];simp [obM,Bool.or_assoc]⟩
end Go.Proofs.Tst
