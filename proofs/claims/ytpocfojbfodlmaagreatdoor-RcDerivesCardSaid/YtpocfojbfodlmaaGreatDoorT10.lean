/-
  Contracts of functions that the law reaches: what each returns and what it leaves in memory. Conditions stand in each.
-/
import Derived.Test.YtpocfojbfodlmaaGreatDoorT9
set_option linter.all false
set_option maxRecDepth 2000
/-
  law10: two, says, buffering, passing, fenced.
-/
namespace Go.Proofs.Tst
open Go Go.Vc
theorem cohGo_len {g:Gr} {a:Nat}:∀ (d b:Nat),(cohGo g a d b).length≤2
 | 0,_=>by simp [cohGo]
 | d+1,b=>by
  rw [cohGo];split
  ·simp
  ·exact cohGo_len d (b+1)
theorem cohAt_len {g:Gr} {a:Nat}:(cohAt g a).length≤2:=by
 unfold cohAt;split
 ·simp
 ·exact cohGo_len _ _
theorem cohFrom_len {g:Gr}:∀ (d a:Nat),(cohFrom g d a).length≤2
 | 0,_=>by simp [cohFrom]
 | d+1,a=>by
  rw [cohFrom];split
  ·exact cohAt_len
  ·exact cohFrom_len d (a+1)
theorem rcAx_len {g:Gr}:(rcAx g).2.length≤g.n+2:=by
 have h0:=cohFrom_len (g:=g) g.n 0
 have h1:=cycS_len (n:=g.n) (M:=pscM g)
 have h2:=cycS_len (n:=g.n) (M:=thinM g)
 have h3:(atomS g).length≤2:=by unfold atomS;split <;> simp
 unfold rcAx
 split
 ·show (coh g).length≤_;unfold coh;omega
 split
 ·show (atomS g).length≤_;omega
 split
 ·simp [natsI];omega
 split
 ·simp [natsI];omega
 ·simp
theorem c_law10_says {h:Heap} {q:GV} {g:Gr} (t:GrAt h q g) (ht:TabAt h) {bv:Value} {l:List Int} (hm:Rd 1 h bv l.length (intsV l)) (ax:Int) :
  Con Tryz.prog 25 #[.agg (gcells q g).toArray,.int .i64 ax,bv] h fun v h'=>Fr 0 0 h h'∧v=.bool (decide ((g.check false).1=0∧rcAx g=(ax,l))):=by
 have p0:Fr 0 0 h h:=.refl _ _ _
 obtain ⟨ba,bc,rfl⟩:=hm.is
 by_cases hc:(g.check false).1=0
 rotate_left
 ·have e:decide ((g.check false).1=0∧rcAx g=(ax,l))=false:=decide_eq_false fun h=>hc h.1
  rw [e]
  refine con_q22 ?_
  unfold gcells
  simp -dsimp only [go_sem]
  intro b1 h1 n1
  have n1_a:=n1.at_
  have n1_z:=n1.size
  replace p0:=p0.F n1.f0
  have r1:=n1.row
  simp -dsimp only [go_sem,r1.cell]
  refine call_of (rc11_Check (t.fr p0) (ht.fr p0 (.inr rfl))) ?_
  rintro v2 h2 ⟨f2,w⟩
  have f2_z:=f2.size
  replace p0:=p0.F f2
  replace r1:=r1.F f2
  rw [if_neg hc] at w
  subst w
  simp -dsimp only [go_sem]
  exact p0
 have hn:=(good_n (good_false hc)).1
 have hal:=rcAx_len (g:=g)
 refine con_q22 ?_
 unfold gcells
 simp -dsimp only [go_sem]
 intro b1 h1 n1
 have n1_a:=n1.at_
 have n1_z:=n1.size
 replace p0:=p0.F n1.f0
 have r1:=n1.row
 simp -dsimp only [go_sem,r1.cell]
 refine call_of (rc11_Check (t.fr p0) (ht.fr p0 (.inr rfl))) ?_
 rintro v2 h2 ⟨f2,w⟩
 have f2_z:=f2.size
 replace p0:=p0.F f2
 replace r1:=r1.F f2
 rw [if_pos hc] at w
 obtain ⟨w,rfl,o⟩:=w
 obtain ⟨oa,oc,rfl⟩:=o.is
 by_cases ha:(rcAx g).1=ax
 rotate_left
 ·have e:decide ((g.check false).1=0∧rcAx g=(ax,l))=false:=decide_eq_false fun h=>ha (by rw [h.2])
  rw [e]
  simp -dsimp only [go_sem,beq_f ha]
  exact p0
 simp -dsimp only [go_sem,beq_t ha]
 refine call_of (c_law10_ints (l:=(rcAx g).2) (m:=l) o.rd (hm.fr p0) (by omega)) ?_
 rintro v3 h2 ⟨rfl,rfl⟩
 have e:decide ((rcAx g).2=l)=decide ((g.check false).1=0∧rcAx g=(ax,l)):=by
  rw [Bool.eq_iff_iff,decide_eq_true_iff,decide_eq_true_iff]
  exact ⟨fun h=>⟨hc,Prod.ext ha h⟩,fun h=>by rw [h.2]⟩
 rw [e]
 simp -dsimp only [go_sem]
 exact p0
theorem c_law10_ev (a b c:Int) (d:Int) (m:Int) {h:Heap}:Con Tryz.prog 75 #[.int .i64 a,.int .i64 b,.int .i64 c,.int .u64 d,.int .i64 m] h fun v h'=>Fr 0 0 h h'∧v=.agg #[.int .i64 a,.int .i64 b,.int .i64 c,.int .u64 d,.int .i64 m]:=by
 refine con_q16 ?_
 have p0:Fr 0 0 h h:=.refl _ _ _
 simp -dsimp only [go_sem]
 intro b1 h1 n1
 have n1_z:=n1.az
 replace p0:=p0.F n1.f0
 have r1:=n1.row
 simp -dsimp only [go_sem]
 refine Chk_intro (r1.W) fun h2 s2=>?_
 have s2_z:=s2.size
 replace p0:=p0.F s2.fr
 replace r1:=s2.row r1
 try simp only [cl_int,cl_bool,cl_slice,cl_ptr,putAt_one,zs0,zs1,ivec_set,brow_upd] at r1
 try simp -dsimp only [go_sem] at r1
 simp -dsimp only [go_sem,r1.cell]
 exact p0
set_option maxHeartbeats 2000000 in
theorem c_law10_two {h:Heap} {ea fa xa ya:Option Addr} {ec fc xc yc:Nat} {E:List Ev} {rf:List (Int×Int)} {x y:List Int} {lo:Nat} (hlo:lo≤h.size) (he:Rd 5 h (.slice ea E.length ec) E.length (evsV E)) (hf:∀ h',Fr 0 lo h h'→Rd 2 h' (.slice fa rf.length fc) rf.length (pairsV rf)) (hx:Rd 1 h (.slice xa x.length xc) x.length (intsV x)) (hy:Rd 1 h (.slice ya y.length yc) y.length (intsV y))
  (be:E.length≤1000) (bf:rf.length≤1000) (bx:x.length≤1000) (by_:y.length≤1000) :
  Con Tryz.prog 74 #[.slice ea E.length ec,.slice fa rf.length fc,.slice xa x.length xc,.slice ya y.length yc] h fun v h'=>Fr 0 0 h h'∧∃ q,v=.agg (gcells q (twoG 1 E rf x y)).toArray∧∀ h2,Fr 0 lo h' h2→GrAt h2 q (twoG 1 E rf x y):=by
 refine con_q23 ?_
 have p0:Fr 0 0 h h:=.refl _ _ _
 simp -dsimp only [go_sem]
 intro b8 h1 n1
 have n1_z:=n1.az
 replace p0:=p0.F n1.f0
 have r8:=n1.row
 simp -dsimp only [go_sem]
 refine call_of (c_law10_ev (-1) 2 0 0 1) ?_
 rintro v2 h2 ⟨f2,rfl⟩
 have f2_z:=f2.size
 replace p0:=p0.F f2
 replace r8:=r8.F f2
 simp -dsimp only [go_sem]
 refine call_of (c_law10_ev (-1) 2 1 0 1) ?_
 rintro v3 h3 ⟨f3,rfl⟩
 have f3_z:=f3.size
 replace p0:=p0.F f3
 replace r8:=r8.F f3
 simp -dsimp only [go_sem]
 intro b14 h4 n4
 have n4_z:=n4.az
 replace p0:=p0.F n4.f0
 replace r8:=r8.F n4.f0
 have r14:=n4.row
 replace r14:Rw h4 b14 (evsV [⟨-1,2,0,0,1⟩,⟨-1,2,1,0,1⟩]):=r14
 simp -dsimp only [go_sem]
 intro b9 h5 n5
 have n5_z:=n5.az
 replace p0:=p0.F n5.f0
 replace r8:=r8.F n5.f0
 replace r14:=r14.F n5.f0
 have r9:=n5.row
 simp -dsimp only [go_sem]
 refine Chk_intro (r9.W) fun h6 s6=>?_
 have s6_z:=s6.size
 replace p0:=p0.F s6.fr
 replace r8:=r8.F s6.fr
 replace r14:=r14.F s6.fr
 replace r9:=s6.row r9
 try simp only [cl_int,cl_bool,cl_slice,cl_ptr,putAt_one,zs0,zs1,ivec_set,brow_upd] at r9
 try simp -dsimp only [go_sem] at r9
 have gb:b8<b14∧b14<b9∧b9<h6.size∧h.size≤b8:=by omega
 simp -dsimp only [go_sem,r9.cell]
 refine (holder_row (s:=5) (n:=2) (lo:=b14) r14 rfl (Nat.le_refl _)).appendRd (he.fr p0) (by omega) rfl (by omega) (oc_evs _) (by omega) fun v7 h7 o7 f7 e7=>?_
 have lb:bl (.slice (some ⟨b14,0,none⟩) 2 2)=b14∧bh (.slice (some ⟨b14,0,none⟩) 2 2)=b14+1:=⟨rfl,rfl⟩
 rw [lb.1,lb.2] at f7
 clear r14
 have z7:=f7.size
 have f7_z:=f7.size
 replace p0:=p0.F f7
 replace r8:=r8.F f7
 replace r9:=r9.F f7
 rw [← evsV_append] at o7
 obtain ⟨a7,c7,rfl⟩:=o7.is
 have a7_a:=o7.at_
 have e7':=e7
 clear e7
 simp -dsimp only [go_sem]
 refine Chk_intro (r9.W) fun h8 s8=>?_
 have s8_z:=s8.size
 replace p0:=p0.F s8.fr
 replace r8:=r8.F s8.fr
 replace r9:=s8.row r9
 try simp only [cl_slice,putAt_one,zs0,zs1] at r9
 replace o7:=o7.fr s8.fr (by omega)
 simp -dsimp only [go_sem]
 intro b10 h9 n9
 have n9_z:=n9.az
 replace p0:=p0.F n9.f0
 replace r8:=r8.F n9.f0
 replace r9:=r9.F n9.f0
 have r10:=n9.row
 replace r10:Rw h9 b10 (intsV [0]):=r10
 replace o7:=o7.fr n9.f0 (by omega)
 simp -dsimp only [go_sem]
 have p9:Fr 0 0 h8 h9:=n9.fr
 refine (holder_row (s:=1) (n:=1) (lo:=b10) r10 rfl (Nat.le_refl _)).appendRd (hx.fr p0) (by omega) rfl (by omega) (oc_ints _) (by omega) fun v10 h10 o10 f10 e10=>?_
 have lb:bl (.slice (some ⟨b10,0,none⟩) 1 1)=b10∧bh (.slice (some ⟨b10,0,none⟩) 1 1)=b10+1:=⟨rfl,rfl⟩
 rw [lb.1,lb.2] at f10
 clear r10
 have z10:=f10.size
 have f10_z:=f10.size
 replace p0:=p0.F f10
 replace r8:=r8.F f10
 replace r9:=r9.F f10
 have o7t:=o7.top
 replace o7:=o7.fr f10 (by omega)
 rw [← intsV_append] at o10
 obtain ⟨a10,c10,rfl⟩:=o10.is
 have a10_a:=o10.at_
 clear e10
 simp -dsimp only [go_sem]
 intro b11 h11 n11
 have n11_z:=n11.az
 replace p0:=p0.F n11.f0
 replace r8:=r8.F n11.f0
 replace r9:=r9.F n11.f0
 have r11:=n11.row
 replace r11:Rw h11 b11 (intsV [1]):=r11
 replace o7:=o7.fr n11.f0 (by omega)
 have o10t:=o10.top
 replace o10:=o10.fr n11.f0 (by omega)
 simp -dsimp only [go_sem]
 refine (holder_row (s:=1) (n:=1) (lo:=b11) r11 rfl (Nat.le_refl _)).appendRd (hy.fr p0) (by omega) rfl (by omega) (oc_ints _) (by omega) fun v12 h12 o12 f12 e12=>?_
 have lb:bl (.slice (some ⟨b11,0,none⟩) 1 1)=b11∧bh (.slice (some ⟨b11,0,none⟩) 1 1)=b11+1:=⟨rfl,rfl⟩
 rw [lb.1,lb.2] at f12
 clear r11
 have z12:=f12.size
 have f12_z:=f12.size
 replace p0:=p0.F f12
 replace r8:=r8.F f12
 replace r9:=r9.F f12
 have o7t:=o7.top
 replace o7:=o7.fr f12 (by omega)
 replace o10:=o10.fr f12 (by omega)
 rw [← intsV_append] at o12
 obtain ⟨a12,c12,rfl⟩:=o12.is
 have a12_a:=o12.at_
 clear e12
 simp -dsimp only [go_sem]
 intro b13 h13 n13
 have n13_z:=n13.az
 replace p0:=p0.F n13.f0
 replace r8:=r8.F n13.f0
 replace r9:=r9.F n13.f0
 have r13:=n13.row
 try simp -dsimp only [go_sem] at r13
 replace o7:=o7.fr n13.f0 (by omega)
 replace o10:=o10.fr n13.f0 (by omega)
 replace o12:=o12.fr n13.f0 (by omega)
 simp -dsimp only [go_sem]
 refine Chk_intro (r9.W) fun h14 s14=>?_
 have s14_z:=s14.size
 replace p0:=p0.F s14.fr
 replace r8:=r8.F s14.fr
 replace r13:=r13.F s14.fr
 replace r9:=s14.row r9
 try simp only [cl_slice,putAt_one,zs0,zs1] at r9
 try simp -dsimp only [go_sem] at r9
 have z14:=s14.size
 replace o7:=o7.fr s14.fr (by omega)
 replace o10:=o10.fr s14.fr (by omega)
 replace o12:=o12.fr s14.fr (by omega)
 simp -dsimp only [go_sem,r9.cell]
 refine Chk_intro (r8.W) fun h15 s15=>?_
 have s15_z:=s15.size
 replace p0:=p0.F s15.fr
 replace r9:=r9.F s15.fr
 replace r13:=r13.F s15.fr
 replace r8:=s15.row r8
 try simp only [cl_int,cl_bool,cl_slice,cl_ptr,putAt_one,zs0,zs1,ivec_set,brow_upd] at r8
 have z15:=s15.size
 replace o7:=o7.fr s15.fr (by omega)
 replace o10:=o10.fr s15.fr (by omega)
 replace o12:=o12.fr s15.fr (by omega)
 simp -dsimp only [go_sem,r8.cell]
 have hl:(twoG 1 E rf x y).evs.length=2+E.length:=by simp [twoG];omega
 have hx2:(intsV ([0]++x)).length=1+x.length:=by simp;omega
 have hy2:(intsV ([1]++y)).length=1+y.length:=by simp;omega
 refine ⟨p0,⟨a7,fa,some ⟨b13,0,none⟩,none,none,none,none,c7,fc,2,0,0,0,0⟩,by unfold gcells;rw [hl];rfl,fun h16 f16=>?_⟩
 replace o7:=o7.fr f16 (by have:=o7.at_;omega)
 replace o10:=o10.fr f16 (by have:=o10.at_;omega)
 replace o12:=o12.fr f16 (by have:=o12.at_;omega)
 replace r13:=r13.F f16
 obtain ⟨u1,v1,k1,k1'⟩:=o10.room (by omega)
 cases k1
 obtain ⟨u2,v2,k2,k2'⟩:=o12.room (by omega)
 cases k2
 have hrl:RLc h16 (.slice (some ⟨b13,0,none⟩) 2 2) [intsV ([0]++x),intsV ([1]++y)]:=by
  refine ⟨_,Rw.rd (s:=1) r13 rfl,fun i l hi=>?_⟩
  match i,hi with
  | 0,hi =>
   cases hi
   exact ⟨_,_,by rw [hx2];rfl,by rw [hx2];exact k1',by rw [hx2];exact o10.rd⟩
  | 1,hi =>
   cases hi
   exact ⟨_,_,by rw [hy2];rfl,by rw [hy2];exact k2',by rw [hy2];exact o12.rd⟩
  | i+2,hi=>simp at hi
 refine ⟨by rw [hl];exact o7.rd,hf _ ((p0.wide (Nat.zero_le _)).trans f16),rlc_rl hrl,nilP,nilP,nilP,nilP,⟨by rw [hl];omega,by show rf.length≤_;omega,by show 2≤_;omega,by show 0≤_;omega,by show 0≤_;omega,by show 0≤_;omega,by show 0≤_;omega,fun l hl=>?_⟩,by show 2≤2;omega,hrl⟩
 have hl:l=[0]++x∨l=[1]++y:=by simpa [twoG] using hl
 rcases hl with rfl | rfl <;> (simp;omega)
theorem c_law10_buffering (w r:Int) {h:Heap}:Con Tryz.prog 26 #[.int .i64 w,.int .i64 r] h fun v h'=>Fr 0 0 h h'∧∃ q,v=.agg (gcells q (bufG 1 w r)).toArray∧GrAt h' q (bufG 1 w r):=by
 refine con_q15 ?_
 have p0:Fr 0 0 h h:=.refl _ _ _
 simp -dsimp only [go_sem]
 intro b4 h1 n1
 have n1_z:=n1.az
 replace p0:=p0.F n1.f0
 have r4:=n1.row
 simp -dsimp only [go_sem]
 refine call_of (c_law10_ev 0 2 0 1 w) ?_
 rintro v h2 ⟨f2,rfl⟩
 have f2_z:=f2.size
 replace p0:=p0.F f2
 replace r4:=r4.F f2
 simp -dsimp only [go_sem]
 refine call_of (c_law10_ev 0 1 1 0 r) ?_
 rintro v h3 ⟨f3,rfl⟩
 have f3_z:=f3.size
 replace p0:=p0.F f3
 replace r4:=r4.F f3
 simp -dsimp only [go_sem]
 refine call_of (c_law10_ev 1 2 1 1 w) ?_
 rintro v h4 ⟨f4,rfl⟩
 have f4_z:=f4.size
 replace p0:=p0.F f4
 replace r4:=r4.F f4
 simp -dsimp only [go_sem]
 refine call_of (c_law10_ev 1 1 0 0 r) ?_
 rintro v h5 ⟨f5,rfl⟩
 have f5_z:=f5.size
 replace p0:=p0.F f5
 replace r4:=r4.F f5
 simp -dsimp only [go_sem]
 intro b6 h6 n6
 have n6_z:=n6.az
 replace p0:=p0.F n6.f0
 replace r4:=r4.F n6.f0
 have r6:=n6.row
 simp -dsimp only [go_sem]
 intro b7 h7 n7
 have n7_z:=n7.az
 replace p0:=p0.F n7.f0
 replace r4:=r4.F n7.f0
 replace r6:=r6.F n7.f0
 have r7:=n7.row
 simp -dsimp only [go_sem]
 intro b8 h8 n8
 have n8_z:=n8.az
 replace p0:=p0.F n8.f0
 replace r4:=r4.F n8.f0
 replace r6:=r6.F n8.f0
 replace r7:=r7.F n8.f0
 have r8:=n8.row
 simp -dsimp only [go_sem]
 intro b9 h9 n9
 have n9_z:=n9.az
 replace p0:=p0.F n9.f0
 replace r4:=r4.F n9.f0
 replace r6:=r6.F n9.f0
 replace r7:=r7.F n9.f0
 replace r8:=r8.F n9.f0
 have r9:=n9.row
 simp -dsimp only [go_sem]
 refine call_of (c_law10_two (E:=bufE w r) (rf:=[(1,3),(0,5)]) (x:=[2]) (y:=[4]) (lo:=b4+1) (by omega) (Rw.rd (s:=5) (n:=4) (c:=4) r6 rfl) (fun h' f=>Rw.rd (s:=2) (n:=2) (c:=2) (r7.fr f (by omega)) rfl) (Rw.rd (s:=1) (n:=1) (c:=1) r8 rfl) (Rw.rd (s:=1) (n:=1) (c:=1) r9 rfl) (Nat.le_of_ble_eq_true rfl) (by simp) (by simp) (by simp)) ?_
 rintro v h10 ⟨f10,q,rfl,t⟩
 have f10_z:=f10.size
 replace p0:=p0.F f10
 replace r4:=r4.F f10
 replace r6:=r6.F f10
 replace r7:=r7.F f10
 replace r8:=r8.F f10
 replace r9:=r9.F f10
 unfold gcells
 simp -dsimp only [go_sem]
 refine Chk_intro (r4.W) fun h11 s11=>?_
 have s11_z:=s11.size
 replace p0:=p0.F s11.fr
 replace r6:=r6.F s11.fr
 replace r7:=r7.F s11.fr
 replace r8:=r8.F s11.fr
 replace r9:=r9.F s11.fr
 replace r4:=s11.row r4
 try simp only [cl_int,cl_bool,cl_slice,cl_ptr,putAt_one,zs0,zs1,ivec_set,brow_upd] at r4
 have t:=t _ (s11.fr.wide (Nat.le_refl _))
 simp -dsimp only [go_sem,r4.cell]
 exact ⟨p0,q,rfl,t⟩
theorem c_law10_passing (w r:Int) {h:Heap}:Con Tryz.prog 24 #[.int .i64 w,.int .i64 r] h fun v h'=>Fr 0 0 h h'∧∃ q,v=.agg (gcells q (pasG 1 w r)).toArray∧GrAt h' q (pasG 1 w r):=by
 refine con_q21 ?_
 have p0:Fr 0 0 h h:=.refl _ _ _
 simp -dsimp only [go_sem]
 intro b4 h1 n1
 have n1_z:=n1.az
 replace p0:=p0.F n1.f0
 have r4:=n1.row
 simp -dsimp only [go_sem]
 refine call_of (c_law10_ev 0 2 0 1 1) ?_
 rintro v h2 ⟨f2,rfl⟩
 have f2_z:=f2.size
 replace p0:=p0.F f2
 replace r4:=r4.F f2
 simp -dsimp only [go_sem]
 refine call_of (c_law10_ev 0 2 1 1 w) ?_
 rintro v h3 ⟨f3,rfl⟩
 have f3_z:=f3.size
 replace p0:=p0.F f3
 replace r4:=r4.F f3
 simp -dsimp only [go_sem]
 refine call_of (c_law10_ev 1 1 1 1 r) ?_
 rintro v h4 ⟨f4,rfl⟩
 have f4_z:=f4.size
 replace p0:=p0.F f4
 replace r4:=r4.F f4
 simp -dsimp only [go_sem]
 refine call_of (c_law10_ev 1 1 0 0 1) ?_
 rintro v h5 ⟨f5,rfl⟩
 have f5_z:=f5.size
 replace p0:=p0.F f5
 replace r4:=r4.F f5
 simp -dsimp only [go_sem]
 intro b6 h6 n6
 have n6_z:=n6.az
 replace p0:=p0.F n6.f0
 replace r4:=r4.F n6.f0
 have r6:=n6.row
 simp -dsimp only [go_sem]
 intro b7 h7 n7
 have n7_z:=n7.az
 replace p0:=p0.F n7.f0
 replace r4:=r4.F n7.f0
 replace r6:=r6.F n7.f0
 have r7:=n7.row
 simp -dsimp only [go_sem]
 intro b8 h8 n8
 have n8_z:=n8.az
 replace p0:=p0.F n8.f0
 replace r4:=r4.F n8.f0
 replace r6:=r6.F n8.f0
 replace r7:=r7.F n8.f0
 have r8:=n8.row
 simp -dsimp only [go_sem]
 intro b9 h9 n9
 have n9_z:=n9.az
 replace p0:=p0.F n9.f0
 replace r4:=r4.F n9.f0
 replace r6:=r6.F n9.f0
 replace r7:=r7.F n9.f0
 replace r8:=r8.F n9.f0
 have r9:=n9.row
 simp -dsimp only [go_sem]
 refine call_of (c_law10_two (E:=pasE 1 w r) (rf:=[(3,4),(0,5)]) (x:=[2]) (y:=[3]) (lo:=b4+1) (by omega) (Rw.rd (s:=5) (n:=4) (c:=4) r6 rfl) (fun h' f=>Rw.rd (s:=2) (n:=2) (c:=2) (r7.fr f (by omega)) rfl) (Rw.rd (s:=1) (n:=1) (c:=1) r8 rfl) (Rw.rd (s:=1) (n:=1) (c:=1) r9 rfl) (Nat.le_of_ble_eq_true rfl) (by simp) (by simp) (by simp)) ?_
 rintro v h10 ⟨f10,q,rfl,t⟩
 have f10_z:=f10.size
 replace p0:=p0.F f10
 replace r4:=r4.F f10
 replace r6:=r6.F f10
 replace r7:=r7.F f10
 replace r8:=r8.F f10
 replace r9:=r9.F f10
 unfold gcells
 simp -dsimp only [go_sem]
 refine Chk_intro (r4.W) fun h11 s11=>?_
 have s11_z:=s11.size
 replace p0:=p0.F s11.fr
 replace r6:=r6.F s11.fr
 replace r7:=r7.F s11.fr
 replace r8:=r8.F s11.fr
 replace r9:=r9.F s11.fr
 replace r4:=s11.row r4
 try simp only [cl_int,cl_bool,cl_slice,cl_ptr,putAt_one,zs0,zs1,ivec_set,brow_upd] at r4
 have t:=t _ (s11.fr.wide (Nat.le_refl _))
 simp -dsimp only [go_sem,r4.cell]
 exact ⟨p0,q,rfl,t⟩
end Go.Proofs.Tst
/-
  law10: lives.
-/
namespace Go.Proofs.Tst
open Go Go.Vc
theorem sb1:decide (((bufG 1 1 1).check false).1=0∧rcAx (bufG 1 1 1)=(0,[]))=true:=by decide +kernel
theorem sb2:decide (((bufG 1 5 5).check false).1=0∧rcAx (bufG 1 5 5)=(3,[2,3,4,5]))=true:=by decide +kernel
theorem sp2:decide (((pasG 1 3 2).check false).1=0∧rcAx (pasG 1 3 2)=(1,[2,5]))=true:=by decide +kernel
theorem sp1:decide (((pasG 1 3 1).check false).1=0∧rcAx (pasG 1 3 1)=(0,[]))=true:=by decide +kernel
theorem sp3:((pasG 1 3 2).check false).1=0:=by decide +kernel
theorem sp4:pairsOf (pasG 1 3 2).n (swM (pasG 1 3 2))=[(3,4)]:=by decide +kernel
set_option maxHeartbeats 2000000 in
theorem law10_lives {h:Heap} (ht:TabAt h):Con Tryz.prog 10 #[] h fun v h'=>Fr 0 0 h h'∧v=.bool true:=by
 refine con_q19 ?_
 have p0:Fr 0 0 h h:=.refl _ _ _
 simp -dsimp only [go_sem]
 refine call_of (c_law10_passing 3 2) ?_
 rintro v1 h1 ⟨f1,q1,rfl,t1⟩
 have f1_z:=f1.size
 replace p0:=p0.F f1
 simp -dsimp only [go_sem]
 refine call_of (rc11_Derive t1 (ht.fr p0 (.inr rfl))) ?_
 rintro v2 h2 ⟨f2,w⟩
 have f2_z:=f2.size
 replace p0:=p0.F f2
 rw [if_pos sp3] at w
 obtain ⟨x,A,B,rfl,D',dlo⟩:=w
 have D:∀ k,k<7→PN h2 h1.size (x k) _ (rcM _ k):=fun k hk=>⟨_,_,D'.at_ k hk,dlo k hk⟩
 obtain ⟨_,_,g1,-,ab⟩:=D 1 (by decide)
 obtain ⟨c0,e0⟩:=(D 0 (by decide)).pa.ptr
 obtain ⟨c1,e1⟩:=(D 1 (by decide)).pa.ptr
 obtain ⟨c2,e2⟩:=(D 2 (by decide)).pa.ptr
 obtain ⟨c3,e3⟩:=(D 3 (by decide)).pa.ptr
 obtain ⟨c4,e4⟩:=(D 4 (by decide)).pa.ptr
 obtain ⟨c5,e5⟩:=(D 5 (by decide)).pa.ptr
 obtain ⟨c6,e6⟩:=(D 6 (by decide)).pa.ptr
 rw [e0,e1,e2,e3,e4,e5,e6]
 rw [e1] at g1
 replace g1:ProgAt h2 _ _ _ (pasG 1 3 2).n (swM (pasG 1 3 2)):=g1
 have p2:Fr 0 0 h2 h2:=.refl _ _ _
 simp -dsimp only [go_sem]
 intro b3 h3 n3
 have n3_z:=n3.az
 replace p0:=p0.F n3.f0
 replace p2:=p2.F n3.f0
 have r3:=n3.row
 simp -dsimp only [go_sem]
 refine Chk_intro (r3.W) fun h4 s4=>?_
 have s4_z:=s4.size
 replace p0:=p0.F s4.fr
 replace p2:=p2.F s4.fr
 replace r3:=s4.row r3
 try simp only [cl_int,cl_bool,cl_slice,cl_ptr,putAt_one,zs0,zs1,ivec_set,brow_upd] at r3
 try simp -dsimp only [go_sem] at r3
 simp -dsimp only [go_sem,r3.cell]
 refine call_of (c_law10_buffering 1 1) ?_
 rintro v5 h5 ⟨f5,q5,rfl,t5⟩
 have f5_z:=f5.size
 replace p0:=p0.F f5
 replace p2:=p2.F f5
 replace r3:=r3.F f5
 simp -dsimp only [go_sem]
 refine call_of (c_law10_says t5 (ht.fr p0 (.inr rfl)) nilI 0) ?_
 rintro v6 h6 ⟨f6,rfl⟩
 have f6_z:=f6.size
 replace p0:=p0.F f6
 replace p2:=p2.F f6
 replace r3:=r3.F f6
 rw [sb1]
 simp -dsimp only [go_sem]
 refine call_of (c_law10_buffering 5 5) ?_
 rintro v7 h7 ⟨f7,q7,rfl,t7⟩
 have f7_z:=f7.size
 replace p0:=p0.F f7
 replace p2:=p2.F f7
 replace r3:=r3.F f7
 simp -dsimp only [go_sem]
 intro b8 h8 n8
 have n8_z:=n8.az
 replace p0:=p0.F n8.f0
 replace p2:=p2.F n8.f0
 replace r3:=r3.F n8.f0
 have r8:=n8.row
 have t8:=t7.fr n8.fr
 simp -dsimp only [go_sem]
 refine call_of (c_law10_says t8 (ht.fr p0 (.inr rfl)) (l:=[2,3,4,5]) (Rw.rd (s:=1) (n:=4) (c:=4) r8 rfl) 3) ?_
 rintro v9 h9 ⟨f9,rfl⟩
 have f9_z:=f9.size
 replace p0:=p0.F f9
 replace p2:=p2.F f9
 replace r3:=r3.F f9
 replace r8:=r8.F f9
 rw [sb2]
 simp -dsimp only [go_sem]
 refine call_of (c_law10_passing 3 2) ?_
 rintro v12 h12 ⟨f12,q12,rfl,t12⟩
 have f12_z:=f12.size
 replace p0:=p0.F f12
 replace p2:=p2.F f12
 replace r3:=r3.F f12
 replace r8:=r8.F f12
 simp -dsimp only [go_sem]
 intro b13 h13 n13
 have n13_z:=n13.az
 replace p0:=p0.F n13.f0
 replace p2:=p2.F n13.f0
 replace r3:=r3.F n13.f0
 replace r8:=r8.F n13.f0
 have r13:=n13.row
 have t13:=t12.fr n13.fr
 simp -dsimp only [go_sem]
 refine call_of (c_law10_says t13 (ht.fr p0 (.inr rfl)) (l:=[2,5]) (Rw.rd (s:=1) (n:=2) (c:=2) r13 rfl) 1) ?_
 rintro v14 h14 ⟨f14,rfl⟩
 have f14_z:=f14.size
 replace p0:=p0.F f14
 replace p2:=p2.F f14
 replace r3:=r3.F f14
 replace r8:=r8.F f14
 replace r13:=r13.F f14
 rw [sp2]
 simp -dsimp only [go_sem]
 refine call_of (c_law10_passing 3 1) ?_
 rintro v10 h10 ⟨f10,q10,rfl,t10⟩
 have f10_z:=f10.size
 replace p0:=p0.F f10
 replace p2:=p2.F f10
 replace r3:=r3.F f10
 replace r8:=r8.F f10
 replace r13:=r13.F f10
 simp -dsimp only [go_sem]
 refine call_of (c_law10_says t10 (ht.fr p0 (.inr rfl)) nilI 0) ?_
 rintro v11 h11 ⟨f11,rfl⟩
 have f11_z:=f11.size
 replace p0:=p0.F f11
 replace p2:=p2.F f11
 replace r3:=r3.F f11
 replace r8:=r8.F f11
 replace r13:=r13.F f11
 rw [sp1]
 simp -dsimp only [go_sem,r3.cell]
 refine call_of (rel_Pairs (g1.fr p2 (by omega)) (ht.fr p0 (.inr rfl))) ?_
 rintro v15 h15 ⟨f15,o15⟩
 have f15_z:=f15.size
 replace p0:=p0.F f15
 replace p2:=p2.F f15
 replace r3:=r3.F f15
 replace r8:=r8.F f15
 replace r13:=r13.F f15
 rw [sp4] at o15
 simp -dsimp only [go_sem]
 intro b16 h16 n16
 have n16_z:=n16.az
 replace p0:=p0.F n16.f0
 replace p2:=p2.F n16.f0
 replace r3:=r3.F n16.f0
 replace r8:=r8.F n16.f0
 replace r13:=r13.F n16.f0
 have r16:=n16.row
 have o16:=o15.rd.fr n16.fr
 simp -dsimp only [go_sem]
 refine call_of (c_law10_pairs (l:=[(3,4)]) (m:=[(3,4)]) o16 (Rw.rd (s:=2) (n:=1) (c:=1) r16 rfl) (by decide)) ?_
 rintro v17 h16 ⟨rfl,rfl⟩
 simp -dsimp only [go_sem]
 exact p0
end Go.Proofs.Tst
/-
  The document's relations, some at once; its lists of truths.
-/
namespace Go.Proofs.Tst
open Go Go.Vc
def RA (h:Heap) (v:Value) (n:Nat) (M:Mx):Prop:=∃ lo hi,RefAt h lo hi v n M
theorem RA.fr {h h':Heap} {v:Value} {n:Nat} {M:Mx} (t:RA h v n M) (f:Fr 0 0 h h'):RA h' v n M:=by obtain ⟨a,b,t⟩:=t;exact ⟨a,b,t.fr f (by omega)⟩
theorem RA.is {h:Heap} {v:Value} {n:Nat} {M:Mx} (t:RA h v n M):∃ a c,v=.agg #[.int .i64 n,.slice a n c]:=by
 obtain ⟨_,_,_,s,R,rfl,t⟩:=t
 obtain ⟨a,c,rfl⟩:=t.own.is
 exact ⟨a,c,rfl⟩
theorem RA.le {h:Heap} {v:Value} {n:Nat} {M:Mx} (t:RA h v n M):n≤256:=by obtain ⟨_,_,t⟩:=t;exact t.1
theorem RefAt.congr {h:Heap} {lo hi:Nat} {v:Value} {n:Nat} {M N:Mx} (t:RefAt h lo hi v n M) (e:∀ i j,i<n→j<n→M i j=N i j):RefAt h lo hi v n N:=by
 obtain ⟨hn,s,R,hv,ht⟩:=t;exact ⟨hn,s,R,hv,ht.congr e⟩
theorem RA.congr {h:Heap} {v:Value} {n:Nat} {M N:Mx} (t:RA h v n M) (e:∀ i j,i<n→j<n→M i j=N i j):RA h v n N:=by obtain ⟨a,b,t⟩:=t;exact ⟨a,b,RefAt.congr t e⟩
def refCells (n:Nat) (ss:List Value):List Value:=ss.flatMap fun s=>[.int .i64 n,s]
@[simp] theorem length_refCells (n:Nat):∀ ss:List Value,(refCells n ss).length=ss.length * 2
 | []=>rfl
 | s :: ss=>by show (_ :: _ :: refCells n ss).length=_;simp [length_refCells n ss];omega
theorem refCells_get {n:Nat}:∀ {ss:List Value} {i:Nat} {s:Value},ss[i]?=some s→(refCells n ss)[i * 2]?=some (.int .i64 n)∧(refCells n ss)[i * 2+1]?=some s
 | [],i,s,h=>by simp at h
 | x :: ss,0,s,h=>by simp at h;subst h;exact ⟨rfl,rfl⟩
 | x :: ss,i+1,s,h=>by
  have:=refCells_get (n:=n) (ss:=ss) (i:=i) (s:=s) (by simpa using h)
  rw [show (i+1) * 2=i * 2+2 from by omega]
  exact this
def CR (h:Heap) (lv:Value) (n:Nat) (l:List Mx):Prop:=∃ ss:List Value,ss.length=l.length∧Rd 2 h lv ss.length (refCells n ss)∧ss.length≤65536∧∀ (i:Nat) (s:Value) (M:Mx),ss[i]?=some s→l[i]?=some M→RA h (.agg #[.int .i64 n,s]) n M
theorem CR.fr {h h':Heap} {v:Value} {n:Nat} {l:List Mx} (t:CR h v n l) (f:Fr 0 0 h h'):CR h' v n l:=by
 obtain ⟨L,h1,h2,h3,h4⟩:=t;exact ⟨L,h1,h2.fr f,h3,fun i w M a b=>(h4 i w M a b).fr f⟩
theorem CR.mk {h:Heap} {b n:Nat} (l:List (Value×Mx)) (r:Rw h b (refCells n (l.map (·.1)))) (hp:∀ x∈l,RA h (.agg #[.int .i64 n,x.1]) n x.2) (hl:l.length≤65536):CR h (.slice (some ⟨b,0,none⟩) l.length l.length) n (l.map (·.2)):=by
 refine ⟨l.map (·.1),by simp,?_,by simpa using hl,fun i w M h1 h2=>?_⟩
 ·rw [List.length_map];exact Rw.rd (s:=2) r (by simp)
 ·rw [List.getElem?_map,Option.map_eq_some_iff] at h1 h2
  obtain ⟨x,hx,rfl⟩:=h1
  obtain ⟨y,hy,rfl⟩:=h2
  rw [hx] at hy;cases hy
  exact hp x (List.mem_of_getElem? hx)
theorem ra_nil {h:Heap} {n:Nat}:∀ x∈([]:List (Value×Mx)),RA h (.agg #[.int .i64 n,x.1]) n x.2:=fun x hx=>by cases hx
theorem ra_cons {h:Heap} {n:Nat} {v:Value} {M:Mx} {l:List (Value×Mx)} (a:RA h (.agg #[.int .i64 n,v]) n M) (t:∀ x∈l,RA h (.agg #[.int .i64 n,x.1]) n x.2):∀ x∈(v,M) :: l,RA h (.agg #[.int .i64 n,x.1]) n x.2:=fun x hx=>by
 rcases List.mem_cons.1 hx with rfl | hx
 ·exact a
 ·exact t x hx
def oM (n:Nat) (A:Mx) (l:List Mx):Mx:=l.foldl (fun X Y=>unionM n X n Y) A
theorem oM_in {n i j:Nat} (hi:i<n) (hj:j<n):∀ (l:List Mx) (A:Mx),oM n A l i j=(A i j||l.any fun X=>X i j)
 | [],A=>by simp [oM]
 | B :: l,A=>by
  show oM n (unionM n A n B) l i j=_
  rw [oM_in hi hj l,unionM_in hi hj,List.any_cons,Bool.or_assoc]
def VA (h:Heap) (n:Nat) (L:List (Nat×Value×Mx)):Prop:=∀ x∈L,Rw h x.1 [.int .i64 n,x.2.1]∧RA h (.agg #[.int .i64 n,x.2.1]) n x.2.2
theorem VA.fr {h h':Heap} {n:Nat} {L:List (Nat×Value×Mx)} (t:VA h n L) (f:Fr 0 0 h h'):VA h' n L:=fun x hx=>⟨(t x hx).1.fr f (by omega),(t x hx).2.fr f⟩
theorem VA.nil {h:Heap} {n:Nat}:VA h n []:=fun x hx=>by cases hx
theorem VA.cons {h:Heap} {n b:Nat} {s:Value} {M:Mx} {L:List (Nat×Value×Mx)} (r:Rw h b [.int .i64 n,s]) (a:RA h (.agg #[.int .i64 n,s]) n M) (t:VA h n L):VA h n ((b,s,M) :: L):=fun x hx=>by
 rcases List.mem_cons.1 hx with rfl | hx
 ·exact ⟨r,a⟩
 ·exact t x hx
theorem VA.drop {h:Heap} {n:Nat} {L L':List (Nat×Value×Mx)} (t:VA h n L) (hs:∀ x∈L',x∈L):VA h n L':=fun x hx=>t x (hs x hx)
theorem ref10_any {lv:Value} {n:Nat} {A:Mx} {l:List Mx} {h:Heap} (hl:CR h lv n (A :: l)) :
  Con Tryz.prog 50 #[lv] h fun v h'=>Fr 0 0 h h'∧RA h' v n (oM n A l)∧(l≠[]→RefAt h' h.size h'.size v n (oM n A l)):=by
 refine con_q38 ?_
 obtain ⟨ss,hwl,hr,hlen,hp⟩:=hl
 obtain ⟨la,lc,rfl⟩:=hr.is
 have hsl:ss.length=l.length+1:=by simpa using hwl
 have p0:Fr 0 0 h h:=.refl _ _ _
 obtain ⟨hl1,a',c',k1,k2⟩:=hr
 cases k1
 rcases k2 with k2 | ⟨b,o,rfl,hc⟩
 ·omega
 have h0:ss[0]?=some ss[0]:=List.getElem?_eq_getElem (by omega)
 have t0:=hp 0 _ A h0 rfl
 generalize ss[0]=s0 at h0 t0
 obtain ⟨a0,c0,e0⟩:=t0.is
 simp only [Value.agg.injEq,Array.mk.injEq,List.cons.injEq,and_true,true_and] at e0
 subst e0
 simp -dsimp only [go_sem]
 intro b2 h1 n1
 have n1_a:=n1.at_
 have n1_z:=n1.size
 replace p0:=p0.F n1.f0
 have r2:=n1.row
 obtain ⟨k3,k4⟩:=refCells_get (n:=n) h0
 have k3:=p0.keep (hc _ _ k3) (by omega)
 have k4:=p0.keep (hc _ _ k4) (by omega)
 have e1:((0:Int)<(ss.length:Int)):=by omega
 replace k3:hcell h1 b (o+Int.toNat 0 * 2)=some (.int .i64 n):=k3
 replace k4:hcell h1 b (o+Int.toNat 0 * 2+1)=some (.slice a0 n c0):=by rw [Nat.add_assoc];exact k4
 simp -dsimp only [go_sem,e1]
 simp -dsimp only [go_sem,k3,k4]
 intro b3 h2 n3
 have n3_a:=n3.at_
 have n3_z:=n3.size
 replace p0:=p0.F n3.f0
 replace r2:=r2.F n3.f0
 have r3:=n3.row
 simp -dsimp only [go_sem]
 refine Chk_intro (r3.W) fun h3 s3=>?_
 have s3_z:=s3.size
 replace p0:=p0.F s3.fr
 replace r2:=r2.F s3.fr
 replace r3:=s3.row r3
 try simp only [cl_int,cl_bool,cl_slice,cl_ptr,putAt_one,zs0,zs1,ivec_set,brow_upd] at r3
 have th:=t0
 replace r3:Rw h3 b3 [.int .i64 n,.slice a0 n c0]:=r3
 have gb:h.size≤b2∧b2<b3∧b3<h3.size:=by omega
 simp -dsimp only [go_sem]
 refine loop_intro (fun j:Nat=>[(0,.slice (some ⟨b,o,none⟩) ss.length lc),(2,.pointer (some ⟨b2,0,none⟩)),(3,.pointer (some ⟨b3,0,none⟩)),(4,.int .i64 (j+1:Nat))])
  (fun j h'=>j≤l.length∧Fr 0 0 h h'∧h3.size≤h'.size∧Rw h' b2 [.int .i64 0,.slice none 0 0]∧∃ s,Rw h' b3 [.int .i64 n,s]∧∀ h2,Fr b2 (b2+1) h' h2→RA h2 (.agg #[.int .i64 n,s]) n (oM n A (l.take j))∧(j≠0→RefAt h2 h3.size h'.size (.agg #[.int .i64 n,s]) n (oM n A (l.take j)))) (fun j=>l.length - j) 0 ?_ ?_ ?_
 ·simp [Le,find]
 ·exact ⟨by omega,p0,by omega,r2,_,r3,fun h2 f2=>⟨th.fr (p0.fresh f2 (by omega)),fun hz=>absurd rfl hz⟩⟩
 clear p0 r2 r3 t0 th k3 k4 n1_a n1_z n3_a n3_z s3_z
 rintro j h4 ⟨hj,p0,y4,r2,s,r3,T⟩
 have p0_z:=p0.size
 have r2_l:=r2.lt
 have r3_l:=r3.lt
 have t0:=(T h4 (.refl _ _ _)).1
 obtain ⟨a1,c1,e0⟩:=t0.is
 simp only [Value.agg.injEq,Array.mk.injEq,List.cons.injEq,and_true,true_and] at e0
 subst e0
 by_cases hlt:j<l.length
 ·have e2:(((j+1:Nat):Int)<(ss.length:Int)):=by omega
  have hs:ss[j+1]?=some ss[j+1]:=List.getElem?_eq_getElem (by omega)
  have hM:(A :: l)[j+1]?=some l[j]:=by rw [List.getElem?_cons_succ];exact List.getElem?_eq_getElem hlt
  have tw:=(hp _ _ _ hs hM).fr p0
  generalize ss[j+1]=s1 at hs tw
  have hsu:l.take (j+1)=l.take j++[l[j]]:=by rw [List.take_add_one,List.getElem?_eq_getElem hlt];rfl
  generalize l[j]=B at tw hsu
  obtain ⟨a2,c2,e0⟩:=tw.is
  simp only [Value.agg.injEq,Array.mk.injEq,List.cons.injEq,and_true,true_and] at e0
  subst e0
  obtain ⟨k3,k4⟩:=refCells_get (n:=n) hs
  have k3:=p0.keep (hc _ _ k3) (by omega)
  have k4:=p0.keep (hc _ _ k4) (by omega)
  rw [← Nat.add_assoc] at k4
  obtain ⟨_,_,u0⟩:=t0
  obtain ⟨_,_,u1⟩:=tw
  simp -dsimp only [go_sem,e2,r3.cell]
  simp -dsimp only [go_sem,k3,k4]
  refine call_of (ref1_Union u0 u1) ?_
  rintro v5 h5 ⟨f5,u5⟩
  rw [Nat.max_self] at u5
  have f5_z:=f5.size
  replace p0:=p0.F f5
  replace r2:=r2.F f5
  replace r3:=r3.F f5
  have t5:RA h5 v5 n (oM n A (l.take (j+1))):=by
   rw [hsu];unfold oM;rw [List.foldl_append];exact ⟨_,_,u5⟩
  obtain ⟨a3,c3,e0⟩:=t5.is
  subst e0
  have hz5:h3.size≤h5.size:=by omega
  simp -dsimp only [go_sem]
  have u5t:=u5
  refine Chk_intro (r3.W) fun h6 s6=>?_
  have s6_z:=s6.size
  replace p0:=p0.F s6.fr
  replace r2:=r2.F s6.fr
  replace r3:=s6.row r3
  try simp only [cl_int,cl_bool,cl_slice,cl_ptr,putAt_one,zs0,zs1,ivec_set,brow_upd] at r3
  have t6:∀ h2,Fr b2 (b2+1) h6 h2→RA h2 (.agg #[.int .i64 n,.slice a3 n c3]) n (oM n A (l.take (j+1)))∧(j+1≠0→RefAt h2 h3.size h6.size (.agg #[.int .i64 n,.slice a3 n c3]) n (oM n A (l.take (j+1)))):=fun h2 f2=>by
   have w:=(u5.fr s6.fr (by omega)).fr f2 (by omega)
   rw [hsu];unfold oM;rw [List.foldl_append];exact ⟨⟨_,_,w⟩,fun _=>w.mono (by omega) (by omega)⟩
  replace r3:Rw h6 b3 [.int .i64 n,.slice a3 n c3]:=r3
  simp -dsimp only [go_sem]
  simp -dsimp (disch:=omega) only [wrap64]
  exact ⟨j+1,by omega,by simp [Le,find],by omega,p0,by omega,r2,_,r3,t6⟩
 ·obtain rfl:j=l.length:=by omega
  have e2:¬ (((l.length+1:Nat):Int)<(ss.length:Int)):=by omega
  rw [List.take_length] at t0
  simp -dsimp only [go_sem,e2,r3.cell]
  refine Chk_intro (r2.W) fun h5 s5=>?_
  have s5_z:=s5.size
  replace p0:=p0.F s5.fr
  replace r3:=r3.F s5.fr
  replace r2:=s5.row r2
  try simp only [cl_int,cl_bool,cl_slice,cl_ptr,putAt_one,zs0,zs1,ivec_set,brow_upd] at r2
  replace r2:Rw h5 b2 [.int .i64 n,.slice a1 n c1]:=r2
  simp -dsimp only [go_sem,r2.cell]
  rw [List.take_length] at T
  have w:=T h5 s5.fr
  exact ⟨p0,w.1,fun hl0=>(w.2 (by intro e;exact hl0 (List.eq_nil_of_length_eq_zero e))).mono (by omega) (by omega)⟩
theorem ref10_seq {lv:Value} {n:Nat} {A:Mx} {l:List Mx} {h:Heap} (hl:CR h lv n (A :: l)) :
  Con Tryz.prog 46 #[lv] h fun v h'=>Fr 0 0 h h'∧RA h' v n (chM n A l)∧(l≠[]→RefAt h' h.size h'.size v n (chM n A l)):=by
 refine con_q39 ?_
 obtain ⟨ss,hwl,hr,hlen,hp⟩:=hl
 obtain ⟨la,lc,rfl⟩:=hr.is
 have hsl:ss.length=l.length+1:=by simpa using hwl
 have p0:Fr 0 0 h h:=.refl _ _ _
 obtain ⟨hl1,a',c',k1,k2⟩:=hr
 cases k1
 rcases k2 with k2 | ⟨b,o,rfl,hc⟩
 ·omega
 have h0:ss[0]?=some ss[0]:=List.getElem?_eq_getElem (by omega)
 have t0:=hp 0 _ A h0 rfl
 generalize ss[0]=s0 at h0 t0
 obtain ⟨a0,c0,e0⟩:=t0.is
 simp only [Value.agg.injEq,Array.mk.injEq,List.cons.injEq,and_true,true_and] at e0
 subst e0
 simp -dsimp only [go_sem]
 intro b2 h1 n1
 have n1_a:=n1.at_
 have n1_z:=n1.size
 replace p0:=p0.F n1.f0
 have r2:=n1.row
 obtain ⟨k3,k4⟩:=refCells_get (n:=n) h0
 have k3:=p0.keep (hc _ _ k3) (by omega)
 have k4:=p0.keep (hc _ _ k4) (by omega)
 have e1:((0:Int)<(ss.length:Int)):=by omega
 replace k3:hcell h1 b (o+Int.toNat 0 * 2)=some (.int .i64 n):=k3
 replace k4:hcell h1 b (o+Int.toNat 0 * 2+1)=some (.slice a0 n c0):=by rw [Nat.add_assoc];exact k4
 simp -dsimp only [go_sem,e1]
 simp -dsimp only [go_sem,k3,k4]
 intro b3 h2 n3
 have n3_a:=n3.at_
 have n3_z:=n3.size
 replace p0:=p0.F n3.f0
 replace r2:=r2.F n3.f0
 have r3:=n3.row
 simp -dsimp only [go_sem]
 refine Chk_intro (r3.W) fun h3 s3=>?_
 have s3_z:=s3.size
 replace p0:=p0.F s3.fr
 replace r2:=r2.F s3.fr
 replace r3:=s3.row r3
 try simp only [cl_int,cl_bool,cl_slice,cl_ptr,putAt_one,zs0,zs1,ivec_set,brow_upd] at r3
 have th:=t0
 replace r3:Rw h3 b3 [.int .i64 n,.slice a0 n c0]:=r3
 have gb:h.size≤b2∧b2<b3∧b3<h3.size:=by omega
 simp -dsimp only [go_sem]
 refine loop_intro (fun j:Nat=>[(0,.slice (some ⟨b,o,none⟩) ss.length lc),(2,.pointer (some ⟨b2,0,none⟩)),(3,.pointer (some ⟨b3,0,none⟩)),(4,.int .i64 (j+1:Nat))])
  (fun j h'=>j≤l.length∧Fr 0 0 h h'∧h3.size≤h'.size∧Rw h' b2 [.int .i64 0,.slice none 0 0]∧∃ s,Rw h' b3 [.int .i64 n,s]∧∀ h2,Fr b2 (b2+1) h' h2→RA h2 (.agg #[.int .i64 n,s]) n (chM n A (l.take j))∧(j≠0→RefAt h2 h3.size h'.size (.agg #[.int .i64 n,s]) n (chM n A (l.take j)))) (fun j=>l.length - j) 0 ?_ ?_ ?_
 ·simp [Le,find]
 ·exact ⟨by omega,p0,by omega,r2,_,r3,fun h2 f2=>⟨th.fr (p0.fresh f2 (by omega)),fun hz=>absurd rfl hz⟩⟩
 clear p0 r2 r3 t0 th k3 k4 n1_a n1_z n3_a n3_z s3_z
 rintro j h4 ⟨hj,p0,y4,r2,s,r3,T⟩
 have p0_z:=p0.size
 have r2_l:=r2.lt
 have r3_l:=r3.lt
 have t0:=(T h4 (.refl _ _ _)).1
 obtain ⟨a1,c1,e0⟩:=t0.is
 simp only [Value.agg.injEq,Array.mk.injEq,List.cons.injEq,and_true,true_and] at e0
 subst e0
 by_cases hlt:j<l.length
 ·have e2:(((j+1:Nat):Int)<(ss.length:Int)):=by omega
  have hs:ss[j+1]?=some ss[j+1]:=List.getElem?_eq_getElem (by omega)
  have hM:(A :: l)[j+1]?=some l[j]:=by rw [List.getElem?_cons_succ];exact List.getElem?_eq_getElem hlt
  have tw:=(hp _ _ _ hs hM).fr p0
  generalize ss[j+1]=s1 at hs tw
  have hsu:l.take (j+1)=l.take j++[l[j]]:=by rw [List.take_add_one,List.getElem?_eq_getElem hlt];rfl
  generalize l[j]=B at tw hsu
  obtain ⟨a2,c2,e0⟩:=tw.is
  simp only [Value.agg.injEq,Array.mk.injEq,List.cons.injEq,and_true,true_and] at e0
  subst e0
  obtain ⟨k3,k4⟩:=refCells_get (n:=n) hs
  have k3:=p0.keep (hc _ _ k3) (by omega)
  have k4:=p0.keep (hc _ _ k4) (by omega)
  rw [← Nat.add_assoc] at k4
  obtain ⟨_,_,u0⟩:=t0
  obtain ⟨_,_,u1⟩:=tw
  simp -dsimp only [go_sem,e2,r3.cell]
  simp -dsimp only [go_sem,k3,k4]
  refine call_of (ref1_Comp u0 u1) ?_
  rintro v5 h5 ⟨f5,u5⟩
  rw [Nat.max_self] at u5
  have f5_z:=f5.size
  replace p0:=p0.F f5
  replace r2:=r2.F f5
  replace r3:=r3.F f5
  have t5:RA h5 v5 n (chM n A (l.take (j+1))):=by
   rw [hsu];unfold chM;rw [List.foldl_append];exact ⟨_,_,u5⟩
  obtain ⟨a3,c3,e0⟩:=t5.is
  subst e0
  have hz5:h3.size≤h5.size:=by omega
  simp -dsimp only [go_sem]
  have u5t:=u5
  refine Chk_intro (r3.W) fun h6 s6=>?_
  have s6_z:=s6.size
  replace p0:=p0.F s6.fr
  replace r2:=r2.F s6.fr
  replace r3:=s6.row r3
  try simp only [cl_int,cl_bool,cl_slice,cl_ptr,putAt_one,zs0,zs1,ivec_set,brow_upd] at r3
  have t6:∀ h2,Fr b2 (b2+1) h6 h2→RA h2 (.agg #[.int .i64 n,.slice a3 n c3]) n (chM n A (l.take (j+1)))∧(j+1≠0→RefAt h2 h3.size h6.size (.agg #[.int .i64 n,.slice a3 n c3]) n (chM n A (l.take (j+1)))):=fun h2 f2=>by
   have w:=(u5.fr s6.fr (by omega)).fr f2 (by omega)
   rw [hsu];unfold chM;rw [List.foldl_append];exact ⟨⟨_,_,w⟩,fun _=>w.mono (by omega) (by omega)⟩
  replace r3:Rw h6 b3 [.int .i64 n,.slice a3 n c3]:=r3
  simp -dsimp only [go_sem]
  simp -dsimp (disch:=omega) only [wrap64]
  exact ⟨j+1,by omega,by simp [Le,find],by omega,p0,by omega,r2,_,r3,t6⟩
 ·obtain rfl:j=l.length:=by omega
  have e2:¬ (((l.length+1:Nat):Int)<(ss.length:Int)):=by omega
  rw [List.take_length] at t0
  simp -dsimp only [go_sem,e2,r3.cell]
  refine Chk_intro (r2.W) fun h5 s5=>?_
  have s5_z:=s5.size
  replace p0:=p0.F s5.fr
  replace r3:=r3.F s5.fr
  replace r2:=s5.row r2
  try simp only [cl_int,cl_bool,cl_slice,cl_ptr,putAt_one,zs0,zs1,ivec_set,brow_upd] at r2
  replace r2:Rw h5 b2 [.int .i64 n,.slice a1 n c1]:=r2
  simp -dsimp only [go_sem,r2.cell]
  rw [List.take_length] at T
  have w:=T h5 s5.fr
  exact ⟨p0,w.1,fun hl0=>(w.2 (by intro e;exact hl0 (List.eq_nil_of_length_eq_zero e))).mono (by omega) (by omega)⟩
end Go.Proofs.Tst
/-
  The document's Both and Either; the points that have some modes.
-/
namespace Go.Proofs.Tst
open Go Go.Vc
def bothL (n:Nat) (f:Nat→Bool):List Bool:=(List.range n).map f
theorem bothL_len (n:Nat) (f:Nat→Bool):(bothL n f).length=n:=by simp [bothL]
theorem bothL_succ (n:Nat) (f:Nat→Bool):bothL (n+1) f=bothL n f++[f n]:=by simp [bothL,List.range_succ]
theorem atB_both {n:Nat} {f:Nat→Bool} {i:Nat} (hi:i<n):atB (bothL n f) i=f i:=atB_get (by simp [bothL,hi])
theorem list_atB {l:List Bool} {i:Nat} (hi:i<l.length):l[i]?=some (atB l i):=by simp [atB,hi]
theorem ref8_Both {av bv:Value} {la lb:List Bool} {n:Nat} {h:Heap} (ha:Rd 1 h av la.length (boolsV la)) (hb:Rd 1 h bv lb.length (boolsV lb)) (ea:la.length=n) (eb:lb.length=n) (hn:n≤140737488355328) :
  Con Tryz.prog 41 #[av,bv] h fun v h'=>Fr 0 0 h h'∧Holder 1 h' v n (boolsV (bothL n fun i=>atB la i&&atB lb i)) h.size:=by
 refine con_q59 ?_
 obtain ⟨aa,ac,rfl⟩:=ha.is
 obtain ⟨ba,bc,rfl⟩:=hb.is
 have p0:Fr 0 0 h h:=.refl _ _ _
 simp -dsimp only [go_sem]
 refine loop_intro (fun s:Nat×Value=>[(0,.slice aa la.length ac),(1,.slice ba lb.length bc),(5,s.2),(6,.int .i64 s.1)])
  (fun s h'=>s.1≤n∧Fr 0 0 h h'∧Holder 1 h' s.2 s.1 (boolsV (bothL s.1 fun i=>atB la i&&atB lb i)) h.size) (fun s=>n - s.1) (0,.slice none 0 0) ?_ ?_ ?_
 ·simp [Le,find]
 ·exact ⟨by omega,p0,.none _ _ _⟩
 clear p0
 rintro ⟨i,v⟩ h1 ⟨hi,p0,o1⟩
 dsimp only at hi o1 ⊢
 have p0_z:=p0.size
 have o1_l:=o1.top
 by_cases hlt:i<n
 ·have e1:((i:Int)<(la.length:Int)):=by omega
  have e2:((i:Int)<(lb.length:Int)):=by omega
  obtain ⟨ab,ao,rfl,hac⟩:=bools_at ha (by omega)
  obtain ⟨bb,bo,rfl,hbc⟩:=bools_at hb (by omega)
  have k1:=hac h1 p0 i _ (list_atB (by omega))
  have k2:=hbc h1 p0 i _ (list_atB (by omega))
  obtain ⟨va,vc,rfl⟩:=o1.is
  have o1_a:=o1.at_
  have hs:=bothL_succ i fun i=>atB la i&&atB lb i
  generalize atB la i=x at k1 hs
  generalize atB lb i=y at k2 hs
  cases x
  ·simp -dsimp only [go_sem,e1,e2,k1]
   intro b2 h2 n2
   have n2_a:=n2.at_
   have n2_z:=n2.size
   replace p0:=p0.F n2.f0
   replace o1:=o1.fr n2.f0 (by have:=o1.at_;omega)
   have r2:=n2.row
   simp -dsimp only [go_sem,r2.cell]
   refine o1.append (by omega) rfl (by omega) (by simp) (by omega) fun v3 h3 o_new f3 e_app=>?_
   have f3_z:=f3.size
   have o_at:=o1.at_
   replace p0:=p0.F f3
   replace r2:=r2.F f3
   clear o_at e_app
   replace o1:=o_new
   have o1_l:=o1.top
   simp -dsimp only [go_sem]
   simp -dsimp (disch:=omega) only [wrap64]
   refine ⟨(i+1,v3),by dsimp only;omega,by simp [Le,find],by dsimp only;omega,p0,?_⟩
   dsimp only
   rw [hs,boolsV_append];exact o1
  ·simp -dsimp only [go_sem,e1,e2,k1,k2]
   intro b2 h2 n2
   have n2_a:=n2.at_
   have n2_z:=n2.size
   replace p0:=p0.F n2.f0
   replace o1:=o1.fr n2.f0 (by have:=o1.at_;omega)
   have r2:=n2.row
   simp -dsimp only [go_sem,r2.cell]
   refine o1.append (by omega) rfl (by omega) (by simp) (by omega) fun v3 h3 o_new f3 e_app=>?_
   have f3_z:=f3.size
   have o_at:=o1.at_
   replace p0:=p0.F f3
   replace r2:=r2.F f3
   clear o_at e_app
   replace o1:=o_new
   have o1_l:=o1.top
   simp -dsimp only [go_sem]
   simp -dsimp (disch:=omega) only [wrap64]
   refine ⟨(i+1,v3),by dsimp only;omega,by simp [Le,find],by dsimp only;omega,p0,?_⟩
   dsimp only
   rw [hs,boolsV_append];exact o1
 ·obtain rfl:i=n:=by omega
  have e1:¬ ((i:Int)<(la.length:Int)):=by omega
  simp -dsimp only [go_sem,e1]
  exact ⟨p0,o1⟩
theorem ref8_Either {av bv:Value} {la lb:List Bool} {n:Nat} {h:Heap} (ha:Rd 1 h av la.length (boolsV la)) (hb:Rd 1 h bv lb.length (boolsV lb)) (ea:la.length=n) (eb:lb.length=n) (hn:n≤140737488355328) :
  Con Tryz.prog 42 #[av,bv] h fun v h'=>Fr 0 0 h h'∧Holder 1 h' v n (boolsV (bothL n fun i=>atB la i||atB lb i)) h.size:=by
 refine con_q63 ?_
 obtain ⟨aa,ac,rfl⟩:=ha.is
 obtain ⟨ba,bc,rfl⟩:=hb.is
 have p0:Fr 0 0 h h:=.refl _ _ _
 simp -dsimp only [go_sem]
 refine loop_intro (fun s:Nat×Value=>[(0,.slice aa la.length ac),(1,.slice ba lb.length bc),(5,s.2),(6,.int .i64 s.1)])
  (fun s h'=>s.1≤n∧Fr 0 0 h h'∧Holder 1 h' s.2 s.1 (boolsV (bothL s.1 fun i=>atB la i||atB lb i)) h.size) (fun s=>n - s.1) (0,.slice none 0 0) ?_ ?_ ?_
 ·simp [Le,find]
 ·exact ⟨by omega,p0,.none _ _ _⟩
 clear p0
 rintro ⟨i,v⟩ h1 ⟨hi,p0,o1⟩
 dsimp only at hi o1 ⊢
 have p0_z:=p0.size
 have o1_l:=o1.top
 by_cases hlt:i<n
 ·have e1:((i:Int)<(la.length:Int)):=by omega
  have e2:((i:Int)<(lb.length:Int)):=by omega
  obtain ⟨ab,ao,rfl,hac⟩:=bools_at ha (by omega)
  obtain ⟨bb,bo,rfl,hbc⟩:=bools_at hb (by omega)
  have k1:=hac h1 p0 i _ (list_atB (by omega))
  have k2:=hbc h1 p0 i _ (list_atB (by omega))
  obtain ⟨va,vc,rfl⟩:=o1.is
  have o1_a:=o1.at_
  have hs:=bothL_succ i fun i=>atB la i||atB lb i
  generalize atB la i=x at k1 hs
  generalize atB lb i=y at k2 hs
  cases x
  ·simp -dsimp only [go_sem,e1,e2,k1,k2]
   intro b2 h2 n2
   have n2_a:=n2.at_
   have n2_z:=n2.size
   replace p0:=p0.F n2.f0
   replace o1:=o1.fr n2.f0 (by have:=o1.at_;omega)
   have r2:=n2.row
   simp -dsimp only [go_sem,r2.cell]
   refine o1.append (by omega) rfl (by omega) (by simp) (by omega) fun v3 h3 o_new f3 e_app=>?_
   have f3_z:=f3.size
   have o_at:=o1.at_
   replace p0:=p0.F f3
   replace r2:=r2.F f3
   clear o_at e_app
   replace o1:=o_new
   have o1_l:=o1.top
   simp -dsimp only [go_sem]
   simp -dsimp (disch:=omega) only [wrap64]
   refine ⟨(i+1,v3),by dsimp only;omega,by simp [Le,find],by dsimp only;omega,p0,?_⟩
   dsimp only
   rw [hs,boolsV_append];exact o1
  ·simp -dsimp only [go_sem,e1,e2,k1]
   intro b2 h2 n2
   have n2_a:=n2.at_
   have n2_z:=n2.size
   replace p0:=p0.F n2.f0
   replace o1:=o1.fr n2.f0 (by have:=o1.at_;omega)
   have r2:=n2.row
   simp -dsimp only [go_sem,r2.cell]
   refine o1.append (by omega) rfl (by omega) (by simp) (by omega) fun v3 h3 o_new f3 e_app=>?_
   have f3_z:=f3.size
   have o_at:=o1.at_
   replace p0:=p0.F f3
   replace r2:=r2.F f3
   clear o_at e_app
   replace o1:=o_new
   have o1_l:=o1.top
   simp -dsimp only [go_sem]
   simp -dsimp (disch:=omega) only [wrap64]
   refine ⟨(i+1,v3),by dsimp only;omega,by simp [Le,find],by dsimp only;omega,p0,?_⟩
   dsimp only
   rw [hs,boolsV_append];exact o1
 ·obtain rfl:i=n:=by omega
  have e1:¬ ((i:Int)<(la.length:Int)):=by omega
  simp -dsimp only [go_sem,e1]
  exact ⟨p0,o1⟩
end Go.Proofs.Tst
/-
  The document's source relations: what its parts make; local relations.
-/
namespace Go.Proofs.Tst
open Go Go.Vc
def tCR (n:Nat) (l:List Mx):Tell:=tell1 fun v _ _ h=>CR h v n l
def tRR (n:Nat) (M:Mx):Tell:=tell1 fun v a b h=>RefAt h a b v n M
def tLB (n:Nat) (l:List Bool):Tell:=tell1 fun v _ _ h=>Rd 1 h v n (boolsV l)
theorem stCR (n:Nat) (l:List Mx):Stab (tCR n l):=Stab.one fun _ _ _ _ _ f t=>t.fr f
theorem stRR (n:Nat) (M:Mx):Stab (tRR n M):=Stab.one fun _ _ _ _ _ f t=>t.fr f (by omega)
theorem stLB (n:Nat) (l:List Bool):Stab (tLB n l):=Stab.one fun _ _ _ _ _ f t=>t.fr f
theorem tCR_eq (n:Nat) (l:List Mx) (u:Out) (h:Heap):tCR n l [u] h=CR h u.1 n l:=(rfl)
theorem tRR_eq (n:Nat) (M:Mx) (u:Out) (h:Heap):tRR n M [u] h=RefAt h u.2.1 u.2.2 u.1 n M:=(rfl)
theorem tLB_eq (n:Nat) (l:List Bool) (u:Out) (h:Heap):tLB n l [u] h=Rd 1 h u.1 n (boolsV l):=(rfl)
theorem putAt_mid:∀ (ws a l:List Value),l.length=ws.length→putAt (a++l) a.length ws=a++ws
 | [],a,[],_=>rfl
 | [],a,_ :: _,h=>by simp at h
 | _ :: _,a,[],h=>by simp at h
 | v :: ws,a,x :: l,h=>by
  show putAt ((a++x :: l).set a.length v) (a.length+1) ws=_
  rw [List.set_append_right _ _ (Nat.le_refl _),Nat.sub_self,List.set_cons_zero]
  have:=putAt_mid ws (a++[v]) l (by simpa using h)
  simpa using this
theorem putAt_all {l ws:List Value} (h:l.length=ws.length):putAt l 0 ws=ws:=putAt_mid ws [] l h
def RG (B:Nat) (h:Heap) (v:Value) (n:Nat) (M:Mx):Prop:=∃ lo hi,B≤lo∧RefAt h lo hi v n M
section
variable {B n : Nat} {h h' : Heap} {v : Value} {M N : Mx}
theorem RG.fr (t:RG B h v n M) {l r:Nat} (f:Fr l r h h') (hd:r≤B:=by omega):RG B h' v n M:=by obtain ⟨a,b,hb,t⟩:=t;exact ⟨a,b,hb,t.fr f (by omega)⟩
theorem RG.lower (t:RG B h v n M) {B':Nat} (hb:B'≤B):RG B' h v n M:=by obtain ⟨a,b,h1,t⟩:=t;exact ⟨a,b,by omega,t⟩
theorem RG.ra (t:RG B h v n M):RA h v n M:=by obtain ⟨a,b,_,t⟩:=t;exact ⟨a,b,t⟩
theorem RG.is (t:RG B h v n M):∃ a c,v=.agg #[.int .i64 n,.slice a n c]:=t.ra.is
theorem RG.congr (t:RG B h v n M) (e:In n M N):RG B h v n N:=by obtain ⟨a,b,hb,t⟩:=t;exact ⟨a,b,hb,RefAt.congr t e⟩
def VG (B:Nat) (h:Heap) (n:Nat) (L:List (Nat×Value×Mx)):Prop:=∀ x∈L,Rw h x.1 [.int .i64 n,x.2.1]∧RG B h (.agg #[.int .i64 n,x.2.1]) n x.2.2
theorem VG.nil:VG B h n []:=fun x hx=>by cases hx
theorem VG.fr {L:List (Nat×Value×Mx)} (t:VG B h n L) (f:Fr 0 0 h h'):VG B h' n L:=fun x hx=>⟨(t x hx).1.fr f (by omega),(t x hx).2.fr f⟩
theorem VG.cons {b:Nat} {s:Value} {L:List (Nat×Value×Mx)} (r:Rw h b [.int .i64 n,s]) (a:RG B h (.agg #[.int .i64 n,s]) n M) (t:VG B h n L):VG B h n ((b,s,M) :: L):=fun x hx=>by
 rcases List.mem_cons.1 hx with rfl | hx
 ·exact ⟨r,a⟩
 ·exact t x hx
theorem VG.at_ {L:List (Nat×Value×Mx)} (t:VG B h n L) (i:Nat) {x:Nat×Value×Mx} (hx:L[i]?=some x):Rw h x.1 [.int .i64 n,x.2.1]∧RG B h (.agg #[.int .i64 n,x.2.1]) n x.2.2:=t x (List.mem_of_getElem? hx)
end
theorem ra_of {h:Heap} {lo hi:Nat} {v:Value} {n:Nat} {M:Mx} (t:RefAt h lo hi v n M):RA h v n M:=⟨_,_,t⟩
theorem In.tr {n:Nat} {M N P:Mx} (a:In n M N) (b:In n N P):In n M P:=fun i j hi hj=>(a i j hi hj).trans (b i j hi hj)
theorem oM_or {n:Nat} {A:Mx} {l:List Mx}:In n (oM n A l) (orM (A :: l)):=fun i j hi hj=>by rw [oM_in hi hj];rfl
theorem id2 {n:Nat} {l:List Bool} {f:Nat→Bool} (h:∀ i,i<n→atB l i=f i):In n (idM l) (dM f):=fun i j hi _=>by
 show (i==j&&atB l i)=(i==j&&f i)
 rw [h i hi]
section
variable {g : Gr}
theorem hb_ofD:In g.n (plusM g.n (oM g.n (relM g 0) [swM g])) (hbM g):=(plus_in oM_or).tr hb_of
theorem eco_ofD:In g.n (plusM g.n (oM g.n (relM g 1) [relM g 2,relM g 9])) (ecoM g):=(plus_in oM_or).tr eco_of
theorem scb_ofD:In g.n (oM g.n (relM g 0) [chM g.n (otherM g) [hbM g,otherM g],interM g.n (hbM g) g.n (relM g 4),relM g 2,relM g 9]) (scbM g):=oM_or.tr scb_of
theorem begin_ofD:In g.n (oM g.n (dM (escB g)) [chM g.n (dM (fscB g)) [optM (hbM g)]]) (beginM g):=oM_or.tr begin_of
theorem end_ofD:In g.n (oM g.n (dM (escB g)) [chM g.n (optM (hbM g)) [dM (fscB g)]]) (endM g):=oM_or.tr end_of
theorem pscf_ofD:In g.n (chM g.n (dM (fscB g)) [oM g.n (hbM g) [chM g.n (hbM g) [ecoM g,hbM g]],dM (fscB g)]) (pscfM g):=
 fsc_of In.rfl' (Y:=fun i j=>hbM g i j||hehM g i j) fun i j hi hj=>by
  rw [oM_or i j hi hj]
  show (hbM g i j||(chM g.n (hbM g) [ecoM g,hbM g] i j||false))=_
  rw [heh_of In.rfl' In.rfl' i j hi hj,Bool.or_false]
theorem rs_ofD:In g.n (chM g.n (dM (isK g 2)) [optM (plocM g),dM (isK g 2),optM (plusM g.n (chM g.n (relM g 1) [relM g 3]))]) (rsM g):=rs_of In.rfl' rr_of
theorem erel_at {i:Nat} (hi:i<g.n):atB (bothL g.n fun i=>atB (bothL g.n fun i=>atB (kindsV g 2 g.n) i||atB (kindsV g 3 g.n) i) i&&atB (withB g [3,4,5]) i) i=relB g i:=by
 rw [atB_both hi,atB_both hi,atB_kinds hi,atB_kinds hi,atB_w3 hi];rfl
theorem eacq_at {i:Nat} (hi:i<g.n):atB (bothL g.n fun i=>atB (bothL g.n fun i=>atB (kindsV g 1 g.n) i||atB (kindsV g 3 g.n) i) i&&atB (withB g [2,4,5]) i) i=acrB g i:=by
 rw [atB_both hi,atB_both hi,atB_kinds hi,atB_kinds hi,atB_w3 hi];rfl
theorem esc_at {i:Nat} (hi:i<g.n):atB (bothL g.n fun i=>atB (withB g [5]) i&&atB (bothL g.n fun i=>atB (kindsV g 1 g.n) i||atB (kindsV g 2 g.n) i) i) i=escB g i:=by
 rw [atB_both hi,atB_with hi,atB_both hi,atB_kinds hi,atB_kinds hi];rfl
theorem fsc_at {i:Nat} (hi:i<g.n):atB (bothL g.n fun i=>atB (withB g [5]) i&&atB (kindsV g 3 g.n) i) i=fscB g i:=by
 rw [atB_both hi,atB_with hi,atB_kinds hi];rfl
end
end Go.Proofs.Tst
