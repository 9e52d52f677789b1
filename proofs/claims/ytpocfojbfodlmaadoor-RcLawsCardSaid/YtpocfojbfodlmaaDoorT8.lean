/-
  Contracts of functions that the law reaches: what each returns and what it leaves in memory. Conditions stand in each.
-/
import Derived.Test.YtpocfojbfodlmaaDoorT7
set_option linter.all false
set_option maxRecDepth 2000
/-
  law10: two, says, buffering, passing, fenced.
-/
namespace Go.Proofs.Tst
open Go Go.Vc
theorem cohGo_len {g:Gr} {a:Nat}:∀ (d b:Nat),(cohGo g a d b).length≤2
 | 0,_=>by simp [cohGo]
 | d+1,b=>by
  rw [cohGo];split
  ·simp
  ·exact cohGo_len d (b+1)
theorem cohAt_len {g:Gr} {a:Nat}:(cohAt g a).length≤2:=by
 unfold cohAt;split
 ·simp
 ·exact cohGo_len _ _
theorem cohFrom_len {g:Gr}:∀ (d a:Nat),(cohFrom g d a).length≤2
 | 0,_=>by simp [cohFrom]
 | d+1,a=>by
  rw [cohFrom];split
  ·exact cohAt_len
  ·exact cohFrom_len d (a+1)
theorem rcAx_len {g:Gr}:(rcAx g).2.length≤g.n+2:=by
 have h0:=cohFrom_len (g:=g) g.n 0
 have h1:=cycS_len (n:=g.n) (M:=pscM g)
 have h2:=cycS_len (n:=g.n) (M:=thinM g)
 have h3:(atomS g).length≤2:=by unfold atomS;split <;> simp
 unfold rcAx
 split
 ·show (coh g).length≤_;unfold coh;omega
 split
 ·show (atomS g).length≤_;omega
 split
 ·simp [natsI];omega
 split
 ·simp [natsI];omega
 ·simp
theorem c_law10_says {h:Heap} {q:GV} {g:Gr} (t:GrAt h q g) (ht:TabAt h) {bv:Value} {l:List Int} (hm:Rd 1 h bv l.length (intsV l)) (ax:Int) :
  Con Tryd.prog 12 #[.agg (gcells q g).toArray,.int .i64 ax,bv] h fun v h'=>Fr 0 0 h h'∧v=.bool (decide ((g.check false).1=0∧rcAx g=(ax,l))):=by
 have p0:Fr 0 0 h h:=.refl _ _ _
 obtain ⟨ba,bc,rfl⟩:=hm.is
 by_cases hc:(g.check false).1=0
 rotate_left
 ·have e:decide ((g.check false).1=0∧rcAx g=(ax,l))=false:=decide_eq_false fun h=>hc h.1
  rw [e]
  refine con_law10_says ?_
  unfold gcells
  simp -dsimp only [go_sem]
  intro b1 h1 n1
  have n1_a:=n1.at_
  have n1_z:=n1.size
  replace p0:=p0.F n1.f0
  have r1:=n1.row
  simp -dsimp only [go_sem,r1.cell]
  refine call_of (rc11_Check (t.fr p0) (ht.fr p0 (.inr rfl))) ?_
  rintro v2 h2 ⟨f2,w⟩
  have f2_z:=f2.size
  replace p0:=p0.F f2
  replace r1:=r1.F f2
  rw [if_neg hc] at w
  subst w
  simp -dsimp only [go_sem,r1.cell]
  exact p0
 have hn:=(good_n (good_false hc)).1
 have hal:=rcAx_len (g:=g)
 refine con_law10_says ?_
 unfold gcells
 simp -dsimp only [go_sem]
 intro b1 h1 n1
 have n1_a:=n1.at_
 have n1_z:=n1.size
 replace p0:=p0.F n1.f0
 have r1:=n1.row
 simp -dsimp only [go_sem,r1.cell]
 refine call_of (rc11_Check (t.fr p0) (ht.fr p0 (.inr rfl))) ?_
 rintro v2 h2 ⟨f2,w⟩
 have f2_z:=f2.size
 replace p0:=p0.F f2
 replace r1:=r1.F f2
 rw [if_pos hc] at w
 obtain ⟨w,rfl,o⟩:=w
 obtain ⟨oa,oc,rfl⟩:=o.is
 by_cases ha:(rcAx g).1=ax
 rotate_left
 ·have e:decide ((g.check false).1=0∧rcAx g=(ax,l))=false:=decide_eq_false fun h=>ha (by rw [h.2])
  rw [e]
  simp -dsimp only [go_sem,beq_f ha,r1.cell]
  exact p0
 simp -dsimp only [go_sem,beq_t ha,r1.cell]
 refine call_of (c_law10_ints (l:=(rcAx g).2) (m:=l) o.rd (hm.fr p0) (by omega)) ?_
 rintro v3 h2 ⟨rfl,rfl⟩
 have e:decide ((rcAx g).2=l)=decide ((g.check false).1=0∧rcAx g=(ax,l)):=by
  rw [Bool.eq_iff_iff,decide_eq_true_iff,decide_eq_true_iff]
  exact ⟨fun h=>⟨hc,Prod.ext ha h⟩,fun h=>by rw [h.2]⟩
 rw [e]
 simp -dsimp only [go_sem,r1.cell]
 exact p0
theorem c_law10_ev (a b c:Int) (d:Int) (m:Int) {h:Heap}:Con Tryd.prog 9 #[.int .i64 a,.int .i64 b,.int .i64 c,.int .u64 d,.int .i64 m] h fun v h'=>Fr 0 0 h h'∧v=.agg #[.int .i64 a,.int .i64 b,.int .i64 c,.int .u64 d,.int .i64 m]:=by
 refine con_law10_ev ?_
 have p0:Fr 0 0 h h:=.refl _ _ _
 simp -dsimp only [go_sem]
 intro b1 h1 n1
 have n1_a:=n1.at_
 have n1_z:=n1.size
 replace p0:=p0.F n1.f0
 have r1:=n1.row
 simp -dsimp only [go_sem,r1.cell]
 refine Chk_intro (r1.wr (by first | (simp;done) | (simp;omega))) fun h2 s2=>?_
 have s2_z:=s2.size
 replace p0:=p0.F s2.fr
 replace r1:=s2.row r1
 try simp only [cl_int,cl_bool,cl_slice,cl_ptr,putAt_one,List.set_cons_zero,List.set_cons_succ,ivec_set,brow_upd] at r1
 try simp -dsimp only [go_sem] at r1
 simp -dsimp only [go_sem,r1.cell]
 exact p0
set_option maxHeartbeats 2000000 in
theorem c_law10_two {h:Heap} {ea fa xa ya:Option Addr} {ec fc xc yc:Nat} {E:List Ev} {rf:List (Int×Int)} {x y:List Int} {lo:Nat} (hlo:lo≤h.size) (he:Rd 5 h (.slice ea E.length ec) E.length (evsV E)) (hf:∀ h',Fr 0 lo h h'→Rd 2 h' (.slice fa rf.length fc) rf.length (pairsV rf)) (hx:Rd 1 h (.slice xa x.length xc) x.length (intsV x)) (hy:Rd 1 h (.slice ya y.length yc) y.length (intsV y))
  (be:E.length≤1000) (bf:rf.length≤1000) (bx:x.length≤1000) (by_:y.length≤1000) :
  Con Tryd.prog 8 #[.slice ea E.length ec,.slice fa rf.length fc,.slice xa x.length xc,.slice ya y.length yc] h fun v h'=>Fr 0 0 h h'∧∃ q,v=.agg (gcells q (twoG 1 E rf x y)).toArray∧∀ h2,Fr 0 lo h' h2→GrAt h2 q (twoG 1 E rf x y):=by
 refine con_law10_two ?_
 have p0:Fr 0 0 h h:=.refl _ _ _
 simp -dsimp only [go_sem]
 intro b8 h1 n1
 have n1_a:=n1.at_
 have n1_z:=n1.size
 replace p0:=p0.F n1.f0
 have r8:=n1.row
 simp -dsimp only [go_sem,r8.cell]
 refine call_of (c_law10_ev (-1) 2 0 0 1) ?_
 rintro v2 h2 ⟨f2,rfl⟩
 have f2_z:=f2.size
 replace p0:=p0.F f2
 replace r8:=r8.F f2
 simp -dsimp only [go_sem,r8.cell]
 refine call_of (c_law10_ev (-1) 2 1 0 1) ?_
 rintro v3 h3 ⟨f3,rfl⟩
 have f3_z:=f3.size
 replace p0:=p0.F f3
 replace r8:=r8.F f3
 simp -dsimp only [go_sem,r8.cell]
 intro b14 h4 n4
 have n4_a:=n4.at_
 have n4_z:=n4.size
 replace p0:=p0.F n4.f0
 replace r8:=r8.F n4.f0
 have r14:=n4.row
 replace r14:Rw h4 b14 (evsV [⟨-1,2,0,0,1⟩,⟨-1,2,1,0,1⟩]):=r14
 simp -dsimp only [go_sem,r8.cell,r14.cell]
 intro b9 h5 n5
 have n5_a:=n5.at_
 have n5_z:=n5.size
 replace p0:=p0.F n5.f0
 replace r8:=r8.F n5.f0
 replace r14:=r14.F n5.f0
 have r9:=n5.row
 simp -dsimp only [go_sem,r8.cell,r14.cell,r9.cell]
 refine Chk_intro (r9.wr (by first | (simp;done) | (simp;omega))) fun h6 s6=>?_
 have s6_z:=s6.size
 replace p0:=p0.F s6.fr
 replace r8:=r8.F s6.fr
 replace r14:=r14.F s6.fr
 replace r9:=s6.row r9
 try simp only [cl_int,cl_bool,cl_slice,cl_ptr,putAt_one,List.set_cons_zero,List.set_cons_succ,ivec_set,brow_upd] at r9
 try simp -dsimp only [go_sem] at r9
 have gb:b8<b14∧b14<b9∧b9<h6.size∧h.size≤b8:=by omega
 simp -dsimp only [go_sem,r8.cell,r14.cell,r9.cell]
 refine (holder_row (s:=5) (n:=2) (lo:=b14) r14 rfl (Nat.le_refl _)).appendRd (he.fr p0) (by omega) rfl (by omega) (oc_evs _) (by omega) fun v7 h7 o7 f7 e7=>?_
 have lb:bl (.slice (some ⟨b14,0,none⟩) 2 2)=b14∧bh (.slice (some ⟨b14,0,none⟩) 2 2)=b14+1:=⟨rfl,rfl⟩
 rw [lb.1,lb.2] at f7
 clear r14
 have z7:=f7.size
 have f7_z:=f7.size
 replace p0:=p0.F f7
 replace r8:=r8.F f7
 replace r9:=r9.F f7
 rw [← evsV_append] at o7
 obtain ⟨a7,c7,rfl⟩:=o7.is
 have a7_a:=o7.at_
 have e7':=e7
 clear e7
 simp -dsimp only [go_sem,r8.cell,r9.cell]
 refine Chk_intro (r9.wr (by first | (simp;done) | (simp;omega))) fun h8 s8=>?_
 have s8_z:=s8.size
 replace p0:=p0.F s8.fr
 replace r8:=r8.F s8.fr
 replace r9:=s8.row r9
 try simp only [cl_int,cl_bool,cl_slice,cl_ptr,putAt_one,List.set_cons_zero,List.set_cons_succ,ivec_set,brow_upd] at r9
 replace o7:=o7.fr s8.fr (by omega)
 simp -dsimp only [go_sem,r8.cell,r9.cell]
 intro b10 h9 n9
 have n9_a:=n9.at_
 have n9_z:=n9.size
 replace p0:=p0.F n9.f0
 replace r8:=r8.F n9.f0
 replace r9:=r9.F n9.f0
 have r10:=n9.row
 replace r10:Rw h9 b10 (intsV [0]):=r10
 replace o7:=o7.fr n9.f0 (by omega)
 simp -dsimp only [go_sem,r8.cell,r9.cell,r10.cell]
 have p9:Fr 0 0 h8 h9:=n9.fr
 refine (holder_row (s:=1) (n:=1) (lo:=b10) r10 rfl (Nat.le_refl _)).appendRd (hx.fr p0) (by omega) rfl (by omega) (oc_ints _) (by omega) fun v10 h10 o10 f10 e10=>?_
 have lb:bl (.slice (some ⟨b10,0,none⟩) 1 1)=b10∧bh (.slice (some ⟨b10,0,none⟩) 1 1)=b10+1:=⟨rfl,rfl⟩
 rw [lb.1,lb.2] at f10
 clear r10
 have z10:=f10.size
 have f10_z:=f10.size
 replace p0:=p0.F f10
 replace r8:=r8.F f10
 replace r9:=r9.F f10
 have o7t:=o7.top
 replace o7:=o7.fr f10 (by omega)
 rw [← intsV_append] at o10
 obtain ⟨a10,c10,rfl⟩:=o10.is
 have a10_a:=o10.at_
 clear e10
 simp -dsimp only [go_sem,r8.cell,r9.cell]
 intro b11 h11 n11
 have n11_a:=n11.at_
 have n11_z:=n11.size
 replace p0:=p0.F n11.f0
 replace r8:=r8.F n11.f0
 replace r9:=r9.F n11.f0
 have r11:=n11.row
 replace r11:Rw h11 b11 (intsV [1]):=r11
 replace o7:=o7.fr n11.f0 (by omega)
 have o10t:=o10.top
 replace o10:=o10.fr n11.f0 (by omega)
 simp -dsimp only [go_sem,r8.cell,r9.cell,r11.cell]
 refine (holder_row (s:=1) (n:=1) (lo:=b11) r11 rfl (Nat.le_refl _)).appendRd (hy.fr p0) (by omega) rfl (by omega) (oc_ints _) (by omega) fun v12 h12 o12 f12 e12=>?_
 have lb:bl (.slice (some ⟨b11,0,none⟩) 1 1)=b11∧bh (.slice (some ⟨b11,0,none⟩) 1 1)=b11+1:=⟨rfl,rfl⟩
 rw [lb.1,lb.2] at f12
 clear r11
 have z12:=f12.size
 have f12_z:=f12.size
 replace p0:=p0.F f12
 replace r8:=r8.F f12
 replace r9:=r9.F f12
 have o7t:=o7.top
 replace o7:=o7.fr f12 (by omega)
 replace o10:=o10.fr f12 (by omega)
 rw [← intsV_append] at o12
 obtain ⟨a12,c12,rfl⟩:=o12.is
 have a12_a:=o12.at_
 clear e12
 simp -dsimp only [go_sem,r8.cell,r9.cell]
 intro b13 h13 n13
 have n13_a:=n13.at_
 have n13_z:=n13.size
 replace p0:=p0.F n13.f0
 replace r8:=r8.F n13.f0
 replace r9:=r9.F n13.f0
 have r13:=n13.row
 try simp -dsimp only [go_sem] at r13
 replace o7:=o7.fr n13.f0 (by omega)
 replace o10:=o10.fr n13.f0 (by omega)
 replace o12:=o12.fr n13.f0 (by omega)
 simp -dsimp only [go_sem,r8.cell,r9.cell,r13.cell]
 refine Chk_intro (r9.wr (by first | (simp;done) | (simp;omega))) fun h14 s14=>?_
 have s14_z:=s14.size
 replace p0:=p0.F s14.fr
 replace r8:=r8.F s14.fr
 replace r13:=r13.F s14.fr
 replace r9:=s14.row r9
 try simp only [cl_int,cl_bool,cl_slice,cl_ptr,putAt_one,List.set_cons_zero,List.set_cons_succ,ivec_set,brow_upd] at r9
 try simp -dsimp only [go_sem] at r9
 have z14:=s14.size
 replace o7:=o7.fr s14.fr (by omega)
 replace o10:=o10.fr s14.fr (by omega)
 replace o12:=o12.fr s14.fr (by omega)
 simp -dsimp only [go_sem,r8.cell,r9.cell,r13.cell]
 refine Chk_intro (r8.wr (by first | (simp;done) | (simp;omega))) fun h15 s15=>?_
 have s15_z:=s15.size
 replace p0:=p0.F s15.fr
 replace r9:=r9.F s15.fr
 replace r13:=r13.F s15.fr
 replace r8:=s15.row r8
 try simp only [cl_int,cl_bool,cl_slice,cl_ptr,putAt_one,List.set_cons_zero,List.set_cons_succ,ivec_set,brow_upd] at r8
 have z15:=s15.size
 replace o7:=o7.fr s15.fr (by omega)
 replace o10:=o10.fr s15.fr (by omega)
 replace o12:=o12.fr s15.fr (by omega)
 simp -dsimp only [go_sem,r8.cell,r9.cell,r13.cell]
 have hl:(twoG 1 E rf x y).evs.length=2+E.length:=by simp [twoG];omega
 have hx2:(intsV ([0]++x)).length=1+x.length:=by simp;omega
 have hy2:(intsV ([1]++y)).length=1+y.length:=by simp;omega
 refine ⟨p0,⟨a7,fa,some ⟨b13,0,none⟩,none,none,none,none,c7,fc,2,0,0,0,0⟩,by unfold gcells;rw [hl];rfl,fun h16 f16=>?_⟩
 replace o7:=o7.fr f16 (by have:=o7.at_;omega)
 replace o10:=o10.fr f16 (by have:=o10.at_;omega)
 replace o12:=o12.fr f16 (by have:=o12.at_;omega)
 replace r13:=r13.F f16
 obtain ⟨u1,v1,k1,k1'⟩:=o10.room (by omega)
 cases k1
 obtain ⟨u2,v2,k2,k2'⟩:=o12.room (by omega)
 cases k2
 have hrl:RLc h16 (.slice (some ⟨b13,0,none⟩) 2 2) [intsV ([0]++x),intsV ([1]++y)]:=by
  refine ⟨_,Rw.rd (s:=1) r13 rfl,fun i l hi=>?_⟩
  match i,hi with
  | 0,hi =>
   cases hi
   exact ⟨_,_,by rw [hx2];rfl,by rw [hx2];exact k1',by rw [hx2];exact o10.rd⟩
  | 1,hi =>
   cases hi
   exact ⟨_,_,by rw [hy2];rfl,by rw [hy2];exact k2',by rw [hy2];exact o12.rd⟩
  | i+2,hi=>simp at hi
 refine ⟨by rw [hl];exact o7.rd,hf _ ((p0.wide (Nat.zero_le _)).trans f16),rlc_rl hrl,nilP,nilP,nilP,nilP,⟨by rw [hl];omega,by show rf.length≤_;omega,by show 2≤_;omega,by show 0≤_;omega,by show 0≤_;omega,by show 0≤_;omega,by show 0≤_;omega,fun l hl=>?_⟩,by show 2≤2;omega,hrl⟩
 have hl:l=[0]++x∨l=[1]++y:=by simpa [twoG] using hl
 rcases hl with rfl | rfl <;> (simp;omega)
theorem c_law10_buffering (w r:Int) {h:Heap}:Con Tryd.prog 11 #[.int .i64 w,.int .i64 r] h fun v h'=>Fr 0 0 h h'∧∃ q,v=.agg (gcells q (bufG 1 w r)).toArray∧GrAt h' q (bufG 1 w r):=by
 refine con_law10_buffering ?_
 have p0:Fr 0 0 h h:=.refl _ _ _
 simp -dsimp only [go_sem]
 intro b4 h1 n1
 have n1_a:=n1.at_
 have n1_z:=n1.size
 replace p0:=p0.F n1.f0
 have r4:=n1.row
 simp -dsimp only [go_sem,r4.cell]
 refine call_of (c_law10_ev 0 2 0 1 w) ?_
 rintro v h2 ⟨f2,rfl⟩
 have f2_z:=f2.size
 replace p0:=p0.F f2
 replace r4:=r4.F f2
 simp -dsimp only [go_sem,r4.cell]
 refine call_of (c_law10_ev 0 1 1 0 r) ?_
 rintro v h3 ⟨f3,rfl⟩
 have f3_z:=f3.size
 replace p0:=p0.F f3
 replace r4:=r4.F f3
 simp -dsimp only [go_sem,r4.cell]
 refine call_of (c_law10_ev 1 2 1 1 w) ?_
 rintro v h4 ⟨f4,rfl⟩
 have f4_z:=f4.size
 replace p0:=p0.F f4
 replace r4:=r4.F f4
 simp -dsimp only [go_sem,r4.cell]
 refine call_of (c_law10_ev 1 1 0 0 r) ?_
 rintro v h5 ⟨f5,rfl⟩
 have f5_z:=f5.size
 replace p0:=p0.F f5
 replace r4:=r4.F f5
 simp -dsimp only [go_sem,r4.cell]
 intro b6 h6 n6
 have n6_a:=n6.at_
 have n6_z:=n6.size
 replace p0:=p0.F n6.f0
 replace r4:=r4.F n6.f0
 have r6:=n6.row
 simp -dsimp only [go_sem,r4.cell,r6.cell]
 intro b7 h7 n7
 have n7_a:=n7.at_
 have n7_z:=n7.size
 replace p0:=p0.F n7.f0
 replace r4:=r4.F n7.f0
 replace r6:=r6.F n7.f0
 have r7:=n7.row
 simp -dsimp only [go_sem,r4.cell,r6.cell,r7.cell]
 intro b8 h8 n8
 have n8_a:=n8.at_
 have n8_z:=n8.size
 replace p0:=p0.F n8.f0
 replace r4:=r4.F n8.f0
 replace r6:=r6.F n8.f0
 replace r7:=r7.F n8.f0
 have r8:=n8.row
 simp -dsimp only [go_sem,r4.cell,r6.cell,r7.cell,r8.cell]
 intro b9 h9 n9
 have n9_a:=n9.at_
 have n9_z:=n9.size
 replace p0:=p0.F n9.f0
 replace r4:=r4.F n9.f0
 replace r6:=r6.F n9.f0
 replace r7:=r7.F n9.f0
 replace r8:=r8.F n9.f0
 have r9:=n9.row
 simp -dsimp only [go_sem,r4.cell,r6.cell,r7.cell,r8.cell,r9.cell]
 refine call_of (c_law10_two (E:=bufE w r) (rf:=[(1,3),(0,5)]) (x:=[2]) (y:=[4]) (lo:=b4+1) (by omega) (Rw.rd (s:=5) (n:=4) (c:=4) r6 rfl) (fun h' f=>Rw.rd (s:=2) (n:=2) (c:=2) (r7.fr f (by omega)) rfl) (Rw.rd (s:=1) (n:=1) (c:=1) r8 rfl) (Rw.rd (s:=1) (n:=1) (c:=1) r9 rfl) (Nat.le_of_ble_eq_true rfl) (by simp) (by simp) (by simp)) ?_
 rintro v h10 ⟨f10,q,rfl,t⟩
 have f10_z:=f10.size
 replace p0:=p0.F f10
 replace r4:=r4.F f10
 replace r6:=r6.F f10
 replace r7:=r7.F f10
 replace r8:=r8.F f10
 replace r9:=r9.F f10
 unfold gcells
 simp -dsimp only [go_sem,r4.cell,r6.cell,r7.cell,r8.cell,r9.cell]
 refine Chk_intro (r4.wr (by first | (simp;done) | (simp;omega))) fun h11 s11=>?_
 have s11_z:=s11.size
 replace p0:=p0.F s11.fr
 replace r6:=r6.F s11.fr
 replace r7:=r7.F s11.fr
 replace r8:=r8.F s11.fr
 replace r9:=r9.F s11.fr
 replace r4:=s11.row r4
 try simp only [cl_int,cl_bool,cl_slice,cl_ptr,putAt_one,List.set_cons_zero,List.set_cons_succ,ivec_set,brow_upd] at r4
 have t:=t _ (s11.fr.wide (Nat.le_refl _))
 simp -dsimp only [go_sem,r4.cell,r6.cell,r7.cell,r8.cell,r9.cell]
 exact ⟨p0,q,rfl,t⟩
theorem c_law10_passing (w r:Int) {h:Heap}:Con Tryd.prog 27 #[.int .i64 w,.int .i64 r] h fun v h'=>Fr 0 0 h h'∧∃ q,v=.agg (gcells q (pasG 1 w r)).toArray∧GrAt h' q (pasG 1 w r):=by
 refine con_law10_passing ?_
 have p0:Fr 0 0 h h:=.refl _ _ _
 simp -dsimp only [go_sem]
 intro b4 h1 n1
 have n1_a:=n1.at_
 have n1_z:=n1.size
 replace p0:=p0.F n1.f0
 have r4:=n1.row
 simp -dsimp only [go_sem,r4.cell]
 refine call_of (c_law10_ev 0 2 0 1 1) ?_
 rintro v h2 ⟨f2,rfl⟩
 have f2_z:=f2.size
 replace p0:=p0.F f2
 replace r4:=r4.F f2
 simp -dsimp only [go_sem,r4.cell]
 refine call_of (c_law10_ev 0 2 1 1 w) ?_
 rintro v h3 ⟨f3,rfl⟩
 have f3_z:=f3.size
 replace p0:=p0.F f3
 replace r4:=r4.F f3
 simp -dsimp only [go_sem,r4.cell]
 refine call_of (c_law10_ev 1 1 1 1 r) ?_
 rintro v h4 ⟨f4,rfl⟩
 have f4_z:=f4.size
 replace p0:=p0.F f4
 replace r4:=r4.F f4
 simp -dsimp only [go_sem,r4.cell]
 refine call_of (c_law10_ev 1 1 0 0 1) ?_
 rintro v h5 ⟨f5,rfl⟩
 have f5_z:=f5.size
 replace p0:=p0.F f5
 replace r4:=r4.F f5
 simp -dsimp only [go_sem,r4.cell]
 intro b6 h6 n6
 have n6_a:=n6.at_
 have n6_z:=n6.size
 replace p0:=p0.F n6.f0
 replace r4:=r4.F n6.f0
 have r6:=n6.row
 simp -dsimp only [go_sem,r4.cell,r6.cell]
 intro b7 h7 n7
 have n7_a:=n7.at_
 have n7_z:=n7.size
 replace p0:=p0.F n7.f0
 replace r4:=r4.F n7.f0
 replace r6:=r6.F n7.f0
 have r7:=n7.row
 simp -dsimp only [go_sem,r4.cell,r6.cell,r7.cell]
 intro b8 h8 n8
 have n8_a:=n8.at_
 have n8_z:=n8.size
 replace p0:=p0.F n8.f0
 replace r4:=r4.F n8.f0
 replace r6:=r6.F n8.f0
 replace r7:=r7.F n8.f0
 have r8:=n8.row
 simp -dsimp only [go_sem,r4.cell,r6.cell,r7.cell,r8.cell]
 intro b9 h9 n9
 have n9_a:=n9.at_
 have n9_z:=n9.size
 replace p0:=p0.F n9.f0
 replace r4:=r4.F n9.f0
 replace r6:=r6.F n9.f0
 replace r7:=r7.F n9.f0
 replace r8:=r8.F n9.f0
 have r9:=n9.row
 simp -dsimp only [go_sem,r4.cell,r6.cell,r7.cell,r8.cell,r9.cell]
 refine call_of (c_law10_two (E:=pasE 1 w r) (rf:=[(3,4),(0,5)]) (x:=[2]) (y:=[3]) (lo:=b4+1) (by omega) (Rw.rd (s:=5) (n:=4) (c:=4) r6 rfl) (fun h' f=>Rw.rd (s:=2) (n:=2) (c:=2) (r7.fr f (by omega)) rfl) (Rw.rd (s:=1) (n:=1) (c:=1) r8 rfl) (Rw.rd (s:=1) (n:=1) (c:=1) r9 rfl) (Nat.le_of_ble_eq_true rfl) (by simp) (by simp) (by simp)) ?_
 rintro v h10 ⟨f10,q,rfl,t⟩
 have f10_z:=f10.size
 replace p0:=p0.F f10
 replace r4:=r4.F f10
 replace r6:=r6.F f10
 replace r7:=r7.F f10
 replace r8:=r8.F f10
 replace r9:=r9.F f10
 unfold gcells
 simp -dsimp only [go_sem,r4.cell,r6.cell,r7.cell,r8.cell,r9.cell]
 refine Chk_intro (r4.wr (by first | (simp;done) | (simp;omega))) fun h11 s11=>?_
 have s11_z:=s11.size
 replace p0:=p0.F s11.fr
 replace r6:=r6.F s11.fr
 replace r7:=r7.F s11.fr
 replace r8:=r8.F s11.fr
 replace r9:=r9.F s11.fr
 replace r4:=s11.row r4
 try simp only [cl_int,cl_bool,cl_slice,cl_ptr,putAt_one,List.set_cons_zero,List.set_cons_succ,ivec_set,brow_upd] at r4
 have t:=t _ (s11.fr.wide (Nat.le_refl _))
 simp -dsimp only [go_sem,r4.cell,r6.cell,r7.cell,r8.cell,r9.cell]
 exact ⟨p0,q,rfl,t⟩
end Go.Proofs.Tst
/-
  law10: lives.
-/
namespace Go.Proofs.Tst
open Go Go.Vc
theorem sb1:decide (((bufG 1 1 1).check false).1=0∧rcAx (bufG 1 1 1)=(0,[]))=true:=by decide +kernel
theorem sb2:decide (((bufG 1 5 5).check false).1=0∧rcAx (bufG 1 5 5)=(3,[2,3,4,5]))=true:=by decide +kernel
theorem sp2:decide (((pasG 1 3 2).check false).1=0∧rcAx (pasG 1 3 2)=(1,[2,5]))=true:=by decide +kernel
theorem sp1:decide (((pasG 1 3 1).check false).1=0∧rcAx (pasG 1 3 1)=(0,[]))=true:=by decide +kernel
theorem sp3:((pasG 1 3 2).check false).1=0:=by decide +kernel
theorem sp4:pairsOf (pasG 1 3 2).n (swM (pasG 1 3 2))=[(3,4)]:=by decide +kernel
set_option maxHeartbeats 2000000 in
theorem law10_lives {h:Heap} (ht:TabAt h):Con Tryd.prog 7 #[] h fun v h'=>Fr 0 0 h h'∧v=.bool true:=by
 refine con_law10_lives ?_
 have p0:Fr 0 0 h h:=.refl _ _ _
 simp -dsimp only [go_sem]
 refine call_of (c_law10_passing 3 2) ?_
 rintro v1 h1 ⟨f1,q1,rfl,t1⟩
 have f1_z:=f1.size
 replace p0:=p0.F f1
 simp -dsimp only [go_sem]
 refine call_of (rc11_Derive t1 (ht.fr p0 (.inr rfl))) ?_
 rintro v2 h2 ⟨f2,w⟩
 have f2_z:=f2.size
 replace p0:=p0.F f2
 rw [if_pos sp3] at w
 obtain ⟨x,rfl,D⟩:=w
 obtain ⟨_,_,g1,-,ab⟩:=D 1 (by decide)
 obtain ⟨c0,e0⟩:=(D 0 (by decide)).pa.ptr
 obtain ⟨c1,e1⟩:=(D 1 (by decide)).pa.ptr
 obtain ⟨c2,e2⟩:=(D 2 (by decide)).pa.ptr
 obtain ⟨c3,e3⟩:=(D 3 (by decide)).pa.ptr
 obtain ⟨c4,e4⟩:=(D 4 (by decide)).pa.ptr
 obtain ⟨c5,e5⟩:=(D 5 (by decide)).pa.ptr
 obtain ⟨c6,e6⟩:=(D 6 (by decide)).pa.ptr
 rw [e0,e1,e2,e3,e4,e5,e6]
 rw [e1] at g1
 replace g1:ProgAt h2 _ _ _ (pasG 1 3 2).n (swM (pasG 1 3 2)):=g1
 have p2:Fr 0 0 h2 h2:=.refl _ _ _
 simp -dsimp only [go_sem]
 intro b3 h3 n3
 have n3_a:=n3.at_
 have n3_z:=n3.size
 replace p0:=p0.F n3.f0
 replace p2:=p2.F n3.f0
 have r3:=n3.row
 simp -dsimp only [go_sem,r3.cell]
 refine Chk_intro (r3.wr (by first | (simp;done) | (simp;omega))) fun h4 s4=>?_
 have s4_z:=s4.size
 replace p0:=p0.F s4.fr
 replace p2:=p2.F s4.fr
 replace r3:=s4.row r3
 try simp only [cl_int,cl_bool,cl_slice,cl_ptr,putAt_one,List.set_cons_zero,List.set_cons_succ,ivec_set,brow_upd] at r3
 try simp -dsimp only [go_sem] at r3
 simp -dsimp only [go_sem,r3.cell]
 refine call_of (c_law10_buffering 1 1) ?_
 rintro v5 h5 ⟨f5,q5,rfl,t5⟩
 have f5_z:=f5.size
 replace p0:=p0.F f5
 replace p2:=p2.F f5
 replace r3:=r3.F f5
 simp -dsimp only [go_sem,r3.cell]
 refine call_of (c_law10_says t5 (ht.fr p0 (.inr rfl)) nilI 0) ?_
 rintro v6 h6 ⟨f6,rfl⟩
 have f6_z:=f6.size
 replace p0:=p0.F f6
 replace p2:=p2.F f6
 replace r3:=r3.F f6
 rw [sb1]
 simp -dsimp only [go_sem,r3.cell]
 refine call_of (c_law10_buffering 5 5) ?_
 rintro v7 h7 ⟨f7,q7,rfl,t7⟩
 have f7_z:=f7.size
 replace p0:=p0.F f7
 replace p2:=p2.F f7
 replace r3:=r3.F f7
 simp -dsimp only [go_sem,r3.cell]
 intro b8 h8 n8
 have n8_a:=n8.at_
 have n8_z:=n8.size
 replace p0:=p0.F n8.f0
 replace p2:=p2.F n8.f0
 replace r3:=r3.F n8.f0
 have r8:=n8.row
 have t8:=t7.fr n8.fr
 simp -dsimp only [go_sem,r3.cell,r8.cell]
 refine call_of (c_law10_says t8 (ht.fr p0 (.inr rfl)) (l:=[2,3,4,5]) (Rw.rd (s:=1) (n:=4) (c:=4) r8 rfl) 3) ?_
 rintro v9 h9 ⟨f9,rfl⟩
 have f9_z:=f9.size
 replace p0:=p0.F f9
 replace p2:=p2.F f9
 replace r3:=r3.F f9
 replace r8:=r8.F f9
 rw [sb2]
 simp -dsimp only [go_sem,r3.cell,r8.cell]
 refine call_of (c_law10_passing 3 2) ?_
 rintro v12 h12 ⟨f12,q12,rfl,t12⟩
 have f12_z:=f12.size
 replace p0:=p0.F f12
 replace p2:=p2.F f12
 replace r3:=r3.F f12
 replace r8:=r8.F f12
 simp -dsimp only [go_sem,r3.cell,r8.cell]
 intro b13 h13 n13
 have n13_a:=n13.at_
 have n13_z:=n13.size
 replace p0:=p0.F n13.f0
 replace p2:=p2.F n13.f0
 replace r3:=r3.F n13.f0
 replace r8:=r8.F n13.f0
 have r13:=n13.row
 have t13:=t12.fr n13.fr
 simp -dsimp only [go_sem,r3.cell,r8.cell,r13.cell]
 refine call_of (c_law10_says t13 (ht.fr p0 (.inr rfl)) (l:=[2,5]) (Rw.rd (s:=1) (n:=2) (c:=2) r13 rfl) 1) ?_
 rintro v14 h14 ⟨f14,rfl⟩
 have f14_z:=f14.size
 replace p0:=p0.F f14
 replace p2:=p2.F f14
 replace r3:=r3.F f14
 replace r8:=r8.F f14
 replace r13:=r13.F f14
 rw [sp2]
 simp -dsimp only [go_sem,r3.cell,r8.cell,r13.cell]
 refine call_of (c_law10_passing 3 1) ?_
 rintro v10 h10 ⟨f10,q10,rfl,t10⟩
 have f10_z:=f10.size
 replace p0:=p0.F f10
 replace p2:=p2.F f10
 replace r3:=r3.F f10
 replace r8:=r8.F f10
 replace r13:=r13.F f10
 simp -dsimp only [go_sem,r3.cell,r8.cell,r13.cell]
 refine call_of (c_law10_says t10 (ht.fr p0 (.inr rfl)) nilI 0) ?_
 rintro v11 h11 ⟨f11,rfl⟩
 have f11_z:=f11.size
 replace p0:=p0.F f11
 replace p2:=p2.F f11
 replace r3:=r3.F f11
 replace r8:=r8.F f11
 replace r13:=r13.F f11
 rw [sp1]
 simp -dsimp only [go_sem,r3.cell,r8.cell,r13.cell]
 refine call_of (rel_Pairs (g1.fr p2 (by omega)) (ht.fr p0 (.inr rfl))) ?_
 rintro v15 h15 ⟨f15,o15⟩
 have f15_z:=f15.size
 replace p0:=p0.F f15
 replace p2:=p2.F f15
 replace r3:=r3.F f15
 replace r8:=r8.F f15
 replace r13:=r13.F f15
 rw [sp4] at o15
 simp -dsimp only [go_sem,r3.cell,r8.cell,r13.cell]
 intro b16 h16 n16
 have n16_a:=n16.at_
 have n16_z:=n16.size
 replace p0:=p0.F n16.f0
 replace p2:=p2.F n16.f0
 replace r3:=r3.F n16.f0
 replace r8:=r8.F n16.f0
 replace r13:=r13.F n16.f0
 have r16:=n16.row
 have o16:=o15.rd.fr n16.fr
 simp -dsimp only [go_sem,r3.cell,r8.cell,r13.cell,r16.cell]
 refine call_of (c_law10_pairs (l:=[(3,4)]) (m:=[(3,4)]) o16 (Rw.rd (s:=2) (n:=1) (c:=1) r16 rfl) (by decide)) ?_
 rintro v17 h16 ⟨rfl,rfl⟩
 simp -dsimp only [go_sem,dec_self,r3.cell,r8.cell,r13.cell,r16.cell]
 exact p0
end Go.Proofs.Tst
/-
  ArmWeaker.
-/
namespace Go.Proofs.Tst
open Go Go.Vc
theorem holder_mode {h:Heap} {b n c lo:Nat} {E:List Ev} (w:Holder 5 h (.slice (some ⟨b,0,none⟩) n c) n (evsV E) lo) {i:Nat} (hi:i<n):hcell h b (i * 5+4)=some (.int .i64 (E.getD i default).mode):=by
 have hl:=w.1
 rw [length_evsV] at hl
 have hE:i<E.length:=by omega
 obtain ⟨b',c',rest,h1,h2,h3,h4⟩:=w.blk (by omega)
 cases h1
 have he:E[i]?=some (E.getD i default):=by simp [hE]
 rw [h2.cell,List.getElem?_append_left (by simp;omega),evsV_get he 4 (by omega)]
 rfl
theorem GrOwn.modes {h:Heap} {q:GV} {g:Gr} {lo:Nat} (w:GrOwn h q g lo) (hn:0<g.n):∃ b,q.e=some ⟨b,0,none⟩∧∀ i,i<g.n→hcell h b (i * 5+4)=some (.int .i64 (g.ev i).mode):=by
 obtain ⟨b,hb,-⟩:=w.ev hn
 have we:=w.e
 rw [hb] at we
 exact ⟨b,hb,fun i hi=>holder_mode we hi⟩
structure WkTo (g:Gr) (E:List Ev) (i:Nat):Prop where
 len:E.length=g.evs.length
 same:∀ j,i≤j→E.getD j default=g.ev j
 thr:∀ j,(E.getD j default).thread=(g.ev j).thread
 kind:∀ j,(E.getD j default).kind=(g.ev j).kind
 loc:∀ j,(E.getD j default).loc=(g.ev j).loc
 val:∀ j,(E.getD j default).val=(g.ev j).val
 mode:∀ j,weakM (g.ev j).mode (E.getD j default).mode
theorem WkTo.keep {g:Gr} {E:List Ev} {i:Nat} (w:WkTo g E i):WkTo g E (i+1):=⟨w.len,fun j hj=>w.same j (by omega),w.thr,w.kind,w.loc,w.val,w.mode⟩
theorem setMode_get {E:List Ev} {i j:Nat} {m:Int} (hi:i<E.length):(setMode E i m).getD j default=if j=i then { E.getD i default with mode:=m } else E.getD j default:=by
 unfold setMode
 rw [List.getD_eq_getElem?_getD,List.getElem?_set]
 by_cases h:i=j
 ·subst h;rw [if_pos rfl,if_pos hi,if_pos rfl];rfl
 ·rw [if_neg h,if_neg (Ne.symm h),List.getD_eq_getElem?_getD]
theorem WkTo.set {g:Gr} {E:List Ev} {i:Nat} {m:Int} (w:WkTo g E i) (hi:i<g.evs.length) (hm:weakM (g.ev i).mode m):WkTo g (setMode E i m) (i+1):=by
 have hE:i<E.length:=by rw [w.len];exact hi
 refine ⟨by simp [w.len],fun j hj=>?_,fun j=>?_,fun j=>?_,fun j=>?_,fun j=>?_,fun j=>?_⟩ <;> rw [setMode_get hE]
 ·rw [if_neg (by omega)];exact w.same j (by omega)
 all_goals
  by_cases h:j=i
  ·subst h
   rw [if_pos rfl]
   first | exact w.thr j | exact w.kind j | exact w.loc j | exact w.val j | exact hm
  ·rw [if_neg h]
   first | exact w.thr j | exact w.kind j | exact w.loc j | exact w.val j | exact w.mode j
end Go.Proofs.Tst
/-
  RcLaws.
-/
namespace Go.Proofs.Tst
open Go Go.Vc
set_option maxHeartbeats 8000000 in
theorem c_law10_RcLaws {h:Heap} {q:GV} {g:Gr} (t:GrAt h q g) (ht:TabAt h) :
  Con Tryd.prog 6 #[.agg (gcells q g).toArray] h fun v h'=>Fr 0 0 h h'∧v=.bool true:=by
 refine con_law10_RcLaws ?_
 have hen:g.evs.length=g.n:=rfl
 have be:=t.fits.e
 have bf:=t.fits.f
 have p0:Fr 0 0 h h:=.refl _ _ _
 unfold gcells
 simp -dsimp only [go_sem]
 intro b1 h1 n1
 have n1_a:=n1.at_
 have n1_z:=n1.size
 replace p0:=p0.F n1.f0
 have r1:=n1.row
 simp -dsimp only [go_sem,r1.cell]
 refine call_of (rc11_Derive (t.fr p0) (ht.fr p0 (.inr rfl))) ?_
 rintro v2 h2 ⟨f2,w2⟩
 have f2_z:=f2.size
 replace p0:=p0.F f2
 replace r1:=r1.F f2
 by_cases hc:(g.check false).1=0
 rotate_left
 ·rw [if_neg hc] at w2
  subst w2
  simp -dsimp only [go_sem,r1.cell]
  intro b3 h3 n3
  have n3_a:=n3.at_
  have n3_z:=n3.size
  replace p0:=p0.F n3.f0
  replace r1:=r1.F n3.f0
  have r3:=n3.row
  simp -dsimp only [go_sem,r1.cell,r3.cell]
  refine Chk_intro (r3.wr (by first | (simp;done) | (simp;omega))) fun h4 s4=>?_
  have s4_z:=s4.size
  replace p0:=p0.F s4.fr
  replace r1:=r1.F s4.fr
  replace r3:=s4.row r3
  try simp only [cl_int,cl_bool,cl_slice,cl_ptr,putAt_one,List.set_cons_zero,List.set_cons_succ,ivec_set,brow_upd] at r3
  try simp -dsimp only [go_sem] at r3
  simp -dsimp only [go_sem,r1.cell,r3.cell]
  refine call_of (rc11_Check (t.fr p0) (ht.fr p0 (.inr rfl))) ?_
  rintro v5 h5 ⟨f5,w5⟩
  have f5_z:=f5.size
  replace p0:=p0.F f5
  replace r1:=r1.F f5
  replace r3:=r3.F f5
  rw [if_neg hc] at w5
  subst w5
  simp -dsimp only [go_sem,r1.cell,r3.cell]
  refine call_of (law10_lives (ht.fr p0 (.inr rfl))) ?_
  rintro v6 h6 ⟨f6,rfl⟩
  have f6_z:=f6.size
  replace p0:=p0.F f6
  replace r1:=r1.F f6
  replace r3:=r3.F f6
  simp -dsimp only [go_sem,r1.cell,r3.cell]
  exact p0
 have hg:=good_false hc
 have hn:=(good_n hg).1
 have hcl:clampN (g.n:Int)=g.n:=by unfold clampN;omega
 rw [if_pos hc] at w2
 obtain ⟨x,rfl,D⟩:=w2
 obtain ⟨c0,e0⟩:=(D 0 (by decide)).pa.ptr
 obtain ⟨c1,e1⟩:=(D 1 (by decide)).pa.ptr
 obtain ⟨c2,e2⟩:=(D 2 (by decide)).pa.ptr
 obtain ⟨c3,e3⟩:=(D 3 (by decide)).pa.ptr
 obtain ⟨c4,e4⟩:=(D 4 (by decide)).pa.ptr
 obtain ⟨c5,e5⟩:=(D 5 (by decide)).pa.ptr
 obtain ⟨c6,e6⟩:=(D 6 (by decide)).pa.ptr
 have D1:=D 1 (by decide)
 have D2:=D 2 (by decide)
 have D3:=D 3 (by decide)
 rw [e1] at D1
 rw [e2] at D2
 rw [e3] at D3
 replace D1:PN h2 h1.size _ g.n (swM g):=D1
 replace D2:PN h2 h1.size _ g.n (hbM g):=D2
 replace D3:PN h2 h1.size _ g.n (ecoM g):=D3
 rw [e0,e1,e2,e3,e4,e5,e6]
 clear D e0 e1 e2 e3 e4 e5 e6
 have p2:Fr 0 0 h2 h2:=.refl _ _ _
 simp -dsimp only [go_sem,r1.cell]
 intro b3 h3 n3
 have n3_a:=n3.at_
 have n3_z:=n3.size
 replace p0:=p0.F n3.f0
 replace r1:=r1.F n3.f0
 replace p2:=p2.F n3.f0
 have r3:=n3.row
 simp -dsimp only [go_sem,r1.cell,r3.cell]
 refine Chk_intro (r3.wr (by first | (simp;done) | (simp;omega))) fun h4 s4=>?_
 have s4_z:=s4.size
 replace p0:=p0.F s4.fr
 replace r1:=r1.F s4.fr
 replace p2:=p2.F s4.fr
 replace r3:=s4.row r3
 try simp only [cl_int,cl_bool,cl_slice,cl_ptr,putAt_one,List.set_cons_zero,List.set_cons_succ,ivec_set,brow_upd] at r3
 try simp -dsimp only [go_sem] at r3
 simp -dsimp only [go_sem,r1.cell,r3.cell]
 refine call_of (rc11_Check (t.fr p0) (ht.fr p0 (.inr rfl))) ?_
 rintro v5 h5 ⟨f5,w5⟩
 have f5_z:=f5.size
 replace p0:=p0.F f5
 replace r1:=r1.F f5
 replace p2:=p2.F f5
 replace r3:=r3.F f5
 rw [if_pos hc] at w5
 obtain ⟨w5,rfl,-⟩:=w5
 simp -dsimp only [go_sem,r1.cell,r3.cell]
 obtain ⟨_,_,ta⟩:=(D1.fr p2 (by omega)).pa
 refine call_of (rel_Pairs ta (ht.fr p0 (.inr rfl))) ?_
 rintro v6 h6 ⟨f6,o6⟩
 have f6_z:=f6.size
 replace p0:=p0.F f6
 replace r1:=r1.F f6
 replace p2:=p2.F f6
 replace r3:=r3.F f6
 obtain ⟨a6,c6',rfl⟩:=o6.is
 have hpl:(pairsOf g.n (swM g)).length≤65536:=by
  have g4:(pairsOf g.n (swM g)).length≤g.n * g.n:=length_pairsTo_le g.n _ g.n
  have g3:g.n * g.n≤256 * 256:=Nat.mul_le_mul (by omega) (by omega)
  omega
 have hmem:∀ p∈pairsOf g.n (swM g),∃ a b:Nat,a<g.n∧b<g.n∧swM g a b=true∧p=((a:Int),(b:Int)):=fun p hp=>mem_pairsOf.1 hp
 have o6r:=o6.rd
 clear o6 ta
 generalize pairsOf g.n (swM g)=L at o6r hpl hmem
 simp -dsimp only [go_sem,r1.cell,r3.cell]
 have P0:=p0
 have P2:=p2
 have K1:=r1
 have K3:=r3
 have P6:Fr 0 0 h6 h6:=.refl _ _ _
 have gz:h.size≤h6.size∧h2.size≤h6.size∧b1<h6.size∧b3<h6.size:=by omega
 refine loop_intro (fun i:Nat=>[(1,.pointer (some ⟨b1,0,none⟩)),(3,.pointer (some ⟨b3,0,none⟩)),(5,.int .i64 (rcAx g).1),(8,.slice a6 L.length c6'),(9,.int .i64 i)])
  (fun i h'=>i≤L.length∧Fr 0 0 h6 h') (fun i=>L.length - i) 0 ?_ ?_ ?_
 ·simp [Le,find]
 ·exact ⟨by omega,P6⟩
 clear p0 p2 r1 r3
 rintro i h7 ⟨hi,p6⟩
 have p0:=P0.trans p6
 have p2:=P2.trans p6
 have r1:=K1.fr p6 (by omega)
 have r3:=K3.fr p6 (by omega)
 have p0_z:=p0.size
 have p2_z:=p2.size
 have p6_z:=p6.size
 have r1_l:=r1.lt
 have r3_l:=r3.lt
 by_cases hlt:i<L.length
 ·have e1:((i:Int)<(L.length:Int)):=by omega
  have hq:L[i]?=some L[i]:=List.getElem?_eq_getElem hlt
  have hm:=hmem _ (List.mem_of_getElem? hq)
  generalize L[i]=pr at hq hm
  obtain ⟨a,b,han,hbn,hs,rfl⟩:=hm
  obtain ⟨k1,k2,k3,k4,k5⟩:=sw_ends hc han hs
  obtain ⟨rb,ro,hre,hrc⟩:=o6r.pairsAt (by omega)
  obtain ⟨x1,x2⟩:=hrc h7 p6 i _ hq
  dsimp only at x1 x2
  obtain ⟨eb,eo,he,hev⟩:=t.evs (by omega)
  obtain ⟨s0,s1,s2,s3,s4⟩:=hev h7 p0 a han
  have ea:((a:Int)<(g.n:Int)):=by omega
  have eb':((b:Int)<(g.n:Int)):=by omega
  simp -dsimp only [go_sem,e1,hre,x1,x2,he,evs_len,ea,eb',s0,s1,s2,s3,s4,r1.cell,r3.cell]
  intro b10 h8 n8
  have n8_a:=n8.at_
  have n8_z:=n8.size
  replace p0:=p0.F n8.f0
  replace p2:=p2.F n8.f0
  replace p6:=p6.F n8.f0
  replace r1:=r1.F n8.f0
  replace r3:=r3.F n8.f0
  have r10:=n8.row
  simp -dsimp only [go_sem,r1.cell,r3.cell,r10.cell]
  refine Chk_intro (r10.wr (by first | (simp;done) | (simp;omega))) fun h9 z9=>?_
  have z9_z:=z9.size
  replace p0:=p0.F z9.fr
  replace p2:=p2.F z9.fr
  replace p6:=p6.F z9.fr
  replace r1:=r1.F z9.fr
  replace r3:=r3.F z9.fr
  replace r10:=z9.row r10
  try simp only [cl_int,cl_bool,cl_slice,cl_ptr,putAt_one,List.set_cons_zero,List.set_cons_succ,ivec_set,brow_upd] at r10
  try simp -dsimp only [go_sem] at r10
  obtain ⟨x1,x2⟩:=hrc h9 p6 i _ hq
  dsimp only at x1 x2
  obtain ⟨u0,u1,u2,u3,u4⟩:=hev h9 p0 b hbn
  simp -dsimp only [go_sem,e1,hre,x1,x2,he,evs_len,ea,eb',u0,u1,u2,u3,u4,r1.cell,r3.cell,r10.cell]
  intro b11 h10 n10
  have n10_a:=n10.at_
  have n10_z:=n10.size
  replace p0:=p0.F n10.f0
  replace p2:=p2.F n10.f0
  replace p6:=p6.F n10.f0
  replace r1:=r1.F n10.f0
  replace r3:=r3.F n10.f0
  replace r10:=r10.F n10.f0
  have r11:=n10.row
  simp -dsimp only [go_sem,r1.cell,r3.cell,r10.cell,r11.cell]
  refine Chk_intro (r11.wr (by first | (simp;done) | (simp;omega))) fun h11 z11=>?_
  have z11_z:=z11.size
  replace p0:=p0.F z11.fr
  replace p2:=p2.F z11.fr
  replace p6:=p6.F z11.fr
  replace r1:=r1.F z11.fr
  replace r3:=r3.F z11.fr
  replace r10:=r10.F z11.fr
  replace r11:=z11.row r11
  try simp only [cl_int,cl_bool,cl_slice,cl_ptr,putAt_one,List.set_cons_zero,List.set_cons_succ,ivec_set,brow_upd] at r11
  try simp -dsimp only [go_sem] at r11
  have k5':¬ (g.ev a).thread<0:=by omega
  generalize (g.ev a).mode=ma at k2 r10
  generalize (g.ev b).mode=mb at k4 r11
  have done:∀ h',h11=h'→Fr 0 0 h6 h':=fun h' e=>e▸p6
  rcases k2 with rfl | rfl | rfl <;> rcases k4 with rfl | rfl | rfl <;>
  ·simp -dsimp only [go_sem,beq_f k1,beq_f k3,k5',r1.cell,r3.cell,r10.cell,r11.cell]
   simp -dsimp (disch:=omega) only [wrap64]
   exact ⟨i+1,by omega,by simp [Le,find,hre],by omega,p6⟩
 obtain rfl:i=L.length:=by omega
 by_cases ha:(rcAx g).1=0
 rotate_left
 ·simp -dsimp only [go_sem,Int.lt_irrefl,bne_f ha,r1.cell,r3.cell]
  refine call_of (law10_lives (ht.fr p0 (.inr rfl))) ?_
  rintro v9 h9 ⟨f9,rfl⟩
  have f9_z:=f9.size
  replace p0:=p0.F f9
  replace p2:=p2.F f9
  replace p6:=p6.F f9
  replace r1:=r1.F f9
  replace r3:=r3.F f9
  simp -dsimp only [go_sem,r1.cell,r3.cell]
  exact p0
 obtain ⟨hcoh,-,-,hthin⟩:=rcAx_zero.1 ha
 obtain ⟨hirr,heco⟩:=coh_nil.1 hcoh
 clear o6r hmem hpl P6
 simp -dsimp only [go_sem,Int.lt_irrefl,bne_t ha,evs_len,r1.cell,r3.cell]
 refine call_of (rel_New g.n h7) ?_
 rintro v8 h8 ⟨f8,t8⟩
 rw [hcl] at t8
 have f8_z:=f8.size
 replace p0:=p0.F f8
 replace p2:=p2.F f8
 replace p6:=p6.F f8
 replace r1:=r1.F f8
 replace r3:=r3.F f8
 obtain ⟨bp,rfl⟩:=progPtr t8
 simp -dsimp only [go_sem,r1.cell,r3.cell]
 have g8:h6.size≤h7.size∧h7.size≤h8.size:=by omega
 clear P0 P2 K1 K3
 have P0:=p0
 have P2:=p2
 have K1:=r1
 have K3:=r3
 have Q8:Fr h7.size h8.size h8 h8:=.refl _ _ _
 refine loop_intro (fun i:Nat=>[(1,.pointer (some ⟨b1,0,none⟩)),(3,.pointer (some ⟨b3,0,none⟩)),(12,.pointer (some ⟨bp,0,none⟩)),(13,.int .i64 i)])
  (fun i h'=>i≤g.n∧Fr h7.size h8.size h8 h'∧∃ M,ProgAt h' h7.size h8.size (.pointer (some ⟨bp,0,none⟩)) g.n M∧∀ a b,M a b=true→relM g 0 a b=true) (fun i=>g.n - i) 0 ?_ ?_ ?_
 ·simp [Le,find]
 ·exact ⟨by omega,Q8,_,t8,fun a b e=>by cases e⟩
 clear p0 p2 p6 r1 r3 t8
 rintro i h9 ⟨hi,q9,M,t9,hM⟩
 have r1:=K1.fr q9 (by omega)
 by_cases hlt:i<g.n
 ·have e1:((i:Int)<(g.n:Int)):=by omega
  simp -dsimp only [go_sem,e1,evs_len,r1.cell]
  simp -dsimp (disch:=omega) only [wrap64]
  refine loop_intro (fun j:Nat=>[(1,.pointer (some ⟨b1,0,none⟩)),(3,.pointer (some ⟨b3,0,none⟩)),(12,.pointer (some ⟨bp,0,none⟩)),(13,.int .i64 i),(14,.int .i64 (i+1+j:Nat))])
   (fun j h'=>i+1+j≤g.n∧Fr h7.size h8.size h8 h'∧∃ M,ProgAt h' h7.size h8.size (.pointer (some ⟨bp,0,none⟩)) g.n M∧∀ a b,M a b=true→relM g 0 a b=true) (fun j=>g.n - j) 0 ?_ ?_ ?_
  ·simp [Le,find]
  ·exact ⟨by omega,q9,M,t9,hM⟩
  clear q9 t9 hM M r1
  rintro j h9 ⟨hj,q9,M,t9,hM⟩
  have r1:=K1.fr q9 (by omega)
  have p0:=P0.fresh q9 (by omega)
  generalize hk:i+1+j=k at hj
  by_cases hkl:k<g.n
  ·have e2:((k:Int)<(g.n:Int)):=by omega
   obtain ⟨eb,eo,he,hev⟩:=t.evs (by omega)
   obtain ⟨s0,-⟩:=hev h9 p0 i hlt
   obtain ⟨u0,-⟩:=hev h9 p0 k hkl
   by_cases hth:(g.ev i).thread≥0
   ·by_cases heq:(g.ev i).thread=(g.ev k).thread
    ·simp -dsimp only [go_sem,e1,e2,he,evs_len,s0,u0,hth,beq_t heq,r1.cell]
     refine call_of (rel_Put t9 i k true) ?_
     rintro v10 h10 ⟨f10,z10,-,t10⟩
     have q10:=q9.freshIn f10 (by omega)
     have r1:=r1.fr f10 (by omega)
     simp -dsimp only [go_sem,e1,e2,he,evs_len,r1.cell]
     simp -dsimp (disch:=omega) only [wrap64]
     refine ⟨j+1,by omega,by simp [Le,find,he];omega,by omega,q10,_,t10,fun a b e=>?_⟩
     rw [putM_nat hlt hkl] at e
     by_cases hab:a=i∧b=k
     ·obtain ⟨rfl,rfl⟩:=hab
      show g.before a b=true
      unfold Gr.before
      simp only [Bool.and_eq_true,decide_eq_true_eq,beq_iff_eq,Int.toNat_natCast]
      refine ⟨⟨⟨⟨?_,?_⟩,?_⟩,?_⟩,?_⟩ <;> omega
     ·rw [if_neg hab] at e;exact hM a b e
    ·simp -dsimp only [go_sem,e1,e2,he,evs_len,s0,u0,hth,beq_f heq,r1.cell]
     simp -dsimp (disch:=omega) only [wrap64]
     exact ⟨j+1,by omega,by simp [Le,find,he];omega,by omega,q9,M,t9,hM⟩
   ·simp -dsimp only [go_sem,e1,e2,he,evs_len,s0,u0,hth,r1.cell]
    simp -dsimp (disch:=omega) only [wrap64]
    exact ⟨j+1,by omega,by simp [Le,find,he];omega,by omega,q9,M,t9,hM⟩
  ·obtain rfl:k=g.n:=by omega
   simp -dsimp only [go_sem,Int.lt_irrefl,evs_len,r1.cell]
   simp -dsimp (disch:=omega) only [wrap64]
   exact ⟨i+1,by omega,by simp [Le,find],by omega,q9,M,t9,hM⟩
 obtain rfl:i=g.n:=by omega
 clear r1
 have p0:=P0.fresh q9 (by omega)
 have p2:=P2.fresh q9 (by omega)
 have r1:=K1.fr q9 (by omega)
 have r3:=K3.fr q9 (by omega)
 have p9:Fr 0 0 h9 h9:=.refl _ _ _
 have q9z:=q9.size
 clear P0 P2 K1 K3 q9
 simp -dsimp only [go_sem,Int.lt_irrefl,evs_len,r1.cell,r3.cell]
 obtain ⟨_,_,ta⟩:=(D3.fr p2 (by omega)).pa
 refine call_of (rel_Pairs ta (ht.fr p0 (.inr rfl))) ?_
 rintro v10 h10 ⟨f10,o10⟩
 have f10_z:=f10.size
 replace p0:=p0.F f10
 replace p2:=p2.F f10
 replace p9:=p9.F f10
 replace r1:=r1.F f10
 replace r3:=r3.F f10
 obtain ⟨a10,c10',rfl⟩:=o10.is
 have hpl:(pairsOf g.n (ecoM g)).length≤65536:=by
  have g4:(pairsOf g.n (ecoM g)).length≤g.n * g.n:=length_pairsTo_le g.n _ g.n
  have g3:g.n * g.n≤256 * 256:=Nat.mul_le_mul (by omega) (by omega)
  omega
 have hmem:∀ p∈pairsOf g.n (ecoM g),∃ a b:Nat,a<g.n∧b<g.n∧ecoM g a b=true∧p=((a:Int),(b:Int)):=fun p hp=>mem_pairsOf.1 hp
 have o10r:=o10.rd
 clear o10 ta
 generalize pairsOf g.n (ecoM g)=L2 at o10r hpl hmem
 simp -dsimp only [go_sem,r1.cell,r3.cell]
 have P0:=p0
 have P2:=p2
 have P9:=p9
 have K1:=r1
 have K3:=r3
 have P10:Fr 0 0 h10 h10:=.refl _ _ _
 have gy:h.size≤h10.size∧h2.size≤h10.size∧h9.size≤h10.size∧h8.size≤h9.size∧b1<h10.size∧b3<h10.size:=by omega
 refine loop_intro (fun i:Nat=>[(1,.pointer (some ⟨b1,0,none⟩)),(3,.pointer (some ⟨b3,0,none⟩)),(12,.pointer (some ⟨bp,0,none⟩)),(15,.slice a10 L2.length c10'),(16,.int .i64 i)])
  (fun i h'=>i≤L2.length∧Fr 0 0 h10 h') (fun i=>L2.length - i) 0 ?_ ?_ ?_
 ·simp [Le,find]
 ·exact ⟨by omega,P10⟩
 clear p0 p2 p9 r1 r3
 rintro i h11 ⟨hi2,p10⟩
 have p0:=P0.trans p10
 have p2:=P2.trans p10
 have p9:=P9.trans p10
 have r1:=K1.fr p10 (by omega)
 have r3:=K3.fr p10 (by omega)
 have p0_z:=p0.size
 have p2_z:=p2.size
 have p9_z:=p9.size
 have p10_z:=p10.size
 have r1_l:=r1.lt
 have r3_l:=r3.lt
 by_cases hlt:i<L2.length
 ·have e1:((i:Int)<(L2.length:Int)):=by omega
  have hq:L2[i]?=some L2[i]:=List.getElem?_eq_getElem hlt
  have hm:=hmem _ (List.mem_of_getElem? hq)
  generalize L2[i]=pr at hq hm
  obtain ⟨a,b,han,hbn,hs,rfl⟩:=hm
  obtain ⟨rb,ro,hre,hrc⟩:=o10r.pairsAt (by omega)
  obtain ⟨x1,x2⟩:=hrc h11 p10 i _ hq
  dsimp only at x1 x2
  simp -dsimp only [go_sem,e1,hre,x1,x2,r1.cell,r3.cell]
  obtain ⟨_,_,tb⟩:=(D2.fr p2 (by omega)).pa
  refine call_of (rel_Has tb b a) ?_
  rintro v12 h12 ⟨hh,rfl⟩
  obtain rfl:h11=h12:=hh.symm
  have hb:hbM g b a=false:=by
   cases hx:hbM g b a
   ·rfl
   ·have:=heco b a hbn han hx
    rw [hs] at this;cases this
  rw [has_in hbn han,hb]
  simp -dsimp only [go_sem,r1.cell,r3.cell]
  simp -dsimp (disch:=omega) only [wrap64]
  exact ⟨i+1,by omega,by simp [Le,find,hre],by omega,p10⟩
 obtain rfl:i=L2.length:=by omega
 simp -dsimp only [go_sem,Int.lt_irrefl,evs_len,r1.cell,r3.cell]
 refine call_of (rel_Of g.n _ g.rf h11 (t.fr p0).f (by omega)) ?_
 rintro v12 h12 ⟨f12,t12⟩
 rw [hcl] at t12
 have f12_z:=f12.size
 replace p0:=p0.F f12
 replace p2:=p2.F f12
 replace p9:=p9.F f12
 replace p10:=p10.F f12
 replace r1:=r1.F f12
 replace r3:=r3.F f12
 obtain ⟨bo,rfl⟩:=progPtr t12
 simp -dsimp only [go_sem,evs_len,r1.cell,r3.cell]
 intro b13 h13 n13
 have n13_a:=n13.at_
 have n13_z:=n13.size
 replace p0:=p0.F n13.f0
 replace p2:=p2.F n13.f0
 replace p9:=p9.F n13.f0
 replace p10:=p10.F n13.f0
 replace r1:=r1.F n13.f0
 replace r3:=r3.F n13.f0
 have r13:=n13.row
 simp -dsimp only [go_sem,evs_len,r1.cell,r3.cell,r13.cell]
 have T1:PA h13 (.pointer (some ⟨bp,0,none⟩)) g.n M:=⟨_,_,t9.fr p9 (by omega)⟩
 have T2:PA h13 (.pointer (some ⟨c1,0,none⟩)) g.n (swM g):=(D1.fr p2 (by omega)).pa
 have T3:PA h13 (.pointer (some ⟨bo,0,none⟩)) g.n (relM g 1):=PA.fr ⟨_,_,t12⟩ n13.fr
 refine call_of (rel_UnionU (UA.mk' [(.pointer (some ⟨bp,0,none⟩),M),(.pointer (some ⟨c1,0,none⟩),swM g),(.pointer (some ⟨bo,0,none⟩),relM g 1)] r13 (pa_cons T1 (pa_cons T2 (pa_cons T3 pa_nil))) (by simp) (by simp))) ?_
 rintro v14 h14 ⟨f14,t14⟩
 have f14_z:=f14.size
 replace p0:=p0.F f14
 replace p2:=p2.F f14
 replace p9:=p9.F f14
 replace p10:=p10.F f14
 replace r1:=r1.F f14
 replace r3:=r3.F f14
 replace r13:=r13.F f14
 simp -dsimp only [go_sem,evs_len,r1.cell,r3.cell,r13.cell]
 refine call_of (rel_Acyclic t14) ?_
 rintro v15 h15 ⟨f15,rfl⟩
 have f15_z:=f15.size
 replace p0:=p0.F f15
 replace p2:=p2.F f15
 replace p9:=p9.F f15
 replace p10:=p10.F f15
 replace r1:=r1.F f15
 replace r3:=r3.F f15
 replace r13:=r13.F f15
 have hac:irrB g.n (plusM g.n (orM [M,swM g,relM g 1]))=true:=posrf_acyc hc hthin fun a b _ _ e=>by
  unfold orM at e
  simp only [List.any_cons,List.any_nil,Bool.or_false,Bool.or_eq_true] at e
  rcases e with e | e | e
  ·exact .inl (by unfold poswM;rw [hM a b e];rfl)
  ·exact .inl (by unfold poswM;rw [e,Bool.or_true])
  ·exact .inr e
 simp only [List.map_cons,List.map_nil] at *
 rw [hac]
 simp -dsimp only [go_sem,evs_len,r1.cell,r3.cell,r13.cell]
 obtain ⟨_,_,tc⟩:=(D2.fr p2 (by omega)).pa
 refine call_of (rel_Irreflexive tc) ?_
 rintro v16 h16 ⟨hh,rfl⟩
 obtain rfl:h15=h16:=hh.symm
 have hir:irrB g.n (hbM g)=true:=by
  unfold irrB;rw [List.all_eq_true]
  intro a ha'
  rw [hirr a (List.mem_range.1 ha')];rfl
 rw [hir]
 simp -dsimp only [go_sem,evs_len,r1.cell,r3.cell,r13.cell]
 refine call_of (law10_lives (ht.fr p0 (.inr rfl))) ?_
 rintro v17 h17 ⟨f17,rfl⟩
 have f17_z:=f17.size
 replace p0:=p0.F f17
 replace p2:=p2.F f17
 replace p9:=p9.F f17
 replace p10:=p10.F f17
 replace r1:=r1.F f17
 replace r3:=r3.F f17
 replace r13:=r13.F f17
 simp -dsimp only [go_sem,evs_len,r1.cell,r3.cell,r13.cell]
 exact p0
end Go.Proofs.Tst
/-
  RcLaws and its arguments.
-/
namespace Go.Proofs.Tst
end Go.Proofs.Tst
