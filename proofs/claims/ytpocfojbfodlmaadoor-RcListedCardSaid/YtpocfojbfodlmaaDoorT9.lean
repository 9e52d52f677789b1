/-
  Contracts of functions that the law reaches: what each returns and what it leaves in memory. Conditions stand in each.
-/
import Derived.Test.YtpocfojbfodlmaaDoorT8
set_option linter.all false
set_option maxRecDepth 2000
/-
  law10: two, says, buffering, passing, fenced.
-/
namespace Go.Proofs.Tst
open Go Go.Vc
theorem cohGo_len {g:Gr} {a:Nat}:∀ (d b:Nat),(cohGo g a d b).length≤2
 | 0,_=>by simp [cohGo]
 | d+1,b=>by
  rw [cohGo];split
  ·simp
  ·exact cohGo_len d (b+1)
theorem cohAt_len {g:Gr} {a:Nat}:(cohAt g a).length≤2:=by
 unfold cohAt;split
 ·simp
 ·exact cohGo_len _ _
theorem cohFrom_len {g:Gr}:∀ (d a:Nat),(cohFrom g d a).length≤2
 | 0,_=>by simp [cohFrom]
 | d+1,a=>by
  rw [cohFrom];split
  ·exact cohAt_len
  ·exact cohFrom_len d (a+1)
theorem rcAx_len {g:Gr}:(rcAx g).2.length≤g.n+2:=by
 have h0:=cohFrom_len (g:=g) g.n 0
 have h1:=cycS_len (n:=g.n) (M:=pscM g)
 have h2:=cycS_len (n:=g.n) (M:=thinM g)
 have h3:(atomS g).length≤2:=by unfold atomS;split <;> simp
 unfold rcAx
 split
 ·show (coh g).length≤_;unfold coh;omega
 split
 ·show (atomS g).length≤_;omega
 split
 ·simp [natsI];omega
 split
 ·simp [natsI];omega
 ·simp
theorem c_law10_says {h:Heap} {q:GV} {g:Gr} (t:GrAt h q g) (ht:TabAt h) {bv:Value} {l:List Int} (hm:Rd 1 h bv l.length (intsV l)) (ax:Int) :
  Con Tryd.prog 12 #[.agg (gcells q g).toArray,.int .i64 ax,bv] h fun v h'=>Fr 0 0 h h'∧v=.bool (decide ((g.check false).1=0∧rcAx g=(ax,l))):=by
 have p0:Fr 0 0 h h:=.refl _ _ _
 obtain ⟨ba,bc,rfl⟩:=hm.is
 by_cases hc:(g.check false).1=0
 rotate_left
 ·have e:decide ((g.check false).1=0∧rcAx g=(ax,l))=false:=decide_eq_false fun h=>hc h.1
  rw [e]
  refine con_law10_says ?_
  unfold gcells
  simp -dsimp only [go_sem]
  intro b1 h1 n1
  have n1_a:=n1.at_
  have n1_z:=n1.size
  replace p0:=p0.F n1.f0
  have r1:=n1.row
  simp -dsimp only [go_sem,r1.cell]
  refine call_of (rc11_Check (t.fr p0) (ht.fr p0 (.inr rfl))) ?_
  rintro v2 h2 ⟨f2,w⟩
  have f2_z:=f2.size
  replace p0:=p0.F f2
  replace r1:=r1.F f2
  rw [if_neg hc] at w
  subst w
  simp -dsimp only [go_sem,r1.cell]
  exact p0
 have hn:=(good_n (good_false hc)).1
 have hal:=rcAx_len (g:=g)
 refine con_law10_says ?_
 unfold gcells
 simp -dsimp only [go_sem]
 intro b1 h1 n1
 have n1_a:=n1.at_
 have n1_z:=n1.size
 replace p0:=p0.F n1.f0
 have r1:=n1.row
 simp -dsimp only [go_sem,r1.cell]
 refine call_of (rc11_Check (t.fr p0) (ht.fr p0 (.inr rfl))) ?_
 rintro v2 h2 ⟨f2,w⟩
 have f2_z:=f2.size
 replace p0:=p0.F f2
 replace r1:=r1.F f2
 rw [if_pos hc] at w
 obtain ⟨w,rfl,o⟩:=w
 obtain ⟨oa,oc,rfl⟩:=o.is
 by_cases ha:(rcAx g).1=ax
 rotate_left
 ·have e:decide ((g.check false).1=0∧rcAx g=(ax,l))=false:=decide_eq_false fun h=>ha (by rw [h.2])
  rw [e]
  simp -dsimp only [go_sem,beq_f ha,r1.cell]
  exact p0
 simp -dsimp only [go_sem,beq_t ha,r1.cell]
 refine call_of (c_law10_ints (l:=(rcAx g).2) (m:=l) o.rd (hm.fr p0) (by omega)) ?_
 rintro v3 h2 ⟨rfl,rfl⟩
 have e:decide ((rcAx g).2=l)=decide ((g.check false).1=0∧rcAx g=(ax,l)):=by
  rw [Bool.eq_iff_iff,decide_eq_true_iff,decide_eq_true_iff]
  exact ⟨fun h=>⟨hc,Prod.ext ha h⟩,fun h=>by rw [h.2]⟩
 rw [e]
 simp -dsimp only [go_sem,r1.cell]
 exact p0
theorem c_law10_ev (a b c:Int) (d:Int) (m:Int) {h:Heap}:Con Tryd.prog 9 #[.int .i64 a,.int .i64 b,.int .i64 c,.int .u64 d,.int .i64 m] h fun v h'=>Fr 0 0 h h'∧v=.agg #[.int .i64 a,.int .i64 b,.int .i64 c,.int .u64 d,.int .i64 m]:=by
 refine con_law10_ev ?_
 have p0:Fr 0 0 h h:=.refl _ _ _
 simp -dsimp only [go_sem]
 intro b1 h1 n1
 have n1_a:=n1.at_
 have n1_z:=n1.size
 replace p0:=p0.F n1.f0
 have r1:=n1.row
 simp -dsimp only [go_sem,r1.cell]
 refine Chk_intro (r1.wr (by first | (simp;done) | (simp;omega))) fun h2 s2=>?_
 have s2_z:=s2.size
 replace p0:=p0.F s2.fr
 replace r1:=s2.row r1
 try simp only [cl_int,cl_bool,cl_slice,cl_ptr,putAt_one,List.set_cons_zero,List.set_cons_succ,ivec_set,brow_upd] at r1
 try simp -dsimp only [go_sem] at r1
 simp -dsimp only [go_sem,r1.cell]
 exact p0
set_option maxHeartbeats 2000000 in
theorem c_law10_two {h:Heap} {ea fa xa ya:Option Addr} {ec fc xc yc:Nat} {E:List Ev} {rf:List (Int×Int)} {x y:List Int} {lo:Nat} (hlo:lo≤h.size) (he:Rd 5 h (.slice ea E.length ec) E.length (evsV E)) (hf:∀ h',Fr 0 lo h h'→Rd 2 h' (.slice fa rf.length fc) rf.length (pairsV rf)) (hx:Rd 1 h (.slice xa x.length xc) x.length (intsV x)) (hy:Rd 1 h (.slice ya y.length yc) y.length (intsV y))
  (be:E.length≤1000) (bf:rf.length≤1000) (bx:x.length≤1000) (by_:y.length≤1000) :
  Con Tryd.prog 8 #[.slice ea E.length ec,.slice fa rf.length fc,.slice xa x.length xc,.slice ya y.length yc] h fun v h'=>Fr 0 0 h h'∧∃ q,v=.agg (gcells q (twoG 1 E rf x y)).toArray∧∀ h2,Fr 0 lo h' h2→GrAt h2 q (twoG 1 E rf x y):=by
 refine con_law10_two ?_
 have p0:Fr 0 0 h h:=.refl _ _ _
 simp -dsimp only [go_sem]
 intro b8 h1 n1
 have n1_a:=n1.at_
 have n1_z:=n1.size
 replace p0:=p0.F n1.f0
 have r8:=n1.row
 simp -dsimp only [go_sem,r8.cell]
 refine call_of (c_law10_ev (-1) 2 0 0 1) ?_
 rintro v2 h2 ⟨f2,rfl⟩
 have f2_z:=f2.size
 replace p0:=p0.F f2
 replace r8:=r8.F f2
 simp -dsimp only [go_sem,r8.cell]
 refine call_of (c_law10_ev (-1) 2 1 0 1) ?_
 rintro v3 h3 ⟨f3,rfl⟩
 have f3_z:=f3.size
 replace p0:=p0.F f3
 replace r8:=r8.F f3
 simp -dsimp only [go_sem,r8.cell]
 intro b14 h4 n4
 have n4_a:=n4.at_
 have n4_z:=n4.size
 replace p0:=p0.F n4.f0
 replace r8:=r8.F n4.f0
 have r14:=n4.row
 replace r14:Rw h4 b14 (evsV [⟨-1,2,0,0,1⟩,⟨-1,2,1,0,1⟩]):=r14
 simp -dsimp only [go_sem,r8.cell,r14.cell]
 intro b9 h5 n5
 have n5_a:=n5.at_
 have n5_z:=n5.size
 replace p0:=p0.F n5.f0
 replace r8:=r8.F n5.f0
 replace r14:=r14.F n5.f0
 have r9:=n5.row
 simp -dsimp only [go_sem,r8.cell,r14.cell,r9.cell]
 refine Chk_intro (r9.wr (by first | (simp;done) | (simp;omega))) fun h6 s6=>?_
 have s6_z:=s6.size
 replace p0:=p0.F s6.fr
 replace r8:=r8.F s6.fr
 replace r14:=r14.F s6.fr
 replace r9:=s6.row r9
 try simp only [cl_int,cl_bool,cl_slice,cl_ptr,putAt_one,List.set_cons_zero,List.set_cons_succ,ivec_set,brow_upd] at r9
 try simp -dsimp only [go_sem] at r9
 have gb:b8<b14∧b14<b9∧b9<h6.size∧h.size≤b8:=by omega
 simp -dsimp only [go_sem,r8.cell,r14.cell,r9.cell]
 refine (holder_row (s:=5) (n:=2) (lo:=b14) r14 rfl (Nat.le_refl _)).appendRd (he.fr p0) (by omega) rfl (by omega) (oc_evs _) (by omega) fun v7 h7 o7 f7 e7=>?_
 have lb:bl (.slice (some ⟨b14,0,none⟩) 2 2)=b14∧bh (.slice (some ⟨b14,0,none⟩) 2 2)=b14+1:=⟨rfl,rfl⟩
 rw [lb.1,lb.2] at f7
 clear r14
 have z7:=f7.size
 have f7_z:=f7.size
 replace p0:=p0.F f7
 replace r8:=r8.F f7
 replace r9:=r9.F f7
 rw [← evsV_append] at o7
 obtain ⟨a7,c7,rfl⟩:=o7.is
 have a7_a:=o7.at_
 have e7':=e7
 clear e7
 simp -dsimp only [go_sem,r8.cell,r9.cell]
 refine Chk_intro (r9.wr (by first | (simp;done) | (simp;omega))) fun h8 s8=>?_
 have s8_z:=s8.size
 replace p0:=p0.F s8.fr
 replace r8:=r8.F s8.fr
 replace r9:=s8.row r9
 try simp only [cl_int,cl_bool,cl_slice,cl_ptr,putAt_one,List.set_cons_zero,List.set_cons_succ,ivec_set,brow_upd] at r9
 replace o7:=o7.fr s8.fr (by omega)
 simp -dsimp only [go_sem,r8.cell,r9.cell]
 intro b10 h9 n9
 have n9_a:=n9.at_
 have n9_z:=n9.size
 replace p0:=p0.F n9.f0
 replace r8:=r8.F n9.f0
 replace r9:=r9.F n9.f0
 have r10:=n9.row
 replace r10:Rw h9 b10 (intsV [0]):=r10
 replace o7:=o7.fr n9.f0 (by omega)
 simp -dsimp only [go_sem,r8.cell,r9.cell,r10.cell]
 have p9:Fr 0 0 h8 h9:=n9.fr
 refine (holder_row (s:=1) (n:=1) (lo:=b10) r10 rfl (Nat.le_refl _)).appendRd (hx.fr p0) (by omega) rfl (by omega) (oc_ints _) (by omega) fun v10 h10 o10 f10 e10=>?_
 have lb:bl (.slice (some ⟨b10,0,none⟩) 1 1)=b10∧bh (.slice (some ⟨b10,0,none⟩) 1 1)=b10+1:=⟨rfl,rfl⟩
 rw [lb.1,lb.2] at f10
 clear r10
 have z10:=f10.size
 have f10_z:=f10.size
 replace p0:=p0.F f10
 replace r8:=r8.F f10
 replace r9:=r9.F f10
 have o7t:=o7.top
 replace o7:=o7.fr f10 (by omega)
 rw [← intsV_append] at o10
 obtain ⟨a10,c10,rfl⟩:=o10.is
 have a10_a:=o10.at_
 clear e10
 simp -dsimp only [go_sem,r8.cell,r9.cell]
 intro b11 h11 n11
 have n11_a:=n11.at_
 have n11_z:=n11.size
 replace p0:=p0.F n11.f0
 replace r8:=r8.F n11.f0
 replace r9:=r9.F n11.f0
 have r11:=n11.row
 replace r11:Rw h11 b11 (intsV [1]):=r11
 replace o7:=o7.fr n11.f0 (by omega)
 have o10t:=o10.top
 replace o10:=o10.fr n11.f0 (by omega)
 simp -dsimp only [go_sem,r8.cell,r9.cell,r11.cell]
 refine (holder_row (s:=1) (n:=1) (lo:=b11) r11 rfl (Nat.le_refl _)).appendRd (hy.fr p0) (by omega) rfl (by omega) (oc_ints _) (by omega) fun v12 h12 o12 f12 e12=>?_
 have lb:bl (.slice (some ⟨b11,0,none⟩) 1 1)=b11∧bh (.slice (some ⟨b11,0,none⟩) 1 1)=b11+1:=⟨rfl,rfl⟩
 rw [lb.1,lb.2] at f12
 clear r11
 have z12:=f12.size
 have f12_z:=f12.size
 replace p0:=p0.F f12
 replace r8:=r8.F f12
 replace r9:=r9.F f12
 have o7t:=o7.top
 replace o7:=o7.fr f12 (by omega)
 replace o10:=o10.fr f12 (by omega)
 rw [← intsV_append] at o12
 obtain ⟨a12,c12,rfl⟩:=o12.is
 have a12_a:=o12.at_
 clear e12
 simp -dsimp only [go_sem,r8.cell,r9.cell]
 intro b13 h13 n13
 have n13_a:=n13.at_
 have n13_z:=n13.size
 replace p0:=p0.F n13.f0
 replace r8:=r8.F n13.f0
 replace r9:=r9.F n13.f0
 have r13:=n13.row
 try simp -dsimp only [go_sem] at r13
 replace o7:=o7.fr n13.f0 (by omega)
 replace o10:=o10.fr n13.f0 (by omega)
 replace o12:=o12.fr n13.f0 (by omega)
 simp -dsimp only [go_sem,r8.cell,r9.cell,r13.cell]
 refine Chk_intro (r9.wr (by first | (simp;done) | (simp;omega))) fun h14 s14=>?_
 have s14_z:=s14.size
 replace p0:=p0.F s14.fr
 replace r8:=r8.F s14.fr
 replace r13:=r13.F s14.fr
 replace r9:=s14.row r9
 try simp only [cl_int,cl_bool,cl_slice,cl_ptr,putAt_one,List.set_cons_zero,List.set_cons_succ,ivec_set,brow_upd] at r9
 try simp -dsimp only [go_sem] at r9
 have z14:=s14.size
 replace o7:=o7.fr s14.fr (by omega)
 replace o10:=o10.fr s14.fr (by omega)
 replace o12:=o12.fr s14.fr (by omega)
 simp -dsimp only [go_sem,r8.cell,r9.cell,r13.cell]
 refine Chk_intro (r8.wr (by first | (simp;done) | (simp;omega))) fun h15 s15=>?_
 have s15_z:=s15.size
 replace p0:=p0.F s15.fr
 replace r9:=r9.F s15.fr
 replace r13:=r13.F s15.fr
 replace r8:=s15.row r8
 try simp only [cl_int,cl_bool,cl_slice,cl_ptr,putAt_one,List.set_cons_zero,List.set_cons_succ,ivec_set,brow_upd] at r8
 have z15:=s15.size
 replace o7:=o7.fr s15.fr (by omega)
 replace o10:=o10.fr s15.fr (by omega)
 replace o12:=o12.fr s15.fr (by omega)
 simp -dsimp only [go_sem,r8.cell,r9.cell,r13.cell]
 have hl:(twoG 1 E rf x y).evs.length=2+E.length:=by simp [twoG];omega
 have hx2:(intsV ([0]++x)).length=1+x.length:=by simp;omega
 have hy2:(intsV ([1]++y)).length=1+y.length:=by simp;omega
 refine ⟨p0,⟨a7,fa,some ⟨b13,0,none⟩,none,none,none,none,c7,fc,2,0,0,0,0⟩,by unfold gcells;rw [hl];rfl,fun h16 f16=>?_⟩
 replace o7:=o7.fr f16 (by have:=o7.at_;omega)
 replace o10:=o10.fr f16 (by have:=o10.at_;omega)
 replace o12:=o12.fr f16 (by have:=o12.at_;omega)
 replace r13:=r13.F f16
 obtain ⟨u1,v1,k1,k1'⟩:=o10.room (by omega)
 cases k1
 obtain ⟨u2,v2,k2,k2'⟩:=o12.room (by omega)
 cases k2
 have hrl:RLc h16 (.slice (some ⟨b13,0,none⟩) 2 2) [intsV ([0]++x),intsV ([1]++y)]:=by
  refine ⟨_,Rw.rd (s:=1) r13 rfl,fun i l hi=>?_⟩
  match i,hi with
  | 0,hi =>
   cases hi
   exact ⟨_,_,by rw [hx2];rfl,by rw [hx2];exact k1',by rw [hx2];exact o10.rd⟩
  | 1,hi =>
   cases hi
   exact ⟨_,_,by rw [hy2];rfl,by rw [hy2];exact k2',by rw [hy2];exact o12.rd⟩
  | i+2,hi=>simp at hi
 refine ⟨by rw [hl];exact o7.rd,hf _ ((p0.wide (Nat.zero_le _)).trans f16),rlc_rl hrl,nilP,nilP,nilP,nilP,⟨by rw [hl];omega,by show rf.length≤_;omega,by show 2≤_;omega,by show 0≤_;omega,by show 0≤_;omega,by show 0≤_;omega,by show 0≤_;omega,fun l hl=>?_⟩,by show 2≤2;omega,hrl⟩
 have hl:l=[0]++x∨l=[1]++y:=by simpa [twoG] using hl
 rcases hl with rfl | rfl <;> (simp;omega)
theorem c_law10_buffering (w r:Int) {h:Heap}:Con Tryd.prog 11 #[.int .i64 w,.int .i64 r] h fun v h'=>Fr 0 0 h h'∧∃ q,v=.agg (gcells q (bufG 1 w r)).toArray∧GrAt h' q (bufG 1 w r):=by
 refine con_law10_buffering ?_
 have p0:Fr 0 0 h h:=.refl _ _ _
 simp -dsimp only [go_sem]
 intro b4 h1 n1
 have n1_a:=n1.at_
 have n1_z:=n1.size
 replace p0:=p0.F n1.f0
 have r4:=n1.row
 simp -dsimp only [go_sem,r4.cell]
 refine call_of (c_law10_ev 0 2 0 1 w) ?_
 rintro v h2 ⟨f2,rfl⟩
 have f2_z:=f2.size
 replace p0:=p0.F f2
 replace r4:=r4.F f2
 simp -dsimp only [go_sem,r4.cell]
 refine call_of (c_law10_ev 0 1 1 0 r) ?_
 rintro v h3 ⟨f3,rfl⟩
 have f3_z:=f3.size
 replace p0:=p0.F f3
 replace r4:=r4.F f3
 simp -dsimp only [go_sem,r4.cell]
 refine call_of (c_law10_ev 1 2 1 1 w) ?_
 rintro v h4 ⟨f4,rfl⟩
 have f4_z:=f4.size
 replace p0:=p0.F f4
 replace r4:=r4.F f4
 simp -dsimp only [go_sem,r4.cell]
 refine call_of (c_law10_ev 1 1 0 0 r) ?_
 rintro v h5 ⟨f5,rfl⟩
 have f5_z:=f5.size
 replace p0:=p0.F f5
 replace r4:=r4.F f5
 simp -dsimp only [go_sem,r4.cell]
 intro b6 h6 n6
 have n6_a:=n6.at_
 have n6_z:=n6.size
 replace p0:=p0.F n6.f0
 replace r4:=r4.F n6.f0
 have r6:=n6.row
 simp -dsimp only [go_sem,r4.cell,r6.cell]
 intro b7 h7 n7
 have n7_a:=n7.at_
 have n7_z:=n7.size
 replace p0:=p0.F n7.f0
 replace r4:=r4.F n7.f0
 replace r6:=r6.F n7.f0
 have r7:=n7.row
 simp -dsimp only [go_sem,r4.cell,r6.cell,r7.cell]
 intro b8 h8 n8
 have n8_a:=n8.at_
 have n8_z:=n8.size
 replace p0:=p0.F n8.f0
 replace r4:=r4.F n8.f0
 replace r6:=r6.F n8.f0
 replace r7:=r7.F n8.f0
 have r8:=n8.row
 simp -dsimp only [go_sem,r4.cell,r6.cell,r7.cell,r8.cell]
 intro b9 h9 n9
 have n9_a:=n9.at_
 have n9_z:=n9.size
 replace p0:=p0.F n9.f0
 replace r4:=r4.F n9.f0
 replace r6:=r6.F n9.f0
 replace r7:=r7.F n9.f0
 replace r8:=r8.F n9.f0
 have r9:=n9.row
 simp -dsimp only [go_sem,r4.cell,r6.cell,r7.cell,r8.cell,r9.cell]
 refine call_of (c_law10_two (E:=bufE w r) (rf:=[(1,3),(0,5)]) (x:=[2]) (y:=[4]) (lo:=b4+1) (by omega) (Rw.rd (s:=5) (n:=4) (c:=4) r6 rfl) (fun h' f=>Rw.rd (s:=2) (n:=2) (c:=2) (r7.fr f (by omega)) rfl) (Rw.rd (s:=1) (n:=1) (c:=1) r8 rfl) (Rw.rd (s:=1) (n:=1) (c:=1) r9 rfl) (Nat.le_of_ble_eq_true rfl) (by simp) (by simp) (by simp)) ?_
 rintro v h10 ⟨f10,q,rfl,t⟩
 have f10_z:=f10.size
 replace p0:=p0.F f10
 replace r4:=r4.F f10
 replace r6:=r6.F f10
 replace r7:=r7.F f10
 replace r8:=r8.F f10
 replace r9:=r9.F f10
 unfold gcells
 simp -dsimp only [go_sem,r4.cell,r6.cell,r7.cell,r8.cell,r9.cell]
 refine Chk_intro (r4.wr (by first | (simp;done) | (simp;omega))) fun h11 s11=>?_
 have s11_z:=s11.size
 replace p0:=p0.F s11.fr
 replace r6:=r6.F s11.fr
 replace r7:=r7.F s11.fr
 replace r8:=r8.F s11.fr
 replace r9:=r9.F s11.fr
 replace r4:=s11.row r4
 try simp only [cl_int,cl_bool,cl_slice,cl_ptr,putAt_one,List.set_cons_zero,List.set_cons_succ,ivec_set,brow_upd] at r4
 have t:=t _ (s11.fr.wide (Nat.le_refl _))
 simp -dsimp only [go_sem,r4.cell,r6.cell,r7.cell,r8.cell,r9.cell]
 exact ⟨p0,q,rfl,t⟩
theorem c_law10_passing (w r:Int) {h:Heap}:Con Tryd.prog 27 #[.int .i64 w,.int .i64 r] h fun v h'=>Fr 0 0 h h'∧∃ q,v=.agg (gcells q (pasG 1 w r)).toArray∧GrAt h' q (pasG 1 w r):=by
 refine con_law10_passing ?_
 have p0:Fr 0 0 h h:=.refl _ _ _
 simp -dsimp only [go_sem]
 intro b4 h1 n1
 have n1_a:=n1.at_
 have n1_z:=n1.size
 replace p0:=p0.F n1.f0
 have r4:=n1.row
 simp -dsimp only [go_sem,r4.cell]
 refine call_of (c_law10_ev 0 2 0 1 1) ?_
 rintro v h2 ⟨f2,rfl⟩
 have f2_z:=f2.size
 replace p0:=p0.F f2
 replace r4:=r4.F f2
 simp -dsimp only [go_sem,r4.cell]
 refine call_of (c_law10_ev 0 2 1 1 w) ?_
 rintro v h3 ⟨f3,rfl⟩
 have f3_z:=f3.size
 replace p0:=p0.F f3
 replace r4:=r4.F f3
 simp -dsimp only [go_sem,r4.cell]
 refine call_of (c_law10_ev 1 1 1 1 r) ?_
 rintro v h4 ⟨f4,rfl⟩
 have f4_z:=f4.size
 replace p0:=p0.F f4
 replace r4:=r4.F f4
 simp -dsimp only [go_sem,r4.cell]
 refine call_of (c_law10_ev 1 1 0 0 1) ?_
 rintro v h5 ⟨f5,rfl⟩
 have f5_z:=f5.size
 replace p0:=p0.F f5
 replace r4:=r4.F f5
 simp -dsimp only [go_sem,r4.cell]
 intro b6 h6 n6
 have n6_a:=n6.at_
 have n6_z:=n6.size
 replace p0:=p0.F n6.f0
 replace r4:=r4.F n6.f0
 have r6:=n6.row
 simp -dsimp only [go_sem,r4.cell,r6.cell]
 intro b7 h7 n7
 have n7_a:=n7.at_
 have n7_z:=n7.size
 replace p0:=p0.F n7.f0
 replace r4:=r4.F n7.f0
 replace r6:=r6.F n7.f0
 have r7:=n7.row
 simp -dsimp only [go_sem,r4.cell,r6.cell,r7.cell]
 intro b8 h8 n8
 have n8_a:=n8.at_
 have n8_z:=n8.size
 replace p0:=p0.F n8.f0
 replace r4:=r4.F n8.f0
 replace r6:=r6.F n8.f0
 replace r7:=r7.F n8.f0
 have r8:=n8.row
 simp -dsimp only [go_sem,r4.cell,r6.cell,r7.cell,r8.cell]
 intro b9 h9 n9
 have n9_a:=n9.at_
 have n9_z:=n9.size
 replace p0:=p0.F n9.f0
 replace r4:=r4.F n9.f0
 replace r6:=r6.F n9.f0
 replace r7:=r7.F n9.f0
 replace r8:=r8.F n9.f0
 have r9:=n9.row
 simp -dsimp only [go_sem,r4.cell,r6.cell,r7.cell,r8.cell,r9.cell]
 refine call_of (c_law10_two (E:=pasE 1 w r) (rf:=[(3,4),(0,5)]) (x:=[2]) (y:=[3]) (lo:=b4+1) (by omega) (Rw.rd (s:=5) (n:=4) (c:=4) r6 rfl) (fun h' f=>Rw.rd (s:=2) (n:=2) (c:=2) (r7.fr f (by omega)) rfl) (Rw.rd (s:=1) (n:=1) (c:=1) r8 rfl) (Rw.rd (s:=1) (n:=1) (c:=1) r9 rfl) (Nat.le_of_ble_eq_true rfl) (by simp) (by simp) (by simp)) ?_
 rintro v h10 ⟨f10,q,rfl,t⟩
 have f10_z:=f10.size
 replace p0:=p0.F f10
 replace r4:=r4.F f10
 replace r6:=r6.F f10
 replace r7:=r7.F f10
 replace r8:=r8.F f10
 replace r9:=r9.F f10
 unfold gcells
 simp -dsimp only [go_sem,r4.cell,r6.cell,r7.cell,r8.cell,r9.cell]
 refine Chk_intro (r4.wr (by first | (simp;done) | (simp;omega))) fun h11 s11=>?_
 have s11_z:=s11.size
 replace p0:=p0.F s11.fr
 replace r6:=r6.F s11.fr
 replace r7:=r7.F s11.fr
 replace r8:=r8.F s11.fr
 replace r9:=r9.F s11.fr
 replace r4:=s11.row r4
 try simp only [cl_int,cl_bool,cl_slice,cl_ptr,putAt_one,List.set_cons_zero,List.set_cons_succ,ivec_set,brow_upd] at r4
 have t:=t _ (s11.fr.wide (Nat.le_refl _))
 simp -dsimp only [go_sem,r4.cell,r6.cell,r7.cell,r8.cell,r9.cell]
 exact ⟨p0,q,rfl,t⟩
end Go.Proofs.Tst
/-
  law10: lives.
-/
namespace Go.Proofs.Tst
open Go Go.Vc
theorem sb1:decide (((bufG 1 1 1).check false).1=0∧rcAx (bufG 1 1 1)=(0,[]))=true:=by decide +kernel
theorem sb2:decide (((bufG 1 5 5).check false).1=0∧rcAx (bufG 1 5 5)=(3,[2,3,4,5]))=true:=by decide +kernel
theorem sp2:decide (((pasG 1 3 2).check false).1=0∧rcAx (pasG 1 3 2)=(1,[2,5]))=true:=by decide +kernel
theorem sp1:decide (((pasG 1 3 1).check false).1=0∧rcAx (pasG 1 3 1)=(0,[]))=true:=by decide +kernel
theorem sp3:((pasG 1 3 2).check false).1=0:=by decide +kernel
theorem sp4:pairsOf (pasG 1 3 2).n (swM (pasG 1 3 2))=[(3,4)]:=by decide +kernel
set_option maxHeartbeats 2000000 in
theorem law10_lives {h:Heap} (ht:TabAt h):Con Tryd.prog 7 #[] h fun v h'=>Fr 0 0 h h'∧v=.bool true:=by
 refine con_law10_lives ?_
 have p0:Fr 0 0 h h:=.refl _ _ _
 simp -dsimp only [go_sem]
 refine call_of (c_law10_passing 3 2) ?_
 rintro v1 h1 ⟨f1,q1,rfl,t1⟩
 have f1_z:=f1.size
 replace p0:=p0.F f1
 simp -dsimp only [go_sem]
 refine call_of (rc11_Derive t1 (ht.fr p0 (.inr rfl))) ?_
 rintro v2 h2 ⟨f2,w⟩
 have f2_z:=f2.size
 replace p0:=p0.F f2
 rw [if_pos sp3] at w
 obtain ⟨x,rfl,D⟩:=w
 obtain ⟨_,_,g1,-,ab⟩:=D 1 (by decide)
 obtain ⟨c0,e0⟩:=(D 0 (by decide)).pa.ptr
 obtain ⟨c1,e1⟩:=(D 1 (by decide)).pa.ptr
 obtain ⟨c2,e2⟩:=(D 2 (by decide)).pa.ptr
 obtain ⟨c3,e3⟩:=(D 3 (by decide)).pa.ptr
 obtain ⟨c4,e4⟩:=(D 4 (by decide)).pa.ptr
 obtain ⟨c5,e5⟩:=(D 5 (by decide)).pa.ptr
 obtain ⟨c6,e6⟩:=(D 6 (by decide)).pa.ptr
 rw [e0,e1,e2,e3,e4,e5,e6]
 rw [e1] at g1
 replace g1:ProgAt h2 _ _ _ (pasG 1 3 2).n (swM (pasG 1 3 2)):=g1
 have p2:Fr 0 0 h2 h2:=.refl _ _ _
 simp -dsimp only [go_sem]
 intro b3 h3 n3
 have n3_a:=n3.at_
 have n3_z:=n3.size
 replace p0:=p0.F n3.f0
 replace p2:=p2.F n3.f0
 have r3:=n3.row
 simp -dsimp only [go_sem,r3.cell]
 refine Chk_intro (r3.wr (by first | (simp;done) | (simp;omega))) fun h4 s4=>?_
 have s4_z:=s4.size
 replace p0:=p0.F s4.fr
 replace p2:=p2.F s4.fr
 replace r3:=s4.row r3
 try simp only [cl_int,cl_bool,cl_slice,cl_ptr,putAt_one,List.set_cons_zero,List.set_cons_succ,ivec_set,brow_upd] at r3
 try simp -dsimp only [go_sem] at r3
 simp -dsimp only [go_sem,r3.cell]
 refine call_of (c_law10_buffering 1 1) ?_
 rintro v5 h5 ⟨f5,q5,rfl,t5⟩
 have f5_z:=f5.size
 replace p0:=p0.F f5
 replace p2:=p2.F f5
 replace r3:=r3.F f5
 simp -dsimp only [go_sem,r3.cell]
 refine call_of (c_law10_says t5 (ht.fr p0 (.inr rfl)) nilI 0) ?_
 rintro v6 h6 ⟨f6,rfl⟩
 have f6_z:=f6.size
 replace p0:=p0.F f6
 replace p2:=p2.F f6
 replace r3:=r3.F f6
 rw [sb1]
 simp -dsimp only [go_sem,r3.cell]
 refine call_of (c_law10_buffering 5 5) ?_
 rintro v7 h7 ⟨f7,q7,rfl,t7⟩
 have f7_z:=f7.size
 replace p0:=p0.F f7
 replace p2:=p2.F f7
 replace r3:=r3.F f7
 simp -dsimp only [go_sem,r3.cell]
 intro b8 h8 n8
 have n8_a:=n8.at_
 have n8_z:=n8.size
 replace p0:=p0.F n8.f0
 replace p2:=p2.F n8.f0
 replace r3:=r3.F n8.f0
 have r8:=n8.row
 have t8:=t7.fr n8.fr
 simp -dsimp only [go_sem,r3.cell,r8.cell]
 refine call_of (c_law10_says t8 (ht.fr p0 (.inr rfl)) (l:=[2,3,4,5]) (Rw.rd (s:=1) (n:=4) (c:=4) r8 rfl) 3) ?_
 rintro v9 h9 ⟨f9,rfl⟩
 have f9_z:=f9.size
 replace p0:=p0.F f9
 replace p2:=p2.F f9
 replace r3:=r3.F f9
 replace r8:=r8.F f9
 rw [sb2]
 simp -dsimp only [go_sem,r3.cell,r8.cell]
 refine call_of (c_law10_passing 3 2) ?_
 rintro v12 h12 ⟨f12,q12,rfl,t12⟩
 have f12_z:=f12.size
 replace p0:=p0.F f12
 replace p2:=p2.F f12
 replace r3:=r3.F f12
 replace r8:=r8.F f12
 simp -dsimp only [go_sem,r3.cell,r8.cell]
 intro b13 h13 n13
 have n13_a:=n13.at_
 have n13_z:=n13.size
 replace p0:=p0.F n13.f0
 replace p2:=p2.F n13.f0
 replace r3:=r3.F n13.f0
 replace r8:=r8.F n13.f0
 have r13:=n13.row
 have t13:=t12.fr n13.fr
 simp -dsimp only [go_sem,r3.cell,r8.cell,r13.cell]
 refine call_of (c_law10_says t13 (ht.fr p0 (.inr rfl)) (l:=[2,5]) (Rw.rd (s:=1) (n:=2) (c:=2) r13 rfl) 1) ?_
 rintro v14 h14 ⟨f14,rfl⟩
 have f14_z:=f14.size
 replace p0:=p0.F f14
 replace p2:=p2.F f14
 replace r3:=r3.F f14
 replace r8:=r8.F f14
 replace r13:=r13.F f14
 rw [sp2]
 simp -dsimp only [go_sem,r3.cell,r8.cell,r13.cell]
 refine call_of (c_law10_passing 3 1) ?_
 rintro v10 h10 ⟨f10,q10,rfl,t10⟩
 have f10_z:=f10.size
 replace p0:=p0.F f10
 replace p2:=p2.F f10
 replace r3:=r3.F f10
 replace r8:=r8.F f10
 replace r13:=r13.F f10
 simp -dsimp only [go_sem,r3.cell,r8.cell,r13.cell]
 refine call_of (c_law10_says t10 (ht.fr p0 (.inr rfl)) nilI 0) ?_
 rintro v11 h11 ⟨f11,rfl⟩
 have f11_z:=f11.size
 replace p0:=p0.F f11
 replace p2:=p2.F f11
 replace r3:=r3.F f11
 replace r8:=r8.F f11
 replace r13:=r13.F f11
 rw [sp1]
 simp -dsimp only [go_sem,r3.cell,r8.cell,r13.cell]
 refine call_of (rel_Pairs (g1.fr p2 (by omega)) (ht.fr p0 (.inr rfl))) ?_
 rintro v15 h15 ⟨f15,o15⟩
 have f15_z:=f15.size
 replace p0:=p0.F f15
 replace p2:=p2.F f15
 replace r3:=r3.F f15
 replace r8:=r8.F f15
 replace r13:=r13.F f15
 rw [sp4] at o15
 simp -dsimp only [go_sem,r3.cell,r8.cell,r13.cell]
 intro b16 h16 n16
 have n16_a:=n16.at_
 have n16_z:=n16.size
 replace p0:=p0.F n16.f0
 replace p2:=p2.F n16.f0
 replace r3:=r3.F n16.f0
 replace r8:=r8.F n16.f0
 replace r13:=r13.F n16.f0
 have r16:=n16.row
 have o16:=o15.rd.fr n16.fr
 simp -dsimp only [go_sem,r3.cell,r8.cell,r13.cell,r16.cell]
 refine call_of (c_law10_pairs (l:=[(3,4)]) (m:=[(3,4)]) o16 (Rw.rd (s:=2) (n:=1) (c:=1) r16 rfl) (by decide)) ?_
 rintro v17 h16 ⟨rfl,rfl⟩
 simp -dsimp only [go_sem,dec_self,r3.cell,r8.cell,r13.cell,r16.cell]
 exact p0
end Go.Proofs.Tst
/-
  ArmWeaker.
-/
namespace Go.Proofs.Tst
open Go Go.Vc
theorem holder_mode {h:Heap} {b n c lo:Nat} {E:List Ev} (w:Holder 5 h (.slice (some ⟨b,0,none⟩) n c) n (evsV E) lo) {i:Nat} (hi:i<n):hcell h b (i * 5+4)=some (.int .i64 (E.getD i default).mode):=by
 have hl:=w.1
 rw [length_evsV] at hl
 have hE:i<E.length:=by omega
 obtain ⟨b',c',rest,h1,h2,h3,h4⟩:=w.blk (by omega)
 cases h1
 have he:E[i]?=some (E.getD i default):=by simp [hE]
 rw [h2.cell,List.getElem?_append_left (by simp;omega),evsV_get he 4 (by omega)]
 rfl
theorem GrOwn.modes {h:Heap} {q:GV} {g:Gr} {lo:Nat} (w:GrOwn h q g lo) (hn:0<g.n):∃ b,q.e=some ⟨b,0,none⟩∧∀ i,i<g.n→hcell h b (i * 5+4)=some (.int .i64 (g.ev i).mode):=by
 obtain ⟨b,hb,-⟩:=w.ev hn
 have we:=w.e
 rw [hb] at we
 exact ⟨b,hb,fun i hi=>holder_mode we hi⟩
structure WkTo (g:Gr) (E:List Ev) (i:Nat):Prop where
 len:E.length=g.evs.length
 same:∀ j,i≤j→E.getD j default=g.ev j
 thr:∀ j,(E.getD j default).thread=(g.ev j).thread
 kind:∀ j,(E.getD j default).kind=(g.ev j).kind
 loc:∀ j,(E.getD j default).loc=(g.ev j).loc
 val:∀ j,(E.getD j default).val=(g.ev j).val
 mode:∀ j,weakM (g.ev j).mode (E.getD j default).mode
theorem WkTo.start (g:Gr):WkTo g g.evs 0:=⟨rfl,fun _ _=>rfl,fun _=>rfl,fun _=>rfl,fun _=>rfl,fun _=>rfl,fun _=>.inl rfl⟩
theorem WkTo.keep {g:Gr} {E:List Ev} {i:Nat} (w:WkTo g E i):WkTo g E (i+1):=⟨w.len,fun j hj=>w.same j (by omega),w.thr,w.kind,w.loc,w.val,w.mode⟩
theorem setMode_get {E:List Ev} {i j:Nat} {m:Int} (hi:i<E.length):(setMode E i m).getD j default=if j=i then { E.getD i default with mode:=m } else E.getD j default:=by
 unfold setMode
 rw [List.getD_eq_getElem?_getD,List.getElem?_set]
 by_cases h:i=j
 ·subst h;rw [if_pos rfl,if_pos hi,if_pos rfl];rfl
 ·rw [if_neg h,if_neg (Ne.symm h),List.getD_eq_getElem?_getD]
theorem WkTo.set {g:Gr} {E:List Ev} {i:Nat} {m:Int} (w:WkTo g E i) (hi:i<g.evs.length) (hm:weakM (g.ev i).mode m):WkTo g (setMode E i m) (i+1):=by
 have hE:i<E.length:=by rw [w.len];exact hi
 refine ⟨by simp [w.len],fun j hj=>?_,fun j=>?_,fun j=>?_,fun j=>?_,fun j=>?_,fun j=>?_⟩ <;> rw [setMode_get hE]
 ·rw [if_neg (by omega)];exact w.same j (by omega)
 all_goals
  by_cases h:j=i
  ·subst h
   rw [if_pos rfl]
   first | exact w.thr j | exact w.kind j | exact w.loc j | exact w.val j | exact hm
  ·rw [if_neg h]
   first | exact w.thr j | exact w.kind j | exact w.loc j | exact w.val j | exact w.mode j
end Go.Proofs.Tst
/-
  ArmWeaker.
-/
namespace Go.Proofs.Tst
open Go Go.Vc
section
variable {h h' : Heap} {q : GV} {g : Gr} {lo be i B : Nat} {E : List Ev} {m : Int}
structure EvAt (h:Heap) (q:GV) (g:Gr) (lo B:Nat):Prop where
 own:GrOwn h q g lo
 some:0<g.n→q.e=.some ⟨B,0,none⟩∧lo≤B∧B<h.size
 none:g.n=0→B=h.size
theorem EvAt.of (w:GrOwn h q g lo):∃ B,EvAt h q g lo B:=by
 by_cases hn:0<g.n
 ·obtain ⟨b,k1,k2,k3,-⟩:=w.ev hn
  exact ⟨b,w,fun _=>⟨k1,k2,k3⟩,fun h=>by omega⟩
 ·exact ⟨h.size,w,fun h=>absurd h hn,fun _=>rfl⟩
theorem EvAt.to (w:EvAt h q g lo B) (f:Fr B (B+1) h h') (hl:E.length=g.n) (he:Holder 5 h' (.slice q.e g.evs.length q.ec) g.evs.length (evsV E) lo):GrOwn h' q { g with evs:=E } lo:=by
 by_cases hn:0<g.n
 ·obtain ⟨k1,k2,k3⟩:=w.some hn
  rw [k1] at he
  exact w.own.evs' f k1 hl he
 ·have h0:g.evs=[]:=List.length_eq_zero_iff.1 (by unfold Gr.n at hn;omega)
  have h1:E=g.evs:=by rw [h0];exact List.length_eq_zero_iff.1 (by omega)
  rw [h1]
  exact w.own.fr f (.inr (.inl (by have:=w.none (by omega);omega)))
end
end Go.Proofs.Tst
/-
  RcWeaker.
-/
namespace Go.Proofs.Tst
open Go Go.Vc
structure WkS (g:Gr) (E:List Ev) (i:Nat):Prop where
 len:E.length=g.evs.length
 same:∀ j,i≤j→E.getD j default=g.ev j
 thr:∀ j,(E.getD j default).thread=(g.ev j).thread
 kind:∀ j,(E.getD j default).kind=(g.ev j).kind
 loc:∀ j,(E.getD j default).loc=(g.ev j).loc
 mode:∀ j,wkR (g.ev j).kind (E.getD j default).mode (g.ev j).mode
theorem WkS.start (g:Gr):WkS g g.evs 0:=⟨rfl,fun _ _=>rfl,fun _=>rfl,fun _=>rfl,fun _=>rfl,fun _=>.inl rfl⟩
theorem WkS.keep {g:Gr} {E:List Ev} {i:Nat} (w:WkS g E i):WkS g E (i+1):=⟨w.len,fun j hj=>w.same j (by omega),w.thr,w.kind,w.loc,w.mode⟩
theorem WkS.set {g:Gr} {E:List Ev} {i:Nat} {m:Int} (w:WkS g E i) (hi:i<g.evs.length) (hm:wkR (g.ev i).kind m (g.ev i).mode):WkS g (E.set i { g.ev i with mode:=m }) (i+1):=by
 have hE:i<E.length:=by rw [w.len];exact hi
 have key:∀ j,(E.set i { g.ev i with mode:=m }).getD j default=if j=i then { g.ev i with mode:=m } else E.getD j default:=fun j=>by
  rw [List.getD_eq_getElem?_getD,List.getElem?_set]
  by_cases h:i=j
  ·subst h;rw [if_pos rfl,if_pos hE,if_pos rfl];try rfl
  ·rw [if_neg h,if_neg (Ne.symm h),List.getD_eq_getElem?_getD]
 refine ⟨by simp [w.len],fun j hj=>?_,fun j=>?_,fun j=>?_,fun j=>?_,fun j=>?_⟩ <;> rw [key]
 ·rw [if_neg (by omega)];exact w.same j (by omega)
 all_goals
  by_cases h:j=i
  ·subst h
   rw [if_pos rfl]
   try first | rfl | exact hm
  ·rw [if_neg h]
   first | exact w.thr j | exact w.kind j | exact w.loc j | exact w.mode j
end Go.Proofs.Tst
/-
  law10: pairs with other numbers.
-/
namespace Go.Proofs.Tst
open Go Go.Vc
def keyP (b:Bool) (p:Int×Int):Int:=if b then p.2 else p.1
theorem pairsV_put:∀ {L:List (Int×Int)} {i:Nat} {p:Int×Int},i<L.length→putAt (pairsV L) (i * 2) [.int .i64 p.1,.int .i64 p.2]=pairsV (L.set i p)
 | [],i,_,h=>by simp at h
 | x :: L,0,p,_=>rfl
 | x :: L,i+1,p,h=>by
  have ih:=pairsV_put (L:=L) (i:=i) (p:=p) (by simpa using h)
  have h2:(i+1) * 2=[Value.int .i64 x.1,.int .i64 x.2].length+i * 2:=by show _=2 + _;omega
  rw [List.set_cons_succ,pairsV_cons,pairsV_cons,← ih,h2]
  exact putAt_right (a:=[Value.int .i64 x.1,.int .i64 x.2]) _ _ _
theorem holder_pair {h:Heap} {b n c lo:Nat} {L:List (Int×Int)} (w:Holder 2 h (.slice (some ⟨b,0,none⟩) n c) n (pairsV L) lo) {i:Nat} (hi:i<n) :
  Wr h b (i * 2) 2∧(∀ h' p,Sto h h' b (i * 2) [.int .i64 p.1,.int .i64 p.2]→Holder 2 h' (.slice (some ⟨b,0,none⟩) n c) n (pairsV (L.set i p)) lo) ∧
  ∀ p,L[i]?=some p→hcell h b (i * 2)=some (.int .i64 p.1)∧hcell h b (i * 2+1)=some (.int .i64 p.2):=by
 have hl:=w.1
 rw [length_pairsV] at hl
 obtain ⟨b',c',rest,h1,h2,h3,h4⟩:=w.blk (by omega)
 cases h1
 refine ⟨h2.wr (by simp;omega),fun h' p s=>⟨by simp;omega,.inr ⟨b,c,rest,rfl,?_,h3,h4⟩⟩,fun p hp=>?_⟩
 ·have:=s.row h2
  rw [putAt_left _ _ _ (by simp;omega),pairsV_put (by omega)] at this
  exact this
 ·obtain ⟨k1,k2⟩:=pairsV_get L i p hp
  exact ⟨by rw [h2.cell,List.getElem?_append_left (by simp;omega)];exact k1,by rw [h2.cell,List.getElem?_append_left (by simp;omega)];exact k2⟩
theorem ins_sorted {b:Bool} {S1 S2:List (Int×Int)} {e:Int×Int} (hS:(S1++S2).Pairwise fun p q=>keyP b p<keyP b q) (h1:∀ x∈S1,keyP b x<keyP b e) (h2:∀ y∈S2,keyP b e<keyP b y) :
  (S1++e :: S2).Pairwise fun p q=>keyP b p<keyP b q:=by
 rw [List.pairwise_append] at hS ⊢
 refine ⟨hS.1,List.pairwise_cons.2 ⟨h2,hS.2.1⟩,fun x hx y hy=>?_⟩
 rcases List.mem_cons.1 hy with rfl | hy
 ·exact h1 x hx
 ·exact hS.2.2 x hx y hy
theorem loop_two2 {P:Program} {y:Option Nat} {c:GC} {Q:Post} {K:Env→Heap→Prop} {k j:Nat} {e:Env} {h:Heap} {α:Type} (E:α→Env) (I:α→Heap→Prop)
  (h1:loopVC (vc P y c) (blockQ k (blockQ j (thenQ (fun e h=>∃ s,Le (E s) e∧I s h) Q))) e h) (h2:∀ s h,I s h→∀ e,Le (E s) e→K e h):loopVC (vc P y c) (blockQ k (blockQ j (thenQ K Q))) e h:=
 vc_mono (c:=.loop c) (Q:=blockQ k (blockQ j (thenQ (fun e h=>∃ s,Le (E s) e∧I s h) Q))) (Q':=blockQ k (blockQ j (thenQ K Q))) (fun x e h hq=>by
  have key:thenQ (fun e h=>∃ s,Le (E s) e∧I s h) Q .normal e h→thenQ K Q .normal e h:=fun ⟨s,hl,hi⟩=>h2 s h hi e hl
  cases x with
  | normal=>exact key hq
  | ret=>exact hq
  | exit i =>
   by_cases hk:i=k
   ·simp only [blockQ,hk,if_true] at hq ⊢;exact key hq
   ·by_cases hj:i=j
    ·simp only [blockQ,hk,hj,if_true,if_false] at hq ⊢
     split at hq <;> rename_i hjk
     ·rw [if_pos hjk];exact key hq
     ·rw [if_neg hjk];exact key hq
    ·simp only [blockQ,hk,hj,if_false] at hq ⊢;exact hq) h1
set_option maxHeartbeats 4000000 in
theorem c_law10_moved {h:Heap} {la aa:Option Addr} {lc ac n:Nat} {l:List (Int×Int)} {s:Nat→Nat} (hl:Rd 2 h (.slice la l.length lc) l.length (pairsV l)) (bl_:l.length≤8796093022208)
  (ha:Rd 1 h (.slice aa n ac) ((List.range n).map fun i=>(s i:Int)).length (intsV ((List.range n).map fun i=>(s i:Int)))) (hp:∀ p∈l,∃ a b:Nat,p=((a:Int),(b:Int))∧a<n∧b<n)
  (bb:Bool) (hd:(l.map (mapP s)).Pairwise fun p q=>keyP bb p≠keyP bb q) :
  Con Tryd.prog 37 #[.slice la l.length lc,.slice aa n ac,.bool bb] h fun v h'=>Fr 0 0 h h'∧∃ out,Holder 2 h' v out.length (pairsV out) h.size∧out.Perm (l.map (mapP s))∧out.Pairwise fun p q=>keyP bb p<keyP bb q:=by
 refine con_law10_moved ?_
 have p0:Fr 0 0 h h:=.refl _ _ _
 have hnl:((List.range n).map fun i=>(s i:Int)).length=n:=by simp
 simp -dsimp only [go_sem]
 refine loop_intro (fun z:Nat×Value=>[(0,.slice la l.length lc),(1,.slice aa n ac),(2,.bool bb),(7,z.2),(8,.int .i64 z.1)])
  (fun z h'=>z.1≤l.length∧Fr 0 0 h h'∧∃ out,Holder 2 h' z.2 out.length (pairsV out) h.size∧out.Perm ((l.take z.1).map (mapP s))∧out.Pairwise fun p q=>keyP bb p<keyP bb q) (fun z=>l.length - z.1) (0,.slice none 0 0) ?_ ?_ ?_
 ·simp [Le,find]
 ·exact ⟨by omega,p0,[],.none _ _ _,by simp,.nil⟩
 clear p0
 rintro ⟨i,v⟩ h1 ⟨hi,p0,S,o1,hS,hsort⟩
 dsimp only at hi o1 hS ⊢
 have p0_z:=p0.size
 have o1_l:=o1.top
 have hSl:S.length=i:=by rw [hS.length_eq,List.length_map,List.length_take];omega
 by_cases hlt:i<l.length
 rotate_left
 ·obtain rfl:i=l.length:=by omega
  simp -dsimp only [go_sem,Int.lt_irrefl]
  rw [List.take_length] at hS
  exact ⟨p0,S,o1,hS,hsort⟩
 have e1:((i:Int)<(l.length:Int)):=by omega
 have hq:l[i]?=some l[i]:=List.getElem?_eq_getElem hlt
 obtain ⟨x,y,he,hx,hy⟩:=hp _ (List.mem_of_getElem? hq)
 have htk:(l.take (i+1)).map (mapP s)=(l.take i).map (mapP s)++[mapP s l[i]]:=by rw [List.take_add_one,hq,List.map_append];rfl
 have hne:∀ p∈S,keyP bb p≠keyP bb (mapP s l[i]):=fun p hp'=>by
  have h1:=hS.mem_iff.1 hp'
  have h2:((l.take (i+1)).map (mapP s)).Pairwise fun p q=>keyP bb p≠keyP bb q:=by
   rw [List.map_take];exact hd.sublist (List.take_sublist _ _)
  rw [htk,List.pairwise_append] at h2
  exact h2.2.2 p h1 _ (by simp)
 have hmp:mapP s l[i]=((s x:Int),(s y:Int)):=by rw [he];unfold mapP;simp
 rw [he] at hq
 rw [hmp] at htk hne
 obtain ⟨lb,lo_,hle,hlc⟩:=hl.pairsAt (by omega)
 obtain ⟨k1,k2⟩:=hlc h1 p0 i _ hq
 dsimp only at k1 k2
 obtain ⟨ab,ao,hae,hac⟩:=list_at (h:=h) (la:=aa) (lc:=ac) (l:=(List.range n).map fun i=>(s i:Int)) (by omega) fun h' f=>by rw [hnl];rw [hnl] at ha;exact ha.fr f
 have ka:=hac h1 p0 x (s x:Int) (by simp [hx])
 have kb:=hac h1 p0 y (s y:Int) (by simp [hy])
 have ex:((x:Int)<(n:Int)):=by omega
 have ey:((y:Int)<(n:Int)):=by omega
 obtain ⟨va,vc,rfl⟩:=o1.is
 have o1_a:=o1.at_
 simp -dsimp only [go_sem,e1,hle,k1,k2,hae,ka,kb,ex,ey]
 intro b2 h2 n2
 have n2_a:=n2.at_
 have n2_z:=n2.size
 replace p0:=p0.F n2.f0
 replace o1:=o1.fr n2.f0 (by have:=o1.at_;omega)
 have r2:=n2.row
 simp -dsimp only [go_sem,r2.cell]
 refine o1.append (by omega) rfl (by omega) (by simp) (by omega) fun v3 h3 o_new f3 e_app=>?_
 have f3_z:=f3.size
 have o_at:=o1.at_
 replace p0:=p0.F f3
 replace r2:=r2.F f3
 clear o_at e_app
 replace o1:=o_new
 have o1_l:=o1.top
 obtain ⟨a3,c3,rfl⟩:=o1.is
 have o3:Holder 2 h3 (.slice a3 (S.length+1) c3) (S.length+1) (pairsV (S++((s x:Int),(s y:Int)) :: [])) h.size:=by rw [pairsV_append];exact o1
 clear o1
 generalize hee:((s x:Int),(s y:Int))=e at o3 htk hne
 obtain ⟨k1',k2'⟩:=hlc h3 p0 i _ hq
 dsimp only at k1' k2'
 have ka':=hac h3 p0 x (s x:Int) (by simp [hx])
 have kb':=hac h3 p0 y (s y:Int) (by simp [hy])
 simp -dsimp only [go_sem,k1',k2',ka',kb',r2.cell]
 simp -dsimp (disch:=omega) only [wrap64]
 clear k1 k2 ka kb k1' k2' ka' kb' r2 o1_a
 refine loop_two2 (fun _:Unit=>[(0,.slice (some ⟨lb,lo_,none⟩) l.length lc),(1,.slice (some ⟨ab,ao,none⟩) n ac),(2,.bool bb),(7,.slice a3 (S.length+1) c3),(8,.int .i64 i)])
  (fun _ h'=>Fr 0 0 h h'∧∃ L,Holder 2 h' (.slice a3 (S.length+1) c3) (S.length+1) (pairsV L) h.size∧L.Perm (S++[e])∧L.Pairwise fun p q=>keyP bb p<keyP bb q) ?_ ?_
 ·refine loop_intro (fun k:Nat=>[(0,.slice (some ⟨lb,lo_,none⟩) l.length lc),(1,.slice (some ⟨ab,ao,none⟩) n ac),(2,.bool bb),(7,.slice a3 (S.length+1) c3),(8,.int .i64 i),(9,.int .i64 k)])
   (fun k h'=>Fr 0 0 h h'∧∃ S1 S2,S1++S2=S∧S1.length=k∧(∀ z∈S2,keyP bb e<keyP bb z)∧Holder 2 h' (.slice a3 (S.length+1) c3) (S.length+1) (pairsV (S1++e :: S2)) h.size) (fun k=>k) S.length ?_ ?_ ?_
  ·simp [Le,find]
  ·exact ⟨p0,S,[],by simp,rfl,by simp,o3⟩
  clear p0 o3
  rintro k h4 ⟨p0,S1,S2,hSS,hk,hS2,o4⟩
  have p0_z:=p0.size
  by_cases hk0:k=0
  ·subst hk0
   have e0:¬ (((0:Nat):Int) > 0):=by decide
   simp -dsimp only [go_sem,e0]
   obtain rfl:S1=[]:=List.length_eq_zero_iff.1 hk
   refine ⟨(),by simp [Le,find],p0,_,o4,?_,ins_sorted (S1:=[]) (by rw [hSS];exact hsort) (by simp) hS2⟩
   rw [List.nil_append] at hSS ⊢
   rw [hSS]
   exact (List.perm_append_singleton e S).symm
  obtain ⟨S1',w,rfl⟩:∃ S1' w,S1=S1' ++ [w]:=⟨S1.dropLast,S1.getLast (by intro h;rw [h] at hk;simp at hk;omega),(List.dropLast_concat_getLast _).symm⟩
  obtain rfl:k=S1'.length+1:=by simpa using hk.symm
  have e0:(((S1'.length+1:Nat):Int) > 0):=by omega
  have em:(((S1'.length+1:Nat):Int) - 1)=(S1'.length:Int):=by omega
  have hm:S1'.length+1<S.length+1:=by rw [← hSS];simp
  have el:((S1'.length:Int)<((S.length+1:Nat):Int)):=by omega
  have el2:(((S1'.length+1:Nat):Int)<((S.length+1:Nat):Int)):=by omega
  obtain ⟨b,c,rest,hb1,-,-,hb2⟩:=o4.blk (by omega)
  cases hb1
  have lbh:bl (.slice (some ⟨b,0,none⟩) (S.length+1) c3)=b∧bh (.slice (some ⟨b,0,none⟩) (S.length+1) c3)=b+1:=⟨rfl,rfl⟩
  have o4t:=o4.top
  have hL:(S1' ++ [w]++e :: S2)=S1' ++ w :: e :: S2:=by simp
  rw [hL] at o4
  obtain ⟨w1,w2⟩:=(holder_pair o4 (i:=S1'.length) (by omega)).2.2 w (by simp)
  have ew:IntKind.i64.wrap (((S1'.length+1:Nat):Int) - 1)=(S1'.length:Int):=by rw [em];simp (disch:=omega) only [wrap64]
  simp -dsimp only [go_sem,e0,ew,el,w1,w2]
  intro b10 h5 n5
  have n5_a:=n5.at_
  have n5_z:=n5.size
  replace p0:=p0.F n5.f0
  have r10:=n5.row
  simp -dsimp only [go_sem,r10.cell]
  refine Chk_intro (r10.wr (by first | (simp;done) | (simp;omega))) fun h6 s6=>?_
  have s6_z:=s6.size
  replace p0:=p0.F s6.fr
  replace r10:=s6.row r10
  try simp only [cl_int,cl_bool,cl_slice,cl_ptr,putAt_one,List.set_cons_zero,List.set_cons_succ,ivec_set,brow_upd] at r10
  try simp -dsimp only [go_sem] at r10
  have o6:=(o4.fr n5.f0 (by omega)).fr s6.fr (by omega)
  obtain ⟨w3,w4⟩:=(holder_pair o6 (i:=S1'.length+1) (by omega)).2.2 e (by rw [List.getElem?_append_right (by omega)];simp)
  simp -dsimp only [go_sem,el2,w3,w4,r10.cell]
  intro b11 h7 n7
  have n7_a:=n7.at_
  have n7_z:=n7.size
  replace p0:=p0.F n7.f0
  replace r10:=r10.F n7.f0
  have r11:=n7.row
  simp -dsimp only [go_sem,r10.cell,r11.cell]
  refine Chk_intro (r11.wr (by first | (simp;done) | (simp;omega))) fun h8 s8=>?_
  have s8_z:=s8.size
  replace p0:=p0.F s8.fr
  replace r10:=r10.F s8.fr
  replace r11:=s8.row r11
  try simp only [cl_int,cl_bool,cl_slice,cl_ptr,putAt_one,List.set_cons_zero,List.set_cons_succ,ivec_set,brow_upd] at r11
  try simp -dsimp only [go_sem] at r11
  have o8:=(o6.fr n7.f0 (by omega)).fr s8.fr (by omega)
  have g8:b<b10∧b10<b11:=by omega
  clear o4 o6 w1 w2 w3 w4
  by_cases hlt':keyP bb w<keyP bb e
  ·have hfin:∀ h',h8=h'→∃ L,Holder 2 h' (.slice (some ⟨b,0,none⟩) (S.length+1) c3) (S.length+1) (pairsV L) h.size∧L.Perm (S++[e])∧L.Pairwise fun p q=>keyP bb p<keyP bb q:=fun h' eh=>by
    subst eh
    refine ⟨_,o8,?_,?_⟩
    ·rw [← hL,← hSS]
     simp only [List.append_assoc,List.singleton_append,List.cons_append]
     exact List.Perm.append_left _ (List.Perm.cons _ ((List.perm_append_singleton e S2).symm))
    ·rw [← hL]
     refine ins_sorted (by rw [hSS];exact hsort) (fun z hz=>?_) hS2
     rcases List.mem_append.1 hz with hz | hz
     ·have:=(List.pairwise_append.1 ((List.pairwise_append.1 (by rw [hSS];exact hsort:((S1' ++ [w])++S2).Pairwise _)).1)).2.2 z hz w (by simp)
      omega
     ·simp only [List.mem_singleton] at hz;subst hz;exact hlt'
   cases bb
   ·have hc:(w.1<e.1):=hlt'
    simp -dsimp only [go_sem,hc,r10.cell,r11.cell]
    exact ⟨(),by simp [Le,find],p0,hfin _ rfl⟩
   ·have hc:(w.2<e.2):=hlt'
    simp -dsimp only [go_sem,hc,r10.cell,r11.cell]
    exact ⟨(),by simp [Le,find],p0,hfin _ rfl⟩
  have hgt:keyP bb e<keyP bb w:=by
   have:=hne w (by rw [← hSS];simp)
   omega
  have hS2':∀ z∈w :: S2,keyP bb e<keyP bb z:=fun z hz=>by
   rcases List.mem_cons.1 hz with rfl | hz
   ·exact hgt
   ·exact hS2 z hz
  have hset:((S1' ++ w :: e :: S2).set S1'.length e).set (S1'.length+1) w=S1' ++ e :: w :: S2:=by
   rw [List.set_append_right _ _ (Nat.le_refl _),Nat.sub_self,List.set_cons_zero,List.set_append_right _ _ (by omega),Nat.add_sub_cancel_left];rfl
  cases bb
  ·have hc:¬ (w.1<e.1):=hlt'
   simp -dsimp only [go_sem,hc,ew,el,r10.cell,r11.cell]
   refine Chk_intro (holder_pair o8 (i:=S1'.length) (by omega)).1 fun h9 s9=>?_
   have o9:=(holder_pair o8 (i:=S1'.length) (by omega)).2.1 h9 e s9
   have s9_z:=s9.size
   have y9:Fr b (b+1) h8 h9:=s9.fr
   have y9_z:=y9.size
   replace p0:=p0.F y9
   replace r10:=r10.F y9
   replace r11:=r11.F y9
   simp -dsimp only [go_sem,el2,r10.cell,r11.cell]
   refine Chk_intro (holder_pair o9 (i:=S1'.length+1) (by omega)).1 fun h10 s10=>?_
   have o10:=(holder_pair o9 (i:=S1'.length+1) (by omega)).2.1 h10 w s10
   have s10_z:=s10.size
   have y10:Fr b (b+1) h9 h10:=s10.fr
   have y10_z:=y10.size
   replace p0:=p0.F y10
   replace r10:=r10.F y10
   replace r11:=r11.F y10
   rw [hset] at o10
   simp -dsimp only [go_sem,r10.cell,r11.cell]
   simp -dsimp (disch:=omega) only [wrap64]
   exact ⟨S1'.length,by omega,by simp [Le,find,em],p0,S1',w :: S2,by rw [← hSS];simp,rfl,hS2',o10⟩
  ·have hc:¬ (w.2<e.2):=hlt'
   simp -dsimp only [go_sem,hc,ew,el,r10.cell,r11.cell]
   refine Chk_intro (holder_pair o8 (i:=S1'.length) (by omega)).1 fun h9 s9=>?_
   have o9:=(holder_pair o8 (i:=S1'.length) (by omega)).2.1 h9 e s9
   have s9_z:=s9.size
   have y9:Fr b (b+1) h8 h9:=s9.fr
   have y9_z:=y9.size
   replace p0:=p0.F y9
   replace r10:=r10.F y9
   replace r11:=r11.F y9
   simp -dsimp only [go_sem,el2,r10.cell,r11.cell]
   refine Chk_intro (holder_pair o9 (i:=S1'.length+1) (by omega)).1 fun h10 s10=>?_
   have o10:=(holder_pair o9 (i:=S1'.length+1) (by omega)).2.1 h10 w s10
   have s10_z:=s10.size
   have y10:Fr b (b+1) h9 h10:=s10.fr
   have y10_z:=y10.size
   replace p0:=p0.F y10
   replace r10:=r10.F y10
   replace r11:=r11.F y10
   rw [hset] at o10
   simp -dsimp only [go_sem,r10.cell,r11.cell]
   simp -dsimp (disch:=omega) only [wrap64]
   exact ⟨S1'.length,by omega,by simp [Le,find,em],p0,S1',w :: S2,by rw [← hSS];simp,rfl,hS2',o10⟩
 rintro ⟨⟩ h6 ⟨p0,L,o6,hL1,hL2⟩ en ⟨el0,el1,el2,el7,el8,-⟩
 have hLl:L.length=S.length+1:=by rw [hL1.length_eq];simp
 rw [hle,hae] at *
 simp -dsimp only [go_sem,el0,el1,el2,el7,el8]
 simp -dsimp (disch:=omega) only [wrap64]
 refine ⟨(i+1,.slice a3 (S.length+1) c3),by dsimp only;omega,by simp [Le,find],by dsimp only;omega,p0,L,by rw [hLl];exact o6,?_,hL2⟩
 rw [htk]
 exact hL1.trans (hS.append_right _)
end Go.Proofs.Tst
/-
  An order of the events that keeps po (plain).
-/
namespace Go.Proofs.Tst
open Go Go.Vc
structure OrdI (g:Gr) (O:List Nat):Prop where
 nd:O.Nodup
 lt:∀ x∈O,x<g.n
 fix:∀ c:Nat,(c:Int)<g.cells→c<g.n→O[c]?=some c
 up:∀ (p j:Nat),O[p]?=some j→∀ i,i<j→(g.ev i).thread=(g.ev j).thread→0≤(g.ev i).thread→∃ p',p' < p∧O[p']?=some i
theorem range_get {n p j:Nat} (h:(List.range n)[p]?=some j):p=j∧p<n:=by
 have hlt:=(List.getElem?_eq_some_iff.1 h).1
 have:=(List.getElem?_eq_some_iff.1 h).2
 simp at hlt this
 exact ⟨this,hlt⟩
theorem OrdI.start {g:Gr} (hg:(g.check false).1=0):OrdI g (List.range g.cells.toNat):=by
 have hs:=(check_zero hg).1
 simp only [Gr.size,Bool.and_eq_true,decide_eq_true_eq] at hs
 refine ⟨List.nodup_range,fun x hx=>?_,fun c hc hn=>?_,fun p j hp i hij hth h0=>?_⟩
 ·have:=List.mem_range.1 hx;omega
 ·have:c<g.cells.toNat:=by omega
  simp [this]
 ·obtain ⟨rfl,hlt⟩:=range_get hp
  exact ⟨i,hij,by rw [List.getElem?_range (by omega)]⟩
theorem OrdI.snoc {g:Gr} {O:List Nat} {m:Nat} (w:OrdI g O) (hm:m<g.n) (hn:m∉O) (hf:∀ i,i<m→i∉O→(g.ev i).thread≠(g.ev m).thread):OrdI g (O++[m]):=by
 refine ⟨?_,fun x hx=>?_,fun c hc hcn=>?_,fun p j hp i hij hth h0=>?_⟩
 ·rw [List.nodup_append]
  exact ⟨w.nd,by simp,fun a ha b hb=>by simp at hb;subst hb;intro e;subst e;exact hn ha⟩
 ·rcases List.mem_append.1 hx with hx | hx
  ·exact w.lt x hx
  ·simp at hx;subst hx;exact hm
 ·have:=w.fix c hc hcn
  rw [List.getElem?_append_left (List.getElem?_eq_some_iff.1 this).1];exact this
 ·by_cases hpl:p<O.length
  ·rw [List.getElem?_append_left hpl] at hp
   obtain ⟨p',h1,h2⟩:=w.up p j hp i hij hth h0
   exact ⟨p',h1,by rw [List.getElem?_append_left (by omega)];exact h2⟩
  ·rw [List.getElem?_append_right (by omega)] at hp
   have hz:p - O.length=0:=by
    apply Classical.byContradiction;intro hz
    rw [List.getElem?_eq_none (by simp;omega)] at hp;cases hp
   rw [hz] at hp
   simp at hp
   subst hp
   have hi:i∈O:=by
    apply Classical.byContradiction;intro hi
    exact hf i hij hi hth
   obtain ⟨p',hp'⟩:=List.mem_iff_getElem?.1 hi
   have:=(List.getElem?_eq_some_iff.1 hp').1
   exact ⟨p',by omega,by rw [List.getElem?_append_left this];exact hp'⟩
theorem OrdI.left {g:Gr} {O:List Nat} (_:OrdI g O) (hl:O.length<g.n):∃ i,i<g.n∧i∉O:=by
 apply Classical.byContradiction
 intro h
 have hs:List.range g.n ⊆ O:=fun x hx=>Classical.byContradiction fun hn=>h ⟨x,List.mem_range.1 hx,hn⟩
 have:=List.Nodup.length_le_of_subset List.nodup_range hs
 simp at this
 omega
def numT (O:List Nat) (k:Nat):Nat:=O.getD k 0
def numS (O:List Nat) (i:Nat):Nat:=O.idxOf i
section
variable {g : Gr} {O : List Nat}
theorem OrdI.full (w:OrdI g O) (hl:O.length=g.n) {i:Nat} (hi:i<g.n):i∈O:=by
 apply Classical.byContradiction;intro hn
 have hs:(i :: O) ⊆ List.range g.n:=fun x hx=>by
  rcases List.mem_cons.1 hx with rfl | hx
  ·exact List.mem_range.2 hi
  ·exact List.mem_range.2 (w.lt x hx)
 have:=List.Nodup.length_le_of_subset (List.nodup_cons.2 ⟨hn,w.nd⟩) hs
 simp at this
 omega
theorem OrdI.iso (w:OrdI g O) (hl:O.length=g.n):Iso g.n (numS O) (numT O):=by
 have hT:∀ k (hk:k<g.n),numT O k=O[k]'(by omega):=fun k hk=>by unfold numT;simp [hl,hk]
 refine ⟨fun i hi=>?_,fun k hk=>?_,fun k hk=>?_,fun i hi=>?_⟩
 ·rw [← hl];exact List.idxOf_lt_length_iff.2 (w.full hl hi)
 ·rw [hT k hk];exact w.lt _ (List.getElem_mem _)
 ·rw [hT k hk];exact w.nd.idxOf_getElem k (by omega)
 ·have h:=List.idxOf_lt_length_iff.2 (w.full hl hi)
  rw [hT _ (by unfold numS;omega)]
  exact List.getElem_idxOf h
theorem OrdI.at_ (w:OrdI g O) {p i:Nat} (h:O[p]?=some i):numS O i=p:=by
 obtain ⟨h1,h2⟩:=List.getElem?_eq_some_iff.1 h
 unfold numS
 rw [← h2];exact w.nd.idxOf_getElem p h1
theorem OrdI.relist (w:OrdI g O) (hl:O.length=g.n) {rf rmw:List (Int×Int)} (h1:rf.Perm (g.rf.map (mapP (numS O)))) (h2:rf.Pairwise fun p q=>p.2<q.2)
  (h3:rmw.Perm (g.rmw.map (mapP (numS O)))) (h4:rmw.Pairwise fun p q=>p.1<q.1) :
  Relist g ⟨g.cells,O.map g.ev,rf,g.co.map fun l=>l.map fun x=>(numS O x.toNat:Int),rmw,[],[],[]⟩ (numS O) (numT O):=by
 have I:=w.iso hl
 refine ⟨rfl,by show (O.map g.ev).length=_;rw [List.length_map];exact hl,I,fun c hc hn=>w.at_ (w.fix c hc hn),fun i j hij hj hth h0=>?_,fun i hi=>?_,h1,h2,h3,h4,rfl,rfl,rfl,rfl⟩
 ·have hp:=List.getElem_idxOf (List.idxOf_lt_length_iff.2 (w.full hl hj))
  obtain ⟨p',hp',e⟩:=w.up (numS O j) j (by unfold numS;rw [List.getElem?_eq_getElem (List.idxOf_lt_length_iff.2 (w.full hl hj)),hp]) i hij hth h0
  rw [w.at_ e];exact hp'
 ·have h:=List.idxOf_lt_length_iff.2 (w.full hl hi)
  show (O.map g.ev).getD (numS O i) default=g.ev i
  unfold numS
  rw [List.getD_eq_getElem?_getD,List.getElem?_map,List.getElem?_eq_getElem h,List.getElem_idxOf h];rfl
end
end Go.Proofs.Tst
/-
  law10: the events in another order.
-/
namespace Go.Proofs.Tst
open Go Go.Vc
def natI (l:List Nat):List Int:=l.map fun (x:Nat)=>(x:Int)
@[simp] theorem length_natI (l:List Nat):(natI l).length=l.length:=by simp [natI]
theorem natI_append (l:List Nat) (x:Nat):intsV (natI (l++[x]))=intsV (natI l)++[.int .i64 x]:=by simp [natI,intsV]
theorem evsV_app (l m:List Ev):evsV (l++m)=evsV l++evsV m:=by simp [evsV]
def inO (O:List Nat) (j:Nat):Bool:=decide (j∈O)
theorem inO_snoc {O:List Nat} {m:Nat} (j:Nat):inO (O++[m]) j=upd (inO O) m true j:=by
 unfold inO upd
 by_cases h:j=m
 ·subst h;simp
 ·simp [h]
theorem num_inj {g:Gr} {O:List Nat} (w:OrdI g O) (hl:O.length=g.n) {i j:Nat} (hi:i<g.n) (hj:j<g.n) (e:numS O i=numS O j):i=j:=by
 have I:=w.iso hl
 rw [← I.ts i hi,← I.ts j hj,e]
theorem rf_keys {g:Gr} {O:List Nat} (hg:(g.check false).1=0) (w:OrdI g O) (hl:O.length=g.n):(g.rf.map (mapP (numS O))).Pairwise fun p q=>keyP true p≠keyP true q:=by
 obtain ⟨h1,h2,h3,h4,h5,h6,-⟩:=check_iff.1 hg
 have hp:g.rf.Pairwise fun p q=>p.2<q.2:=by
  have:=reads_sorted (g:=g)
  rw [← (rf_iff.1 h4).1,List.pairwise_map] at this;exact this
 rw [List.pairwise_map]
 refine hp.imp_of_mem fun {p q} mp mq hpq=>?_
 obtain ⟨a,b,rfl,ha,hb⟩:=Relist.rf_nat hg mp
 obtain ⟨c,d,rfl,hc,hd⟩:=Relist.rf_nat hg mq
 intro e
 unfold keyP mapP at e
 simp only [if_true,Int.toNat_natCast] at e hpq
 have:=num_inj w hl hb hd (by omega)
 omega
theorem rmw_keys {g:Gr} {O:List Nat} (hg:(g.check false).1=0) (w:OrdI g O) (hl:O.length=g.n):(g.rmw.map (mapP (numS O))).Pairwise fun p q=>keyP false p≠keyP false q:=by
 obtain ⟨h1,h2,h3,h4,h5,h6,-⟩:=check_iff.1 hg
 have hp:=(rmw_iff.1 h6).1
 rw [List.pairwise_map]
 refine hp.imp_of_mem fun {p q} mp mq hpq=>?_
 obtain ⟨a,b,rfl,ha,hb⟩:=Relist.rmw_nat hg mp
 obtain ⟨c,d,rfl,hc,hd⟩:=Relist.rmw_nat hg mq
 intro e
 unfold keyP mapP at e
 simp only [if_false,Bool.false_eq_true,Int.toNat_natCast] at e hpq
 have:=num_inj w hl ha hc (by omega)
 omega
set_option maxHeartbeats 4000000 in
theorem c_law10_relisted {h:Heap} {q:GV} {g:Gr} (t:GrAt h q g) (hc:(g.check false).1=0) {mv:Value} {ml:List Int} (hm:Rd 1 h mv ml.length (intsV ml)) (bm:ml.length≤17592186044416) :
  Con Tryd.prog 17 #[.agg (gcells q g).toArray,mv] h fun v h'=>Fr 0 0 h h'∧∃ O rf rmw q',OrdI g O∧O.length=g.n∧rf.Perm (g.rf.map (mapP (numS O)))∧rf.Pairwise (fun p q=>p.2<q.2)∧rmw.Perm (g.rmw.map (mapP (numS O)))∧rmw.Pairwise (fun p q=>p.1<q.1) ∧
   v=.agg (gcells q' ⟨g.cells,O.map g.ev,rf,g.co.map fun l=>l.map fun x=>(numS O x.toNat:Int),rmw,[],[],[]⟩).toArray∧GrAt h' q' ⟨g.cells,O.map g.ev,rf,g.co.map fun l=>l.map fun x=>(numS O x.toNat:Int),rmw,[],[],[]⟩:=by
 refine con_law10_relisted ?_
 have hg:=good_false hc
 have hn:=(good_n hg).1
 have hen:g.evs.length=g.n:=rfl
 have hs:=(check_zero hc).1
 simp only [Gr.size,Bool.and_eq_true,decide_eq_true_eq] at hs
 obtain ⟨C,hC⟩:∃ C:Nat,g.cells=(C:Int):=⟨g.cells.toNat,by omega⟩
 have hCn:C≤g.n:=by omega
 obtain ⟨ma,mc,rfl⟩:=hm.is
 have p0:Fr 0 0 h h:=.refl _ _ _
 unfold gcells
 simp -dsimp only [go_sem]
 intro b2 h1 n1
 have n1_a:=n1.at_
 have n1_z:=n1.size
 replace p0:=p0.F n1.f0
 have r2:=n1.row
 simp -dsimp only [go_sem,r2.cell]
 intro b4 h2 n2
 have n2_a:=n2.at_
 have n2_z:=n2.size
 replace p0:=p0.F n2.f0
 replace r2:=r2.F n2.f0
 have r4:=n2.row
 simp -dsimp only [go_sem,evs_len,r2.cell,r4.cell]
 refine Chk_intro (by omega) ?_
 rw [zeros_one,Int.toNat_natCast,brow_false]
 intro b7 h3 n3
 have n3_a:=n3.at_
 have n3_z:=n3.size
 replace p0:=p0.F n3.f0
 replace r2:=r2.F n3.f0
 replace r4:=r4.F n3.f0
 have r7:=n3.row
 simp -dsimp only [go_sem,r2.cell,r4.cell,r7.cell]
 have gb:h.size≤b2∧b2<b4∧b4<b7∧b7<h3.size:=by omega
 have g0:OrdI g (List.range C):=by have:=OrdI.start hc;rw [hC] at this;exact this
 refine loop_intro (fun z:Nat×Value=>[(1,.slice ma ml.length mc),(2,.pointer (some ⟨b2,0,none⟩)),(4,.pointer (some ⟨b4,0,none⟩)),(5,.int .i64 g.n),(6,z.2),(7,.slice (some ⟨b7,0,none⟩) g.n g.n),(8,.int .i64 z.1)])
  (fun z h'=>z.1≤C∧Fr 0 0 h h'∧h3.size≤h'.size∧Rw h' b2 (gcells q g)∧Rw h' b4 [.int .i64 0,.slice none 0 0,.slice none 0 0,.slice none 0 0,.slice none 0 0,.slice none 0 0,.slice none 0 0,.slice none 0 0]∧Rw h' b7 (brow g.n (inO (List.range z.1)))∧Holder 1 h' z.2 z.1 (intsV (natI (List.range z.1))) h3.size) (fun z=>C - z.1) (0,.slice none 0 0) ?_ ?_ ?_
 ·simp [Le,find]
 ·exact ⟨by omega,p0,by omega,r2,r4,by show Rw _ _ (brow g.n (inO (List.range 0)));rw [brow_congr (g:=fun _=>false) fun j _=>by simp [inO]];exact r7,.none _ _ _⟩
 clear p0 r2 r4 r7
 rintro ⟨i,v⟩ h4 ⟨hi,p0,y4,r2,r4,r7,o1⟩
 dsimp only at hi r7 o1 ⊢
 unfold gcells at r2
 have p0_z:=p0.size
 have r2_l:=r2.lt
 have r4_l:=r4.lt
 have r7_l:=r7.lt
 have o1_l:=o1.top
 by_cases hlt:i<C
 ·have e1:((i:Int)<g.cells):=by omega
  have e2:((i:Int)<(g.n:Int)):=by omega
  obtain ⟨va,vc,rfl⟩:=o1.is
  have o1_a:=o1.at_
  simp -dsimp only [go_sem,e1,r2.cell,r4.cell,r7.cell]
  intro b10 h5 n5
  have n5_a:=n5.at_
  have n5_z:=n5.size
  replace p0:=p0.F n5.f0
  replace r2:=r2.F n5.f0
  replace r4:=r4.F n5.f0
  replace r7:=r7.F n5.f0
  replace o1:=o1.fr n5.f0 (by have:=o1.at_;omega)
  have r10:=n5.row
  simp -dsimp only [go_sem,r2.cell,r4.cell,r7.cell,r10.cell]
  refine o1.append (by omega) rfl (by omega) (by simp) (by omega) fun v6 h6 o_new f6 e_app=>?_
  have f6_z:=f6.size
  have o_at:=o1.at_
  replace p0:=p0.F f6
  replace r2:=r2.F f6
  replace r4:=r4.F f6
  replace r7:=r7.F f6
  replace r10:=r10.F f6
  clear o_at e_app
  replace o1:=o_new
  have o1_l:=o1.top
  simp -dsimp only [go_sem,e2,r2.cell,r4.cell,r7.cell,r10.cell]
  refine Chk_intro (r7.wr (by first | (simp;done) | (simp;omega))) fun h7 s7=>?_
  have s7_z:=s7.size
  replace p0:=p0.F s7.fr
  replace r2:=r2.F s7.fr
  replace r4:=r4.F s7.fr
  replace o1:=o1.fr s7.fr (by have:=o1.at_;omega)
  replace r10:=r10.F s7.fr
  replace r7:=s7.row r7
  try simp only [cl_int,cl_bool,cl_slice,cl_ptr,putAt_one,List.set_cons_zero,List.set_cons_succ,ivec_set,brow_upd] at r7
  simp -dsimp only [go_sem,r2.cell,r4.cell,r7.cell,r10.cell]
  simp -dsimp (disch:=omega) only [wrap64]
  refine ⟨(i+1,v6),by dsimp only;omega,by simp [Le,find],by dsimp only;omega,p0,by omega,r2,r4,?_,?_⟩
  ·dsimp only
   rw [List.range_succ,brow_congr fun j _=>inO_snoc j]
   exact r7
  ·dsimp only
   rw [List.range_succ,natI_append]
   exact o1
 obtain rfl:i=C:=by omega
 have e1:¬ ((i:Int)<g.cells):=by omega
 simp -dsimp only [go_sem,e1,r2.cell,r4.cell,r7.cell]
 have hOl:(List.range i).length=i:=List.length_range
 obtain ⟨va,vc,rfl⟩:=o1.is
 refine loop_intro (fun z:List Nat×Value=>[(1,.slice ma ml.length mc),(2,.pointer (some ⟨b2,0,none⟩)),(4,.pointer (some ⟨b4,0,none⟩)),(5,.int .i64 g.n),(6,z.2),(7,.slice (some ⟨b7,0,none⟩) g.n g.n)])
  (fun z h'=>z.1.length≤g.n∧OrdI g z.1∧Fr 0 0 h h'∧h3.size≤h'.size∧Rw h' b2 (gcells q g)∧Rw h' b4 [.int .i64 0,.slice none 0 0,.slice none 0 0,.slice none 0 0,.slice none 0 0,.slice none 0 0,.slice none 0 0,.slice none 0 0]∧Rw h' b7 (brow g.n (inO z.1))∧Holder 1 h' z.2 z.1.length (intsV (natI z.1)) h3.size) (fun z=>g.n - z.1.length) (List.range i,.slice va i vc) ?_ ?_ ?_
 ·simp [Le,find]
 ·exact ⟨by dsimp only;omega,g0,p0,by omega,r2,r4,r7,by dsimp only;rw [hOl];exact o1⟩
 clear p0 r2 r4 r7 o1 g0
 rintro ⟨O,v⟩ h4 ⟨hOn,w,p0,y4,r2,r4,r7,o1⟩
 dsimp only at hOn w r7 o1 ⊢
 unfold gcells at r2
 have p0_z:=p0.size
 have r2_l:=r2.lt
 have r4_l:=r4.lt
 have r7_l:=r7.lt
 have o1_l:=o1.top
 obtain ⟨va,vc,rfl⟩:=o1.is
 by_cases hlt:O.length<g.n
 ·have e1:((O.length:Int)<(g.n:Int)):=by omega
  simp -dsimp only [go_sem,e1,r2.cell,r4.cell,r7.cell]
  refine If_joint (fun x:Int=>[(1,.slice ma ml.length mc),(2,.pointer (some ⟨b2,0,none⟩)),(4,.pointer (some ⟨b4,0,none⟩)),(5,.int .i64 g.n),(6,.slice va O.length vc),(7,.slice (some ⟨b7,0,none⟩) g.n g.n),(9,.int .i64 x)]) (fun _ h'=>h'=h4) ?_ ?_ ?_
  ·intro hml
   obtain ⟨wb,wo,hwe,hwc⟩:=list_at (h:=h) (la:=ma) (lc:=mc) (l:=ml) (by omega) fun h' f=>hm.fr f
   have hq:ml[O.length]?=some ml[O.length]:=List.getElem?_eq_getElem (by omega)
   have k1:=hwc h4 p0 _ _ hq
   simp -dsimp only [go_sem,hwe,hml,k1,r2.cell,r4.cell,r7.cell]
   exact ⟨ml[O.length],by simp [Le,find,hwe]⟩
  ·intro hml
   simp -dsimp only [go_sem,r2.cell,r4.cell,r7.cell]
   exact ⟨0,by simp [Le,find]⟩
  rintro x hh he e ⟨l1,l2,l4,l5,l6,l7,l9,-⟩
  obtain rfl:h4=hh:=he.symm
  simp -dsimp only [go_sem,l1,l2,l4,l5,l6,l7,l9,r2.cell,r4.cell,r7.cell]
  simp -dsimp (disch:=omega) only [wrap64]
  have hz1:((g.n:Int) - 1:Int)=((g.n:Nat):Int) - 1:=rfl
  have bnd:∀ k,k<g.n→hcell h4 b7 k=some (.bool (inO O k)):=fun k hk=>by rw [r7.cell,brow_get hk]
  obtain ⟨eb,eo,hee,hev⟩:=t.evs (by omega)
  refine loop_intro (fun z:Nat×Int=>[(1,.slice ma ml.length mc),(2,.pointer (some ⟨b2,0,none⟩)),(4,.pointer (some ⟨b4,0,none⟩)),(5,.int .i64 g.n),(6,.slice va O.length vc),(7,.slice (some ⟨b7,0,none⟩) g.n g.n),(9,.int .i64 x),(10,.int .i64 z.2),(11,.int .i64 ((z.1:Int) - 1))])
   (fun z h'=>z.1≤g.n∧h'=h4∧((z.2 = -1∧∀ i,z.1≤i→i<g.n→i∈O)∨∃ m:Nat,z.2=(m:Int)∧m<g.n∧m∉O)) (fun z=>z.1) (g.n,-1) ?_ ?_ ?_
  ·simp [Le,find,l1,l2,l4,l5,l6,l7,l9]
  ·exact ⟨by dsimp only;omega,rfl,.inl ⟨rfl,fun i h1 h2=>by dsimp only at h1;omega⟩⟩
  clear l1 l2 l4 l5 l6 l7 l9
  rintro ⟨k,nx⟩ hh ⟨hk,hhe,hnx⟩
  obtain rfl:h4=hh:=hhe.symm
  dsimp only at hk hnx ⊢
  by_cases hk0:k=0
  ·subst hk0
   have e0:¬ (((0:Nat):Int) - 1≥0):=by decide
   obtain ⟨m,rfl,hmn,hmO⟩:∃ m:Nat,nx=(m:Int)∧m<g.n∧m∉O:=by
    rcases hnx with ⟨-,hall⟩ | hx
    ·obtain ⟨j,hj,hjO⟩:=w.left hlt
     exact absurd (hall j (Nat.zero_le _) hj) hjO
    ·exact hx
   simp -dsimp only [go_sem,e0,r2.cell,r4.cell,r7.cell]
   clear hnx hz1
   refine loop_intro (fun z:Nat×Nat=>[(1,.slice ma ml.length mc),(2,.pointer (some ⟨b2,0,none⟩)),(4,.pointer (some ⟨b4,0,none⟩)),(5,.int .i64 g.n),(6,.slice va O.length vc),(7,.slice (some ⟨b7,0,none⟩) g.n g.n),(10,.int .i64 z.2),(12,.int .i64 z.1)])
    (fun z h'=>z.1≤g.n∧h'=h4∧z.2<g.n∧z.2∉O∧∀ j,j<z.1→j<z.2→j∉O→(g.ev j).thread≠(g.ev z.2).thread) (fun z=>g.n - z.1) (0,m) ?_ ?_ ?_
   ·simp [Le,find]
   ·exact ⟨by dsimp only;omega,rfl,hmn,hmO,fun j hj=>by dsimp only at hj;omega⟩
   clear hmn hmO
   rintro ⟨i,m⟩ hh ⟨hin,hhe,hmn,hmO,hf⟩
   obtain rfl:h4=hh:=hhe.symm
   dsimp only at hin hmn hmO hf ⊢
   have emn:((m:Int)<(g.n:Int)):=by omega
   obtain ⟨cm,-⟩:=hev h4 p0 m hmn
   by_cases him:i<m
   ·have e3:((i:Int)<(m:Int)):=by omega
    have ein:((i:Int)<(g.n:Int)):=by omega
    have bi:=bnd i (by omega)
    obtain ⟨ci,-⟩:=hev h4 p0 i (by omega)
    by_cases hd:i∈O
    ·have hb:inO O i=true:=by unfold inO;exact decide_eq_true hd
     rw [hb] at bi
     simp -dsimp only [go_sem,e3,ein,bi,r2.cell,r4.cell,r7.cell]
     simp -dsimp (disch:=omega) only [wrap64]
     exact ⟨(i+1,m),by dsimp only;omega,by simp [Le,find],by dsimp only;omega,hmn,hmO,fun j hj hjm hjO=>by
      dsimp only at hj
      by_cases hji:j=i
      ·subst hji;exact absurd hd hjO
      ·exact hf j (by omega) hjm hjO⟩
    have hb:inO O i=false:=by unfold inO;exact decide_eq_false hd
    rw [hb] at bi
    by_cases t1:(g.ev i).thread=(g.ev m).thread
    ·simp -dsimp only [go_sem,e3,ein,emn,bi,hee,evs_len,ci,cm,beq_t t1,r2.cell,r4.cell,r7.cell]
     simp -dsimp (disch:=omega) only [wrap64]
     exact ⟨(i+1,i),by dsimp only;omega,by simp [Le,find],by dsimp only;omega,by dsimp only;omega,hd,fun j hj hjm hjO=>by
      dsimp only at hj hjm ⊢
      rw [t1];exact hf j hjm (by omega) hjO⟩
    ·simp -dsimp only [go_sem,e3,ein,emn,bi,hee,evs_len,ci,cm,beq_f t1,r2.cell,r4.cell,r7.cell]
     simp -dsimp (disch:=omega) only [wrap64]
     exact ⟨(i+1,m),by dsimp only;omega,by simp [Le,find],by dsimp only;omega,hmn,hmO,fun j hj hjm hjO=>by
      dsimp only at hj
      by_cases hji:j=i
      ·subst hji;exact t1
      ·exact hf j (by omega) hjm hjO⟩
   have e3:¬ ((i:Int)<(m:Int)):=by omega
   have o1_a:=o1.at_
   simp -dsimp only [go_sem,e3,r2.cell,r4.cell,r7.cell]
   intro b10 h5 n5
   have n5_a:=n5.at_
   have n5_z:=n5.size
   replace p0:=p0.F n5.f0
   replace r2:=r2.F n5.f0
   replace r4:=r4.F n5.f0
   replace r7:=r7.F n5.f0
   replace o1:=o1.fr n5.f0 (by have:=o1.at_;omega)
   have r10:=n5.row
   simp -dsimp only [go_sem,r2.cell,r4.cell,r7.cell,r10.cell]
   refine o1.append (by omega) rfl (by omega) (by simp) (by omega) fun v6 h6 o_new f6 e_app=>?_
   have f6_z:=f6.size
   have o_at:=o1.at_
   replace p0:=p0.F f6
   replace r2:=r2.F f6
   replace r4:=r4.F f6
   replace r7:=r7.F f6
   replace r10:=r10.F f6
   clear o_at e_app
   replace o1:=o_new
   have o1_l:=o1.top
   simp -dsimp only [go_sem,emn,r2.cell,r4.cell,r7.cell,r10.cell]
   refine Chk_intro (r7.wr (by first | (simp;done) | (simp;omega))) fun h7 s7=>?_
   have s7_z:=s7.size
   replace p0:=p0.F s7.fr
   replace r2:=r2.F s7.fr
   replace r4:=r4.F s7.fr
   replace o1:=o1.fr s7.fr (by have:=o1.at_;omega)
   replace r10:=r10.F s7.fr
   replace r7:=s7.row r7
   try simp only [cl_int,cl_bool,cl_slice,cl_ptr,putAt_one,List.set_cons_zero,List.set_cons_succ,ivec_set,brow_upd] at r7
   simp -dsimp only [go_sem,r2.cell,r4.cell,r7.cell,r10.cell]
   have wO:=w.snoc hmn hmO fun j hj hjO=>hf j (by omega) hj hjO
   refine ⟨(O++[m],v6),by simp;omega,by simp [Le,find],by simp;omega,wO,p0,by omega,r2,r4,?_,?_⟩
   ·dsimp only
    rw [brow_congr fun j _=>inO_snoc j]
    exact r7
   ·dsimp only
    rw [natI_append,List.length_append]
    exact o1
  obtain ⟨k,rfl⟩:∃ k',k=k' + 1:=⟨k - 1,by omega⟩
  have ek:(((k+1:Nat):Int) - 1)=(k:Int):=by omega
  have e0:((k:Int)≥0):=by omega
  have ekn:((k:Int)<(g.n:Int)):=by omega
  have bk:=bnd k (by omega)
  obtain ⟨ct,-⟩:=hev h4 p0 k (by omega)
  have stepK:∀ nx',((nx' = -1∧∀ i,k≤i→i<g.n→i∈O)∨∃ m:Nat,nx'=(m:Int)∧m<g.n∧m∉O)→True:=fun _ _=>trivial
  by_cases hd:k∈O
  ·have hb:inO O k=true:=by unfold inO;exact decide_eq_true hd
   rw [hb] at bk
   simp -dsimp only [go_sem,ek,e0,ekn,bk,r2.cell,r4.cell,r7.cell]
   simp -dsimp (disch:=omega) only [wrap64]
   refine ⟨(k,nx),by dsimp only;omega,by simp [Le,find],by dsimp only;omega,?_⟩
   dsimp only
   rcases hnx with ⟨h1,h2⟩ | hx
   ·exact .inl ⟨h1,fun i hi hin=>by
     by_cases hik:i=k
     ·subst hik;exact hd
     ·exact h2 i (by omega) hin⟩
   ·exact .inr hx
  have hb:inO O k=false:=by unfold inO;exact decide_eq_false hd
  rw [hb] at bk
  rcases hnx with ⟨rfl,h2⟩ | ⟨m,rfl,hmn,hmO⟩
  ·have em:((-1:Int)<0):=by decide
   simp -dsimp only [go_sem,ek,e0,ekn,bk,r2.cell,r4.cell,r7.cell]
   simp -dsimp (disch:=omega) only [wrap64]
   exact ⟨(k,k),by dsimp only;omega,by simp [Le,find],by dsimp only;omega,.inr ⟨k,rfl,by omega,hd⟩⟩
  have em:¬ ((m:Int)<0):=by omega
  have emn:((m:Int)<(g.n:Int)):=by omega
  obtain ⟨cm,-⟩:=hev h4 p0 m hmn
  by_cases t1:(g.ev k).thread=x
  ·simp -dsimp only [go_sem,ek,e0,ekn,bk,em,hee,evs_len,ct,beq_t t1,r2.cell,r4.cell,r7.cell]
   simp -dsimp (disch:=omega) only [wrap64]
   exact ⟨(k,k),by dsimp only;omega,by simp [Le,find],by dsimp only;omega,.inr ⟨k,rfl,by omega,hd⟩⟩
  by_cases t2:(g.ev m).thread=x
  ·simp -dsimp only [go_sem,ek,e0,ekn,bk,em,emn,hee,evs_len,ct,cm,beq_f t1,bne_t t2,r2.cell,r4.cell,r7.cell]
   simp -dsimp (disch:=omega) only [wrap64]
   exact ⟨(k,m),by dsimp only;omega,by simp [Le,find],by dsimp only;omega,.inr ⟨m,rfl,hmn,hmO⟩⟩
  ·simp -dsimp only [go_sem,ek,e0,ekn,bk,em,emn,hee,evs_len,ct,cm,beq_f t1,bne_f t2,r2.cell,r4.cell,r7.cell]
   simp -dsimp (disch:=omega) only [wrap64]
   exact ⟨(k,k),by dsimp only;omega,by simp [Le,find],by dsimp only;omega,.inr ⟨k,rfl,by omega,hd⟩⟩
 obtain hOl:O.length=g.n:=by omega
 have e1:¬ ((O.length:Int)<(g.n:Int)):=by omega
 have o1_l:=o1.top
 simp -dsimp only [go_sem,e1,r2.cell,r4.cell,r7.cell]
 refine Chk_intro (by omega) ?_
 rw [zeros_one,Int.toNat_natCast]
 have hrep:List.replicate g.n (Value.int .i64 0)=ivec g.n fun j=>if numS O j<0 then (numS O j:Int) else 0:=by unfold ivec;simp [List.map_const']
 rw [hrep]
 intro b13 h5 n5
 have n5_a:=n5.at_
 have n5_z:=n5.size
 replace p0:=p0.F n5.f0
 replace r2:=r2.F n5.f0
 replace r4:=r4.F n5.f0
 replace r7:=r7.F n5.f0
 replace o1:=o1.fr n5.f0 (by have:=o1.at_;omega)
 have r13:=n5.row
 simp -dsimp only [go_sem,r2.cell,r4.cell,r7.cell,r13.cell]
 have gc:h.size≤b13∧b2<b13∧b4<b13∧b13<h5.size:=by omega
 clear r7
 have oK:=o1
 have hall:∀ i,i<g.n→i∈O:=fun i hi=>w.full hOl hi
 have P0:=p0
 have K2:=r2
 have K4:=r4
 refine loop_intro (fun i:Nat=>[(2,.pointer (some ⟨b2,0,none⟩)),(4,.pointer (some ⟨b4,0,none⟩)),(5,.int .i64 g.n),(6,.slice va O.length vc),(13,.slice (some ⟨b13,0,none⟩) g.n g.n),(14,.int .i64 i)])
  (fun i h'=>i≤g.n∧Fr b13 (b13+1) h5 h'∧Rw h' b13 (ivec g.n fun j=>if numS O j<i then (numS O j:Int) else 0)) (fun i=>g.n - i) 0 ?_ ?_ ?_
 ·simp [Le,find]
 ·exact ⟨by omega,.refl _ _ _,r13⟩
 clear p0 r2 r4 r13 o1
 rintro i h6 ⟨hi,q6,r13⟩
 have p0:=P0.fresh q6 (by omega)
 have o1:=oK.fr q6 (by omega)
 by_cases hlt:i<g.n
 ·have e1:((i:Int)<(g.n:Int)):=by omega
  have eO:((i:Int)<(O.length:Int)):=by omega
  obtain ⟨ob,oo,hoe,hoc⟩:=list_at (h:=h6) (la:=va) (lc:=vc) (l:=natI O) (by simp;omega) fun h' f=>by rw [length_natI];exact o1.rd.fr f
  obtain ⟨x,hq⟩:∃ x,O[i]?=some x:=⟨_,List.getElem?_eq_getElem (by omega)⟩
  have hx:=w.at_ hq
  have hxn:=w.lt _ (List.mem_of_getElem? hq)
  have k1:=hoc h6 (.refl _ _ _) i (x:Nat) (by unfold natI;rw [List.getElem?_map,hq];rfl)
  have ex:((x:Int)<(g.n:Int)):=by omega
  simp -dsimp only [go_sem,e1,eO,hoe,k1,ex,r13.cell]
  refine Chk_intro (r13.wr (by first | (simp;done) | (simp;omega))) fun h7 s7=>?_
  have s7_z:=s7.size
  replace r13:=s7.row r13
  try simp only [cl_int,cl_bool,cl_slice,cl_ptr,putAt_one,List.set_cons_zero,List.set_cons_succ,ivec_set,brow_upd] at r13
  simp -dsimp only [go_sem,r13.cell]
  simp -dsimp (disch:=omega) only [wrap64]
  refine ⟨i+1,by omega,by simp [Le,find,hoe],by omega,q6.freshIn s7.fr (by omega),?_⟩
  rw [ivec_congr (d:=upd (fun j=>if numS O j<i then (numS O j:Int) else 0) x i) fun j hj=>by
   unfold upd
   by_cases hjx:j=x
   ·subst hjx;rw [if_pos rfl,hx,if_pos (by omega)]
   ·rw [if_neg hjx]
    dsimp only
    have hne:numS O j≠i:=fun e=>hjx (by
     have h1:=List.getElem_idxOf (List.idxOf_lt_length_iff.2 (hall j hj))
     have h2:O[numS O j]?=some j:=by unfold numS;rw [List.getElem?_eq_getElem (List.idxOf_lt_length_iff.2 (hall j hj)),h1]
     rw [e,hq] at h2
     exact (Option.some.inj h2).symm)
    by_cases hl:numS O j<i
    ·rw [if_pos hl,if_pos (by omega)]
    ·rw [if_neg hl,if_neg (by omega)]]
  exact r13
 obtain rfl:i=g.n:=by omega
 have e1:¬ ((g.n:Int)<(g.n:Int)):=by omega
 have I:=w.iso hOl
 have hrow:(ivec g.n fun j=>if numS O j<g.n then (numS O j:Int) else 0)=intsV ((List.range g.n).map fun i=>(numS O i:Int)):=by
  rw [ivec_congr (d:=fun j=>(numS O j:Int)) fun j hj=>if_pos (I.ls j hj)]
  unfold ivec intsV;rw [List.map_map];rfl
 rw [hrow] at r13
 have r2:=K2.fr q6 (by omega)
 have r4:=K4.fr q6 (by omega)
 simp -dsimp only [go_sem,e1,r13.cell,r2.cell,r4.cell]
 have oA:=r13
 have o1:=oK.fr q6 (by omega)
 have q6z:=q6.size
 intro b15 h7 n7
 have n7_a:=n7.at_
 have n7_z:=n7.size
 replace p0:=p0.F n7.f0
 replace r2:=r2.F n7.f0
 replace r4:=r4.F n7.f0
 have r15:=n7.row
 have oA:=oA.fr n7.f0 (by omega)
 have o1:=o1.fr n7.f0 (by omega)
 simp -dsimp only [go_sem,r2.cell,r4.cell,r15.cell]
 refine Chk_intro (r15.wr (by first | (simp;done) | (simp;omega))) fun h8 s8=>?_
 have s8_z:=s8.size
 replace p0:=p0.F s8.fr
 replace r2:=r2.F s8.fr
 replace r4:=r4.F s8.fr
 replace r15:=s8.row r15
 try simp only [cl_int,cl_bool,cl_slice,cl_ptr,putAt_one,List.set_cons_zero,List.set_cons_succ,ivec_set,brow_upd] at r15
 try simp -dsimp only [go_sem] at r15
 have oA:=oA.fr s8.fr (by omega)
 have o1:=o1.fr s8.fr (by omega)
 have gd:h.size≤b15∧b13<b15∧b15<h8.size∧h6.size≤b15∧b2<b15∧b4<b15:=by omega
 clear K2 K4 P0
 have P0:=p0
 have K2:=r2
 have K4:=r4
 have o1K:=o1
 simp -dsimp only [go_sem,r2.cell,r4.cell,r15.cell]
 refine loop_intro (fun i:Nat=>[(2,.pointer (some ⟨b2,0,none⟩)),(4,.pointer (some ⟨b4,0,none⟩)),(5,.int .i64 g.n),(6,.slice va O.length vc),(13,.slice (some ⟨b13,0,none⟩) g.n g.n),(15,.pointer (some ⟨b15,0,none⟩)),(16,.int .i64 i)])
  (fun i h'=>i≤g.n∧Fr b15 (b15+1) h8 h'∧∃ v,Rw h' b15 [.int .i64 g.cells,v,.slice none 0 0,.slice none 0 0,.slice none 0 0,.slice none 0 0,.slice none 0 0,.slice none 0 0]∧Holder 5 h' v i (evsV ((O.take i).map g.ev)) h8.size) (fun i=>g.n - i) 0 ?_ ?_ ?_
 ·simp [Le,find]
 ·exact ⟨by omega,.refl _ _ _,_,r15,.none _ _ _⟩
 clear p0 r2 r4 r15 o1
 rintro i h9 ⟨hi,Iq,v,r15,o9⟩
 have p0:=P0.fresh Iq (by omega)
 have r2:=K2.fr Iq (by omega)
 have o1:=o1K.fr Iq (by omega)
 obtain ⟨a9,c9,rfl⟩:=o9.is
 have o9_a:=o9.at_
 by_cases hlt:i<g.n
 ·have e1:((i:Int)<(g.n:Int)):=by omega
  have eO:((i:Int)<(O.length:Int)):=by omega
  obtain ⟨ob,oo,hoe,hoc⟩:=list_at (h:=h9) (la:=va) (lc:=vc) (l:=natI O) (by simp;omega) fun h' f=>by rw [length_natI];exact o1.rd.fr f
  obtain ⟨x,hq⟩:∃ x,O[i]?=some x:=⟨_,List.getElem?_eq_getElem (by omega)⟩
  have hxn:=w.lt _ (List.mem_of_getElem? hq)
  have k1:=hoc h9 (.refl _ _ _) i (x:Nat) (by unfold natI;rw [List.getElem?_map,hq];rfl)
  have ex:((x:Int)<(g.n:Int)):=by omega
  obtain ⟨eb,eo,hee,hev⟩:=t.evs (by omega)
  obtain ⟨c0,c1,c2,c3,c4⟩:=hev h9 p0 x hxn
  simp -dsimp only [go_sem,e1,eO,hoe,k1,ex,hee,evs_len,c0,c1,c2,c3,c4,r2.cell,r15.cell]
  have gi:b15<h9.size:=by have:=Iq.size;omega
  intro b17 h10 n10
  have n10_a:=n10.at_
  have n10_z:=n10.size
  replace p0:=p0.F n10.f0
  replace Iq:=Iq.freshIn n10.f0 (by omega)
  replace r2:=r2.F n10.f0
  replace r15:=r15.F n10.f0
  replace o1:=o1.fr n10.f0 (by have:=o1.at_;omega)
  have r17:=n10.row
  have o9:=o9.fr n10.f0 (by omega)
  obtain ⟨c0,c1,c2,c3,c4⟩:=hev h10 p0 x hxn
  simp -dsimp only [go_sem,e1,eO,hoe,k1,ex,hee,evs_len,c0,c1,c2,c3,c4,r2.cell,r15.cell,r17.cell]
  refine o9.append (by omega) rfl (by omega) (by simp) (by omega) fun v11 h11 o_new f11 e_app=>?_
  have f11_z:=f11.size
  have o_at:=o9.at_
  replace p0:=p0.F f11
  replace Iq:=Iq.freshIn f11 (by omega)
  replace r2:=r2.F f11
  replace r15:=r15.F f11
  replace o1:=o1.fr f11 (by have:=o1.at_;omega)
  replace r17:=r17.F f11
  clear o_at e_app
  replace o9:=o_new
  have o9_l:=o9.top
  obtain ⟨a11,c11,rfl⟩:=o9.is
  obtain ⟨c0,c1,c2,c3,c4⟩:=hev h11 p0 x hxn
  obtain ⟨ob',oo',hoe',hoc'⟩:=list_at (h:=h11) (la:=va) (lc:=vc) (l:=natI O) (by simp;omega) fun h' f=>by rw [length_natI];exact o1.rd.fr f
  rw [hoe] at hoe'
  cases hoe'
  have k1':=hoc' h11 (.refl _ _ _) i (x:Nat) (by unfold natI;rw [List.getElem?_map,hq];rfl)
  simp -dsimp only [go_sem,e1,eO,hoe,k1',ex,hee,evs_len,c0,c1,c2,c3,c4,r2.cell,r15.cell,r17.cell]
  try refine Chk_intro (by rw [evs_len]) ?_
  try simp -dsimp only [go_sem,e1,eO,hoe,k1',ex,hee,evs_len,c0,c1,c2,c3,c4,r2.cell,r15.cell,r17.cell]
  refine Chk_intro (r15.wr (by first | (simp;done) | (simp;omega))) fun h12 s12=>?_
  have s12_z:=s12.size
  replace p0:=p0.F s12.fr
  replace Iq:=Iq.freshIn s12.fr (by omega)
  replace r2:=r2.F s12.fr
  replace o1:=o1.fr s12.fr (by have:=o1.at_;omega)
  replace r17:=r17.F s12.fr
  replace o9:=o9.fr s12.fr (by have:=o9.at_;omega)
  replace r15:=s12.row r15
  try simp only [cl_int,cl_bool,cl_slice,cl_ptr,putAt_one,List.set_cons_zero,List.set_cons_succ,ivec_set,brow_upd] at r15
  try simp -dsimp only [go_sem] at r15
  simp -dsimp only [go_sem,r2.cell,r15.cell,r17.cell]
  simp -dsimp (disch:=omega) only [wrap64]
  refine ⟨i+1,by omega,by simp [Le,find,hoe],by omega,Iq,_,r15,?_⟩
  rw [List.take_add_one,hq,List.map_append,evsV_app]
  exact o9
 obtain rfl:i=g.n:=by omega
 have oA:=oA.fr Iq (by omega)
 have r4:=K4.fr Iq (by omega)
 have htk:O.take g.n=O:=List.take_of_length_le (by omega)
 rw [htk] at o9
 have o9_l:=o9.top
 have Iqz:=Iq.size
 have bf:=t.fits.f
 have br:=t.fits.r
 have hA:∀ h',Rw h' b13 (intsV ((List.range g.n).map fun i=>(numS O i:Int)))→Rd 1 h' (.slice (some ⟨b13,0,none⟩) g.n g.n) ((List.range g.n).map fun i=>(numS O i:Int)).length (intsV ((List.range g.n).map fun i=>(numS O i:Int))):=fun h' r=>by
  have:=Rw.rd (s:=1) (n:=g.n) (c:=g.n) r (by simp [intsV])
  simpa using this
 clear Iq o1
 simp -dsimp only [go_sem,Int.lt_irrefl,r2.cell,r15.cell,r4.cell]
 refine call_of (c_law10_moved (n:=g.n) (s:=numS O) (t.fr p0).f (by omega) (hA _ oA) (fun p hp=>Relist.rf_nat hc hp) true (rf_keys hc w hOl)) ?_
 rintro v10 h10 ⟨f10,rf,o10,hrf1,hrf2⟩
 have f10_z:=f10.size
 replace p0:=p0.F f10
 replace r2:=r2.F f10
 replace r15:=r15.F f10
 replace r4:=r4.F f10
 have oA:=oA.fr f10 (by omega)
 have o9:=o9.fr f10 (by have:=o9.at_;omega)
 obtain ⟨a10,c10,rfl⟩:=o10.is
 simp -dsimp only [go_sem,r2.cell,r15.cell,r4.cell]
 refine Chk_intro (r15.wr (by first | (simp;done) | (simp;omega))) fun h11 s11=>?_
 have s11_z:=s11.size
 replace p0:=p0.F s11.fr
 replace r2:=r2.F s11.fr
 replace r4:=r4.F s11.fr
 replace r15:=s11.row r15
 try simp only [cl_int,cl_bool,cl_slice,cl_ptr,putAt_one,List.set_cons_zero,List.set_cons_succ,ivec_set,brow_upd] at r15
 try simp -dsimp only [go_sem] at r15
 have oA:=oA.fr s11.fr (by omega)
 have o9:=o9.fr s11.fr (by have:=o9.at_;omega)
 have o10:=o10.fr s11.fr (by have:=o10.at_;omega)
 simp -dsimp only [go_sem,r2.cell,r15.cell,r4.cell]
 refine call_of (c_law10_moved (n:=g.n) (s:=numS O) (t.fr p0).r (by omega) (hA _ oA) (fun p hp=>Relist.rmw_nat hc hp) false (rmw_keys hc w hOl)) ?_
 rintro v12 h12 ⟨f12,rmw,o12,hm1,hm2⟩
 have f12_z:=f12.size
 replace p0:=p0.F f12
 replace r2:=r2.F f12
 replace r15:=r15.F f12
 replace r4:=r4.F f12
 have oA:=oA.fr f12 (by omega)
 have o9:=o9.fr f12 (by have:=o9.at_;omega)
 have o10:=o10.fr f12 (by have:=o10.at_;omega)
 obtain ⟨a12,c12,rfl⟩:=o12.is
 simp -dsimp only [go_sem,r2.cell,r15.cell,r4.cell]
 refine Chk_intro (r15.wr (by first | (simp;done) | (simp;omega))) fun h13 s13=>?_
 have s13_z:=s13.size
 replace p0:=p0.F s13.fr
 replace r2:=r2.F s13.fr
 replace r4:=r4.F s13.fr
 replace r15:=s13.row r15
 try simp only [cl_int,cl_bool,cl_slice,cl_ptr,putAt_one,List.set_cons_zero,List.set_cons_succ,ivec_set,brow_upd] at r15
 try simp -dsimp only [go_sem] at r15
 have oA:=oA.fr s13.fr (by omega)
 have o9:=o9.fr s13.fr (by have:=o9.at_;omega)
 have o10:=o10.fr s13.fr (by have:=o10.at_;omega)
 have o12:=o12.fr s13.fr (by have:=o12.at_;omega)
 simp -dsimp only [go_sem,r2.cell,r15.cell,r4.cell]
 have gz:h.size≤h13.size∧b2<b13∧b4<b13∧b13<b15∧b15<h8.size∧h8.size≤h13.size∧0<h13.size∧b2≠b15:=by omega
 have o9t:=o9.top
 have o10t:=o10.top
 have o12t:=o12.top
 have o9m:h8.size≤h9.size∧h9.size≤h10.size∧h10.size≤h13.size:=by omega
 have hrl:=rl_at t.o
 have bo:=t.fits.o
 obtain ⟨gco,hgco⟩:∃ gco,gco=g.co.map fun l=>l.map fun x=>(numS O x.toNat:Int):=⟨_,rfl⟩
 have hgl:gco.length=g.co.length:=by rw [hgco,List.length_map]
 have ir:Fr b15 (b15+1) h13 h13:=.refl _ _ _
 refine loop_intro (fun s:Nat×Value×List Value=>[(2,.pointer (some ⟨b2,0,none⟩)),(4,.pointer (some ⟨b4,0,none⟩)),(13,.slice (some ⟨b13,0,none⟩) g.n g.n),(15,.pointer (some ⟨b15,0,none⟩)),(17,.int .i64 s.1)])
  (fun s h'=>s.1≤g.co.length∧Fr 0 0 h h'∧Fr b15 (b15+1) h13 h'∧Rw h' b2 (gcells q g)∧Rw h' b4 [.int .i64 0,.slice none 0 0,.slice none 0 0,.slice none 0 0,.slice none 0 0,.slice none 0 0,.slice none 0 0,.slice none 0 0]∧Rw h' b13 (intsV ((List.range g.n).map fun i=>(numS O i:Int))) ∧
   Rw h' b15 [.int .i64 g.cells,.slice a9 g.n c9,.slice a10 rf.length c10,s.2.1,.slice a12 rmw.length c12,.slice none 0 0,.slice none 0 0,.slice none 0 0] ∧
   LL h' s.2.1 s.2.2 ((gco.take s.1).map intsV) h13.size∧s.2.2.Pairwise Off) (fun s=>g.co.length - s.1) (0,.slice none 0 0,[]) ?_ ?_ ?_
 ·simp [Le,find]
 ·exact ⟨by omega,p0,ir,r2,r4,oA,r15,.nil,.nil⟩
 clear p0 ir r2 r4 oA r15
 rintro ⟨c,ov,us⟩ h14 ⟨hcl,p0,I0,r2,r4,r13,r15,LO,hpw⟩
 dsimp only at hcl r15 LO hpw ⊢
 unfold gcells at r2
 have elen:((gco.take c).map intsV).length=c:=by simp;omega
 have LOis:=LO.own.is
 rw [elen] at LOis
 have LOa:=LO.own.at_
 have aTop:=LO.top
 obtain ⟨sa,sc,rfl⟩:=LOis
 have zz:h13.size≤h14.size:=I0.size
 by_cases hlt:c<g.co.length
 ·have e1:((c:Int)<(g.co.length:Int)):=by omega
  obtain ⟨ob,oo,hoe,la,lc,hlist⟩:=hrl c hlt
  have hcm:g.co[c]?=some (g.co.getD c []):=by simp [hlt]
  have hll:=t.fits.l (g.co.getD c []) (List.mem_of_getElem? hcm)
  have hnat:∀ x∈g.co.getD c [],0≤x∧x.toNat<g.n:=fun x hx=>Relist.co_nat' hc (List.mem_of_getElem? hcm) hx
  have htk:gco.take (c+1)=gco.take c++[(g.co.getD c []).map fun x=>(numS O x.toNat:Int)]:=by
   rw [List.take_add_one,hgco,List.getElem?_map,hcm];rfl
  generalize hl:g.co.getD c []=l at hlist hll htk hnat
  simp -dsimp only [go_sem,r2.cell,hoe,e1,r2.cell,r15.cell,r4.cell]
  refine loop_intro (fun s:Nat×Value=>[(2,.pointer (some ⟨b2,0,none⟩)),(4,.pointer (some ⟨b4,0,none⟩)),(13,.slice (some ⟨b13,0,none⟩) g.n g.n),(15,.pointer (some ⟨b15,0,none⟩)),(17,.int .i64 c),(18,s.2),(19,.int .i64 s.1)])
   (fun s h'=>s.1≤l.length∧Fr 0 0 h14 h'∧Holder 1 h' s.2 s.1 (intsV ((l.map fun x=>(numS O x.toNat:Int)).take s.1)) h14.size) (fun s=>l.length - s.1) (0,.slice none 0 0) ?_ ?_ ?_
  ·simp [Le,find]
  ·exact ⟨by omega,.refl _ _ _,.none _ _ _⟩
  rintro ⟨j,lv⟩ h15 ⟨hj,p8,ol⟩
  dsimp only at hj ol ⊢
  obtain ⟨l1,l2⟩:=hlist h15 (p0.trans p8)
  have r2':=r2.fr p8 (by omega)
  have r13':=r13.fr p8 (by omega)
  by_cases hjl:j<l.length
  ·have e2:((j:Int)<(l.length:Int)):=by omega
   have hq:l[j]?=some l[j]:=by simp [hjl]
   have hw:=hnat _ (List.mem_of_getElem? hq)
   generalize l[j]=w at hq hw
   obtain ⟨w,rfl⟩:=Int.eq_ofNat_of_zero_le hw.1
   have hwn:w<g.n:=by simpa using hw.2
   have ewn:((w:Int)<(g.n:Int)):=by omega
   have cA:hcell h15 b13 w=some (.int .i64 (numS O w:Nat)):=by rw [r13'.cell];unfold intsV;simp [hwn]
   obtain ⟨va,vc,rfl⟩:=ol.is
   have pz:Fr 0 0 h15 h15:=.refl _ _ _
   simp -dsimp only [go_sem,r2'.cell,hoe,e1,l1,e2,r2.cell,r15.cell,r4.cell]
   refine l2.idx (by omega) fun lb lo hlc=>?_
   have c1:=hlc j _ (intsV_get hq)
   simp -dsimp only [go_sem,c1,cA,ewn,r2.cell,r15.cell,r4.cell]
   have p8_z:=p8.size
   have ol_l:=ol.top
   intro b19 h16 n16
   have n16_a:=n16.at_
   have n16_z:=n16.size
   replace p8:=p8.F n16.f0
   replace ol:=ol.fr n16.f0 (by have:=ol.at_;omega)
   have r19:=n16.row
   simp -dsimp only [go_sem,r19.cell]
   refine ol.append (by omega) rfl (by omega) (by simp) (by omega) fun v17 h17 o_new f17 e_app=>?_
   have f17_z:=f17.size
   have o_at:=ol.at_
   replace p8:=p8.F f17
   replace r19:=r19.F f17
   clear o_at e_app
   replace ol:=o_new
   have ol_l:=ol.top
   simp -dsimp only [go_sem,r19.cell]
   simp -dsimp (disch:=omega) only [wrap64]
   refine ⟨(j+1,v17),by dsimp only;omega,by simp [Le,find],by dsimp only;omega,p8,?_⟩
   have hq':(l.map fun x=>(numS O x.toNat:Int))[j]?=some (numS O w:Int):=by rw [List.getElem?_map,hq];simp
   rw [List.take_add_one,hq',Option.toList_some,intsV_append]
   exact ol
  ·obtain rfl:j=l.length:=by omega
   have htl:(l.map fun x=>(numS O x.toNat:Int)).take l.length=l.map fun x=>(numS O x.toNat:Int):=List.take_of_length_le (by simp)
   rw [htl] at ol
   simp -dsimp only [go_sem,r2'.cell,hoe,e1,l1,Int.lt_irrefl,r2.cell,r15.cell,r4.cell]
   replace p0:=p0.trans p8
   replace I0:=I0.trans (p8.mono (by omega))
   replace r2:=r2'
   replace r13:=r13'
   replace r4:=r4.F p8
   replace r15:=r15.F p8
   replace LO:=LO.fr p8 (Away.none (by omega))
   obtain ⟨wa,wc,rfl⟩:=ol.is
   have ola:=ol.at_
   have gc:h14.size≤h15.size:=p8.size
   simp -dsimp only [go_sem,r2.cell,r15.cell,r4.cell]
   have p0_z:=p0.size
   have I0_z:=I0.size
   have r2_l:=r2.lt
   have r4_l:=r4.lt
   have r13_l:=r13.lt
   have r15_l:=r15.lt
   have LO_l:=LO.own.top
   have ol_l:=ol.top
   intro b19 h16 n16
   have n16_a:=n16.at_
   have n16_z:=n16.size
   replace p0:=p0.F n16.f0
   replace I0:=I0.freshIn n16.f0 (by omega)
   replace r2:=r2.F n16.f0
   replace r4:=r4.F n16.f0
   replace r13:=r13.F n16.f0
   replace r15:=r15.F n16.f0
   replace LO:=LO.fr n16.f0 (by first | exact Away.none (Nat.le_refl _) | exact LO.below (by omega) | exact LO.above (by omega) | assumption | exact fun w hw=>(by have:=aTop w hw;omega) | exact fun w hw=>(by have:=aTop2 w hw;omega))
   replace ol:=ol.fr n16.f0 (by have:=ol.at_;omega)
   have r19:=n16.row
   have LOown:=LO.own
   rw [elen] at LOown
   simp -dsimp only [go_sem,r2.cell,r4.cell,r13.cell,r15.cell,r19.cell]
   refine LOown.append (by omega) rfl (by omega) (by simp) (by omega) fun v17 h17 o17 f17 e17=>?_
   have off:Off (.slice wa l.length wc) (.slice sa c sc):=by
    have h1:=aTop _ (.inl rfl)
    have h2:=bh_bl (.slice wa l.length wc)
    have h3:=bh_bl (.slice sa c sc)
    unfold Off;omega
   have LO':=LO.push (l:=intsV (l.map fun x=>(numS O x.toNat:Int))) (by omega) (w:=Value.slice wa l.length wc) (by rw [length_intsV,List.length_map];exact ol.lower (by omega)) off (by rw [elen];exact o17) f17 e17
   have hpw':(us++[Value.slice wa l.length wc]).Pairwise Off:=List.pairwise_append.2 ⟨hpw,by simp,fun u hu w hw=>by
    simp at hw;subst hw
    have h1:=aTop u (.inr hu)
    have h2:=bh_bl u
    have h3:=bh_bl (.slice wa l.length wc)
    unfold Off;omega⟩
   have spa:=LOown.at_
   have f17_z:=f17.size
   replace p0:=p0.F f17
   replace I0:=I0.freshIn f17 (by omega)
   replace r2:=r2.F f17
   replace r4:=r4.F f17
   replace r13:=r13.F f17
   replace r15:=r15.F f17
   obtain ⟨a17,c17,rfl⟩:=o17.is
   simp -dsimp only [go_sem,r2.cell,r4.cell,r13.cell,r15.cell]
   refine Chk_intro (r15.wr (by first | (simp;done) | (simp;omega))) fun h18 s18=>?_
   have s18_z:=s18.size
   replace p0:=p0.F s18.fr
   replace I0:=I0.freshIn s18.fr (by omega)
   replace r2:=r2.F s18.fr
   replace r4:=r4.F s18.fr
   replace r13:=r13.F s18.fr
   replace LO':=LO'.fr s18.fr (by first | exact Away.none (Nat.le_refl _) | exact LO'.below (by omega) | exact LO'.above (by omega) | assumption | exact fun w hw=>(by have:=aTop w hw;omega) | exact fun w hw=>(by have:=aTop2 w hw;omega))
   replace r15:=s18.row r15
   try simp only [cl_int,cl_bool,cl_slice,cl_ptr,putAt_one,List.set_cons_zero,List.set_cons_succ,ivec_set,brow_upd] at r15
   simp -dsimp only [go_sem,r2.cell,r4.cell,r13.cell,r15.cell]
   simp -dsimp (disch:=omega) only [wrap64]
   exact ⟨(c+1,.slice a17 (c+1) c17,us++[Value.slice wa l.length wc]),by dsimp only;omega,by simp [Le,find],by dsimp only;omega,p0,I0,r2,r4,r13,r15,by rw [htk,List.map_append];exact LO',hpw'⟩
 ·obtain rfl:c=g.co.length:=by omega
  have htg:gco.take g.co.length=gco:=List.take_of_length_le (by omega)
  rw [htg] at LO
  have o9:=o9.fr I0 (by have:=o9.at_;omega)
  have o10:=o10.fr I0 (by have:=o10.at_;omega)
  have o12:=o12.fr I0 (by have:=o12.at_;omega)
  simp -dsimp only [go_sem,r2.cell,Int.lt_irrefl,r2.cell,r15.cell,r4.cell]
  have p0_z:=p0.size
  have r4_l:=r4.lt
  have r15_l:=r15.lt
  have LO_l:=LO.own.top
  try simp -dsimp only [go_sem,r4.cell,r15.cell]
  refine Chk_intro (r4.wr (by first | (simp;done) | (simp;omega))) fun h15 s15=>?_
  have s15_z:=s15.size
  replace p0:=p0.F s15.fr
  replace r15:=r15.F s15.fr
  replace LO:=LO.fr s15.fr (by first | exact Away.none (Nat.le_refl _) | exact LO.below (by omega) | exact LO.above (by omega) | assumption | exact fun w hw=>(by have:=aTop w hw;omega) | exact fun w hw=>(by have:=aTop2 w hw;omega))
  replace r4:=s15.row r4
  try simp only [cl_int,cl_bool,cl_slice,cl_ptr,putAt_one,List.set_cons_zero,List.set_cons_succ,ivec_set,brow_upd] at r4
  simp -dsimp only [go_sem,r4.cell,r15.cell]
  have o9:=o9.fr s15.fr (by have:=o9.at_;omega)
  have o10:=o10.fr s15.fr (by have:=o10.at_;omega)
  have o12:=o12.fr s15.fr (by have:=o12.at_;omega)
  have hE:(O.map g.ev).length=g.n:=by rw [List.length_map];exact hOl
  refine ⟨p0,O,rf,rmw,⟨a9,a10,sa,a12,none,none,none,c9,c10,sc,c12,0,0,0⟩,w,hOl,hrf1,hrf2.imp fun {p q} h=>h,hm1,hm2.imp fun {p q} h=>h,?_,?_⟩
  ·rw [← hgco];dsimp only;rw [hE,hgl]
  ·rw [← hgco]
   have hrl1:rf.length=g.rf.length:=by rw [hrf1.length_eq,List.length_map]
   have hml1:rmw.length=g.rmw.length:=by rw [hm1.length_eq,List.length_map]
   have LOo:=LO.own
   rw [List.length_map] at LOo
   have nilp:∀ s,Rd s h15 (.slice none 0 0) 0 []:=fun s=>(Holder.none s h15 0).rd
   refine ⟨?_,o10.rd,?_,o12.rd,nilp 2,nilp 2,nilp 2,⟨?_,?_,?_,?_,?_,?_,?_,?_⟩,?_,?_⟩
   ·dsimp only;rw [hE];exact o9.rd
   ·dsimp only;rw [hgl];exact LO.rl
   ·dsimp only;rw [hE];omega
   ·dsimp only;omega
   ·dsimp only;omega
   ·dsimp only;omega
   ·exact Nat.zero_le _
   ·exact Nat.zero_le _
   ·exact Nat.zero_le _
   ·intro l' hl'
    dsimp only at hl'
    rw [hgco] at hl'
    obtain ⟨l0,hl0,rfl⟩:=List.mem_map.1 hl'
    rw [List.length_map];exact t.fits.l l0 hl0
   ·dsimp only
    rw [hgl] at LOo ⊢
    exact holder_cap (by omega) LOo
   ·dsimp only;rw [hgl];exact LO.rlc
end Go.Proofs.Tst
/-
  RcListed.
-/
namespace Go.Proofs.Tst
open Go Go.Vc
set_option maxHeartbeats 2000000 in
theorem c_law10_RcListed {h:Heap} {q:GV} {g:Gr} (t:GrAt h q g) (ht:TabAt h) {mv:Value} {ml:List Int} (hm:Rd 1 h mv ml.length (intsV ml)) (bm:ml.length≤17592186044416) :
  Con Tryd.prog 5 #[.agg (gcells q g).toArray,mv] h fun v h'=>Fr 0 0 h h'∧v=.bool true:=by
 refine con_law10_RcListed ?_
 obtain ⟨ma,mc,rfl⟩:=hm.is
 have p0:Fr 0 0 h h:=.refl _ _ _
 unfold gcells
 simp -dsimp only [go_sem]
 intro b2 h1 n1
 have n1_a:=n1.at_
 have n1_z:=n1.size
 replace p0:=p0.F n1.f0
 have r2:=n1.row
 simp -dsimp only [go_sem,r2.cell]
 refine call_of (ref8_Check (t.fr p0) false) ?_
 rintro v2 h2 ⟨f2,rfl⟩
 have f2_z:=f2.size
 replace p0:=p0.F f2
 replace r2:=r2.F f2
 by_cases hc:(g.check false).1=0
 rotate_left
 ·simp -dsimp only [go_sem,bne_f hc,r2.cell]
  refine call_of (law10_lives (ht.fr p0 (.inr rfl))) ?_
  rintro v3 h3 ⟨f3,rfl⟩
  have f3_z:=f3.size
  replace p0:=p0.F f3
  replace r2:=r2.F f3
  simp -dsimp only [go_sem,r2.cell]
  exact p0
 simp -dsimp only [go_sem,bne_t hc,r2.cell]
 refine call_of (c_law10_relisted (t.fr p0) hc (hm.fr p0) bm) ?_
 rintro v3 h3 ⟨f3,O,rf,rmw,q',w,hl,h1',h2',h3',h4',rfl,t'⟩
 have f3_z:=f3.size
 replace p0:=p0.F f3
 replace r2:=r2.F f3
 have W:=w.relist hl h1' h2' h3' h4'
 have hc':=W.good hc
 have hv:=W.verdict hc
 generalize (⟨g.cells,O.map g.ev,rf,g.co.map fun l=>l.map fun x=>(numS O x.toNat:Int),rmw,[],[],[]⟩:Gr)=g' at t' hc' hv
 have p3:Fr 0 0 h3 h3:=.refl _ _ _
 unfold gcells
 simp -dsimp only [go_sem,r2.cell]
 intro b7 h4 n4
 have n4_a:=n4.at_
 have n4_z:=n4.size
 replace p0:=p0.F n4.f0
 replace r2:=r2.F n4.f0
 replace p3:=p3.F n4.f0
 have r7:=n4.row
 simp -dsimp only [go_sem,r2.cell,r7.cell]
 refine Chk_intro (r7.wr (by first | (simp;done) | (simp;omega))) fun h5 s5=>?_
 have s5_z:=s5.size
 replace p0:=p0.F s5.fr
 replace r2:=r2.F s5.fr
 replace p3:=p3.F s5.fr
 replace r7:=s5.row r7
 try simp only [cl_int,cl_bool,cl_slice,cl_ptr,putAt_one,List.set_cons_zero,List.set_cons_succ,ivec_set,brow_upd] at r7
 try simp -dsimp only [go_sem] at r7
 simp -dsimp only [go_sem,r2.cell,r7.cell]
 refine call_of (rc11_Check (t.fr p0) (ht.fr p0 (.inr rfl))) ?_
 rintro v6 h6 ⟨f6,w6⟩
 have f6_z:=f6.size
 replace p0:=p0.F f6
 replace r2:=r2.F f6
 replace p3:=p3.F f6
 replace r7:=r7.F f6
 rw [if_pos hc] at w6
 obtain ⟨u6,rfl,-⟩:=w6
 simp -dsimp only [go_sem,r2.cell,r7.cell]
 refine call_of (rc11_Check (t'.fr p3) (ht.fr p0 (.inr rfl))) ?_
 rintro v7 h7 ⟨f7,w7⟩
 have f7_z:=f7.size
 replace p0:=p0.F f7
 replace r2:=r2.F f7
 replace p3:=p3.F f7
 replace r7:=r7.F f7
 rw [if_pos hc'] at w7
 obtain ⟨u7,rfl,-⟩:=w7
 simp -dsimp only [go_sem,beq_t hv.symm,beq_t hv,r2.cell,r7.cell]
 refine call_of (law10_lives (ht.fr p0 (.inr rfl))) ?_
 rintro v8 h8 ⟨f8,rfl⟩
 have f8_z:=f8.size
 replace p0:=p0.F f8
 replace r2:=r2.F f8
 replace p3:=p3.F f8
 replace r7:=r7.F f8
 simp -dsimp only [go_sem,r2.cell,r7.cell]
 exact p0
end Go.Proofs.Tst
/-
  RcListed and its arguments.
-/
namespace Go.Proofs.Tst
end Go.Proofs.Tst
