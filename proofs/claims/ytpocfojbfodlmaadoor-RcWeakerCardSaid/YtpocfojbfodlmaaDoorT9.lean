/-
  Contracts of functions that the law reaches: what each returns and what it leaves in memory. Conditions stand in each.
-/
import Derived.Test.YtpocfojbfodlmaaDoorT8
set_option linter.all false
set_option maxRecDepth 2000
/-
  law10: two, says, buffering, passing, fenced.
-/
namespace Go.Proofs.Tst
open Go Go.Vc
theorem cohGo_len {g:Gr} {a:Nat}:∀ (d b:Nat),(cohGo g a d b).length≤2
 | 0,_=>by simp [cohGo]
 | d+1,b=>by
  rw [cohGo];split
  ·simp
  ·exact cohGo_len d (b+1)
theorem cohAt_len {g:Gr} {a:Nat}:(cohAt g a).length≤2:=by
 unfold cohAt;split
 ·simp
 ·exact cohGo_len _ _
theorem cohFrom_len {g:Gr}:∀ (d a:Nat),(cohFrom g d a).length≤2
 | 0,_=>by simp [cohFrom]
 | d+1,a=>by
  rw [cohFrom];split
  ·exact cohAt_len
  ·exact cohFrom_len d (a+1)
theorem rcAx_len {g:Gr}:(rcAx g).2.length≤g.n+2:=by
 have h0:=cohFrom_len (g:=g) g.n 0
 have h1:=cycS_len (n:=g.n) (M:=pscM g)
 have h2:=cycS_len (n:=g.n) (M:=thinM g)
 have h3:(atomS g).length≤2:=by unfold atomS;split <;> simp
 unfold rcAx
 split
 ·show (coh g).length≤_;unfold coh;omega
 split
 ·show (atomS g).length≤_;omega
 split
 ·simp [natsI];omega
 split
 ·simp [natsI];omega
 ·simp
theorem c_law10_says {h:Heap} {q:GV} {g:Gr} (t:GrAt h q g) (ht:TabAt h) {bv:Value} {l:List Int} (hm:Rd 1 h bv l.length (intsV l)) (ax:Int) :
  Con Tryd.prog 12 #[.agg (gcells q g).toArray,.int .i64 ax,bv] h fun v h'=>Fr 0 0 h h'∧v=.bool (decide ((g.check false).1=0∧rcAx g=(ax,l))):=by
 have p0:Fr 0 0 h h:=.refl _ _ _
 obtain ⟨ba,bc,rfl⟩:=hm.is
 by_cases hc:(g.check false).1=0
 rotate_left
 ·have e:decide ((g.check false).1=0∧rcAx g=(ax,l))=false:=decide_eq_false fun h=>hc h.1
  rw [e]
  refine con_law10_says ?_
  unfold gcells
  simp -dsimp only [go_sem]
  intro b1 h1 n1
  have n1_a:=n1.at_
  have n1_z:=n1.size
  replace p0:=p0.F n1.f0
  have r1:=n1.row
  simp -dsimp only [go_sem,r1.cell]
  refine call_of (rc11_Check (t.fr p0) (ht.fr p0 (.inr rfl))) ?_
  rintro v2 h2 ⟨f2,w⟩
  have f2_z:=f2.size
  replace p0:=p0.F f2
  replace r1:=r1.F f2
  rw [if_neg hc] at w
  subst w
  simp -dsimp only [go_sem,r1.cell]
  exact p0
 have hn:=(good_n (good_false hc)).1
 have hal:=rcAx_len (g:=g)
 refine con_law10_says ?_
 unfold gcells
 simp -dsimp only [go_sem]
 intro b1 h1 n1
 have n1_a:=n1.at_
 have n1_z:=n1.size
 replace p0:=p0.F n1.f0
 have r1:=n1.row
 simp -dsimp only [go_sem,r1.cell]
 refine call_of (rc11_Check (t.fr p0) (ht.fr p0 (.inr rfl))) ?_
 rintro v2 h2 ⟨f2,w⟩
 have f2_z:=f2.size
 replace p0:=p0.F f2
 replace r1:=r1.F f2
 rw [if_pos hc] at w
 obtain ⟨w,rfl,o⟩:=w
 obtain ⟨oa,oc,rfl⟩:=o.is
 by_cases ha:(rcAx g).1=ax
 rotate_left
 ·have e:decide ((g.check false).1=0∧rcAx g=(ax,l))=false:=decide_eq_false fun h=>ha (by rw [h.2])
  rw [e]
  simp -dsimp only [go_sem,beq_f ha,r1.cell]
  exact p0
 simp -dsimp only [go_sem,beq_t ha,r1.cell]
 refine call_of (c_law10_ints (l:=(rcAx g).2) (m:=l) o.rd (hm.fr p0) (by omega)) ?_
 rintro v3 h2 ⟨rfl,rfl⟩
 have e:decide ((rcAx g).2=l)=decide ((g.check false).1=0∧rcAx g=(ax,l)):=by
  rw [Bool.eq_iff_iff,decide_eq_true_iff,decide_eq_true_iff]
  exact ⟨fun h=>⟨hc,Prod.ext ha h⟩,fun h=>by rw [h.2]⟩
 rw [e]
 simp -dsimp only [go_sem,r1.cell]
 exact p0
theorem c_law10_ev (a b c:Int) (d:Int) (m:Int) {h:Heap}:Con Tryd.prog 9 #[.int .i64 a,.int .i64 b,.int .i64 c,.int .u64 d,.int .i64 m] h fun v h'=>Fr 0 0 h h'∧v=.agg #[.int .i64 a,.int .i64 b,.int .i64 c,.int .u64 d,.int .i64 m]:=by
 refine con_law10_ev ?_
 have p0:Fr 0 0 h h:=.refl _ _ _
 simp -dsimp only [go_sem]
 intro b1 h1 n1
 have n1_a:=n1.at_
 have n1_z:=n1.size
 replace p0:=p0.F n1.f0
 have r1:=n1.row
 simp -dsimp only [go_sem,r1.cell]
 refine Chk_intro (r1.wr (by first | (simp;done) | (simp;omega))) fun h2 s2=>?_
 have s2_z:=s2.size
 replace p0:=p0.F s2.fr
 replace r1:=s2.row r1
 try simp only [cl_int,cl_bool,cl_slice,cl_ptr,putAt_one,List.set_cons_zero,List.set_cons_succ,ivec_set,brow_upd] at r1
 try simp -dsimp only [go_sem] at r1
 simp -dsimp only [go_sem,r1.cell]
 exact p0
set_option maxHeartbeats 2000000 in
theorem c_law10_two {h:Heap} {ea fa xa ya:Option Addr} {ec fc xc yc:Nat} {E:List Ev} {rf:List (Int×Int)} {x y:List Int} {lo:Nat} (hlo:lo≤h.size) (he:Rd 5 h (.slice ea E.length ec) E.length (evsV E)) (hf:∀ h',Fr 0 lo h h'→Rd 2 h' (.slice fa rf.length fc) rf.length (pairsV rf)) (hx:Rd 1 h (.slice xa x.length xc) x.length (intsV x)) (hy:Rd 1 h (.slice ya y.length yc) y.length (intsV y))
  (be:E.length≤1000) (bf:rf.length≤1000) (bx:x.length≤1000) (by_:y.length≤1000) :
  Con Tryd.prog 8 #[.slice ea E.length ec,.slice fa rf.length fc,.slice xa x.length xc,.slice ya y.length yc] h fun v h'=>Fr 0 0 h h'∧∃ q,v=.agg (gcells q (twoG 1 E rf x y)).toArray∧∀ h2,Fr 0 lo h' h2→GrAt h2 q (twoG 1 E rf x y):=by
 refine con_law10_two ?_
 have p0:Fr 0 0 h h:=.refl _ _ _
 simp -dsimp only [go_sem]
 intro b8 h1 n1
 have n1_a:=n1.at_
 have n1_z:=n1.size
 replace p0:=p0.F n1.f0
 have r8:=n1.row
 simp -dsimp only [go_sem,r8.cell]
 refine call_of (c_law10_ev (-1) 2 0 0 1) ?_
 rintro v2 h2 ⟨f2,rfl⟩
 have f2_z:=f2.size
 replace p0:=p0.F f2
 replace r8:=r8.F f2
 simp -dsimp only [go_sem,r8.cell]
 refine call_of (c_law10_ev (-1) 2 1 0 1) ?_
 rintro v3 h3 ⟨f3,rfl⟩
 have f3_z:=f3.size
 replace p0:=p0.F f3
 replace r8:=r8.F f3
 simp -dsimp only [go_sem,r8.cell]
 intro b14 h4 n4
 have n4_a:=n4.at_
 have n4_z:=n4.size
 replace p0:=p0.F n4.f0
 replace r8:=r8.F n4.f0
 have r14:=n4.row
 replace r14:Rw h4 b14 (evsV [⟨-1,2,0,0,1⟩,⟨-1,2,1,0,1⟩]):=r14
 simp -dsimp only [go_sem,r8.cell,r14.cell]
 intro b9 h5 n5
 have n5_a:=n5.at_
 have n5_z:=n5.size
 replace p0:=p0.F n5.f0
 replace r8:=r8.F n5.f0
 replace r14:=r14.F n5.f0
 have r9:=n5.row
 simp -dsimp only [go_sem,r8.cell,r14.cell,r9.cell]
 refine Chk_intro (r9.wr (by first | (simp;done) | (simp;omega))) fun h6 s6=>?_
 have s6_z:=s6.size
 replace p0:=p0.F s6.fr
 replace r8:=r8.F s6.fr
 replace r14:=r14.F s6.fr
 replace r9:=s6.row r9
 try simp only [cl_int,cl_bool,cl_slice,cl_ptr,putAt_one,List.set_cons_zero,List.set_cons_succ,ivec_set,brow_upd] at r9
 try simp -dsimp only [go_sem] at r9
 have gb:b8<b14∧b14<b9∧b9<h6.size∧h.size≤b8:=by omega
 simp -dsimp only [go_sem,r8.cell,r14.cell,r9.cell]
 refine (holder_row (s:=5) (n:=2) (lo:=b14) r14 rfl (Nat.le_refl _)).appendRd (he.fr p0) (by omega) rfl (by omega) (oc_evs _) (by omega) fun v7 h7 o7 f7 e7=>?_
 have lb:bl (.slice (some ⟨b14,0,none⟩) 2 2)=b14∧bh (.slice (some ⟨b14,0,none⟩) 2 2)=b14+1:=⟨rfl,rfl⟩
 rw [lb.1,lb.2] at f7
 clear r14
 have z7:=f7.size
 have f7_z:=f7.size
 replace p0:=p0.F f7
 replace r8:=r8.F f7
 replace r9:=r9.F f7
 rw [← evsV_append] at o7
 obtain ⟨a7,c7,rfl⟩:=o7.is
 have a7_a:=o7.at_
 have e7':=e7
 clear e7
 simp -dsimp only [go_sem,r8.cell,r9.cell]
 refine Chk_intro (r9.wr (by first | (simp;done) | (simp;omega))) fun h8 s8=>?_
 have s8_z:=s8.size
 replace p0:=p0.F s8.fr
 replace r8:=r8.F s8.fr
 replace r9:=s8.row r9
 try simp only [cl_int,cl_bool,cl_slice,cl_ptr,putAt_one,List.set_cons_zero,List.set_cons_succ,ivec_set,brow_upd] at r9
 replace o7:=o7.fr s8.fr (by omega)
 simp -dsimp only [go_sem,r8.cell,r9.cell]
 intro b10 h9 n9
 have n9_a:=n9.at_
 have n9_z:=n9.size
 replace p0:=p0.F n9.f0
 replace r8:=r8.F n9.f0
 replace r9:=r9.F n9.f0
 have r10:=n9.row
 replace r10:Rw h9 b10 (intsV [0]):=r10
 replace o7:=o7.fr n9.f0 (by omega)
 simp -dsimp only [go_sem,r8.cell,r9.cell,r10.cell]
 have p9:Fr 0 0 h8 h9:=n9.fr
 refine (holder_row (s:=1) (n:=1) (lo:=b10) r10 rfl (Nat.le_refl _)).appendRd (hx.fr p0) (by omega) rfl (by omega) (oc_ints _) (by omega) fun v10 h10 o10 f10 e10=>?_
 have lb:bl (.slice (some ⟨b10,0,none⟩) 1 1)=b10∧bh (.slice (some ⟨b10,0,none⟩) 1 1)=b10+1:=⟨rfl,rfl⟩
 rw [lb.1,lb.2] at f10
 clear r10
 have z10:=f10.size
 have f10_z:=f10.size
 replace p0:=p0.F f10
 replace r8:=r8.F f10
 replace r9:=r9.F f10
 have o7t:=o7.top
 replace o7:=o7.fr f10 (by omega)
 rw [← intsV_append] at o10
 obtain ⟨a10,c10,rfl⟩:=o10.is
 have a10_a:=o10.at_
 clear e10
 simp -dsimp only [go_sem,r8.cell,r9.cell]
 intro b11 h11 n11
 have n11_a:=n11.at_
 have n11_z:=n11.size
 replace p0:=p0.F n11.f0
 replace r8:=r8.F n11.f0
 replace r9:=r9.F n11.f0
 have r11:=n11.row
 replace r11:Rw h11 b11 (intsV [1]):=r11
 replace o7:=o7.fr n11.f0 (by omega)
 have o10t:=o10.top
 replace o10:=o10.fr n11.f0 (by omega)
 simp -dsimp only [go_sem,r8.cell,r9.cell,r11.cell]
 refine (holder_row (s:=1) (n:=1) (lo:=b11) r11 rfl (Nat.le_refl _)).appendRd (hy.fr p0) (by omega) rfl (by omega) (oc_ints _) (by omega) fun v12 h12 o12 f12 e12=>?_
 have lb:bl (.slice (some ⟨b11,0,none⟩) 1 1)=b11∧bh (.slice (some ⟨b11,0,none⟩) 1 1)=b11+1:=⟨rfl,rfl⟩
 rw [lb.1,lb.2] at f12
 clear r11
 have z12:=f12.size
 have f12_z:=f12.size
 replace p0:=p0.F f12
 replace r8:=r8.F f12
 replace r9:=r9.F f12
 have o7t:=o7.top
 replace o7:=o7.fr f12 (by omega)
 replace o10:=o10.fr f12 (by omega)
 rw [← intsV_append] at o12
 obtain ⟨a12,c12,rfl⟩:=o12.is
 have a12_a:=o12.at_
 clear e12
 simp -dsimp only [go_sem,r8.cell,r9.cell]
 intro b13 h13 n13
 have n13_a:=n13.at_
 have n13_z:=n13.size
 replace p0:=p0.F n13.f0
 replace r8:=r8.F n13.f0
 replace r9:=r9.F n13.f0
 have r13:=n13.row
 try simp -dsimp only [go_sem] at r13
 replace o7:=o7.fr n13.f0 (by omega)
 replace o10:=o10.fr n13.f0 (by omega)
 replace o12:=o12.fr n13.f0 (by omega)
 simp -dsimp only [go_sem,r8.cell,r9.cell,r13.cell]
 refine Chk_intro (r9.wr (by first | (simp;done) | (simp;omega))) fun h14 s14=>?_
 have s14_z:=s14.size
 replace p0:=p0.F s14.fr
 replace r8:=r8.F s14.fr
 replace r13:=r13.F s14.fr
 replace r9:=s14.row r9
 try simp only [cl_int,cl_bool,cl_slice,cl_ptr,putAt_one,List.set_cons_zero,List.set_cons_succ,ivec_set,brow_upd] at r9
 try simp -dsimp only [go_sem] at r9
 have z14:=s14.size
 replace o7:=o7.fr s14.fr (by omega)
 replace o10:=o10.fr s14.fr (by omega)
 replace o12:=o12.fr s14.fr (by omega)
 simp -dsimp only [go_sem,r8.cell,r9.cell,r13.cell]
 refine Chk_intro (r8.wr (by first | (simp;done) | (simp;omega))) fun h15 s15=>?_
 have s15_z:=s15.size
 replace p0:=p0.F s15.fr
 replace r9:=r9.F s15.fr
 replace r13:=r13.F s15.fr
 replace r8:=s15.row r8
 try simp only [cl_int,cl_bool,cl_slice,cl_ptr,putAt_one,List.set_cons_zero,List.set_cons_succ,ivec_set,brow_upd] at r8
 have z15:=s15.size
 replace o7:=o7.fr s15.fr (by omega)
 replace o10:=o10.fr s15.fr (by omega)
 replace o12:=o12.fr s15.fr (by omega)
 simp -dsimp only [go_sem,r8.cell,r9.cell,r13.cell]
 have hl:(twoG 1 E rf x y).evs.length=2+E.length:=by simp [twoG];omega
 have hx2:(intsV ([0]++x)).length=1+x.length:=by simp;omega
 have hy2:(intsV ([1]++y)).length=1+y.length:=by simp;omega
 refine ⟨p0,⟨a7,fa,some ⟨b13,0,none⟩,none,none,none,none,c7,fc,2,0,0,0,0⟩,by unfold gcells;rw [hl];rfl,fun h16 f16=>?_⟩
 replace o7:=o7.fr f16 (by have:=o7.at_;omega)
 replace o10:=o10.fr f16 (by have:=o10.at_;omega)
 replace o12:=o12.fr f16 (by have:=o12.at_;omega)
 replace r13:=r13.F f16
 obtain ⟨u1,v1,k1,k1'⟩:=o10.room (by omega)
 cases k1
 obtain ⟨u2,v2,k2,k2'⟩:=o12.room (by omega)
 cases k2
 have hrl:RLc h16 (.slice (some ⟨b13,0,none⟩) 2 2) [intsV ([0]++x),intsV ([1]++y)]:=by
  refine ⟨_,Rw.rd (s:=1) r13 rfl,fun i l hi=>?_⟩
  match i,hi with
  | 0,hi =>
   cases hi
   exact ⟨_,_,by rw [hx2];rfl,by rw [hx2];exact k1',by rw [hx2];exact o10.rd⟩
  | 1,hi =>
   cases hi
   exact ⟨_,_,by rw [hy2];rfl,by rw [hy2];exact k2',by rw [hy2];exact o12.rd⟩
  | i+2,hi=>simp at hi
 refine ⟨by rw [hl];exact o7.rd,hf _ ((p0.wide (Nat.zero_le _)).trans f16),rlc_rl hrl,nilP,nilP,nilP,nilP,⟨by rw [hl];omega,by show rf.length≤_;omega,by show 2≤_;omega,by show 0≤_;omega,by show 0≤_;omega,by show 0≤_;omega,by show 0≤_;omega,fun l hl=>?_⟩,by show 2≤2;omega,hrl⟩
 have hl:l=[0]++x∨l=[1]++y:=by simpa [twoG] using hl
 rcases hl with rfl | rfl <;> (simp;omega)
theorem c_law10_buffering (w r:Int) {h:Heap}:Con Tryd.prog 11 #[.int .i64 w,.int .i64 r] h fun v h'=>Fr 0 0 h h'∧∃ q,v=.agg (gcells q (bufG 1 w r)).toArray∧GrAt h' q (bufG 1 w r):=by
 refine con_law10_buffering ?_
 have p0:Fr 0 0 h h:=.refl _ _ _
 simp -dsimp only [go_sem]
 intro b4 h1 n1
 have n1_a:=n1.at_
 have n1_z:=n1.size
 replace p0:=p0.F n1.f0
 have r4:=n1.row
 simp -dsimp only [go_sem,r4.cell]
 refine call_of (c_law10_ev 0 2 0 1 w) ?_
 rintro v h2 ⟨f2,rfl⟩
 have f2_z:=f2.size
 replace p0:=p0.F f2
 replace r4:=r4.F f2
 simp -dsimp only [go_sem,r4.cell]
 refine call_of (c_law10_ev 0 1 1 0 r) ?_
 rintro v h3 ⟨f3,rfl⟩
 have f3_z:=f3.size
 replace p0:=p0.F f3
 replace r4:=r4.F f3
 simp -dsimp only [go_sem,r4.cell]
 refine call_of (c_law10_ev 1 2 1 1 w) ?_
 rintro v h4 ⟨f4,rfl⟩
 have f4_z:=f4.size
 replace p0:=p0.F f4
 replace r4:=r4.F f4
 simp -dsimp only [go_sem,r4.cell]
 refine call_of (c_law10_ev 1 1 0 0 r) ?_
 rintro v h5 ⟨f5,rfl⟩
 have f5_z:=f5.size
 replace p0:=p0.F f5
 replace r4:=r4.F f5
 simp -dsimp only [go_sem,r4.cell]
 intro b6 h6 n6
 have n6_a:=n6.at_
 have n6_z:=n6.size
 replace p0:=p0.F n6.f0
 replace r4:=r4.F n6.f0
 have r6:=n6.row
 simp -dsimp only [go_sem,r4.cell,r6.cell]
 intro b7 h7 n7
 have n7_a:=n7.at_
 have n7_z:=n7.size
 replace p0:=p0.F n7.f0
 replace r4:=r4.F n7.f0
 replace r6:=r6.F n7.f0
 have r7:=n7.row
 simp -dsimp only [go_sem,r4.cell,r6.cell,r7.cell]
 intro b8 h8 n8
 have n8_a:=n8.at_
 have n8_z:=n8.size
 replace p0:=p0.F n8.f0
 replace r4:=r4.F n8.f0
 replace r6:=r6.F n8.f0
 replace r7:=r7.F n8.f0
 have r8:=n8.row
 simp -dsimp only [go_sem,r4.cell,r6.cell,r7.cell,r8.cell]
 intro b9 h9 n9
 have n9_a:=n9.at_
 have n9_z:=n9.size
 replace p0:=p0.F n9.f0
 replace r4:=r4.F n9.f0
 replace r6:=r6.F n9.f0
 replace r7:=r7.F n9.f0
 replace r8:=r8.F n9.f0
 have r9:=n9.row
 simp -dsimp only [go_sem,r4.cell,r6.cell,r7.cell,r8.cell,r9.cell]
 refine call_of (c_law10_two (E:=bufE w r) (rf:=[(1,3),(0,5)]) (x:=[2]) (y:=[4]) (lo:=b4+1) (by omega) (Rw.rd (s:=5) (n:=4) (c:=4) r6 rfl) (fun h' f=>Rw.rd (s:=2) (n:=2) (c:=2) (r7.fr f (by omega)) rfl) (Rw.rd (s:=1) (n:=1) (c:=1) r8 rfl) (Rw.rd (s:=1) (n:=1) (c:=1) r9 rfl) (Nat.le_of_ble_eq_true rfl) (by simp) (by simp) (by simp)) ?_
 rintro v h10 ⟨f10,q,rfl,t⟩
 have f10_z:=f10.size
 replace p0:=p0.F f10
 replace r4:=r4.F f10
 replace r6:=r6.F f10
 replace r7:=r7.F f10
 replace r8:=r8.F f10
 replace r9:=r9.F f10
 unfold gcells
 simp -dsimp only [go_sem,r4.cell,r6.cell,r7.cell,r8.cell,r9.cell]
 refine Chk_intro (r4.wr (by first | (simp;done) | (simp;omega))) fun h11 s11=>?_
 have s11_z:=s11.size
 replace p0:=p0.F s11.fr
 replace r6:=r6.F s11.fr
 replace r7:=r7.F s11.fr
 replace r8:=r8.F s11.fr
 replace r9:=r9.F s11.fr
 replace r4:=s11.row r4
 try simp only [cl_int,cl_bool,cl_slice,cl_ptr,putAt_one,List.set_cons_zero,List.set_cons_succ,ivec_set,brow_upd] at r4
 have t:=t _ (s11.fr.wide (Nat.le_refl _))
 simp -dsimp only [go_sem,r4.cell,r6.cell,r7.cell,r8.cell,r9.cell]
 exact ⟨p0,q,rfl,t⟩
theorem c_law10_passing (w r:Int) {h:Heap}:Con Tryd.prog 27 #[.int .i64 w,.int .i64 r] h fun v h'=>Fr 0 0 h h'∧∃ q,v=.agg (gcells q (pasG 1 w r)).toArray∧GrAt h' q (pasG 1 w r):=by
 refine con_law10_passing ?_
 have p0:Fr 0 0 h h:=.refl _ _ _
 simp -dsimp only [go_sem]
 intro b4 h1 n1
 have n1_a:=n1.at_
 have n1_z:=n1.size
 replace p0:=p0.F n1.f0
 have r4:=n1.row
 simp -dsimp only [go_sem,r4.cell]
 refine call_of (c_law10_ev 0 2 0 1 1) ?_
 rintro v h2 ⟨f2,rfl⟩
 have f2_z:=f2.size
 replace p0:=p0.F f2
 replace r4:=r4.F f2
 simp -dsimp only [go_sem,r4.cell]
 refine call_of (c_law10_ev 0 2 1 1 w) ?_
 rintro v h3 ⟨f3,rfl⟩
 have f3_z:=f3.size
 replace p0:=p0.F f3
 replace r4:=r4.F f3
 simp -dsimp only [go_sem,r4.cell]
 refine call_of (c_law10_ev 1 1 1 1 r) ?_
 rintro v h4 ⟨f4,rfl⟩
 have f4_z:=f4.size
 replace p0:=p0.F f4
 replace r4:=r4.F f4
 simp -dsimp only [go_sem,r4.cell]
 refine call_of (c_law10_ev 1 1 0 0 1) ?_
 rintro v h5 ⟨f5,rfl⟩
 have f5_z:=f5.size
 replace p0:=p0.F f5
 replace r4:=r4.F f5
 simp -dsimp only [go_sem,r4.cell]
 intro b6 h6 n6
 have n6_a:=n6.at_
 have n6_z:=n6.size
 replace p0:=p0.F n6.f0
 replace r4:=r4.F n6.f0
 have r6:=n6.row
 simp -dsimp only [go_sem,r4.cell,r6.cell]
 intro b7 h7 n7
 have n7_a:=n7.at_
 have n7_z:=n7.size
 replace p0:=p0.F n7.f0
 replace r4:=r4.F n7.f0
 replace r6:=r6.F n7.f0
 have r7:=n7.row
 simp -dsimp only [go_sem,r4.cell,r6.cell,r7.cell]
 intro b8 h8 n8
 have n8_a:=n8.at_
 have n8_z:=n8.size
 replace p0:=p0.F n8.f0
 replace r4:=r4.F n8.f0
 replace r6:=r6.F n8.f0
 replace r7:=r7.F n8.f0
 have r8:=n8.row
 simp -dsimp only [go_sem,r4.cell,r6.cell,r7.cell,r8.cell]
 intro b9 h9 n9
 have n9_a:=n9.at_
 have n9_z:=n9.size
 replace p0:=p0.F n9.f0
 replace r4:=r4.F n9.f0
 replace r6:=r6.F n9.f0
 replace r7:=r7.F n9.f0
 replace r8:=r8.F n9.f0
 have r9:=n9.row
 simp -dsimp only [go_sem,r4.cell,r6.cell,r7.cell,r8.cell,r9.cell]
 refine call_of (c_law10_two (E:=pasE 1 w r) (rf:=[(3,4),(0,5)]) (x:=[2]) (y:=[3]) (lo:=b4+1) (by omega) (Rw.rd (s:=5) (n:=4) (c:=4) r6 rfl) (fun h' f=>Rw.rd (s:=2) (n:=2) (c:=2) (r7.fr f (by omega)) rfl) (Rw.rd (s:=1) (n:=1) (c:=1) r8 rfl) (Rw.rd (s:=1) (n:=1) (c:=1) r9 rfl) (Nat.le_of_ble_eq_true rfl) (by simp) (by simp) (by simp)) ?_
 rintro v h10 ⟨f10,q,rfl,t⟩
 have f10_z:=f10.size
 replace p0:=p0.F f10
 replace r4:=r4.F f10
 replace r6:=r6.F f10
 replace r7:=r7.F f10
 replace r8:=r8.F f10
 replace r9:=r9.F f10
 unfold gcells
 simp -dsimp only [go_sem,r4.cell,r6.cell,r7.cell,r8.cell,r9.cell]
 refine Chk_intro (r4.wr (by first | (simp;done) | (simp;omega))) fun h11 s11=>?_
 have s11_z:=s11.size
 replace p0:=p0.F s11.fr
 replace r6:=r6.F s11.fr
 replace r7:=r7.F s11.fr
 replace r8:=r8.F s11.fr
 replace r9:=r9.F s11.fr
 replace r4:=s11.row r4
 try simp only [cl_int,cl_bool,cl_slice,cl_ptr,putAt_one,List.set_cons_zero,List.set_cons_succ,ivec_set,brow_upd] at r4
 have t:=t _ (s11.fr.wide (Nat.le_refl _))
 simp -dsimp only [go_sem,r4.cell,r6.cell,r7.cell,r8.cell,r9.cell]
 exact ⟨p0,q,rfl,t⟩
end Go.Proofs.Tst
/-
  law10: lives.
-/
namespace Go.Proofs.Tst
open Go Go.Vc
theorem sb1:decide (((bufG 1 1 1).check false).1=0∧rcAx (bufG 1 1 1)=(0,[]))=true:=by decide +kernel
theorem sb2:decide (((bufG 1 5 5).check false).1=0∧rcAx (bufG 1 5 5)=(3,[2,3,4,5]))=true:=by decide +kernel
theorem sp2:decide (((pasG 1 3 2).check false).1=0∧rcAx (pasG 1 3 2)=(1,[2,5]))=true:=by decide +kernel
theorem sp1:decide (((pasG 1 3 1).check false).1=0∧rcAx (pasG 1 3 1)=(0,[]))=true:=by decide +kernel
theorem sp3:((pasG 1 3 2).check false).1=0:=by decide +kernel
theorem sp4:pairsOf (pasG 1 3 2).n (swM (pasG 1 3 2))=[(3,4)]:=by decide +kernel
set_option maxHeartbeats 2000000 in
theorem law10_lives {h:Heap} (ht:TabAt h):Con Tryd.prog 7 #[] h fun v h'=>Fr 0 0 h h'∧v=.bool true:=by
 refine con_law10_lives ?_
 have p0:Fr 0 0 h h:=.refl _ _ _
 simp -dsimp only [go_sem]
 refine call_of (c_law10_passing 3 2) ?_
 rintro v1 h1 ⟨f1,q1,rfl,t1⟩
 have f1_z:=f1.size
 replace p0:=p0.F f1
 simp -dsimp only [go_sem]
 refine call_of (rc11_Derive t1 (ht.fr p0 (.inr rfl))) ?_
 rintro v2 h2 ⟨f2,w⟩
 have f2_z:=f2.size
 replace p0:=p0.F f2
 rw [if_pos sp3] at w
 obtain ⟨x,rfl,D⟩:=w
 obtain ⟨_,_,g1,-,ab⟩:=D 1 (by decide)
 obtain ⟨c0,e0⟩:=(D 0 (by decide)).pa.ptr
 obtain ⟨c1,e1⟩:=(D 1 (by decide)).pa.ptr
 obtain ⟨c2,e2⟩:=(D 2 (by decide)).pa.ptr
 obtain ⟨c3,e3⟩:=(D 3 (by decide)).pa.ptr
 obtain ⟨c4,e4⟩:=(D 4 (by decide)).pa.ptr
 obtain ⟨c5,e5⟩:=(D 5 (by decide)).pa.ptr
 obtain ⟨c6,e6⟩:=(D 6 (by decide)).pa.ptr
 rw [e0,e1,e2,e3,e4,e5,e6]
 rw [e1] at g1
 replace g1:ProgAt h2 _ _ _ (pasG 1 3 2).n (swM (pasG 1 3 2)):=g1
 have p2:Fr 0 0 h2 h2:=.refl _ _ _
 simp -dsimp only [go_sem]
 intro b3 h3 n3
 have n3_a:=n3.at_
 have n3_z:=n3.size
 replace p0:=p0.F n3.f0
 replace p2:=p2.F n3.f0
 have r3:=n3.row
 simp -dsimp only [go_sem,r3.cell]
 refine Chk_intro (r3.wr (by first | (simp;done) | (simp;omega))) fun h4 s4=>?_
 have s4_z:=s4.size
 replace p0:=p0.F s4.fr
 replace p2:=p2.F s4.fr
 replace r3:=s4.row r3
 try simp only [cl_int,cl_bool,cl_slice,cl_ptr,putAt_one,List.set_cons_zero,List.set_cons_succ,ivec_set,brow_upd] at r3
 try simp -dsimp only [go_sem] at r3
 simp -dsimp only [go_sem,r3.cell]
 refine call_of (c_law10_buffering 1 1) ?_
 rintro v5 h5 ⟨f5,q5,rfl,t5⟩
 have f5_z:=f5.size
 replace p0:=p0.F f5
 replace p2:=p2.F f5
 replace r3:=r3.F f5
 simp -dsimp only [go_sem,r3.cell]
 refine call_of (c_law10_says t5 (ht.fr p0 (.inr rfl)) nilI 0) ?_
 rintro v6 h6 ⟨f6,rfl⟩
 have f6_z:=f6.size
 replace p0:=p0.F f6
 replace p2:=p2.F f6
 replace r3:=r3.F f6
 rw [sb1]
 simp -dsimp only [go_sem,r3.cell]
 refine call_of (c_law10_buffering 5 5) ?_
 rintro v7 h7 ⟨f7,q7,rfl,t7⟩
 have f7_z:=f7.size
 replace p0:=p0.F f7
 replace p2:=p2.F f7
 replace r3:=r3.F f7
 simp -dsimp only [go_sem,r3.cell]
 intro b8 h8 n8
 have n8_a:=n8.at_
 have n8_z:=n8.size
 replace p0:=p0.F n8.f0
 replace p2:=p2.F n8.f0
 replace r3:=r3.F n8.f0
 have r8:=n8.row
 have t8:=t7.fr n8.fr
 simp -dsimp only [go_sem,r3.cell,r8.cell]
 refine call_of (c_law10_says t8 (ht.fr p0 (.inr rfl)) (l:=[2,3,4,5]) (Rw.rd (s:=1) (n:=4) (c:=4) r8 rfl) 3) ?_
 rintro v9 h9 ⟨f9,rfl⟩
 have f9_z:=f9.size
 replace p0:=p0.F f9
 replace p2:=p2.F f9
 replace r3:=r3.F f9
 replace r8:=r8.F f9
 rw [sb2]
 simp -dsimp only [go_sem,r3.cell,r8.cell]
 refine call_of (c_law10_passing 3 2) ?_
 rintro v12 h12 ⟨f12,q12,rfl,t12⟩
 have f12_z:=f12.size
 replace p0:=p0.F f12
 replace p2:=p2.F f12
 replace r3:=r3.F f12
 replace r8:=r8.F f12
 simp -dsimp only [go_sem,r3.cell,r8.cell]
 intro b13 h13 n13
 have n13_a:=n13.at_
 have n13_z:=n13.size
 replace p0:=p0.F n13.f0
 replace p2:=p2.F n13.f0
 replace r3:=r3.F n13.f0
 replace r8:=r8.F n13.f0
 have r13:=n13.row
 have t13:=t12.fr n13.fr
 simp -dsimp only [go_sem,r3.cell,r8.cell,r13.cell]
 refine call_of (c_law10_says t13 (ht.fr p0 (.inr rfl)) (l:=[2,5]) (Rw.rd (s:=1) (n:=2) (c:=2) r13 rfl) 1) ?_
 rintro v14 h14 ⟨f14,rfl⟩
 have f14_z:=f14.size
 replace p0:=p0.F f14
 replace p2:=p2.F f14
 replace r3:=r3.F f14
 replace r8:=r8.F f14
 replace r13:=r13.F f14
 rw [sp2]
 simp -dsimp only [go_sem,r3.cell,r8.cell,r13.cell]
 refine call_of (c_law10_passing 3 1) ?_
 rintro v10 h10 ⟨f10,q10,rfl,t10⟩
 have f10_z:=f10.size
 replace p0:=p0.F f10
 replace p2:=p2.F f10
 replace r3:=r3.F f10
 replace r8:=r8.F f10
 replace r13:=r13.F f10
 simp -dsimp only [go_sem,r3.cell,r8.cell,r13.cell]
 refine call_of (c_law10_says t10 (ht.fr p0 (.inr rfl)) nilI 0) ?_
 rintro v11 h11 ⟨f11,rfl⟩
 have f11_z:=f11.size
 replace p0:=p0.F f11
 replace p2:=p2.F f11
 replace r3:=r3.F f11
 replace r8:=r8.F f11
 replace r13:=r13.F f11
 rw [sp1]
 simp -dsimp only [go_sem,r3.cell,r8.cell,r13.cell]
 refine call_of (rel_Pairs (g1.fr p2 (by omega)) (ht.fr p0 (.inr rfl))) ?_
 rintro v15 h15 ⟨f15,o15⟩
 have f15_z:=f15.size
 replace p0:=p0.F f15
 replace p2:=p2.F f15
 replace r3:=r3.F f15
 replace r8:=r8.F f15
 replace r13:=r13.F f15
 rw [sp4] at o15
 simp -dsimp only [go_sem,r3.cell,r8.cell,r13.cell]
 intro b16 h16 n16
 have n16_a:=n16.at_
 have n16_z:=n16.size
 replace p0:=p0.F n16.f0
 replace p2:=p2.F n16.f0
 replace r3:=r3.F n16.f0
 replace r8:=r8.F n16.f0
 replace r13:=r13.F n16.f0
 have r16:=n16.row
 have o16:=o15.rd.fr n16.fr
 simp -dsimp only [go_sem,r3.cell,r8.cell,r13.cell,r16.cell]
 refine call_of (c_law10_pairs (l:=[(3,4)]) (m:=[(3,4)]) o16 (Rw.rd (s:=2) (n:=1) (c:=1) r16 rfl) (by decide)) ?_
 rintro v17 h16 ⟨rfl,rfl⟩
 simp -dsimp only [go_sem,dec_self,r3.cell,r8.cell,r13.cell,r16.cell]
 exact p0
end Go.Proofs.Tst
/-
  ArmWeaker.
-/
namespace Go.Proofs.Tst
open Go Go.Vc
theorem loop_two {P:Program} {y:Option Nat} {c:GC} {Q:Post} {K:Env→Heap→Prop} {k:Nat} {e:Env} {h:Heap} {α:Type} (E:α→Env) (I:α→Heap→Prop)
  (h1:loopVC (vc P y c) (blockQ k (thenQ (fun e h=>∃ s,Le (E s) e∧I s h) Q)) e h) (h2:∀ s h,I s h→∀ e,Le (E s) e→K e h):loopVC (vc P y c) (blockQ k (thenQ K Q)) e h:=
 vc_mono (c:=.loop c) (Q:=blockQ k (thenQ (fun e h=>∃ s,Le (E s) e∧I s h) Q)) (Q':=blockQ k (thenQ K Q)) (fun x e h hq=>by
  have key:thenQ (fun e h=>∃ s,Le (E s) e∧I s h) Q .normal e h→thenQ K Q .normal e h:=fun ⟨s,hl,hi⟩=>h2 s h hi e hl
  cases x with
  | normal=>exact key hq
  | ret=>exact hq
  | exit j =>
   by_cases hj:j=k
   ·simp only [blockQ,hj,if_true] at hq ⊢;exact key hq
   ·simp only [blockQ,hj,if_false] at hq ⊢;exact hq) h1
theorem holder_mode {h:Heap} {b n c lo:Nat} {E:List Ev} (w:Holder 5 h (.slice (some ⟨b,0,none⟩) n c) n (evsV E) lo) {i:Nat} (hi:i<n):hcell h b (i * 5+4)=some (.int .i64 (E.getD i default).mode):=by
 have hl:=w.1
 rw [length_evsV] at hl
 have hE:i<E.length:=by omega
 obtain ⟨b',c',rest,h1,h2,h3,h4⟩:=w.blk (by omega)
 cases h1
 have he:E[i]?=some (E.getD i default):=by simp [hE]
 rw [h2.cell,List.getElem?_append_left (by simp;omega),evsV_get he 4 (by omega)]
 rfl
theorem GrOwn.modes {h:Heap} {q:GV} {g:Gr} {lo:Nat} (w:GrOwn h q g lo) (hn:0<g.n):∃ b,q.e=some ⟨b,0,none⟩∧∀ i,i<g.n→hcell h b (i * 5+4)=some (.int .i64 (g.ev i).mode):=by
 obtain ⟨b,hb,-⟩:=w.ev hn
 have we:=w.e
 rw [hb] at we
 exact ⟨b,hb,fun i hi=>holder_mode we hi⟩
structure WkTo (g:Gr) (E:List Ev) (i:Nat):Prop where
 len:E.length=g.evs.length
 same:∀ j,i≤j→E.getD j default=g.ev j
 thr:∀ j,(E.getD j default).thread=(g.ev j).thread
 kind:∀ j,(E.getD j default).kind=(g.ev j).kind
 loc:∀ j,(E.getD j default).loc=(g.ev j).loc
 val:∀ j,(E.getD j default).val=(g.ev j).val
 mode:∀ j,weakM (g.ev j).mode (E.getD j default).mode
theorem WkTo.start (g:Gr):WkTo g g.evs 0:=⟨rfl,fun _ _=>rfl,fun _=>rfl,fun _=>rfl,fun _=>rfl,fun _=>rfl,fun _=>.inl rfl⟩
theorem WkTo.keep {g:Gr} {E:List Ev} {i:Nat} (w:WkTo g E i):WkTo g E (i+1):=⟨w.len,fun j hj=>w.same j (by omega),w.thr,w.kind,w.loc,w.val,w.mode⟩
theorem setMode_get {E:List Ev} {i j:Nat} {m:Int} (hi:i<E.length):(setMode E i m).getD j default=if j=i then { E.getD i default with mode:=m } else E.getD j default:=by
 unfold setMode
 rw [List.getD_eq_getElem?_getD,List.getElem?_set]
 by_cases h:i=j
 ·subst h;rw [if_pos rfl,if_pos hi,if_pos rfl];rfl
 ·rw [if_neg h,if_neg (Ne.symm h),List.getD_eq_getElem?_getD]
theorem WkTo.set {g:Gr} {E:List Ev} {i:Nat} {m:Int} (w:WkTo g E i) (hi:i<g.evs.length) (hm:weakM (g.ev i).mode m):WkTo g (setMode E i m) (i+1):=by
 have hE:i<E.length:=by rw [w.len];exact hi
 refine ⟨by simp [w.len],fun j hj=>?_,fun j=>?_,fun j=>?_,fun j=>?_,fun j=>?_,fun j=>?_⟩ <;> rw [setMode_get hE]
 ·rw [if_neg (by omega)];exact w.same j (by omega)
 all_goals
  by_cases h:j=i
  ·subst h
   rw [if_pos rfl]
   first | exact w.thr j | exact w.kind j | exact w.loc j | exact w.val j | exact hm
  ·rw [if_neg h]
   first | exact w.thr j | exact w.kind j | exact w.loc j | exact w.val j | exact w.mode j
end Go.Proofs.Tst
/-
  ArmWeaker.
-/
namespace Go.Proofs.Tst
open Go Go.Vc
section
variable {h h' : Heap} {q : GV} {g : Gr} {lo be i B : Nat} {E : List Ev} {m : Int}
structure EvAt (h:Heap) (q:GV) (g:Gr) (lo B:Nat):Prop where
 own:GrOwn h q g lo
 some:0<g.n→q.e=.some ⟨B,0,none⟩∧lo≤B∧B<h.size
 none:g.n=0→B=h.size
theorem EvAt.of (w:GrOwn h q g lo):∃ B,EvAt h q g lo B:=by
 by_cases hn:0<g.n
 ·obtain ⟨b,k1,k2,k3,-⟩:=w.ev hn
  exact ⟨b,w,fun _=>⟨k1,k2,k3⟩,fun h=>by omega⟩
 ·exact ⟨h.size,w,fun h=>absurd h hn,fun _=>rfl⟩
theorem EvAt.to (w:EvAt h q g lo B) (f:Fr B (B+1) h h') (hl:E.length=g.n) (he:Holder 5 h' (.slice q.e g.evs.length q.ec) g.evs.length (evsV E) lo):GrOwn h' q { g with evs:=E } lo:=by
 by_cases hn:0<g.n
 ·obtain ⟨k1,k2,k3⟩:=w.some hn
  rw [k1] at he
  exact w.own.evs' f k1 hl he
 ·have h0:g.evs=[]:=List.length_eq_zero_iff.1 (by unfold Gr.n at hn;omega)
  have h1:E=g.evs:=by rw [h0];exact List.length_eq_zero_iff.1 (by omega)
  rw [h1]
  exact w.own.fr f (.inr (.inl (by have:=w.none (by omega);omega)))
end
end Go.Proofs.Tst
/-
  RcWeaker.
-/
namespace Go.Proofs.Tst
open Go Go.Vc
def rsA (g:Gr):Int:=if (g.check false).1=0 then (rcAx g).1 else 0
def rsL (g:Gr):List Int:=if (g.check false).1=0 then (rcAx g).2 else []
def rsE (g:Gr):Int:=if (g.check false).1=0 then 0 else 4
theorem rc_res {g:Gr} {h':Heap} {lo:Nat} {v:Value} (w:if (g.check false).1=0 then ∃ w,v=.tuple #[.int .i64 (rcAx g).1,w,.int .i64 0]∧Holder 1 h' w (rcAx g).2.length (intsV (rcAx g).2) lo else v=.tuple #[.int .i64 0,.slice none 0 0,.int .i64 4]) :
  ∃ w,v=.tuple #[.int .i64 (rsA g),w,.int .i64 (rsE g)]∧Holder 1 h' w (rsL g).length (intsV (rsL g)) lo:=by
 unfold rsA rsL rsE
 by_cases hc:(g.check false).1=0
 ·simp only [if_pos hc] at w ⊢;exact w
 ·simp only [if_neg hc] at w ⊢;exact ⟨_,w,.none _ _ _⟩
theorem c_law10_weaker {h:Heap} (k a b:Int):Con Tryd.prog 15 #[.int .i64 k,.int .i64 a,.int .i64 b] h fun v h'=>h'=h∧∃ r,v=.bool r∧(r=true↔wkR k a b):=by
 refine con_law10_weaker ?_
 have T:∀ {r:Bool},r=true→wkR k a b→∃ r',Value.bool r=.bool r'∧(r'=true↔wkR k a b):=fun {r} e w=>⟨r,rfl,fun _=>w,fun _=>e⟩
 have F:¬ wkR k a b→∃ r',Value.bool false=.bool r'∧(r'=true↔wkR k a b):=fun w=>⟨false,rfl,⟨fun e=>absurd e (by decide),fun x=>absurd x w⟩⟩
 by_cases h0:a=b
 ·simp -dsimp only [go_sem,beq_t h0]
  exact T rfl (by unfold wkR;omega)
 by_cases k1:k=1
 ·by_cases a1:a=1
  ·by_cases b2:b=2
   ·simp -dsimp only [go_sem,beq_f h0,beq_t k1,beq_t a1,beq_t b2]
    exact T rfl (by unfold wkR;omega)
   by_cases b5:b=5
   ·simp -dsimp only [go_sem,beq_f h0,beq_t k1,beq_t a1,beq_f b2,beq_t b5]
    exact T rfl (by unfold wkR;omega)
   simp -dsimp only [go_sem,beq_f h0,beq_t k1,beq_t a1,beq_f b2,beq_f b5,beq_f (show ¬ a=2 by omega)]
   exact F (by unfold wkR;omega)
  by_cases a2:a=2
  ·by_cases b5:b=5
   ·simp -dsimp only [go_sem,beq_f h0,beq_t k1,beq_f a1,beq_t a2,beq_t b5]
    exact T rfl (by unfold wkR;omega)
   simp -dsimp only [go_sem,beq_f h0,beq_t k1,beq_f a1,beq_t a2,beq_f b5]
   exact F (by unfold wkR;omega)
  simp -dsimp only [go_sem,beq_f h0,beq_t k1,beq_f a1,beq_f a2]
  exact F (by unfold wkR;omega)
 by_cases k2:k=2
 ·by_cases a1:a=1
  ·by_cases b3:b=3
   ·simp -dsimp only [go_sem,beq_f h0,beq_f k1,beq_t k2,beq_t a1,beq_t b3]
    exact T rfl (by unfold wkR;omega)
   by_cases b5:b=5
   ·simp -dsimp only [go_sem,beq_f h0,beq_f k1,beq_t k2,beq_t a1,beq_f b3,beq_t b5]
    exact T rfl (by unfold wkR;omega)
   simp -dsimp only [go_sem,beq_f h0,beq_f k1,beq_t k2,beq_t a1,beq_f b3,beq_f b5,beq_f (show ¬ a=3 by omega)]
   exact F (by unfold wkR;omega)
  by_cases a3:a=3
  ·by_cases b5:b=5
   ·simp -dsimp only [go_sem,beq_f h0,beq_f k1,beq_t k2,beq_f a1,beq_t a3,beq_t b5]
    exact T rfl (by unfold wkR;omega)
   simp -dsimp only [go_sem,beq_f h0,beq_f k1,beq_t k2,beq_f a1,beq_t a3,beq_f b5]
   exact F (by unfold wkR;omega)
  simp -dsimp only [go_sem,beq_f h0,beq_f k1,beq_t k2,beq_f a1,beq_f a3]
  exact F (by unfold wkR;omega)
 by_cases b5:b=5
 ·simp -dsimp only [go_sem,beq_f h0,beq_f k1,beq_f k2,beq_t b5]
  exact T rfl (by unfold wkR;omega)
 by_cases b4:b=4
 ·by_cases a2:a=2
  ·simp -dsimp only [go_sem,beq_f h0,beq_f k1,beq_f k2,beq_f b5,beq_t b4,beq_t a2]
   exact T rfl (by unfold wkR;omega)
  by_cases a3:a=3
  ·simp -dsimp only [go_sem,beq_f h0,beq_f k1,beq_f k2,beq_f b5,beq_t b4,beq_f a2,beq_t a3]
   exact T rfl (by unfold wkR;omega)
  simp -dsimp only [go_sem,beq_f h0,beq_f k1,beq_f k2,beq_f b5,beq_t b4,beq_f a2,beq_f a3]
  exact F (by unfold wkR;omega)
 simp -dsimp only [go_sem,beq_f h0,beq_f k1,beq_f k2,beq_f b5,beq_f b4]
 exact F (by unfold wkR;omega)
theorem holder_cells {h:Heap} {b n c lo:Nat} {E:List Ev} (w:Holder 5 h (.slice (some ⟨b,0,none⟩) n c) n (evsV E) lo) {i:Nat} (hi:i<n) {e:Ev} (he:E.getD i default=e) :
  hcell h b (i * 5)=some (.int .i64 e.thread)∧hcell h b (i * 5+1)=some (.int .i64 e.kind)∧hcell h b (i * 5+2)=some (.int .i64 e.loc)∧hcell h b (i * 5+3)=some (.int .u64 e.val)∧hcell h b (i * 5+4)=some (.int .i64 e.mode):=by
 have hl:=w.1
 rw [length_evsV] at hl
 have hE:i<E.length:=by omega
 obtain ⟨b',c',rest,h1,h2,h3,h4⟩:=w.blk (by omega)
 cases h1
 have he:E[i]?=some e:=by rw [← he];simp [hE]
 refine ⟨?_,?_,?_,?_,?_⟩
 ·rw [h2.cell,List.getElem?_append_left (by simp;omega)];exact (evsV_get he 0 (by omega)).trans rfl
 ·rw [h2.cell,List.getElem?_append_left (by simp;omega)];exact (evsV_get he 1 (by omega)).trans rfl
 ·rw [h2.cell,List.getElem?_append_left (by simp;omega)];exact (evsV_get he 2 (by omega)).trans rfl
 ·rw [h2.cell,List.getElem?_append_left (by simp;omega)];exact (evsV_get he 3 (by omega)).trans rfl
 ·rw [h2.cell,List.getElem?_append_left (by simp;omega)];exact (evsV_get he 4 (by omega)).trans rfl
structure WkS (g:Gr) (E:List Ev) (i:Nat):Prop where
 len:E.length=g.evs.length
 same:∀ j,i≤j→E.getD j default=g.ev j
 thr:∀ j,(E.getD j default).thread=(g.ev j).thread
 kind:∀ j,(E.getD j default).kind=(g.ev j).kind
 loc:∀ j,(E.getD j default).loc=(g.ev j).loc
 mode:∀ j,wkR (g.ev j).kind (E.getD j default).mode (g.ev j).mode
theorem WkS.start (g:Gr):WkS g g.evs 0:=⟨rfl,fun _ _=>rfl,fun _=>rfl,fun _=>rfl,fun _=>rfl,fun _=>.inl rfl⟩
theorem WkS.keep {g:Gr} {E:List Ev} {i:Nat} (w:WkS g E i):WkS g E (i+1):=⟨w.len,fun j hj=>w.same j (by omega),w.thr,w.kind,w.loc,w.mode⟩
theorem WkS.set {g:Gr} {E:List Ev} {i:Nat} {m:Int} (w:WkS g E i) (hi:i<g.evs.length) (hm:wkR (g.ev i).kind m (g.ev i).mode):WkS g (E.set i { g.ev i with mode:=m }) (i+1):=by
 have hE:i<E.length:=by rw [w.len];exact hi
 have key:∀ j,(E.set i { g.ev i with mode:=m }).getD j default=if j=i then { g.ev i with mode:=m } else E.getD j default:=fun j=>by
  rw [List.getD_eq_getElem?_getD,List.getElem?_set]
  by_cases h:i=j
  ·subst h;rw [if_pos rfl,if_pos hE,if_pos rfl];try rfl
  ·rw [if_neg h,if_neg (Ne.symm h),List.getD_eq_getElem?_getD]
 refine ⟨by simp [w.len],fun j hj=>?_,fun j=>?_,fun j=>?_,fun j=>?_,fun j=>?_⟩ <;> rw [key]
 ·rw [if_neg (by omega)];exact w.same j (by omega)
 all_goals
  by_cases h:j=i
  ·subst h
   rw [if_pos rfl]
   try first | rfl | exact hm
  ·rw [if_neg h]
   first | exact w.thr j | exact w.kind j | exact w.loc j | exact w.mode j
theorem WkS.weak {g:Gr} {E:List Ev} {i:Nat} (w:WkS g E i):WeakR g { g with evs:=E }:=⟨w.len,rfl,rfl,rfl,w.thr,w.kind,w.loc,w.mode⟩
theorem gc_evs {q:GV} {g:Gr} {E:List Ev} (hl:E.length=g.evs.length):gcells q { g with evs:=E }=gcells q g:=by unfold gcells;dsimp only;rw [hl]
set_option maxHeartbeats 8000000 in
theorem c_law10_RcWeaker {h:Heap} {q:GV} {g:Gr} (t:GrAt h q g) (ht:TabAt h) {wv:Value} {wl:List Int} (hw:Rd 1 h wv wl.length (intsV wl)) (bw:wl.length≤17592186044416) :
  Con Tryd.prog 4 #[.agg (gcells q g).toArray,wv] h fun v h'=>Fr 0 0 h h'∧v=.bool true:=by
 refine con_law10_RcWeaker ?_
 have hz:0<h.size:=hcell_lt (ht 0 0 rfl)
 have hen:g.evs.length=g.n:=rfl
 have be_:=t.fits.e
 obtain ⟨wa,wc,rfl⟩:=hw.is
 have p0:Fr 0 0 h h:=.refl _ _ _
 unfold gcells
 simp -dsimp only [go_sem]
 intro b2 h1 n1
 have n1_a:=n1.at_
 have n1_z:=n1.size
 replace p0:=p0.F n1.f0
 have r2:=n1.row
 simp -dsimp only [go_sem,r2.cell]
 refine call_of (rc11_Check (t.fr p0) (ht.fr p0 (.inr rfl))) ?_
 rintro v2 h2 ⟨f2,w0⟩
 have f2_z:=f2.size
 replace p0:=p0.F f2
 replace r2:=r2.F f2
 obtain ⟨w0,rfl,-⟩:=rc_res w0
 simp -dsimp only [go_sem,r2.cell]
 refine call_of (ref8_Copied (t.fr p0) (by omega)) ?_
 rintro v3 h3 ⟨f3,q',rfl,w⟩
 have f3_z:=f3.size
 replace p0:=p0.F f3
 replace r2:=r2.F f3
 obtain ⟨B,wB⟩:=EvAt.of w
 have oe:=w.e
 have qB:Fr B (B+1) h3 h3:=.refl _ _ _
 have hBl:h2.size≤B∧B≤h3.size:=by
  by_cases hn:0<g.n
  ·have:=wB.some hn;omega
  ·have:=wB.none (by omega);omega
 have htop:bh (.slice q'.e g.evs.length q'.ec)≤h3.size:=oe.top
 unfold gcells
 simp -dsimp only [go_sem,r2.cell]
 intro b8 h4 n4
 have n4_a:=n4.at_
 have n4_z:=n4.size
 replace p0:=p0.F n4.f0
 replace r2:=r2.F n4.f0
 have r8:=n4.row
 replace qB:=qB.freshIn n4.f0 (by omega)
 replace oe:=oe.fr n4.f0 (by omega)
 simp -dsimp only [go_sem,r2.cell,r8.cell]
 refine Chk_intro (r8.wr (by first | (simp;done) | (simp;omega))) fun h5 s5=>?_
 have s5_z:=s5.size
 replace p0:=p0.F s5.fr
 replace r2:=r2.F s5.fr
 replace r8:=s5.row r8
 try simp only [cl_int,cl_bool,cl_slice,cl_ptr,putAt_one,List.set_cons_zero,List.set_cons_succ,ivec_set,brow_upd] at r8
 replace qB:=qB.freshIn s5.fr (by omega)
 replace oe:=oe.fr s5.fr (by omega)
 try simp -dsimp only [go_sem] at r8
 have gb:h.size≤h2.size∧h2.size≤h3.size∧h3.size≤b8∧b8<h5.size:=by omega
 simp -dsimp only [go_sem,r2.cell,r8.cell]
 have R8:Rw h5 b8 (gcells q' g):=r8
 refine loop_two (fun _:Unit=>[(5,.int .i64 (rsA g)),(7,.int .i64 (rsE g)),(8,.pointer (some ⟨b8,0,none⟩))])
  (fun _ h'=>Fr 0 0 h h'∧h5.size≤h'.size∧Rw h' b8 (gcells q' g)∧Fr B (B+1) h3 h'∧∃ E i,Holder 5 h' (.slice q'.e g.evs.length q'.ec) g.evs.length (evsV E) h2.size∧WkS g E i) ?_ ?_
 ·refine loop_intro (fun i:Nat=>[(1,.slice wa wl.length wc),(5,.int .i64 (rsA g)),(7,.int .i64 (rsE g)),(8,.pointer (some ⟨b8,0,none⟩)),(9,.int .i64 i)])
   (fun i h'=>i≤g.n∧Fr 0 0 h h'∧h5.size≤h'.size∧Rw h' b8 (gcells q' g)∧Fr B (B+1) h3 h'∧∃ E,Holder 5 h' (.slice q'.e g.evs.length q'.ec) g.evs.length (evsV E) h2.size∧WkS g E i) (fun i=>g.n - i) 0 ?_ ?_ ?_
  ·simp [Le,find]
  ·exact ⟨by omega,p0,by omega,R8,qB,g.evs,oe,WkS.start g⟩
  clear p0 r8 R8 oe qB
  clear r2
  rintro i h5' ⟨hi,p0,y5,r8,qB,E,w,wk⟩
  have hEl:E.length=g.n:=wk.len
  unfold gcells at r8
  have p0_z:=p0.size
  have r8_l:=r8.lt
  by_cases e1':i<g.n∧i<wl.length
  ·obtain ⟨e1',e2'⟩:=e1'
   have e1:((i:Int)<(g.n:Int)):=by omega
   have e2:((i:Int)<(wl.length:Int)):=by omega
   obtain ⟨hbe,lbe,ube⟩:=wB.some (by omega)
   have hE:i<E.length:=by omega
   have w0:=w
   rw [hbe] at w
   obtain ⟨ct,ck,cl_,cv,cm⟩:=holder_cells w (i:=i) (by omega) (wk.same i (Nat.le_refl _))
   obtain ⟨wb,wo,hwe,hwc⟩:=list_at (h:=h) (la:=wa) (lc:=wc) (l:=wl) (by omega) fun h' f=>hw.fr f
   have hq:wl[i]?=some wl[i]:=List.getElem?_eq_getElem e2'
   generalize wl[i]=x at hq
   have kw:=hwc h5' p0 i _ hq
   simp -dsimp only [go_sem,e1,e2,hbe,evs_len,ct,ck,cl_,cv,cm,r8.cell]
   intro b10 h6 n6
   have n6_a:=n6.at_
   have n6_z:=n6.size
   replace p0:=p0.F n6.f0
   replace r8:=r8.F n6.f0
   have r10:=n6.row
   simp -dsimp only [go_sem,r8.cell,r10.cell]
   refine Chk_intro (r10.wr (by first | (simp;done) | (simp;omega))) fun h7 s7=>?_
   have s7_z:=s7.size
   replace p0:=p0.F s7.fr
   replace r8:=r8.F s7.fr
   replace r10:=s7.row r10
   try simp only [cl_int,cl_bool,cl_slice,cl_ptr,putAt_one,List.set_cons_zero,List.set_cons_succ,ivec_set,brow_upd] at r10
   try simp -dsimp only [go_sem] at r10
   have lb:bl (.slice (some ⟨B,0,none⟩) g.evs.length q'.ec)=B∧bh (.slice (some ⟨B,0,none⟩) g.evs.length q'.ec)=B+1:=⟨rfl,rfl⟩
   have w7:=(w.fr n6.f0 (by omega)).fr s7.fr (by omega)
   have qB7:=(qB.freshIn n6.f0 (by omega)).freshIn s7.fr (by omega)
   have kw:=hwc h7 p0 i _ hq
   by_cases th:(g.ev i).thread<0
   ·simp -dsimp only [go_sem,th,r8.cell,r10.cell]
    simp -dsimp (disch:=omega) only [wrap64]
    exact ⟨i+1,by omega,by simp [Le,find,hwe],by omega,p0,by omega,r8,qB7,E,by first | exact w7 | (rw [hbe];exact w7),wk.keep⟩
   simp -dsimp only [go_sem,th,hwe,kw,e1,e2,r8.cell,r10.cell]
   refine call_of (c_law10_weaker (g.ev i).kind x (g.ev i).mode) ?_
   rintro v8 h8 ⟨hh,rr,rfl,hrr⟩
   obtain rfl:h7=h8:=hh.symm
   cases rr
   ·simp -dsimp only [go_sem,r8.cell,r10.cell]
    simp -dsimp (disch:=omega) only [wrap64]
    exact ⟨i+1,by omega,by simp [Le,find,hwe],by omega,p0,by omega,r8,qB7,E,by first | exact w7 | (rw [hbe];exact w7),wk.keep⟩
   have hm:=hrr.1 rfl
   simp -dsimp only [go_sem,hwe,kw,e1,e2,r8.cell,r10.cell]
   refine Chk_intro (r10.wr (by first | (simp;done) | (simp;omega))) fun h8 s8=>?_
   have s8_z:=s8.size
   replace p0:=p0.F s8.fr
   replace r8:=r8.F s8.fr
   replace r10:=s8.row r10
   try simp only [cl_int,cl_bool,cl_slice,cl_ptr,putAt_one,List.set_cons_zero,List.set_cons_succ,ivec_set,brow_upd] at r10
   have w8:=w7.fr s8.fr (by omega)
   have qB8:=qB7.freshIn s8.fr (by omega)
   have o8:=wB.to qB8 hEl (by first | exact w8 | (rw [hbe];exact w8))
   try simp -dsimp only [go_sem] at r10
   simp -dsimp only [go_sem,r8.cell,r10.cell]
   have hk:=ref8_Check o8.at_ false
   rw [gc_evs wk.len] at hk
   refine call_of (hk) ?_
   rintro v9 h9 ⟨f9,rfl⟩
   have f9_z:=f9.size
   replace p0:=p0.F f9
   replace r8:=r8.F f9
   replace r10:=r10.F f9
   have w9:=w8.fr f9 (by omega)
   have qB9:=qB8.freshIn f9 (by omega)
   by_cases hc9:((({ g with evs:=E }:Gr)).check false).1=0
   ·simp -dsimp only [go_sem,beq_t hc9,hbe,e1,evs_len,r8.cell,r10.cell]
    refine Chk_intro (holder_ev w9 (i:=i) (by omega)).2.1 fun h10 s10=>?_
    have w':=(holder_ev w9 (i:=i) (by omega)).2.2.2 h10 { g.ev i with mode:=x } s10
    have s10_z:=s10.size
    have f10:Fr B (B+1) h9 h10:=s10.fr
    have f10_z:=f10.size
    replace p0:=p0.F f10
    replace r8:=r8.F f10
    replace r10:=r10.F f10
    have qB10:=qB9.freshIn f10 (by omega)
    simp -dsimp only [go_sem,r8.cell,r10.cell]
    simp -dsimp (disch:=omega) only [wrap64]
    exact ⟨i+1,by omega,by simp [Le,find,hwe],by omega,p0,by omega,r8,qB10,_,by first | exact w' | (rw [hbe];exact w'),wk.set (by omega) hm⟩
   ·simp -dsimp only [go_sem,beq_f hc9,r8.cell,r10.cell]
    simp -dsimp (disch:=omega) only [wrap64]
    exact ⟨i+1,by omega,by simp [Le,find,hwe],by omega,p0,by omega,r8,qB9,E,by first | exact w9 | (rw [hbe];exact w9),wk.keep⟩
  ·have hend:i<g.n→¬ (i:Int)<(wl.length:Int):=fun h1 h2=>e1' ⟨h1,by omega⟩
   by_cases c1:i<g.n
   ·have e1:((i:Int)<(g.n:Int)):=by omega
    simp -dsimp only [go_sem,evs_len,e1,hend c1,r8.cell]
    exact ⟨(),by simp [Le,find],p0,y5,r8,qB,E,i,w,wk⟩
   ·have e1:¬ ((i:Int)<(g.n:Int)):=by omega
    simp -dsimp only [go_sem,evs_len,e1,r8.cell]
    exact ⟨(),by simp [Le,find],p0,y5,r8,qB,E,i,w,wk⟩
 rintro ⟨⟩ h6 ⟨p0,y6,r8,qB,E,i,w,wk⟩ e ⟨el5,el7,el8,-⟩
 have hEl:E.length=g.n:=wk.len
 have w_t:bh (.slice q'.e g.evs.length q'.ec)≤h3.size:=htop
 have G6:=(wB.to qB hEl w).at_
 have hgc:=gc_evs (q:=q') wk.len
 have hwk:=wk.weak.allowed
 generalize ({ g with evs:=E }:Gr)=g' at G6 hgc hwk
 have hcl:=G6
 unfold gcells at r8
 have P6:Fr 0 0 h6 h6:=.refl _ _ _
 have p6:=P6
 have p0_z:=p0.size
 have p6_z:=p6.size
 have r8_l:=r8.lt
 simp -dsimp only [go_sem,el5,el7,el8,r8.cell]
 have hk:=rc11_Check (G6.fr p6) (ht.fr p0 (.inr rfl))
 rw [hgc] at hk
 refine call_of (hk) ?_
 rintro v7 h7 ⟨f7,w7⟩
 have f7_z:=f7.size
 replace p0:=p0.F f7
 replace p6:=p6.F f7
 replace r8:=r8.F f7
 obtain ⟨u7,rfl,-⟩:=rc_res w7
 unfold rsA at el5
 unfold rsE at el7
 by_cases hc:(g.check false).1=0
 rotate_left
 ·simp only [if_neg hc] at el5 el7
  simp -dsimp only [go_sem,el5,el7,el8,r8.cell]
  refine call_of (law10_lives (ht.fr p0 (.inr rfl))) ?_
  rintro v14 h14 ⟨f14,rfl⟩
  have f14_z:=f14.size
  replace p0:=p0.F f14
  replace p6:=p6.F f14
  replace r8:=r8.F f14
  simp -dsimp only [go_sem,r8.cell]
  exact p0
 simp only [if_pos hc] at el5 el7
 simp -dsimp only [go_sem,el5,el7,el8,r8.cell]
 have hk:=ref8_Check (G6.fr p6) false
 rw [hgc] at hk
 refine call_of (hk) ?_
 rintro v8 h8 ⟨f8,rfl⟩
 have f8_z:=f8.size
 replace p0:=p0.F f8
 replace p6:=p6.F f8
 replace r8:=r8.F f8
 by_cases hc2:(g'.check false).1=0
 rotate_left
 ·have e2:rsE g'=4:=by unfold rsE;rw [if_neg hc2]
  simp -dsimp only [go_sem,bne_f hc2,e2,r8.cell]
  refine call_of (law10_lives (ht.fr p0 (.inr rfl))) ?_
  rintro v14 h14 ⟨f14,rfl⟩
  have f14_z:=f14.size
  replace p0:=p0.F f14
  replace p6:=p6.F f14
  replace r8:=r8.F f14
  simp -dsimp only [go_sem,r8.cell]
  exact p0
 have e2:rsE g'=0:=by unfold rsE;rw [if_pos hc2]
 have e3:rsA g'=(rcAx g').1:=by unfold rsA;rw [if_pos hc2]
 by_cases ha:(rcAx g).1=0
 ·have hb:=hwk ha
  simp -dsimp only [go_sem,bne_t hc2,e2,e3,bne_t ha,beq_t hb,el5,r8.cell]
  refine call_of (law10_lives (ht.fr p0 (.inr rfl))) ?_
  rintro v14 h14 ⟨f14,rfl⟩
  have f14_z:=f14.size
  replace p0:=p0.F f14
  replace p6:=p6.F f14
  replace r8:=r8.F f14
  simp -dsimp only [go_sem,r8.cell]
  exact p0
 ·simp -dsimp only [go_sem,bne_t hc2,e2,e3,bne_f ha,el5,r8.cell]
  refine call_of (law10_lives (ht.fr p0 (.inr rfl))) ?_
  rintro v14 h14 ⟨f14,rfl⟩
  have f14_z:=f14.size
  replace p0:=p0.F f14
  replace p6:=p6.F f14
  replace r8:=r8.F f14
  simp -dsimp only [go_sem,r8.cell]
  exact p0
end Go.Proofs.Tst
/-
  RcWeaker and its arguments.
-/
namespace Go.Proofs.Tst
end Go.Proofs.Tst
