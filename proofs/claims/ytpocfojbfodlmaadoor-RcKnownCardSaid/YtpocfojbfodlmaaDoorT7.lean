/-
  Contracts of functions that the law reaches: what each returns and what it leaves in memory. Conditions stand in each.
-/
import Derived.Test.YtpocfojbfodlmaaDoorT6
set_option linter.all false
set_option maxRecDepth 2000
/-
  law10: two, says, buffering, passing, fenced.
-/
namespace Go.Proofs.Tst
open Go Go.Vc
theorem cohGo_len {g:Gr} {a:Nat}:∀ (d b:Nat),(cohGo g a d b).length≤2
 | 0,_=>by simp [cohGo]
 | d+1,b=>by
  rw [cohGo];split
  ·simp
  ·exact cohGo_len d (b+1)
theorem cohAt_len {g:Gr} {a:Nat}:(cohAt g a).length≤2:=by
 unfold cohAt;split
 ·simp
 ·exact cohGo_len _ _
theorem cohFrom_len {g:Gr}:∀ (d a:Nat),(cohFrom g d a).length≤2
 | 0,_=>by simp [cohFrom]
 | d+1,a=>by
  rw [cohFrom];split
  ·exact cohAt_len
  ·exact cohFrom_len d (a+1)
theorem rcAx_len {g:Gr}:(rcAx g).2.length≤g.n+2:=by
 have h0:=cohFrom_len (g:=g) g.n 0
 have h1:=cycS_len (n:=g.n) (M:=pscM g)
 have h2:=cycS_len (n:=g.n) (M:=thinM g)
 have h3:(atomS g).length≤2:=by unfold atomS;split <;> simp
 unfold rcAx
 split
 ·show (coh g).length≤_;unfold coh;omega
 split
 ·show (atomS g).length≤_;omega
 split
 ·simp [natsI];omega
 split
 ·simp [natsI];omega
 ·simp
theorem c_law10_says {h:Heap} {q:GV} {g:Gr} (t:GrAt h q g) (ht:TabAt h) {bv:Value} {l:List Int} (hm:Rd 1 h bv l.length (intsV l)) (ax:Int) :
  Con Tryd.prog 12 #[.agg (gcells q g).toArray,.int .i64 ax,bv] h fun v h'=>Fr 0 0 h h'∧v=.bool (decide ((g.check false).1=0∧rcAx g=(ax,l))):=by
 have p0:Fr 0 0 h h:=.refl _ _ _
 obtain ⟨ba,bc,rfl⟩:=hm.is
 by_cases hc:(g.check false).1=0
 rotate_left
 ·have e:decide ((g.check false).1=0∧rcAx g=(ax,l))=false:=decide_eq_false fun h=>hc h.1
  rw [e]
  refine con_law10_says ?_
  unfold gcells
  simp -dsimp only [go_sem]
  intro b1 h1 n1
  have n1_a:=n1.at_
  have n1_z:=n1.size
  replace p0:=p0.F n1.f0
  have r1:=n1.row
  simp -dsimp only [go_sem,r1.cell]
  refine call_of (rc11_Check (t.fr p0) (ht.fr p0 (.inr rfl))) ?_
  rintro v2 h2 ⟨f2,w⟩
  have f2_z:=f2.size
  replace p0:=p0.F f2
  replace r1:=r1.F f2
  rw [if_neg hc] at w
  subst w
  simp -dsimp only [go_sem,r1.cell]
  exact p0
 have hn:=(good_n (good_false hc)).1
 have hal:=rcAx_len (g:=g)
 refine con_law10_says ?_
 unfold gcells
 simp -dsimp only [go_sem]
 intro b1 h1 n1
 have n1_a:=n1.at_
 have n1_z:=n1.size
 replace p0:=p0.F n1.f0
 have r1:=n1.row
 simp -dsimp only [go_sem,r1.cell]
 refine call_of (rc11_Check (t.fr p0) (ht.fr p0 (.inr rfl))) ?_
 rintro v2 h2 ⟨f2,w⟩
 have f2_z:=f2.size
 replace p0:=p0.F f2
 replace r1:=r1.F f2
 rw [if_pos hc] at w
 obtain ⟨w,rfl,o⟩:=w
 obtain ⟨oa,oc,rfl⟩:=o.is
 by_cases ha:(rcAx g).1=ax
 rotate_left
 ·have e:decide ((g.check false).1=0∧rcAx g=(ax,l))=false:=decide_eq_false fun h=>ha (by rw [h.2])
  rw [e]
  simp -dsimp only [go_sem,beq_f ha,r1.cell]
  exact p0
 simp -dsimp only [go_sem,beq_t ha,r1.cell]
 refine call_of (c_law10_ints (l:=(rcAx g).2) (m:=l) o.rd (hm.fr p0) (by omega)) ?_
 rintro v3 h2 ⟨rfl,rfl⟩
 have e:decide ((rcAx g).2=l)=decide ((g.check false).1=0∧rcAx g=(ax,l)):=by
  rw [Bool.eq_iff_iff,decide_eq_true_iff,decide_eq_true_iff]
  exact ⟨fun h=>⟨hc,Prod.ext ha h⟩,fun h=>by rw [h.2]⟩
 rw [e]
 simp -dsimp only [go_sem,r1.cell]
 exact p0
def fenE (m:Int):List Ev:=[⟨0,2,0,1,1⟩,⟨0,3,-1,0,m⟩,⟨0,1,1,0,1⟩,⟨1,2,1,1,1⟩,⟨1,3,-1,0,m⟩,⟨1,1,0,0,1⟩]
def fenG (m:Int):Gr:=twoG 1 (fenE m) [(1,4),(0,7)] [2] [5]
theorem c_law10_ev (a b c:Int) (d:Int) (m:Int) {h:Heap}:Con Tryd.prog 9 #[.int .i64 a,.int .i64 b,.int .i64 c,.int .u64 d,.int .i64 m] h fun v h'=>Fr 0 0 h h'∧v=.agg #[.int .i64 a,.int .i64 b,.int .i64 c,.int .u64 d,.int .i64 m]:=by
 refine con_law10_ev ?_
 have p0:Fr 0 0 h h:=.refl _ _ _
 simp -dsimp only [go_sem]
 intro b1 h1 n1
 have n1_a:=n1.at_
 have n1_z:=n1.size
 replace p0:=p0.F n1.f0
 have r1:=n1.row
 simp -dsimp only [go_sem,r1.cell]
 refine Chk_intro (r1.wr (by first | (simp;done) | (simp;omega))) fun h2 s2=>?_
 have s2_z:=s2.size
 replace p0:=p0.F s2.fr
 replace r1:=s2.row r1
 try simp only [cl_int,cl_bool,cl_slice,cl_ptr,putAt_one,List.set_cons_zero,List.set_cons_succ,ivec_set,brow_upd] at r1
 try simp -dsimp only [go_sem] at r1
 simp -dsimp only [go_sem,r1.cell]
 exact p0
set_option maxHeartbeats 2000000 in
theorem c_law10_two {h:Heap} {ea fa xa ya:Option Addr} {ec fc xc yc:Nat} {E:List Ev} {rf:List (Int×Int)} {x y:List Int} {lo:Nat} (hlo:lo≤h.size) (he:Rd 5 h (.slice ea E.length ec) E.length (evsV E)) (hf:∀ h',Fr 0 lo h h'→Rd 2 h' (.slice fa rf.length fc) rf.length (pairsV rf)) (hx:Rd 1 h (.slice xa x.length xc) x.length (intsV x)) (hy:Rd 1 h (.slice ya y.length yc) y.length (intsV y))
  (be:E.length≤1000) (bf:rf.length≤1000) (bx:x.length≤1000) (by_:y.length≤1000) :
  Con Tryd.prog 8 #[.slice ea E.length ec,.slice fa rf.length fc,.slice xa x.length xc,.slice ya y.length yc] h fun v h'=>Fr 0 0 h h'∧∃ q,v=.agg (gcells q (twoG 1 E rf x y)).toArray∧∀ h2,Fr 0 lo h' h2→GrAt h2 q (twoG 1 E rf x y):=by
 refine con_law10_two ?_
 have p0:Fr 0 0 h h:=.refl _ _ _
 simp -dsimp only [go_sem]
 intro b8 h1 n1
 have n1_a:=n1.at_
 have n1_z:=n1.size
 replace p0:=p0.F n1.f0
 have r8:=n1.row
 simp -dsimp only [go_sem,r8.cell]
 refine call_of (c_law10_ev (-1) 2 0 0 1) ?_
 rintro v2 h2 ⟨f2,rfl⟩
 have f2_z:=f2.size
 replace p0:=p0.F f2
 replace r8:=r8.F f2
 simp -dsimp only [go_sem,r8.cell]
 refine call_of (c_law10_ev (-1) 2 1 0 1) ?_
 rintro v3 h3 ⟨f3,rfl⟩
 have f3_z:=f3.size
 replace p0:=p0.F f3
 replace r8:=r8.F f3
 simp -dsimp only [go_sem,r8.cell]
 intro b14 h4 n4
 have n4_a:=n4.at_
 have n4_z:=n4.size
 replace p0:=p0.F n4.f0
 replace r8:=r8.F n4.f0
 have r14:=n4.row
 replace r14:Rw h4 b14 (evsV [⟨-1,2,0,0,1⟩,⟨-1,2,1,0,1⟩]):=r14
 simp -dsimp only [go_sem,r8.cell,r14.cell]
 intro b9 h5 n5
 have n5_a:=n5.at_
 have n5_z:=n5.size
 replace p0:=p0.F n5.f0
 replace r8:=r8.F n5.f0
 replace r14:=r14.F n5.f0
 have r9:=n5.row
 simp -dsimp only [go_sem,r8.cell,r14.cell,r9.cell]
 refine Chk_intro (r9.wr (by first | (simp;done) | (simp;omega))) fun h6 s6=>?_
 have s6_z:=s6.size
 replace p0:=p0.F s6.fr
 replace r8:=r8.F s6.fr
 replace r14:=r14.F s6.fr
 replace r9:=s6.row r9
 try simp only [cl_int,cl_bool,cl_slice,cl_ptr,putAt_one,List.set_cons_zero,List.set_cons_succ,ivec_set,brow_upd] at r9
 try simp -dsimp only [go_sem] at r9
 have gb:b8<b14∧b14<b9∧b9<h6.size∧h.size≤b8:=by omega
 simp -dsimp only [go_sem,r8.cell,r14.cell,r9.cell]
 refine (holder_row (s:=5) (n:=2) (lo:=b14) r14 rfl (Nat.le_refl _)).appendRd (he.fr p0) (by omega) rfl (by omega) (oc_evs _) (by omega) fun v7 h7 o7 f7 e7=>?_
 have lb:bl (.slice (some ⟨b14,0,none⟩) 2 2)=b14∧bh (.slice (some ⟨b14,0,none⟩) 2 2)=b14+1:=⟨rfl,rfl⟩
 rw [lb.1,lb.2] at f7
 clear r14
 have z7:=f7.size
 have f7_z:=f7.size
 replace p0:=p0.F f7
 replace r8:=r8.F f7
 replace r9:=r9.F f7
 rw [← evsV_append] at o7
 obtain ⟨a7,c7,rfl⟩:=o7.is
 have a7_a:=o7.at_
 have e7':=e7
 clear e7
 simp -dsimp only [go_sem,r8.cell,r9.cell]
 refine Chk_intro (r9.wr (by first | (simp;done) | (simp;omega))) fun h8 s8=>?_
 have s8_z:=s8.size
 replace p0:=p0.F s8.fr
 replace r8:=r8.F s8.fr
 replace r9:=s8.row r9
 try simp only [cl_int,cl_bool,cl_slice,cl_ptr,putAt_one,List.set_cons_zero,List.set_cons_succ,ivec_set,brow_upd] at r9
 replace o7:=o7.fr s8.fr (by omega)
 simp -dsimp only [go_sem,r8.cell,r9.cell]
 intro b10 h9 n9
 have n9_a:=n9.at_
 have n9_z:=n9.size
 replace p0:=p0.F n9.f0
 replace r8:=r8.F n9.f0
 replace r9:=r9.F n9.f0
 have r10:=n9.row
 replace r10:Rw h9 b10 (intsV [0]):=r10
 replace o7:=o7.fr n9.f0 (by omega)
 simp -dsimp only [go_sem,r8.cell,r9.cell,r10.cell]
 have p9:Fr 0 0 h8 h9:=n9.fr
 refine (holder_row (s:=1) (n:=1) (lo:=b10) r10 rfl (Nat.le_refl _)).appendRd (hx.fr p0) (by omega) rfl (by omega) (oc_ints _) (by omega) fun v10 h10 o10 f10 e10=>?_
 have lb:bl (.slice (some ⟨b10,0,none⟩) 1 1)=b10∧bh (.slice (some ⟨b10,0,none⟩) 1 1)=b10+1:=⟨rfl,rfl⟩
 rw [lb.1,lb.2] at f10
 clear r10
 have z10:=f10.size
 have f10_z:=f10.size
 replace p0:=p0.F f10
 replace r8:=r8.F f10
 replace r9:=r9.F f10
 have o7t:=o7.top
 replace o7:=o7.fr f10 (by omega)
 rw [← intsV_append] at o10
 obtain ⟨a10,c10,rfl⟩:=o10.is
 have a10_a:=o10.at_
 clear e10
 simp -dsimp only [go_sem,r8.cell,r9.cell]
 intro b11 h11 n11
 have n11_a:=n11.at_
 have n11_z:=n11.size
 replace p0:=p0.F n11.f0
 replace r8:=r8.F n11.f0
 replace r9:=r9.F n11.f0
 have r11:=n11.row
 replace r11:Rw h11 b11 (intsV [1]):=r11
 replace o7:=o7.fr n11.f0 (by omega)
 have o10t:=o10.top
 replace o10:=o10.fr n11.f0 (by omega)
 simp -dsimp only [go_sem,r8.cell,r9.cell,r11.cell]
 refine (holder_row (s:=1) (n:=1) (lo:=b11) r11 rfl (Nat.le_refl _)).appendRd (hy.fr p0) (by omega) rfl (by omega) (oc_ints _) (by omega) fun v12 h12 o12 f12 e12=>?_
 have lb:bl (.slice (some ⟨b11,0,none⟩) 1 1)=b11∧bh (.slice (some ⟨b11,0,none⟩) 1 1)=b11+1:=⟨rfl,rfl⟩
 rw [lb.1,lb.2] at f12
 clear r11
 have z12:=f12.size
 have f12_z:=f12.size
 replace p0:=p0.F f12
 replace r8:=r8.F f12
 replace r9:=r9.F f12
 have o7t:=o7.top
 replace o7:=o7.fr f12 (by omega)
 replace o10:=o10.fr f12 (by omega)
 rw [← intsV_append] at o12
 obtain ⟨a12,c12,rfl⟩:=o12.is
 have a12_a:=o12.at_
 clear e12
 simp -dsimp only [go_sem,r8.cell,r9.cell]
 intro b13 h13 n13
 have n13_a:=n13.at_
 have n13_z:=n13.size
 replace p0:=p0.F n13.f0
 replace r8:=r8.F n13.f0
 replace r9:=r9.F n13.f0
 have r13:=n13.row
 try simp -dsimp only [go_sem] at r13
 replace o7:=o7.fr n13.f0 (by omega)
 replace o10:=o10.fr n13.f0 (by omega)
 replace o12:=o12.fr n13.f0 (by omega)
 simp -dsimp only [go_sem,r8.cell,r9.cell,r13.cell]
 refine Chk_intro (r9.wr (by first | (simp;done) | (simp;omega))) fun h14 s14=>?_
 have s14_z:=s14.size
 replace p0:=p0.F s14.fr
 replace r8:=r8.F s14.fr
 replace r13:=r13.F s14.fr
 replace r9:=s14.row r9
 try simp only [cl_int,cl_bool,cl_slice,cl_ptr,putAt_one,List.set_cons_zero,List.set_cons_succ,ivec_set,brow_upd] at r9
 try simp -dsimp only [go_sem] at r9
 have z14:=s14.size
 replace o7:=o7.fr s14.fr (by omega)
 replace o10:=o10.fr s14.fr (by omega)
 replace o12:=o12.fr s14.fr (by omega)
 simp -dsimp only [go_sem,r8.cell,r9.cell,r13.cell]
 refine Chk_intro (r8.wr (by first | (simp;done) | (simp;omega))) fun h15 s15=>?_
 have s15_z:=s15.size
 replace p0:=p0.F s15.fr
 replace r9:=r9.F s15.fr
 replace r13:=r13.F s15.fr
 replace r8:=s15.row r8
 try simp only [cl_int,cl_bool,cl_slice,cl_ptr,putAt_one,List.set_cons_zero,List.set_cons_succ,ivec_set,brow_upd] at r8
 have z15:=s15.size
 replace o7:=o7.fr s15.fr (by omega)
 replace o10:=o10.fr s15.fr (by omega)
 replace o12:=o12.fr s15.fr (by omega)
 simp -dsimp only [go_sem,r8.cell,r9.cell,r13.cell]
 have hl:(twoG 1 E rf x y).evs.length=2+E.length:=by simp [twoG];omega
 have hx2:(intsV ([0]++x)).length=1+x.length:=by simp;omega
 have hy2:(intsV ([1]++y)).length=1+y.length:=by simp;omega
 refine ⟨p0,⟨a7,fa,some ⟨b13,0,none⟩,none,none,none,none,c7,fc,2,0,0,0,0⟩,by unfold gcells;rw [hl];rfl,fun h16 f16=>?_⟩
 replace o7:=o7.fr f16 (by have:=o7.at_;omega)
 replace o10:=o10.fr f16 (by have:=o10.at_;omega)
 replace o12:=o12.fr f16 (by have:=o12.at_;omega)
 replace r13:=r13.F f16
 obtain ⟨u1,v1,k1,k1'⟩:=o10.room (by omega)
 cases k1
 obtain ⟨u2,v2,k2,k2'⟩:=o12.room (by omega)
 cases k2
 have hrl:RLc h16 (.slice (some ⟨b13,0,none⟩) 2 2) [intsV ([0]++x),intsV ([1]++y)]:=by
  refine ⟨_,Rw.rd (s:=1) r13 rfl,fun i l hi=>?_⟩
  match i,hi with
  | 0,hi =>
   cases hi
   exact ⟨_,_,by rw [hx2];rfl,by rw [hx2];exact k1',by rw [hx2];exact o10.rd⟩
  | 1,hi =>
   cases hi
   exact ⟨_,_,by rw [hy2];rfl,by rw [hy2];exact k2',by rw [hy2];exact o12.rd⟩
  | i+2,hi=>simp at hi
 refine ⟨by rw [hl];exact o7.rd,hf _ ((p0.wide (Nat.zero_le _)).trans f16),rlc_rl hrl,nilP,nilP,nilP,nilP,⟨by rw [hl];omega,by show rf.length≤_;omega,by show 2≤_;omega,by show 0≤_;omega,by show 0≤_;omega,by show 0≤_;omega,by show 0≤_;omega,fun l hl=>?_⟩,by show 2≤2;omega,hrl⟩
 have hl:l=[0]++x∨l=[1]++y:=by simpa [twoG] using hl
 rcases hl with rfl | rfl <;> (simp;omega)
theorem c_law10_buffering (w r:Int) {h:Heap}:Con Tryd.prog 11 #[.int .i64 w,.int .i64 r] h fun v h'=>Fr 0 0 h h'∧∃ q,v=.agg (gcells q (bufG 1 w r)).toArray∧GrAt h' q (bufG 1 w r):=by
 refine con_law10_buffering ?_
 have p0:Fr 0 0 h h:=.refl _ _ _
 simp -dsimp only [go_sem]
 intro b4 h1 n1
 have n1_a:=n1.at_
 have n1_z:=n1.size
 replace p0:=p0.F n1.f0
 have r4:=n1.row
 simp -dsimp only [go_sem,r4.cell]
 refine call_of (c_law10_ev 0 2 0 1 w) ?_
 rintro v h2 ⟨f2,rfl⟩
 have f2_z:=f2.size
 replace p0:=p0.F f2
 replace r4:=r4.F f2
 simp -dsimp only [go_sem,r4.cell]
 refine call_of (c_law10_ev 0 1 1 0 r) ?_
 rintro v h3 ⟨f3,rfl⟩
 have f3_z:=f3.size
 replace p0:=p0.F f3
 replace r4:=r4.F f3
 simp -dsimp only [go_sem,r4.cell]
 refine call_of (c_law10_ev 1 2 1 1 w) ?_
 rintro v h4 ⟨f4,rfl⟩
 have f4_z:=f4.size
 replace p0:=p0.F f4
 replace r4:=r4.F f4
 simp -dsimp only [go_sem,r4.cell]
 refine call_of (c_law10_ev 1 1 0 0 r) ?_
 rintro v h5 ⟨f5,rfl⟩
 have f5_z:=f5.size
 replace p0:=p0.F f5
 replace r4:=r4.F f5
 simp -dsimp only [go_sem,r4.cell]
 intro b6 h6 n6
 have n6_a:=n6.at_
 have n6_z:=n6.size
 replace p0:=p0.F n6.f0
 replace r4:=r4.F n6.f0
 have r6:=n6.row
 simp -dsimp only [go_sem,r4.cell,r6.cell]
 intro b7 h7 n7
 have n7_a:=n7.at_
 have n7_z:=n7.size
 replace p0:=p0.F n7.f0
 replace r4:=r4.F n7.f0
 replace r6:=r6.F n7.f0
 have r7:=n7.row
 simp -dsimp only [go_sem,r4.cell,r6.cell,r7.cell]
 intro b8 h8 n8
 have n8_a:=n8.at_
 have n8_z:=n8.size
 replace p0:=p0.F n8.f0
 replace r4:=r4.F n8.f0
 replace r6:=r6.F n8.f0
 replace r7:=r7.F n8.f0
 have r8:=n8.row
 simp -dsimp only [go_sem,r4.cell,r6.cell,r7.cell,r8.cell]
 intro b9 h9 n9
 have n9_a:=n9.at_
 have n9_z:=n9.size
 replace p0:=p0.F n9.f0
 replace r4:=r4.F n9.f0
 replace r6:=r6.F n9.f0
 replace r7:=r7.F n9.f0
 replace r8:=r8.F n9.f0
 have r9:=n9.row
 simp -dsimp only [go_sem,r4.cell,r6.cell,r7.cell,r8.cell,r9.cell]
 refine call_of (c_law10_two (E:=bufE w r) (rf:=[(1,3),(0,5)]) (x:=[2]) (y:=[4]) (lo:=b4+1) (by omega) (Rw.rd (s:=5) (n:=4) (c:=4) r6 rfl) (fun h' f=>Rw.rd (s:=2) (n:=2) (c:=2) (r7.fr f (by omega)) rfl) (Rw.rd (s:=1) (n:=1) (c:=1) r8 rfl) (Rw.rd (s:=1) (n:=1) (c:=1) r9 rfl) (Nat.le_of_ble_eq_true rfl) (by simp) (by simp) (by simp)) ?_
 rintro v h10 ⟨f10,q,rfl,t⟩
 have f10_z:=f10.size
 replace p0:=p0.F f10
 replace r4:=r4.F f10
 replace r6:=r6.F f10
 replace r7:=r7.F f10
 replace r8:=r8.F f10
 replace r9:=r9.F f10
 unfold gcells
 simp -dsimp only [go_sem,r4.cell,r6.cell,r7.cell,r8.cell,r9.cell]
 refine Chk_intro (r4.wr (by first | (simp;done) | (simp;omega))) fun h11 s11=>?_
 have s11_z:=s11.size
 replace p0:=p0.F s11.fr
 replace r6:=r6.F s11.fr
 replace r7:=r7.F s11.fr
 replace r8:=r8.F s11.fr
 replace r9:=r9.F s11.fr
 replace r4:=s11.row r4
 try simp only [cl_int,cl_bool,cl_slice,cl_ptr,putAt_one,List.set_cons_zero,List.set_cons_succ,ivec_set,brow_upd] at r4
 have t:=t _ (s11.fr.wide (Nat.le_refl _))
 simp -dsimp only [go_sem,r4.cell,r6.cell,r7.cell,r8.cell,r9.cell]
 exact ⟨p0,q,rfl,t⟩
theorem c_law10_passing (w r:Int) {h:Heap}:Con Tryd.prog 27 #[.int .i64 w,.int .i64 r] h fun v h'=>Fr 0 0 h h'∧∃ q,v=.agg (gcells q (pasG 1 w r)).toArray∧GrAt h' q (pasG 1 w r):=by
 refine con_law10_passing ?_
 have p0:Fr 0 0 h h:=.refl _ _ _
 simp -dsimp only [go_sem]
 intro b4 h1 n1
 have n1_a:=n1.at_
 have n1_z:=n1.size
 replace p0:=p0.F n1.f0
 have r4:=n1.row
 simp -dsimp only [go_sem,r4.cell]
 refine call_of (c_law10_ev 0 2 0 1 1) ?_
 rintro v h2 ⟨f2,rfl⟩
 have f2_z:=f2.size
 replace p0:=p0.F f2
 replace r4:=r4.F f2
 simp -dsimp only [go_sem,r4.cell]
 refine call_of (c_law10_ev 0 2 1 1 w) ?_
 rintro v h3 ⟨f3,rfl⟩
 have f3_z:=f3.size
 replace p0:=p0.F f3
 replace r4:=r4.F f3
 simp -dsimp only [go_sem,r4.cell]
 refine call_of (c_law10_ev 1 1 1 1 r) ?_
 rintro v h4 ⟨f4,rfl⟩
 have f4_z:=f4.size
 replace p0:=p0.F f4
 replace r4:=r4.F f4
 simp -dsimp only [go_sem,r4.cell]
 refine call_of (c_law10_ev 1 1 0 0 1) ?_
 rintro v h5 ⟨f5,rfl⟩
 have f5_z:=f5.size
 replace p0:=p0.F f5
 replace r4:=r4.F f5
 simp -dsimp only [go_sem,r4.cell]
 intro b6 h6 n6
 have n6_a:=n6.at_
 have n6_z:=n6.size
 replace p0:=p0.F n6.f0
 replace r4:=r4.F n6.f0
 have r6:=n6.row
 simp -dsimp only [go_sem,r4.cell,r6.cell]
 intro b7 h7 n7
 have n7_a:=n7.at_
 have n7_z:=n7.size
 replace p0:=p0.F n7.f0
 replace r4:=r4.F n7.f0
 replace r6:=r6.F n7.f0
 have r7:=n7.row
 simp -dsimp only [go_sem,r4.cell,r6.cell,r7.cell]
 intro b8 h8 n8
 have n8_a:=n8.at_
 have n8_z:=n8.size
 replace p0:=p0.F n8.f0
 replace r4:=r4.F n8.f0
 replace r6:=r6.F n8.f0
 replace r7:=r7.F n8.f0
 have r8:=n8.row
 simp -dsimp only [go_sem,r4.cell,r6.cell,r7.cell,r8.cell]
 intro b9 h9 n9
 have n9_a:=n9.at_
 have n9_z:=n9.size
 replace p0:=p0.F n9.f0
 replace r4:=r4.F n9.f0
 replace r6:=r6.F n9.f0
 replace r7:=r7.F n9.f0
 replace r8:=r8.F n9.f0
 have r9:=n9.row
 simp -dsimp only [go_sem,r4.cell,r6.cell,r7.cell,r8.cell,r9.cell]
 refine call_of (c_law10_two (E:=pasE 1 w r) (rf:=[(3,4),(0,5)]) (x:=[2]) (y:=[3]) (lo:=b4+1) (by omega) (Rw.rd (s:=5) (n:=4) (c:=4) r6 rfl) (fun h' f=>Rw.rd (s:=2) (n:=2) (c:=2) (r7.fr f (by omega)) rfl) (Rw.rd (s:=1) (n:=1) (c:=1) r8 rfl) (Rw.rd (s:=1) (n:=1) (c:=1) r9 rfl) (Nat.le_of_ble_eq_true rfl) (by simp) (by simp) (by simp)) ?_
 rintro v h10 ⟨f10,q,rfl,t⟩
 have f10_z:=f10.size
 replace p0:=p0.F f10
 replace r4:=r4.F f10
 replace r6:=r6.F f10
 replace r7:=r7.F f10
 replace r8:=r8.F f10
 replace r9:=r9.F f10
 unfold gcells
 simp -dsimp only [go_sem,r4.cell,r6.cell,r7.cell,r8.cell,r9.cell]
 refine Chk_intro (r4.wr (by first | (simp;done) | (simp;omega))) fun h11 s11=>?_
 have s11_z:=s11.size
 replace p0:=p0.F s11.fr
 replace r6:=r6.F s11.fr
 replace r7:=r7.F s11.fr
 replace r8:=r8.F s11.fr
 replace r9:=r9.F s11.fr
 replace r4:=s11.row r4
 try simp only [cl_int,cl_bool,cl_slice,cl_ptr,putAt_one,List.set_cons_zero,List.set_cons_succ,ivec_set,brow_upd] at r4
 have t:=t _ (s11.fr.wide (Nat.le_refl _))
 simp -dsimp only [go_sem,r4.cell,r6.cell,r7.cell,r8.cell,r9.cell]
 exact ⟨p0,q,rfl,t⟩
theorem c_law10_fenced (m:Int) {h:Heap}:Con Tryd.prog 13 #[.int .i64 m] h fun v h'=>Fr 0 0 h h'∧∃ q,v=.agg (gcells q (fenG m)).toArray∧GrAt h' q (fenG m):=by
 refine con_law10_fenced ?_
 have p0:Fr 0 0 h h:=.refl _ _ _
 simp -dsimp only [go_sem]
 intro b4 h1 n1
 have n1_a:=n1.at_
 have n1_z:=n1.size
 replace p0:=p0.F n1.f0
 have r4:=n1.row
 simp -dsimp only [go_sem,r4.cell]
 refine call_of (c_law10_ev 0 2 0 1 1) ?_
 rintro v h2 ⟨f2,rfl⟩
 have f2_z:=f2.size
 replace p0:=p0.F f2
 replace r4:=r4.F f2
 simp -dsimp only [go_sem,r4.cell]
 refine call_of (c_law10_ev 0 3 (-1) 0 m) ?_
 rintro v h3 ⟨f3,rfl⟩
 have f3_z:=f3.size
 replace p0:=p0.F f3
 replace r4:=r4.F f3
 simp -dsimp only [go_sem,r4.cell]
 refine call_of (c_law10_ev 0 1 1 0 1) ?_
 rintro v h4 ⟨f4,rfl⟩
 have f4_z:=f4.size
 replace p0:=p0.F f4
 replace r4:=r4.F f4
 simp -dsimp only [go_sem,r4.cell]
 refine call_of (c_law10_ev 1 2 1 1 1) ?_
 rintro v h5 ⟨f5,rfl⟩
 have f5_z:=f5.size
 replace p0:=p0.F f5
 replace r4:=r4.F f5
 simp -dsimp only [go_sem,r4.cell]
 refine call_of (c_law10_ev 1 3 (-1) 0 m) ?_
 rintro v h6 ⟨f6,rfl⟩
 have f6_z:=f6.size
 replace p0:=p0.F f6
 replace r4:=r4.F f6
 simp -dsimp only [go_sem,r4.cell]
 refine call_of (c_law10_ev 1 1 0 0 1) ?_
 rintro v h7 ⟨f7,rfl⟩
 have f7_z:=f7.size
 replace p0:=p0.F f7
 replace r4:=r4.F f7
 simp -dsimp only [go_sem,r4.cell]
 intro b16 h16 n16
 have n16_a:=n16.at_
 have n16_z:=n16.size
 replace p0:=p0.F n16.f0
 replace r4:=r4.F n16.f0
 have r16:=n16.row
 simp -dsimp only [go_sem,r4.cell,r16.cell]
 intro b17 h17 n17
 have n17_a:=n17.at_
 have n17_z:=n17.size
 replace p0:=p0.F n17.f0
 replace r4:=r4.F n17.f0
 replace r16:=r16.F n17.f0
 have r17:=n17.row
 simp -dsimp only [go_sem,r4.cell,r16.cell,r17.cell]
 intro b18 h18 n18
 have n18_a:=n18.at_
 have n18_z:=n18.size
 replace p0:=p0.F n18.f0
 replace r4:=r4.F n18.f0
 replace r16:=r16.F n18.f0
 replace r17:=r17.F n18.f0
 have r18:=n18.row
 simp -dsimp only [go_sem,r4.cell,r16.cell,r17.cell,r18.cell]
 intro b19 h19 n19
 have n19_a:=n19.at_
 have n19_z:=n19.size
 replace p0:=p0.F n19.f0
 replace r4:=r4.F n19.f0
 replace r16:=r16.F n19.f0
 replace r17:=r17.F n19.f0
 replace r18:=r18.F n19.f0
 have r19:=n19.row
 simp -dsimp only [go_sem,r4.cell,r16.cell,r17.cell,r18.cell,r19.cell]
 refine call_of (c_law10_two (E:=fenE m) (rf:=[(1,4),(0,7)]) (x:=[2]) (y:=[5]) (lo:=b4+1) (by omega) (Rw.rd (s:=5) (n:=6) (c:=6) r16 rfl) (fun h' f=>Rw.rd (s:=2) (n:=2) (c:=2) (r17.fr f (by omega)) rfl) (Rw.rd (s:=1) (n:=1) (c:=1) r18 rfl) (Rw.rd (s:=1) (n:=1) (c:=1) r19 rfl) (Nat.le_of_ble_eq_true rfl) (by simp) (by simp) (by simp)) ?_
 rintro v h20 ⟨f20,q,rfl,t⟩
 have f20_z:=f20.size
 replace p0:=p0.F f20
 replace r4:=r4.F f20
 replace r16:=r16.F f20
 replace r17:=r17.F f20
 replace r18:=r18.F f20
 replace r19:=r19.F f20
 unfold gcells
 simp -dsimp only [go_sem,r4.cell,r16.cell,r17.cell,r18.cell,r19.cell]
 refine Chk_intro (r4.wr (by first | (simp;done) | (simp;omega))) fun h21 s21=>?_
 have s21_z:=s21.size
 replace p0:=p0.F s21.fr
 replace r16:=r16.F s21.fr
 replace r17:=r17.F s21.fr
 replace r18:=r18.F s21.fr
 replace r19:=r19.F s21.fr
 replace r4:=s21.row r4
 try simp only [cl_int,cl_bool,cl_slice,cl_ptr,putAt_one,List.set_cons_zero,List.set_cons_succ,ivec_set,brow_upd] at r4
 have t:=t _ (s21.fr.wide (Nat.le_refl _))
 simp -dsimp only [go_sem,r4.cell,r16.cell,r17.cell,r18.cell,r19.cell]
 exact ⟨p0,q,rfl,t⟩
end Go.Proofs.Tst
/-
  law10: lives.
-/
namespace Go.Proofs.Tst
open Go Go.Vc
theorem sb1:decide (((bufG 1 1 1).check false).1=0∧rcAx (bufG 1 1 1)=(0,[]))=true:=by decide +kernel
theorem sb2:decide (((bufG 1 5 5).check false).1=0∧rcAx (bufG 1 5 5)=(3,[2,3,4,5]))=true:=by decide +kernel
theorem sp2:decide (((pasG 1 3 2).check false).1=0∧rcAx (pasG 1 3 2)=(1,[2,5]))=true:=by decide +kernel
theorem sp1:decide (((pasG 1 3 1).check false).1=0∧rcAx (pasG 1 3 1)=(0,[]))=true:=by decide +kernel
theorem sp3:((pasG 1 3 2).check false).1=0:=by decide +kernel
theorem sp4:pairsOf (pasG 1 3 2).n (swM (pasG 1 3 2))=[(3,4)]:=by decide +kernel
set_option maxHeartbeats 2000000 in
theorem law10_lives {h:Heap} (ht:TabAt h):Con Tryd.prog 7 #[] h fun v h'=>Fr 0 0 h h'∧v=.bool true:=by
 refine con_law10_lives ?_
 have p0:Fr 0 0 h h:=.refl _ _ _
 simp -dsimp only [go_sem]
 refine call_of (c_law10_passing 3 2) ?_
 rintro v1 h1 ⟨f1,q1,rfl,t1⟩
 have f1_z:=f1.size
 replace p0:=p0.F f1
 simp -dsimp only [go_sem]
 refine call_of (rc11_Derive t1 (ht.fr p0 (.inr rfl))) ?_
 rintro v2 h2 ⟨f2,w⟩
 have f2_z:=f2.size
 replace p0:=p0.F f2
 rw [if_pos sp3] at w
 obtain ⟨x,rfl,D⟩:=w
 obtain ⟨_,_,g1,-,ab⟩:=D 1 (by decide)
 obtain ⟨c0,e0⟩:=(D 0 (by decide)).pa.ptr
 obtain ⟨c1,e1⟩:=(D 1 (by decide)).pa.ptr
 obtain ⟨c2,e2⟩:=(D 2 (by decide)).pa.ptr
 obtain ⟨c3,e3⟩:=(D 3 (by decide)).pa.ptr
 obtain ⟨c4,e4⟩:=(D 4 (by decide)).pa.ptr
 obtain ⟨c5,e5⟩:=(D 5 (by decide)).pa.ptr
 obtain ⟨c6,e6⟩:=(D 6 (by decide)).pa.ptr
 rw [e0,e1,e2,e3,e4,e5,e6]
 rw [e1] at g1
 replace g1:ProgAt h2 _ _ _ (pasG 1 3 2).n (swM (pasG 1 3 2)):=g1
 have p2:Fr 0 0 h2 h2:=.refl _ _ _
 simp -dsimp only [go_sem]
 intro b3 h3 n3
 have n3_a:=n3.at_
 have n3_z:=n3.size
 replace p0:=p0.F n3.f0
 replace p2:=p2.F n3.f0
 have r3:=n3.row
 simp -dsimp only [go_sem,r3.cell]
 refine Chk_intro (r3.wr (by first | (simp;done) | (simp;omega))) fun h4 s4=>?_
 have s4_z:=s4.size
 replace p0:=p0.F s4.fr
 replace p2:=p2.F s4.fr
 replace r3:=s4.row r3
 try simp only [cl_int,cl_bool,cl_slice,cl_ptr,putAt_one,List.set_cons_zero,List.set_cons_succ,ivec_set,brow_upd] at r3
 try simp -dsimp only [go_sem] at r3
 simp -dsimp only [go_sem,r3.cell]
 refine call_of (c_law10_buffering 1 1) ?_
 rintro v5 h5 ⟨f5,q5,rfl,t5⟩
 have f5_z:=f5.size
 replace p0:=p0.F f5
 replace p2:=p2.F f5
 replace r3:=r3.F f5
 simp -dsimp only [go_sem,r3.cell]
 refine call_of (c_law10_says t5 (ht.fr p0 (.inr rfl)) nilI 0) ?_
 rintro v6 h6 ⟨f6,rfl⟩
 have f6_z:=f6.size
 replace p0:=p0.F f6
 replace p2:=p2.F f6
 replace r3:=r3.F f6
 rw [sb1]
 simp -dsimp only [go_sem,r3.cell]
 refine call_of (c_law10_buffering 5 5) ?_
 rintro v7 h7 ⟨f7,q7,rfl,t7⟩
 have f7_z:=f7.size
 replace p0:=p0.F f7
 replace p2:=p2.F f7
 replace r3:=r3.F f7
 simp -dsimp only [go_sem,r3.cell]
 intro b8 h8 n8
 have n8_a:=n8.at_
 have n8_z:=n8.size
 replace p0:=p0.F n8.f0
 replace p2:=p2.F n8.f0
 replace r3:=r3.F n8.f0
 have r8:=n8.row
 have t8:=t7.fr n8.fr
 simp -dsimp only [go_sem,r3.cell,r8.cell]
 refine call_of (c_law10_says t8 (ht.fr p0 (.inr rfl)) (l:=[2,3,4,5]) (Rw.rd (s:=1) (n:=4) (c:=4) r8 rfl) 3) ?_
 rintro v9 h9 ⟨f9,rfl⟩
 have f9_z:=f9.size
 replace p0:=p0.F f9
 replace p2:=p2.F f9
 replace r3:=r3.F f9
 replace r8:=r8.F f9
 rw [sb2]
 simp -dsimp only [go_sem,r3.cell,r8.cell]
 refine call_of (c_law10_passing 3 2) ?_
 rintro v12 h12 ⟨f12,q12,rfl,t12⟩
 have f12_z:=f12.size
 replace p0:=p0.F f12
 replace p2:=p2.F f12
 replace r3:=r3.F f12
 replace r8:=r8.F f12
 simp -dsimp only [go_sem,r3.cell,r8.cell]
 intro b13 h13 n13
 have n13_a:=n13.at_
 have n13_z:=n13.size
 replace p0:=p0.F n13.f0
 replace p2:=p2.F n13.f0
 replace r3:=r3.F n13.f0
 replace r8:=r8.F n13.f0
 have r13:=n13.row
 have t13:=t12.fr n13.fr
 simp -dsimp only [go_sem,r3.cell,r8.cell,r13.cell]
 refine call_of (c_law10_says t13 (ht.fr p0 (.inr rfl)) (l:=[2,5]) (Rw.rd (s:=1) (n:=2) (c:=2) r13 rfl) 1) ?_
 rintro v14 h14 ⟨f14,rfl⟩
 have f14_z:=f14.size
 replace p0:=p0.F f14
 replace p2:=p2.F f14
 replace r3:=r3.F f14
 replace r8:=r8.F f14
 replace r13:=r13.F f14
 rw [sp2]
 simp -dsimp only [go_sem,r3.cell,r8.cell,r13.cell]
 refine call_of (c_law10_passing 3 1) ?_
 rintro v10 h10 ⟨f10,q10,rfl,t10⟩
 have f10_z:=f10.size
 replace p0:=p0.F f10
 replace p2:=p2.F f10
 replace r3:=r3.F f10
 replace r8:=r8.F f10
 replace r13:=r13.F f10
 simp -dsimp only [go_sem,r3.cell,r8.cell,r13.cell]
 refine call_of (c_law10_says t10 (ht.fr p0 (.inr rfl)) nilI 0) ?_
 rintro v11 h11 ⟨f11,rfl⟩
 have f11_z:=f11.size
 replace p0:=p0.F f11
 replace p2:=p2.F f11
 replace r3:=r3.F f11
 replace r8:=r8.F f11
 replace r13:=r13.F f11
 rw [sp1]
 simp -dsimp only [go_sem,r3.cell,r8.cell,r13.cell]
 refine call_of (rel_Pairs (g1.fr p2 (by omega)) (ht.fr p0 (.inr rfl))) ?_
 rintro v15 h15 ⟨f15,o15⟩
 have f15_z:=f15.size
 replace p0:=p0.F f15
 replace p2:=p2.F f15
 replace r3:=r3.F f15
 replace r8:=r8.F f15
 replace r13:=r13.F f15
 rw [sp4] at o15
 simp -dsimp only [go_sem,r3.cell,r8.cell,r13.cell]
 intro b16 h16 n16
 have n16_a:=n16.at_
 have n16_z:=n16.size
 replace p0:=p0.F n16.f0
 replace p2:=p2.F n16.f0
 replace r3:=r3.F n16.f0
 replace r8:=r8.F n16.f0
 replace r13:=r13.F n16.f0
 have r16:=n16.row
 have o16:=o15.rd.fr n16.fr
 simp -dsimp only [go_sem,r3.cell,r8.cell,r13.cell,r16.cell]
 refine call_of (c_law10_pairs (l:=[(3,4)]) (m:=[(3,4)]) o16 (Rw.rd (s:=2) (n:=1) (c:=1) r16 rfl) (by decide)) ?_
 rintro v17 h16 ⟨rfl,rfl⟩
 simp -dsimp only [go_sem,dec_self,r3.cell,r8.cell,r13.cell,r16.cell]
 exact p0
end Go.Proofs.Tst
/-
  RcKnown.
-/
namespace Go.Proofs.Tst
open Go Go.Vc
abbrev k10_1:Gr:=(bufG 1 11 11)
theorem k10_1_n:¬ (k10_1.check false).1=0:=by decide +kernel
abbrev k10_2:Gr:=(fenG 5)
theorem k10_2_s:decide ((k10_2.check false).1=0∧rcAx k10_2=(3,[3,6]))=true:=by decide +kernel
abbrev k10_3:Gr:=(fenG 4)
theorem k10_3_s:decide ((k10_3.check false).1=0∧rcAx k10_3=(0,[]))=true:=by decide +kernel
abbrev k10_4:Gr:=(twoG 1 [⟨0,1,0,1,1⟩,⟨0,2,1,1,1⟩,⟨1,1,1,1,1⟩,⟨1,2,0,1,1⟩] [(5,2),(3,4)] [5] [3])
theorem k10_4_s:decide ((k10_4.check false).1=0∧rcAx k10_4=(4,[2,3,4,5]))=true:=by decide +kernel
abbrev k10_5:Gr:=(twoG 1 [⟨0,2,0,1,1⟩,⟨1,1,0,1,1⟩,⟨1,1,0,0,1⟩] [(2,3),(0,4)] [2] [])
theorem k10_5_s:decide ((k10_5.check false).1=0∧rcAx k10_5=(1,[3,4]))=true:=by decide +kernel
abbrev k10_6:Gr:={ (twoG 1 [⟨0,1,0,0,1⟩,⟨0,2,0,1,1⟩,⟨1,2,0,2,1⟩] [(0,2)] [4,3] []) with rmw:=[(2,3)] }
theorem k10_6_s:decide ((k10_6.check false).1=0∧rcAx k10_6=(2,[2,3]))=true:=by decide +kernel
set_option maxHeartbeats 8000000 in
theorem c_law10_RcKnown {h:Heap} (ht:TabAt h):Con Tryd.prog 3 #[] h fun v h'=>Fr 0 0 h h'∧v=.bool true:=by
 refine con_law10_RcKnown ?_
 have hz:0<h.size:=hcell_lt (ht 0 0 rfl)
 have p0:Fr 0 0 h h:=.refl _ _ _
 simp -dsimp only [go_sem]
 refine call_of (law10_lives (ht.fr p0 (.inr rfl))) ?_
 rintro v1 h1 ⟨f1,rfl⟩
 have f1_z:=f1.size
 replace p0:=p0.F f1
 simp -dsimp only [go_sem]
 have g_1:h.size≤h1.size:=by omega
 clear f1_z
 refine call_of (c_law10_ev (0) (1) (0) (1) (1)) ?_
 rintro v2 h2 ⟨f2,rfl⟩
 have f2_z:=f2.size
 replace p0:=p0.F f2
 simp -dsimp only [go_sem]
 refine call_of (c_law10_ev (0) (2) (1) (1) (1)) ?_
 rintro v3 h3 ⟨f3,rfl⟩
 have f3_z:=f3.size
 replace p0:=p0.F f3
 simp -dsimp only [go_sem]
 refine call_of (c_law10_ev (1) (1) (1) (1) (1)) ?_
 rintro v4 h4 ⟨f4,rfl⟩
 have f4_z:=f4.size
 replace p0:=p0.F f4
 simp -dsimp only [go_sem]
 refine call_of (c_law10_ev (1) (2) (0) (1) (1)) ?_
 rintro v5 h5 ⟨f5,rfl⟩
 have f5_z:=f5.size
 replace p0:=p0.F f5
 simp -dsimp only [go_sem]
 intro b6 h6 n6
 have n6_a:=n6.at_
 have n6_z:=n6.size
 replace p0:=p0.F n6.f0
 have r6:=n6.row
 replace r6:Rw h6 b6 (evsV [⟨0,1,0,1,1⟩,⟨0,2,1,1,1⟩,⟨1,1,1,1,1⟩,⟨1,2,0,1,1⟩]):=r6
 simp -dsimp only [go_sem,r6.cell]
 intro b7 h7 n7
 have n7_a:=n7.at_
 have n7_z:=n7.size
 replace p0:=p0.F n7.f0
 replace r6:=r6.F n7.f0
 have r7:=n7.row
 replace r7:Rw h7 b7 (pairsV [(5,2),(3,4)]):=r7
 simp -dsimp only [go_sem,r6.cell,r7.cell]
 intro b8 h8 n8
 have n8_a:=n8.at_
 have n8_z:=n8.size
 replace p0:=p0.F n8.f0
 replace r6:=r6.F n8.f0
 replace r7:=r7.F n8.f0
 have r8:=n8.row
 replace r8:Rw h8 b8 (intsV [5]):=r8
 simp -dsimp only [go_sem,r6.cell,r7.cell,r8.cell]
 intro b9 h9 n9
 have n9_a:=n9.at_
 have n9_z:=n9.size
 replace p0:=p0.F n9.f0
 replace r6:=r6.F n9.f0
 replace r7:=r7.F n9.f0
 replace r8:=r8.F n9.f0
 have r9:=n9.row
 replace r9:Rw h9 b9 (intsV [3]):=r9
 simp -dsimp only [go_sem,r6.cell,r7.cell,r8.cell,r9.cell]
 refine call_of (c_law10_two (E:=[⟨0,1,0,1,1⟩,⟨0,2,1,1,1⟩,⟨1,1,1,1,1⟩,⟨1,2,0,1,1⟩]) (rf:=[(5,2),(3,4)]) (x:=[5]) (y:=[3]) (lo:=0) (Nat.zero_le _) (Rw.rd (s:=5) (n:=4) (c:=4) r6 rfl) (fun h' f=>Rw.rd (s:=2) (n:=2) (c:=2) (r7.fr f (by omega)) rfl) (Rw.rd (s:=1) (n:=1) (c:=1) r8 rfl) (Rw.rd (s:=1) (n:=1) (c:=1) r9 rfl) (by simp) (by simp) (by simp) (by simp)) ?_
 rintro v10 h10 ⟨f10,q10,rfl,t10⟩
 have f10_z:=f10.size
 replace p0:=p0.F f10
 replace r6:=r6.F f10
 replace r7:=r7.F f10
 replace r8:=r8.F f10
 replace r9:=r9.F f10
 clear r6 r7 r8 r9
 replace t10:=t10 _ (.refl _ _ _)
 have p10:Fr 0 0 h10 h10:=.refl _ _ _
 unfold gcells
 simp -dsimp only [go_sem]
 intro b11 h11 n11
 have n11_a:=n11.at_
 have n11_z:=n11.size
 replace p0:=p0.F n11.f0
 replace p10:=p10.F n11.f0
 have r11:=n11.row
 simp -dsimp only [go_sem,r11.cell]
 refine Chk_intro (r11.wr (by first | (simp;done) | (simp;omega))) fun h12 s12=>?_
 have s12_z:=s12.size
 replace p0:=p0.F s12.fr
 replace p10:=p10.F s12.fr
 replace r11:=s12.row r11
 try simp only [cl_int,cl_bool,cl_slice,cl_ptr,putAt_one,List.set_cons_zero,List.set_cons_succ,ivec_set,brow_upd] at r11
 try simp -dsimp only [go_sem] at r11
 simp -dsimp only [go_sem,r11.cell]
 have g_2:h.size≤h10.size∧h10.size≤b11∧b11<h12.size:=by omega
 clear f2_z f3_z f4_z f5_z n6_a n6_z n7_a n7_z n8_a n8_z n9_a n9_z f10_z n11_a n11_z s12_z g_1
 refine call_of (c_law10_ev (0) (2) (0) (1) (1)) ?_
 rintro v13 h13 ⟨f13,rfl⟩
 have f13_z:=f13.size
 replace p0:=p0.F f13
 replace p10:=p10.F f13
 replace r11:=r11.F f13
 simp -dsimp only [go_sem,r11.cell]
 refine call_of (c_law10_ev (1) (1) (0) (1) (1)) ?_
 rintro v14 h14 ⟨f14,rfl⟩
 have f14_z:=f14.size
 replace p0:=p0.F f14
 replace p10:=p10.F f14
 replace r11:=r11.F f14
 simp -dsimp only [go_sem,r11.cell]
 refine call_of (c_law10_ev (1) (1) (0) (0) (1)) ?_
 rintro v15 h15 ⟨f15,rfl⟩
 have f15_z:=f15.size
 replace p0:=p0.F f15
 replace p10:=p10.F f15
 replace r11:=r11.F f15
 simp -dsimp only [go_sem,r11.cell]
 intro b16 h16 n16
 have n16_a:=n16.at_
 have n16_z:=n16.size
 replace p0:=p0.F n16.f0
 replace p10:=p10.F n16.f0
 replace r11:=r11.F n16.f0
 have r16:=n16.row
 replace r16:Rw h16 b16 (evsV [⟨0,2,0,1,1⟩,⟨1,1,0,1,1⟩,⟨1,1,0,0,1⟩]):=r16
 simp -dsimp only [go_sem,r11.cell,r16.cell]
 intro b17 h17 n17
 have n17_a:=n17.at_
 have n17_z:=n17.size
 replace p0:=p0.F n17.f0
 replace p10:=p10.F n17.f0
 replace r11:=r11.F n17.f0
 replace r16:=r16.F n17.f0
 have r17:=n17.row
 replace r17:Rw h17 b17 (pairsV [(2,3),(0,4)]):=r17
 simp -dsimp only [go_sem,r11.cell,r16.cell,r17.cell]
 intro b18 h18 n18
 have n18_a:=n18.at_
 have n18_z:=n18.size
 replace p0:=p0.F n18.f0
 replace p10:=p10.F n18.f0
 replace r11:=r11.F n18.f0
 replace r16:=r16.F n18.f0
 replace r17:=r17.F n18.f0
 have r18:=n18.row
 replace r18:Rw h18 b18 (intsV [2]):=r18
 simp -dsimp only [go_sem,r11.cell,r16.cell,r17.cell,r18.cell]
 refine call_of (c_law10_two (E:=[⟨0,2,0,1,1⟩,⟨1,1,0,1,1⟩,⟨1,1,0,0,1⟩]) (rf:=[(2,3),(0,4)]) (x:=[2]) (y:=[]) (lo:=0) (Nat.zero_le _) (Rw.rd (s:=5) (n:=3) (c:=3) r16 rfl) (fun h' f=>Rw.rd (s:=2) (n:=2) (c:=2) (r17.fr f (by omega)) rfl) (Rw.rd (s:=1) (n:=1) (c:=1) r18 rfl) nilI (by simp) (by simp) (by simp) (by simp)) ?_
 rintro v19 h19 ⟨f19,q19,rfl,t19⟩
 have f19_z:=f19.size
 replace p0:=p0.F f19
 replace p10:=p10.F f19
 replace r11:=r11.F f19
 replace r16:=r16.F f19
 replace r17:=r17.F f19
 replace r18:=r18.F f19
 clear r16 r17 r18
 replace t19:=t19 _ (.refl _ _ _)
 have p19:Fr 0 0 h19 h19:=.refl _ _ _
 unfold gcells
 simp -dsimp only [go_sem,r11.cell]
 intro b20 h20 n20
 have n20_a:=n20.at_
 have n20_z:=n20.size
 replace p0:=p0.F n20.f0
 replace p10:=p10.F n20.f0
 replace r11:=r11.F n20.f0
 replace p19:=p19.F n20.f0
 have r20:=n20.row
 simp -dsimp only [go_sem,r11.cell,r20.cell]
 refine Chk_intro (r20.wr (by first | (simp;done) | (simp;omega))) fun h21 s21=>?_
 have s21_z:=s21.size
 replace p0:=p0.F s21.fr
 replace p10:=p10.F s21.fr
 replace r11:=r11.F s21.fr
 replace p19:=p19.F s21.fr
 replace r20:=s21.row r20
 try simp only [cl_int,cl_bool,cl_slice,cl_ptr,putAt_one,List.set_cons_zero,List.set_cons_succ,ivec_set,brow_upd] at r20
 try simp -dsimp only [go_sem] at r20
 simp -dsimp only [go_sem,r11.cell,r20.cell]
 have g_3:h.size≤h10.size∧h10.size≤b11∧b11<h19.size∧h19.size≤b20∧b20<h21.size:=by omega
 clear f13_z f14_z f15_z n16_a n16_z n17_a n17_z n18_a n18_z f19_z n20_a n20_z s21_z g_2
 refine call_of (c_law10_ev (0) (1) (0) (0) (1)) ?_
 rintro v22 h22 ⟨f22,rfl⟩
 have f22_z:=f22.size
 replace p0:=p0.F f22
 replace p10:=p10.F f22
 replace r11:=r11.F f22
 replace p19:=p19.F f22
 replace r20:=r20.F f22
 simp -dsimp only [go_sem,r11.cell,r20.cell]
 refine call_of (c_law10_ev (0) (2) (0) (1) (1)) ?_
 rintro v23 h23 ⟨f23,rfl⟩
 have f23_z:=f23.size
 replace p0:=p0.F f23
 replace p10:=p10.F f23
 replace r11:=r11.F f23
 replace p19:=p19.F f23
 replace r20:=r20.F f23
 simp -dsimp only [go_sem,r11.cell,r20.cell]
 refine call_of (c_law10_ev (1) (2) (0) (2) (1)) ?_
 rintro v24 h24 ⟨f24,rfl⟩
 have f24_z:=f24.size
 replace p0:=p0.F f24
 replace p10:=p10.F f24
 replace r11:=r11.F f24
 replace p19:=p19.F f24
 replace r20:=r20.F f24
 simp -dsimp only [go_sem,r11.cell,r20.cell]
 intro b25 h25 n25
 have n25_a:=n25.at_
 have n25_z:=n25.size
 replace p0:=p0.F n25.f0
 replace p10:=p10.F n25.f0
 replace r11:=r11.F n25.f0
 replace p19:=p19.F n25.f0
 replace r20:=r20.F n25.f0
 have r25:=n25.row
 replace r25:Rw h25 b25 (evsV [⟨0,1,0,0,1⟩,⟨0,2,0,1,1⟩,⟨1,2,0,2,1⟩]):=r25
 simp -dsimp only [go_sem,r11.cell,r20.cell,r25.cell]
 intro b26 h26 n26
 have n26_a:=n26.at_
 have n26_z:=n26.size
 replace p0:=p0.F n26.f0
 replace p10:=p10.F n26.f0
 replace r11:=r11.F n26.f0
 replace p19:=p19.F n26.f0
 replace r20:=r20.F n26.f0
 replace r25:=r25.F n26.f0
 have r26:=n26.row
 replace r26:Rw h26 b26 (pairsV [(0,2)]):=r26
 simp -dsimp only [go_sem,r11.cell,r20.cell,r25.cell,r26.cell]
 intro b27 h27 n27
 have n27_a:=n27.at_
 have n27_z:=n27.size
 replace p0:=p0.F n27.f0
 replace p10:=p10.F n27.f0
 replace r11:=r11.F n27.f0
 replace p19:=p19.F n27.f0
 replace r20:=r20.F n27.f0
 replace r25:=r25.F n27.f0
 replace r26:=r26.F n27.f0
 have r27:=n27.row
 replace r27:Rw h27 b27 (intsV [4,3]):=r27
 simp -dsimp only [go_sem,r11.cell,r20.cell,r25.cell,r26.cell,r27.cell]
 refine call_of (c_law10_two (E:=[⟨0,1,0,0,1⟩,⟨0,2,0,1,1⟩,⟨1,2,0,2,1⟩]) (rf:=[(0,2)]) (x:=[4,3]) (y:=[]) (lo:=0) (Nat.zero_le _) (Rw.rd (s:=5) (n:=3) (c:=3) r25 rfl) (fun h' f=>Rw.rd (s:=2) (n:=1) (c:=1) (r26.fr f (by omega)) rfl) (Rw.rd (s:=1) (n:=2) (c:=2) r27 rfl) nilI (by simp) (by simp) (by simp) (by simp)) ?_
 rintro v28 h28 ⟨f28,q28,rfl,t28⟩
 have f28_z:=f28.size
 replace p0:=p0.F f28
 replace p10:=p10.F f28
 replace r11:=r11.F f28
 replace p19:=p19.F f28
 replace r20:=r20.F f28
 replace r25:=r25.F f28
 replace r26:=r26.F f28
 replace r27:=r27.F f28
 clear r25 r26 r27
 replace t28:=t28 _ (.refl _ _ _)
 have p28:Fr 0 0 h28 h28:=.refl _ _ _
 unfold gcells
 simp -dsimp only [go_sem,r11.cell,r20.cell]
 intro b29 h29 n29
 have n29_a:=n29.at_
 have n29_z:=n29.size
 replace p0:=p0.F n29.f0
 replace p10:=p10.F n29.f0
 replace r11:=r11.F n29.f0
 replace p19:=p19.F n29.f0
 replace r20:=r20.F n29.f0
 replace p28:=p28.F n29.f0
 have r29:=n29.row
 simp -dsimp only [go_sem,r11.cell,r20.cell,r29.cell]
 refine Chk_intro (r29.wr (by first | (simp;done) | (simp;omega))) fun h30 s30=>?_
 have s30_z:=s30.size
 replace p0:=p0.F s30.fr
 replace p10:=p10.F s30.fr
 replace r11:=r11.F s30.fr
 replace p19:=p19.F s30.fr
 replace r20:=r20.F s30.fr
 replace p28:=p28.F s30.fr
 replace r29:=s30.row r29
 try simp only [cl_int,cl_bool,cl_slice,cl_ptr,putAt_one,List.set_cons_zero,List.set_cons_succ,ivec_set,brow_upd] at r29
 try simp -dsimp only [go_sem] at r29
 simp -dsimp only [go_sem,r11.cell,r20.cell,r29.cell]
 have g_4:h.size≤h10.size∧h10.size≤b11∧b11<h19.size∧h19.size≤b20∧b20<h28.size∧h28.size≤b29∧b29<h30.size:=by omega
 clear f22_z f23_z f24_z n25_a n25_z n26_a n26_z n27_a n27_z f28_z n29_a n29_z s30_z g_3
 intro b31 h31 n31
 have n31_a:=n31.at_
 have n31_z:=n31.size
 replace p0:=p0.F n31.f0
 replace p10:=p10.F n31.f0
 replace r11:=r11.F n31.f0
 replace p19:=p19.F n31.f0
 replace r20:=r20.F n31.f0
 replace p28:=p28.F n31.f0
 replace r29:=r29.F n31.f0
 have r31:=n31.row
 replace r31:Rw h31 b31 (pairsV [(2,3)]):=r31
 simp -dsimp only [go_sem,r11.cell,r20.cell,r29.cell,r31.cell]
 refine Chk_intro (r29.wr (by first | (simp;done) | (simp;omega))) fun h32 s32=>?_
 have s32_z:=s32.size
 replace p0:=p0.F s32.fr
 replace p10:=p10.F s32.fr
 replace r11:=r11.F s32.fr
 replace p19:=p19.F s32.fr
 replace r20:=r20.F s32.fr
 replace p28:=p28.F s32.fr
 replace r31:=r31.F s32.fr
 replace r29:=s32.row r29
 try simp only [cl_int,cl_bool,cl_slice,cl_ptr,putAt_one,List.set_cons_zero,List.set_cons_succ,ivec_set,brow_upd] at r29
 try simp -dsimp only [go_sem] at r29
 simp -dsimp only [go_sem,r11.cell,r20.cell,r29.cell,r31.cell]
 have g_5:h.size≤h10.size∧h10.size≤b11∧b11<h19.size∧h19.size≤b20∧b20<h28.size∧h28.size≤b29∧b29<b31∧b31<h32.size:=by omega
 clear n31_a n31_z s32_z g_4
 refine call_of (c_law10_buffering 11 11) ?_
 rintro v33 h33 ⟨f33,q33,rfl,t33⟩
 have f33_z:=f33.size
 replace p0:=p0.F f33
 replace p10:=p10.F f33
 replace r11:=r11.F f33
 replace p19:=p19.F f33
 replace r20:=r20.F f33
 replace p28:=p28.F f33
 replace r29:=r29.F f33
 replace r31:=r31.F f33
 have p33:Fr 0 0 h33 h33:=.refl _ _ _
 unfold gcells
 simp -dsimp only [go_sem,r11.cell,r20.cell,r29.cell,r31.cell]
 refine call_of (rc11_Check (g:=k10_1) (t33.fr p33) (ht.fr p0 (.inr rfl))) ?_
 rintro v34 h34 ⟨f34,w34⟩
 have f34_z:=f34.size
 replace p0:=p0.F f34
 replace p10:=p10.F f34
 replace r11:=r11.F f34
 replace p19:=p19.F f34
 replace r20:=r20.F f34
 replace p28:=p28.F f34
 replace r29:=r29.F f34
 replace r31:=r31.F f34
 replace p33:=p33.F f34
 rw [if_neg k10_1_n] at w34
 subst w34
 simp -dsimp only [go_sem,r11.cell,r20.cell,r29.cell,r31.cell]
 have g_6:h.size≤h10.size∧h10.size≤b11∧b11<h19.size∧h19.size≤b20∧b20<h28.size∧h28.size≤b29∧b29<b31∧b31<h33.size∧h33.size≤h34.size:=by omega
 clear f33_z f34_z g_5
 refine call_of (c_law10_fenced 5) ?_
 rintro v35 h35 ⟨f35,q35,rfl,t35⟩
 have f35_z:=f35.size
 replace p0:=p0.F f35
 replace p10:=p10.F f35
 replace r11:=r11.F f35
 replace p19:=p19.F f35
 replace r20:=r20.F f35
 replace p28:=p28.F f35
 replace r29:=r29.F f35
 replace r31:=r31.F f35
 replace p33:=p33.F f35
 have p35:Fr 0 0 h35 h35:=.refl _ _ _
 unfold gcells
 simp -dsimp only [go_sem,r11.cell,r20.cell,r29.cell,r31.cell]
 intro b36 h36 n36
 have n36_a:=n36.at_
 have n36_z:=n36.size
 replace p0:=p0.F n36.f0
 replace p10:=p10.F n36.f0
 replace r11:=r11.F n36.f0
 replace p19:=p19.F n36.f0
 replace r20:=r20.F n36.f0
 replace p28:=p28.F n36.f0
 replace r29:=r29.F n36.f0
 replace r31:=r31.F n36.f0
 replace p33:=p33.F n36.f0
 replace p35:=p35.F n36.f0
 have r36:=n36.row
 replace r36:Rw h36 b36 (intsV [3,6]):=r36
 simp -dsimp only [go_sem,r11.cell,r20.cell,r29.cell,r31.cell,r36.cell]
 refine call_of (c_law10_says (g:=k10_2) (t35.fr p35) (ht.fr p0 (.inr rfl)) (l:=[3,6]) (Rw.rd (s:=1) (n:=2) (c:=2) r36 rfl) 3) ?_
 rintro v37 h37 ⟨f37,rfl⟩
 have f37_z:=f37.size
 replace p0:=p0.F f37
 replace p10:=p10.F f37
 replace r11:=r11.F f37
 replace p19:=p19.F f37
 replace r20:=r20.F f37
 replace p28:=p28.F f37
 replace r29:=r29.F f37
 replace r31:=r31.F f37
 replace p33:=p33.F f37
 replace p35:=p35.F f37
 replace r36:=r36.F f37
 rw [k10_2_s]
 simp -dsimp only [go_sem,r11.cell,r20.cell,r29.cell,r31.cell,r36.cell]
 clear r36
 refine call_of (c_law10_fenced 4) ?_
 rintro v38 h38 ⟨f38,q38,rfl,t38⟩
 have f38_z:=f38.size
 replace p0:=p0.F f38
 replace p10:=p10.F f38
 replace r11:=r11.F f38
 replace p19:=p19.F f38
 replace r20:=r20.F f38
 replace p28:=p28.F f38
 replace r29:=r29.F f38
 replace r31:=r31.F f38
 replace p33:=p33.F f38
 replace p35:=p35.F f38
 have p38:Fr 0 0 h38 h38:=.refl _ _ _
 unfold gcells
 simp -dsimp only [go_sem,r11.cell,r20.cell,r29.cell,r31.cell]
 refine call_of (c_law10_says (g:=k10_3) (t38.fr p38) (ht.fr p0 (.inr rfl)) (l:=[]) nilI 0) ?_
 rintro v39 h39 ⟨f39,rfl⟩
 have f39_z:=f39.size
 replace p0:=p0.F f39
 replace p10:=p10.F f39
 replace r11:=r11.F f39
 replace p19:=p19.F f39
 replace r20:=r20.F f39
 replace p28:=p28.F f39
 replace r29:=r29.F f39
 replace r31:=r31.F f39
 replace p33:=p33.F f39
 replace p35:=p35.F f39
 replace p38:=p38.F f39
 rw [k10_3_s]
 simp -dsimp only [go_sem,r11.cell,r20.cell,r29.cell,r31.cell]
 intro b40 h40 n40
 have n40_a:=n40.at_
 have n40_z:=n40.size
 replace p0:=p0.F n40.f0
 replace p10:=p10.F n40.f0
 replace r11:=r11.F n40.f0
 replace p19:=p19.F n40.f0
 replace r20:=r20.F n40.f0
 replace p28:=p28.F n40.f0
 replace r29:=r29.F n40.f0
 replace r31:=r31.F n40.f0
 replace p33:=p33.F n40.f0
 replace p35:=p35.F n40.f0
 replace p38:=p38.F n40.f0
 have r40:=n40.row
 replace r40:Rw h40 b40 (intsV [2,3,4,5]):=r40
 simp -dsimp only [go_sem,r11.cell,r20.cell,r29.cell,r31.cell,r40.cell]
 refine call_of (c_law10_says (g:=k10_4) (t10.fr p10) (ht.fr p0 (.inr rfl)) (l:=[2,3,4,5]) (Rw.rd (s:=1) (n:=4) (c:=4) r40 rfl) 4) ?_
 rintro v41 h41 ⟨f41,rfl⟩
 have f41_z:=f41.size
 replace p0:=p0.F f41
 replace p10:=p10.F f41
 replace r11:=r11.F f41
 replace p19:=p19.F f41
 replace r20:=r20.F f41
 replace p28:=p28.F f41
 replace r29:=r29.F f41
 replace r31:=r31.F f41
 replace p33:=p33.F f41
 replace p35:=p35.F f41
 replace p38:=p38.F f41
 replace r40:=r40.F f41
 rw [k10_4_s]
 simp -dsimp only [go_sem,r11.cell,r20.cell,r29.cell,r31.cell,r40.cell]
 clear r40
 intro b42 h42 n42
 have n42_a:=n42.at_
 have n42_z:=n42.size
 replace p0:=p0.F n42.f0
 replace p10:=p10.F n42.f0
 replace r11:=r11.F n42.f0
 replace p19:=p19.F n42.f0
 replace r20:=r20.F n42.f0
 replace p28:=p28.F n42.f0
 replace r29:=r29.F n42.f0
 replace r31:=r31.F n42.f0
 replace p33:=p33.F n42.f0
 replace p35:=p35.F n42.f0
 replace p38:=p38.F n42.f0
 have r42:=n42.row
 replace r42:Rw h42 b42 (intsV [3,4]):=r42
 simp -dsimp only [go_sem,r11.cell,r20.cell,r29.cell,r31.cell,r42.cell]
 refine call_of (c_law10_says (g:=k10_5) (t19.fr p19) (ht.fr p0 (.inr rfl)) (l:=[3,4]) (Rw.rd (s:=1) (n:=2) (c:=2) r42 rfl) 1) ?_
 rintro v43 h43 ⟨f43,rfl⟩
 have f43_z:=f43.size
 replace p0:=p0.F f43
 replace p10:=p10.F f43
 replace r11:=r11.F f43
 replace p19:=p19.F f43
 replace r20:=r20.F f43
 replace p28:=p28.F f43
 replace r29:=r29.F f43
 replace r31:=r31.F f43
 replace p33:=p33.F f43
 replace p35:=p35.F f43
 replace p38:=p38.F f43
 replace r42:=r42.F f43
 rw [k10_5_s]
 simp -dsimp only [go_sem,r11.cell,r20.cell,r29.cell,r31.cell,r42.cell]
 clear r42
 intro b44 h44 n44
 have n44_a:=n44.at_
 have n44_z:=n44.size
 replace p0:=p0.F n44.f0
 replace p10:=p10.F n44.f0
 replace r11:=r11.F n44.f0
 replace p19:=p19.F n44.f0
 replace r20:=r20.F n44.f0
 replace p28:=p28.F n44.f0
 replace r29:=r29.F n44.f0
 replace r31:=r31.F n44.f0
 replace p33:=p33.F n44.f0
 replace p35:=p35.F n44.f0
 replace p38:=p38.F n44.f0
 have r44:=n44.row
 replace r44:Rw h44 b44 (intsV [2,3]):=r44
 simp -dsimp only [go_sem,r11.cell,r20.cell,r29.cell,r31.cell,r44.cell]
 refine call_of (c_law10_says (g:=k10_6) (GrAt.setR (t28.fr p28) (Rw.rd (s:=2) (n:=1) (c:=1) r31 rfl) (by decide)) (ht.fr p0 (.inr rfl)) (l:=[2,3]) (Rw.rd (s:=1) (n:=2) (c:=2) r44 rfl) 2) ?_
 rintro v45 h45 ⟨f45,rfl⟩
 have f45_z:=f45.size
 replace p0:=p0.F f45
 replace p10:=p10.F f45
 replace r11:=r11.F f45
 replace p19:=p19.F f45
 replace r20:=r20.F f45
 replace p28:=p28.F f45
 replace r29:=r29.F f45
 replace r31:=r31.F f45
 replace p33:=p33.F f45
 replace p35:=p35.F f45
 replace p38:=p38.F f45
 replace r44:=r44.F f45
 rw [k10_6_s]
 simp -dsimp only [go_sem,r11.cell,r20.cell,r29.cell,r31.cell,r44.cell]
 clear r44
 clear r11 p10
 clear r20 p19
 clear r29 p28 r31
 have g_7:h.size≤h33.size∧h33.size≤h35.size∧h35.size≤h38.size∧h38.size≤h45.size:=by omega
 clear f35_z n36_a n36_z f37_z f38_z f39_z n40_a n40_z f41_z n42_a n42_z f43_z n44_a n44_z f45_z g_6
 exact p0
end Go.Proofs.Tst
