/-
  Contracts of functions that the law reaches: what each returns and what it leaves in memory. Conditions stand in each.
-/
import Derived.Test.YtmcghihgeibgpaaDoorT6
set_option linter.all false
set_option maxRecDepth 2000
/-
  seq: Sc, Tso.
-/
namespace Go.Proofs.Tst
open Go Go.Vc
def axN (i:Nat):Int:=match i with | 0=>1 | 1=>2 | _=>3
def scF (i:Nat):FuncId:=match i with | 0=>66 | _=>68
theorem sc_first {g : Gr} : firstA 2 axN (scL g) = scAx g := by
  have hr : List.range 2 = [0, 1] := rfl
  unfold firstA
  rw [hr]
  by_cases h0 : scL g 0 = []
  · by_cases h1 : scL g 1 = []
    · have := scAx_none (g := g) fun l hl => by
        have : l = 0 ∨ l = 1 := by omega
        rcases this with rfl | rfl
        · exact h0
        · exact h1
      rw [this]; simp [h0, h1]
    · have := scAx_at (g := g) (k := 1) (by decide) (fun l hl => by obtain rfl : l = 0 := by omega
                                                                    exact h0) h1
      rw [this]; simp [h0, h1, axN]
  · have := scAx_at (g := g) (k := 0) (by decide) (fun l hl => by omega) h0
    rw [this]; simp [h0, axN]
section
variable {h : Heap} {q : GV} {g : Gr}
set_option maxHeartbeats 2000000 in
theorem seq_Sc (t:GrAt h q g) (ht:TabAt h) :
  Con Tryd.prog 31 #[.agg (gcells q g).toArray] h fun v h'=>Fr 0 0 h h'∧if g.good=true then ∃ w,v=.tuple #[.int .i64 (scAx g).1,w,.int .i64 0]∧Holder 1 h' w (scAx g).2.length (intsV (scAx g).2) h.size
   else v=.tuple #[.int .i64 0,.slice none 0 0,.int .i64 4]:=by
 have p0:Fr 0 0 h h:=.refl _ _ _
 by_cases hg:g.good=true
 rotate_left
 ·simp only [if_neg hg]
  refine con_q136 ?_
  unfold gcells
  simp -dsimp only [go_sem]
  intro b1 h1 n1
  have n1_a:=n1.at_
  have n1_z:=n1.size
  replace p0:=p0.F n1.f0
  have r1:=n1.row
  simp -dsimp only [go_sem,r1.cell]
  refine call_of (graph_Derive (t.fr p0) (ht.fr p0 (.inr rfl))) ?_
  rintro v2 h2 ⟨f2,w⟩
  have f2_z:=f2.size
  replace p0:=p0.F f2
  replace r1:=r1.F f2
  rw [if_neg hg] at w
  subst w
  unfold fzero
  simp -dsimp only [go_sem,r1.cell]
  intro b3 h3 n3
  have n3_a:=n3.at_
  have n3_z:=n3.size
  replace p0:=p0.F n3.f0
  replace r1:=r1.F n3.f0
  have r3:=n3.row
  simp -dsimp only [go_sem,r1.cell,r3.cell]
  refine Chk_intro (r3.W) fun h4 s4=>?_
  have s4_z:=s4.size
  replace p0:=p0.F s4.fr
  replace r1:=r1.F s4.fr
  replace r3:=s4.row r3
  try simp only [cl_int,cl_bool,cl_slice,cl_ptr,putAt_one,zs0,zs1,ivec_set,brow_upd] at r3
  simp -dsimp only [go_sem,r1.cell,r3.cell]
  exact p0
 simp only [if_pos hg]
 refine con_q136 ?_
 unfold gcells
 simp -dsimp only [go_sem]
 intro b1 h1 n1
 have n1_a:=n1.at_
 have n1_z:=n1.size
 replace p0:=p0.F n1.f0
 have r1:=n1.row
 simp -dsimp only [go_sem,r1.cell]
 refine call_of (graph_Derive (t.fr p0) (ht.fr p0 (.inr rfl))) ?_
 rintro v2 h2 ⟨f2,w⟩
 have f2_z:=f2.size
 replace p0:=p0.F f2
 replace r1:=r1.F f2
 rw [if_pos hg] at w
 obtain ⟨p,rd,wr,fe,rfl,F⟩:=w
 obtain ⟨c,ra,wa,fa,rn,wn,fn,e,m⟩:=Sm.of (t.fr p0) hg F
 clear F
 rw [e]
 clear e
 have p2:Fr 0 0 h2 h2:=.refl _ _ _
 simp -dsimp only [go_sem,r1.cell]
 intro b3 h3 n3
 have n3_a:=n3.at_
 have n3_z:=n3.size
 replace p0:=p0.F n3.f0
 replace r1:=r1.F n3.f0
 replace p2:=p2.F n3.f0
 have r3:=n3.row
 simp -dsimp only [go_sem,r1.cell,r3.cell]
 refine Chk_intro (r3.W) fun h4 s4=>?_
 have s4_z:=s4.size
 replace p0:=p0.F s4.fr
 replace r1:=r1.F s4.fr
 replace p2:=p2.F s4.fr
 replace r3:=s4.row r3
 try simp only [cl_int,cl_bool,cl_slice,cl_ptr,putAt_one,zs0,zs1,ivec_set,brow_upd] at r3
 try simp -dsimp only [go_sem] at r3
 simp -dsimp only [go_sem,r1.cell,r3.cell]
 refine withC_of [.pointer (some ⟨c 0,0,none⟩),.pointer (some ⟨c 1,0,none⟩),.pointer (some ⟨c 2,0,none⟩),.pointer (some ⟨c 9,0,none⟩),.pointer (some ⟨c 3,0,none⟩),.pointer (some ⟨c 4,0,none⟩),.pointer (some ⟨c 5,0,none⟩),.pointer (some ⟨c 6,0,none⟩),.pointer (some ⟨c 7,0,none⟩),.pointer (some ⟨c 8,0,none⟩),.slice ra g.n rn,.slice wa g.n wn,.slice fa g.n fn] 0 (fun j x hj=>by rw [r3.cell,Nat.zero_add];exact hj) ?_
 simp -dsimp only [go_sem,r1.cell,r3.cell]
 intro b5 h5 n5
 have n5_z:=n5.az
 replace p0:=p0.F n5.f0
 replace r1:=r1.F n5.f0
 replace p2:=p2.F n5.f0
 replace r3:=r3.F n5.f0
 have r5:=n5.row
 replace r5:Rw h5 b5 (axV 2 axN scF):=r5
 simp -dsimp only [go_sem,r1.cell,r3.cell,r5.cell]
 replace m:=m.fr p2
 have hF:∀ i,i<2→∀ h6,Fr 0 0 h5 h6→Con Tryd.prog (scF i) #[.agg (smC q g c ra wa fa rn wn fn).toArray] h6 fun v h'=>Fr 0 0 h6 h'∧Holder 1 h' v (scL g i).length (intsV (scL g i)) h6.size:=by
  intro i hi h6 f
  match i,hi with
  | 0,_=>exact seq_Sc_1 (m.fr f) (ht.fr (p0.trans f) (.inr rfl))
  | 1,_=>exact seq_torn (m.fr f) (ht.fr (p0.trans f) (.inr rfl))
  | i+2,hi=>omega
 refine call_of (seq_first (q:=q) (g:=g) (c:=c) (ra:=ra) (wa:=wa) (fa:=fa) (rn:=rn) (wn:=wn) (fn:=fn) (F:=scF) (L:=scL g) r5 (by decide) hF) ?_
 rintro v7 h7 ⟨f7,w7,rfl,o7⟩
 have f7_z:=f7.size
 replace p0:=p0.F f7
 replace r1:=r1.F f7
 replace p2:=p2.F f7
 replace r3:=r3.F f7
 replace r5:=r5.F f7
 rw [sc_first] at o7 ⊢
 simp -dsimp only [go_sem,r1.cell,r3.cell,r5.cell]
 exact ⟨p0,_,rfl,o7.lower (by omega)⟩
end
end Go.Proofs.Tst
/-
  law21: two, the example.
-/
namespace Go.Proofs.Tst
open Go Go.Vc
theorem c_law21_ev (a b c:Int) (d:Int) {h:Heap}:Con Tryd.prog 22 #[.int .i64 a,.int .i64 b,.int .i64 c,.int .u64 d] h fun v h'=>Fr 0 0 h h'∧v=.agg #[.int .i64 a,.int .i64 b,.int .i64 c,.int .u64 d,.int .i64 1]:=by
 refine con_q44 ?_
 have p0:Fr 0 0 h h:=.refl _ _ _
 simp -dsimp only [go_sem]
 intro b1 h1 n1
 have n1_z:=n1.az
 replace p0:=p0.F n1.f0
 have r1:=n1.row
 simp -dsimp only [go_sem,r1.cell]
 refine Chk_intro (r1.W) fun h2 s2=>?_
 have s2_z:=s2.size
 replace p0:=p0.F s2.fr
 replace r1:=s2.row r1
 try simp only [cl_int,cl_bool,cl_slice,cl_ptr,putAt_one,zs0,zs1,ivec_set,brow_upd] at r1
 try simp -dsimp only [go_sem] at r1
 simp -dsimp only [go_sem,r1.cell]
 exact p0
set_option maxHeartbeats 2000000 in
theorem c_law21_two {h:Heap} {ea fa xa ya:Option Addr} {ec fc xc yc:Nat} {E:List Ev} {rf:List (Int×Int)} {x y:List Int} {lo:Nat} (hlo:lo≤h.size) (he:Rd 5 h (.slice ea E.length ec) E.length (evsV E)) (hf:∀ h',Fr 0 lo h h'→Rd 2 h' (.slice fa rf.length fc) rf.length (pairsV rf)) (hx:Rd 1 h (.slice xa x.length xc) x.length (intsV x)) (hy:Rd 1 h (.slice ya y.length yc) y.length (intsV y))
  (be:E.length≤1000) (bf:rf.length≤1000) (bx:x.length≤1000) (by_:y.length≤1000) :
  Con Tryd.prog 21 #[.slice ea E.length ec,.slice fa rf.length fc,.slice xa x.length xc,.slice ya y.length yc] h fun v h'=>Fr 0 0 h h'∧∃ q,v=.agg (gcells q (twoG 1 E rf x y)).toArray∧∀ h2,Fr 0 lo h' h2→GrAt h2 q (twoG 1 E rf x y):=by
 refine con_q48 ?_
 have p0:Fr 0 0 h h:=.refl _ _ _
 simp -dsimp only [go_sem]
 intro b8 h1 n1
 have n1_z:=n1.az
 replace p0:=p0.F n1.f0
 have r8:=n1.row
 simp -dsimp only [go_sem,r8.cell]
 refine call_of (c_law21_ev (-1) 2 0 0) ?_
 rintro v2 h2 ⟨f2,rfl⟩
 have f2_z:=f2.size
 replace p0:=p0.F f2
 replace r8:=r8.F f2
 simp -dsimp only [go_sem,r8.cell]
 refine call_of (c_law21_ev (-1) 2 1 0) ?_
 rintro v3 h3 ⟨f3,rfl⟩
 have f3_z:=f3.size
 replace p0:=p0.F f3
 replace r8:=r8.F f3
 simp -dsimp only [go_sem,r8.cell]
 intro b14 h4 n4
 have n4_z:=n4.az
 replace p0:=p0.F n4.f0
 replace r8:=r8.F n4.f0
 have r14:=n4.row
 replace r14:Rw h4 b14 (evsV [⟨-1,2,0,0,1⟩,⟨-1,2,1,0,1⟩]):=r14
 simp -dsimp only [go_sem,r8.cell,r14.cell]
 intro b9 h5 n5
 have n5_z:=n5.az
 replace p0:=p0.F n5.f0
 replace r8:=r8.F n5.f0
 replace r14:=r14.F n5.f0
 have r9:=n5.row
 simp -dsimp only [go_sem,r8.cell,r14.cell,r9.cell]
 refine Chk_intro (r9.W) fun h6 s6=>?_
 have s6_z:=s6.size
 replace p0:=p0.F s6.fr
 replace r8:=r8.F s6.fr
 replace r14:=r14.F s6.fr
 replace r9:=s6.row r9
 try simp only [cl_int,cl_bool,cl_slice,cl_ptr,putAt_one,zs0,zs1,ivec_set,brow_upd] at r9
 try simp -dsimp only [go_sem] at r9
 have gb:b8<b14∧b14<b9∧b9<h6.size∧h.size≤b8:=by omega
 simp -dsimp only [go_sem,r8.cell,r14.cell,r9.cell]
 refine (holder_row (s:=5) (n:=2) (lo:=b14) r14 rfl (Nat.le_refl _)).appendRd (he.fr p0) (by omega) rfl (by omega) (oc_evs _) (by omega) fun v7 h7 o7 f7 e7=>?_
 have lb:bl (.slice (some ⟨b14,0,none⟩) 2 2)=b14∧bh (.slice (some ⟨b14,0,none⟩) 2 2)=b14+1:=⟨rfl,rfl⟩
 rw [lb.1,lb.2] at f7
 clear r14
 have z7:=f7.size
 have f7_z:=f7.size
 replace p0:=p0.F f7
 replace r8:=r8.F f7
 replace r9:=r9.F f7
 rw [← evsV_append] at o7
 obtain ⟨a7,c7,rfl⟩:=o7.is
 have a7_a:=o7.at_
 have e7':=e7
 clear e7
 simp -dsimp only [go_sem,r8.cell,r9.cell]
 refine Chk_intro (r9.W) fun h8 s8=>?_
 have s8_z:=s8.size
 replace p0:=p0.F s8.fr
 replace r8:=r8.F s8.fr
 replace r9:=s8.row r9
 try simp only [cl_int,cl_bool,cl_slice,cl_ptr,putAt_one,zs0,zs1,ivec_set,brow_upd] at r9
 replace o7:=o7.fr s8.fr (by omega)
 simp -dsimp only [go_sem,r8.cell,r9.cell]
 intro b10 h9 n9
 have n9_z:=n9.az
 replace p0:=p0.F n9.f0
 replace r8:=r8.F n9.f0
 replace r9:=r9.F n9.f0
 have r10:=n9.row
 replace r10:Rw h9 b10 (intsV [0]):=r10
 replace o7:=o7.fr n9.f0 (by omega)
 simp -dsimp only [go_sem,r8.cell,r9.cell,r10.cell]
 have p9:Fr 0 0 h8 h9:=n9.fr
 refine (holder_row (s:=1) (n:=1) (lo:=b10) r10 rfl (Nat.le_refl _)).appendRd (hx.fr p0) (by omega) rfl (by omega) (oc_ints _) (by omega) fun v10 h10 o10 f10 e10=>?_
 have lb:bl (.slice (some ⟨b10,0,none⟩) 1 1)=b10∧bh (.slice (some ⟨b10,0,none⟩) 1 1)=b10+1:=⟨rfl,rfl⟩
 rw [lb.1,lb.2] at f10
 clear r10
 have z10:=f10.size
 have f10_z:=f10.size
 replace p0:=p0.F f10
 replace r8:=r8.F f10
 replace r9:=r9.F f10
 have o7t:=o7.top
 replace o7:=o7.fr f10 (by omega)
 rw [← intsV_append] at o10
 obtain ⟨a10,c10,rfl⟩:=o10.is
 have a10_a:=o10.at_
 clear e10
 simp -dsimp only [go_sem,r8.cell,r9.cell]
 intro b11 h11 n11
 have n11_z:=n11.az
 replace p0:=p0.F n11.f0
 replace r8:=r8.F n11.f0
 replace r9:=r9.F n11.f0
 have r11:=n11.row
 replace r11:Rw h11 b11 (intsV [1]):=r11
 replace o7:=o7.fr n11.f0 (by omega)
 have o10t:=o10.top
 replace o10:=o10.fr n11.f0 (by omega)
 simp -dsimp only [go_sem,r8.cell,r9.cell,r11.cell]
 refine (holder_row (s:=1) (n:=1) (lo:=b11) r11 rfl (Nat.le_refl _)).appendRd (hy.fr p0) (by omega) rfl (by omega) (oc_ints _) (by omega) fun v12 h12 o12 f12 e12=>?_
 have lb:bl (.slice (some ⟨b11,0,none⟩) 1 1)=b11∧bh (.slice (some ⟨b11,0,none⟩) 1 1)=b11+1:=⟨rfl,rfl⟩
 rw [lb.1,lb.2] at f12
 clear r11
 have z12:=f12.size
 have f12_z:=f12.size
 replace p0:=p0.F f12
 replace r8:=r8.F f12
 replace r9:=r9.F f12
 have o7t:=o7.top
 replace o7:=o7.fr f12 (by omega)
 replace o10:=o10.fr f12 (by omega)
 rw [← intsV_append] at o12
 obtain ⟨a12,c12,rfl⟩:=o12.is
 have a12_a:=o12.at_
 clear e12
 simp -dsimp only [go_sem,r8.cell,r9.cell]
 intro b13 h13 n13
 have n13_z:=n13.az
 replace p0:=p0.F n13.f0
 replace r8:=r8.F n13.f0
 replace r9:=r9.F n13.f0
 have r13:=n13.row
 try simp -dsimp only [go_sem] at r13
 replace o7:=o7.fr n13.f0 (by omega)
 replace o10:=o10.fr n13.f0 (by omega)
 replace o12:=o12.fr n13.f0 (by omega)
 simp -dsimp only [go_sem,r8.cell,r9.cell,r13.cell]
 refine Chk_intro (r9.W) fun h14 s14=>?_
 have s14_z:=s14.size
 replace p0:=p0.F s14.fr
 replace r8:=r8.F s14.fr
 replace r13:=r13.F s14.fr
 replace r9:=s14.row r9
 try simp only [cl_int,cl_bool,cl_slice,cl_ptr,putAt_one,zs0,zs1,ivec_set,brow_upd] at r9
 try simp -dsimp only [go_sem] at r9
 have z14:=s14.size
 replace o7:=o7.fr s14.fr (by omega)
 replace o10:=o10.fr s14.fr (by omega)
 replace o12:=o12.fr s14.fr (by omega)
 simp -dsimp only [go_sem,r8.cell,r9.cell,r13.cell]
 refine Chk_intro (r8.W) fun h15 s15=>?_
 have s15_z:=s15.size
 replace p0:=p0.F s15.fr
 replace r9:=r9.F s15.fr
 replace r13:=r13.F s15.fr
 replace r8:=s15.row r8
 try simp only [cl_int,cl_bool,cl_slice,cl_ptr,putAt_one,zs0,zs1,ivec_set,brow_upd] at r8
 have z15:=s15.size
 replace o7:=o7.fr s15.fr (by omega)
 replace o10:=o10.fr s15.fr (by omega)
 replace o12:=o12.fr s15.fr (by omega)
 simp -dsimp only [go_sem,r8.cell,r9.cell,r13.cell]
 have hl:(twoG 1 E rf x y).evs.length=2+E.length:=by simp [twoG];omega
 have hx2:(intsV ([0]++x)).length=1+x.length:=by simp;omega
 have hy2:(intsV ([1]++y)).length=1+y.length:=by simp;omega
 refine ⟨p0,⟨a7,fa,some ⟨b13,0,none⟩,none,none,none,none,c7,fc,2,0,0,0,0⟩,by unfold gcells;rw [hl];rfl,fun h16 f16=>?_⟩
 replace o7:=o7.fr f16 (by have:=o7.at_;omega)
 replace o10:=o10.fr f16 (by have:=o10.at_;omega)
 replace o12:=o12.fr f16 (by have:=o12.at_;omega)
 replace r13:=r13.F f16
 obtain ⟨u1,v1,k1,k1'⟩:=o10.room (by omega)
 cases k1
 obtain ⟨u2,v2,k2,k2'⟩:=o12.room (by omega)
 cases k2
 have hrl:RLc h16 (.slice (some ⟨b13,0,none⟩) 2 2) [intsV ([0]++x),intsV ([1]++y)]:=by
  refine ⟨_,Rw.rd (s:=1) r13 rfl,fun i l hi=>?_⟩
  match i,hi with
  | 0,hi =>
   cases hi
   exact ⟨_,_,by rw [hx2];rfl,by rw [hx2];exact k1',by rw [hx2];exact o10.rd⟩
  | 1,hi =>
   cases hi
   exact ⟨_,_,by rw [hy2];rfl,by rw [hy2];exact k2',by rw [hy2];exact o12.rd⟩
  | i+2,hi=>simp at hi
 refine ⟨by rw [hl];exact o7.rd,hf _ ((p0.wide (Nat.zero_le _)).trans f16),rlc_rl hrl,nilP,nilP,nilP,nilP,⟨by rw [hl];omega,by show rf.length≤_;omega,by show 2≤_;omega,by show 0≤_;omega,by show 0≤_;omega,by show 0≤_;omega,by show 0≤_;omega,fun l hl=>?_⟩,by show 2≤2;omega,hrl⟩
 have hl:l=[0]++x∨l=[1]++y:=by simpa [twoG] using hl
 rcases hl with rfl | rfl <;> (simp;omega)
def xmE:List Ev:=[⟨0,2,0,1,1⟩,⟨0,1,1,0,1⟩,⟨1,2,1,1,1⟩,⟨1,1,0,1,1⟩]
def xmG:Gr:=twoG 1 xmE [(1,3),(2,5)] [2] [4]
theorem c_law21_example {h:Heap}:Con Tryd.prog 17 #[] h fun v h'=>Fr 0 0 h h'∧∃ q,v=.agg (gcells q xmG).toArray∧GrAt h' q xmG:=by
 refine con_q45 ?_
 have p0:Fr 0 0 h h:=.refl _ _ _
 simp -dsimp only [go_sem]
 intro b4 h1 n1
 have n1_z:=n1.az
 replace p0:=p0.F n1.f0
 have r4:=n1.row
 simp -dsimp only [go_sem,r4.cell]
 refine call_of (c_law21_ev 0 2 0 1) ?_
 rintro v h2 ⟨f2,rfl⟩
 have f2_z:=f2.size
 replace p0:=p0.F f2
 replace r4:=r4.F f2
 simp -dsimp only [go_sem,r4.cell]
 refine call_of (c_law21_ev 0 1 1 0) ?_
 rintro v h3 ⟨f3,rfl⟩
 have f3_z:=f3.size
 replace p0:=p0.F f3
 replace r4:=r4.F f3
 simp -dsimp only [go_sem,r4.cell]
 refine call_of (c_law21_ev 1 2 1 1) ?_
 rintro v h4 ⟨f4,rfl⟩
 have f4_z:=f4.size
 replace p0:=p0.F f4
 replace r4:=r4.F f4
 simp -dsimp only [go_sem,r4.cell]
 refine call_of (c_law21_ev 1 1 0 1) ?_
 rintro v h5 ⟨f5,rfl⟩
 have f5_z:=f5.size
 replace p0:=p0.F f5
 replace r4:=r4.F f5
 simp -dsimp only [go_sem,r4.cell]
 intro b6 h6 n6
 have n6_z:=n6.az
 replace p0:=p0.F n6.f0
 replace r4:=r4.F n6.f0
 have r6:=n6.row
 simp -dsimp only [go_sem,r4.cell,r6.cell]
 intro b7 h7 n7
 have n7_z:=n7.az
 replace p0:=p0.F n7.f0
 replace r4:=r4.F n7.f0
 replace r6:=r6.F n7.f0
 have r7:=n7.row
 simp -dsimp only [go_sem,r4.cell,r6.cell,r7.cell]
 intro b8 h8 n8
 have n8_z:=n8.az
 replace p0:=p0.F n8.f0
 replace r4:=r4.F n8.f0
 replace r6:=r6.F n8.f0
 replace r7:=r7.F n8.f0
 have r8:=n8.row
 simp -dsimp only [go_sem,r4.cell,r6.cell,r7.cell,r8.cell]
 intro b9 h9 n9
 have n9_z:=n9.az
 replace p0:=p0.F n9.f0
 replace r4:=r4.F n9.f0
 replace r6:=r6.F n9.f0
 replace r7:=r7.F n9.f0
 replace r8:=r8.F n9.f0
 have r9:=n9.row
 simp -dsimp only [go_sem,r4.cell,r6.cell,r7.cell,r8.cell,r9.cell]
 refine call_of (c_law21_two (E:=xmE) (rf:=[(1,3),(2,5)]) (x:=[2]) (y:=[4]) (lo:=b4+1) (by omega) (Rw.rd (s:=5) (n:=4) (c:=4) r6 rfl) (fun h' f=>Rw.rd (s:=2) (n:=2) (c:=2) (r7.fr f (by omega)) rfl) (Rw.rd (s:=1) (n:=1) (c:=1) r8 rfl) (Rw.rd (s:=1) (n:=1) (c:=1) r9 rfl) (Nat.le_of_ble_eq_true rfl) (by simp) (by simp) (by simp)) ?_
 rintro v h10 ⟨f10,q,rfl,t⟩
 have f10_z:=f10.size
 replace p0:=p0.F f10
 replace r4:=r4.F f10
 replace r6:=r6.F f10
 replace r7:=r7.F f10
 replace r8:=r8.F f10
 replace r9:=r9.F f10
 unfold gcells
 simp -dsimp only [go_sem,r4.cell,r6.cell,r7.cell,r8.cell,r9.cell]
 refine Chk_intro (r4.W) fun h11 s11=>?_
 have s11_z:=s11.size
 replace p0:=p0.F s11.fr
 replace r6:=r6.F s11.fr
 replace r7:=r7.F s11.fr
 replace r8:=r8.F s11.fr
 replace r9:=r9.F s11.fr
 replace r4:=s11.row r4
 try simp only [cl_int,cl_bool,cl_slice,cl_ptr,putAt_one,zs0,zs1,ivec_set,brow_upd] at r4
 have t:=t _ (s11.fr.wide (Nat.le_refl _))
 simp -dsimp only [go_sem,r4.cell,r6.cell,r7.cell,r8.cell,r9.cell]
 exact ⟨p0,q,rfl,t⟩
end Go.Proofs.Tst
/-
  total: Order, Picks, Replay.
-/
namespace Go.Proofs.Tst
open Go Go.Vc
def ordA (g:Gr):Except Int (List Nat):=if g.good=true then (if (scAx g).1=0 then glueS g.n (allM g) g.rmw else .error 3) else .error 4
theorem ResL.lower {h:Heap} {lo lo':Nat} {v:Value} {o:Except Int (List Nat)} (w:ResL h lo v o) (hl:lo'≤lo):ResL h lo' v o:=by
 unfold ResL at *
 cases o with
 | ok l=>obtain ⟨s,e,w⟩:=w;exact ⟨s,e,w.lower hl⟩
 | error e=>exact w
theorem ResL.is {h:Heap} {lo:Nat} {v:Value} {o:Except Int (List Nat)} (w:ResL h lo v o):∃ s e,v=.tuple #[s,.int .i64 e]:=by
 unfold ResL at w
 cases o with
 | ok l=>obtain ⟨s,e,w⟩:=w;exact ⟨_,_,e⟩
 | error e=>exact ⟨_,_,w⟩
section
variable {h : Heap} {q : GV} {g : Gr}
set_option maxHeartbeats 2000000 in
theorem total_Order (t:GrAt h q g) (ht:TabAt h) :
  Con Tryd.prog 23 #[.agg (gcells q g).toArray] h fun v h'=>Fr 0 0 h h'∧ResL h' h.size v (ordA g):=by
 refine con_q158 ?_
 have p0:Fr 0 0 h h:=.refl _ _ _
 have br:=t.fits.r
 unfold gcells ordA
 simp -dsimp only [go_sem]
 intro b1 h1 n1
 have n1_z:=n1.az
 replace p0:=p0.F n1.f0
 have r1:=n1.row
 simp -dsimp only [go_sem,r1.cell]
 refine call_of (seq_Sc (t.fr p0) (ht.fr p0 (.inr rfl))) ?_
 rintro v2 h2 ⟨f2,w⟩
 have f2_z:=f2.size
 replace p0:=p0.F f2
 replace r1:=r1.F f2
 by_cases hg:g.good=true
 rotate_left
 ·rw [if_neg hg] at w ⊢
  subst w
  simp -dsimp only [go_sem,r1.cell]
  exact ⟨p0,rfl⟩
 rw [if_pos hg] at w ⊢
 obtain ⟨w,rfl,o⟩:=w
 clear o
 by_cases h0:(scAx g).1=0
 rotate_left
 ·rw [if_neg h0]
  simp -dsimp only [go_sem,bne_f h0,r1.cell]
  exact ⟨p0,rfl⟩
 rw [if_pos h0]
 simp -dsimp only [go_sem,bne_t h0,r1.cell]
 refine call_of (graph_Derive (t.fr p0) (ht.fr p0 (.inr rfl))) ?_
 rintro v3 h3 ⟨f3,w⟩
 have f3_z:=f3.size
 replace p0:=p0.F f3
 replace r1:=r1.F f3
 rw [if_pos hg] at w
 obtain ⟨p,rd,wr,fe,rfl,F⟩:=w
 obtain ⟨c,ra,wa,fa,rn,wn,fn,e,m⟩:=Sm.of (t.fr p0) hg F
 clear F
 rw [e]
 clear e
 have p3:Fr 0 0 h3 h3:=.refl _ _ _
 simp -dsimp only [go_sem,r1.cell]
 intro b4 h4 n4
 have n4_z:=n4.az
 replace p0:=p0.F n4.f0
 replace r1:=r1.F n4.f0
 replace p3:=p3.F n4.f0
 have r4:=n4.row
 simp -dsimp only [go_sem,r1.cell,r4.cell]
 refine Chk_intro (r4.W) fun h5 s5=>?_
 have s5_z:=s5.size
 replace p0:=p0.F s5.fr
 replace r1:=r1.F s5.fr
 replace p3:=p3.F s5.fr
 replace r4:=s5.row r4
 try simp only [cl_int,cl_bool,cl_slice,cl_ptr,putAt_one,zs0,zs1,ivec_set,brow_upd] at r4
 try simp -dsimp only [go_sem] at r4
 simp -dsimp only [go_sem,r1.cell,r4.cell]
 intro b6 h6 n6
 have n6_z:=n6.az
 replace p0:=p0.F n6.f0
 replace r1:=r1.F n6.f0
 replace p3:=p3.F n6.f0
 replace r4:=r4.F n6.f0
 have r6:=n6.row
 simp -dsimp only [go_sem,r1.cell,r4.cell,r6.cell]
 replace m:=m.fr p3
 refine call_of (rel_UnionU (UA.mk' [(.pointer (some ⟨c 0,0,none⟩),relM g 0),(.pointer (some ⟨c 1,0,none⟩),relM g 1),(.pointer (some ⟨c 2,0,none⟩),relM g 2),(.pointer (some ⟨c 9,0,none⟩),relM g 9)] r6 (pa_cons (m.rel 0 (by decide)) (pa_cons (m.rel 1 (by decide)) (pa_cons (m.rel 2 (by decide)) (pa_cons (m.rel 9 (by decide)) pa_nil)))) (by simp) (by simp))) ?_
 rintro v7 h7 ⟨f7,t7⟩
 have f7_z:=f7.size
 replace p0:=p0.F f7
 replace r1:=r1.F f7
 replace p3:=p3.F f7
 replace r4:=r4.F f7
 replace r6:=r6.F f7
 have t7:=t7.congr (M':=allM g) fun i j _ _=>by simp [orM,allM,Bool.or_assoc]
 simp -dsimp only [go_sem,r1.cell,r4.cell,r6.cell]
 refine call_of (order_Glue t7 (ht.fr p0 (.inr rfl)) (t.r.fr p0) (by omega)) ?_
 rintro v8 h8 ⟨f8,o8⟩
 have f8_z:=f8.size
 replace p0:=p0.F f8
 replace r1:=r1.F f8
 replace p3:=p3.F f8
 replace r4:=r4.F f8
 replace r6:=r6.F f8
 obtain ⟨s8,e8,rfl⟩:=o8.is
 simp -dsimp only [go_sem,r1.cell,r4.cell,r6.cell]
 exact ⟨p0,o8.lower (by omega)⟩
def pickA (g:Gr) (l:List Int):Except Int (List Int):=if g.good=true then (if LinP g.n (relM g 0) l then .ok (picksL g (natsOf l)) else .error 3) else .error 4
def ResI (h:Heap) (lo:Nat) (v:Value) (o:Except Int (List Int)):Prop:=
 match o with
 | .ok l=>∃ s,v=.tuple #[s,.int .i64 0]∧Holder 1 h s l.length (intsV l) lo
 | .error e=>v=.tuple #[.slice none 0 0,.int .i64 e]
structure LinF (g:Gr) (l:List Int):Prop where
 len:l.length=g.n
 at_:∀ i,i<l.length→∃ x:Nat,l[i]?=some (x:Int)∧(natsOf l)[i]?=some x∧x<g.n
theorem LinF.of {g:Gr} {M:Mx} {l:List Int} (hl:LinP g.n M l):LinF g l:=by
 obtain ⟨e,hp,hlen⟩:=lin_pre.1 hl
 have h1:(natsOf l).length=l.length:=by simp [natsOf]
 refine ⟨by omega,fun i hi=>?_⟩
 have h2:(natsOf l)[i]?=some (natsOf l)[i]:=List.getElem?_eq_getElem (by omega)
 refine ⟨(natsOf l)[i],?_,h2,hp.2.1 _ (List.getElem_mem _)⟩
 have h3:((natsOf l).map fun (p:Nat)=>(p:Int))[i]?=some ((natsOf l)[i]:Int):=by rw [List.getElem?_map,h2];rfl
 rw [e] at h3;exact h3
theorem picks_step {g:Gr} {m:List Nat} {i x:Nat} (h:m[i]?=some x):picksL g (m.take (i+1))=picksL g (m.take i)++(if 0≤(g.ev x).thread then [(g.ev x).thread] else []):=by
 rw [List.take_add_one,h];exact picksL_snoc _ _
theorem picks_len {g:Gr} {m:List Nat}:(picksL g m).length≤m.length:=by
 unfold picksL;exact Nat.le_trans (List.length_filter_le _ _) (by simp)
theorem picks_len' {g:Gr} {m:List Nat} {i:Nat}:(picksL g (m.take i)).length≤i:=Nat.le_trans picks_len (by simp;omega)
set_option maxHeartbeats 2000000 in
theorem total_Picks (t:GrAt h q g) (ht:TabAt h) {la:Option Addr} {lc:Nat} {l:List Int} (hl:Rd 1 h (.slice la l.length lc) l.length (intsV l)) (hb:l.length≤4611686018427387904) :
  Con Tryd.prog 28 #[.agg (gcells q g).toArray,.slice la l.length lc] h fun v h'=>Fr 0 0 h h'∧ResI h' h.size v (pickA g l):=by
 refine con_q159 ?_
 have p0:Fr 0 0 h h:=.refl _ _ _
 unfold gcells pickA
 simp -dsimp only [go_sem]
 intro b2 h1 n1
 have n1_z:=n1.az
 replace p0:=p0.F n1.f0
 have r2:=n1.row
 simp -dsimp only [go_sem,r2.cell]
 refine call_of (graph_Derive (t.fr p0) (ht.fr p0 (.inr rfl))) ?_
 rintro v3 h3 ⟨f3,w⟩
 have f3_z:=f3.size
 replace p0:=p0.F f3
 replace r2:=r2.F f3
 by_cases hg:g.good=true
 rotate_left
 ·rw [if_neg hg] at w ⊢
  subst w
  unfold fzero
  simp -dsimp only [go_sem,r2.cell]
  intro b4 h4 n4
  have n4_a:=n4.at_
  have n4_z:=n4.size
  replace p0:=p0.F n4.f0
  replace r2:=r2.F n4.f0
  have r4:=n4.row
  simp -dsimp only [go_sem,r2.cell,r4.cell]
  refine Chk_intro (r4.W) fun h5 s5=>?_
  have s5_z:=s5.size
  replace p0:=p0.F s5.fr
  replace r2:=r2.F s5.fr
  replace r4:=s5.row r4
  try simp only [cl_int,cl_bool,cl_slice,cl_ptr,putAt_one,zs0,zs1,ivec_set,brow_upd] at r4
  simp -dsimp only [go_sem,r2.cell,r4.cell]
  exact ⟨p0,rfl⟩
 rw [if_pos hg] at w ⊢
 have hn:=(good_n hg).1
 obtain ⟨p,rd,wr,fe,rfl,F⟩:=w
 obtain ⟨c,ra,wa,fa,rn,wn,fn,e,m⟩:=Sm.of (t.fr p0) hg F
 clear F
 rw [e]
 clear e
 have p3:Fr 0 0 h3 h3:=.refl _ _ _
 simp -dsimp only [go_sem,r2.cell]
 intro b4 h4 n4
 have n4_a:=n4.at_
 have n4_z:=n4.size
 replace p0:=p0.F n4.f0
 replace r2:=r2.F n4.f0
 replace p3:=p3.F n4.f0
 have r4:=n4.row
 simp -dsimp only [go_sem,r2.cell,r4.cell]
 refine Chk_intro (r4.W) fun h5 s5=>?_
 have s5_z:=s5.size
 replace p0:=p0.F s5.fr
 replace r2:=r2.F s5.fr
 replace p3:=p3.F s5.fr
 replace r4:=s5.row r4
 try simp only [cl_int,cl_bool,cl_slice,cl_ptr,putAt_one,zs0,zs1,ivec_set,brow_upd] at r4
 try simp -dsimp only [go_sem] at r4
 simp -dsimp only [go_sem,r2.cell,r4.cell]
 obtain ⟨_,_,ta⟩:=(m.fr p3).rel 0 (by decide)
 refine call_of (order_Linear ta (ht.fr p0 (.inr rfl)) (hl.fr p0) hb) ?_
 rintro v6 h6 ⟨f6,rfl⟩
 have f6_z:=f6.size
 replace p0:=p0.F f6
 replace r2:=r2.F f6
 replace p3:=p3.F f6
 replace r4:=r4.F f6
 by_cases hlin:LinP g.n (relM g 0) l
 rotate_left
 ·rw [if_neg hlin,decide_eq_false hlin]
  simp -dsimp only [go_sem,r2.cell,r4.cell]
  exact ⟨p0,rfl⟩
 rw [if_pos hlin,decide_eq_true hlin]
 have L:=LinF.of hlin
 have Ll:=L.len
 have gb:h.size≤h6.size∧b2<h6.size:=by omega
 clear r4 m
 simp -dsimp only [go_sem,r2.cell]
 refine loop_intro (fun s:Nat×Value=>[(2,.pointer (some ⟨b2,0,none⟩)),(8,s.2),(25,.slice la l.length lc),(26,.int .i64 l.length),(27,.int .i64 s.1)])
  (fun s h'=>s.1≤l.length∧Fr 0 0 h h'∧Rw h' b2 (gcells q g)∧h6.size≤h'.size∧Holder 1 h' s.2 (picksL g ((natsOf l).take s.1)).length (intsV (picksL g ((natsOf l).take s.1))) h6.size) (fun s=>l.length - s.1) (0,.slice none 0 0) ?_ ?_ ?_
 ·simp [Le,find]
 ·exact ⟨by omega,p0,r2,by omega,.none _ _ _⟩
 clear p0 r2 p3
 rintro ⟨i,sv⟩ h7 ⟨hi,p0,r2,z7,o⟩
 dsimp only at hi o ⊢
 obtain ⟨oa,oc,rfl⟩:=o.is
 unfold gcells at r2
 have p0_z:=p0.size
 have r2_l:=r2.lt
 have o_l:=o.top
 by_cases hlt:i<l.length
 ·have e1:((i:Int)<(l.length:Int)):=by omega
  obtain ⟨x,k1,k2,hx⟩:=L.at_ i hlt
  have hps:=picks_step (g:=g) k2
  have hpl:=picks_len' (g:=g) (m:=natsOf l) (i:=i)
  obtain ⟨eb,eo,he,hev⟩:=t.evs (by omega)
  obtain ⟨c0,c1,c2,c3,c4⟩:=hev h7 p0 x hx
  simp -dsimp only [go_sem,e1,r2.cell]
  refine (hl.fr p0).idx (by omega) fun lb lo hlc=>?_
  have k3:=hlc i _ (intsV_get k1)
  have e2:((x:Int)<(g.evs.length:Int)):=by show (x:Int)<(g.n:Int);omega
  simp -dsimp only [go_sem,k3,he,e2,c0,r2.cell]
  by_cases hth:(g.ev x).thread≥0
  ·rw [if_pos hth] at hps
   simp -dsimp only [go_sem,hth,r2.cell]
   intro b8 h8 n8
   have n8_z:=n8.az
   replace p0:=p0.F n8.f0
   replace r2:=r2.F n8.f0
   replace o:=o.fr n8.f0 (by have:=o.at_;omega)
   have r8:=n8.row
   simp -dsimp only [go_sem,r2.cell,r8.cell]
   refine o.append (by omega) rfl (by omega) (by simp) (by omega) fun v9 h9 o_new f9 e_app=>?_
   have f9_z:=f9.size
   have o_at:=o.at_
   replace p0:=p0.F f9
   replace r2:=r2.F f9
   replace r8:=r8.F f9
   clear o_at e_app
   replace o:=o_new
   have o_l:=o.top
   simp -dsimp only [go_sem,r2.cell,r8.cell]
   simp -dsimp (disch:=omega) only [wrap64]
   refine ⟨(i+1,v9),by dsimp only;omega,by simp [Le,find],by omega,p0,r2,by omega,?_⟩
   dsimp only
   rw [hps,intsV_append,List.length_append]
   exact o
  ·rw [if_neg hth,List.append_nil] at hps
   simp -dsimp only [go_sem,hth,r2.cell]
   simp -dsimp (disch:=omega) only [wrap64]
   refine ⟨(i+1,.slice oa (picksL g ((natsOf l).take i)).length oc),by dsimp only;omega,by simp [Le,find],by omega,p0,r2,by omega,?_⟩
   dsimp only
   rw [hps];exact o
 ·obtain rfl:i=l.length:=by omega
  have hal:(natsOf l).take l.length=natsOf l:=List.take_of_length_le (by simp [natsOf])
  simp -dsimp only [go_sem,Int.lt_irrefl,r2.cell]
  refine ⟨p0,_,rfl,?_⟩
  have o':=o.lower (lo':=h.size) (by omega)
  rw [hal] at o' ⊢;exact o'
end
end Go.Proofs.Tst
/-
  total: Replay, Right.
-/
namespace Go.Proofs.Tst
open Go Go.Vc
theorem urowX_zero (n:Nat):List.replicate n (Value.int .u64 0)=urow n fun _=>0:=by
 apply List.ext_getElem?;intro k
 by_cases hk:k<n
 ·simp [urow,hk]
 ·rw [List.getElem?_eq_none (by simp;omega),List.getElem?_eq_none (by simp [urow];omega)]
theorem urowX_congr {n:Nat} {f g:Nat→Int} (h:∀ j,j<n→f j=g j):urow n f=urow n g:=by
 unfold urow;exact List.map_congr_left fun j hj=>by rw [h j (List.mem_range.1 hj)]
section
variable {h : Heap} {q : GV} {g : Gr}
def mapW (g:Gr) (m:List Nat) (i:Nat) (c:Int):Option Value:=(lastW g (m.take i) c).map fun w=>.int .u64 (g.ev w).val
def mapL (g:Gr) (m:List Nat) (i:Nat) (c:Int):Option Value:=(lastW g (m.take i) c).map fun (w:Nat)=>.int .i64 (w:Int)
def mapQ (L:List (Int×Int)) (x:Int):Option Value:=(lkp L x).map fun v=>.int .i64 v
theorem lastW_step {m:List Nat} {i x:Nat} (hx:m[i]?=some x) (c:Int):lastW g (m.take (i+1)) c=if wrB g c x=true then some x else lastW g (m.take i) c:=by
 rw [List.take_add_one,hx];exact lastW_snoc _ _ _
theorem mapW_step {m:List Nat} {i x:Nat} (hx:m[i]?=some x) (hk:(g.ev x).kind=2) (c:Int):(if c=(g.ev x).loc then some (.int .u64 (g.ev x).val) else mapW g m i c)=mapW g m (i+1) c:=by
 unfold mapW
 rw [lastW_step hx]
 by_cases hc:c=(g.ev x).loc
 ·rw [if_pos hc,if_pos (wrB_iff.2 ⟨hk,hc.symm⟩)];rfl
 ·rw [if_neg hc,if_neg (fun h=>hc (wrB_iff.1 h).2.symm)]
theorem mapW_same {m:List Nat} {i x:Nat} (hx:m[i]?=some x) (hk:¬ (g.ev x).kind=2) (c:Int):mapW g m i c=mapW g m (i+1) c:=by
 unfold mapW
 rw [lastW_step hx,if_neg (fun h=>hk (wrB_iff.1 h).1)]
theorem mapL_step {m:List Nat} {i x:Nat} (hx:m[i]?=some x) (hk:(g.ev x).kind=2) (c:Int):(if c=(g.ev x).loc then some (.int .i64 (x:Int)) else mapL g m i c)=mapL g m (i+1) c:=by
 unfold mapL
 rw [lastW_step hx]
 by_cases hc:c=(g.ev x).loc
 ·rw [if_pos hc,if_pos (wrB_iff.2 ⟨hk,hc.symm⟩)];rfl
 ·rw [if_neg hc,if_neg (fun h=>hc (wrB_iff.1 h).2.symm)]
theorem mapL_same {m:List Nat} {i x:Nat} (hx:m[i]?=some x) (hk:¬ (g.ev x).kind=2) (c:Int):mapL g m i c=mapL g m (i+1) c:=by
 unfold mapL
 rw [lastW_step hx,if_neg (fun h=>hk (wrB_iff.1 h).1)]
def okTo (g:Gr) (m:List Nat) (i:Nat):Bool:=(List.range i).all fun j=>readOk g m j (m.getD j 0)
theorem okTo_succ {m:List Nat} {i x:Nat} (hx:m[i]?=some x):okTo g m (i+1)=(okTo g m i&&readOk g m i x):=by
 unfold okTo
 rw [List.range_succ,List.all_append]
 simp [hx]
theorem good_cells (hg:g.good=true):0≤g.cells∧g.cells≤4096∧g.cells≤(g.n:Int):=by
 have hs:=(good_n hg).2
 simp only [Gr.size,Bool.and_eq_true,decide_eq_true_eq] at hs
 exact ⟨hs.1.1.1,hs.1.1.2,hs.1.2⟩
set_option maxHeartbeats 4000000 in
theorem total_Replay (t:GrAt h q g) (ht:TabAt h) {la:Option Addr} {lc:Nat} {l:List Int} (hl:Rd 1 h (.slice la l.length lc) l.length (intsV l)) (hb:l.length≤4611686018427387904) :
  Con Tryd.prog 19 #[.agg (gcells q g).toArray,.slice la l.length lc] h fun v h'=>Fr 0 0 h h'∧if eachB g l=true then ∃ w,v=.tuple #[w,.bool (repOk g (natsOf l))]∧Holder 1 h' w (repFin g (natsOf l)).length (wordsV (repFin g (natsOf l))) h.size else v=.tuple #[.slice none 0 0,.bool false]:=by
 have p0:Fr 0 0 h h:=.refl _ _ _
 have hen:g.evs.length=g.n:=rfl
 by_cases he:eachB g l=true
 rotate_left
 ·simp only [if_neg he]
  refine con_q160 ?_
  unfold gcells
  simp -dsimp only [go_sem]
  intro b2 h1 n1
  have n1_a:=n1.at_
  have n1_z:=n1.size
  replace p0:=p0.F n1.f0
  have r2:=n1.row
  simp -dsimp only [go_sem,r2.cell]
  refine call_of (graph_Derive (t.fr p0) (ht.fr p0 (.inr rfl))) ?_
  rintro v3 h3 ⟨f3,w⟩
  have f3_z:=f3.size
  replace p0:=p0.F f3
  replace r2:=r2.F f3
  by_cases hg:g.good=true
  rotate_left
  ·rw [if_neg hg] at w
   subst w
   unfold fzero
   simp -dsimp only [go_sem,r2.cell]
   intro b4 h4 n4
   have n4_a:=n4.at_
   have n4_z:=n4.size
   replace p0:=p0.F n4.f0
   replace r2:=r2.F n4.f0
   have r4:=n4.row
   simp -dsimp only [go_sem,r2.cell,r4.cell]
   refine Chk_intro (r4.W) fun h5 s5=>?_
   have s5_z:=s5.size
   replace p0:=p0.F s5.fr
   replace r2:=r2.F s5.fr
   replace r4:=s5.row r4
   try simp only [cl_int,cl_bool,cl_slice,cl_ptr,putAt_one,zs0,zs1,ivec_set,brow_upd] at r4
   simp -dsimp only [go_sem,r2.cell,r4.cell]
   exact p0
  have hlin:¬ LinP g.n (fun _ _=>false) l:=fun hl=>he (by unfold eachB;simp [hl,hg])
  rw [if_pos hg] at w
  have hn:=(good_n hg).1
  have hcl:clampN (g.n:Int)=g.n:=by unfold clampN;omega
  obtain ⟨p,rd,wr,fe,rfl,F⟩:=w
  obtain ⟨c,ra,wa,fa,rn,wn,fn,e,m⟩:=Sm.of (t.fr p0) hg F
  clear F m
  rw [e]
  clear e
  simp -dsimp only [go_sem,r2.cell]
  intro b4 h4 n4
  have n4_a:=n4.at_
  have n4_z:=n4.size
  replace p0:=p0.F n4.f0
  replace r2:=r2.F n4.f0
  have r4:=n4.row
  simp -dsimp only [go_sem,r2.cell,r4.cell]
  refine Chk_intro (r4.W) fun h5 s5=>?_
  have s5_z:=s5.size
  replace p0:=p0.F s5.fr
  replace r2:=r2.F s5.fr
  replace r4:=s5.row r4
  try simp only [cl_int,cl_bool,cl_slice,cl_ptr,putAt_one,zs0,zs1,ivec_set,brow_upd] at r4
  simp -dsimp only [go_sem,hen,r2.cell,r4.cell]
  refine call_of (rel_New (g.n:Int) _) ?_
  rintro v6 h6 ⟨f6,t6⟩
  rw [hcl] at t6
  have f6_z:=f6.size
  replace p0:=p0.F f6
  replace r2:=r2.F f6
  replace r4:=r4.F f6
  simp -dsimp only [go_sem,r2.cell,r4.cell]
  refine call_of (order_Linear t6 (ht.fr p0 (.inr rfl)) (hl.fr p0) hb) ?_
  rintro v7 h7 ⟨f7,rfl⟩
  have f7_z:=f7.size
  replace p0:=p0.F f7
  replace r2:=r2.F f7
  replace r4:=r4.F f7
  rw [decide_eq_false hlin]
  simp -dsimp only [go_sem,r2.cell,r4.cell]
  exact p0
 simp only [if_pos he]
 have hg:g.good=true:=by unfold eachB at he;simp only [Bool.and_eq_true] at he;exact he.1
 have hlin:LinP g.n (fun _ _=>false) l:=by unfold eachB at he;simp only [Bool.and_eq_true,decide_eq_true_eq] at he;exact he.2
 obtain ⟨hc0,hc1,hc2⟩:=good_cells hg
 refine con_q160 ?_
 unfold gcells
 simp -dsimp only [go_sem]
 intro b2 h1 n1
 have n1_a:=n1.at_
 have n1_z:=n1.size
 replace p0:=p0.F n1.f0
 have r2:=n1.row
 simp -dsimp only [go_sem,r2.cell]
 refine call_of (graph_Derive (t.fr p0) (ht.fr p0 (.inr rfl))) ?_
 rintro v3 h3 ⟨f3,w⟩
 have f3_z:=f3.size
 replace p0:=p0.F f3
 replace r2:=r2.F f3
 rw [if_pos hg] at w
 have hn:=(good_n hg).1
 have hcl:clampN (g.n:Int)=g.n:=by unfold clampN;omega
 obtain ⟨p,rd,wr,fe,rfl,F⟩:=w
 obtain ⟨c,ra,wa,fa,rn,wn,fn,e,m⟩:=Sm.of (t.fr p0) hg F
 clear F m
 rw [e]
 clear e
 simp -dsimp only [go_sem,r2.cell]
 intro b4 h4 n4
 have n4_a:=n4.at_
 have n4_z:=n4.size
 replace p0:=p0.F n4.f0
 replace r2:=r2.F n4.f0
 have r4:=n4.row
 simp -dsimp only [go_sem,r2.cell,r4.cell]
 refine Chk_intro (r4.W) fun h5 s5=>?_
 have s5_z:=s5.size
 replace p0:=p0.F s5.fr
 replace r2:=r2.F s5.fr
 replace r4:=s5.row r4
 try simp only [cl_int,cl_bool,cl_slice,cl_ptr,putAt_one,zs0,zs1,ivec_set,brow_upd] at r4
 simp -dsimp only [go_sem,hen,r2.cell,r4.cell]
 refine call_of (rel_New (g.n:Int) _) ?_
 rintro v6 h6 ⟨f6,t6⟩
 rw [hcl] at t6
 have f6_z:=f6.size
 replace p0:=p0.F f6
 replace r2:=r2.F f6
 replace r4:=r4.F f6
 simp -dsimp only [go_sem,r2.cell,r4.cell]
 refine call_of (order_Linear t6 (ht.fr p0 (.inr rfl)) (hl.fr p0) hb) ?_
 rintro v7 h7 ⟨f7,rfl⟩
 have f7_z:=f7.size
 replace p0:=p0.F f7
 replace r2:=r2.F f7
 replace r4:=r4.F f7
 rw [decide_eq_true hlin]
 have L:=LinF.of hlin
 have Ll:=L.len
 have gb:h.size≤h7.size∧b2<h7.size:=by omega
 clear r4 t6
 simp -dsimp only [go_sem,r2.cell]
 intro b8 h8 n8
 have z8:=n8.size
 have a8:=n8.at_
 have M1:=n8.mapF
 replace p0:=p0.trans n8.f0
 replace r2:=r2.F n8.f0
 simp -dsimp only [go_sem,r2.cell]
 refine MapAt.of n8.get ⟨rfl,?_⟩
 simp -dsimp only [go_sem,r2.cell]
 refine loop_intro (fun i:Nat=>[(2,.pointer (some ⟨b2,0,none⟩)),(5,.bool (okTo g (natsOf l) i)),(8,.map (some b8)),(33,.slice la l.length lc),(34,.int .i64 l.length),(35,.int .i64 i)])
  (fun i h'=>i≤l.length∧Fr 0 0 h h'∧Rw h' b2 (gcells q g)∧h8.size≤h'.size∧MapF h' b8 (mapW g (natsOf l) i)) (fun i=>l.length - i) 0 ?_ ?_ ?_
 ·simp [Le,find,okTo]
 ·exact ⟨by omega,p0,r2,by omega,M1.congr fun x=>rfl⟩
 clear p0 r2 M1
 rintro i h9 ⟨hi,p0,r2,z9,M1⟩
 unfold gcells at r2
 have p0_z:=p0.size
 have r2_l:=r2.lt
 by_cases hlt:i<l.length
 ·have e1:((i:Int)<(l.length:Int)):=by omega
  obtain ⟨x,k1,k2,hx⟩:=L.at_ i hlt
  have hos:=okTo_succ (g:=g) k2
  obtain ⟨eb,eo,hee,hev⟩:=t.evs (by omega)
  obtain ⟨c0,c1,c2,c3,c4⟩:=hev h9 p0 x hx
  have e2:((x:Int)<(g.evs.length:Int)):=by show (x:Int)<(g.n:Int);omega
  simp -dsimp only [go_sem,e1,r2.cell]
  refine (hl.fr p0).idx (by omega) fun lb lo hlc=>?_
  have k3:=hlc i _ (intsV_get k1)
  simp -dsimp only [go_sem,k3,hee,e2,c0,c1,c2,c3,c4,r2.cell]
  intro b10 h10 n10
  have n10_z:=n10.az
  replace p0:=p0.F n10.f0
  replace r2:=r2.F n10.f0
  have r10:=n10.row
  replace M1:=M1.fr n10.f0 (by omega)
  simp -dsimp only [go_sem,r2.cell,r10.cell]
  refine Chk_intro (r10.W) fun h11 s11=>?_
  have s11_z:=s11.size
  replace p0:=p0.F s11.fr
  replace r2:=r2.F s11.fr
  replace r10:=s11.row r10
  try simp only [cl_int,cl_bool,cl_slice,cl_ptr,putAt_one,zs0,zs1,ivec_set,brow_upd] at r10
  replace M1:=M1.fr s11.fr (by have:=M1.lt;omega)
  try simp -dsimp only [go_sem] at r10
  simp -dsimp only [go_sem,r2.cell,r10.cell]
  refine M1.look1 (z:=.int .u64 0) (n:=(g.ev x).loc) fun mm hm1 hm2=>?_
  simp -dsimp only [go_sem,hm1,hm2,r2.cell,r10.cell]
  by_cases hk2:(g.ev x).kind=2
  ·have hro:readOk g (natsOf l) i x=true:=by unfold readOk;simp [hk2]
   rw [hro,Bool.and_true] at hos
   simp -dsimp only [go_sem,beq_t hk2,r2.cell,r10.cell]
   refine M1.set fun h12 M2 f12 z12=>?_
   have p12:=p0.fresh f12 (by omega)
   have r12:=r2.fr f12 (by omega)
   simp -dsimp only [go_sem,r2.cell,r10.cell]
   simp -dsimp (disch:=omega) only [wrap64]
   exact ⟨i+1,by omega,by simp [Le,find,hos],by omega,p12,r12,by omega,M2.congr fun c=>mapW_step k2 hk2 c⟩
  ·simp -dsimp only [go_sem,beq_f hk2,r2.cell,r10.cell]
   by_cases hk1:(g.ev x).kind=1
   ·simp -dsimp only [go_sem,beq_t hk1,r2.cell,r10.cell]
    have hmw:mapW g (natsOf l) i (g.ev x).loc=(lastW g ((natsOf l).take i) (g.ev x).loc).map fun w=>.int .u64 (g.ev w).val:=rfl
    have hro:readOk g (natsOf l) i x=match lastW g ((natsOf l).take i) (g.ev x).loc with | some w=>(g.ev w).val==(g.ev x).val | none=>false:=by
     unfold readOk;rw [hk1];cases lastW g ((natsOf l).take i) (g.ev x).loc <;> rfl
    have fin:∀ b,b=okTo g (natsOf l) (i+1)→b=okTo g (natsOf l) (i+1):=fun _ h=>h
    rw [hro] at hos
    rw [hmw]
    cases hok:okTo g (natsOf l) i
    ·rw [hok,Bool.false_and] at hos
     simp -dsimp only [go_sem,hok,r2.cell,r10.cell]
     simp -dsimp (disch:=omega) only [wrap64]
     exact ⟨i+1,by omega,by simp [Le,find,hos],by omega,p0,r2,by omega,M1.congr fun c=>mapW_same k2 (by omega) c⟩
    ·rw [hok,Bool.true_and] at hos
     cases hlw:lastW g ((natsOf l).take i) (g.ev x).loc with
     | none =>
      rw [hlw] at hos
      simp -dsimp only [go_sem,hok,Option.map_none,Option.isSome_none,r2.cell,r10.cell]
      simp -dsimp (disch:=omega) only [wrap64]
      exact ⟨i+1,by omega,by simp [Le,find,hos],by omega,p0,r2,by omega,M1.congr fun c=>mapW_same k2 (by omega) c⟩
     | some w =>
      rw [hlw] at hos
      simp -dsimp only [go_sem,hok,Option.map_some,Option.isSome_some,Option.getD_some,r2.cell,r10.cell]
      simp -dsimp (disch:=omega) only [wrap64]
      exact ⟨i+1,by omega,by simp [Le,find,hos],by omega,p0,r2,by omega,M1.congr fun c=>mapW_same k2 (by omega) c⟩
   ·have hro:readOk g (natsOf l) i x=true:=by unfold readOk;simp [hk1]
    rw [hro,Bool.and_true] at hos
    simp -dsimp only [go_sem,beq_f hk1,r2.cell,r10.cell]
    simp -dsimp (disch:=omega) only [wrap64]
    exact ⟨i+1,by omega,by simp [Le,find,hos],by omega,p0,r2,by omega,M1.congr fun c=>mapW_same k2 hk2 c⟩
 obtain rfl:i=l.length:=by omega
 have hml:(natsOf l).length=l.length:=by simp [natsOf]
 have hoa:okTo g (natsOf l) l.length=repOk g (natsOf l):=by rw [← hml];rfl
 have hma:∀ c,mapW g (natsOf l) l.length c=(lastW g (natsOf l) c).map fun w=>.int .u64 (g.ev w).val:=fun c=>by unfold mapW;rw [List.take_of_length_le (by omega)]
 simp -dsimp only [go_sem,Int.lt_irrefl,r2.cell]
 refine Chk_intro (by omega) ?_
 obtain ⟨K,hK⟩:=Int.eq_ofNat_of_zero_le hc0
 rw [hK,zeros_one,Int.toNat_natCast,urowX_zero]
 intro b12 h12 n12
 have n12_z:=n12.az
 replace p0:=p0.F n12.f0
 replace r2:=r2.F n12.f0
 have r12:=n12.row
 replace M1:=M1.fr n12.f0 (by omega)
 have ez:urow K (fun _=>0)=urow K (fun j=>if j<0 then repVal g (natsOf l) (j:Int) else 0):=urowX_congr fun j _=>by simp
 rw [ez] at r12
 have hKl:(repFin g (natsOf l)).length=K:=by unfold repFin;simp [hK]
 have zz:h9.size≤b12:=by omega
 simp -dsimp only [go_sem,r2.cell,r12.cell]
 refine loop_intro (fun i:Nat=>[(4,.slice (some ⟨b12,0,none⟩) K K),(5,.bool (repOk g (natsOf l))),(8,.map (some b8)),(77,.int .i64 K),(78,.int .i64 i)])
  (fun i h'=>i≤K∧Fr 0 0 h h'∧Rw h' b12 (urow K (fun j=>if j<i then repVal g (natsOf l) (j:Int) else 0))∧MapF h' b8 (mapW g (natsOf l) l.length)) (fun i=>K - i) 0 ?_ ?_ ?_
 ·simp [Le,find,hoa]
 ·exact ⟨by omega,p0,r12,M1⟩
 clear p0 r2 r12 M1
 rintro i h13 ⟨hi,p0,r12,M1⟩
 have p0_z:=p0.size
 have r12_l:=r12.lt
 by_cases hlt:i<K
 ·have e1:((i:Int)<(K:Int)):=by omega
  simp -dsimp only [go_sem,e1,r12.cell]
  refine M1.look1 (z:=.int .u64 0) (n:=(i:Int)) fun mm hm1 _=>?_
  have hv:(mapW g (natsOf l) l.length (i:Int)).getD (.int .u64 0)=.int .u64 (repVal g (natsOf l) (i:Int)):=by
   rw [hma];unfold repVal
   cases lastW g (natsOf l) (i:Int) <;> rfl
  rw [hv] at hm1
  simp -dsimp only [go_sem,hm1,e1,r12.cell]
  refine Chk_intro (r12.wr (by simp;omega)) fun h14 s14=>?_
  have r14:=s14.row r12
  rw [cl_int,putAt_one,urow_set] at r14
  have M2:=M1.fr s14.fr (by have:=M1.lt;omega)
  have p14:=p0.fresh s14.fr (by omega)
  simp -dsimp only [go_sem,r12.cell]
  simp -dsimp (disch:=omega) only [wrap64]
  refine ⟨i+1,by omega,by simp [Le,find],by omega,p14,?_,M2⟩
  rw [urowX_congr (g:=fun j=>if j<i+1 then repVal g (natsOf l) (j:Int) else 0) fun j _=>?_] at r14
  ·exact r14
  ·by_cases hj:j=i
   ·subst hj;simp
   ·rw [if_neg hj]
    by_cases h2:j<i
    ·rw [if_pos h2,if_pos (by omega)]
    ·rw [if_neg h2,if_neg (by omega)]
 ·obtain rfl:i=K:=by omega
  simp -dsimp only [go_sem,Int.lt_irrefl,r12.cell]
  have ee:urow i (fun j=>if j<i then repVal g (natsOf l) (j:Int) else 0)=wordsV (repFin g (natsOf l)):=by
   unfold repFin wordsV
   rw [hK,Int.toNat_natCast,List.map_map]
   unfold urow
   refine List.map_congr_left fun j hj=>?_
   have:=List.mem_range.1 hj
   simp [this]
  rw [ee] at r12
  refine ⟨p0,_,rfl,?_⟩
  rw [hKl]
  exact holder_row (s:=1) r12 (by simp [wordsV,hKl]) (by omega)
end
end Go.Proofs.Tst
/-
  total: Right.
-/
namespace Go.Proofs.Tst
open Go Go.Vc
section
variable {h : Heap} {q : GV} {g : Gr}
theorem rightB_bad {l:List Int} (hg:g.good=true) {i x:Nat} (hx:(natsOf l)[i]?=some x) (hb:okB g (natsOf l) i x=false):rightB g l=false:=by
 cases hr:rightB g l
 ·rfl
 ·unfold rightB at hr
  simp only [Bool.and_eq_true,allB_iff] at hr
  rw [hr.2.2 i x hx] at hb;cases hb
def okU (g:Gr) (m:List Nat) (i:Nat):Prop:=∀ j y,j<i→m[j]?=some y→okB g m j y=true
theorem okU_succ {m:List Nat} {i x:Nat} (hx:m[i]?=some x) (h:okU g m i) (hb:okB g m i x=true):okU g m (i+1):=fun j y hj hy=>by
 by_cases he:j=i
 ·subst he;rw [hx] at hy;cases hy;exact hb
 ·exact h j y (by omega) hy
theorem rfK_take {i:Nat} {p:Int×Int} (hp:g.rf[i]?=some p):((g.rf.take (i+1)).map fun p=>(p.2,p.1))=((g.rf.take i).map fun p=>(p.2,p.1))++[(p.2,p.1)]:=by
 rw [List.take_add_one,hp];simp
theorem mapQ_snoc (L:List (Int×Int)) (a b:Int) (x:Int):(if x=a then some (.int .i64 b) else mapQ L x)=mapQ (L++[(a,b)]) x:=by
 unfold mapQ
 rw [lkp_snoc]
 by_cases h:x=a
 ·rw [if_pos h,if_pos h];rfl
 ·rw [if_neg h,if_neg h]
set_option maxHeartbeats 8000000 in
theorem total_Right (t:GrAt h q g) (ht:TabAt h) {la:Option Addr} {lc:Nat} {l:List Int} (hl:Rd 1 h (.slice la l.length lc) l.length (intsV l)) (hb:l.length≤4611686018427387904) :
  Con Tryd.prog 25 #[.agg (gcells q g).toArray,.slice la l.length lc] h fun v h'=>Fr 0 0 h h'∧v=.bool (rightB g l):=by
 refine con_q161 ?_
 have p0:Fr 0 0 h h:=.refl _ _ _
 have hen:g.evs.length=g.n:=rfl
 have bf:=t.fits.f
 have br:=t.fits.r
 unfold gcells
 simp -dsimp only [go_sem]
 intro b2 h1 n1
 have n1_z:=n1.az
 replace p0:=p0.F n1.f0
 have r2:=n1.row
 simp -dsimp only [go_sem,r2.cell]
 refine call_of (graph_Derive (t.fr p0) (ht.fr p0 (.inr rfl))) ?_
 rintro v3 h3 ⟨f3,w⟩
 have f3_z:=f3.size
 replace p0:=p0.F f3
 replace r2:=r2.F f3
 by_cases hg:g.good=true
 rotate_left
 ·rw [if_neg hg] at w
  have e:rightB g l=false:=by unfold rightB;simp [hg]
  rw [e]
  subst w
  unfold fzero
  simp -dsimp only [go_sem,r2.cell]
  intro b4 h4 n4
  have n4_a:=n4.at_
  have n4_z:=n4.size
  replace p0:=p0.F n4.f0
  replace r2:=r2.F n4.f0
  have r4:=n4.row
  simp -dsimp only [go_sem,r2.cell,r4.cell]
  refine Chk_intro (r4.W) fun h5 s5=>?_
  have s5_z:=s5.size
  replace p0:=p0.F s5.fr
  replace r2:=r2.F s5.fr
  replace r4:=s5.row r4
  try simp only [cl_int,cl_bool,cl_slice,cl_ptr,putAt_one,zs0,zs1,ivec_set,brow_upd] at r4
  simp -dsimp only [go_sem,r2.cell,r4.cell]
  exact p0
 rw [if_pos hg] at w
 have hn:=(good_n hg).1
 obtain ⟨hc0,hc1,hc2⟩:=good_cells hg
 obtain ⟨p,rd,wr,fe,rfl,F⟩:=w
 obtain ⟨c,ra,wa,fa,rn,wn,fn,e,m⟩:=Sm.of (t.fr p0) hg F
 clear F
 rw [e]
 clear e
 have p3:Fr 0 0 h3 h3:=.refl _ _ _
 simp -dsimp only [go_sem,r2.cell]
 intro b4 h4 n4
 have n4_a:=n4.at_
 have n4_z:=n4.size
 replace p0:=p0.F n4.f0
 replace r2:=r2.F n4.f0
 replace p3:=p3.F n4.f0
 have r4:=n4.row
 simp -dsimp only [go_sem,r2.cell,r4.cell]
 refine Chk_intro (r4.W) fun h5 s5=>?_
 have s5_z:=s5.size
 replace p0:=p0.F s5.fr
 replace r2:=r2.F s5.fr
 replace p3:=p3.F s5.fr
 replace r4:=s5.row r4
 try simp only [cl_int,cl_bool,cl_slice,cl_ptr,putAt_one,zs0,zs1,ivec_set,brow_upd] at r4
 simp -dsimp only [go_sem] at r4
 simp -dsimp only [go_sem,r2.cell,r4.cell]
 intro b6 h6 n6
 have n6_z:=n6.az
 replace p0:=p0.F n6.f0
 replace r2:=r2.F n6.f0
 replace p3:=p3.F n6.f0
 replace r4:=r4.F n6.f0
 have r6:=n6.row
 simp -dsimp only [go_sem,r2.cell,r4.cell,r6.cell]
 replace m:=m.fr p3
 refine call_of (rel_UnionU (UA.mk' [(.pointer (some ⟨c 0,0,none⟩),relM g 0),(.pointer (some ⟨c 2,0,none⟩),relM g 2)] r6 (pa_cons (m.rel 0 (by decide)) (pa_cons (m.rel 2 (by decide)) pa_nil)) (by simp) (by simp))) ?_
 rintro v7 h7 ⟨f7,t7⟩
 have f7_z:=f7.size
 replace p0:=p0.F f7
 replace r2:=r2.F f7
 replace p3:=p3.F f7
 replace r4:=r4.F f7
 replace r6:=r6.F f7
 have t7:=t7.congr (M':=pcM g) fun i j _ _=>by simp [orM,pcM]
 simp -dsimp only [go_sem,r2.cell,r4.cell,r6.cell]
 refine call_of (order_Linear t7 (ht.fr p0 (.inr rfl)) (hl.fr p0) hb) ?_
 rintro v8 h8 ⟨f8,rfl⟩
 have f8_z:=f8.size
 replace p0:=p0.F f8
 replace r2:=r2.F f8
 replace p3:=p3.F f8
 replace r4:=r4.F f8
 replace r6:=r6.F f8
 by_cases hlin:LinP g.n (pcM g) l
 rotate_left
 ·have e:rightB g l=false:=by unfold rightB;simp [hlin]
  rw [decide_eq_false hlin,e]
  simp -dsimp only [go_sem,r2.cell,r4.cell,r6.cell]
  exact p0
 rw [decide_eq_true hlin]
 have L:=LinF.of hlin
 have Ll:=L.len
 have gb:h.size≤h8.size∧b2<h8.size:=by omega
 clear r4 r6 t7 m p3
 simp -dsimp only [go_sem,r2.cell]
 intro b7 h9 n9
 have z9:=n9.size
 have a9:=n9.at_
 have M1:=n9.mapF
 replace p0:=p0.trans n9.f0
 replace r2:=r2.F n9.f0
 simp -dsimp only [go_sem,r2.cell]
 refine loop_intro (fun i:Nat=>[(1,.slice la l.length lc),(2,.pointer (some ⟨b2,0,none⟩)),(7,.map (some b7)),(43,.slice q.f g.rf.length q.fc),(44,.int .i64 g.rf.length),(45,.int .i64 i)])
  (fun i h'=>i≤g.rf.length∧Fr 0 0 h h'∧Rw h' b2 (gcells q g)∧h9.size≤h'.size∧MapF h' b7 (mapQ ((g.rf.take i).map fun p=>(p.2,p.1)))) (fun i=>g.rf.length - i) 0 ?_ ?_ ?_
 ·simp [Le,find]
 ·exact ⟨by omega,p0,r2,by omega,M1.congr fun x=>rfl⟩
 clear p0 r2 M1
 rintro i h10 ⟨hi,p0,r2,z10,M1⟩
 unfold gcells at r2
 have p0_z:=p0.size
 have r2_l:=r2.lt
 by_cases hlt:i<g.rf.length
 ·have e1:((i:Int)<(g.rf.length:Int)):=by omega
  have hq:g.rf[i]?=some g.rf[i]:=List.getElem?_eq_getElem hlt
  generalize g.rf[i]=pr at hq
  obtain ⟨rb,ro,hre,hrc⟩:=t.f.pairsAt (by omega)
  obtain ⟨k1,k2⟩:=hrc h10 p0 i _ hq
  simp -dsimp only [go_sem,e1,hre,k1,k2,r2.cell]
  intro b11 h11 n11
  have n11_z:=n11.az
  replace p0:=p0.F n11.f0
  replace r2:=r2.F n11.f0
  have r11:=n11.row
  replace M1:=M1.fr n11.f0 (by omega)
  simp -dsimp only [go_sem,r2.cell,r11.cell]
  refine Chk_intro (r11.W) fun h12 s12=>?_
  have s12_z:=s12.size
  replace p0:=p0.F s12.fr
  replace r2:=r2.F s12.fr
  replace r11:=s12.row r11
  try simp only [cl_int,cl_bool,cl_slice,cl_ptr,putAt_one,zs0,zs1,ivec_set,brow_upd] at r11
  replace M1:=M1.fr s12.fr (by have:=M1.lt;omega)
  try simp -dsimp only [go_sem] at r11
  simp -dsimp only [go_sem,r2.cell,r11.cell]
  refine M1.set fun h13 M2 f13 z13=>?_
  have p13:=p0.fresh f13 (by omega)
  have r13:=r2.fr f13 (by omega)
  simp -dsimp only [go_sem,r2.cell,r11.cell]
  simp -dsimp (disch:=omega) only [wrap64]
  exact ⟨i+1,by omega,by simp [Le,find,hre],by omega,p13,r13,by omega,M2.congr fun x=>by rw [rfK_take hq];exact mapQ_snoc _ _ _ _⟩
 obtain rfl:i=g.rf.length:=by omega
 replace M1:MapF h10 b7 (mapQ (rfK g)):=M1.congr fun x=>by rw [List.take_length];rfl
 simp -dsimp only [go_sem,Int.lt_irrefl,r2.cell]
 intro b8 h11 n11
 have z11:=n11.size
 have a11:=n11.at_
 have N1:=n11.mapF
 replace p0:=p0.trans n11.f0
 replace r2:=r2.F n11.f0
 replace M1:=M1.fr n11.f0 (by omega)
 have l1:=M1.lt
 simp -dsimp only [go_sem,r2.cell]
 refine loop_intro (fun i:Nat=>[(1,.slice la l.length lc),(2,.pointer (some ⟨b2,0,none⟩)),(7,.map (some b7)),(10,.map (some b8)),(57,.slice q.r g.rmw.length q.rc),(58,.int .i64 g.rmw.length),(59,.int .i64 i)])
  (fun i h'=>i≤g.rmw.length∧Fr 0 0 h h'∧Rw h' b2 (gcells q g)∧h11.size≤h'.size∧MapF h' b7 (mapQ (rfK g))∧MapF h' b8 (mapQ (g.rmw.take i))) (fun i=>g.rmw.length - i) 0 ?_ ?_ ?_
 ·simp [Le,find]
 ·exact ⟨by omega,p0,r2,by omega,M1,N1.congr fun x=>rfl⟩
 clear p0 r2 M1 N1
 rintro i h12 ⟨hi,p0,r2,z12,M1,N1⟩
 unfold gcells at r2
 have p0_z:=p0.size
 have r2_l:=r2.lt
 by_cases hlt:i<g.rmw.length
 ·have e1:((i:Int)<(g.rmw.length:Int)):=by omega
  have hq:g.rmw[i]?=some g.rmw[i]:=List.getElem?_eq_getElem hlt
  generalize g.rmw[i]=pr at hq
  obtain ⟨rb,ro,hre,hrc⟩:=t.r.pairsAt (by omega)
  obtain ⟨k1,k2⟩:=hrc h12 p0 i _ hq
  simp -dsimp only [go_sem,e1,hre,k1,k2,r2.cell]
  intro b13 h13 n13
  have n13_z:=n13.az
  replace p0:=p0.F n13.f0
  replace r2:=r2.F n13.f0
  have r13:=n13.row
  replace M1:=M1.fr n13.f0 (by omega)
  replace N1:=N1.fr n13.f0 (by omega)
  simp -dsimp only [go_sem,r2.cell,r13.cell]
  refine Chk_intro (r13.W) fun h14 s14=>?_
  have s14_z:=s14.size
  replace p0:=p0.F s14.fr
  replace r2:=r2.F s14.fr
  replace r13:=s14.row r13
  try simp only [cl_int,cl_bool,cl_slice,cl_ptr,putAt_one,zs0,zs1,ivec_set,brow_upd] at r13
  replace M1:=M1.fr s14.fr (by have:=M1.lt;omega)
  replace N1:=N1.fr s14.fr (by have:=N1.lt;omega)
  try simp -dsimp only [go_sem] at r13
  simp -dsimp only [go_sem,r2.cell,r13.cell]
  refine N1.set fun h15 N2 f15 z15=>?_
  have p15:=p0.fresh f15 (by omega)
  have r15:=r2.fr f15 (by omega)
  have M2:=M1.fr f15 (by omega)
  simp -dsimp only [go_sem,r2.cell,r13.cell]
  simp -dsimp (disch:=omega) only [wrap64]
  exact ⟨i+1,by omega,by simp [Le,find,hre],by omega,p15,r15,by omega,M2,N2.congr fun x=>by rw [List.take_add_one,hq,Option.toList_some];exact mapQ_snoc _ _ _ _⟩
 obtain rfl:i=g.rmw.length:=by omega
 rw [List.take_length] at N1
 simp -dsimp only [go_sem,Int.lt_irrefl,r2.cell]
 intro b9 h13 n13
 have z13:=n13.size
 have a13:=n13.at_
 have O1:=n13.mapF
 replace p0:=p0.trans n13.f0
 replace r2:=r2.F n13.f0
 have l2:=N1.lt
 replace M1:=M1.fr n13.f0 (by omega)
 replace N1:=N1.fr n13.f0 (by omega)
 simp -dsimp only [go_sem,r2.cell]
 refine loop_intro (fun i:Nat=>[(1,.slice la l.length lc),(2,.pointer (some ⟨b2,0,none⟩)),(7,.map (some b7)),(10,.map (some b8)),(13,.map (some b9)),(70,.slice la l.length lc),(71,.int .i64 l.length),(72,.int .i64 i)])
  (fun i h'=>i≤l.length∧Fr 0 0 h h'∧Rw h' b2 (gcells q g)∧h13.size≤h'.size∧MapF h' b7 (mapQ (rfK g))∧MapF h' b8 (mapQ g.rmw)∧MapF h' b9 (mapL g (natsOf l) i)∧okU g (natsOf l) i) (fun i=>l.length - i) 0 ?_ ?_ ?_
 ·simp [Le,find]
 ·exact ⟨by omega,p0,r2,by omega,M1,N1,O1.congr fun x=>rfl,fun j y hj=>by omega⟩
 clear p0 r2 M1 N1 O1
 rintro i h14 ⟨hi,p0,r2,z14,M1,N1,O1,hU⟩
 unfold gcells at r2
 have p0_z:=p0.size
 have r2_l:=r2.lt
 by_cases hlt:i<l.length
 rotate_left
 ·obtain rfl:i=l.length:=by omega
  have e:rightB g l=true:=by
   unfold rightB
   simp only [Bool.and_eq_true,decide_eq_true_eq,allB_iff]
   exact ⟨hg,hlin,fun j y hy=>hU j y (by have:=(List.getElem?_eq_some_iff.1 hy).1;simpa [natsOf] using this) hy⟩
  rw [e]
  simp -dsimp only [go_sem,Int.lt_irrefl,r2.cell]
  exact p0
 have e1:((i:Int)<(l.length:Int)):=by omega
 obtain ⟨x,k1,k2,hx⟩:=L.at_ i hlt
 obtain ⟨eb,eo,hee,hev⟩:=t.evs (by omega)
 obtain ⟨c0,c1,c2,c3,c4⟩:=hev h14 p0 x hx
 have e2:((x:Int)<(g.evs.length:Int)):=by show (x:Int)<(g.n:Int);omega
 obtain ⟨hll,la',lc',hle,hld⟩:=hl
 cases hle
 rcases hld with hld | ⟨lb,lo,rfl,hlc⟩
 ·omega
 have k3:=p0.keep (hlc i _ (intsV_get k1)) (by omega)
 simp -dsimp only [go_sem,e1,k3,hee,e2,c0,c1,c2,c3,c4,r2.cell]
 intro b15 h15 n15
 have n15_z:=n15.az
 replace p0:=p0.F n15.f0
 replace r2:=r2.F n15.f0
 have r15:=n15.row
 replace M1:=M1.fr n15.f0 (by omega)
 replace N1:=N1.fr n15.f0 (by omega)
 replace O1:=O1.fr n15.f0 (by omega)
 simp -dsimp only [go_sem,r2.cell,r15.cell]
 refine Chk_intro (r15.W) fun h16 s16=>?_
 have s16_z:=s16.size
 replace p0:=p0.F s16.fr
 replace r2:=r2.F s16.fr
 replace r15:=s16.row r15
 try simp only [cl_int,cl_bool,cl_slice,cl_ptr,putAt_one,zs0,zs1,ivec_set,brow_upd] at r15
 replace M1:=M1.fr s16.fr (by have:=M1.lt;omega)
 replace N1:=N1.fr s16.fr (by have:=N1.lt;omega)
 replace O1:=O1.fr s16.fr (by have:=O1.lt;omega)
 try simp -dsimp only [go_sem] at r15
 simp -dsimp only [go_sem,r2.cell,r15.cell]
 have bad:okB g (natsOf l) i x=false→rightB g l=false:=fun hb=>rightB_bad hg k2 hb
 by_cases hth:((i:Int)<g.cells)∧(g.ev x).thread≥0
 ·obtain ⟨ha,hb'⟩:=hth
  have e:rightB g l=false:=bad (by unfold okB;simp [ha];omega)
  rw [e]
  simp -dsimp only [go_sem,ha,hb',r2.cell,r15.cell]
  exact p0
 have q1:(!decide ((i:Int)<g.cells)||decide ((g.ev x).thread<0))=true:=by simp;omega
 have go2:∀ (P:Prop),((¬ ((i:Int)<g.cells)→P)∧(((i:Int)<g.cells)→¬ (g.ev x).thread≥0→P))→P:=fun P ⟨a,b⟩=>by
  by_cases h1:(i:Int)<g.cells
  ·exact b h1 (fun h2=>hth ⟨h1,h2⟩)
  ·exact a h1
 have hqf:mapQ (rfK g) (x:Int)=(lkp (rfK g) (x:Int)).map fun v=>.int .i64 v:=rfl
 have hqr:mapQ g.rmw (x:Int)=(lkp g.rmw (x:Int)).map fun v=>.int .i64 v:=rfl
 have hql:mapL g (natsOf l) i (g.ev x).loc=(lastW g ((natsOf l).take i) (g.ev x).loc).map fun (w:Nat)=>.int .i64 (w:Int):=rfl
 have start:∀ (P:Prop),(∀ (b:Bool),(b=decide ((i:Int)<g.cells))→True)→P→P:=fun P _ h=>h
 clear start
 refine go2 _ ⟨fun hci=>?_,fun hci htn=>?_⟩
 rotate_left
 ·simp -dsimp only [go_sem,hci,htn,r2.cell,r15.cell]
  refine M1.look1 (z:=.int .i64 0) (n:=(x:Int)) fun ma ha1 ha2=>?_
  rw [hqf] at ha1 ha2
  cases hlf:lkp (rfK g) (x:Int) with
  | none =>
   rw [hlf] at ha1 ha2
   rw [Option.map_none] at ha1 ha2
   simp -dsimp only [go_sem,ha1,ha2,Option.isSome_none,r2.cell,r15.cell]
   refine N1.look1 (z:=.int .i64 0) (n:=(x:Int)) fun mb hb1 hb2=>?_
   rw [hqr] at hb1 hb2
   cases hlr:lkp g.rmw (x:Int) with
   | none =>
    rw [hlr] at hb1 hb2
    rw [Option.map_none] at hb1 hb2
    simp -dsimp only [go_sem,hb1,hb2,Option.isSome_none,r2.cell,r15.cell]
    have hok:okB g (natsOf l) i x=true:=by
     have q2:=(show lkOk (rfK g) (x:Int) (natO (lastW g ((natsOf l).take i) (g.ev x).loc))=true by unfold lkOk;rw [hlf])
     have q3:=(show lkOk g.rmw (x:Int) (natO (natsOf l)[i+1]?)=true by unfold lkOk;rw [hlr])
     unfold okB
     rw [q1,q2,q3];rfl
    by_cases hk2:(g.ev x).kind=2
    ·simp -dsimp only [go_sem,beq_t hk2,r2.cell,r15.cell]
     refine O1.set fun h17 O2 f17 z17=>?_
     have p17:=p0.fresh f17 (by omega)
     have r17:=r2.fr f17 (by omega)
     have M2:=M1.fr f17 (by omega)
     have N2:=N1.fr f17 (by omega)
     simp -dsimp only [go_sem,r2.cell,r15.cell]
     simp -dsimp (disch:=omega) only [wrap64]
     exact ⟨i+1,by omega,by simp [Le,find],by omega,p17,r17,by omega,M2,N2,O2.congr fun c=>mapL_step k2 hk2 c,okU_succ k2 hU hok⟩
    ·simp -dsimp only [go_sem,beq_f hk2,r2.cell,r15.cell]
     simp -dsimp (disch:=omega) only [wrap64]
     exact ⟨i+1,by omega,by simp [Le,find],by omega,p0,r2,by omega,M1,N1,O1.congr fun c=>mapL_same k2 hk2 c,okU_succ k2 hU hok⟩
   | some y =>
    rw [hlr] at hb1 hb2
    rw [Option.map_some] at hb1 hb2
    have hw:IntKind.i64.wrap ((i:Int)+1)=((i+1:Nat):Int):=by rw [wrap64 (by omega) (by omega)];omega
    by_cases hend:i+1=l.length
    ·have e:rightB g l=false:=bad (by
      have:(natsOf l)[i+1]?=none:=List.getElem?_eq_none (by simp [natsOf];omega)
      unfold okB lkOk;rw [hlr,this];simp [natO])
     have hend':(((i+1:Nat):Int)==((l.length:Nat):Int))=true:=by simp;omega
     rw [e]
     simp -dsimp only [go_sem,hb1,hb2,Option.isSome_some,Option.getD_some,hw,hend',r2.cell,r15.cell]
     exact p0
    obtain ⟨x',j1,j2,hx'⟩:=L.at_ (i+1) (by omega)
    have k4:=p0.keep (hlc (i+1) _ (intsV_get j1)) (by omega)
    have hend':(((i+1:Nat):Int)==((l.length:Nat):Int))=false:=by simp;omega
    have e3:(((i+1:Nat):Int)<((l.length:Nat):Int)):=by omega
    by_cases hxy:(x':Int)=y
    ·simp -dsimp only [go_sem,hb1,hb2,Option.isSome_some,Option.getD_some,hw,hend',e3,k4,bne_t hxy,r2.cell,r15.cell]
     have hok:okB g (natsOf l) i x=true:=by
      have q2:=(show lkOk (rfK g) (x:Int) (natO (lastW g ((natsOf l).take i) (g.ev x).loc))=true by unfold lkOk;rw [hlf])
      have q3:=(show lkOk g.rmw (x:Int) (natO (natsOf l)[i+1]?)=true by unfold lkOk;rw [hlr,j2];simp [natO,hxy])
      unfold okB
      rw [q1,q2,q3];rfl
     by_cases hk2:(g.ev x).kind=2
     ·simp -dsimp only [go_sem,beq_t hk2,r2.cell,r15.cell]
      refine O1.set fun h17 O2 f17 z17=>?_
      have p17:=p0.fresh f17 (by omega)
      have r17:=r2.fr f17 (by omega)
      have M2:=M1.fr f17 (by omega)
      have N2:=N1.fr f17 (by omega)
      simp -dsimp only [go_sem,r2.cell,r15.cell]
      simp -dsimp (disch:=omega) only [wrap64]
      exact ⟨i+1,by omega,by simp [Le,find],by omega,p17,r17,by omega,M2,N2,O2.congr fun c=>mapL_step k2 hk2 c,okU_succ k2 hU hok⟩
     ·simp -dsimp only [go_sem,beq_f hk2,r2.cell,r15.cell]
      simp -dsimp (disch:=omega) only [wrap64]
      exact ⟨i+1,by omega,by simp [Le,find],by omega,p0,r2,by omega,M1,N1,O1.congr fun c=>mapL_same k2 hk2 c,okU_succ k2 hU hok⟩
    ·have e:rightB g l=false:=bad (by unfold okB lkOk;rw [hlr,j2];simp [natO,hxy])
     rw [e]
     simp -dsimp only [go_sem,hb1,hb2,Option.isSome_some,Option.getD_some,hw,hend',e3,k4,bne_f hxy,r2.cell,r15.cell]
     exact p0
  | some w =>
   rw [hlf] at ha1 ha2
   rw [Option.map_some] at ha1 ha2
   simp -dsimp only [go_sem,ha1,ha2,Option.isSome_some,Option.getD_some,r2.cell,r15.cell]
   refine O1.look1 (z:=.int .i64 0) (n:=(g.ev x).loc) fun mc hc1 hc2=>?_
   rw [hql] at hc1 hc2
   cases hlw:lastW g ((natsOf l).take i) (g.ev x).loc with
   | none =>
    rw [hlw] at hc1 hc2
    rw [Option.map_none] at hc1 hc2
    have e:rightB g l=false:=bad (by unfold okB lkOk;rw [hlf,hlw];simp [natO])
    rw [e]
    simp -dsimp only [go_sem,hc1,hc2,Option.isSome_none,r2.cell,r15.cell]
    exact p0
   | some v =>
    rw [hlw] at hc1 hc2
    rw [Option.map_some] at hc1 hc2
    by_cases hvw:(v:Int)=w
    ·simp -dsimp only [go_sem,hc1,hc2,Option.isSome_some,Option.getD_some,bne_t hvw,r2.cell,r15.cell]
     refine N1.look1 (z:=.int .i64 0) (n:=(x:Int)) fun mb hb1 hb2=>?_
     rw [hqr] at hb1 hb2
     cases hlr:lkp g.rmw (x:Int) with
     | none =>
      rw [hlr] at hb1 hb2
      rw [Option.map_none] at hb1 hb2
      simp -dsimp only [go_sem,hb1,hb2,Option.isSome_none,r2.cell,r15.cell]
      have hok:okB g (natsOf l) i x=true:=by
       have q2:=(show lkOk (rfK g) (x:Int) (natO (lastW g ((natsOf l).take i) (g.ev x).loc))=true by unfold lkOk;rw [hlf,hlw];simp [natO,hvw])
       have q3:=(show lkOk g.rmw (x:Int) (natO (natsOf l)[i+1]?)=true by unfold lkOk;rw [hlr])
       unfold okB
       rw [q1,q2,q3];rfl
      by_cases hk2:(g.ev x).kind=2
      ·simp -dsimp only [go_sem,beq_t hk2,r2.cell,r15.cell]
       refine O1.set fun h17 O2 f17 z17=>?_
       have p17:=p0.fresh f17 (by omega)
       have r17:=r2.fr f17 (by omega)
       have M2:=M1.fr f17 (by omega)
       have N2:=N1.fr f17 (by omega)
       simp -dsimp only [go_sem,r2.cell,r15.cell]
       simp -dsimp (disch:=omega) only [wrap64]
       exact ⟨i+1,by omega,by simp [Le,find],by omega,p17,r17,by omega,M2,N2,O2.congr fun c=>mapL_step k2 hk2 c,okU_succ k2 hU hok⟩
      ·simp -dsimp only [go_sem,beq_f hk2,r2.cell,r15.cell]
       simp -dsimp (disch:=omega) only [wrap64]
       exact ⟨i+1,by omega,by simp [Le,find],by omega,p0,r2,by omega,M1,N1,O1.congr fun c=>mapL_same k2 hk2 c,okU_succ k2 hU hok⟩
     | some y =>
      rw [hlr] at hb1 hb2
      rw [Option.map_some] at hb1 hb2
      have hw:IntKind.i64.wrap ((i:Int)+1)=((i+1:Nat):Int):=by rw [wrap64 (by omega) (by omega)];omega
      by_cases hend:i+1=l.length
      ·have e:rightB g l=false:=bad (by
        have:(natsOf l)[i+1]?=none:=List.getElem?_eq_none (by simp [natsOf];omega)
        unfold okB lkOk;rw [hlr,this];simp [natO])
       have hend':(((i+1:Nat):Int)==((l.length:Nat):Int))=true:=by simp;omega
       rw [e]
       simp -dsimp only [go_sem,hb1,hb2,Option.isSome_some,Option.getD_some,hw,hend',r2.cell,r15.cell]
       exact p0
      obtain ⟨x',j1,j2,hx'⟩:=L.at_ (i+1) (by omega)
      have k4:=p0.keep (hlc (i+1) _ (intsV_get j1)) (by omega)
      have hend':(((i+1:Nat):Int)==((l.length:Nat):Int))=false:=by simp;omega
      have e3:(((i+1:Nat):Int)<((l.length:Nat):Int)):=by omega
      by_cases hxy:(x':Int)=y
      ·simp -dsimp only [go_sem,hb1,hb2,Option.isSome_some,Option.getD_some,hw,hend',e3,k4,bne_t hxy,r2.cell,r15.cell]
       have hok:okB g (natsOf l) i x=true:=by
        have q2:=(show lkOk (rfK g) (x:Int) (natO (lastW g ((natsOf l).take i) (g.ev x).loc))=true by unfold lkOk;rw [hlf,hlw];simp [natO,hvw])
        have q3:=(show lkOk g.rmw (x:Int) (natO (natsOf l)[i+1]?)=true by unfold lkOk;rw [hlr,j2];simp [natO,hxy])
        unfold okB
        rw [q1,q2,q3];rfl
       by_cases hk2:(g.ev x).kind=2
       ·simp -dsimp only [go_sem,beq_t hk2,r2.cell,r15.cell]
        refine O1.set fun h17 O2 f17 z17=>?_
        have p17:=p0.fresh f17 (by omega)
        have r17:=r2.fr f17 (by omega)
        have M2:=M1.fr f17 (by omega)
        have N2:=N1.fr f17 (by omega)
        simp -dsimp only [go_sem,r2.cell,r15.cell]
        simp -dsimp (disch:=omega) only [wrap64]
        exact ⟨i+1,by omega,by simp [Le,find],by omega,p17,r17,by omega,M2,N2,O2.congr fun c=>mapL_step k2 hk2 c,okU_succ k2 hU hok⟩
       ·simp -dsimp only [go_sem,beq_f hk2,r2.cell,r15.cell]
        simp -dsimp (disch:=omega) only [wrap64]
        exact ⟨i+1,by omega,by simp [Le,find],by omega,p0,r2,by omega,M1,N1,O1.congr fun c=>mapL_same k2 hk2 c,okU_succ k2 hU hok⟩
      ·have e:rightB g l=false:=bad (by unfold okB lkOk;rw [hlr,j2];simp [natO,hxy])
       rw [e]
       simp -dsimp only [go_sem,hb1,hb2,Option.isSome_some,Option.getD_some,hw,hend',e3,k4,bne_f hxy,r2.cell,r15.cell]
       exact p0
    ·have e:rightB g l=false:=bad (by unfold okB lkOk;rw [hlf,hlw];simp [natO,hvw])
     rw [e]
     simp -dsimp only [go_sem,hc1,hc2,Option.isSome_some,Option.getD_some,bne_f hvw,r2.cell,r15.cell]
     exact p0
 ·simp -dsimp only [go_sem,hci,r2.cell,r15.cell]
  refine M1.look1 (z:=.int .i64 0) (n:=(x:Int)) fun ma ha1 ha2=>?_
  rw [hqf] at ha1 ha2
  cases hlf:lkp (rfK g) (x:Int) with
  | none =>
   rw [hlf] at ha1 ha2
   rw [Option.map_none] at ha1 ha2
   simp -dsimp only [go_sem,ha1,ha2,Option.isSome_none,r2.cell,r15.cell]
   refine N1.look1 (z:=.int .i64 0) (n:=(x:Int)) fun mb hb1 hb2=>?_
   rw [hqr] at hb1 hb2
   cases hlr:lkp g.rmw (x:Int) with
   | none =>
    rw [hlr] at hb1 hb2
    rw [Option.map_none] at hb1 hb2
    simp -dsimp only [go_sem,hb1,hb2,Option.isSome_none,r2.cell,r15.cell]
    have hok:okB g (natsOf l) i x=true:=by
     have q2:=(show lkOk (rfK g) (x:Int) (natO (lastW g ((natsOf l).take i) (g.ev x).loc))=true by unfold lkOk;rw [hlf])
     have q3:=(show lkOk g.rmw (x:Int) (natO (natsOf l)[i+1]?)=true by unfold lkOk;rw [hlr])
     unfold okB
     rw [q1,q2,q3];rfl
    by_cases hk2:(g.ev x).kind=2
    ·simp -dsimp only [go_sem,beq_t hk2,r2.cell,r15.cell]
     refine O1.set fun h17 O2 f17 z17=>?_
     have p17:=p0.fresh f17 (by omega)
     have r17:=r2.fr f17 (by omega)
     have M2:=M1.fr f17 (by omega)
     have N2:=N1.fr f17 (by omega)
     simp -dsimp only [go_sem,r2.cell,r15.cell]
     simp -dsimp (disch:=omega) only [wrap64]
     exact ⟨i+1,by omega,by simp [Le,find],by omega,p17,r17,by omega,M2,N2,O2.congr fun c=>mapL_step k2 hk2 c,okU_succ k2 hU hok⟩
    ·simp -dsimp only [go_sem,beq_f hk2,r2.cell,r15.cell]
     simp -dsimp (disch:=omega) only [wrap64]
     exact ⟨i+1,by omega,by simp [Le,find],by omega,p0,r2,by omega,M1,N1,O1.congr fun c=>mapL_same k2 hk2 c,okU_succ k2 hU hok⟩
   | some y =>
    rw [hlr] at hb1 hb2
    rw [Option.map_some] at hb1 hb2
    have hw:IntKind.i64.wrap ((i:Int)+1)=((i+1:Nat):Int):=by rw [wrap64 (by omega) (by omega)];omega
    by_cases hend:i+1=l.length
    ·have e:rightB g l=false:=bad (by
      have:(natsOf l)[i+1]?=none:=List.getElem?_eq_none (by simp [natsOf];omega)
      unfold okB lkOk;rw [hlr,this];simp [natO])
     have hend':(((i+1:Nat):Int)==((l.length:Nat):Int))=true:=by simp;omega
     rw [e]
     simp -dsimp only [go_sem,hb1,hb2,Option.isSome_some,Option.getD_some,hw,hend',r2.cell,r15.cell]
     exact p0
    obtain ⟨x',j1,j2,hx'⟩:=L.at_ (i+1) (by omega)
    have k4:=p0.keep (hlc (i+1) _ (intsV_get j1)) (by omega)
    have hend':(((i+1:Nat):Int)==((l.length:Nat):Int))=false:=by simp;omega
    have e3:(((i+1:Nat):Int)<((l.length:Nat):Int)):=by omega
    by_cases hxy:(x':Int)=y
    ·simp -dsimp only [go_sem,hb1,hb2,Option.isSome_some,Option.getD_some,hw,hend',e3,k4,bne_t hxy,r2.cell,r15.cell]
     have hok:okB g (natsOf l) i x=true:=by
      have q2:=(show lkOk (rfK g) (x:Int) (natO (lastW g ((natsOf l).take i) (g.ev x).loc))=true by unfold lkOk;rw [hlf])
      have q3:=(show lkOk g.rmw (x:Int) (natO (natsOf l)[i+1]?)=true by unfold lkOk;rw [hlr,j2];simp [natO,hxy])
      unfold okB
      rw [q1,q2,q3];rfl
     by_cases hk2:(g.ev x).kind=2
     ·simp -dsimp only [go_sem,beq_t hk2,r2.cell,r15.cell]
      refine O1.set fun h17 O2 f17 z17=>?_
      have p17:=p0.fresh f17 (by omega)
      have r17:=r2.fr f17 (by omega)
      have M2:=M1.fr f17 (by omega)
      have N2:=N1.fr f17 (by omega)
      simp -dsimp only [go_sem,r2.cell,r15.cell]
      simp -dsimp (disch:=omega) only [wrap64]
      exact ⟨i+1,by omega,by simp [Le,find],by omega,p17,r17,by omega,M2,N2,O2.congr fun c=>mapL_step k2 hk2 c,okU_succ k2 hU hok⟩
     ·simp -dsimp only [go_sem,beq_f hk2,r2.cell,r15.cell]
      simp -dsimp (disch:=omega) only [wrap64]
      exact ⟨i+1,by omega,by simp [Le,find],by omega,p0,r2,by omega,M1,N1,O1.congr fun c=>mapL_same k2 hk2 c,okU_succ k2 hU hok⟩
    ·have e:rightB g l=false:=bad (by unfold okB lkOk;rw [hlr,j2];simp [natO,hxy])
     rw [e]
     simp -dsimp only [go_sem,hb1,hb2,Option.isSome_some,Option.getD_some,hw,hend',e3,k4,bne_f hxy,r2.cell,r15.cell]
     exact p0
  | some w =>
   rw [hlf] at ha1 ha2
   rw [Option.map_some] at ha1 ha2
   simp -dsimp only [go_sem,ha1,ha2,Option.isSome_some,Option.getD_some,r2.cell,r15.cell]
   refine O1.look1 (z:=.int .i64 0) (n:=(g.ev x).loc) fun mc hc1 hc2=>?_
   rw [hql] at hc1 hc2
   cases hlw:lastW g ((natsOf l).take i) (g.ev x).loc with
   | none =>
    rw [hlw] at hc1 hc2
    rw [Option.map_none] at hc1 hc2
    have e:rightB g l=false:=bad (by unfold okB lkOk;rw [hlf,hlw];simp [natO])
    rw [e]
    simp -dsimp only [go_sem,hc1,hc2,Option.isSome_none,r2.cell,r15.cell]
    exact p0
   | some v =>
    rw [hlw] at hc1 hc2
    rw [Option.map_some] at hc1 hc2
    by_cases hvw:(v:Int)=w
    ·simp -dsimp only [go_sem,hc1,hc2,Option.isSome_some,Option.getD_some,bne_t hvw,r2.cell,r15.cell]
     refine N1.look1 (z:=.int .i64 0) (n:=(x:Int)) fun mb hb1 hb2=>?_
     rw [hqr] at hb1 hb2
     cases hlr:lkp g.rmw (x:Int) with
     | none =>
      rw [hlr] at hb1 hb2
      rw [Option.map_none] at hb1 hb2
      simp -dsimp only [go_sem,hb1,hb2,Option.isSome_none,r2.cell,r15.cell]
      have hok:okB g (natsOf l) i x=true:=by
       have q2:=(show lkOk (rfK g) (x:Int) (natO (lastW g ((natsOf l).take i) (g.ev x).loc))=true by unfold lkOk;rw [hlf,hlw];simp [natO,hvw])
       have q3:=(show lkOk g.rmw (x:Int) (natO (natsOf l)[i+1]?)=true by unfold lkOk;rw [hlr])
       unfold okB
       rw [q1,q2,q3];rfl
      by_cases hk2:(g.ev x).kind=2
      ·simp -dsimp only [go_sem,beq_t hk2,r2.cell,r15.cell]
       refine O1.set fun h17 O2 f17 z17=>?_
       have p17:=p0.fresh f17 (by omega)
       have r17:=r2.fr f17 (by omega)
       have M2:=M1.fr f17 (by omega)
       have N2:=N1.fr f17 (by omega)
       simp -dsimp only [go_sem,r2.cell,r15.cell]
       simp -dsimp (disch:=omega) only [wrap64]
       exact ⟨i+1,by omega,by simp [Le,find],by omega,p17,r17,by omega,M2,N2,O2.congr fun c=>mapL_step k2 hk2 c,okU_succ k2 hU hok⟩
      ·simp -dsimp only [go_sem,beq_f hk2,r2.cell,r15.cell]
       simp -dsimp (disch:=omega) only [wrap64]
       exact ⟨i+1,by omega,by simp [Le,find],by omega,p0,r2,by omega,M1,N1,O1.congr fun c=>mapL_same k2 hk2 c,okU_succ k2 hU hok⟩
     | some y =>
      rw [hlr] at hb1 hb2
      rw [Option.map_some] at hb1 hb2
      have hw:IntKind.i64.wrap ((i:Int)+1)=((i+1:Nat):Int):=by rw [wrap64 (by omega) (by omega)];omega
      by_cases hend:i+1=l.length
      ·have e:rightB g l=false:=bad (by
        have:(natsOf l)[i+1]?=none:=List.getElem?_eq_none (by simp [natsOf];omega)
        unfold okB lkOk;rw [hlr,this];simp [natO])
       have hend':(((i+1:Nat):Int)==((l.length:Nat):Int))=true:=by simp;omega
       rw [e]
       simp -dsimp only [go_sem,hb1,hb2,Option.isSome_some,Option.getD_some,hw,hend',r2.cell,r15.cell]
       exact p0
      obtain ⟨x',j1,j2,hx'⟩:=L.at_ (i+1) (by omega)
      have k4:=p0.keep (hlc (i+1) _ (intsV_get j1)) (by omega)
      have hend':(((i+1:Nat):Int)==((l.length:Nat):Int))=false:=by simp;omega
      have e3:(((i+1:Nat):Int)<((l.length:Nat):Int)):=by omega
      by_cases hxy:(x':Int)=y
      ·simp -dsimp only [go_sem,hb1,hb2,Option.isSome_some,Option.getD_some,hw,hend',e3,k4,bne_t hxy,r2.cell,r15.cell]
       have hok:okB g (natsOf l) i x=true:=by
        have q2:=(show lkOk (rfK g) (x:Int) (natO (lastW g ((natsOf l).take i) (g.ev x).loc))=true by unfold lkOk;rw [hlf,hlw];simp [natO,hvw])
        have q3:=(show lkOk g.rmw (x:Int) (natO (natsOf l)[i+1]?)=true by unfold lkOk;rw [hlr,j2];simp [natO,hxy])
        unfold okB
        rw [q1,q2,q3];rfl
       by_cases hk2:(g.ev x).kind=2
       ·simp -dsimp only [go_sem,beq_t hk2,r2.cell,r15.cell]
        refine O1.set fun h17 O2 f17 z17=>?_
        have p17:=p0.fresh f17 (by omega)
        have r17:=r2.fr f17 (by omega)
        have M2:=M1.fr f17 (by omega)
        have N2:=N1.fr f17 (by omega)
        simp -dsimp only [go_sem,r2.cell,r15.cell]
        simp -dsimp (disch:=omega) only [wrap64]
        exact ⟨i+1,by omega,by simp [Le,find],by omega,p17,r17,by omega,M2,N2,O2.congr fun c=>mapL_step k2 hk2 c,okU_succ k2 hU hok⟩
       ·simp -dsimp only [go_sem,beq_f hk2,r2.cell,r15.cell]
        simp -dsimp (disch:=omega) only [wrap64]
        exact ⟨i+1,by omega,by simp [Le,find],by omega,p0,r2,by omega,M1,N1,O1.congr fun c=>mapL_same k2 hk2 c,okU_succ k2 hU hok⟩
      ·have e:rightB g l=false:=bad (by unfold okB lkOk;rw [hlr,j2];simp [natO,hxy])
       rw [e]
       simp -dsimp only [go_sem,hb1,hb2,Option.isSome_some,Option.getD_some,hw,hend',e3,k4,bne_f hxy,r2.cell,r15.cell]
       exact p0
    ·have e:rightB g l=false:=bad (by unfold okB lkOk;rw [hlf,hlw];simp [natO,hvw])
     rw [e]
     simp -dsimp only [go_sem,hc1,hc2,Option.isSome_some,Option.getD_some,bne_f hvw,r2.cell,r15.cell]
     exact p0
end
end Go.Proofs.Tst
/-
  law21: lives; TotalAny.
-/
namespace Go.Proofs.Tst
open Go Go.Vc
instance exDec {α:Type} [DecidableEq α]:DecidableEq (Except Int α)
 | .ok x,.ok y=>if h:x=y then isTrue (by rw [h]) else isFalse (fun e=>by cases e;exact h rfl)
 | .error x,.error y=>if h:x=y then isTrue (by rw [h]) else isFalse (fun e=>by cases e;exact h rfl)
 | .ok _,.error _=>isFalse (fun e=>by cases e)
 | .error _,.ok _=>isFalse (fun e=>by cases e)
theorem lx1:ordA xmG=.ok [0,1,2,3,4,5]:=by decide +kernel
theorem lx2:eachB xmG [0,1,2,3,4,5]=true:=by decide +kernel
theorem lx3:repOk xmG (natsOf [0,1,2,3,4,5])=true:=by decide +kernel
theorem lx4:repFin xmG (natsOf [0,1,2,3,4,5])=[1,1]:=by decide +kernel
theorem lx5:pickA xmG [0,1,2,3,4,5]=.ok [0,0,1,1]:=by decide +kernel
theorem lx6:rightB xmG [0,1,2,3,4,5]=true:=by decide +kernel
theorem lx7:rightB xmG [0,1,4,2,3,5]=false:=by decide +kernel
set_option maxHeartbeats 2000000 in
theorem law21_lives {h:Heap} (ht:TabAt h):Con Tryd.prog 18 #[] h fun v h'=>Fr 0 0 h h'∧v=.bool true:=by
 refine con_q47 ?_
 have p0:Fr 0 0 h h:=.refl _ _ _
 simp -dsimp only [go_sem]
 refine call_of (c_law21_example) ?_
 rintro v1 h1 ⟨f1,q1,rfl,t1⟩
 have f1_z:=f1.size
 replace p0:=p0.F f1
 simp -dsimp only [go_sem]
 refine call_of (total_Order t1 (ht.fr p0 (.inr rfl))) ?_
 rintro v2 h2 ⟨f2,w2⟩
 have f2_z:=f2.size
 replace p0:=p0.F f2
 rw [lx1] at w2
 obtain ⟨s2,rfl,o2⟩:=w2
 replace o2:Holder 1 h2 s2 6 (intsV [0,1,2,3,4,5]) h1.size:=o2
 obtain ⟨a2,c2,rfl⟩:=o2.is
 have d2:=o2.rd
 clear o2
 simp -dsimp only [go_sem]
 refine call_of (c_law21_example) ?_
 rintro v3 h3 ⟨f3,q3,rfl,t3⟩
 have f3_z:=f3.size
 replace p0:=p0.F f3
 replace d2:=d2.fr f3
 simp -dsimp only [go_sem]
 refine call_of (total_Replay (l:=[0,1,2,3,4,5]) t3 (ht.fr p0 (.inr rfl)) d2 (by decide)) ?_
 rintro v4 h4 ⟨f4,w4⟩
 have f4_z:=f4.size
 replace p0:=p0.F f4
 replace d2:=d2.fr f4
 rw [if_pos lx2] at w4
 obtain ⟨s4,rfl,o4⟩:=w4
 rw [lx3]
 rw [lx4] at o4
 obtain ⟨a4,c4,rfl⟩:=o4.is
 have d4:=o4.rd
 clear o4
 simp -dsimp only [go_sem]
 refine call_of (c_law21_example) ?_
 rintro v5 h5 ⟨f5,q5,rfl,t5⟩
 have f5_z:=f5.size
 replace p0:=p0.F f5
 replace d2:=d2.fr f5
 replace d4:=d4.fr f5
 simp -dsimp only [go_sem]
 refine call_of (total_Picks (l:=[0,1,2,3,4,5]) t5 (ht.fr p0 (.inr rfl)) d2 (by decide)) ?_
 rintro v6 h6 ⟨f6,w6⟩
 have f6_z:=f6.size
 replace p0:=p0.F f6
 replace d2:=d2.fr f6
 replace d4:=d4.fr f6
 rw [lx5] at w6
 obtain ⟨s6,rfl,o6⟩:=w6
 obtain ⟨a6,c6,rfl⟩:=o6.is
 have d6:=o6.rd
 clear o6
 simp -dsimp only [go_sem]
 intro b7 h7 n7
 have n7_z:=n7.az
 replace p0:=p0.F n7.f0
 replace d2:=d2.fr n7.f0
 replace d4:=d4.fr n7.f0
 replace d6:=d6.fr n7.f0
 have r7:=n7.row
 simp -dsimp only [go_sem,r7.cell]
 refine call_of (c_law21_ints (l:=[0,1,2,3,4,5]) (m:=[0,1,2,3,4,5]) d2 (Rw.rd (s:=1) (n:=6) (c:=6) r7 rfl) (by decide)) ?_
 rintro v8 h8 ⟨hh,rfl⟩
 obtain rfl:h7=h8:=hh.symm
 simp -dsimp only [go_sem,dec_self,r7.cell]
 intro b9 h9 n9
 have n9_z:=n9.az
 replace p0:=p0.F n9.f0
 replace d2:=d2.fr n9.f0
 replace d4:=d4.fr n9.f0
 replace d6:=d6.fr n9.f0
 replace r7:=r7.F n9.f0
 have r9:=n9.row
 simp -dsimp only [go_sem,r7.cell,r9.cell]
 refine call_of (c_law21_words (l:=[1,1]) (m:=[1,1]) d4 (Rw.rd (s:=1) (n:=2) (c:=2) r9 rfl) (by decide)) ?_
 rintro v10 h10 ⟨hh,rfl⟩
 obtain rfl:h9=h10:=hh.symm
 simp -dsimp only [go_sem,dec_self,r7.cell,r9.cell]
 intro b11 h11 n11
 have n11_z:=n11.az
 replace p0:=p0.F n11.f0
 replace d2:=d2.fr n11.f0
 replace d4:=d4.fr n11.f0
 replace d6:=d6.fr n11.f0
 replace r7:=r7.F n11.f0
 replace r9:=r9.F n11.f0
 have r11:=n11.row
 simp -dsimp only [go_sem,r7.cell,r9.cell,r11.cell]
 refine call_of (c_law21_ints (l:=[0,0,1,1]) (m:=[0,0,1,1]) d6 (Rw.rd (s:=1) (n:=4) (c:=4) r11 rfl) (by decide)) ?_
 rintro v12 h12 ⟨hh,rfl⟩
 obtain rfl:h11=h12:=hh.symm
 simp -dsimp only [go_sem,dec_self,r7.cell,r9.cell,r11.cell]
 refine call_of (c_law21_example) ?_
 rintro v13 h13 ⟨f13,q13,rfl,t13⟩
 have f13_z:=f13.size
 replace p0:=p0.F f13
 replace d2:=d2.fr f13
 replace d4:=d4.fr f13
 replace d6:=d6.fr f13
 replace r7:=r7.F f13
 replace r9:=r9.F f13
 replace r11:=r11.F f13
 simp -dsimp only [go_sem,r7.cell,r9.cell,r11.cell]
 refine call_of (total_Right (l:=[0,1,2,3,4,5]) t13 (ht.fr p0 (.inr rfl)) d2 (by decide)) ?_
 rintro v14 h14 ⟨f14,rfl⟩
 have f14_z:=f14.size
 replace p0:=p0.F f14
 replace d2:=d2.fr f14
 replace d4:=d4.fr f14
 replace d6:=d6.fr f14
 replace r7:=r7.F f14
 replace r9:=r9.F f14
 replace r11:=r11.F f14
 rw [lx6]
 simp -dsimp only [go_sem,r7.cell,r9.cell,r11.cell]
 refine call_of (c_law21_example) ?_
 rintro v15 h15 ⟨f15,q15,rfl,t15⟩
 have f15_z:=f15.size
 replace p0:=p0.F f15
 replace d2:=d2.fr f15
 replace d4:=d4.fr f15
 replace d6:=d6.fr f15
 replace r7:=r7.F f15
 replace r9:=r9.F f15
 replace r11:=r11.F f15
 simp -dsimp only [go_sem,r7.cell,r9.cell,r11.cell]
 intro b16 h16 n16
 have n16_z:=n16.az
 replace p0:=p0.F n16.f0
 replace d2:=d2.fr n16.f0
 replace d4:=d4.fr n16.f0
 replace d6:=d6.fr n16.f0
 replace r7:=r7.F n16.f0
 replace r9:=r9.F n16.f0
 replace r11:=r11.F n16.f0
 have r16:=n16.row
 replace t15:=t15.fr n16.f0
 simp -dsimp only [go_sem,r7.cell,r9.cell,r11.cell,r16.cell]
 refine call_of (total_Right (l:=[0,1,4,2,3,5]) t15 (ht.fr p0 (.inr rfl)) (Rw.rd (s:=1) (n:=6) (c:=6) r16 rfl) (by decide)) ?_
 rintro v17 h17 ⟨f17,rfl⟩
 have f17_z:=f17.size
 replace p0:=p0.F f17
 replace d2:=d2.fr f17
 replace d4:=d4.fr f17
 replace d6:=d6.fr f17
 replace r7:=r7.F f17
 replace r9:=r9.F f17
 replace r11:=r11.F f17
 replace r16:=r16.F f17
 rw [lx7]
 simp -dsimp only [go_sem,r7.cell,r9.cell,r11.cell,r16.cell]
 exact p0
end Go.Proofs.Tst
/-
  TotalKnown.
-/
namespace Go.Proofs.Tst
open Go Go.Vc
abbrev kuE:List Ev:=[⟨0,1,0,0,1⟩,⟨0,2,0,1,1⟩,⟨0,1,1,0,1⟩,⟨1,2,1,1,1⟩,⟨1,1,0,1,1⟩]
abbrev kuG:Gr:={ twoG 1 kuE [(0,2),(1,4),(3,6)] [3] [5] with rmw:=[(2,3)] }
abbrev kwG:Gr:=twoG 1 [⟨0,2,0,1,1⟩,⟨0,1,1,0,1⟩,⟨1,2,1,1,1⟩,⟨1,1,0,0,1⟩] [(1,3),(0,5)] [2] [4]
theorem kx1:eachB xmG [0,1,4,2,3,5]=true∧repOk xmG (natsOf [0,1,4,2,3,5])=false∧repFin xmG (natsOf [0,1,4,2,3,5])=[1,1]:=by decide +kernel
theorem kx2:eachB xmG [2,3,4,5,0,1]=true∧repOk xmG (natsOf [2,3,4,5,0,1])=false∧repFin xmG (natsOf [2,3,4,5,0,1])=[0,0]:=by decide +kernel
theorem kx3:¬ eachB xmG [0,1,2]=true:=by decide +kernel
theorem kx4:ordA kuG=.ok [0,1,2,3,4,5,6]:=by decide +kernel
theorem kx5:rightB kuG [0,1,5,2,3,4,6]=false:=by decide +kernel
theorem kx6:rightB kuG [0,1,2,5,3,4,6]=false:=by decide +kernel
theorem kx7:ordA kwG=.error 3:=by decide +kernel
set_option maxHeartbeats 4000000 in
theorem c_law21_TotalKnown {h:Heap} (ht:TabAt h):Con Tryd.prog 4 #[] h fun v h'=>Fr 0 0 h h'∧v=.bool true:=by
 refine con_q40 ?_
 have p0:Fr 0 0 h h:=.refl _ _ _
 simp -dsimp only [go_sem]
 refine call_of (c_law21_example) ?_
 rintro v1 h1 ⟨f1,q1,rfl,t1⟩
 have f1_z:=f1.size
 replace p0:=p0.F f1
 have p1:Fr 0 0 h1 h1:=.refl _ _ _
 unfold gcells
 simp -dsimp only [go_sem]
 intro b2 h2 n2
 have n2_z:=n2.az
 replace p0:=p0.F n2.f0
 replace p1:=p1.F n2.f0
 have r2:=n2.row
 simp -dsimp only [go_sem,r2.cell]
 refine Chk_intro (r2.W) fun h3 s3=>?_
 have s3_z:=s3.size
 replace p0:=p0.F s3.fr
 replace p1:=p1.F s3.fr
 replace r2:=s3.row r2
 try simp only [cl_int,cl_bool,cl_slice,cl_ptr,putAt_one,zs0,zs1,ivec_set,brow_upd] at r2
 try simp -dsimp only [go_sem] at r2
 simp -dsimp only [go_sem,r2.cell]
 refine call_of (law21_lives (ht.fr p0 (.inr rfl))) ?_
 rintro v4 h4 ⟨f4,rfl⟩
 have f4_z:=f4.size
 replace p0:=p0.F f4
 replace p1:=p1.F f4
 replace r2:=r2.F f4
 simp -dsimp only [go_sem,r2.cell]
 intro b5 h5 n5
 have n5_z:=n5.az
 replace p0:=p0.F n5.f0
 replace p1:=p1.F n5.f0
 replace r2:=r2.F n5.f0
 have r5:=n5.row
 simp -dsimp only [go_sem,r2.cell,r5.cell]
 refine call_of (total_Replay (l:=[0,1,4,2,3,5]) (t1.fr p1) (ht.fr p0 (.inr rfl)) (Rw.rd (s:=1) (n:=6) (c:=6) r5 rfl) (by decide)) ?_
 rintro v6 h6 ⟨f6,w6⟩
 have f6_z:=f6.size
 replace p0:=p0.F f6
 replace p1:=p1.F f6
 replace r2:=r2.F f6
 replace r5:=r5.F f6
 clear r5
 rw [if_pos kx1.1,kx1.2.1,kx1.2.2] at w6
 obtain ⟨s6,rfl,o6⟩:=w6
 obtain ⟨a6,c6,rfl⟩:=o6.is
 have d6:=o6.rd
 clear o6
 simp -dsimp only [go_sem,r2.cell]
 intro b7 h7 n7
 have n7_z:=n7.az
 replace p0:=p0.F n7.f0
 replace p1:=p1.F n7.f0
 replace r2:=r2.F n7.f0
 replace d6:=d6.fr n7.f0
 have r7:=n7.row
 simp -dsimp only [go_sem,r2.cell,r7.cell]
 refine call_of (total_Replay (l:=[2,3,4,5,0,1]) (t1.fr p1) (ht.fr p0 (.inr rfl)) (Rw.rd (s:=1) (n:=6) (c:=6) r7 rfl) (by decide)) ?_
 rintro v8 h8 ⟨f8,w8⟩
 have f8_z:=f8.size
 replace p0:=p0.F f8
 replace p1:=p1.F f8
 replace r2:=r2.F f8
 replace d6:=d6.fr f8
 replace r7:=r7.F f8
 clear r7
 rw [if_pos kx2.1,kx2.2.1,kx2.2.2] at w8
 obtain ⟨s8,rfl,o8⟩:=w8
 obtain ⟨a8,c8,rfl⟩:=o8.is
 have d8:=o8.rd
 clear o8
 simp -dsimp only [go_sem,r2.cell]
 intro b9 h9 n9
 have n9_z:=n9.az
 replace p0:=p0.F n9.f0
 replace p1:=p1.F n9.f0
 replace r2:=r2.F n9.f0
 replace d6:=d6.fr n9.f0
 replace d8:=d8.fr n9.f0
 have r9:=n9.row
 simp -dsimp only [go_sem,r2.cell,r9.cell]
 refine call_of (total_Replay (l:=[0,1,2]) (t1.fr p1) (ht.fr p0 (.inr rfl)) (Rw.rd (s:=1) (n:=3) (c:=3) r9 rfl) (by decide)) ?_
 rintro v10 h10 ⟨f10,w10⟩
 have f10_z:=f10.size
 replace p0:=p0.F f10
 replace p1:=p1.F f10
 replace r2:=r2.F f10
 replace d6:=d6.fr f10
 replace d8:=d8.fr f10
 replace r9:=r9.F f10
 clear r9
 rw [if_neg kx3] at w10
 subst w10
 simp -dsimp only [go_sem,r2.cell]
 intro b11 h11 n11
 have n11_z:=n11.az
 replace p0:=p0.F n11.f0
 replace p1:=p1.F n11.f0
 replace r2:=r2.F n11.f0
 replace d6:=d6.fr n11.f0
 replace d8:=d8.fr n11.f0
 have r11:=n11.row
 simp -dsimp only [go_sem,r2.cell,r11.cell]
 refine call_of (c_law21_words (l:=[1,1]) (m:=[1,1]) d6 (Rw.rd (s:=1) (n:=2) (c:=2) r11 rfl) (by decide)) ?_
 rintro v12 h12 ⟨hh,rfl⟩
 obtain rfl:h11=h12:=hh.symm
 clear r11
 simp -dsimp only [go_sem,dec_self,r2.cell]
 intro b13 h13 n13
 have n13_z:=n13.az
 replace p0:=p0.F n13.f0
 replace p1:=p1.F n13.f0
 replace r2:=r2.F n13.f0
 replace d6:=d6.fr n13.f0
 replace d8:=d8.fr n13.f0
 have r13:=n13.row
 simp -dsimp only [go_sem,r2.cell,r13.cell]
 refine call_of (c_law21_words (l:=[0,0]) (m:=[0,0]) d8 (Rw.rd (s:=1) (n:=2) (c:=2) r13 rfl) (by decide)) ?_
 rintro v14 h14 ⟨hh,rfl⟩
 obtain rfl:h13=h14:=hh.symm
 clear r13 d6 d8 r2 t1 p1
 have e0:(((0:Nat):Int) != 0)=false:=rfl
 simp -dsimp only [go_sem,dec_self,e0]
 refine call_of (c_law21_ev 0 1 0 0) ?_
 rintro v15 h15 ⟨f15,rfl⟩
 have f15_z:=f15.size
 replace p0:=p0.F f15
 simp -dsimp only [go_sem]
 refine call_of (c_law21_ev 0 2 0 1) ?_
 rintro v16 h16 ⟨f16,rfl⟩
 have f16_z:=f16.size
 replace p0:=p0.F f16
 simp -dsimp only [go_sem]
 refine call_of (c_law21_ev 0 1 1 0) ?_
 rintro v17 h17 ⟨f17,rfl⟩
 have f17_z:=f17.size
 replace p0:=p0.F f17
 simp -dsimp only [go_sem]
 refine call_of (c_law21_ev 1 2 1 1) ?_
 rintro v18 h18 ⟨f18,rfl⟩
 have f18_z:=f18.size
 replace p0:=p0.F f18
 simp -dsimp only [go_sem]
 refine call_of (c_law21_ev 1 1 0 1) ?_
 rintro v19 h19 ⟨f19,rfl⟩
 have f19_z:=f19.size
 replace p0:=p0.F f19
 simp -dsimp only [go_sem]
 intro b20 h20 n20
 have n20_z:=n20.az
 replace p0:=p0.F n20.f0
 have r20:=n20.row
 simp -dsimp only [go_sem,r20.cell]
 intro b21 h21 n21
 have n21_z:=n21.az
 replace p0:=p0.F n21.f0
 replace r20:=r20.F n21.f0
 have r21:=n21.row
 simp -dsimp only [go_sem,r20.cell,r21.cell]
 intro b22 h22 n22
 have n22_z:=n22.az
 replace p0:=p0.F n22.f0
 replace r20:=r20.F n22.f0
 replace r21:=r21.F n22.f0
 have r22:=n22.row
 simp -dsimp only [go_sem,r20.cell,r21.cell,r22.cell]
 intro b23 h23 n23
 have n23_z:=n23.az
 replace p0:=p0.F n23.f0
 replace r20:=r20.F n23.f0
 replace r21:=r21.F n23.f0
 replace r22:=r22.F n23.f0
 have r23:=n23.row
 simp -dsimp only [go_sem,r20.cell,r21.cell,r22.cell,r23.cell]
 refine call_of (c_law21_two (E:=kuE) (rf:=[(0,2),(1,4),(3,6)]) (x:=[3]) (y:=[5]) (lo:=0) (Nat.zero_le _) (Rw.rd (s:=5) (n:=5) (c:=5) r20 rfl) (fun h' f=>Rw.rd (s:=2) (n:=3) (c:=3) (r21.fr f (by omega)) rfl) (Rw.rd (s:=1) (n:=1) (c:=1) r22 rfl) (Rw.rd (s:=1) (n:=1) (c:=1) r23 rfl) (by simp) (by simp) (by simp) (by simp)) ?_
 rintro v24 h24 ⟨f24,q24,rfl,t24⟩
 have f24_z:=f24.size
 replace p0:=p0.F f24
 replace r20:=r20.F f24
 replace r21:=r21.F f24
 replace r22:=r22.F f24
 replace r23:=r23.F f24
 clear r20 r21 r22 r23
 replace t24:=t24 _ (.refl _ _ _)
 have p24:Fr 0 0 h24 h24:=.refl _ _ _
 unfold gcells
 simp -dsimp only [go_sem]
 intro b25 h25 n25
 have n25_z:=n25.az
 replace p0:=p0.F n25.f0
 replace p24:=p24.F n25.f0
 have r25:=n25.row
 simp -dsimp only [go_sem,r25.cell]
 refine Chk_intro (r25.W) fun h26 s26=>?_
 have s26_z:=s26.size
 replace p0:=p0.F s26.fr
 replace p24:=p24.F s26.fr
 replace r25:=s26.row r25
 try simp only [cl_int,cl_bool,cl_slice,cl_ptr,putAt_one,zs0,zs1,ivec_set,brow_upd] at r25
 try simp -dsimp only [go_sem] at r25
 simp -dsimp only [go_sem,r25.cell]
 intro b27 h27 n27
 have n27_z:=n27.az
 replace p0:=p0.F n27.f0
 replace p24:=p24.F n27.f0
 replace r25:=r25.F n27.f0
 have r27:=n27.row
 simp -dsimp only [go_sem,r25.cell,r27.cell]
 refine Chk_intro (r25.W) fun h28 s28=>?_
 have s28_z:=s28.size
 replace p0:=p0.F s28.fr
 replace p24:=p24.F s28.fr
 replace r27:=r27.F s28.fr
 replace r25:=s28.row r25
 try simp only [cl_int,cl_bool,cl_slice,cl_ptr,putAt_one,zs0,zs1,ivec_set,brow_upd] at r25
 try simp -dsimp only [go_sem] at r25
 simp -dsimp only [go_sem,r25.cell,r27.cell]
 have tu:GrAt h28 _ kuG:=GrAt.setR (t24.fr p24) (Rw.rd (s:=2) (n:=1) (c:=1) r27 rfl) (by decide)
 have p28:Fr 0 0 h28 h28:=.refl _ _ _
 refine call_of (total_Order tu (ht.fr p0 (.inr rfl))) ?_
 rintro v29 h29 ⟨f29,w29⟩
 have f29_z:=f29.size
 replace p0:=p0.F f29
 replace p24:=p24.F f29
 replace r25:=r25.F f29
 replace r27:=r27.F f29
 replace p28:=p28.F f29
 rw [kx4] at w29
 obtain ⟨s29,rfl,o29⟩:=w29
 replace o29:Holder 1 h29 s29 7 (intsV [0,1,2,3,4,5,6]) h28.size:=o29
 obtain ⟨a29,c29,rfl⟩:=o29.is
 have d29:=o29.rd
 clear o29
 simp -dsimp only [go_sem,r25.cell,r27.cell]
 intro b30 h30 n30
 have n30_z:=n30.az
 replace p0:=p0.F n30.f0
 replace p24:=p24.F n30.f0
 replace r25:=r25.F n30.f0
 replace r27:=r27.F n30.f0
 replace p28:=p28.F n30.f0
 replace d29:=d29.fr n30.f0
 have r30:=n30.row
 simp -dsimp only [go_sem,r25.cell,r27.cell,r30.cell]
 refine call_of (c_law21_ints (l:=[0,1,2,3,4,5,6]) (m:=[0,1,2,3,4,5,6]) d29 (Rw.rd (s:=1) (n:=7) (c:=7) r30 rfl) (by decide)) ?_
 rintro v31 h31 ⟨hh,rfl⟩
 obtain rfl:h30=h31:=hh.symm
 clear r30 d29
 simp -dsimp only [go_sem,dec_self,r25.cell,r27.cell]
 intro b32 h32 n32
 have n32_z:=n32.az
 replace p0:=p0.F n32.f0
 replace p24:=p24.F n32.f0
 replace r25:=r25.F n32.f0
 replace r27:=r27.F n32.f0
 replace p28:=p28.F n32.f0
 have r32:=n32.row
 simp -dsimp only [go_sem,r25.cell,r27.cell,r32.cell]
 refine call_of (total_Right (l:=[0,1,5,2,3,4,6]) (tu.fr p28) (ht.fr p0 (.inr rfl)) (Rw.rd (s:=1) (n:=7) (c:=7) r32 rfl) (by decide)) ?_
 rintro v33 h33 ⟨f33,rfl⟩
 have f33_z:=f33.size
 replace p0:=p0.F f33
 replace p24:=p24.F f33
 replace r25:=r25.F f33
 replace r27:=r27.F f33
 replace p28:=p28.F f33
 replace r32:=r32.F f33
 rw [kx5]
 clear r32
 simp -dsimp only [go_sem,r25.cell,r27.cell]
 intro b34 h34 n34
 have n34_z:=n34.az
 replace p0:=p0.F n34.f0
 replace p24:=p24.F n34.f0
 replace r25:=r25.F n34.f0
 replace r27:=r27.F n34.f0
 replace p28:=p28.F n34.f0
 have r34:=n34.row
 simp -dsimp only [go_sem,r25.cell,r27.cell,r34.cell]
 refine call_of (total_Right (l:=[0,1,2,5,3,4,6]) (tu.fr p28) (ht.fr p0 (.inr rfl)) (Rw.rd (s:=1) (n:=7) (c:=7) r34 rfl) (by decide)) ?_
 rintro v35 h35 ⟨f35,rfl⟩
 have f35_z:=f35.size
 replace p0:=p0.F f35
 replace p24:=p24.F f35
 replace r25:=r25.F f35
 replace r27:=r27.F f35
 replace p28:=p28.F f35
 replace r34:=r34.F f35
 rw [kx6]
 clear r34 r25 r27 tu p28 p24 t24
 simp -dsimp only [go_sem]
 refine call_of (c_law21_ev 0 2 0 1) ?_
 rintro v36 h36 ⟨f36,rfl⟩
 have f36_z:=f36.size
 replace p0:=p0.F f36
 simp -dsimp only [go_sem]
 refine call_of (c_law21_ev 0 1 1 0) ?_
 rintro v37 h37 ⟨f37,rfl⟩
 have f37_z:=f37.size
 replace p0:=p0.F f37
 simp -dsimp only [go_sem]
 refine call_of (c_law21_ev 1 2 1 1) ?_
 rintro v38 h38 ⟨f38,rfl⟩
 have f38_z:=f38.size
 replace p0:=p0.F f38
 simp -dsimp only [go_sem]
 refine call_of (c_law21_ev 1 1 0 0) ?_
 rintro v39 h39 ⟨f39,rfl⟩
 have f39_z:=f39.size
 replace p0:=p0.F f39
 simp -dsimp only [go_sem]
 intro b40 h40 n40
 have n40_z:=n40.az
 replace p0:=p0.F n40.f0
 have r40:=n40.row
 simp -dsimp only [go_sem,r40.cell]
 intro b41 h41 n41
 have n41_z:=n41.az
 replace p0:=p0.F n41.f0
 replace r40:=r40.F n41.f0
 have r41:=n41.row
 simp -dsimp only [go_sem,r40.cell,r41.cell]
 intro b42 h42 n42
 have n42_z:=n42.az
 replace p0:=p0.F n42.f0
 replace r40:=r40.F n42.f0
 replace r41:=r41.F n42.f0
 have r42:=n42.row
 simp -dsimp only [go_sem,r40.cell,r41.cell,r42.cell]
 intro b43 h43 n43
 have n43_z:=n43.az
 replace p0:=p0.F n43.f0
 replace r40:=r40.F n43.f0
 replace r41:=r41.F n43.f0
 replace r42:=r42.F n43.f0
 have r43:=n43.row
 simp -dsimp only [go_sem,r40.cell,r41.cell,r42.cell,r43.cell]
 refine call_of (c_law21_two (E:=[⟨0,2,0,1,1⟩,⟨0,1,1,0,1⟩,⟨1,2,1,1,1⟩,⟨1,1,0,0,1⟩]) (rf:=[(1,3),(0,5)]) (x:=[2]) (y:=[4]) (lo:=0) (Nat.zero_le _) (Rw.rd (s:=5) (n:=4) (c:=4) r40 rfl) (fun h' f=>Rw.rd (s:=2) (n:=2) (c:=2) (r41.fr f (by omega)) rfl) (Rw.rd (s:=1) (n:=1) (c:=1) r42 rfl) (Rw.rd (s:=1) (n:=1) (c:=1) r43 rfl) (by simp) (by simp) (by simp) (by simp)) ?_
 rintro v44 h44 ⟨f44,q44,rfl,t44⟩
 have f44_z:=f44.size
 replace p0:=p0.F f44
 replace r40:=r40.F f44
 replace r41:=r41.F f44
 replace r42:=r42.F f44
 replace r43:=r43.F f44
 clear r40 r41 r42 r43
 replace t44:=t44 _ (.refl _ _ _)
 have p44:Fr 0 0 h44 h44:=.refl _ _ _
 unfold gcells
 simp -dsimp only [go_sem]
 intro b45 h45 n45
 have n45_z:=n45.az
 replace p0:=p0.F n45.f0
 replace p44:=p44.F n45.f0
 have r45:=n45.row
 simp -dsimp only [go_sem,r45.cell]
 refine Chk_intro (r45.W) fun h46 s46=>?_
 have s46_z:=s46.size
 replace p0:=p0.F s46.fr
 replace p44:=p44.F s46.fr
 replace r45:=s46.row r45
 try simp only [cl_int,cl_bool,cl_slice,cl_ptr,putAt_one,zs0,zs1,ivec_set,brow_upd] at r45
 try simp -dsimp only [go_sem] at r45
 simp -dsimp only [go_sem,r45.cell]
 refine call_of (total_Order (g:=kwG) (t44.fr p44) (ht.fr p0 (.inr rfl))) ?_
 rintro v47 h47 ⟨f47,w47⟩
 have f47_z:=f47.size
 replace p0:=p0.F f47
 replace p44:=p44.F f47
 replace r45:=r45.F f47
 rw [kx7] at w47
 have w47:v47=.tuple #[.slice none 0 0,.int .i64 3]:=w47
 subst w47
 simp -dsimp only [go_sem,r45.cell]
 exact p0
end Go.Proofs.Tst
/-
  TotalKnown.
-/
namespace Go.Proofs.Tst
end Go.Proofs.Tst
