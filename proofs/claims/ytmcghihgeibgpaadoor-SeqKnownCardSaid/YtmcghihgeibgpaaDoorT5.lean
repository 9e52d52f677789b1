/-
  Contracts of functions that the law reaches: what each returns and what it leaves in memory. Conditions stand in each.
-/
import Derived.Test.YtmcghihgeibgpaaDoorT4
set_option linter.all false
set_option maxRecDepth 2000
/-
  graph.Derive: one row of po, same and ext.
-/
namespace Go.Proofs.Tst
open Go Go.Vc
def relT (g:Gr) (i j k:Nat):Nat→Nat→Bool:=if k=0∨k=4∨k=5 then mixM i j g.n (relM g k) (fun _ _=>false) else relZ g k
theorem putM_nat {n:Nat} {M:Nat→Nat→Bool} {i j:Nat} (hi:i<n) (hj:j<n) (v:Bool) (x y:Nat):putM n M i j v x y=if x=i∧y=j then v else M x y:=by
 unfold putM
 have h1:inR n (i:Int)=true:=by unfold inR;simp;omega
 have h2:inR n (j:Int)=true:=by unfold inR;simp;omega
 rw [h1,h2]
 by_cases hx:x=i
 ·by_cases hy:y=j
  ·subst hx;subst hy;simp
  ·have:((j:Int)==(y:Int))=false:=by simp;omega
   simp [this,hy]
 ·have:((i:Int)==(x:Int))=false:=by simp;omega
  simp [this,hx]
theorem relT_set {g:Gr} {i j k:Nat} (hk:k=0∨k=4∨k=5) {v:Bool} (hv:v=relM g k i j) {x y:Nat}:(if x=i∧y=j then v else relT g i j k x y)=relT g i (j+1) k x y:=by
 unfold relT;rw [if_pos hk,if_pos hk];exact mixM_set hv
theorem relT_step {g:Gr} {i j:Nat} (hi:i<g.n) (hj:j<g.n) {v0 v4 v5:Bool} (h0:v0=relM g 0 i j) (h4:v4=relM g 4 i j) (h5:v5=relM g 5 i j) (k:Nat) {x y:Nat} (_:x<g.n) (_:y<g.n) :
  (if k=5 then putM g.n ((fun l=>if l=4 then putM g.n ((fun l=>if l=0 then putM g.n (relT g i j 0) i j v0 else relT g i j l) 4) i j v4 else (fun l=>if l=0 then putM g.n (relT g i j 0) i j v0 else relT g i j l) l) 5) i j v5
   else (fun l=>if l=4 then putM g.n ((fun l=>if l=0 then putM g.n (relT g i j 0) i j v0 else relT g i j l) 4) i j v4 else (fun l=>if l=0 then putM g.n (relT g i j 0) i j v0 else relT g i j l) l) k) x y=relT g i (j+1) k x y:=by
 by_cases k5:k=5
 ·subst k5
  simp only [if_true]
  rw [putM_nat hi hj]
  show (if x=i∧y=j then v5 else relT g i j 5 x y)=_
  exact relT_set (by decide) h5
 ·rw [if_neg k5]
  by_cases k4:k=4
  ·subst k4
   simp only [if_true]
   rw [putM_nat hi hj]
   show (if x=i∧y=j then v4 else relT g i j 4 x y)=_
   exact relT_set (by decide) h4
  ·simp only [if_neg k4]
   by_cases k0:k=0
   ·subst k0
    simp only [if_true]
    rw [putM_nat hi hj]
    show (if x=i∧y=j then v0 else relT g i j 0 x y)=_
    exact relT_set (by decide) h0
   ·simp only [if_neg k0]
    unfold relT
    rw [if_neg (by omega),if_neg (by omega)]
theorem relT_next {g:Gr} {i k x y:Nat}:relT g i g.n k x y=relT g (i+1) 0 k x y:=by
 unfold relT
 split
 ·exact mixM_next
 ·rfl
set_option maxHeartbeats 4000000 in
theorem derive_row {Q:Post} {h hI:Heap} {q:GV} {g:Gr} {b1 b2 b5 b7 i H3 H4:Nat} {A B:Nat→Nat} {p:Nat→Value} {v3 rd wr fe v53 v54 v55:Value} (t:GrAt h q g) (p0:Fr 0 0 h hI)
  (hAB:∀ k,k<9→H3≤A k∧A k≤B k∧B k≤H4) (hb5:∀ k,k<9→b5<A k∨B k≤b5) (h34:h.size≤H3) (hb7:H4≤b7) (h4I:H4≤hI.size) (hi:i<g.n)
  (D:Der hI A B p g.n (relT g i 0) 9) (r5:Rw hI b5 [p 0,p 1,p 2,v3,p 3,p 4,p 5,p 6,p 7,p 8,rd,wr,fe]) (r7:Rw hI b7 (g.ev i).cells)
  (hQ:∀ h',FrX (InR A B 9) hI h'→Der h' A B p g.n (relT g (i+1) 0) 9 →
   Q (.exit 2) [(1,.pointer (some ⟨b1,0,none⟩)),(2,.pointer (some ⟨b2,0,none⟩)),(5,.pointer (some ⟨b5,0,none⟩)),(6,.int .i64 i),(7,.pointer (some ⟨b7,0,none⟩)),(53,v53),(54,v54),(55,v55),(85,.slice q.e g.evs.length q.ec),(86,.int .i64 g.evs.length),(87,.int .i64 g.n),(88,.bool false)] h') :
  loopVC (vc Tryd.prog none g_q12_l18) Q [(1,.pointer (some ⟨b1,0,none⟩)),(2,.pointer (some ⟨b2,0,none⟩)),(5,.pointer (some ⟨b5,0,none⟩)),(6,.int .i64 i),(7,.pointer (some ⟨b7,0,none⟩)),(53,v53),(54,v54),(55,v55),(85,.slice q.e g.evs.length q.ec),(86,.int .i64 g.evs.length),(87,.int .i64 0)] hI:=by
 have be:=t.fits.e
 have hen:g.evs.length=g.n:=rfl
 have r5l:=r5.lt
 have r7l:=r7.lt
 unfold Ev.cells at r7
 refine loop_intro (fun j:Nat=>[(1,.pointer (some ⟨b1,0,none⟩)),(2,.pointer (some ⟨b2,0,none⟩)),(5,.pointer (some ⟨b5,0,none⟩)),(6,.int .i64 i),(7,.pointer (some ⟨b7,0,none⟩)),(53,v53),(54,v54),(55,v55),(85,.slice q.e g.evs.length q.ec),(86,.int .i64 g.evs.length),(87,.int .i64 j)])
  (fun j h'=>j≤g.n∧FrX (InR A B 9) hI h'∧Der h' A B p g.n (relT g i j) 9) (fun j=>g.n - j) 0 ?_ ?_ ?_
 ·simp [Le,find]
 ·exact ⟨by omega,.refl _ _,D⟩
 clear D
 rintro j h2 ⟨hj,X,D⟩
 have X_z:=X.size
 have p2:Fr 0 0 h h2:=X.fresh p0 fun x ⟨k,hk,h1,_⟩=>by have:=hAB k hk;omega
 have p2_z:=p2.size
 replace r5:=X.rw r5 fun ⟨k,hk,h1,h2⟩=>by have:=hb5 k hk;omega
 replace r7:=X.rw r7 fun ⟨k,hk,h1,h2⟩=>by have:=hAB k hk;omega
 by_cases hlt:j<g.n
 ·have e1:((j:Int)<(g.n:Int)):=by omega
  obtain ⟨eb,eo,he,hev⟩:=t.evs (by omega)
  obtain ⟨c0,c1,c2,c3,c4⟩:=hev h2 p2 j hlt
  simp -dsimp only [go_sem,he,e1,evs_len,c0,c1,c2,c3,c4,r5.cell,r7.cell]
  intro b9 h3 n9
  have n9_z:=n9.az
  replace p2:=p2.F n9.f0
  replace X:=X.step n9.f0 (fun x h1 h2=>.inr (by omega))
  replace D:=D.fr n9.f0 (fun k hk=>by have:=hAB k hk;first | omega | (have:=hb5 k hk;omega))
  replace r5:=r5.F n9.f0
  replace r7:=r7.F n9.f0
  have r9:=n9.row
  simp -dsimp only [go_sem,r5.cell,r7.cell,r9.cell]
  refine Chk_intro (r9.W) fun h4 s9=>?_
  have s9_z:=s9.size
  replace p2:=p2.F s9.fr
  replace X:=X.step s9.fr (fun x h1 h2=>.inr (by omega))
  replace D:=D.fr s9.fr (fun k hk=>by have:=hAB k hk;first | omega | (have:=hb5 k hk;omega))
  replace r5:=r5.F s9.fr
  replace r7:=r7.F s9.fr
  replace r9:=s9.row r9
  try simp only [cl_int,cl_bool,cl_slice,cl_ptr,putAt_one,zs0,zs1,ivec_set,brow_upd] at r9
  simp -dsimp only [go_sem] at r9
  have hv5:((g.ev i).thread != (g.ev j).thread)=relM g 5 i j:=rfl
  have hpo:relM g 0 i j=(decide (0≤(i:Int))&&decide ((i:Int)<(j:Int))&&decide ((j:Int)<(g.n:Int))&&decide (0≤(g.ev i).thread)&&(g.ev i).thread==(g.ev j).thread):=by
   show g.before i j=_;unfold Gr.before;rw [Int.toNat_natCast,Int.toNat_natCast]
  rw [dec_t (show 0≤(i:Int) by omega),dec_t e1] at hpo
  by_cases a1:(i:Int)<(j:Int)
  ·rw [dec_t a1] at hpo
   by_cases a2:(g.ev i).thread≥0
   ·rw [dec_t (show 0≤(g.ev i).thread from a2)] at hpo
    by_cases a3:(g.ev i).thread=(g.ev j).thread
    ·have hv1:true=relM g 0 i j:=by rw [hpo,beq_t a3];rfl
     simp -dsimp only [go_sem,a1,a2,beq_t a3,r5.cell,r7.cell,r9.cell]
     refine call_of (rel_Put (D.at_ 0 (by decide)) i j (true)) ?_
     rintro vp h_p ⟨f_p,z_p,-,w_p⟩
     replace D:=D.put (k:=0) (by decide) f_p w_p
     have ab_p:=hAB 0 (by decide)
     have b5_p:=hb5 0 (by decide)
     replace X:=X.step f_p (fun x h1 h2=>.inl ⟨0,by decide,h1,h2⟩)
     replace p2:=p2.F f_p
     replace r5:=r5.F f_p
     replace r7:=r7.F f_p
     replace r9:=r9.F f_p
     clear ab_p b5_p
     by_cases b1':(g.ev i).loc≥0
     ·by_cases b2':(g.ev i).loc=(g.ev j).loc
      ·have hv4:true=relM g 4 i j:=by show true=g.sameM i j;unfold Gr.sameM;rw [dec_t (show 0≤(g.ev i).loc from b1'),beq_t b2'];rfl
       simp -dsimp only [go_sem,b1',beq_t b2',r5.cell,r7.cell,r9.cell]
       refine call_of (rel_Put (D.at_ 4 (by decide)) i j (true)) ?_
       rintro vp h_p ⟨f_p,z_p,-,w_p⟩
       replace D:=D.put (k:=4) (by decide) f_p w_p
       have ab_p:=hAB 4 (by decide)
       have b5_p:=hb5 4 (by decide)
       replace X:=X.step f_p (fun x h1 h2=>.inl ⟨4,by decide,h1,h2⟩)
       replace p2:=p2.F f_p
       replace r5:=r5.F f_p
       replace r7:=r7.F f_p
       replace r9:=r9.F f_p
       clear ab_p b5_p
       simp -dsimp only [go_sem,he,r5.cell,r7.cell,r9.cell]
       refine call_of (rel_Put (D.at_ 5 (by decide)) i j ((g.ev i).thread != (g.ev j).thread)) ?_
       rintro vp h_p ⟨f_p,z_p,-,w_p⟩
       replace D:=D.put (k:=5) (by decide) f_p w_p
       have ab_p:=hAB 5 (by decide)
       have b5_p:=hb5 5 (by decide)
       replace X:=X.step f_p (fun x h1 h2=>.inl ⟨5,by decide,h1,h2⟩)
       replace p2:=p2.F f_p
       replace r5:=r5.F f_p
       replace r7:=r7.F f_p
       replace r9:=r9.F f_p
       clear ab_p b5_p
       simp -dsimp only [go_sem,he,evs_len,r5.cell,r7.cell,r9.cell]
       simp -dsimp (disch:=omega) only [wrap64]
       refine ⟨j+1,by omega,by simp [Le,find,he,evs_len],by omega,X,D.congr fun k hk x y hx hy=>?_⟩
       exact relT_step hi hlt hv1 hv4 hv5 k hx hy
      ·have hv4:false=relM g 4 i j:=by show false=g.sameM i j;unfold Gr.sameM;rw [beq_f b2',Bool.and_false]
       simp -dsimp only [go_sem,b1',beq_f b2',r5.cell,r7.cell,r9.cell]
       refine call_of (rel_Put (D.at_ 4 (by decide)) i j (false)) ?_
       rintro vp h_p ⟨f_p,z_p,-,w_p⟩
       replace D:=D.put (k:=4) (by decide) f_p w_p
       have ab_p:=hAB 4 (by decide)
       have b5_p:=hb5 4 (by decide)
       replace X:=X.step f_p (fun x h1 h2=>.inl ⟨4,by decide,h1,h2⟩)
       replace p2:=p2.F f_p
       replace r5:=r5.F f_p
       replace r7:=r7.F f_p
       replace r9:=r9.F f_p
       clear ab_p b5_p
       simp -dsimp only [go_sem,he,r5.cell,r7.cell,r9.cell]
       refine call_of (rel_Put (D.at_ 5 (by decide)) i j ((g.ev i).thread != (g.ev j).thread)) ?_
       rintro vp h_p ⟨f_p,z_p,-,w_p⟩
       replace D:=D.put (k:=5) (by decide) f_p w_p
       have ab_p:=hAB 5 (by decide)
       have b5_p:=hb5 5 (by decide)
       replace X:=X.step f_p (fun x h1 h2=>.inl ⟨5,by decide,h1,h2⟩)
       replace p2:=p2.F f_p
       replace r5:=r5.F f_p
       replace r7:=r7.F f_p
       replace r9:=r9.F f_p
       clear ab_p b5_p
       simp -dsimp only [go_sem,he,evs_len,r5.cell,r7.cell,r9.cell]
       simp -dsimp (disch:=omega) only [wrap64]
       refine ⟨j+1,by omega,by simp [Le,find,he,evs_len],by omega,X,D.congr fun k hk x y hx hy=>?_⟩
       exact relT_step hi hlt hv1 hv4 hv5 k hx hy
     ·have hv4:false=relM g 4 i j:=by show false=g.sameM i j;unfold Gr.sameM;rw [dec_f (show ¬ 0≤(g.ev i).loc from b1')];rfl
      simp -dsimp only [go_sem,b1',r5.cell,r7.cell,r9.cell]
      refine call_of (rel_Put (D.at_ 4 (by decide)) i j (false)) ?_
      rintro vp h_p ⟨f_p,z_p,-,w_p⟩
      replace D:=D.put (k:=4) (by decide) f_p w_p
      have ab_p:=hAB 4 (by decide)
      have b5_p:=hb5 4 (by decide)
      replace X:=X.step f_p (fun x h1 h2=>.inl ⟨4,by decide,h1,h2⟩)
      replace p2:=p2.F f_p
      replace r5:=r5.F f_p
      replace r7:=r7.F f_p
      replace r9:=r9.F f_p
      clear ab_p b5_p
      simp -dsimp only [go_sem,he,r5.cell,r7.cell,r9.cell]
      refine call_of (rel_Put (D.at_ 5 (by decide)) i j ((g.ev i).thread != (g.ev j).thread)) ?_
      rintro vp h_p ⟨f_p,z_p,-,w_p⟩
      replace D:=D.put (k:=5) (by decide) f_p w_p
      have ab_p:=hAB 5 (by decide)
      have b5_p:=hb5 5 (by decide)
      replace X:=X.step f_p (fun x h1 h2=>.inl ⟨5,by decide,h1,h2⟩)
      replace p2:=p2.F f_p
      replace r5:=r5.F f_p
      replace r7:=r7.F f_p
      replace r9:=r9.F f_p
      clear ab_p b5_p
      simp -dsimp only [go_sem,he,evs_len,r5.cell,r7.cell,r9.cell]
      simp -dsimp (disch:=omega) only [wrap64]
      refine ⟨j+1,by omega,by simp [Le,find,he,evs_len],by omega,X,D.congr fun k hk x y hx hy=>?_⟩
      exact relT_step hi hlt hv1 hv4 hv5 k hx hy
    ·have hv1:false=relM g 0 i j:=by rw [hpo,beq_f a3];rfl
     simp -dsimp only [go_sem,a1,a2,beq_f a3,r5.cell,r7.cell,r9.cell]
     refine call_of (rel_Put (D.at_ 0 (by decide)) i j (false)) ?_
     rintro vp h_p ⟨f_p,z_p,-,w_p⟩
     replace D:=D.put (k:=0) (by decide) f_p w_p
     have ab_p:=hAB 0 (by decide)
     have b5_p:=hb5 0 (by decide)
     replace X:=X.step f_p (fun x h1 h2=>.inl ⟨0,by decide,h1,h2⟩)
     replace p2:=p2.F f_p
     replace r5:=r5.F f_p
     replace r7:=r7.F f_p
     replace r9:=r9.F f_p
     clear ab_p b5_p
     by_cases b1':(g.ev i).loc≥0
     ·by_cases b2':(g.ev i).loc=(g.ev j).loc
      ·have hv4:true=relM g 4 i j:=by show true=g.sameM i j;unfold Gr.sameM;rw [dec_t (show 0≤(g.ev i).loc from b1'),beq_t b2'];rfl
       simp -dsimp only [go_sem,b1',beq_t b2',r5.cell,r7.cell,r9.cell]
       refine call_of (rel_Put (D.at_ 4 (by decide)) i j (true)) ?_
       rintro vp h_p ⟨f_p,z_p,-,w_p⟩
       replace D:=D.put (k:=4) (by decide) f_p w_p
       have ab_p:=hAB 4 (by decide)
       have b5_p:=hb5 4 (by decide)
       replace X:=X.step f_p (fun x h1 h2=>.inl ⟨4,by decide,h1,h2⟩)
       replace p2:=p2.F f_p
       replace r5:=r5.F f_p
       replace r7:=r7.F f_p
       replace r9:=r9.F f_p
       clear ab_p b5_p
       simp -dsimp only [go_sem,he,r5.cell,r7.cell,r9.cell]
       refine call_of (rel_Put (D.at_ 5 (by decide)) i j ((g.ev i).thread != (g.ev j).thread)) ?_
       rintro vp h_p ⟨f_p,z_p,-,w_p⟩
       replace D:=D.put (k:=5) (by decide) f_p w_p
       have ab_p:=hAB 5 (by decide)
       have b5_p:=hb5 5 (by decide)
       replace X:=X.step f_p (fun x h1 h2=>.inl ⟨5,by decide,h1,h2⟩)
       replace p2:=p2.F f_p
       replace r5:=r5.F f_p
       replace r7:=r7.F f_p
       replace r9:=r9.F f_p
       clear ab_p b5_p
       simp -dsimp only [go_sem,he,evs_len,r5.cell,r7.cell,r9.cell]
       simp -dsimp (disch:=omega) only [wrap64]
       refine ⟨j+1,by omega,by simp [Le,find,he,evs_len],by omega,X,D.congr fun k hk x y hx hy=>?_⟩
       exact relT_step hi hlt hv1 hv4 hv5 k hx hy
      ·have hv4:false=relM g 4 i j:=by show false=g.sameM i j;unfold Gr.sameM;rw [beq_f b2',Bool.and_false]
       simp -dsimp only [go_sem,b1',beq_f b2',r5.cell,r7.cell,r9.cell]
       refine call_of (rel_Put (D.at_ 4 (by decide)) i j (false)) ?_
       rintro vp h_p ⟨f_p,z_p,-,w_p⟩
       replace D:=D.put (k:=4) (by decide) f_p w_p
       have ab_p:=hAB 4 (by decide)
       have b5_p:=hb5 4 (by decide)
       replace X:=X.step f_p (fun x h1 h2=>.inl ⟨4,by decide,h1,h2⟩)
       replace p2:=p2.F f_p
       replace r5:=r5.F f_p
       replace r7:=r7.F f_p
       replace r9:=r9.F f_p
       clear ab_p b5_p
       simp -dsimp only [go_sem,he,r5.cell,r7.cell,r9.cell]
       refine call_of (rel_Put (D.at_ 5 (by decide)) i j ((g.ev i).thread != (g.ev j).thread)) ?_
       rintro vp h_p ⟨f_p,z_p,-,w_p⟩
       replace D:=D.put (k:=5) (by decide) f_p w_p
       have ab_p:=hAB 5 (by decide)
       have b5_p:=hb5 5 (by decide)
       replace X:=X.step f_p (fun x h1 h2=>.inl ⟨5,by decide,h1,h2⟩)
       replace p2:=p2.F f_p
       replace r5:=r5.F f_p
       replace r7:=r7.F f_p
       replace r9:=r9.F f_p
       clear ab_p b5_p
       simp -dsimp only [go_sem,he,evs_len,r5.cell,r7.cell,r9.cell]
       simp -dsimp (disch:=omega) only [wrap64]
       refine ⟨j+1,by omega,by simp [Le,find,he,evs_len],by omega,X,D.congr fun k hk x y hx hy=>?_⟩
       exact relT_step hi hlt hv1 hv4 hv5 k hx hy
     ·have hv4:false=relM g 4 i j:=by show false=g.sameM i j;unfold Gr.sameM;rw [dec_f (show ¬ 0≤(g.ev i).loc from b1')];rfl
      simp -dsimp only [go_sem,b1',r5.cell,r7.cell,r9.cell]
      refine call_of (rel_Put (D.at_ 4 (by decide)) i j (false)) ?_
      rintro vp h_p ⟨f_p,z_p,-,w_p⟩
      replace D:=D.put (k:=4) (by decide) f_p w_p
      have ab_p:=hAB 4 (by decide)
      have b5_p:=hb5 4 (by decide)
      replace X:=X.step f_p (fun x h1 h2=>.inl ⟨4,by decide,h1,h2⟩)
      replace p2:=p2.F f_p
      replace r5:=r5.F f_p
      replace r7:=r7.F f_p
      replace r9:=r9.F f_p
      clear ab_p b5_p
      simp -dsimp only [go_sem,he,r5.cell,r7.cell,r9.cell]
      refine call_of (rel_Put (D.at_ 5 (by decide)) i j ((g.ev i).thread != (g.ev j).thread)) ?_
      rintro vp h_p ⟨f_p,z_p,-,w_p⟩
      replace D:=D.put (k:=5) (by decide) f_p w_p
      have ab_p:=hAB 5 (by decide)
      have b5_p:=hb5 5 (by decide)
      replace X:=X.step f_p (fun x h1 h2=>.inl ⟨5,by decide,h1,h2⟩)
      replace p2:=p2.F f_p
      replace r5:=r5.F f_p
      replace r7:=r7.F f_p
      replace r9:=r9.F f_p
      clear ab_p b5_p
      simp -dsimp only [go_sem,he,evs_len,r5.cell,r7.cell,r9.cell]
      simp -dsimp (disch:=omega) only [wrap64]
      refine ⟨j+1,by omega,by simp [Le,find,he,evs_len],by omega,X,D.congr fun k hk x y hx hy=>?_⟩
      exact relT_step hi hlt hv1 hv4 hv5 k hx hy
   ·have hv1:false=relM g 0 i j:=by rw [hpo,dec_f (show ¬ 0≤(g.ev i).thread from a2)];rfl
    simp -dsimp only [go_sem,a1,a2,r5.cell,r7.cell,r9.cell]
    refine call_of (rel_Put (D.at_ 0 (by decide)) i j (false)) ?_
    rintro vp h_p ⟨f_p,z_p,-,w_p⟩
    replace D:=D.put (k:=0) (by decide) f_p w_p
    have ab_p:=hAB 0 (by decide)
    have b5_p:=hb5 0 (by decide)
    replace X:=X.step f_p (fun x h1 h2=>.inl ⟨0,by decide,h1,h2⟩)
    replace p2:=p2.F f_p
    replace r5:=r5.F f_p
    replace r7:=r7.F f_p
    replace r9:=r9.F f_p
    clear ab_p b5_p
    by_cases b1':(g.ev i).loc≥0
    ·by_cases b2':(g.ev i).loc=(g.ev j).loc
     ·have hv4:true=relM g 4 i j:=by show true=g.sameM i j;unfold Gr.sameM;rw [dec_t (show 0≤(g.ev i).loc from b1'),beq_t b2'];rfl
      simp -dsimp only [go_sem,b1',beq_t b2',r5.cell,r7.cell,r9.cell]
      refine call_of (rel_Put (D.at_ 4 (by decide)) i j (true)) ?_
      rintro vp h_p ⟨f_p,z_p,-,w_p⟩
      replace D:=D.put (k:=4) (by decide) f_p w_p
      have ab_p:=hAB 4 (by decide)
      have b5_p:=hb5 4 (by decide)
      replace X:=X.step f_p (fun x h1 h2=>.inl ⟨4,by decide,h1,h2⟩)
      replace p2:=p2.F f_p
      replace r5:=r5.F f_p
      replace r7:=r7.F f_p
      replace r9:=r9.F f_p
      clear ab_p b5_p
      simp -dsimp only [go_sem,he,r5.cell,r7.cell,r9.cell]
      refine call_of (rel_Put (D.at_ 5 (by decide)) i j ((g.ev i).thread != (g.ev j).thread)) ?_
      rintro vp h_p ⟨f_p,z_p,-,w_p⟩
      replace D:=D.put (k:=5) (by decide) f_p w_p
      have ab_p:=hAB 5 (by decide)
      have b5_p:=hb5 5 (by decide)
      replace X:=X.step f_p (fun x h1 h2=>.inl ⟨5,by decide,h1,h2⟩)
      replace p2:=p2.F f_p
      replace r5:=r5.F f_p
      replace r7:=r7.F f_p
      replace r9:=r9.F f_p
      clear ab_p b5_p
      simp -dsimp only [go_sem,he,evs_len,r5.cell,r7.cell,r9.cell]
      simp -dsimp (disch:=omega) only [wrap64]
      refine ⟨j+1,by omega,by simp [Le,find,he,evs_len],by omega,X,D.congr fun k hk x y hx hy=>?_⟩
      exact relT_step hi hlt hv1 hv4 hv5 k hx hy
     ·have hv4:false=relM g 4 i j:=by show false=g.sameM i j;unfold Gr.sameM;rw [beq_f b2',Bool.and_false]
      simp -dsimp only [go_sem,b1',beq_f b2',r5.cell,r7.cell,r9.cell]
      refine call_of (rel_Put (D.at_ 4 (by decide)) i j (false)) ?_
      rintro vp h_p ⟨f_p,z_p,-,w_p⟩
      replace D:=D.put (k:=4) (by decide) f_p w_p
      have ab_p:=hAB 4 (by decide)
      have b5_p:=hb5 4 (by decide)
      replace X:=X.step f_p (fun x h1 h2=>.inl ⟨4,by decide,h1,h2⟩)
      replace p2:=p2.F f_p
      replace r5:=r5.F f_p
      replace r7:=r7.F f_p
      replace r9:=r9.F f_p
      clear ab_p b5_p
      simp -dsimp only [go_sem,he,r5.cell,r7.cell,r9.cell]
      refine call_of (rel_Put (D.at_ 5 (by decide)) i j ((g.ev i).thread != (g.ev j).thread)) ?_
      rintro vp h_p ⟨f_p,z_p,-,w_p⟩
      replace D:=D.put (k:=5) (by decide) f_p w_p
      have ab_p:=hAB 5 (by decide)
      have b5_p:=hb5 5 (by decide)
      replace X:=X.step f_p (fun x h1 h2=>.inl ⟨5,by decide,h1,h2⟩)
      replace p2:=p2.F f_p
      replace r5:=r5.F f_p
      replace r7:=r7.F f_p
      replace r9:=r9.F f_p
      clear ab_p b5_p
      simp -dsimp only [go_sem,he,evs_len,r5.cell,r7.cell,r9.cell]
      simp -dsimp (disch:=omega) only [wrap64]
      refine ⟨j+1,by omega,by simp [Le,find,he,evs_len],by omega,X,D.congr fun k hk x y hx hy=>?_⟩
      exact relT_step hi hlt hv1 hv4 hv5 k hx hy
    ·have hv4:false=relM g 4 i j:=by show false=g.sameM i j;unfold Gr.sameM;rw [dec_f (show ¬ 0≤(g.ev i).loc from b1')];rfl
     simp -dsimp only [go_sem,b1',r5.cell,r7.cell,r9.cell]
     refine call_of (rel_Put (D.at_ 4 (by decide)) i j (false)) ?_
     rintro vp h_p ⟨f_p,z_p,-,w_p⟩
     replace D:=D.put (k:=4) (by decide) f_p w_p
     have ab_p:=hAB 4 (by decide)
     have b5_p:=hb5 4 (by decide)
     replace X:=X.step f_p (fun x h1 h2=>.inl ⟨4,by decide,h1,h2⟩)
     replace p2:=p2.F f_p
     replace r5:=r5.F f_p
     replace r7:=r7.F f_p
     replace r9:=r9.F f_p
     clear ab_p b5_p
     simp -dsimp only [go_sem,he,r5.cell,r7.cell,r9.cell]
     refine call_of (rel_Put (D.at_ 5 (by decide)) i j ((g.ev i).thread != (g.ev j).thread)) ?_
     rintro vp h_p ⟨f_p,z_p,-,w_p⟩
     replace D:=D.put (k:=5) (by decide) f_p w_p
     have ab_p:=hAB 5 (by decide)
     have b5_p:=hb5 5 (by decide)
     replace X:=X.step f_p (fun x h1 h2=>.inl ⟨5,by decide,h1,h2⟩)
     replace p2:=p2.F f_p
     replace r5:=r5.F f_p
     replace r7:=r7.F f_p
     replace r9:=r9.F f_p
     clear ab_p b5_p
     simp -dsimp only [go_sem,he,evs_len,r5.cell,r7.cell,r9.cell]
     simp -dsimp (disch:=omega) only [wrap64]
     refine ⟨j+1,by omega,by simp [Le,find,he,evs_len],by omega,X,D.congr fun k hk x y hx hy=>?_⟩
     exact relT_step hi hlt hv1 hv4 hv5 k hx hy
  ·have hv1:false=relM g 0 i j:=by rw [hpo,dec_f a1];rfl
   simp -dsimp only [go_sem,a1,r5.cell,r7.cell,r9.cell]
   refine call_of (rel_Put (D.at_ 0 (by decide)) i j (false)) ?_
   rintro vp h_p ⟨f_p,z_p,-,w_p⟩
   replace D:=D.put (k:=0) (by decide) f_p w_p
   have ab_p:=hAB 0 (by decide)
   have b5_p:=hb5 0 (by decide)
   replace X:=X.step f_p (fun x h1 h2=>.inl ⟨0,by decide,h1,h2⟩)
   replace p2:=p2.F f_p
   replace r5:=r5.F f_p
   replace r7:=r7.F f_p
   replace r9:=r9.F f_p
   clear ab_p b5_p
   by_cases b1':(g.ev i).loc≥0
   ·by_cases b2':(g.ev i).loc=(g.ev j).loc
    ·have hv4:true=relM g 4 i j:=by show true=g.sameM i j;unfold Gr.sameM;rw [dec_t (show 0≤(g.ev i).loc from b1'),beq_t b2'];rfl
     simp -dsimp only [go_sem,b1',beq_t b2',r5.cell,r7.cell,r9.cell]
     refine call_of (rel_Put (D.at_ 4 (by decide)) i j (true)) ?_
     rintro vp h_p ⟨f_p,z_p,-,w_p⟩
     replace D:=D.put (k:=4) (by decide) f_p w_p
     have ab_p:=hAB 4 (by decide)
     have b5_p:=hb5 4 (by decide)
     replace X:=X.step f_p (fun x h1 h2=>.inl ⟨4,by decide,h1,h2⟩)
     replace p2:=p2.F f_p
     replace r5:=r5.F f_p
     replace r7:=r7.F f_p
     replace r9:=r9.F f_p
     clear ab_p b5_p
     simp -dsimp only [go_sem,he,r5.cell,r7.cell,r9.cell]
     refine call_of (rel_Put (D.at_ 5 (by decide)) i j ((g.ev i).thread != (g.ev j).thread)) ?_
     rintro vp h_p ⟨f_p,z_p,-,w_p⟩
     replace D:=D.put (k:=5) (by decide) f_p w_p
     have ab_p:=hAB 5 (by decide)
     have b5_p:=hb5 5 (by decide)
     replace X:=X.step f_p (fun x h1 h2=>.inl ⟨5,by decide,h1,h2⟩)
     replace p2:=p2.F f_p
     replace r5:=r5.F f_p
     replace r7:=r7.F f_p
     replace r9:=r9.F f_p
     clear ab_p b5_p
     simp -dsimp only [go_sem,he,evs_len,r5.cell,r7.cell,r9.cell]
     simp -dsimp (disch:=omega) only [wrap64]
     refine ⟨j+1,by omega,by simp [Le,find,he,evs_len],by omega,X,D.congr fun k hk x y hx hy=>?_⟩
     exact relT_step hi hlt hv1 hv4 hv5 k hx hy
    ·have hv4:false=relM g 4 i j:=by show false=g.sameM i j;unfold Gr.sameM;rw [beq_f b2',Bool.and_false]
     simp -dsimp only [go_sem,b1',beq_f b2',r5.cell,r7.cell,r9.cell]
     refine call_of (rel_Put (D.at_ 4 (by decide)) i j (false)) ?_
     rintro vp h_p ⟨f_p,z_p,-,w_p⟩
     replace D:=D.put (k:=4) (by decide) f_p w_p
     have ab_p:=hAB 4 (by decide)
     have b5_p:=hb5 4 (by decide)
     replace X:=X.step f_p (fun x h1 h2=>.inl ⟨4,by decide,h1,h2⟩)
     replace p2:=p2.F f_p
     replace r5:=r5.F f_p
     replace r7:=r7.F f_p
     replace r9:=r9.F f_p
     clear ab_p b5_p
     simp -dsimp only [go_sem,he,r5.cell,r7.cell,r9.cell]
     refine call_of (rel_Put (D.at_ 5 (by decide)) i j ((g.ev i).thread != (g.ev j).thread)) ?_
     rintro vp h_p ⟨f_p,z_p,-,w_p⟩
     replace D:=D.put (k:=5) (by decide) f_p w_p
     have ab_p:=hAB 5 (by decide)
     have b5_p:=hb5 5 (by decide)
     replace X:=X.step f_p (fun x h1 h2=>.inl ⟨5,by decide,h1,h2⟩)
     replace p2:=p2.F f_p
     replace r5:=r5.F f_p
     replace r7:=r7.F f_p
     replace r9:=r9.F f_p
     clear ab_p b5_p
     simp -dsimp only [go_sem,he,evs_len,r5.cell,r7.cell,r9.cell]
     simp -dsimp (disch:=omega) only [wrap64]
     refine ⟨j+1,by omega,by simp [Le,find,he,evs_len],by omega,X,D.congr fun k hk x y hx hy=>?_⟩
     exact relT_step hi hlt hv1 hv4 hv5 k hx hy
   ·have hv4:false=relM g 4 i j:=by show false=g.sameM i j;unfold Gr.sameM;rw [dec_f (show ¬ 0≤(g.ev i).loc from b1')];rfl
    simp -dsimp only [go_sem,b1',r5.cell,r7.cell,r9.cell]
    refine call_of (rel_Put (D.at_ 4 (by decide)) i j (false)) ?_
    rintro vp h_p ⟨f_p,z_p,-,w_p⟩
    replace D:=D.put (k:=4) (by decide) f_p w_p
    have ab_p:=hAB 4 (by decide)
    have b5_p:=hb5 4 (by decide)
    replace X:=X.step f_p (fun x h1 h2=>.inl ⟨4,by decide,h1,h2⟩)
    replace p2:=p2.F f_p
    replace r5:=r5.F f_p
    replace r7:=r7.F f_p
    replace r9:=r9.F f_p
    clear ab_p b5_p
    simp -dsimp only [go_sem,he,r5.cell,r7.cell,r9.cell]
    refine call_of (rel_Put (D.at_ 5 (by decide)) i j ((g.ev i).thread != (g.ev j).thread)) ?_
    rintro vp h_p ⟨f_p,z_p,-,w_p⟩
    replace D:=D.put (k:=5) (by decide) f_p w_p
    have ab_p:=hAB 5 (by decide)
    have b5_p:=hb5 5 (by decide)
    replace X:=X.step f_p (fun x h1 h2=>.inl ⟨5,by decide,h1,h2⟩)
    replace p2:=p2.F f_p
    replace r5:=r5.F f_p
    replace r7:=r7.F f_p
    replace r9:=r9.F f_p
    clear ab_p b5_p
    simp -dsimp only [go_sem,he,evs_len,r5.cell,r7.cell,r9.cell]
    simp -dsimp (disch:=omega) only [wrap64]
    refine ⟨j+1,by omega,by simp [Le,find,he,evs_len],by omega,X,D.congr fun k hk x y hx hy=>?_⟩
    exact relT_step hi hlt hv1 hv4 hv5 k hx hy
 ·obtain rfl:j=g.n:=by omega
  simp -dsimp only [go_sem,evs_len,Int.lt_irrefl]
  exact hQ _ X (D.congr fun k _ x y _ _=>relT_next)
end Go.Proofs.Tst
/-
  graph.Derive: co.
-/
namespace Go.Proofs.Tst
open Go Go.Vc
def relC (g:Gr) (L:List (Int×Int)) (k:Nat):Nat→Nat→Bool:=if k=2 then ofM g.n L else relM g k
theorem ofM_snoc {n:Nat} {L:List (Int×Int)} {a b:Int} (x y:Nat):putM n (ofM n L) a b true x y=ofM n (L++[(a,b)]) x y:=by
 unfold putM ofM
 rw [List.any_append]
 simp only [List.any_cons,List.any_nil,Bool.or_false]
 cases hc:(inR n a&&inR n b&&a==(x:Int)&&b==(y:Int))
 ·simp
 ·simp
theorem relC_put {g:Gr} {L:List (Int×Int)} {a b:Int} (k x y:Nat):(if k=2 then putM g.n (relC g L 2) a b true else relC g L k) x y=relC g (L++[(a,b)]) k x y:=by
 by_cases hk:k=2
 ·subst hk;exact ofM_snoc x y
 ·rw [if_neg hk];unfold relC;rw [if_neg hk,if_neg hk]
set_option maxHeartbeats 2000000 in
theorem derive_co {Q:Post} {h hI:Heap} {q:GV} {g:Gr} {b2 b5 H3 H4:Nat} {A B:Nat→Nat} {p:Nat→Value} {v3 rd wr fe:Value} (t:GrAt h q g) (p0:Fr 0 0 h hI)
  (hAB:∀ k,k<9→H3≤A k∧A k≤B k∧B k≤H4) (hb5:∀ k,k<9→b5<A k∨B k≤b5) (h34:h.size≤H3)
  (D:Der hI A B p g.n (relC g []) 9) (r5:Rw hI b5 [p 0,p 1,p 2,v3,p 3,p 4,p 5,p 6,p 7,p 8,rd,wr,fe])
  (hQ:∀ h',FrX (InR A B 9) hI h'→Der h' A B p g.n (relC g (coPairs g)) 9 →
   Q (.exit 4) [(2,.pointer (some ⟨b2,0,none⟩)),(5,.pointer (some ⟨b5,0,none⟩)),(140,.slice q.o g.co.length q.oc),(141,.int .i64 g.co.length),(142,.int .i64 g.co.length),(143,.bool false)] h') :
  loopVC (vc Tryd.prog none g_q12_l36) Q [(2,.pointer (some ⟨b2,0,none⟩)),(5,.pointer (some ⟨b5,0,none⟩)),(140,.slice q.o g.co.length q.oc),(141,.int .i64 g.co.length),(142,.int .i64 0)] hI:=by
 have bo:=t.fits.o
 have hrl:=rlc_at t.l
 have r5l:=r5.lt
 refine loop_intro (fun s:Nat×List (Int×Int)=>[(2,.pointer (some ⟨b2,0,none⟩)),(5,.pointer (some ⟨b5,0,none⟩)),(140,.slice q.o g.co.length q.oc),(141,.int .i64 g.co.length),(142,.int .i64 s.1)])
  (fun s h'=>s.1≤g.co.length∧FrX (InR A B 9) hI h'∧Der h' A B p g.n (relC g s.2) 9∧s.2++(g.co.drop s.1).flatMap lpairs=coPairs g) (fun s=>g.co.length - s.1) (0,[]) ?_ ?_ ?_
 ·simp [Le,find]
 ·exact ⟨by omega,.refl _ _,D,rfl⟩
 clear D
 rintro ⟨c,L⟩ h2 ⟨hc,X,D,hL⟩
 dsimp only at hc D hL ⊢
 have notS:¬ InR A B 9 b5:=fun ⟨k,hk,h1,h2⟩=>by have:=hb5 k hk;omega
 have low:∀ x,InR A B 9 x→h.size≤x:=fun x ⟨k,hk,h1,_⟩=>by have:=hAB k hk;omega
 by_cases hlt:c<g.co.length
 rotate_left
 ·obtain rfl:c=g.co.length:=by omega
  rw [List.drop_length] at hL
  simp only [List.flatMap_nil,List.append_nil] at hL
  simp -dsimp only [go_sem,Int.lt_irrefl]
  exact hQ _ X (hL▸D)
 have e1:((c:Int)<(g.co.length:Int)):=by omega
 obtain ⟨ob,oo,hoe,la,lc,hlc,hlist⟩:=hrl c hlt
 have hll:=t.fits.l (g.co.getD c []) (by have:g.co[c]?=some (g.co.getD c []):=by { simp [hlt] };exact List.mem_of_getElem? this)
 have hdr:g.co.drop c=g.co.getD c [] :: g.co.drop (c+1):=by rw [List.drop_eq_getElem_cons hlt];congr 1;simp [hlt]
 rw [hdr,List.flatMap_cons] at hL
 generalize g.co.getD c []=l at hlist hll hL hlc
 obtain ⟨l1,l2⟩:=hlist h2 (X.fresh p0 low)
 simp -dsimp only [go_sem,e1,hoe,l1]
 refine loop_intro (fun s:Nat×List (Int×Int)=>[(2,.pointer (some ⟨b2,0,none⟩)),(5,.pointer (some ⟨b5,0,none⟩)),(11,.slice la l.length lc),(140,.slice q.o g.co.length q.oc),(141,.int .i64 g.co.length),(142,.int .i64 c),(146,.slice la l.length lc),(147,.int .i64 l.length),(148,.int .i64 s.1)])
  (fun s h'=>s.1≤l.length∧FrX (InR A B 9) hI h'∧Der h' A B p g.n (relC g s.2) 9∧s.2++(lpairs (l.drop s.1)++(g.co.drop (c+1)).flatMap lpairs)=coPairs g) (fun s=>l.length - s.1) (0,L) ?_ ?_ ?_
 ·simp [Le,find,hoe]
 ·exact ⟨by omega,X,D,hL⟩
 clear X D hL l1 l2 L
 rintro ⟨i,L⟩ h2 ⟨hi,X,D,hL⟩
 dsimp only at hi D hL ⊢
 by_cases hil:i<l.length
 rotate_left
 ·obtain rfl:i=l.length:=by omega
  rw [List.drop_length] at hL
  simp -dsimp only [go_sem,Int.lt_irrefl]
  simp -dsimp (disch:=omega) only [wrap64]
  exact ⟨(c+1,L),by dsimp only;omega,by simp [Le,find,hoe],by dsimp only;omega,X,D,hL⟩
 have e2:((i:Int)<(l.length:Int)):=by omega
 have hq:l[i]?=some l[i]:=by simp [hil]
 have hdi:l.drop i=l[i] :: l.drop (i+1):=List.drop_eq_getElem_cons hil
 rw [hdi] at hL
 generalize l[i]=a at hq hL
 have hpr:lpairs (a :: l.drop (i+1))=(l.drop (i+1)).map (fun b=>(a,b))++lpairs (l.drop (i+1)):=rfl
 rw [hpr,List.append_assoc] at hL
 obtain ⟨lb,lo,hle,hlc2⟩:∃ b o,la=some ⟨b,o,none⟩∧∀ h',Fr 0 0 h h'→∀ (i:Nat) (x:Int),l[i]?=some x→hcell h' b (o+i)=some (.int .i64 x):=by
  obtain ⟨hl1,a,c',k1,k2⟩:=(hlist h (.refl _ _ _)).2
  cases k1
  rcases k2 with k2 | ⟨b,o,k3,k4⟩
  ·omega
  ·refine ⟨b,o,k3,fun h' f i x hx=>?_⟩
   obtain ⟨-,a',c'',m1,m2⟩:=(hlist h' f).2
   cases m1
   rw [k3] at m2
   rcases m2 with m2 | ⟨b',o',m3,m4⟩
   ·omega
   ·cases m3;exact m4 i _ (intsV_get hx)
 have c1:=hlc2 h2 (X.fresh p0 low) i _ hq
 simp -dsimp only [go_sem,e2,hle,c1]
 have hw:IntKind.i64.wrap ((i:Int)+1)=((i+1:Nat):Int):=by rw [wrap64 (by omega) (by omega)];omega
 refine Chk_intro hlc ?_
 simp -dsimp only [go_sem,hw]
 refine Chk_intro (by omega) ?_
 simp -dsimp only [go_sem]
 have hY:0<l.length - (i+1)→(if lc=i+1 then some (⟨lb,lo,none⟩:Addr) else some ⟨lb,lo+(i+1),none⟩)=some ⟨lb,lo+(i+1),none⟩:=fun h0=>by
  rw [if_neg (by omega)]
 generalize hYe:(if lc=i+1 then some (⟨lb,lo,none⟩:Addr) else some ⟨lb,lo+(i+1),none⟩)=Y at hY
 refine loop_intro (fun s:Nat×List (Int×Int)=>[(2,.pointer (some ⟨b2,0,none⟩)),(5,.pointer (some ⟨b5,0,none⟩)),(11,.slice la l.length lc),(13,.int .i64 a),(140,.slice q.o g.co.length q.oc),(141,.int .i64 g.co.length),(142,.int .i64 c),(146,.slice la l.length lc),(147,.int .i64 l.length),(148,.int .i64 i),
   (156,.slice Y (l.length - (i+1)) (lc - (i+1))),(157,.int .i64 (l.length - (i+1):Nat)),(158,.int .i64 s.1)])
  (fun s h'=>s.1≤l.length - (i+1)∧FrX (InR A B 9) hI h'∧Der h' A B p g.n (relC g s.2) 9∧s.2++((l.drop (i+1+s.1)).map (fun b=>(a,b))++(lpairs (l.drop (i+1))++(g.co.drop (c+1)).flatMap lpairs))=coPairs g) (fun s=>l.length - (i+1) - s.1) (0,L) ?_ ?_ ?_
 ·simp [Le,find,hle,hoe];exact hYe
 ·exact ⟨by omega,X,D,hL⟩
 clear X D hL c1 L
 rintro ⟨j,L⟩ h2 ⟨hj,X,D,hL⟩
 dsimp only at hj D hL ⊢
 by_cases hjl:j<l.length - (i+1)
 rotate_left
 ·have hnil:l.drop (i+1+j)=[]:=List.drop_eq_nil_of_le (by omega)
  rw [hnil] at hL
  have e3:¬ ((j:Int)<((l.length - (i+1):Nat):Int)):=by omega
  simp -dsimp only [go_sem,e3]
  simp -dsimp (disch:=omega) only [wrap64]
  exact ⟨(i+1,L),by dsimp only;omega,by simp [Le,find,hoe,hle],by dsimp only;omega,X,D,hL⟩
 have e3:((j:Int)<((l.length - (i+1):Nat):Int)):=by omega
 have hq2:l[i+1+j]?=some l[i+1+j]:=by simp [show i+1+j<l.length by omega]
 have hdj:l.drop (i+1+j)=l[i+1+j] :: l.drop (i+1+j+1):=List.drop_eq_getElem_cons (by omega)
 rw [hdj,List.map_cons] at hL
 generalize l[i+1+j]=b at hq2 hL
 have c2:=hlc2 h2 (X.fresh p0 low) _ _ hq2
 rw [← Nat.add_assoc] at c2
 have r5':=X.rw r5 notS
 simp -dsimp only [go_sem,e3,hY (by omega),c2,r5'.cell]
 refine call_of (rel_Put (D.at_ 2 (by decide)) a b true) ?_
 rintro vp h3 ⟨f3,z3,-,w3⟩
 have D':=D.put (k:=2) (by decide) f3 w3
 have X':=X.step f3 (fun x h1 h2=>.inl ⟨2,by decide,h1,h2⟩)
 simp -dsimp only [go_sem,e3,hY (by omega),c2]
 simp -dsimp (disch:=omega) only [wrap64]
 refine ⟨(j+1,L++[(a,b)]),by dsimp only;omega,by simp [Le,find,hoe,hle],by dsimp only;omega,X',D'.congr fun k _ x y _ _=>relC_put k x y,?_⟩
 rw [List.append_assoc]
 exact hL
end Go.Proofs.Tst
/-
  graph.Derive.
-/
namespace Go.Proofs.Tst
open Go Go.Vc
structure FactsAt (h:Heap) (lo:Nat) (p:Nat→Value) (rd wr fe:Value) (g:Gr):Prop where
 n:g.n≤256
 rel:∃ A B,Der h A B p g.n (relM g) 10∧(∀ k,k<10→lo≤A k∧A k≤B k∧B k≤h.size)∧∀ k,k<10→∀ v∈[rd,wr,fe],bh v≤A k∨B k≤bl v∨bh v≤bl v
 hrd:Holder 1 h rd g.n (boolsV (kindsV g 1 g.n)) lo
 hwr:Holder 1 h wr g.n (boolsV (kindsV g 2 g.n)) lo
 hfe:Holder 1 h fe g.n (boolsV (kindsV g 3 g.n)) lo
 off:Off rd wr∧Off rd fe∧Off wr fe
theorem kindsV_succ {g:Gr} {k:Int} {i:Nat} (hi:i<g.n):boolsV (kindsV g k (i+1))=boolsV (kindsV g k i)++[.bool ((g.ev i).kind==k)]:=by
 unfold kindsV boolsV
 rw [List.take_add_one,Gr.ev_get hi]
 simp
theorem relT_zero {g:Gr} {k x y:Nat}:relZ g k x y=relT g 0 0 k x y:=by
 unfold relT
 split
 ·rename_i hk
  rw [mixM_zero]
  rcases hk with rfl | rfl | rfl <;> rfl
 ·rfl
theorem relT_end {g:Gr} {k x y:Nat} (hk:k<9) (hx:x<g.n) (hy:y<g.n):relT g g.n 0 k x y=relC g [] k x y:=by
 unfold relT relC
 by_cases h2:k=2
 ·subst h2;rfl
 ·rw [if_neg h2]
  split
  ·exact mixM_end hx hy
  ·rename_i h
   have:k=1∨k=3∨k=6∨k=7∨k=8:=by omega
   rcases this with rfl | rfl | rfl | rfl | rfl <;> rfl
theorem relC_end {g:Gr} {k:Nat} (hk:k<9):relC g (coPairs g) k=relM g k:=by
 unfold relC
 by_cases h2:k=2
 ·subst h2;rfl
 ·rw [if_neg h2]
def ixL:List Nat:=[1,5,7,11,13,15,19,23,27,28,29]
set_option maxHeartbeats 4000000 in
theorem graph_Derive {h:Heap} {q:GV} {g:Gr} (t:GrAt h q g) (ht:TabAt h) :
  Con Tryd.prog 54 #[.agg (gcells q g).toArray] h fun v h'=>Fr 0 0 h h'∧if g.good=true then ∃ p rd wr fe,v=.tuple #[.agg (fcells p rd wr fe).toArray,.int .i64 0]∧FactsAt h' h.size p rd wr fe g else v=.tuple #[.agg fzero.toArray,.int .i64 4]:=by
 refine con_q12 ?_
 have p0:Fr 0 0 h h:=.refl _ _ _
 have be:=t.fits.e
 have bf:=t.fits.f
 have br:=t.fits.r
 have ba:=t.fits.a
 have bd:=t.fits.d
 have bc:=t.fits.c
 have hen:g.evs.length=g.n:=rfl
 unfold gcells
 simp -dsimp only [go_sem]
 intro b1 h1 n1
 have n1_a:=n1.at_
 have n1_z:=n1.size
 replace p0:=p0.F n1.f0
 have r1:=n1.row
 simp -dsimp only [go_sem,r1.cell]
 intro b2 h2 n2
 have n2_a:=n2.at_
 have n2_z:=n2.size
 replace p0:=p0.F n2.f0
 replace r1:=r1.F n2.f0
 have r2:=n2.row
 simp -dsimp only [go_sem,r1.cell,r2.cell]
 refine call_of (graph_good (t.fr p0)) ?_
 rintro v3 h3 ⟨f3,rfl⟩
 have f3_z:=f3.size
 replace p0:=p0.F f3
 replace r1:=r1.F f3
 replace r2:=r2.F f3
 cases hg:g.good
 ·simp -dsimp only [go_sem,r1.cell,r2.cell]
  refine Chk_intro (r2.W) fun h4 s4=>?_
  have s4_z:=s4.size
  replace p0:=p0.F s4.fr
  replace r1:=r1.F s4.fr
  replace r2:=s4.row r2
  try simp only [cl_int,cl_bool,cl_slice,cl_ptr,putAt_one,zs0,zs1,ivec_set,brow_upd] at r2
  simp -dsimp only [go_sem] at r2
  simp -dsimp only [go_sem,r1.cell,r2.cell]
  exact withC_of fzero 0 (fun j x hj=>by rw [r2.cell,Nat.zero_add];exact hj) ⟨p0,rfl⟩
 obtain ⟨hn,hsz⟩:=good_n hg
 simp -dsimp only [go_sem,evs_len,r1.cell,r2.cell]
 have hcl:clampN (g.n:Int)=g.n:=by unfold clampN;omega
 have t3:=t.fr p0
 refine free_intro [(1,[1],tellP g.n fun _ _=>false),(5,[5],tellP g.n (ofM g.n g.rf)),(7,[7],tellP g.n fun _ _=>false),(11,[11],tellP g.n (ofM g.n g.rmw)),(13,[13],tellP g.n fun _ _=>false),(15,[15],tellP g.n fun _ _=>false),
  (19,[19],tellP g.n (ofM g.n g.addr)),(23,[23],tellP g.n (ofM g.n g.data)),(27,[27],tellP g.n (ofM g.n g.ctrl)),(28,[1,5,7,11,13,15,19,23,27,28],tellF),(29,[29],tellA fzero)] ?_ rfl ?_ ?_
 ·exact ⟨stabP _ _,stabP _ _,stabP _ _,stabP _ _,stabP _ _,stabP _ _,stabP _ _,stabP _ _,stabP _ _,fun _ _ _ _ x=>x,stabA _,trivial⟩
 ·simp -dsimp only [go_sem,tellP_eq,tellF_eq,tellA_eq,r1.cell,r2.cell]
  refine ⟨fun h4 f4 V=>?_,fun h4 f4 V _=>?_,fun h4 f4 V _=>?_,fun h4 f4 V _=>?_,fun h4 f4 V _=>?_,fun h4 f4 V _=>?_,fun h4 f4 V _=>?_,fun h4 f4 V _=>?_,fun h4 f4 V _=>?_,fun h4 f4 V a1 a2 a3 a4 a5 a6 a7 a8 a9=>?_,fun h4 f4 V=>?_⟩
  ·refine call_of (rel_New g.n h4) ?_
   rintro v h5 ⟨f5,w⟩
   rw [hcl] at w
   simp -dsimp only [go_sem,tellP_eq,r1.cell,r2.cell]
   exact ⟨f5,w⟩
  ·refine call_of (rel_Of g.n _ g.rf h4 (t3.f.fr f4) (by omega)) ?_
   rintro v h5 ⟨f5,w⟩
   rw [hcl] at w
   simp -dsimp only [go_sem,tellP_eq,r1.cell,r2.cell]
   exact ⟨f5,w⟩
  ·refine call_of (rel_New g.n h4) ?_
   rintro v h5 ⟨f5,w⟩
   rw [hcl] at w
   simp -dsimp only [go_sem,tellP_eq,r1.cell,r2.cell]
   exact ⟨f5,w⟩
  ·refine call_of (rel_Of g.n _ g.rmw h4 (t3.r.fr f4) (by omega)) ?_
   rintro v h5 ⟨f5,w⟩
   rw [hcl] at w
   simp -dsimp only [go_sem,tellP_eq,r1.cell,r2.cell]
   exact ⟨f5,w⟩
  ·refine call_of (rel_New g.n h4) ?_
   rintro v h5 ⟨f5,w⟩
   rw [hcl] at w
   simp -dsimp only [go_sem,tellP_eq,r1.cell,r2.cell]
   exact ⟨f5,w⟩
  ·refine call_of (rel_New g.n h4) ?_
   rintro v h5 ⟨f5,w⟩
   rw [hcl] at w
   simp -dsimp only [go_sem,tellP_eq,r1.cell,r2.cell]
   exact ⟨f5,w⟩
  ·refine call_of (rel_Of g.n _ g.addr h4 (t3.a.fr f4) (by omega)) ?_
   rintro v h5 ⟨f5,w⟩
   rw [hcl] at w
   simp -dsimp only [go_sem,tellP_eq,r1.cell,r2.cell]
   exact ⟨f5,w⟩
  ·refine call_of (rel_Of g.n _ g.data h4 (t3.d.fr f4) (by omega)) ?_
   rintro v h5 ⟨f5,w⟩
   rw [hcl] at w
   simp -dsimp only [go_sem,tellP_eq,r1.cell,r2.cell]
   exact ⟨f5,w⟩
  ·refine call_of (rel_Of g.n _ g.ctrl h4 (t3.c.fr f4) (by omega)) ?_
   rintro v h5 ⟨f5,w⟩
   rw [hcl] at w
   simp -dsimp only [go_sem,tellP_eq,r1.cell,r2.cell]
   exact ⟨f5,w⟩
  ·obtain ⟨b1,e1⟩:=progPtr a1
   obtain ⟨b2,e2⟩:=progPtr a2
   obtain ⟨b3,e3⟩:=progPtr a3
   obtain ⟨b4,e4⟩:=progPtr a4
   obtain ⟨b5,e5⟩:=progPtr a5
   obtain ⟨b6,e6⟩:=progPtr a6
   obtain ⟨b7,e7⟩:=progPtr a7
   obtain ⟨b8,e8⟩:=progPtr a8
   obtain ⟨b9,e9⟩:=progPtr a9
   simp -dsimp only [go_sem,e1,e2,e3,e4,e5,e6,e7,e8,e9,tellF_eq,r1.cell,r2.cell]
   exact .refl _ _ _
  ·intro b5 h5 n5
   simp -dsimp only [go_sem,tellA_eq,r1.cell,r2.cell]
   exact ⟨n5.fr,n5.at_.symm▸rfl,n5.size,n5.at_▸n5.row⟩
 ·intro h4 f4 V sep
  replace sep:=sep.at_ (L:=ixL) rfl
  simp -dsimp only [go_sem,tellP_eq,tellF_eq,tellA_eq,r1.cell,r2.cell]
  rintro a1 a2 a3 a4 a5 a6 a7 a8 a9 e28 ⟨e29,z29,r5⟩
  have f4_z:=f4.size
  replace p0:=p0.F f4
  replace r1:=r1.F f4
  replace r2:=r2.F f4
  have hH34:=f4.size
  have oc:∀ {a b:Nat} {v:Value} {M:Nat→Nat→Bool},ProgAt h4 a b v g.n M→v.oneCell'=true:=fun t=>by obtain ⟨_,e⟩:=progPtr t;rw [e];rfl
  have hix:∀ k,k<9→ixD k∈ixL∧ixD k≠29:=by decide
  have hne:∀ k,k<9→∀ l,l<9→k≠l→ixD k≠ixD l:=by decide
  have key:∃ (A B:Nat→Nat) (p:Nat→Value) (b5:Nat),p 0=(V 1).1∧p 1=(V 5).1∧p 2=(V 7).1∧p 3=(V 11).1∧p 4=(V 13).1∧p 5=(V 15).1∧p 6=(V 19).1∧p 7=(V 23).1∧p 8=(V 27).1∧b5=(V 29).2.1 ∧
    Der h4 A B p g.n (relZ g) 9∧(∀ k,k<9→h3.size≤A k∧A k≤B k∧B k≤h4.size)∧(∀ k,k<9→b5<A k∨B k≤b5)∧h3.size≤b5:=by
   refine ⟨fun k=>(V (ixD k)).2.1,fun k=>(V (ixD k)).2.2,fun k=>(V (ixD k)).1,_,rfl,rfl,rfl,rfl,rfl,rfl,rfl,rfl,rfl,rfl,⟨fun k hk=>?_,fun k l hk hl hkl=>sep.2 _ (hix k hk).1 _ (hix l hl).1 (hne k hk l hl hkl)⟩,fun k hk=>sep.1 _ (hix k hk).1,fun k hk=>?_,(sep.1 29 (by decide)).1⟩
   ·match k,hk with
    | 0,_=>exact a1
    | 1,_=>exact a2
    | 2,_=>exact a3
    | 3,_=>exact a4
    | 4,_=>exact a5
    | 5,_=>exact a6
    | 6,_=>exact a7
    | 7,_=>exact a8
    | 8,_=>exact a9
   ·have:=sep.2 29 (by decide) _ (hix k hk).1 (Ne.symm (hix k hk).2)
    have:=sep.1 29 (by decide)
    show (V 29).2.1<(V (ixD k)).2.1∨(V (ixD k)).2.2≤(V 29).2.1
    omega
  obtain ⟨A,B,p,b5,q0,q1,q2,q3,q4,q5,q6,q7,q8,q9,D,hAB,hb5,hb5'⟩:=key
  have ocs:(p 0).oneCell'=true∧(p 1).oneCell'=true∧(p 2).oneCell'=true∧(p 3).oneCell'=true∧(p 4).oneCell'=true∧(p 5).oneCell'=true∧(p 6).oneCell'=true∧(p 7).oneCell'=true∧(p 8).oneCell'=true:=
   ⟨oc (D.at_ 0 (by decide)),oc (D.at_ 1 (by decide)),oc (D.at_ 2 (by decide)),oc (D.at_ 3 (by decide)),oc (D.at_ 4 (by decide)),oc (D.at_ 5 (by decide)),oc (D.at_ 6 (by decide)),oc (D.at_ 7 (by decide)),oc (D.at_ 8 (by decide))⟩
  obtain ⟨oc0,oc1,oc2,oc3,oc4,oc5,oc6,oc7,oc8⟩:=ocs
  rw [← q9] at e29 r5
  rw [← q0,← q1,← q2,← q3,← q4,← q5,← q6,← q7,← q8] at e28
  clear a1 a2 a3 a4 a5 a6 a7 a8 a9 oc hix hne sep
  unfold fzero at r5
  have r5_l:=r5.lt
  simp -dsimp only [go_sem,e29,e28,oc0,oc1,oc2,oc3,oc4,oc5,oc6,oc7,oc8,r1.cell,r2.cell,r5.cell]
  refine Chk_intro (r5.W) fun h5 s5=>?_
  have s5_z:=s5.size
  replace p0:=p0.F s5.fr
  replace r1:=r1.F s5.fr
  replace r2:=r2.F s5.fr
  replace D:=D.fr s5.fr (fun k hk=>by have:=hAB k hk;first | omega | (have:=hb5 k hk;omega))
  replace r5:=s5.row r5
  try simp only [cl_int,cl_bool,cl_slice,cl_ptr,putAt_one,zs0,zs1,ivec_set,brow_upd] at r5
  simp -dsimp only [go_sem] at r5
  have hz5:0<h5.size:=by omega
  have D:Der h5 A B p g.n (relT g 0 0) 9:=D.congr fun k hk x y _ _=>relT_zero
  have gb:h.size≤h3.size∧h3.size≤h4.size∧h4.size≤h5.size∧b1<h3.size∧b2<h3.size∧h3.size≤b5∧b5<h5.size∧h.size≤b1∧h.size≤b2∧b1≠b2:=by omega
  clear e28 z29 q0 q1 q2 q3 q4 q5 q6 q7 q8 q9 n1_a n1_z n2_a n2_z f3_z f4_z s5_z hH34
  simp -dsimp only [go_sem,evs_len,r1.cell,r2.cell,r5.cell]
  refine loop_intro (fun s:Nat×Value×Value×Value=>[(1,.pointer (some ⟨b1,0,none⟩)),(2,.pointer (some ⟨b2,0,none⟩)),(5,.pointer (some ⟨b5,0,none⟩)),(53,.slice q.e g.evs.length q.ec),(54,.int .i64 g.n),(55,.int .i64 s.1)])
   (fun s h'=>s.1≤g.n∧Fr 0 0 h h'∧h5.size≤h'.size∧Rw h' b1 (gcells q g)∧Rw h' b2 fzero∧Rw h' b5 [p 0,p 1,p 2,.pointer none,p 3,p 4,p 5,p 6,p 7,p 8,s.2.1,s.2.2.1,s.2.2.2]∧Der h' A B p g.n (relT g s.1 0) 9 ∧
    Holder 1 h' s.2.1 s.1 (boolsV (kindsV g 1 s.1)) h5.size∧Holder 1 h' s.2.2.1 s.1 (boolsV (kindsV g 2 s.1)) h5.size∧Holder 1 h' s.2.2.2 s.1 (boolsV (kindsV g 3 s.1)) h5.size∧Off s.2.1 s.2.2.1∧Off s.2.1 s.2.2.2∧Off s.2.2.1 s.2.2.2) (fun s=>g.n - s.1) (0,.slice none 0 0,.slice none 0 0,.slice none 0 0) ?_ ?_ ?_
  ·simp [Le,find,hen,e29]
  ·exact ⟨by omega,p0,by omega,r1,r2,r5,D,.none _ _ _,.none _ _ _,.none _ _ _,.inl rfl,.inl rfl,.inl rfl⟩
  clear p0 r1 r2 r5 D r5_l
  rintro ⟨i,rd,wr,fe⟩ h6 ⟨hi,p0,y6,r1,r2,r5,D,o1,o2,o3,f12,f13,f23⟩
  dsimp only at hi r5 D o1 o2 o3 f12 f13 f23 ⊢
  unfold gcells at r1
  unfold fzero at r2
  have p0_z:=p0.size
  have r1_l:=r1.lt
  have r2_l:=r2.lt
  have r5_l:=r5.lt
  by_cases hlt:i<g.n
  ·have e1:((i:Int)<(g.n:Int)):=by omega
   obtain ⟨eb,eo,he,hev⟩:=t.evs (by omega)
   obtain ⟨c0,c1,c2,c3,c4⟩:=hev h6 p0 i hlt
   obtain ⟨ra0,rc0,rfl⟩:=o1.is
   obtain ⟨ra0',rc0',rfl⟩:=o2.is
   obtain ⟨ra0'',rc0'',rfl⟩:=o3.is
   have tp1:=o1.top
   have tp2:=o2.top
   have tp3:=o3.top
   simp -dsimp only [go_sem,e1,he,evs_len,c0,c1,c2,c3,c4,r1.cell,r2.cell,r5.cell]
   intro b7 h7 n7
   have n7_a:=n7.at_
   have n7_z:=n7.size
   replace p0:=p0.F n7.f0
   replace r1:=r1.F n7.f0
   replace r2:=r2.F n7.f0
   replace r5:=r5.F n7.f0
   replace D:=D.fr n7.f0 (fun k hk=>by have:=hAB k hk;first | omega | (have:=hb5 k hk;omega))
   have r7:=n7.row
   replace o1:=o1.fr n7.f0 (by omega)
   replace o2:=o2.fr n7.f0 (by omega)
   replace o3:=o3.fr n7.f0 (by omega)
   simp -dsimp only [go_sem,r1.cell,r2.cell,r5.cell,r7.cell]
   refine Chk_intro (r7.W) fun h8 s8=>?_
   have s8_z:=s8.size
   replace p0:=p0.F s8.fr
   replace r1:=r1.F s8.fr
   replace r2:=r2.F s8.fr
   replace r5:=r5.F s8.fr
   replace D:=D.fr s8.fr (fun k hk=>by have:=hAB k hk;first | omega | (have:=hb5 k hk;omega))
   replace r7:=s8.row r7
   try simp only [cl_int,cl_bool,cl_slice,cl_ptr,putAt_one,zs0,zs1,ivec_set,brow_upd] at r7
   replace o1:=o1.fr s8.fr (by omega)
   replace o2:=o2.fr s8.fr (by omega)
   replace o3:=o3.fr s8.fr (by omega)
   simp -dsimp only [go_sem] at r7
   have hb7:h6.size≤b7∧b7<h8.size∧h6.size≤h8.size:=by omega
   have t71:bh (.slice ra0 i rc0)≤b7∧bh (.slice ra0' i rc0')≤b7∧bh (.slice ra0'' i rc0'')≤b7:=by omega
   clear tp1 tp2 tp3 n7_a n7_z s8_z c0 c1 c2 c3 c4
   simp -dsimp only [go_sem,r1.cell,r2.cell,r5.cell,r7.cell]
   intro nb1 hb1 nn1
   have nn1_z:=nn1.az
   replace p0:=p0.F nn1.f0
   replace r1:=r1.F nn1.f0
   replace r2:=r2.F nn1.f0
   replace r5:=r5.F nn1.f0
   replace D:=D.fr nn1.f0 (fun k hk=>by have:=hAB k hk;first | omega | (have:=hb5 k hk;omega))
   replace r7:=r7.F nn1.f0
   have rn1:=nn1.row
   replace o1:=o1.fr nn1.f0 (by omega)
   replace o2:=o2.fr nn1.f0 (by omega)
   replace o3:=o3.fr nn1.f0 (by omega)
   have oa1:=o1.at_
   simp -dsimp only [go_sem,r1.cell,r2.cell,r5.cell,r7.cell,rn1.cell]
   refine o1.append (by omega) rfl (by omega) (by simp) (by omega) fun u1 k1 on1 fn1 en1=>?_
   have fn1_z:=fn1.size
   replace p0:=p0.F fn1
   replace r1:=r1.F fn1
   replace r2:=r2.F fn1
   replace r5:=r5.F fn1
   replace D:=D.fr fn1 (fun k hk=>by have:=hAB k hk;first | omega | (have:=hb5 k hk;omega))
   replace r7:=r7.F fn1
   clear oa1
   have tp2:=o2.top
   have tp3:=o3.top
   have nw2:=(f12.symm).app tp2 hz5 on1 en1
   have nw3:=(f13.symm).app tp3 hz5 on1 en1
   replace o2:=o2.fr fn1 (f12.symm).away
   replace o3:=o3.fr fn1 (f13.symm).away
   replace o1:=on1
   clear en1 on1
   clear tp2 tp3
   replace f12:=nw2.symm
   replace f13:=nw3.symm
   clear nw2 nw3
   obtain ⟨ra1,rc1,rfl⟩:=o1.is
   have oa1:=o1.at_
   simp -dsimp only [go_sem,r1.cell,r2.cell,r5.cell,r7.cell]
   refine Chk_intro (r5.W) fun ks1 st1=>?_
   have st1_z:=st1.size
   replace p0:=p0.F st1.fr
   replace r1:=r1.F st1.fr
   replace r2:=r2.F st1.fr
   replace D:=D.fr st1.fr (fun k hk=>by have:=hAB k hk;first | omega | (have:=hb5 k hk;omega))
   replace r7:=r7.F st1.fr
   replace r5:=st1.row r5
   try simp only [cl_int,cl_bool,cl_slice,cl_ptr,putAt_one,zs0,zs1,ivec_set,brow_upd] at r5
   replace o1:=o1.fr st1.fr (by have:=o1.at_;omega)
   replace o2:=o2.fr st1.fr (by have:=o2.at_;omega)
   replace o3:=o3.fr st1.fr (by have:=o3.at_;omega)
   clear oa1
   simp -dsimp only [go_sem,r1.cell,r2.cell,r5.cell,r7.cell]
   intro nb2 hb2 nn2
   have nn2_z:=nn2.az
   replace p0:=p0.F nn2.f0
   replace r1:=r1.F nn2.f0
   replace r2:=r2.F nn2.f0
   replace r5:=r5.F nn2.f0
   replace D:=D.fr nn2.f0 (fun k hk=>by have:=hAB k hk;first | omega | (have:=hb5 k hk;omega))
   replace r7:=r7.F nn2.f0
   have rn2:=nn2.row
   replace o1:=o1.fr nn2.f0 (by omega)
   replace o2:=o2.fr nn2.f0 (by omega)
   replace o3:=o3.fr nn2.f0 (by omega)
   have oa2:=o2.at_
   simp -dsimp only [go_sem,r1.cell,r2.cell,r5.cell,r7.cell,rn2.cell]
   refine o2.append (by omega) rfl (by omega) (by simp) (by omega) fun u2 k2 on2 fn2 en2=>?_
   have fn2_z:=fn2.size
   replace p0:=p0.F fn2
   replace r1:=r1.F fn2
   replace r2:=r2.F fn2
   replace r5:=r5.F fn2
   replace D:=D.fr fn2 (fun k hk=>by have:=hAB k hk;first | omega | (have:=hb5 k hk;omega))
   replace r7:=r7.F fn2
   clear oa2
   have tp1:=o1.top
   have tp3:=o3.top
   have nw1:=(f12).app tp1 hz5 on2 en2
   have nw3:=(f23.symm).app tp3 hz5 on2 en2
   replace o1:=o1.fr fn2 (f12).away
   replace o3:=o3.fr fn2 (f23.symm).away
   replace o2:=on2
   clear en2 on2
   clear tp1 tp3
   replace f12:=nw1
   replace f23:=nw3.symm
   clear nw1 nw3
   obtain ⟨ra2,rc2,rfl⟩:=o2.is
   have oa2:=o2.at_
   simp -dsimp only [go_sem,r1.cell,r2.cell,r5.cell,r7.cell]
   refine Chk_intro (r5.W) fun ks2 st2=>?_
   have st2_z:=st2.size
   replace p0:=p0.F st2.fr
   replace r1:=r1.F st2.fr
   replace r2:=r2.F st2.fr
   replace D:=D.fr st2.fr (fun k hk=>by have:=hAB k hk;first | omega | (have:=hb5 k hk;omega))
   replace r7:=r7.F st2.fr
   replace r5:=st2.row r5
   try simp only [cl_int,cl_bool,cl_slice,cl_ptr,putAt_one,zs0,zs1,ivec_set,brow_upd] at r5
   replace o1:=o1.fr st2.fr (by have:=o1.at_;omega)
   replace o2:=o2.fr st2.fr (by have:=o2.at_;omega)
   replace o3:=o3.fr st2.fr (by have:=o3.at_;omega)
   clear oa2
   simp -dsimp only [go_sem,r1.cell,r2.cell,r5.cell,r7.cell]
   intro nb3 hb3 nn3
   have nn3_z:=nn3.az
   replace p0:=p0.F nn3.f0
   replace r1:=r1.F nn3.f0
   replace r2:=r2.F nn3.f0
   replace r5:=r5.F nn3.f0
   replace D:=D.fr nn3.f0 (fun k hk=>by have:=hAB k hk;first | omega | (have:=hb5 k hk;omega))
   replace r7:=r7.F nn3.f0
   have rn3:=nn3.row
   replace o1:=o1.fr nn3.f0 (by omega)
   replace o2:=o2.fr nn3.f0 (by omega)
   replace o3:=o3.fr nn3.f0 (by omega)
   have oa3:=o3.at_
   simp -dsimp only [go_sem,r1.cell,r2.cell,r5.cell,r7.cell,rn3.cell]
   refine o3.append (by omega) rfl (by omega) (by simp) (by omega) fun u3 k3 on3 fn3 en3=>?_
   have fn3_z:=fn3.size
   replace p0:=p0.F fn3
   replace r1:=r1.F fn3
   replace r2:=r2.F fn3
   replace r5:=r5.F fn3
   replace D:=D.fr fn3 (fun k hk=>by have:=hAB k hk;first | omega | (have:=hb5 k hk;omega))
   replace r7:=r7.F fn3
   clear oa3
   have tp1:=o1.top
   have tp2:=o2.top
   have nw1:=(f13).app tp1 hz5 on3 en3
   have nw2:=(f23).app tp2 hz5 on3 en3
   replace o1:=o1.fr fn3 (f13).away
   replace o2:=o2.fr fn3 (f23).away
   replace o3:=on3
   clear en3 on3
   clear tp1 tp2
   replace f13:=nw1
   replace f23:=nw2
   clear nw1 nw2
   obtain ⟨ra3,rc3,rfl⟩:=o3.is
   have oa3:=o3.at_
   simp -dsimp only [go_sem,r1.cell,r2.cell,r5.cell,r7.cell]
   refine Chk_intro (r5.W) fun ks3 st3=>?_
   have st3_z:=st3.size
   replace p0:=p0.F st3.fr
   replace r1:=r1.F st3.fr
   replace r2:=r2.F st3.fr
   replace D:=D.fr st3.fr (fun k hk=>by have:=hAB k hk;first | omega | (have:=hb5 k hk;omega))
   replace r7:=r7.F st3.fr
   replace r5:=st3.row r5
   try simp only [cl_int,cl_bool,cl_slice,cl_ptr,putAt_one,zs0,zs1,ivec_set,brow_upd] at r5
   replace o1:=o1.fr st3.fr (by have:=o1.at_;omega)
   replace o2:=o2.fr st3.fr (by have:=o2.at_;omega)
   replace o3:=o3.fr st3.fr (by have:=o3.at_;omega)
   clear oa3
   simp -dsimp only [go_sem,r1.cell,r2.cell,r5.cell,r7.cell]
   refine derive_row t p0 hAB hb5 gb.1 (by omega) (by omega) hlt D r5 r7 fun h9 X9 D9=>?_
   have notS:∀ x,x<h3.size∨h4.size≤x∨x=b5→¬ InR A B 9 x:=fun x hx ⟨k,hk,g1,g2⟩=>by have:=hAB k hk;have:=hb5 k hk;omega
   have X9_z:=X9.size
   replace p0:=X9.fresh p0 fun x ⟨k,hk,g1,_⟩=>by have:=hAB k hk;omega
   replace r1:=X9.rw r1 (notS _ (by omega))
   replace r2:=X9.rw r2 (notS _ (by omega))
   replace r5:=X9.rw r5 (notS _ (by omega))
   replace o1:=X9.holder o1 fun x hx=>notS _ (by omega)
   replace o2:=X9.holder o2 fun x hx=>notS _ (by omega)
   replace o3:=X9.holder o3 fun x hx=>notS _ (by omega)
   simp -dsimp only [go_sem,r1.cell,r2.cell,r5.cell,r7.cell]
   simp -dsimp (disch:=omega) only [wrap64]
   exact ⟨(i+1,.slice ra1 (i+1) rc1,.slice ra2 (i+1) rc2,.slice ra3 (i+1) rc3),by dsimp only;omega,by simp [Le,find,he,evs_len],by dsimp only;omega,p0,by omega,r1,r2,r5,D9,by rw [kindsV_succ hlt];exact o1,by rw [kindsV_succ hlt];exact o2,by rw [kindsV_succ hlt];exact o3,f12,f13,f23⟩
  ·obtain rfl:i=g.n:=by omega
   have notS:∀ x,x<h3.size∨h4.size≤x∨x=b5→¬ InR A B 9 x:=fun x hx ⟨k,hk,g1,g2⟩=>by have:=hAB k hk;have:=hb5 k hk;omega
   replace D:=D.congr fun k hk x y hx hy=>relT_end hk hx hy
   simp -dsimp only [go_sem,Int.lt_irrefl,r1.cell,r2.cell,r5.cell]
   refine derive_co t p0 hAB hb5 gb.1 D r5 fun h9 X9 D9=>?_
   have X9_z:=X9.size
   replace p0:=X9.fresh p0 fun x ⟨k,hk,g1,_⟩=>by have:=hAB k hk;omega
   replace r1:=X9.rw r1 (notS _ (by omega))
   replace r2:=X9.rw r2 (notS _ (by omega))
   replace r5:=X9.rw r5 (notS _ (by omega))
   replace o1:=X9.holder o1 fun x hx=>notS _ (by omega)
   replace o2:=X9.holder o2 fun x hx=>notS _ (by omega)
   replace o3:=X9.holder o3 fun x hx=>notS _ (by omega)
   have g9:h5.size≤h9.size:=by omega
   clear D
   have p0_z:=p0.size
   have r1_l:=r1.lt
   have r2_l:=r2.lt
   have r5_l:=r5.lt
   simp -dsimp only [go_sem,r1.cell,r2.cell,r5.cell]
   refine call_of (rel_Inverse (D9.at_ 1 (by decide)) (ht.fr p0 (.inr rfl))) ?_
   rintro v10 h10 ⟨f10,w10⟩
   have f10_z:=f10.size
   replace p0:=p0.F f10
   replace r1:=r1.F f10
   replace r2:=r2.F f10
   replace r5:=r5.F f10
   replace D9:=D9.fr f10 (fun k hk=>by have:=hAB k hk;first | omega | (have:=hb5 k hk;omega))
   replace o1:=o1.fr f10 (by omega)
   replace o2:=o2.fr f10 (by omega)
   replace o3:=o3.fr f10 (by omega)
   have tp1:=o1.top
   have tp2:=o2.top
   have tp3:=o3.top
   simp -dsimp only [go_sem,r1.cell,r2.cell,r5.cell]
   refine call_of (rel_Comp w10 (D9.at_ 2 (by decide)) (ht.fr p0 (.inr rfl))) ?_
   rintro v11 h11 ⟨f11,w11⟩
   have f11_z:=f11.size
   replace p0:=p0.F f11
   replace r1:=r1.F f11
   replace r2:=r2.F f11
   replace r5:=r5.F f11
   replace D9:=D9.fr f11 (fun k hk=>by have:=hAB k hk;first | omega | (have:=hb5 k hk;omega))
   replace o1:=o1.fr f11 (by omega)
   replace o2:=o2.fr f11 (by omega)
   replace o3:=o3.fr f11 (by omega)
   rw [Nat.max_self] at w11
   obtain ⟨pb,rfl⟩:=progPtr w11
   have o1a:=o1.at_
   have o2a:=o2.at_
   have o3a:=o3.at_
   obtain ⟨rda,rdc,rfl⟩:=o1.is
   obtain ⟨wra,wrc,rfl⟩:=o2.is
   obtain ⟨fea,fec,rfl⟩:=o3.is
   simp -dsimp only [go_sem,r1.cell,r2.cell,r5.cell]
   refine Chk_intro (r5.W) fun h12 s12=>?_
   have s12_z:=s12.size
   replace p0:=p0.F s12.fr
   replace r1:=r1.F s12.fr
   replace r2:=r2.F s12.fr
   replace D9:=D9.fr s12.fr (fun k hk=>by have:=hAB k hk;first | omega | (have:=hb5 k hk;omega))
   replace r5:=s12.row r5
   try simp only [cl_int,cl_bool,cl_slice,cl_ptr,putAt_one,zs0,zs1,ivec_set,brow_upd] at r5
   replace o1:=o1.fr s12.fr (by omega)
   replace o2:=o2.fr s12.fr (by omega)
   replace o3:=o3.fr s12.fr (by omega)
   replace w11:=w11.fr s12.fr (by omega)
   have r5':Rw h12 b5 [p 0,p 1,p 2,.pointer (some ⟨pb,0,none⟩),p 3,p 4,p 5,p 6,p 7,p 8,.slice rda g.n rdc,.slice wra g.n wrc,.slice fea g.n fec]:=r5
   clear r5
   simp -dsimp only [go_sem,r1.cell,r2.cell]
   refine withC_of [p 0,p 1,p 2,.pointer (some ⟨pb,0,none⟩),p 3,p 4,p 5,p 6,p 7,p 8,.slice rda g.n rdc,.slice wra g.n wrc,.slice fea g.n fec] 0 (fun j x hj=>by rw [r5'.cell,Nat.zero_add];exact hj) ?_
   simp only [List.all_cons,List.all_nil,oc0,oc1,oc2,oc3,oc4,oc5,oc6,oc7,oc8]
   refine Chk_intro ⟨rfl,rfl⟩ ?_
   refine Chk_intro (r2.W) fun h13 s13=>?_
   have s13_z:=s13.size
   replace p0:=p0.F s13.fr
   replace r1:=r1.F s13.fr
   replace D9:=D9.fr s13.fr (fun k hk=>by have:=hAB k hk;first | omega | (have:=hb5 k hk;omega))
   replace r2:=s13.row r2
   try simp only [cl_int,cl_bool,cl_slice,cl_ptr,putAt_one,zs0,zs1,ivec_set,brow_upd] at r2
   replace o1:=o1.fr s13.fr (by omega)
   replace o2:=o2.fr s13.fr (by omega)
   replace o3:=o3.fr s13.fr (by omega)
   replace w11:=w11.fr s13.fr (by omega)
   replace r2:Rw h13 b2 [p 0,p 1,p 2,.pointer (some ⟨pb,0,none⟩),p 3,p 4,p 5,p 6,p 7,p 8,.slice rda g.n rdc,.slice wra g.n wrc,.slice fea g.n fec]:=r2
   simp -dsimp only [go_sem,r1.cell,r2.cell]
   refine withC_of [p 0,p 1,p 2,.pointer (some ⟨pb,0,none⟩),p 3,p 4,p 5,p 6,p 7,p 8,.slice rda g.n rdc,.slice wra g.n wrc,.slice fea g.n fec] 0 (fun j x hj=>by rw [r2.cell,Nat.zero_add];exact hj) ?_
   refine ⟨p0,fun k=>if k=9 then .pointer (some ⟨pb,0,none⟩) else p k,_,_,_,rfl,hn,⟨fun k=>if k=9 then h10.size else A k,fun k=>if k=9 then h11.size else B k,⟨fun k hk=>?_,fun k l hk hl hkl=>?_⟩,fun k hk=>?_,fun k hk v hv=>?_⟩,o1.lower (by omega),o2.lower (by omega),o3.lower (by omega),f12,f13,f23⟩
   ·by_cases h9':k=9
    ·subst h9';exact w11
    ·simp only [if_neg h9']
     have:=D9.at_ k (by omega)
     rw [relC_end (by omega)] at this
     exact this
   ·have key:∀ k,k<9→B k≤h10.size:=fun k hk=>by have:=hAB k hk;omega
    by_cases h9':k=9
    ·simp only [if_pos h9',if_neg (show ¬ l=9 by omega)]
     exact .inr (key l (by omega))
    ·simp only [if_neg h9']
     by_cases h9'':l=9
     ·simp only [if_pos h9''];exact .inl (key k (by omega))
     ·simp only [if_neg h9''];exact D9.off k l (by omega) (by omega) hkl
   ·by_cases h9':k=9
    ·simp only [if_pos h9'];omega
    ·simp only [if_neg h9'];have:=hAB k (by omega);omega
   ·have hb:bh v≤h10.size∧(bh v=0∧bl v=0∨h4.size≤bl v):=by
     simp only [List.mem_cons,List.not_mem_nil,or_false] at hv
     rcases hv with rfl | rfl | rfl <;> omega
    by_cases h9':k=9
    ·simp only [if_pos h9'];omega
    ·simp only [if_neg h9'];have:=hAB k (by omega);omega
end Go.Proofs.Tst
/-
  graph's With, Thread and Final.
-/
namespace Go.Proofs.Tst
open Go Go.Vc
def withB (g:Gr) (m:List Int):List Bool:=g.evs.map fun e=>m.contains e.mode
def threadTo (g:Gr) (t:Int) (i:Nat):List Int:=((List.range i).filter fun i=>(g.ev i).thread==t).map fun (i:Nat)=>(i:Int)
def threadL (g:Gr) (t:Int):List Int:=threadTo g t g.n
theorem threadTo_succ {g:Gr} {t:Int} {i:Nat}:threadTo g t (i+1)=threadTo g t i++(if (g.ev i).thread=t then [(i:Int)] else []):=by
 unfold threadTo
 rw [List.range_succ,List.filter_append,List.map_append]
 congr 1
 by_cases h:(g.ev i).thread=t
 ·rw [if_pos h];simp [h]
 ·rw [if_neg h];simp [h]
theorem threadTo_len {g:Gr} {t:Int} {i:Nat}:(threadTo g t i).length≤i:=by
 unfold threadTo;rw [List.length_map];exact Nat.le_trans (List.length_filter_le _ _) (by simp)
theorem check_zero {g:Gr} {words:Bool} (h:(g.check words).1=0):g.size=true∧¬ 0≤g.initAt words∧¬ 0≤g.evAt words∧¬ 0≤g.rfAt∧¬ 0≤g.coAt∧¬ 0≤g.rmwAt ∧
  ¬ 0≤g.depAt words g.addr (fun k=>k==1||k==2)∧¬ 0≤g.depAt words g.data (fun k=>k==2)∧¬ 0≤g.depAt words g.ctrl (fun k=>k==1||k==2||k==3):=by
 unfold Gr.check at h
 cases h1:g.size
 ·rw [h1] at h;simp at h
 rw [h1,if_neg (by simp)] at h
 by_cases h2:0≤g.initAt words
 ·rw [if_pos h2] at h;simp at h
 rw [if_neg h2] at h
 by_cases h3:0≤g.evAt words
 ·rw [if_pos h3] at h;simp at h
 rw [if_neg h3] at h
 by_cases h4:0≤g.rfAt
 ·rw [if_pos h4] at h;simp at h
 rw [if_neg h4] at h
 by_cases h5:0≤g.coAt
 ·rw [if_pos h5] at h;simp at h
 rw [if_neg h5] at h
 by_cases h6:0≤g.rmwAt
 ·rw [if_pos h6] at h;simp at h
 rw [if_neg h6] at h
 by_cases h7:0≤g.depAt words g.addr (fun k=>k==1||k==2)
 ·rw [if_pos h7] at h;simp at h
 rw [if_neg h7] at h
 by_cases h8:0≤g.depAt words g.data (fun k=>k==2)
 ·rw [if_pos h8] at h;simp at h
 rw [if_neg h8] at h
 by_cases h9:0≤g.depAt words g.ctrl (fun k=>k==1||k==2||k==3)
 ·rw [if_pos h9] at h;simp at h
 exact ⟨rfl,h2,h3,h4,h5,h6,h7,h8,h9⟩
theorem good_check {g:Gr} (h:g.good=true):∃ words,(g.check words).1=0:=by
 unfold Gr.good at h
 simp only [Bool.or_eq_true,beq_iff_eq] at h
 rcases h with h | h
 ·exact ⟨_,h⟩
 ·exact ⟨_,h⟩
theorem good_co {g:Gr} (h:g.good=true):(g.co.length:Int)=g.cells∧∀ c,c<g.co.length→g.coBad c (g.co.getD c [])=false:=by
 obtain ⟨words,h⟩:=good_check h
 obtain ⟨hs,-,-,-,h5,-⟩:=check_zero h
 unfold Gr.coAt at h5
 have hlen:(g.co.length:Int)=g.cells:=by
  apply Classical.byContradiction;intro hne
  rw [if_pos (.inr hne)] at h5;omega
 refine ⟨hlen,fun c hc=>?_⟩
 have hls:g.lists=g.co.length:=by unfold Gr.lists;omega
 have hf:¬ g.coFirst<g.lists:=fun hlt=>by rw [if_pos (.inl hlt)] at h5;omega
 cases hb:g.coBad c (g.co.getD c [])
 ·rfl
 ·exfalso
  apply hf
  unfold Gr.coFirst
  cases hfd:(List.range g.lists).find? (fun c=>g.coBad c (g.co.getD c [])) with
  | none =>
   rw [List.find?_eq_none] at hfd
   exact absurd hb (hfd c (List.mem_range.2 (by omega)))
  | some u =>
   have:=List.mem_of_find?_eq_some hfd
   rw [List.mem_range] at this
   exact this
theorem holder_row {s:Nat} {h:Heap} {b n:Nat} {xs:List Value} {lo:Nat} (r:Rw h b xs) (hl:xs.length=n * s) (hb:lo≤b):Holder s h (.slice (some ⟨b,0,none⟩) n n) n xs lo:=
 ⟨hl,.inr ⟨b,n,[],rfl,by rw [List.append_nil];exact r,by simp,hb⟩⟩
theorem graph_With {h:Heap} {q:GV} {g:Gr} (t:GrAt h q g) (hn:g.n≤281474976710656) {mv:Value} {m:List Int} (hm:Rd 1 h mv m.length (intsV m)) (bm:m.length≤4611686018427387904) :
  Con Tryd.prog 120 #[.agg (gcells q g).toArray,mv] h fun v h'=>Fr 0 0 h h'∧Holder 1 h' v g.n (boolsV (withB g m)) h.size:=by
 refine con_q15 ?_
 have p0:Fr 0 0 h h:=.refl _ _ _
 have be:=t.fits.e
 have hen:g.evs.length=g.n:=rfl
 obtain ⟨ma,mc,rfl⟩:=hm.is
 unfold gcells
 simp -dsimp only [go_sem]
 intro b1 h1 n1
 have n1_z:=n1.az
 replace p0:=p0.F n1.f0
 have r1:=n1.row
 simp -dsimp only [go_sem,evs_len,r1.cell]
 refine Chk_intro (by omega) ?_
 intro b5 h2 n2
 have n2_z:=n2.az
 replace p0:=p0.F n2.f0
 replace r1:=r1.F n2.f0
 have r2:=n2.row
 rw [zeros_one,Int.toNat_natCast,brow_false] at r2
 simp -dsimp only [go_sem,evs_len,r1.cell,r2.cell]
 refine loop_intro (fun i:Nat=>[(1,.slice ma m.length mc),(5,.slice (some ⟨b5,0,none⟩) g.n g.n),(13,.slice q.e g.evs.length q.ec),(14,.int .i64 g.n),(15,.int .i64 i)])
  (fun i h'=>i≤g.n∧Fr 0 0 h h'∧Rw h' b5 (brow g.n fun j=>decide (j<i)&&m.contains (g.ev j).mode)∧h2.size≤h'.size) (fun i=>g.n - i) 0 ?_ ?_ ?_
 ·simp [Le,find,hen]
 ·exact ⟨by omega,p0,by rw [brow_congr (g:=fun _=>false) (fun j _=>by simp)];exact r2,by omega⟩
 clear r2 p0
 rintro i h3 ⟨hi,p0,r2,y3⟩
 have p0_z:=p0.size
 have r2_l:=r2.lt
 have b5l:h.size≤b5:=by omega
 by_cases hlt:i<g.n
 ·have e1:((i:Int)<(g.n:Int)):=by omega
  obtain ⟨eb,eo,he,hev⟩:=t.evs (by omega)
  obtain ⟨c0,c1,c2,c3,c4⟩:=hev h3 p0 i hlt
  simp -dsimp only [go_sem,e1,he,evs_len,c0,c1,c2,c3,c4,r2.cell]
  intro b7 h4 n4
  have n4_z:=n4.az
  replace p0:=p0.F n4.f0
  replace r2:=r2.F n4.f0
  have r4:=n4.row
  simp -dsimp only [go_sem,r2.cell,r4.cell]
  refine Chk_intro (r4.W) fun h5 s5=>?_
  have s5_z:=s5.size
  replace p0:=p0.F s5.fr
  replace r2:=r2.F s5.fr
  replace r4:=s5.row r4
  try simp only [cl_int,cl_bool,cl_slice,cl_ptr,putAt_one,zs0,zs1,ivec_set,brow_upd] at r4
  simp -dsimp only [go_sem] at r4
  simp -dsimp only [go_sem,r2.cell,r4.cell]
  refine call_of (slices_Contains (hm.fr p0) (by omega)) ?_
  rintro v6 h6 ⟨rfl,rfl⟩
  simp -dsimp only [go_sem,r2.cell,r4.cell]
  refine Chk_intro (by omega) ?_
  simp -dsimp only [go_sem,r2.cell,r4.cell]
  refine Chk_intro (r2.W) fun h7 s7=>?_
  have s7_z:=s7.size
  replace p0:=p0.F s7.fr
  replace r4:=r4.F s7.fr
  replace r2:=s7.row r2
  try simp only [cl_int,cl_bool,cl_slice,cl_ptr,putAt_one,zs0,zs1,ivec_set,brow_upd] at r2
  simp -dsimp only [go_sem,r2.cell,r4.cell]
  simp -dsimp (disch:=omega) only [wrap64]
  refine ⟨i+1,by omega,by simp [Le,find,he,evs_len],by omega,p0,?_,by omega⟩
  rw [brow_congr (g:=_) (fun j hj=>?_)]
  ·exact r2
  ·unfold upd
   by_cases hji:j=i
   ·subst hji;simp
   ·simp [hji,show j<i+1↔j<i by omega]
 ·obtain rfl:i=g.n:=by omega
  simp -dsimp only [go_sem,Int.lt_irrefl,r2.cell]
  refine ⟨p0,?_⟩
  have:boolsV (withB g m)=brow g.n fun j=>decide (j<g.n)&&m.contains (g.ev j).mode:=by
   apply List.ext_getElem?
   intro j
   by_cases hj:j<g.n
   ·rw [boolsV_get (b:=m.contains (g.ev j).mode) (by unfold withB;rw [List.getElem?_map,Gr.ev_get hj];rfl)]
    rw [brow_get hj];simp [hj]
   ·rw [List.getElem?_eq_none (by simp [withB];unfold Gr.n at hj;omega),List.getElem?_eq_none (by simp;omega)]
  rw [this]
  exact holder_row r2 (by simp) b5l
theorem graph_Thread {h:Heap} {q:GV} {g:Gr} (t:GrAt h q g) (th:Int) :
  Con Tryd.prog 48 #[.agg (gcells q g).toArray,.int .i64 th] h fun v h'=>Fr 0 0 h h'∧Holder 1 h' v (threadL g th).length (intsV (threadL g th)) h.size:=by
 refine con_q14 ?_
 have p0:Fr 0 0 h h:=.refl _ _ _
 have be:=t.fits.e
 have hen:g.evs.length=g.n:=rfl
 unfold gcells
 simp -dsimp only [go_sem]
 intro b1 h1 n1
 have n1_z:=n1.az
 replace p0:=p0.F n1.f0
 have r1:=n1.row
 simp -dsimp only [go_sem,evs_len,r1.cell]
 refine loop_intro (fun s:Nat×Value=>[(1,.int .i64 th),(5,s.2),(9,.slice q.e g.evs.length q.ec),(10,.int .i64 g.n),(11,.int .i64 s.1)])
  (fun s h'=>s.1≤g.n∧Fr 0 0 h h'∧Holder 1 h' s.2 (threadTo g th s.1).length (intsV (threadTo g th s.1)) h.size) (fun s=>g.n - s.1) (0,.slice none 0 0) ?_ ?_ ?_
 ·simp [Le,find,hen]
 ·exact ⟨by omega,p0,.none _ _ _⟩
 clear p0
 rintro ⟨i,lv⟩ h3 ⟨hi,p0,o1⟩
 dsimp only at hi o1 ⊢
 have p0_z:=p0.size
 have o1_l:=o1.top
 have hle:=threadTo_len (g:=g) (t:=th) (i:=i)
 by_cases hlt:i<g.n
 ·have e1:((i:Int)<(g.n:Int)):=by omega
  obtain ⟨eb,eo,he,hev⟩:=t.evs (by omega)
  obtain ⟨c0,c1,c2,c3,c4⟩:=hev h3 p0 i hlt
  obtain ⟨la,lc,rfl⟩:=o1.is
  simp -dsimp only [go_sem,e1,he,evs_len,c0,c1,c2,c3,c4]
  intro b7 h4 n4
  have n4_z:=n4.az
  replace p0:=p0.F n4.f0
  replace o1:=o1.fr n4.f0 (by have:=o1.at_;omega)
  have r4:=n4.row
  simp -dsimp only [go_sem,r4.cell]
  have o1_a:=o1.at_
  have o1_t:=o1.top
  refine Chk_intro (r4.W) fun h5 s5=>?_
  have s5_z:=s5.size
  replace p0:=p0.F s5.fr
  replace o1:=o1.fr s5.fr (by have:=o1.at_;omega)
  replace r4:=s5.row r4
  try simp only [cl_int,cl_bool,cl_slice,cl_ptr,putAt_one,zs0,zs1,ivec_set,brow_upd] at r4
  simp -dsimp only [go_sem] at r4
  by_cases a1:(g.ev i).thread=th
  ·simp -dsimp only [go_sem,beq_t a1,r4.cell]
   intro b8 h8 n8
   have n8_z:=n8.az
   replace p0:=p0.F n8.f0
   replace o1:=o1.fr n8.f0 (by have:=o1.at_;omega)
   replace r4:=r4.F n8.f0
   have r8:=n8.row
   simp -dsimp only [go_sem,r4.cell,r8.cell]
   refine o1.append (by omega) rfl (by omega) (by simp) (by omega) fun v9 h9 o_new f9 e_app=>?_
   have f9_z:=f9.size
   have o_at:=o1.at_
   replace p0:=p0.F f9
   replace r4:=r4.F f9
   replace r8:=r8.F f9
   clear o_at e_app
   replace o1:=o_new
   have o1_l:=o1.top
   simp -dsimp only [go_sem,r4.cell,r8.cell]
   simp -dsimp (disch:=omega) only [wrap64]
   refine ⟨(i+1,v9),by dsimp only;omega,by simp [Le,find,he,evs_len],by dsimp only;omega,p0,?_⟩
   dsimp only
   rw [threadTo_succ,if_pos a1,intsV_append,List.length_append]
   exact o1
  ·simp -dsimp only [go_sem,beq_f a1,r4.cell]
   simp -dsimp (disch:=omega) only [wrap64]
   refine ⟨(i+1,.slice la (threadTo g th i).length lc),by dsimp only;omega,by simp [Le,find,he,evs_len],by dsimp only;omega,p0,?_⟩
   dsimp only
   rw [threadTo_succ,if_neg a1,List.append_nil]
   exact o1
 ·obtain rfl:i=g.n:=by omega
  simp -dsimp only [go_sem,Int.lt_irrefl]
  exact ⟨p0,o1⟩
end Go.Proofs.Tst
/-
  Final; the document's With, Thread, Final and Kinds.
-/
namespace Go.Proofs.Tst
open Go Go.Vc
def urow (n:Nat) (f:Nat→Int):List Value:=(List.range n).map fun i=>.int .u64 (f i)
@[simp] theorem length_urow (n:Nat) (f:Nat→Int):(urow n f).length=n:=by simp [urow]
end Go.Proofs.Tst
/-
  lives: the document's example, its verdicts, its relations.
-/
namespace Go.Proofs.Tst
open Go Go.Vc
end Go.Proofs.Tst
/-
  GraphChecks, GraphSees.
-/
namespace Go.Proofs.Tst
open Go Go.Vc
end Go.Proofs.Tst
/-
  A graph that came in.
-/
namespace Go.Proofs.Tst
open Go Go.Vc Go.RowKit Go.ChangeShapes Go.WideShapes Go.ChangeAt Go.Deep
section
variable {H : Type} {enc : TypeId × Value → H} {P : Program}
variable {w : World} {base : Nat} {held : Bool}
end
end Go.Proofs.Tst
/-
  GraphSees.
-/
namespace Go.Proofs.Tst
open Go Go.Vc
end Go.Proofs.Tst
/-
  Plain laws of good graphs.
-/
namespace Go.Proofs.Tst
open Go Go.Vc
theorem acyc_rank {n:Nat} {M:Nat→Nat→Bool} (r:Nat→Nat) (h:∀ i j,i<n→j<n→M i j=true→r i<r j):irrB n (plusM n M)=true:=by
 unfold irrB
 rw [List.all_eq_true]
 intro i hi
 rw [List.mem_range] at hi
 cases hp:plusM n M i i
 ·rfl
 ·have:=plus_least (n:=n) (M:=M) (N:=fun a b=>r a<r b) h (fun _ _ _ _ _ _ h1 h2=>Nat.lt_trans h1 h2) hi hi hp
  omega
theorem ofM_mem {n:Nat} {L:List (Int×Int)} {x y:Nat} (hx:x<n) (hy:y<n):ofM n L x y=true↔((x:Int),(y:Int))∈L:=by
 unfold ofM
 rw [List.any_eq_true]
 constructor
 ·rintro ⟨p,hp,h⟩
  simp only [Bool.and_eq_true,beq_iff_eq] at h
  have:p=((x:Int),(y:Int)):=Prod.ext h.1.2 h.2
  exact this▸hp
 ·intro h
  refine ⟨_,h,?_⟩
  have h1:inR n (x:Int)=true:=by unfold inR;simp;omega
  have h2:inR n (y:Int)=true:=by unfold inR;simp;omega
  rw [h1,h2];simp
theorem ofM_mem' {n:Nat} {L:List (Int×Int)} {x y:Nat} (h:ofM n L x y=true):((x:Int),(y:Int))∈L:=by
 unfold ofM at h
 rw [List.any_eq_true] at h
 obtain ⟨p,hp,h⟩:=h
 simp only [Bool.and_eq_true,beq_iff_eq] at h
 have:p=((x:Int),(y:Int)):=Prod.ext h.1.2 h.2
 exact this▸hp
theorem firstBad_neg {f:Nat→Int×Int→Bool}:∀ {l:List (Int×Int)} {i:Nat},¬ 0≤Gr.firstBad f l i→∀ p∈l,∃ j,f j p=false
 | [],_,_,p,hp=>by cases hp
 | q :: l,i,h,p,hp=>by
  cases hf:f i q
  ·rw [firstBad_ok hf] at h
   rcases List.mem_cons.1 hp with rfl | hp
   ·exact ⟨i,hf⟩
   ·exact firstBad_neg h p hp
  ·rw [firstBad_bad hf] at h;omega
theorem rmw_before {g:Gr} (h:¬ 0≤g.rmwAt) {p:Int×Int} (hp:p∈g.rmw):g.before p.1 p.2=true:=by
 obtain ⟨j,hj⟩:=firstBad_neg (f:=g.rmwBad) h p hp
 unfold Gr.rmwBad at hj
 simp only [Bool.or_eq_false_iff,Bool.not_eq_false'] at hj
 have:=hj.1.2
 unfold Gr.isNext at this
 simp only [Bool.and_eq_true] at this
 exact this.1
theorem before_nat {g:Gr} {a b:Nat} (h:g.before (a:Int) (b:Int)=true):a<b∧b<g.n:=by
 obtain ⟨h1,h2,h3⟩:=before_lt h
 omega
theorem lpairs_mem:∀ {l:List Int} {x y:Int},(x,y)∈lpairs l→x∈l∧y∈l
 | [],_,_,h=>by cases h
 | a :: t,x,y,h=>by
  unfold lpairs at h
  rcases List.mem_append.1 h with h | h
  ·obtain ⟨b,hb,e⟩:=List.mem_map.1 h
   cases e;exact ⟨by simp,by simp [hb]⟩
  ·obtain ⟨h1,h2⟩:=lpairs_mem h
   exact ⟨by simp [h1],by simp [h2]⟩
theorem idx_ne {a x:Int} {t:List Int} (h:¬ a=x):(a :: t).idxOf x=t.idxOf x+1:=by
 rw [List.idxOf_cons,beq_f h];rfl
theorem lpairs_idx:∀ {l:List Int} {x y:Int},l.Nodup→(x,y)∈lpairs l→l.idxOf x<l.idxOf y
 | [],_,_,_,h=>by cases h
 | a :: t,x,y,hn,h=>by
  obtain ⟨ha,hn⟩:=List.nodup_cons.1 hn
  unfold lpairs at h
  rcases List.mem_append.1 h with h | h
  ·obtain ⟨b,hb,e⟩:=List.mem_map.1 h
   cases e
   have:¬ a=y:=fun e=>ha (e▸hb)
   rw [List.idxOf_cons_self,idx_ne this]
   omega
  ·obtain ⟨h1,h2⟩:=lpairs_mem h
   have e1:¬ a=x:=fun e=>ha (e▸h1)
   have e2:¬ a=y:=fun e=>ha (e▸h2)
   rw [idx_ne e1,idx_ne e2]
   have:=lpairs_idx hn h
   omega
theorem coPairs_list {g:Gr} {x y:Int} (h:(x,y)∈coPairs g):∃ c,c<g.co.length∧(x,y)∈lpairs (g.co.getD c []):=by
 unfold coPairs at h
 obtain ⟨l,hl,h⟩:=List.mem_flatMap.1 h
 obtain ⟨c,hc⟩:=List.mem_iff_getElem?.1 hl
 have hlt:=(List.getElem?_eq_some_iff.1 hc).1
 refine ⟨c,hlt,?_⟩
 have:g.co.getD c []=l:=by simp [hc]
 rw [this];exact h
theorem co_list {g:Gr} (hg:g.good=true) {c:Nat} (hc:c<g.co.length):(g.co.getD c []).Nodup∧(∀ w∈g.co.getD c [],g.is w 2=true∧(g.ev w.toNat).loc=(c:Int))∧(g.co.getD c []).length=g.writesOf c:=by
 have hb:=(good_co hg).2 c hc
 rw [coBad_of] at hb
 simp only [Bool.not_eq_false',Bool.and_eq_true,beq_iff_eq] at hb
 obtain ⟨hok,hlen⟩:=hb
 unfold coOk coGood at hok
 simp only [Bool.and_eq_true,List.all_eq_true,decide_eq_true_eq,beq_iff_eq] at hok
 exact ⟨hok.2,fun w hw=>hok.1.2 w hw,hlen⟩
end Go.Proofs.Tst
/-
  The words' memory model: its relations, its check (plain).
-/
namespace Go.Proofs.Tst
open Go Go.Vc
def exB (n:Nat) (f:Nat→Bool):Bool:=(List.range n).any f
theorem exB_true {n:Nat} {f:Nat→Bool}:exB n f=true↔∃ k,k<n∧f k=true:=by
 unfold exB;simp [List.any_eq_true]
def isK (g:Gr) (k:Int) (i:Nat):Bool:=(g.ev i).kind==k
def isM (g:Gr) (m:Int) (i:Nat):Bool:=(g.ev i).mode==m
def rfeM (g:Gr) (i j:Nat):Bool:=relM g 1 i j&&relM g 5 i j
def rfiM (g:Gr) (i j:Nat):Bool:=relM g 1 i j&&!relM g 5 i j
def coeM (g:Gr) (i j:Nat):Bool:=relM g 2 i j&&relM g 5 i j
def coiM (g:Gr) (i j:Nat):Bool:=relM g 2 i j&&!relM g 5 i j
def freM (g:Gr) (i j:Nat):Bool:=relM g 9 i j&&relM g 5 i j
def acqB (g:Gr) (i:Nat):Bool:=isM g 12 i||isM g 16 i
def lastB (g:Gr) (i:Nat):Bool:=g.rmw.any fun p=>p.2==(i:Int)
def obsM (g:Gr) (i j:Nat):Bool:=rfeM g i j||coeM g i j||freM g i j
def dobM (g:Gr) (i j:Nat):Bool:=
 relM g 6 i j||relM g 7 i j||(relM g 8 i j&&isK g 2 j)||(exB g.n (fun k=>relM g 6 i k&&relM g 0 k j)&&isK g 2 j)
  || exB g.n (fun k=>(relM g 8 i k||relM g 7 i k)&&coiM g k j)||exB g.n (fun k=>(relM g 6 i k||relM g 7 i k)&&rfiM g k j)
def aobM (g:Gr) (i j:Nat):Bool:=relM g 3 i j||(lastB g i&&rfiM g i j&&acqB g j)
def bobM (g:Gr) (i j:Nat):Bool:=
 exB g.n (fun k=>relM g 0 i k&&isM g 15 k&&relM g 0 k j)||exB g.n (fun k=>isK g 1 i&&relM g 0 i k&&isM g 14 k&&relM g 0 k j)
  || (isM g 13 i&&relM g 0 i j&&isM g 12 j)||(acqB g i&&relM g 0 i j)||(relM g 0 i j&&isM g 13 j)
  || exB g.n (fun k=>relM g 0 i k&&isM g 13 k&&coiM g k j)
def obM (g:Gr) (i j:Nat):Bool:=obsM g i j||dobM g i j||aobM g i j||bobM g i j
def inM (g:Gr) (i j:Nat):Bool:=(relM g 0 i j&&relM g 4 i j)||relM g 1 i j||relM g 2 i j||relM g 9 i j
def tornB (g:Gr) (p:Int×Int):Bool:=inR g.n p.1&&inR g.n p.2&&exB g.n fun k=>freM g p.1.toNat k&&coeM g k p.2.toNat
def armAx (g:Gr):Int×List Int:=
 if cycS g.n (inM g)≠[] then (1,(cycS g.n (inM g)).map fun (x:Nat)=>(x:Int))
 else if cycS g.n (obM g)≠[] then (2,(cycS g.n (obM g)).map fun (x:Nat)=>(x:Int))
 else match g.rmw.find? (tornB g) with | some p=>(3,[p.1,p.2]) | none=>(0,[])
theorem cyc_acyc {n:Nat} {M:Nat→Nat→Bool}:cycS n M=[]↔irrB n (plusM n M)=true:=by
 constructor
 ·intro h
  have:=cycS_nil h
  unfold irrB
  rw [List.all_eq_true]
  intro i hi
  rw [this i (List.mem_range.1 hi)];rfl
 ·intro h
  unfold irrB at h
  rw [List.all_eq_true] at h
  apply Classical.byContradiction;intro hne
  obtain ⟨p,hp,-,hpp,-⟩:=cycS_is hne
  have:=h p (List.mem_range.2 hp)
  rw [hpp] at this;cases this
end Go.Proofs.Tst
/-
  What ARMv8's relations keep of any graph (plain).
-/
namespace Go.Proofs.Tst
open Go Go.Vc
def Th (g:Gr) (i j:Nat):Prop:=(g.ev i).thread=(g.ev j).thread
theorem po_th {g:Gr} {i j:Nat} (h:relM g 0 i j=true):Th g i j∧0≤(g.ev i).thread∧i<j∧j<g.n:=by
 have h':g.before (i:Int) (j:Int)=true:=h
 have h2:=before_nat h'
 unfold Gr.before at h'
 simp only [Bool.and_eq_true,decide_eq_true_eq,beq_iff_eq,Int.toNat_natCast] at h'
 exact ⟨h'.2,h'.1.2,h2⟩
theorem rf_pair {g:Gr} {words:Bool} (h:(g.check words).1=0) {p:Int×Int} (hp:p∈g.rf):∃ w r:Nat,p=((w:Int),(r:Int))∧w<g.n∧r<g.n∧(g.ev w).kind=2∧(g.ev r).kind=1∧(g.ev w).loc=(g.ev r).loc∧0≤(g.ev w).loc:=by
 obtain ⟨hs,h2,h3,h4,-⟩:=check_zero h
 have key:∀ (d r k:Nat),r+d=g.n→¬ 0≤g.rfGo d r k→∀ p∈g.rf.drop k,∃ r:Nat,r<g.n∧p.2=(r:Int)∧(g.ev r).kind=1∧g.is p.1 2=true∧(g.ev p.1.toNat).loc=(g.ev r).loc:=by
  intro d
  induction d with
  | zero =>
   intro r k hr h p hp
   have hk:g.rf.length≤k:=by
    unfold Gr.rfGo at h
    split at h
    ·omega
    ·omega
   rw [List.drop_eq_nil_of_le hk] at hp
   cases hp
  | succ d ih =>
   intro r k hr h p hp
   by_cases hkd:(g.ev r).kind=1
   ·cases hb:g.rfBad r k
    ·rw [rfGo_ok hkd hb] at h
     unfold Gr.rfBad at hb
     cases hq:g.rf[k]? with
     | none=>rw [hq] at hb;cases hb
     | some q =>
      rw [hq] at hb
      simp only [Bool.or_eq_false_iff,Bool.not_eq_false',beq_iff_eq] at hb
      obtain ⟨⟨⟨hb1,hb2⟩,hb3⟩,-⟩:=hb
      have hkl:=(List.getElem?_eq_some_iff.1 hq).1
      have hdr:g.rf.drop k=q :: g.rf.drop (k+1):=by rw [List.drop_eq_getElem_cons hkl];congr 1;exact (List.getElem?_eq_some_iff.1 hq).2
      rw [hdr] at hp
      rcases List.mem_cons.1 hp with rfl | hp
      ·exact ⟨r,by omega,hb1,hkd,hb2,hb3⟩
      ·exact ih (r+1) (k+1) (by omega) h p hp
    ·rw [rfGo_bad hkd hb] at h;omega
   ·rw [rfGo_skip hkd] at h
    exact ih (r+1) k (by omega) h p hp
 obtain ⟨r,h5,h6,h7,h8,h9⟩:=key g.n 0 0 (by omega) h4 p (by rw [List.drop_zero];exact hp)
 obtain ⟨l1,l2,l3⟩:=is_lt h8
 refine ⟨p.1.toNat,r,Prod.ext (by dsimp only;omega) h6,by omega,h5,l3,h7,h9,write_loc hs h2 h3 _ (by omega) l3⟩
end Go.Proofs.Tst
/-
  A graph with weaker modes and fewer pairs (plain).
-/
namespace Go.Proofs.Tst
open Go Go.Vc
def weakM (m m':Int):Prop:=m'=m∨(m=12∧m'=16)∨((m=12∨m=13∨m=16)∧m'=11)∨(m=15∧m'=14)
structure Weak (g h:Gr):Prop where
 cells:h.cells=g.cells
 len:h.n=g.n
 rf:h.rf=g.rf
 co:h.co=g.co
 rmw:h.rmw=g.rmw
 thr:∀ i,(h.ev i).thread=(g.ev i).thread
 kind:∀ i,(h.ev i).kind=(g.ev i).kind
 loc:∀ i,(h.ev i).loc=(g.ev i).loc
 val:∀ i,(h.ev i).val=(g.ev i).val
 mode:∀ i,weakM (g.ev i).mode (h.ev i).mode
 addr:h.addr.Sublist g.addr
 data:h.data.Sublist g.data
 ctrl:h.ctrl.Sublist g.ctrl
theorem firstEv_all {f:Nat→Bool}:∀ (d i:Nat),(∀ j,i≤j→j<i+d→f j=false)→¬ 0≤Gr.firstEv f d i
 | 0,i,_=>by unfold Gr.firstEv;omega
 | d+1,i,h=>by
  rw [firstEv_ok (h i (Nat.le_refl _) (by omega))]
  exact firstEv_all d (i+1) fun j h1 h2=>h j (by omega) (by omega)
namespace Weak
variable {g h : Gr}
theorem size (w:Weak g h):h.size=g.size:=by unfold Gr.size;rw [w.cells,w.len]
theorem is (w:Weak g h) (i k:Int):h.is i k=g.is i k:=by unfold Gr.is;rw [w.len,w.kind]
theorem before (w:Weak g h) (a b:Int):h.before a b=g.before a b:=by unfold Gr.before;rw [w.len,w.thr,w.thr]
theorem isNext (w:Weak g h) (a b:Int):h.isNext a b=g.isNext a b:=by unfold Gr.isNext;simp only [w.before,w.thr]
theorem writesOf (w:Weak g h) (c:Int):h.writesOf c=g.writesOf c:=by rw [writesOf_range,writesOf_range];simp only [w.len,w.kind,w.loc]
theorem rfBad (w:Weak g h) (r k:Nat):h.rfBad r k=g.rfBad r k:=by unfold Gr.rfBad;simp only [w.rf,w.is,w.loc,w.val]
theorem rfGo (w:Weak g h):∀ d r k,h.rfGo d r k=g.rfGo d r k
 | 0,r,k=>by unfold Gr.rfGo;rw [w.rf]
 | d+1,r,k=>by unfold Gr.rfGo;simp only [w.kind,w.rfBad,w.rfGo d]
theorem rfAt (w:Weak g h):h.rfAt=g.rfAt:=by unfold Gr.rfAt;rw [w.rfGo,w.len]
theorem coBad (w:Weak g h) (c:Nat) (l:List Int):h.coBad c l=g.coBad c l:=by unfold Gr.coBad;simp only [w.writesOf,w.is,w.loc]
theorem coAt (w:Weak g h):h.coAt=g.coAt:=by unfold Gr.coAt Gr.coFirst Gr.lists;simp only [w.co,w.cells,w.coBad]
theorem rmwAt (w:Weak g h):h.rmwAt=g.rmwAt:=by
 unfold Gr.rmwAt
 rw [w.rmw]
 refine firstBad_congr fun j p _=>?_
 unfold Gr.rmwBad
 simp only [w.rmw,w.is,w.isNext,w.loc]
theorem modeOk (w:Weak g h) (i:Nat) (hk:Gr.modeOk true (g.ev i).kind (g.ev i).mode=true):Gr.modeOk true (h.ev i).kind (h.ev i).mode=true:=by
 have:=w.mode i
 rw [w.kind]
 unfold Gr.modeOk at hk ⊢
 simp only [if_true,Bool.or_eq_true,Bool.and_eq_true,beq_iff_eq] at hk ⊢
 unfold weakM at this
 omega
theorem evOk (w:Weak g h) (i:Nat) (hk:g.evOk true (g.ev i)=true):h.evOk true (h.ev i)=true:=by
 unfold Gr.evOk at hk ⊢
 simp only [Bool.and_eq_true] at hk ⊢
 obtain ⟨⟨⟨h1,h2⟩,h3⟩,h4⟩:=hk
 refine ⟨⟨⟨?_,?_⟩,w.modeOk i h3⟩,?_⟩
 ·rw [w.thr];exact h1
 ·rw [w.thr];exact h2
 ·rw [w.kind,w.loc,w.val,w.cells];exact h4
theorem first (w:Weak g h) (c:Nat) (hk:g.ev c=Gr.first true c):h.ev c=Gr.first true c:=by
 have h1:=w.thr c;have h2:=w.kind c;have h3:=w.loc c;have h4:=w.val c;have h5:=w.mode c
 rw [hk] at h1 h2 h3 h4 h5
 have h5':(h.ev c).mode=11:=by
  unfold weakM Gr.first at h5;simp only [if_true] at h5;omega
 have h6:(h.ev c).mode=(Gr.first true c).mode:=h5'
 generalize h.ev c=e at h1 h2 h3 h4 h6
 generalize Gr.first true c=e' at h1 h2 h3 h4 h6
 cases e;cases e'
 simp only at h1 h2 h3 h4 h6
 rw [h1,h2,h3,h4,h6]
end Weak
def Rises (l:List (Int×Int)):Prop:=l.Pairwise fun p q=>p.1<q.1∨p.1=q.1∧p.2<q.2
theorem rises_of:∀ {l:List (Int×Int)},(∀ i p q,l[i]?=some p→l[i+1]?=some q→p.1<q.1∨p.1=q.1∧p.2<q.2)→Rises l
 | [],_=>List.Pairwise.nil
 | [p],_=>List.pairwise_singleton _ _
 | p :: q :: l,h=>by
  have ih:Rises (q :: l):=rises_of fun i a b ha hb=>h (i+1) a b (by simpa using ha) (by simpa using hb)
  refine List.Pairwise.cons (fun x hx=>?_) ih
  have h0:=h 0 p q rfl rfl
  rcases List.mem_cons.1 hx with rfl | hx
  ·exact h0
  ·have:=(List.pairwise_cons.1 ih).1 x hx
   omega
theorem rises_at {l:List (Int×Int)} (h:Rises l) {i:Nat} {p q:Int×Int} (hp:l[i]?=some p) (hq:l[i+1]?=some q):p.1<q.1∨p.1=q.1∧p.2<q.2:=by
 obtain ⟨h1,e1⟩:=List.getElem?_eq_some_iff.1 hp
 obtain ⟨h2,e2⟩:=List.getElem?_eq_some_iff.1 hq
 have:=List.pairwise_iff_getElem.1 h i (i+1) h1 h2 (by omega)
 rw [e1,e2] at this;exact this
theorem firstBad_get {f:Nat→Int×Int→Bool}:∀ {l:List (Int×Int)} {i:Nat},¬ 0≤Gr.firstBad f l i→∀ j p,l[j]?=some p→f (i+j) p=false
 | [],_,_,j,p,hp=>by simp at hp
 | q :: l,i,h,j,p,hp=>by
  cases hf:f i q
  ·rw [firstBad_ok hf] at h
   cases j with
   | zero=>simp at hp;subst hp;exact hf
   | succ j=>have:=firstBad_get h j p (by simpa using hp);rw [show i+(j+1)=i+1+j by omega];exact this
  ·rw [firstBad_bad hf] at h;omega
theorem firstBad_none {f:Nat→Int×Int→Bool}:∀ {l:List (Int×Int)} {i:Nat},(∀ j p,l[j]?=some p→f (i+j) p=false)→¬ 0≤Gr.firstBad f l i
 | [],_,_=>by unfold Gr.firstBad;omega
 | q :: l,i,h=>by
  rw [firstBad_ok (by have:=h 0 q rfl;exact this)]
  exact firstBad_none fun j p hp=>by have:=h (j+1) p (by simpa using hp);rw [show i+1+j=i+(j+1) by omega];exact this
theorem dep_iff {g:Gr} {l:List (Int×Int)} {f:Int→Bool}:¬ 0≤g.depAt true l f↔Rises l∧∀ p∈l,g.is p.1 1=true∧g.before p.1 p.2=true∧f (g.ev p.2.toNat).kind=true:=by
 unfold Gr.depAt
 constructor
 ·intro h
  have hb:=firstBad_get h
  refine ⟨rises_of fun i p q hp hq=>?_,fun p hp=>?_⟩
  ·have:=hb (i+1) q hq
   unfold Gr.depBad at this
   simp only [Bool.or_eq_false_iff,Bool.and_eq_false_imp,decide_eq_true_eq] at this
   have h1:=this.1.1.1.1 (by omega)
   rw [Nat.zero_add,Nat.add_sub_cancel,List.getD_eq_getElem?_getD,hp,Option.getD_some] at h1
   simp only [decide_eq_false_iff_not,beq_iff_eq] at h1
   obtain ⟨h1,h2⟩:=h1
   by_cases he:q.1=p.1
   ·have:=h2 he;right;exact ⟨he.symm,by omega⟩
   ·left;omega
  ·obtain ⟨j,hj⟩:=List.mem_iff_getElem?.1 hp
   have:=hb j p hj
   unfold Gr.depBad at this
   simp only [Bool.or_eq_false_iff,Bool.not_eq_false'] at this
   exact ⟨this.1.1.2,this.1.2,this.2⟩
 ·rintro ⟨hr,hp⟩
  refine firstBad_none fun j p hj=>?_
  obtain ⟨h1,h2,h3⟩:=hp p (List.mem_of_getElem? hj)
  unfold Gr.depBad
  rw [h1,h2,h3]
  simp only [Bool.not_true,Bool.or_false]
  by_cases h0:0<0+j
  ·obtain ⟨i,rfl⟩:∃ i,j=i+1:=⟨j - 1,by omega⟩
   have hlt:=(List.getElem?_eq_some_iff.1 hj).1
   have hi:l[i]?=some l[i]:=List.getElem?_eq_getElem (by omega)
   have:=rises_at hr hi hj
   rw [Nat.zero_add,Nat.add_sub_cancel,List.getD_eq_getElem?_getD,hi,Option.getD_some]
   have e1:decide (p.1<l[i].1)=false:=by simp;omega
   rw [e1]
   by_cases he:p.1=l[i].1
   ·have e2:decide (p.2≤l[i].2)=false:=by simp;omega
    rw [e2];simp
   ·have:(p.1==l[i].1)=false:=by simpa using he
    rw [this];simp
  ·have:decide (0<0+j)=false:=by simpa using h0
   rw [this];rfl
namespace Weak
variable {g h : Gr}
theorem dep (w:Weak g h) {l l':List (Int×Int)} {f:Int→Bool} (hs:l'.Sublist l) (hd:¬ 0≤g.depAt true l f):¬ 0≤h.depAt true l' f:=by
 obtain ⟨h1,h2⟩:=dep_iff.1 hd
 refine dep_iff.2 ⟨h1.sublist hs,fun p hp=>?_⟩
 obtain ⟨a,b,c⟩:=h2 p (hs.subset hp)
 rw [w.is,w.before,w.kind];exact ⟨a,b,c⟩
theorem check (w:Weak g h) (hg:(g.check true).1=0):(h.check true).1=0:=by
 obtain ⟨h1,h2,h3,h4,h5,h6,h7,h8,h9⟩:=check_zero hg
 have k2:¬ 0≤h.initAt true:=by
  unfold Gr.initAt at h2 ⊢
  refine firstEv_all _ _ fun j hj hj'=>?_
  rw [w.cells] at hj'
  have:=firstEv_neg _ _ h2 j hj hj'
  simp only [Bool.not_eq_false',beq_iff_eq] at this ⊢
  exact w.first j this
 have k3:¬ 0≤h.evAt true:=by
  unfold Gr.evAt at h3 ⊢
  refine firstEv_all _ _ fun j hj hj'=>?_
  rw [w.cells] at hj hj'
  rw [w.len] at hj'
  have:=firstEv_neg _ _ h3 j hj hj'
  simp only [Bool.not_eq_false'] at this ⊢
  exact w.evOk j this
 unfold Gr.check
 rw [w.size,h1,if_neg (by simp),if_neg k2,if_neg k3,if_neg (by rw [w.rfAt];exact h4),if_neg (by rw [w.coAt];exact h5),if_neg (by rw [w.rmwAt];exact h6),if_neg (w.dep w.addr h7),if_neg (w.dep w.data h8),if_neg (w.dep w.ctrl h9)]
theorem po (w:Weak g h) (i j:Nat):relM h 0 i j=relM g 0 i j:=w.before i j
theorem relRf (w:Weak g h) (i j:Nat):relM h 1 i j=relM g 1 i j:=by show ofM h.n h.rf i j=ofM g.n g.rf i j;rw [w.len,w.rf]
theorem relCo (w:Weak g h) (i j:Nat):relM h 2 i j=relM g 2 i j:=by show ofM h.n (coPairs h) i j=ofM g.n (coPairs g) i j;unfold coPairs;rw [w.len,w.co]
theorem relRmw (w:Weak g h) (i j:Nat):relM h 3 i j=relM g 3 i j:=by show ofM h.n h.rmw i j=ofM g.n g.rmw i j;rw [w.len,w.rmw]
theorem relSame (w:Weak g h) (i j:Nat):relM h 4 i j=relM g 4 i j:=by show h.sameM i j=g.sameM i j;unfold Gr.sameM;rw [w.loc,w.loc]
theorem relExt (w:Weak g h) (i j:Nat):relM h 5 i j=relM g 5 i j:=by show h.extM i j=g.extM i j;unfold Gr.extM;rw [w.thr,w.thr]
theorem relFr (w:Weak g h) (i j:Nat):relM h 9 i j=relM g 9 i j:=by
 show compM h.n (invM (ofM h.n h.rf)) h.n (ofM h.n (coPairs h)) i j=compM g.n (invM (ofM g.n g.rf)) g.n (ofM g.n (coPairs g)) i j
 unfold coPairs;rw [w.len,w.rf,w.co]
theorem ofSub {n:Nat} {l l':List (Int×Int)} (hs:l'.Sublist l) {i j:Nat} (hm:ofM n l' i j=true):ofM n l i j=true:=by
 unfold ofM at hm ⊢
 rw [List.any_eq_true] at hm ⊢
 obtain ⟨p,hp,hm⟩:=hm
 exact ⟨p,hs.subset hp,hm⟩
theorem relDep (w:Weak g h) {k:Nat} (hk:k=6∨k=7∨k=8) {i j:Nat} (hm:relM h k i j=true):relM g k i j=true:=by
 rcases hk with rfl | rfl | rfl
 ·exact ofSub w.addr (by rw [← w.len];exact hm)
 ·exact ofSub w.data (by rw [← w.len];exact hm)
 ·exact ofSub w.ctrl (by rw [← w.len];exact hm)
theorem rfi (w:Weak g h) (i j:Nat):rfiM h i j=rfiM g i j:=by unfold rfiM;rw [w.relRf,w.relExt]
theorem coi (w:Weak g h) (i j:Nat):coiM h i j=coiM g i j:=by unfold coiM;rw [w.relCo,w.relExt]
theorem coe (w:Weak g h) (i j:Nat):coeM h i j=coeM g i j:=by unfold coeM;rw [w.relCo,w.relExt]
theorem fre (w:Weak g h) (i j:Nat):freM h i j=freM g i j:=by unfold freM;rw [w.relFr,w.relExt]
theorem rfe (w:Weak g h) (i j:Nat):rfeM h i j=rfeM g i j:=by unfold rfeM;rw [w.relRf,w.relExt]
theorem obs (w:Weak g h) (i j:Nat):obsM h i j=obsM g i j:=by unfold obsM;rw [w.rfe,w.coe,w.fre]
theorem torn (w:Weak g h) (p:Int×Int):tornB h p=tornB g p:=by unfold tornB;simp only [w.len,w.fre,w.coe]
theorem isK' (w:Weak g h) (k:Int) (i:Nat):isK h k i=isK g k i:=by unfold isK;rw [w.kind]
theorem isM' (w:Weak g h) {m:Int} (hm:m=12∨m=13∨m=15) {i:Nat} (h1:isM h m i=true):isM g m i=true:=by
 have:=w.mode i
 unfold isM at h1 ⊢
 simp only [beq_iff_eq] at h1 ⊢
 unfold weakM at this
 omega
theorem acq (w:Weak g h) {i:Nat} (h1:acqB h i=true):acqB g i=true:=by
 have:=w.mode i
 unfold acqB isM at h1 ⊢
 simp only [Bool.or_eq_true,beq_iff_eq] at h1 ⊢
 unfold weakM at this
 omega
theorem ld (w:Weak g h) {i:Nat} (h1:isM h 14 i=true):isM g 14 i=true∨isM g 15 i=true:=by
 have:=w.mode i
 unfold isM at h1 ⊢
 simp only [beq_iff_eq] at h1 ⊢
 unfold weakM at this
 omega
theorem dob (w:Weak g h) {i j:Nat} (hd:dobM h i j=true):dobM g i j=true:=by
 unfold dobM at hd ⊢
 simp only [Bool.or_eq_true,Bool.and_eq_true,exB_true,w.po,w.rfi,w.coi,w.isK',w.len] at hd ⊢
 have d6:∀ {i j},relM h 6 i j=true→relM g 6 i j=true:=fun x=>w.relDep (by decide) x
 have d7:∀ {i j},relM h 7 i j=true→relM g 7 i j=true:=fun x=>w.relDep (by decide) x
 have d8:∀ {i j},relM h 8 i j=true→relM g 8 i j=true:=fun x=>w.relDep (by decide) x
 rcases hd with ((((hd | hd) | ⟨hd,he⟩) | ⟨⟨k,hk,h1,h2⟩,h3⟩) | ⟨k,hk,h1,h2⟩) | ⟨k,hk,h1,h2⟩
 ·exact .inl (.inl (.inl (.inl (.inl (d6 hd)))))
 ·exact .inl (.inl (.inl (.inl (.inr (d7 hd)))))
 ·exact .inl (.inl (.inl (.inr ⟨d8 hd,he⟩)))
 ·exact .inl (.inl (.inr ⟨⟨k,hk,d6 h1,h2⟩,h3⟩))
 ·exact .inl (.inr ⟨k,hk,h1.imp d8 d7,h2⟩)
 ·exact .inr ⟨k,hk,h1.imp d6 d7,h2⟩
theorem aob (w:Weak g h) {i j:Nat} (hd:aobM h i j=true):aobM g i j=true:=by
 have hl:lastB h i=lastB g i:=by unfold lastB;rw [w.rmw]
 unfold aobM at hd ⊢
 simp only [Bool.or_eq_true,Bool.and_eq_true,w.relRmw,w.rfi,hl] at hd ⊢
 exact hd.imp id fun ⟨h1,h2⟩=>⟨h1,w.acq h2⟩
theorem bob (w:Weak g h) {i j:Nat} (hd:bobM h i j=true):bobM g i j=true:=by
 unfold bobM at hd ⊢
 simp only [Bool.or_eq_true,Bool.and_eq_true,exB_true,w.po,w.coi,w.isK',w.len] at hd ⊢
 have m12:∀ {i},isM h 12 i=true→isM g 12 i=true:=fun x=>w.isM' (by decide) x
 have m13:∀ {i},isM h 13 i=true→isM g 13 i=true:=fun x=>w.isM' (by decide) x
 have m15:∀ {i},isM h 15 i=true→isM g 15 i=true:=fun x=>w.isM' (by decide) x
 rcases hd with ((((⟨k,hk,⟨h1,h3⟩,h2⟩ | ⟨k,hk,⟨⟨h4,h1⟩,h3⟩,h2⟩) | ⟨⟨h3,h1⟩,h4⟩) | ⟨h3,h1⟩) | ⟨h1,h3⟩) | ⟨k,hk,⟨h1,h3⟩,h2⟩
 ·exact .inl (.inl (.inl (.inl (.inl ⟨k,hk,⟨h1,m15 h3⟩,h2⟩))))
 ·rcases w.ld h3 with h3 | h3
  ·exact .inl (.inl (.inl (.inl (.inr ⟨k,hk,⟨⟨h4,h1⟩,h3⟩,h2⟩))))
  ·exact .inl (.inl (.inl (.inl (.inl ⟨k,hk,⟨h1,h3⟩,h2⟩))))
 ·exact .inl (.inl (.inl (.inr ⟨⟨m13 h3,h1⟩,m12 h4⟩)))
 ·exact .inl (.inl (.inr ⟨w.acq h3,h1⟩))
 ·exact .inl (.inr ⟨h1,m13 h3⟩)
 ·exact .inr ⟨k,hk,⟨h1,m13 h3⟩,h2⟩
theorem ob (w:Weak g h) {i j:Nat} (hd:obM h i j=true):obM g i j=true:=by
 unfold obM at hd ⊢
 simp only [Bool.or_eq_true,w.obs] at hd ⊢
 exact hd.imp (fun x=>x.imp (fun x=>x.imp id w.dob) w.aob) w.bob
end Weak
end Go.Proofs.Tst
