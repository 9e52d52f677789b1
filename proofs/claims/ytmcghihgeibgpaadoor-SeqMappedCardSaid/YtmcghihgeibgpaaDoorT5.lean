/-
  Contracts of functions that the law reaches: what each returns and what it leaves in memory. Conditions stand in each.
-/
import Derived.Test.YtmcghihgeibgpaaDoorT4
set_option linter.all false
set_option maxRecDepth 2000
/-
  graph.Derive: one row of po, same and ext.
-/
namespace Go.Proofs.Tst
open Go Go.Vc
def relT (g:Gr) (i j k:Nat):Nat→Nat→Bool:=if k=0∨k=4∨k=5 then mixM i j g.n (relM g k) (fun _ _=>false) else relZ g k
theorem putM_nat {n:Nat} {M:Nat→Nat→Bool} {i j:Nat} (hi:i<n) (hj:j<n) (v:Bool) (x y:Nat):putM n M i j v x y=if x=i∧y=j then v else M x y:=by
 unfold putM
 have h1:inR n (i:Int)=true:=by unfold inR;simp;omega
 have h2:inR n (j:Int)=true:=by unfold inR;simp;omega
 rw [h1,h2]
 by_cases hx:x=i
 ·by_cases hy:y=j
  ·subst hx;subst hy;simp
  ·have:((j:Int)==(y:Int))=false:=by simp;omega
   simp [this,hy]
 ·have:((i:Int)==(x:Int))=false:=by simp;omega
  simp [this,hx]
theorem relT_set {g:Gr} {i j k:Nat} (hk:k=0∨k=4∨k=5) {v:Bool} (hv:v=relM g k i j) {x y:Nat}:(if x=i∧y=j then v else relT g i j k x y)=relT g i (j+1) k x y:=by
 unfold relT;rw [if_pos hk,if_pos hk];exact mixM_set hv
theorem relT_step {g:Gr} {i j:Nat} (hi:i<g.n) (hj:j<g.n) {v0 v4 v5:Bool} (h0:v0=relM g 0 i j) (h4:v4=relM g 4 i j) (h5:v5=relM g 5 i j) (k:Nat) {x y:Nat} (_:x<g.n) (_:y<g.n) :
  (if k=5 then putM g.n ((fun l=>if l=4 then putM g.n ((fun l=>if l=0 then putM g.n (relT g i j 0) i j v0 else relT g i j l) 4) i j v4 else (fun l=>if l=0 then putM g.n (relT g i j 0) i j v0 else relT g i j l) l) 5) i j v5
   else (fun l=>if l=4 then putM g.n ((fun l=>if l=0 then putM g.n (relT g i j 0) i j v0 else relT g i j l) 4) i j v4 else (fun l=>if l=0 then putM g.n (relT g i j 0) i j v0 else relT g i j l) l) k) x y=relT g i (j+1) k x y:=by
 by_cases k5:k=5
 ·subst k5
  simp only [if_true]
  rw [putM_nat hi hj]
  show (if x=i∧y=j then v5 else relT g i j 5 x y)=_
  exact relT_set (by decide) h5
 ·rw [if_neg k5]
  by_cases k4:k=4
  ·subst k4
   simp only [if_true]
   rw [putM_nat hi hj]
   show (if x=i∧y=j then v4 else relT g i j 4 x y)=_
   exact relT_set (by decide) h4
  ·simp only [if_neg k4]
   by_cases k0:k=0
   ·subst k0
    simp only [if_true]
    rw [putM_nat hi hj]
    show (if x=i∧y=j then v0 else relT g i j 0 x y)=_
    exact relT_set (by decide) h0
   ·simp only [if_neg k0]
    unfold relT
    rw [if_neg (by omega),if_neg (by omega)]
theorem relT_next {g:Gr} {i k x y:Nat}:relT g i g.n k x y=relT g (i+1) 0 k x y:=by
 unfold relT
 split
 ·exact mixM_next
 ·rfl
set_option maxHeartbeats 4000000 in
theorem derive_row {Q:Post} {h hI:Heap} {q:GV} {g:Gr} {b1 b2 b5 b7 i H3 H4:Nat} {A B:Nat→Nat} {p:Nat→Value} {v3 rd wr fe v53 v54 v55:Value} (t:GrAt h q g) (p0:Fr 0 0 h hI)
  (hAB:∀ k,k<9→H3≤A k∧A k≤B k∧B k≤H4) (hb5:∀ k,k<9→b5<A k∨B k≤b5) (h34:h.size≤H3) (hb7:H4≤b7) (h4I:H4≤hI.size) (hi:i<g.n)
  (D:Der hI A B p g.n (relT g i 0) 9) (r5:Rw hI b5 [p 0,p 1,p 2,v3,p 3,p 4,p 5,p 6,p 7,p 8,rd,wr,fe]) (r7:Rw hI b7 (g.ev i).cells)
  (hQ:∀ h',FrX (InR A B 9) hI h'→Der h' A B p g.n (relT g (i+1) 0) 9 →
   Q (.exit 2) [(1,.pointer (some ⟨b1,0,none⟩)),(2,.pointer (some ⟨b2,0,none⟩)),(5,.pointer (some ⟨b5,0,none⟩)),(6,.int .i64 i),(7,.pointer (some ⟨b7,0,none⟩)),(53,v53),(54,v54),(55,v55),(85,.slice q.e g.evs.length q.ec),(86,.int .i64 g.evs.length),(87,.int .i64 g.n),(88,.bool false)] h') :
  loopVC (vc Tryd.prog none g_q12_l18) Q [(1,.pointer (some ⟨b1,0,none⟩)),(2,.pointer (some ⟨b2,0,none⟩)),(5,.pointer (some ⟨b5,0,none⟩)),(6,.int .i64 i),(7,.pointer (some ⟨b7,0,none⟩)),(53,v53),(54,v54),(55,v55),(85,.slice q.e g.evs.length q.ec),(86,.int .i64 g.evs.length),(87,.int .i64 0)] hI:=by
 have be:=t.fits.e
 have hen:g.evs.length=g.n:=rfl
 have r5l:=r5.lt
 have r7l:=r7.lt
 unfold Ev.cells at r7
 refine loop_intro (fun j:Nat=>[(1,.pointer (some ⟨b1,0,none⟩)),(2,.pointer (some ⟨b2,0,none⟩)),(5,.pointer (some ⟨b5,0,none⟩)),(6,.int .i64 i),(7,.pointer (some ⟨b7,0,none⟩)),(53,v53),(54,v54),(55,v55),(85,.slice q.e g.evs.length q.ec),(86,.int .i64 g.evs.length),(87,.int .i64 j)])
  (fun j h'=>j≤g.n∧FrX (InR A B 9) hI h'∧Der h' A B p g.n (relT g i j) 9) (fun j=>g.n - j) 0 ?_ ?_ ?_
 ·simp [Le,find]
 ·exact ⟨by omega,.refl _ _,D⟩
 clear D
 rintro j h2 ⟨hj,X,D⟩
 have X_z:=X.size
 have p2:Fr 0 0 h h2:=X.fresh p0 fun x ⟨k,hk,h1,_⟩=>by have:=hAB k hk;omega
 have p2_z:=p2.size
 replace r5:=X.rw r5 fun ⟨k,hk,h1,h2⟩=>by have:=hb5 k hk;omega
 replace r7:=X.rw r7 fun ⟨k,hk,h1,h2⟩=>by have:=hAB k hk;omega
 by_cases hlt:j<g.n
 ·have e1:((j:Int)<(g.n:Int)):=by omega
  obtain ⟨eb,eo,he,hev⟩:=t.evs (by omega)
  obtain ⟨c0,c1,c2,c3,c4⟩:=hev h2 p2 j hlt
  simp -dsimp only [go_sem,he,e1,evs_len,c0,c1,c2,c3,c4,r5.cell,r7.cell]
  intro b9 h3 n9
  have n9_z:=n9.az
  replace p2:=p2.F n9.f0
  replace X:=X.step n9.f0 (fun x h1 h2=>.inr (by omega))
  replace D:=D.fr n9.f0 (fun k hk=>by have:=hAB k hk;first | omega | (have:=hb5 k hk;omega))
  replace r5:=r5.F n9.f0
  replace r7:=r7.F n9.f0
  have r9:=n9.row
  simp -dsimp only [go_sem,r5.cell,r7.cell,r9.cell]
  refine Chk_intro (r9.W) fun h4 s9=>?_
  have s9_z:=s9.size
  replace p2:=p2.F s9.fr
  replace X:=X.step s9.fr (fun x h1 h2=>.inr (by omega))
  replace D:=D.fr s9.fr (fun k hk=>by have:=hAB k hk;first | omega | (have:=hb5 k hk;omega))
  replace r5:=r5.F s9.fr
  replace r7:=r7.F s9.fr
  replace r9:=s9.row r9
  try simp only [cl_int,cl_bool,cl_slice,cl_ptr,putAt_one,zs0,zs1,ivec_set,brow_upd] at r9
  simp -dsimp only [go_sem] at r9
  have hv5:((g.ev i).thread != (g.ev j).thread)=relM g 5 i j:=rfl
  have hpo:relM g 0 i j=(decide (0≤(i:Int))&&decide ((i:Int)<(j:Int))&&decide ((j:Int)<(g.n:Int))&&decide (0≤(g.ev i).thread)&&(g.ev i).thread==(g.ev j).thread):=by
   show g.before i j=_;unfold Gr.before;rw [Int.toNat_natCast,Int.toNat_natCast]
  rw [dec_t (show 0≤(i:Int) by omega),dec_t e1] at hpo
  by_cases a1:(i:Int)<(j:Int)
  ·rw [dec_t a1] at hpo
   by_cases a2:(g.ev i).thread≥0
   ·rw [dec_t (show 0≤(g.ev i).thread from a2)] at hpo
    by_cases a3:(g.ev i).thread=(g.ev j).thread
    ·have hv1:true=relM g 0 i j:=by rw [hpo,beq_t a3];rfl
     simp -dsimp only [go_sem,a1,a2,beq_t a3,r5.cell,r7.cell,r9.cell]
     refine call_of (rel_Put (D.at_ 0 (by decide)) i j (true)) ?_
     rintro vp h_p ⟨f_p,z_p,-,w_p⟩
     replace D:=D.put (k:=0) (by decide) f_p w_p
     have ab_p:=hAB 0 (by decide)
     have b5_p:=hb5 0 (by decide)
     replace X:=X.step f_p (fun x h1 h2=>.inl ⟨0,by decide,h1,h2⟩)
     replace p2:=p2.F f_p
     replace r5:=r5.F f_p
     replace r7:=r7.F f_p
     replace r9:=r9.F f_p
     clear ab_p b5_p
     by_cases b1':(g.ev i).loc≥0
     ·by_cases b2':(g.ev i).loc=(g.ev j).loc
      ·have hv4:true=relM g 4 i j:=by show true=g.sameM i j;unfold Gr.sameM;rw [dec_t (show 0≤(g.ev i).loc from b1'),beq_t b2'];rfl
       simp -dsimp only [go_sem,b1',beq_t b2',r5.cell,r7.cell,r9.cell]
       refine call_of (rel_Put (D.at_ 4 (by decide)) i j (true)) ?_
       rintro vp h_p ⟨f_p,z_p,-,w_p⟩
       replace D:=D.put (k:=4) (by decide) f_p w_p
       have ab_p:=hAB 4 (by decide)
       have b5_p:=hb5 4 (by decide)
       replace X:=X.step f_p (fun x h1 h2=>.inl ⟨4,by decide,h1,h2⟩)
       replace p2:=p2.F f_p
       replace r5:=r5.F f_p
       replace r7:=r7.F f_p
       replace r9:=r9.F f_p
       clear ab_p b5_p
       simp -dsimp only [go_sem,he,r5.cell,r7.cell,r9.cell]
       refine call_of (rel_Put (D.at_ 5 (by decide)) i j ((g.ev i).thread != (g.ev j).thread)) ?_
       rintro vp h_p ⟨f_p,z_p,-,w_p⟩
       replace D:=D.put (k:=5) (by decide) f_p w_p
       have ab_p:=hAB 5 (by decide)
       have b5_p:=hb5 5 (by decide)
       replace X:=X.step f_p (fun x h1 h2=>.inl ⟨5,by decide,h1,h2⟩)
       replace p2:=p2.F f_p
       replace r5:=r5.F f_p
       replace r7:=r7.F f_p
       replace r9:=r9.F f_p
       clear ab_p b5_p
       simp -dsimp only [go_sem,he,evs_len,r5.cell,r7.cell,r9.cell]
       simp -dsimp (disch:=omega) only [wrap64]
       refine ⟨j+1,by omega,by simp [Le,find,he,evs_len],by omega,X,D.congr fun k hk x y hx hy=>?_⟩
       exact relT_step hi hlt hv1 hv4 hv5 k hx hy
      ·have hv4:false=relM g 4 i j:=by show false=g.sameM i j;unfold Gr.sameM;rw [beq_f b2',Bool.and_false]
       simp -dsimp only [go_sem,b1',beq_f b2',r5.cell,r7.cell,r9.cell]
       refine call_of (rel_Put (D.at_ 4 (by decide)) i j (false)) ?_
       rintro vp h_p ⟨f_p,z_p,-,w_p⟩
       replace D:=D.put (k:=4) (by decide) f_p w_p
       have ab_p:=hAB 4 (by decide)
       have b5_p:=hb5 4 (by decide)
       replace X:=X.step f_p (fun x h1 h2=>.inl ⟨4,by decide,h1,h2⟩)
       replace p2:=p2.F f_p
       replace r5:=r5.F f_p
       replace r7:=r7.F f_p
       replace r9:=r9.F f_p
       clear ab_p b5_p
       simp -dsimp only [go_sem,he,r5.cell,r7.cell,r9.cell]
       refine call_of (rel_Put (D.at_ 5 (by decide)) i j ((g.ev i).thread != (g.ev j).thread)) ?_
       rintro vp h_p ⟨f_p,z_p,-,w_p⟩
       replace D:=D.put (k:=5) (by decide) f_p w_p
       have ab_p:=hAB 5 (by decide)
       have b5_p:=hb5 5 (by decide)
       replace X:=X.step f_p (fun x h1 h2=>.inl ⟨5,by decide,h1,h2⟩)
       replace p2:=p2.F f_p
       replace r5:=r5.F f_p
       replace r7:=r7.F f_p
       replace r9:=r9.F f_p
       clear ab_p b5_p
       simp -dsimp only [go_sem,he,evs_len,r5.cell,r7.cell,r9.cell]
       simp -dsimp (disch:=omega) only [wrap64]
       refine ⟨j+1,by omega,by simp [Le,find,he,evs_len],by omega,X,D.congr fun k hk x y hx hy=>?_⟩
       exact relT_step hi hlt hv1 hv4 hv5 k hx hy
     ·have hv4:false=relM g 4 i j:=by show false=g.sameM i j;unfold Gr.sameM;rw [dec_f (show ¬ 0≤(g.ev i).loc from b1')];rfl
      simp -dsimp only [go_sem,b1',r5.cell,r7.cell,r9.cell]
      refine call_of (rel_Put (D.at_ 4 (by decide)) i j (false)) ?_
      rintro vp h_p ⟨f_p,z_p,-,w_p⟩
      replace D:=D.put (k:=4) (by decide) f_p w_p
      have ab_p:=hAB 4 (by decide)
      have b5_p:=hb5 4 (by decide)
      replace X:=X.step f_p (fun x h1 h2=>.inl ⟨4,by decide,h1,h2⟩)
      replace p2:=p2.F f_p
      replace r5:=r5.F f_p
      replace r7:=r7.F f_p
      replace r9:=r9.F f_p
      clear ab_p b5_p
      simp -dsimp only [go_sem,he,r5.cell,r7.cell,r9.cell]
      refine call_of (rel_Put (D.at_ 5 (by decide)) i j ((g.ev i).thread != (g.ev j).thread)) ?_
      rintro vp h_p ⟨f_p,z_p,-,w_p⟩
      replace D:=D.put (k:=5) (by decide) f_p w_p
      have ab_p:=hAB 5 (by decide)
      have b5_p:=hb5 5 (by decide)
      replace X:=X.step f_p (fun x h1 h2=>.inl ⟨5,by decide,h1,h2⟩)
      replace p2:=p2.F f_p
      replace r5:=r5.F f_p
      replace r7:=r7.F f_p
      replace r9:=r9.F f_p
      clear ab_p b5_p
      simp -dsimp only [go_sem,he,evs_len,r5.cell,r7.cell,r9.cell]
      simp -dsimp (disch:=omega) only [wrap64]
      refine ⟨j+1,by omega,by simp [Le,find,he,evs_len],by omega,X,D.congr fun k hk x y hx hy=>?_⟩
      exact relT_step hi hlt hv1 hv4 hv5 k hx hy
    ·have hv1:false=relM g 0 i j:=by rw [hpo,beq_f a3];rfl
     simp -dsimp only [go_sem,a1,a2,beq_f a3,r5.cell,r7.cell,r9.cell]
     refine call_of (rel_Put (D.at_ 0 (by decide)) i j (false)) ?_
     rintro vp h_p ⟨f_p,z_p,-,w_p⟩
     replace D:=D.put (k:=0) (by decide) f_p w_p
     have ab_p:=hAB 0 (by decide)
     have b5_p:=hb5 0 (by decide)
     replace X:=X.step f_p (fun x h1 h2=>.inl ⟨0,by decide,h1,h2⟩)
     replace p2:=p2.F f_p
     replace r5:=r5.F f_p
     replace r7:=r7.F f_p
     replace r9:=r9.F f_p
     clear ab_p b5_p
     by_cases b1':(g.ev i).loc≥0
     ·by_cases b2':(g.ev i).loc=(g.ev j).loc
      ·have hv4:true=relM g 4 i j:=by show true=g.sameM i j;unfold Gr.sameM;rw [dec_t (show 0≤(g.ev i).loc from b1'),beq_t b2'];rfl
       simp -dsimp only [go_sem,b1',beq_t b2',r5.cell,r7.cell,r9.cell]
       refine call_of (rel_Put (D.at_ 4 (by decide)) i j (true)) ?_
       rintro vp h_p ⟨f_p,z_p,-,w_p⟩
       replace D:=D.put (k:=4) (by decide) f_p w_p
       have ab_p:=hAB 4 (by decide)
       have b5_p:=hb5 4 (by decide)
       replace X:=X.step f_p (fun x h1 h2=>.inl ⟨4,by decide,h1,h2⟩)
       replace p2:=p2.F f_p
       replace r5:=r5.F f_p
       replace r7:=r7.F f_p
       replace r9:=r9.F f_p
       clear ab_p b5_p
       simp -dsimp only [go_sem,he,r5.cell,r7.cell,r9.cell]
       refine call_of (rel_Put (D.at_ 5 (by decide)) i j ((g.ev i).thread != (g.ev j).thread)) ?_
       rintro vp h_p ⟨f_p,z_p,-,w_p⟩
       replace D:=D.put (k:=5) (by decide) f_p w_p
       have ab_p:=hAB 5 (by decide)
       have b5_p:=hb5 5 (by decide)
       replace X:=X.step f_p (fun x h1 h2=>.inl ⟨5,by decide,h1,h2⟩)
       replace p2:=p2.F f_p
       replace r5:=r5.F f_p
       replace r7:=r7.F f_p
       replace r9:=r9.F f_p
       clear ab_p b5_p
       simp -dsimp only [go_sem,he,evs_len,r5.cell,r7.cell,r9.cell]
       simp -dsimp (disch:=omega) only [wrap64]
       refine ⟨j+1,by omega,by simp [Le,find,he,evs_len],by omega,X,D.congr fun k hk x y hx hy=>?_⟩
       exact relT_step hi hlt hv1 hv4 hv5 k hx hy
      ·have hv4:false=relM g 4 i j:=by show false=g.sameM i j;unfold Gr.sameM;rw [beq_f b2',Bool.and_false]
       simp -dsimp only [go_sem,b1',beq_f b2',r5.cell,r7.cell,r9.cell]
       refine call_of (rel_Put (D.at_ 4 (by decide)) i j (false)) ?_
       rintro vp h_p ⟨f_p,z_p,-,w_p⟩
       replace D:=D.put (k:=4) (by decide) f_p w_p
       have ab_p:=hAB 4 (by decide)
       have b5_p:=hb5 4 (by decide)
       replace X:=X.step f_p (fun x h1 h2=>.inl ⟨4,by decide,h1,h2⟩)
       replace p2:=p2.F f_p
       replace r5:=r5.F f_p
       replace r7:=r7.F f_p
       replace r9:=r9.F f_p
       clear ab_p b5_p
       simp -dsimp only [go_sem,he,r5.cell,r7.cell,r9.cell]
       refine call_of (rel_Put (D.at_ 5 (by decide)) i j ((g.ev i).thread != (g.ev j).thread)) ?_
       rintro vp h_p ⟨f_p,z_p,-,w_p⟩
       replace D:=D.put (k:=5) (by decide) f_p w_p
       have ab_p:=hAB 5 (by decide)
       have b5_p:=hb5 5 (by decide)
       replace X:=X.step f_p (fun x h1 h2=>.inl ⟨5,by decide,h1,h2⟩)
       replace p2:=p2.F f_p
       replace r5:=r5.F f_p
       replace r7:=r7.F f_p
       replace r9:=r9.F f_p
       clear ab_p b5_p
       simp -dsimp only [go_sem,he,evs_len,r5.cell,r7.cell,r9.cell]
       simp -dsimp (disch:=omega) only [wrap64]
       refine ⟨j+1,by omega,by simp [Le,find,he,evs_len],by omega,X,D.congr fun k hk x y hx hy=>?_⟩
       exact relT_step hi hlt hv1 hv4 hv5 k hx hy
     ·have hv4:false=relM g 4 i j:=by show false=g.sameM i j;unfold Gr.sameM;rw [dec_f (show ¬ 0≤(g.ev i).loc from b1')];rfl
      simp -dsimp only [go_sem,b1',r5.cell,r7.cell,r9.cell]
      refine call_of (rel_Put (D.at_ 4 (by decide)) i j (false)) ?_
      rintro vp h_p ⟨f_p,z_p,-,w_p⟩
      replace D:=D.put (k:=4) (by decide) f_p w_p
      have ab_p:=hAB 4 (by decide)
      have b5_p:=hb5 4 (by decide)
      replace X:=X.step f_p (fun x h1 h2=>.inl ⟨4,by decide,h1,h2⟩)
      replace p2:=p2.F f_p
      replace r5:=r5.F f_p
      replace r7:=r7.F f_p
      replace r9:=r9.F f_p
      clear ab_p b5_p
      simp -dsimp only [go_sem,he,r5.cell,r7.cell,r9.cell]
      refine call_of (rel_Put (D.at_ 5 (by decide)) i j ((g.ev i).thread != (g.ev j).thread)) ?_
      rintro vp h_p ⟨f_p,z_p,-,w_p⟩
      replace D:=D.put (k:=5) (by decide) f_p w_p
      have ab_p:=hAB 5 (by decide)
      have b5_p:=hb5 5 (by decide)
      replace X:=X.step f_p (fun x h1 h2=>.inl ⟨5,by decide,h1,h2⟩)
      replace p2:=p2.F f_p
      replace r5:=r5.F f_p
      replace r7:=r7.F f_p
      replace r9:=r9.F f_p
      clear ab_p b5_p
      simp -dsimp only [go_sem,he,evs_len,r5.cell,r7.cell,r9.cell]
      simp -dsimp (disch:=omega) only [wrap64]
      refine ⟨j+1,by omega,by simp [Le,find,he,evs_len],by omega,X,D.congr fun k hk x y hx hy=>?_⟩
      exact relT_step hi hlt hv1 hv4 hv5 k hx hy
   ·have hv1:false=relM g 0 i j:=by rw [hpo,dec_f (show ¬ 0≤(g.ev i).thread from a2)];rfl
    simp -dsimp only [go_sem,a1,a2,r5.cell,r7.cell,r9.cell]
    refine call_of (rel_Put (D.at_ 0 (by decide)) i j (false)) ?_
    rintro vp h_p ⟨f_p,z_p,-,w_p⟩
    replace D:=D.put (k:=0) (by decide) f_p w_p
    have ab_p:=hAB 0 (by decide)
    have b5_p:=hb5 0 (by decide)
    replace X:=X.step f_p (fun x h1 h2=>.inl ⟨0,by decide,h1,h2⟩)
    replace p2:=p2.F f_p
    replace r5:=r5.F f_p
    replace r7:=r7.F f_p
    replace r9:=r9.F f_p
    clear ab_p b5_p
    by_cases b1':(g.ev i).loc≥0
    ·by_cases b2':(g.ev i).loc=(g.ev j).loc
     ·have hv4:true=relM g 4 i j:=by show true=g.sameM i j;unfold Gr.sameM;rw [dec_t (show 0≤(g.ev i).loc from b1'),beq_t b2'];rfl
      simp -dsimp only [go_sem,b1',beq_t b2',r5.cell,r7.cell,r9.cell]
      refine call_of (rel_Put (D.at_ 4 (by decide)) i j (true)) ?_
      rintro vp h_p ⟨f_p,z_p,-,w_p⟩
      replace D:=D.put (k:=4) (by decide) f_p w_p
      have ab_p:=hAB 4 (by decide)
      have b5_p:=hb5 4 (by decide)
      replace X:=X.step f_p (fun x h1 h2=>.inl ⟨4,by decide,h1,h2⟩)
      replace p2:=p2.F f_p
      replace r5:=r5.F f_p
      replace r7:=r7.F f_p
      replace r9:=r9.F f_p
      clear ab_p b5_p
      simp -dsimp only [go_sem,he,r5.cell,r7.cell,r9.cell]
      refine call_of (rel_Put (D.at_ 5 (by decide)) i j ((g.ev i).thread != (g.ev j).thread)) ?_
      rintro vp h_p ⟨f_p,z_p,-,w_p⟩
      replace D:=D.put (k:=5) (by decide) f_p w_p
      have ab_p:=hAB 5 (by decide)
      have b5_p:=hb5 5 (by decide)
      replace X:=X.step f_p (fun x h1 h2=>.inl ⟨5,by decide,h1,h2⟩)
      replace p2:=p2.F f_p
      replace r5:=r5.F f_p
      replace r7:=r7.F f_p
      replace r9:=r9.F f_p
      clear ab_p b5_p
      simp -dsimp only [go_sem,he,evs_len,r5.cell,r7.cell,r9.cell]
      simp -dsimp (disch:=omega) only [wrap64]
      refine ⟨j+1,by omega,by simp [Le,find,he,evs_len],by omega,X,D.congr fun k hk x y hx hy=>?_⟩
      exact relT_step hi hlt hv1 hv4 hv5 k hx hy
     ·have hv4:false=relM g 4 i j:=by show false=g.sameM i j;unfold Gr.sameM;rw [beq_f b2',Bool.and_false]
      simp -dsimp only [go_sem,b1',beq_f b2',r5.cell,r7.cell,r9.cell]
      refine call_of (rel_Put (D.at_ 4 (by decide)) i j (false)) ?_
      rintro vp h_p ⟨f_p,z_p,-,w_p⟩
      replace D:=D.put (k:=4) (by decide) f_p w_p
      have ab_p:=hAB 4 (by decide)
      have b5_p:=hb5 4 (by decide)
      replace X:=X.step f_p (fun x h1 h2=>.inl ⟨4,by decide,h1,h2⟩)
      replace p2:=p2.F f_p
      replace r5:=r5.F f_p
      replace r7:=r7.F f_p
      replace r9:=r9.F f_p
      clear ab_p b5_p
      simp -dsimp only [go_sem,he,r5.cell,r7.cell,r9.cell]
      refine call_of (rel_Put (D.at_ 5 (by decide)) i j ((g.ev i).thread != (g.ev j).thread)) ?_
      rintro vp h_p ⟨f_p,z_p,-,w_p⟩
      replace D:=D.put (k:=5) (by decide) f_p w_p
      have ab_p:=hAB 5 (by decide)
      have b5_p:=hb5 5 (by decide)
      replace X:=X.step f_p (fun x h1 h2=>.inl ⟨5,by decide,h1,h2⟩)
      replace p2:=p2.F f_p
      replace r5:=r5.F f_p
      replace r7:=r7.F f_p
      replace r9:=r9.F f_p
      clear ab_p b5_p
      simp -dsimp only [go_sem,he,evs_len,r5.cell,r7.cell,r9.cell]
      simp -dsimp (disch:=omega) only [wrap64]
      refine ⟨j+1,by omega,by simp [Le,find,he,evs_len],by omega,X,D.congr fun k hk x y hx hy=>?_⟩
      exact relT_step hi hlt hv1 hv4 hv5 k hx hy
    ·have hv4:false=relM g 4 i j:=by show false=g.sameM i j;unfold Gr.sameM;rw [dec_f (show ¬ 0≤(g.ev i).loc from b1')];rfl
     simp -dsimp only [go_sem,b1',r5.cell,r7.cell,r9.cell]
     refine call_of (rel_Put (D.at_ 4 (by decide)) i j (false)) ?_
     rintro vp h_p ⟨f_p,z_p,-,w_p⟩
     replace D:=D.put (k:=4) (by decide) f_p w_p
     have ab_p:=hAB 4 (by decide)
     have b5_p:=hb5 4 (by decide)
     replace X:=X.step f_p (fun x h1 h2=>.inl ⟨4,by decide,h1,h2⟩)
     replace p2:=p2.F f_p
     replace r5:=r5.F f_p
     replace r7:=r7.F f_p
     replace r9:=r9.F f_p
     clear ab_p b5_p
     simp -dsimp only [go_sem,he,r5.cell,r7.cell,r9.cell]
     refine call_of (rel_Put (D.at_ 5 (by decide)) i j ((g.ev i).thread != (g.ev j).thread)) ?_
     rintro vp h_p ⟨f_p,z_p,-,w_p⟩
     replace D:=D.put (k:=5) (by decide) f_p w_p
     have ab_p:=hAB 5 (by decide)
     have b5_p:=hb5 5 (by decide)
     replace X:=X.step f_p (fun x h1 h2=>.inl ⟨5,by decide,h1,h2⟩)
     replace p2:=p2.F f_p
     replace r5:=r5.F f_p
     replace r7:=r7.F f_p
     replace r9:=r9.F f_p
     clear ab_p b5_p
     simp -dsimp only [go_sem,he,evs_len,r5.cell,r7.cell,r9.cell]
     simp -dsimp (disch:=omega) only [wrap64]
     refine ⟨j+1,by omega,by simp [Le,find,he,evs_len],by omega,X,D.congr fun k hk x y hx hy=>?_⟩
     exact relT_step hi hlt hv1 hv4 hv5 k hx hy
  ·have hv1:false=relM g 0 i j:=by rw [hpo,dec_f a1];rfl
   simp -dsimp only [go_sem,a1,r5.cell,r7.cell,r9.cell]
   refine call_of (rel_Put (D.at_ 0 (by decide)) i j (false)) ?_
   rintro vp h_p ⟨f_p,z_p,-,w_p⟩
   replace D:=D.put (k:=0) (by decide) f_p w_p
   have ab_p:=hAB 0 (by decide)
   have b5_p:=hb5 0 (by decide)
   replace X:=X.step f_p (fun x h1 h2=>.inl ⟨0,by decide,h1,h2⟩)
   replace p2:=p2.F f_p
   replace r5:=r5.F f_p
   replace r7:=r7.F f_p
   replace r9:=r9.F f_p
   clear ab_p b5_p
   by_cases b1':(g.ev i).loc≥0
   ·by_cases b2':(g.ev i).loc=(g.ev j).loc
    ·have hv4:true=relM g 4 i j:=by show true=g.sameM i j;unfold Gr.sameM;rw [dec_t (show 0≤(g.ev i).loc from b1'),beq_t b2'];rfl
     simp -dsimp only [go_sem,b1',beq_t b2',r5.cell,r7.cell,r9.cell]
     refine call_of (rel_Put (D.at_ 4 (by decide)) i j (true)) ?_
     rintro vp h_p ⟨f_p,z_p,-,w_p⟩
     replace D:=D.put (k:=4) (by decide) f_p w_p
     have ab_p:=hAB 4 (by decide)
     have b5_p:=hb5 4 (by decide)
     replace X:=X.step f_p (fun x h1 h2=>.inl ⟨4,by decide,h1,h2⟩)
     replace p2:=p2.F f_p
     replace r5:=r5.F f_p
     replace r7:=r7.F f_p
     replace r9:=r9.F f_p
     clear ab_p b5_p
     simp -dsimp only [go_sem,he,r5.cell,r7.cell,r9.cell]
     refine call_of (rel_Put (D.at_ 5 (by decide)) i j ((g.ev i).thread != (g.ev j).thread)) ?_
     rintro vp h_p ⟨f_p,z_p,-,w_p⟩
     replace D:=D.put (k:=5) (by decide) f_p w_p
     have ab_p:=hAB 5 (by decide)
     have b5_p:=hb5 5 (by decide)
     replace X:=X.step f_p (fun x h1 h2=>.inl ⟨5,by decide,h1,h2⟩)
     replace p2:=p2.F f_p
     replace r5:=r5.F f_p
     replace r7:=r7.F f_p
     replace r9:=r9.F f_p
     clear ab_p b5_p
     simp -dsimp only [go_sem,he,evs_len,r5.cell,r7.cell,r9.cell]
     simp -dsimp (disch:=omega) only [wrap64]
     refine ⟨j+1,by omega,by simp [Le,find,he,evs_len],by omega,X,D.congr fun k hk x y hx hy=>?_⟩
     exact relT_step hi hlt hv1 hv4 hv5 k hx hy
    ·have hv4:false=relM g 4 i j:=by show false=g.sameM i j;unfold Gr.sameM;rw [beq_f b2',Bool.and_false]
     simp -dsimp only [go_sem,b1',beq_f b2',r5.cell,r7.cell,r9.cell]
     refine call_of (rel_Put (D.at_ 4 (by decide)) i j (false)) ?_
     rintro vp h_p ⟨f_p,z_p,-,w_p⟩
     replace D:=D.put (k:=4) (by decide) f_p w_p
     have ab_p:=hAB 4 (by decide)
     have b5_p:=hb5 4 (by decide)
     replace X:=X.step f_p (fun x h1 h2=>.inl ⟨4,by decide,h1,h2⟩)
     replace p2:=p2.F f_p
     replace r5:=r5.F f_p
     replace r7:=r7.F f_p
     replace r9:=r9.F f_p
     clear ab_p b5_p
     simp -dsimp only [go_sem,he,r5.cell,r7.cell,r9.cell]
     refine call_of (rel_Put (D.at_ 5 (by decide)) i j ((g.ev i).thread != (g.ev j).thread)) ?_
     rintro vp h_p ⟨f_p,z_p,-,w_p⟩
     replace D:=D.put (k:=5) (by decide) f_p w_p
     have ab_p:=hAB 5 (by decide)
     have b5_p:=hb5 5 (by decide)
     replace X:=X.step f_p (fun x h1 h2=>.inl ⟨5,by decide,h1,h2⟩)
     replace p2:=p2.F f_p
     replace r5:=r5.F f_p
     replace r7:=r7.F f_p
     replace r9:=r9.F f_p
     clear ab_p b5_p
     simp -dsimp only [go_sem,he,evs_len,r5.cell,r7.cell,r9.cell]
     simp -dsimp (disch:=omega) only [wrap64]
     refine ⟨j+1,by omega,by simp [Le,find,he,evs_len],by omega,X,D.congr fun k hk x y hx hy=>?_⟩
     exact relT_step hi hlt hv1 hv4 hv5 k hx hy
   ·have hv4:false=relM g 4 i j:=by show false=g.sameM i j;unfold Gr.sameM;rw [dec_f (show ¬ 0≤(g.ev i).loc from b1')];rfl
    simp -dsimp only [go_sem,b1',r5.cell,r7.cell,r9.cell]
    refine call_of (rel_Put (D.at_ 4 (by decide)) i j (false)) ?_
    rintro vp h_p ⟨f_p,z_p,-,w_p⟩
    replace D:=D.put (k:=4) (by decide) f_p w_p
    have ab_p:=hAB 4 (by decide)
    have b5_p:=hb5 4 (by decide)
    replace X:=X.step f_p (fun x h1 h2=>.inl ⟨4,by decide,h1,h2⟩)
    replace p2:=p2.F f_p
    replace r5:=r5.F f_p
    replace r7:=r7.F f_p
    replace r9:=r9.F f_p
    clear ab_p b5_p
    simp -dsimp only [go_sem,he,r5.cell,r7.cell,r9.cell]
    refine call_of (rel_Put (D.at_ 5 (by decide)) i j ((g.ev i).thread != (g.ev j).thread)) ?_
    rintro vp h_p ⟨f_p,z_p,-,w_p⟩
    replace D:=D.put (k:=5) (by decide) f_p w_p
    have ab_p:=hAB 5 (by decide)
    have b5_p:=hb5 5 (by decide)
    replace X:=X.step f_p (fun x h1 h2=>.inl ⟨5,by decide,h1,h2⟩)
    replace p2:=p2.F f_p
    replace r5:=r5.F f_p
    replace r7:=r7.F f_p
    replace r9:=r9.F f_p
    clear ab_p b5_p
    simp -dsimp only [go_sem,he,evs_len,r5.cell,r7.cell,r9.cell]
    simp -dsimp (disch:=omega) only [wrap64]
    refine ⟨j+1,by omega,by simp [Le,find,he,evs_len],by omega,X,D.congr fun k hk x y hx hy=>?_⟩
    exact relT_step hi hlt hv1 hv4 hv5 k hx hy
 ·obtain rfl:j=g.n:=by omega
  simp -dsimp only [go_sem,evs_len,Int.lt_irrefl]
  exact hQ _ X (D.congr fun k _ x y _ _=>relT_next)
end Go.Proofs.Tst
/-
  graph.Derive: co.
-/
namespace Go.Proofs.Tst
open Go Go.Vc
def relC (g:Gr) (L:List (Int×Int)) (k:Nat):Nat→Nat→Bool:=if k=2 then ofM g.n L else relM g k
theorem ofM_snoc {n:Nat} {L:List (Int×Int)} {a b:Int} (x y:Nat):putM n (ofM n L) a b true x y=ofM n (L++[(a,b)]) x y:=by
 unfold putM ofM
 rw [List.any_append]
 simp only [List.any_cons,List.any_nil,Bool.or_false]
 cases hc:(inR n a&&inR n b&&a==(x:Int)&&b==(y:Int))
 ·simp
 ·simp
theorem relC_put {g:Gr} {L:List (Int×Int)} {a b:Int} (k x y:Nat):(if k=2 then putM g.n (relC g L 2) a b true else relC g L k) x y=relC g (L++[(a,b)]) k x y:=by
 by_cases hk:k=2
 ·subst hk;exact ofM_snoc x y
 ·rw [if_neg hk];unfold relC;rw [if_neg hk,if_neg hk]
set_option maxHeartbeats 2000000 in
theorem derive_co {Q:Post} {h hI:Heap} {q:GV} {g:Gr} {b2 b5 H3 H4:Nat} {A B:Nat→Nat} {p:Nat→Value} {v3 rd wr fe:Value} (t:GrAt h q g) (p0:Fr 0 0 h hI)
  (hAB:∀ k,k<9→H3≤A k∧A k≤B k∧B k≤H4) (hb5:∀ k,k<9→b5<A k∨B k≤b5) (h34:h.size≤H3)
  (D:Der hI A B p g.n (relC g []) 9) (r5:Rw hI b5 [p 0,p 1,p 2,v3,p 3,p 4,p 5,p 6,p 7,p 8,rd,wr,fe])
  (hQ:∀ h',FrX (InR A B 9) hI h'→Der h' A B p g.n (relC g (coPairs g)) 9 →
   Q (.exit 4) [(2,.pointer (some ⟨b2,0,none⟩)),(5,.pointer (some ⟨b5,0,none⟩)),(140,.slice q.o g.co.length q.oc),(141,.int .i64 g.co.length),(142,.int .i64 g.co.length),(143,.bool false)] h') :
  loopVC (vc Tryd.prog none g_q12_l36) Q [(2,.pointer (some ⟨b2,0,none⟩)),(5,.pointer (some ⟨b5,0,none⟩)),(140,.slice q.o g.co.length q.oc),(141,.int .i64 g.co.length),(142,.int .i64 0)] hI:=by
 have bo:=t.fits.o
 have hrl:=rlc_at t.l
 have r5l:=r5.lt
 refine loop_intro (fun s:Nat×List (Int×Int)=>[(2,.pointer (some ⟨b2,0,none⟩)),(5,.pointer (some ⟨b5,0,none⟩)),(140,.slice q.o g.co.length q.oc),(141,.int .i64 g.co.length),(142,.int .i64 s.1)])
  (fun s h'=>s.1≤g.co.length∧FrX (InR A B 9) hI h'∧Der h' A B p g.n (relC g s.2) 9∧s.2++(g.co.drop s.1).flatMap lpairs=coPairs g) (fun s=>g.co.length - s.1) (0,[]) ?_ ?_ ?_
 ·simp [Le,find]
 ·exact ⟨by omega,.refl _ _,D,rfl⟩
 clear D
 rintro ⟨c,L⟩ h2 ⟨hc,X,D,hL⟩
 dsimp only at hc D hL ⊢
 have notS:¬ InR A B 9 b5:=fun ⟨k,hk,h1,h2⟩=>by have:=hb5 k hk;omega
 have low:∀ x,InR A B 9 x→h.size≤x:=fun x ⟨k,hk,h1,_⟩=>by have:=hAB k hk;omega
 by_cases hlt:c<g.co.length
 rotate_left
 ·obtain rfl:c=g.co.length:=by omega
  rw [List.drop_length] at hL
  simp only [List.flatMap_nil,List.append_nil] at hL
  simp -dsimp only [go_sem,Int.lt_irrefl]
  exact hQ _ X (hL▸D)
 have e1:((c:Int)<(g.co.length:Int)):=by omega
 obtain ⟨ob,oo,hoe,la,lc,hlc,hlist⟩:=hrl c hlt
 have hll:=t.fits.l (g.co.getD c []) (by have:g.co[c]?=some (g.co.getD c []):=by { simp [hlt] };exact List.mem_of_getElem? this)
 have hdr:g.co.drop c=g.co.getD c [] :: g.co.drop (c+1):=by rw [List.drop_eq_getElem_cons hlt];congr 1;simp [hlt]
 rw [hdr,List.flatMap_cons] at hL
 generalize g.co.getD c []=l at hlist hll hL hlc
 obtain ⟨l1,l2⟩:=hlist h2 (X.fresh p0 low)
 simp -dsimp only [go_sem,e1,hoe,l1]
 refine loop_intro (fun s:Nat×List (Int×Int)=>[(2,.pointer (some ⟨b2,0,none⟩)),(5,.pointer (some ⟨b5,0,none⟩)),(11,.slice la l.length lc),(140,.slice q.o g.co.length q.oc),(141,.int .i64 g.co.length),(142,.int .i64 c),(146,.slice la l.length lc),(147,.int .i64 l.length),(148,.int .i64 s.1)])
  (fun s h'=>s.1≤l.length∧FrX (InR A B 9) hI h'∧Der h' A B p g.n (relC g s.2) 9∧s.2++(lpairs (l.drop s.1)++(g.co.drop (c+1)).flatMap lpairs)=coPairs g) (fun s=>l.length - s.1) (0,L) ?_ ?_ ?_
 ·simp [Le,find,hoe]
 ·exact ⟨by omega,X,D,hL⟩
 clear X D hL l1 l2 L
 rintro ⟨i,L⟩ h2 ⟨hi,X,D,hL⟩
 dsimp only at hi D hL ⊢
 by_cases hil:i<l.length
 rotate_left
 ·obtain rfl:i=l.length:=by omega
  rw [List.drop_length] at hL
  simp -dsimp only [go_sem,Int.lt_irrefl]
  simp -dsimp (disch:=omega) only [wrap64]
  exact ⟨(c+1,L),by dsimp only;omega,by simp [Le,find,hoe],by dsimp only;omega,X,D,hL⟩
 have e2:((i:Int)<(l.length:Int)):=by omega
 have hq:l[i]?=some l[i]:=by simp [hil]
 have hdi:l.drop i=l[i] :: l.drop (i+1):=List.drop_eq_getElem_cons hil
 rw [hdi] at hL
 generalize l[i]=a at hq hL
 have hpr:lpairs (a :: l.drop (i+1))=(l.drop (i+1)).map (fun b=>(a,b))++lpairs (l.drop (i+1)):=rfl
 rw [hpr,List.append_assoc] at hL
 obtain ⟨lb,lo,hle,hlc2⟩:∃ b o,la=some ⟨b,o,none⟩∧∀ h',Fr 0 0 h h'→∀ (i:Nat) (x:Int),l[i]?=some x→hcell h' b (o+i)=some (.int .i64 x):=by
  obtain ⟨hl1,a,c',k1,k2⟩:=(hlist h (.refl _ _ _)).2
  cases k1
  rcases k2 with k2 | ⟨b,o,k3,k4⟩
  ·omega
  ·refine ⟨b,o,k3,fun h' f i x hx=>?_⟩
   obtain ⟨-,a',c'',m1,m2⟩:=(hlist h' f).2
   cases m1
   rw [k3] at m2
   rcases m2 with m2 | ⟨b',o',m3,m4⟩
   ·omega
   ·cases m3;exact m4 i _ (intsV_get hx)
 have c1:=hlc2 h2 (X.fresh p0 low) i _ hq
 simp -dsimp only [go_sem,e2,hle,c1]
 have hw:IntKind.i64.wrap ((i:Int)+1)=((i+1:Nat):Int):=by rw [wrap64 (by omega) (by omega)];omega
 refine Chk_intro hlc ?_
 simp -dsimp only [go_sem,hw]
 refine Chk_intro (by omega) ?_
 simp -dsimp only [go_sem]
 have hY:0<l.length - (i+1)→(if lc=i+1 then some (⟨lb,lo,none⟩:Addr) else some ⟨lb,lo+(i+1),none⟩)=some ⟨lb,lo+(i+1),none⟩:=fun h0=>by
  rw [if_neg (by omega)]
 generalize hYe:(if lc=i+1 then some (⟨lb,lo,none⟩:Addr) else some ⟨lb,lo+(i+1),none⟩)=Y at hY
 refine loop_intro (fun s:Nat×List (Int×Int)=>[(2,.pointer (some ⟨b2,0,none⟩)),(5,.pointer (some ⟨b5,0,none⟩)),(11,.slice la l.length lc),(13,.int .i64 a),(140,.slice q.o g.co.length q.oc),(141,.int .i64 g.co.length),(142,.int .i64 c),(146,.slice la l.length lc),(147,.int .i64 l.length),(148,.int .i64 i),
   (156,.slice Y (l.length - (i+1)) (lc - (i+1))),(157,.int .i64 (l.length - (i+1):Nat)),(158,.int .i64 s.1)])
  (fun s h'=>s.1≤l.length - (i+1)∧FrX (InR A B 9) hI h'∧Der h' A B p g.n (relC g s.2) 9∧s.2++((l.drop (i+1+s.1)).map (fun b=>(a,b))++(lpairs (l.drop (i+1))++(g.co.drop (c+1)).flatMap lpairs))=coPairs g) (fun s=>l.length - (i+1) - s.1) (0,L) ?_ ?_ ?_
 ·simp [Le,find,hle,hoe];exact hYe
 ·exact ⟨by omega,X,D,hL⟩
 clear X D hL c1 L
 rintro ⟨j,L⟩ h2 ⟨hj,X,D,hL⟩
 dsimp only at hj D hL ⊢
 by_cases hjl:j<l.length - (i+1)
 rotate_left
 ·have hnil:l.drop (i+1+j)=[]:=List.drop_eq_nil_of_le (by omega)
  rw [hnil] at hL
  have e3:¬ ((j:Int)<((l.length - (i+1):Nat):Int)):=by omega
  simp -dsimp only [go_sem,e3]
  simp -dsimp (disch:=omega) only [wrap64]
  exact ⟨(i+1,L),by dsimp only;omega,by simp [Le,find,hoe,hle],by dsimp only;omega,X,D,hL⟩
 have e3:((j:Int)<((l.length - (i+1):Nat):Int)):=by omega
 have hq2:l[i+1+j]?=some l[i+1+j]:=by simp [show i+1+j<l.length by omega]
 have hdj:l.drop (i+1+j)=l[i+1+j] :: l.drop (i+1+j+1):=List.drop_eq_getElem_cons (by omega)
 rw [hdj,List.map_cons] at hL
 generalize l[i+1+j]=b at hq2 hL
 have c2:=hlc2 h2 (X.fresh p0 low) _ _ hq2
 rw [← Nat.add_assoc] at c2
 have r5':=X.rw r5 notS
 simp -dsimp only [go_sem,e3,hY (by omega),c2,r5'.cell]
 refine call_of (rel_Put (D.at_ 2 (by decide)) a b true) ?_
 rintro vp h3 ⟨f3,z3,-,w3⟩
 have D':=D.put (k:=2) (by decide) f3 w3
 have X':=X.step f3 (fun x h1 h2=>.inl ⟨2,by decide,h1,h2⟩)
 simp -dsimp only [go_sem,e3,hY (by omega),c2]
 simp -dsimp (disch:=omega) only [wrap64]
 refine ⟨(j+1,L++[(a,b)]),by dsimp only;omega,by simp [Le,find,hoe,hle],by dsimp only;omega,X',D'.congr fun k _ x y _ _=>relC_put k x y,?_⟩
 rw [List.append_assoc]
 exact hL
end Go.Proofs.Tst
/-
  graph.Derive.
-/
namespace Go.Proofs.Tst
open Go Go.Vc
structure FactsAt (h:Heap) (lo:Nat) (p:Nat→Value) (rd wr fe:Value) (g:Gr):Prop where
 n:g.n≤256
 rel:∃ A B,Der h A B p g.n (relM g) 10∧(∀ k,k<10→lo≤A k∧A k≤B k∧B k≤h.size)∧∀ k,k<10→∀ v∈[rd,wr,fe],bh v≤A k∨B k≤bl v∨bh v≤bl v
 hrd:Holder 1 h rd g.n (boolsV (kindsV g 1 g.n)) lo
 hwr:Holder 1 h wr g.n (boolsV (kindsV g 2 g.n)) lo
 hfe:Holder 1 h fe g.n (boolsV (kindsV g 3 g.n)) lo
 off:Off rd wr∧Off rd fe∧Off wr fe
theorem kindsV_succ {g:Gr} {k:Int} {i:Nat} (hi:i<g.n):boolsV (kindsV g k (i+1))=boolsV (kindsV g k i)++[.bool ((g.ev i).kind==k)]:=by
 unfold kindsV boolsV
 rw [List.take_add_one,Gr.ev_get hi]
 simp
theorem relT_zero {g:Gr} {k x y:Nat}:relZ g k x y=relT g 0 0 k x y:=by
 unfold relT
 split
 ·rename_i hk
  rw [mixM_zero]
  rcases hk with rfl | rfl | rfl <;> rfl
 ·rfl
theorem relT_end {g:Gr} {k x y:Nat} (hk:k<9) (hx:x<g.n) (hy:y<g.n):relT g g.n 0 k x y=relC g [] k x y:=by
 unfold relT relC
 by_cases h2:k=2
 ·subst h2;rfl
 ·rw [if_neg h2]
  split
  ·exact mixM_end hx hy
  ·rename_i h
   have:k=1∨k=3∨k=6∨k=7∨k=8:=by omega
   rcases this with rfl | rfl | rfl | rfl | rfl <;> rfl
theorem relC_end {g:Gr} {k:Nat} (hk:k<9):relC g (coPairs g) k=relM g k:=by
 unfold relC
 by_cases h2:k=2
 ·subst h2;rfl
 ·rw [if_neg h2]
def ixL:List Nat:=[1,5,7,11,13,15,19,23,27,28,29]
set_option maxHeartbeats 4000000 in
theorem graph_Derive {h:Heap} {q:GV} {g:Gr} (t:GrAt h q g) (ht:TabAt h) :
  Con Tryd.prog 54 #[.agg (gcells q g).toArray] h fun v h'=>Fr 0 0 h h'∧if g.good=true then ∃ p rd wr fe,v=.tuple #[.agg (fcells p rd wr fe).toArray,.int .i64 0]∧FactsAt h' h.size p rd wr fe g else v=.tuple #[.agg fzero.toArray,.int .i64 4]:=by
 refine con_q12 ?_
 have p0:Fr 0 0 h h:=.refl _ _ _
 have be:=t.fits.e
 have bf:=t.fits.f
 have br:=t.fits.r
 have ba:=t.fits.a
 have bd:=t.fits.d
 have bc:=t.fits.c
 have hen:g.evs.length=g.n:=rfl
 unfold gcells
 simp -dsimp only [go_sem]
 intro b1 h1 n1
 have n1_a:=n1.at_
 have n1_z:=n1.size
 replace p0:=p0.F n1.f0
 have r1:=n1.row
 simp -dsimp only [go_sem,r1.cell]
 intro b2 h2 n2
 have n2_a:=n2.at_
 have n2_z:=n2.size
 replace p0:=p0.F n2.f0
 replace r1:=r1.F n2.f0
 have r2:=n2.row
 simp -dsimp only [go_sem,r1.cell,r2.cell]
 refine call_of (graph_good (t.fr p0)) ?_
 rintro v3 h3 ⟨f3,rfl⟩
 have f3_z:=f3.size
 replace p0:=p0.F f3
 replace r1:=r1.F f3
 replace r2:=r2.F f3
 cases hg:g.good
 ·simp -dsimp only [go_sem,r1.cell,r2.cell]
  refine Chk_intro (r2.W) fun h4 s4=>?_
  have s4_z:=s4.size
  replace p0:=p0.F s4.fr
  replace r1:=r1.F s4.fr
  replace r2:=s4.row r2
  try simp only [cl_int,cl_bool,cl_slice,cl_ptr,putAt_one,zs0,zs1,ivec_set,brow_upd] at r2
  simp -dsimp only [go_sem] at r2
  simp -dsimp only [go_sem,r1.cell,r2.cell]
  exact withC_of fzero 0 (fun j x hj=>by rw [r2.cell,Nat.zero_add];exact hj) ⟨p0,rfl⟩
 obtain ⟨hn,hsz⟩:=good_n hg
 simp -dsimp only [go_sem,evs_len,r1.cell,r2.cell]
 have hcl:clampN (g.n:Int)=g.n:=by unfold clampN;omega
 have t3:=t.fr p0
 refine free_intro [(1,[1],tellP g.n fun _ _=>false),(5,[5],tellP g.n (ofM g.n g.rf)),(7,[7],tellP g.n fun _ _=>false),(11,[11],tellP g.n (ofM g.n g.rmw)),(13,[13],tellP g.n fun _ _=>false),(15,[15],tellP g.n fun _ _=>false),
  (19,[19],tellP g.n (ofM g.n g.addr)),(23,[23],tellP g.n (ofM g.n g.data)),(27,[27],tellP g.n (ofM g.n g.ctrl)),(28,[1,5,7,11,13,15,19,23,27,28],tellF),(29,[29],tellA fzero)] ?_ rfl ?_ ?_
 ·exact ⟨stabP _ _,stabP _ _,stabP _ _,stabP _ _,stabP _ _,stabP _ _,stabP _ _,stabP _ _,stabP _ _,fun _ _ _ _ x=>x,stabA _,trivial⟩
 ·simp -dsimp only [go_sem,tellP_eq,tellF_eq,tellA_eq,r1.cell,r2.cell]
  refine ⟨fun h4 f4 V=>?_,fun h4 f4 V _=>?_,fun h4 f4 V _=>?_,fun h4 f4 V _=>?_,fun h4 f4 V _=>?_,fun h4 f4 V _=>?_,fun h4 f4 V _=>?_,fun h4 f4 V _=>?_,fun h4 f4 V _=>?_,fun h4 f4 V a1 a2 a3 a4 a5 a6 a7 a8 a9=>?_,fun h4 f4 V=>?_⟩
  ·refine call_of (rel_New g.n h4) ?_
   rintro v h5 ⟨f5,w⟩
   rw [hcl] at w
   simp -dsimp only [go_sem,tellP_eq,r1.cell,r2.cell]
   exact ⟨f5,w⟩
  ·refine call_of (rel_Of g.n _ g.rf h4 (t3.f.fr f4) (by omega)) ?_
   rintro v h5 ⟨f5,w⟩
   rw [hcl] at w
   simp -dsimp only [go_sem,tellP_eq,r1.cell,r2.cell]
   exact ⟨f5,w⟩
  ·refine call_of (rel_New g.n h4) ?_
   rintro v h5 ⟨f5,w⟩
   rw [hcl] at w
   simp -dsimp only [go_sem,tellP_eq,r1.cell,r2.cell]
   exact ⟨f5,w⟩
  ·refine call_of (rel_Of g.n _ g.rmw h4 (t3.r.fr f4) (by omega)) ?_
   rintro v h5 ⟨f5,w⟩
   rw [hcl] at w
   simp -dsimp only [go_sem,tellP_eq,r1.cell,r2.cell]
   exact ⟨f5,w⟩
  ·refine call_of (rel_New g.n h4) ?_
   rintro v h5 ⟨f5,w⟩
   rw [hcl] at w
   simp -dsimp only [go_sem,tellP_eq,r1.cell,r2.cell]
   exact ⟨f5,w⟩
  ·refine call_of (rel_New g.n h4) ?_
   rintro v h5 ⟨f5,w⟩
   rw [hcl] at w
   simp -dsimp only [go_sem,tellP_eq,r1.cell,r2.cell]
   exact ⟨f5,w⟩
  ·refine call_of (rel_Of g.n _ g.addr h4 (t3.a.fr f4) (by omega)) ?_
   rintro v h5 ⟨f5,w⟩
   rw [hcl] at w
   simp -dsimp only [go_sem,tellP_eq,r1.cell,r2.cell]
   exact ⟨f5,w⟩
  ·refine call_of (rel_Of g.n _ g.data h4 (t3.d.fr f4) (by omega)) ?_
   rintro v h5 ⟨f5,w⟩
   rw [hcl] at w
   simp -dsimp only [go_sem,tellP_eq,r1.cell,r2.cell]
   exact ⟨f5,w⟩
  ·refine call_of (rel_Of g.n _ g.ctrl h4 (t3.c.fr f4) (by omega)) ?_
   rintro v h5 ⟨f5,w⟩
   rw [hcl] at w
   simp -dsimp only [go_sem,tellP_eq,r1.cell,r2.cell]
   exact ⟨f5,w⟩
  ·obtain ⟨b1,e1⟩:=progPtr a1
   obtain ⟨b2,e2⟩:=progPtr a2
   obtain ⟨b3,e3⟩:=progPtr a3
   obtain ⟨b4,e4⟩:=progPtr a4
   obtain ⟨b5,e5⟩:=progPtr a5
   obtain ⟨b6,e6⟩:=progPtr a6
   obtain ⟨b7,e7⟩:=progPtr a7
   obtain ⟨b8,e8⟩:=progPtr a8
   obtain ⟨b9,e9⟩:=progPtr a9
   simp -dsimp only [go_sem,e1,e2,e3,e4,e5,e6,e7,e8,e9,tellF_eq,r1.cell,r2.cell]
   exact .refl _ _ _
  ·intro b5 h5 n5
   simp -dsimp only [go_sem,tellA_eq,r1.cell,r2.cell]
   exact ⟨n5.fr,n5.at_.symm▸rfl,n5.size,n5.at_▸n5.row⟩
 ·intro h4 f4 V sep
  replace sep:=sep.at_ (L:=ixL) rfl
  simp -dsimp only [go_sem,tellP_eq,tellF_eq,tellA_eq,r1.cell,r2.cell]
  rintro a1 a2 a3 a4 a5 a6 a7 a8 a9 e28 ⟨e29,z29,r5⟩
  have f4_z:=f4.size
  replace p0:=p0.F f4
  replace r1:=r1.F f4
  replace r2:=r2.F f4
  have hH34:=f4.size
  have oc:∀ {a b:Nat} {v:Value} {M:Nat→Nat→Bool},ProgAt h4 a b v g.n M→v.oneCell'=true:=fun t=>by obtain ⟨_,e⟩:=progPtr t;rw [e];rfl
  have hix:∀ k,k<9→ixD k∈ixL∧ixD k≠29:=by decide
  have hne:∀ k,k<9→∀ l,l<9→k≠l→ixD k≠ixD l:=by decide
  have key:∃ (A B:Nat→Nat) (p:Nat→Value) (b5:Nat),p 0=(V 1).1∧p 1=(V 5).1∧p 2=(V 7).1∧p 3=(V 11).1∧p 4=(V 13).1∧p 5=(V 15).1∧p 6=(V 19).1∧p 7=(V 23).1∧p 8=(V 27).1∧b5=(V 29).2.1 ∧
    Der h4 A B p g.n (relZ g) 9∧(∀ k,k<9→h3.size≤A k∧A k≤B k∧B k≤h4.size)∧(∀ k,k<9→b5<A k∨B k≤b5)∧h3.size≤b5:=by
   refine ⟨fun k=>(V (ixD k)).2.1,fun k=>(V (ixD k)).2.2,fun k=>(V (ixD k)).1,_,rfl,rfl,rfl,rfl,rfl,rfl,rfl,rfl,rfl,rfl,⟨fun k hk=>?_,fun k l hk hl hkl=>sep.2 _ (hix k hk).1 _ (hix l hl).1 (hne k hk l hl hkl)⟩,fun k hk=>sep.1 _ (hix k hk).1,fun k hk=>?_,(sep.1 29 (by decide)).1⟩
   ·match k,hk with
    | 0,_=>exact a1
    | 1,_=>exact a2
    | 2,_=>exact a3
    | 3,_=>exact a4
    | 4,_=>exact a5
    | 5,_=>exact a6
    | 6,_=>exact a7
    | 7,_=>exact a8
    | 8,_=>exact a9
   ·have:=sep.2 29 (by decide) _ (hix k hk).1 (Ne.symm (hix k hk).2)
    have:=sep.1 29 (by decide)
    show (V 29).2.1<(V (ixD k)).2.1∨(V (ixD k)).2.2≤(V 29).2.1
    omega
  obtain ⟨A,B,p,b5,q0,q1,q2,q3,q4,q5,q6,q7,q8,q9,D,hAB,hb5,hb5'⟩:=key
  have ocs:(p 0).oneCell'=true∧(p 1).oneCell'=true∧(p 2).oneCell'=true∧(p 3).oneCell'=true∧(p 4).oneCell'=true∧(p 5).oneCell'=true∧(p 6).oneCell'=true∧(p 7).oneCell'=true∧(p 8).oneCell'=true:=
   ⟨oc (D.at_ 0 (by decide)),oc (D.at_ 1 (by decide)),oc (D.at_ 2 (by decide)),oc (D.at_ 3 (by decide)),oc (D.at_ 4 (by decide)),oc (D.at_ 5 (by decide)),oc (D.at_ 6 (by decide)),oc (D.at_ 7 (by decide)),oc (D.at_ 8 (by decide))⟩
  obtain ⟨oc0,oc1,oc2,oc3,oc4,oc5,oc6,oc7,oc8⟩:=ocs
  rw [← q9] at e29 r5
  rw [← q0,← q1,← q2,← q3,← q4,← q5,← q6,← q7,← q8] at e28
  clear a1 a2 a3 a4 a5 a6 a7 a8 a9 oc hix hne sep
  unfold fzero at r5
  have r5_l:=r5.lt
  simp -dsimp only [go_sem,e29,e28,oc0,oc1,oc2,oc3,oc4,oc5,oc6,oc7,oc8,r1.cell,r2.cell,r5.cell]
  refine Chk_intro (r5.W) fun h5 s5=>?_
  have s5_z:=s5.size
  replace p0:=p0.F s5.fr
  replace r1:=r1.F s5.fr
  replace r2:=r2.F s5.fr
  replace D:=D.fr s5.fr (fun k hk=>by have:=hAB k hk;first | omega | (have:=hb5 k hk;omega))
  replace r5:=s5.row r5
  try simp only [cl_int,cl_bool,cl_slice,cl_ptr,putAt_one,zs0,zs1,ivec_set,brow_upd] at r5
  simp -dsimp only [go_sem] at r5
  have hz5:0<h5.size:=by omega
  have D:Der h5 A B p g.n (relT g 0 0) 9:=D.congr fun k hk x y _ _=>relT_zero
  have gb:h.size≤h3.size∧h3.size≤h4.size∧h4.size≤h5.size∧b1<h3.size∧b2<h3.size∧h3.size≤b5∧b5<h5.size∧h.size≤b1∧h.size≤b2∧b1≠b2:=by omega
  clear e28 z29 q0 q1 q2 q3 q4 q5 q6 q7 q8 q9 n1_a n1_z n2_a n2_z f3_z f4_z s5_z hH34
  simp -dsimp only [go_sem,evs_len,r1.cell,r2.cell,r5.cell]
  refine loop_intro (fun s:Nat×Value×Value×Value=>[(1,.pointer (some ⟨b1,0,none⟩)),(2,.pointer (some ⟨b2,0,none⟩)),(5,.pointer (some ⟨b5,0,none⟩)),(53,.slice q.e g.evs.length q.ec),(54,.int .i64 g.n),(55,.int .i64 s.1)])
   (fun s h'=>s.1≤g.n∧Fr 0 0 h h'∧h5.size≤h'.size∧Rw h' b1 (gcells q g)∧Rw h' b2 fzero∧Rw h' b5 [p 0,p 1,p 2,.pointer none,p 3,p 4,p 5,p 6,p 7,p 8,s.2.1,s.2.2.1,s.2.2.2]∧Der h' A B p g.n (relT g s.1 0) 9 ∧
    Holder 1 h' s.2.1 s.1 (boolsV (kindsV g 1 s.1)) h5.size∧Holder 1 h' s.2.2.1 s.1 (boolsV (kindsV g 2 s.1)) h5.size∧Holder 1 h' s.2.2.2 s.1 (boolsV (kindsV g 3 s.1)) h5.size∧Off s.2.1 s.2.2.1∧Off s.2.1 s.2.2.2∧Off s.2.2.1 s.2.2.2) (fun s=>g.n - s.1) (0,.slice none 0 0,.slice none 0 0,.slice none 0 0) ?_ ?_ ?_
  ·simp [Le,find,hen,e29]
  ·exact ⟨by omega,p0,by omega,r1,r2,r5,D,.none _ _ _,.none _ _ _,.none _ _ _,.inl rfl,.inl rfl,.inl rfl⟩
  clear p0 r1 r2 r5 D r5_l
  rintro ⟨i,rd,wr,fe⟩ h6 ⟨hi,p0,y6,r1,r2,r5,D,o1,o2,o3,f12,f13,f23⟩
  dsimp only at hi r5 D o1 o2 o3 f12 f13 f23 ⊢
  unfold gcells at r1
  unfold fzero at r2
  have p0_z:=p0.size
  have r1_l:=r1.lt
  have r2_l:=r2.lt
  have r5_l:=r5.lt
  by_cases hlt:i<g.n
  ·have e1:((i:Int)<(g.n:Int)):=by omega
   obtain ⟨eb,eo,he,hev⟩:=t.evs (by omega)
   obtain ⟨c0,c1,c2,c3,c4⟩:=hev h6 p0 i hlt
   obtain ⟨ra0,rc0,rfl⟩:=o1.is
   obtain ⟨ra0',rc0',rfl⟩:=o2.is
   obtain ⟨ra0'',rc0'',rfl⟩:=o3.is
   have tp1:=o1.top
   have tp2:=o2.top
   have tp3:=o3.top
   simp -dsimp only [go_sem,e1,he,evs_len,c0,c1,c2,c3,c4,r1.cell,r2.cell,r5.cell]
   intro b7 h7 n7
   have n7_a:=n7.at_
   have n7_z:=n7.size
   replace p0:=p0.F n7.f0
   replace r1:=r1.F n7.f0
   replace r2:=r2.F n7.f0
   replace r5:=r5.F n7.f0
   replace D:=D.fr n7.f0 (fun k hk=>by have:=hAB k hk;first | omega | (have:=hb5 k hk;omega))
   have r7:=n7.row
   replace o1:=o1.fr n7.f0 (by omega)
   replace o2:=o2.fr n7.f0 (by omega)
   replace o3:=o3.fr n7.f0 (by omega)
   simp -dsimp only [go_sem,r1.cell,r2.cell,r5.cell,r7.cell]
   refine Chk_intro (r7.W) fun h8 s8=>?_
   have s8_z:=s8.size
   replace p0:=p0.F s8.fr
   replace r1:=r1.F s8.fr
   replace r2:=r2.F s8.fr
   replace r5:=r5.F s8.fr
   replace D:=D.fr s8.fr (fun k hk=>by have:=hAB k hk;first | omega | (have:=hb5 k hk;omega))
   replace r7:=s8.row r7
   try simp only [cl_int,cl_bool,cl_slice,cl_ptr,putAt_one,zs0,zs1,ivec_set,brow_upd] at r7
   replace o1:=o1.fr s8.fr (by omega)
   replace o2:=o2.fr s8.fr (by omega)
   replace o3:=o3.fr s8.fr (by omega)
   simp -dsimp only [go_sem] at r7
   have hb7:h6.size≤b7∧b7<h8.size∧h6.size≤h8.size:=by omega
   have t71:bh (.slice ra0 i rc0)≤b7∧bh (.slice ra0' i rc0')≤b7∧bh (.slice ra0'' i rc0'')≤b7:=by omega
   clear tp1 tp2 tp3 n7_a n7_z s8_z c0 c1 c2 c3 c4
   simp -dsimp only [go_sem,r1.cell,r2.cell,r5.cell,r7.cell]
   intro nb1 hb1 nn1
   have nn1_z:=nn1.az
   replace p0:=p0.F nn1.f0
   replace r1:=r1.F nn1.f0
   replace r2:=r2.F nn1.f0
   replace r5:=r5.F nn1.f0
   replace D:=D.fr nn1.f0 (fun k hk=>by have:=hAB k hk;first | omega | (have:=hb5 k hk;omega))
   replace r7:=r7.F nn1.f0
   have rn1:=nn1.row
   replace o1:=o1.fr nn1.f0 (by omega)
   replace o2:=o2.fr nn1.f0 (by omega)
   replace o3:=o3.fr nn1.f0 (by omega)
   have oa1:=o1.at_
   simp -dsimp only [go_sem,r1.cell,r2.cell,r5.cell,r7.cell,rn1.cell]
   refine o1.append (by omega) rfl (by omega) (by simp) (by omega) fun u1 k1 on1 fn1 en1=>?_
   have fn1_z:=fn1.size
   replace p0:=p0.F fn1
   replace r1:=r1.F fn1
   replace r2:=r2.F fn1
   replace r5:=r5.F fn1
   replace D:=D.fr fn1 (fun k hk=>by have:=hAB k hk;first | omega | (have:=hb5 k hk;omega))
   replace r7:=r7.F fn1
   clear oa1
   have tp2:=o2.top
   have tp3:=o3.top
   have nw2:=(f12.symm).app tp2 hz5 on1 en1
   have nw3:=(f13.symm).app tp3 hz5 on1 en1
   replace o2:=o2.fr fn1 (f12.symm).away
   replace o3:=o3.fr fn1 (f13.symm).away
   replace o1:=on1
   clear en1 on1
   clear tp2 tp3
   replace f12:=nw2.symm
   replace f13:=nw3.symm
   clear nw2 nw3
   obtain ⟨ra1,rc1,rfl⟩:=o1.is
   have oa1:=o1.at_
   simp -dsimp only [go_sem,r1.cell,r2.cell,r5.cell,r7.cell]
   refine Chk_intro (r5.W) fun ks1 st1=>?_
   have st1_z:=st1.size
   replace p0:=p0.F st1.fr
   replace r1:=r1.F st1.fr
   replace r2:=r2.F st1.fr
   replace D:=D.fr st1.fr (fun k hk=>by have:=hAB k hk;first | omega | (have:=hb5 k hk;omega))
   replace r7:=r7.F st1.fr
   replace r5:=st1.row r5
   try simp only [cl_int,cl_bool,cl_slice,cl_ptr,putAt_one,zs0,zs1,ivec_set,brow_upd] at r5
   replace o1:=o1.fr st1.fr (by have:=o1.at_;omega)
   replace o2:=o2.fr st1.fr (by have:=o2.at_;omega)
   replace o3:=o3.fr st1.fr (by have:=o3.at_;omega)
   clear oa1
   simp -dsimp only [go_sem,r1.cell,r2.cell,r5.cell,r7.cell]
   intro nb2 hb2 nn2
   have nn2_z:=nn2.az
   replace p0:=p0.F nn2.f0
   replace r1:=r1.F nn2.f0
   replace r2:=r2.F nn2.f0
   replace r5:=r5.F nn2.f0
   replace D:=D.fr nn2.f0 (fun k hk=>by have:=hAB k hk;first | omega | (have:=hb5 k hk;omega))
   replace r7:=r7.F nn2.f0
   have rn2:=nn2.row
   replace o1:=o1.fr nn2.f0 (by omega)
   replace o2:=o2.fr nn2.f0 (by omega)
   replace o3:=o3.fr nn2.f0 (by omega)
   have oa2:=o2.at_
   simp -dsimp only [go_sem,r1.cell,r2.cell,r5.cell,r7.cell,rn2.cell]
   refine o2.append (by omega) rfl (by omega) (by simp) (by omega) fun u2 k2 on2 fn2 en2=>?_
   have fn2_z:=fn2.size
   replace p0:=p0.F fn2
   replace r1:=r1.F fn2
   replace r2:=r2.F fn2
   replace r5:=r5.F fn2
   replace D:=D.fr fn2 (fun k hk=>by have:=hAB k hk;first | omega | (have:=hb5 k hk;omega))
   replace r7:=r7.F fn2
   clear oa2
   have tp1:=o1.top
   have tp3:=o3.top
   have nw1:=(f12).app tp1 hz5 on2 en2
   have nw3:=(f23.symm).app tp3 hz5 on2 en2
   replace o1:=o1.fr fn2 (f12).away
   replace o3:=o3.fr fn2 (f23.symm).away
   replace o2:=on2
   clear en2 on2
   clear tp1 tp3
   replace f12:=nw1
   replace f23:=nw3.symm
   clear nw1 nw3
   obtain ⟨ra2,rc2,rfl⟩:=o2.is
   have oa2:=o2.at_
   simp -dsimp only [go_sem,r1.cell,r2.cell,r5.cell,r7.cell]
   refine Chk_intro (r5.W) fun ks2 st2=>?_
   have st2_z:=st2.size
   replace p0:=p0.F st2.fr
   replace r1:=r1.F st2.fr
   replace r2:=r2.F st2.fr
   replace D:=D.fr st2.fr (fun k hk=>by have:=hAB k hk;first | omega | (have:=hb5 k hk;omega))
   replace r7:=r7.F st2.fr
   replace r5:=st2.row r5
   try simp only [cl_int,cl_bool,cl_slice,cl_ptr,putAt_one,zs0,zs1,ivec_set,brow_upd] at r5
   replace o1:=o1.fr st2.fr (by have:=o1.at_;omega)
   replace o2:=o2.fr st2.fr (by have:=o2.at_;omega)
   replace o3:=o3.fr st2.fr (by have:=o3.at_;omega)
   clear oa2
   simp -dsimp only [go_sem,r1.cell,r2.cell,r5.cell,r7.cell]
   intro nb3 hb3 nn3
   have nn3_z:=nn3.az
   replace p0:=p0.F nn3.f0
   replace r1:=r1.F nn3.f0
   replace r2:=r2.F nn3.f0
   replace r5:=r5.F nn3.f0
   replace D:=D.fr nn3.f0 (fun k hk=>by have:=hAB k hk;first | omega | (have:=hb5 k hk;omega))
   replace r7:=r7.F nn3.f0
   have rn3:=nn3.row
   replace o1:=o1.fr nn3.f0 (by omega)
   replace o2:=o2.fr nn3.f0 (by omega)
   replace o3:=o3.fr nn3.f0 (by omega)
   have oa3:=o3.at_
   simp -dsimp only [go_sem,r1.cell,r2.cell,r5.cell,r7.cell,rn3.cell]
   refine o3.append (by omega) rfl (by omega) (by simp) (by omega) fun u3 k3 on3 fn3 en3=>?_
   have fn3_z:=fn3.size
   replace p0:=p0.F fn3
   replace r1:=r1.F fn3
   replace r2:=r2.F fn3
   replace r5:=r5.F fn3
   replace D:=D.fr fn3 (fun k hk=>by have:=hAB k hk;first | omega | (have:=hb5 k hk;omega))
   replace r7:=r7.F fn3
   clear oa3
   have tp1:=o1.top
   have tp2:=o2.top
   have nw1:=(f13).app tp1 hz5 on3 en3
   have nw2:=(f23).app tp2 hz5 on3 en3
   replace o1:=o1.fr fn3 (f13).away
   replace o2:=o2.fr fn3 (f23).away
   replace o3:=on3
   clear en3 on3
   clear tp1 tp2
   replace f13:=nw1
   replace f23:=nw2
   clear nw1 nw2
   obtain ⟨ra3,rc3,rfl⟩:=o3.is
   have oa3:=o3.at_
   simp -dsimp only [go_sem,r1.cell,r2.cell,r5.cell,r7.cell]
   refine Chk_intro (r5.W) fun ks3 st3=>?_
   have st3_z:=st3.size
   replace p0:=p0.F st3.fr
   replace r1:=r1.F st3.fr
   replace r2:=r2.F st3.fr
   replace D:=D.fr st3.fr (fun k hk=>by have:=hAB k hk;first | omega | (have:=hb5 k hk;omega))
   replace r7:=r7.F st3.fr
   replace r5:=st3.row r5
   try simp only [cl_int,cl_bool,cl_slice,cl_ptr,putAt_one,zs0,zs1,ivec_set,brow_upd] at r5
   replace o1:=o1.fr st3.fr (by have:=o1.at_;omega)
   replace o2:=o2.fr st3.fr (by have:=o2.at_;omega)
   replace o3:=o3.fr st3.fr (by have:=o3.at_;omega)
   clear oa3
   simp -dsimp only [go_sem,r1.cell,r2.cell,r5.cell,r7.cell]
   refine derive_row t p0 hAB hb5 gb.1 (by omega) (by omega) hlt D r5 r7 fun h9 X9 D9=>?_
   have notS:∀ x,x<h3.size∨h4.size≤x∨x=b5→¬ InR A B 9 x:=fun x hx ⟨k,hk,g1,g2⟩=>by have:=hAB k hk;have:=hb5 k hk;omega
   have X9_z:=X9.size
   replace p0:=X9.fresh p0 fun x ⟨k,hk,g1,_⟩=>by have:=hAB k hk;omega
   replace r1:=X9.rw r1 (notS _ (by omega))
   replace r2:=X9.rw r2 (notS _ (by omega))
   replace r5:=X9.rw r5 (notS _ (by omega))
   replace o1:=X9.holder o1 fun x hx=>notS _ (by omega)
   replace o2:=X9.holder o2 fun x hx=>notS _ (by omega)
   replace o3:=X9.holder o3 fun x hx=>notS _ (by omega)
   simp -dsimp only [go_sem,r1.cell,r2.cell,r5.cell,r7.cell]
   simp -dsimp (disch:=omega) only [wrap64]
   exact ⟨(i+1,.slice ra1 (i+1) rc1,.slice ra2 (i+1) rc2,.slice ra3 (i+1) rc3),by dsimp only;omega,by simp [Le,find,he,evs_len],by dsimp only;omega,p0,by omega,r1,r2,r5,D9,by rw [kindsV_succ hlt];exact o1,by rw [kindsV_succ hlt];exact o2,by rw [kindsV_succ hlt];exact o3,f12,f13,f23⟩
  ·obtain rfl:i=g.n:=by omega
   have notS:∀ x,x<h3.size∨h4.size≤x∨x=b5→¬ InR A B 9 x:=fun x hx ⟨k,hk,g1,g2⟩=>by have:=hAB k hk;have:=hb5 k hk;omega
   replace D:=D.congr fun k hk x y hx hy=>relT_end hk hx hy
   simp -dsimp only [go_sem,Int.lt_irrefl,r1.cell,r2.cell,r5.cell]
   refine derive_co t p0 hAB hb5 gb.1 D r5 fun h9 X9 D9=>?_
   have X9_z:=X9.size
   replace p0:=X9.fresh p0 fun x ⟨k,hk,g1,_⟩=>by have:=hAB k hk;omega
   replace r1:=X9.rw r1 (notS _ (by omega))
   replace r2:=X9.rw r2 (notS _ (by omega))
   replace r5:=X9.rw r5 (notS _ (by omega))
   replace o1:=X9.holder o1 fun x hx=>notS _ (by omega)
   replace o2:=X9.holder o2 fun x hx=>notS _ (by omega)
   replace o3:=X9.holder o3 fun x hx=>notS _ (by omega)
   have g9:h5.size≤h9.size:=by omega
   clear D
   have p0_z:=p0.size
   have r1_l:=r1.lt
   have r2_l:=r2.lt
   have r5_l:=r5.lt
   simp -dsimp only [go_sem,r1.cell,r2.cell,r5.cell]
   refine call_of (rel_Inverse (D9.at_ 1 (by decide)) (ht.fr p0 (.inr rfl))) ?_
   rintro v10 h10 ⟨f10,w10⟩
   have f10_z:=f10.size
   replace p0:=p0.F f10
   replace r1:=r1.F f10
   replace r2:=r2.F f10
   replace r5:=r5.F f10
   replace D9:=D9.fr f10 (fun k hk=>by have:=hAB k hk;first | omega | (have:=hb5 k hk;omega))
   replace o1:=o1.fr f10 (by omega)
   replace o2:=o2.fr f10 (by omega)
   replace o3:=o3.fr f10 (by omega)
   have tp1:=o1.top
   have tp2:=o2.top
   have tp3:=o3.top
   simp -dsimp only [go_sem,r1.cell,r2.cell,r5.cell]
   refine call_of (rel_Comp w10 (D9.at_ 2 (by decide)) (ht.fr p0 (.inr rfl))) ?_
   rintro v11 h11 ⟨f11,w11⟩
   have f11_z:=f11.size
   replace p0:=p0.F f11
   replace r1:=r1.F f11
   replace r2:=r2.F f11
   replace r5:=r5.F f11
   replace D9:=D9.fr f11 (fun k hk=>by have:=hAB k hk;first | omega | (have:=hb5 k hk;omega))
   replace o1:=o1.fr f11 (by omega)
   replace o2:=o2.fr f11 (by omega)
   replace o3:=o3.fr f11 (by omega)
   rw [Nat.max_self] at w11
   obtain ⟨pb,rfl⟩:=progPtr w11
   have o1a:=o1.at_
   have o2a:=o2.at_
   have o3a:=o3.at_
   obtain ⟨rda,rdc,rfl⟩:=o1.is
   obtain ⟨wra,wrc,rfl⟩:=o2.is
   obtain ⟨fea,fec,rfl⟩:=o3.is
   simp -dsimp only [go_sem,r1.cell,r2.cell,r5.cell]
   refine Chk_intro (r5.W) fun h12 s12=>?_
   have s12_z:=s12.size
   replace p0:=p0.F s12.fr
   replace r1:=r1.F s12.fr
   replace r2:=r2.F s12.fr
   replace D9:=D9.fr s12.fr (fun k hk=>by have:=hAB k hk;first | omega | (have:=hb5 k hk;omega))
   replace r5:=s12.row r5
   try simp only [cl_int,cl_bool,cl_slice,cl_ptr,putAt_one,zs0,zs1,ivec_set,brow_upd] at r5
   replace o1:=o1.fr s12.fr (by omega)
   replace o2:=o2.fr s12.fr (by omega)
   replace o3:=o3.fr s12.fr (by omega)
   replace w11:=w11.fr s12.fr (by omega)
   have r5':Rw h12 b5 [p 0,p 1,p 2,.pointer (some ⟨pb,0,none⟩),p 3,p 4,p 5,p 6,p 7,p 8,.slice rda g.n rdc,.slice wra g.n wrc,.slice fea g.n fec]:=r5
   clear r5
   simp -dsimp only [go_sem,r1.cell,r2.cell]
   refine withC_of [p 0,p 1,p 2,.pointer (some ⟨pb,0,none⟩),p 3,p 4,p 5,p 6,p 7,p 8,.slice rda g.n rdc,.slice wra g.n wrc,.slice fea g.n fec] 0 (fun j x hj=>by rw [r5'.cell,Nat.zero_add];exact hj) ?_
   simp only [List.all_cons,List.all_nil,oc0,oc1,oc2,oc3,oc4,oc5,oc6,oc7,oc8]
   refine Chk_intro ⟨rfl,rfl⟩ ?_
   refine Chk_intro (r2.W) fun h13 s13=>?_
   have s13_z:=s13.size
   replace p0:=p0.F s13.fr
   replace r1:=r1.F s13.fr
   replace D9:=D9.fr s13.fr (fun k hk=>by have:=hAB k hk;first | omega | (have:=hb5 k hk;omega))
   replace r2:=s13.row r2
   try simp only [cl_int,cl_bool,cl_slice,cl_ptr,putAt_one,zs0,zs1,ivec_set,brow_upd] at r2
   replace o1:=o1.fr s13.fr (by omega)
   replace o2:=o2.fr s13.fr (by omega)
   replace o3:=o3.fr s13.fr (by omega)
   replace w11:=w11.fr s13.fr (by omega)
   replace r2:Rw h13 b2 [p 0,p 1,p 2,.pointer (some ⟨pb,0,none⟩),p 3,p 4,p 5,p 6,p 7,p 8,.slice rda g.n rdc,.slice wra g.n wrc,.slice fea g.n fec]:=r2
   simp -dsimp only [go_sem,r1.cell,r2.cell]
   refine withC_of [p 0,p 1,p 2,.pointer (some ⟨pb,0,none⟩),p 3,p 4,p 5,p 6,p 7,p 8,.slice rda g.n rdc,.slice wra g.n wrc,.slice fea g.n fec] 0 (fun j x hj=>by rw [r2.cell,Nat.zero_add];exact hj) ?_
   refine ⟨p0,fun k=>if k=9 then .pointer (some ⟨pb,0,none⟩) else p k,_,_,_,rfl,hn,⟨fun k=>if k=9 then h10.size else A k,fun k=>if k=9 then h11.size else B k,⟨fun k hk=>?_,fun k l hk hl hkl=>?_⟩,fun k hk=>?_,fun k hk v hv=>?_⟩,o1.lower (by omega),o2.lower (by omega),o3.lower (by omega),f12,f13,f23⟩
   ·by_cases h9':k=9
    ·subst h9';exact w11
    ·simp only [if_neg h9']
     have:=D9.at_ k (by omega)
     rw [relC_end (by omega)] at this
     exact this
   ·have key:∀ k,k<9→B k≤h10.size:=fun k hk=>by have:=hAB k hk;omega
    by_cases h9':k=9
    ·simp only [if_pos h9',if_neg (show ¬ l=9 by omega)]
     exact .inr (key l (by omega))
    ·simp only [if_neg h9']
     by_cases h9'':l=9
     ·simp only [if_pos h9''];exact .inl (key k (by omega))
     ·simp only [if_neg h9''];exact D9.off k l (by omega) (by omega) hkl
   ·by_cases h9':k=9
    ·simp only [if_pos h9'];omega
    ·simp only [if_neg h9'];have:=hAB k (by omega);omega
   ·have hb:bh v≤h10.size∧(bh v=0∧bl v=0∨h4.size≤bl v):=by
     simp only [List.mem_cons,List.not_mem_nil,or_false] at hv
     rcases hv with rfl | rfl | rfl <;> omega
    by_cases h9':k=9
    ·simp only [if_pos h9'];omega
    ·simp only [if_neg h9'];have:=hAB k (by omega);omega
end Go.Proofs.Tst
/-
  graph's With, Thread and Final.
-/
namespace Go.Proofs.Tst
open Go Go.Vc
def withB (g:Gr) (m:List Int):List Bool:=g.evs.map fun e=>m.contains e.mode
def threadTo (g:Gr) (t:Int) (i:Nat):List Int:=((List.range i).filter fun i=>(g.ev i).thread==t).map fun (i:Nat)=>(i:Int)
def threadL (g:Gr) (t:Int):List Int:=threadTo g t g.n
theorem threadTo_succ {g:Gr} {t:Int} {i:Nat}:threadTo g t (i+1)=threadTo g t i++(if (g.ev i).thread=t then [(i:Int)] else []):=by
 unfold threadTo
 rw [List.range_succ,List.filter_append,List.map_append]
 congr 1
 by_cases h:(g.ev i).thread=t
 ·rw [if_pos h];simp [h]
 ·rw [if_neg h];simp [h]
theorem threadTo_len {g:Gr} {t:Int} {i:Nat}:(threadTo g t i).length≤i:=by
 unfold threadTo;rw [List.length_map];exact Nat.le_trans (List.length_filter_le _ _) (by simp)
theorem check_zero {g:Gr} {words:Bool} (h:(g.check words).1=0):g.size=true∧¬ 0≤g.initAt words∧¬ 0≤g.evAt words∧¬ 0≤g.rfAt∧¬ 0≤g.coAt∧¬ 0≤g.rmwAt ∧
  ¬ 0≤g.depAt words g.addr (fun k=>k==1||k==2)∧¬ 0≤g.depAt words g.data (fun k=>k==2)∧¬ 0≤g.depAt words g.ctrl (fun k=>k==1||k==2||k==3):=by
 unfold Gr.check at h
 cases h1:g.size
 ·rw [h1] at h;simp at h
 rw [h1,if_neg (by simp)] at h
 by_cases h2:0≤g.initAt words
 ·rw [if_pos h2] at h;simp at h
 rw [if_neg h2] at h
 by_cases h3:0≤g.evAt words
 ·rw [if_pos h3] at h;simp at h
 rw [if_neg h3] at h
 by_cases h4:0≤g.rfAt
 ·rw [if_pos h4] at h;simp at h
 rw [if_neg h4] at h
 by_cases h5:0≤g.coAt
 ·rw [if_pos h5] at h;simp at h
 rw [if_neg h5] at h
 by_cases h6:0≤g.rmwAt
 ·rw [if_pos h6] at h;simp at h
 rw [if_neg h6] at h
 by_cases h7:0≤g.depAt words g.addr (fun k=>k==1||k==2)
 ·rw [if_pos h7] at h;simp at h
 rw [if_neg h7] at h
 by_cases h8:0≤g.depAt words g.data (fun k=>k==2)
 ·rw [if_pos h8] at h;simp at h
 rw [if_neg h8] at h
 by_cases h9:0≤g.depAt words g.ctrl (fun k=>k==1||k==2||k==3)
 ·rw [if_pos h9] at h;simp at h
 exact ⟨rfl,h2,h3,h4,h5,h6,h7,h8,h9⟩
theorem good_check {g:Gr} (h:g.good=true):∃ words,(g.check words).1=0:=by
 unfold Gr.good at h
 simp only [Bool.or_eq_true,beq_iff_eq] at h
 rcases h with h | h
 ·exact ⟨_,h⟩
 ·exact ⟨_,h⟩
theorem good_co {g:Gr} (h:g.good=true):(g.co.length:Int)=g.cells∧∀ c,c<g.co.length→g.coBad c (g.co.getD c [])=false:=by
 obtain ⟨words,h⟩:=good_check h
 obtain ⟨hs,-,-,-,h5,-⟩:=check_zero h
 unfold Gr.coAt at h5
 have hlen:(g.co.length:Int)=g.cells:=by
  apply Classical.byContradiction;intro hne
  rw [if_pos (.inr hne)] at h5;omega
 refine ⟨hlen,fun c hc=>?_⟩
 have hls:g.lists=g.co.length:=by unfold Gr.lists;omega
 have hf:¬ g.coFirst<g.lists:=fun hlt=>by rw [if_pos (.inl hlt)] at h5;omega
 cases hb:g.coBad c (g.co.getD c [])
 ·rfl
 ·exfalso
  apply hf
  unfold Gr.coFirst
  cases hfd:(List.range g.lists).find? (fun c=>g.coBad c (g.co.getD c [])) with
  | none =>
   rw [List.find?_eq_none] at hfd
   exact absurd hb (hfd c (List.mem_range.2 (by omega)))
  | some u =>
   have:=List.mem_of_find?_eq_some hfd
   rw [List.mem_range] at this
   exact this
theorem holder_row {s:Nat} {h:Heap} {b n:Nat} {xs:List Value} {lo:Nat} (r:Rw h b xs) (hl:xs.length=n * s) (hb:lo≤b):Holder s h (.slice (some ⟨b,0,none⟩) n n) n xs lo:=
 ⟨hl,.inr ⟨b,n,[],rfl,by rw [List.append_nil];exact r,by simp,hb⟩⟩
theorem graph_With {h:Heap} {q:GV} {g:Gr} (t:GrAt h q g) (hn:g.n≤281474976710656) {mv:Value} {m:List Int} (hm:Rd 1 h mv m.length (intsV m)) (bm:m.length≤4611686018427387904) :
  Con Tryd.prog 120 #[.agg (gcells q g).toArray,mv] h fun v h'=>Fr 0 0 h h'∧Holder 1 h' v g.n (boolsV (withB g m)) h.size:=by
 refine con_q15 ?_
 have p0:Fr 0 0 h h:=.refl _ _ _
 have be:=t.fits.e
 have hen:g.evs.length=g.n:=rfl
 obtain ⟨ma,mc,rfl⟩:=hm.is
 unfold gcells
 simp -dsimp only [go_sem]
 intro b1 h1 n1
 have n1_z:=n1.az
 replace p0:=p0.F n1.f0
 have r1:=n1.row
 simp -dsimp only [go_sem,evs_len,r1.cell]
 refine Chk_intro (by omega) ?_
 intro b5 h2 n2
 have n2_z:=n2.az
 replace p0:=p0.F n2.f0
 replace r1:=r1.F n2.f0
 have r2:=n2.row
 rw [zeros_one,Int.toNat_natCast,brow_false] at r2
 simp -dsimp only [go_sem,evs_len,r1.cell,r2.cell]
 refine loop_intro (fun i:Nat=>[(1,.slice ma m.length mc),(5,.slice (some ⟨b5,0,none⟩) g.n g.n),(13,.slice q.e g.evs.length q.ec),(14,.int .i64 g.n),(15,.int .i64 i)])
  (fun i h'=>i≤g.n∧Fr 0 0 h h'∧Rw h' b5 (brow g.n fun j=>decide (j<i)&&m.contains (g.ev j).mode)∧h2.size≤h'.size) (fun i=>g.n - i) 0 ?_ ?_ ?_
 ·simp [Le,find,hen]
 ·exact ⟨by omega,p0,by rw [brow_congr (g:=fun _=>false) (fun j _=>by simp)];exact r2,by omega⟩
 clear r2 p0
 rintro i h3 ⟨hi,p0,r2,y3⟩
 have p0_z:=p0.size
 have r2_l:=r2.lt
 have b5l:h.size≤b5:=by omega
 by_cases hlt:i<g.n
 ·have e1:((i:Int)<(g.n:Int)):=by omega
  obtain ⟨eb,eo,he,hev⟩:=t.evs (by omega)
  obtain ⟨c0,c1,c2,c3,c4⟩:=hev h3 p0 i hlt
  simp -dsimp only [go_sem,e1,he,evs_len,c0,c1,c2,c3,c4,r2.cell]
  intro b7 h4 n4
  have n4_z:=n4.az
  replace p0:=p0.F n4.f0
  replace r2:=r2.F n4.f0
  have r4:=n4.row
  simp -dsimp only [go_sem,r2.cell,r4.cell]
  refine Chk_intro (r4.W) fun h5 s5=>?_
  have s5_z:=s5.size
  replace p0:=p0.F s5.fr
  replace r2:=r2.F s5.fr
  replace r4:=s5.row r4
  try simp only [cl_int,cl_bool,cl_slice,cl_ptr,putAt_one,zs0,zs1,ivec_set,brow_upd] at r4
  simp -dsimp only [go_sem] at r4
  simp -dsimp only [go_sem,r2.cell,r4.cell]
  refine call_of (slices_Contains (hm.fr p0) (by omega)) ?_
  rintro v6 h6 ⟨rfl,rfl⟩
  simp -dsimp only [go_sem,r2.cell,r4.cell]
  refine Chk_intro (by omega) ?_
  simp -dsimp only [go_sem,r2.cell,r4.cell]
  refine Chk_intro (r2.W) fun h7 s7=>?_
  have s7_z:=s7.size
  replace p0:=p0.F s7.fr
  replace r4:=r4.F s7.fr
  replace r2:=s7.row r2
  try simp only [cl_int,cl_bool,cl_slice,cl_ptr,putAt_one,zs0,zs1,ivec_set,brow_upd] at r2
  simp -dsimp only [go_sem,r2.cell,r4.cell]
  simp -dsimp (disch:=omega) only [wrap64]
  refine ⟨i+1,by omega,by simp [Le,find,he,evs_len],by omega,p0,?_,by omega⟩
  rw [brow_congr (g:=_) (fun j hj=>?_)]
  ·exact r2
  ·unfold upd
   by_cases hji:j=i
   ·subst hji;simp
   ·simp [hji,show j<i+1↔j<i by omega]
 ·obtain rfl:i=g.n:=by omega
  simp -dsimp only [go_sem,Int.lt_irrefl,r2.cell]
  refine ⟨p0,?_⟩
  have:boolsV (withB g m)=brow g.n fun j=>decide (j<g.n)&&m.contains (g.ev j).mode:=by
   apply List.ext_getElem?
   intro j
   by_cases hj:j<g.n
   ·rw [boolsV_get (b:=m.contains (g.ev j).mode) (by unfold withB;rw [List.getElem?_map,Gr.ev_get hj];rfl)]
    rw [brow_get hj];simp [hj]
   ·rw [List.getElem?_eq_none (by simp [withB];unfold Gr.n at hj;omega),List.getElem?_eq_none (by simp;omega)]
  rw [this]
  exact holder_row r2 (by simp) b5l
theorem graph_Thread {h:Heap} {q:GV} {g:Gr} (t:GrAt h q g) (th:Int) :
  Con Tryd.prog 48 #[.agg (gcells q g).toArray,.int .i64 th] h fun v h'=>Fr 0 0 h h'∧Holder 1 h' v (threadL g th).length (intsV (threadL g th)) h.size:=by
 refine con_q14 ?_
 have p0:Fr 0 0 h h:=.refl _ _ _
 have be:=t.fits.e
 have hen:g.evs.length=g.n:=rfl
 unfold gcells
 simp -dsimp only [go_sem]
 intro b1 h1 n1
 have n1_z:=n1.az
 replace p0:=p0.F n1.f0
 have r1:=n1.row
 simp -dsimp only [go_sem,evs_len,r1.cell]
 refine loop_intro (fun s:Nat×Value=>[(1,.int .i64 th),(5,s.2),(9,.slice q.e g.evs.length q.ec),(10,.int .i64 g.n),(11,.int .i64 s.1)])
  (fun s h'=>s.1≤g.n∧Fr 0 0 h h'∧Holder 1 h' s.2 (threadTo g th s.1).length (intsV (threadTo g th s.1)) h.size) (fun s=>g.n - s.1) (0,.slice none 0 0) ?_ ?_ ?_
 ·simp [Le,find,hen]
 ·exact ⟨by omega,p0,.none _ _ _⟩
 clear p0
 rintro ⟨i,lv⟩ h3 ⟨hi,p0,o1⟩
 dsimp only at hi o1 ⊢
 have p0_z:=p0.size
 have o1_l:=o1.top
 have hle:=threadTo_len (g:=g) (t:=th) (i:=i)
 by_cases hlt:i<g.n
 ·have e1:((i:Int)<(g.n:Int)):=by omega
  obtain ⟨eb,eo,he,hev⟩:=t.evs (by omega)
  obtain ⟨c0,c1,c2,c3,c4⟩:=hev h3 p0 i hlt
  obtain ⟨la,lc,rfl⟩:=o1.is
  simp -dsimp only [go_sem,e1,he,evs_len,c0,c1,c2,c3,c4]
  intro b7 h4 n4
  have n4_z:=n4.az
  replace p0:=p0.F n4.f0
  replace o1:=o1.fr n4.f0 (by have:=o1.at_;omega)
  have r4:=n4.row
  simp -dsimp only [go_sem,r4.cell]
  have o1_a:=o1.at_
  have o1_t:=o1.top
  refine Chk_intro (r4.W) fun h5 s5=>?_
  have s5_z:=s5.size
  replace p0:=p0.F s5.fr
  replace o1:=o1.fr s5.fr (by have:=o1.at_;omega)
  replace r4:=s5.row r4
  try simp only [cl_int,cl_bool,cl_slice,cl_ptr,putAt_one,zs0,zs1,ivec_set,brow_upd] at r4
  simp -dsimp only [go_sem] at r4
  by_cases a1:(g.ev i).thread=th
  ·simp -dsimp only [go_sem,beq_t a1,r4.cell]
   intro b8 h8 n8
   have n8_z:=n8.az
   replace p0:=p0.F n8.f0
   replace o1:=o1.fr n8.f0 (by have:=o1.at_;omega)
   replace r4:=r4.F n8.f0
   have r8:=n8.row
   simp -dsimp only [go_sem,r4.cell,r8.cell]
   refine o1.append (by omega) rfl (by omega) (by simp) (by omega) fun v9 h9 o_new f9 e_app=>?_
   have f9_z:=f9.size
   have o_at:=o1.at_
   replace p0:=p0.F f9
   replace r4:=r4.F f9
   replace r8:=r8.F f9
   clear o_at e_app
   replace o1:=o_new
   have o1_l:=o1.top
   simp -dsimp only [go_sem,r4.cell,r8.cell]
   simp -dsimp (disch:=omega) only [wrap64]
   refine ⟨(i+1,v9),by dsimp only;omega,by simp [Le,find,he,evs_len],by dsimp only;omega,p0,?_⟩
   dsimp only
   rw [threadTo_succ,if_pos a1,intsV_append,List.length_append]
   exact o1
  ·simp -dsimp only [go_sem,beq_f a1,r4.cell]
   simp -dsimp (disch:=omega) only [wrap64]
   refine ⟨(i+1,.slice la (threadTo g th i).length lc),by dsimp only;omega,by simp [Le,find,he,evs_len],by dsimp only;omega,p0,?_⟩
   dsimp only
   rw [threadTo_succ,if_neg a1,List.append_nil]
   exact o1
 ·obtain rfl:i=g.n:=by omega
  simp -dsimp only [go_sem,Int.lt_irrefl]
  exact ⟨p0,o1⟩
end Go.Proofs.Tst
/-
  Final; the document's With, Thread, Final and Kinds.
-/
namespace Go.Proofs.Tst
open Go Go.Vc
def urow (n:Nat) (f:Nat→Int):List Value:=(List.range n).map fun i=>.int .u64 (f i)
@[simp] theorem length_urow (n:Nat) (f:Nat→Int):(urow n f).length=n:=by simp [urow]
theorem getD_get {l:List (List Int)} {c:Nat} (h:c<l.length):l[c]?=some (l.getD c []):=by simp [h]
end Go.Proofs.Tst
/-
  lives: the document's example, its verdicts, its relations.
-/
namespace Go.Proofs.Tst
open Go Go.Vc
end Go.Proofs.Tst
/-
  GraphChecks, GraphSees.
-/
namespace Go.Proofs.Tst
open Go Go.Vc
end Go.Proofs.Tst
/-
  A graph that came in.
-/
namespace Go.Proofs.Tst
open Go Go.Vc Go.RowKit Go.ChangeShapes Go.WideShapes Go.ChangeAt Go.Deep
section
variable {H : Type} {enc : TypeId × Value → H} {P : Program}
theorem weightsAll_mem {e:TypeId} {y:Nat} {d:DataW H}:∀ {ds:List (DataW H)},d∈ds→y∈d.weights P e→y∈DataW.weightsAll P e ds
 | [],h,_=>by simp at h
 | x :: r,h,hy=>by
  rw [DataW.weightsAll,List.mem_append]
  rcases List.mem_cons.1 h with rfl | h
  ·exact .inl hy
  ·exact .inr (weightsAll_mem h hy)
theorem weightsEach_mem {y:Nat} {d:DataW H} {t:TypeId}:∀ {k:Nat} {ts:List TypeId} {ds:List (DataW H)},ts[k]?=some t→ds[k]?=some d→y∈d.weights P t→y∈DataW.weightsEach P ts ds
 | _,[],_,h,_,_=>by simp at h
 | _,_ :: _,[],_,h,_=>by simp at h
 | 0,_ :: _,_ :: _,h1,h2,hy=>by
  simp at h1 h2;subst h1;subst h2
  rw [DataW.weightsEach,List.mem_append];exact .inl hy
 | k+1,_ :: _,_ :: _,h1,h2,hy=>by
  rw [DataW.weightsEach,List.mem_append]
  exact .inr (weightsEach_mem (by simpa using h1) (by simpa using h2) hy)
variable {w : World} {base : Nat} {held : Bool}
theorem read_pairs {t e:TypeId} {f0 f1:Field} {v:Value} {fuel:Nat} {x:DataW H×List MemPlace} (ht:P.underlying t=some (.slice e)) (he:P.underlying e=some (.struct #[f0,f1])) (ce:P.cellsOf e=2) (hby:P.bytesOf e=16)
  (o0:f0.offset=0) (o1:f1.offset=1) (c0:P.cellsOf f0.type=1) (c1:P.cellsOf f1.type=1) (u0:P.underlying f0.type=some (.int .i64)) (u1:P.underlying f1.type=some (.int .i64))
  (hf:DataW.trod enc P w base (fun _=>true) held fuel t [v]=some x) (hw:∀ y∈x.1.weights P t,y≤reachBytes) :
  ∃ l:List (Int×Int),Rd 2 w.heap v l.length (pairsV l)∧l.length≤8796093022208:=by
 rcases open_slice_pairs ht he ce o0 o1 c0 c1 hf with ⟨h1,h2⟩ | ⟨a',len,cap,m,k,V0,V1,D0,D1,P0,P1,h1,_,hlc,_,hm,rfl,hcell⟩
 ·cases h1
  exact ⟨[],⟨rfl,_,_,rfl,.inl rfl⟩,by simp⟩
 ·cases h1
  simp only [if_true] at hm
  subst hm
  have hwt:=hw _ (by simp only [DataW.weights,ht];exact List.mem_cons_self ..)
  simp only [List.length_map,List.length_range,hby] at hwt
  unfold reachBytes at hwt
  obtain ⟨Z,hZ⟩:=choose_lt (α:=Int×Int) (n:=m) (p:=fun i z=>V0 i=.int .i64 z.1∧V1 i=.int .i64 z.2) (fun i hi=>by
   obtain ⟨_,_,g1,g2⟩:=hcell i hi
   obtain ⟨x,hx,_,hxw⟩:=DataW.trod_int u0 g1
   obtain ⟨y,hy,_,hyw⟩:=DataW.trod_int u1 g2
   exact ⟨(x,y),by simpa using hx,by simpa using hy⟩)
  have hl:((List.range len).map Z).length=len:=by simp
  refine ⟨(List.range len).map Z,?_,by rw [hl];omega⟩
  rw [hl]
  refine rd_of (by omega) (by simp) fun j hj=>?_
  obtain ⟨i,hij⟩:∃ i,j=i * 2∨j=i * 2+1:=⟨j / 2,by omega⟩
  have hi:i<len:=by omega
  have hg:((List.range len).map Z)[i]?=some (Z i):=by simp [hi]
  obtain ⟨g1,g2⟩:=pairsV_get _ _ _ hg
  obtain ⟨h3,h4,_,_⟩:=hcell i (by omega)
  obtain ⟨h5,h6⟩:=hZ i (by omega)
  rcases hij with rfl | rfl
  ·exact ⟨_,g1,by rw [h3,h5]⟩
  ·exact ⟨_,g2,by rw [h4,h6]⟩
theorem read_ints {t e:TypeId} {v:Value} {fuel:Nat} {x:DataW H×List MemPlace} (ht:P.underlying t=some (.slice e)) (he:P.underlying e=some (.int .i64)) (hc:P.cellsOf e=1) (hby:P.bytesOf e=8)
  (hf:DataW.trod enc P w base (fun _=>true) held fuel t [v]=some x) (hw:∀ y∈x.1.weights P t,y≤reachBytes) :
  ∃ (l:List Int) (a:Option Addr) (c:Nat),v=.slice a l.length c∧l.length≤c∧Rd 1 w.heap (.slice a l.length c) l.length (intsV l)∧l.length≤17592186044416:=by
 rcases open_ints ht he hc hf with ⟨h1,h2⟩ | ⟨a',len,cap,zs,h1,_,hlc,_,hz,rfl,hcell,hwf⟩
 ·cases h1
  exact ⟨[],none,0,rfl,Nat.le_refl _,⟨rfl,_,_,rfl,.inl rfl⟩,by simp⟩
 ·cases h1
  simp only [if_true] at hz
  have hwt:=hw _ (by simp only [DataW.weights,ht];exact List.mem_cons_self ..)
  simp only [lits,List.length_map,List.length_take,List.length_drop,hby] at hwt
  unfold reachBytes at hwt
  have hl:(zs.take len).length=len:=by simp;omega
  refine ⟨zs.take len,some a',cap,by rw [hl],by rw [hl];exact hlc,?_,by rw [hl];omega⟩
  rw [hl]
  refine rd_of (by omega) (by simp;omega) fun j hj=>?_
  have hj:j<zs.length:=by omega
  refine ⟨.int .i64 (zs.getD j 0),?_,hcell j hj⟩
  have:(zs.take len)[j]?=some (zs.getD j 0):=by
   rw [List.getElem?_take_of_lt (by omega)];simp [hj]
  exact intsV_get this
theorem read_lists {t e i:TypeId} {v:Value} {fuel:Nat} {x:DataW H×List MemPlace} (ht:P.underlying t=some (.slice e)) (he:P.underlying e=some (.slice i)) (hi:P.underlying i=some (.int .i64)) (ce:P.cellsOf e=1) (be:P.bytesOf e=24) (ci:P.cellsOf i=1) (bi:P.bytesOf i=8)
  (hf:DataW.trod enc P w base (fun _=>true) held fuel t [v]=some x) (hw:∀ y∈x.1.weights P t,y≤reachBytes) :
  ∃ (L:List (List Int)) (a:Option Addr) (c:Nat),v=.slice a L.length c∧L.length≤c∧RL w.heap (.slice a L.length c) (L.map intsV)∧RLc w.heap (.slice a L.length c) (L.map intsV)∧L.length≤5864062014805∧∀ l∈L,l.length≤17592186044416:=by
 rcases open_slice ht hf with ⟨h1,h2⟩ | ⟨a',len,cap,m,k,D,Pl,h1,_,hlc,_,hm,rfl,hcell⟩
 ·cases h1
  exact ⟨[],none,0,rfl,Nat.le_refl _,⟨[],⟨rfl,_,_,rfl,.inl rfl⟩,by simp⟩,⟨[],⟨rfl,_,_,rfl,.inl rfl⟩,by simp⟩,by simp,by simp⟩
 ·cases h1
  simp only [if_true] at hm
  subst hm
  have hwt:=hw _ (by simp only [DataW.weights,ht];exact List.mem_cons_self ..)
  simp only [List.length_map,List.length_range,be] at hwt
  unfold reachBytes at hwt
  obtain ⟨Z,hZ⟩:=choose_lt (α:=Value×List Int) (n:=len) (p:=fun i z=>w.cell? (a'.add (i * 1))=some z.1∧(∃ a c,z.1=.slice a z.2.length c∧z.2.length≤c∧Rd 1 w.heap (.slice a z.2.length c) z.2.length (intsV z.2))∧z.2.length≤17592186044416) (fun i hil=>by
   obtain ⟨cs,hc1,hc2⟩:=hcell i (by omega)
   rw [ce] at hc1
   obtain ⟨_,hlen,hcs⟩:=World.cells?_some hc1
   have hDi:D i∈(List.range len).map D:=List.mem_map.2 ⟨i,List.mem_range.2 hil,rfl⟩
   have hwD:∀ y∈(D i).weights P e,y≤reachBytes:=fun y hy=>hw y (by
    simp only [DataW.weights,ht]
    exact List.mem_cons_of_mem _ (List.mem_append_left _ (weightsAll_mem hDi hy)))
   match cs,hlen with
   | [u],_ =>
    obtain ⟨l,a,c,h1,h2,h3,h4⟩:=read_ints he hi ci bi hc2 hwD
    have h0:=hcs 0 (by omega)
    refine ⟨(u,l),?_,⟨a,c,h1,h2,h3⟩,h4⟩
    rw [add_add] at h0
    simpa using h0)
  have hl:((List.range len).map fun i=>(Z i).2).length=len:=by simp
  have hus:Rd 1 w.heap (.slice (some a') len m) len ((List.range len).map fun i=>(Z i).1):=by
   refine rd_of (by omega) (by simp) fun j hj=>?_
   have hj':j<len:=by omega
   refine ⟨(Z j).1,by simp [hj'],?_⟩
   have:=(hZ j hj').1
   rwa [Nat.mul_one] at this
  have get:∀ (i:Nat) (l:List Value),(((List.range len).map fun i=>(Z i).2).map intsV)[i]?=some l→i<len∧l=intsV (Z i).2:=fun i l h=>by
   have hil:i<len:=by
    have:=(List.getElem?_eq_some_iff.1 h).1
    simpa using this
   refine ⟨hil,?_⟩
   simp [hil] at h
   exact h.symm
  refine ⟨(List.range len).map fun i=>(Z i).2,some a',m,by rw [hl],by rw [hl];exact hlc,⟨(List.range len).map fun i=>(Z i).1,?_,fun i l h=>?_⟩,⟨(List.range len).map fun i=>(Z i).1,?_,fun i l h=>?_⟩,by rw [hl];omega,fun l hm=>?_⟩
  ·simpa using hus
  ·obtain ⟨hil,rfl⟩:=get i l h
   obtain ⟨-,⟨a,c,h1,h2,h3⟩,-⟩:=hZ i hil
   exact ⟨_,by simp [hil];rfl,by rw [h1,length_intsV];exact h3⟩
  ·simpa using hus
  ·obtain ⟨hil,rfl⟩:=get i l h
   obtain ⟨-,⟨a,c,h1,h2,h3⟩,-⟩:=hZ i hil
   exact ⟨a,c,by simp [hil,h1],by rw [length_intsV];exact h2,by rw [length_intsV];exact h3⟩
  ·obtain ⟨i,hi,rfl⟩:=List.mem_map.1 hm
   exact (hZ i (List.mem_range.1 hi)).2.2
theorem read_events {t e ti tu:TypeId} {f0 f1 f2 f3 f4:Field} {v:Value} {fuel:Nat} {x:DataW H×List MemPlace} (ht:P.underlying t=some (.slice e)) (he:P.underlying e=some (.struct #[f0,f1,f2,f3,f4])) (ce:P.cellsOf e=5) (hby:P.bytesOf e=40)
  (hO:f0.offset=0∧f1.offset=1∧f2.offset=2∧f3.offset=3∧f4.offset=4) (hT:f0.type=ti∧f1.type=ti∧f2.type=ti∧f3.type=tu∧f4.type=ti) (ci:P.cellsOf ti=1) (cu:P.cellsOf tu=1) (ui:P.underlying ti=some (.int .i64)) (uu:P.underlying tu=some (.int .u64))
  (hf:DataW.trod enc P w base (fun _=>true) held fuel t [v]=some x) (hw:∀ y∈x.1.weights P t,y≤reachBytes) :
  ∃ (l:List Ev),Rd 5 w.heap v l.length (evsV l)∧l.length≤3518437208883:=by
 rcases open_slice ht hf with ⟨h1,h2⟩ | ⟨a',len,cap,m,k,D,Pl,h1,_,hlc,_,hm,rfl,hcell⟩
 ·cases h1
  exact ⟨[],⟨rfl,_,_,rfl,.inl rfl⟩,by simp⟩
 ·cases h1
  simp only [if_true] at hm
  subst hm
  have hwt:=hw _ (by simp only [DataW.weights,ht];exact List.mem_cons_self ..)
  simp only [List.length_map,List.length_range,hby] at hwt
  unfold reachBytes at hwt
  obtain ⟨o0,o1,o2,o3,o4⟩:=hO
  obtain ⟨t0,t1,t2,t3,t4⟩:=hT
  obtain ⟨Z,hZ⟩:=choose_lt (α:=Ev) (n:=len) (p:=fun i z=>∀ j,j<5→∃ v,z.cells[j]?=some v∧w.cell? (a'.add (i * 5+j))=some v) (fun i hi=>by
   obtain ⟨cs,hc1,hc2⟩:=hcell i (by omega)
   rw [ce] at hc1
   obtain ⟨_,hlen,hcs⟩:=World.cells?_some hc1
   obtain ⟨xs,k',hk,hxy,_,hxl,hfld⟩:=DataW.trod_struct he hc2
   match xs,hxl,cs,hlen with
   | [y0,y1,y2,y3,y4],_,[v0,v1,v2,v3,v4],_ =>
    have q0:=hfld 0 f0 rfl
    have q1:=hfld 1 f1 rfl
    have q2:=hfld 2 f2 rfl
    have q3:=hfld 3 f3 rfl
    have q4:=hfld 4 f4 rfl
    simp [o0,o1,o2,o3,o4,t0,t1,t2,t3,t4,ci,cu] at q0 q1 q2 q3 q4
    obtain ⟨x0,e0,-,-⟩:=DataW.trod_int ui q0
    obtain ⟨x1,e1,-,-⟩:=DataW.trod_int ui q1
    obtain ⟨x2,e2,-,-⟩:=DataW.trod_int ui q2
    obtain ⟨x3,e3,-,-⟩:=DataW.trod_int uu q3
    obtain ⟨x4,e4,-,-⟩:=DataW.trod_int ui q4
    simp at e0 e1 e2 e3 e4
    refine ⟨⟨x0,x1,x2,x3,x4⟩,fun j hj=>?_⟩
    have hj':=hcs j hj
    rw [add_add] at hj'
    have hcl:(Ev.cells ⟨x0,x1,x2,x3,x4⟩)=[v0,v1,v2,v3,v4]:=by simp [Ev.cells,e0,e1,e2,e3,e4]
    rw [hcl]
    have hjl:j < [v0,v1,v2,v3,v4].length:=hj
    exact ⟨_,List.getElem?_eq_getElem hjl,by rw [hj'];exact List.getElem?_eq_getElem hjl⟩)
  have hl:((List.range len).map Z).length=len:=by simp
  refine ⟨(List.range len).map Z,?_,by rw [hl];omega⟩
  rw [hl]
  refine rd_of (by omega) (by rw [length_evsV,hl]) fun j hj=>?_
  have hi:j / 5<len:=by omega
  have hg:((List.range len).map Z)[j / 5]?=some (Z (j / 5)):=by simp [hi]
  obtain ⟨v,h3,h4⟩:=hZ (j / 5) hi (j % 5) (by omega)
  have hrow:=evsV_get hg (j % 5) (by omega)
  rw [show j / 5 * 5+j % 5=j from by omega] at hrow h4
  exact ⟨v,by rw [hrow];exact h3,h4⟩
theorem arg_graph {r:Reach} {b0:Nat} {t te tes tps tp tll tl ti tu:TypeId} {f0 f1 f2 f3 f4 f5 f6 f7 e0 e1 e2 e3 e4 g0 g1:Field} {v:Value} {d:DataW H} {ps:List MemPlace} (ht:P.underlying t=some (.struct #[f0,f1,f2,f3,f4,f5,f6,f7])) (ct:P.cellsOf t=8)
  (hO:f0.offset=0∧f1.offset=1∧f2.offset=2∧f3.offset=3∧f4.offset=4∧f5.offset=5∧f6.offset=6∧f7.offset=7) (hT:f0.type=ti∧f1.type=tes∧f2.type=tps∧f3.type=tll∧f4.type=tps∧f5.type=tps∧f6.type=tps∧f7.type=tps)
  (ues:P.underlying tes=some (.slice te)) (ue:P.underlying te=some (.struct #[e0,e1,e2,e3,e4])) (ce:P.cellsOf te=5) (be:P.bytesOf te=40) (hEO:e0.offset=0∧e1.offset=1∧e2.offset=2∧e3.offset=3∧e4.offset=4) (hET:e0.type=ti∧e1.type=ti∧e2.type=ti∧e3.type=tu∧e4.type=ti)
  (ups:P.underlying tps=some (.slice tp)) (up:P.underlying tp=some (.struct #[g0,g1])) (cp:P.cellsOf tp=2) (bp:P.bytesOf tp=16) (hPO:g0.offset=0∧g1.offset=1∧g0.type=ti∧g1.type=ti)
  (ull:P.underlying tll=some (.slice tl)) (ul:P.underlying tl=some (.slice ti)) (cl:P.cellsOf tl=1) (bl:P.bytesOf tl=24) (ui:P.underlying ti=some (.int .i64)) (ci:P.cellsOf ti=1) (bi:P.bytesOf ti=8) (uu:P.underlying tu=some (.int .u64)) (cu:P.cellsOf tu=1)
  (ces:P.cellsOf tes=1) (cps:P.cellsOf tps=1) (cll:P.cellsOf tll=1)
  (hval:Value.okWide P w r b0 t v) (hd:DataW.Trod enc P w base (fun _=>true) held t v d ps) (hw:∀ x∈d.weights P t,x≤reachBytes) :
  ∃ (q:GV) (g:Gr),v=.agg (gcells q g).toArray∧GrAt w.heap q g:=by
 obtain ⟨cs,rfl,hcs⟩:=okWide_struct ht hval
 obtain ⟨fuel,hf⟩:=hd
 have hf:DataW.trod enc P w base (fun _=>true) held fuel t cs.toList=some (d,ps):=hf
 obtain ⟨xs,k,hk,hx,hl,hxl,hfld⟩:=DataW.trod_struct ht hf
 simp only [Prod.mk.injEq] at hx
 obtain ⟨hD,-⟩:=hx
 obtain ⟨o0,o1,o2,o3,o4,o5,o6,o7⟩:=hO
 obtain ⟨t0,t1,t2,t3,t4,t5,t6,t7⟩:=hT
 obtain ⟨go0,go1,gt0,gt1⟩:=hPO
 rw [ct] at hl
 obtain ⟨cl'⟩:=cs
 match xs,hxl,cl',hl with
 | [y0,y1,y2,y3,y4,y5,y6,y7],_,[v0,v1,v2,v3,v4,v5,v6,v7],_ =>
  have q0:=hfld 0 f0 rfl
  have q1:=hfld 1 f1 rfl
  have q2:=hfld 2 f2 rfl
  have q3:=hfld 3 f3 rfl
  have q4:=hfld 4 f4 rfl
  have q5:=hfld 5 f5 rfl
  have q6:=hfld 6 f6 rfl
  have q7:=hfld 7 f7 rfl
  simp [o0,o1,o2,o3,o4,o5,o6,o7,t0,t1,t2,t3,t4,t5,t6,t7,ci,ces,cps,cll] at q0 q1 q2 q3 q4 q5 q6 q7
  simp only [List.map_cons,List.map_nil] at hD
  have wt:∀ (j:Nat) (tj:TypeId) (y:DataW H),([ti,tes,tps,tll,tps,tps,tps,tps]:List TypeId)[j]?=some tj→([y0.1,y1.1,y2.1,y3.1,y4.1,y5.1,y6.1,y7.1]:List (DataW H))[j]?=some y→∀ z∈y.weights P tj,z≤reachBytes:=fun j tj y h1 h2 z hz=>hw z (by
   rw [hD];simp only [DataW.weights,ht]
   refine weightsEach_mem (k:=j) (t:=tj) (d:=y) ?_ h2 hz
   simpa [t0,t1,t2,t3,t4,t5,t6,t7] using h1)
  obtain ⟨x0,e0',-,-⟩:=DataW.trod_int ui q0
  simp at e0'
  subst e0'
  obtain ⟨le,re,be'⟩:=read_events ues ue ce be hEO hET ci cu ui uu q1 (wt 1 _ _ rfl rfl)
  have rp:=fun (v:Value) (y:DataW H×List MemPlace) (q:DataW.trod enc P w base (fun _=>true) held k tps [v]=some y) (hy:∀ z∈y.1.weights P tps,z≤reachBytes)=>read_pairs ups up cp bp go0 go1 (by rw [gt0];exact ci) (by rw [gt1];exact ci) (by rw [gt0];exact ui) (by rw [gt1];exact ui) q hy
  obtain ⟨lf,rf,bf⟩:=rp _ _ q2 (wt 2 _ _ rfl rfl)
  obtain ⟨L,la,lc,rfl,hLc,rL,rLc,bL,bl'⟩:=read_lists ull ul ui cl bl ci bi q3 (wt 3 _ _ rfl rfl)
  obtain ⟨lr,rr,br⟩:=rp _ _ q4 (wt 4 _ _ rfl rfl)
  obtain ⟨lad,ra,ba⟩:=rp _ _ q5 (wt 5 _ _ rfl rfl)
  obtain ⟨ld,rd',bd⟩:=rp _ _ q6 (wt 6 _ _ rfl rfl)
  obtain ⟨lct,rc,bc⟩:=rp _ _ q7 (wt 7 _ _ rfl rfl)
  obtain ⟨ea,ec,rfl⟩:=re.is
  obtain ⟨fa,fc,rfl⟩:=rf.is
  obtain ⟨ra',rc',rfl⟩:=rr.is
  obtain ⟨aa,ac,rfl⟩:=ra.is
  obtain ⟨da,dc,rfl⟩:=rd'.is
  obtain ⟨ca,cc,rfl⟩:=rc.is
  exact ⟨⟨ea,fa,la,ra',aa,da,ca,ec,fc,lc,rc',ac,dc,cc⟩,⟨x0,le,lf,L,lr,lad,ld,lct⟩,rfl,⟨re,rf,rL,rr,ra,rd',rc,⟨be',bf,bL,br,ba,bd,bc,bl'⟩,hLc,rLc⟩⟩
end
end Go.Proofs.Tst
/-
  GraphSees.
-/
namespace Go.Proofs.Tst
open Go Go.Vc
end Go.Proofs.Tst
/-
  Plain laws of good graphs.
-/
namespace Go.Proofs.Tst
open Go Go.Vc
theorem acyc_rank {n:Nat} {M:Nat→Nat→Bool} (r:Nat→Nat) (h:∀ i j,i<n→j<n→M i j=true→r i<r j):irrB n (plusM n M)=true:=by
 unfold irrB
 rw [List.all_eq_true]
 intro i hi
 rw [List.mem_range] at hi
 cases hp:plusM n M i i
 ·rfl
 ·have:=plus_least (n:=n) (M:=M) (N:=fun a b=>r a<r b) h (fun _ _ _ _ _ _ h1 h2=>Nat.lt_trans h1 h2) hi hi hp
  omega
theorem ofM_mem {n:Nat} {L:List (Int×Int)} {x y:Nat} (hx:x<n) (hy:y<n):ofM n L x y=true↔((x:Int),(y:Int))∈L:=by
 unfold ofM
 rw [List.any_eq_true]
 constructor
 ·rintro ⟨p,hp,h⟩
  simp only [Bool.and_eq_true,beq_iff_eq] at h
  have:p=((x:Int),(y:Int)):=Prod.ext h.1.2 h.2
  exact this▸hp
 ·intro h
  refine ⟨_,h,?_⟩
  have h1:inR n (x:Int)=true:=by unfold inR;simp;omega
  have h2:inR n (y:Int)=true:=by unfold inR;simp;omega
  rw [h1,h2];simp
theorem ofM_mem' {n:Nat} {L:List (Int×Int)} {x y:Nat} (h:ofM n L x y=true):((x:Int),(y:Int))∈L:=by
 unfold ofM at h
 rw [List.any_eq_true] at h
 obtain ⟨p,hp,h⟩:=h
 simp only [Bool.and_eq_true,beq_iff_eq] at h
 have:p=((x:Int),(y:Int)):=Prod.ext h.1.2 h.2
 exact this▸hp
theorem firstBad_neg {f:Nat→Int×Int→Bool}:∀ {l:List (Int×Int)} {i:Nat},¬ 0≤Gr.firstBad f l i→∀ p∈l,∃ j,f j p=false
 | [],_,_,p,hp=>by cases hp
 | q :: l,i,h,p,hp=>by
  cases hf:f i q
  ·rw [firstBad_ok hf] at h
   rcases List.mem_cons.1 hp with rfl | hp
   ·exact ⟨i,hf⟩
   ·exact firstBad_neg h p hp
  ·rw [firstBad_bad hf] at h;omega
theorem rmw_before {g:Gr} (h:¬ 0≤g.rmwAt) {p:Int×Int} (hp:p∈g.rmw):g.before p.1 p.2=true:=by
 obtain ⟨j,hj⟩:=firstBad_neg (f:=g.rmwBad) h p hp
 unfold Gr.rmwBad at hj
 simp only [Bool.or_eq_false_iff,Bool.not_eq_false'] at hj
 have:=hj.1.2
 unfold Gr.isNext at this
 simp only [Bool.and_eq_true] at this
 exact this.1
theorem before_nat {g:Gr} {a b:Nat} (h:g.before (a:Int) (b:Int)=true):a<b∧b<g.n:=by
 obtain ⟨h1,h2,h3⟩:=before_lt h
 omega
theorem lpairs_mem:∀ {l:List Int} {x y:Int},(x,y)∈lpairs l→x∈l∧y∈l
 | [],_,_,h=>by cases h
 | a :: t,x,y,h=>by
  unfold lpairs at h
  rcases List.mem_append.1 h with h | h
  ·obtain ⟨b,hb,e⟩:=List.mem_map.1 h
   cases e;exact ⟨by simp,by simp [hb]⟩
  ·obtain ⟨h1,h2⟩:=lpairs_mem h
   exact ⟨by simp [h1],by simp [h2]⟩
theorem idx_ne {a x:Int} {t:List Int} (h:¬ a=x):(a :: t).idxOf x=t.idxOf x+1:=by
 rw [List.idxOf_cons,beq_f h];rfl
theorem lpairs_idx:∀ {l:List Int} {x y:Int},l.Nodup→(x,y)∈lpairs l→l.idxOf x<l.idxOf y
 | [],_,_,_,h=>by cases h
 | a :: t,x,y,hn,h=>by
  obtain ⟨ha,hn⟩:=List.nodup_cons.1 hn
  unfold lpairs at h
  rcases List.mem_append.1 h with h | h
  ·obtain ⟨b,hb,e⟩:=List.mem_map.1 h
   cases e
   have:¬ a=y:=fun e=>ha (e▸hb)
   rw [List.idxOf_cons_self,idx_ne this]
   omega
  ·obtain ⟨h1,h2⟩:=lpairs_mem h
   have e1:¬ a=x:=fun e=>ha (e▸h1)
   have e2:¬ a=y:=fun e=>ha (e▸h2)
   rw [idx_ne e1,idx_ne e2]
   have:=lpairs_idx hn h
   omega
theorem lpairs_at:∀ {l:List Int} {a b:Nat} {x y:Int},a<b→l[a]?=some x→l[b]?=some y→(x,y)∈lpairs l
 | [],_,_,_,_,_,h,_=>by simp at h
 | z :: t,0,b+1,x,y,_,h1,h2=>by
  simp at h1 h2;subst h1
  unfold lpairs
  exact List.mem_append_left _ (List.mem_map.2 ⟨y,List.mem_of_getElem? h2,rfl⟩)
 | z :: t,a+1,b+1,x,y,hab,h1,h2=>by
  unfold lpairs
  exact List.mem_append_right _ (lpairs_at (by omega) h1 h2)
theorem coPairs_list {g:Gr} {x y:Int} (h:(x,y)∈coPairs g):∃ c,c<g.co.length∧(x,y)∈lpairs (g.co.getD c []):=by
 unfold coPairs at h
 obtain ⟨l,hl,h⟩:=List.mem_flatMap.1 h
 obtain ⟨c,hc⟩:=List.mem_iff_getElem?.1 hl
 have hlt:=(List.getElem?_eq_some_iff.1 hc).1
 refine ⟨c,hlt,?_⟩
 have:g.co.getD c []=l:=by simp [hc]
 rw [this];exact h
theorem list_coPairs {g:Gr} {c:Nat} {x y:Int} (hc:c<g.co.length) (h:(x,y)∈lpairs (g.co.getD c [])):(x,y)∈coPairs g:=
 List.mem_flatMap.2 ⟨_,List.mem_of_getElem? (getD_get hc),h⟩
theorem co_list {g:Gr} (hg:g.good=true) {c:Nat} (hc:c<g.co.length):(g.co.getD c []).Nodup∧(∀ w∈g.co.getD c [],g.is w 2=true∧(g.ev w.toNat).loc=(c:Int))∧(g.co.getD c []).length=g.writesOf c:=by
 have hb:=(good_co hg).2 c hc
 rw [coBad_of] at hb
 simp only [Bool.not_eq_false',Bool.and_eq_true,beq_iff_eq] at hb
 obtain ⟨hok,hlen⟩:=hb
 unfold coOk coGood at hok
 simp only [Bool.and_eq_true,List.all_eq_true,decide_eq_true_eq,beq_iff_eq] at hok
 exact ⟨hok.2,fun w hw=>hok.1.2 w hw,hlen⟩
def coRank (g:Gr) (w:Nat):Nat:=(g.co.getD (g.ev w).loc.toNat []).idxOf (w:Int)
theorem co_rank {g:Gr} (hg:g.good=true) {x y:Nat} (h:((x:Int),(y:Int))∈coPairs g):coRank g x<coRank g y:=by
 obtain ⟨c,hc,h⟩:=coPairs_list h
 obtain ⟨h1,h2,-⟩:=co_list hg hc
 obtain ⟨m1,m2⟩:=lpairs_mem h
 have e1:=(h2 _ m1).2
 have e2:=(h2 _ m2).2
 rw [Int.toNat_natCast] at e1 e2
 unfold coRank
 rw [e1,e2,Int.toNat_natCast]
 exact lpairs_idx h1 h
theorem co_all {g:Gr} (hg:g.good=true) {c w:Nat} (hc:c<g.co.length) (hw:w<g.n) (hk:(g.ev w).kind=2) (hl:(g.ev w).loc=(c:Int)):(w:Int)∈g.co.getD c []:=by
 obtain ⟨h1,h2,h3⟩:=co_list hg hc
 apply Classical.byContradiction;intro hn
 rw [writesOf_range] at h3
 have:=nodup_le (l:=(w:Int) :: g.co.getD c []) (m:=((List.range g.n).filter fun i=>(g.ev i).kind==2&&(g.ev i).loc==(c:Int)).map fun (i:Nat)=>(i:Int)) (List.nodup_cons.2 ⟨hn,h1⟩) fun x hx=>by
  rcases List.mem_cons.1 hx with rfl | hx
  ·exact List.mem_map.2 ⟨w,List.mem_filter.2 ⟨List.mem_range.2 hw,by simp [hk,hl]⟩,rfl⟩
  ·obtain ⟨k1,k2⟩:=h2 x hx
   obtain ⟨l1,l2,l3⟩:=is_lt k1
   refine List.mem_map.2 ⟨x.toNat,List.mem_filter.2 ⟨List.mem_range.2 (by omega),by simp [k2];simpa using l3⟩,by omega⟩
 simp at this
 simp at h3
 omega
theorem co_total {g:Gr} (hg:g.good=true) {i j:Nat} (hi:i<g.n) (hj:j<g.n) (hij:i≠j) (ki:(g.ev i).kind=2) (kj:(g.ev j).kind=2) (hl:(g.ev i).loc=(g.ev j).loc) :
  (ofM g.n (coPairs g) i j==ofM g.n (coPairs g) j i)=false:=by
 obtain ⟨words,hz⟩:=good_check hg
 obtain ⟨hs,h2,h3,-⟩:=check_zero hz
 have hpos:=write_loc hs h2 h3 i hi ki
 have hlt:(g.ev i).loc.toNat<g.co.length:=by
  have hcl:=(good_co hg).1
  simp only [Gr.size,Bool.and_eq_true,decide_eq_true_eq] at hs
  obtain ⟨⟨⟨s1,s2⟩,s3⟩,s4⟩:=hs
  have:(g.ev i).loc<g.cells:=by
   by_cases hc:i<g.cells.toNat
   ·have:=firstEv_neg _ _ h2 i (by omega) (by omega)
    simp only [Bool.not_eq_false',beq_iff_eq] at this
    rw [this];unfold Gr.first;dsimp only;omega
   ·have:=firstEv_neg _ _ h3 i (by omega) (by omega)
    simp only [Bool.not_eq_false'] at this
    unfold Gr.evOk at this
    rw [if_neg (by omega)] at this
    simp only [Bool.and_eq_true,decide_eq_true_eq] at this
    exact this.2.2
  omega
 obtain ⟨c,hc⟩:=Int.eq_ofNat_of_zero_le hpos
 rw [hc,Int.toNat_natCast] at hlt
 have mi:=co_all hg hlt hi ki hc
 have mj:=co_all hg hlt hj kj (hl▸hc)
 obtain ⟨a,ha⟩:=List.mem_iff_getElem?.1 mi
 obtain ⟨b,hb⟩:=List.mem_iff_getElem?.1 mj
 have anti:∀ x y:Nat,((x:Int),(y:Int))∈coPairs g→¬ ((y:Int),(x:Int))∈coPairs g:=fun x y h1 h2=>by
  have:=co_rank hg h1;have:=co_rank hg h2;omega
 rcases Nat.lt_trichotomy a b with h | h | h
 ·have h1:=list_coPairs hlt (lpairs_at h ha hb)
  have e1:ofM g.n (coPairs g) i j=true:=(ofM_mem hi hj).2 h1
  have e2:ofM g.n (coPairs g) j i=false:=by
   cases he:ofM g.n (coPairs g) j i
   ·rfl
   ·exact absurd (ofM_mem' he) (anti _ _ h1)
  rw [e1,e2];rfl
 ·subst h;rw [ha] at hb;cases hb;exact absurd rfl hij
 ·have h1:=list_coPairs hlt (lpairs_at h hb ha)
  have e1:ofM g.n (coPairs g) j i=true:=(ofM_mem hj hi).2 h1
  have e2:ofM g.n (coPairs g) i j=false:=by
   cases he:ofM g.n (coPairs g) i j
   ·rfl
   ·exact absurd (ofM_mem' he) (anti _ _ h1)
  rw [e1,e2];rfl
end Go.Proofs.Tst
