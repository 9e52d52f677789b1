/-
  Contracts of functions that the law reaches: what each returns and what it leaves in memory. Conditions stand in each.
-/
import Derived.Test.YtmcghihgeibgpaaDoorT4
set_option linter.all false
set_option maxRecDepth 2000
/-
  The document's answer: rules 7 to 9.
-/
namespace Go.Proofs.Tst
open Go Go.Vc
def kr (which:Int) (k:Int):Bool:=if which=7 then !(k==3) else if which=8 then k==2 else true
set_option maxHeartbeats 1000000 in
theorem ref8_deps {h:Heap} {q:GV} {g:Gr} (t:GrAt h q g) {la:Option Addr} {lc:Nat} {l:List (Int×Int)} (tl:Rd 2 h (.slice la l.length lc) l.length (pairsV l)) (hl:l.length≤8796093022208) (which:Int) :
  Con Tryd.prog 91 #[.agg (gcells q g).toArray,.slice la l.length lc,.int .i64 which] h fun v h'=>Fr 0 0 h h'∧v=.int .i64 (g.depAt true l (kr which)):=by
 refine con_q100 ?_
 have p0:Fr 0 0 h h:=.refl _ _ _
 have hen:g.evs.length=g.n:=rfl
 unfold gcells
 simp -dsimp only [go_sem]
 intro b1 h1 n1
 have n1_z:=n1.az
 replace p0:=p0.F n1.f0
 have r1:=n1.row
 simp -dsimp only [go_sem,r1.cell]
 refine loop_intro (fun i:Nat=>[(1,.slice la l.length lc),(2,.int .i64 which),(3,.pointer (some ⟨b1,0,none⟩)),(7,.int .i64 i)])
  (fun i h'=>i≤l.length∧Fr 0 0 h h'∧Rw h' b1 (gcells q g)∧g.depAt true l (kr which)=Gr.firstBad (g.depBad true l (kr which)) (l.drop i) i) (fun i=>l.length - i) 0 ?_ ?_ ?_
 ·simp [Le,find]
 ·exact ⟨by omega,p0,r1,rfl⟩
 clear p0 r1
 rintro i h2 ⟨hi,p0,r1,hat⟩
 unfold gcells at r1
 have p0_z:=p0.size
 have r1_l:=r1.lt
 by_cases hlt:i<l.length
 ·have e1:((i:Int)<(l.length:Int)):=by omega
  obtain ⟨pb,po,hp,hpe⟩:=tl.pairsAt (by omega)
  have hq:l[i]?=some l[i]:=by simp [hlt]
  rw [List.drop_eq_getElem_cons hlt] at hat
  generalize l[i]=pr at hq hat
  obtain ⟨u0,u1⟩:=hpe h2 p0 i _ hq
  subst hp
  have hp:True:=trivial
  simp -dsimp only [go_sem,e1,u0,u1,r1.cell]
  intro b5 h3 n3
  have n3_z:=n3.az
  replace p0:=p0.F n3.f0
  replace r1:=r1.F n3.f0
  have r5:=n3.row
  simp -dsimp only [go_sem,r1.cell,r5.cell]
  refine Chk_intro (r5.W) fun h4 s4=>?_
  have s4_z:=s4.size
  replace p0:=p0.F s4.fr
  replace r1:=r1.F s4.fr
  replace r5:=s4.row r5
  try simp only [cl_int,cl_bool,cl_slice,cl_ptr,putAt_one,zs0,zs1,ivec_set,brow_upd] at r5
  simp -dsimp only [go_sem] at r5
  have hbad:(g.depBad true l (kr which) i pr)=((decide (0<i)&&(decide (pr.1<(l.getD (i - 1) default).1)||(pr.1==(l.getD (i - 1) default).1)&&decide (pr.2≤(l.getD (i - 1) default).2)))||!true||!g.is pr.1 1||!g.before pr.1 pr.2||!kr which (g.ev pr.2.toNat).kind):=rfl
  have bad:(g.depBad true l (kr which) i pr)=true→g.depAt true l (kr which)=(i:Int):=fun hb=>by rw [hat,firstBad_bad hb]
  have good:(g.depBad true l (kr which) i pr)=false→g.depAt true l (kr which)=Gr.firstBad (g.depBad true l (kr which)) (l.drop (i+1)) (i+1):=fun hb=>by rw [hat,firstBad_ok hb]
  clear hat
  by_cases a0:i=0
  ·have e2:¬ (i:Int) > 0:=by omega
   have b0:(decide (0<i)&&(decide (pr.1<(l.getD (i - 1) default).1)||(pr.1==(l.getD (i - 1) default).1)&&decide (pr.2≤(l.getD (i - 1) default).2)))=false:=by rw [dec_f (by omega)];rfl
   obtain ⟨u2,u3⟩:=hpe h4 p0 i _ hq
   simp -dsimp only [go_sem,e2,r1.cell,r5.cell]
   refine call_of (ref8_is (t.fr p0) pr.1 1) ?_
   rintro v5 h5 ⟨f5,rfl⟩
   have f5_z:=f5.size
   replace p0:=p0.F f5
   replace r1:=r1.F f5
   replace r5:=r5.F f5
   replace u2:=f5.keep u2 (by omega)
   replace u3:=f5.keep u3 (by omega)
   cases a4:g.is pr.1 1
   ·simp -dsimp only [go_sem,e2,r1.cell,r5.cell]
    exact ⟨p0,by rw [bad (by rw [hbad,a4];simp)]⟩
   simp -dsimp only [go_sem,e2,r1.cell,r5.cell]
   refine call_of (ref8_before (t.fr p0) pr.1 pr.2) ?_
   rintro v6 h6 ⟨f6,rfl⟩
   have f6_z:=f6.size
   replace p0:=p0.F f6
   replace r1:=r1.F f6
   replace r5:=r5.F f6
   replace u2:=f6.keep u2 (by omega)
   replace u3:=f6.keep u3 (by omega)
   cases a5:g.before pr.1 pr.2
   ·simp -dsimp only [go_sem,e2,r1.cell,r5.cell]
    exact ⟨p0,by rw [bad (by rw [hbad,a5];simp)]⟩
   obtain ⟨m1,m2,m3⟩:=before_lt a5
   obtain ⟨pa,pz⟩:=pr
   dsimp only at *
   obtain ⟨y,hy⟩:=Int.eq_ofNat_of_zero_le (show 0≤pz by omega)
   subst hy
   rw [Int.toNat_natCast] at hbad
   have hy2:y<g.n:=by omega
   obtain ⟨eb,eo,he,hev⟩:=t.evs (by omega)
   obtain ⟨-,z1,-⟩:=hev h6 p0 y hy2
   simp -dsimp only [go_sem,he,evs_len,e2,r1.cell,r5.cell]
   refine Chk_intro (by omega) ?_
   simp -dsimp only [go_sem,z1,r1.cell,r5.cell]
   have hbad2:g.depBad true l (kr which) i (pa,(y:Int))=!kr which (g.ev y).kind:=by rw [hbad,a4,a5,b0];rfl
   by_cases w7:which=7
   ·have hkr:kr which (g.ev y).kind=!((g.ev y).kind==3):=by unfold kr;rw [if_pos w7]
    by_cases k3:(g.ev y).kind=3
    ·simp -dsimp only [go_sem,beq_t w7,beq_t k3,r1.cell,r5.cell]
     exact ⟨p0,by rw [bad (by rw [hbad2,hkr,beq_t k3];rfl)]⟩
    ·simp -dsimp only [go_sem,beq_t w7,beq_f k3,beq_f (show ¬ which=8 by omega),r1.cell,r5.cell]
     simp -dsimp (disch:=omega) only [wrap64]
     exact ⟨i+1,by omega,by simp [Le,find,hp],by omega,p0,r1,good (by rw [hbad2,hkr,beq_f k3];rfl)⟩
   ·by_cases w8:which=8
    ·have hkr:kr which (g.ev y).kind=((g.ev y).kind==2):=by unfold kr;rw [if_neg w7,if_pos w8]
     by_cases k2:(g.ev y).kind=2
     ·simp -dsimp only [go_sem,beq_f w7,beq_t w8,bne_t k2,r1.cell,r5.cell]
      simp -dsimp (disch:=omega) only [wrap64]
      exact ⟨i+1,by omega,by simp [Le,find,hp],by omega,p0,r1,good (by rw [hbad2,hkr,beq_t k2];rfl)⟩
     ·simp -dsimp only [go_sem,beq_f w7,beq_t w8,bne_f k2,r1.cell,r5.cell]
      exact ⟨p0,by rw [bad (by rw [hbad2,hkr,beq_f k2];rfl)]⟩
    ·have hkr:kr which (g.ev y).kind=true:=by unfold kr;rw [if_neg w7,if_neg w8]
     simp -dsimp only [go_sem,beq_f w7,beq_f w8,r1.cell,r5.cell]
     simp -dsimp (disch:=omega) only [wrap64]
     exact ⟨i+1,by omega,by simp [Le,find,hp],by omega,p0,r1,good (by rw [hbad2,hkr];rfl)⟩
  ·have e2:(i:Int) > 0:=by omega
   have hq2:l[i - 1]?=some (l.getD (i - 1) default):=by simp [show i - 1<l.length by omega]
   obtain ⟨u2,u3⟩:=hpe h4 p0 _ _ hq2
   generalize l.getD (i - 1) default=pv at hq2 u2 u3 hbad
   have hw:IntKind.i64.wrap ((i:Int) - 1)=((i - 1:Nat):Int):=by rw [wrap64 (by omega) (by omega)];omega
   simp -dsimp only [go_sem,e2,hw,r1.cell,r5.cell]
   refine Chk_intro (by omega) ?_
   by_cases a1:pr.1<pv.1
   ·simp -dsimp only [go_sem,u2,a1,hw,e2,r1.cell,r5.cell]
    exact ⟨p0,by rw [bad (by rw [hbad,dec_t (show 0<i by omega),dec_t a1];rfl)]⟩
   ·by_cases a2:pr.1=pv.1
    ·simp -dsimp only [go_sem,u2,a1,beq_t a2,hw,e2,r1.cell,r5.cell]
     refine Chk_intro (by omega) ?_
     simp -dsimp only [go_sem,u2,a1,beq_t a2,hw,e2,r1.cell,r5.cell]
     refine Chk_intro (by omega) ?_
     by_cases a3:pr.2≤pv.2
     ·simp -dsimp only [go_sem,u2,u3,a1,a3,hw,e2,r1.cell,r5.cell]
      exact ⟨p0,by rw [bad (by rw [hbad,dec_t (show 0<i by omega),beq_t a2,dec_t a3];simp)]⟩
     ·have b0:(decide (0<i)&&(decide (pr.1<pv.1)||(pr.1==pv.1)&&decide (pr.2≤pv.2)))=false:=by rw [dec_f a1,dec_f a3];simp
      simp -dsimp only [go_sem,u2,u3,a1,a3,hw,e2,r1.cell,r5.cell]
      refine call_of (ref8_is (t.fr p0) pr.1 1) ?_
      rintro v5 h5 ⟨f5,rfl⟩
      have f5_z:=f5.size
      replace p0:=p0.F f5
      replace r1:=r1.F f5
      replace r5:=r5.F f5
      replace u2:=f5.keep u2 (by omega)
      replace u3:=f5.keep u3 (by omega)
      cases a4:g.is pr.1 1
      ·simp -dsimp only [go_sem,u2,u3,hw,e2,a1,a3,r1.cell,r5.cell]
       exact ⟨p0,by rw [bad (by rw [hbad,a4];simp)]⟩
      simp -dsimp only [go_sem,u2,u3,hw,e2,a1,a3,r1.cell,r5.cell]
      refine call_of (ref8_before (t.fr p0) pr.1 pr.2) ?_
      rintro v6 h6 ⟨f6,rfl⟩
      have f6_z:=f6.size
      replace p0:=p0.F f6
      replace r1:=r1.F f6
      replace r5:=r5.F f6
      replace u2:=f6.keep u2 (by omega)
      replace u3:=f6.keep u3 (by omega)
      cases a5:g.before pr.1 pr.2
      ·simp -dsimp only [go_sem,u2,u3,hw,e2,a1,a3,r1.cell,r5.cell]
       exact ⟨p0,by rw [bad (by rw [hbad,a5];simp)]⟩
      obtain ⟨m1,m2,m3⟩:=before_lt a5
      obtain ⟨pa,pz⟩:=pr
      dsimp only at *
      obtain ⟨y,hy⟩:=Int.eq_ofNat_of_zero_le (show 0≤pz by omega)
      subst hy
      rw [Int.toNat_natCast] at hbad
      have hy2:y<g.n:=by omega
      obtain ⟨eb,eo,he,hev⟩:=t.evs (by omega)
      obtain ⟨-,z1,-⟩:=hev h6 p0 y hy2
      simp -dsimp only [go_sem,he,evs_len,u2,u3,hw,e2,a1,a3,r1.cell,r5.cell]
      refine Chk_intro (by omega) ?_
      simp -dsimp only [go_sem,z1,r1.cell,r5.cell]
      have hbad2:g.depBad true l (kr which) i (pa,(y:Int))=!kr which (g.ev y).kind:=by rw [hbad,a4,a5,b0];rfl
      by_cases w7:which=7
      ·have hkr:kr which (g.ev y).kind=!((g.ev y).kind==3):=by unfold kr;rw [if_pos w7]
       by_cases k3:(g.ev y).kind=3
       ·simp -dsimp only [go_sem,beq_t w7,beq_t k3,r1.cell,r5.cell]
        exact ⟨p0,by rw [bad (by rw [hbad2,hkr,beq_t k3];rfl)]⟩
       ·simp -dsimp only [go_sem,beq_t w7,beq_f k3,beq_f (show ¬ which=8 by omega),r1.cell,r5.cell]
        simp -dsimp (disch:=omega) only [wrap64]
        exact ⟨i+1,by omega,by simp [Le,find,hp],by omega,p0,r1,good (by rw [hbad2,hkr,beq_f k3];rfl)⟩
      ·by_cases w8:which=8
       ·have hkr:kr which (g.ev y).kind=((g.ev y).kind==2):=by unfold kr;rw [if_neg w7,if_pos w8]
        by_cases k2:(g.ev y).kind=2
        ·simp -dsimp only [go_sem,beq_f w7,beq_t w8,bne_t k2,r1.cell,r5.cell]
         simp -dsimp (disch:=omega) only [wrap64]
         exact ⟨i+1,by omega,by simp [Le,find,hp],by omega,p0,r1,good (by rw [hbad2,hkr,beq_t k2];rfl)⟩
        ·simp -dsimp only [go_sem,beq_f w7,beq_t w8,bne_f k2,r1.cell,r5.cell]
         exact ⟨p0,by rw [bad (by rw [hbad2,hkr,beq_f k2];rfl)]⟩
       ·have hkr:kr which (g.ev y).kind=true:=by unfold kr;rw [if_neg w7,if_neg w8]
        simp -dsimp only [go_sem,beq_f w7,beq_f w8,r1.cell,r5.cell]
        simp -dsimp (disch:=omega) only [wrap64]
        exact ⟨i+1,by omega,by simp [Le,find,hp],by omega,p0,r1,good (by rw [hbad2,hkr];rfl)⟩
    ·have b0:(decide (0<i)&&(decide (pr.1<pv.1)||(pr.1==pv.1)&&decide (pr.2≤pv.2)))=false:=by rw [dec_f a1,beq_f a2];simp
     simp -dsimp only [go_sem,u2,a1,beq_f a2,hw,e2,r1.cell,r5.cell]
     refine Chk_intro (by omega) ?_
     simp -dsimp only [go_sem,u2,a1,beq_f a2,hw,e2,r1.cell,r5.cell]
     refine call_of (ref8_is (t.fr p0) pr.1 1) ?_
     rintro v5 h5 ⟨f5,rfl⟩
     have f5_z:=f5.size
     replace p0:=p0.F f5
     replace r1:=r1.F f5
     replace r5:=r5.F f5
     replace u2:=f5.keep u2 (by omega)
     replace u3:=f5.keep u3 (by omega)
     cases a4:g.is pr.1 1
     ·simp -dsimp only [go_sem,u2,hw,e2,a1,beq_f a2,r1.cell,r5.cell]
      exact ⟨p0,by rw [bad (by rw [hbad,a4];simp)]⟩
     simp -dsimp only [go_sem,u2,hw,e2,a1,beq_f a2,r1.cell,r5.cell]
     refine call_of (ref8_before (t.fr p0) pr.1 pr.2) ?_
     rintro v6 h6 ⟨f6,rfl⟩
     have f6_z:=f6.size
     replace p0:=p0.F f6
     replace r1:=r1.F f6
     replace r5:=r5.F f6
     replace u2:=f6.keep u2 (by omega)
     replace u3:=f6.keep u3 (by omega)
     cases a5:g.before pr.1 pr.2
     ·simp -dsimp only [go_sem,u2,hw,e2,a1,beq_f a2,r1.cell,r5.cell]
      exact ⟨p0,by rw [bad (by rw [hbad,a5];simp)]⟩
     obtain ⟨m1,m2,m3⟩:=before_lt a5
     obtain ⟨pa,pz⟩:=pr
     dsimp only at *
     obtain ⟨y,hy⟩:=Int.eq_ofNat_of_zero_le (show 0≤pz by omega)
     subst hy
     rw [Int.toNat_natCast] at hbad
     have hy2:y<g.n:=by omega
     obtain ⟨eb,eo,he,hev⟩:=t.evs (by omega)
     obtain ⟨-,z1,-⟩:=hev h6 p0 y hy2
     simp -dsimp only [go_sem,he,evs_len,u2,hw,e2,a1,beq_f a2,r1.cell,r5.cell]
     refine Chk_intro (by omega) ?_
     simp -dsimp only [go_sem,z1,r1.cell,r5.cell]
     have hbad2:g.depBad true l (kr which) i (pa,(y:Int))=!kr which (g.ev y).kind:=by rw [hbad,a4,a5,b0];rfl
     by_cases w7:which=7
     ·have hkr:kr which (g.ev y).kind=!((g.ev y).kind==3):=by unfold kr;rw [if_pos w7]
      by_cases k3:(g.ev y).kind=3
      ·simp -dsimp only [go_sem,beq_t w7,beq_t k3,r1.cell,r5.cell]
       exact ⟨p0,by rw [bad (by rw [hbad2,hkr,beq_t k3];rfl)]⟩
      ·simp -dsimp only [go_sem,beq_t w7,beq_f k3,beq_f (show ¬ which=8 by omega),r1.cell,r5.cell]
       simp -dsimp (disch:=omega) only [wrap64]
       exact ⟨i+1,by omega,by simp [Le,find,hp],by omega,p0,r1,good (by rw [hbad2,hkr,beq_f k3];rfl)⟩
     ·by_cases w8:which=8
      ·have hkr:kr which (g.ev y).kind=((g.ev y).kind==2):=by unfold kr;rw [if_neg w7,if_pos w8]
       by_cases k2:(g.ev y).kind=2
       ·simp -dsimp only [go_sem,beq_f w7,beq_t w8,bne_t k2,r1.cell,r5.cell]
        simp -dsimp (disch:=omega) only [wrap64]
        exact ⟨i+1,by omega,by simp [Le,find,hp],by omega,p0,r1,good (by rw [hbad2,hkr,beq_t k2];rfl)⟩
       ·simp -dsimp only [go_sem,beq_f w7,beq_t w8,bne_f k2,r1.cell,r5.cell]
        exact ⟨p0,by rw [bad (by rw [hbad2,hkr,beq_f k2];rfl)]⟩
      ·have hkr:kr which (g.ev y).kind=true:=by unfold kr;rw [if_neg w7,if_neg w8]
       simp -dsimp only [go_sem,beq_f w7,beq_f w8,r1.cell,r5.cell]
       simp -dsimp (disch:=omega) only [wrap64]
       exact ⟨i+1,by omega,by simp [Le,find,hp],by omega,p0,r1,good (by rw [hbad2,hkr];rfl)⟩
 ·obtain rfl:i=l.length:=by omega
  rw [List.drop_length] at hat
  simp -dsimp only [go_sem,Int.lt_irrefl,r1.cell]
  exact ⟨p0,by rw [hat];rfl⟩
end Go.Proofs.Tst
/-
  The document's answer: rule 5.
-/
namespace Go.Proofs.Tst
open Go Go.Vc
theorem coFirst_at {g:Gr} {c:Nat} (hc:c<g.lists) (h:∀ x,x<c→g.coBad x (g.co.getD x [])=false) (hb:g.coBad c (g.co.getD c [])=true):g.coAt=(c:Int):=by
 have e:g.coFirst=c:=by
  unfold Gr.coFirst
  have:(List.range g.lists).find? (fun c=>g.coBad c (g.co.getD c []))=some c:=by
   rw [List.find?_range_eq_some]
   exact ⟨hb,List.mem_range.2 hc,fun x hx=>by rw [h x hx];rfl⟩
  rw [this];rfl
 unfold Gr.coAt
 rw [e,if_pos (.inl hc)]
theorem coFirst_all {g:Gr} (h:∀ x,x<g.lists→g.coBad x (g.co.getD x [])=false):g.coAt=if (g.co.length:Int)≠g.cells then (g.lists:Int) else -1:=by
 have e:g.coFirst=g.lists:=by
  unfold Gr.coFirst
  have:(List.range g.lists).find? (fun c=>g.coBad c (g.co.getD c []))=none:=by
   rw [List.find?_eq_none];intro x hx;rw [List.mem_range] at hx;rw [h x hx];simp
  rw [this];rfl
 unfold Gr.coAt
 rw [e]
 simp
theorem coBad_len {g:Gr} {c:Nat} {l:List Int} (h:(l.length==g.writesOf c)=false):g.coBad c l=true:=by rw [coBad_of,h,Bool.and_false];rfl
theorem coBad_ok {g:Gr} {c:Nat} {l:List Int} (h:coOk g c l=false):g.coBad c l=true:=by rw [coBad_of,h];rfl
theorem coPre_false {g:Gr} {c:Nat} {l:List Int} {j:Nat} (h:coPre g c l j=false):coOk g c l=false:=by
 cases hc:coOk g c l
 ·rfl
 ·have:coPre g c l j=true:=by
   unfold coOk at hc
   unfold coPre
   simp only [Bool.and_eq_true,List.all_eq_true,decide_eq_true_eq] at hc ⊢
   exact ⟨⟨hc.1.1,fun x hx=>hc.1.2 x (List.mem_of_mem_take hx)⟩,hc.2.sublist (List.take_sublist _ _)⟩
  rw [h] at this;cases this
theorem coBad_pre {g:Gr} {c:Nat} {l:List Int} {j:Nat} (h:coPre g c l j=false):g.coBad c l=true:=coBad_ok (coPre_false h)
theorem cntTo_all (g:Gr) (x:Int):cntTo g g.n x=g.writesOf x:=by unfold cntTo Gr.writesOf Gr.n;rw [List.take_length]
theorem contains_take {l:List Int} {i j:Nat} {a:Int} (hj:j<i) (h:l[j]?=some a):(l.take i).contains a=true:=by
 simp only [List.contains_iff_mem]
 exact List.mem_of_getElem? (i:=j) (by rw [List.getElem?_take,if_pos hj];exact h)
theorem not_contains_take {l:List Int} {i:Nat} {a:Int} (h:∀ j b,j<i→l[j]?=some b→b≠a):(l.take i).contains a=false:=by
 rw [← Bool.not_eq_true]
 intro hc
 simp only [List.contains_iff_mem] at hc
 obtain ⟨j,hj⟩:=List.mem_iff_getElem?.1 hc
 rw [List.getElem?_take] at hj
 split at hj
 ·rename_i hlt;exact h j a hlt hj rfl
 ·cases hj
theorem rl_at {h:Heap} {q:Option Addr} {n c:Nat} {L:List (List Int)} (t:RL h (.slice q n c) (L.map intsV)):∀ i,i<L.length→∃ ob oo,q=some ⟨ob,oo,none⟩∧∃ la lc,∀ h',Fr 0 0 h h' →
  hcell h' ob (oo+i)=some (.slice la (L.getD i []).length lc)∧Rd 1 h' (.slice la (L.getD i []).length lc) (L.getD i []).length (intsV (L.getD i [])):=by
 obtain ⟨us,h1,h2⟩:=t
 intro i hi
 have hl:(L.map intsV)[i]?=some (intsV (L.getD i [])):=by simp [hi]
 obtain ⟨w,hw,hr⟩:=h2 i _ hl
 rw [length_intsV] at hr
 obtain ⟨la,lc,rfl⟩:=hr.is
 obtain ⟨hlen,a,c',e1,e2⟩:=h1
 cases e1
 rcases e2 with e2 | ⟨ob,oo,rfl,hc⟩
 ·rw [List.length_map] at e2;omega
 ·exact ⟨ob,oo,rfl,la,lc,fun h' f=>⟨f.keep (hc i _ hw) (by omega),hr.fr f⟩⟩
set_option maxHeartbeats 1000000 in
theorem ref8_co {h:Heap} {q:GV} {g:Gr} (t:GrAt h q g) (hc0:0≤g.cells) :
  Con Tryd.prog 89 #[.agg (gcells q g).toArray] h fun v h'=>Fr 0 0 h h'∧v=.int .i64 g.coAt:=by
 refine con_q99 ?_
 have p0:Fr 0 0 h h:=.refl _ _ _
 have hfe:=t.fits.e
 have hfo:=t.fits.o
 have hen:g.evs.length=g.n:=rfl
 have hls:(g.lists:Int)≤g.cells∧g.lists≤g.co.length∧((g.lists:Int)=g.cells∨g.lists=g.co.length):=by unfold Gr.lists;omega
 have hrl:=rl_at t.o
 unfold gcells
 simp -dsimp only [go_sem]
 intro b1 h1 n1
 have n1_z:=n1.az
 replace p0:=p0.F n1.f0
 have r1:=n1.row
 simp -dsimp only [go_sem,r1.cell]
 refine loop_intro (fun c:Nat=>[(1,.pointer (some ⟨b1,0,none⟩)),(3,.int .i64 c)])
  (fun c h'=>c≤g.lists∧Fr 0 0 h h'∧Rw h' b1 (gcells q g)∧∀ x,x<c→g.coBad x (g.co.getD x [])=false) (fun c=>g.lists - c) 0 ?_ ?_ ?_
 ·simp [Le,find]
 ·exact ⟨by omega,p0,r1,fun x hx=>by omega⟩
 clear p0 r1
 rintro c h2 ⟨hc,p0,r1,hgood⟩
 unfold gcells at r1
 have p0_z:=p0.size
 have r1_l:=r1.lt
 by_cases hlt:c<g.lists
 rotate_left
 ·obtain rfl:c=g.lists:=by omega
  have hall:=coFirst_all hgood
  by_cases e3:(g.co.length:Int)<g.cells
  ·have e1:(g.lists:Int)<g.cells:=by omega
   have e2:¬ ((g.lists:Int)<(g.co.length:Int)):=by omega
   simp -dsimp only [go_sem,e1,e2,e3,r1.cell]
   exact ⟨p0,by rw [hall,if_pos (by omega)];congr 1;omega⟩
  ·have e1:¬ (g.lists:Int)<g.cells:=by omega
   by_cases e4:(g.co.length:Int) > g.cells
   ·simp -dsimp only [go_sem,e1,e3,e4,r1.cell]
    exact ⟨p0,by rw [hall,if_pos (by omega)];congr 1;omega⟩
   ·simp -dsimp only [go_sem,e1,e3,e4,r1.cell]
    exact ⟨p0,by rw [hall,if_neg (by omega)]⟩
 have e1:((c:Int)<g.cells):=by omega
 have e2:((c:Int)<(g.co.length:Int)):=by omega
 obtain ⟨ob,oo,hoe,la,lc,hlist⟩:=hrl c (by omega)
 have hll:=t.fits.l (g.co.getD c []) (by have:g.co[c]?=some (g.co.getD c []):=by { simp [show c<g.co.length by omega] };exact List.mem_of_getElem? this)
 have bad:g.coBad c (g.co.getD c [])=true→g.coAt=(c:Int):=coFirst_at hlt hgood
 have next:g.coBad c (g.co.getD c [])=false→∀ x,x<c+1→g.coBad x (g.co.getD x [])=false:=fun hb x hx=>by
  by_cases hxc:x=c
  ·subst hxc;exact hb
  ·exact hgood x (by omega)
 generalize hl:g.co.getD c []=l at hlist hll bad next
 obtain ⟨l1,l2⟩:=hlist h2 p0
 by_cases hz:l.length=0
 ·have e3:(l.length:Int)=0:=by omega
  simp -dsimp only [go_sem,e1,e2,hoe,l1,beq_t e3,r1.cell]
  exact ⟨p0,by rw [bad (coBad_pre (j:=0) (by rw [coPre_zero];cases l with | nil=>rfl | cons x l=>simp at hz))]⟩
 have e3:¬ (l.length:Int)=0:=by omega
 obtain ⟨w0,hw0⟩:∃ w0,l[0]?=some w0:=⟨l[0],by simp [show 0<l.length by omega]⟩
 have hhd:l.head?=some w0:=by rw [List.head?_eq_getElem?];exact hw0
 obtain ⟨lb,lo,hle,hlc⟩:∃ b o,la=some ⟨b,o,none⟩∧∀ h',Fr 0 0 h h'→∀ (i:Nat) (x:Int),l[i]?=some x→hcell h' b (o+i)=some (.int .i64 x):=by
  obtain ⟨hl1,a,c',k1,k2⟩:=l2
  cases k1
  rcases k2 with k2 | ⟨b,o,k3,k4⟩
  ·omega
  ·refine ⟨b,o,k3,fun h' f i x hx=>?_⟩
   obtain ⟨-,a',c'',m1,m2⟩:=(hlist h' f).2
   cases m1
   rw [k3] at m2
   rcases m2 with m2 | ⟨b',o',m3,m4⟩
   ·omega
   ·cases m3;exact m4 i _ (intsV_get hx)
 have c0:=hlc h2 p0 0 _ hw0
 rw [Nat.add_zero] at c0
 have e4:(0:Int)<(l.length:Int):=by omega
 by_cases hwc:w0=(c:Int)
 rotate_left
 ·simp -dsimp only [go_sem,e1,e2,hoe,l1,beq_f e3,hle,e4,c0,Int.toNat_zero,Nat.zero_mul,Nat.add_zero,bne_f hwc,r1.cell]
  exact ⟨p0,by rw [bad (coBad_pre (j:=0) (by rw [coPre_zero,hhd];simpa using hwc))]⟩
 simp -dsimp only [go_sem,e1,e2,hoe,l1,beq_f e3,hle,e4,c0,Int.toNat_zero,Nat.zero_mul,Nat.add_zero,bne_t hwc,r1.cell]
 refine loop_intro (fun i:Nat=>[(1,.pointer (some ⟨b1,0,none⟩)),(3,.int .i64 c),(4,.slice la l.length lc),(5,.int .i64 (cntTo g i c:Nat)),(6,.int .i64 i)])
  (fun i h'=>i≤g.n∧Fr 0 0 h h'∧Rw h' b1 (gcells q g)) (fun i=>g.n - i) 0 ?_ ?_ ?_
 ·simp [Le,find,cntTo,hle]
 ·exact ⟨by omega,p0,r1⟩
 clear l1 l2 c0 p0 r1
 rintro i h2 ⟨hi,p0,r1⟩
 unfold gcells at r1
 have p0_z:=p0.size
 have r1_l:=r1.lt
 have hcn:cntTo g i c≤g.n:=Nat.le_trans List.countP_le_length (by rw [List.length_take];unfold Gr.n;omega)
 by_cases hin:i<g.n
 ·have e5:((i:Int)<(g.n:Int)):=by omega
  obtain ⟨eb,eo,he,hev⟩:=t.evs (by omega)
  obtain ⟨k0,k1,k2,k3,k4⟩:=hev h2 p0 i hin
  have hsucc:=cntTo_succ hin (c:Int)
  by_cases a1:(g.ev i).kind=2
  ·by_cases a2:(g.ev i).loc=(c:Int)
   ·have hww:IntKind.i64.wrap ((cntTo g i c:Int)+1)=((cntTo g i c+1:Nat):Int):=by rw [wrap64 (by omega) (by omega)];omega
    simp -dsimp only [go_sem,e5,he,evs_len,r1.cell]
    simp -dsimp only [go_sem,k1,beq_t a1,he,evs_len,e5,r1.cell]
    simp -dsimp only [go_sem,k1,k2,beq_t a1,beq_t a2,he,evs_len,hww,r1.cell]
    simp -dsimp (disch:=omega) only [wrap64]
    exact ⟨i+1,by omega,by simp [Le,find,hsucc,a1,a2],by omega,p0,r1⟩
   ·simp -dsimp only [go_sem,e5,he,evs_len,r1.cell]
    simp -dsimp only [go_sem,k1,beq_t a1,he,evs_len,e5,r1.cell]
    simp -dsimp only [go_sem,k1,k2,beq_t a1,beq_f a2,he,evs_len,r1.cell]
    simp -dsimp (disch:=omega) only [wrap64]
    exact ⟨i+1,by omega,by simp [Le,find,hsucc,a2],by omega,p0,r1⟩
  ·simp -dsimp only [go_sem,e5,he,evs_len,r1.cell]
   simp -dsimp only [go_sem,k1,beq_f a1,he,evs_len,r1.cell]
   simp -dsimp (disch:=omega) only [wrap64]
   exact ⟨i+1,by omega,by simp [Le,find,hsucc,a1],by omega,p0,r1⟩
 obtain rfl:i=g.n:=by omega
 rw [cntTo_all]
 rw [cntTo_all] at hcn
 by_cases hn:l.length=g.writesOf c
 rotate_left
 ·have e5:¬ (l.length:Int)=(g.writesOf c:Int):=by omega
  simp -dsimp only [go_sem,evs_len,Int.lt_irrefl,bne_f e5,r1.cell]
  exact ⟨p0,by rw [bad (coBad_len (by simpa using hn))]⟩
 have e5:(l.length:Int)=(g.writesOf c:Int):=by omega
 simp -dsimp only [go_sem,evs_len,Int.lt_irrefl,bne_t e5,r1.cell]
 refine loop_intro (fun i:Nat=>[(1,.pointer (some ⟨b1,0,none⟩)),(3,.int .i64 c),(4,.slice la l.length lc),(7,.int .i64 i)])
  (fun i h'=>i≤l.length∧Fr 0 0 h h'∧Rw h' b1 (gcells q g)∧coPre g c l i=true) (fun i=>l.length - i) 0 ?_ ?_ ?_
 ·simp [Le,find,hle]
 ·exact ⟨by omega,p0,r1,by rw [coPre_zero,hhd,hwc];simp⟩
 clear p0 r1
 rintro i h2 ⟨hi,p0,r1,hpre⟩
 unfold gcells at r1
 have p0_z:=p0.size
 have r1_l:=r1.lt
 by_cases hil:i<l.length
 rotate_left
 ·obtain rfl:i=l.length:=by omega
  have hok:g.coBad c l=false:=by rw [coBad_of,← coPre_all,hpre];simpa using hn
  simp -dsimp only [go_sem,Int.lt_irrefl,r1.cell]
  simp -dsimp (disch:=omega) only [wrap64]
  exact ⟨c+1,by omega,by simp [Le,find],by omega,p0,r1,next hok⟩
 have e6:((i:Int)<(l.length:Int)):=by omega
 obtain ⟨w,hq⟩:∃ w,l[i]?=some w:=⟨l[i],by simp [hil]⟩
 have cw:=hlc h2 p0 i _ hq
 have hsucc:=coPre_succ (g:=g) (c:=c) hq
 rw [hpre,Bool.true_and] at hsucc
 simp -dsimp only [go_sem,e6,hle,r1.cell]
 simp -dsimp only [go_sem,cw,r1.cell]
 refine call_of (ref8_is (t.fr p0) w 2) ?_
 rintro v5 h5 ⟨f5,rfl⟩
 have f5_z:=f5.size
 replace p0:=p0.F f5
 replace r1:=r1.F f5
 cases a4:g.is w 2
 ·simp -dsimp only [go_sem,r1.cell]
  exact ⟨p0,by rw [bad (coBad_pre (j:=i+1) (by rw [hsucc];unfold coGood;rw [a4];rfl))]⟩
 obtain ⟨m1,m2,m3⟩:=is_lt a4
 obtain ⟨x,rfl⟩:=Int.eq_ofNat_of_zero_le m1
 obtain ⟨eb,eo,he,hev⟩:=t.evs (by omega)
 obtain ⟨w0',w1',w2',w3',w4'⟩:=hev h5 p0 x (by omega)
 have cw:=hlc h5 p0 i _ hq
 have e7:(0:Int)≤(x:Int)∧(x:Int)<(g.n:Int):=by omega
 by_cases a5:(g.ev x).loc=(c:Int)
 rotate_left
 ·simp -dsimp only [go_sem,hle,he,evs_len,e6,r1.cell]
  simp -dsimp only [go_sem,cw,he,evs_len,hle,e6,r1.cell]
  refine Chk_intro (by omega) ?_
  simp -dsimp only [go_sem,w2',bne_f a5,r1.cell]
  exact ⟨p0,by rw [bad (coBad_pre (j:=i+1) (by rw [hsucc];unfold coGood;rw [Int.toNat_natCast,beq_f a5];simp))]⟩
 have hgood2:coGood g c (x:Int)=true:=by unfold coGood;rw [a4,Int.toNat_natCast,beq_t a5];rfl
 rw [hgood2,Bool.true_and] at hsucc
 simp -dsimp only [go_sem,hle,he,evs_len,e6,r1.cell]
 simp -dsimp only [go_sem,cw,he,evs_len,hle,e6,r1.cell]
 refine Chk_intro (by omega) ?_
 simp -dsimp only [go_sem,w2',bne_t a5,r1.cell]
 refine loop_intro (fun j:Nat=>[(1,.pointer (some ⟨b1,0,none⟩)),(3,.int .i64 c),(4,.slice la l.length lc),(7,.int .i64 i),(8,.int .i64 j)])
  (fun j h'=>j≤i∧Fr 0 0 h h'∧Rw h' b1 (gcells q g)∧∀ k b,k<j→l[k]?=some b→b≠(x:Int)) (fun j=>i - j) 0 ?_ ?_ ?_
 ·simp [Le,find,hle]
 ·exact ⟨by omega,p0,r1,fun k b hk=>by omega⟩
 clear p0 r1 f5
 rintro j h2 ⟨hj,p0,r1,hno⟩
 unfold gcells at r1
 have p0_z:=p0.size
 have r1_l:=r1.lt
 by_cases hji:j<i
 ·have e8:((j:Int)<(i:Int)):=by omega
  obtain ⟨z,hz2⟩:∃ z,l[j]?=some z:=⟨l[j],by simp [show j<l.length by omega]⟩
  have cz:=hlc h2 p0 j _ hz2
  have cw:=hlc h2 p0 i _ hq
  by_cases a6:z=(x:Int)
  ·simp -dsimp only [go_sem,e8,hle,r1.cell]
   refine Chk_intro (by omega) ?_
   simp -dsimp only [go_sem,cz,e6,hle,r1.cell]
   simp -dsimp only [go_sem,cz,cw,beq_t a6,r1.cell]
   exact ⟨p0,by rw [bad (coBad_pre (j:=i+1) (by rw [hsucc,← a6,contains_take hji hz2];rfl))]⟩
  ·simp -dsimp only [go_sem,e8,hle,r1.cell]
   refine Chk_intro (by omega) ?_
   simp -dsimp only [go_sem,cz,e6,hle,r1.cell]
   simp -dsimp only [go_sem,cz,cw,beq_f a6,r1.cell]
   simp -dsimp (disch:=omega) only [wrap64]
   refine ⟨j+1,by omega,by simp [Le,find,hle],by omega,p0,r1,fun k b hk hb=>?_⟩
   by_cases hkj:k=j
   ·subst hkj;rw [hz2] at hb;cases hb;exact a6
   ·exact hno k b (by omega) hb
 ·obtain rfl:j=i:=by omega
  simp -dsimp only [go_sem,Int.lt_irrefl,r1.cell]
  simp -dsimp (disch:=omega) only [wrap64]
  exact ⟨j+1,by omega,by simp [Le,find,hle],by omega,p0,r1,by rw [hsucc,not_contains_take hno];rfl⟩
end Go.Proofs.Tst
/-
  The document's Check: plain.
-/
namespace Go.Proofs.Tst
open Go Go.Vc
theorem firstEv_neg {f:Nat→Bool}:∀ (d i:Nat),¬ 0≤Gr.firstEv f d i→∀ j,i≤j→j<i+d→f j=false
 | 0,i,_,j,h1,h2=>by omega
 | d+1,i,h,j,h1,h2=>by
  cases hf:f i
  ·rw [firstEv_ok hf] at h
   by_cases hj:j=i
   ·subst hj;exact hf
   ·exact firstEv_neg d (i+1) h j (by omega) (by omega)
  ·rw [firstEv_bad hf] at h;omega
theorem firstBad_congr {f f':Nat→Int×Int→Bool}:∀ {l:List (Int×Int)} {i:Nat},(∀ j,∀ p∈l,f j p=f' j p)→Gr.firstBad f l i=Gr.firstBad f' l i
 | [],_,_=>rfl
 | p :: l,i,h=>by
  unfold Gr.firstBad
  rw [h i p (by simp),firstBad_congr fun j p hp=>h j p (by simp [hp])]
theorem modeOk_kind {words:Bool} {k m:Int} (h:Gr.modeOk words k m=true):k=1∨k=2∨k=3:=by
 unfold Gr.modeOk at h
 split at h
 all_goals
  simp only [Bool.or_eq_true,Bool.and_eq_true,beq_iff_eq] at h
  omega
theorem kinds_ok {g:Gr} {words:Bool} (h1:g.size=true) (h2:¬ 0≤g.initAt words) (h3:¬ 0≤g.evAt words) (i:Nat) (hi:i<g.n):(g.ev i).kind=1∨(g.ev i).kind=2∨(g.ev i).kind=3:=by
 simp only [Gr.size,Bool.and_eq_true,decide_eq_true_eq] at h1
 obtain ⟨⟨⟨s1,s2⟩,s3⟩,s4⟩:=h1
 by_cases hc:i<g.cells.toNat
 ·have:=firstEv_neg _ _ h2 i (by omega) (by omega)
  simp only [Bool.not_eq_false',beq_iff_eq] at this
  rw [this];exact .inr (.inl rfl)
 ·have:=firstEv_neg _ _ h3 i (by omega) (by omega)
  simp only [Bool.not_eq_false'] at this
  unfold Gr.evOk at this
  simp only [Bool.and_eq_true] at this
  exact modeOk_kind this.1.2
theorem dep_same {g:Gr} (hk:∀ i,i<g.n→(g.ev i).kind=1∨(g.ev i).kind=2∨(g.ev i).kind=3) (l:List (Int×Int)) {f f':Int→Bool} (hf:∀ k:Int,k=1∨k=2∨k=3→f k=f' k):g.depAt true l f=g.depAt true l f':=by
 unfold Gr.depAt
 refine firstBad_congr fun j p _=>?_
 unfold Gr.depBad
 cases hb:g.before p.1 p.2
 ·simp
 ·obtain ⟨b1,b2,b3⟩:=before_lt hb
  rw [hf _ (hk _ (by omega))]
theorem dep_plain (g:Gr) (l:List (Int×Int)) (f:Int→Bool):g.depAt false l f=if l.length=0 then -1 else 0:=by
 unfold Gr.depAt
 cases l with
 | nil=>rfl
 | cons p l =>
  unfold Gr.firstBad
  have:g.depBad false (p :: l) f 0 p=true:=by unfold Gr.depBad;simp
  rw [this];simp
theorem dep_doc {g:Gr} {words:Bool} (h1:g.size=true) (h2:¬ 0≤g.initAt words) (h3:¬ 0≤g.evAt words) (l:List (Int×Int)) (which:Int) {f:Int→Bool} (hf:∀ k:Int,k=1∨k=2∨k=3→kr which k=f k) :
  g.depAt words l f=if words=false∧0<l.length then 0 else g.depAt true l (kr which):=by
 cases words with
 | true=>rw [if_neg (by simp)];exact (dep_same (kinds_ok h1 h2 h3) l hf).symm
 | false =>
  rw [dep_plain]
  cases l with
  | nil=>rfl
  | cons p l=>simp
theorem kr7 (k:Int) (h:k=1∨k=2∨k=3):kr 7 k=(k==1||k==2):=by rcases h with rfl | rfl | rfl <;> rfl
theorem kr8 (k:Int) (_:k=1∨k=2∨k=3):kr 8 k=(k==2):=rfl
theorem kr9 (k:Int) (h:k=1∨k=2∨k=3):kr 9 k=(k==1||k==2||k==3):=by rcases h with rfl | rfl | rfl <;> rfl
def chkR2 (g:Gr) (words:Bool):Int×Int:=if 0≤g.depAt words g.ctrl (fun k=>k==1||k==2||k==3) then (9,g.depAt words g.ctrl (fun k=>k==1||k==2||k==3)) else (0,0)
def chkR1 (g:Gr) (words:Bool):Int×Int:=if 0≤g.depAt words g.data (fun k=>k==2) then (8,g.depAt words g.data (fun k=>k==2)) else chkR2 g words
def chkR0 (g:Gr) (words:Bool):Int×Int:=if 0≤g.depAt words g.addr (fun k=>k==1||k==2) then (7,g.depAt words g.addr (fun k=>k==1||k==2)) else chkR1 g words
def chkRest (g:Gr) (words:Bool):Nat→Int×Int
 | 0=>chkR0 g words
 | 1=>chkR1 g words
 | 2=>chkR2 g words
 | _=>(0,0)
set_option maxHeartbeats 1000000 in
theorem ref8_Check {h:Heap} {q:GV} {g:Gr} (t:GrAt h q g) (words:Bool) :
  Con Tryd.prog 49 #[.agg (gcells q g).toArray,.bool words] h fun v h'=>Fr 0 0 h h'∧v=.tuple #[.int .i64 (g.check words).1,.int .i64 (g.check words).2]:=by
 refine con_q90 ?_
 have hen:g.evs.length=g.n:=rfl
 have hfe:=t.fits.e
 unfold gcells
 have p0:Fr 0 0 h h:=.refl _ _ _
 have p0_z:=p0.size
 simp -dsimp only [go_sem]
 intro b2 h1 n2
 have n2_z:=n2.az
 replace p0:=p0.F n2.f0
 have r2:=n2.row
 have t1:=t.fr p0
 by_cases s1:0≤g.cells
 rotate_left
 ·have e1:g.cells<0:=by omega
  simp -dsimp only [go_sem,e1,r2.cell]
  refine ⟨p0,?_⟩
  have:g.check words=(1,0):=by unfold Gr.check Gr.size;rw [dec_f s1];rfl
  rw [this]
 have e1:¬ g.cells<0:=by omega
 by_cases s2:g.cells≤4096
 rotate_left
 ·have e2:g.cells > 4096:=by omega
  simp -dsimp only [go_sem,e1,e2,r2.cell]
  refine ⟨p0,?_⟩
  have:g.check words=(1,0):=by unfold Gr.check Gr.size;rw [dec_f s2,Bool.and_false];rfl
  rw [this]
 have e2:¬ g.cells > 4096:=by omega
 by_cases s3:g.cells≤(g.n:Int)
 rotate_left
 ·have e3:(g.n:Int)<g.cells:=by omega
  simp -dsimp only [go_sem,e1,e2,e3,evs_len,r2.cell]
  refine ⟨p0,?_⟩
  have:g.check words=(1,0):=by unfold Gr.check Gr.size;rw [dec_f s3,Bool.and_false];rfl
  rw [this]
 have e3:¬ (g.n:Int)<g.cells:=by omega
 by_cases s4:g.n≤256
 rotate_left
 ·have e4:(g.n:Int) > 256:=by omega
  simp -dsimp only [go_sem,e1,e2,e3,e4,evs_len,r2.cell]
  refine ⟨p0,?_⟩
  have:g.check words=(1,0):=by unfold Gr.check Gr.size;rw [dec_f s4,Bool.and_false];rfl
  rw [this]
 have e4:¬ (g.n:Int) > 256:=by omega
 have hsz:=sizeF s1 s2 s3 s4
 obtain ⟨c,hc⟩:=Int.eq_ofNat_of_zero_le s1
 simp -dsimp only [go_sem,e1,e2,e3,e4,evs_len,r2.cell]
 intro b6 h3 n6
 have n6_z:=n6.az
 replace p0:=p0.F n6.f0
 replace r2:=r2.F n6.f0
 have r6:=n6.row
 simp -dsimp only [go_sem,r2.cell,r6.cell]
 refine Chk_intro (r6.W) fun h4 s4'=>?_
 have s4'_z:=s4'.size
 replace p0:=p0.fresh s4'.fr (by omega)
 replace r2:=r2.fr s4'.fr (by omega)
 replace r6:=s4'.row r6
 try simp only [cl_int,cl_bool,cl_slice,cl_ptr,putAt_one,zs0,zs1,ivec_set,brow_upd] at r6
 simp -dsimp only [go_sem] at r6
 simp -dsimp only [go_sem,r2.cell,r6.cell]
 refine If_joint (fun _:Unit=>[(1,.bool words),(2,.pointer (some ⟨b2,0,none⟩)),(6,.pointer (some ⟨b6,0,none⟩))])
  (fun _ h'=>Fr 0 0 h h'∧h'.size=h4.size∧Rw h' b2 (gcells q g)∧Rw h' b6 [.int .i64 (-1),.int .i64 2,.int .i64 0,.int .u64 0,.int .i64 (if words then 11 else 1)]) (fun hw=>?_) (fun hw=>?_) ?_
 ·subst hw
  simp -dsimp only [go_sem,r2.cell,r6.cell]
  refine Chk_intro (r6.W) fun h5 s5=>?_
  have s5_z:=s5.size
  replace p0:=p0.F s5.fr
  replace r2:=r2.F s5.fr
  replace r6:=s5.row r6
  try simp only [cl_int,cl_bool,cl_slice,cl_ptr,putAt_one,zs0,zs1,ivec_set,brow_upd] at r6
  simp -dsimp only [go_sem,r2.cell,r6.cell]
  exact ⟨(),by simp [Le,find],p0,by omega,r2,r6⟩
 ·have hw:words=false:=by simpa using hw
  subst hw
  simp -dsimp only [go_sem,r2.cell,r6.cell]
  exact ⟨(),by simp [Le,find],p0,r2,r6⟩
 clear r2 r6 p0 t1
 rintro ⟨⟩ h5 ⟨p0,z5,r2,r6⟩ e ⟨el1,el2,el6,-⟩
 unfold gcells at r2
 have p0_z:=p0.size
 have r2_l:=r2.lt
 have r6_l:=r6.lt
 simp -dsimp only [go_sem,el1,el2,el6,hc,r2.cell,r6.cell]
 refine loop_intro (fun s:Nat×Int=>[(1,.bool words),(2,.pointer (some ⟨b2,0,none⟩)),(6,.pointer (some ⟨b6,0,none⟩)),(7,.int .i64 s.1)])
  (fun s h'=>s.1≤c∧Fr 0 0 h h'∧h'.size=h5.size∧Rw h' b2 (gcells q g)∧Rw h' b6 [.int .i64 (-1),.int .i64 2,.int .i64 s.2,.int .u64 0,.int .i64 (if words then 11 else 1)]∧g.initAt words=Gr.firstEv (fun c=>!(g.ev c==Gr.first words c)) (c - s.1) s.1) (fun s=>c - s.1) (0,0) ?_ ?_ ?_
 ·simp [Le,find]
 ·exact ⟨by omega,p0,rfl,r2,r6,by unfold Gr.initAt;rw [hc];rfl⟩
 clear r2 r6 p0
 rintro ⟨i,lv⟩ h6 ⟨hi,p0,z6,r2,r6,hat⟩
 dsimp only at hi r6 hat ⊢
 unfold gcells at r2
 have p0_z:=p0.size
 have r2_l:=r2.lt
 have r6_l:=r6.lt
 by_cases hlt:i<c
 ·have f1:((i:Int)<(c:Int)):=by omega
  obtain ⟨d,hd⟩:∃ d,c - i=d+1:=⟨c - i - 1,by omega⟩
  rw [hd] at hat
  have hd2:d=c - (i+1):=by omega
  simp -dsimp only [go_sem,f1,hc,r2.cell,r6.cell]
  refine Chk_intro (r6.W) fun h7 s7=>?_
  have s7_z:=s7.size
  replace p0:=p0.F s7.fr
  replace r2:=r2.F s7.fr
  replace r6:=s7.row r6
  try simp only [cl_int,cl_bool,cl_slice,cl_ptr,putAt_one,zs0,zs1,ivec_set,brow_upd] at r6
  obtain ⟨eb,eo,he,hev⟩:=t.evs (by omega)
  obtain ⟨c0,c1,c2,c3,c4⟩:=hev h7 p0 i (by omega)
  simp -dsimp only [go_sem,he,evs_len,r2.cell,r6.cell]
  refine Chk_intro (by omega) ?_
  simp -dsimp only [go_sem,c0,c1,c2,c3,c4,r2.cell,r6.cell]
  rw [first_eq]
  cases hb:(g.ev i==Gr.first words i)
  ·simp -dsimp only [go_sem,r2.cell,r6.cell]
   refine ⟨p0,?_⟩
   have hia:g.initAt words=(i:Int):=by rw [hat,firstEv_bad (by rw [hb];rfl)]
   have:g.check words=(2,(i:Int)):=by unfold Gr.check;rw [hsz,hia,if_neg (by simp),if_pos (by omega)]
   rw [this]
  ·simp -dsimp only [go_sem,r2.cell,r6.cell]
   simp -dsimp (disch:=omega) only [wrap64]
   exact ⟨(i+1,i),by omega,by simp [Le,find],by omega,p0,by omega,r2,r6,by rw [hat,firstEv_ok (by rw [hb];rfl),hd2]⟩
 obtain rfl:i=c:=by omega
 rw [Nat.sub_self] at hat
 have hia:¬ 0≤g.initAt words:=by rw [hat];simp [Gr.firstEv]
 have hevA:g.evAt words=Gr.firstEv (fun i=>!g.evOk words (g.ev i)) (g.n - i) i:=by unfold Gr.evAt;rw [hc,Int.toNat_natCast]
 simp -dsimp only [go_sem,Int.lt_irrefl,hc,r2.cell,r6.cell]
 refine loop_intro (fun j:Nat=>[(1,.bool words),(2,.pointer (some ⟨b2,0,none⟩)),(8,.int .i64 j)])
  (fun j h'=>i≤j∧j≤g.n∧Fr 0 0 h h'∧Rw h' b2 (gcells q g)∧g.evAt words=Gr.firstEv (fun i=>!g.evOk words (g.ev i)) (g.n - j) j) (fun j=>g.n - j) i ?_ ?_ ?_
 ·simp [Le,find]
 ·exact ⟨by omega,by omega,p0,r2,hevA⟩
 clear r2 r6 p0 hevA
 rintro j h7 ⟨hij,hj,p0,r2,hevA⟩
 unfold gcells at r2
 have p0_z:=p0.size
 have r2_l:=r2.lt
 by_cases hlt2:j<g.n
 ·have f1:((j:Int)<(g.n:Int)):=by omega
  obtain ⟨d,hd⟩:∃ d,g.n - j=d+1:=⟨g.n - j - 1,by omega⟩
  rw [hd] at hevA
  have hd2:d=g.n - (j+1):=by omega
  obtain ⟨eb,eo,he,hev⟩:=t.evs (by omega)
  obtain ⟨c0,c1,c2,c3,c4⟩:=hev h7 p0 j hlt2
  simp -dsimp only [go_sem,f1,he,evs_len,r2.cell]
  simp -dsimp only [go_sem,c0,c1,c2,c3,c4,r2.cell]
  rw [← he]
  refine call_of (ref8_event (q:=q) (g:=g) (g.ev j) words) ?_
  rintro v8 h8 ⟨f8,rfl⟩
  have f8_z:=f8.size
  replace p0:=p0.F f8
  replace r2:=r2.F f8
  obtain ⟨c0,c1,c2,c3,c4⟩:=hev h8 p0 j hlt2
  cases hb:g.evOk words (g.ev j)
  ·simp -dsimp only [go_sem,c0,c1,c2,c3,c4,evs_len,r2.cell]
   refine ⟨p0,?_⟩
   have hia2:g.evAt words=(j:Int):=by rw [hevA,firstEv_bad (by rw [hb];rfl)]
   have:g.check words=(3,(j:Int)):=by unfold Gr.check;rw [hsz,if_neg (by simp),if_neg hia,hia2,if_pos (by omega)]
   rw [this]
  ·simp -dsimp only [go_sem,c0,c1,c2,c3,c4,evs_len,r2.cell]
   simp -dsimp (disch:=omega) only [wrap64]
   exact ⟨j+1,by omega,by simp [Le,find],by omega,by omega,p0,r2,by rw [hevA,firstEv_ok (by rw [hb];rfl),hd2]⟩
 obtain rfl:j=g.n:=by omega
 rw [Nat.sub_self] at hevA
 have c18:¬ 0≤g.evAt words:=by rw [hevA];simp [Gr.firstEv]
 have hchk:g.check words=if 0≤g.rfAt then (4,g.rfAt) else if 0≤g.coAt then (5,g.coAt) else if 0≤g.rmwAt then (6,g.rmwAt) else chkRest g words 0:=by
  unfold Gr.check;rw [hsz,if_neg (by simp),if_neg hia,if_neg c18];rfl
 simp -dsimp only [go_sem,Int.lt_irrefl,evs_len,r2.cell]
 refine call_of (ref8_rf (t.fr p0)) ?_
 rintro v19 h19 ⟨f19,rfl⟩
 have f19_z:=f19.size
 replace p0:=p0.F f19
 replace r2:=r2.F f19
 by_cases c19:0≤g.rfAt
 ·rw [if_pos c19] at hchk
  have c19':g.rfAt≥0:=c19
  simp -dsimp only [go_sem,c19',r2.cell]
  exact ⟨p0,by rw [hchk]⟩
 rw [if_neg c19] at hchk
 have c19':¬ g.rfAt≥0:=c19
 simp -dsimp only [go_sem,c19',r2.cell]
 refine call_of (ref8_co (t.fr p0) s1) ?_
 rintro v20 h20 ⟨f20,rfl⟩
 have f20_z:=f20.size
 replace p0:=p0.F f20
 replace r2:=r2.F f20
 by_cases c20:0≤g.coAt
 ·rw [if_pos c20] at hchk
  have c20':g.coAt≥0:=c20
  simp -dsimp only [go_sem,c20',r2.cell]
  exact ⟨p0,by rw [hchk]⟩
 rw [if_neg c20] at hchk
 have c20':¬ g.coAt≥0:=c20
 simp -dsimp only [go_sem,c20',r2.cell]
 refine call_of (ref8_rmw (t.fr p0)) ?_
 rintro v21 h21 ⟨f21,rfl⟩
 have f21_z:=f21.size
 replace p0:=p0.F f21
 replace r2:=r2.F f21
 by_cases c21:0≤g.rmwAt
 ·rw [if_pos c21] at hchk
  have c21':g.rmwAt≥0:=c21
  simp -dsimp only [go_sem,c21',r2.cell]
  exact ⟨p0,by rw [hchk]⟩
 rw [if_neg c21] at hchk
 have c21':¬ g.rmwAt≥0:=c21
 simp -dsimp only [go_sem,c21',r2.cell]
 intro b10 h22 n22
 have n22_z:=n22.az
 replace p0:=p0.F n22.f0
 replace r2:=r2.F n22.f0
 have r10:=n22.row
 simp -dsimp only [go_sem,r2.cell,r10.cell]
 refine loop_intro (fun k:Nat=>[(1,.bool words),(2,.pointer (some ⟨b2,0,none⟩)),(10,.slice (some ⟨b10,0,none⟩) 3 3),(11,.int .i64 k)])
  (fun k h'=>k≤3∧Fr 0 0 h h'∧Rw h' b2 (gcells q g)∧Rw h' b10 [.slice q.a g.addr.length q.ac,.slice q.d g.data.length q.dc,.slice q.c g.ctrl.length q.cc]∧g.check words=chkRest g words k) (fun k=>3 - k) 0 ?_ ?_ ?_
 ·simp [Le,find]
 ·exact ⟨by omega,p0,r2,r10,hchk⟩
 clear r2 r10 p0 hchk
 rintro k h7 ⟨hk,p0,r2,r10,hat⟩
 unfold gcells at r2
 have p0_z:=p0.size
 have r2_l:=r2.lt
 have r10_l:=r10.lt
 have hk4:k=0∨k=1∨k=2∨k=3:=by omega
 rcases hk4 with rfl | rfl | rfl | rfl
 ·skip
  have l0:(0:Nat)<3:=by decide
  simp -dsimp only [go_sem,show ((0:Nat):Int)<3 from by decide,r2.cell,r10.cell]
  refine Chk_intro (by decide) ?_
  simp -dsimp only [go_sem,show IntKind.i64.wrap (7+((0:Nat):Int))=(7:Int) from rfl,r2.cell,r10.cell]
  refine call_of (ref8_deps (t.fr p0) (t.a.fr p0) t.fits.a 7) ?_
  rintro v5 h5 ⟨f5,rfl⟩
  have f5_z:=f5.size
  replace p0:=p0.F f5
  replace r2:=r2.F f5
  replace r10:=r10.F f5
  have hdd:=dep_doc hsz hia c18 g.addr 7 kr7
  have hrs:chkRest g words 0=if 0≤g.depAt words g.addr (fun k=>k==1||k==2) then (7,g.depAt words g.addr (fun k=>k==1||k==2)) else chkRest g words (0+1):=rfl
  rw [hrs] at hat
  cases words with
  | true =>
   rw [if_neg (by simp)] at hdd
   rw [hdd] at hat
   by_cases c22:0≤g.depAt true g.addr (kr 7)
   ·rw [if_pos c22] at hat
    have c22':g.depAt true g.addr (kr 7)≥0:=c22
    simp -dsimp only [go_sem,c22',show IntKind.i64.wrap (7+((0:Nat):Int))=(7:Int) from rfl,r2.cell,r10.cell]
    exact ⟨p0,by rw [hat]⟩
   ·rw [if_neg c22] at hat
    have c22':¬ g.depAt true g.addr (kr 7)≥0:=c22
    simp -dsimp only [go_sem,c22',r2.cell,r10.cell]
    simp -dsimp (disch:=omega) only [wrap64]
    exact ⟨0+1,by decide,by simp [Le,find],by decide,p0,r2,r10,hat⟩
  | false =>
   by_cases hl0:0<(g.addr).length
   ·rw [if_pos ⟨rfl,hl0⟩] at hdd
    rw [hdd,if_pos (by decide)] at hat
    have hl1:((g.addr).length:Int) > 0:=by omega
    simp -dsimp only [go_sem,show ((0:Nat):Int)<3 from by decide,r2.cell,r10.cell]
    refine Chk_intro (by decide) ?_
    simp -dsimp only [go_sem,hl1,show IntKind.i64.wrap (7+((0:Nat):Int))=(7:Int) from rfl,r2.cell,r10.cell]
    exact ⟨p0,by rw [hat]⟩
   ·rw [if_neg (by omega)] at hdd
    have hnil:g.addr=[]:=by rw [← List.length_eq_zero_iff];omega
    have hdn:g.depAt true g.addr (kr 7) = -1:=by rw [hnil];rfl
    rw [hdd,hdn,if_neg (by decide)] at hat
    have hl1:¬ ((g.addr).length:Int) > 0:=by omega
    rw [hdn]
    simp -dsimp only [go_sem,show ((0:Nat):Int)<3 from by decide,r2.cell,r10.cell]
    refine Chk_intro (by decide) ?_
    simp -dsimp only [go_sem,hl1,r2.cell,r10.cell]
    simp -dsimp (disch:=omega) only [wrap64]
    exact ⟨0+1,by decide,by simp [Le,find],by decide,p0,r2,r10,hat⟩
 ·skip
  have l0:(1:Nat)<3:=by decide
  simp -dsimp only [go_sem,show ((1:Nat):Int)<3 from by decide,r2.cell,r10.cell]
  refine Chk_intro (by decide) ?_
  simp -dsimp only [go_sem,show IntKind.i64.wrap (7+((1:Nat):Int))=(8:Int) from rfl,r2.cell,r10.cell]
  refine call_of (ref8_deps (t.fr p0) (t.d.fr p0) t.fits.d 8) ?_
  rintro v5 h5 ⟨f5,rfl⟩
  have f5_z:=f5.size
  replace p0:=p0.F f5
  replace r2:=r2.F f5
  replace r10:=r10.F f5
  have hdd:=dep_doc hsz hia c18 g.data 8 kr8
  have hrs:chkRest g words 1=if 0≤g.depAt words g.data (fun k=>k==2) then (8,g.depAt words g.data (fun k=>k==2)) else chkRest g words (1+1):=rfl
  rw [hrs] at hat
  cases words with
  | true =>
   rw [if_neg (by simp)] at hdd
   rw [hdd] at hat
   by_cases c22:0≤g.depAt true g.data (kr 8)
   ·rw [if_pos c22] at hat
    have c22':g.depAt true g.data (kr 8)≥0:=c22
    simp -dsimp only [go_sem,c22',show IntKind.i64.wrap (7+((1:Nat):Int))=(8:Int) from rfl,r2.cell,r10.cell]
    exact ⟨p0,by rw [hat]⟩
   ·rw [if_neg c22] at hat
    have c22':¬ g.depAt true g.data (kr 8)≥0:=c22
    simp -dsimp only [go_sem,c22',r2.cell,r10.cell]
    simp -dsimp (disch:=omega) only [wrap64]
    exact ⟨1+1,by decide,by simp [Le,find],by decide,p0,r2,r10,hat⟩
  | false =>
   by_cases hl0:0<(g.data).length
   ·rw [if_pos ⟨rfl,hl0⟩] at hdd
    rw [hdd,if_pos (by decide)] at hat
    have hl1:((g.data).length:Int) > 0:=by omega
    simp -dsimp only [go_sem,show ((1:Nat):Int)<3 from by decide,r2.cell,r10.cell]
    refine Chk_intro (by decide) ?_
    simp -dsimp only [go_sem,hl1,show IntKind.i64.wrap (7+((1:Nat):Int))=(8:Int) from rfl,r2.cell,r10.cell]
    exact ⟨p0,by rw [hat]⟩
   ·rw [if_neg (by omega)] at hdd
    have hnil:g.data=[]:=by rw [← List.length_eq_zero_iff];omega
    have hdn:g.depAt true g.data (kr 8) = -1:=by rw [hnil];rfl
    rw [hdd,hdn,if_neg (by decide)] at hat
    have hl1:¬ ((g.data).length:Int) > 0:=by omega
    rw [hdn]
    simp -dsimp only [go_sem,show ((1:Nat):Int)<3 from by decide,r2.cell,r10.cell]
    refine Chk_intro (by decide) ?_
    simp -dsimp only [go_sem,hl1,r2.cell,r10.cell]
    simp -dsimp (disch:=omega) only [wrap64]
    exact ⟨1+1,by decide,by simp [Le,find],by decide,p0,r2,r10,hat⟩
 ·skip
  have l0:(2:Nat)<3:=by decide
  simp -dsimp only [go_sem,show ((2:Nat):Int)<3 from by decide,r2.cell,r10.cell]
  refine Chk_intro (by decide) ?_
  simp -dsimp only [go_sem,show IntKind.i64.wrap (7+((2:Nat):Int))=(9:Int) from rfl,r2.cell,r10.cell]
  refine call_of (ref8_deps (t.fr p0) (t.c.fr p0) t.fits.c 9) ?_
  rintro v5 h5 ⟨f5,rfl⟩
  have f5_z:=f5.size
  replace p0:=p0.F f5
  replace r2:=r2.F f5
  replace r10:=r10.F f5
  have hdd:=dep_doc hsz hia c18 g.ctrl 9 kr9
  have hrs:chkRest g words 2=if 0≤g.depAt words g.ctrl (fun k=>k==1||k==2||k==3) then (9,g.depAt words g.ctrl (fun k=>k==1||k==2||k==3)) else chkRest g words (2+1):=rfl
  rw [hrs] at hat
  cases words with
  | true =>
   rw [if_neg (by simp)] at hdd
   rw [hdd] at hat
   by_cases c22:0≤g.depAt true g.ctrl (kr 9)
   ·rw [if_pos c22] at hat
    have c22':g.depAt true g.ctrl (kr 9)≥0:=c22
    simp -dsimp only [go_sem,c22',show IntKind.i64.wrap (7+((2:Nat):Int))=(9:Int) from rfl,r2.cell,r10.cell]
    exact ⟨p0,by rw [hat]⟩
   ·rw [if_neg c22] at hat
    have c22':¬ g.depAt true g.ctrl (kr 9)≥0:=c22
    simp -dsimp only [go_sem,c22',r2.cell,r10.cell]
    simp -dsimp (disch:=omega) only [wrap64]
    exact ⟨2+1,by decide,by simp [Le,find],by decide,p0,r2,r10,hat⟩
  | false =>
   by_cases hl0:0<(g.ctrl).length
   ·rw [if_pos ⟨rfl,hl0⟩] at hdd
    rw [hdd,if_pos (by decide)] at hat
    have hl1:((g.ctrl).length:Int) > 0:=by omega
    simp -dsimp only [go_sem,show ((2:Nat):Int)<3 from by decide,r2.cell,r10.cell]
    refine Chk_intro (by decide) ?_
    simp -dsimp only [go_sem,hl1,show IntKind.i64.wrap (7+((2:Nat):Int))=(9:Int) from rfl,r2.cell,r10.cell]
    exact ⟨p0,by rw [hat]⟩
   ·rw [if_neg (by omega)] at hdd
    have hnil:g.ctrl=[]:=by rw [← List.length_eq_zero_iff];omega
    have hdn:g.depAt true g.ctrl (kr 9) = -1:=by rw [hnil];rfl
    rw [hdd,hdn,if_neg (by decide)] at hat
    have hl1:¬ ((g.ctrl).length:Int) > 0:=by omega
    rw [hdn]
    simp -dsimp only [go_sem,show ((2:Nat):Int)<3 from by decide,r2.cell,r10.cell]
    refine Chk_intro (by decide) ?_
    simp -dsimp only [go_sem,hl1,r2.cell,r10.cell]
    simp -dsimp (disch:=omega) only [wrap64]
    exact ⟨2+1,by decide,by simp [Le,find],by decide,p0,r2,r10,hat⟩
 ·simp -dsimp only [go_sem,show ¬ ((3:Nat):Int)<3 from by decide,r2.cell,r10.cell]
  exact ⟨p0,by rw [hat];rfl⟩
end Go.Proofs.Tst
/-
  Is a graph well-formed? Both ask so.
-/
namespace Go.Proofs.Tst
open Go Go.Vc
theorem graph_good {h:Heap} {q:GV} {g:Gr} (t:GrAt h q g):Con Tryd.prog 69 #[.agg (gcells q g).toArray] h fun v h'=>Fr 0 0 h h'∧v=.bool g.good:=by
 refine con_q16 ?_
 have p0:Fr 0 0 h h:=.refl _ _ _
 unfold gcells
 simp -dsimp only [go_sem]
 intro b1 h1 n1
 have n1_z:=n1.az
 replace p0:=p0.F n1.f0
 have r1:=n1.row
 simp -dsimp only [go_sem,r1.cell]
 refine call_of (graph_Check (t.fr p0) false) ?_
 rintro v2 h2 ⟨f2,rfl⟩
 have f2_z:=f2.size
 replace p0:=p0.F f2
 replace r1:=r1.F f2
 by_cases a1:(g.check false).1=0
 ·simp -dsimp only [go_sem,beq_t a1,r1.cell]
  exact ⟨p0,by unfold Gr.good;rw [beq_t a1];rfl⟩
 ·simp -dsimp only [go_sem,beq_f a1,r1.cell]
  refine call_of (graph_Check (t.fr p0) true) ?_
  rintro v3 h3 ⟨f3,rfl⟩
  have f3_z:=f3.size
  replace p0:=p0.F f3
  replace r1:=r1.F f3
  simp -dsimp only [go_sem,r1.cell]
  exact ⟨p0,by unfold Gr.good;rw [beq_f a1];rfl⟩
end Go.Proofs.Tst
/-
  The document's copy of a graph: all of it in new memory.
-/
namespace Go.Proofs.Tst
open Go Go.Vc
structure GrOwn (h:Heap) (q:GV) (g:Gr) (lo:Nat):Prop where
 e:Holder 5 h (.slice q.e g.evs.length q.ec) g.evs.length (evsV g.evs) lo
 f:Holder 2 h (.slice q.f g.rf.length q.fc) g.rf.length (pairsV g.rf) lo
 o:∃ us,LL h (.slice q.o g.co.length q.oc) us (g.co.map intsV) lo∧us.Pairwise Off∧∀ w,w=.slice q.o g.co.length q.oc∨w∈us→∀ x∈[Value.slice q.e g.evs.length q.ec,.slice q.f g.rf.length q.fc,.slice q.r g.rmw.length q.rc,.slice q.a g.addr.length q.ac,.slice q.d g.data.length q.dc,.slice q.c g.ctrl.length q.cc],Off w x
 r:Holder 2 h (.slice q.r g.rmw.length q.rc) g.rmw.length (pairsV g.rmw) lo
 a:Holder 2 h (.slice q.a g.addr.length q.ac) g.addr.length (pairsV g.addr) lo
 d:Holder 2 h (.slice q.d g.data.length q.dc) g.data.length (pairsV g.data) lo
 c:Holder 2 h (.slice q.c g.ctrl.length q.cc) g.ctrl.length (pairsV g.ctrl) lo
 off:∀ x∈[Value.slice q.f g.rf.length q.fc,.slice q.r g.rmw.length q.rc,.slice q.a g.addr.length q.ac,.slice q.d g.data.length q.dc,.slice q.c g.ctrl.length q.cc],Off (.slice q.e g.evs.length q.ec) x
 fits:GrFits g
theorem holder_cap {s:Nat} {h:Heap} {a:Option Addr} {n m c:Nat} {xs:List Value} {lo:Nat} (hs:0<s) (w:Holder s h (.slice a m c) n xs lo):n≤c:=by
 obtain ⟨hl,⟨h1,rfl⟩ | ⟨b,c',rest,h1,h2,h3,h4⟩⟩:=w
 ·omega
 ·cases h1
  have:n * s≤c * s:=by omega
  exact Nat.le_of_mul_le_mul_right this hs
theorem GrOwn.at_ {h:Heap} {q:GV} {g:Gr} {lo:Nat} (w:GrOwn h q g lo):GrAt h q g:=by
 obtain ⟨us,h1,-⟩:=w.o
 have:=h1.own
 rw [List.length_map] at this
 exact ⟨w.e.rd,w.f.rd,h1.rl,w.r.rd,w.a.rd,w.d.rd,w.c.rd,w.fits,holder_cap (by omega) this,h1.rlc⟩
def Bl (lo hi:Nat) (v:Value):Prop:=(bl v=0∧bh v=0)∨(lo≤bl v∧bh v=bl v+1∧bh v≤hi)
theorem Bl.of {s:Nat} {h:Heap} {v:Value} {n:Nat} {xs:List Value} {lo:Nat} (o:Holder s h v n xs lo):Bl lo h.size v:=by
 have:=o.at_;have:=o.top;unfold Bl;omega
theorem Bl.off {lo hi lo' hi':Nat} {v w:Value} (a:Bl lo hi v) (b:Bl lo' hi' w) (h:hi≤lo'):Off v w:=by unfold Bl at a b;unfold Off;omega
theorem Bl.in_ {lo hi m n:Nat} {v:Value} (a:Bl lo hi v) (h1:m<lo) (h2:hi≤n):(bl v=0∧bh v=0∨m<bl v∧bh v=bl v+1)∧bh v≤n:=by unfold Bl at a;omega
set_option maxHeartbeats 2000000 in
theorem ref8_CopiedX {h:Heap} {q:GV} {g:Gr} (t:GrAt h q g) (hz:0<h.size) :
  Con Tryd.prog 12 #[.agg (gcells q g).toArray] h fun v h'=>Fr 0 0 h h'∧∃ q',v=.agg (gcells q' g).toArray∧GrOwn h' q' g h.size∧∀ x∈[Value.slice q'.f g.rf.length q'.fc,.slice q'.r g.rmw.length q'.rc,.slice q'.a g.addr.length q'.ac,.slice q'.d g.data.length q'.dc],Off x (.slice q'.c g.ctrl.length q'.cc):=by
 refine con_q92 ?_
 have p0:Fr 0 0 h h:=.refl _ _ _
 have be:=t.fits.e
 have bf:=t.fits.f
 have bo:=t.fits.o
 have br:=t.fits.r
 have ba:=t.fits.a
 have bd:=t.fits.d
 have bc:=t.fits.c
 have hrl:=rl_at t.o
 unfold gcells
 simp -dsimp only [go_sem]
 intro b1 h1 n1
 have n1_a:=n1.at_
 have n1_z:=n1.size
 replace p0:=p0.F n1.f0
 have r1:=n1.row
 simp -dsimp only [go_sem,r1.cell]
 intro b2 h2 n2
 have n2_a:=n2.at_
 have n2_z:=n2.size
 replace p0:=p0.F n2.f0
 replace r1:=r1.F n2.f0
 have r2:=n2.row
 simp -dsimp only [go_sem,r1.cell,r2.cell]
 intro b3 h3 n3
 have n3_a:=n3.at_
 have n3_z:=n3.size
 replace p0:=p0.F n3.f0
 replace r1:=r1.F n3.f0
 replace r2:=r2.F n3.f0
 have r3:=n3.row
 simp -dsimp only [go_sem,r1.cell,r2.cell,r3.cell]
 refine Chk_intro (r3.W) fun h4 sq=>?_
 have sq_z:=sq.size
 replace p0:=p0.F sq.fr
 replace r1:=r1.F sq.fr
 replace r2:=r2.F sq.fr
 replace r3:=sq.row r3
 try simp only [cl_int,cl_bool,cl_slice,cl_ptr,putAt_one,zs0,zs1,ivec_set,brow_upd] at r3
 simp -dsimp only [go_sem] at r3
 simp -dsimp only [go_sem,r1.cell,r2.cell,r3.cell]
 refine (Holder.none 5 _ h4.size).appendRd (t.e.fr p0) (by omega) rfl (by omega) (oc_evs _) (by omega) fun v1 k1 o1 f1 e1=>?_
 clear e1
 simp only [Nat.zero_add,List.nil_append] at o1
 replace f1:Fr 0 0 _ k1:=f1
 have f1_z:=f1.size
 replace p0:=p0.F f1
 replace r1:=r1.F f1
 replace r2:=r2.F f1
 replace r3:=r3.F f1
 obtain ⟨a1,c1,rfl⟩:=o1.is
 have y1:=Bl.of o1
 simp -dsimp only [go_sem,r1.cell,r2.cell,r3.cell]
 refine Chk_intro (r3.W) fun m1 s1=>?_
 have s1_z:=s1.size
 replace p0:=p0.F s1.fr
 replace r1:=r1.F s1.fr
 replace r2:=r2.F s1.fr
 replace o1:=o1.fr s1.fr (by have:=o1.at_;omega)
 replace r3:=s1.row r3
 try simp only [cl_int,cl_bool,cl_slice,cl_ptr,putAt_one,zs0,zs1,ivec_set,brow_upd] at r3
 simp -dsimp only [go_sem,r1.cell,r2.cell,r3.cell]
 refine (Holder.none 2 _ m1.size).appendRd (t.f.fr p0) (by omega) rfl (by omega) (oc_pairs _) (by omega) fun v2 k2 o2 f2 e2=>?_
 clear e2
 simp only [Nat.zero_add,List.nil_append] at o2
 replace f2:Fr 0 0 _ k2:=f2
 have f2_z:=f2.size
 replace p0:=p0.F f2
 replace r1:=r1.F f2
 replace r2:=r2.F f2
 replace r3:=r3.F f2
 replace o1:=o1.fr f2 (by have:=o1.at_;omega)
 obtain ⟨a2,c2,rfl⟩:=o2.is
 have y2:=Bl.of o2
 simp -dsimp only [go_sem,r1.cell,r2.cell,r3.cell]
 refine Chk_intro (r3.W) fun m2 s2=>?_
 have s2_z:=s2.size
 replace p0:=p0.F s2.fr
 replace r1:=r1.F s2.fr
 replace r2:=r2.F s2.fr
 replace o1:=o1.fr s2.fr (by have:=o1.at_;omega)
 replace o2:=o2.fr s2.fr (by have:=o2.at_;omega)
 replace r3:=s2.row r3
 try simp only [cl_int,cl_bool,cl_slice,cl_ptr,putAt_one,zs0,zs1,ivec_set,brow_upd] at r3
 simp -dsimp only [go_sem,r1.cell,r2.cell,r3.cell]
 refine (Holder.none 2 _ m2.size).appendRd (t.r.fr p0) (by omega) rfl (by omega) (oc_pairs _) (by omega) fun v3 k3 o3 f3 e3=>?_
 clear e3
 simp only [Nat.zero_add,List.nil_append] at o3
 replace f3:Fr 0 0 _ k3:=f3
 have f3_z:=f3.size
 replace p0:=p0.F f3
 replace r1:=r1.F f3
 replace r2:=r2.F f3
 replace r3:=r3.F f3
 replace o1:=o1.fr f3 (by have:=o1.at_;omega)
 replace o2:=o2.fr f3 (by have:=o2.at_;omega)
 obtain ⟨a3,c3,rfl⟩:=o3.is
 have y3:=Bl.of o3
 simp -dsimp only [go_sem,r1.cell,r2.cell,r3.cell]
 refine Chk_intro (r3.W) fun m3 s3=>?_
 have s3_z:=s3.size
 replace p0:=p0.F s3.fr
 replace r1:=r1.F s3.fr
 replace r2:=r2.F s3.fr
 replace o1:=o1.fr s3.fr (by have:=o1.at_;omega)
 replace o2:=o2.fr s3.fr (by have:=o2.at_;omega)
 replace o3:=o3.fr s3.fr (by have:=o3.at_;omega)
 replace r3:=s3.row r3
 try simp only [cl_int,cl_bool,cl_slice,cl_ptr,putAt_one,zs0,zs1,ivec_set,brow_upd] at r3
 simp -dsimp only [go_sem,r1.cell,r2.cell,r3.cell]
 refine (Holder.none 2 _ m3.size).appendRd (t.a.fr p0) (by omega) rfl (by omega) (oc_pairs _) (by omega) fun v4 k4 o4 f4 e4=>?_
 clear e4
 simp only [Nat.zero_add,List.nil_append] at o4
 replace f4:Fr 0 0 _ k4:=f4
 have f4_z:=f4.size
 replace p0:=p0.F f4
 replace r1:=r1.F f4
 replace r2:=r2.F f4
 replace r3:=r3.F f4
 replace o1:=o1.fr f4 (by have:=o1.at_;omega)
 replace o2:=o2.fr f4 (by have:=o2.at_;omega)
 replace o3:=o3.fr f4 (by have:=o3.at_;omega)
 obtain ⟨a4,c4,rfl⟩:=o4.is
 have y4:=Bl.of o4
 simp -dsimp only [go_sem,r1.cell,r2.cell,r3.cell]
 refine Chk_intro (r3.W) fun m4 s4=>?_
 have s4_z:=s4.size
 replace p0:=p0.F s4.fr
 replace r1:=r1.F s4.fr
 replace r2:=r2.F s4.fr
 replace o1:=o1.fr s4.fr (by have:=o1.at_;omega)
 replace o2:=o2.fr s4.fr (by have:=o2.at_;omega)
 replace o3:=o3.fr s4.fr (by have:=o3.at_;omega)
 replace o4:=o4.fr s4.fr (by have:=o4.at_;omega)
 replace r3:=s4.row r3
 try simp only [cl_int,cl_bool,cl_slice,cl_ptr,putAt_one,zs0,zs1,ivec_set,brow_upd] at r3
 simp -dsimp only [go_sem,r1.cell,r2.cell,r3.cell]
 refine (Holder.none 2 _ m4.size).appendRd (t.d.fr p0) (by omega) rfl (by omega) (oc_pairs _) (by omega) fun v5 k5 o5 f5 e5=>?_
 clear e5
 simp only [Nat.zero_add,List.nil_append] at o5
 replace f5:Fr 0 0 _ k5:=f5
 have f5_z:=f5.size
 replace p0:=p0.F f5
 replace r1:=r1.F f5
 replace r2:=r2.F f5
 replace r3:=r3.F f5
 replace o1:=o1.fr f5 (by have:=o1.at_;omega)
 replace o2:=o2.fr f5 (by have:=o2.at_;omega)
 replace o3:=o3.fr f5 (by have:=o3.at_;omega)
 replace o4:=o4.fr f5 (by have:=o4.at_;omega)
 obtain ⟨a5,c5,rfl⟩:=o5.is
 have y5:=Bl.of o5
 simp -dsimp only [go_sem,r1.cell,r2.cell,r3.cell]
 refine Chk_intro (r3.W) fun m5 s5=>?_
 have s5_z:=s5.size
 replace p0:=p0.F s5.fr
 replace r1:=r1.F s5.fr
 replace r2:=r2.F s5.fr
 replace o1:=o1.fr s5.fr (by have:=o1.at_;omega)
 replace o2:=o2.fr s5.fr (by have:=o2.at_;omega)
 replace o3:=o3.fr s5.fr (by have:=o3.at_;omega)
 replace o4:=o4.fr s5.fr (by have:=o4.at_;omega)
 replace o5:=o5.fr s5.fr (by have:=o5.at_;omega)
 replace r3:=s5.row r3
 try simp only [cl_int,cl_bool,cl_slice,cl_ptr,putAt_one,zs0,zs1,ivec_set,brow_upd] at r3
 simp -dsimp only [go_sem,r1.cell,r2.cell,r3.cell]
 refine (Holder.none 2 _ m5.size).appendRd (t.c.fr p0) (by omega) rfl (by omega) (oc_pairs _) (by omega) fun v6 k6 o6 f6 e6=>?_
 clear e6
 simp only [Nat.zero_add,List.nil_append] at o6
 replace f6:Fr 0 0 _ k6:=f6
 have f6_z:=f6.size
 replace p0:=p0.F f6
 replace r1:=r1.F f6
 replace r2:=r2.F f6
 replace r3:=r3.F f6
 replace o1:=o1.fr f6 (by have:=o1.at_;omega)
 replace o2:=o2.fr f6 (by have:=o2.at_;omega)
 replace o3:=o3.fr f6 (by have:=o3.at_;omega)
 replace o4:=o4.fr f6 (by have:=o4.at_;omega)
 replace o5:=o5.fr f6 (by have:=o5.at_;omega)
 obtain ⟨a6,c6,rfl⟩:=o6.is
 have y6:=Bl.of o6
 simp -dsimp only [go_sem,r1.cell,r2.cell,r3.cell]
 refine Chk_intro (r3.W) fun m6 s6=>?_
 have s6_z:=s6.size
 replace p0:=p0.F s6.fr
 replace r1:=r1.F s6.fr
 replace r2:=r2.F s6.fr
 replace o1:=o1.fr s6.fr (by have:=o1.at_;omega)
 replace o2:=o2.fr s6.fr (by have:=o2.at_;omega)
 replace o3:=o3.fr s6.fr (by have:=o3.at_;omega)
 replace o4:=o4.fr s6.fr (by have:=o4.at_;omega)
 replace o5:=o5.fr s6.fr (by have:=o5.at_;omega)
 replace o6:=o6.fr s6.fr (by have:=o6.at_;omega)
 replace r3:=s6.row r3
 try simp only [cl_int,cl_bool,cl_slice,cl_ptr,putAt_one,zs0,zs1,ivec_set,brow_upd] at r3
 have gb:b1<m6.size∧b2<m6.size∧b3<m6.size∧h.size≤b1∧h.size≤b2∧h.size≤b3∧0<m6.size∧h.size≤m6.size∧b1≠b3∧b2<b3∧b1≠b2:=by omega
 have lows:h.size≤h4.size∧h.size≤m1.size∧h.size≤m2.size∧h.size≤m3.size∧h.size≤m4.size∧h.size≤m5.size:=by omega
 have q1:(bl (.slice a1 g.evs.length c1)=0∧bh (.slice a1 g.evs.length c1)=0∨b3<bl (.slice a1 g.evs.length c1)∧bh (.slice a1 g.evs.length c1)=bl (.slice a1 g.evs.length c1)+1)∧bh (.slice a1 g.evs.length c1)≤m6.size:=y1.in_ (by omega) (by omega)
 have q2:(bl (.slice a2 g.rf.length c2)=0∧bh (.slice a2 g.rf.length c2)=0∨b3<bl (.slice a2 g.rf.length c2)∧bh (.slice a2 g.rf.length c2)=bl (.slice a2 g.rf.length c2)+1)∧bh (.slice a2 g.rf.length c2)≤m6.size:=y2.in_ (by omega) (by omega)
 have q3:(bl (.slice a3 g.rmw.length c3)=0∧bh (.slice a3 g.rmw.length c3)=0∨b3<bl (.slice a3 g.rmw.length c3)∧bh (.slice a3 g.rmw.length c3)=bl (.slice a3 g.rmw.length c3)+1)∧bh (.slice a3 g.rmw.length c3)≤m6.size:=y3.in_ (by omega) (by omega)
 have q4:(bl (.slice a4 g.addr.length c4)=0∧bh (.slice a4 g.addr.length c4)=0∨b3<bl (.slice a4 g.addr.length c4)∧bh (.slice a4 g.addr.length c4)=bl (.slice a4 g.addr.length c4)+1)∧bh (.slice a4 g.addr.length c4)≤m6.size:=y4.in_ (by omega) (by omega)
 have q5:(bl (.slice a5 g.data.length c5)=0∧bh (.slice a5 g.data.length c5)=0∨b3<bl (.slice a5 g.data.length c5)∧bh (.slice a5 g.data.length c5)=bl (.slice a5 g.data.length c5)+1)∧bh (.slice a5 g.data.length c5)≤m6.size:=y5.in_ (by omega) (by omega)
 have q6:(bl (.slice a6 g.ctrl.length c6)=0∧bh (.slice a6 g.ctrl.length c6)=0∨b3<bl (.slice a6 g.ctrl.length c6)∧bh (.slice a6 g.ctrl.length c6)=bl (.slice a6 g.ctrl.length c6)+1)∧bh (.slice a6 g.ctrl.length c6)≤m6.size:=y6.in_ (by omega) (by omega)
 have off2:Off (.slice a1 g.evs.length c1) (.slice a2 g.rf.length c2):=y1.off y2 (by omega)
 have off3:Off (.slice a1 g.evs.length c1) (.slice a3 g.rmw.length c3):=y1.off y3 (by omega)
 have off4:Off (.slice a1 g.evs.length c1) (.slice a4 g.addr.length c4):=y1.off y4 (by omega)
 have off5:Off (.slice a1 g.evs.length c1) (.slice a5 g.data.length c5):=y1.off y5 (by omega)
 have off6:Off (.slice a1 g.evs.length c1) (.slice a6 g.ctrl.length c6):=y1.off y6 (by omega)
 have off7:Off (.slice a2 g.rf.length c2) (.slice a6 g.ctrl.length c6):=y2.off y6 (by omega)
 have off8:Off (.slice a3 g.rmw.length c3) (.slice a6 g.ctrl.length c6):=y3.off y6 (by omega)
 have off9:Off (.slice a4 g.addr.length c4) (.slice a6 g.ctrl.length c6):=y4.off y6 (by omega)
 have offa:Off (.slice a5 g.data.length c5) (.slice a6 g.ctrl.length c6):=y5.off y6 (by omega)
 simp -dsimp only [go_sem,r1.cell,r2.cell,r3.cell]
 clear n1_a n1_z n2_a n2_z n3_a n3_z sq_z n1 n2 n3 sq f1_z s1_z f1 s1 y1 f2_z s2_z f2 s2 y2 f3_z s3_z f3 s3 y3 f4_z s4_z f4 s4 y4 f5_z s5_z f5 s5 y5 f6_z s6_z f6 s6 y6
 have ir:Fr b3 (b3+1) m6 m6:=.refl _ _ _
 refine loop_intro (fun s:Nat×Value×List Value=>[(1,.pointer (some ⟨b1,0,none⟩)),(2,.pointer (some ⟨b2,0,none⟩)),(3,.pointer (some ⟨b3,0,none⟩)),(4,.int .i64 s.1)])
  (fun s h'=>s.1≤g.co.length∧Fr 0 0 h h'∧Fr b3 (b3+1) m6 h'∧Rw h' b1 (gcells q g)∧Rw h' b2 [.int .i64 0,.slice none 0 0,.slice none 0 0,.slice none 0 0,.slice none 0 0,.slice none 0 0,.slice none 0 0,.slice none 0 0] ∧
   Rw h' b3 [.int .i64 g.cells,.slice a1 g.evs.length c1,.slice a2 g.rf.length c2,s.2.1,.slice a3 g.rmw.length c3,.slice a4 g.addr.length c4,.slice a5 g.data.length c5,.slice a6 g.ctrl.length c6] ∧
   LL h' s.2.1 s.2.2 ((g.co.take s.1).map intsV) m6.size∧s.2.2.Pairwise Off) (fun s=>g.co.length - s.1) (0,.slice none 0 0,[]) ?_ ?_ ?_
 ·simp [Le,find]
 ·exact ⟨by omega,p0,ir,r1,r2,r3,.nil,.nil⟩
 clear p0 ir r1 r2 r3
 rintro ⟨c,ov,us⟩ h7 ⟨hc,p0,I0,r1,r2,r3,LO,hpw⟩
 dsimp only at hc r3 LO hpw ⊢
 unfold gcells at r1
 have elen:((g.co.take c).map intsV).length=c:=by simp;omega
 have LOis:=LO.own.is
 rw [elen] at LOis
 have LOa:=LO.own.at_
 have aTop:=LO.top
 obtain ⟨sa,sc,rfl⟩:=LOis
 have zz:m6.size≤h7.size:=I0.size
 by_cases hlt:c<g.co.length
 ·have e1:((c:Int)<(g.co.length:Int)):=by omega
  obtain ⟨ob,oo,hoe,la,lc,hlist⟩:=hrl c hlt
  have hll:=t.fits.l (g.co.getD c []) (by have:g.co[c]?=some (g.co.getD c []):=by { simp [hlt] };exact List.mem_of_getElem? this)
  have htk:g.co.take (c+1)=g.co.take c++[g.co.getD c []]:=by rw [List.take_add_one];simp [hlt]
  generalize hl:g.co.getD c []=l at hlist hll htk
  simp -dsimp only [go_sem,e1,r1.cell,r2.cell,r3.cell]
  refine loop_intro (fun s:Nat×Value=>[(1,.pointer (some ⟨b1,0,none⟩)),(2,.pointer (some ⟨b2,0,none⟩)),(3,.pointer (some ⟨b3,0,none⟩)),(4,.int .i64 c),(5,s.2),(6,.int .i64 s.1)])
   (fun s h'=>s.1≤l.length∧Fr 0 0 h7 h'∧Holder 1 h' s.2 s.1 (intsV (l.take s.1)) h7.size) (fun s=>l.length - s.1) (0,.slice none 0 0) ?_ ?_ ?_
  ·simp [Le,find]
  ·exact ⟨by omega,.refl _ _ _,.none _ _ _⟩
  rintro ⟨j,lv⟩ h8 ⟨hj,p8,ol⟩
  dsimp only at hj ol ⊢
  obtain ⟨l1,l2⟩:=hlist h8 (p0.trans p8)
  have r1':=r1.fr p8 (by omega)
  by_cases hjl:j<l.length
  ·have e2:((j:Int)<(l.length:Int)):=by omega
   have hq:l[j]?=some l[j]:=by simp [hjl]
   generalize l[j]=w at hq
   obtain ⟨va,vc,rfl⟩:=ol.is
   have pz:Fr 0 0 h8 h8:=.refl _ _ _
   simp -dsimp only [go_sem,r1'.cell,hoe,e1,l1,e2,r1.cell,r2.cell,r3.cell]
   refine l2.idx (by omega) fun lb lo hlc=>?_
   have c1:=hlc j _ (intsV_get hq)
   simp -dsimp only [go_sem,c1,r1.cell,r2.cell,r3.cell]
   have p8_z:=p8.size
   have ol_l:=ol.top
   intro b9 h9 n9
   have n9_a:=n9.at_
   have n9_z:=n9.size
   replace p8:=p8.F n9.f0
   replace ol:=ol.fr n9.f0 (by have:=ol.at_;omega)
   have r9:=n9.row
   simp -dsimp only [go_sem,r9.cell]
   refine ol.append (by omega) rfl (by omega) (by simp) (by omega) fun v10 h10 o_new f10 e_app=>?_
   have f10_z:=f10.size
   have o_at:=ol.at_
   replace p8:=p8.F f10
   replace r9:=r9.F f10
   clear o_at e_app
   replace ol:=o_new
   have ol_l:=ol.top
   simp -dsimp only [go_sem,r9.cell]
   simp -dsimp (disch:=omega) only [wrap64]
   refine ⟨(j+1,v10),by dsimp only;omega,by simp [Le,find],by omega,p8,?_⟩
   rw [List.take_add_one,hq,Option.toList_some,intsV_append]
   exact ol
  ·obtain rfl:j=l.length:=by omega
   rw [List.take_length] at ol
   simp -dsimp only [go_sem,r1'.cell,hoe,e1,l1,Int.lt_irrefl,r1.cell,r2.cell,r3.cell]
   replace p0:=p0.trans p8
   replace I0:=I0.trans (p8.mono (by omega))
   replace r1:=r1'
   replace r2:=r2.F p8
   replace r3:=r3.F p8
   replace LO:=LO.fr p8 (Away.none (by omega))
   obtain ⟨wa,wc,rfl⟩:=ol.is
   have ola:=ol.at_
   have gc:h7.size≤h8.size:=p8.size
   simp -dsimp only [go_sem,r1.cell,r2.cell,r3.cell]
   have p0_z:=p0.size
   have I0_z:=I0.size
   have r1_l:=r1.lt
   have r2_l:=r2.lt
   have r3_l:=r3.lt
   have LO_l:=LO.own.top
   have ol_l:=ol.top
   intro b9 h9 n9
   have n9_a:=n9.at_
   have n9_z:=n9.size
   replace p0:=p0.F n9.f0
   replace I0:=I0.freshIn n9.f0 (by omega)
   replace r1:=r1.F n9.f0
   replace r2:=r2.F n9.f0
   replace r3:=r3.F n9.f0
   replace LO:=LO.fr n9.f0 (by first | exact Away.none (Nat.le_refl _) | exact LO.below (by omega) | exact LO.above (by omega) | assumption | exact fun w hw=>(by have:=aTop w hw;omega) | exact fun w hw=>(by have:=aTop2 w hw;omega))
   replace ol:=ol.fr n9.f0 (by have:=ol.at_;omega)
   have r9:=n9.row
   have LOown:=LO.own
   rw [elen] at LOown
   simp -dsimp only [go_sem,r1.cell,r2.cell,r3.cell,r9.cell]
   refine LOown.append (by omega) rfl (by omega) (by simp) (by omega) fun v17 h17 o17 f17 e17=>?_
   have off:Off (.slice wa l.length wc) (.slice sa c sc):=by
    have h1:=aTop _ (.inl rfl)
    have h2:=bh_bl (.slice wa l.length wc)
    have h3:=bh_bl (.slice sa c sc)
    unfold Off;omega
   have LO':=LO.push (l:=intsV l) (by omega) (w:=Value.slice wa l.length wc) (by rw [length_intsV];exact ol.lower (by omega)) off (by rw [elen];exact o17) f17 e17
   have hpw':(us++[Value.slice wa l.length wc]).Pairwise Off:=List.pairwise_append.2 ⟨hpw,by simp,fun u hu w hw=>by
    simp at hw;subst hw
    have h1:=aTop u (.inr hu)
    have h2:=bh_bl u
    have h3:=bh_bl (.slice wa l.length wc)
    unfold Off;omega⟩
   have spa:=LOown.at_
   have f17_z:=f17.size
   replace p0:=p0.F f17
   replace I0:=I0.freshIn f17 (by omega)
   replace r1:=r1.F f17
   replace r2:=r2.F f17
   replace r3:=r3.F f17
   obtain ⟨a17,c17,rfl⟩:=o17.is
   simp -dsimp only [go_sem,r1.cell,r2.cell,r3.cell]
   refine Chk_intro (r3.W) fun h18 s18=>?_
   have s18_z:=s18.size
   replace p0:=p0.F s18.fr
   replace I0:=I0.freshIn s18.fr (by omega)
   replace r1:=r1.F s18.fr
   replace r2:=r2.F s18.fr
   replace LO':=LO'.fr s18.fr (by first | exact Away.none (Nat.le_refl _) | exact LO'.below (by omega) | exact LO'.above (by omega) | assumption | exact fun w hw=>(by have:=aTop w hw;omega) | exact fun w hw=>(by have:=aTop2 w hw;omega))
   replace r3:=s18.row r3
   try simp only [cl_int,cl_bool,cl_slice,cl_ptr,putAt_one,zs0,zs1,ivec_set,brow_upd] at r3
   simp -dsimp only [go_sem,r1.cell,r2.cell,r3.cell]
   simp -dsimp (disch:=omega) only [wrap64]
   exact ⟨(c+1,.slice a17 (c+1) c17,us++[Value.slice wa l.length wc]),by dsimp only;omega,by simp [Le,find],by dsimp only;omega,p0,I0,r1,r2,r3,by rw [htk,List.map_append];exact LO',hpw'⟩
 ·obtain rfl:c=g.co.length:=by omega
  rw [List.take_length] at LO
  simp -dsimp only [go_sem,Int.lt_irrefl,r1.cell,r2.cell,r3.cell]
  have p0_z:=p0.size
  have r1_l:=r1.lt
  have r2_l:=r2.lt
  have r3_l:=r3.lt
  have LO_l:=LO.own.top
  refine Chk_intro (r2.W) fun h8 s8=>?_
  have s8_z:=s8.size
  replace p0:=p0.F s8.fr
  replace r1:=r1.F s8.fr
  replace r3:=r3.F s8.fr
  replace LO:=LO.fr s8.fr (by first | exact Away.none (Nat.le_refl _) | exact LO.below (by omega) | exact LO.above (by omega) | assumption | exact fun w hw=>(by have:=aTop w hw;omega) | exact fun w hw=>(by have:=aTop2 w hw;omega))
  replace r2:=s8.row r2
  try simp only [cl_int,cl_bool,cl_slice,cl_ptr,putAt_one,zs0,zs1,ivec_set,brow_upd] at r2
  simp -dsimp only [go_sem,r1.cell,r2.cell,r3.cell]
  have f8:=s8.fr
  refine ⟨p0,⟨a1,a2,sa,a3,a4,a5,a6,c1,c2,sc,c3,c4,c5,c6⟩,rfl,?_,fun x hx=>?_⟩
  rotate_left
  ·simp only [List.mem_cons,List.not_mem_nil,or_false] at hx
   rcases hx with rfl | rfl | rfl | rfl
   ·exact off7
   ·exact off8
   ·exact off9
   ·exact offa
  have key:∀ x:Value,(bl x=0∧bh x=0∨b3<bl x∧bh x=bl x+1)∧bh x≤m6.size→∀ w,w=.slice sa g.co.length sc∨w∈us→Off w x:=fun x ⟨hx,ht⟩ w hw=>by
   have h1:=bh_bl w
   have h2:bl w=0∨m6.size≤bl w:=by
    rcases hw with rfl | hw
    ·omega
    ·obtain ⟨i,l,-,-,o⟩:=LO.get hw
     have:=o.at_;omega
   unfold Off;omega
  refine ⟨((o1.fr I0 (by omega)).fr f8 (by omega)).lower lows.1,((o2.fr I0 (by omega)).fr f8 (by omega)).lower lows.2.1,⟨us,LO.lower gb.2.2.2.2.2.2.2.1,hpw,fun w hw x hx=>?_⟩,((o3.fr I0 (by omega)).fr f8 (by omega)).lower lows.2.2.1,((o4.fr I0 (by omega)).fr f8 (by omega)).lower lows.2.2.2.1,((o5.fr I0 (by omega)).fr f8 (by omega)).lower lows.2.2.2.2.1,((o6.fr I0 (by omega)).fr f8 (by omega)).lower lows.2.2.2.2.2,fun x hx=>?_,t.fits⟩
  ·simp only [List.mem_cons,List.not_mem_nil,or_false] at hx
   rcases hx with rfl | rfl | rfl | rfl | rfl | rfl
   ·exact key _ q1 w hw
   ·exact key _ q2 w hw
   ·exact key _ q3 w hw
   ·exact key _ q4 w hw
   ·exact key _ q5 w hw
   ·exact key _ q6 w hw
  ·simp only [List.mem_cons,List.not_mem_nil,or_false] at hx
   rcases hx with rfl | rfl | rfl | rfl | rfl
   ·exact off2
   ·exact off3
   ·exact off4
   ·exact off5
   ·exact off6
theorem ref8_Copied {h:Heap} {q:GV} {g:Gr} (t:GrAt h q g) (hz:0<h.size) :
  Con Tryd.prog 12 #[.agg (gcells q g).toArray] h fun v h'=>Fr 0 0 h h'∧∃ q',v=.agg (gcells q' g).toArray∧GrOwn h' q' g h.size:=
 (ref8_CopiedX t hz).mono fun v h' ⟨f,q',e,w,_⟩=>⟨f,q',e,w⟩
end Go.Proofs.Tst
/-
  Lists of truths and of words compared; two graphs that are the same.
-/
namespace Go.Proofs.Tst
open Go Go.Vc
def boolsV (l:List Bool):List Value:=l.map Value.bool
def wordsV (l:List Int):List Value:=l.map fun n=>.int .u64 n
@[simp] theorem length_boolsV (l:List Bool):(boolsV l).length=l.length:=by simp [boolsV]
@[simp] theorem length_wordsV (l:List Int):(wordsV l).length=l.length:=by simp [wordsV]
theorem boolsV_get {l:List Bool} {i:Nat} {b:Bool} (h:l[i]?=some b):(boolsV l)[i]?=some (.bool b):=by simp [boolsV,h]
set_option maxHeartbeats 1000000 in
theorem ref8_Alike {h:Heap} {q q':GV} {g:Gr} (t:GrAt h q g) (t':GrAt h q' g) :
  Con Tryd.prog 15 #[.agg (gcells q g).toArray,.agg (gcells q' g).toArray] h fun v h'=>Fr 0 0 h h'∧v=.bool true:=by
 refine con_q89 ?_
 have p0:Fr 0 0 h h:=.refl _ _ _
 have be:=t.fits.e
 have bf:=t.fits.f
 have bo:=t.fits.o
 have br:=t.fits.r
 have ba:=t.fits.a
 have bd:=t.fits.d
 have bc:=t.fits.c
 have hen:g.evs.length=g.n:=rfl
 have hrl:=rl_at t.o
 have hrl':=rl_at t'.o
 unfold gcells
 simp -dsimp only [go_sem]
 intro b1 h1 n1
 have n1_z:=n1.az
 replace p0:=p0.F n1.f0
 have r1:=n1.row
 simp -dsimp only [go_sem,r1.cell]
 intro b2 h2 n2
 have n2_z:=n2.az
 replace p0:=p0.F n2.f0
 replace r1:=r1.F n2.f0
 have r2:=n2.row
 simp -dsimp only [go_sem,r1.cell,r2.cell]
 have dt:∀ l:List (Int×Int),decide (l=l)=true:=fun _=>by simp
 refine call_of (c_ref8_pairs (t.f.fr p0) (t'.f.fr p0) (by omega)) ?_
 rintro v3 h2 ⟨rfl,rfl⟩
 simp -dsimp only [go_sem,dt,r1.cell,r2.cell]
 refine call_of (c_ref8_pairs (t.r.fr p0) (t'.r.fr p0) (by omega)) ?_
 rintro v4 h2 ⟨rfl,rfl⟩
 simp -dsimp only [go_sem,dt,r1.cell,r2.cell]
 refine call_of (c_ref8_pairs (t.a.fr p0) (t'.a.fr p0) (by omega)) ?_
 rintro v5 h2 ⟨rfl,rfl⟩
 simp -dsimp only [go_sem,dt,r1.cell,r2.cell]
 refine call_of (c_ref8_pairs (t.d.fr p0) (t'.d.fr p0) (by omega)) ?_
 rintro v6 h2 ⟨rfl,rfl⟩
 simp -dsimp only [go_sem,dt,r1.cell,r2.cell]
 refine call_of (c_ref8_pairs (t.c.fr p0) (t'.c.fr p0) (by omega)) ?_
 rintro v7 h2 ⟨rfl,rfl⟩
 simp -dsimp only [go_sem,dt,r1.cell,r2.cell]
 refine loop_intro (fun i:Nat=>[(2,.pointer (some ⟨b1,0,none⟩)),(3,.pointer (some ⟨b2,0,none⟩)),(5,.int .i64 i)])
  (fun i h'=>i≤g.n∧h'=h2) (fun i=>g.n - i) 0 ?_ ?_ ?_
 ·simp [Le,find]
 ·exact ⟨by omega,rfl⟩
 rintro i h2 ⟨hi,rfl⟩
 by_cases hlt:i<g.n
 ·have e1:((i:Int)<(g.n:Int)):=by omega
  obtain ⟨eb,eo,he,hev⟩:=t.evs (by omega)
  obtain ⟨eb',eo',he',hev'⟩:=t'.evs (by omega)
  obtain ⟨c0,c1,c2,c3,c4⟩:=hev _ p0 i hlt
  obtain ⟨d0,d1,d2,d3,d4⟩:=hev' _ p0 i hlt
  simp -dsimp only [go_sem,e1,he,he',evs_len,r1.cell,r2.cell]
  simp -dsimp only [go_sem,e1,he,he',evs_len,c0,c1,c2,c3,c4,d0,d1,d2,d3,d4,r1.cell,r2.cell]
  simp -dsimp (disch:=omega) only [wrap64]
  exact ⟨i+1,by omega,by simp [Le,find],by omega⟩
 obtain rfl:i=g.n:=by omega
 simp -dsimp only [go_sem,Int.lt_irrefl,evs_len,r1.cell,r2.cell]
 refine loop_intro (fun c:Nat=>[(2,.pointer (some ⟨b1,0,none⟩)),(3,.pointer (some ⟨b2,0,none⟩)),(6,.int .i64 c)])
  (fun c h'=>c≤g.co.length∧h'=h2) (fun c=>g.co.length - c) 0 ?_ ?_ ?_
 ·simp [Le,find]
 ·exact ⟨by omega,rfl⟩
 rintro c h2 ⟨hc,rfl⟩
 by_cases hlt:c<g.co.length
 ·have e1:((c:Int)<(g.co.length:Int)):=by omega
  obtain ⟨ob,oo,hoe,la,lc,hlist⟩:=hrl c hlt
  obtain ⟨ob',oo',hoe',la',lc',hlist'⟩:=hrl' c hlt
  have hll:=t.fits.l (g.co.getD c []) (by have:g.co[c]?=some (g.co.getD c []):=by { simp [hlt] };exact List.mem_of_getElem? this)
  obtain ⟨l1,l2⟩:=hlist _ p0
  obtain ⟨l1',l2'⟩:=hlist' _ p0
  generalize g.co.getD c []=l at *
  simp -dsimp only [go_sem,e1,hoe,hoe',l1,l1',r1.cell,r2.cell]
  refine loop_intro (fun j:Nat=>[(2,.pointer (some ⟨b1,0,none⟩)),(3,.pointer (some ⟨b2,0,none⟩)),(6,.int .i64 c),(7,.int .i64 j)])
   (fun j h'=>j≤l.length∧h'=h2) (fun j=>l.length - j) 0 ?_ ?_ ?_
  ·simp [Le,find]
  ·exact ⟨by omega,rfl⟩
  rintro j h2 ⟨hj,rfl⟩
  by_cases hjl:j<l.length
  ·have e2:((j:Int)<(l.length:Int)):=by omega
   have hq:l[j]?=some l[j]:=by simp [hjl]
   generalize l[j]=w at hq
   simp -dsimp only [go_sem,e1,hoe,hoe',l1,l1',e2,r1.cell,r2.cell]
   refine l2.idx (by omega) fun lb lo hlc=>?_
   have k1:=hlc j _ (intsV_get hq)
   simp -dsimp only [go_sem,e1,hoe,hoe',l1,l1',e2,k1,r1.cell,r2.cell]
   refine l2'.idx (by omega) fun lb' lo' hlc'=>?_
   have k2:=hlc' j _ (intsV_get hq)
   simp -dsimp only [go_sem,k2,r1.cell,r2.cell]
   simp -dsimp (disch:=omega) only [wrap64]
   exact ⟨j+1,by omega,by simp [Le,find],by omega⟩
  ·obtain rfl:j=l.length:=by omega
   simp -dsimp only [go_sem,e1,hoe,hoe',l1,l1',Int.lt_irrefl,r1.cell,r2.cell]
   simp -dsimp (disch:=omega) only [wrap64]
   exact ⟨c+1,by omega,by simp [Le,find],by omega⟩
 ·obtain rfl:c=g.co.length:=by omega
  simp -dsimp only [go_sem,Int.lt_irrefl,r1.cell,r2.cell]
  exact p0
end Go.Proofs.Tst
/-
  graph.Derive: how its relations are laid.
-/
namespace Go.Proofs.Tst
open Go Go.Vc
def lpairs:List Int→List (Int×Int)
 | []=>[]
 | a :: t=>t.map (fun b=>(a,b))++lpairs t
def coPairs (g:Gr):List (Int×Int):=g.co.flatMap lpairs
def relM (g:Gr):Nat→Nat→Nat→Bool
 | 0=>g.poM
 | 1=>ofM g.n g.rf
 | 2=>ofM g.n (coPairs g)
 | 3=>ofM g.n g.rmw
 | 4=>g.sameM
 | 5=>g.extM
 | 6=>ofM g.n g.addr
 | 7=>ofM g.n g.data
 | 8=>ofM g.n g.ctrl
 | _=>compM g.n (invM (ofM g.n g.rf)) g.n (ofM g.n (coPairs g))
def relZ (g:Gr):Nat→Nat→Nat→Bool
 | 0=>fun _ _=>false
 | 2=>fun _ _=>false
 | 4=>fun _ _=>false
 | 5=>fun _ _=>false
 | k=>relM g k
def fcells (p:Nat→Value) (rd wr fe:Value):List Value:=[p 0,p 1,p 2,p 9,p 3,p 4,p 5,p 6,p 7,p 8,rd,wr,fe]
def fzero:List Value:=[.pointer none,.pointer none,.pointer none,.pointer none,.pointer none,.pointer none,.pointer none,.pointer none,.pointer none,.pointer none,.slice none 0 0,.slice none 0 0,.slice none 0 0]
def ixD (k:Nat):Nat:=[1,5,7,11,13,15,19,23,27].getD k 0
def kindsV (g:Gr) (k:Int) (i:Nat):List Bool:=(g.evs.take i).map fun e=>e.kind==k
theorem good_n {g:Gr} (h:g.good=true):g.n≤256∧g.size=true:=by
 have hs:g.size=true:=by
  cases hs:g.size
  ·unfold Gr.good Gr.check at h
   rw [hs] at h;simp at h
  ·rfl
 have hs':=hs
 simp only [Gr.size,Bool.and_eq_true,decide_eq_true_eq] at hs
 exact ⟨hs.2,hs'⟩
theorem progPtr {h:Heap} {a b n:Nat} {v:Value} {M:Nat→Nat→Bool} (t:ProgAt h a b v n M):∃ pb,v=.pointer (some ⟨pb,0,none⟩):=by
 obtain ⟨_,pb,_,_,_,e,_⟩:=t;exact ⟨pb,e⟩
def tellP (n:Nat) (M:Nat→Nat→Bool):Tell:=tell1 fun v a b h=>ProgAt h a b v n M
theorem stabP (n:Nat) (M:Nat→Nat→Bool):Stab (tellP n M):=Stab.one fun v a b h h' f t=>t.fr f (by omega)
def tellF:Tell:=fun us _=>match us with
 | [a,b,c,d,e,f,g,h,i,u]=>u.1=.agg #[a.1,b.1,c.1,.pointer none,d.1,e.1,f.1,g.1,h.1,i.1,.slice none 0 0,.slice none 0 0,.slice none 0 0]
 | _=>False
theorem tellF_eq (a b c d e f g h i u:Out) (hp:Heap):tellF [a,b,c,d,e,f,g,h,i,u] hp=(u.1=.agg #[a.1,b.1,c.1,.pointer none,d.1,e.1,f.1,g.1,h.1,i.1,.slice none 0 0,.slice none 0 0,.slice none 0 0]):=(rfl)
def tellA (c:List Value):Tell:=tell1 fun v a b h=>v=.pointer (some ⟨a,0,none⟩)∧b=a+1∧Rw h a c
theorem stabA (c:List Value):Stab (tellA c):=Stab.one fun v a b h h' f ⟨h1,h2,h3⟩=>⟨h1,h2,h3.fr f (by omega)⟩
theorem tellP_eq (n:Nat) (M:Nat→Nat→Bool) (u:Out) (h:Heap):tellP n M [u] h=ProgAt h u.2.1 u.2.2 u.1 n M:=(rfl)
theorem tellA_eq (c:List Value) (u:Out) (h:Heap):tellA c [u] h=(u.1=.pointer (some ⟨u.2.1,0,none⟩)∧u.2.2=u.2.1+1∧Rw h u.2.1 c):=(rfl)
end Go.Proofs.Tst
