/-
  Contracts of functions that the law reaches: what each returns and what it leaves in memory. Conditions stand in each.
-/
import Derived.Test.YtmilaghhnaoidaaGreatDoorT9
set_option linter.all false
set_option maxRecDepth 2000
/-
  The document's own far and Cycle.
-/
namespace Go.Proofs.Tst
open Go Go.Vc
def enc (v:Nat):Int:=if v=0 then -1 else (v:Int)
def anyC (n:Nat) (M:Nat→Nat→Bool) (p k i j:Nat):Bool:=(List.range j).any fun x=>M i x&&(if k=0 then x==p else farK n M p k x==k)
theorem lay_any {n:Nat} {M:Nat→Nat→Bool} {p k i:Nat} (hp:p<n):lay n M p (farK n M p k) k i=anyC n M p k i n:=by
 unfold lay anyC
 by_cases hk:k=0
 ·subst hk
  rw [if_pos rfl,Bool.eq_iff_iff]
  simp only [if_true,List.any_eq_true,List.mem_range,Bool.and_eq_true,beq_iff_eq]
  exact ⟨fun h=>⟨p,hp,h,rfl⟩,by rintro ⟨x,-,h,rfl⟩;exact h⟩
 ·simp only [if_neg hk]
theorem anyC_mono {n:Nat} {M:Nat→Nat→Bool} {p k i j m:Nat} (hj:j≤m) (h:anyC n M p k i j=true):anyC n M p k i m=true:=by
 unfold anyC at *
 rw [List.any_eq_true] at *
 obtain ⟨x,hx,h⟩:=h
 exact ⟨x,List.mem_range.2 (by have:=List.mem_range.1 hx;omega),h⟩
theorem anyC_succ {n:Nat} {M:Nat→Nat→Bool} {p k i j:Nat}:anyC n M p k i (j+1)=(anyC n M p k i j||(M i j&&(if k=0 then j==p else farK n M p k j==k))):=by
 unfold anyC;rw [List.range_succ,List.any_append];simp
def curF (n:Nat) (M:Nat→Nat→Bool) (p k i j:Nat):Nat:=if farK n M p k i≠0 then farK n M p k i else if anyC n M p k i j=true then k+1 else 0
theorem curF_zero {n:Nat} {M:Nat→Nat→Bool} {p k i:Nat}:curF n M p k i 0=farK n M p k i:=by
 unfold curF anyC;split
 ·rfl
 ·simp;omega
theorem curF_end {n:Nat} {M:Nat→Nat→Bool} {p k i j:Nat} (hp:p<n) (h:curF n M p k i j≠0∨j=n) (hj:j≤n):curF n M p k i j=farK n M p (k+1) i:=by
 simp only [farK,lay_any hp]
 unfold curF at *
 split
 ·rfl
 ·rename_i h0
  rw [if_neg h0] at h
  by_cases ha:anyC n M p k i j=true
  ·rw [if_pos ha,if_pos (anyC_mono hj ha)]
  ·rw [if_neg ha] at h ⊢
   have:j=n:=by simpa using h
   subst this
   rw [if_neg ha]
theorem farK_eq {n:Nat} {M:Nat→Nat→Bool} {p k j:Nat} (hk:k≠0):(farK n M p (k+1) j=k)↔farK n M p k j=k:=by
 constructor
 ·intro h
  by_cases h0:farK n M p k j=0
  ·rw [farK_new h0] at h;split at h <;> omega
  ·rwa [farK_keep h0] at h
 ·intro h
  rw [farK_keep (by omega)];exact h
theorem enc_eq {v k:Nat} (hk:k≠0):(enc v==(k:Int))=decide (v=k):=by
 unfold enc
 rw [Bool.eq_iff_iff]
 by_cases h:v=0
 ·simp only [h,if_true,beq_iff_eq,decide_eq_true_eq];omega
 ·simp only [if_neg h,beq_iff_eq,decide_eq_true_eq];omega
set_option maxHeartbeats 1000000 in
theorem ref1_far {n p:Nat} {M:Nat→Nat→Bool} {rv:Value} {lo hi:Nat} {h:Heap} (hr:RefAt h lo hi rv n M) (hp:p<n) :
  Con Tryz.prog 74 #[rv,.int .i64 p] h fun v h'=>Fr 0 0 h h'∧∃ b,v=.slice (some ⟨b,0,none⟩) n n∧Rw h' b (ivec n fun i=>enc (farS n M p i))∧h.size≤b:=by
 refine con_ref1_far ?_
 obtain ⟨hn,s,R,rfl,t⟩:=hr
 obtain ⟨sa,sc,rfl⟩:=t.own.is
 have p0:Fr 0 0 h h:=.refl _ _ _
 simp -dsimp only [go_sem]
 intro b1 h1 n1
 have n1_a:=n1.at_
 have n1_z:=n1.size
 replace p0:=p0.F n1.f0
 have r1:=n1.row
 simp -dsimp only [go_sem,r1.cell]
 refine Chk_intro (by omega) ?_
 intro b2 h2 n2
 have n2_a:=n2.at_
 have n2_z:=n2.size
 replace p0:=p0.F n2.f0
 replace r1:=r1.F n2.f0
 have r2:=n2.row
 rw [zeros_one,Int.toNat_natCast,ivec_rep] at r2
 simp -dsimp only [go_sem]
 have k2:h.size≤b1∧b1<b2∧b2<h2.size:=by omega
 refine loop_intro (fun i:Nat=>[(1,.int .i64 p),(2,.pointer (some ⟨b1,0,none⟩)),(5,.slice (some ⟨b2,0,none⟩) n n),(6,.int .i64 i)])
  (fun i h'=>i≤n∧Fr 0 0 h h'∧h2.size≤h'.size∧Rw h' b1 [.int .i64 n,.slice sa n sc]∧Rw h' b2 (ivec n fun x=>if x<i then -1 else 0)) (fun i=>n - i) 0 ?_ ?_ ?_
 ·simp [Le,find]
 ·exact ⟨by omega,p0,by omega,r1,by simpa using r2⟩
 rintro i h3 ⟨hi,p0,y3,r1,r2⟩
 have p0_z:=p0.size
 have r1_l:=r1.lt
 have r2_l:=r2.lt
 simp -dsimp only [go_sem,r1.cell]
 refine ⟨fun hlt=>?_,fun hge=>?_⟩
 ·have hlt:i<n:=by omega
  simp -dsimp only [go_sem]
  refine Chk_intro (by omega) ?_
  simp -dsimp only [go_sem]
  refine Chk_intro (r2.wr (by first | (simp;done) | (simp;omega))) fun h4 s4=>?_
  have s4_z:=s4.size
  replace p0:=p0.F s4.fr
  replace r1:=r1.F s4.fr
  replace r2:=s4.row r2
  try simp only [cl_int,putAt_one,ivec_set] at r2
  simp -dsimp only [go_sem]
  simp -dsimp (disch:=omega) only [wrap64]
  refine ⟨i+1,by omega,by simp [Le,find],by omega,p0,by omega,r1,?_⟩
  rw [ivec_congr fun x hx=>?_];exact r2
  by_cases h:x=i
  ·subst h;rw [upd_same,if_pos (by omega)]
  ·rw [upd_ne _ _ h];congr 1;simp;omega
 have hin:n=i:=by omega
 subst hin
 replace r2:Rw h3 b2 (ivec n fun x=>enc (farK n M p 0 x)):=by rw [ivec_congr fun x hx=>?_];exact r2;simp [hx,farK,enc]
 simp -dsimp only [go_sem]
 refine loop_intro (fun k:Nat=>[(1,.int .i64 p),(2,.pointer (some ⟨b1,0,none⟩)),(5,.slice (some ⟨b2,0,none⟩) n n),(7,.int .i64 ((k:Int)+1))])
  (fun k h'=>k≤n∧Fr 0 0 h h'∧h2.size≤h'.size∧Rw h' b1 [.int .i64 n,.slice sa n sc]∧Rw h' b2 (ivec n fun x=>enc (farK n M p k x))) (fun k=>n - k) 0 ?_ ?_ ?_
 ·simp [Le,find]
 ·exact ⟨by omega,p0,by omega,r1,r2⟩
 rintro k h4 ⟨hk,p0,y4,r1,r2⟩
 have p0_z:=p0.size
 have r1_l:=r1.lt
 have r2_l:=r2.lt
 simp -dsimp only [go_sem,r1.cell]
 refine ⟨fun hlt=>?_,fun hge=>?_⟩
 ·have hlt:k<n:=by omega
  simp -dsimp only [go_sem]
  refine loop_intro (fun i:Nat=>[(1,.int .i64 p),(2,.pointer (some ⟨b1,0,none⟩)),(5,.slice (some ⟨b2,0,none⟩) n n),(7,.int .i64 ((k:Int)+1)),(8,.int .i64 i)])
   (fun i h'=>i≤n∧Fr 0 0 h h'∧h2.size≤h'.size∧Rw h' b1 [.int .i64 n,.slice sa n sc]∧Rw h' b2 (ivec n fun x=>enc (if x<i then farK n M p (k+1) x else farK n M p k x))) (fun i=>n - i) 0 ?_ ?_ ?_
  ·simp [Le,find]
  ·exact ⟨by omega,p0,by omega,r1,by simpa using r2⟩
  rintro i h5 ⟨hi,p0,y5,r1,r2⟩
  have p0_z:=p0.size
  have r1_l:=r1.lt
  have r2_l:=r2.lt
  simp -dsimp only [go_sem,r1.cell]
  refine ⟨fun hlt1=>?_,fun hge1=>?_⟩
  ·have hlt1:i<n:=by omega
   simp -dsimp only [go_sem]
   refine loop_intro (fun j:Nat=>[(1,.int .i64 p),(2,.pointer (some ⟨b1,0,none⟩)),(5,.slice (some ⟨b2,0,none⟩) n n),(7,.int .i64 ((k:Int)+1)),(8,.int .i64 i),(9,.int .i64 j)])
    (fun j h'=>j≤n∧Fr 0 0 h h'∧h2.size≤h'.size∧Rw h' b1 [.int .i64 n,.slice sa n sc]∧Rw h' b2 (ivec n fun x=>enc (if x<i then farK n M p (k+1) x else if x=i then curF n M p k i j else farK n M p k x))) (fun j=>n - j) 0 ?_ ?_ ?_
   ·simp [Le,find]
   ·refine ⟨by omega,p0,by omega,r1,?_⟩
    rw [ivec_congr fun x hx=>?_];exact r2
    rw [curF_zero]
    by_cases h:x=i
    ·subst h;simp
    ·simp [h]
   rintro j h6 ⟨hj,p0,y6,r1,r2⟩
   have p0_z:=p0.size
   have r1_l:=r1.lt
   have r2_l:=r2.lt
   have next:(curF n M p k i j≠0∨j=n)→Rw h6 b2 (ivec n fun x=>enc (if x<i+1 then farK n M p (k+1) x else farK n M p k x)):=fun hc=>by
    rw [ivec_congr fun x hx=>?_];exact r2
    by_cases h:x=i
    ·subst h;rw [if_pos (by omega),if_neg (by omega),if_pos rfl,curF_end hp hc hj]
    ·have:(x<i+1)=(x<i):=by simp;omega
     simp only [this,if_neg h]
   simp -dsimp only [go_sem]
   refine Chk_intro (by omega) ?_
   have ci:(ivec n fun x=>enc (if x<i then farK n M p (k+1) x else if x=i then curF n M p k i j else farK n M p k x))[i]?=some (.int .i64 (enc (curF n M p k i j))):=by
    rw [ivec_get hlt1,if_neg (by omega),if_pos rfl]
   by_cases hc:curF n M p k i j=0
   ·have e1:enc (curF n M p k i j)<0:=by rw [hc];decide
    simp -dsimp only [go_sem,ci,e1,decide_true,r1.cell,r2.cell]
    refine ⟨fun hlt2=>?_,fun hge2=>?_⟩
    ·have hlt2:j<n:=by omega
     have hf0:farK n M p k i=0:=by
      unfold curF at hc;split at hc
      ·rename_i h;exact absurd hc h
      ·rename_i h;omega
     have ha0:anyC n M p k i j=false:=by
      unfold curF at hc;rw [if_neg (by omega)] at hc
      rw [Bool.eq_false_iff];intro h;rw [if_pos h] at hc;omega
     have stay:(M i j&&(if k=0 then j==p else farK n M p k j==k))=false→curF n M p k i (j+1)=curF n M p k i j:=fun h=>by
      unfold curF;rw [anyC_succ,h,Bool.or_false]
     have found:(M i j&&(if k=0 then j==p else farK n M p k j==k))=true→curF n M p k i (j+1)=k+1:=fun h=>by
      unfold curF;rw [anyC_succ,h,Bool.or_true,if_neg (by omega),if_pos rfl]
     have tt:=t.fr p0 (by omega)
     have same:curF n M p k i (j+1)=curF n M p k i j→Rw h6 b2 (ivec n fun x=>enc (if x<i then farK n M p (k+1) x else if x=i then curF n M p k i (j+1) else farK n M p k x)):=fun h=>by rw [h];exact r2
     have upto:curF n M p k i (j+1)=k+1→∀ h',Rw h' b2 (ivec n (upd (fun x=>enc (if x<i then farK n M p (k+1) x else if x=i then curF n M p k i j else farK n M p k x)) i ((k:Int)+1)))→Rw h' b2 (ivec n fun x=>enc (if x<i then farK n M p (k+1) x else if x=i then curF n M p k i (j+1) else farK n M p k x)):=fun h h' r=>by
      rw [ivec_congr fun x hx=>?_];exact r
      by_cases hxi:x=i
      ·subst hxi;rw [upd_same,if_neg (by omega),if_pos rfl,h];simp [enc]
      ·rw [upd_ne _ _ hxi];simp only [if_neg hxi]
     simp -dsimp only [go_sem,r1.cell]
     refine Chk_intro (by omega) (tt.idx hlt1 fun b7 o7 c7=>?_)
     simp -dsimp only [go_sem,c7]
     refine Chk_intro (by omega) ?_
     simp -dsimp only [go_sem,tt.cell hlt1 hlt2]
     cases hm:M i j with
     | false =>
      simp -dsimp only [go_sem]
      simp -dsimp (disch:=omega) only [wrap64]
      exact ⟨j+1,by omega,by simp [Le,find],by omega,p0,by omega,r1,same (stay (by simp [hm]))⟩
     | true =>
      rw [hm,Bool.true_and] at stay found
      by_cases hk0:k=0
      ·have e2:(((k:Int)+1)==1)=true:=by simp [hk0]
       have e4:¬ ((k:Int)+1 > 1):=by omega
       rw [if_pos hk0] at stay found
       by_cases hjp:j=p
       ·have e3:((j:Int)==(p:Int))=true:=by simp [hjp]
        simp -dsimp only [go_sem,e2,e3]
        refine Chk_intro (by omega) ?_
        simp -dsimp only [go_sem]
        refine Chk_intro (r2.wr (by first | (simp;done) | (simp;omega))) fun h8 s8=>?_
        have s8_z:=s8.size
        replace p0:=p0.F s8.fr
        replace r1:=r1.F s8.fr
        replace r2:=s8.row r2
        try simp only [cl_int,putAt_one,ivec_set] at r2
        simp -dsimp only [go_sem]
        simp -dsimp (disch:=omega) only [wrap64]
        exact ⟨j+1,by omega,by simp [Le,find],by omega,p0,by omega,r1,upto (found (by simp [hjp])) _ r2⟩
       ·have e3:((j:Int)==(p:Int))=false:=by simp;omega
        simp -dsimp only [go_sem,e2,e3,e4,decide_false]
        simp -dsimp (disch:=omega) only [wrap64]
        exact ⟨j+1,by omega,by simp [Le,find],by omega,p0,by omega,r1,same (stay (by simp [hjp]))⟩
      ·have e2:(((k:Int)+1)==1)=false:=by simp;omega
       have e4:((k:Int)+1 > 1):=by omega
       rw [if_neg hk0] at stay found
       have cj:(ivec n fun x=>enc (if x<i then farK n M p (k+1) x else if x=i then curF n M p k i j else farK n M p k x))[j]?=some (.int .i64 (enc (if j<i then farK n M p (k+1) j else if j=i then curF n M p k i j else farK n M p k j))):=ivec_get hlt2
       have e5:(enc (if j<i then farK n M p (k+1) j else if j=i then curF n M p k i j else farK n M p k j)==(k:Int))=(farK n M p k j==k):=by
        rw [enc_eq hk0,Bool.eq_iff_iff]
        simp only [decide_eq_true_eq,beq_iff_eq]
        by_cases h1:j<i
        ·rw [if_pos h1,farK_eq hk0]
        ·rw [if_neg h1]
         by_cases h2:j=i
         ·subst h2;rw [if_pos rfl,hc,hf0]
         ·rw [if_neg h2]
       have e6:IntKind.i64.wrap ((k:Int)+1 - 1)=(k:Int):=by rw [wrap64 (by omega) (by omega)];omega
       simp -dsimp only [go_sem,e2,e4,decide_true]
       refine Chk_intro (by omega) ?_
       cases hfj:(farK n M p k j==k) with
       | true =>
        simp -dsimp only [go_sem,cj,e6,e5,hfj,e2,e4,decide_true,r2.cell]
        refine Chk_intro (by omega) ?_
        simp -dsimp only [go_sem]
        refine Chk_intro (r2.wr (by first | (simp;done) | (simp;omega))) fun h8 s8=>?_
        have s8_z:=s8.size
        replace p0:=p0.F s8.fr
        replace r1:=r1.F s8.fr
        replace r2:=s8.row r2
        try simp only [cl_int,putAt_one,ivec_set] at r2
        simp -dsimp only [go_sem]
        simp -dsimp (disch:=omega) only [wrap64]
        exact ⟨j+1,by omega,by simp [Le,find],by omega,p0,by omega,r1,upto (found hfj) _ r2⟩
       | false =>
        simp -dsimp only [go_sem,cj,e6,e5,hfj,e2,e4,decide_true,r2.cell]
        simp -dsimp (disch:=omega) only [wrap64]
        exact ⟨j+1,by omega,by simp [Le,find],by omega,p0,by omega,r1,same (stay hfj)⟩
    ·have hjn:j=n:=by omega
     simp -dsimp only [go_sem]
     simp -dsimp (disch:=omega) only [wrap64]
     exact ⟨i+1,by omega,by simp [Le,find],by omega,p0,by omega,r1,next (.inr hjn)⟩
   ·have e1:¬ enc (curF n M p k i j)<0:=by unfold enc;rw [if_neg hc];omega
    simp -dsimp only [go_sem,ci,e1,decide_false,r2.cell]
    simp -dsimp (disch:=omega) only [wrap64]
    exact ⟨i+1,by omega,by simp [Le,find],by omega,p0,by omega,r1,next (.inl hc)⟩
  ·have hin:i=n:=by omega
   subst hin
   simp -dsimp only [go_sem]
   simp -dsimp (disch:=omega) only [wrap64]
   refine ⟨k+1,by omega,by simp [Le,find],by omega,p0,by omega,r1,?_⟩
   rw [ivec_congr fun x hx=>?_];exact r2
   rw [if_pos hx]
 ·have hkn:k=n:=by omega
  subst hkn
  simp -dsimp only [go_sem]
  exact ⟨p0,b2,rfl,r2,by omega⟩
set_option maxHeartbeats 1000000 in
theorem ref1_Cycle {n:Nat} {M:Nat→Nat→Bool} {rv:Value} {lo hi:Nat} {h:Heap} (hr:RefAt h lo hi rv n M) :
  Con Tryz.prog 28 #[rv] h fun v h'=>Fr 0 0 h h'∧Holder 1 h' v (cycS n M).length (natsV (cycS n M)) h.size:=by
 refine con_ref1_Cycle ?_
 have hr0:=hr
 obtain ⟨hn,s,R,rfl,t⟩:=hr
 obtain ⟨sa,sc,rfl⟩:=t.own.is
 have p0:Fr 0 0 h h:=.refl _ _ _
 simp -dsimp only [go_sem]
 intro b1 h1 n1
 have n1_a:=n1.at_
 have n1_z:=n1.size
 replace p0:=p0.F n1.f0
 have r1:=n1.row
 simp -dsimp only [go_sem,r1.cell]
 refine call_of (ref1_Plus (hr0.fr p0 (by omega))) ?_
 rintro v h2 ⟨f2,-,cs,cR,rfl,tc⟩
 have f2_z:=f2.size
 replace p0:=p0.F f2
 replace r1:=r1.F f2
 obtain ⟨ca,cc,rfl⟩:=tc.own.is
 simp -dsimp only [go_sem]
 intro b3 h3 n3
 have n3_a:=n3.at_
 have n3_z:=n3.size
 replace p0:=p0.F n3.f0
 replace r1:=r1.F n3.f0
 replace tc:=tc.fr n3.f0 (by omega)
 have r3:=n3.row
 simp -dsimp only [go_sem]
 refine Chk_intro (r3.wr (by first | (simp;done) | (simp;omega))) fun h4 s4=>?_
 have s4_z:=s4.size
 replace p0:=p0.F s4.fr
 replace r1:=r1.F s4.fr
 replace tc:=tc.fr s4.fr (by omega)
 replace r3:=s4.row r3
 try simp only [cl_int,cl_bool,cl_slice,cl_ptr,putAt_one,List.set_cons_zero,List.set_cons_succ,ivec_set,brow_upd] at r3
 simp -dsimp only [go_sem] at r3
 simp -dsimp only [go_sem]
 refine loop_intro (fun p:Nat=>[(1,.pointer (some ⟨b1,0,none⟩)),(3,.pointer (some ⟨b3,0,none⟩)),(4,.int .i64 p)])
  (fun p h'=>p≤n∧h'=h4∧lf (fun p=>plusM n M p p) n 0=lf (fun p=>plusM n M p p) n p) (fun p=>n - p) 0 ?_ ?_ ?_
 ·simp [Le,find]
 ·exact ⟨by omega,rfl,rfl⟩
 rintro p h5 ⟨hp,hh,hlf⟩
 obtain rfl:h4=h5:=hh.symm
 simp -dsimp only [go_sem,r1.cell]
 refine ⟨fun hlt=>?_,fun hge=>?_⟩
 ·have hlt:p<n:=by omega
  have hst:=lf_step (fun p=>plusM n M p p) hlt
  simp -dsimp only [go_sem,r3.cell]
  refine Chk_intro (by omega) (tc.idx hlt fun b6 o6 c6=>?_)
  simp -dsimp only [go_sem,c6]
  refine Chk_intro (by omega) ?_
  simp -dsimp only [go_sem,tc.cell hlt hlt]
  cases hpp:plusM n M p p with
  | false =>
   simp -dsimp only [go_sem]
   simp -dsimp (disch:=omega) only [wrap64]
   exact ⟨p+1,by omega,by simp [Le,find],by omega,by rw [hlf,hst,hpp];rfl⟩
  | true =>
   have hcy:cycS n M=shortS n M p:=by unfold cycS;rw [hlf,hst,if_pos hpp]
   rw [hcy]
   have hF0:=plus_far hlt hlt hpp
   have hFl:=farS_le (M:=M) (p:=p) (n:=n) p
   have hsl:=shortS_len (n:=n) (M:=M) (p:=p)
   simp -dsimp only [go_sem,r1.cell]
   refine call_of (ref1_far (hr0.fr p0 (by omega)) hlt) ?_
   rintro v h7 ⟨f7,bF,rfl,rF,kF⟩
   have f7_z:=f7.size
   replace p0:=p0.F f7
   replace r1:=r1.F f7
   replace tc:=tc.fr f7 (by omega)
   replace r3:=r3.F f7
   have k8:b1<h7.size∧bF<h7.size:=⟨r1.lt,rF.lt⟩
   simp -dsimp only [go_sem]
   intro b8 h8 n8
   have n8_a:=n8.at_
   have n8_z:=n8.size
   replace p0:=p0.F n8.f0
   replace r1:=r1.F n8.f0
   replace tc:=tc.fr n8.f0 (by omega)
   replace r3:=r3.F n8.f0
   replace rF:=rF.fr n8.f0 (by omega)
   have r8:=n8.row
   simp -dsimp only [go_sem]
   refine Chk_intro (by omega) ?_
   have hF:∃ F,F=farS n M p:=⟨_,rfl⟩
   obtain ⟨F,hF⟩:=hF
   have step:∀ a k,F a=k+1+1→∃ q,lf (fun q=>M a q&&F q==k+1) n 0=some q:=fun a k h=>by
    rw [hF] at h ⊢
    obtain ⟨j,hj,hM,hf⟩:=(farS_step h).2 (by omega)
    cases hl:lf (fun q=>M a q&&farS n M p q==k+1) n 0 with
    | none =>
     have:=lf_none hl j (by omega) hj
     simp [hM,hf] at this
    | some q=>exact ⟨q,rfl⟩
   have hsh:shortS n M p=p :: cycGo n M F (F p - 1) p:=by rw [hF];rfl
   rw [← hF] at rF hF0 hFl
   rw [hsh] at hsl ⊢
   have eF:enc (F p)=(F p:Int):=by unfold enc;rw [if_neg hF0]
   have eF1:IntKind.i64.wrap ((F p:Int) - 1)=((F p - 1:Nat):Int):=by rw [wrap64 (by omega) (by omega)];omega
   simp -dsimp only [go_sem,ivec_get hlt,eF,eF1,rF.cell]
   have oo:Holder 1 h8 (.slice (some ⟨b8,0,none⟩) 1 1) ([p]:List Nat).length (natsV [p]) h7.size:=⟨rfl,.inr ⟨b8,1,[],rfl,r8,rfl,by omega⟩⟩
   refine loop_intro (fun s:Nat×Nat×Value=>[(1,.pointer (some ⟨b1,0,none⟩)),(5,.slice (some ⟨bF,0,none⟩) n n),(6,s.2.2),(7,.int .i64 s.2.1),(8,.int .i64 s.1)])
    (fun s h'=>Fr 0 0 h h'∧h8.size≤h'.size∧Rw h' b1 [.int .i64 n,.slice sa n sc]∧Rw h' bF (ivec n fun i=>enc (F i))∧s.2.1<n∧F s.2.1=s.1+1∧∃ out:List Nat,Holder 1 h' s.2.2 out.length (natsV out) h7.size∧out++cycGo n M F s.1 s.2.1=p :: cycGo n M F (F p - 1) p) (fun s=>s.1) (F p - 1,p,.slice (some ⟨b8,0,none⟩) 1 1) ?_ ?_ ?_
   ·simp [Le,find]
   ·exact ⟨p0,by omega,r1,rF,hlt,by dsimp only;omega,[p],oo,rfl⟩
   clear oo
   rintro ⟨k,a,ov⟩ h9 ⟨p0,y9,r1,rF,ha,hFa,out,oo,hout⟩
   dsimp only at ha hFa oo hout ⊢
   have p0_z:=p0.size
   have r1_l:=r1.lt
   have rF_l:=rF.lt
   have oo_l:=oo.top
   obtain ⟨va,vc,rfl⟩:=oo.is
   have hFa_le:F a≤n:=by rw [hF];exact farS_le a
   have hol:out.length≤n+1:=by
    have:=congrArg List.length hout
    rw [List.length_append] at this;omega
   simp -dsimp only [go_sem]
   refine ⟨fun hk=>?_,fun hk=>?_⟩
   ·obtain ⟨k,rfl⟩:∃ x,k=x+1:=⟨k - 1,by omega⟩
    obtain ⟨q,hq⟩:=step a k hFa
    obtain ⟨-,hqn,hqf⟩:=lf_some hq
    simp only [Bool.and_eq_true,beq_iff_eq] at hqf
    simp -dsimp only [go_sem,r1.cell]
    rw [wrap64 (by omega) (by omega)]
    refine loop_intro (fun z:Nat=>[(1,.pointer (some ⟨b1,0,none⟩)),(5,.slice (some ⟨bF,0,none⟩) n n),(6,.slice va out.length vc),(7,.int .i64 a),(8,.int .i64 (k+1:Nat)),(9,.int .i64 (nx (lf (fun q=>M a q&&F q==k+1) n z))),(10,.int .i64 ((z:Int) - 1))])
     (fun z h'=>z≤n∧h'=h9) (fun z=>z) n ?_ ?_ ?_
    ·simp [Le,find,lf_end,nx]
    ·exact ⟨by omega,rfl⟩
    rintro z h10 ⟨hz,hh⟩
    obtain rfl:h9=h10:=hh.symm
    simp -dsimp only [go_sem]
    refine ⟨fun hz0=>?_,fun hz0=>?_⟩
    ·obtain ⟨x,rfl⟩:∃ x,z=x+1:=⟨z - 1,by omega⟩
     have hst2:=lf_step (fun q=>M a q&&F q==k+1) (show x<n by omega)
     have ex:((x+1:Nat):Int) - 1=(x:Int):=by omega
     have tt:=t.fr p0 (by omega)
     simp -dsimp only [go_sem,ex,r1.cell]
     refine Chk_intro (by omega) (tt.idx ha fun b11 o11 c11=>?_)
     simp -dsimp only [go_sem,c11,ex]
     refine Chk_intro (by omega) ?_
     simp -dsimp only [go_sem,tt.cell ha (show x<n by omega),ex]
     cases hm:M a x with
     | false =>
      simp -dsimp only [go_sem,ex]
      simp -dsimp (disch:=omega) only [wrap64]
      exact ⟨x,by omega,by simp [Le,find,hst2,hm,nx],by omega⟩
     | true =>
      simp -dsimp only [go_sem,ex]
      refine Chk_intro (by omega) ?_
      have e5:(enc (F x)==((k+1:Nat):Int))=decide (F x=k+1):=enc_eq (by omega)
      by_cases hfx:F x=k+1
      ·rw [decide_eq_true hfx] at e5
       simp -dsimp only [go_sem,ivec_get (show x<n by omega),ex,e5,rF.cell]
       simp -dsimp (disch:=omega) only [wrap64]
       exact ⟨x,by omega,by simp [Le,find,hst2,hm,hfx,nx],by omega⟩
      ·rw [decide_eq_false hfx] at e5
       simp -dsimp only [go_sem,ivec_get (show x<n by omega),ex,e5,rF.cell]
       simp -dsimp (disch:=omega) only [wrap64]
       exact ⟨x,by omega,by simp [Le,find,hst2,hm,hfx,nx],by omega⟩
    ·have hz:z=0:=by omega
     subst hz
     simp only [cycGo,hq] at hout
     simp -dsimp only [go_sem,hq,nx_some]
     intro b12 h12 n12
     have n12_a:=n12.at_
     have n12_z:=n12.size
     replace p0:=p0.F n12.f0
     replace r1:=r1.F n12.f0
     replace rF:=rF.fr n12.f0 (by omega)
     replace oo:=oo.fr n12.f0 (by have:=oo.at_;omega)
     have r12:=n12.row
     simp -dsimp only [go_sem,hq,nx_some,r12.cell]
     refine oo.append (by omega) rfl (by omega) (by simp) (by omega) fun v13 h13 o_new f13 e_app=>?_
     have f13_z:=f13.size
     have o_at:=oo.at_
     replace p0:=p0.F f13
     replace r1:=r1.F f13
     replace rF:=rF.fr f13 (by omega)
     replace r12:=r12.F f13
     clear o_at e_app
     replace oo:=o_new
     have oo_l:=oo.top
     simp -dsimp only [go_sem]
     have ek:IntKind.i64.wrap (((k+1:Nat):Int) - 1)=(k:Int):=by rw [wrap64 (by omega) (by omega)];omega
     rw [ek]
     exact ⟨(k,q,v13),by dsimp only;omega,by simp [Le,find,hq,nx],p0,by omega,r1,rF,hqn,hqf.2,out++[q],by dsimp only;rw [natsV_append,List.length_append];exact oo,by dsimp only;rw [List.append_assoc];exact hout⟩
   ·have hk:k=0:=by omega
    subst hk
    simp only [cycGo,List.append_nil] at hout
    have hl:out.length=(cycGo n M F (F p - 1) p).length+1:=by rw [hout];rfl
    simp -dsimp only [go_sem]
    rw [← hl,← hout]
    exact ⟨p0,oo.lower (by omega)⟩
 ·have hpn:p=n:=by omega
  subst hpn
  rw [lf_end _ (Nat.le_refl _)] at hlf
  have hcy:cycS p M=[]:=by unfold cycS;rw [hlf]
  rw [hcy]
  simp -dsimp only [go_sem]
  exact ⟨p0,.none _ _ _⟩
end Go.Proofs.Tst
/-
  The document's relations, some at once; its lists of truths.
-/
namespace Go.Proofs.Tst
open Go Go.Vc
def RA (h:Heap) (v:Value) (n:Nat) (M:Mx):Prop:=∃ lo hi,RefAt h lo hi v n M
theorem RA.fr {h h':Heap} {v:Value} {n:Nat} {M:Mx} (t:RA h v n M) (f:Fr 0 0 h h'):RA h' v n M:=by obtain ⟨a,b,t⟩:=t;exact ⟨a,b,t.fr f (by omega)⟩
theorem RA.is {h:Heap} {v:Value} {n:Nat} {M:Mx} (t:RA h v n M):∃ a c,v=.agg #[.int .i64 n,.slice a n c]:=by
 obtain ⟨_,_,_,s,R,rfl,t⟩:=t
 obtain ⟨a,c,rfl⟩:=t.own.is
 exact ⟨a,c,rfl⟩
theorem RA.le {h:Heap} {v:Value} {n:Nat} {M:Mx} (t:RA h v n M):n≤256:=by obtain ⟨_,_,t⟩:=t;exact t.1
theorem RefAt.congr {h:Heap} {lo hi:Nat} {v:Value} {n:Nat} {M N:Mx} (t:RefAt h lo hi v n M) (e:∀ i j,i<n→j<n→M i j=N i j):RefAt h lo hi v n N:=by
 obtain ⟨hn,s,R,hv,ht⟩:=t;exact ⟨hn,s,R,hv,ht.congr e⟩
theorem RA.congr {h:Heap} {v:Value} {n:Nat} {M N:Mx} (t:RA h v n M) (e:∀ i j,i<n→j<n→M i j=N i j):RA h v n N:=by obtain ⟨a,b,t⟩:=t;exact ⟨a,b,RefAt.congr t e⟩
def refCells (n:Nat) (ss:List Value):List Value:=ss.flatMap fun s=>[.int .i64 n,s]
@[simp] theorem length_refCells (n:Nat):∀ ss:List Value,(refCells n ss).length=ss.length * 2
 | []=>rfl
 | s :: ss=>by show (_ :: _ :: refCells n ss).length=_;simp [length_refCells n ss];omega
theorem refCells_get {n:Nat}:∀ {ss:List Value} {i:Nat} {s:Value},ss[i]?=some s→(refCells n ss)[i * 2]?=some (.int .i64 n)∧(refCells n ss)[i * 2+1]?=some s
 | [],i,s,h=>by simp at h
 | x :: ss,0,s,h=>by simp at h;subst h;exact ⟨rfl,rfl⟩
 | x :: ss,i+1,s,h=>by
  have:=refCells_get (n:=n) (ss:=ss) (i:=i) (s:=s) (by simpa using h)
  rw [show (i+1) * 2=i * 2+2 from by omega]
  exact this
def CR (h:Heap) (lv:Value) (n:Nat) (l:List Mx):Prop:=∃ ss:List Value,ss.length=l.length∧Rd 2 h lv ss.length (refCells n ss)∧ss.length≤65536∧∀ (i:Nat) (s:Value) (M:Mx),ss[i]?=some s→l[i]?=some M→RA h (.agg #[.int .i64 n,s]) n M
theorem CR.fr {h h':Heap} {v:Value} {n:Nat} {l:List Mx} (t:CR h v n l) (f:Fr 0 0 h h'):CR h' v n l:=by
 obtain ⟨L,h1,h2,h3,h4⟩:=t;exact ⟨L,h1,h2.fr f,h3,fun i w M a b=>(h4 i w M a b).fr f⟩
theorem CR.mk {h:Heap} {b n:Nat} (l:List (Value×Mx)) (r:Rw h b (refCells n (l.map (·.1)))) (hp:∀ x∈l,RA h (.agg #[.int .i64 n,x.1]) n x.2) (hl:l.length≤65536):CR h (.slice (some ⟨b,0,none⟩) l.length l.length) n (l.map (·.2)):=by
 refine ⟨l.map (·.1),by simp,?_,by simpa using hl,fun i w M h1 h2=>?_⟩
 ·rw [List.length_map];exact Rw.rd (s:=2) r (by simp)
 ·rw [List.getElem?_map,Option.map_eq_some_iff] at h1 h2
  obtain ⟨x,hx,rfl⟩:=h1
  obtain ⟨y,hy,rfl⟩:=h2
  rw [hx] at hy;cases hy
  exact hp x (List.mem_of_getElem? hx)
theorem ra_nil {h:Heap} {n:Nat}:∀ x∈([]:List (Value×Mx)),RA h (.agg #[.int .i64 n,x.1]) n x.2:=fun x hx=>by cases hx
theorem ra_cons {h:Heap} {n:Nat} {v:Value} {M:Mx} {l:List (Value×Mx)} (a:RA h (.agg #[.int .i64 n,v]) n M) (t:∀ x∈l,RA h (.agg #[.int .i64 n,x.1]) n x.2):∀ x∈(v,M) :: l,RA h (.agg #[.int .i64 n,x.1]) n x.2:=fun x hx=>by
 rcases List.mem_cons.1 hx with rfl | hx
 ·exact a
 ·exact t x hx
def oM (n:Nat) (A:Mx) (l:List Mx):Mx:=l.foldl (fun X Y=>unionM n X n Y) A
theorem oM_in {n i j:Nat} (hi:i<n) (hj:j<n):∀ (l:List Mx) (A:Mx),oM n A l i j=(A i j||l.any fun X=>X i j)
 | [],A=>by simp [oM]
 | B :: l,A=>by
  show oM n (unionM n A n B) l i j=_
  rw [oM_in hi hj l,unionM_in hi hj,List.any_cons,Bool.or_assoc]
def VA (h:Heap) (n:Nat) (L:List (Nat×Value×Mx)):Prop:=∀ x∈L,Rw h x.1 [.int .i64 n,x.2.1]∧RA h (.agg #[.int .i64 n,x.2.1]) n x.2.2
theorem VA.fr {h h':Heap} {n:Nat} {L:List (Nat×Value×Mx)} (t:VA h n L) (f:Fr 0 0 h h'):VA h' n L:=fun x hx=>⟨(t x hx).1.fr f (by omega),(t x hx).2.fr f⟩
theorem VA.nil {h:Heap} {n:Nat}:VA h n []:=fun x hx=>by cases hx
theorem VA.cons {h:Heap} {n b:Nat} {s:Value} {M:Mx} {L:List (Nat×Value×Mx)} (r:Rw h b [.int .i64 n,s]) (a:RA h (.agg #[.int .i64 n,s]) n M) (t:VA h n L):VA h n ((b,s,M) :: L):=fun x hx=>by
 rcases List.mem_cons.1 hx with rfl | hx
 ·exact ⟨r,a⟩
 ·exact t x hx
theorem VA.drop {h:Heap} {n:Nat} {L L':List (Nat×Value×Mx)} (t:VA h n L) (hs:∀ x∈L',x∈L):VA h n L':=fun x hx=>t x (hs x hx)
theorem ref11_seq {lv:Value} {n:Nat} {A:Mx} {l:List Mx} {h:Heap} (hl:CR h lv n (A :: l)) :
  Con Tryz.prog 51 #[lv] h fun v h'=>Fr 0 0 h h'∧RA h' v n (chM n A l):=by
 refine con_ref11_seq ?_
 obtain ⟨ss,hwl,hr,hlen,hp⟩:=hl
 obtain ⟨la,lc,rfl⟩:=hr.is
 have hsl:ss.length=l.length+1:=by simpa using hwl
 have p0:Fr 0 0 h h:=.refl _ _ _
 obtain ⟨hl1,a',c',k1,k2⟩:=hr
 cases k1
 rcases k2 with k2 | ⟨b,o,rfl,hc⟩
 ·omega
 have h0:ss[0]?=some ss[0]:=List.getElem?_eq_getElem (by omega)
 have t0:=hp 0 _ A h0 rfl
 generalize ss[0]=s0 at h0 t0
 obtain ⟨a0,c0,e0⟩:=t0.is
 simp only [Value.agg.injEq,Array.mk.injEq,List.cons.injEq,and_true,true_and] at e0
 subst e0
 simp -dsimp only [go_sem]
 intro b2 h1 n1
 have n1_a:=n1.at_
 have n1_z:=n1.size
 replace p0:=p0.F n1.f0
 have r2:=n1.row
 obtain ⟨k3,k4⟩:=refCells_get (n:=n) h0
 have k3:=p0.keep (hc _ _ k3) (by omega)
 have k4:=p0.keep (hc _ _ k4) (by omega)
 have e1:((0:Int)<(ss.length:Int)):=by omega
 replace k3:hcell h1 b (o+Int.toNat 0 * 2)=some (.int .i64 n):=k3
 replace k4:hcell h1 b (o+Int.toNat 0 * 2+1)=some (.slice a0 n c0):=by rw [Nat.add_assoc];exact k4
 simp -dsimp only [go_sem,e1]
 simp -dsimp only [go_sem,k3,k4]
 intro b3 h2 n3
 have n3_a:=n3.at_
 have n3_z:=n3.size
 replace p0:=p0.F n3.f0
 replace r2:=r2.F n3.f0
 have r3:=n3.row
 simp -dsimp only [go_sem]
 refine Chk_intro (r3.wr (by first | (simp;done) | (simp;omega))) fun h3 s3=>?_
 have s3_z:=s3.size
 replace p0:=p0.F s3.fr
 replace r2:=r2.F s3.fr
 replace r3:=s3.row r3
 try simp only [cl_int,cl_bool,cl_slice,cl_ptr,putAt_one,List.set_cons_zero,List.set_cons_succ,ivec_set,brow_upd] at r3
 have th:=t0
 replace r3:Rw h3 b3 [.int .i64 n,.slice a0 n c0]:=r3
 have gb:h.size≤b2∧b2<b3∧b3<h3.size:=by omega
 simp -dsimp only [go_sem]
 refine loop_intro (fun j:Nat=>[(0,.slice (some ⟨b,o,none⟩) ss.length lc),(2,.pointer (some ⟨b2,0,none⟩)),(3,.pointer (some ⟨b3,0,none⟩)),(4,.int .i64 (j+1:Nat))])
  (fun j h'=>j≤l.length∧Fr 0 0 h h'∧h3.size≤h'.size∧Rw h' b2 [.int .i64 0,.slice none 0 0]∧∃ s,Rw h' b3 [.int .i64 n,s]∧∀ h2,Fr b2 (b2+1) h' h2→RA h2 (.agg #[.int .i64 n,s]) n (chM n A (l.take j))) (fun j=>l.length - j) 0 ?_ ?_ ?_
 ·simp [Le,find]
 ·exact ⟨by omega,p0,by omega,r2,_,r3,fun h2 f2=>th.fr (p0.fresh f2 (by omega))⟩
 clear p0 r2 r3 t0 th k3 k4 n1_a n1_z n3_a n3_z s3_z
 rintro j h4 ⟨hj,p0,y4,r2,s,r3,T⟩
 have p0_z:=p0.size
 have r2_l:=r2.lt
 have r3_l:=r3.lt
 have t0:=T h4 (.refl _ _ _)
 obtain ⟨a1,c1,e0⟩:=t0.is
 simp only [Value.agg.injEq,Array.mk.injEq,List.cons.injEq,and_true,true_and] at e0
 subst e0
 by_cases hlt:j<l.length
 ·have e2:(((j+1:Nat):Int)<(ss.length:Int)):=by omega
  have hs:ss[j+1]?=some ss[j+1]:=List.getElem?_eq_getElem (by omega)
  have hM:(A :: l)[j+1]?=some l[j]:=by rw [List.getElem?_cons_succ];exact List.getElem?_eq_getElem hlt
  have tw:=(hp _ _ _ hs hM).fr p0
  generalize ss[j+1]=s1 at hs tw
  have hsu:l.take (j+1)=l.take j++[l[j]]:=by rw [List.take_add_one,List.getElem?_eq_getElem hlt];rfl
  generalize l[j]=B at tw hsu
  obtain ⟨a2,c2,e0⟩:=tw.is
  simp only [Value.agg.injEq,Array.mk.injEq,List.cons.injEq,and_true,true_and] at e0
  subst e0
  obtain ⟨k3,k4⟩:=refCells_get (n:=n) hs
  have k3:=p0.keep (hc _ _ k3) (by omega)
  have k4:=p0.keep (hc _ _ k4) (by omega)
  rw [← Nat.add_assoc] at k4
  obtain ⟨_,_,u0⟩:=t0
  obtain ⟨_,_,u1⟩:=tw
  simp -dsimp only [go_sem,e2,r3.cell]
  simp -dsimp only [go_sem,k3,k4]
  refine call_of (ref1_Comp u0 u1) ?_
  rintro v5 h5 ⟨f5,u5⟩
  rw [Nat.max_self] at u5
  have f5_z:=f5.size
  replace p0:=p0.F f5
  replace r2:=r2.F f5
  replace r3:=r3.F f5
  have t5:RA h5 v5 n (chM n A (l.take (j+1))):=by
   rw [hsu];unfold chM;rw [List.foldl_append];exact ⟨_,_,u5⟩
  obtain ⟨a3,c3,e0⟩:=t5.is
  subst e0
  have hz5:h3.size≤h5.size:=by omega
  simp -dsimp only [go_sem]
  have u5t:=u5
  refine Chk_intro (r3.wr (by first | (simp;done) | (simp;omega))) fun h6 s6=>?_
  have s6_z:=s6.size
  replace p0:=p0.F s6.fr
  replace r2:=r2.F s6.fr
  replace r3:=s6.row r3
  try simp only [cl_int,cl_bool,cl_slice,cl_ptr,putAt_one,List.set_cons_zero,List.set_cons_succ,ivec_set,brow_upd] at r3
  have t6:∀ h2,Fr b2 (b2+1) h6 h2→RA h2 (.agg #[.int .i64 n,.slice a3 n c3]) n (chM n A (l.take (j+1))):=fun h2 f2=>by
   rw [hsu];unfold chM;rw [List.foldl_append];exact ⟨_,_,(u5.fr s6.fr (by omega)).fr f2 (by omega)⟩
  replace r3:Rw h6 b3 [.int .i64 n,.slice a3 n c3]:=r3
  simp -dsimp only [go_sem]
  simp -dsimp (disch:=omega) only [wrap64]
  exact ⟨j+1,by omega,by simp [Le,find],by omega,p0,by omega,r2,_,r3,t6⟩
 ·obtain rfl:j=l.length:=by omega
  have e2:¬ (((l.length+1:Nat):Int)<(ss.length:Int)):=by omega
  rw [List.take_length] at t0
  simp -dsimp only [go_sem,e2,r3.cell]
  refine Chk_intro (r2.wr (by first | (simp;done) | (simp;omega))) fun h5 s5=>?_
  have s5_z:=s5.size
  replace p0:=p0.F s5.fr
  replace r3:=r3.F s5.fr
  replace r2:=s5.row r2
  try simp only [cl_int,cl_bool,cl_slice,cl_ptr,putAt_one,List.set_cons_zero,List.set_cons_succ,ivec_set,brow_upd] at r2
  replace r2:Rw h5 b2 [.int .i64 n,.slice a1 n c1]:=r2
  simp -dsimp only [go_sem,r2.cell]
  rw [List.take_length] at T
  exact ⟨p0,T h5 s5.fr⟩
theorem ref11_any {lv:Value} {n:Nat} {A:Mx} {l:List Mx} {h:Heap} (hl:CR h lv n (A :: l)) :
  Con Tryz.prog 29 #[lv] h fun v h'=>Fr 0 0 h h'∧RA h' v n (oM n A l)∧(l≠[]→RefAt h' h.size h'.size v n (oM n A l)):=by
 refine con_ref11_any ?_
 obtain ⟨ss,hwl,hr,hlen,hp⟩:=hl
 obtain ⟨la,lc,rfl⟩:=hr.is
 have hsl:ss.length=l.length+1:=by simpa using hwl
 have p0:Fr 0 0 h h:=.refl _ _ _
 obtain ⟨hl1,a',c',k1,k2⟩:=hr
 cases k1
 rcases k2 with k2 | ⟨b,o,rfl,hc⟩
 ·omega
 have h0:ss[0]?=some ss[0]:=List.getElem?_eq_getElem (by omega)
 have t0:=hp 0 _ A h0 rfl
 generalize ss[0]=s0 at h0 t0
 obtain ⟨a0,c0,e0⟩:=t0.is
 simp only [Value.agg.injEq,Array.mk.injEq,List.cons.injEq,and_true,true_and] at e0
 subst e0
 simp -dsimp only [go_sem]
 intro b2 h1 n1
 have n1_a:=n1.at_
 have n1_z:=n1.size
 replace p0:=p0.F n1.f0
 have r2:=n1.row
 obtain ⟨k3,k4⟩:=refCells_get (n:=n) h0
 have k3:=p0.keep (hc _ _ k3) (by omega)
 have k4:=p0.keep (hc _ _ k4) (by omega)
 have e1:((0:Int)<(ss.length:Int)):=by omega
 replace k3:hcell h1 b (o+Int.toNat 0 * 2)=some (.int .i64 n):=k3
 replace k4:hcell h1 b (o+Int.toNat 0 * 2+1)=some (.slice a0 n c0):=by rw [Nat.add_assoc];exact k4
 simp -dsimp only [go_sem,e1]
 simp -dsimp only [go_sem,k3,k4]
 intro b3 h2 n3
 have n3_a:=n3.at_
 have n3_z:=n3.size
 replace p0:=p0.F n3.f0
 replace r2:=r2.F n3.f0
 have r3:=n3.row
 simp -dsimp only [go_sem]
 refine Chk_intro (r3.wr (by first | (simp;done) | (simp;omega))) fun h3 s3=>?_
 have s3_z:=s3.size
 replace p0:=p0.F s3.fr
 replace r2:=r2.F s3.fr
 replace r3:=s3.row r3
 try simp only [cl_int,cl_bool,cl_slice,cl_ptr,putAt_one,List.set_cons_zero,List.set_cons_succ,ivec_set,brow_upd] at r3
 have th:=t0
 replace r3:Rw h3 b3 [.int .i64 n,.slice a0 n c0]:=r3
 have gb:h.size≤b2∧b2<b3∧b3<h3.size:=by omega
 simp -dsimp only [go_sem]
 refine loop_intro (fun j:Nat=>[(0,.slice (some ⟨b,o,none⟩) ss.length lc),(2,.pointer (some ⟨b2,0,none⟩)),(3,.pointer (some ⟨b3,0,none⟩)),(4,.int .i64 (j+1:Nat))])
  (fun j h'=>j≤l.length∧Fr 0 0 h h'∧h3.size≤h'.size∧Rw h' b2 [.int .i64 0,.slice none 0 0]∧∃ s,Rw h' b3 [.int .i64 n,s]∧∀ h2,Fr b2 (b2+1) h' h2→RA h2 (.agg #[.int .i64 n,s]) n (oM n A (l.take j))∧(j≠0→RefAt h2 h3.size h'.size (.agg #[.int .i64 n,s]) n (oM n A (l.take j)))) (fun j=>l.length - j) 0 ?_ ?_ ?_
 ·simp [Le,find]
 ·exact ⟨by omega,p0,by omega,r2,_,r3,fun h2 f2=>⟨th.fr (p0.fresh f2 (by omega)),fun hz=>absurd rfl hz⟩⟩
 clear p0 r2 r3 t0 th k3 k4 n1_a n1_z n3_a n3_z s3_z
 rintro j h4 ⟨hj,p0,y4,r2,s,r3,T⟩
 have p0_z:=p0.size
 have r2_l:=r2.lt
 have r3_l:=r3.lt
 have t0:=(T h4 (.refl _ _ _)).1
 obtain ⟨a1,c1,e0⟩:=t0.is
 simp only [Value.agg.injEq,Array.mk.injEq,List.cons.injEq,and_true,true_and] at e0
 subst e0
 by_cases hlt:j<l.length
 ·have e2:(((j+1:Nat):Int)<(ss.length:Int)):=by omega
  have hs:ss[j+1]?=some ss[j+1]:=List.getElem?_eq_getElem (by omega)
  have hM:(A :: l)[j+1]?=some l[j]:=by rw [List.getElem?_cons_succ];exact List.getElem?_eq_getElem hlt
  have tw:=(hp _ _ _ hs hM).fr p0
  generalize ss[j+1]=s1 at hs tw
  have hsu:l.take (j+1)=l.take j++[l[j]]:=by rw [List.take_add_one,List.getElem?_eq_getElem hlt];rfl
  generalize l[j]=B at tw hsu
  obtain ⟨a2,c2,e0⟩:=tw.is
  simp only [Value.agg.injEq,Array.mk.injEq,List.cons.injEq,and_true,true_and] at e0
  subst e0
  obtain ⟨k3,k4⟩:=refCells_get (n:=n) hs
  have k3:=p0.keep (hc _ _ k3) (by omega)
  have k4:=p0.keep (hc _ _ k4) (by omega)
  rw [← Nat.add_assoc] at k4
  obtain ⟨_,_,u0⟩:=t0
  obtain ⟨_,_,u1⟩:=tw
  simp -dsimp only [go_sem,e2,r3.cell]
  simp -dsimp only [go_sem,k3,k4]
  refine call_of (ref1_Union u0 u1) ?_
  rintro v5 h5 ⟨f5,u5⟩
  rw [Nat.max_self] at u5
  have f5_z:=f5.size
  replace p0:=p0.F f5
  replace r2:=r2.F f5
  replace r3:=r3.F f5
  have t5:RA h5 v5 n (oM n A (l.take (j+1))):=by
   rw [hsu];unfold oM;rw [List.foldl_append];exact ⟨_,_,u5⟩
  obtain ⟨a3,c3,e0⟩:=t5.is
  subst e0
  have hz5:h3.size≤h5.size:=by omega
  simp -dsimp only [go_sem]
  have u5t:=u5
  refine Chk_intro (r3.wr (by first | (simp;done) | (simp;omega))) fun h6 s6=>?_
  have s6_z:=s6.size
  replace p0:=p0.F s6.fr
  replace r2:=r2.F s6.fr
  replace r3:=s6.row r3
  try simp only [cl_int,cl_bool,cl_slice,cl_ptr,putAt_one,List.set_cons_zero,List.set_cons_succ,ivec_set,brow_upd] at r3
  have t6:∀ h2,Fr b2 (b2+1) h6 h2→RA h2 (.agg #[.int .i64 n,.slice a3 n c3]) n (oM n A (l.take (j+1)))∧(j+1≠0→RefAt h2 h3.size h6.size (.agg #[.int .i64 n,.slice a3 n c3]) n (oM n A (l.take (j+1)))):=fun h2 f2=>by
   have w:=(u5.fr s6.fr (by omega)).fr f2 (by omega)
   rw [hsu];unfold oM;rw [List.foldl_append];exact ⟨⟨_,_,w⟩,fun _=>w.mono (by omega) (by omega)⟩
  replace r3:Rw h6 b3 [.int .i64 n,.slice a3 n c3]:=r3
  simp -dsimp only [go_sem]
  simp -dsimp (disch:=omega) only [wrap64]
  exact ⟨j+1,by omega,by simp [Le,find],by omega,p0,by omega,r2,_,r3,t6⟩
 ·obtain rfl:j=l.length:=by omega
  have e2:¬ (((l.length+1:Nat):Int)<(ss.length:Int)):=by omega
  rw [List.take_length] at t0
  simp -dsimp only [go_sem,e2,r3.cell]
  refine Chk_intro (r2.wr (by first | (simp;done) | (simp;omega))) fun h5 s5=>?_
  have s5_z:=s5.size
  replace p0:=p0.F s5.fr
  replace r3:=r3.F s5.fr
  replace r2:=s5.row r2
  try simp only [cl_int,cl_bool,cl_slice,cl_ptr,putAt_one,List.set_cons_zero,List.set_cons_succ,ivec_set,brow_upd] at r2
  replace r2:Rw h5 b2 [.int .i64 n,.slice a1 n c1]:=r2
  simp -dsimp only [go_sem,r2.cell]
  rw [List.take_length] at T
  have w:=T h5 s5.fr
  exact ⟨p0,w.1,fun hl0=>(w.2 (by intro e;exact hl0 (List.eq_nil_of_length_eq_zero e))).mono (by omega) (by omega)⟩
end Go.Proofs.Tst
/-
  The document's Both and Either; the points that have some modes.
-/
namespace Go.Proofs.Tst
open Go Go.Vc
def bothL (n:Nat) (f:Nat→Bool):List Bool:=(List.range n).map f
theorem bothL_len (n:Nat) (f:Nat→Bool):(bothL n f).length=n:=by simp [bothL]
theorem bothL_succ (n:Nat) (f:Nat→Bool):bothL (n+1) f=bothL n f++[f n]:=by simp [bothL,List.range_succ]
theorem atB_both {n:Nat} {f:Nat→Bool} {i:Nat} (hi:i<n):atB (bothL n f) i=f i:=atB_get (by simp [bothL,hi])
theorem list_atB {l:List Bool} {i:Nat} (hi:i<l.length):l[i]?=some (atB l i):=by simp [atB,hi]
theorem ref8_Both {av bv:Value} {la lb:List Bool} {n:Nat} {h:Heap} (ha:Rd 1 h av la.length (boolsV la)) (hb:Rd 1 h bv lb.length (boolsV lb)) (ea:la.length=n) (eb:lb.length=n) (hn:n≤140737488355328) :
  Con Tryz.prog 48 #[av,bv] h fun v h'=>Fr 0 0 h h'∧Holder 1 h' v n (boolsV (bothL n fun i=>atB la i&&atB lb i)) h.size:=by
 refine con_ref8_Both ?_
 obtain ⟨aa,ac,rfl⟩:=ha.is
 obtain ⟨ba,bc,rfl⟩:=hb.is
 have p0:Fr 0 0 h h:=.refl _ _ _
 simp -dsimp only [go_sem]
 refine loop_intro (fun s:Nat×Value=>[(0,.slice aa la.length ac),(1,.slice ba lb.length bc),(5,s.2),(6,.int .i64 s.1)])
  (fun s h'=>s.1≤n∧Fr 0 0 h h'∧Holder 1 h' s.2 s.1 (boolsV (bothL s.1 fun i=>atB la i&&atB lb i)) h.size) (fun s=>n - s.1) (0,.slice none 0 0) ?_ ?_ ?_
 ·simp [Le,find]
 ·exact ⟨by omega,p0,.none _ _ _⟩
 clear p0
 rintro ⟨i,v⟩ h1 ⟨hi,p0,o1⟩
 dsimp only at hi o1 ⊢
 have p0_z:=p0.size
 have o1_l:=o1.top
 by_cases hlt:i<n
 ·have e1:((i:Int)<(la.length:Int)):=by omega
  have e2:((i:Int)<(lb.length:Int)):=by omega
  obtain ⟨ab,ao,rfl,hac⟩:=bools_at ha (by omega)
  obtain ⟨bb,bo,rfl,hbc⟩:=bools_at hb (by omega)
  have k1:=hac h1 p0 i _ (list_atB (by omega))
  have k2:=hbc h1 p0 i _ (list_atB (by omega))
  obtain ⟨va,vc,rfl⟩:=o1.is
  have o1_a:=o1.at_
  have hs:=bothL_succ i fun i=>atB la i&&atB lb i
  generalize atB la i=x at k1 hs
  generalize atB lb i=y at k2 hs
  cases x
  ·simp -dsimp only [go_sem,e1,e2,k1]
   intro b2 h2 n2
   have n2_a:=n2.at_
   have n2_z:=n2.size
   replace p0:=p0.F n2.f0
   replace o1:=o1.fr n2.f0 (by have:=o1.at_;omega)
   have r2:=n2.row
   simp -dsimp only [go_sem,r2.cell]
   refine o1.append (by omega) rfl (by omega) (by simp) (by omega) fun v3 h3 o_new f3 e_app=>?_
   have f3_z:=f3.size
   have o_at:=o1.at_
   replace p0:=p0.F f3
   replace r2:=r2.F f3
   clear o_at e_app
   replace o1:=o_new
   have o1_l:=o1.top
   simp -dsimp only [go_sem]
   simp -dsimp (disch:=omega) only [wrap64]
   refine ⟨(i+1,v3),by dsimp only;omega,by simp [Le,find],by dsimp only;omega,p0,?_⟩
   dsimp only
   rw [hs,boolsV_append];exact o1
  ·simp -dsimp only [go_sem,e1,e2,k1,k2]
   intro b2 h2 n2
   have n2_a:=n2.at_
   have n2_z:=n2.size
   replace p0:=p0.F n2.f0
   replace o1:=o1.fr n2.f0 (by have:=o1.at_;omega)
   have r2:=n2.row
   simp -dsimp only [go_sem,r2.cell]
   refine o1.append (by omega) rfl (by omega) (by simp) (by omega) fun v3 h3 o_new f3 e_app=>?_
   have f3_z:=f3.size
   have o_at:=o1.at_
   replace p0:=p0.F f3
   replace r2:=r2.F f3
   clear o_at e_app
   replace o1:=o_new
   have o1_l:=o1.top
   simp -dsimp only [go_sem]
   simp -dsimp (disch:=omega) only [wrap64]
   refine ⟨(i+1,v3),by dsimp only;omega,by simp [Le,find],by dsimp only;omega,p0,?_⟩
   dsimp only
   rw [hs,boolsV_append];exact o1
 ·obtain rfl:i=n:=by omega
  have e1:¬ ((i:Int)<(la.length:Int)):=by omega
  simp -dsimp only [go_sem,e1]
  exact ⟨p0,o1⟩
end Go.Proofs.Tst
/-
  What ref11's Derive needs of a graph of words (plain).
-/
namespace Go.Proofs.Tst
open Go Go.Vc
theorem VA.at_ {h:Heap} {n:Nat} {L:List (Nat×Value×Mx)} (t:VA h n L) (i:Nat) {x:Nat×Value×Mx} (hx:L[i]?=some x):Rw h x.1 [.int .i64 n,x.2.1]∧RA h (.agg #[.int .i64 n,x.2.1]) n x.2.2:=t x (List.mem_of_getElem? hx)
theorem words_mode {g:Gr} (hg:(g.check true).1=0) {i:Nat} (hi:i<g.n):((g.ev i).mode=12→(g.ev i).kind=1)∧((g.ev i).mode=16→(g.ev i).kind=1)∧((g.ev i).mode=13→(g.ev i).kind=2):=by
 obtain ⟨hs,h2,h3,-⟩:=check_zero hg
 simp only [Gr.size,Bool.and_eq_true,decide_eq_true_eq] at hs
 by_cases hc:i<g.cells.toNat
 ·have:=firstEv_neg _ _ h2 i (by omega) (by omega)
  simp only [Bool.not_eq_false',beq_iff_eq] at this
  rw [this];unfold Gr.first;simp
 ·have:=firstEv_neg _ _ h3 i (by omega) (by omega)
  simp only [Bool.not_eq_false'] at this
  unfold Gr.evOk Gr.modeOk at this
  simp only [if_true,Bool.and_eq_true,Bool.or_eq_true,beq_iff_eq] at this
  obtain ⟨⟨-,h⟩,-⟩:=this
  omega
section
variable {g : Gr}
theorem m12 (hg:(g.check true).1=0) {i:Nat} (hi:i<g.n):(isK g 1 i&&isM g 12 i)=isM g 12 i:=by
 have:=(words_mode hg hi).1
 unfold isK isM
 rw [Bool.eq_iff_iff];simp;exact this
theorem m13 (hg:(g.check true).1=0) {i:Nat} (hi:i<g.n):(isK g 2 i&&isM g 13 i)=isM g 13 i:=by
 have:=(words_mode hg hi).2.2
 unfold isK isM
 rw [Bool.eq_iff_iff];simp;exact this
theorem macq (hg:(g.check true).1=0) {i:Nat} (hi:i<g.n):(isK g 1 i&&acqB g i)=acqB g i:=by
 have h1:=(words_mode hg hi).1
 have h2:=(words_mode hg hi).2.1
 unfold acqB isK isM
 rw [Bool.eq_iff_iff];simp
 exact fun h=>h.elim h1 h2
theorem atB_with2 {i:Nat} (hi:i<g.n):atB (withB g [12,16]) i=acqB g i:=by
 refine atB_get ?_
 unfold withB acqB isM
 rw [List.getElem?_map,Gr.ev_get hi]
 simp only [Option.map_some,Option.some.injEq]
 rw [Bool.eq_iff_iff];simp
theorem id2 {n:Nat} {l:List Bool} {f:Nat→Bool} (h:∀ i,i<n→atB l i=f i):∀ i j,i<n→j<n→idM l i j=dM f i j:=fun i j hi _=>by
 show (i==j&&atB l i)=(i==j&&f i)
 rw [h i hi]
theorem ref_obs {i j:Nat} (hi:i<g.n) (hj:j<g.n):oM g.n (rfeM g) [interM g.n (relM g 2) g.n (relM g 5),interM g.n (relM g 9) g.n (relM g 5)] i j=obsM g i j:=by
 rw [oM_in hi hj]
 simp only [List.any_cons,List.any_nil,Bool.or_false,interM_in hi hj]
 unfold obsM coeM freM;rw [Bool.or_assoc]
theorem ref_dob {i j:Nat} (hi:i<g.n) (hj:j<g.n):oM g.n (relM g 6) [relM g 7,chM g.n (relM g 8) [dM (isK g 2)],chM g.n (relM g 6) [relM g 0,dM (isK g 2)],chM g.n (oM g.n (relM g 8) [relM g 7]) [coiM g],chM g.n (oM g.n (relM g 6) [relM g 7]) [rfiM g]] i j=dobM g i j:=by
 rw [oM_in hi hj]
 unfold dobM chM
 simp only [List.foldl_cons,List.foldl_nil,List.any_cons,List.any_nil,Bool.or_false,compM_dR hi hj]
 rw [compM_in hi hj,compM_in hi hj,compM_in hi hj]
 have e:∀ (A B C:Mx),(exB g.n fun k=>oM g.n A [B] i k&&C k j)=exB g.n fun k=>(A i k||B i k)&&C k j:=fun A B C=>exB_congr fun k hk=>by
  rw [oM_in hi hk];simp
 rw [e,e]
 simp only [Bool.or_assoc]
theorem ref_aob {i j:Nat} (hi:i<g.n) (hj:j<g.n):oM g.n (relM g 3) [chM g.n (dM (lastB g)) [rfiM g,dM (acqB g)]] i j=aobM g i j:=by
 rw [oM_in hi hj]
 unfold aobM chM
 simp only [List.foldl_cons,List.foldl_nil,List.any_cons,List.any_nil,Bool.or_false,compM_dR hi hj,compM_dL hi hj]
theorem ref_bob {i j:Nat} (hi:i<g.n) (hj:j<g.n):oM g.n (chM g.n (relM g 0) [dM (isM g 15),relM g 0]) [chM g.n (dM (isK g 1)) [relM g 0,dM (isM g 14),relM g 0],chM g.n (dM (isM g 13)) [relM g 0,dM (isM g 12)],chM g.n (dM (acqB g)) [relM g 0],chM g.n (relM g 0) [dM (isM g 13)],chM g.n (relM g 0) [dM (isM g 13),coiM g]] i j=bobM g i j:=by
 rw [oM_in hi hj]
 unfold bobM chM
 simp only [List.foldl_cons,List.foldl_nil,List.any_cons,List.any_nil,Bool.or_false,compM_dR hi hj]
 have e1:compM g.n (compM g.n (relM g 0) g.n (dM (isM g 15))) g.n (relM g 0) i j=exB g.n fun k=>relM g 0 i k&&isM g 15 k&&relM g 0 k j:=by
  rw [compM_in hi hj];exact exB_congr fun k hk=>by rw [compM_dR hi hk]
 have e2:compM g.n (compM g.n (compM g.n (dM (isK g 1)) g.n (relM g 0)) g.n (dM (isM g 14))) g.n (relM g 0) i j=exB g.n fun k=>isK g 1 i&&relM g 0 i k&&isM g 14 k&&relM g 0 k j:=by
  rw [compM_in hi hj];exact exB_congr fun k hk=>by rw [compM_dR hi hk,compM_dL hi hk]
 have e3:compM g.n (compM g.n (relM g 0) g.n (dM (isM g 13))) g.n (coiM g) i j=exB g.n fun k=>relM g 0 i k&&isM g 13 k&&coiM g k j:=by
  rw [compM_in hi hj];exact exB_congr fun k hk=>by rw [compM_dR hi hk]
 rw [e1,e2,e3]
 simp only [compM_dL hi hj,Bool.or_assoc]
end
end Go.Proofs.Tst
