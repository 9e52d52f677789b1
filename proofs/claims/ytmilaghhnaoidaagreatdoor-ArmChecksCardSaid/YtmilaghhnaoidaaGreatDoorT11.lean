/-
  Contracts of functions that the law reaches: what each returns and what it leaves in memory. Conditions stand in each.
-/
import Derived.Test.YtmilaghhnaoidaaGreatDoorT10
set_option linter.all false
set_option maxRecDepth 2000
/-
  The document's Check of a graph of words.
-/
namespace Go.Proofs.Tst
open Go Go.Vc
theorem RefAt.row {h:Heap} {lo hi:Nat} {n:Nat} {M:Mx} {a:Option Addr} {c:Nat} (t:RefAt h lo hi (.agg #[.int .i64 n,.slice a n c]) n M):∃ R:Nat→Nat,Tab h lo hi (.slice a n c) n n R M:=by
 obtain ⟨hn,s,R,hv,t⟩:=t
 simp only [Value.agg.injEq,Array.mk.injEq,List.cons.injEq,and_true,true_and] at hv
 subst hv
 exact ⟨R,t⟩
set_option maxHeartbeats 4000000 in
theorem ref11_Check {h:Heap} {q:GV} {g:Gr} (t:GrAt h q g) :
  Con Tryz.prog 7 #[.agg (gcells q g).toArray] h fun v h'=>Fr 0 0 h h'∧if (g.check true).1=0 then ∃ w,v=.tuple #[.int .i64 (armAx g).1,w,.int .i64 0]∧Holder 1 h' w (armAx g).2.length (intsV (armAx g).2) h.size
   else v=.tuple #[.int .i64 0,.slice none 0 0,.int .i64 4]:=by
 have p0:Fr 0 0 h h:=.refl _ _ _
 have br:=t.fits.r
 by_cases hc:(g.check true).1=0
 rotate_left
 ·simp only [if_neg hc]
  refine con_ref11_Check ?_
  unfold gcells
  simp -dsimp only [go_sem]
  intro b1 h1 n1
  have n1_a:=n1.at_
  have n1_z:=n1.size
  replace p0:=p0.F n1.f0
  have r1:=n1.row
  simp -dsimp only [go_sem,r1.cell]
  refine call_of (ref8_Check (t.fr p0) true) ?_
  rintro v2 h2 ⟨f2,rfl⟩
  have f2_z:=f2.size
  replace p0:=p0.F f2
  replace r1:=r1.F f2
  simp -dsimp only [go_sem,bne_f hc]
  exact p0
 simp only [if_pos hc]
 refine con_ref11_Check ?_
 unfold gcells
 simp -dsimp only [go_sem]
 intro b1 h1 n1
 have n1_a:=n1.at_
 have n1_z:=n1.size
 replace p0:=p0.F n1.f0
 have r1:=n1.row
 simp -dsimp only [go_sem,r1.cell]
 refine call_of (ref8_Check (t.fr p0) true) ?_
 rintro v2 h2 ⟨f2,rfl⟩
 have f2_z:=f2.size
 replace p0:=p0.F f2
 replace r1:=r1.F f2
 simp -dsimp only [go_sem,bne_t hc,r1.cell]
 have hg:g.good=true:=good_true hc
 have hn:=(good_n hg).1
 refine call_of (ref8_Po (t.fr p0) hn) ?_
 rintro v h_po ⟨f_po,t_po⟩
 obtain ⟨a_po,c_po,rfl⟩:=(ra_of t_po).is
 have f_po_z:=f_po.size
 replace p0:=p0.F f_po
 replace r1:=r1.F f_po
 simp -dsimp only [go_sem]
 intro b_po i_po n_po
 have n_po_a:=n_po.at_
 have n_po_z:=n_po.size
 replace p0:=p0.F n_po.f0
 replace r1:=r1.F n_po.f0
 have r_po:=n_po.row
 simp -dsimp only [go_sem]
 refine Chk_intro (r_po.wr (by first | (simp;done) | (simp;omega))) fun k_po s_po=>?_
 have s_po_z:=s_po.size
 replace p0:=p0.F s_po.fr
 replace r1:=r1.F s_po.fr
 replace r_po:=s_po.row r_po
 try simp only [cl_int,cl_bool,cl_slice,cl_ptr,putAt_one,List.set_cons_zero,List.set_cons_succ,ivec_set,brow_upd] at r_po
 have b_f:Fr 0 0 h2 k_po:=(f_po.trans n_po.f0).fresh s_po.fr (by omega)
 have d_po:RA k_po (.agg #[.int .i64 g.n,.slice a_po g.n c_po]) g.n (relM g 0):=⟨_,_,(t_po.fr n_po.f0 (by omega)).fr s_po.fr (by omega)⟩
 replace r_po:Rw k_po b_po [.int .i64 g.n,.slice a_po g.n c_po]:=r_po
 clear t_po b_f
 have g_po:h.size≤b_po∧h.size≤k_po.size∧b_po<k_po.size:=by omega
 simp -dsimp only [go_sem,r1.cell]
 refine call_of (ref8_Co (t.fr p0) hg) ?_
 rintro v h_co ⟨f_co,t_co⟩
 obtain ⟨a_co,c_co,rfl⟩:=(ra_of t_co).is
 have f_co_z:=f_co.size
 replace p0:=p0.F f_co
 replace r1:=r1.F f_co
 replace r_po:=r_po.fr f_co (by omega)
 simp -dsimp only [go_sem]
 intro b_co i_co n_co
 have n_co_a:=n_co.at_
 have n_co_z:=n_co.size
 replace p0:=p0.F n_co.f0
 replace r1:=r1.F n_co.f0
 replace r_po:=r_po.fr n_co.f0 (by omega)
 have r_co:=n_co.row
 simp -dsimp only [go_sem]
 refine Chk_intro (r_co.wr (by first | (simp;done) | (simp;omega))) fun k_co s_co=>?_
 have s_co_z:=s_co.size
 replace p0:=p0.F s_co.fr
 replace r1:=r1.F s_co.fr
 replace r_po:=r_po.fr s_co.fr (by omega)
 replace r_co:=s_co.row r_co
 try simp only [cl_int,cl_bool,cl_slice,cl_ptr,putAt_one,List.set_cons_zero,List.set_cons_succ,ivec_set,brow_upd] at r_co
 have b_f:Fr 0 0 k_po k_co:=(f_co.trans n_co.f0).fresh s_co.fr (by omega)
 have d_co:RA k_co (.agg #[.int .i64 g.n,.slice a_co g.n c_co]) g.n (relM g 2):=⟨_,_,(t_co.fr n_co.f0 (by omega)).fr s_co.fr (by omega)⟩
 replace r_co:Rw k_co b_co [.int .i64 g.n,.slice a_co g.n c_co]:=r_co
 replace d_po:=d_po.fr b_f
 clear t_co b_f
 have g_co:h.size≤b_co∧h.size≤k_co.size∧b_co<k_co.size:=by omega
 simp -dsimp only [go_sem,r1.cell]
 refine call_of (ref8_Fr (t.fr p0) hg) ?_
 rintro v h_fr ⟨f_fr,t_fr⟩
 obtain ⟨a_fr,c_fr,rfl⟩:=(ra_of t_fr).is
 have f_fr_z:=f_fr.size
 replace p0:=p0.F f_fr
 replace r1:=r1.F f_fr
 replace r_po:=r_po.fr f_fr (by omega)
 replace r_co:=r_co.fr f_fr (by omega)
 simp -dsimp only [go_sem]
 intro b_fr i_fr n_fr
 have n_fr_a:=n_fr.at_
 have n_fr_z:=n_fr.size
 replace p0:=p0.F n_fr.f0
 replace r1:=r1.F n_fr.f0
 replace r_po:=r_po.fr n_fr.f0 (by omega)
 replace r_co:=r_co.fr n_fr.f0 (by omega)
 have r_fr:=n_fr.row
 simp -dsimp only [go_sem]
 refine Chk_intro (r_fr.wr (by first | (simp;done) | (simp;omega))) fun k_fr s_fr=>?_
 have s_fr_z:=s_fr.size
 replace p0:=p0.F s_fr.fr
 replace r1:=r1.F s_fr.fr
 replace r_po:=r_po.fr s_fr.fr (by omega)
 replace r_co:=r_co.fr s_fr.fr (by omega)
 replace r_fr:=s_fr.row r_fr
 try simp only [cl_int,cl_bool,cl_slice,cl_ptr,putAt_one,List.set_cons_zero,List.set_cons_succ,ivec_set,brow_upd] at r_fr
 have b_f:Fr 0 0 k_co k_fr:=(f_fr.trans n_fr.f0).fresh s_fr.fr (by omega)
 have d_fr:RA k_fr (.agg #[.int .i64 g.n,.slice a_fr g.n c_fr]) g.n (relM g 9):=⟨_,_,(t_fr.fr n_fr.f0 (by omega)).fr s_fr.fr (by omega)⟩
 replace r_fr:Rw k_fr b_fr [.int .i64 g.n,.slice a_fr g.n c_fr]:=r_fr
 replace d_po:=d_po.fr b_f
 replace d_co:=d_co.fr b_f
 clear t_fr b_f
 have g_fr:h.size≤b_fr∧h.size≤k_fr.size∧b_fr<k_fr.size:=by omega
 simp -dsimp only [go_sem,r1.cell]
 refine call_of (ref8_Ext (t.fr p0) hn) ?_
 rintro v h_ext ⟨f_ext,t_ext⟩
 obtain ⟨a_ext,c_ext,rfl⟩:=(ra_of t_ext).is
 have f_ext_z:=f_ext.size
 replace p0:=p0.F f_ext
 replace r1:=r1.F f_ext
 replace r_po:=r_po.fr f_ext (by omega)
 replace r_co:=r_co.fr f_ext (by omega)
 replace r_fr:=r_fr.fr f_ext (by omega)
 simp -dsimp only [go_sem]
 intro b_ext i_ext n_ext
 have n_ext_a:=n_ext.at_
 have n_ext_z:=n_ext.size
 replace p0:=p0.F n_ext.f0
 replace r1:=r1.F n_ext.f0
 replace r_po:=r_po.fr n_ext.f0 (by omega)
 replace r_co:=r_co.fr n_ext.f0 (by omega)
 replace r_fr:=r_fr.fr n_ext.f0 (by omega)
 have r_ext:=n_ext.row
 simp -dsimp only [go_sem]
 refine Chk_intro (r_ext.wr (by first | (simp;done) | (simp;omega))) fun k_ext s_ext=>?_
 have s_ext_z:=s_ext.size
 replace p0:=p0.F s_ext.fr
 replace r1:=r1.F s_ext.fr
 replace r_po:=r_po.fr s_ext.fr (by omega)
 replace r_co:=r_co.fr s_ext.fr (by omega)
 replace r_fr:=r_fr.fr s_ext.fr (by omega)
 replace r_ext:=s_ext.row r_ext
 try simp only [cl_int,cl_bool,cl_slice,cl_ptr,putAt_one,List.set_cons_zero,List.set_cons_succ,ivec_set,brow_upd] at r_ext
 have b_f:Fr 0 0 k_fr k_ext:=(f_ext.trans n_ext.f0).fresh s_ext.fr (by omega)
 have d_ext:RA k_ext (.agg #[.int .i64 g.n,.slice a_ext g.n c_ext]) g.n (relM g 5):=⟨_,_,(t_ext.fr n_ext.f0 (by omega)).fr s_ext.fr (by omega)⟩
 replace r_ext:Rw k_ext b_ext [.int .i64 g.n,.slice a_ext g.n c_ext]:=r_ext
 replace d_po:=d_po.fr b_f
 replace d_co:=d_co.fr b_f
 replace d_fr:=d_fr.fr b_f
 clear t_ext b_f
 have g_ext:h.size≤b_ext∧h.size≤k_ext.size∧b_ext<k_ext.size:=by omega
 simp -dsimp only [go_sem,r1.cell,r_po.cell,r_co.cell,r_fr.cell]
 have p_:Fr 0 0 k_ext k_ext:=.refl _ _ _
 refine call_of (ref8_Same (t.fr p0) hg) ?_
 rintro v h3 ⟨f3,t3⟩
 have f3_z:=f3.size
 replace p0:=p0.F f3
 replace r1:=r1.F f3
 replace r_po:=r_po.fr f3 (by omega)
 replace r_co:=r_co.fr f3 (by omega)
 replace r_fr:=r_fr.fr f3 (by omega)
 replace r_ext:=r_ext.fr f3 (by omega)
 replace p_:=p_.fresh f3 (by omega)
 try simp -dsimp only [go_sem,r1.cell,r_po.cell,r_co.cell,r_fr.cell]
 refine call_of (ref1_Inter (d_po.fr p_).choose_spec.choose_spec t3) ?_
 rintro v h4 ⟨f4,t4⟩
 rw [Nat.max_self] at t4
 replace t4:RA h4 _ _ _:=ra_of t4
 have f4_z:=f4.size
 replace p0:=p0.F f4
 replace r1:=r1.F f4
 replace r_po:=r_po.fr f4 (by omega)
 replace r_co:=r_co.fr f4 (by omega)
 replace r_fr:=r_fr.fr f4 (by omega)
 replace r_ext:=r_ext.fr f4 (by omega)
 replace p_:=p_.fresh f4 (by omega)
 try simp -dsimp only [go_sem,r1.cell,r_co.cell,r_fr.cell]
 refine call_of (ref8_Rf (t.fr p0) hn) ?_
 rintro v h5 ⟨f5,t5⟩
 replace t5:RA h5 _ _ _:=ra_of t5
 replace t4:=t4.fr f5
 obtain ⟨a4,c4,rfl⟩:=t4.is
 obtain ⟨a5,c5,rfl⟩:=t5.is
 have f5_z:=f5.size
 replace p0:=p0.F f5
 replace r1:=r1.F f5
 replace r_po:=r_po.fr f5 (by omega)
 replace r_co:=r_co.fr f5 (by omega)
 replace r_fr:=r_fr.fr f5 (by omega)
 replace r_ext:=r_ext.fr f5 (by omega)
 replace p_:=p_.fresh f5 (by omega)
 try simp -dsimp only [go_sem,r1.cell,r_po.cell,r_co.cell,r_fr.cell]
 intro b6 h6 n6
 have n6_a:=n6.at_
 have n6_z:=n6.size
 replace p0:=p0.F n6.f0
 replace r1:=r1.F n6.f0
 replace r_po:=r_po.fr n6.f0 (by omega)
 replace r_co:=r_co.fr n6.f0 (by omega)
 replace r_fr:=r_fr.fr n6.f0 (by omega)
 replace r_ext:=r_ext.fr n6.f0 (by omega)
 replace p_:=p_.fresh n6.f0 (by omega)
 have r6:=n6.row
 try simp -dsimp only [go_sem] at n6
 try simp -dsimp only [go_sem] at r6
 simp -dsimp only [go_sem]
 refine call_of (ref11_any (CR.mk [(.slice a4 g.n c4,interM g.n (relM g 0) g.n (relM g 4)),(.slice a5 g.n c5,relM g 1),(.slice a_co g.n c_co,relM g 2),(.slice a_fr g.n c_fr,relM g 9)] r6 (ra_cons (t4.fr n6.fr) (ra_cons (t5.fr n6.fr) (ra_cons (d_co.fr p_) (ra_cons (d_fr.fr p_) ra_nil)))) (by simp))) ?_
 rintro v h7 ⟨f7,t7,-⟩
 have f7_z:=f7.size
 replace p0:=p0.F f7
 replace r1:=r1.F f7
 replace r_po:=r_po.fr f7 (by omega)
 replace r_co:=r_co.fr f7 (by omega)
 replace r_fr:=r_fr.fr f7 (by omega)
 replace r_ext:=r_ext.fr f7 (by omega)
 replace p_:=p_.fresh f7 (by omega)
 replace r6:=r6.F f7
 replace t7:=RA.congr (N:=inM g) t7 fun i j hi hj=>by rw [oM_in hi hj];show (interM g.n (relM g 0) g.n (relM g 4) i j||_)=_;rw [interM_in hi hj];simp [inM,Bool.or_assoc]
 try simp -dsimp only [go_sem,r1.cell,r_po.cell,r_co.cell,r_fr.cell]
 refine call_of (ref1_Cycle t7.choose_spec.choose_spec) ?_
 rintro v8 h8 ⟨f8,o8⟩
 have f8_z:=f8.size
 replace p0:=p0.F f8
 replace r1:=r1.F f8
 replace r_po:=r_po.fr f8 (by omega)
 replace r_co:=r_co.fr f8 (by omega)
 replace r_fr:=r_fr.fr f8 (by omega)
 replace r_ext:=r_ext.fr f8 (by omega)
 replace p_:=p_.fresh f8 (by omega)
 replace r6:=r6.F f8
 obtain ⟨a8,c8,rfl⟩:=o8.is
 clear t7 t5 t4 t3
 simp -dsimp only [go_sem,r1.cell,r_po.cell,r_co.cell,r_fr.cell]
 by_cases h1:cycS g.n (inM g)=[]
 rotate_left
 ·have hl:(((cycS g.n (inM g)).length:Nat):Int) > 0:=by have:=List.length_pos_iff.2 h1;omega
  simp -dsimp only [go_sem,hl]
  have hA:armAx g=(1,(cycS g.n (inM g)).map fun (x:Nat)=>(x:Int)):=by unfold armAx;rw [if_pos h1]
  rw [hA]
  refine ⟨p0,_,rfl,?_⟩
  dsimp only
  rw [List.length_map,← natsV_ints]
  exact o8.lower (by omega)
 have hl:¬ (((cycS g.n (inM g)).length:Nat):Int) > 0:=by rw [h1];decide
 clear o8
 simp -dsimp only [go_sem,hl,r1.cell]
 refine call_of (ref11_Derive (t.fr p0) hc) ?_
 rintro v h9 ⟨f9,x1,x2,x3,x4,x5,rfl,-,-,-,-,t9⟩
 have f9_z:=f9.size
 replace p0:=p0.F f9
 replace r1:=r1.F f9
 replace r_po:=r_po.fr f9 (by omega)
 replace r_co:=r_co.fr f9 (by omega)
 replace r_fr:=r_fr.fr f9 (by omega)
 replace r_ext:=r_ext.fr f9 (by omega)
 replace p_:=p_.fresh f9 (by omega)
 replace t9:=t9.ra
 obtain ⟨a9,c9,e9⟩:=t9.is
 simp only [Value.agg.injEq,Array.mk.injEq,List.cons.injEq,and_true,true_and] at e9
 subst e9
 unfold derV
 simp -dsimp only [go_sem]
 refine call_of (ref1_Cycle t9.choose_spec.choose_spec) ?_
 rintro v10 h10 ⟨f10,o10⟩
 have f10_z:=f10.size
 replace p0:=p0.F f10
 replace r1:=r1.F f10
 replace r_po:=r_po.fr f10 (by omega)
 replace r_co:=r_co.fr f10 (by omega)
 replace r_fr:=r_fr.fr f10 (by omega)
 replace r_ext:=r_ext.fr f10 (by omega)
 replace p_:=p_.fresh f10 (by omega)
 obtain ⟨a10,c10,rfl⟩:=o10.is
 clear t9
 simp -dsimp only [go_sem]
 by_cases h2:cycS g.n (obM g)=[]
 rotate_left
 ·have hl:(((cycS g.n (obM g)).length:Nat):Int) > 0:=by have:=List.length_pos_iff.2 h2;omega
  simp -dsimp only [go_sem,hl]
  have hA:armAx g=(2,(cycS g.n (obM g)).map fun (x:Nat)=>(x:Int)):=by unfold armAx;rw [if_neg (by simp [h1]),if_pos h2]
  rw [hA]
  refine ⟨p0,_,rfl,?_⟩
  dsimp only
  rw [List.length_map,← natsV_ints]
  exact o10.lower (by omega)
 have hl:¬ (((cycS g.n (obM g)).length:Nat):Int) > 0:=by rw [h2];decide
 clear o10
 simp -dsimp only [go_sem,hl,r_co.cell,r_fr.cell,r_ext.cell]
 replace d_fr:=d_fr.fr p_
 replace d_co:=d_co.fr p_
 replace d_ext:=d_ext.fr p_
 replace d_po:=d_po.fr p_
 refine free_intro [(2,[2],tRR g.n (freM g)),(5,[5],tRR g.n (coeM g)),(6,[6],tRR g.n (compM g.n (freM g) g.n (coeM g))),(7,[7],tellA [.int .i64 0,.slice none 0 0])] ?_ rfl ?_ ?_
 ·exact ⟨stRR _ _,stRR _ _,stRR _ _,stabA _,trivial⟩
 ·simp -dsimp only [go_sem,tRR_eq]
  refine ⟨fun h4 f4 V=>?_,fun h4 f4 V a2=>?_,fun h4 f4 V a2 a5=>?_,fun h4 f4 V=>?_⟩
  ·try simp -dsimp only [go_sem,r1.cell,r_po.cell,r_co.cell,r_fr.cell,r_ext.cell]
   refine call_of (ref1_Inter (d_fr.fr f4).choose_spec.choose_spec (d_ext.fr f4).choose_spec.choose_spec) ?_
   rintro v h5 ⟨f5,w⟩
   rw [Nat.max_self] at w
   simp -dsimp only [go_sem,tRR_eq]
   exact ⟨f5,RefAt.congr w fun i j hi hj=>interM_in hi hj⟩
  ·try simp -dsimp only [go_sem,r1.cell,r_po.cell,r_co.cell,r_fr.cell,r_ext.cell]
   refine call_of (ref1_Inter (d_co.fr f4).choose_spec.choose_spec (d_ext.fr f4).choose_spec.choose_spec) ?_
   rintro v h5 ⟨f5,w⟩
   rw [Nat.max_self] at w
   simp -dsimp only [go_sem,tRR_eq]
   exact ⟨f5,RefAt.congr w fun i j hi hj=>interM_in hi hj⟩
  ·try simp -dsimp only [go_sem,r1.cell,r_po.cell,r_co.cell,r_fr.cell,r_ext.cell]
   refine call_of (ref1_Comp a2 a5) ?_
   rintro v h5 ⟨f5,w⟩
   rw [Nat.max_self] at w
   simp -dsimp only [go_sem,tRR_eq]
   exact ⟨f5,w⟩
  ·intro b5 h5 n5
   simp -dsimp only [go_sem,tellA_eq]
   exact ⟨n5.fr,n5.at_.symm▸rfl,n5.size,n5.at_▸n5.row⟩
 intro h11 f11 V sep
 have q1:=(sep.at_ (L:=[2,5,6,7]) rfl).1 7 (by decide)
 have q3:=(sep.at_ (L:=[2,5,6,7]) rfl).1 6 (by decide)
 have q2:=(sep.at_ (L:=[2,5,6,7]) rfl).2 6 (by decide) 7 (by decide) (by decide)
 clear sep
 simp -dsimp only [go_sem,tRR_eq,tellA_eq]
 intro _ _ a_6 a_7
 obtain ⟨e_1,z_1,r12⟩:=a_7
 obtain ⟨a11,c11,e_2⟩:=(ra_of a_6).is
 rw [e_2] at a_6
 generalize (V 7).2.1=b12 at *
 generalize (V 6).2.1=l_1 at *
 generalize (V 6).2.2=l_2 at *
 rw [z_1] at q1 q2
 generalize (V 7).1=w_1 at *
 subst e_1
 have f11_z:=f11.size
 replace p0:=p0.F f11
 replace r1:=r1.F f11
 replace r_po:=r_po.fr f11 (by omega)
 replace r_co:=r_co.fr f11 (by omega)
 replace r_fr:=r_fr.fr f11 (by omega)
 replace r_ext:=r_ext.fr f11 (by omega)
 replace p_:=p_.fresh f11 (by omega)
 simp -dsimp only [go_sem,e_2]
 refine Chk_intro (r12.wr (by first | (simp;done) | (simp;omega))) fun h12 s12=>?_
 have s12_z:=s12.size
 replace p0:=p0.F s12.fr
 replace r1:=r1.F s12.fr
 replace p_:=p_.fresh s12.fr (by omega)
 replace r12:=s12.row r12
 try simp only [cl_int,cl_bool,cl_slice,cl_ptr,putAt_one,List.set_cons_zero,List.set_cons_succ,ivec_set,brow_upd] at r12
 replace r12:Rw h12 b12 [.int .i64 g.n,.slice a11 g.n c11]:=r12
 have tx:=a_6.fr s12.fr (by omega)
 clear a_6 e_2
 have g12:h.size≤h12.size∧h.size≤b12:=by omega
 simp -dsimp only [go_sem]
 have P12:Fr 0 0 h12 h12:=.refl _ _ _
 have K1:=r1
 have K12:=r12
 refine loop_intro (fun i:Nat=>[(1,.pointer (some ⟨b1,0,none⟩)),(12,.pointer (some ⟨b12,0,none⟩)),(13,.int .i64 i)])
  (fun i h'=>i≤g.rmw.length∧Fr 0 0 h h'∧Fr 0 0 h12 h'∧(g.rmw.take i).find? (tornB g)=none) (fun i=>g.rmw.length - i) 0 ?_ ?_ ?_
 ·simp [Le,find]
 ·exact ⟨by omega,p0,P12,rfl⟩
 clear p0 r1 r12 P12 p_
 rintro i h13 ⟨hi,p0,p12,hfn⟩
 have r1:=K1.fr p12 (by omega)
 have r12:=K12.fr p12 (by omega)
 have p0_z:=p0.size
 have p12_z:=p12.size
 have r1_l:=r1.lt
 have r12_l:=r12.lt
 by_cases hlt:i<g.rmw.length
 ·have e1:((i:Int)<(g.rmw.length:Int)):=by omega
  have hq:g.rmw[i]?=some g.rmw[i]:=List.getElem?_eq_getElem hlt
  obtain ⟨x,y,he,hxy,hyn⟩:=words_rmw hc (List.mem_of_getElem? hq)
  rw [he] at hq
  obtain ⟨rb,ro,hre,hrc⟩:=t.r.pairsAt (by omega)
  obtain ⟨k1,k2⟩:=hrc h13 p0 i _ hq
  dsimp only at k1 k2
  obtain ⟨R,tb⟩:=RefAt.row (tx.fr p12 (by omega))
  simp -dsimp only [go_sem,e1,hre,k1,r1.cell,r12.cell]
  have hxn:x<g.n:=by omega
  refine Chk_intro (by omega) (tb.idx hxn fun b14 o14 c14=>?_)
  simp -dsimp only [go_sem,e1,hre,k2,c14,r1.cell]
  refine Chk_intro (by omega) ?_
  simp -dsimp only [go_sem,tb.cell hxn hyn]
  have htn:=torn_has (g:=g) (p:=((x:Int),(y:Int)))
  have i1:inR g.n (x:Int)=true:=by unfold inR;simp;omega
  have i2:inR g.n (y:Int)=true:=by unfold inR;simp;omega
  dsimp only at htn
  rw [i1,i2,Int.toNat_natCast,Int.toNat_natCast,Bool.true_and,Bool.true_and] at htn
  rw [htn]
  cases hb:tornB g ((x:Int),(y:Int))
  ·simp -dsimp only [go_sem]
   simp -dsimp (disch:=omega) only [wrap64]
   exact ⟨i+1,by omega,by simp [Le,find],by omega,p0,p12,find_next hq hfn hb⟩
  ·simp -dsimp only [go_sem,e1,hre,k1,k2,r1.cell]
   intro b15 h15 n15
   have n15_a:=n15.at_
   have n15_z:=n15.size
   replace p0:=p0.F n15.f0
   replace p12:=p12.F n15.f0
   replace r1:=r1.F n15.f0
   replace r12:=r12.F n15.f0
   have r15:=n15.row
   simp -dsimp only [go_sem]
   have hA:armAx g=(3,[(x:Int),(y:Int)]):=by unfold armAx;rw [if_neg (by simp [h1]),if_neg (by simp [h2]),find_at hq hfn hb]
   rw [hA]
   exact ⟨p0,_,rfl,holder_row (s:=1) (n:=2) r15 rfl (by omega)⟩
 ·obtain rfl:i=g.rmw.length:=by omega
  simp -dsimp only [go_sem,Int.lt_irrefl,r1.cell]
  rw [List.take_length] at hfn
  have hA:armAx g=(0,[]):=by unfold armAx;rw [if_neg (by simp [h1]),if_neg (by simp [h2]),hfn]
  rw [hA]
  exact ⟨p0,_,rfl,.none _ _ _⟩
end Go.Proofs.Tst
/-
  ArmChecks.
-/
namespace Go.Proofs.Tst
open Go Go.Vc
def resA (g:Gr):Int:=if (g.check true).1=0 then (armAx g).1 else 0
def resL (g:Gr):List Int:=if (g.check true).1=0 then (armAx g).2 else []
def resE (g:Gr):Int:=if (g.check true).1=0 then 0 else 4
theorem resL_len {g:Gr}:(resL g).length≤g.n+2:=by
 have:=armAx_len (g:=g)
 unfold resL;split
 ·exact this
 ·simp
theorem arm_res {g:Gr} {h':Heap} {lo:Nat} {v:Value} (w:if (g.check true).1=0 then ∃ w,v=.tuple #[.int .i64 (armAx g).1,w,.int .i64 0]∧Holder 1 h' w (armAx g).2.length (intsV (armAx g).2) lo else v=.tuple #[.int .i64 0,.slice none 0 0,.int .i64 4]) :
  ∃ w,v=.tuple #[.int .i64 (resA g),w,.int .i64 (resE g)]∧Holder 1 h' w (resL g).length (intsV (resL g)) lo:=by
 unfold resA resL resE
 by_cases hc:(g.check true).1=0
 ·simp only [if_pos hc] at w ⊢;exact w
 ·simp only [if_neg hc] at w ⊢;exact ⟨_,w,.none _ _ _⟩
set_option maxHeartbeats 4000000 in
theorem c_law11_ArmChecks {h:Heap} {q:GV} {g:Gr} (t:GrAt h q g) (ht:TabAt h) :
  Con Tryz.prog 3 #[.agg (gcells q g).toArray] h fun v h'=>Fr 0 0 h h'∧v=.bool true:=by
 refine con_law11_ArmChecks ?_
 have hz:0<h.size:=hcell_lt (ht 0 0 rfl)
 have be:=t.fits.e
 have bo:=t.fits.o
 have hen:g.evs.length=g.n:=rfl
 have p0:Fr 0 0 h h:=.refl _ _ _
 have hrl:=resL_len (g:=g)
 unfold gcells
 simp -dsimp only [go_sem]
 intro b1 h1 n1
 have n1_a:=n1.at_
 have n1_z:=n1.size
 replace p0:=p0.F n1.f0
 have r1:=n1.row
 simp -dsimp only [go_sem,r1.cell]
 refine call_of (ref8_Copied (t.fr p0) (by omega)) ?_
 rintro v2 h2 ⟨f2,q',rfl,w⟩
 have f2_z:=f2.size
 replace p0:=p0.F f2
 replace r1:=r1.F f2
 have t':=w.at_
 have p2:Fr 0 0 h2 h2:=.refl _ _ _
 unfold gcells
 simp -dsimp only [go_sem]
 intro b3 h3 n3
 have n3_a:=n3.at_
 have n3_z:=n3.size
 replace p0:=p0.F n3.f0
 replace r1:=r1.F n3.f0
 replace p2:=p2.F n3.f0
 have r3:=n3.row
 simp -dsimp only [go_sem]
 refine Chk_intro (r3.wr (by first | (simp;done) | (simp;omega))) fun h4 s4=>?_
 have s4_z:=s4.size
 replace p0:=p0.F s4.fr
 replace r1:=r1.F s4.fr
 replace p2:=p2.F s4.fr
 replace r3:=s4.row r3
 try simp only [cl_int,cl_bool,cl_slice,cl_ptr,putAt_one,List.set_cons_zero,List.set_cons_succ,ivec_set,brow_upd] at r3
 simp -dsimp only [go_sem] at r3
 simp -dsimp only [go_sem,r3.cell]
 refine call_of (arm_Check (t'.fr p2) (ht.fr p0 (.inr rfl))) ?_
 rintro v5 h5 ⟨f5,w5⟩
 have f5_z:=f5.size
 replace p0:=p0.F f5
 replace r1:=r1.F f5
 replace p2:=p2.F f5
 replace r3:=r3.F f5
 obtain ⟨u5,rfl,o5⟩:=arm_res w5
 clear w5
 obtain ⟨a5,c5,rfl⟩:=o5.is
 have tp5:=o5.top
 simp -dsimp only [go_sem,r1.cell]
 refine call_of (ref11_Check (t.fr p0)) ?_
 rintro v6 h6 ⟨f6,w6⟩
 have f6_z:=f6.size
 replace p0:=p0.F f6
 replace r1:=r1.F f6
 replace p2:=p2.F f6
 replace r3:=r3.F f6
 replace o5:=o5.fr f6 (by have:=o5.at_;omega)
 obtain ⟨u6,rfl,o6⟩:=arm_res w6
 clear w6
 obtain ⟨a6,c6,rfl⟩:=o6.is
 have gz:h.size≤h2.size∧h2.size≤h4.size∧h4.size≤h5.size∧h5.size≤h6.size∧b1<h4.size∧b3<h4.size∧h.size≤b1∧h2.size≤b3:=by omega
 simp -dsimp only [go_sem,bne_self_eq_false]
 refine call_of (c_law11_ints (l:=resL g) (m:=resL g) o5.rd o6.rd (by omega)) ?_
 rintro v7 h6 ⟨rfl,rfl⟩
 simp -dsimp only [go_sem]
 have R3:Rw h6 b3 (gcells q' g):=r3
 have R1:Rw h6 b1 (gcells q g):=r1
 generalize hnl:(resL g).length=nl at o5
 refine loop_intro (fun i:Nat=>[(1,.pointer (some ⟨b1,0,none⟩)),(3,.pointer (some ⟨b3,0,none⟩)),(5,.slice a5 nl c5),(8,.slice a6 (resL g).length c6),(10,.int .i64 i)])
  (fun i h'=>i≤nl∧Fr 0 0 h h'∧Fr 0 0 h2 h'∧Rw h' b1 (gcells q g)∧Rw h' b3 (gcells q' g)∧(∃ ys,Holder 1 h' (.slice a5 nl c5) nl ys h4.size)∧Holder 1 h' (.slice a6 (resL g).length c6) (resL g).length (intsV (resL g)) h5.size) (fun i=>nl - i) 0 ?_ ?_ ?_
 ·simp [Le,find,hnl]
 ·exact ⟨by omega,p0,p2,R1,R3,⟨_,o5⟩,o6⟩
 clear p0 p2 r1 r3 o5 o6 R1 R3
 rintro i h7 ⟨hi,p0,p2,r1,r3,⟨ys,osp⟩,o6⟩
 unfold gcells at r1 r3
 have tps:bh (.slice a5 nl c5)≤h5.size:=by rw [← hnl];exact tp5
 have p0_z:=p0.size
 have p2_z:=p2.size
 have r1_l:=r1.lt
 have r3_l:=r3.lt
 have o6_l:=o6.top
 by_cases hlt:i<nl
 ·have e1:((i:Int)<(nl:Int)):=by omega
  obtain ⟨b,c,rest,he,-,-,hb⟩:=osp.blk (by omega)
  cases he
  have tps:b+1≤h5.size:=tps
  simp -dsimp only [go_sem,e1]
  refine Chk_intro (osp.wrAt hlt) fun h8 s8=>?_
  have osp':=osp.set hlt s8
  clear osp
  have f8:=s8.fr
  have f8_z:=f8.size
  replace p0:=p0.F f8
  replace p2:=p2.F f8
  replace r1:=r1.F f8
  replace r3:=r3.F f8
  replace o6:=o6.fr f8 (by have:=o6.at_;omega)
  simp -dsimp only [go_sem]
  simp -dsimp (disch:=omega) only [wrap64]
  exact ⟨i+1,by omega,by simp [Le,find],by omega,p0,p2,r1,r3,⟨_,osp'⟩,o6⟩
 obtain rfl:i=nl:=by omega
 simp -dsimp only [go_sem,Int.lt_irrefl,r3.cell]
 refine call_of (arm_Check (t'.fr p2) (ht.fr p0 (.inr rfl))) ?_
 rintro v9 h9 ⟨f9,w9⟩
 have f9_z:=f9.size
 replace p0:=p0.F f9
 replace p2:=p2.F f9
 replace r1:=r1.F f9
 replace r3:=r3.F f9
 replace o6:=o6.fr f9 (by have:=o6.at_;omega)
 obtain ⟨u9,rfl,o9⟩:=arm_res w9
 clear w9
 obtain ⟨a9,c9,rfl⟩:=o9.is
 simp -dsimp only [go_sem]
 refine call_of (c_law11_ints (l:=resL g) (m:=resL g) o9.rd o6.rd (by omega)) ?_
 rintro v10 h10 ⟨rfl,rfl⟩
 simp -dsimp only [go_sem,r1.cell,r3.cell]
 refine call_of (ref8_Alike (t'.fr p2) (t.fr p0)) ?_
 rintro v11 h11 ⟨f11,rfl⟩
 have f11_z:=f11.size
 replace p0:=p0.F f11
 replace p2:=p2.F f11
 replace r1:=r1.F f11
 replace r3:=r3.F f11
 replace o6:=o6.fr f11 (by have:=o6.at_;omega)
 simp -dsimp only [go_sem]
 refine call_of (law11_lives (ht.fr p0 (.inr rfl))) ?_
 rintro v12 h12 ⟨f12,rfl⟩
 have f12_z:=f12.size
 replace p0:=p0.F f12
 replace p2:=p2.F f12
 replace r1:=r1.F f12
 replace r3:=r3.F f12
 replace o6:=o6.fr f12 (by have:=o6.at_;omega)
 simp -dsimp only [go_sem]
 exact p0
end Go.Proofs.Tst
/-
  ArmChecks and its arguments.
-/
namespace Go.Proofs.Tst
end Go.Proofs.Tst
