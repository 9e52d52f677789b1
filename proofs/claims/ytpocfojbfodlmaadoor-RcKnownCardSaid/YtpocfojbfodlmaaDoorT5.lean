/-
  Contracts of functions that the law reaches: what each returns and what it leaves in memory. Conditions stand in each.
-/
import Derived.Test.YtpocfojbfodlmaaDoorT4
set_option linter.all false
set_option maxRecDepth 2000
/-
  graph.Derive: co.
-/
namespace Go.Proofs.Tst
open Go Go.Vc
def relC (g:Gr) (L:List (Int×Int)) (k:Nat):Nat→Nat→Bool:=if k=2 then ofM g.n L else relM g k
theorem ofM_snoc {n:Nat} {L:List (Int×Int)} {a b:Int} (x y:Nat):putM n (ofM n L) a b true x y=ofM n (L++[(a,b)]) x y:=by
 unfold putM ofM
 rw [List.any_append]
 simp only [List.any_cons,List.any_nil,Bool.or_false]
 cases hc:(inR n a&&inR n b&&a==(x:Int)&&b==(y:Int))
 ·simp
 ·simp
theorem relC_put {g:Gr} {L:List (Int×Int)} {a b:Int} (k x y:Nat):(if k=2 then putM g.n (relC g L 2) a b true else relC g L k) x y=relC g (L++[(a,b)]) k x y:=by
 by_cases hk:k=2
 ·subst hk;exact ofM_snoc x y
 ·rw [if_neg hk];unfold relC;rw [if_neg hk,if_neg hk]
set_option maxHeartbeats 2000000 in
theorem derive_co {Q:Post} {h hI:Heap} {q:GV} {g:Gr} {b2 b5 H3 H4:Nat} {A B:Nat→Nat} {p:Nat→Value} {v3 rd wr fe:Value} (t:GrAt h q g) (p0:Fr 0 0 h hI)
  (hAB:∀ k,k<9→H3≤A k∧A k≤B k∧B k≤H4) (hb5:∀ k,k<9→b5<A k∨B k≤b5) (h34:h.size≤H3)
  (D:Der hI A B p g.n (relC g []) 9) (r5:Rw hI b5 [p 0,p 1,p 2,v3,p 3,p 4,p 5,p 6,p 7,p 8,rd,wr,fe])
  (hQ:∀ h',FrX (InR A B 9) hI h'→Der h' A B p g.n (relC g (coPairs g)) 9 →
   Q (.exit 4) [(2,.pointer (some ⟨b2,0,none⟩)),(5,.pointer (some ⟨b5,0,none⟩)),(140,.slice q.o g.co.length q.oc),(141,.int .i64 g.co.length),(142,.int .i64 g.co.length),(143,.bool false)] h') :
  loopVC (vc Tryd.prog none g_graph_Derive_l36) Q [(2,.pointer (some ⟨b2,0,none⟩)),(5,.pointer (some ⟨b5,0,none⟩)),(140,.slice q.o g.co.length q.oc),(141,.int .i64 g.co.length),(142,.int .i64 0)] hI:=by
 have bo:=t.fits.o
 have hrl:=rlc_at t.l
 have r5l:=r5.lt
 refine loop_intro (fun s:Nat×List (Int×Int)=>[(2,.pointer (some ⟨b2,0,none⟩)),(5,.pointer (some ⟨b5,0,none⟩)),(140,.slice q.o g.co.length q.oc),(141,.int .i64 g.co.length),(142,.int .i64 s.1)])
  (fun s h'=>s.1≤g.co.length∧FrX (InR A B 9) hI h'∧Der h' A B p g.n (relC g s.2) 9∧s.2++(g.co.drop s.1).flatMap lpairs=coPairs g) (fun s=>g.co.length - s.1) (0,[]) ?_ ?_ ?_
 ·simp [Le,find]
 ·exact ⟨by omega,.refl _ _,D,rfl⟩
 clear D
 rintro ⟨c,L⟩ h2 ⟨hc,X,D,hL⟩
 dsimp only at hc D hL ⊢
 have notS:¬ InR A B 9 b5:=fun ⟨k,hk,h1,h2⟩=>by have:=hb5 k hk;omega
 have low:∀ x,InR A B 9 x→h.size≤x:=fun x ⟨k,hk,h1,_⟩=>by have:=hAB k hk;omega
 by_cases hlt:c<g.co.length
 rotate_left
 ·obtain rfl:c=g.co.length:=by omega
  rw [List.drop_length] at hL
  simp only [List.flatMap_nil,List.append_nil] at hL
  simp -dsimp only [go_sem,Int.lt_irrefl]
  exact hQ _ X (hL▸D)
 have e1:((c:Int)<(g.co.length:Int)):=by omega
 obtain ⟨ob,oo,hoe,la,lc,hlc,hlist⟩:=hrl c hlt
 have hll:=t.fits.l (g.co.getD c []) (by have:g.co[c]?=some (g.co.getD c []):=by { simp [hlt] };exact List.mem_of_getElem? this)
 have hdr:g.co.drop c=g.co.getD c [] :: g.co.drop (c+1):=by rw [List.drop_eq_getElem_cons hlt];congr 1;simp [hlt]
 rw [hdr,List.flatMap_cons] at hL
 generalize g.co.getD c []=l at hlist hll hL hlc
 obtain ⟨l1,l2⟩:=hlist h2 (X.fresh p0 low)
 simp -dsimp only [go_sem,e1,hoe,l1]
 refine loop_intro (fun s:Nat×List (Int×Int)=>[(2,.pointer (some ⟨b2,0,none⟩)),(5,.pointer (some ⟨b5,0,none⟩)),(11,.slice la l.length lc),(140,.slice q.o g.co.length q.oc),(141,.int .i64 g.co.length),(142,.int .i64 c),(146,.slice la l.length lc),(147,.int .i64 l.length),(148,.int .i64 s.1)])
  (fun s h'=>s.1≤l.length∧FrX (InR A B 9) hI h'∧Der h' A B p g.n (relC g s.2) 9∧s.2++(lpairs (l.drop s.1)++(g.co.drop (c+1)).flatMap lpairs)=coPairs g) (fun s=>l.length - s.1) (0,L) ?_ ?_ ?_
 ·simp [Le,find,hoe]
 ·exact ⟨by omega,X,D,hL⟩
 clear X D hL l1 l2 L
 rintro ⟨i,L⟩ h2 ⟨hi,X,D,hL⟩
 dsimp only at hi D hL ⊢
 by_cases hil:i<l.length
 rotate_left
 ·obtain rfl:i=l.length:=by omega
  rw [List.drop_length] at hL
  simp -dsimp only [go_sem,Int.lt_irrefl]
  simp -dsimp (disch:=omega) only [wrap64]
  exact ⟨(c+1,L),by dsimp only;omega,by simp [Le,find,hoe],by dsimp only;omega,X,D,hL⟩
 have e2:((i:Int)<(l.length:Int)):=by omega
 have hq:l[i]?=some l[i]:=by simp [hil]
 have hdi:l.drop i=l[i] :: l.drop (i+1):=List.drop_eq_getElem_cons hil
 rw [hdi] at hL
 generalize l[i]=a at hq hL
 have hpr:lpairs (a :: l.drop (i+1))=(l.drop (i+1)).map (fun b=>(a,b))++lpairs (l.drop (i+1)):=rfl
 rw [hpr,List.append_assoc] at hL
 obtain ⟨lb,lo,hle,hlc2⟩:∃ b o,la=some ⟨b,o,none⟩∧∀ h',Fr 0 0 h h'→∀ (i:Nat) (x:Int),l[i]?=some x→hcell h' b (o+i)=some (.int .i64 x):=by
  obtain ⟨hl1,a,c',k1,k2⟩:=(hlist h (.refl _ _ _)).2
  cases k1
  rcases k2 with k2 | ⟨b,o,k3,k4⟩
  ·omega
  ·refine ⟨b,o,k3,fun h' f i x hx=>?_⟩
   obtain ⟨-,a',c'',m1,m2⟩:=(hlist h' f).2
   cases m1
   rw [k3] at m2
   rcases m2 with m2 | ⟨b',o',m3,m4⟩
   ·omega
   ·cases m3;exact m4 i _ (intsV_get hx)
 have c1:=hlc2 h2 (X.fresh p0 low) i _ hq
 simp -dsimp only [go_sem,e2,hle,c1]
 have hw:IntKind.i64.wrap ((i:Int)+1)=((i+1:Nat):Int):=by rw [wrap64 (by omega) (by omega)];omega
 refine Chk_intro hlc ?_
 simp -dsimp only [go_sem,hw]
 refine Chk_intro (by omega) ?_
 simp -dsimp only [go_sem]
 have hY:0<l.length - (i+1)→(if lc=i+1 then some (⟨lb,lo,none⟩:Addr) else some ⟨lb,lo+(i+1),none⟩)=some ⟨lb,lo+(i+1),none⟩:=fun h0=>by
  rw [if_neg (by omega)]
 generalize hYe:(if lc=i+1 then some (⟨lb,lo,none⟩:Addr) else some ⟨lb,lo+(i+1),none⟩)=Y at hY
 refine loop_intro (fun s:Nat×List (Int×Int)=>[(2,.pointer (some ⟨b2,0,none⟩)),(5,.pointer (some ⟨b5,0,none⟩)),(11,.slice la l.length lc),(13,.int .i64 a),(140,.slice q.o g.co.length q.oc),(141,.int .i64 g.co.length),(142,.int .i64 c),(146,.slice la l.length lc),(147,.int .i64 l.length),(148,.int .i64 i),
   (156,.slice Y (l.length - (i+1)) (lc - (i+1))),(157,.int .i64 (l.length - (i+1):Nat)),(158,.int .i64 s.1)])
  (fun s h'=>s.1≤l.length - (i+1)∧FrX (InR A B 9) hI h'∧Der h' A B p g.n (relC g s.2) 9∧s.2++((l.drop (i+1+s.1)).map (fun b=>(a,b))++(lpairs (l.drop (i+1))++(g.co.drop (c+1)).flatMap lpairs))=coPairs g) (fun s=>l.length - (i+1) - s.1) (0,L) ?_ ?_ ?_
 ·simp [Le,find,hle,hoe];exact hYe
 ·exact ⟨by omega,X,D,hL⟩
 clear X D hL c1 L
 rintro ⟨j,L⟩ h2 ⟨hj,X,D,hL⟩
 dsimp only at hj D hL ⊢
 by_cases hjl:j<l.length - (i+1)
 rotate_left
 ·have hnil:l.drop (i+1+j)=[]:=List.drop_eq_nil_of_le (by omega)
  rw [hnil] at hL
  have e3:¬ ((j:Int)<((l.length - (i+1):Nat):Int)):=by omega
  simp -dsimp only [go_sem,e3]
  simp -dsimp (disch:=omega) only [wrap64]
  exact ⟨(i+1,L),by dsimp only;omega,by simp [Le,find,hoe,hle],by dsimp only;omega,X,D,hL⟩
 have e3:((j:Int)<((l.length - (i+1):Nat):Int)):=by omega
 have hq2:l[i+1+j]?=some l[i+1+j]:=by simp [show i+1+j<l.length by omega]
 have hdj:l.drop (i+1+j)=l[i+1+j] :: l.drop (i+1+j+1):=List.drop_eq_getElem_cons (by omega)
 rw [hdj,List.map_cons] at hL
 generalize l[i+1+j]=b at hq2 hL
 have c2:=hlc2 h2 (X.fresh p0 low) _ _ hq2
 rw [← Nat.add_assoc] at c2
 have r5':=X.rw r5 notS
 simp -dsimp only [go_sem,e3,hY (by omega),c2,r5'.cell]
 refine call_of (rel_Put (D.at_ 2 (by decide)) a b true) ?_
 rintro vp h3 ⟨f3,z3,-,w3⟩
 have D':=D.put (k:=2) (by decide) f3 w3
 have X':=X.step f3 (fun x h1 h2=>.inl ⟨2,by decide,h1,h2⟩)
 simp -dsimp only [go_sem,e3,hY (by omega),c2]
 simp -dsimp (disch:=omega) only [wrap64]
 refine ⟨(j+1,L++[(a,b)]),by dsimp only;omega,by simp [Le,find,hoe,hle],by dsimp only;omega,X',D'.congr fun k _ x y _ _=>relC_put k x y,?_⟩
 rw [List.append_assoc]
 exact hL
end Go.Proofs.Tst
/-
  graph.Derive.
-/
namespace Go.Proofs.Tst
open Go Go.Vc
structure FactsAt (h:Heap) (lo:Nat) (p:Nat→Value) (rd wr fe:Value) (g:Gr):Prop where
 n:g.n≤256
 rel:∃ A B,Der h A B p g.n (relM g) 10∧(∀ k,k<10→lo≤A k∧A k≤B k∧B k≤h.size)∧∀ k,k<10→∀ v∈[rd,wr,fe],bh v≤A k∨B k≤bl v∨bh v≤bl v
 hrd:Holder 1 h rd g.n (boolsV (kindsV g 1 g.n)) lo
 hwr:Holder 1 h wr g.n (boolsV (kindsV g 2 g.n)) lo
 hfe:Holder 1 h fe g.n (boolsV (kindsV g 3 g.n)) lo
 off:Off rd wr∧Off rd fe∧Off wr fe
theorem kindsV_succ {g:Gr} {k:Int} {i:Nat} (hi:i<g.n):boolsV (kindsV g k (i+1))=boolsV (kindsV g k i)++[.bool ((g.ev i).kind==k)]:=by
 unfold kindsV boolsV
 rw [List.take_add_one,Gr.ev_get hi]
 simp
theorem relT_zero {g:Gr} {k x y:Nat}:relZ g k x y=relT g 0 0 k x y:=by
 unfold relT
 split
 ·rename_i hk
  rw [mixM_zero]
  rcases hk with rfl | rfl | rfl <;> rfl
 ·rfl
theorem relT_end {g:Gr} {k x y:Nat} (hk:k<9) (hx:x<g.n) (hy:y<g.n):relT g g.n 0 k x y=relC g [] k x y:=by
 unfold relT relC
 by_cases h2:k=2
 ·subst h2;rfl
 ·rw [if_neg h2]
  split
  ·exact mixM_end hx hy
  ·rename_i h
   have:k=1∨k=3∨k=6∨k=7∨k=8:=by omega
   rcases this with rfl | rfl | rfl | rfl | rfl <;> rfl
theorem relC_end {g:Gr} {k:Nat} (hk:k<9):relC g (coPairs g) k=relM g k:=by
 unfold relC
 by_cases h2:k=2
 ·subst h2;rfl
 ·rw [if_neg h2]
def ixL:List Nat:=[1,5,7,11,13,15,19,23,27,28,29]
set_option maxHeartbeats 4000000 in
theorem graph_Derive {h:Heap} {q:GV} {g:Gr} (t:GrAt h q g) (ht:TabAt h) :
  Con Tryd.prog 44 #[.agg (gcells q g).toArray] h fun v h'=>Fr 0 0 h h'∧if g.good=true then ∃ p rd wr fe,v=.tuple #[.agg (fcells p rd wr fe).toArray,.int .i64 0]∧FactsAt h' h.size p rd wr fe g else v=.tuple #[.agg fzero.toArray,.int .i64 4]:=by
 refine con_graph_Derive ?_
 have p0:Fr 0 0 h h:=.refl _ _ _
 have be:=t.fits.e
 have bf:=t.fits.f
 have br:=t.fits.r
 have ba:=t.fits.a
 have bd:=t.fits.d
 have bc:=t.fits.c
 have hen:g.evs.length=g.n:=rfl
 unfold gcells
 simp -dsimp only [go_sem]
 intro b1 h1 n1
 have n1_a:=n1.at_
 have n1_z:=n1.size
 replace p0:=p0.F n1.f0
 have r1:=n1.row
 simp -dsimp only [go_sem,r1.cell]
 intro b2 h2 n2
 have n2_a:=n2.at_
 have n2_z:=n2.size
 replace p0:=p0.F n2.f0
 replace r1:=r1.F n2.f0
 have r2:=n2.row
 simp -dsimp only [go_sem,r1.cell,r2.cell]
 refine call_of (graph_good (t.fr p0)) ?_
 rintro v3 h3 ⟨f3,rfl⟩
 have f3_z:=f3.size
 replace p0:=p0.F f3
 replace r1:=r1.F f3
 replace r2:=r2.F f3
 cases hg:g.good
 ·simp -dsimp only [go_sem,r1.cell,r2.cell]
  refine Chk_intro (r2.wr (by first | (simp;done) | (simp;omega))) fun h4 s4=>?_
  have s4_z:=s4.size
  replace p0:=p0.F s4.fr
  replace r1:=r1.F s4.fr
  replace r2:=s4.row r2
  try simp only [cl_int,cl_bool,cl_slice,cl_ptr,putAt_one,List.set_cons_zero,List.set_cons_succ,ivec_set,brow_upd] at r2
  simp -dsimp only [go_sem] at r2
  simp -dsimp only [go_sem,r1.cell,r2.cell]
  exact withC_of fzero 0 (fun j x hj=>by rw [r2.cell,Nat.zero_add];exact hj) ⟨p0,rfl⟩
 obtain ⟨hn,hsz⟩:=good_n hg
 simp -dsimp only [go_sem,evs_len,r1.cell,r2.cell]
 have hcl:clampN (g.n:Int)=g.n:=by unfold clampN;omega
 have t3:=t.fr p0
 refine free_intro [(1,[1],tellP g.n fun _ _=>false),(5,[5],tellP g.n (ofM g.n g.rf)),(7,[7],tellP g.n fun _ _=>false),(11,[11],tellP g.n (ofM g.n g.rmw)),(13,[13],tellP g.n fun _ _=>false),(15,[15],tellP g.n fun _ _=>false),
  (19,[19],tellP g.n (ofM g.n g.addr)),(23,[23],tellP g.n (ofM g.n g.data)),(27,[27],tellP g.n (ofM g.n g.ctrl)),(28,[1,5,7,11,13,15,19,23,27,28],tellF),(29,[29],tellA fzero)] ?_ rfl ?_ ?_
 ·exact ⟨stabP _ _,stabP _ _,stabP _ _,stabP _ _,stabP _ _,stabP _ _,stabP _ _,stabP _ _,stabP _ _,fun _ _ _ _ x=>x,stabA _,trivial⟩
 ·simp -dsimp only [go_sem,tellP_eq,tellF_eq,tellA_eq,r1.cell,r2.cell]
  refine ⟨fun h4 f4 V=>?_,fun h4 f4 V _=>?_,fun h4 f4 V _=>?_,fun h4 f4 V _=>?_,fun h4 f4 V _=>?_,fun h4 f4 V _=>?_,fun h4 f4 V _=>?_,fun h4 f4 V _=>?_,fun h4 f4 V _=>?_,fun h4 f4 V a1 a2 a3 a4 a5 a6 a7 a8 a9=>?_,fun h4 f4 V=>?_⟩
  ·refine call_of (rel_New g.n h4) ?_
   rintro v h5 ⟨f5,w⟩
   rw [hcl] at w
   simp -dsimp only [go_sem,tellP_eq,r1.cell,r2.cell]
   exact ⟨f5,w⟩
  ·refine call_of (rel_Of g.n _ g.rf h4 (t3.f.fr f4) (by omega)) ?_
   rintro v h5 ⟨f5,w⟩
   rw [hcl] at w
   simp -dsimp only [go_sem,tellP_eq,r1.cell,r2.cell]
   exact ⟨f5,w⟩
  ·refine call_of (rel_New g.n h4) ?_
   rintro v h5 ⟨f5,w⟩
   rw [hcl] at w
   simp -dsimp only [go_sem,tellP_eq,r1.cell,r2.cell]
   exact ⟨f5,w⟩
  ·refine call_of (rel_Of g.n _ g.rmw h4 (t3.r.fr f4) (by omega)) ?_
   rintro v h5 ⟨f5,w⟩
   rw [hcl] at w
   simp -dsimp only [go_sem,tellP_eq,r1.cell,r2.cell]
   exact ⟨f5,w⟩
  ·refine call_of (rel_New g.n h4) ?_
   rintro v h5 ⟨f5,w⟩
   rw [hcl] at w
   simp -dsimp only [go_sem,tellP_eq,r1.cell,r2.cell]
   exact ⟨f5,w⟩
  ·refine call_of (rel_New g.n h4) ?_
   rintro v h5 ⟨f5,w⟩
   rw [hcl] at w
   simp -dsimp only [go_sem,tellP_eq,r1.cell,r2.cell]
   exact ⟨f5,w⟩
  ·refine call_of (rel_Of g.n _ g.addr h4 (t3.a.fr f4) (by omega)) ?_
   rintro v h5 ⟨f5,w⟩
   rw [hcl] at w
   simp -dsimp only [go_sem,tellP_eq,r1.cell,r2.cell]
   exact ⟨f5,w⟩
  ·refine call_of (rel_Of g.n _ g.data h4 (t3.d.fr f4) (by omega)) ?_
   rintro v h5 ⟨f5,w⟩
   rw [hcl] at w
   simp -dsimp only [go_sem,tellP_eq,r1.cell,r2.cell]
   exact ⟨f5,w⟩
  ·refine call_of (rel_Of g.n _ g.ctrl h4 (t3.c.fr f4) (by omega)) ?_
   rintro v h5 ⟨f5,w⟩
   rw [hcl] at w
   simp -dsimp only [go_sem,tellP_eq,r1.cell,r2.cell]
   exact ⟨f5,w⟩
  ·obtain ⟨b1,e1⟩:=progPtr a1
   obtain ⟨b2,e2⟩:=progPtr a2
   obtain ⟨b3,e3⟩:=progPtr a3
   obtain ⟨b4,e4⟩:=progPtr a4
   obtain ⟨b5,e5⟩:=progPtr a5
   obtain ⟨b6,e6⟩:=progPtr a6
   obtain ⟨b7,e7⟩:=progPtr a7
   obtain ⟨b8,e8⟩:=progPtr a8
   obtain ⟨b9,e9⟩:=progPtr a9
   simp -dsimp only [go_sem,e1,e2,e3,e4,e5,e6,e7,e8,e9,tellF_eq,r1.cell,r2.cell]
   exact .refl _ _ _
  ·intro b5 h5 n5
   simp -dsimp only [go_sem,tellA_eq,r1.cell,r2.cell]
   exact ⟨n5.fr,n5.at_.symm▸rfl,n5.size,n5.at_▸n5.row⟩
 ·intro h4 f4 V sep
  replace sep:=sep.at_ (L:=ixL) rfl
  simp -dsimp only [go_sem,tellP_eq,tellF_eq,tellA_eq,r1.cell,r2.cell]
  rintro a1 a2 a3 a4 a5 a6 a7 a8 a9 e28 ⟨e29,z29,r5⟩
  have f4_z:=f4.size
  replace p0:=p0.F f4
  replace r1:=r1.F f4
  replace r2:=r2.F f4
  have hH34:=f4.size
  have oc:∀ {a b:Nat} {v:Value} {M:Nat→Nat→Bool},ProgAt h4 a b v g.n M→v.oneCell'=true:=fun t=>by obtain ⟨_,e⟩:=progPtr t;rw [e];rfl
  have hix:∀ k,k<9→ixD k∈ixL∧ixD k≠29:=by decide
  have hne:∀ k,k<9→∀ l,l<9→k≠l→ixD k≠ixD l:=by decide
  have key:∃ (A B:Nat→Nat) (p:Nat→Value) (b5:Nat),p 0=(V 1).1∧p 1=(V 5).1∧p 2=(V 7).1∧p 3=(V 11).1∧p 4=(V 13).1∧p 5=(V 15).1∧p 6=(V 19).1∧p 7=(V 23).1∧p 8=(V 27).1∧b5=(V 29).2.1 ∧
    Der h4 A B p g.n (relZ g) 9∧(∀ k,k<9→h3.size≤A k∧A k≤B k∧B k≤h4.size)∧(∀ k,k<9→b5<A k∨B k≤b5)∧h3.size≤b5:=by
   refine ⟨fun k=>(V (ixD k)).2.1,fun k=>(V (ixD k)).2.2,fun k=>(V (ixD k)).1,_,rfl,rfl,rfl,rfl,rfl,rfl,rfl,rfl,rfl,rfl,⟨fun k hk=>?_,fun k l hk hl hkl=>sep.2 _ (hix k hk).1 _ (hix l hl).1 (hne k hk l hl hkl)⟩,fun k hk=>sep.1 _ (hix k hk).1,fun k hk=>?_,(sep.1 29 (by decide)).1⟩
   ·match k,hk with
    | 0,_=>exact a1
    | 1,_=>exact a2
    | 2,_=>exact a3
    | 3,_=>exact a4
    | 4,_=>exact a5
    | 5,_=>exact a6
    | 6,_=>exact a7
    | 7,_=>exact a8
    | 8,_=>exact a9
   ·have:=sep.2 29 (by decide) _ (hix k hk).1 (Ne.symm (hix k hk).2)
    have:=sep.1 29 (by decide)
    show (V 29).2.1<(V (ixD k)).2.1∨(V (ixD k)).2.2≤(V 29).2.1
    omega
  obtain ⟨A,B,p,b5,q0,q1,q2,q3,q4,q5,q6,q7,q8,q9,D,hAB,hb5,hb5'⟩:=key
  have ocs:(p 0).oneCell'=true∧(p 1).oneCell'=true∧(p 2).oneCell'=true∧(p 3).oneCell'=true∧(p 4).oneCell'=true∧(p 5).oneCell'=true∧(p 6).oneCell'=true∧(p 7).oneCell'=true∧(p 8).oneCell'=true:=
   ⟨oc (D.at_ 0 (by decide)),oc (D.at_ 1 (by decide)),oc (D.at_ 2 (by decide)),oc (D.at_ 3 (by decide)),oc (D.at_ 4 (by decide)),oc (D.at_ 5 (by decide)),oc (D.at_ 6 (by decide)),oc (D.at_ 7 (by decide)),oc (D.at_ 8 (by decide))⟩
  obtain ⟨oc0,oc1,oc2,oc3,oc4,oc5,oc6,oc7,oc8⟩:=ocs
  rw [← q9] at e29 r5
  rw [← q0,← q1,← q2,← q3,← q4,← q5,← q6,← q7,← q8] at e28
  clear a1 a2 a3 a4 a5 a6 a7 a8 a9 oc hix hne sep
  unfold fzero at r5
  have r5_l:=r5.lt
  simp -dsimp only [go_sem,e29,e28,oc0,oc1,oc2,oc3,oc4,oc5,oc6,oc7,oc8,r1.cell,r2.cell,r5.cell]
  refine Chk_intro (r5.wr (by first | (simp;done) | (simp;omega))) fun h5 s5=>?_
  have s5_z:=s5.size
  replace p0:=p0.F s5.fr
  replace r1:=r1.F s5.fr
  replace r2:=r2.F s5.fr
  replace D:=D.fr s5.fr (fun k hk=>by have:=hAB k hk;first | omega | (have:=hb5 k hk;omega))
  replace r5:=s5.row r5
  try simp only [cl_int,cl_bool,cl_slice,cl_ptr,putAt_one,List.set_cons_zero,List.set_cons_succ,ivec_set,brow_upd] at r5
  simp -dsimp only [go_sem] at r5
  have hz5:0<h5.size:=by omega
  have D:Der h5 A B p g.n (relT g 0 0) 9:=D.congr fun k hk x y _ _=>relT_zero
  have gb:h.size≤h3.size∧h3.size≤h4.size∧h4.size≤h5.size∧b1<h3.size∧b2<h3.size∧h3.size≤b5∧b5<h5.size∧h.size≤b1∧h.size≤b2∧b1≠b2:=by omega
  clear e28 z29 q0 q1 q2 q3 q4 q5 q6 q7 q8 q9 n1_a n1_z n2_a n2_z f3_z f4_z s5_z hH34
  simp -dsimp only [go_sem,evs_len,r1.cell,r2.cell,r5.cell]
  refine loop_intro (fun s:Nat×Value×Value×Value=>[(1,.pointer (some ⟨b1,0,none⟩)),(2,.pointer (some ⟨b2,0,none⟩)),(5,.pointer (some ⟨b5,0,none⟩)),(53,.slice q.e g.evs.length q.ec),(54,.int .i64 g.n),(55,.int .i64 s.1)])
   (fun s h'=>s.1≤g.n∧Fr 0 0 h h'∧h5.size≤h'.size∧Rw h' b1 (gcells q g)∧Rw h' b2 fzero∧Rw h' b5 [p 0,p 1,p 2,.pointer none,p 3,p 4,p 5,p 6,p 7,p 8,s.2.1,s.2.2.1,s.2.2.2]∧Der h' A B p g.n (relT g s.1 0) 9 ∧
    Holder 1 h' s.2.1 s.1 (boolsV (kindsV g 1 s.1)) h5.size∧Holder 1 h' s.2.2.1 s.1 (boolsV (kindsV g 2 s.1)) h5.size∧Holder 1 h' s.2.2.2 s.1 (boolsV (kindsV g 3 s.1)) h5.size∧Off s.2.1 s.2.2.1∧Off s.2.1 s.2.2.2∧Off s.2.2.1 s.2.2.2) (fun s=>g.n - s.1) (0,.slice none 0 0,.slice none 0 0,.slice none 0 0) ?_ ?_ ?_
  ·simp [Le,find,hen,e29]
  ·exact ⟨by omega,p0,by omega,r1,r2,r5,D,.none _ _ _,.none _ _ _,.none _ _ _,.inl rfl,.inl rfl,.inl rfl⟩
  clear p0 r1 r2 r5 D r5_l
  rintro ⟨i,rd,wr,fe⟩ h6 ⟨hi,p0,y6,r1,r2,r5,D,o1,o2,o3,f12,f13,f23⟩
  dsimp only at hi r5 D o1 o2 o3 f12 f13 f23 ⊢
  unfold gcells at r1
  unfold fzero at r2
  have p0_z:=p0.size
  have r1_l:=r1.lt
  have r2_l:=r2.lt
  have r5_l:=r5.lt
  by_cases hlt:i<g.n
  ·have e1:((i:Int)<(g.n:Int)):=by omega
   obtain ⟨eb,eo,he,hev⟩:=t.evs (by omega)
   obtain ⟨c0,c1,c2,c3,c4⟩:=hev h6 p0 i hlt
   obtain ⟨ra0,rc0,rfl⟩:=o1.is
   obtain ⟨ra0',rc0',rfl⟩:=o2.is
   obtain ⟨ra0'',rc0'',rfl⟩:=o3.is
   have tp1:=o1.top
   have tp2:=o2.top
   have tp3:=o3.top
   simp -dsimp only [go_sem,e1,he,evs_len,c0,c1,c2,c3,c4,r1.cell,r2.cell,r5.cell]
   intro b7 h7 n7
   have n7_a:=n7.at_
   have n7_z:=n7.size
   replace p0:=p0.F n7.f0
   replace r1:=r1.F n7.f0
   replace r2:=r2.F n7.f0
   replace r5:=r5.F n7.f0
   replace D:=D.fr n7.f0 (fun k hk=>by have:=hAB k hk;first | omega | (have:=hb5 k hk;omega))
   have r7:=n7.row
   replace o1:=o1.fr n7.f0 (by omega)
   replace o2:=o2.fr n7.f0 (by omega)
   replace o3:=o3.fr n7.f0 (by omega)
   simp -dsimp only [go_sem,r1.cell,r2.cell,r5.cell,r7.cell]
   refine Chk_intro (r7.wr (by first | (simp;done) | (simp;omega))) fun h8 s8=>?_
   have s8_z:=s8.size
   replace p0:=p0.F s8.fr
   replace r1:=r1.F s8.fr
   replace r2:=r2.F s8.fr
   replace r5:=r5.F s8.fr
   replace D:=D.fr s8.fr (fun k hk=>by have:=hAB k hk;first | omega | (have:=hb5 k hk;omega))
   replace r7:=s8.row r7
   try simp only [cl_int,cl_bool,cl_slice,cl_ptr,putAt_one,List.set_cons_zero,List.set_cons_succ,ivec_set,brow_upd] at r7
   replace o1:=o1.fr s8.fr (by omega)
   replace o2:=o2.fr s8.fr (by omega)
   replace o3:=o3.fr s8.fr (by omega)
   simp -dsimp only [go_sem] at r7
   have hb7:h6.size≤b7∧b7<h8.size∧h6.size≤h8.size:=by omega
   have t71:bh (.slice ra0 i rc0)≤b7∧bh (.slice ra0' i rc0')≤b7∧bh (.slice ra0'' i rc0'')≤b7:=by omega
   clear tp1 tp2 tp3 n7_a n7_z s8_z c0 c1 c2 c3 c4
   simp -dsimp only [go_sem,r1.cell,r2.cell,r5.cell,r7.cell]
   intro nb1 hb1 nn1
   have nn1_a:=nn1.at_
   have nn1_z:=nn1.size
   replace p0:=p0.F nn1.f0
   replace r1:=r1.F nn1.f0
   replace r2:=r2.F nn1.f0
   replace r5:=r5.F nn1.f0
   replace D:=D.fr nn1.f0 (fun k hk=>by have:=hAB k hk;first | omega | (have:=hb5 k hk;omega))
   replace r7:=r7.F nn1.f0
   have rn1:=nn1.row
   replace o1:=o1.fr nn1.f0 (by omega)
   replace o2:=o2.fr nn1.f0 (by omega)
   replace o3:=o3.fr nn1.f0 (by omega)
   have oa1:=o1.at_
   simp -dsimp only [go_sem,r1.cell,r2.cell,r5.cell,r7.cell,rn1.cell]
   refine o1.append (by omega) rfl (by omega) (by simp) (by omega) fun u1 k1 on1 fn1 en1=>?_
   have fn1_z:=fn1.size
   replace p0:=p0.F fn1
   replace r1:=r1.F fn1
   replace r2:=r2.F fn1
   replace r5:=r5.F fn1
   replace D:=D.fr fn1 (fun k hk=>by have:=hAB k hk;first | omega | (have:=hb5 k hk;omega))
   replace r7:=r7.F fn1
   clear oa1
   have tp2:=o2.top
   have tp3:=o3.top
   have nw2:=(f12.symm).app tp2 hz5 on1 en1
   have nw3:=(f13.symm).app tp3 hz5 on1 en1
   replace o2:=o2.fr fn1 (f12.symm).away
   replace o3:=o3.fr fn1 (f13.symm).away
   replace o1:=on1
   clear en1 on1
   clear tp2 tp3
   replace f12:=nw2.symm
   replace f13:=nw3.symm
   clear nw2 nw3
   obtain ⟨ra1,rc1,rfl⟩:=o1.is
   have oa1:=o1.at_
   simp -dsimp only [go_sem,r1.cell,r2.cell,r5.cell,r7.cell]
   refine Chk_intro (r5.wr (by first | (simp;done) | (simp;omega))) fun ks1 st1=>?_
   have st1_z:=st1.size
   replace p0:=p0.F st1.fr
   replace r1:=r1.F st1.fr
   replace r2:=r2.F st1.fr
   replace D:=D.fr st1.fr (fun k hk=>by have:=hAB k hk;first | omega | (have:=hb5 k hk;omega))
   replace r7:=r7.F st1.fr
   replace r5:=st1.row r5
   try simp only [cl_int,cl_bool,cl_slice,cl_ptr,putAt_one,List.set_cons_zero,List.set_cons_succ,ivec_set,brow_upd] at r5
   replace o1:=o1.fr st1.fr (by have:=o1.at_;omega)
   replace o2:=o2.fr st1.fr (by have:=o2.at_;omega)
   replace o3:=o3.fr st1.fr (by have:=o3.at_;omega)
   clear oa1
   simp -dsimp only [go_sem,r1.cell,r2.cell,r5.cell,r7.cell]
   intro nb2 hb2 nn2
   have nn2_a:=nn2.at_
   have nn2_z:=nn2.size
   replace p0:=p0.F nn2.f0
   replace r1:=r1.F nn2.f0
   replace r2:=r2.F nn2.f0
   replace r5:=r5.F nn2.f0
   replace D:=D.fr nn2.f0 (fun k hk=>by have:=hAB k hk;first | omega | (have:=hb5 k hk;omega))
   replace r7:=r7.F nn2.f0
   have rn2:=nn2.row
   replace o1:=o1.fr nn2.f0 (by omega)
   replace o2:=o2.fr nn2.f0 (by omega)
   replace o3:=o3.fr nn2.f0 (by omega)
   have oa2:=o2.at_
   simp -dsimp only [go_sem,r1.cell,r2.cell,r5.cell,r7.cell,rn2.cell]
   refine o2.append (by omega) rfl (by omega) (by simp) (by omega) fun u2 k2 on2 fn2 en2=>?_
   have fn2_z:=fn2.size
   replace p0:=p0.F fn2
   replace r1:=r1.F fn2
   replace r2:=r2.F fn2
   replace r5:=r5.F fn2
   replace D:=D.fr fn2 (fun k hk=>by have:=hAB k hk;first | omega | (have:=hb5 k hk;omega))
   replace r7:=r7.F fn2
   clear oa2
   have tp1:=o1.top
   have tp3:=o3.top
   have nw1:=(f12).app tp1 hz5 on2 en2
   have nw3:=(f23.symm).app tp3 hz5 on2 en2
   replace o1:=o1.fr fn2 (f12).away
   replace o3:=o3.fr fn2 (f23.symm).away
   replace o2:=on2
   clear en2 on2
   clear tp1 tp3
   replace f12:=nw1
   replace f23:=nw3.symm
   clear nw1 nw3
   obtain ⟨ra2,rc2,rfl⟩:=o2.is
   have oa2:=o2.at_
   simp -dsimp only [go_sem,r1.cell,r2.cell,r5.cell,r7.cell]
   refine Chk_intro (r5.wr (by first | (simp;done) | (simp;omega))) fun ks2 st2=>?_
   have st2_z:=st2.size
   replace p0:=p0.F st2.fr
   replace r1:=r1.F st2.fr
   replace r2:=r2.F st2.fr
   replace D:=D.fr st2.fr (fun k hk=>by have:=hAB k hk;first | omega | (have:=hb5 k hk;omega))
   replace r7:=r7.F st2.fr
   replace r5:=st2.row r5
   try simp only [cl_int,cl_bool,cl_slice,cl_ptr,putAt_one,List.set_cons_zero,List.set_cons_succ,ivec_set,brow_upd] at r5
   replace o1:=o1.fr st2.fr (by have:=o1.at_;omega)
   replace o2:=o2.fr st2.fr (by have:=o2.at_;omega)
   replace o3:=o3.fr st2.fr (by have:=o3.at_;omega)
   clear oa2
   simp -dsimp only [go_sem,r1.cell,r2.cell,r5.cell,r7.cell]
   intro nb3 hb3 nn3
   have nn3_a:=nn3.at_
   have nn3_z:=nn3.size
   replace p0:=p0.F nn3.f0
   replace r1:=r1.F nn3.f0
   replace r2:=r2.F nn3.f0
   replace r5:=r5.F nn3.f0
   replace D:=D.fr nn3.f0 (fun k hk=>by have:=hAB k hk;first | omega | (have:=hb5 k hk;omega))
   replace r7:=r7.F nn3.f0
   have rn3:=nn3.row
   replace o1:=o1.fr nn3.f0 (by omega)
   replace o2:=o2.fr nn3.f0 (by omega)
   replace o3:=o3.fr nn3.f0 (by omega)
   have oa3:=o3.at_
   simp -dsimp only [go_sem,r1.cell,r2.cell,r5.cell,r7.cell,rn3.cell]
   refine o3.append (by omega) rfl (by omega) (by simp) (by omega) fun u3 k3 on3 fn3 en3=>?_
   have fn3_z:=fn3.size
   replace p0:=p0.F fn3
   replace r1:=r1.F fn3
   replace r2:=r2.F fn3
   replace r5:=r5.F fn3
   replace D:=D.fr fn3 (fun k hk=>by have:=hAB k hk;first | omega | (have:=hb5 k hk;omega))
   replace r7:=r7.F fn3
   clear oa3
   have tp1:=o1.top
   have tp2:=o2.top
   have nw1:=(f13).app tp1 hz5 on3 en3
   have nw2:=(f23).app tp2 hz5 on3 en3
   replace o1:=o1.fr fn3 (f13).away
   replace o2:=o2.fr fn3 (f23).away
   replace o3:=on3
   clear en3 on3
   clear tp1 tp2
   replace f13:=nw1
   replace f23:=nw2
   clear nw1 nw2
   obtain ⟨ra3,rc3,rfl⟩:=o3.is
   have oa3:=o3.at_
   simp -dsimp only [go_sem,r1.cell,r2.cell,r5.cell,r7.cell]
   refine Chk_intro (r5.wr (by first | (simp;done) | (simp;omega))) fun ks3 st3=>?_
   have st3_z:=st3.size
   replace p0:=p0.F st3.fr
   replace r1:=r1.F st3.fr
   replace r2:=r2.F st3.fr
   replace D:=D.fr st3.fr (fun k hk=>by have:=hAB k hk;first | omega | (have:=hb5 k hk;omega))
   replace r7:=r7.F st3.fr
   replace r5:=st3.row r5
   try simp only [cl_int,cl_bool,cl_slice,cl_ptr,putAt_one,List.set_cons_zero,List.set_cons_succ,ivec_set,brow_upd] at r5
   replace o1:=o1.fr st3.fr (by have:=o1.at_;omega)
   replace o2:=o2.fr st3.fr (by have:=o2.at_;omega)
   replace o3:=o3.fr st3.fr (by have:=o3.at_;omega)
   clear oa3
   simp -dsimp only [go_sem,r1.cell,r2.cell,r5.cell,r7.cell]
   refine derive_row t p0 hAB hb5 gb.1 (by omega) (by omega) hlt D r5 r7 fun h9 X9 D9=>?_
   have notS:∀ x,x<h3.size∨h4.size≤x∨x=b5→¬ InR A B 9 x:=fun x hx ⟨k,hk,g1,g2⟩=>by have:=hAB k hk;have:=hb5 k hk;omega
   have X9_z:=X9.size
   replace p0:=X9.fresh p0 fun x ⟨k,hk,g1,_⟩=>by have:=hAB k hk;omega
   replace r1:=X9.rw r1 (notS _ (by omega))
   replace r2:=X9.rw r2 (notS _ (by omega))
   replace r5:=X9.rw r5 (notS _ (by omega))
   replace o1:=X9.holder o1 fun x hx=>notS _ (by omega)
   replace o2:=X9.holder o2 fun x hx=>notS _ (by omega)
   replace o3:=X9.holder o3 fun x hx=>notS _ (by omega)
   simp -dsimp only [go_sem,r1.cell,r2.cell,r5.cell,r7.cell]
   simp -dsimp (disch:=omega) only [wrap64]
   exact ⟨(i+1,.slice ra1 (i+1) rc1,.slice ra2 (i+1) rc2,.slice ra3 (i+1) rc3),by dsimp only;omega,by simp [Le,find,he,evs_len],by dsimp only;omega,p0,by omega,r1,r2,r5,D9,by rw [kindsV_succ hlt];exact o1,by rw [kindsV_succ hlt];exact o2,by rw [kindsV_succ hlt];exact o3,f12,f13,f23⟩
  ·obtain rfl:i=g.n:=by omega
   have notS:∀ x,x<h3.size∨h4.size≤x∨x=b5→¬ InR A B 9 x:=fun x hx ⟨k,hk,g1,g2⟩=>by have:=hAB k hk;have:=hb5 k hk;omega
   replace D:=D.congr fun k hk x y hx hy=>relT_end hk hx hy
   simp -dsimp only [go_sem,Int.lt_irrefl,r1.cell,r2.cell,r5.cell]
   refine derive_co t p0 hAB hb5 gb.1 D r5 fun h9 X9 D9=>?_
   have X9_z:=X9.size
   replace p0:=X9.fresh p0 fun x ⟨k,hk,g1,_⟩=>by have:=hAB k hk;omega
   replace r1:=X9.rw r1 (notS _ (by omega))
   replace r2:=X9.rw r2 (notS _ (by omega))
   replace r5:=X9.rw r5 (notS _ (by omega))
   replace o1:=X9.holder o1 fun x hx=>notS _ (by omega)
   replace o2:=X9.holder o2 fun x hx=>notS _ (by omega)
   replace o3:=X9.holder o3 fun x hx=>notS _ (by omega)
   have g9:h5.size≤h9.size:=by omega
   clear D
   have p0_z:=p0.size
   have r1_l:=r1.lt
   have r2_l:=r2.lt
   have r5_l:=r5.lt
   simp -dsimp only [go_sem,r1.cell,r2.cell,r5.cell]
   refine call_of (rel_Inverse (D9.at_ 1 (by decide)) (ht.fr p0 (.inr rfl))) ?_
   rintro v10 h10 ⟨f10,w10⟩
   have f10_z:=f10.size
   replace p0:=p0.F f10
   replace r1:=r1.F f10
   replace r2:=r2.F f10
   replace r5:=r5.F f10
   replace D9:=D9.fr f10 (fun k hk=>by have:=hAB k hk;first | omega | (have:=hb5 k hk;omega))
   replace o1:=o1.fr f10 (by omega)
   replace o2:=o2.fr f10 (by omega)
   replace o3:=o3.fr f10 (by omega)
   have tp1:=o1.top
   have tp2:=o2.top
   have tp3:=o3.top
   simp -dsimp only [go_sem,r1.cell,r2.cell,r5.cell]
   refine call_of (rel_Comp w10 (D9.at_ 2 (by decide)) (ht.fr p0 (.inr rfl))) ?_
   rintro v11 h11 ⟨f11,w11⟩
   have f11_z:=f11.size
   replace p0:=p0.F f11
   replace r1:=r1.F f11
   replace r2:=r2.F f11
   replace r5:=r5.F f11
   replace D9:=D9.fr f11 (fun k hk=>by have:=hAB k hk;first | omega | (have:=hb5 k hk;omega))
   replace o1:=o1.fr f11 (by omega)
   replace o2:=o2.fr f11 (by omega)
   replace o3:=o3.fr f11 (by omega)
   rw [Nat.max_self] at w11
   obtain ⟨pb,rfl⟩:=progPtr w11
   have o1a:=o1.at_
   have o2a:=o2.at_
   have o3a:=o3.at_
   obtain ⟨rda,rdc,rfl⟩:=o1.is
   obtain ⟨wra,wrc,rfl⟩:=o2.is
   obtain ⟨fea,fec,rfl⟩:=o3.is
   simp -dsimp only [go_sem,r1.cell,r2.cell,r5.cell]
   refine Chk_intro (r5.wr (by first | (simp;done) | (simp;omega))) fun h12 s12=>?_
   have s12_z:=s12.size
   replace p0:=p0.F s12.fr
   replace r1:=r1.F s12.fr
   replace r2:=r2.F s12.fr
   replace D9:=D9.fr s12.fr (fun k hk=>by have:=hAB k hk;first | omega | (have:=hb5 k hk;omega))
   replace r5:=s12.row r5
   try simp only [cl_int,cl_bool,cl_slice,cl_ptr,putAt_one,List.set_cons_zero,List.set_cons_succ,ivec_set,brow_upd] at r5
   replace o1:=o1.fr s12.fr (by omega)
   replace o2:=o2.fr s12.fr (by omega)
   replace o3:=o3.fr s12.fr (by omega)
   replace w11:=w11.fr s12.fr (by omega)
   have r5':Rw h12 b5 [p 0,p 1,p 2,.pointer (some ⟨pb,0,none⟩),p 3,p 4,p 5,p 6,p 7,p 8,.slice rda g.n rdc,.slice wra g.n wrc,.slice fea g.n fec]:=r5
   clear r5
   simp -dsimp only [go_sem,r1.cell,r2.cell]
   refine withC_of [p 0,p 1,p 2,.pointer (some ⟨pb,0,none⟩),p 3,p 4,p 5,p 6,p 7,p 8,.slice rda g.n rdc,.slice wra g.n wrc,.slice fea g.n fec] 0 (fun j x hj=>by rw [r5'.cell,Nat.zero_add];exact hj) ?_
   simp only [List.all_cons,List.all_nil,oc0,oc1,oc2,oc3,oc4,oc5,oc6,oc7,oc8]
   refine Chk_intro ⟨rfl,rfl⟩ ?_
   refine Chk_intro (r2.wr (by first | (simp;done) | (simp;omega))) fun h13 s13=>?_
   have s13_z:=s13.size
   replace p0:=p0.F s13.fr
   replace r1:=r1.F s13.fr
   replace D9:=D9.fr s13.fr (fun k hk=>by have:=hAB k hk;first | omega | (have:=hb5 k hk;omega))
   replace r2:=s13.row r2
   try simp only [cl_int,cl_bool,cl_slice,cl_ptr,putAt_one,List.set_cons_zero,List.set_cons_succ,ivec_set,brow_upd] at r2
   replace o1:=o1.fr s13.fr (by omega)
   replace o2:=o2.fr s13.fr (by omega)
   replace o3:=o3.fr s13.fr (by omega)
   replace w11:=w11.fr s13.fr (by omega)
   replace r2:Rw h13 b2 [p 0,p 1,p 2,.pointer (some ⟨pb,0,none⟩),p 3,p 4,p 5,p 6,p 7,p 8,.slice rda g.n rdc,.slice wra g.n wrc,.slice fea g.n fec]:=r2
   simp -dsimp only [go_sem,r1.cell,r2.cell]
   refine withC_of [p 0,p 1,p 2,.pointer (some ⟨pb,0,none⟩),p 3,p 4,p 5,p 6,p 7,p 8,.slice rda g.n rdc,.slice wra g.n wrc,.slice fea g.n fec] 0 (fun j x hj=>by rw [r2.cell,Nat.zero_add];exact hj) ?_
   refine ⟨p0,fun k=>if k=9 then .pointer (some ⟨pb,0,none⟩) else p k,_,_,_,rfl,hn,⟨fun k=>if k=9 then h10.size else A k,fun k=>if k=9 then h11.size else B k,⟨fun k hk=>?_,fun k l hk hl hkl=>?_⟩,fun k hk=>?_,fun k hk v hv=>?_⟩,o1.lower (by omega),o2.lower (by omega),o3.lower (by omega),f12,f13,f23⟩
   ·by_cases h9':k=9
    ·subst h9';exact w11
    ·simp only [if_neg h9']
     have:=D9.at_ k (by omega)
     rw [relC_end (by omega)] at this
     exact this
   ·have key:∀ k,k<9→B k≤h10.size:=fun k hk=>by have:=hAB k hk;omega
    by_cases h9':k=9
    ·simp only [if_pos h9',if_neg (show ¬ l=9 by omega)]
     exact .inr (key l (by omega))
    ·simp only [if_neg h9']
     by_cases h9'':l=9
     ·simp only [if_pos h9''];exact .inl (key k (by omega))
     ·simp only [if_neg h9''];exact D9.off k l (by omega) (by omega) hkl
   ·by_cases h9':k=9
    ·simp only [if_pos h9'];omega
    ·simp only [if_neg h9'];have:=hAB k (by omega);omega
   ·have hb:bh v≤h10.size∧(bh v=0∧bl v=0∨h4.size≤bl v):=by
     simp only [List.mem_cons,List.not_mem_nil,or_false] at hv
     rcases hv with rfl | rfl | rfl <;> omega
    by_cases h9':k=9
    ·simp only [if_pos h9'];omega
    ·simp only [if_neg h9'];have:=hAB k (by omega);omega
end Go.Proofs.Tst
/-
  graph's With, Thread and Final.
-/
namespace Go.Proofs.Tst
open Go Go.Vc
def withB (g:Gr) (m:List Int):List Bool:=g.evs.map fun e=>m.contains e.mode
theorem holder_row {s:Nat} {h:Heap} {b n:Nat} {xs:List Value} {lo:Nat} (r:Rw h b xs) (hl:xs.length=n * s) (hb:lo≤b):Holder s h (.slice (some ⟨b,0,none⟩) n n) n xs lo:=
 ⟨hl,.inr ⟨b,n,[],rfl,by rw [List.append_nil];exact r,by simp,hb⟩⟩
theorem graph_With {h:Heap} {q:GV} {g:Gr} (t:GrAt h q g) (hn:g.n≤281474976710656) {mv:Value} {m:List Int} (hm:Rd 1 h mv m.length (intsV m)) (bm:m.length≤4611686018427387904) :
  Con Tryd.prog 72 #[.agg (gcells q g).toArray,mv] h fun v h'=>Fr 0 0 h h'∧Holder 1 h' v g.n (boolsV (withB g m)) h.size:=by
 refine con_graph_With ?_
 have p0:Fr 0 0 h h:=.refl _ _ _
 have be:=t.fits.e
 have hen:g.evs.length=g.n:=rfl
 obtain ⟨ma,mc,rfl⟩:=hm.is
 unfold gcells
 simp -dsimp only [go_sem]
 intro b1 h1 n1
 have n1_a:=n1.at_
 have n1_z:=n1.size
 replace p0:=p0.F n1.f0
 have r1:=n1.row
 simp -dsimp only [go_sem,evs_len,r1.cell]
 refine Chk_intro (by omega) ?_
 intro b5 h2 n2
 have n2_a:=n2.at_
 have n2_z:=n2.size
 replace p0:=p0.F n2.f0
 replace r1:=r1.F n2.f0
 have r2:=n2.row
 rw [zeros_one,Int.toNat_natCast,brow_false] at r2
 simp -dsimp only [go_sem,evs_len,r1.cell,r2.cell]
 refine loop_intro (fun i:Nat=>[(1,.slice ma m.length mc),(5,.slice (some ⟨b5,0,none⟩) g.n g.n),(13,.slice q.e g.evs.length q.ec),(14,.int .i64 g.n),(15,.int .i64 i)])
  (fun i h'=>i≤g.n∧Fr 0 0 h h'∧Rw h' b5 (brow g.n fun j=>decide (j<i)&&m.contains (g.ev j).mode)∧h2.size≤h'.size) (fun i=>g.n - i) 0 ?_ ?_ ?_
 ·simp [Le,find,hen]
 ·exact ⟨by omega,p0,by rw [brow_congr (g:=fun _=>false) (fun j _=>by simp)];exact r2,by omega⟩
 clear r2 p0
 rintro i h3 ⟨hi,p0,r2,y3⟩
 have p0_z:=p0.size
 have r2_l:=r2.lt
 have b5l:h.size≤b5:=by omega
 by_cases hlt:i<g.n
 ·have e1:((i:Int)<(g.n:Int)):=by omega
  obtain ⟨eb,eo,he,hev⟩:=t.evs (by omega)
  obtain ⟨c0,c1,c2,c3,c4⟩:=hev h3 p0 i hlt
  simp -dsimp only [go_sem,e1,he,evs_len,c0,c1,c2,c3,c4,r2.cell]
  intro b7 h4 n4
  have n4_a:=n4.at_
  have n4_z:=n4.size
  replace p0:=p0.F n4.f0
  replace r2:=r2.F n4.f0
  have r4:=n4.row
  simp -dsimp only [go_sem,r2.cell,r4.cell]
  refine Chk_intro (r4.wr (by first | (simp;done) | (simp;omega))) fun h5 s5=>?_
  have s5_z:=s5.size
  replace p0:=p0.F s5.fr
  replace r2:=r2.F s5.fr
  replace r4:=s5.row r4
  try simp only [cl_int,cl_bool,cl_slice,cl_ptr,putAt_one,List.set_cons_zero,List.set_cons_succ,ivec_set,brow_upd] at r4
  simp -dsimp only [go_sem] at r4
  simp -dsimp only [go_sem,r2.cell,r4.cell]
  refine call_of (slices_Contains (hm.fr p0) (by omega)) ?_
  rintro v6 h6 ⟨rfl,rfl⟩
  simp -dsimp only [go_sem,r2.cell,r4.cell]
  refine Chk_intro (by omega) ?_
  simp -dsimp only [go_sem,r2.cell,r4.cell]
  refine Chk_intro (r2.wr (by first | (simp;done) | (simp;omega))) fun h7 s7=>?_
  have s7_z:=s7.size
  replace p0:=p0.F s7.fr
  replace r4:=r4.F s7.fr
  replace r2:=s7.row r2
  try simp only [cl_int,cl_bool,cl_slice,cl_ptr,putAt_one,List.set_cons_zero,List.set_cons_succ,ivec_set,brow_upd] at r2
  simp -dsimp only [go_sem,r2.cell,r4.cell]
  simp -dsimp (disch:=omega) only [wrap64]
  refine ⟨i+1,by omega,by simp [Le,find,he,evs_len],by omega,p0,?_,by omega⟩
  rw [brow_congr (g:=_) (fun j hj=>?_)]
  ·exact r2
  ·unfold upd
   by_cases hji:j=i
   ·subst hji;simp
   ·simp [hji,show j<i+1↔j<i by omega]
 ·obtain rfl:i=g.n:=by omega
  simp -dsimp only [go_sem,Int.lt_irrefl,r2.cell]
  refine ⟨p0,?_⟩
  have:boolsV (withB g m)=brow g.n fun j=>decide (j<g.n)&&m.contains (g.ev j).mode:=by
   apply List.ext_getElem?
   intro j
   by_cases hj:j<g.n
   ·rw [boolsV_get (b:=m.contains (g.ev j).mode) (by unfold withB;rw [List.getElem?_map,Gr.ev_get hj];rfl)]
    rw [brow_get hj];simp [hj]
   ·rw [List.getElem?_eq_none (by simp [withB];unfold Gr.n at hj;omega),List.getElem?_eq_none (by simp;omega)]
  rw [this]
  exact holder_row r2 (by simp) b5l
end Go.Proofs.Tst
/-
  Final; the document's With, Thread, Final and Kinds.
-/
namespace Go.Proofs.Tst
open Go Go.Vc
def urow (n:Nat) (f:Nat→Int):List Value:=(List.range n).map fun i=>.int .u64 (f i)
@[simp] theorem length_urow (n:Nat) (f:Nat→Int):(urow n f).length=n:=by simp [urow]
end Go.Proofs.Tst
/-
  lives: the document's example, its verdicts, its relations.
-/
namespace Go.Proofs.Tst
open Go Go.Vc
end Go.Proofs.Tst
/-
  GraphChecks, GraphSees.
-/
namespace Go.Proofs.Tst
open Go Go.Vc
end Go.Proofs.Tst
/-
  GraphSees.
-/
namespace Go.Proofs.Tst
open Go Go.Vc
theorem dec_self {α:Type} [DecidableEq α] (x:α):decide (x=x)=true:=by simp
end Go.Proofs.Tst
/-
  Plain laws of good graphs.
-/
namespace Go.Proofs.Tst
open Go Go.Vc
end Go.Proofs.Tst
/-
  The words' memory model: its relations, its check (plain).
-/
namespace Go.Proofs.Tst
open Go Go.Vc
def exB (n:Nat) (f:Nat→Bool):Bool:=(List.range n).any f
theorem exB_true {n:Nat} {f:Nat→Bool}:exB n f=true↔∃ k,k<n∧f k=true:=by
 unfold exB;simp [List.any_eq_true]
def isK (g:Gr) (k:Int) (i:Nat):Bool:=(g.ev i).kind==k
def isM (g:Gr) (m:Int) (i:Nat):Bool:=(g.ev i).mode==m
def rfeM (g:Gr) (i j:Nat):Bool:=relM g 1 i j&&relM g 5 i j
def rfiM (g:Gr) (i j:Nat):Bool:=relM g 1 i j&&!relM g 5 i j
def coeM (g:Gr) (i j:Nat):Bool:=relM g 2 i j&&relM g 5 i j
def coiM (g:Gr) (i j:Nat):Bool:=relM g 2 i j&&!relM g 5 i j
def freM (g:Gr) (i j:Nat):Bool:=relM g 9 i j&&relM g 5 i j
def acqB (g:Gr) (i:Nat):Bool:=isM g 12 i||isM g 16 i
end Go.Proofs.Tst
/-
  What ARMv8's relations keep of any graph (plain).
-/
namespace Go.Proofs.Tst
open Go Go.Vc
end Go.Proofs.Tst
/-
  The source's memory model: its relations, its check (plain).
-/
namespace Go.Proofs.Tst
open Go Go.Vc
def relB (g:Gr) (i:Nat):Bool:=(isK g 2 i||isK g 3 i)&&(isM g 3 i||isM g 4 i||isM g 5 i)
def acrB (g:Gr) (i:Nat):Bool:=(isK g 1 i||isK g 3 i)&&(isM g 2 i||isM g 4 i||isM g 5 i)
def escB (g:Gr) (i:Nat):Bool:=isM g 5 i&&(isK g 1 i||isK g 2 i)
def fscB (g:Gr) (i:Nat):Bool:=isM g 5 i&&isK g 3 i
def plocM (g:Gr) (i j:Nat):Bool:=relM g 0 i j&&relM g 4 i j
def rrM (g:Gr) (i j:Nat):Bool:=exB g.n fun k=>relM g 1 i k&&relM g 3 k j
def rsM (g:Gr) (i j:Nat):Bool:=isK g 2 i&&exB g.n fun m=>(plocM g i m||i==m)&&isK g 2 m&&(plusM g.n (rrM g) m j||m==j)
def swM (g:Gr) (i j:Nat):Bool:=relB g i&&(exB g.n fun a=>((isK g 3 i&&relM g 0 i a)||i==a)&&exB g.n fun b=>rsM g a b&&exB g.n fun c=>relM g 1 b c&&isK g 1 c&&((relM g 0 c j&&isK g 3 j)||c==j))&&acrB g j
def poswM (g:Gr) (i j:Nat):Bool:=relM g 0 i j||swM g i j
def hbM (g:Gr):Nat→Nat→Bool:=plusM g.n (poswM g)
def comM (g:Gr) (i j:Nat):Bool:=relM g 1 i j||relM g 2 i j||relM g 9 i j
def ecoM (g:Gr):Nat→Nat→Bool:=plusM g.n (comM g)
def otherM (g:Gr) (i j:Nat):Bool:=relM g 0 i j&&!relM g 4 i j
def scbM (g:Gr) (i j:Nat):Bool:=relM g 0 i j||(exB g.n fun a=>otherM g i a&&exB g.n fun b=>hbM g a b&&otherM g b j)||(hbM g i j&&relM g 4 i j)||relM g 2 i j||relM g 9 i j
def beginM (g:Gr) (i a:Nat):Bool:=(i==a&&escB g i)||(fscB g i&&(hbM g i a||i==a))
def endM (g:Gr) (b j:Nat):Bool:=(b==j&&escB g b)||((hbM g b j||b==j)&&fscB g j)
def baseM (g:Gr) (i j:Nat):Bool:=exB g.n fun a=>beginM g i a&&exB g.n fun b=>scbM g a b&&endM g b j
def hehM (g:Gr) (i j:Nat):Bool:=exB g.n fun a=>hbM g i a&&exB g.n fun b=>ecoM g a b&&hbM g b j
def pscfM (g:Gr) (i j:Nat):Bool:=fscB g i&&(hbM g i j||hehM g i j)&&fscB g j
def pscM (g:Gr) (i j:Nat):Bool:=baseM g i j||pscfM g i j
def thinM (g:Gr) (i j:Nat):Bool:=relM g 0 i j||relM g 1 i j
def cohGo (g:Gr) (a:Nat):Nat→Nat→List Int
 | 0,_=>[]
 | d+1,b=>if (hbM g a b&&ecoM g b a)=true then [(a:Int),(b:Int)] else cohGo g a d (b+1)
def cohAt (g:Gr) (a:Nat):List Int:=if hbM g a a=true then [(a:Int)] else cohGo g a g.n 0
def cohFrom (g:Gr):Nat→Nat→List Int
 | 0,_=>[]
 | d+1,a=>if cohAt g a≠[] then cohAt g a else cohFrom g d (a+1)
def coh (g:Gr):List Int:=cohFrom g g.n 0
def tornS (g:Gr) (p:Int×Int):Bool:=inR g.n p.1&&inR g.n p.2&&exB g.n fun k=>relM g 9 p.1.toNat k&&relM g 2 k p.2.toNat
def atomS (g:Gr):List Int:=match g.rmw.find? (tornS g) with | some p=>[p.1,p.2] | none=>[]
def natsI (l:List Nat):List Int:=l.map fun (x:Nat)=>(x:Int)
def rcAx (g:Gr):Int×List Int:=
 if coh g≠[] then (1,coh g)
 else if atomS g≠[] then (2,atomS g)
 else if cycS g.n (pscM g)≠[] then (3,natsI (cycS g.n (pscM g)))
 else if cycS g.n (thinM g)≠[] then (4,natsI (cycS g.n (thinM g)))
 else (0,[])
end Go.Proofs.Tst
/-
  What RC11's relations keep of any graph (plain).
-/
namespace Go.Proofs.Tst
open Go Go.Vc
theorem sw_spec {g:Gr} {i j:Nat}:swM g i j=true↔relB g i=true∧acrB g j=true∧∃ a,a<g.n∧((isK g 3 i=true∧relM g 0 i a=true)∨i=a)∧∃ b,b<g.n∧rsM g a b=true∧∃ c,c<g.n∧relM g 1 b c=true∧isK g 1 c=true∧((relM g 0 c j=true∧isK g 3 j=true)∨c=j):=by
 unfold swM
 simp only [Bool.and_eq_true,Bool.or_eq_true,exB_true,beq_iff_eq]
 constructor
 ·rintro ⟨⟨h1,a,ha,h2,b,hb,h3,c,hc,⟨h4,h5⟩,h6⟩,h7⟩
  exact ⟨h1,h7,a,ha,h2,b,hb,h3,c,hc,h4,h5,h6⟩
 ·rintro ⟨h1,h7,a,ha,h2,b,hb,h3,c,hc,h4,h5,h6⟩
  exact ⟨⟨h1,a,ha,h2,b,hb,h3,c,hc,⟨h4,h5⟩,h6⟩,h7⟩
theorem rs_spec {g:Gr} {i j:Nat}:rsM g i j=true↔isK g 2 i=true∧∃ m,m<g.n∧(plocM g i m=true∨i=m)∧isK g 2 m=true∧(plusM g.n (rrM g) m j=true∨m=j):=by
 unfold rsM
 simp only [Bool.and_eq_true,Bool.or_eq_true,exB_true,beq_iff_eq]
 constructor
 ·rintro ⟨h1,m,hm,⟨h2,h3⟩,h4⟩;exact ⟨h1,m,hm,h2,h3,h4⟩
 ·rintro ⟨h1,m,hm,h2,h3,h4⟩;exact ⟨h1,m,hm,⟨h2,h3⟩,h4⟩
end Go.Proofs.Tst
/-
  Is a relation of the program's the document's?
-/
namespace Go.Proofs.Tst
open Go Go.Vc
end Go.Proofs.Tst
/-
  Changed graphs in memory.
-/
namespace Go.Proofs.Tst
open Go Go.Vc
theorem rlc_rl {h:Heap} {v:Value} {L:List (List Value)} (t:RLc h v L):RL h v L:=by
 obtain ⟨us,h1,h2⟩:=t
 exact ⟨us,h1,fun i l hl=>by obtain ⟨a,c,h3,-,h5⟩:=h2 i l hl;exact ⟨_,h3,h5⟩⟩
theorem GrAt.setR {h:Heap} {q:GV} {g:Gr} (t:GrAt h q g) {l:List (Int×Int)} {a:Option Addr} {c:Nat} (w:Rd 2 h (.slice a l.length c) l.length (pairsV l)) (b:l.length≤8796093022208):GrAt h { q with r:=a,rc:=c } { g with rmw:=l }:=
 ⟨t.e,t.f,t.o,w,t.a,t.d,t.c,⟨t.fits.e,t.fits.f,t.fits.o,b,t.fits.a,t.fits.d,t.fits.c,t.fits.l⟩,t.cap,t.l⟩
end Go.Proofs.Tst
/-
  The document's relations of a graph.
-/
namespace Go.Proofs.Tst
open Go Go.Vc
end Go.Proofs.Tst
/-
  GraphLaws.
-/
namespace Go.Proofs.Tst
open Go Go.Vc
theorem bools_at {h:Heap} {a:Option Addr} {n c:Nat} {l:List Bool} (w:Rd 1 h (.slice a n c) n (boolsV l)) (hn:0<n):∃ b o,a=some ⟨b,o,none⟩∧∀ h',Fr 0 0 h h'→∀ i x,l[i]?=some x→hcell h' b (o+i)=some (.bool x):=by
 obtain ⟨hl,a',c',k1,k2⟩:=w
 cases k1
 rcases k2 with k2 | ⟨b,o,k3,k4⟩
 ·omega
 ·exact ⟨b,o,k3,fun h' f i x hx=>f.keep (k4 i _ (boolsV_get hx)) (by omega)⟩
theorem kindsV_get {g:Gr} {k:Int} {i:Nat} (hi:i<g.n):(kindsV g k g.n)[i]?=some ((g.ev i).kind==k):=by
 unfold kindsV
 rw [List.getElem?_map,List.getElem?_take_of_lt hi,Gr.ev_get hi];rfl
end Go.Proofs.Tst
/-
  whole: are facts the document's?
-/
namespace Go.Proofs.Tst
open Go Go.Vc
def tV (v:Value):Tell:=tell1 fun u _ _ _=>u=v
theorem stV (v:Value):Stab (tV v):=Stab.one fun _ _ _ _ _ _ t=>t
end Go.Proofs.Tst
/-
  GraphDerives.
-/
namespace Go.Proofs.Tst
open Go Go.Vc
theorem FactsAt.fr {h h':Heap} {lo l r:Nat} {p:Nat→Value} {rd wr fe:Value} {g:Gr} (F:FactsAt h lo p rd wr fe g) (f:Fr l r h h') (hd:r≤lo):FactsAt h' lo p rd wr fe g:=by
 obtain ⟨A,B,D,dlo,dap⟩:=F.rel
 have a1:=F.hrd.at_
 have a2:=F.hwr.at_
 have a3:=F.hfe.at_
 have fz:=f.size
 exact ⟨F.n,⟨A,B,D.fr f (fun k hk=>by have:=dlo k hk;omega),fun k hk=>by have:=dlo k hk;omega,dap⟩,F.hrd.fr f (by omega),F.hwr.fr f (by omega),F.hfe.fr f (by omega),F.off⟩
end Go.Proofs.Tst
/-
  Events changed in place.
-/
namespace Go.Proofs.Tst
open Go Go.Vc
def setMode (E:List Ev) (i:Nat) (m:Int):List Ev:=E.set i { E.getD i default with mode:=m }
@[simp] theorem length_setMode {E:List Ev} {i:Nat} {m:Int}:(setMode E i m).length=E.length:=by simp [setMode]
theorem evsV_setMode:∀ {E:List Ev} {i:Nat} {m:Int},i<E.length→(evsV E).set (i * 5+4) (.int .i64 m)=evsV (setMode E i m)
 | [],i,_,h=>by simp at h
 | e :: E,0,m,_=>rfl
 | e :: E,i+1,m,h=>by
  have ih:=evsV_setMode (E:=E) (i:=i) (m:=m) (by simpa using h)
  have h1:setMode (e :: E) (i+1) m=e :: setMode E i m:=by simp [setMode]
  have h2:e.cells.length=5:=rfl
  rw [h1,evsV_cons,evsV_cons,← ih,List.set_append_right _ _ (by omega),h2]
  congr 2;omega
theorem putAt_right {a:List Value}:∀ (ws r:List Value) (o:Nat),putAt (a++r) (a.length+o) ws=a++putAt r o ws
 | [],_,_=>rfl
 | v :: ws,r,o=>by
  show putAt ((a++r).set (a.length+o) v) (a.length+o+1) ws=a++putAt (r.set o v) (o+1) ws
  rw [List.set_append_right _ _ (by omega),Nat.add_sub_cancel_left,Nat.add_assoc]
  exact putAt_right ws _ _
theorem putAt_left {r:List Value}:∀ (ws a:List Value) (o:Nat),o+ws.length≤a.length→putAt (a++r) o ws=putAt a o ws++r
 | [],_,_,_=>rfl
 | v :: ws,a,o,h=>by
  show putAt ((a++r).set o v) (o+1) ws=putAt (a.set o v) (o+1) ws++r
  simp at h
  rw [List.set_append_left _ _ (by omega)]
  exact putAt_left ws _ _ (by simp;omega)
theorem evsV_put:∀ {E:List Ev} {i:Nat} {e:Ev},i<E.length→putAt (evsV E) (i * 5) e.cells=evsV (E.set i e)
 | [],i,_,h=>by simp at h
 | x :: E,0,e,_=>rfl
 | x :: E,i+1,e,h=>by
  have ih:=evsV_put (E:=E) (i:=i) (e:=e) (by simpa using h)
  have h2:(i+1) * 5=x.cells.length+i * 5:=by show _=5 + _;omega
  rw [List.set_cons_succ,evsV_cons,evsV_cons,← ih,h2]
  exact putAt_right _ _ _
theorem holder_ev {h:Heap} {b n c lo:Nat} {E:List Ev} (w:Holder 5 h (.slice (some ⟨b,0,none⟩) n c) n (evsV E) lo) {i:Nat} (hi:i<n) :
  Wr h b (i * 5+4) 1∧Wr h b (i * 5) 5∧(∀ h' m,Sto h h' b (i * 5+4) [.int .i64 m]→Holder 5 h' (.slice (some ⟨b,0,none⟩) n c) n (evsV (setMode E i m)) lo)∧∀ h' e,Sto h h' b (i * 5) e.cells→Holder 5 h' (.slice (some ⟨b,0,none⟩) n c) n (evsV (E.set i e)) lo:=by
 have hl:=w.1
 rw [length_evsV] at hl
 have hE:i<E.length:=by omega
 obtain ⟨b',c',rest,h1,h2,h3,h4⟩:=w.blk (by omega)
 cases h1
 refine ⟨h2.wr (by simp;omega),h2.wr (by simp;omega),fun h' m s=>⟨by simp;omega,.inr ⟨b,c,rest,rfl,?_,h3,h4⟩⟩,fun h' e s=>⟨by simp;omega,.inr ⟨b,c,rest,rfl,?_,h3,h4⟩⟩⟩
 ·have:=s.row h2
  rw [putAt_one,List.set_append_left _ _ (by simp;omega),evsV_setMode hE] at this
  exact this
 ·have:=s.row h2
  rw [putAt_left _ _ _ (by simp [Ev.cells];omega),evsV_put hE] at this
  exact this
section
variable {h h' : Heap} {q : GV} {g : Gr} {lo : Nat}
theorem GrOwn.evs' {E':List Ev} {b:Nat} (w:GrOwn h q g lo) (f:Fr b (b+1) h h') (hb:q.e=some ⟨b,0,none⟩) (hl:E'.length=g.evs.length) (he:Holder 5 h' (.slice (some ⟨b,0,none⟩) g.evs.length q.ec) g.evs.length (evsV E') lo) :
  GrOwn h' q { g with evs:=E' } lo:=by
 obtain ⟨us,o1,o2,o3⟩:=w.o
 have lb:bl (.slice q.e g.evs.length q.ec)=b∧bh (.slice q.e g.evs.length q.ec)=b+1:=by rw [hb];exact ⟨rfl,rfl⟩
 have key:∀ x,Off (.slice q.e g.evs.length q.ec) x→bh x≤b∨b+1≤bl x∨b+1≤b:=fun x hx=>by
  unfold Off at hx
  have:=bh_bl x
  omega
 have ha:Away b (b+1) (.slice q.o g.co.length q.oc) us:=fun x hx=>key x (o3 x hx _ (by simp)).symm
 have hw:=w.off
 refine ⟨?_,w.f.fr f (key _ (hw _ (by simp))),⟨us,o1.fr f ha,o2,?_⟩,w.r.fr f (key _ (hw _ (by simp))),w.a.fr f (key _ (hw _ (by simp))),w.d.fr f (key _ (hw _ (by simp))),w.c.fr f (key _ (hw _ (by simp))),?_,⟨?_,w.fits.f,w.fits.o,w.fits.r,w.fits.a,w.fits.d,w.fits.c,w.fits.l⟩⟩
 ·dsimp only;rw [hl,hb];exact he
 ·dsimp only;rw [hl];exact o3
 ·dsimp only;rw [hl];exact hw
 ·dsimp only;rw [hl];exact w.fits.e
theorem GrOwn.fr {l r:Nat} (w:GrOwn h q g lo) (f:Fr l r h h') (hd:r≤lo∨h.size≤l∨r≤l):GrOwn h' q g lo:=by
 obtain ⟨us,o1,o2,o3⟩:=w.o
 have k:∀ {s n:Nat} {v:Value} {xs:List Value},Holder s h v n xs lo→Holder s h' v n xs lo:=fun o=>o.fr f (by have:=o.at_;have:=o.top;omega)
 refine ⟨k w.e,k w.f,⟨us,o1.fr f ?_,o2,o3⟩,k w.r,k w.a,k w.d,k w.c,w.off,w.fits⟩
 rcases hd with hd | hd | hd
 ·exact o1.below hd
 ·exact o1.above hd
 ·exact Away.none hd
theorem GrOwn.lower {lo':Nat} (w:GrOwn h q g lo) (hl:lo'≤lo):GrOwn h q g lo':=by
 obtain ⟨us,o1,o2⟩:=w.o
 exact ⟨w.e.lower hl,w.f.lower hl,⟨us,o1.lower hl,o2⟩,w.r.lower hl,w.a.lower hl,w.d.lower hl,w.c.lower hl,w.off,w.fits⟩
theorem GrOwn.ev (w:GrOwn h q g lo) (hn:0<g.n):∃ b,q.e=some ⟨b,0,none⟩∧lo≤b∧b<h.size∧(∀ i,i<g.n→Wr h b (i * 5+4) 1∧Wr h b (i * 5) 5) ∧
  (∀ h' i m,i<g.n→Sto h h' b (i * 5+4) [.int .i64 m]→GrOwn h' q { g with evs:=setMode g.evs i m } lo)∧∀ h' i e,i<g.n→Sto h h' b (i * 5) e.cells→GrOwn h' q { g with evs:=g.evs.set i e } lo:=by
 have we:=w.e
 obtain ⟨b,c,rest,h1,h2,h3,h4⟩:=we.blk hn
 have hq:q.e=some ⟨b,0,none⟩:=by injection h1
 rw [hq] at we
 exact ⟨b,hq,h4,h2.lt,fun i hi=>⟨(holder_ev we hi).1,(holder_ev we hi).2.1⟩,fun h' i m hi s=>w.evs' s.fr hq (by simp) ((holder_ev we hi).2.2.1 _ _ s),fun h' i e hi s=>w.evs' s.fr hq (by simp) ((holder_ev we hi).2.2.2 _ _ s)⟩
end
end Go.Proofs.Tst
/-
  Relations in memory, some at once; chains of steps.
-/
namespace Go.Proofs.Tst
open Go Go.Vc
abbrev Mx:=Nat→Nat→Bool
def PA (h:Heap) (v:Value) (n:Nat) (M:Mx):Prop:=∃ lo hi,ProgAt h lo hi v n M
def PN (h:Heap) (lo:Nat) (v:Value) (n:Nat) (M:Mx):Prop:=∃ a b,ProgAt h a b v n M∧lo≤a∧a≤b∧b≤h.size
section
variable {h h' : Heap} {v : Value} {n lo : Nat} {M N : Mx}
theorem PA.fr (t:PA h v n M) (f:Fr 0 0 h h'):PA h' v n M:=by obtain ⟨a,b,t⟩:=t;exact ⟨a,b,t.fr f (by omega)⟩
theorem PA.ptr (t:PA h v n M):∃ b,v=.pointer (some ⟨b,0,none⟩):=by obtain ⟨a,b,t⟩:=t;exact progPtr t
theorem PA.oc (t:PA h v n M):v.oneCell'=true:=by obtain ⟨b,rfl⟩:=t.ptr;rfl
theorem PA.cl (t:PA h v n M):Vc.cl v=[v]:=by obtain ⟨b,rfl⟩:=t.ptr;rfl
theorem PA.congr (t:PA h v n M) (e:∀ i j,i<n→j<n→M i j=N i j):PA h v n N:=by obtain ⟨a,b,t⟩:=t;exact ⟨a,b,t.congr e⟩
theorem PN.pa (t:PN h lo v n M):PA h v n M:=by obtain ⟨a,b,t,-⟩:=t;exact ⟨a,b,t⟩
theorem PN.of (t:ProgAt h lo h.size v n M):PN h lo v n M:=⟨_,_,t,Nat.le_refl _,by obtain ⟨_,_,_,_,_,_,w⟩:=t;have:=w.at_;omega,Nat.le_refl _⟩
theorem PN.congr (t:PN h lo v n M) (e:∀ i j,i<n→j<n→M i j=N i j):PN h lo v n N:=by obtain ⟨a,b,t,k⟩:=t;exact ⟨a,b,t.congr e,k⟩
theorem PN.lower {lo':Nat} (t:PN h lo v n M) (hl:lo'≤lo):PN h lo' v n M:=by obtain ⟨a,b,t,k⟩:=t;exact ⟨a,b,t,by omega,k.2⟩
theorem PN.fr {l r:Nat} (t:PN h lo v n M) (f:Fr l r h h') (hd:r≤lo∨h.size≤l∨r≤l):PN h' lo v n M:=by
 obtain ⟨a,b,t,k⟩:=t
 have:=f.size
 exact ⟨a,b,t.fr f (by omega),by omega⟩
end
def UA (h:Heap) (lv:Value) (n:Nat) (M:Mx):Prop:=∃ L:List (Value×Nat×Mx),Rd 1 h lv L.length (L.map (·.1))∧RelsAt h L∧L.length≤65536∧maxN L=n∧∀ i j,i<n→j<n→anyM L i j=M i j
theorem UA.fr {h h':Heap} {v:Value} {n:Nat} {M:Mx} (t:UA h v n M) (f:Fr 0 0 h h'):UA h' v n M:=by
 obtain ⟨L,h1,h2,h3⟩:=t;exact ⟨L,h1.fr f,h2.fr f,h3⟩
theorem maxN_same {n:Nat}:∀ {l:List (Value×Mx)},l≠[]→maxN (l.map fun x=>(x.1,n,x.2))=n:=by
 have key:∀ (l:List (Value×Mx)) (m:Nat),m≤n→(l.map fun x=>(x.1,n,x.2)).foldl (fun m (x:Value×Nat×Mx)=>max m x.2.1) m=if l=[] then m else n:=by
  intro l
  induction l with
  | nil=>intro m _;rfl
  | cons x l ih =>
   intro m hm
   simp only [List.map_cons,List.foldl_cons]
   rw [ih _ (by omega),if_neg (by simp:¬ x :: l=[])]
   split
   ·omega
   ·rfl
 intro l hl
 unfold maxN
 rw [key l 0 (Nat.zero_le _),if_neg hl]
theorem UA.mk {h:Heap} {b n:Nat} {M:Mx} (l:List (Value×Mx)) (r:Rw h b (l.map (·.1))) (hp:∀ x∈l,PA h x.1 n x.2) (hne:l≠[]) (hl:l.length≤65536) (hM:∀ i j,i<n→j<n→(l.any fun x=>x.2 i j)=M i j) :
  UA h (.slice (some ⟨b,0,none⟩) l.length l.length) n M:=by
 refine ⟨l.map fun x=>(x.1,n,x.2),?_,fun x hx=>?_,by rw [List.length_map];exact hl,maxN_same hne,fun i j hi hj=>?_⟩
 ·rw [List.length_map,List.map_map]
  exact Rw.rd (s:=1) r (by simp)
 ·obtain ⟨y,hy,rfl⟩:=List.mem_map.1 hx
  exact hp y hy
 ·rw [← hM i j hi hj]
  unfold anyM
  rw [List.any_map]
  congr 1
  funext x
  exact inN_in hi hj
theorem rel_UnionU {lv:Value} {n:Nat} {M:Mx} {h:Heap} (u:UA h lv n M) :
  Con Tryd.prog 24 #[lv] h fun v h'=>Fr 0 0 h h'∧ProgAt h' h.size h'.size v n M:=by
 obtain ⟨L,h1,h2,h3,h4,h5⟩:=u
 exact (rel_Union h1 h2 h3).mono fun v h' ⟨f,t⟩=>⟨f,by rw [h4] at t;exact t.congr h5⟩
def chM (n:Nat) (A:Mx) (l:List Mx):Mx:=l.foldl (fun X Y=>compM n X n Y) A
def CA (h:Heap) (lv:Value) (n:Nat) (l:List Mx):Prop:=∃ ws:List Value,ws.length=l.length∧Rd 1 h lv ws.length ws∧ws.length≤65536∧∀ (i:Nat) (w:Value) (M:Mx),ws[i]?=some w→l[i]?=some M→PA h w n M
theorem CA.fr {h h':Heap} {v:Value} {n:Nat} {l:List Mx} (t:CA h v n l) (f:Fr 0 0 h h'):CA h' v n l:=by
 obtain ⟨L,h1,h2,h3,h4⟩:=t;exact ⟨L,h1,h2.fr f,h3,fun i w M a b=>(h4 i w M a b).fr f⟩
theorem CA.mk {h:Heap} {b n:Nat} (l:List (Value×Mx)) (r:Rw h b (l.map (·.1))) (hp:∀ x∈l,PA h x.1 n x.2) (hl:l.length≤65536):CA h (.slice (some ⟨b,0,none⟩) l.length l.length) n (l.map (·.2)):=by
 refine ⟨l.map (·.1),by simp,?_,by simpa using hl,fun i w M h1 h2=>?_⟩
 ·rw [List.length_map];exact Rw.rd (s:=1) r (by simp)
 ·rw [List.getElem?_map,Option.map_eq_some_iff] at h1 h2
  obtain ⟨x,hx,rfl⟩:=h1
  obtain ⟨y,hy,rfl⟩:=h2
  rw [hx] at hy;cases hy
  exact hp x (List.mem_of_getElem? hx)
def orM (l:List Mx):Mx:=fun i j=>l.any fun X=>X i j
theorem UA.mk' {h:Heap} {b n:Nat} (l:List (Value×Mx)) (r:Rw h b (l.map (·.1))) (hp:∀ x∈l,PA h x.1 n x.2) (hne:l≠[]) (hl:l.length≤65536):UA h (.slice (some ⟨b,0,none⟩) l.length l.length) n (orM (l.map (·.2))):=
 UA.mk l r hp hne hl fun i j _ _=>by unfold orM;rw [List.any_map];rfl
theorem pa_nil {h:Heap} {n:Nat}:∀ x∈([]:List (Value×Mx)),PA h x.1 n x.2:=fun x hx=>by cases hx
theorem pa_cons {h:Heap} {n:Nat} {v:Value} {M:Mx} {l:List (Value×Mx)} (a:PA h v n M) (t:∀ x∈l,PA h x.1 n x.2):∀ x∈(v,M) :: l,PA h x.1 n x.2:=fun x hx=>by
 rcases List.mem_cons.1 hx with rfl | hx
 ·exact a
 ·exact t x hx
def tC (n:Nat) (l:List Mx):Tell:=tell1 fun v _ _ h=>CA h v n l
def tU (n:Nat) (M:Mx):Tell:=tell1 fun v _ _ h=>UA h v n M
def tN (L n:Nat) (M:Mx):Tell:=tell1 fun v _ _ h=>PN h L v n M
theorem stC (n:Nat) (l:List Mx):Stab (tC n l):=Stab.one fun _ _ _ _ _ f t=>t.fr f
theorem stU (n:Nat) (M:Mx):Stab (tU n M):=Stab.one fun _ _ _ _ _ f t=>t.fr f
theorem stN (L n:Nat) (M:Mx):Stab (tN L n M):=Stab.one fun _ _ _ _ _ f t=>t.fr f (.inr (.inr (Nat.le_refl _)))
theorem tC_eq (n:Nat) (l:List Mx) (u:Out) (h:Heap):tC n l [u] h=CA h u.1 n l:=(rfl)
theorem tU_eq (n:Nat) (M:Mx) (u:Out) (h:Heap):tU n M [u] h=UA h u.1 n M:=(rfl)
theorem tN_eq (L n:Nat) (M:Mx) (u:Out) (h:Heap):tN L n M [u] h=PN h L u.1 n M:=(rfl)
def dM (f:Nat→Bool):Mx:=fun i j=>i==j&&f i
theorem exB_congr {n:Nat} {f g:Nat→Bool} (h:∀ k,k<n→f k=g k):exB n f=exB n g:=by
 unfold exB
 rw [Bool.eq_iff_iff,List.any_eq_true,List.any_eq_true]
 exact ⟨fun ⟨k,hk,e⟩=>⟨k,hk,by rw [← h k (List.mem_range.1 hk)];exact e⟩,fun ⟨k,hk,e⟩=>⟨k,hk,by rw [h k (List.mem_range.1 hk)];exact e⟩⟩
section
variable {n i j : Nat} {A B : Mx} {f : Nat → Bool}
theorem interM_in (hi:i<n) (hj:j<n):interM n A n B i j=(A i j&&B i j):=by unfold interM;rw [inN_in hi hj,inN_in hi hj]
theorem minusM_in (hi:i<n) (hj:j<n):minusM n A n B i j=(A i j&&!B i j):=by unfold minusM;rw [inN_in hi hj,inN_in hi hj]
theorem compM_in (hi:i<n) (hj:j<n):compM n A n B i j=exB n fun k=>A i k&&B k j:=by
 show exB n (fun k=>inN n A i k&&inN n B k j)=_
 exact exB_congr fun k hk=>by rw [inN_in hi hk,inN_in hk hj]
theorem exB_one (hi:i<n) {g:Nat→Bool}:(exB n fun k=>i==k&&g k)=g i:=by
 rw [Bool.eq_iff_iff,exB_true]
 constructor
 ·rintro ⟨k,hk,h⟩
  simp only [Bool.and_eq_true,beq_iff_eq] at h
  rw [h.1];exact h.2
 ·intro h;exact ⟨i,hi,by simp [h]⟩
theorem compM_dR (hi:i<n) (hj:j<n):compM n A n (dM f) i j=(A i j&&f j):=by
 rw [compM_in hi hj]
 have:(exB n fun k=>A i k&&dM f k j)=exB n fun k=>j==k&&(A i k&&f k):=exB_congr fun k _=>by
  unfold dM
  have:(k==j)=(j==k):=by rw [Bool.eq_iff_iff,beq_iff_eq,beq_iff_eq];exact eq_comm
  rw [this]
  cases A i k <;> cases (j==k) <;> cases f k <;> rfl
 rw [this,exB_one hj]
theorem compM_dL (hi:i<n) (hj:j<n):compM n (dM f) n A i j=(f i&&A i j):=by
 rw [compM_in hi hj]
 have:(exB n fun k=>dM f i k&&A k j)=exB n fun k=>i==k&&(f i&&A k j):=exB_congr fun k _=>by
  unfold dM
  cases A k j <;> cases (i==k) <;> cases f i <;> rfl
 rw [this,exB_one hi]
end
theorem rc11_chain {v0 lv:Value} {n:Nat} {A:Mx} {l:List Mx} {h:Heap} (h0:PA h v0 n A) (hl:CA h lv n l) (ht:TabAt h) :
  Con Tryd.prog 46 #[v0,lv] h fun v h'=>Fr 0 0 h h'∧PA h' v n (chM n A l)∧(l≠[]→PN h' h.size v n (chM n A l)):=by
 refine con_rc11_chain ?_
 obtain ⟨ws',hwl,hr,hlen,hp⟩:=hl
 obtain ⟨la,lc,rfl⟩:=hr.is
 have p0:Fr 0 0 h h:=.refl _ _ _
 simp -dsimp only [go_sem]
 refine loop_intro (fun s:Nat×Value=>[(0,s.2),(7,.slice la ws'.length lc),(8,.int .i64 ws'.length),(9,.int .i64 s.1)])
  (fun s h'=>s.1≤ws'.length∧Fr 0 0 h h'∧PA h' s.2 n (chM n A (l.take s.1))∧(0<s.1→PN h' h.size s.2 n (chM n A (l.take s.1)))) (fun s=>ws'.length - s.1) (0,v0) ?_ ?_ ?_
 ·simp [Le,find]
 ·exact ⟨by omega,p0,h0,by simp⟩
 clear p0
 rintro ⟨i,v⟩ h1 ⟨hi,p0,t,tn⟩
 dsimp only at hi t tn ⊢
 have p0_z:=p0.size
 by_cases hlt:i<ws'.length
 ·have e1:((i:Int)<(ws'.length:Int)):=by omega
  have hw:ws'[i]?=some ws'[i]:=List.getElem?_eq_getElem hlt
  have hM:l[i]?=some (l[i]'(by omega)):=List.getElem?_eq_getElem (by omega)
  have tw:=(hp i _ _ hw hM).fr p0
  generalize ws'[i]=w at hw tw
  have hs:l.take (i+1)=l.take i++[l[i]'(by omega)]:=by rw [List.take_add_one,hM];rfl
  generalize l[i]'(by omega)=B at hM tw hs
  obtain ⟨hl1,a',c',k1,k2⟩:=hr
  cases k1
  rcases k2 with k2 | ⟨b,o,rfl,hc⟩
  ·omega
  have hc:=p0.keep (hc i _ hw) (by omega)
  simp -dsimp only [go_sem,e1,hc]
  obtain ⟨_,_,t1⟩:=t
  obtain ⟨_,_,t2⟩:=tw
  refine call_of (rel_Comp t1 t2 (ht.fr p0 (.inr rfl))) ?_
  rintro v2 h2 ⟨f2,t3⟩
  rw [Nat.max_self] at t3
  have q2:=f2.size
  have p0_z:=p0.size
  have f2_z:=f2.size
  replace p0:=p0.F f2
  have hch:chM n A (l.take (i+1))=compM n (chM n A (l.take i)) n B:=by rw [hs];unfold chM;rw [List.foldl_append];rfl
  simp -dsimp only [go_sem]
  simp -dsimp (disch:=omega) only [wrap64]
  refine ⟨(i+1,v2),by dsimp only;omega,by simp [Le,find],by dsimp only;omega,p0,?_,fun _=>?_⟩
  ·dsimp only;rw [hch];exact ⟨_,_,t3⟩
  ·dsimp only;rw [hch];exact (PN.of t3).lower (by omega)
 ·obtain rfl:i=ws'.length:=by omega
  simp -dsimp only [go_sem,Int.lt_irrefl]
  rw [hwl,List.take_length] at t tn
  refine ⟨p0,t,fun hne=>tn ?_⟩
  exact List.length_pos_iff.2 hne
end Go.Proofs.Tst
/-
  The words' memory model in memory: its parts.
-/
namespace Go.Proofs.Tst
open Go Go.Vc
def mcells (q:GV) (g:Gr) (c:Nat→Nat) (rd wr fe:Value) (d:Nat→Nat):List Value:=[.int .i64 g.cells,.slice q.e g.evs.length q.ec,.slice q.f g.rf.length q.fc,.slice q.o g.co.length q.oc,.slice q.r g.rmw.length q.rc,.slice q.a g.addr.length q.ac,.slice q.d g.data.length q.dc,.slice q.c g.ctrl.length q.cc,
 .pointer (some ⟨c 0,0,none⟩),.pointer (some ⟨c 1,0,none⟩),.pointer (some ⟨c 2,0,none⟩),.pointer (some ⟨c 9,0,none⟩),.pointer (some ⟨c 3,0,none⟩),.pointer (some ⟨c 4,0,none⟩),.pointer (some ⟨c 5,0,none⟩),.pointer (some ⟨c 6,0,none⟩),.pointer (some ⟨c 7,0,none⟩),.pointer (some ⟨c 8,0,none⟩),rd,wr,fe,
 .pointer (some ⟨d 0,0,none⟩),.pointer (some ⟨d 1,0,none⟩),.pointer (some ⟨d 2,0,none⟩),.pointer (some ⟨d 3,0,none⟩),.pointer (some ⟨d 4,0,none⟩),.pointer (some ⟨d 5,0,none⟩)]
def armM (g:Gr):Nat→Mx
 | 0=>rfeM g
 | 1=>rfiM g
 | 2=>coeM g
 | 3=>coiM g
 | 4=>freM g
 | _=>dM (acqB g)
structure Md (h:Heap) (mb:Nat) (q:GV) (g:Gr) (c:Nat→Nat) (rd wr fe:Value) (d:Nat→Nat):Prop where
 row:Rw h mb (mcells q g c rd wr fe d)
 gr:GrAt h q g
 n:g.n≤256
 rel:∀ k,k<10→PA h (.pointer (some ⟨c k,0,none⟩)) g.n (relM g k)
 hm:∀ k,k<6→PA h (.pointer (some ⟨d k,0,none⟩)) g.n (armM g k)
 rd:Rd 1 h rd (kindsV g 1 g.n).length (boolsV (kindsV g 1 g.n))
 wr:Rd 1 h wr (kindsV g 2 g.n).length (boolsV (kindsV g 2 g.n))
 fe:Rd 1 h fe (kindsV g 3 g.n).length (boolsV (kindsV g 3 g.n))
theorem Md.fr {h h':Heap} {mb:Nat} {q:GV} {g:Gr} {c:Nat→Nat} {rd wr fe:Value} {d:Nat→Nat} (m:Md h mb q g c rd wr fe d) (f:Fr 0 0 h h'):Md h' mb q g c rd wr fe d:=
 ⟨m.row.fr f (by omega),m.gr.fr f,m.n,fun k hk=>(m.rel k hk).fr f,fun k hk=>(m.hm k hk).fr f,m.rd.fr f,m.wr.fr f,m.fe.fr f⟩
structure Mg (h:Heap) (mb:Nat) (q:GV) (g:Gr):Prop where
 row:∃ rest,Rw h mb (gcells q g++rest)
 gr:GrAt h q g
 n:g.n≤256
theorem Mg.fr {h h':Heap} {mb:Nat} {q:GV} {g:Gr} (m:Mg h mb q g) (f:Fr 0 0 h h'):Mg h' mb q g:=
 ⟨by obtain ⟨r,w⟩:=m.row;exact ⟨r,w.fr f (by omega)⟩,m.gr.fr f,m.n⟩
theorem kinds_len (g:Gr) (k:Int):(kindsV g k g.n).length=g.n:=by simp [kindsV];unfold Gr.n;omega
theorem atB_kinds {g:Gr} {k:Int} {i:Nat} (hi:i<g.n):atB (kindsV g k g.n) i=isK g k i:=atB_get (kindsV_get hi)
theorem atB_with {g:Gr} {x:Int} {i:Nat} (hi:i<g.n):atB (withB g [x]) i=isM g x i:=by
 refine atB_get ?_
 unfold withB isM
 rw [List.getElem?_map,Gr.ev_get hi]
 simp only [Option.map_some,Option.some.injEq]
 rw [Bool.eq_iff_iff];simp
section
variable {h : Heap} {mb : Nat} {q : GV} {g : Gr} {c : Nat → Nat} {rd wr fe : Value} {d : Nat → Nat}
end
end Go.Proofs.Tst
/-
  The words' memory model: aob, all relations, the model of a graph, Check.
-/
namespace Go.Proofs.Tst
open Go Go.Vc
section
variable {h : Heap} {mb : Nat} {q : GV} {g : Gr} {c : Nat → Nat} {rd wr fe : Value} {d : Nat → Nat}
end
end Go.Proofs.Tst
/-
  The words' memory model: all its relations.
-/
namespace Go.Proofs.Tst
open Go Go.Vc
section
variable {h : Heap} {mb : Nat} {q : GV} {g : Gr} {c : Nat → Nat} {rd wr fe : Value} {d : Nat → Nat}
end
end Go.Proofs.Tst
/-
  The words' memory model of a graph; Derive, Check.
-/
namespace Go.Proofs.Tst
open Go Go.Vc
theorem facts_ptr {p:Nat→Value} {h:Heap} {lo:Nat} {rd wr fe:Value} {g:Gr} (F:FactsAt h lo p rd wr fe g):∃ c:Nat→Nat,∀ k,k<10→p k=.pointer (some ⟨c k,0,none⟩):=by
 obtain ⟨A,B,D,-⟩:=F.rel
 exact ⟨fun k=>if hk:k<10 then (progPtr (D.at_ k hk)).choose else 0,fun k hk=>by dsimp only;rw [dif_pos hk];exact (progPtr (D.at_ k hk)).choose_spec⟩
theorem good_false {g:Gr} (h:(g.check false).1=0):g.good=true:=by unfold Gr.good;rw [h];simp
section
variable {h : Heap} {q : GV} {g : Gr}
end
end Go.Proofs.Tst
/-
  What the source model's chains make (plain).
-/
namespace Go.Proofs.Tst
open Go Go.Vc
def In (n:Nat) (M N:Mx):Prop:=∀ i j,i<n→j<n→M i j=N i j
theorem In.rfl' {n:Nat} {M:Mx}:In n M M:=fun _ _ _ _=>rfl
theorem plus_in {n:Nat} {M N:Mx} (e:In n M N):In n (plusM n M) (plusM n N):=fun i j hi hj=>by
 rw [Bool.eq_iff_iff]
 constructor
 ·exact fun h=>plus_least (N:=fun x y=>plusM n N x y=true) (fun i j hi hj hr=>plus_sub (by rw [← e i j hi hj];exact hr)) (fun _ _ _ _ hx _ h1 h2=>plus_trans hx h1 h2) hi hj h
 ·exact fun h=>plus_least (N:=fun x y=>plusM n M x y=true) (fun i j hi hj hr=>plus_sub (by rw [e i j hi hj];exact hr)) (fun _ _ _ _ hx _ h1 h2=>plus_trans hx h1 h2) hi hj h
theorem opt_in {n:Nat} {M N:Mx} (e:In n M N):In n (optM M) (optM N):=fun i j hi hj=>by unfold optM;rw [e i j hi hj]
theorem dM_in {n:Nat} {f g:Nat→Bool} (e:∀ i,i<n→f i=g i):In n (dM f) (dM g):=fun i j hi _=>by unfold dM;rw [e i hi]
theorem dM_true {f:Nat→Bool} {i j:Nat} (h:dM f i j=true):i=j∧f i=true:=by
 unfold dM at h;simpa using h
theorem chM_nil {n:Nat} {A:Mx}:chM n A []=A:=rfl
theorem chM_cons {n:Nat}:∀ (l:List Mx) (A B:Mx) {i j:Nat},i<n→j<n→chM n A (B :: l) i j=exB n fun a=>A i a&&chM n B l a j
 | [],A,B,i,j,hi,hj=>compM_in hi hj
 | C :: l,A,B,i,j,hi,hj=>by
  show chM n (compM n A n B) (C :: l) i j=_
  rw [chM_cons l _ C hi hj,Bool.eq_iff_iff,exB_true,exB_true]
  constructor
  ·rintro ⟨c,hc,h⟩
   rw [compM_in hi hc,Bool.and_eq_true,exB_true] at h
   obtain ⟨⟨a,ha,h1⟩,h2⟩:=h
   rw [Bool.and_eq_true] at h1
   refine ⟨a,ha,?_⟩
   rw [Bool.and_eq_true,chM_cons l B C ha hj,exB_true]
   exact ⟨h1.1,c,hc,by rw [h1.2,h2];rfl⟩
  ·rintro ⟨a,ha,h⟩
   rw [Bool.and_eq_true,chM_cons l B C ha hj,exB_true] at h
   obtain ⟨h1,c,hc,h2⟩:=h
   rw [Bool.and_eq_true] at h2
   refine ⟨c,hc,?_⟩
   rw [compM_in hi hc,Bool.and_eq_true,exB_true]
   exact ⟨⟨a,ha,by rw [h1,h2.1];rfl⟩,h2.2⟩
theorem chM_ex {n:Nat} {l:List Mx} {A B:Mx} {i j:Nat} (hi:i<n) (hj:j<n):chM n A (B :: l) i j=true↔∃ a,a<n∧A i a=true∧chM n B l a j=true:=by
 rw [chM_cons l A B hi hj,exB_true]
 exact ⟨fun ⟨a,ha,h⟩=>⟨a,ha,by rwa [Bool.and_eq_true] at h⟩,fun ⟨a,ha,h⟩=>⟨a,ha,by rwa [Bool.and_eq_true]⟩⟩
section
variable {g : Gr}
theorem rr_of:In g.n (compM g.n (relM g 1) g.n (relM g 3)) (rrM g):=fun i j hi hj=>compM_in hi hj
theorem ploc_of:In g.n (interM g.n (relM g 0) g.n (relM g 4)) (plocM g):=fun i j hi hj=>interM_in hi hj
theorem other_of:In g.n (minusM g.n (relM g 0) g.n (relM g 4)) (otherM g):=fun i j hi hj=>minusM_in hi hj
theorem rs_of {P R:Mx} (hP:In g.n P (plocM g)) (hR:In g.n R (rrM g)):In g.n (chM g.n (dM (isK g 2)) [optM P,dM (isK g 2),optM (plusM g.n R)]) (rsM g):=fun i j hi hj=>by
 rw [Bool.eq_iff_iff,rs_spec,chM_ex hi hj]
 constructor
 ·rintro ⟨a,ha,h1,h⟩
  obtain ⟨rfl,q1⟩:=dM_true h1
  rw [chM_ex ha hj] at h
  obtain ⟨b,hb,h2,h⟩:=h
  rw [chM_ex hb hj] at h
  obtain ⟨c,hc,h3,h⟩:=h
  obtain ⟨rfl,q3⟩:=dM_true h3
  rw [chM_nil,opt_in (plus_in hR) _ _ hb hj] at h
  rw [opt_in hP _ _ ha hb] at h2
  unfold optM at h h2
  simp only [Bool.or_eq_true,beq_iff_eq] at h h2
  exact ⟨q1,b,hb,h2,q3,h⟩
 ·rintro ⟨h1,b,hb,h2,h3,h⟩
  refine ⟨i,hi,by unfold dM;simp [h1],?_⟩
  rw [chM_ex hi hj]
  refine ⟨b,hb,?_,?_⟩
  ·rw [opt_in hP _ _ hi hb];unfold optM;simpa using h2
  ·rw [chM_ex hb hj]
   refine ⟨b,hb,by unfold dM;simp [h3],?_⟩
   rw [chM_nil,opt_in (plus_in hR) _ _ hb hj];unfold optM;simpa using h
theorem fpo_of:In g.n (compM g.n (dM (isK g 3)) g.n (relM g 0)) (fun i j=>isK g 3 i&&relM g 0 i j):=fun i j hi hj=>compM_dL hi hj
theorem pof_of:In g.n (compM g.n (relM g 0) g.n (dM (isK g 3))) (fun i j=>relM g 0 i j&&isK g 3 j):=fun i j hi hj=>compM_dR hi hj
theorem sw_of {A C F1 F2 S:Mx} (hA:In g.n A (dM (relB g))) (hC:In g.n C (dM (acrB g))) (h1:In g.n F1 fun i j=>isK g 3 i&&relM g 0 i j) (h2:In g.n F2 fun i j=>relM g 0 i j&&isK g 3 j) (hS:In g.n S (rsM g)) :
  In g.n (chM g.n A [optM F1,S,relM g 1,dM (isK g 1),optM F2,C]) (swM g):=fun i j hi hj=>by
 rw [Bool.eq_iff_iff,sw_spec,chM_ex hi hj]
 constructor
 ·rintro ⟨i',hi',k1,h⟩
  rw [hA _ _ hi hi'] at k1
  obtain ⟨rfl,q1⟩:=dM_true k1
  rw [chM_ex hi hj] at h
  obtain ⟨a,ha,k2,h⟩:=h
  rw [chM_ex ha hj] at h
  obtain ⟨b,hb,k3,h⟩:=h
  rw [chM_ex hb hj] at h
  obtain ⟨c,hc,k4,h⟩:=h
  rw [chM_ex hc hj] at h
  obtain ⟨d,hd,k5,h⟩:=h
  obtain ⟨rfl,q5⟩:=dM_true k5
  rw [chM_ex hc hj] at h
  obtain ⟨e,he,k6,h⟩:=h
  rw [chM_nil,hC _ _ he hj] at h
  obtain ⟨rfl,q7⟩:=dM_true h
  rw [opt_in h1 _ _ hi ha] at k2
  rw [hS _ _ ha hb] at k3
  rw [opt_in h2 _ _ hc he] at k6
  unfold optM at k2 k6
  simp only [Bool.or_eq_true,Bool.and_eq_true,beq_iff_eq] at k2 k6
  exact ⟨q1,q7,a,ha,k2,b,hb,k3,c,hc,k4,q5,k6⟩
 ·rintro ⟨k1,k7,a,ha,k2,b,hb,k3,c,hc,k4,k5,k6⟩
  refine ⟨i,hi,by rw [hA _ _ hi hi];unfold dM;simp [k1],?_⟩
  rw [chM_ex hi hj]
  refine ⟨a,ha,by rw [opt_in h1 _ _ hi ha];unfold optM;simpa using k2,?_⟩
  rw [chM_ex ha hj]
  refine ⟨b,hb,by rw [hS _ _ ha hb];exact k3,?_⟩
  rw [chM_ex hb hj]
  refine ⟨c,hc,k4,?_⟩
  rw [chM_ex hc hj]
  refine ⟨c,hc,by unfold dM;simp [k5],?_⟩
  rw [chM_ex hc hj]
  refine ⟨j,hj,by rw [opt_in h2 _ _ hc hj];unfold optM;simpa using k6,?_⟩
  rw [chM_nil,hC _ _ hj hj];unfold dM;simp [k7]
theorem chM3 {n:Nat} {A B C:Mx} {i j:Nat} (hi:i<n) (hj:j<n):chM n A [B,C] i j=exB n fun a=>A i a&&exB n fun b=>B a b&&C b j:=by
 rw [chM_cons _ _ _ hi hj]
 exact exB_congr fun a ha=>by rw [chM_cons _ _ _ ha hj];rfl
theorem chM3_in {n:Nat} {A B C A' B' C':Mx} (hA:In n A A') (hB:In n B B') (hC:In n C C'):In n (chM n A [B,C]) (fun i j=>exB n fun a=>A' i a&&exB n fun b=>B' a b&&C' b j):=fun i j hi hj=>by
 rw [chM3 hi hj]
 exact exB_congr fun a ha=>by rw [hA i a hi ha];congr 1;exact exB_congr fun b hb=>by rw [hB a b ha hb,hC b j hb hj]
theorem heh_of {H E:Mx} (hH:In g.n H (hbM g)) (hE:In g.n E (ecoM g)):In g.n (chM g.n H [E,H]) (hehM g):=chM3_in hH hE hH
theorem oho_of {O H:Mx} (hO:In g.n O (otherM g)) (hH:In g.n H (hbM g)):In g.n (chM g.n O [H,O]) (fun i j=>exB g.n fun a=>otherM g i a&&exB g.n fun b=>hbM g a b&&otherM g b j):=chM3_in hO hH hO
theorem base_of {B S E:Mx} (hB:In g.n B (beginM g)) (hS:In g.n S (scbM g)) (hE:In g.n E (endM g)):In g.n (chM g.n B [S,E]) (baseM g):=chM3_in hB hS hE
theorem fsc_of {X Y F:Mx} (hF:In g.n F (dM (fscB g))) (hX:In g.n X Y):In g.n (chM g.n F [X,F]) (fun i j=>fscB g i&&Y i j&&fscB g j):=fun i j hi hj=>by
 rw [chM3_in hF hX hF i j hi hj,Bool.eq_iff_iff,exB_true]
 simp only [Bool.and_eq_true,exB_true]
 constructor
 ·rintro ⟨a,ha,h1,b,hb,h2,h3⟩
  obtain ⟨rfl,q1⟩:=dM_true h1
  obtain ⟨rfl,q3⟩:=dM_true h3
  exact ⟨⟨q1,h2⟩,q3⟩
 ·rintro ⟨⟨h1,h2⟩,h3⟩
  exact ⟨i,hi,by unfold dM;simp [h1],j,hj,h2,by unfold dM;simp [h3]⟩
theorem fh_of {F H:Mx} (hF:In g.n F (dM (fscB g))) (hH:In g.n H (hbM g)):In g.n (compM g.n F g.n (optM H)) (fun i j=>fscB g i&&(hbM g i j||i==j)):=fun i j hi hj=>by
 rw [compM_in hi hj]
 have:(exB g.n fun k=>F i k&&optM H k j)=exB g.n fun k=>dM (fscB g) i k&&optM (hbM g) k j:=exB_congr fun k hk=>by rw [hF i k hi hk,opt_in hH k j hk hj]
 rw [this,← compM_in hi hj,compM_dL hi hj];rfl
theorem hf_of {F H:Mx} (hF:In g.n F (dM (fscB g))) (hH:In g.n H (hbM g)):In g.n (compM g.n (optM H) g.n F) (fun i j=>(hbM g i j||i==j)&&fscB g j):=fun i j hi hj=>by
 rw [compM_in hi hj]
 have:(exB g.n fun k=>optM H i k&&F k j)=exB g.n fun k=>optM (hbM g) i k&&dM (fscB g) k j:=exB_congr fun k hk=>by rw [hF k j hk hj,opt_in hH i k hi hk]
 rw [this,← compM_in hi hj,compM_dR hi hj];rfl
theorem dOr {f1 f2 f:Nat→Bool} {n:Nat} (e:∀ i,i<n→(f1 i||f2 i)=f i):In n (orM [dM f1,dM f2]) (dM f):=fun i j hi _=>by
 unfold orM dM;rw [← e i hi];cases h:(i==j) <;> simp [h]
theorem fsc_pts:In g.n (dM fun i=>isK g 3 i&&isM g 5 i) (dM (fscB g)):=dM_in fun i _=>by unfold fscB;rw [Bool.and_comm]
theorem begin_of:In g.n (orM [dM (escB g),compM g.n (dM (fscB g)) g.n (optM (hbM g))]) (beginM g):=fun i j hi hj=>by
 show (dM (escB g) i j||(compM g.n (dM (fscB g)) g.n (optM (hbM g)) i j||false))=_
 rw [fh_of In.rfl' In.rfl' i j hi hj,Bool.or_false];rfl
theorem end_of:In g.n (orM [dM (escB g),compM g.n (optM (hbM g)) g.n (dM (fscB g))]) (endM g):=fun i j hi hj=>by
 show (dM (escB g) i j||(compM g.n (optM (hbM g)) g.n (dM (fscB g)) i j||false))=_
 rw [hf_of In.rfl' In.rfl' i j hi hj,Bool.or_false];rfl
theorem hb_of:In g.n (plusM g.n (orM [relM g 0,swM g])) (hbM g):=plus_in fun i j _ _=>by simp [orM,poswM]
theorem eco_of:In g.n (plusM g.n (orM [relM g 1,relM g 2,relM g 9])) (ecoM g):=plus_in fun i j _ _=>by simp [orM,comM,Bool.or_assoc]
theorem scb_of:In g.n (orM [relM g 0,chM g.n (otherM g) [hbM g,otherM g],interM g.n (hbM g) g.n (relM g 4),relM g 2,relM g 9]) (scbM g):=fun i j hi hj=>by
 show (relM g 0 i j||(chM g.n (otherM g) [hbM g,otherM g] i j||(interM g.n (hbM g) g.n (relM g 4) i j||(relM g 2 i j||(relM g 9 i j||false)))))=_
 rw [oho_of In.rfl' In.rfl' i j hi hj,interM_in hi hj];unfold scbM;simp only [Bool.or_assoc,Bool.or_false]
theorem pscf_of:In g.n (chM g.n (dM (fscB g)) [orM [hbM g,chM g.n (hbM g) [ecoM g,hbM g]],dM (fscB g)]) (pscfM g):=
 fsc_of In.rfl' (Y:=fun i j=>hbM g i j||hehM g i j) fun i j hi hj=>by
  show (hbM g i j||(chM g.n (hbM g) [ecoM g,hbM g] i j||false))=_
  rw [heh_of In.rfl' In.rfl' i j hi hj,Bool.or_false]
theorem rs_of':In g.n (chM g.n (dM (isK g 2)) [optM (plocM g),dM (isK g 2),optM (plusM g.n (rrM g))]) (rsM g):=rs_of In.rfl' In.rfl'
theorem sw_of':In g.n (chM g.n (dM (relB g)) [optM (chM g.n (dM (isK g 3)) [relM g 0]),rsM g,relM g 1,dM (isK g 1),optM (chM g.n (relM g 0) [dM (isK g 3)]),dM (acrB g)]) (swM g):=sw_of In.rfl' In.rfl' fpo_of pof_of In.rfl'
theorem base_of':In g.n (chM g.n (beginM g) [scbM g,endM g]) (baseM g):=base_of In.rfl' In.rfl' In.rfl'
theorem rel_pts:In g.n (orM [dM fun i=>isK g 2 i&&(isM g 3 i||isM g 4 i||isM g 5 i),dM fun i=>isK g 3 i&&(isM g 3 i||isM g 4 i||isM g 5 i)]) (dM (relB g)):=dOr fun i _=>by
 unfold relB;cases isK g 2 i <;> cases isK g 3 i <;> simp
theorem acr_pts:In g.n (orM [dM fun i=>isK g 1 i&&(isM g 2 i||isM g 4 i||isM g 5 i),dM fun i=>isK g 3 i&&(isM g 2 i||isM g 4 i||isM g 5 i)]) (dM (acrB g)):=dOr fun i _=>by
 unfold acrB;cases isK g 1 i <;> cases isK g 3 i <;> simp
theorem esc_pts:In g.n (orM [dM fun i=>isK g 2 i&&isM g 5 i,dM fun i=>isK g 1 i&&isM g 5 i]) (dM (escB g)):=dOr fun i _=>by
 unfold escB;cases isK g 1 i <;> cases isK g 2 i <;> cases isM g 5 i <;> rfl
end
end Go.Proofs.Tst
/-
  The source's memory model in memory: its parts.
-/
namespace Go.Proofs.Tst
open Go Go.Vc
def tI (ms:List Int):Tell:=tell1 fun v _ _ h=>Rd 1 h v ms.length (intsV ms)
theorem stI (ms:List Int):Stab (tI ms):=Stab.one fun _ _ _ _ _ f t=>t.fr f
theorem tI_eq (ms:List Int) (u:Out) (h:Heap):tI ms [u] h=Rd 1 h u.1 ms.length (intsV ms):=(rfl)
theorem tV_eq (v:Value) (u:Out) (h:Heap):tV v [u] h=(u.1=v):=(rfl)
def rcM (g:Gr):Nat→Mx
 | 0=>rsM g
 | 1=>swM g
 | 2=>hbM g
 | 3=>ecoM g
 | 4=>scbM g
 | 5=>baseM g
 | _=>pscfM g
theorem atB_w3 {g:Gr} {a b c:Int} {i:Nat} (hi:i<g.n):atB (withB g [a,b,c]) i=(isM g a i||isM g b i||isM g c i):=by
 refine atB_get ?_
 unfold withB isM
 rw [List.getElem?_map,Gr.ev_get hi]
 simp only [Option.map_some,Option.some.injEq]
 rw [Bool.eq_iff_iff];simp [or_assoc]
theorem atB_list {l:List Bool} {i:Nat} (hi:i<l.length):l[i]?=some (atB l i):=by simp [atB,hi]
theorem row_step {f:Nat→Bool} {i:Nat} {v:Bool} (hv:v=f i) (j:Nat):(decide (j<i+1)&&f j)=upd (fun j=>decide (j<i)&&f j) i v j:=by
 unfold upd
 by_cases hj:j=i
 ·subst hj;rw [if_pos rfl,hv];simp
 ·rw [if_neg hj]
  have:(j<i+1)=(j<i):=propext ⟨fun _=>by omega,fun _=>by omega⟩
  simp only [this]
section
variable {h : Heap} {mb : Nat} {q : GV} {g : Gr}
set_option maxHeartbeats 1000000 in
theorem rc11_model_some (m:Mg h mb q g) {sv mv:Value} {l:List Bool} {ms:List Int} (hl:Rd 1 h sv l.length (boolsV l)) (hn:l.length=g.n) (hm:Rd 1 h mv ms.length (intsV ms)) (bm:ms.length≤17592186044416) {f:Nat→Bool} (hf:∀ i,i<g.n→(atB l i&&(decide (ms.length=0)||atB (withB g ms) i))=f i) :
  Con Tryd.prog 45 #[.pointer (some ⟨mb,0,none⟩),sv,mv] h fun v h'=>Fr 0 0 h h'∧PN h' h.size v g.n (dM f):=by
 refine con_rc11_model_some ?_
 have hn256:=m.n
 have hcl:clampN (g.n:Int)=g.n:=by unfold clampN;omega
 have p0:Fr 0 0 h h:=.refl _ _ _
 obtain ⟨rest,r1⟩:=m.row
 unfold gcells at r1
 simp only [List.cons_append,List.nil_append] at r1
 rw [hn] at hl
 obtain ⟨sa,sc,rfl⟩:=hl.is
 obtain ⟨ma,mc,rfl⟩:=hm.is
 simp -dsimp only [go_sem,r1.cell]
 refine call_of (graph_With (m.gr.fr p0) (by omega) (m:=ms) (hm.fr p0) (by omega)) ?_
 rintro v2 h2 ⟨f2,o2⟩
 have f2_z:=f2.size
 replace p0:=p0.F f2
 replace r1:=r1.F f2
 obtain ⟨wa,wc,rfl⟩:=o2.is
 have hwl:(withB g ms).length=g.n:=by simp [withB,Gr.n]
 have hw2:=o2.rd
 have p2:Fr 0 0 h2 h2:=.refl _ _ _
 simp -dsimp only [go_sem,r1.cell]
 refine Chk_intro (by omega) ?_
 rw [zeros_one,Int.toNat_natCast,brow_false]
 intro b3 h3 n3
 have n3_a:=n3.at_
 have n3_z:=n3.size
 replace p0:=p0.F n3.f0
 replace r1:=r1.F n3.f0
 replace p2:=p2.F n3.f0
 have r3:=n3.row
 simp -dsimp only [go_sem,r1.cell,r3.cell]
 have P0:=p0
 refine loop_intro (fun i:Nat=>[(2,.slice ma ms.length mc),(7,.slice wa g.n wc),(8,.slice (some ⟨b3,0,none⟩) g.n g.n),(20,.slice sa g.n sc),(21,.int .i64 g.n),(22,.int .i64 i)])
  (fun i h'=>i≤g.n∧Fr b3 (b3+1) h3 h'∧Rw h' b3 (brow g.n fun j=>decide (j<i)&&f j)) (fun i=>g.n - i) 0 ?_ ?_ ?_
 ·simp [Le,find]
 ·exact ⟨by omega,.refl _ _ _,by simpa using r3⟩
 have P23:Fr 0 0 h2 h3:=p2
 clear p0 r1 r3 o2 p2
 rintro i h4 ⟨hi,q4,r3⟩
 have hb3:h.size≤b3∧h2.size=b3:=by omega
 by_cases hlt:i<g.n
 ·have e1:((i:Int)<(g.n:Int)):=by omega
  have hfi:=hf i hlt
  have p4:=P0.fresh q4 (by omega)
  have p24:=P23.fresh q4 (by omega)
  obtain ⟨ab,ao,rfl,hac⟩:=bools_at hl (by omega)
  obtain ⟨bb,bo,rfl,hbc⟩:=bools_at hw2 (by omega)
  have k1:=hac h4 p4 i _ (atB_list (by omega))
  have k2:=hbc h4 p24 i _ (atB_list (by omega))
  generalize atB l i=x at k1 hfi
  generalize atB (withB g ms) i=y at k2 hfi
  cases x
  ·simp -dsimp only [go_sem,e1,k1,r3.cell]
   refine Chk_intro (r3.wr (by first | (simp;done) | (simp;omega))) fun h5 s5=>?_
   have s5_z:=s5.size
   replace r3:=s5.row r3
   try simp only [cl_int,cl_bool,cl_slice,cl_ptr,putAt_one,List.set_cons_zero,List.set_cons_succ,ivec_set,brow_upd] at r3
   simp -dsimp only [go_sem,r3.cell]
   simp -dsimp (disch:=omega) only [wrap64]
   refine ⟨i+1,by omega,by simp [Le,find],by omega,q4.freshIn s5.fr (by omega),?_⟩
   rw [brow_congr (g:=upd (fun j=>decide (j<i)&&f j) i false) fun j _=>row_step hfi j]
   exact r3
  ·rw [Bool.true_and] at hfi
   by_cases hms:ms.length=0
   ·have e2:((ms.length:Int)==0)=true:=by simpa using hms
    rw [decide_eq_true hms,Bool.true_or] at hfi
    simp -dsimp only [go_sem,e1,k1,e2,r3.cell]
    refine Chk_intro (r3.wr (by first | (simp;done) | (simp;omega))) fun h5 s5=>?_
    have s5_z:=s5.size
    replace r3:=s5.row r3
    try simp only [cl_int,cl_bool,cl_slice,cl_ptr,putAt_one,List.set_cons_zero,List.set_cons_succ,ivec_set,brow_upd] at r3
    simp -dsimp only [go_sem,r3.cell]
    simp -dsimp (disch:=omega) only [wrap64]
    refine ⟨i+1,by omega,by simp [Le,find],by omega,q4.freshIn s5.fr (by omega),?_⟩
    rw [brow_congr (g:=upd (fun j=>decide (j<i)&&f j) i true) fun j _=>row_step hfi j]
    exact r3
   ·have e2:((ms.length:Int)==0)=false:=by simpa using hms
    rw [decide_eq_false hms,Bool.false_or] at hfi
    simp -dsimp only [go_sem,e1,k1,k2,e2,r3.cell]
    refine Chk_intro (r3.wr (by first | (simp;done) | (simp;omega))) fun h5 s5=>?_
    have s5_z:=s5.size
    replace r3:=s5.row r3
    try simp only [cl_int,cl_bool,cl_slice,cl_ptr,putAt_one,List.set_cons_zero,List.set_cons_succ,ivec_set,brow_upd] at r3
    simp -dsimp only [go_sem,r3.cell]
    simp -dsimp (disch:=omega) only [wrap64]
    refine ⟨i+1,by omega,by simp [Le,find],by omega,q4.freshIn s5.fr (by omega),?_⟩
    rw [brow_congr (g:=upd (fun j=>decide (j<i)&&f j) i y) fun j _=>row_step hfi j]
    exact r3
 ·obtain rfl:i=g.n:=by omega
  simp -dsimp only [go_sem,Int.lt_irrefl,r3.cell]
  have p4:=P0.fresh q4 (by omega)
  have hr:Rd 1 h4 (.slice (some ⟨b3,0,none⟩) g.n g.n) ((List.range g.n).map f).length (boolsV ((List.range g.n).map f)):=by
   have e:brow g.n (fun j=>decide (j<g.n)&&f j)=boolsV ((List.range g.n).map f):=by
    rw [brow_congr (g:=f) fun j hj=>by simp [hj]]
    unfold brow boolsV;rw [List.map_map];rfl
   rw [e] at r3
   have:=Rw.rd (s:=1) (n:=g.n) (c:=g.n) r3 (by simp [boolsV])
   simpa using this
  refine call_of (rel_Ident g.n hr (by simp;omega)) ?_
  rintro v5 h5 ⟨f5,t5⟩
  rw [hcl] at t5
  simp -dsimp only [go_sem,r3.cell]
  exact ⟨p4.fresh f5 (by omega),((PN.of t5).lower (by have:=q4.size;omega)).congr fun i j hi hj=>by
   show (i==j&&atB ((List.range g.n).map f) i)=dM f i j
   unfold dM;rw [atB_get (b:=f i) (by simp [hi])]⟩
end
end Go.Proofs.Tst
