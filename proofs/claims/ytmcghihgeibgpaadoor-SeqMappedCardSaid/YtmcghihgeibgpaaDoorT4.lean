/-
  Contracts of functions that the law reaches: what each returns and what it leaves in memory. Conditions stand in each.
-/
import Derived.Test.YtmcghihgeibgpaaDoorT3
set_option linter.all false
set_option maxRecDepth 2000
/-
  Rule 5: plain.
-/
namespace Go.Proofs.Tst
open Go Go.Vc
def upd' (M:Int→Nat) (k:Int) (v:Nat) (x:Int):Nat:=if x=k then v else M x
def coGood (g:Gr) (c:Nat) (w:Int):Bool:=g.is w 2&&(g.ev w.toNat).loc==(c:Int)
def coOk (g:Gr) (c:Nat) (l:List Int):Bool:=l.head? == some (c:Int)&&l.all (coGood g c)&&decide l.Nodup
def coPre (g:Gr) (c:Nat) (l:List Int) (j:Nat):Bool:=l.head? == some (c:Int)&&(l.take j).all (coGood g c)&&decide (l.take j).Nodup
theorem coBad_of (g:Gr) (c:Nat) (l:List Int):g.coBad c l=!(coOk g c l&&l.length==g.writesOf c):=by
 unfold Gr.coBad coOk coGood
 cases (l.head? == some (c:Int)) <;> cases (l.length==g.writesOf c) <;> cases (l.all fun w=>g.is w 2&&(g.ev w.toNat).loc==(c:Int)) <;> cases (decide l.Nodup) <;> rfl
theorem writesOf_range (g:Gr) (c:Int):g.writesOf c=((List.range g.n).filter fun i=>(g.ev i).kind==2&&(g.ev i).loc==c).length:=by
 have e:g.evs=(List.range g.n).map g.ev:=by
  apply List.ext_getElem?
  intro i
  by_cases hi:i<g.n
  ·rw [Gr.ev_get hi];simp [hi]
  ·have:g.evs.length≤i:=by unfold Gr.n at hi;omega
   rw [List.getElem?_eq_none this,List.getElem?_eq_none (by simp;omega)]
 unfold Gr.writesOf
 conv=>lhs;rw [e]
 rw [List.countP_map,List.countP_eq_length_filter]
 rfl
theorem coOk_le {g:Gr} {c:Nat} {l:List Int} (h:coOk g c l=true):l.length≤g.writesOf c:=by
 unfold coOk at h
 simp only [Bool.and_eq_true,List.all_eq_true,decide_eq_true_eq] at h
 rw [writesOf_range]
 have:=nodup_le (l:=l) (m:=((List.range g.n).filter fun i=>(g.ev i).kind==2&&(g.ev i).loc==c).map fun (i:Nat)=>(i:Int)) h.2 fun x hx=>by
  have hg:=h.1.2 x hx
  unfold coGood at hg
  simp only [Bool.and_eq_true] at hg
  obtain ⟨h1,h2,h3⟩:=is_lt hg.1
  refine List.mem_map.2 ⟨x.toNat,List.mem_filter.2 ⟨List.mem_range.2 (by omega),by simp [h3];simpa using hg.2⟩,by omega⟩
 simpa using this
theorem coOk_pos {g:Gr} {c:Nat} {l:List Int} (h:coOk g c l=true):0<l.length:=by
 unfold coOk at h
 simp only [Bool.and_eq_true] at h
 cases l with
 | nil=>simp at h
 | cons x l=>simp
theorem coPre_all (g:Gr) (c:Nat) (l:List Int):coPre g c l l.length=coOk g c l:=by unfold coPre coOk;rw [List.take_length]
theorem coPre_zero (g:Gr) (c:Nat) (l:List Int):coPre g c l 0=(l.head? == some (c:Int)):=by unfold coPre;simp
theorem nodup_snoc {l:List Int} {x:Int}:decide (l++[x]).Nodup=(decide l.Nodup&&!l.contains x):=by
 rw [Bool.eq_iff_iff]
 simp only [decide_eq_true_eq,Bool.and_eq_true,Bool.not_eq_true',List.nodup_append]
 constructor
 ·rintro ⟨h1,-,h3⟩
  refine ⟨h1,?_⟩
  cases hc:l.contains x
  ·rfl
  ·exact absurd rfl (h3 x (by simpa using hc) x (by simp))
 ·rintro ⟨h1,h2⟩
  refine ⟨h1,by simp,fun a ha b hb=>?_⟩
  simp at hb;subst hb
  rintro rfl
  have:l.contains a=true:=by simpa using ha
  rw [this] at h2;cases h2
theorem coPre_succ {g:Gr} {c:Nat} {l:List Int} {j:Nat} {w:Int} (hj:l[j]?=some w):coPre g c l (j+1)=(coPre g c l j&&coGood g c w&&!(l.take j).contains w):=by
 unfold coPre
 rw [List.take_add_one,hj,Option.toList_some,List.all_append,nodup_snoc]
 simp only [List.all_cons,List.all_nil,Bool.and_true]
 cases (l.head? == some (c:Int)) <;> cases ((l.take j).all (coGood g c)) <;> cases (coGood g c w) <;> cases (decide (l.take j).Nodup) <;> cases ((l.take j).contains w) <;> rfl
def lf (g:Gr) (M:Int→Nat) (x:Int):Option Value:=if g.writesOf x=0 then none else some (.int .i64 ((g.writesOf x:Int) - M x))
structure CoSt (g:Gr) (c W:Nat) (M:Int→Nat) (S:Nat→Bool):Prop where
 w1:W≤g.lists
 w2:∀ x,x<c→x<W→coOk g x (g.co.getD x [])=true
 w3:W=g.lists∨(W<c∧coOk g W (g.co.getD W [])=false)
 m1:∀ x:Nat,x<c→coOk g x (g.co.getD x [])=true→M x=(g.co.getD x []).length
 m0:∀ x:Nat,c≤x→M x=0
 mb:∀ x:Int,M x≤17592186044416
 s:∀ w,w<g.n→S w=true→∃ x,x<c∧(g.ev w).loc=(x:Int)
theorem co_end {g:Gr} {W:Nat} {M:Int→Nat} {S:Nat→Bool} (t:CoSt g g.lists W M S) (hw:∀ i,i<g.n→(g.ev i).kind=2→0≤(g.ev i).loc) {v:Int} (h1:v≤(W:Int))
  (h2:∀ k:Int,0<g.writesOf k→0<(g.writesOf k:Int) - M k→v≤k) (h3:v=(W:Int)∨0<g.writesOf v∧0<(g.writesOf v:Int) - M v):v=(g.coFirst:Int):=by
 have hpos:∀ k:Int,0<g.writesOf k→0≤k:=by
  intro k hk
  rw [writesOf_range] at hk
  obtain ⟨i,hi⟩:=List.exists_mem_of_length_pos hk
  rw [List.mem_filter,List.mem_range] at hi
  simp only [Bool.and_eq_true,beq_iff_eq] at hi
  have:=hw i hi.1 hi.2.1
  omega
 have h0:0≤v:=by
  rcases h3 with h | h
  ·omega
  ·exact hpos v h.1
 obtain ⟨u,rfl⟩:=Int.eq_ofNat_of_zero_le h0
 have hu:u≤W:=by omega
 have hW:=t.w1
 have hgood:∀ x,x<u→g.coBad x (g.co.getD x [])=false:=by
  intro x hx
  have hok:=t.w2 x (by omega) (by omega)
  have hm:=t.m1 x (by omega) hok
  have hle:=coOk_le hok
  have hp:=coOk_pos hok
  rw [coBad_of,hok]
  have:(g.co.getD x []).length=g.writesOf x:=by
   apply Classical.byContradiction;intro hne
   have:=h2 (x:Int) (by omega) (by omega)
   omega
  have e:((g.co.getD x []).length==g.writesOf x)=true:=by rw [this];exact beq_self_eq_true _
  rw [e];rfl
 have hbad:u=g.lists∨(u<g.lists∧g.coBad u (g.co.getD u [])=true):=by
  by_cases huW:u=W
  ·subst huW
   rcases t.w3 with h | ⟨h,hb⟩
   ·exact .inl h
   ·exact .inr ⟨h,by rw [coBad_of,hb];rfl⟩
  ·right
   rcases h3 with h | ⟨h4,h5⟩
   ·omega
   ·refine ⟨by omega,?_⟩
    have hok:=t.w2 u (by omega) (by omega)
    have hm:=t.m1 u (by omega) hok
    rw [coBad_of,hok]
    have:¬ (g.co.getD u []).length=g.writesOf u:=by omega
    have e:((g.co.getD u []).length==g.writesOf u)=false:=by rw [beq_eq_false_iff_ne];exact this
    rw [e];rfl
 unfold Gr.coFirst
 rcases hbad with rfl | ⟨h4,h5⟩
 ·have:(List.range g.lists).find? (fun c=>g.coBad c (g.co.getD c []))=none:=by
   rw [List.find?_eq_none];intro x hx;rw [List.mem_range] at hx;rw [hgood x hx];simp
  rw [this];rfl
 ·have:(List.range g.lists).find? (fun c=>g.coBad c (g.co.getD c []))=some u:=by
   rw [List.find?_range_eq_some]
   exact ⟨h5,List.mem_range.2 h4,fun x hx=>by rw [hgood x hx];rfl⟩
  rw [this];rfl
theorem CoSt.next {g:Gr} {c W m:Nat} {M:Int→Nat} {S S':Nat→Bool} {l:List Int} (t:CoSt g c W M S) (hc:c<g.lists) (hl:g.co.getD c []=l) (hlen:l.length≤17592186044416) (hm:m≤l.length) (hmo:coOk g c l=true→m=l.length)
  (hs:∀ w,w<g.n→S' w=true→S w=true∨((w:Int)∈l.take m)) (hg:(l.take m).all (coGood g c)=true) :
  CoSt g (c+1) (if coOk g c l then W else min W c) (upd' M c m) S':=by
 refine ⟨?_,fun x hx hxW=>?_,?_,fun x hx hok=>?_,fun x hx=>?_,fun x=>?_,fun w hw hS=>?_⟩
 ·have:=t.w1;split <;> omega
 ·by_cases hxc:x=c
  ·subst hxc
   rw [hl]
   by_cases hok:coOk g x l=true
   ·exact hok
   ·rw [if_neg hok] at hxW;omega
  ·exact t.w2 x (by omega) (by split at hxW <;> omega)
 ·by_cases hok:coOk g c l=true
  ·rw [if_pos hok]
   rcases t.w3 with h | ⟨h,h'⟩
   ·exact .inl h
   ·exact .inr ⟨by omega,h'⟩
  ·rw [if_neg hok]
   rcases t.w3 with h | ⟨h,h'⟩
   ·refine .inr ⟨by omega,?_⟩
    have:min W c=c:=by omega
    rw [this,hl];simpa using hok
   ·have:min W c=W:=by omega
    rw [this];exact .inr ⟨by omega,h'⟩
 ·by_cases hxc:x=c
  ·subst hxc
   rw [hl] at hok ⊢
   unfold upd';rw [if_pos rfl];exact hmo hok
  ·unfold upd';rw [if_neg (by omega)];exact t.m1 x (by omega) hok
 ·unfold upd';rw [if_neg (by omega)];exact t.m0 x (by omega)
 ·unfold upd';split
  ·omega
  ·exact t.mb x
 ·rcases hs w hw hS with h | h
  ·obtain ⟨x,h1,h2⟩:=t.s w hw h;exact ⟨x,by omega,h2⟩
  ·have:=List.all_eq_true.1 hg _ h
   unfold coGood at this
   simp only [Bool.and_eq_true,beq_iff_eq,Int.toNat_natCast] at this
   exact ⟨c,by omega,this.2⟩
end Go.Proofs.Tst
/-
  Rule 5: one list.
-/
namespace Go.Proofs.Tst
open Go Go.Vc
theorem coPre_bad {g:Gr} {c:Nat} {l:List Int} {j:Nat} {w:Int} (hj:l[j]?=some w) (h:coPre g c l j=false):coPre g c l (j+1)=false:=by rw [coPre_succ hj,h];rfl
theorem co_inner {Q:Post} {h h4:Heap} {b b3 b6:Nat} {q:GV} {g:Gr} {words:Bool} {nx v7 v8 v62 v63 v64:Value} (t:LookAt h b q g words nx) {c:Nat} {M:Int→Nat} {S:Nat→Bool} {l:List Int} {la:Option Addr} {lc:Nat} (hb3:h.size≤b3) (hb6:h.size≤b6) (hb36:b3≠b6)
  (hrd:∀ h',Fr 0 0 h h'→Rd 1 h' (.slice la l.length lc) l.length (intsV l)) (hll:l.length≤17592186044416)
  (p4:Fr 0 0 h h4) (M4:MapF h4 b3 (lf g M)) (r4:Rw h4 b6 (brow g.n S)) (m0:M c=0) (hS:∀ w,w<g.n→S w=true→(g.ev w).loc≠(c:Int))
  (hQ:∀ m S' h',m≤l.length→(coOk g c l=true→m=l.length)→(∀ w,w<g.n→S' w=true→S w=true∨((w:Int)∈l.take m))→(l.take m).all (coGood g c)=true→Fr 0 0 h h'→h4.size≤h'.size→MapF h' b3 (lf g (upd' M c m))→Rw h' b6 (brow g.n S') →
   Q (.exit 4) [(0,.pointer (some ⟨b,0,none⟩)),(3,.map (some b3)),(6,.slice (some ⟨b6,0,none⟩) g.n g.n),(7,v7),(8,v8),(9,.int .i64 c),(11,.bool (coOk g c l)),(62,v62),(63,v63),(64,v64),(79,.slice la l.length lc),(80,.int .i64 l.length),(81,.int .i64 l.length),(82,.bool false)] h') :
  loopVC (vc Tryd.prog none g_q17_l24) Q [(0,.pointer (some ⟨b,0,none⟩)),(3,.map (some b3)),(6,.slice (some ⟨b6,0,none⟩) g.n g.n),(7,v7),(8,v8),(9,.int .i64 c),(11,.bool (coPre g c l 0)),(62,v62),(63,v63),(64,v64),(79,.slice la l.length lc),(80,.int .i64 l.length),(81,.int .i64 0)] h4:=by
 have hfe:=t.g.fits.e
 have hen:g.evs.length=g.n:=rfl
 have hwo:g.writesOf (c:Int)≤g.n:=List.countP_le_length
 refine loop_intro (fun j:Nat=>[(0,.pointer (some ⟨b,0,none⟩)),(3,.map (some b3)),(6,.slice (some ⟨b6,0,none⟩) g.n g.n),(7,v7),(8,v8),(9,.int .i64 c),(11,.bool (coPre g c l j)),(62,v62),(63,v63),(64,v64),(79,.slice la l.length lc),(80,.int .i64 l.length),(81,.int .i64 j)])
  (fun j h'=>j≤l.length∧Fr 0 0 h h'∧h4.size≤h'.size∧∃ m S',m≤j∧(coPre g c l j=true→m=j)∧MapF h' b3 (lf g (upd' M c m))∧Rw h' b6 (brow g.n S')∧(∀ w,w<g.n→(S' w=true↔S w=true∨((w:Int)∈l.take m)))∧(l.take m).all (coGood g c)=true) (fun j=>l.length - j) 0 ?_ ?_ ?_
 ·simp [Le,find]
 ·refine ⟨by omega,p4,by omega,0,S,by omega,fun _=>rfl,M4.congr fun x=>?_,r4,fun w _=>by simp,by simp⟩
  unfold lf upd'
  by_cases hx:x=(c:Int)
  ·subst hx;simp [m0]
  ·simp [hx]
 clear p4 M4 r4
 rintro j h5 ⟨hj,p5,z5,m,S',hm,hmj,M5,r5,hS',hg⟩
 by_cases hlt:j<l.length
 ·have e1:((j:Int)<(l.length:Int)):=by omega
  have hq:l[j]?=some l[j]:=by simp [hlt]
  generalize l[j]=w at hq
  have t5:=t.fr p5
  have l5:=hrd h5 p5
  simp -dsimp only [go_sem,e1]
  refine l5.idx (by omega) fun lb lo hlc=>?_
  have c1:=hlc j _ (intsV_get hq)
  cases a1:coPre g c l j
  ·have a2:=coPre_bad hq a1
   simp -dsimp only [go_sem,c1]
   simp -dsimp (disch:=omega) only [wrap64]
   exact ⟨j+1,by omega,by simp [Le,find,a2],by omega,p5,z5,m,S',by omega,fun h=>by (rw [a2] at h;cases h),M5,r5,hS',hg⟩
  ·obtain rfl:=hmj a1
   have hsucc:=coPre_succ (g:=g) (c:=c) hq
   rw [a1,Bool.true_and] at hsucc
   have fail:coGood g c w=false→coPre g c l (m+1)=false:=fun h=>by rw [hsucc,h];rfl
   simp -dsimp only [go_sem,c1]
   refine call_of (graph_look_is t5 w 2) ?_
   rintro v6 h6 ⟨rfl,rfl⟩
   cases a2:g.is w 2
   ·have a3:=fail (by unfold coGood;rw [a2];rfl)
    simp -dsimp only [go_sem]
    simp -dsimp (disch:=omega) only [wrap64]
    exact ⟨m+1,by omega,by simp [Le,find,a3],by omega,p5,z5,m,S',by omega,fun h=>by (rw [a3] at h;cases h),M5,r5,hS',hg⟩
   ·obtain ⟨k1,k2,k3⟩:=is_lt a2
    obtain ⟨x,rfl⟩:=Int.eq_ofNat_of_zero_le k1
    have hx:x<g.n:=by omega
    obtain ⟨eb,eo,he,hev⟩:=t.g.evs (by omega)
    obtain ⟨-,-,w2,-⟩:=hev h6 p5 x hx
    simp -dsimp only [go_sem,t5.r.cell,he]
    refine Chk_intro (by omega) ?_
    by_cases a4:(g.ev x).loc=(c:Int)
    ·have hgood:coGood g c (x:Int)=true:=by unfold coGood;rw [a2,Int.toNat_natCast,beq_t a4];rfl
     have hSx:S' x=(l.take m).contains (x:Int):=by
      rw [Bool.eq_iff_iff,hS' x hx]
      constructor
      ·rintro (h | h)
       ·exact absurd a4 (hS x hx h)
       ·simpa using h
      ·intro h;exact .inr (by simpa using h)
     rw [hgood,Bool.true_and,← hSx] at hsucc
     simp -dsimp only [go_sem,w2,beq_t a4]
     refine Chk_intro (by omega) ?_
     simp -dsimp only [go_sem,r5.cell,brow_get hx]
     cases a5:S' x
     ·rw [a5] at hsucc
      have hsucc:coPre g c l (m+1)=true:=hsucc
      have hpos:¬ g.writesOf (c:Int)=0:=by
       rw [writesOf_range]
       have:x∈(List.range g.n).filter fun i=>(g.ev i).kind==2&&(g.ev i).loc==(c:Int):=List.mem_filter.2 ⟨List.mem_range.2 hx,by simp [k3,a4];simpa using k3⟩
       have:=List.length_pos_of_mem this
       omega
      simp -dsimp only [go_sem]
      refine Chk_intro (by omega) ?_
      simp -dsimp only [go_sem]
      refine Chk_intro (r5.wr (by simp;omega)) fun h7 s7=>?_
      have z7:=s7.size
      have r7:=s7.row r5
      rw [cl_bool,putAt_one,brow_upd] at r7
      have p7:=p5.fresh s7.fr (by omega)
      have M7:=M5.fr s7.fr (by omega)
      simp -dsimp only [go_sem]
      refine M7.look1 (z:=.int .i64 0) (n:=(c:Int)) fun mm hm1 _=>?_
      have hv:mget (.int .i64 0) mm (c:Int)=.int .i64 ((g.writesOf (c:Int):Int) - (m:Nat)):=by
       rw [hm1];unfold lf upd';rw [if_neg hpos,if_pos rfl];rfl
      simp -dsimp only [go_sem,hv]
      refine M7.set fun h8 M8 f8 z8=>?_
      have hww:IntKind.i64.wrap (((g.writesOf (c:Int):Int) - (m:Nat)) - 1)=(g.writesOf (c:Int):Int) - ((m+1:Nat):Int):=by rw [wrap64 (by omega) (by omega)];omega
      rw [hww] at M8
      simp -dsimp only [go_sem]
      simp -dsimp (disch:=omega) only [wrap64]
      refine ⟨m+1,by omega,by simp [Le,find,hsucc],by omega,p7.fresh f8 (by omega),by omega,m+1,_,by omega,fun _=>rfl,M8.congr fun y=>?_,r7.fr f8 (by omega),fun y hy=>?_,?_⟩
      ·unfold lf upd'
       by_cases hy:y=(c:Int)
       ·subst hy;simp [hpos]
       ·simp [hy]
      ·rw [List.take_add_one,hq,Option.toList_some,List.mem_append,List.mem_singleton]
       unfold upd
       by_cases hyx:y=x
       ·subst hyx;simp
       ·rw [if_neg hyx,hS' y hy]
        have:¬ (y:Int)=(x:Int):=by omega
        simp [this]
      ·rw [List.take_add_one,hq,Option.toList_some,List.all_append,hg];simp [hgood]
     ·rw [a5] at hsucc
      have hsucc:coPre g c l (m+1)=false:=hsucc
      simp -dsimp only [go_sem]
      simp -dsimp (disch:=omega) only [wrap64]
      exact ⟨m+1,by omega,by simp [Le,find,hsucc],by omega,p5,z5,m,S',by omega,fun h=>by (rw [hsucc] at h;cases h),M5,r5,hS',hg⟩
    ·have a3:=fail (by unfold coGood;rw [a2,Int.toNat_natCast,beq_f a4];rfl)
     simp -dsimp only [go_sem,w2,beq_f a4]
     simp -dsimp (disch:=omega) only [wrap64]
     exact ⟨m+1,by omega,by simp [Le,find,a3],by omega,p5,z5,m,S',by omega,fun h=>by (rw [a3] at h;cases h),M5,r5,hS',hg⟩
 ·obtain rfl:j=l.length:=by omega
  rw [coPre_all] at hmj ⊢
  simp -dsimp only [go_sem,Int.lt_irrefl]
  exact hQ m S' h5 hm hmj (fun w hw h=>(hS' w hw).1 h) hg p5 z5 M5 r5
end Go.Proofs.Tst
/-
  Rule 5.
-/
namespace Go.Proofs.Tst
open Go Go.Vc
def cntTo (g:Gr) (i:Nat) (x:Int):Nat:=(g.evs.take i).countP fun e=>e.kind==2&&e.loc==x
def lfTo (g:Gr) (i:Nat) (x:Int):Option Value:=if cntTo g i x=0 then none else some (.int .i64 (cntTo g i x:Nat))
theorem cntTo_succ {g:Gr} {i:Nat} (hi:i<g.n) (x:Int):cntTo g (i+1) x=cntTo g i x+(if (g.ev i).kind=2∧(g.ev i).loc=x then 1 else 0):=by
 unfold cntTo
 rw [List.take_add_one,Gr.ev_get hi,Option.toList_some,List.countP_append]
 congr 1
 simp only [List.countP_singleton,Bool.and_eq_true,beq_iff_eq]
theorem lfTo_all (g:Gr) (x:Int):lfTo g g.n x=lf g (fun _=>0) x:=by
 have:cntTo g g.n x=g.writesOf x:=by unfold cntTo Gr.writesOf Gr.n;rw [List.take_length]
 unfold lfTo lf;rw [this];simp
theorem rl_slice {h:Heap} {q:Option Addr} {n c:Nat} {L:List (List Int)} (t:RL h (.slice q n c) (L.map intsV)):∀ i,i<L.length→∃ ob oo,(if c=0 then q else Option.map (fun x=>x.add (0 * 1)) q)=some ⟨ob,oo,none⟩∧∃ la lc,∀ h',Fr 0 0 h h' →
  hcell h' ob (oo+i)=some (.slice la (L.getD i []).length lc)∧Rd 1 h' (.slice la (L.getD i []).length lc) (L.getD i []).length (intsV (L.getD i [])):=by
 obtain ⟨us,h1,h2⟩:=t
 intro i hi
 have hl:(L.map intsV)[i]?=some (intsV (L.getD i [])):=by simp [hi]
 obtain ⟨w,hw,hr⟩:=h2 i _ hl
 rw [length_intsV] at hr
 obtain ⟨la,lc,rfl⟩:=hr.is
 obtain ⟨hlen,a,c',e1,e2⟩:=h1
 cases e1
 rcases e2 with e2 | ⟨ob,oo,rfl,hc⟩
 ·rw [List.length_map] at e2;omega
 ·refine ⟨ob,oo,?_,la,lc,fun h' f=>⟨f.keep (hc i _ hw) (by omega),hr.fr f⟩⟩
  split
  ·rfl
  ·simp [addr_add]
theorem graph_look_co {h:Heap} {b:Nat} {q:GV} {g:Gr} {words:Bool} {nx:Value} (t:LookAt h b q g words nx) (hc0:0≤g.cells) (hw:∀ i,i<g.n→(g.ev i).kind=2→0≤(g.ev i).loc) :
  Con Tryd.prog 84 #[.pointer (some ⟨b,0,none⟩)] h fun v h'=>Fr 0 0 h h'∧v=.int .i64 g.coAt:=by
 refine con_q17 ?_
 have p0:Fr 0 0 h h:=.refl _ _ _
 have hfe:=t.g.fits.e
 have hfo:=t.g.fits.o
 have hen:g.evs.length=g.n:=rfl
 simp -dsimp only [go_sem]
 intro b3 h1 n1
 have z1:=n1.size
 have a1:=n1.at_
 have M1:=n1.mapF
 have p1:Fr 0 0 h h1:=n1.fr
 have t1:=t.fr p1
 simp -dsimp only [go_sem,t1.r.cell]
 refine loop_intro (fun i:Nat=>[(0,.pointer (some ⟨b,0,none⟩)),(3,.map (some b3)),(21,.slice q.e g.evs.length q.ec),(22,.int .i64 g.evs.length),(23,.int .i64 i)])
  (fun i h'=>i≤g.n∧Fr 0 0 h h'∧h1.size≤h'.size∧MapF h' b3 (lfTo g i)) (fun i=>g.n - i) 0 ?_ ?_ ?_
 ·simp [Le,find]
 ·exact ⟨by omega,p1,by omega,M1.congr fun x=>rfl⟩
 clear p1 M1 t1
 rintro i h2 ⟨hi,p1,z2,M1⟩
 by_cases hlt:i<g.n
 ·have e1:((i:Int)<(g.n:Int)):=by omega
  obtain ⟨eb,eo,he,hev⟩:=t.g.evs (by omega)
  obtain ⟨c0,c1,c2,c3,c4⟩:=hev h2 p1 i hlt
  have p1_z:=p1.size
  simp -dsimp only [go_sem,he,e1,evs_len,c0,c1,c2,c3,c4]
  intro b4 h4 n4
  have n4_z:=n4.az
  replace p1:=p1.F n4.f0
  have r4:=n4.row
  have M1:=M1.fr n4.f0 (by omega)
  simp -dsimp only [go_sem,r4.cell]
  refine Chk_intro (r4.W) fun h5 s5=>?_
  have s5_z:=s5.size
  replace p1:=p1.F s5.fr
  replace r4:=s5.row r4
  try simp only [cl_int,cl_bool,cl_slice,cl_ptr,putAt_one,zs0,zs1,ivec_set,brow_upd] at r4
  have M1:=M1.fr s5.fr (by have:=M1.lt;omega)
  simp -dsimp only [go_sem] at r4
  by_cases a1:(g.ev i).kind=2
  ·simp -dsimp only [go_sem,beq_t a1,r4.cell]
   refine M1.look1 (z:=.int .i64 0) (n:=(g.ev i).loc) fun m hm1 _=>?_
   have hv:mget (.int .i64 0) m (g.ev i).loc=.int .i64 (cntTo g i (g.ev i).loc:Nat):=by
    rw [hm1];unfold lfTo;split
    ·rename_i h0;rw [h0];rfl
    ·rfl
   have hcn:cntTo g i (g.ev i).loc≤g.n:=Nat.le_trans List.countP_le_length (by rw [List.length_take];unfold Gr.n;omega)
   simp -dsimp only [go_sem,hv,r4.cell]
   refine M1.set fun h6 M6 f6 z6=>?_
   have hww:IntKind.i64.wrap ((cntTo g i (g.ev i).loc:Int)+1)=((cntTo g i (g.ev i).loc+1:Nat):Int):=by rw [wrap64 (by omega) (by omega)];omega
   rw [hww] at M6
   simp -dsimp only [go_sem,r4.cell]
   simp -dsimp (disch:=omega) only [wrap64]
   have p6:=p1.fresh f6 (by omega)
   refine ⟨i+1,by omega,by simp [Le,find,he,evs_len],by omega,p6,by omega,M6.congr fun x=>?_⟩
   unfold lfTo
   rw [cntTo_succ hlt]
   by_cases hx:x=(g.ev i).loc
   ·subst hx;simp [a1]
   ·have:¬ (g.ev i).loc=x:=fun h=>hx h.symm
    simp [hx,this]
  ·simp -dsimp only [go_sem,beq_f a1,r4.cell]
   simp -dsimp (disch:=omega) only [wrap64]
   refine ⟨i+1,by omega,by simp [Le,find,he,evs_len],by omega,p1,by omega,M1.congr fun x=>?_⟩
   unfold lfTo
   rw [cntTo_succ hlt];simp [a1]
 obtain rfl:i=g.n:=by omega
 have M1:=M1.congr (lfTo_all g)
 have t2:=t.fr p1
 simp -dsimp only [go_sem,t2.r.cell,evs_len,Int.lt_irrefl]
 have hz:g.n≤3518437208883:=hfe
 refine Chk_intro (by omega) ?_
 have e0:(↑g.n:Int).toNat=g.n:=Int.toNat_natCast _
 rw [zeros_one,e0,brow_false]
 have p1_z:=p1.size
 intro b6 h3 n6
 have a6:=n6.at_
 have z6:=n6.size
 have r6:=n6.row
 have M1:=M1.fr n6.f0 (by omega)
 replace p1:=p1.trans n6.fr
 have t3:=t.fr p1
 have hmin:(if g.cells<(g.co.length:Int) then g.cells else (g.co.length:Int))=(g.lists:Int):=by unfold Gr.lists;split <;> omega
 simp -dsimp only [go_sem,t3.r.cell,e0,hmin]
 have hcap:=t.g.cap
 have hll:g.lists≤g.co.length:=by unfold Gr.lists;omega
 refine Chk_intro (by omega) ?_
 simp -dsimp only [go_sem]
 refine Chk_intro (by omega) ?_
 have hrl:=rl_slice t.g.o
 generalize (if q.oc=0 then q.o else Option.map (fun x=>x.add (0 * 1)) q.o)=X at hrl ⊢
 generalize q.oc - 0=Xc
 have e1:(↑g.lists:Int).toNat - 0=g.lists:=by rw [Int.toNat_natCast];rfl
 rw [e1]
 simp -dsimp only [go_sem]
 refine loop_intro (fun s:Nat×Nat=>[(0,.pointer (some ⟨b,0,none⟩)),(3,.map (some b3)),(6,.slice (some ⟨b6,0,none⟩) g.n g.n),(7,.int .i64 g.lists),(8,.int .i64 s.2),(62,.slice X g.lists Xc),(63,.int .i64 g.lists),(64,.int .i64 s.1)])
  (fun s h'=>s.1≤g.lists∧Fr 0 0 h h'∧h3.size≤h'.size∧∃ M S,MapF h' b3 (lf g M)∧Rw h' b6 (brow g.n S)∧CoSt g s.1 s.2 M S) (fun s=>g.lists - s.1) (0,g.lists) ?_ ?_ ?_
 ·simp [Le,find]
 ·exact ⟨by omega,p1,by omega,_,_,M1,r6,⟨Nat.le_refl _,by omega,.inl rfl,by omega,fun _ _=>rfl,fun _=>by omega,fun w _ h=>by cases h⟩⟩
 clear p1 M1 r6 t3 p1_z
 rintro ⟨c,W⟩ h4 ⟨hc,p1,z4,M,S,M1,r6,st⟩
 dsimp only at hc st ⊢
 by_cases hlt:c<g.lists
 ·have e2:((c:Int)<(g.lists:Int)):=by omega
  obtain ⟨ob,oo,rfl,la,lc,hlist⟩:=hrl c (by omega)
  obtain ⟨l1,l2⟩:=hlist h4 p1
  have hll2:=t.g.fits.l (g.co.getD c []) (by have:g.co[c]?=some (g.co.getD c []):=by { simp [show c<g.co.length by omega] };exact List.mem_of_getElem? this)
  generalize hl:g.co.getD c []=l at l1 l2 hlist hll2
  have hb36:b3≠b6:=by omega
  have hSc:∀ w,w<g.n→S w=true→(g.ev w).loc≠(c:Int):=fun w hw h he=>by obtain ⟨x,h1,h2⟩:=st.s w hw h;omega
  have hm0:=st.m0 c (Nat.le_refl _)
  have hW:=st.w1
  have fin:∀ (m:Nat) (S':Nat→Bool) (h':Heap),m≤l.length→(coOk g c l=true→m=l.length)→(∀ w,w<g.n→S' w=true→S w=true∨((w:Int)∈l.take m))→(l.take m).all (coGood g c)=true→CoSt g (c+1) (if coOk g c l then W else min W c) (upd' M c m) S':=
   fun m S' h' h1 h2 h3 h4=>st.next hlt hl hll2 h1 h2 h3 h4
  simp -dsimp only [go_sem,e2,l1]
  have hpre:=coPre_zero g c l
  cases l with
  | nil =>
   have hpre:coPre g c [] 0=false:=by rw [hpre];rfl
   have e3:¬ ((0:Nat):Int) > 0:=by omega
   simp -dsimp only [go_sem,e3]
   rw [← hpre]
   refine co_inner t (by omega) (by omega) hb36 (fun h' f=>(hlist h' f).2) hll2 p1 M1 r6 hm0 hSc fun m S' h' k1 k2 k3 k4 k5 k6 k7 k8=>?_
   have hfin:=fin m S' h' k1 k2 k3 k4
   cases hok:coOk g c []
   ·rw [hok] at hfin
    simp -dsimp only [go_sem]
    rw [show (if (c:Int)<(W:Int) then (c:Int) else (W:Int))=((min W c:Nat):Int) by split <;> omega]
    simp -dsimp (disch:=omega) only [wrap64]
    exact ⟨(c+1,min W c),by omega,by simp [Le,find],by omega,k5,by omega,_,_,k7,k8,hfin⟩
   ·rw [hok] at hfin
    simp -dsimp only [go_sem]
    simp -dsimp (disch:=omega) only [wrap64]
    exact ⟨(c+1,W),by omega,by simp [Le,find],by omega,k5,by omega,_,_,k7,k8,hfin⟩
  | cons w l' =>
   have hpre:coPre g c (w :: l') 0=(w==(c:Int)):=by rw [hpre];rfl
   have e3:(((l'.length+1:Nat):Int) > 0):=by omega
   simp -dsimp only [go_sem,e3]
   refine (hlist h4 p1).2.idx (by simp) fun lb lo hlc=>?_
   have c1:=hlc 0 _ (intsV_get (l:=w :: l') (i:=0) rfl)
   rw [Nat.add_zero] at c1
   simp -dsimp only [go_sem,c1,e3,Int.toNat_zero,Nat.zero_mul]
   rw [← hpre]
   refine co_inner t (by omega) (by omega) hb36 (fun h' f=>(hlist h' f).2) hll2 p1 M1 r6 hm0 hSc fun m S' h' k1 k2 k3 k4 k5 k6 k7 k8=>?_
   have hfin:=fin m S' h' k1 k2 k3 k4
   cases hok:coOk g c (w :: l')
   ·rw [hok] at hfin
    simp -dsimp only [go_sem]
    rw [show (if (c:Int)<(W:Int) then (c:Int) else (W:Int))=((min W c:Nat):Int) by split <;> omega]
    simp -dsimp (disch:=omega) only [wrap64]
    exact ⟨(c+1,min W c),by omega,by simp [Le,find],by omega,k5,by omega,_,_,k7,k8,hfin⟩
   ·rw [hok] at hfin
    simp -dsimp only [go_sem]
    simp -dsimp (disch:=omega) only [wrap64]
    exact ⟨(c+1,W),by omega,by simp [Le,find],by omega,k5,by omega,_,_,k7,k8,hfin⟩
 obtain rfl:c=g.lists:=by omega
 have t4:=t.fr p1
 simp -dsimp only [go_sem,t4.r.cell,Int.lt_irrefl]
 obtain ⟨ml,hm1,hmn,hmf⟩:=M1
 refine hm1.of ?_
 intro b7 h5 n7
 have a7:=n7.at_
 have z7:=n7.size
 have i7:=n7.get
 simp -dsimp only [go_sem]
 have hval:∀ (i:Nat) (k:Int) (v:Value),ml[i]?=some (k,v)→0<g.writesOf k∧v=.int .i64 ((g.writesOf k:Int) - M k):=fun i k v hi=>by
  have h1:=hmf k
  rw [mfind_get hmn hi] at h1
  unfold lf at h1
  split at h1
  ·cases h1
  ·simp only [Option.map_some,Option.some.injEq] at h1
   exact ⟨by omega,h1⟩
 have hall:∀ k:Int,0<g.writesOf k→∃ i v,ml[i]?=some (k,v):=fun k hk=>by
  have h1:=hmf k
  unfold lf at h1
  rw [if_neg (by omega)] at h1
  cases hf:mfind ml k with
  | none=>rw [hf] at h1;cases h1
  | some p=>obtain ⟨i,v⟩:=p;exact ⟨i,v,mfind_spec hf⟩
 refine loop_intro (fun s:Int×List Nat=>[(0,.pointer (some ⟨b,0,none⟩)),(7,.int .i64 g.lists),(8,.int .i64 s.1),(127,.pointer (some ⟨b7,0,none⟩))])
  (fun s h'=>Fr 0 0 h h'∧h5.size≤h'.size∧IterAt h' b7 b3 ml.length s.2∧MapAt h' b3 ml∧s.2.Nodup∧(∀ i,i∈s.2→i<ml.length)∧s.1≤(W:Int) ∧
   (∀ i k v,i∈s.2→ml[i]?=some (k,v)→0<(g.writesOf k:Int) - M k→s.1≤k)∧(s.1=(W:Int)∨0<g.writesOf s.1∧0<(g.writesOf s.1:Int) - M s.1)) (fun s=>ml.length - s.2.length) (W,[]) ?_ ?_ ?_
 ·simp [Le,find]
 ·exact ⟨p1.trans n7.fr,by omega,i7,hm1.fr n7.f0 (by omega),by simp,by simp,Int.le_refl _,by simp,.inl rfl⟩
 clear t4 p1 i7 r6
 rintro ⟨w,seen⟩ h6 ⟨p1,z6',i7,m7,hnd,hin,hw1,hw2,hw3⟩
 dsimp only at i7 hnd hin hw1 hw2 hw3 ⊢
 have hsl:seen.length≤ml.length:=by
  have:=nodup_le (l:=seen.map fun (i:Nat)=>(i:Int)) (m:=(List.range ml.length).map fun (i:Nat)=>(i:Int)) (by
   rw [List.Nodup,List.pairwise_map];exact hnd.imp fun h=>by omega) fun x hx=>by
   obtain ⟨i,hi,rfl⟩:=List.mem_map.1 hx
   exact List.mem_map.2 ⟨i,List.mem_range.2 (hin i hi),rfl⟩
  simpa using this
 simp -dsimp only [go_sem]
 refine ⟨b3,ml,seen,i7,m7,fun i k v hi hns h7 s7=>?_,fun hdone=>?_⟩
 ·obtain ⟨hpos,rfl⟩:=hval i k v hi
  have i8:=s7.get i7
  have m8:=m7.fr s7.fr (by omega)
  have p7:=p1.fresh s7.fr (by omega)
  have z8:=s7.size
  have hil:=(List.getElem?_eq_some_iff.1 hi).1
  have hnd':(seen++[i]).Nodup:=List.nodup_append.2 ⟨hnd,by simp,fun a ha b hb=>by simp at hb;subst hb;exact fun e=>hns (e▸ha)⟩
  have hin':∀ j,j∈seen++[i]→j<ml.length:=fun j hj=>by
   rcases List.mem_append.1 hj with h | h
   ·exact hin j h
   ·simp at h;omega
  have hsl':seen.length+1≤ml.length:=by
   have:=nodup_le (l:=(seen++[i]).map fun (i:Nat)=>(i:Int)) (m:=(List.range ml.length).map fun (i:Nat)=>(i:Int)) (by
    rw [List.Nodup,List.pairwise_map];exact hnd'.imp fun h=>by omega) fun x hx=>by
    obtain ⟨j,hj,rfl⟩:=List.mem_map.1 hx
    exact List.mem_map.2 ⟨j,List.mem_range.2 (hin' j hj),rfl⟩
   simpa using this
  simp -dsimp only [go_sem]
  refine ⟨b3,ml,seen,i,k,_,i8,m8,hi,?_⟩
  by_cases hgt:(g.writesOf k:Int) - M k > 0
  ·simp -dsimp only [go_sem,hgt]
   refine ⟨(if k<w then k else w,seen++[i]),by simp;omega,by simp [Le,find],p7,by omega,i8,m8,hnd',hin',by dsimp only;split <;> omega,fun j k' v' hj hj' hp=>?_,?_⟩
   ·dsimp only at hj ⊢
    rcases List.mem_append.1 hj with h | h
    ·have:=hw2 j k' v' h hj' hp;split <;> omega
    ·simp at h;subst h;rw [hi] at hj';cases hj';split <;> omega
   ·dsimp only
    split
    ·exact .inr ⟨hpos,hgt⟩
    ·exact hw3
  ·simp -dsimp only [go_sem,hgt]
   refine ⟨(w,seen++[i]),by simp;omega,by simp [Le,find],p7,by omega,i8,m8,hnd',hin',hw1,fun j k' v' hj hj' hp=>?_,hw3⟩
   dsimp only at hj ⊢
   rcases List.mem_append.1 hj with h | h
   ·exact hw2 j k' v' h hj' hp
   ·simp at h;subst h;rw [hi] at hj';cases hj';omega
 ·have hfinal:=co_end st hw hw1 (fun k hk hp=>by
   obtain ⟨i,v,hi⟩:=hall k hk
   exact hw2 i k v (hdone i (List.getElem?_eq_some_iff.1 hi).1) hi hp) hw3
  subst hfinal
  have t6:=t.fr p1
  have hcf:g.coFirst≤g.lists:=by
   have:=st.w1;omega
  have hca:g.coAt=if g.coFirst<g.lists∨(g.co.length:Int)≠g.cells then (g.coFirst:Int) else -1:=rfl
  by_cases hlt2:g.coFirst<g.lists
  ·have e3:((g.coFirst:Int)<(g.lists:Int)):=by omega
   simp -dsimp only [go_sem,e3,t6.r.cell]
   exact ⟨p1,by rw [hca,if_pos (.inl hlt2)]⟩
  ·have e3:¬ ((g.coFirst:Int)<(g.lists:Int)):=by omega
   by_cases hne:(g.co.length:Int)=g.cells
   ·simp -dsimp only [go_sem,e3,t6.r.cell,bne_t hne]
    exact ⟨p1,by rw [hca,if_neg (by omega)]⟩
   ·simp -dsimp only [go_sem,e3,t6.r.cell,bne_f hne]
    exact ⟨p1,by rw [hca,if_pos (.inr hne)]⟩
end Go.Proofs.Tst
/-
  Events, the last one first.
-/
namespace Go.Proofs.Tst
open Go Go.Vc
def backXs (g:Gr):List (List Value):=(List.range g.n).map fun d=>[.int .i64 ((g.n - 1 - d:Nat):Int),.agg (g.ev (g.n - 1 - d)).cells.toArray]
theorem backXs_get {g:Gr} {d:Nat} (hd:d<g.n):(backXs g)[d]?=some [.int .i64 ((g.n - 1 - d:Nat):Int),.agg (g.ev (g.n - 1 - d)).cells.toArray]:=by simp [backXs,hd]
theorem backXs_len (g:Gr):(backXs g).length=g.n:=by simp [backXs]
theorem slices_Backward {a:Option Addr} {n c:Nat} {h:Heap}:Con Tryd.prog 81 #[.slice a n c] h fun v h'=>Fr 0 0 h h'∧v=.func (.func 132) #[] #[.pointer (some ⟨h.size,0,none⟩)]∧Rw h' h.size [.slice a n c]∧h'.size=h.size+1:=by
 refine con_q146 ?_
 simp -dsimp only [go_sem]
 intro b h1 n1
 have r1:=n1.row
 have a1:=n1.at_
 subst a1
 simp -dsimp only [go_sem]
 exact ⟨n1.fr,r1,n1.size⟩
theorem backward_1 {b:Nat} {q:Option Addr} {c:Nat} {g:Gr} (hn:g.n≤4611686018427387904) :
  Iter Tryd.prog 132 #[.pointer (some ⟨b,0,none⟩)] (backXs g) (fun h=>Rw h b [.slice q g.n c]∧Rd 5 h (.slice q g.n c) g.n (evsV g.evs)):=by
 refine ⟨by unfold goodF;rw [Tryd.func132];rfl,fun lo I X hy h hI hC=>?_⟩
 show ConX (some lo) Tryd.prog 132 #[.func (.yield lo) #[] #[],.pointer (some ⟨b,0,none⟩)] h _
 refine con_q147 ?_
 simp -dsimp only [go_sem,hC.1.cell]
 simp -dsimp (disch:=omega) only [wrap64]
 refine loop_intro (fun d:Nat=>[(0,.func (.yield lo) #[] #[]),(1,.pointer (some ⟨b,0,none⟩)),(3,.int .i64 ((g.n:Int) - 1 - d))])
  (fun d h'=>d≤g.n∧(Rw h' b [.slice q g.n c]∧Rd 5 h' (.slice q g.n c) g.n (evsV g.evs))∧I d h') (fun d=>g.n - d) 0 ?_ ?_ ?_
 ·simp [Le,find]
 ·exact ⟨by omega,hC,hI⟩
 rintro d h1 ⟨hd,hC1,hI1⟩
 by_cases hlt:d<g.n
 ·have e1:((g.n:Int) - 1 - d)≥0:=by omega
  have e2:((g.n:Int) - 1 - d)=((g.n - 1 - d:Nat):Int):=by omega
  have hdx:=backXs_get hlt
  have hev:=evsV_get (Gr.ev_get (show g.n - 1 - d<g.n by omega))
  rw [e2] at e1 ⊢
  generalize hk:g.n - 1 - d=k at *
  simp -dsimp only [go_sem,e1,hC1.1.cell]
  refine Chk_intro (by omega) (hC1.2.idx (by omega) fun b2 o2 c2=>?_)
  have k0:hcell h1 b2 (o2+k * 5)=some (.int .i64 (g.ev k).thread):=c2 _ _ (by have:=hev 0 (by omega);rw [Nat.add_zero] at this;rw [this];rfl)
  have k1:hcell h1 b2 (o2+k * 5+1)=some (.int .i64 (g.ev k).kind):=by rw [Nat.add_assoc];exact c2 _ _ (by rw [hev 1 (by omega)];rfl)
  have k2:hcell h1 b2 (o2+k * 5+2)=some (.int .i64 (g.ev k).loc):=by rw [Nat.add_assoc];exact c2 _ _ (by rw [hev 2 (by omega)];rfl)
  have k3:hcell h1 b2 (o2+k * 5+3)=some (.int .u64 (g.ev k).val):=by rw [Nat.add_assoc];exact c2 _ _ (by rw [hev 3 (by omega)];rfl)
  have k4:hcell h1 b2 (o2+k * 5+4)=some (.int .i64 (g.ev k).mode):=by rw [Nat.add_assoc];exact c2 _ _ (by rw [hev 4 (by omega)];rfl)
  simp -dsimp only [go_sem,k0,k1,k2,k3,k4]
  refine yld_of (hy d _ _ hdx hI1 hC1) ?_
  rintro v h4 (⟨rfl,hI4,hC4⟩ | ⟨rfl,hX4⟩)
  ·simp -dsimp only [go_sem]
   rw [show IntKind.i64.wrap ((k:Int) - 1)=(g.n:Int) - 1 - ((d+1:Nat):Int) by rw [wrap64 (by omega) (by omega)];omega]
   exact ⟨d+1,by omega,by simp [Le,find],by omega,hC4,hI4⟩
  ·simp -dsimp only [go_sem]
   exact .inr hX4
 ·obtain rfl:d=g.n:=by omega
  have e1:¬ ((g.n:Int) - 1 - (g.n:Int))≥0:=by omega
  simp -dsimp only [go_sem,e1]
  refine .inl ⟨?_,hC1⟩
  rw [backXs_len]
  exact hI1
theorem back_intro {P':Program} {asg body:GC} {Q:Post} {e:Env} {h:Heap} {k1 k2 bk:Nat} {q:Option Addr} {c:Nat} {g:Gr} (hP:P'=Tryd.prog) (hn:g.n≤4611686018427387904)
  (h0C:Rw h bk [.slice q g.n c]∧Rd 5 h (.slice q g.n c) g.n (evsV g.evs))
  (J:Nat→Heap→Prop) (keep:∀ d h',J d h'→Rw h' bk [.slice q g.n c]∧Rd 5 h' (.slice q g.n c) g.n (evsV g.evs))
  (jext:∀ i h1 h2,Ext h.size h1 h2→J i h1→J i h2) (h0:J 0 h)
  (step:∀ d h1,h.size≤h1.size→d<g.n→J d h1 →
   vc P' none asg (thenQ (fun e2 h2=>∀ h2',Ext h.size h2 h2'→vc P' none body (roundQ (fun h3=>J (d+1) h3) fun _ _=>False) e2 h2') (fun _ _ _=>False)) ((k2,.agg (g.ev (g.n - 1 - d)).cells.toArray) :: (k1,.int .i64 ((g.n - 1 - d:Nat):Int)) :: e) h1)
  (fin:∀ h',h.size≤h'.size→J g.n h'→Q .normal e h') :
  ∃ (xs:List (List Value)) (C:Heap→Prop) (I:Nat→Heap→Prop) (X:GX→Heap→Prop),
   Iter P' 132 #[.pointer (some ⟨bk,0,none⟩)] xs C∧(∀ x∈xs,x.length=[k1,k2].length) ∧
   (∀ h1 h2,Ext h.size h1 h2→C h1→C h2)∧(∀ i h1 h2,Ext h.size h1 h2→I i h1→I i h2)∧(∀ x h1 h2,Ext h.size h1 h2→X x h1→X x h2) ∧
   I 0 h∧C h ∧
   (∀ i x h1,h.size≤h1.size→xs[i]?=some x→I i h1→C h1→vc P' none asg (thenQ (fun e2 h2=>∀ h2',Ext h.size h2 h2'→vc P' none body (roundQ (fun h3=>I (i+1) h3∧C h3) X) e2 h2') (fun _ _ _=>False)) (zipE [k1,k2] x e) h1) ∧
   (∀ h',h.size≤h'.size→I xs.length h'→C h'→Q .normal e h') ∧
   (∀ x h',h.size≤h'.size→X x h'→x≠.normal∧Q x e h'):=by
 subst hP
 refine ⟨_,_,J,fun _ _=>False,backward_1 (b:=bk) (q:=q) (c:=c) hn,?_,?_,jext,fun _ _ _ _ h=>h,h0,h0C,?_,?_,fun _ _ _ h=>h.elim⟩
 ·intro x hx;unfold backXs at hx;obtain ⟨d,_,rfl⟩:=List.mem_map.1 hx;rfl
 ·rintro h1 h2 x ⟨c1,c2⟩;exact ⟨x.rw c1,x.rd c2⟩
 ·rintro d x h1 hs hx hJ hC
  have hd:d<g.n:=by have:=(List.getElem?_eq_some_iff.1 hx).1;rwa [backXs_len] at this
  rw [backXs_get hd] at hx
  cases hx
  refine vc_mono (fun x e2 h2 h3=>?_) (step d h1 hs hd hJ)
  cases x with
  | normal =>
   intro h2' x'
   refine vc_mono (fun x e4 h4 h5=>?_) (h3 h2' x')
   cases x with
   | normal=>exact ⟨h5,keep _ _ h5⟩
   | ret=>exact h5
   | exit j=>exact h5
  | ret=>exact h3
  | exit j=>exact h3
 ·intro h' hs hJ hC
  rw [backXs_len] at hJ
  exact fin h' hs hJ
end Go.Proofs.Tst
/-
  Check.
-/
namespace Go.Proofs.Tst
open Go Go.Vc
def irow (n:Nat) (F:Nat→Int):List Value:=(List.range n).map fun j=>.int .i64 (F j)
@[simp] theorem length_irow (n:Nat) (F:Nat→Int):(irow n F).length=n:=by simp [irow]
theorem irow_set {n:Nat} {F:Nat→Int} {j:Nat} {v:Int}:(irow n F).set j (.int .i64 v)=irow n (fun k=>if k=j then v else F k):=by
 apply List.ext_getElem?
 intro k
 unfold irow
 rw [List.getElem?_set]
 by_cases hk:j=k
 ·subst hk
  by_cases hl:j<n
  ·simp [hl]
  ·simp [hl]
 ·by_cases hl:k<n
  ·have:¬ k=j:=fun h=>hk h.symm
   simp [hk,hl,this]
  ·simp [hk,hl]
theorem irow_ints (n:Nat) (F:Nat→Int):irow n F=intsV ((List.range n).map F):=by simp [irow,intsV]
def lastTo (g:Gr) (d:Nat) (x:Int):Option Value:=((List.range' (g.n - d) d).find? fun j=>(g.ev j).thread==x).map fun (j:Nat)=>.int .i64 (j:Int)
def nextTo (g:Gr) (d:Nat) (j:Nat):Int:=if g.n - d≤j then nextOf g j else 0
theorem lastTo_next {g:Gr} {d:Nat} (hd:d<g.n) (x:Int):lastTo g (d+1) x=if x=(g.ev (g.n - 1 - d)).thread then some (.int .i64 ((g.n - 1 - d:Nat):Int)) else lastTo g d x:=by
 unfold lastTo
 have e1:g.n - (d+1)=g.n - 1 - d:=by omega
 have e2:g.n - d=(g.n - 1 - d)+1:=by omega
 rw [e1,e2,List.range'_succ,List.find?_cons]
 by_cases hx:x=(g.ev (g.n - 1 - d)).thread
 ·subst hx;simp
 ·have:((g.ev (g.n - 1 - d)).thread==x)=false:=by simpa using fun h=>hx h.symm
  rw [this,if_neg hx]
theorem nextOf_last {g:Gr} {d:Nat} (hd:d<g.n):nextOf g (g.n - 1 - d)=if 0≤(g.ev (g.n - 1 - d)).thread then (match (List.range' (g.n - d) d).find? (fun j=>(g.ev j).thread==(g.ev (g.n - 1 - d)).thread) with | some j=>(j:Int) | none=>-1) else -1:=by
 unfold nextOf
 have e1:g.n - 1 - d+1=g.n - d:=by omega
 have e2:g.n - (g.n - d)=d:=by omega
 rw [e1,e2] <;> rfl
theorem nexts_irow (g:Gr):irow g.n (nextTo g g.n)=intsV (nexts g):=by
 rw [irow_ints];unfold nexts;congr 1
 apply List.map_congr_left;intro j hj;rw [List.mem_range] at hj
 unfold nextTo;rw [if_pos (by omega)]
theorem sizeF {g:Gr} (h1:0≤g.cells) (h2:g.cells≤4096) (h3:g.cells≤(g.n:Int)) (h4:g.n≤256):g.size=true:=by
 unfold Gr.size;rw [dec_t h1,dec_t h2,dec_t h3,dec_t h4];rfl
theorem first_eq (e:Ev) (words:Bool) (i:Nat):(e.thread == -1&&(e.kind==2&&(e.loc==(i:Int)&&(e.val==0&&e.mode==if words=true then 11 else 1))))=(e==Gr.first words i):=by
 rw [Bool.eq_iff_iff]
 simp only [Bool.and_eq_true,beq_iff_eq]
 unfold Gr.first
 constructor
 ·rintro ⟨h1,h2,h3,h4,h5⟩
  cases e
  simp only at *
  subst h1 h2 h3 h4 h5
  rfl
 ·rintro rfl
  exact ⟨rfl,rfl,rfl,rfl,rfl⟩
theorem kinds1:(fun k:Int=>List.contains [2] k)=(fun k=>k==2):=by funext k;rw [Bool.eq_iff_iff];simp
theorem kinds2:(fun k:Int=>List.contains [1,2] k)=(fun k=>k==1||k==2):=by funext k;rw [Bool.eq_iff_iff];simp
theorem kinds3:(fun k:Int=>List.contains [1,2,3] k)=(fun k=>k==1||k==2||k==3):=by funext k;rw [Bool.eq_iff_iff];simp [or_assoc]
theorem write_loc {g:Gr} {words:Bool} (hs:g.size=true) (h1:¬ 0≤g.initAt words) (h2:¬ 0≤g.evAt words):∀ i,i<g.n→(g.ev i).kind=2→0≤(g.ev i).loc:=by
 have key:∀ (f:Nat→Bool) (d i:Nat),¬ 0≤Gr.firstEv f d i→∀ j,i≤j→j<i+d→f j=false:=by
  intro f d
  induction d with
  | zero=>intro i _ j h1 h2;omega
  | succ d ih =>
   intro i h j hj1 hj2
   cases hf:f i
   ·rw [firstEv_ok hf] at h
    by_cases hji:j=i
    ·subst hji;exact hf
    ·exact ih (i+1) h j (by omega) (by omega)
   ·rw [firstEv_bad hf] at h;omega
 simp only [Gr.size,Bool.and_eq_true,decide_eq_true_eq] at hs
 obtain ⟨⟨⟨s1,s2⟩,s3⟩,s4⟩:=hs
 intro i hi hk
 by_cases hc:i<g.cells.toNat
 ·have:=key _ _ _ h1 i (by omega) (by omega)
  simp only [Bool.not_eq_false',beq_iff_eq] at this
  rw [this];unfold Gr.first;dsimp only;omega
 ·have:=key _ _ _ h2 i (by omega) (by omega)
  simp only [Bool.not_eq_false'] at this
  unfold Gr.evOk at this
  rw [if_neg (by omega)] at this
  simp only [Bool.and_eq_true,decide_eq_true_eq] at this
  exact this.2.1
theorem graph_Check {h:Heap} {q:GV} {g:Gr} (t:GrAt h q g) (words:Bool) :
  Con Tryd.prog 43 #[.agg (gcells q g).toArray,.bool words] h fun v h'=>Fr 0 0 h h'∧v=.tuple #[.int .i64 (g.check words).1,.int .i64 (g.check words).2]:=by
 refine con_q11 (fun v h1 h2 x ⟨f,e⟩=>⟨x.fr f (Nat.le_refl _),e⟩) ?_
 have hen:g.evs.length=g.n:=rfl
 have hfe:=t.fits.e
 unfold gcells
 have p0:Fr 0 0 h h:=.refl _ _ _
 have p0_z:=p0.size
 simp -dsimp only [go_sem]
 intro b2 h1 n2
 have n2_z:=n2.az
 replace p0:=p0.F n2.f0
 have r2:=n2.row
 have t1:=t.fr p0
 by_cases s1:0≤g.cells
 rotate_left
 ·have e1:g.cells<0:=by omega
  simp -dsimp only [go_sem,e1,r2.cell]
  refine ⟨p0,?_⟩
  have:g.check words=(1,0):=by unfold Gr.check Gr.size;rw [dec_f s1];rfl
  rw [this]
 have e1:¬ g.cells<0:=by omega
 by_cases s2:g.cells≤4096
 rotate_left
 ·have e2:g.cells > 4096:=by omega
  simp -dsimp only [go_sem,e1,e2,r2.cell]
  refine ⟨p0,?_⟩
  have:g.check words=(1,0):=by unfold Gr.check Gr.size;rw [dec_f s2,Bool.and_false];rfl
  rw [this]
 have e2:¬ g.cells > 4096:=by omega
 by_cases s3:g.cells≤(g.n:Int)
 rotate_left
 ·have e3:(g.n:Int)<g.cells:=by omega
  simp -dsimp only [go_sem,e1,e2,e3,evs_len,r2.cell]
  refine ⟨p0,?_⟩
  have:g.check words=(1,0):=by unfold Gr.check Gr.size;rw [dec_f s3,Bool.and_false];rfl
  rw [this]
 have e3:¬ (g.n:Int)<g.cells:=by omega
 by_cases s4:g.n≤256
 rotate_left
 ·have e4:(g.n:Int) > 256:=by omega
  simp -dsimp only [go_sem,e1,e2,e3,e4,evs_len,r2.cell]
  refine ⟨p0,?_⟩
  have:g.check words=(1,0):=by unfold Gr.check Gr.size;rw [dec_f s4,Bool.and_false];rfl
  rw [this]
 have e4:¬ (g.n:Int) > 256:=by omega
 have hsz:=sizeF s1 s2 s3 s4
 obtain ⟨c,hc⟩:=Int.eq_ofNat_of_zero_le s1
 simp -dsimp only [go_sem,e1,e2,e3,e4,evs_len,r2.cell]
 intro b6 h3 n6
 have n6_z:=n6.az
 replace p0:=p0.F n6.f0
 replace r2:=r2.F n6.f0
 have r6:=n6.row
 simp -dsimp only [go_sem,r2.cell,r6.cell]
 refine Chk_intro (r6.W) fun h4 s4'=>?_
 have s4'_z:=s4'.size
 replace p0:=p0.fresh s4'.fr (by omega)
 replace r2:=r2.fr s4'.fr (by omega)
 replace r6:=s4'.row r6
 try simp only [cl_int,cl_bool,cl_slice,cl_ptr,putAt_one,zs0,zs1,ivec_set,brow_upd] at r6
 simp -dsimp only [go_sem] at r6
 simp -dsimp only [go_sem,r2.cell,r6.cell]
 refine If_joint (fun _:Unit=>[(1,.bool words),(2,.pointer (some ⟨b2,0,none⟩)),(4,.int .i64 0),(5,.int .i64 0),(6,.pointer (some ⟨b6,0,none⟩))])
  (fun _ h'=>Fr 0 0 h h'∧h'.size=h4.size∧Rw h' b2 (gcells q g)∧Rw h' b6 [.int .i64 (-1),.int .i64 2,.int .i64 0,.int .u64 0,.int .i64 (if words then 11 else 1)]) (fun hw=>?_) (fun hw=>?_) ?_
 ·subst hw
  simp -dsimp only [go_sem,r2.cell,r6.cell]
  refine Chk_intro (r6.W) fun h5 s5=>?_
  have s5_z:=s5.size
  replace p0:=p0.F s5.fr
  replace r2:=r2.F s5.fr
  replace r6:=s5.row r6
  try simp only [cl_int,cl_bool,cl_slice,cl_ptr,putAt_one,zs0,zs1,ivec_set,brow_upd] at r6
  simp -dsimp only [go_sem,r2.cell,r6.cell]
  exact ⟨(),by simp [Le,find],p0,by omega,r2,r6⟩
 ·have hw:words=false:=by simpa using hw
  subst hw
  simp -dsimp only [go_sem,r2.cell,r6.cell]
  exact ⟨(),by simp [Le,find],p0,r2,r6⟩
 clear r2 r6 p0 t1
 rintro ⟨⟩ h5 ⟨p0,z5,r2,r6⟩ e ⟨el1,el2,el4,el5,el6,-⟩
 unfold gcells at r2
 have p0_z:=p0.size
 have r2_l:=r2.lt
 have r6_l:=r6.lt
 simp -dsimp only [go_sem,el1,el2,el4,el5,el6,hc,r2.cell,r6.cell]
 refine loop_intro (fun s:Nat×Int=>[(1,.bool words),(2,.pointer (some ⟨b2,0,none⟩)),(4,.int .i64 0),(5,.int .i64 0),(6,.pointer (some ⟨b6,0,none⟩)),(47,.int .i64 c),(48,.int .i64 s.1)])
  (fun s h'=>s.1≤c∧Fr 0 0 h h'∧h'.size=h5.size∧Rw h' b2 (gcells q g)∧Rw h' b6 [.int .i64 (-1),.int .i64 2,.int .i64 s.2,.int .u64 0,.int .i64 (if words then 11 else 1)]∧g.initAt words=Gr.firstEv (fun c=>!(g.ev c==Gr.first words c)) (c - s.1) s.1) (fun s=>c - s.1) (0,0) ?_ ?_ ?_
 ·simp [Le,find]
 ·exact ⟨by omega,p0,rfl,r2,r6,by unfold Gr.initAt;rw [hc];rfl⟩
 clear r2 r6 p0
 rintro ⟨i,lv⟩ h6 ⟨hi,p0,z6,r2,r6,hat⟩
 dsimp only at hi r6 hat ⊢
 unfold gcells at r2
 have p0_z:=p0.size
 have r2_l:=r2.lt
 have r6_l:=r6.lt
 by_cases hlt:i<c
 ·have f1:((i:Int)<(c:Int)):=by omega
  obtain ⟨d,hd⟩:∃ d,c - i=d+1:=⟨c - i - 1,by omega⟩
  rw [hd] at hat
  have hd2:d=c - (i+1):=by omega
  simp -dsimp only [go_sem,f1,r2.cell,r6.cell]
  refine Chk_intro (r6.W) fun h7 s7=>?_
  have s7_z:=s7.size
  replace p0:=p0.F s7.fr
  replace r2:=r2.F s7.fr
  replace r6:=s7.row r6
  try simp only [cl_int,cl_bool,cl_slice,cl_ptr,putAt_one,zs0,zs1,ivec_set,brow_upd] at r6
  obtain ⟨eb,eo,he,hev⟩:=t.evs (by omega)
  obtain ⟨c0,c1,c2,c3,c4⟩:=hev h7 p0 i (by omega)
  simp -dsimp only [go_sem,he,evs_len,r2.cell,r6.cell]
  refine Chk_intro (by omega) ?_
  simp -dsimp only [go_sem,c0,c1,c2,c3,c4,r2.cell,r6.cell]
  rw [first_eq]
  cases hb:(g.ev i==Gr.first words i)
  ·simp -dsimp only [go_sem,r2.cell,r6.cell]
   refine ⟨p0,?_⟩
   have hia:g.initAt words=(i:Int):=by rw [hat,firstEv_bad (by rw [hb];rfl)]
   have:g.check words=(2,(i:Int)):=by unfold Gr.check;rw [hsz,hia,if_neg (by simp),if_pos (by omega)]
   rw [this]
  ·simp -dsimp only [go_sem,r2.cell,r6.cell]
   simp -dsimp (disch:=omega) only [wrap64]
   exact ⟨(i+1,i),by omega,by simp [Le,find],by omega,p0,by omega,r2,r6,by rw [hat,firstEv_ok (by rw [hb];rfl),hd2]⟩
 obtain rfl:i=c:=by omega
 rw [Nat.sub_self] at hat
 have hia:¬ 0≤g.initAt words:=by rw [hat];simp [Gr.firstEv]
 have t6:=t.fr p0
 simp -dsimp only [go_sem,Int.lt_irrefl,r2.cell,r6.cell]
 have hir:List.replicate g.n (Value.int .i64 0)=irow g.n fun _=>0:=by
  apply List.ext_getElem?;intro k;by_cases hk:k<g.n <;> simp [irow,hk]
 refine rvc_joint (fun s:Nat×Nat×Nat=>[(2,.pointer (some ⟨b2,0,none⟩)),(4,.int .i64 0),(5,.int .i64 0),(8,.pointer (some ⟨s.1,0,none⟩))])
  (fun s h'=>Fr 0 0 h h'∧h.size≤s.1∧h.size≤s.2.1∧h.size≤s.2.2∧s.1≠s.2.1∧s.1≠s.2.2∧s.2.1≠s.2.2∧b2≠s.2.2∧Rw h' b2 (gcells q g)∧Rw h' s.1 [.pointer (some ⟨s.2.1,0,none⟩)] ∧
   Rw h' s.2.1 [.int .i64 g.cells,.slice q.e g.evs.length q.ec,.slice q.f g.rf.length q.fc,.slice q.o g.co.length q.oc,.slice q.r g.rmw.length q.rc,.slice q.a g.addr.length q.ac,.slice q.d g.data.length q.dc,.slice q.c g.ctrl.length q.cc,.bool words,.slice (some ⟨s.2.2,0,none⟩) g.n g.n] ∧
   Rw h' s.2.2 (irow g.n fun _=>0)) ?_ ?_
 ·have p0_z:=p0.size
  have r2_l:=r2.lt
  simp -dsimp only [go_sem,r_two,evs_len,r2.cell]
  refine ⟨?_,?_⟩
  ·refine Chk_intro (by omega) ?_
   rw [zeros_one,Int.toNat_natCast,hir]
   intro nb h7 n7
   have n7_a:=n7.at_
   have n7_z:=n7.size
   replace p0:=p0.F n7.f0
   replace r2:=r2.F n7.f0
   have rn:=n7.row
   simp -dsimp only [go_sem,r_two,r2.cell,rn.cell]
   refine ⟨?_,?_⟩
   ·intro lb h8 n8
    have n8_a:=n8.at_
    have n8_z:=n8.size
    replace p0:=p0.F n8.f0
    replace r2:=r2.F n8.f0
    replace rn:=rn.F n8.f0
    have rl:=n8.row
    simp -dsimp only [go_sem,r2.cell,rn.cell,rl.cell]
    intro b8 h9 n9
    have n9_a:=n9.at_
    have n9_z:=n9.size
    replace p0:=p0.F n9.f0
    replace r2:=r2.F n9.f0
    replace rn:=rn.F n9.f0
    replace rl:=rl.F n9.f0
    have r8:=n9.row
    simp -dsimp only [go_sem,r2.cell,rn.cell,rl.cell,r8.cell]
    refine Chk_intro (r8.W) fun h10 s10=>?_
    have s10_z:=s10.size
    replace p0:=p0.F s10.fr
    replace r2:=r2.F s10.fr
    replace rn:=rn.F s10.fr
    replace rl:=rl.F s10.fr
    replace r8:=s10.row r8
    try simp only [cl_int,cl_bool,cl_slice,cl_ptr,putAt_one,zs0,zs1,ivec_set,brow_upd] at r8
    simp -dsimp only [go_sem,r2.cell,rn.cell,rl.cell,r8.cell]
    exact ⟨(b8,lb,nb),by simp [Le,find],p0,by first | omega | (dsimp only;omega),by first | omega | (dsimp only;omega),by first | omega | (dsimp only;omega),by dsimp only;omega,by dsimp only;omega,by dsimp only;omega,by dsimp only;omega,r2,r8,rl,rn⟩
   ·intro b8 h8 n8
    have n8_a:=n8.at_
    have n8_z:=n8.size
    replace p0:=p0.F n8.f0
    replace r2:=r2.F n8.f0
    replace rn:=rn.F n8.f0
    have r8:=n8.row
    simp -dsimp only [go_sem,r2.cell,rn.cell,r8.cell]
    intro lb h9 n9
    have n9_a:=n9.at_
    have n9_z:=n9.size
    replace p0:=p0.F n9.f0
    replace r2:=r2.F n9.f0
    replace rn:=rn.F n9.f0
    replace r8:=r8.F n9.f0
    have rl:=n9.row
    simp -dsimp only [go_sem,r2.cell,rn.cell,r8.cell,rl.cell]
    refine Chk_intro (r8.W) fun h10 s10=>?_
    have s10_z:=s10.size
    replace p0:=p0.F s10.fr
    replace r2:=r2.F s10.fr
    replace rn:=rn.F s10.fr
    replace rl:=rl.F s10.fr
    replace r8:=s10.row r8
    try simp only [cl_int,cl_bool,cl_slice,cl_ptr,putAt_one,zs0,zs1,ivec_set,brow_upd] at r8
    simp -dsimp only [go_sem,r2.cell,rn.cell,r8.cell,rl.cell]
    exact ⟨(b8,lb,nb),by simp [Le,find],p0,by first | omega | (dsimp only;omega),by first | omega | (dsimp only;omega),by first | omega | (dsimp only;omega),by dsimp only;omega,by dsimp only;omega,by dsimp only;omega,by dsimp only;omega,r2,r8,rl,rn⟩
  ·intro b8 h7 n7
   have n7_a:=n7.at_
   have n7_z:=n7.size
   replace p0:=p0.F n7.f0
   replace r2:=r2.F n7.f0
   have r8:=n7.row
   simp -dsimp only [go_sem,evs_len,r2.cell,r8.cell]
   refine Chk_intro (by omega) ?_
   rw [zeros_one,Int.toNat_natCast,hir]
   intro nb h8 n8
   have n8_a:=n8.at_
   have n8_z:=n8.size
   replace p0:=p0.F n8.f0
   replace r2:=r2.F n8.f0
   replace r8:=r8.F n8.f0
   have rn:=n8.row
   simp -dsimp only [go_sem,r2.cell,r8.cell,rn.cell]
   intro lb h9 n9
   have n9_a:=n9.at_
   have n9_z:=n9.size
   replace p0:=p0.F n9.f0
   replace r2:=r2.F n9.f0
   replace r8:=r8.F n9.f0
   replace rn:=rn.F n9.f0
   have rl:=n9.row
   simp -dsimp only [go_sem,r2.cell,r8.cell,rn.cell,rl.cell]
   refine Chk_intro (r8.W) fun h10 s10=>?_
   have s10_z:=s10.size
   replace p0:=p0.F s10.fr
   replace r2:=r2.F s10.fr
   replace rn:=rn.F s10.fr
   replace rl:=rl.F s10.fr
   replace r8:=s10.row r8
   try simp only [cl_int,cl_bool,cl_slice,cl_ptr,putAt_one,zs0,zs1,ivec_set,brow_upd] at r8
   simp -dsimp only [go_sem,r2.cell,r8.cell,rn.cell,rl.cell]
   exact ⟨(b8,lb,nb),by simp [Le,find],p0,by first | omega | (dsimp only;omega),by first | omega | (dsimp only;omega),by first | omega | (dsimp only;omega),by dsimp only;omega,by dsimp only;omega,by dsimp only;omega,by dsimp only;omega,r2,r8,rl,rn⟩
 clear r2 r6 p0 t6
 rintro ⟨b8,lb,nb⟩ h7 ⟨p0,k1,k2,k3,k4,k5,k6,k7,r2,r8,rl,rn⟩ e ⟨el2,el4,el5,el8,-⟩
 dsimp only at k1 k2 k3 k4 k5 k6 k7 r8 rl rn el8
 unfold gcells at r2
 have p0_z:=p0.size
 have r2_l:=r2.lt
 have r8_l:=r8.lt
 have rl_l:=rl.lt
 have rn_l:=rn.lt
 simp -dsimp only [go_sem,el2,el4,el5,el8,r2.cell,r8.cell,rl.cell,rn.cell]
 intro b3 h8 n8
 have z8:=n8.size
 have a8:=n8.at_
 have M1:=n8.mapF
 have f8:Fr 0 0 h7 h8:=n8.fr
 have f8_z:=f8.size
 replace p0:=p0.F f8
 replace r2:=r2.F f8
 replace r8:=r8.F f8
 replace rl:=rl.F f8
 replace rn:=rn.F f8
 simp -dsimp only [go_sem,r2.cell,r8.cell,rl.cell,rn.cell]
 intro b9 h9 n9
 have n9_a:=n9.at_
 have n9_z:=n9.size
 replace p0:=p0.F n9.f0
 replace r2:=r2.F n9.f0
 replace r8:=r8.F n9.f0
 replace rl:=rl.F n9.f0
 replace rn:=rn.F n9.f0
 have r9:=n9.row
 replace M1:=M1.fr n9.f0 (by omega)
 simp -dsimp only [go_sem,r2.cell,r8.cell,rl.cell,rn.cell,r9.cell]
 refine Chk_intro (r9.W) fun h10 s10=>?_
 have s10_z:=s10.size
 replace p0:=p0.F s10.fr
 replace r2:=r2.F s10.fr
 replace r8:=r8.F s10.fr
 replace rl:=rl.F s10.fr
 replace rn:=rn.F s10.fr
 replace r9:=s10.row r9
 try simp only [cl_int,cl_bool,cl_slice,cl_ptr,putAt_one,zs0,zs1,ivec_set,brow_upd] at r9
 replace M1:=M1.fr s10.fr (by omega)
 simp -dsimp only [go_sem,r2.cell,r8.cell,rl.cell,rn.cell,r9.cell]
 refine call_of (slices_Backward) ?_
 rintro v11 h11 ⟨f11,rfl,rk,z11⟩
 have f11_z:=f11.size
 replace p0:=p0.F f11
 replace r2:=r2.F f11
 replace r8:=r8.F f11
 replace rl:=rl.F f11
 replace rn:=rn.F f11
 replace r9:=r9.F f11
 have M1l:=M1.lt
 replace M1:=M1.fr f11 (by omega)
 generalize hbk:h10.size=bk at rk
 have rl_k:=rk.lt
 have t11:=t.fr p0
 rw [hen] at rk
 simp -dsimp only [go_sem,r2.cell,r8.cell,rl.cell,rn.cell,r9.cell]
 refine ⟨rfl,back_intro rfl (by omega) ⟨rk,t11.e⟩
  (fun d h'=>Fr 0 0 h h'∧h11.size≤h'.size∧Rw h' b2 (gcells q g)∧Rw h' b8 [.pointer (some ⟨lb,0,none⟩)]∧Rw h' lb [.int .i64 g.cells,.slice q.e g.evs.length q.ec,.slice q.f g.rf.length q.fc,.slice q.o g.co.length q.oc,.slice q.r g.rmw.length q.rc,.slice q.a g.addr.length q.ac,.slice q.d g.data.length q.dc,.slice q.c g.ctrl.length q.cc,.bool words,.slice (some ⟨nb,0,none⟩) g.n g.n] ∧
   Rw h' nb (irow g.n (nextTo g d))∧Rw h' b9 [.map (some b3)]∧MapF h' b3 (lastTo g d)∧Rw h' bk [.slice q.e g.n q.ec]) ?_ ?_ ?_ ?_ ?_⟩
 ·rintro d h' ⟨q0,-,-,-,-,-,-,-,q8⟩;exact ⟨q8,(t.fr q0).e⟩
 ·rintro d h2 h3 x ⟨q0,q1,q2,q3,q4,q5,q6,q7,q8⟩;exact ⟨x.fr q0 (by omega),Nat.le_trans q1 x.size,x.rw q2,x.rw q3,x.rw q4,x.rw q5,x.rw q6,x.mapF q7,x.rw q8⟩
 ·refine ⟨p0,by omega,r2,r8,rl,?_,r9,M1.congr fun x=>by unfold lastTo;simp,rk⟩
  have:irow g.n (nextTo g 0)=irow g.n fun _=>0:=by
   unfold irow;apply List.map_congr_left;intro j hj;rw [List.mem_range] at hj;unfold nextTo;rw [if_neg (by omega)]
  rw [this];exact rn
 ·clear r2 r8 rl rn r9 M1 rk p0 t11
  rintro d h12 z12 hd ⟨p0,y12,r2,r8,rl,rn,r9,M1,rk⟩
  unfold gcells at r2
  have e5:=nextOf_last hd
  have e6:=lastTo_next hd
  obtain ⟨k,hk⟩:∃ k,k=g.n - 1 - d:=⟨_,rfl⟩
  rw [← hk] at e5 e6 ⊢
  unfold Ev.cells
  have p0_z:=p0.size
  have r2_l:=r2.lt
  have r8_l:=r8.lt
  have rl_l:=rl.lt
  have rn_l:=rn.lt
  have r9_l:=r9.lt
  have rk_l:=rk.lt
  simp -dsimp only [go_sem,r2.cell,r8.cell,rl.cell,rn.cell,r9.cell,rk.cell]
  intro b11 h13 n13
  have n13_z:=n13.az
  replace p0:=p0.F n13.f0
  replace r2:=r2.F n13.f0
  replace r8:=r8.F n13.f0
  replace rl:=rl.F n13.f0
  replace rn:=rn.F n13.f0
  replace r9:=r9.F n13.f0
  replace rk:=rk.F n13.f0
  have r11:=n13.row
  replace M1:=M1.fr n13.f0 (by omega)
  simp -dsimp only [go_sem,r2.cell,r8.cell,rl.cell,rn.cell,r9.cell,rk.cell,r11.cell]
  refine Chk_intro (r11.W) fun h14 s14=>?_
  have s14_z:=s14.size
  replace p0:=p0.F s14.fr
  replace r2:=r2.F s14.fr
  replace r8:=r8.F s14.fr
  replace rl:=rl.F s14.fr
  replace rn:=rn.F s14.fr
  replace r9:=r9.F s14.fr
  replace rk:=rk.F s14.fr
  replace r11:=s14.row r11
  try simp only [cl_int,cl_bool,cl_slice,cl_ptr,putAt_one,zs0,zs1,ivec_set,brow_upd] at r11
  simp -dsimp only [go_sem] at r11
  have M1l2:=M1.lt
  replace M1:=M1.fr s14.fr (by omega)
  simp -dsimp only [go_sem,r2.cell,r8.cell,rl.cell,rn.cell,r9.cell,rk.cell,r11.cell]
  intro h15 x15
  have x15_z:=x15.size
  replace p0:=p0.ext x15 (by omega)
  replace r2:=r2.ext x15
  replace r8:=r8.ext x15
  replace rl:=rl.ext x15
  replace rn:=rn.ext x15
  replace r9:=r9.ext x15
  replace rk:=rk.ext x15
  replace r11:=r11.ext x15
  replace M1:=x15.mapF M1
  simp -dsimp only [go_sem,r2.cell,r8.cell,rl.cell,rn.cell,r9.cell,rk.cell,r11.cell]
  refine Chk_intro (by omega) ?_
  simp -dsimp only [go_sem,r2.cell,r8.cell,rl.cell,rn.cell,r9.cell,rk.cell,r11.cell]
  refine Chk_intro (rn.W) fun h16 s16=>?_
  have s16_z:=s16.size
  replace p0:=p0.F s16.fr
  replace r2:=r2.F s16.fr
  replace r8:=r8.F s16.fr
  replace rl:=rl.F s16.fr
  replace r9:=r9.F s16.fr
  replace rk:=rk.F s16.fr
  replace r11:=r11.F s16.fr
  replace rn:=s16.row rn
  try simp only [cl_int,cl_bool,cl_slice,cl_ptr,putAt_one,zs0,zs1,ivec_set,brow_upd] at rn
  replace M1:=M1.fr s16.fr (by omega)
  rw [irow_set] at rn
  simp -dsimp only [go_sem,r2.cell,r8.cell,rl.cell,rn.cell,r9.cell,rk.cell,r11.cell]
  refine M1.look1 (z:=.int .i64 0) (n:=(g.ev k).thread) fun mm hm1 hm2=>?_
  have hlast:lastTo g d (g.ev k).thread=((List.range' (g.n - d) d).find? fun j=>(g.ev j).thread==(g.ev k).thread).map fun (j:Nat)=>.int .i64 (j:Int):=rfl
  rw [hlast] at hm1 hm2
  have fin:∀ (F:Nat→Int) (h':Heap),(∀ j,j<g.n→F j=nextTo g (d+1) j)→irow g.n F=irow g.n (nextTo g (d+1)):=fun F _ hF=>by
   unfold irow;apply List.map_congr_left;intro j hj;rw [List.mem_range] at hj;rw [hF j hj]
  have hne:∀ j,j<g.n→j≠k→nextTo g (d+1) j=nextTo g d j:=fun j hj hjk=>by
   unfold nextTo
   by_cases h1:g.n - d≤j
   ·rw [if_pos h1,if_pos (by omega)]
   ·rw [if_neg h1,if_neg (by omega)]
  have hek:nextTo g (d+1) k=nextOf g k:=by unfold nextTo;rw [if_pos (by omega)]
  cases hf:(List.range' (g.n - d) d).find? (fun j=>(g.ev j).thread==(g.ev k).thread) with
  | none =>
   rw [hf] at hm1 hm2 e5
   have hm1:mget (.int .i64 0) mm (g.ev k).thread=.int .i64 0:=hm1
   have hm2:mhas mm (g.ev k).thread=false:=hm2
   have hnx:nextOf g k = -1:=by rw [e5];split <;> rfl
   simp -dsimp only [go_sem,hm1,hm2,r2.cell,r8.cell,rl.cell,rn.cell,r9.cell,rk.cell,r11.cell]
   refine M1.set fun h17 M2 f17 z17=>?_
   have f17_z:=f17.size
   replace p0:=p0.F f17
   replace r2:=r2.F f17
   replace r8:=r8.F f17
   replace rl:=rl.F f17
   replace rn:=rn.F f17
   replace r9:=r9.F f17
   replace rk:=rk.F f17
   replace r11:=r11.F f17
   simp -dsimp only [go_sem,r2.cell,r8.cell,rl.cell,rn.cell,r9.cell,rk.cell,r11.cell]
   refine ⟨p0,by omega,r2,r8,rl,?_,r9,M2.congr fun x=>?_,rk⟩
   ·rw [← fin _ h16 fun j hj=>?_];exact rn
    by_cases hjk:j=k
    ·rw [if_pos hjk,hjk,hek,hnx]
    ·rw [if_neg hjk,hne j hj hjk]
   ·rw [e6]
  | some w =>
   rw [hf] at hm1 hm2 e5
   have hm1:mget (.int .i64 0) mm (g.ev k).thread=.int .i64 (w:Int):=hm1
   have hm2:mhas mm (g.ev k).thread=true:=hm2
   by_cases ht:(g.ev k).thread≥0
   ·have hnx:nextOf g k=(w:Int):=by rw [e5,if_pos ht]
    simp -dsimp only [go_sem,hm1,hm2,ht,r2.cell,r8.cell,rl.cell,rn.cell,r9.cell,rk.cell,r11.cell]
    refine Chk_intro (by omega) ?_
    simp -dsimp only [go_sem,r2.cell,r8.cell,rl.cell,rn.cell,r9.cell,rk.cell,r11.cell]
    refine Chk_intro (rn.W) fun h17 s17=>?_
    have s17_z:=s17.size
    replace p0:=p0.F s17.fr
    replace r2:=r2.F s17.fr
    replace r8:=r8.F s17.fr
    replace rl:=rl.F s17.fr
    replace r9:=r9.F s17.fr
    replace rk:=rk.F s17.fr
    replace r11:=r11.F s17.fr
    replace rn:=s17.row rn
    try simp only [cl_int,cl_bool,cl_slice,cl_ptr,putAt_one,zs0,zs1,ivec_set,brow_upd] at rn
    replace M1:=M1.fr s17.fr (by omega)
    rw [irow_set] at rn
    simp -dsimp only [go_sem,r2.cell,r8.cell,rl.cell,rn.cell,r9.cell,rk.cell,r11.cell]
    refine M1.set fun h18 M2 f18 z18=>?_
    have f18_z:=f18.size
    replace p0:=p0.F f18
    replace r2:=r2.F f18
    replace r8:=r8.F f18
    replace rl:=rl.F f18
    replace rn:=rn.F f18
    replace r9:=r9.F f18
    replace rk:=rk.F f18
    replace r11:=r11.F f18
    simp -dsimp only [go_sem,r2.cell,r8.cell,rl.cell,rn.cell,r9.cell,rk.cell,r11.cell]
    refine ⟨p0,by omega,r2,r8,rl,?_,r9,M2.congr fun x=>?_,rk⟩
    ·rw [← fin _ h16 fun j hj=>?_];exact rn
     by_cases hjk:j=k
     ·rw [if_pos hjk,hjk,hek,hnx]
     ·rw [if_neg hjk,if_neg hjk,hne j hj hjk]
    ·rw [e6]
   ·have hnx:nextOf g k = -1:=by rw [e5,if_neg ht]
    simp -dsimp only [go_sem,hm1,hm2,ht,r2.cell,r8.cell,rl.cell,rn.cell,r9.cell,rk.cell,r11.cell]
    refine M1.set fun h17 M2 f17 z17=>?_
    have f17_z:=f17.size
    replace p0:=p0.F f17
    replace r2:=r2.F f17
    replace r8:=r8.F f17
    replace rl:=rl.F f17
    replace rn:=rn.F f17
    replace r9:=r9.F f17
    replace rk:=rk.F f17
    replace r11:=r11.F f17
    simp -dsimp only [go_sem,r2.cell,r8.cell,rl.cell,rn.cell,r9.cell,rk.cell,r11.cell]
    refine ⟨p0,by omega,r2,r8,rl,?_,r9,M2.congr fun x=>?_,rk⟩
    ·rw [← fin _ h16 fun j hj=>?_];exact rn
     by_cases hjk:j=k
     ·rw [if_pos hjk,hjk,hek,hnx]
     ·rw [if_neg hjk,hne j hj hjk]
    ·rw [e6]
 ·clear r2 r8 rl rn r9 M1 rk p0 t11 M1l
  rintro h17 z17 ⟨p0,y17,r2,r8,rl,rn,r9,-,-⟩
  unfold gcells at r2
  have tl:LookAt h17 lb q g words (.slice (some ⟨nb,0,none⟩) g.n g.n):=⟨rl,t.fr p0⟩
  have tnx:Rd 1 h17 (.slice (some ⟨nb,0,none⟩) g.n g.n) g.n (intsV (nexts g)):=by
   rw [nexts_irow] at rn
   exact ⟨by simp [nexts],_,_,rfl,.inr ⟨nb,0,rfl,fun j x hj=>by rw [rn.cell,Nat.zero_add,hj]⟩⟩
  have hchk:g.check words=if 0≤g.evAt words then (3,g.evAt words) else if 0≤g.rfAt then (4,g.rfAt) else if 0≤g.coAt then (5,g.coAt) else if 0≤g.rmwAt then (6,g.rmwAt)
   else if 0≤g.depAt words g.addr (fun k=>k==1||k==2) then (7,g.depAt words g.addr (fun k=>k==1||k==2))
   else if 0≤g.depAt words g.data (fun k=>k==2) then (8,g.depAt words g.data (fun k=>k==2))
   else if 0≤g.depAt words g.ctrl (fun k=>k==1||k==2||k==3) then (9,g.depAt words g.ctrl (fun k=>k==1||k==2||k==3)) else (0,0):=by
   unfold Gr.check;rw [hsz,if_neg (by simp),if_neg hia]
  clear rn r9
  have pz:Fr 0 0 h17 h17:=.refl _ _ _
  have p0_z:=p0.size
  have pz_z:=pz.size
  have r2_l:=r2.lt
  have r8_l:=r8.lt
  simp -dsimp only [go_sem,r2.cell,r8.cell]
  refine call_of (graph_look_events (tl.fr pz) hsz) ?_
  rintro v18 h18 ⟨f18,rfl⟩
  have f18_z:=f18.size
  replace p0:=p0.F f18
  replace pz:=pz.F f18
  replace r2:=r2.F f18
  replace r8:=r8.F f18
  by_cases c18:0≤g.evAt words
  ·rw [if_pos c18] at hchk
   have c18':g.evAt words≥0:=c18
   simp -dsimp only [go_sem,c18',r2.cell,r8.cell]
   exact ⟨p0,by rw [hchk]⟩
  rw [if_neg c18] at hchk
  have c18':¬ g.evAt words≥0:=c18
  simp -dsimp only [go_sem,c18',r2.cell,r8.cell]
  refine call_of (graph_look_rf (tl.fr pz)) ?_
  rintro v19 h19 ⟨f19,rfl⟩
  have f19_z:=f19.size
  replace p0:=p0.F f19
  replace pz:=pz.F f19
  replace r2:=r2.F f19
  replace r8:=r8.F f19
  by_cases c19:0≤g.rfAt
  ·rw [if_pos c19] at hchk
   have c19':g.rfAt≥0:=c19
   simp -dsimp only [go_sem,c19',r2.cell,r8.cell]
   exact ⟨p0,by rw [hchk]⟩
  rw [if_neg c19] at hchk
  have c19':¬ g.rfAt≥0:=c19
  simp -dsimp only [go_sem,c19',r2.cell,r8.cell]
  refine call_of (graph_look_co (tl.fr pz) s1 (write_loc hsz hia c18)) ?_
  rintro v20 h20 ⟨f20,rfl⟩
  have f20_z:=f20.size
  replace p0:=p0.F f20
  replace pz:=pz.F f20
  replace r2:=r2.F f20
  replace r8:=r8.F f20
  by_cases c20:0≤g.coAt
  ·rw [if_pos c20] at hchk
   have c20':g.coAt≥0:=c20
   simp -dsimp only [go_sem,c20',r2.cell,r8.cell]
   exact ⟨p0,by rw [hchk]⟩
  rw [if_neg c20] at hchk
  have c20':¬ g.coAt≥0:=c20
  simp -dsimp only [go_sem,c20',r2.cell,r8.cell]
  refine call_of (graph_look_rmw (tl.fr pz) (tnx.fr pz)) ?_
  rintro v21 h21 ⟨f21,rfl⟩
  have f21_z:=f21.size
  replace p0:=p0.F f21
  replace pz:=pz.F f21
  replace r2:=r2.F f21
  replace r8:=r8.F f21
  by_cases c21:0≤g.rmwAt
  ·rw [if_pos c21] at hchk
   have c21':g.rmwAt≥0:=c21
   simp -dsimp only [go_sem,c21',r2.cell,r8.cell]
   exact ⟨p0,by rw [hchk]⟩
  rw [if_neg c21] at hchk
  have c21':¬ g.rmwAt≥0:=c21
  simp -dsimp only [go_sem,c21',r2.cell,r8.cell]
  intro bx22 hx22 nx22
  have nx22_z:=nx22.az
  replace p0:=p0.F nx22.f0
  replace pz:=pz.F nx22.f0
  replace r2:=r2.F nx22.f0
  replace r8:=r8.F nx22.f0
  simp -dsimp only [go_sem,r2.cell,r8.cell]
  refine call_of (graph_look_deps (ks:=[1,2]) (tl.fr pz) (t.fr p0).a t.fits.a (Rd.of_new (n:=2) (s:=1) nx22 rfl) (by decide)) ?_
  rintro v22 h22 ⟨f22,rfl⟩
  have f22_z:=f22.size
  replace p0:=p0.F f22
  replace pz:=pz.F f22
  replace r2:=r2.F f22
  replace r8:=r8.F f22
  rw [show (fun k:Int=>List.contains [1,2] k)=(fun k:Int=>k==1||k==2) from kinds2] 
  generalize hd22:g.depAt words g.addr (fun k:Int=>k==1||k==2)=x22 at *
  by_cases c22:0≤x22
  ·rw [if_pos c22] at hchk
   have c22':x22≥0:=c22
   simp -dsimp only [go_sem,c22',r2.cell,r8.cell]
   exact ⟨p0,by rw [hchk]⟩
  rw [if_neg c22] at hchk
  have c22':¬ x22≥0:=c22
  simp -dsimp only [go_sem,c22',r2.cell,r8.cell]
  intro bx23 hx23 nx23
  have nx23_z:=nx23.az
  replace p0:=p0.F nx23.f0
  replace pz:=pz.F nx23.f0
  replace r2:=r2.F nx23.f0
  replace r8:=r8.F nx23.f0
  simp -dsimp only [go_sem,r2.cell,r8.cell]
  refine call_of (graph_look_deps (ks:=[2]) (tl.fr pz) (t.fr p0).d t.fits.d (Rd.of_new (n:=1) (s:=1) nx23 rfl) (by decide)) ?_
  rintro v23 h23 ⟨f23,rfl⟩
  have f23_z:=f23.size
  replace p0:=p0.F f23
  replace pz:=pz.F f23
  replace r2:=r2.F f23
  replace r8:=r8.F f23
  rw [show (fun k:Int=>List.contains [2] k)=(fun k:Int=>k==2) from kinds1] 
  generalize hd23:g.depAt words g.data (fun k:Int=>k==2)=x23 at *
  by_cases c23:0≤x23
  ·rw [if_pos c23] at hchk
   have c23':x23≥0:=c23
   simp -dsimp only [go_sem,c23',r2.cell,r8.cell]
   exact ⟨p0,by rw [hchk]⟩
  rw [if_neg c23] at hchk
  have c23':¬ x23≥0:=c23
  simp -dsimp only [go_sem,c23',r2.cell,r8.cell]
  intro bx24 hx24 nx24
  have nx24_z:=nx24.az
  replace p0:=p0.F nx24.f0
  replace pz:=pz.F nx24.f0
  replace r2:=r2.F nx24.f0
  replace r8:=r8.F nx24.f0
  simp -dsimp only [go_sem,r2.cell,r8.cell]
  refine call_of (graph_look_deps (ks:=[1,2,3]) (tl.fr pz) (t.fr p0).c t.fits.c (Rd.of_new (n:=3) (s:=1) nx24 rfl) (by decide)) ?_
  rintro v24 h24 ⟨f24,rfl⟩
  have f24_z:=f24.size
  replace p0:=p0.F f24
  replace pz:=pz.F f24
  replace r2:=r2.F f24
  replace r8:=r8.F f24
  rw [show (fun k:Int=>List.contains [1,2,3] k)=(fun k:Int=>k==1||k==2||k==3) from kinds3] 
  generalize hd24:g.depAt words g.ctrl (fun k:Int=>k==1||k==2||k==3)=x24 at *
  by_cases c24:0≤x24
  ·rw [if_pos c24] at hchk
   have c24':x24≥0:=c24
   simp -dsimp only [go_sem,c24',r2.cell,r8.cell]
   exact ⟨p0,by rw [hchk]⟩
  rw [if_neg c24] at hchk
  have c24':¬ x24≥0:=c24
  simp -dsimp only [go_sem,c24',r2.cell,r8.cell]
  exact ⟨p0,by rw [hchk]⟩
end Go.Proofs.Tst
/-
  The document's answer: modes, events, kinds, po.
-/
namespace Go.Proofs.Tst
open Go Go.Vc
end Go.Proofs.Tst
/-
  The document's answer: rule 4.
-/
namespace Go.Proofs.Tst
open Go Go.Vc
end Go.Proofs.Tst
/-
  The document's answer: rule 6.
-/
namespace Go.Proofs.Tst
open Go Go.Vc
end Go.Proofs.Tst
/-
  The document's answer: rules 7 to 9.
-/
namespace Go.Proofs.Tst
open Go Go.Vc
def kr (which:Int) (k:Int):Bool:=if which=7 then !(k==3) else if which=8 then k==2 else true
end Go.Proofs.Tst
/-
  The document's answer: rule 5.
-/
namespace Go.Proofs.Tst
open Go Go.Vc
theorem rl_at {h:Heap} {q:Option Addr} {n c:Nat} {L:List (List Int)} (t:RL h (.slice q n c) (L.map intsV)):∀ i,i<L.length→∃ ob oo,q=some ⟨ob,oo,none⟩∧∃ la lc,∀ h',Fr 0 0 h h' →
  hcell h' ob (oo+i)=some (.slice la (L.getD i []).length lc)∧Rd 1 h' (.slice la (L.getD i []).length lc) (L.getD i []).length (intsV (L.getD i [])):=by
 obtain ⟨us,h1,h2⟩:=t
 intro i hi
 have hl:(L.map intsV)[i]?=some (intsV (L.getD i [])):=by simp [hi]
 obtain ⟨w,hw,hr⟩:=h2 i _ hl
 rw [length_intsV] at hr
 obtain ⟨la,lc,rfl⟩:=hr.is
 obtain ⟨hlen,a,c',e1,e2⟩:=h1
 cases e1
 rcases e2 with e2 | ⟨ob,oo,rfl,hc⟩
 ·rw [List.length_map] at e2;omega
 ·exact ⟨ob,oo,rfl,la,lc,fun h' f=>⟨f.keep (hc i _ hw) (by omega),hr.fr f⟩⟩
end Go.Proofs.Tst
/-
  The document's Check: plain.
-/
namespace Go.Proofs.Tst
open Go Go.Vc
theorem firstEv_neg {f:Nat→Bool}:∀ (d i:Nat),¬ 0≤Gr.firstEv f d i→∀ j,i≤j→j<i+d→f j=false
 | 0,i,_,j,h1,h2=>by omega
 | d+1,i,h,j,h1,h2=>by
  cases hf:f i
  ·rw [firstEv_ok hf] at h
   by_cases hj:j=i
   ·subst hj;exact hf
   ·exact firstEv_neg d (i+1) h j (by omega) (by omega)
  ·rw [firstEv_bad hf] at h;omega
theorem firstBad_congr {f f':Nat→Int×Int→Bool}:∀ {l:List (Int×Int)} {i:Nat},(∀ j,∀ p∈l,f j p=f' j p)→Gr.firstBad f l i=Gr.firstBad f' l i
 | [],_,_=>rfl
 | p :: l,i,h=>by
  unfold Gr.firstBad
  rw [h i p (by simp),firstBad_congr fun j p hp=>h j p (by simp [hp])]
theorem modeOk_kind {words:Bool} {k m:Int} (h:Gr.modeOk words k m=true):k=1∨k=2∨k=3:=by
 unfold Gr.modeOk at h
 split at h
 all_goals
  simp only [Bool.or_eq_true,Bool.and_eq_true,beq_iff_eq] at h
  omega
end Go.Proofs.Tst
/-
  Is a graph well-formed? Both ask so.
-/
namespace Go.Proofs.Tst
open Go Go.Vc
theorem graph_good {h:Heap} {q:GV} {g:Gr} (t:GrAt h q g):Con Tryd.prog 69 #[.agg (gcells q g).toArray] h fun v h'=>Fr 0 0 h h'∧v=.bool g.good:=by
 refine con_q16 ?_
 have p0:Fr 0 0 h h:=.refl _ _ _
 unfold gcells
 simp -dsimp only [go_sem]
 intro b1 h1 n1
 have n1_z:=n1.az
 replace p0:=p0.F n1.f0
 have r1:=n1.row
 simp -dsimp only [go_sem,r1.cell]
 refine call_of (graph_Check (t.fr p0) false) ?_
 rintro v2 h2 ⟨f2,rfl⟩
 have f2_z:=f2.size
 replace p0:=p0.F f2
 replace r1:=r1.F f2
 by_cases a1:(g.check false).1=0
 ·simp -dsimp only [go_sem,beq_t a1,r1.cell]
  exact ⟨p0,by unfold Gr.good;rw [beq_t a1];rfl⟩
 ·simp -dsimp only [go_sem,beq_f a1,r1.cell]
  refine call_of (graph_Check (t.fr p0) true) ?_
  rintro v3 h3 ⟨f3,rfl⟩
  have f3_z:=f3.size
  replace p0:=p0.F f3
  replace r1:=r1.F f3
  simp -dsimp only [go_sem,r1.cell]
  exact ⟨p0,by unfold Gr.good;rw [beq_f a1];rfl⟩
end Go.Proofs.Tst
/-
  The document's copy of a graph: all of it in new memory.
-/
namespace Go.Proofs.Tst
open Go Go.Vc
structure GrOwn (h:Heap) (q:GV) (g:Gr) (lo:Nat):Prop where
 e:Holder 5 h (.slice q.e g.evs.length q.ec) g.evs.length (evsV g.evs) lo
 f:Holder 2 h (.slice q.f g.rf.length q.fc) g.rf.length (pairsV g.rf) lo
 o:∃ us,LL h (.slice q.o g.co.length q.oc) us (g.co.map intsV) lo∧us.Pairwise Off∧∀ w,w=.slice q.o g.co.length q.oc∨w∈us→∀ x∈[Value.slice q.e g.evs.length q.ec,.slice q.f g.rf.length q.fc,.slice q.r g.rmw.length q.rc,.slice q.a g.addr.length q.ac,.slice q.d g.data.length q.dc,.slice q.c g.ctrl.length q.cc],Off w x
 r:Holder 2 h (.slice q.r g.rmw.length q.rc) g.rmw.length (pairsV g.rmw) lo
 a:Holder 2 h (.slice q.a g.addr.length q.ac) g.addr.length (pairsV g.addr) lo
 d:Holder 2 h (.slice q.d g.data.length q.dc) g.data.length (pairsV g.data) lo
 c:Holder 2 h (.slice q.c g.ctrl.length q.cc) g.ctrl.length (pairsV g.ctrl) lo
 off:∀ x∈[Value.slice q.f g.rf.length q.fc,.slice q.r g.rmw.length q.rc,.slice q.a g.addr.length q.ac,.slice q.d g.data.length q.dc,.slice q.c g.ctrl.length q.cc],Off (.slice q.e g.evs.length q.ec) x
 fits:GrFits g
theorem holder_cap {s:Nat} {h:Heap} {a:Option Addr} {n m c:Nat} {xs:List Value} {lo:Nat} (hs:0<s) (w:Holder s h (.slice a m c) n xs lo):n≤c:=by
 obtain ⟨hl,⟨h1,rfl⟩ | ⟨b,c',rest,h1,h2,h3,h4⟩⟩:=w
 ·omega
 ·cases h1
  have:n * s≤c * s:=by omega
  exact Nat.le_of_mul_le_mul_right this hs
theorem GrOwn.at_ {h:Heap} {q:GV} {g:Gr} {lo:Nat} (w:GrOwn h q g lo):GrAt h q g:=by
 obtain ⟨us,h1,-⟩:=w.o
 have:=h1.own
 rw [List.length_map] at this
 exact ⟨w.e.rd,w.f.rd,h1.rl,w.r.rd,w.a.rd,w.d.rd,w.c.rd,w.fits,holder_cap (by omega) this,h1.rlc⟩
def Bl (lo hi:Nat) (v:Value):Prop:=(bl v=0∧bh v=0)∨(lo≤bl v∧bh v=bl v+1∧bh v≤hi)
theorem Bl.of {s:Nat} {h:Heap} {v:Value} {n:Nat} {xs:List Value} {lo:Nat} (o:Holder s h v n xs lo):Bl lo h.size v:=by
 have:=o.at_;have:=o.top;unfold Bl;omega
theorem Bl.off {lo hi lo' hi':Nat} {v w:Value} (a:Bl lo hi v) (b:Bl lo' hi' w) (h:hi≤lo'):Off v w:=by unfold Bl at a b;unfold Off;omega
end Go.Proofs.Tst
/-
  Lists of truths and of words compared; two graphs that are the same.
-/
namespace Go.Proofs.Tst
open Go Go.Vc
def boolsV (l:List Bool):List Value:=l.map Value.bool
def wordsV (l:List Int):List Value:=l.map fun n=>.int .u64 n
@[simp] theorem length_boolsV (l:List Bool):(boolsV l).length=l.length:=by simp [boolsV]
@[simp] theorem length_wordsV (l:List Int):(wordsV l).length=l.length:=by simp [wordsV]
theorem boolsV_get {l:List Bool} {i:Nat} {b:Bool} (h:l[i]?=some b):(boolsV l)[i]?=some (.bool b):=by simp [boolsV,h]
end Go.Proofs.Tst
/-
  graph.Derive: how its relations are laid.
-/
namespace Go.Proofs.Tst
open Go Go.Vc
def lpairs:List Int→List (Int×Int)
 | []=>[]
 | a :: t=>t.map (fun b=>(a,b))++lpairs t
def coPairs (g:Gr):List (Int×Int):=g.co.flatMap lpairs
def relM (g:Gr):Nat→Nat→Nat→Bool
 | 0=>g.poM
 | 1=>ofM g.n g.rf
 | 2=>ofM g.n (coPairs g)
 | 3=>ofM g.n g.rmw
 | 4=>g.sameM
 | 5=>g.extM
 | 6=>ofM g.n g.addr
 | 7=>ofM g.n g.data
 | 8=>ofM g.n g.ctrl
 | _=>compM g.n (invM (ofM g.n g.rf)) g.n (ofM g.n (coPairs g))
def relZ (g:Gr):Nat→Nat→Nat→Bool
 | 0=>fun _ _=>false
 | 2=>fun _ _=>false
 | 4=>fun _ _=>false
 | 5=>fun _ _=>false
 | k=>relM g k
def fcells (p:Nat→Value) (rd wr fe:Value):List Value:=[p 0,p 1,p 2,p 9,p 3,p 4,p 5,p 6,p 7,p 8,rd,wr,fe]
def fzero:List Value:=[.pointer none,.pointer none,.pointer none,.pointer none,.pointer none,.pointer none,.pointer none,.pointer none,.pointer none,.pointer none,.slice none 0 0,.slice none 0 0,.slice none 0 0]
def ixD (k:Nat):Nat:=[1,5,7,11,13,15,19,23,27].getD k 0
def kindsV (g:Gr) (k:Int) (i:Nat):List Bool:=(g.evs.take i).map fun e=>e.kind==k
theorem good_n {g:Gr} (h:g.good=true):g.n≤256∧g.size=true:=by
 have hs:g.size=true:=by
  cases hs:g.size
  ·unfold Gr.good Gr.check at h
   rw [hs] at h;simp at h
  ·rfl
 have hs':=hs
 simp only [Gr.size,Bool.and_eq_true,decide_eq_true_eq] at hs
 exact ⟨hs.2,hs'⟩
theorem progPtr {h:Heap} {a b n:Nat} {v:Value} {M:Nat→Nat→Bool} (t:ProgAt h a b v n M):∃ pb,v=.pointer (some ⟨pb,0,none⟩):=by
 obtain ⟨_,pb,_,_,_,e,_⟩:=t;exact ⟨pb,e⟩
def tellP (n:Nat) (M:Nat→Nat→Bool):Tell:=tell1 fun v a b h=>ProgAt h a b v n M
theorem stabP (n:Nat) (M:Nat→Nat→Bool):Stab (tellP n M):=Stab.one fun v a b h h' f t=>t.fr f (by omega)
def tellF:Tell:=fun us _=>match us with
 | [a,b,c,d,e,f,g,h,i,u]=>u.1=.agg #[a.1,b.1,c.1,.pointer none,d.1,e.1,f.1,g.1,h.1,i.1,.slice none 0 0,.slice none 0 0,.slice none 0 0]
 | _=>False
theorem tellF_eq (a b c d e f g h i u:Out) (hp:Heap):tellF [a,b,c,d,e,f,g,h,i,u] hp=(u.1=.agg #[a.1,b.1,c.1,.pointer none,d.1,e.1,f.1,g.1,h.1,i.1,.slice none 0 0,.slice none 0 0,.slice none 0 0]):=(rfl)
def tellA (c:List Value):Tell:=tell1 fun v a b h=>v=.pointer (some ⟨a,0,none⟩)∧b=a+1∧Rw h a c
theorem stabA (c:List Value):Stab (tellA c):=Stab.one fun v a b h h' f ⟨h1,h2,h3⟩=>⟨h1,h2,h3.fr f (by omega)⟩
theorem tellP_eq (n:Nat) (M:Nat→Nat→Bool) (u:Out) (h:Heap):tellP n M [u] h=ProgAt h u.2.1 u.2.2 u.1 n M:=(rfl)
theorem tellA_eq (c:List Value) (u:Out) (h:Heap):tellA c [u] h=(u.1=.pointer (some ⟨u.2.1,0,none⟩)∧u.2.2=u.2.1+1∧Rw h u.2.1 c):=(rfl)
end Go.Proofs.Tst
