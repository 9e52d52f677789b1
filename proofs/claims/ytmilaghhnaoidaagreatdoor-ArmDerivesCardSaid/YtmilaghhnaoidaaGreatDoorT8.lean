/-
  Contracts of functions that the law reaches: what each returns and what it leaves in memory. Conditions stand in each.
-/
import Derived.Test.YtmilaghhnaoidaaGreatDoorT7
set_option linter.all false
set_option maxRecDepth 2000
/-
  Events changed in place.
-/
namespace Go.Proofs.Tst
open Go Go.Vc
def setMode (E:List Ev) (i:Nat) (m:Int):List Ev:=E.set i { E.getD i default with mode:=m }
@[simp] theorem length_setMode {E:List Ev} {i:Nat} {m:Int}:(setMode E i m).length=E.length:=by simp [setMode]
theorem evsV_setMode:∀ {E:List Ev} {i:Nat} {m:Int},i<E.length→(evsV E).set (i * 5+4) (.int .i64 m)=evsV (setMode E i m)
 | [],i,_,h=>by simp at h
 | e :: E,0,m,_=>rfl
 | e :: E,i+1,m,h=>by
  have ih:=evsV_setMode (E:=E) (i:=i) (m:=m) (by simpa using h)
  have h1:setMode (e :: E) (i+1) m=e :: setMode E i m:=by simp [setMode]
  have h2:e.cells.length=5:=rfl
  rw [h1,evsV_cons,evsV_cons,← ih,List.set_append_right _ _ (by omega),h2]
  congr 2;omega
theorem putAt_right {a:List Value}:∀ (ws r:List Value) (o:Nat),putAt (a++r) (a.length+o) ws=a++putAt r o ws
 | [],_,_=>rfl
 | v :: ws,r,o=>by
  show putAt ((a++r).set (a.length+o) v) (a.length+o+1) ws=a++putAt (r.set o v) (o+1) ws
  rw [List.set_append_right _ _ (by omega),Nat.add_sub_cancel_left,Nat.add_assoc]
  exact putAt_right ws _ _
theorem putAt_left {r:List Value}:∀ (ws a:List Value) (o:Nat),o+ws.length≤a.length→putAt (a++r) o ws=putAt a o ws++r
 | [],_,_,_=>rfl
 | v :: ws,a,o,h=>by
  show putAt ((a++r).set o v) (o+1) ws=putAt (a.set o v) (o+1) ws++r
  simp at h
  rw [List.set_append_left _ _ (by omega)]
  exact putAt_left ws _ _ (by simp;omega)
theorem evsV_put:∀ {E:List Ev} {i:Nat} {e:Ev},i<E.length→putAt (evsV E) (i * 5) e.cells=evsV (E.set i e)
 | [],i,_,h=>by simp at h
 | x :: E,0,e,_=>rfl
 | x :: E,i+1,e,h=>by
  have ih:=evsV_put (E:=E) (i:=i) (e:=e) (by simpa using h)
  have h2:(i+1) * 5=x.cells.length+i * 5:=by show _=5 + _;omega
  rw [List.set_cons_succ,evsV_cons,evsV_cons,← ih,h2]
  exact putAt_right _ _ _
theorem holder_ev {h:Heap} {b n c lo:Nat} {E:List Ev} (w:Holder 5 h (.slice (some ⟨b,0,none⟩) n c) n (evsV E) lo) {i:Nat} (hi:i<n) :
  Wr h b (i * 5+4) 1∧Wr h b (i * 5) 5∧(∀ h' m,Sto h h' b (i * 5+4) [.int .i64 m]→Holder 5 h' (.slice (some ⟨b,0,none⟩) n c) n (evsV (setMode E i m)) lo)∧∀ h' e,Sto h h' b (i * 5) e.cells→Holder 5 h' (.slice (some ⟨b,0,none⟩) n c) n (evsV (E.set i e)) lo:=by
 have hl:=w.1
 rw [length_evsV] at hl
 have hE:i<E.length:=by omega
 obtain ⟨b',c',rest,h1,h2,h3,h4⟩:=w.blk (by omega)
 cases h1
 refine ⟨h2.wr (by simp;omega),h2.wr (by simp;omega),fun h' m s=>⟨by simp;omega,.inr ⟨b,c,rest,rfl,?_,h3,h4⟩⟩,fun h' e s=>⟨by simp;omega,.inr ⟨b,c,rest,rfl,?_,h3,h4⟩⟩⟩
 ·have:=s.row h2
  rw [putAt_one,List.set_append_left _ _ (by simp;omega),evsV_setMode hE] at this
  exact this
 ·have:=s.row h2
  rw [putAt_left _ _ _ (by simp [Ev.cells];omega),evsV_put hE] at this
  exact this
section
variable {h h' : Heap} {q : GV} {g : Gr} {lo : Nat}
theorem GrOwn.evs' {E':List Ev} {b:Nat} (w:GrOwn h q g lo) (f:Fr b (b+1) h h') (hb:q.e=some ⟨b,0,none⟩) (hl:E'.length=g.evs.length) (he:Holder 5 h' (.slice (some ⟨b,0,none⟩) g.evs.length q.ec) g.evs.length (evsV E') lo) :
  GrOwn h' q { g with evs:=E' } lo:=by
 obtain ⟨us,o1,o2,o3⟩:=w.o
 have lb:bl (.slice q.e g.evs.length q.ec)=b∧bh (.slice q.e g.evs.length q.ec)=b+1:=by rw [hb];exact ⟨rfl,rfl⟩
 have key:∀ x,Off (.slice q.e g.evs.length q.ec) x→bh x≤b∨b+1≤bl x∨b+1≤b:=fun x hx=>by
  unfold Off at hx
  have:=bh_bl x
  omega
 have ha:Away b (b+1) (.slice q.o g.co.length q.oc) us:=fun x hx=>key x (o3 x hx _ (by simp)).symm
 have hw:=w.off
 refine ⟨?_,w.f.fr f (key _ (hw _ (by simp))),⟨us,o1.fr f ha,o2,?_⟩,w.r.fr f (key _ (hw _ (by simp))),w.a.fr f (key _ (hw _ (by simp))),w.d.fr f (key _ (hw _ (by simp))),w.c.fr f (key _ (hw _ (by simp))),?_,⟨?_,w.fits.f,w.fits.o,w.fits.r,w.fits.a,w.fits.d,w.fits.c,w.fits.l⟩⟩
 ·dsimp only;rw [hl,hb];exact he
 ·dsimp only;rw [hl];exact o3
 ·dsimp only;rw [hl];exact hw
 ·dsimp only;rw [hl];exact w.fits.e
theorem GrOwn.fr {l r:Nat} (w:GrOwn h q g lo) (f:Fr l r h h') (hd:r≤lo∨h.size≤l∨r≤l):GrOwn h' q g lo:=by
 obtain ⟨us,o1,o2,o3⟩:=w.o
 have k:∀ {s n:Nat} {v:Value} {xs:List Value},Holder s h v n xs lo→Holder s h' v n xs lo:=fun o=>o.fr f (by have:=o.at_;have:=o.top;omega)
 refine ⟨k w.e,k w.f,⟨us,o1.fr f ?_,o2,o3⟩,k w.r,k w.a,k w.d,k w.c,w.off,w.fits⟩
 rcases hd with hd | hd | hd
 ·exact o1.below hd
 ·exact o1.above hd
 ·exact Away.none hd
theorem GrOwn.lower {lo':Nat} (w:GrOwn h q g lo) (hl:lo'≤lo):GrOwn h q g lo':=by
 obtain ⟨us,o1,o2⟩:=w.o
 exact ⟨w.e.lower hl,w.f.lower hl,⟨us,o1.lower hl,o2⟩,w.r.lower hl,w.a.lower hl,w.d.lower hl,w.c.lower hl,w.off,w.fits⟩
theorem GrOwn.ev (w:GrOwn h q g lo) (hn:0<g.n):∃ b,q.e=some ⟨b,0,none⟩∧lo≤b∧b<h.size∧(∀ i,i<g.n→Wr h b (i * 5+4) 1∧Wr h b (i * 5) 5) ∧
  (∀ h' i m,i<g.n→Sto h h' b (i * 5+4) [.int .i64 m]→GrOwn h' q { g with evs:=setMode g.evs i m } lo)∧∀ h' i e,i<g.n→Sto h h' b (i * 5) e.cells→GrOwn h' q { g with evs:=g.evs.set i e } lo:=by
 have we:=w.e
 obtain ⟨b,c,rest,h1,h2,h3,h4⟩:=we.blk hn
 have hq:q.e=some ⟨b,0,none⟩:=by injection h1
 rw [hq] at we
 exact ⟨b,hq,h4,h2.lt,fun i hi=>⟨(holder_ev we hi).1,(holder_ev we hi).2.1⟩,fun h' i m hi s=>w.evs' s.fr hq (by simp) ((holder_ev we hi).2.2.1 _ _ s),fun h' i e hi s=>w.evs' s.fr hq (by simp) ((holder_ev we hi).2.2.2 _ _ s)⟩
end
end Go.Proofs.Tst
/-
  Relations in memory, some at once; chains of steps.
-/
namespace Go.Proofs.Tst
open Go Go.Vc
abbrev Mx:=Nat→Nat→Bool
def PA (h:Heap) (v:Value) (n:Nat) (M:Mx):Prop:=∃ lo hi,ProgAt h lo hi v n M
def PN (h:Heap) (lo:Nat) (v:Value) (n:Nat) (M:Mx):Prop:=∃ a b,ProgAt h a b v n M∧lo≤a∧a≤b∧b≤h.size
section
variable {h h' : Heap} {v : Value} {n lo : Nat} {M N : Mx}
theorem PA.fr (t:PA h v n M) (f:Fr 0 0 h h'):PA h' v n M:=by obtain ⟨a,b,t⟩:=t;exact ⟨a,b,t.fr f (by omega)⟩
theorem PA.ptr (t:PA h v n M):∃ b,v=.pointer (some ⟨b,0,none⟩):=by obtain ⟨a,b,t⟩:=t;exact progPtr t
theorem PA.oc (t:PA h v n M):v.oneCell'=true:=by obtain ⟨b,rfl⟩:=t.ptr;rfl
theorem PA.cl (t:PA h v n M):Vc.cl v=[v]:=by obtain ⟨b,rfl⟩:=t.ptr;rfl
theorem PA.congr (t:PA h v n M) (e:∀ i j,i<n→j<n→M i j=N i j):PA h v n N:=by obtain ⟨a,b,t⟩:=t;exact ⟨a,b,t.congr e⟩
theorem PA.le (t:PA h v n M):n≤256:=by obtain ⟨a,b,t⟩:=t;exact t.1
theorem PN.pa (t:PN h lo v n M):PA h v n M:=by obtain ⟨a,b,t,-⟩:=t;exact ⟨a,b,t⟩
theorem PN.of (t:ProgAt h lo h.size v n M):PN h lo v n M:=⟨_,_,t,Nat.le_refl _,by obtain ⟨_,_,_,_,_,_,w⟩:=t;have:=w.at_;omega,Nat.le_refl _⟩
theorem PN.congr (t:PN h lo v n M) (e:∀ i j,i<n→j<n→M i j=N i j):PN h lo v n N:=by obtain ⟨a,b,t,k⟩:=t;exact ⟨a,b,t.congr e,k⟩
theorem PN.lower {lo':Nat} (t:PN h lo v n M) (hl:lo'≤lo):PN h lo' v n M:=by obtain ⟨a,b,t,k⟩:=t;exact ⟨a,b,t,by omega,k.2⟩
theorem PN.fr {l r:Nat} (t:PN h lo v n M) (f:Fr l r h h') (hd:r≤lo∨h.size≤l∨r≤l):PN h' lo v n M:=by
 obtain ⟨a,b,t,k⟩:=t
 have:=f.size
 exact ⟨a,b,t.fr f (by omega),by omega⟩
end
def UA (h:Heap) (lv:Value) (n:Nat) (M:Mx):Prop:=∃ L:List (Value×Nat×Mx),Rd 1 h lv L.length (L.map (·.1))∧RelsAt h L∧L.length≤65536∧maxN L=n∧∀ i j,i<n→j<n→anyM L i j=M i j
theorem UA.fr {h h':Heap} {v:Value} {n:Nat} {M:Mx} (t:UA h v n M) (f:Fr 0 0 h h'):UA h' v n M:=by
 obtain ⟨L,h1,h2,h3⟩:=t;exact ⟨L,h1.fr f,h2.fr f,h3⟩
theorem maxN_same {n:Nat}:∀ {l:List (Value×Mx)},l≠[]→maxN (l.map fun x=>(x.1,n,x.2))=n:=by
 have key:∀ (l:List (Value×Mx)) (m:Nat),m≤n→(l.map fun x=>(x.1,n,x.2)).foldl (fun m (x:Value×Nat×Mx)=>max m x.2.1) m=if l=[] then m else n:=by
  intro l
  induction l with
  | nil=>intro m _;rfl
  | cons x l ih =>
   intro m hm
   simp only [List.map_cons,List.foldl_cons]
   rw [ih _ (by omega),if_neg (by simp:¬ x :: l=[])]
   split
   ·omega
   ·rfl
 intro l hl
 unfold maxN
 rw [key l 0 (Nat.zero_le _),if_neg hl]
theorem UA.mk {h:Heap} {b n:Nat} {M:Mx} (l:List (Value×Mx)) (r:Rw h b (l.map (·.1))) (hp:∀ x∈l,PA h x.1 n x.2) (hne:l≠[]) (hl:l.length≤65536) (hM:∀ i j,i<n→j<n→(l.any fun x=>x.2 i j)=M i j) :
  UA h (.slice (some ⟨b,0,none⟩) l.length l.length) n M:=by
 refine ⟨l.map fun x=>(x.1,n,x.2),?_,fun x hx=>?_,by rw [List.length_map];exact hl,maxN_same hne,fun i j hi hj=>?_⟩
 ·rw [List.length_map,List.map_map]
  exact Rw.rd (s:=1) r (by simp)
 ·obtain ⟨y,hy,rfl⟩:=List.mem_map.1 hx
  exact hp y hy
 ·rw [← hM i j hi hj]
  unfold anyM
  rw [List.any_map]
  congr 1
  funext x
  exact inN_in hi hj
theorem rel_UnionU {lv:Value} {n:Nat} {M:Mx} {h:Heap} (u:UA h lv n M) :
  Con Tryz.prog 20 #[lv] h fun v h'=>Fr 0 0 h h'∧ProgAt h' h.size h'.size v n M:=by
 obtain ⟨L,h1,h2,h3,h4,h5⟩:=u
 exact (rel_Union h1 h2 h3).mono fun v h' ⟨f,t⟩=>⟨f,by rw [h4] at t;exact t.congr h5⟩
def chM (n:Nat) (A:Mx) (l:List Mx):Mx:=l.foldl (fun X Y=>compM n X n Y) A
def CA (h:Heap) (lv:Value) (n:Nat) (l:List Mx):Prop:=∃ ws:List Value,ws.length=l.length∧Rd 1 h lv ws.length ws∧ws.length≤65536∧∀ (i:Nat) (w:Value) (M:Mx),ws[i]?=some w→l[i]?=some M→PA h w n M
theorem CA.fr {h h':Heap} {v:Value} {n:Nat} {l:List Mx} (t:CA h v n l) (f:Fr 0 0 h h'):CA h' v n l:=by
 obtain ⟨L,h1,h2,h3,h4⟩:=t;exact ⟨L,h1,h2.fr f,h3,fun i w M a b=>(h4 i w M a b).fr f⟩
theorem CA.mk {h:Heap} {b n:Nat} (l:List (Value×Mx)) (r:Rw h b (l.map (·.1))) (hp:∀ x∈l,PA h x.1 n x.2) (hl:l.length≤65536):CA h (.slice (some ⟨b,0,none⟩) l.length l.length) n (l.map (·.2)):=by
 refine ⟨l.map (·.1),by simp,?_,by simpa using hl,fun i w M h1 h2=>?_⟩
 ·rw [List.length_map];exact Rw.rd (s:=1) r (by simp)
 ·rw [List.getElem?_map,Option.map_eq_some_iff] at h1 h2
  obtain ⟨x,hx,rfl⟩:=h1
  obtain ⟨y,hy,rfl⟩:=h2
  rw [hx] at hy;cases hy
  exact hp x (List.mem_of_getElem? hx)
def orM (l:List Mx):Mx:=fun i j=>l.any fun X=>X i j
theorem UA.mk' {h:Heap} {b n:Nat} (l:List (Value×Mx)) (r:Rw h b (l.map (·.1))) (hp:∀ x∈l,PA h x.1 n x.2) (hne:l≠[]) (hl:l.length≤65536):UA h (.slice (some ⟨b,0,none⟩) l.length l.length) n (orM (l.map (·.2))):=
 UA.mk l r hp hne hl fun i j _ _=>by unfold orM;rw [List.any_map];rfl
theorem pa_nil {h:Heap} {n:Nat}:∀ x∈([]:List (Value×Mx)),PA h x.1 n x.2:=fun x hx=>by cases hx
theorem pa_cons {h:Heap} {n:Nat} {v:Value} {M:Mx} {l:List (Value×Mx)} (a:PA h v n M) (t:∀ x∈l,PA h x.1 n x.2):∀ x∈(v,M) :: l,PA h x.1 n x.2:=fun x hx=>by
 rcases List.mem_cons.1 hx with rfl | hx
 ·exact a
 ·exact t x hx
def tC (n:Nat) (l:List Mx):Tell:=tell1 fun v _ _ h=>CA h v n l
def tU (n:Nat) (M:Mx):Tell:=tell1 fun v _ _ h=>UA h v n M
def tN (L n:Nat) (M:Mx):Tell:=tell1 fun v _ _ h=>PN h L v n M
theorem stC (n:Nat) (l:List Mx):Stab (tC n l):=Stab.one fun _ _ _ _ _ f t=>t.fr f
theorem stU (n:Nat) (M:Mx):Stab (tU n M):=Stab.one fun _ _ _ _ _ f t=>t.fr f
theorem stN (L n:Nat) (M:Mx):Stab (tN L n M):=Stab.one fun _ _ _ _ _ f t=>t.fr f (.inr (.inr (Nat.le_refl _)))
theorem tC_eq (n:Nat) (l:List Mx) (u:Out) (h:Heap):tC n l [u] h=CA h u.1 n l:=(rfl)
theorem tU_eq (n:Nat) (M:Mx) (u:Out) (h:Heap):tU n M [u] h=UA h u.1 n M:=(rfl)
theorem tN_eq (L n:Nat) (M:Mx) (u:Out) (h:Heap):tN L n M [u] h=PN h L u.1 n M:=(rfl)
def dM (f:Nat→Bool):Mx:=fun i j=>i==j&&f i
theorem exB_congr {n:Nat} {f g:Nat→Bool} (h:∀ k,k<n→f k=g k):exB n f=exB n g:=by
 unfold exB
 rw [Bool.eq_iff_iff,List.any_eq_true,List.any_eq_true]
 exact ⟨fun ⟨k,hk,e⟩=>⟨k,hk,by rw [← h k (List.mem_range.1 hk)];exact e⟩,fun ⟨k,hk,e⟩=>⟨k,hk,by rw [h k (List.mem_range.1 hk)];exact e⟩⟩
section
variable {n i j : Nat} {A B : Mx} {f : Nat → Bool}
theorem interM_in (hi:i<n) (hj:j<n):interM n A n B i j=(A i j&&B i j):=by unfold interM;rw [inN_in hi hj,inN_in hi hj]
theorem minusM_in (hi:i<n) (hj:j<n):minusM n A n B i j=(A i j&&!B i j):=by unfold minusM;rw [inN_in hi hj,inN_in hi hj]
theorem unionM_in (hi:i<n) (hj:j<n):unionM n A n B i j=(A i j||B i j):=by unfold unionM;rw [inN_in hi hj,inN_in hi hj]
theorem compM_in (hi:i<n) (hj:j<n):compM n A n B i j=exB n fun k=>A i k&&B k j:=by
 show exB n (fun k=>inN n A i k&&inN n B k j)=_
 exact exB_congr fun k hk=>by rw [inN_in hi hk,inN_in hk hj]
theorem exB_one (hi:i<n) {g:Nat→Bool}:(exB n fun k=>i==k&&g k)=g i:=by
 rw [Bool.eq_iff_iff,exB_true]
 constructor
 ·rintro ⟨k,hk,h⟩
  simp only [Bool.and_eq_true,beq_iff_eq] at h
  rw [h.1];exact h.2
 ·intro h;exact ⟨i,hi,by simp [h]⟩
theorem compM_dR (hi:i<n) (hj:j<n):compM n A n (dM f) i j=(A i j&&f j):=by
 rw [compM_in hi hj]
 have:(exB n fun k=>A i k&&dM f k j)=exB n fun k=>j==k&&(A i k&&f k):=exB_congr fun k _=>by
  unfold dM
  have:(k==j)=(j==k):=by rw [Bool.eq_iff_iff,beq_iff_eq,beq_iff_eq];exact eq_comm
  rw [this]
  cases A i k <;> cases (j==k) <;> cases f k <;> rfl
 rw [this,exB_one hj]
theorem compM_dL (hi:i<n) (hj:j<n):compM n (dM f) n A i j=(f i&&A i j):=by
 rw [compM_in hi hj]
 have:(exB n fun k=>dM f i k&&A k j)=exB n fun k=>i==k&&(f i&&A k j):=exB_congr fun k _=>by
  unfold dM
  cases A k j <;> cases (i==k) <;> cases f i <;> rfl
 rw [this,exB_one hi]
end
theorem arm_chain {v0 lv:Value} {n:Nat} {A:Mx} {l:List Mx} {h:Heap} (h0:PA h v0 n A) (hl:CA h lv n l) (ht:TabAt h) :
  Con Tryz.prog 101 #[v0,lv] h fun v h'=>Fr 0 0 h h'∧PA h' v n (chM n A l)∧(l≠[]→PN h' h.size v n (chM n A l)):=by
 refine con_arm_chain ?_
 obtain ⟨ws',hwl,hr,hlen,hp⟩:=hl
 obtain ⟨la,lc,rfl⟩:=hr.is
 have p0:Fr 0 0 h h:=.refl _ _ _
 simp -dsimp only [go_sem]
 refine loop_intro (fun s:Nat×Value=>[(0,s.2),(7,.slice la ws'.length lc),(8,.int .i64 ws'.length),(9,.int .i64 s.1)])
  (fun s h'=>s.1≤ws'.length∧Fr 0 0 h h'∧PA h' s.2 n (chM n A (l.take s.1))∧(0<s.1→PN h' h.size s.2 n (chM n A (l.take s.1)))) (fun s=>ws'.length - s.1) (0,v0) ?_ ?_ ?_
 ·simp [Le,find]
 ·exact ⟨by omega,p0,h0,by simp⟩
 clear p0
 rintro ⟨i,v⟩ h1 ⟨hi,p0,t,tn⟩
 dsimp only at hi t tn ⊢
 have p0_z:=p0.size
 by_cases hlt:i<ws'.length
 ·have e1:((i:Int)<(ws'.length:Int)):=by omega
  have hw:ws'[i]?=some ws'[i]:=List.getElem?_eq_getElem hlt
  have hM:l[i]?=some (l[i]'(by omega)):=List.getElem?_eq_getElem (by omega)
  have tw:=(hp i _ _ hw hM).fr p0
  generalize ws'[i]=w at hw tw
  have hs:l.take (i+1)=l.take i++[l[i]'(by omega)]:=by rw [List.take_add_one,hM];rfl
  generalize l[i]'(by omega)=B at hM tw hs
  obtain ⟨hl1,a',c',k1,k2⟩:=hr
  cases k1
  rcases k2 with k2 | ⟨b,o,rfl,hc⟩
  ·omega
  have hc:=p0.keep (hc i _ hw) (by omega)
  simp -dsimp only [go_sem,e1,hc]
  obtain ⟨_,_,t1⟩:=t
  obtain ⟨_,_,t2⟩:=tw
  refine call_of (rel_Comp t1 t2 (ht.fr p0 (.inr rfl))) ?_
  rintro v2 h2 ⟨f2,t3⟩
  rw [Nat.max_self] at t3
  have q2:=f2.size
  have p0_z:=p0.size
  have f2_z:=f2.size
  replace p0:=p0.F f2
  have hch:chM n A (l.take (i+1))=compM n (chM n A (l.take i)) n B:=by rw [hs];unfold chM;rw [List.foldl_append];rfl
  simp -dsimp only [go_sem]
  simp -dsimp (disch:=omega) only [wrap64]
  refine ⟨(i+1,v2),by dsimp only;omega,by simp [Le,find],by dsimp only;omega,p0,?_,fun _=>?_⟩
  ·dsimp only;rw [hch];exact ⟨_,_,t3⟩
  ·dsimp only;rw [hch];exact (PN.of t3).lower (by omega)
 ·obtain rfl:i=ws'.length:=by omega
  simp -dsimp only [go_sem,Int.lt_irrefl]
  rw [hwl,List.take_length] at t tn
  refine ⟨p0,t,fun hne=>tn ?_⟩
  exact List.length_pos_iff.2 hne
end Go.Proofs.Tst
/-
  The words' memory model in memory: its parts.
-/
namespace Go.Proofs.Tst
open Go Go.Vc
def mcells (q:GV) (g:Gr) (c:Nat→Nat) (rd wr fe:Value) (d:Nat→Nat):List Value:=[.int .i64 g.cells,.slice q.e g.evs.length q.ec,.slice q.f g.rf.length q.fc,.slice q.o g.co.length q.oc,.slice q.r g.rmw.length q.rc,.slice q.a g.addr.length q.ac,.slice q.d g.data.length q.dc,.slice q.c g.ctrl.length q.cc,
 .pointer (some ⟨c 0,0,none⟩),.pointer (some ⟨c 1,0,none⟩),.pointer (some ⟨c 2,0,none⟩),.pointer (some ⟨c 9,0,none⟩),.pointer (some ⟨c 3,0,none⟩),.pointer (some ⟨c 4,0,none⟩),.pointer (some ⟨c 5,0,none⟩),.pointer (some ⟨c 6,0,none⟩),.pointer (some ⟨c 7,0,none⟩),.pointer (some ⟨c 8,0,none⟩),rd,wr,fe,
 .pointer (some ⟨d 0,0,none⟩),.pointer (some ⟨d 1,0,none⟩),.pointer (some ⟨d 2,0,none⟩),.pointer (some ⟨d 3,0,none⟩),.pointer (some ⟨d 4,0,none⟩),.pointer (some ⟨d 5,0,none⟩)]
def armM (g:Gr):Nat→Mx
 | 0=>rfeM g
 | 1=>rfiM g
 | 2=>coeM g
 | 3=>coiM g
 | 4=>freM g
 | _=>dM (acqB g)
structure Md (h:Heap) (mb:Nat) (q:GV) (g:Gr) (c:Nat→Nat) (rd wr fe:Value) (d:Nat→Nat):Prop where
 row:Rw h mb (mcells q g c rd wr fe d)
 gr:GrAt h q g
 n:g.n≤256
 rel:∀ k,k<10→PA h (.pointer (some ⟨c k,0,none⟩)) g.n (relM g k)
 hm:∀ k,k<6→PA h (.pointer (some ⟨d k,0,none⟩)) g.n (armM g k)
 rd:Rd 1 h rd (kindsV g 1 g.n).length (boolsV (kindsV g 1 g.n))
 wr:Rd 1 h wr (kindsV g 2 g.n).length (boolsV (kindsV g 2 g.n))
 fe:Rd 1 h fe (kindsV g 3 g.n).length (boolsV (kindsV g 3 g.n))
theorem Md.fr {h h':Heap} {mb:Nat} {q:GV} {g:Gr} {c:Nat→Nat} {rd wr fe:Value} {d:Nat→Nat} (m:Md h mb q g c rd wr fe d) (f:Fr 0 0 h h'):Md h' mb q g c rd wr fe d:=
 ⟨m.row.fr f (by omega),m.gr.fr f,m.n,fun k hk=>(m.rel k hk).fr f,fun k hk=>(m.hm k hk).fr f,m.rd.fr f,m.wr.fr f,m.fe.fr f⟩
structure Mg (h:Heap) (mb:Nat) (q:GV) (g:Gr):Prop where
 row:∃ rest,Rw h mb (gcells q g++rest)
 gr:GrAt h q g
 n:g.n≤256
theorem Mg.fr {h h':Heap} {mb:Nat} {q:GV} {g:Gr} (m:Mg h mb q g) (f:Fr 0 0 h h'):Mg h' mb q g:=
 ⟨by obtain ⟨r,w⟩:=m.row;exact ⟨r,w.fr f (by omega)⟩,m.gr.fr f,m.n⟩
theorem Md.mg {h:Heap} {mb:Nat} {q:GV} {g:Gr} {c:Nat→Nat} {rd wr fe:Value} {d:Nat→Nat} (m:Md h mb q g c rd wr fe d):Mg h mb q g:=⟨⟨_,m.row⟩,m.gr,m.n⟩
theorem kinds_len (g:Gr) (k:Int):(kindsV g k g.n).length=g.n:=by simp [kindsV];unfold Gr.n;omega
theorem atB_kinds {g:Gr} {k:Int} {i:Nat} (hi:i<g.n):atB (kindsV g k g.n) i=isK g k i:=atB_get (kindsV_get hi)
theorem atB_with {g:Gr} {x:Int} {i:Nat} (hi:i<g.n):atB (withB g [x]) i=isM g x i:=by
 refine atB_get ?_
 unfold withB isM
 rw [List.getElem?_map,Gr.ev_get hi]
 simp only [Option.map_some,Option.some.injEq]
 rw [Bool.eq_iff_iff];simp
section
variable {h : Heap} {mb : Nat} {q : GV} {g : Gr} {c : Nat → Nat} {rd wr fe : Value} {d : Nat → Nat}
theorem arm_model_set (m:Mg h mb q g) {sv:Value} {l:List Bool} (hl:Rd 1 h sv l.length (boolsV l)) (hb:l.length≤4611686018427387904) {f:Nat→Bool} (hf:∀ i,i<g.n→atB l i=f i) :
  Con Tryz.prog 95 #[.pointer (some ⟨mb,0,none⟩),sv] h fun v h'=>Fr 0 0 h h'∧PN h' h.size v g.n (dM f):=by
 refine con_arm_model_set ?_
 have hn:=m.n
 have hcl:clampN (g.n:Int)=g.n:=by unfold clampN;omega
 have p0:Fr 0 0 h h:=.refl _ _ _
 obtain ⟨rest,r1⟩:=m.row
 unfold gcells at r1
 simp only [List.cons_append,List.nil_append] at r1
 simp -dsimp only [go_sem,evs_len,r1.cell]
 refine call_of (rel_Ident g.n hl hb) ?_
 rintro v h1 ⟨f1,t⟩
 rw [hcl] at t
 have f1_z:=f1.size
 replace p0:=p0.F f1
 replace r1:=r1.F f1
 simp -dsimp only [go_sem,r1.cell]
 exact ⟨p0,(PN.of t).congr fun i j hi hj=>by
  show (i==j&&atB l i)=(i==j&&f i)
  rw [hf i hi]⟩
theorem arm_model_mode (m:Mg h mb q g) (x:Int) :
  Con Tryz.prog 59 #[.pointer (some ⟨mb,0,none⟩),.int .i64 x] h fun v h'=>Fr 0 0 h h'∧PN h' h.size v g.n (dM (isM g x)):=by
 refine con_arm_model_mode ?_
 have hn:=m.n
 have p0:Fr 0 0 h h:=.refl _ _ _
 obtain ⟨rest,r1⟩:=m.row
 unfold gcells at r1
 simp only [List.cons_append,List.nil_append] at r1
 simp -dsimp only [go_sem,r1.cell]
 intro b2 h2 n2
 have n2_a:=n2.at_
 have n2_z:=n2.size
 replace p0:=p0.F n2.f0
 replace r1:=r1.F n2.f0
 have r2:=n2.row
 simp -dsimp only [go_sem,r1.cell,r2.cell]
 refine call_of (graph_With (m.gr.fr p0) (by omega) (m:=[x]) (Rw.rd (s:=1) (n:=1) (c:=1) r2 rfl) (by simp)) ?_
 rintro v3 h3 ⟨f3,o3⟩
 have f3_z:=f3.size
 replace p0:=p0.F f3
 replace r1:=r1.F f3
 replace r2:=r2.F f3
 have hwl:(withB g [x]).length=g.n:=by simp [withB,Gr.n]
 simp -dsimp only [go_sem,r1.cell,r2.cell]
 refine call_of (arm_model_set (m.fr p0) (l:=withB g [x]) (by rw [hwl];exact o3.rd) (by omega) (fun i hi=>atB_with hi)) ?_
 rintro v4 h4 ⟨f4,t4⟩
 have f4_z:=f4.size
 replace p0:=p0.F f4
 replace r1:=r1.F f4
 replace r2:=r2.F f4
 simp -dsimp only [go_sem,r1.cell,r2.cell]
 exact ⟨p0,t4.lower (by omega)⟩
theorem arm_model_obs (m:Md h mb q g c rd wr fe d) :
  Con Tryz.prog 65 #[.pointer (some ⟨mb,0,none⟩)] h fun v h'=>Fr 0 0 h h'∧PN h' h.size v g.n (obsM g):=by
 refine con_arm_model_obs ?_
 have p0:Fr 0 0 h h:=.refl _ _ _
 have r1:=m.row
 unfold mcells at r1
 simp -dsimp only [go_sem,r1.cell]
 intro b2 h2 n2
 have n2_a:=n2.at_
 have n2_z:=n2.size
 replace p0:=p0.F n2.f0
 replace r1:=r1.F n2.f0
 have r2:=n2.row
 simp -dsimp only [go_sem,r1.cell,r2.cell]
 have m2:=m.fr p0
 refine call_of (rel_UnionU (UA.mk' [(.pointer (some ⟨d 0,0,none⟩),rfeM g),(.pointer (some ⟨d 2,0,none⟩),coeM g),(.pointer (some ⟨d 4,0,none⟩),freM g)] r2 (pa_cons (m2.hm 0 (by decide)) (pa_cons (m2.hm 2 (by decide)) (pa_cons (m2.hm 4 (by decide)) pa_nil))) (by simp) (by simp))) ?_
 rintro v3 h3 ⟨f3,t3⟩
 have f3_z:=f3.size
 replace p0:=p0.F f3
 replace r1:=r1.F f3
 replace r2:=r2.F f3
 simp -dsimp only [go_sem,r1.cell,r2.cell]
 exact ⟨p0,((PN.of t3).lower (by omega)).congr fun i j _ _=>by simp [orM,obsM,Bool.or_assoc]⟩
set_option maxHeartbeats 2000000 in
theorem arm_model_dob (m:Md h mb q g c rd wr fe d) (ht:TabAt h) :
  Con Tryz.prog 66 #[.pointer (some ⟨mb,0,none⟩)] h fun v h'=>Fr 0 0 h h'∧PN h' h.size v g.n (dobM g):=by
 refine con_arm_model_dob ?_
 have hn:=m.n
 have hkl:=kinds_len g
 have p0:Fr 0 0 h h:=.refl _ _ _
 have r1:=m.row
 unfold mcells at r1
 simp -dsimp only [go_sem,r1.cell]
 refine call_of (arm_model_set (m.fr p0).mg (m.fr p0).wr (by rw [hkl];omega) (fun i hi=>atB_kinds hi)) ?_
 rintro v3 hL ⟨f3,w3⟩
 have f3_z:=f3.size
 replace p0:=p0.F f3
 replace r1:=r1.F f3
 obtain ⟨w,rfl⟩:=w3.pa.ptr
 simp -dsimp only [go_sem,r1.cell]
 have P0:∀ h',Fr 0 0 hL h'→Fr 0 0 h h':=fun h' f=>p0.trans f
 have R:∀ k,k<10→∀ h',Fr 0 0 hL h'→PA h' (.pointer (some ⟨c k,0,none⟩)) g.n (relM g k):=fun k hk h' f=>(m.rel k hk).fr (P0 h' f)
 have E:∀ k,k<6→∀ h',Fr 0 0 hL h'→PA h' (.pointer (some ⟨d k,0,none⟩)) g.n (armM g k):=fun k hk h' f=>(m.hm k hk).fr (P0 h' f)
 have W:∀ h',Fr 0 0 hL h'→PA h' (.pointer (some ⟨w,0,none⟩)) g.n (dM (isK g 2)):=fun h' f=>w3.pa.fr f
 have hLz:h.size≤hL.size:=by omega
 clear p0 r1
 refine free_intro [(16,[16],tC g.n [(dM (isK g 2))]),(17,[17],tN hL.size g.n (chM g.n (relM g 8) [(dM (isK g 2))])),(29,[29],tC g.n [(relM g 0),(dM (isK g 2))]),(30,[30],tN hL.size g.n (chM g.n (relM g 6) [(relM g 0),(dM (isK g 2))])),(41,[41],tU g.n (orM [(relM g 8),(relM g 7)])),(42,[42],tN hL.size g.n (orM [(relM g 8),(relM g 7)])),(47,[47],tC g.n [(coiM g)]),(48,[48],tN hL.size g.n (chM g.n (orM [(relM g 8),(relM g 7)]) [(coiM g)])),(59,[59],tU g.n (orM [(relM g 6),(relM g 7)])),(60,[60],tN hL.size g.n (orM [(relM g 6),(relM g 7)])),(65,[65],tC g.n [(rfiM g)]),(66,[66],tN hL.size g.n (chM g.n (orM [(relM g 6),(relM g 7)]) [(rfiM g)])),(67,[67],tU g.n (orM [(relM g 6),(relM g 7),(chM g.n (relM g 8) [(dM (isK g 2))]),(chM g.n (relM g 6) [(relM g 0),(dM (isK g 2))]),(chM g.n (orM [(relM g 8),(relM g 7)]) [(coiM g)]),(chM g.n (orM [(relM g 6),(relM g 7)]) [(rfiM g)])])),(68,[68],tN hL.size g.n (orM [(relM g 6),(relM g 7),(chM g.n (relM g 8) [(dM (isK g 2))]),(chM g.n (relM g 6) [(relM g 0),(dM (isK g 2))]),(chM g.n (orM [(relM g 8),(relM g 7)]) [(coiM g)]),(chM g.n (orM [(relM g 6),(relM g 7)]) [(rfiM g)])])),(69,[69],tN hL.size g.n (orM [(relM g 6),(relM g 7),(chM g.n (relM g 8) [(dM (isK g 2))]),(chM g.n (relM g 6) [(relM g 0),(dM (isK g 2))]),(chM g.n (orM [(relM g 8),(relM g 7)]) [(coiM g)]),(chM g.n (orM [(relM g 6),(relM g 7)]) [(rfiM g)])]))] ?_ rfl ?_ ?_
 ·exact ⟨stC _ _,stN _ _ _,stC _ _,stN _ _ _,stU _ _,stN _ _ _,stC _ _,stN _ _ _,stU _ _,stN _ _ _,stC _ _,stN _ _ _,stU _ _,stN _ _ _,stN _ _ _,trivial⟩
 ·simp -dsimp only [go_sem,tC_eq,tU_eq,tN_eq]
  refine ⟨fun h4 f4 V=>?_,fun h4 f4 V a16=>?_,fun h4 f4 V=>?_,fun h4 f4 V a29 a17=>?_,fun h4 f4 V=>?_,fun h4 f4 V a41 a30=>?_,fun h4 f4 V=>?_,fun h4 f4 V a47 a42=>?_,fun h4 f4 V=>?_,fun h4 f4 V a59 a48=>?_,fun h4 f4 V=>?_,fun h4 f4 V a65 a60=>?_,fun h4 f4 V a17 a30 a48 a66=>?_,fun h4 f4 V a67 a66=>?_,fun h4 f4 V a16 a17 a29 a30 a41 a42 a47 a48 a59 a60 a65 a66 a67 a68=>?_⟩
  ·try simp -dsimp only [go_sem,putAt_one]
   intro b5 h5 n5
   try simp -dsimp only [go_sem] at n5
   simp -dsimp only [go_sem,tU_eq,tC_eq]
   exact ⟨n5.fr,CA.mk [(.pointer (some ⟨w,0,none⟩),(dM (isK g 2)))] n5.row (pa_cons (PA.fr (W h4 f4) n5.fr) (pa_nil)) (by simp)⟩
  ·try simp -dsimp only [go_sem]
   refine call_of (arm_chain (R 8 (by decide) h4 f4) a16 (ht.fr (P0 h4 f4) (.inr rfl))) ?_
   rintro v h5 ⟨f5,-,w⟩
   simp -dsimp only [go_sem,tN_eq]
   exact ⟨f5,PN.lower (w (by simp)) f4.size⟩
  ·try simp -dsimp only [go_sem,putAt_one]
   intro b5 h5 n5
   try simp -dsimp only [go_sem] at n5
   simp -dsimp only [go_sem,tU_eq,tC_eq]
   exact ⟨n5.fr,CA.mk [(.pointer (some ⟨c 0,0,none⟩),(relM g 0)),(.pointer (some ⟨w,0,none⟩),(dM (isK g 2)))] n5.row (pa_cons (PA.fr (R 0 (by decide) h4 f4) n5.fr) (pa_cons (PA.fr (W h4 f4) n5.fr) (pa_nil))) (by simp)⟩
  ·try simp -dsimp only [go_sem]
   refine call_of (arm_chain (R 6 (by decide) h4 f4) a29 (ht.fr (P0 h4 f4) (.inr rfl))) ?_
   rintro v h5 ⟨f5,-,w⟩
   simp -dsimp only [go_sem,tN_eq]
   exact ⟨f5,PN.lower (w (by simp)) f4.size⟩
  ·try simp -dsimp only [go_sem,putAt_one]
   intro b5 h5 n5
   try simp -dsimp only [go_sem] at n5
   simp -dsimp only [go_sem,tU_eq,tC_eq]
   exact ⟨n5.fr,UA.mk' [(.pointer (some ⟨c 8,0,none⟩),(relM g 8)),(.pointer (some ⟨c 7,0,none⟩),(relM g 7))] n5.row (pa_cons (PA.fr (R 8 (by decide) h4 f4) n5.fr) (pa_cons (PA.fr (R 7 (by decide) h4 f4) n5.fr) (pa_nil))) (by simp) (by simp)⟩
  ·try simp -dsimp only [go_sem]
   refine call_of (rel_UnionU a41) ?_
   rintro v h5 ⟨f5,w⟩
   simp -dsimp only [go_sem,tN_eq]
   exact ⟨f5,PN.lower (PN.of w) f4.size⟩
  ·try simp -dsimp only [go_sem,putAt_one]
   intro b5 h5 n5
   try simp -dsimp only [go_sem] at n5
   simp -dsimp only [go_sem,tU_eq,tC_eq]
   exact ⟨n5.fr,CA.mk [(.pointer (some ⟨d 3,0,none⟩),(coiM g))] n5.row (pa_cons (PA.fr (E 3 (by decide) h4 f4) n5.fr) (pa_nil)) (by simp)⟩
  ·try simp -dsimp only [go_sem]
   refine call_of (arm_chain (a42.pa) a47 (ht.fr (P0 h4 f4) (.inr rfl))) ?_
   rintro v h5 ⟨f5,-,w⟩
   simp -dsimp only [go_sem,tN_eq]
   exact ⟨f5,PN.lower (w (by simp)) f4.size⟩
  ·try simp -dsimp only [go_sem,putAt_one]
   intro b5 h5 n5
   try simp -dsimp only [go_sem] at n5
   simp -dsimp only [go_sem,tU_eq,tC_eq]
   exact ⟨n5.fr,UA.mk' [(.pointer (some ⟨c 6,0,none⟩),(relM g 6)),(.pointer (some ⟨c 7,0,none⟩),(relM g 7))] n5.row (pa_cons (PA.fr (R 6 (by decide) h4 f4) n5.fr) (pa_cons (PA.fr (R 7 (by decide) h4 f4) n5.fr) (pa_nil))) (by simp) (by simp)⟩
  ·try simp -dsimp only [go_sem]
   refine call_of (rel_UnionU a59) ?_
   rintro v h5 ⟨f5,w⟩
   simp -dsimp only [go_sem,tN_eq]
   exact ⟨f5,PN.lower (PN.of w) f4.size⟩
  ·try simp -dsimp only [go_sem,putAt_one]
   intro b5 h5 n5
   try simp -dsimp only [go_sem] at n5
   simp -dsimp only [go_sem,tU_eq,tC_eq]
   exact ⟨n5.fr,CA.mk [(.pointer (some ⟨d 1,0,none⟩),(rfiM g))] n5.row (pa_cons (PA.fr (E 1 (by decide) h4 f4) n5.fr) (pa_nil)) (by simp)⟩
  ·try simp -dsimp only [go_sem]
   refine call_of (arm_chain (a60.pa) a65 (ht.fr (P0 h4 f4) (.inr rfl))) ?_
   rintro v h5 ⟨f5,-,w⟩
   simp -dsimp only [go_sem,tN_eq]
   exact ⟨f5,PN.lower (w (by simp)) f4.size⟩
  ·try simp -dsimp only [go_sem,a17.pa.cl,a30.pa.cl,a48.pa.cl,a66.pa.cl,putAt_one]
   intro b5 h5 n5
   try simp -dsimp only [go_sem] at n5
   simp -dsimp only [go_sem,tU_eq,tC_eq]
   exact ⟨n5.fr,UA.mk' [(.pointer (some ⟨c 6,0,none⟩),(relM g 6)),(.pointer (some ⟨c 7,0,none⟩),(relM g 7)),((V 17).1,(chM g.n (relM g 8) [(dM (isK g 2))])),((V 30).1,(chM g.n (relM g 6) [(relM g 0),(dM (isK g 2))])),((V 48).1,(chM g.n (orM [(relM g 8),(relM g 7)]) [(coiM g)])),((V 66).1,(chM g.n (orM [(relM g 6),(relM g 7)]) [(rfiM g)]))] n5.row (pa_cons (PA.fr (R 6 (by decide) h4 f4) n5.fr) (pa_cons (PA.fr (R 7 (by decide) h4 f4) n5.fr) (pa_cons (PA.fr (a17.pa) n5.fr) (pa_cons (PA.fr (a30.pa) n5.fr) (pa_cons (PA.fr (a48.pa) n5.fr) (pa_cons (PA.fr (a66.pa) n5.fr) (pa_nil))))))) (by simp) (by simp)⟩
  ·try simp -dsimp only [go_sem]
   refine call_of (rel_UnionU a67) ?_
   rintro v h5 ⟨f5,w⟩
   simp -dsimp only [go_sem,tN_eq]
   exact ⟨f5,PN.lower (PN.of w) f4.size⟩
  ·try simp -dsimp only [go_sem,tN_eq]
   exact ⟨.refl _ _ _,a68⟩
 ·intro h4 f4 V _
  simp -dsimp only [go_sem,tC_eq,tU_eq,tN_eq]
  intro a16 a17 a29 a30 a41 a42 a47 a48 a59 a60 a65 a66 a67 a68 a69
  try simp -dsimp only [go_sem]
  refine ⟨P0 h4 f4,(a69.lower hLz).congr fun i j hi hj=>?_⟩
  unfold orM dobM chM
  simp only [List.foldl_cons,List.foldl_nil,List.any_cons,List.any_nil,Bool.or_false,compM_dR hi hj]
  rw [compM_in hi hj,compM_in hi hj,compM_in hi hj]
  simp only [Bool.or_assoc]
set_option maxHeartbeats 2000000 in
theorem arm_model_bob (m:Md h mb q g c rd wr fe d) (ht:TabAt h) :
  Con Tryz.prog 68 #[.pointer (some ⟨mb,0,none⟩)] h fun v h'=>Fr 0 0 h h'∧PN h' h.size v g.n (bobM g):=by
 refine con_arm_model_bob ?_
 have hn:=m.n
 have hkl:=kinds_len g
 have p0:Fr 0 0 h h:=.refl _ _ _
 have r1:=m.row
 unfold mcells at r1
 simp -dsimp only [go_sem,r1.cell]
 refine call_of (arm_model_mode (m.fr p0).mg 12) ?_
 rintro v3 h3 ⟨f3,w3⟩
 have f3_z:=f3.size
 replace p0:=p0.F f3
 replace r1:=r1.F f3
 obtain ⟨ra,rfl⟩:=w3.pa.ptr
 simp -dsimp only [go_sem,r1.cell]
 refine call_of (arm_model_mode (m.fr p0).mg 13) ?_
 rintro v4 hL ⟨f4',w4⟩
 have f4'_z:=f4'.size
 replace p0:=p0.fresh f4' (by omega)
 replace r1:=r1.fr f4' (by omega)
 obtain ⟨rl,rfl⟩:=w4.pa.ptr
 have w3':=w3.pa.fr f4'
 simp -dsimp only [go_sem,r1.cell]
 have P0:∀ h',Fr 0 0 hL h'→Fr 0 0 h h':=fun h' f=>p0.trans f
 have MD:∀ h',Fr 0 0 hL h'→Md h' mb q g c rd wr fe d:=fun h' f=>m.fr (P0 h' f)
 have R:∀ k,k<10→∀ h',Fr 0 0 hL h'→PA h' (.pointer (some ⟨c k,0,none⟩)) g.n (relM g k):=fun k hk h' f=>(m.rel k hk).fr (P0 h' f)
 have E:∀ k,k<6→∀ h',Fr 0 0 hL h'→PA h' (.pointer (some ⟨d k,0,none⟩)) g.n (armM g k):=fun k hk h' f=>(m.hm k hk).fr (P0 h' f)
 have RA:∀ h',Fr 0 0 hL h'→PA h' (.pointer (some ⟨ra,0,none⟩)) g.n (dM (isM g 12)):=fun h' f=>w3'.fr f
 have RL:∀ h',Fr 0 0 hL h'→PA h' (.pointer (some ⟨rl,0,none⟩)) g.n (dM (isM g 13)):=fun h' f=>w4.pa.fr f
 have hLz:h.size≤hL.size:=by omega
 clear p0 r1
 refine free_intro [(6,[6],tN hL.size g.n (dM (isM g 15))),(12,[12],tC g.n [(dM (isM g 15)),(relM g 0)]),(13,[13],tN hL.size g.n (chM g.n (relM g 0) [(dM (isM g 15)),(relM g 0)])),(20,[20],tN hL.size g.n (dM (isK g 1))),(27,[27],tN hL.size g.n (dM (isM g 14))),(33,[33],tC g.n [(relM g 0),(dM (isM g 14)),(relM g 0)]),(34,[34],tN hL.size g.n (chM g.n (dM (isK g 1)) [(relM g 0),(dM (isM g 14)),(relM g 0)])),(42,[42],tC g.n [(relM g 0),(dM (isM g 12))]),(43,[43],tN hL.size g.n (chM g.n (dM (isM g 13)) [(relM g 0),(dM (isM g 12))])),(53,[53],tC g.n [(relM g 0)]),(54,[54],tN hL.size g.n (chM g.n (dM (acqB g)) [(relM g 0)])),(61,[61],tC g.n [(dM (isM g 13))]),(62,[62],tN hL.size g.n (chM g.n (relM g 0) [(dM (isM g 13))])),(73,[73],tC g.n [(dM (isM g 13)),(coiM g)]),(74,[74],tN hL.size g.n (chM g.n (relM g 0) [(dM (isM g 13)),(coiM g)])),(75,[75],tU g.n (orM [(chM g.n (relM g 0) [(dM (isM g 15)),(relM g 0)]),(chM g.n (dM (isK g 1)) [(relM g 0),(dM (isM g 14)),(relM g 0)]),(chM g.n (dM (isM g 13)) [(relM g 0),(dM (isM g 12))]),(chM g.n (dM (acqB g)) [(relM g 0)]),(chM g.n (relM g 0) [(dM (isM g 13))]),(chM g.n (relM g 0) [(dM (isM g 13)),(coiM g)])])),(76,[76],tN hL.size g.n (orM [(chM g.n (relM g 0) [(dM (isM g 15)),(relM g 0)]),(chM g.n (dM (isK g 1)) [(relM g 0),(dM (isM g 14)),(relM g 0)]),(chM g.n (dM (isM g 13)) [(relM g 0),(dM (isM g 12))]),(chM g.n (dM (acqB g)) [(relM g 0)]),(chM g.n (relM g 0) [(dM (isM g 13))]),(chM g.n (relM g 0) [(dM (isM g 13)),(coiM g)])])),(77,[77],tN hL.size g.n (orM [(chM g.n (relM g 0) [(dM (isM g 15)),(relM g 0)]),(chM g.n (dM (isK g 1)) [(relM g 0),(dM (isM g 14)),(relM g 0)]),(chM g.n (dM (isM g 13)) [(relM g 0),(dM (isM g 12))]),(chM g.n (dM (acqB g)) [(relM g 0)]),(chM g.n (relM g 0) [(dM (isM g 13))]),(chM g.n (relM g 0) [(dM (isM g 13)),(coiM g)])]))] ?_ rfl ?_ ?_
 ·exact ⟨stN _ _ _,stC _ _,stN _ _ _,stN _ _ _,stN _ _ _,stC _ _,stN _ _ _,stC _ _,stN _ _ _,stC _ _,stN _ _ _,stC _ _,stN _ _ _,stC _ _,stN _ _ _,stU _ _,stN _ _ _,stN _ _ _,trivial⟩
 ·simp -dsimp only [go_sem,tC_eq,tU_eq,tN_eq]
  refine ⟨fun h4 f4 V=>?_,fun h4 f4 V a6=>?_,fun h4 f4 V a12 a6=>?_,fun h4 f4 V a13=>?_,fun h4 f4 V a20=>?_,fun h4 f4 V a27=>?_,fun h4 f4 V a20 a33 a27=>?_,fun h4 f4 V=>?_,fun h4 f4 V a42 a34=>?_,fun h4 f4 V=>?_,fun h4 f4 V a53 a43=>?_,fun h4 f4 V=>?_,fun h4 f4 V a61 a54=>?_,fun h4 f4 V=>?_,fun h4 f4 V a73 a62=>?_,fun h4 f4 V a13 a34 a43 a54 a62 a74=>?_,fun h4 f4 V a75 a74=>?_,fun h4 f4 V a6 a12 a13 a20 a27 a33 a34 a42 a43 a53 a54 a61 a62 a73 a74 a75 a76=>?_⟩
  ·try simp -dsimp only [go_sem]
   refine call_of (arm_model_mode (MD h4 f4).mg 15) ?_
   rintro v h5 ⟨f5,w⟩
   simp -dsimp only [go_sem,tN_eq]
   exact ⟨f5,PN.lower w f4.size⟩
  ·try simp -dsimp only [go_sem,a6.pa.cl,putAt_one]
   intro b5 h5 n5
   try simp -dsimp only [go_sem] at n5
   simp -dsimp only [go_sem,tU_eq,tC_eq]
   exact ⟨n5.fr,CA.mk [((V 6).1,(dM (isM g 15))),(.pointer (some ⟨c 0,0,none⟩),(relM g 0))] n5.row (pa_cons (PA.fr (a6.pa) n5.fr) (pa_cons (PA.fr (R 0 (by decide) h4 f4) n5.fr) (pa_nil))) (by simp)⟩
  ·try simp -dsimp only [go_sem]
   refine call_of (arm_chain (R 0 (by decide) h4 f4) a12 (ht.fr (P0 h4 f4) (.inr rfl))) ?_
   rintro v h5 ⟨f5,-,w⟩
   simp -dsimp only [go_sem,tN_eq]
   exact ⟨f5,PN.lower (w (by simp)) f4.size⟩
  ·try simp -dsimp only [go_sem]
   refine call_of (arm_model_set (MD h4 f4).mg (l:=kindsV g 1 g.n) (MD h4 f4).rd (by rw [hkl];omega) (fun i hi=>atB_kinds hi)) ?_
   rintro v h5 ⟨f5,w⟩
   simp -dsimp only [go_sem,tN_eq]
   exact ⟨f5,PN.lower w f4.size⟩
  ·try simp -dsimp only [go_sem]
   refine call_of (arm_model_mode (MD h4 f4).mg 14) ?_
   rintro v h5 ⟨f5,w⟩
   simp -dsimp only [go_sem,tN_eq]
   exact ⟨f5,PN.lower w f4.size⟩
  ·try simp -dsimp only [go_sem,a27.pa.cl,putAt_one]
   intro b5 h5 n5
   try simp -dsimp only [go_sem] at n5
   simp -dsimp only [go_sem,tU_eq,tC_eq]
   exact ⟨n5.fr,CA.mk [(.pointer (some ⟨c 0,0,none⟩),(relM g 0)),((V 27).1,(dM (isM g 14))),(.pointer (some ⟨c 0,0,none⟩),(relM g 0))] n5.row (pa_cons (PA.fr (R 0 (by decide) h4 f4) n5.fr) (pa_cons (PA.fr (a27.pa) n5.fr) (pa_cons (PA.fr (R 0 (by decide) h4 f4) n5.fr) (pa_nil)))) (by simp)⟩
  ·try simp -dsimp only [go_sem]
   refine call_of (arm_chain (a20.pa) a33 (ht.fr (P0 h4 f4) (.inr rfl))) ?_
   rintro v h5 ⟨f5,-,w⟩
   simp -dsimp only [go_sem,tN_eq]
   exact ⟨f5,PN.lower (w (by simp)) f4.size⟩
  ·try simp -dsimp only [go_sem,putAt_one]
   intro b5 h5 n5
   try simp -dsimp only [go_sem] at n5
   simp -dsimp only [go_sem,tU_eq,tC_eq]
   exact ⟨n5.fr,CA.mk [(.pointer (some ⟨c 0,0,none⟩),(relM g 0)),(.pointer (some ⟨ra,0,none⟩),(dM (isM g 12)))] n5.row (pa_cons (PA.fr (R 0 (by decide) h4 f4) n5.fr) (pa_cons (PA.fr (RA h4 f4) n5.fr) (pa_nil))) (by simp)⟩
  ·try simp -dsimp only [go_sem]
   refine call_of (arm_chain (RL h4 f4) a42 (ht.fr (P0 h4 f4) (.inr rfl))) ?_
   rintro v h5 ⟨f5,-,w⟩
   simp -dsimp only [go_sem,tN_eq]
   exact ⟨f5,PN.lower (w (by simp)) f4.size⟩
  ·try simp -dsimp only [go_sem,putAt_one]
   intro b5 h5 n5
   try simp -dsimp only [go_sem] at n5
   simp -dsimp only [go_sem,tU_eq,tC_eq]
   exact ⟨n5.fr,CA.mk [(.pointer (some ⟨c 0,0,none⟩),(relM g 0))] n5.row (pa_cons (PA.fr (R 0 (by decide) h4 f4) n5.fr) (pa_nil)) (by simp)⟩
  ·try simp -dsimp only [go_sem]
   refine call_of (arm_chain (E 5 (by decide) h4 f4) a53 (ht.fr (P0 h4 f4) (.inr rfl))) ?_
   rintro v h5 ⟨f5,-,w⟩
   simp -dsimp only [go_sem,tN_eq]
   exact ⟨f5,PN.lower (w (by simp)) f4.size⟩
  ·try simp -dsimp only [go_sem,putAt_one]
   intro b5 h5 n5
   try simp -dsimp only [go_sem] at n5
   simp -dsimp only [go_sem,tU_eq,tC_eq]
   exact ⟨n5.fr,CA.mk [(.pointer (some ⟨rl,0,none⟩),(dM (isM g 13)))] n5.row (pa_cons (PA.fr (RL h4 f4) n5.fr) (pa_nil)) (by simp)⟩
  ·try simp -dsimp only [go_sem]
   refine call_of (arm_chain (R 0 (by decide) h4 f4) a61 (ht.fr (P0 h4 f4) (.inr rfl))) ?_
   rintro v h5 ⟨f5,-,w⟩
   simp -dsimp only [go_sem,tN_eq]
   exact ⟨f5,PN.lower (w (by simp)) f4.size⟩
  ·try simp -dsimp only [go_sem,putAt_one]
   intro b5 h5 n5
   try simp -dsimp only [go_sem] at n5
   simp -dsimp only [go_sem,tU_eq,tC_eq]
   exact ⟨n5.fr,CA.mk [(.pointer (some ⟨rl,0,none⟩),(dM (isM g 13))),(.pointer (some ⟨d 3,0,none⟩),(coiM g))] n5.row (pa_cons (PA.fr (RL h4 f4) n5.fr) (pa_cons (PA.fr (E 3 (by decide) h4 f4) n5.fr) (pa_nil))) (by simp)⟩
  ·try simp -dsimp only [go_sem]
   refine call_of (arm_chain (R 0 (by decide) h4 f4) a73 (ht.fr (P0 h4 f4) (.inr rfl))) ?_
   rintro v h5 ⟨f5,-,w⟩
   simp -dsimp only [go_sem,tN_eq]
   exact ⟨f5,PN.lower (w (by simp)) f4.size⟩
  ·try simp -dsimp only [go_sem,a13.pa.cl,a34.pa.cl,a43.pa.cl,a54.pa.cl,a62.pa.cl,a74.pa.cl,putAt_one]
   intro b5 h5 n5
   try simp -dsimp only [go_sem] at n5
   simp -dsimp only [go_sem,tU_eq,tC_eq]
   exact ⟨n5.fr,UA.mk' [((V 13).1,(chM g.n (relM g 0) [(dM (isM g 15)),(relM g 0)])),((V 34).1,(chM g.n (dM (isK g 1)) [(relM g 0),(dM (isM g 14)),(relM g 0)])),((V 43).1,(chM g.n (dM (isM g 13)) [(relM g 0),(dM (isM g 12))])),((V 54).1,(chM g.n (dM (acqB g)) [(relM g 0)])),((V 62).1,(chM g.n (relM g 0) [(dM (isM g 13))])),((V 74).1,(chM g.n (relM g 0) [(dM (isM g 13)),(coiM g)]))] n5.row (pa_cons (PA.fr (a13.pa) n5.fr) (pa_cons (PA.fr (a34.pa) n5.fr) (pa_cons (PA.fr (a43.pa) n5.fr) (pa_cons (PA.fr (a54.pa) n5.fr) (pa_cons (PA.fr (a62.pa) n5.fr) (pa_cons (PA.fr (a74.pa) n5.fr) (pa_nil))))))) (by simp) (by simp)⟩
  ·try simp -dsimp only [go_sem]
   refine call_of (rel_UnionU a75) ?_
   rintro v h5 ⟨f5,w⟩
   simp -dsimp only [go_sem,tN_eq]
   exact ⟨f5,PN.lower (PN.of w) f4.size⟩
  ·try simp -dsimp only [go_sem,tN_eq]
   exact ⟨.refl _ _ _,a76⟩
 ·intro h4 f4 V _
  simp -dsimp only [go_sem,tC_eq,tU_eq,tN_eq]
  intro a6 a12 a13 a20 a27 a33 a34 a42 a43 a53 a54 a61 a62 a73 a74 a75 a76 a77
  try simp -dsimp only [go_sem]
  refine ⟨P0 h4 f4,(a77.lower hLz).congr fun i j hi hj=>?_⟩
  unfold orM bobM chM
  simp only [List.foldl_cons,List.foldl_nil,List.any_cons,List.any_nil,Bool.or_false,compM_dR hi hj]
  have e1:compM g.n (compM g.n (relM g 0) g.n (dM (isM g 15))) g.n (relM g 0) i j=exB g.n fun k=>relM g 0 i k&&isM g 15 k&&relM g 0 k j:=by
   rw [compM_in hi hj];exact exB_congr fun k hk=>by rw [compM_dR hi hk]
  have e2:compM g.n (compM g.n (compM g.n (dM (isK g 1)) g.n (relM g 0)) g.n (dM (isM g 14))) g.n (relM g 0) i j=exB g.n fun k=>isK g 1 i&&relM g 0 i k&&isM g 14 k&&relM g 0 k j:=by
   rw [compM_in hi hj];exact exB_congr fun k hk=>by rw [compM_dR hi hk,compM_dL hi hk]
  have e3:compM g.n (compM g.n (relM g 0) g.n (dM (isM g 13))) g.n (coiM g) i j=exB g.n fun k=>relM g 0 i k&&isM g 13 k&&coiM g k j:=by
   rw [compM_in hi hj];exact exB_congr fun k hk=>by rw [compM_dR hi hk]
  rw [e1,e2,e3]
  simp only [compM_dL hi hj,Bool.or_assoc]
end
end Go.Proofs.Tst
/-
  The words' memory model: aob, all relations, the model of a graph, Check.
-/
namespace Go.Proofs.Tst
open Go Go.Vc
section
variable {h : Heap} {mb : Nat} {q : GV} {g : Gr} {c : Nat → Nat} {rd wr fe : Value} {d : Nat → Nat}
theorem words_rmw {words:Bool} (hg:(g.check words).1=0) {p:Int×Int} (hp:p∈g.rmw):∃ a b:Nat,p=((a:Int),(b:Int))∧a<b∧b<g.n:=by
 obtain ⟨-,-,-,-,-,h6,-⟩:=check_zero hg
 obtain ⟨b1,b2,b3⟩:=before_lt (rmw_before h6 hp)
 exact ⟨p.1.toNat,p.2.toNat,Prod.ext (by dsimp only;omega) (by dsimp only;omega),by omega,by omega⟩
set_option maxHeartbeats 1000000 in
theorem arm_model_aob (m:Md h mb q g c rd wr fe d) (hg:(g.check true).1=0) (ht:TabAt h) :
  Con Tryz.prog 67 #[.pointer (some ⟨mb,0,none⟩)] h fun v h'=>Fr 0 0 h h'∧PN h' h.size v g.n (aobM g):=by
 refine con_arm_model_aob ?_
 have hn:=m.n
 have br:=m.gr.fits.r
 have p0:Fr 0 0 h h:=.refl _ _ _
 have r1:=m.row
 unfold mcells at r1
 simp -dsimp only [go_sem,evs_len,r1.cell]
 refine Chk_intro (by omega) ?_
 rw [zeros_one,Int.toNat_natCast,brow_false]
 intro b3 h2 n3
 have n3_a:=n3.at_
 have n3_z:=n3.size
 replace p0:=p0.F n3.f0
 replace r1:=r1.F n3.f0
 have r3:=n3.row
 simp -dsimp only [go_sem,r1.cell,r3.cell]
 refine loop_intro (fun i:Nat=>[(0,.pointer (some ⟨mb,0,none⟩)),(3,.slice (some ⟨b3,0,none⟩) g.n g.n),(17,.slice q.r g.rmw.length q.rc),(18,.int .i64 g.rmw.length),(19,.int .i64 i)])
  (fun i h'=>i≤g.rmw.length∧Fr 0 0 h h'∧Rw h' b3 (brow g.n fun j=>(g.rmw.take i).any fun p=>p.2==(j:Int))) (fun i=>g.rmw.length - i) 0 ?_ ?_ ?_
 ·simp [Le,find]
 ·exact ⟨by omega,p0,by simpa using r3⟩
 have hb3:h.size≤b3:=by omega
 have hmb:=m.row.lt
 clear p0 r1 r3
 rintro i h3 ⟨hi,p0,r3⟩
 have r1:=m.row.fr p0 (by omega)
 unfold mcells at r1
 have p0_z:=p0.size
 have r1_l:=r1.lt
 have r3_l:=r3.lt
 by_cases hlt:i<g.rmw.length
 ·have e1:((i:Int)<(g.rmw.length:Int)):=by omega
  have hq:g.rmw[i]?=some g.rmw[i]:=List.getElem?_eq_getElem hlt
  obtain ⟨x,y,he,hxy,hyn⟩:=words_rmw hg (List.mem_of_getElem? hq)
  rw [he] at hq
  obtain ⟨rb,ro,hre,hrc⟩:=m.gr.r.pairsAt (by omega)
  obtain ⟨k1,k2⟩:=hrc h3 p0 i _ hq
  dsimp only at k1 k2
  simp -dsimp only [go_sem,e1,hre,k1,k2,r1.cell,r3.cell]
  intro b5 h4 n5
  have n5_a:=n5.at_
  have n5_z:=n5.size
  replace p0:=p0.F n5.f0
  replace r1:=r1.F n5.f0
  replace r3:=r3.F n5.f0
  have r5:=n5.row
  simp -dsimp only [go_sem,r1.cell,r3.cell,r5.cell]
  refine Chk_intro (r5.wr (by first | (simp;done) | (simp;omega))) fun h5 s5=>?_
  have s5_z:=s5.size
  replace p0:=p0.F s5.fr
  replace r1:=r1.F s5.fr
  replace r3:=r3.F s5.fr
  replace r5:=s5.row r5
  try simp only [cl_int,cl_bool,cl_slice,cl_ptr,putAt_one,List.set_cons_zero,List.set_cons_succ,ivec_set,brow_upd] at r5
  simp -dsimp only [go_sem] at r5
  simp -dsimp only [go_sem,r1.cell,r3.cell,r5.cell]
  refine Chk_intro (by omega) ?_
  simp -dsimp only [go_sem,r1.cell,r3.cell,r5.cell]
  refine Chk_intro (r3.wr (by first | (simp;done) | (simp;omega))) fun h6 s6=>?_
  have s6_z:=s6.size
  replace p0:=p0.F s6.fr
  replace r1:=r1.F s6.fr
  replace r5:=r5.F s6.fr
  replace r3:=s6.row r3
  try simp only [cl_int,cl_bool,cl_slice,cl_ptr,putAt_one,List.set_cons_zero,List.set_cons_succ,ivec_set,brow_upd] at r3
  simp -dsimp only [go_sem,r1.cell,r3.cell,r5.cell]
  simp -dsimp (disch:=omega) only [wrap64]
  refine ⟨i+1,by omega,by simp [Le,find,hre],by omega,p0,?_⟩
  rw [List.take_add_one,hq,Option.toList_some,brow_congr (g:=upd (fun j=>(g.rmw.take i).any fun p=>p.2==(j:Int)) y true)]
  ·exact r3
  ·intro j _
   rw [List.any_append]
   unfold upd
   by_cases hj:j=y
   ·subst hj;rw [if_pos rfl];simp
   ·rw [if_neg hj]
    have:((y:Int)==(j:Int))=false:=by simp;omega
    simp [this]
 ·obtain rfl:i=g.rmw.length:=by omega
  rw [List.take_length] at r3
  have p3:Fr 0 0 h3 h3:=.refl _ _ _
  have hlast:brow g.n (fun j=>g.rmw.any fun p=>p.2==(j:Int))=boolsV ((List.range g.n).map (lastB g)):=by unfold brow boolsV lastB;rw [List.map_map];rfl
  rw [hlast] at r3
  have hll:((List.range g.n).map (lastB g)).length=g.n:=by simp
  have hat:∀ i,i<g.n→atB ((List.range g.n).map (lastB g)) i=lastB g i:=fun i hi=>atB_get (by simp [hi])
  have fin:∀ i j,i<g.n→j<g.n→orM [relM g 3,chM g.n (dM (lastB g)) [rfiM g,dM (acqB g)]] i j=aobM g i j:=fun i j hi hj=>by
   unfold orM aobM chM
   simp only [List.foldl_cons,List.foldl_nil,List.any_cons,List.any_nil,Bool.or_false,compM_dR hi hj,compM_dL hi hj]
  have rs:∀ h',Fr 0 0 h3 h'→Rd 1 h' (.slice (some ⟨b3,0,none⟩) g.n g.n) ((List.range g.n).map (lastB g)).length (boolsV ((List.range g.n).map (lastB g))):=fun h' f=>by rw [hll];exact (Rw.rd (s:=1) r3 (by simp)).fr f
  simp -dsimp only [go_sem,Int.lt_irrefl,r1.cell,r3.cell]
  simp -dsimp only [go_sem,r_two,r1.cell,r3.cell]
  refine ⟨?_,?_⟩
  ·refine call_of (arm_model_set (m.fr p0).mg (rs _ p3) (by omega) hat) ?_
   rintro v7 h7 ⟨f7,w7⟩
   have f7_z:=f7.size
   replace p0:=p0.F f7
   replace r1:=r1.F f7
   replace r3:=r3.F f7
   replace p3:=p3.F f7
   simp -dsimp only [go_sem,w7.pa.cl,r1.cell,r3.cell]
   intro b8 h8 n8
   have n8_a:=n8.at_
   have n8_z:=n8.size
   replace p0:=p0.F n8.f0
   replace r1:=r1.F n8.f0
   replace r3:=r3.F n8.f0
   replace p3:=p3.F n8.f0
   have r8:=n8.row
   have w8:=w7.fr n8.f0 (by omega)
   simp -dsimp only [go_sem,r1.cell,r3.cell,r8.cell]
   refine call_of (arm_chain w8.pa (CA.mk [(.pointer (some ⟨d 1,0,none⟩),rfiM g),(.pointer (some ⟨d 5,0,none⟩),dM (acqB g))] r8 (pa_cons ((m.fr p0).hm 1 (by decide)) (pa_cons ((m.fr p0).hm 5 (by decide)) pa_nil)) (by simp)) (ht.fr p0 (.inr rfl))) ?_
   rintro v9 h9 ⟨f9,w9,-⟩
   have f9_z:=f9.size
   replace p0:=p0.F f9
   replace r1:=r1.F f9
   replace r3:=r3.F f9
   replace p3:=p3.F f9
   replace r8:=r8.F f9
   simp -dsimp only [go_sem,w9.cl,r1.cell,r3.cell,r8.cell]
   intro b10 h10 n10
   have n10_a:=n10.at_
   have n10_z:=n10.size
   replace p0:=p0.F n10.f0
   replace r1:=r1.F n10.f0
   replace r3:=r3.F n10.f0
   replace p3:=p3.F n10.f0
   replace r8:=r8.F n10.f0
   have r10:=n10.row
   have w10:=w9.fr n10.f0
   simp -dsimp only [go_sem,r1.cell,r3.cell,r8.cell,r10.cell]
   refine call_of (rel_UnionU (UA.mk' [(.pointer (some ⟨c 3,0,none⟩),relM g 3),(v9,_)] r10 (pa_cons ((m.fr p0).rel 3 (by decide)) (pa_cons w10 pa_nil)) (by simp) (by simp))) ?_
   rintro v11 h11 ⟨f11,w11⟩
   have f11_z:=f11.size
   replace p0:=p0.F f11
   replace r1:=r1.F f11
   replace r3:=r3.F f11
   replace p3:=p3.F f11
   replace r8:=r8.F f11
   replace r10:=r10.F f11
   simp -dsimp only [go_sem,r1.cell,r3.cell,r8.cell,r10.cell]
   exact ⟨p0,((PN.of w11).lower (by omega)).congr fin⟩
  ·intro b8 h8 n8
   have n8_a:=n8.at_
   have n8_z:=n8.size
   replace p0:=p0.F n8.f0
   replace r1:=r1.F n8.f0
   replace r3:=r3.F n8.f0
   replace p3:=p3.F n8.f0
   have r8:=n8.row
   simp -dsimp only [go_sem,r1.cell,r3.cell,r8.cell]
   refine call_of (arm_model_set (m.fr p0).mg (rs _ p3) (by omega) hat) ?_
   rintro v7 h7 ⟨f7,w7⟩
   have f7_z:=f7.size
   replace p0:=p0.F f7
   replace r1:=r1.F f7
   replace r3:=r3.F f7
   replace p3:=p3.F f7
   replace r8:=r8.F f7
   simp -dsimp only [go_sem,r1.cell,r3.cell,r8.cell]
   refine call_of (arm_chain w7.pa (CA.mk [(.pointer (some ⟨d 1,0,none⟩),rfiM g),(.pointer (some ⟨d 5,0,none⟩),dM (acqB g))] r8 (pa_cons ((m.fr p0).hm 1 (by decide)) (pa_cons ((m.fr p0).hm 5 (by decide)) pa_nil)) (by simp)) (ht.fr p0 (.inr rfl))) ?_
   rintro v9 h9 ⟨f9,w9,-⟩
   have f9_z:=f9.size
   replace p0:=p0.F f9
   replace r1:=r1.F f9
   replace r3:=r3.F f9
   replace p3:=p3.F f9
   replace r8:=r8.F f9
   simp -dsimp only [go_sem,w9.cl,r1.cell,r3.cell,r8.cell]
   intro b10 h10 n10
   have n10_a:=n10.at_
   have n10_z:=n10.size
   replace p0:=p0.F n10.f0
   replace r1:=r1.F n10.f0
   replace r3:=r3.F n10.f0
   replace p3:=p3.F n10.f0
   replace r8:=r8.F n10.f0
   have r10:=n10.row
   have w10:=w9.fr n10.f0
   simp -dsimp only [go_sem,r1.cell,r3.cell,r8.cell,r10.cell]
   refine call_of (rel_UnionU (UA.mk' [(.pointer (some ⟨c 3,0,none⟩),relM g 3),(v9,_)] r10 (pa_cons ((m.fr p0).rel 3 (by decide)) (pa_cons w10 pa_nil)) (by simp) (by simp))) ?_
   rintro v11 h11 ⟨f11,w11⟩
   have f11_z:=f11.size
   replace p0:=p0.F f11
   replace r1:=r1.F f11
   replace r3:=r3.F f11
   replace p3:=p3.F f11
   replace r8:=r8.F f11
   replace r10:=r10.F f11
   simp -dsimp only [go_sem,r1.cell,r3.cell,r8.cell,r10.cell]
   exact ⟨p0,((PN.of w11).lower (by omega)).congr fin⟩
end
end Go.Proofs.Tst
/-
  The words' memory model: all its relations.
-/
namespace Go.Proofs.Tst
open Go Go.Vc
def aM (g:Gr):Nat→Mx
 | 0=>obsM g
 | 1=>dobM g
 | 2=>aobM g
 | 3=>bobM g
 | _=>obM g
def rangeM (M:Nat→Mx) (m:Nat):Mx:=fun i j=>(List.range m).any fun k=>M k i j
theorem Der.snoc {h:Heap} {A B:Nat→Nat} {p:Nat→Value} {n m lo L L':Nat} {M:Nat→Mx} {v:Value} (D:Der h A B p n M m) (hd:∀ k,k<m→lo≤A k∧A k≤B k∧B k≤L) (w:∃ a b,ProgAt h a b v n (M m)∧L≤a∧a≤b∧b≤L') (hl:lo≤L:=by omega) :
  ∃ A' B',Der h A' B' (upd p m v) n M (m+1)∧∀ k,k<m+1→lo≤A' k∧A' k≤B' k∧B' k≤L':=by
 obtain ⟨a,b,w,w1,w2,w3⟩:=w
 refine ⟨upd A m a,upd B m b,⟨fun k hk=>?_,fun k l hk hl hkl=>?_⟩,fun k hk=>?_⟩
 ·by_cases hkm:k=m
  ·subst hkm;rw [upd_same,upd_same,upd_same];exact w
  ·rw [upd_ne _ _ hkm,upd_ne _ _ hkm,upd_ne _ _ hkm];exact D.at_ k (by omega)
 ·by_cases hkm:k=m
  ·subst hkm
   rw [upd_same,upd_same,upd_ne _ _ (Ne.symm hkl),upd_ne _ _ (Ne.symm hkl)]
   have:=hd l (by omega);omega
  ·by_cases hlm:l=m
   ·subst hlm
    rw [upd_same,upd_same,upd_ne _ _ hkm,upd_ne _ _ hkm]
    have:=hd k (by omega);omega
   ·rw [upd_ne _ _ hkm,upd_ne _ _ hkm,upd_ne _ _ hlm,upd_ne _ _ hlm]
    exact D.off k l (by omega) (by omega) hkl
 ·by_cases hkm:k=m
  ·subst hkm;rw [upd_same,upd_same];omega
  ·rw [upd_ne _ _ hkm,upd_ne _ _ hkm];have:=hd k (by omega);omega
section
variable {h : Heap} {mb : Nat} {q : GV} {g : Gr} {c : Nat → Nat} {rd wr fe : Value} {d : Nat → Nat}
set_option maxHeartbeats 4000000 in
theorem arm_model_facts (m:Md h mb q g c rd wr fe d) (hg:(g.check true).1=0) (ht:TabAt h) :
  Con Tryz.prog 22 #[.pointer (some ⟨mb,0,none⟩)] h fun v h'=>Fr 0 0 h h'∧∃ x A B,v=.agg #[x 0,x 1,x 2,x 3,x 4]∧Der h' A B x g.n (aM g) 5∧∀ k,k<5→h.size≤A k∧A k≤B k∧B k≤h'.size:=by
 refine con_arm_model_facts ?_
 have hn:=m.n
 have hmb:=m.row.lt
 have hcl:clampN (g.n:Int)=g.n:=by unfold clampN;omega
 have p0:Fr 0 0 h h:=.refl _ _ _
 have r1:=m.row
 unfold mcells at r1
 simp -dsimp only [go_sem,r1.cell]
 intro b2 h1 n2
 have n2_a:=n2.at_
 have n2_z:=n2.size
 replace p0:=p0.F n2.f0
 replace r1:=r1.F n2.f0
 have r2:=n2.row
 simp -dsimp only [go_sem,r1.cell,r2.cell]
 intro b3 h2 n3
 have n3_a:=n3.at_
 have n3_z:=n3.size
 replace p0:=p0.F n3.f0
 replace r1:=r1.F n3.f0
 replace r2:=r2.F n3.f0
 have r3:=n3.row
 simp -dsimp only [go_sem,r1.cell,r2.cell,r3.cell]
 intro b4 hs n4
 have n4_a:=n4.at_
 have n4_z:=n4.size
 replace p0:=p0.F n4.f0
 replace r1:=r1.F n4.f0
 replace r2:=r2.F n4.f0
 replace r3:=r3.F n4.f0
 have r4:=n4.row
 try simp -dsimp only [go_sem] at r4
 simp -dsimp only [go_sem,evs_len,r1.cell,r2.cell,r3.cell,r4.cell]
 refine call_of (rel_New g.n hs) ?_
 rintro v3 h3 ⟨f3,t3⟩
 rw [hcl] at t3
 have f3_z:=f3.size
 replace p0:=p0.F f3
 replace r1:=r1.F f3
 replace r2:=r2.F f3
 replace r3:=r3.F f3
 replace r4:=r4.F f3
 have t3:=PN.of t3
 obtain ⟨u0,rfl⟩:=t3.pa.ptr
 have hL3:hs.size≤h3.size:=by omega
 simp -dsimp only [go_sem,r1.cell,r2.cell,r3.cell,r4.cell]
 refine Chk_intro (r3.wr (by first | (simp;done) | (simp;omega))) fun h4 s4=>?_
 have s4_z:=s4.size
 replace p0:=p0.F s4.fr
 replace r1:=r1.F s4.fr
 replace r2:=r2.F s4.fr
 replace r4:=r4.F s4.fr
 replace r3:=s4.row r3
 try simp only [cl_int,cl_bool,cl_slice,cl_ptr,putAt_one,List.set_cons_zero,List.set_cons_succ,ivec_set,brow_upd] at r3
 try simp -dsimp only [go_sem] at r3
 have t4:=t3.fr s4.fr (by omega)
 have gb:h.size≤b2∧h.size≤b3∧h.size≤b4∧b2<b3∧b3<b4∧b4<hs.size∧h.size≤hs.size:=by omega
 simp -dsimp only [go_sem,r1.cell,r2.cell,r3.cell,r4.cell]
 have hLh:hs.size≤hs.size:=Nat.le_refl _
 refine loop_intro (fun i:Nat=>[(2,.pointer (some ⟨b2,0,none⟩)),(3,.pointer (some ⟨b3,0,none⟩)),(32,.slice (some ⟨b4,0,none⟩) 4 4),(33,.int .i64 (4:Nat)),(34,.int .i64 i)])
  (fun i h'=>i≤4∧Fr 0 0 h h'∧Rw h' b2 [.pointer none,.pointer none,.pointer none,.pointer none,.pointer none]∧Rw h' b4 [.pointer (some ⟨b3,0,none⟩),.func (.func 65) #[.pointer (some ⟨mb,0,none⟩)] #[],.pointer (some ⟨b3,1,none⟩),.func (.func 66) #[.pointer (some ⟨mb,0,none⟩)] #[],.pointer (some ⟨b3,2,none⟩),.func (.func 67) #[.pointer (some ⟨mb,0,none⟩)] #[],.pointer (some ⟨b3,3,none⟩),.func (.func 68) #[.pointer (some ⟨mb,0,none⟩)] #[]] ∧
   ∃ x u A B L,Rw h' b3 [x 0,x 1,x 2,x 3,.pointer (some ⟨u,0,none⟩)]∧Der h' A B x g.n (aM g) i∧(∀ k,k<i→hs.size≤A k∧A k≤B k∧B k≤L)∧PN h' L (.pointer (some ⟨u,0,none⟩)) g.n (rangeM (aM g) i)∧hs.size≤L∧L≤h'.size) (fun i=>4 - i) 0 ?_ ?_ ?_
 ·simp [Le,find]
 ·exact ⟨by omega,p0,r2,r4,fun _=>.pointer none,u0,fun _=>0,fun _=>0,hs.size,r3,⟨fun k hk=>by omega,fun k l hk=>by omega⟩,fun k hk=>by omega,t4.congr fun i j _ _=>rfl,Nat.le_refl _,by omega⟩
 clear p0 r1 r2 r3 r4 t3 t4
 rintro i h3 ⟨hi,p0,r2,r4,x,u,A,B,L,r3,D,dlo,t,hsL,hLh'⟩
 have p0_z:=p0.size
 have r2_l:=r2.lt
 have r3_l:=r3.lt
 have r4_l:=r4.lt
 have hx:∀ k,k<i→∃ y,x k=.pointer (some ⟨y,0,none⟩):=fun k hk=>progPtr (D.at_ k hk)
 by_cases hlt:i<4
 ·have e1:((i:Int)<((4:Nat):Int)):=by omega
  have hi':i=0∨i=1∨i=2∨i=3:=by omega
  rcases hi' with rfl | rfl | rfl | rfl
  ·skip
   have pA:Fr 0 0 h3 h3:=.refl _ _ _
   simp -dsimp only [go_sem,e1,r2.cell,r3.cell,r4.cell]
   intro b6 h4 n6
   have n6_a:=n6.at_
   have n6_z:=n6.size
   replace p0:=p0.F n6.f0
   replace r2:=r2.F n6.f0
   replace r3:=r3.F n6.f0
   replace r4:=r4.F n6.f0
   replace pA:=pA.fresh n6.f0 (by omega)
   have r6:=n6.row
   simp -dsimp only [go_sem,r2.cell,r3.cell,r4.cell,r6.cell]
   refine Chk_intro (r6.wr (by first | (simp;done) | (simp;omega))) fun h5 s5=>?_
   have s5_z:=s5.size
   replace p0:=p0.F s5.fr
   replace r2:=r2.F s5.fr
   replace r3:=r3.F s5.fr
   replace r4:=r4.F s5.fr
   replace pA:=pA.fresh s5.fr (by omega)
   replace r6:=s5.row r6
   try simp only [cl_int,cl_bool,cl_slice,cl_ptr,putAt_one,List.set_cons_zero,List.set_cons_succ,ivec_set,brow_upd] at r6
   try simp -dsimp only [go_sem] at r6
   simp -dsimp only [go_sem,r2.cell,r3.cell,r4.cell,r6.cell]
   have D5:=(D.fr n6.f0 (fun k hk=>by omega)).fr s5.fr (fun k hk=>by have:=dlo k hk;omega)
   refine call_of (arm_model_obs (m.fr p0)) ?_
   rintro v6 h6 ⟨f6,w6⟩
   have D6:=D5.fr f6 (fun k hk=>by omega)
   have f6_z:=f6.size
   replace p0:=p0.F f6
   replace r2:=r2.F f6
   replace r3:=r3.F f6
   replace r4:=r4.F f6
   replace pA:=pA.fresh f6 (by omega)
   replace r6:=r6.F f6
   have t6:=t.fr pA (by omega)
   obtain ⟨y,rfl⟩:=w6.pa.ptr
   have hL6:L≤h5.size∧h5.size≤h6.size∧hs.size≤h5.size:=by omega
   simp -dsimp only [go_sem,r2.cell,r3.cell,r4.cell,r6.cell]
   refine Chk_intro (r3.wr (by first | (simp;done) | (simp;omega))) fun h7 s7=>?_
   have s7_z:=s7.size
   replace p0:=p0.F s7.fr
   replace r2:=r2.F s7.fr
   replace r4:=r4.F s7.fr
   replace r6:=r6.F s7.fr
   replace r3:=s7.row r3
   try simp only [cl_int,cl_bool,cl_slice,cl_ptr,putAt_one,List.set_cons_zero,List.set_cons_succ,ivec_set,brow_upd] at r3
   try simp -dsimp only [go_sem] at r3
   have D7:=D6.fr s7.fr (fun k hk=>by have:=dlo k hk;omega)
   have t7:=t6.fr s7.fr (by omega)
   have w7:=w6.fr s7.fr (by omega)
   simp -dsimp only [go_sem,r2.cell,r3.cell,r4.cell,r6.cell]
   intro b8 h8 n8
   have n8_a:=n8.at_
   have n8_z:=n8.size
   replace p0:=p0.F n8.f0
   replace r2:=r2.F n8.f0
   replace r3:=r3.F n8.f0
   replace r4:=r4.F n8.f0
   replace r6:=r6.F n8.f0
   have r8:=n8.row
   have D8:=D7.fr n8.f0 (fun k hk=>by omega)
   have t8:=t7.fr n8.f0 (by omega)
   have w8:=w7.fr n8.f0 (by omega)
   simp -dsimp only [go_sem,r2.cell,r3.cell,r4.cell,r6.cell,r8.cell]
   refine call_of (rel_UnionU (UA.mk' [(.pointer (some ⟨u,0,none⟩),rangeM (aM g) 0),(.pointer (some ⟨y,0,none⟩),aM g 0)] r8 (pa_cons t8.pa (pa_cons w8.pa pa_nil)) (by simp) (by simp))) ?_
   rintro v9 h9 ⟨f9,t9⟩
   have D9:=D8.fr f9 (fun k hk=>by omega)
   have w9:=w8.fr f9 (by omega)
   have f9_z:=f9.size
   replace p0:=p0.F f9
   replace r2:=r2.F f9
   replace r3:=r3.F f9
   replace r4:=r4.F f9
   replace r6:=r6.F f9
   replace r8:=r8.F f9
   have t9:=PN.of t9
   obtain ⟨u9,rfl⟩:=t9.pa.ptr
   simp -dsimp only [go_sem,r2.cell,r3.cell,r4.cell,r6.cell,r8.cell]
   refine Chk_intro (r3.wr (by first | (simp;done) | (simp;omega))) fun h10 s10=>?_
   have s10_z:=s10.size
   replace p0:=p0.F s10.fr
   replace r2:=r2.F s10.fr
   replace r4:=r4.F s10.fr
   replace r6:=r6.F s10.fr
   replace r8:=r8.F s10.fr
   replace r3:=s10.row r3
   try simp only [cl_int,cl_bool,cl_slice,cl_ptr,putAt_one,List.set_cons_zero,List.set_cons_succ,ivec_set,brow_upd] at r3
   try simp -dsimp only [go_sem] at r3
   have D10:=D9.fr s10.fr (fun k hk=>by have:=dlo k hk;omega)
   have w10:=w9.fr s10.fr (by omega)
   have t10:=t9.fr s10.fr (by omega)
   obtain ⟨A',B',D',dlo'⟩:=Der.snoc (L:=h5.size) (L':=h8.size) (lo:=hs.size) D10 (fun k hk=>by have:=dlo k hk;omega) (by
    obtain ⟨a,b,w,k1,k2,k3⟩:=w8
    exact ⟨a,b,(w.fr f9 (by omega)).fr s10.fr (by omega),k1,k2,k3⟩)
   simp -dsimp only [go_sem,r2.cell,r3.cell,r4.cell,r6.cell,r8.cell]
   simp -dsimp (disch:=omega) only [wrap64]
   exact ⟨0+1,by omega,by simp [Le,find],by omega,p0,r2,r4,upd x 0 (.pointer (some ⟨y,0,none⟩)),u9,A',B',h8.size,r3,D',fun k hk=>by have:=dlo' k hk;omega,(t10.congr fun i j _ _=>by simp [orM,rangeM,List.range_succ,Bool.or_assoc]),by omega,by omega⟩
  ·skip
   have pA:Fr 0 0 h3 h3:=.refl _ _ _
   simp -dsimp only [go_sem,e1,r2.cell,r3.cell,r4.cell]
   intro b6 h4 n6
   have n6_a:=n6.at_
   have n6_z:=n6.size
   replace p0:=p0.F n6.f0
   replace r2:=r2.F n6.f0
   replace r3:=r3.F n6.f0
   replace r4:=r4.F n6.f0
   replace pA:=pA.fresh n6.f0 (by omega)
   have r6:=n6.row
   simp -dsimp only [go_sem,r2.cell,r3.cell,r4.cell,r6.cell]
   refine Chk_intro (r6.wr (by first | (simp;done) | (simp;omega))) fun h5 s5=>?_
   have s5_z:=s5.size
   replace p0:=p0.F s5.fr
   replace r2:=r2.F s5.fr
   replace r3:=r3.F s5.fr
   replace r4:=r4.F s5.fr
   replace pA:=pA.fresh s5.fr (by omega)
   replace r6:=s5.row r6
   try simp only [cl_int,cl_bool,cl_slice,cl_ptr,putAt_one,List.set_cons_zero,List.set_cons_succ,ivec_set,brow_upd] at r6
   try simp -dsimp only [go_sem] at r6
   simp -dsimp only [go_sem,r2.cell,r3.cell,r4.cell,r6.cell]
   have D5:=(D.fr n6.f0 (fun k hk=>by omega)).fr s5.fr (fun k hk=>by have:=dlo k hk;omega)
   refine call_of (arm_model_dob (m.fr p0) (ht.fr p0 (.inr rfl))) ?_
   rintro v6 h6 ⟨f6,w6⟩
   have D6:=D5.fr f6 (fun k hk=>by omega)
   have f6_z:=f6.size
   replace p0:=p0.F f6
   replace r2:=r2.F f6
   replace r3:=r3.F f6
   replace r4:=r4.F f6
   replace pA:=pA.fresh f6 (by omega)
   replace r6:=r6.F f6
   have t6:=t.fr pA (by omega)
   obtain ⟨y,rfl⟩:=w6.pa.ptr
   have hL6:L≤h5.size∧h5.size≤h6.size∧hs.size≤h5.size:=by omega
   simp -dsimp only [go_sem,r2.cell,r3.cell,r4.cell,r6.cell]
   refine Chk_intro (r3.wr (by first | (simp;done) | (simp;omega))) fun h7 s7=>?_
   have s7_z:=s7.size
   replace p0:=p0.F s7.fr
   replace r2:=r2.F s7.fr
   replace r4:=r4.F s7.fr
   replace r6:=r6.F s7.fr
   replace r3:=s7.row r3
   try simp only [cl_int,cl_bool,cl_slice,cl_ptr,putAt_one,List.set_cons_zero,List.set_cons_succ,ivec_set,brow_upd] at r3
   try simp -dsimp only [go_sem] at r3
   have D7:=D6.fr s7.fr (fun k hk=>by have:=dlo k hk;omega)
   have t7:=t6.fr s7.fr (by omega)
   have w7:=w6.fr s7.fr (by omega)
   simp -dsimp only [go_sem,r2.cell,r3.cell,r4.cell,r6.cell]
   intro b8 h8 n8
   have n8_a:=n8.at_
   have n8_z:=n8.size
   replace p0:=p0.F n8.f0
   replace r2:=r2.F n8.f0
   replace r3:=r3.F n8.f0
   replace r4:=r4.F n8.f0
   replace r6:=r6.F n8.f0
   have r8:=n8.row
   have D8:=D7.fr n8.f0 (fun k hk=>by omega)
   have t8:=t7.fr n8.f0 (by omega)
   have w8:=w7.fr n8.f0 (by omega)
   simp -dsimp only [go_sem,r2.cell,r3.cell,r4.cell,r6.cell,r8.cell]
   refine call_of (rel_UnionU (UA.mk' [(.pointer (some ⟨u,0,none⟩),rangeM (aM g) 1),(.pointer (some ⟨y,0,none⟩),aM g 1)] r8 (pa_cons t8.pa (pa_cons w8.pa pa_nil)) (by simp) (by simp))) ?_
   rintro v9 h9 ⟨f9,t9⟩
   have D9:=D8.fr f9 (fun k hk=>by omega)
   have w9:=w8.fr f9 (by omega)
   have f9_z:=f9.size
   replace p0:=p0.F f9
   replace r2:=r2.F f9
   replace r3:=r3.F f9
   replace r4:=r4.F f9
   replace r6:=r6.F f9
   replace r8:=r8.F f9
   have t9:=PN.of t9
   obtain ⟨u9,rfl⟩:=t9.pa.ptr
   simp -dsimp only [go_sem,r2.cell,r3.cell,r4.cell,r6.cell,r8.cell]
   refine Chk_intro (r3.wr (by first | (simp;done) | (simp;omega))) fun h10 s10=>?_
   have s10_z:=s10.size
   replace p0:=p0.F s10.fr
   replace r2:=r2.F s10.fr
   replace r4:=r4.F s10.fr
   replace r6:=r6.F s10.fr
   replace r8:=r8.F s10.fr
   replace r3:=s10.row r3
   try simp only [cl_int,cl_bool,cl_slice,cl_ptr,putAt_one,List.set_cons_zero,List.set_cons_succ,ivec_set,brow_upd] at r3
   try simp -dsimp only [go_sem] at r3
   have D10:=D9.fr s10.fr (fun k hk=>by have:=dlo k hk;omega)
   have w10:=w9.fr s10.fr (by omega)
   have t10:=t9.fr s10.fr (by omega)
   obtain ⟨A',B',D',dlo'⟩:=Der.snoc (L:=h5.size) (L':=h8.size) (lo:=hs.size) D10 (fun k hk=>by have:=dlo k hk;omega) (by
    obtain ⟨a,b,w,k1,k2,k3⟩:=w8
    exact ⟨a,b,(w.fr f9 (by omega)).fr s10.fr (by omega),k1,k2,k3⟩)
   simp -dsimp only [go_sem,r2.cell,r3.cell,r4.cell,r6.cell,r8.cell]
   simp -dsimp (disch:=omega) only [wrap64]
   exact ⟨1+1,by omega,by simp [Le,find],by omega,p0,r2,r4,upd x 1 (.pointer (some ⟨y,0,none⟩)),u9,A',B',h8.size,r3,D',fun k hk=>by have:=dlo' k hk;omega,(t10.congr fun i j _ _=>by simp [orM,rangeM,List.range_succ,Bool.or_assoc]),by omega,by omega⟩
  ·skip
   have pA:Fr 0 0 h3 h3:=.refl _ _ _
   simp -dsimp only [go_sem,e1,r2.cell,r3.cell,r4.cell]
   intro b6 h4 n6
   have n6_a:=n6.at_
   have n6_z:=n6.size
   replace p0:=p0.F n6.f0
   replace r2:=r2.F n6.f0
   replace r3:=r3.F n6.f0
   replace r4:=r4.F n6.f0
   replace pA:=pA.fresh n6.f0 (by omega)
   have r6:=n6.row
   simp -dsimp only [go_sem,r2.cell,r3.cell,r4.cell,r6.cell]
   refine Chk_intro (r6.wr (by first | (simp;done) | (simp;omega))) fun h5 s5=>?_
   have s5_z:=s5.size
   replace p0:=p0.F s5.fr
   replace r2:=r2.F s5.fr
   replace r3:=r3.F s5.fr
   replace r4:=r4.F s5.fr
   replace pA:=pA.fresh s5.fr (by omega)
   replace r6:=s5.row r6
   try simp only [cl_int,cl_bool,cl_slice,cl_ptr,putAt_one,List.set_cons_zero,List.set_cons_succ,ivec_set,brow_upd] at r6
   try simp -dsimp only [go_sem] at r6
   simp -dsimp only [go_sem,r2.cell,r3.cell,r4.cell,r6.cell]
   have D5:=(D.fr n6.f0 (fun k hk=>by omega)).fr s5.fr (fun k hk=>by have:=dlo k hk;omega)
   refine call_of (arm_model_aob (m.fr p0) hg (ht.fr p0 (.inr rfl))) ?_
   rintro v6 h6 ⟨f6,w6⟩
   have D6:=D5.fr f6 (fun k hk=>by omega)
   have f6_z:=f6.size
   replace p0:=p0.F f6
   replace r2:=r2.F f6
   replace r3:=r3.F f6
   replace r4:=r4.F f6
   replace pA:=pA.fresh f6 (by omega)
   replace r6:=r6.F f6
   have t6:=t.fr pA (by omega)
   obtain ⟨y,rfl⟩:=w6.pa.ptr
   have hL6:L≤h5.size∧h5.size≤h6.size∧hs.size≤h5.size:=by omega
   simp -dsimp only [go_sem,r2.cell,r3.cell,r4.cell,r6.cell]
   refine Chk_intro (r3.wr (by first | (simp;done) | (simp;omega))) fun h7 s7=>?_
   have s7_z:=s7.size
   replace p0:=p0.F s7.fr
   replace r2:=r2.F s7.fr
   replace r4:=r4.F s7.fr
   replace r6:=r6.F s7.fr
   replace r3:=s7.row r3
   try simp only [cl_int,cl_bool,cl_slice,cl_ptr,putAt_one,List.set_cons_zero,List.set_cons_succ,ivec_set,brow_upd] at r3
   try simp -dsimp only [go_sem] at r3
   have D7:=D6.fr s7.fr (fun k hk=>by have:=dlo k hk;omega)
   have t7:=t6.fr s7.fr (by omega)
   have w7:=w6.fr s7.fr (by omega)
   simp -dsimp only [go_sem,r2.cell,r3.cell,r4.cell,r6.cell]
   intro b8 h8 n8
   have n8_a:=n8.at_
   have n8_z:=n8.size
   replace p0:=p0.F n8.f0
   replace r2:=r2.F n8.f0
   replace r3:=r3.F n8.f0
   replace r4:=r4.F n8.f0
   replace r6:=r6.F n8.f0
   have r8:=n8.row
   have D8:=D7.fr n8.f0 (fun k hk=>by omega)
   have t8:=t7.fr n8.f0 (by omega)
   have w8:=w7.fr n8.f0 (by omega)
   simp -dsimp only [go_sem,r2.cell,r3.cell,r4.cell,r6.cell,r8.cell]
   refine call_of (rel_UnionU (UA.mk' [(.pointer (some ⟨u,0,none⟩),rangeM (aM g) 2),(.pointer (some ⟨y,0,none⟩),aM g 2)] r8 (pa_cons t8.pa (pa_cons w8.pa pa_nil)) (by simp) (by simp))) ?_
   rintro v9 h9 ⟨f9,t9⟩
   have D9:=D8.fr f9 (fun k hk=>by omega)
   have w9:=w8.fr f9 (by omega)
   have f9_z:=f9.size
   replace p0:=p0.F f9
   replace r2:=r2.F f9
   replace r3:=r3.F f9
   replace r4:=r4.F f9
   replace r6:=r6.F f9
   replace r8:=r8.F f9
   have t9:=PN.of t9
   obtain ⟨u9,rfl⟩:=t9.pa.ptr
   simp -dsimp only [go_sem,r2.cell,r3.cell,r4.cell,r6.cell,r8.cell]
   refine Chk_intro (r3.wr (by first | (simp;done) | (simp;omega))) fun h10 s10=>?_
   have s10_z:=s10.size
   replace p0:=p0.F s10.fr
   replace r2:=r2.F s10.fr
   replace r4:=r4.F s10.fr
   replace r6:=r6.F s10.fr
   replace r8:=r8.F s10.fr
   replace r3:=s10.row r3
   try simp only [cl_int,cl_bool,cl_slice,cl_ptr,putAt_one,List.set_cons_zero,List.set_cons_succ,ivec_set,brow_upd] at r3
   try simp -dsimp only [go_sem] at r3
   have D10:=D9.fr s10.fr (fun k hk=>by have:=dlo k hk;omega)
   have w10:=w9.fr s10.fr (by omega)
   have t10:=t9.fr s10.fr (by omega)
   obtain ⟨A',B',D',dlo'⟩:=Der.snoc (L:=h5.size) (L':=h8.size) (lo:=hs.size) D10 (fun k hk=>by have:=dlo k hk;omega) (by
    obtain ⟨a,b,w,k1,k2,k3⟩:=w8
    exact ⟨a,b,(w.fr f9 (by omega)).fr s10.fr (by omega),k1,k2,k3⟩)
   simp -dsimp only [go_sem,r2.cell,r3.cell,r4.cell,r6.cell,r8.cell]
   simp -dsimp (disch:=omega) only [wrap64]
   exact ⟨2+1,by omega,by simp [Le,find],by omega,p0,r2,r4,upd x 2 (.pointer (some ⟨y,0,none⟩)),u9,A',B',h8.size,r3,D',fun k hk=>by have:=dlo' k hk;omega,(t10.congr fun i j _ _=>by simp [orM,rangeM,List.range_succ,Bool.or_assoc]),by omega,by omega⟩
  ·skip
   have pA:Fr 0 0 h3 h3:=.refl _ _ _
   simp -dsimp only [go_sem,e1,r2.cell,r3.cell,r4.cell]
   intro b6 h4 n6
   have n6_a:=n6.at_
   have n6_z:=n6.size
   replace p0:=p0.F n6.f0
   replace r2:=r2.F n6.f0
   replace r3:=r3.F n6.f0
   replace r4:=r4.F n6.f0
   replace pA:=pA.fresh n6.f0 (by omega)
   have r6:=n6.row
   simp -dsimp only [go_sem,r2.cell,r3.cell,r4.cell,r6.cell]
   refine Chk_intro (r6.wr (by first | (simp;done) | (simp;omega))) fun h5 s5=>?_
   have s5_z:=s5.size
   replace p0:=p0.F s5.fr
   replace r2:=r2.F s5.fr
   replace r3:=r3.F s5.fr
   replace r4:=r4.F s5.fr
   replace pA:=pA.fresh s5.fr (by omega)
   replace r6:=s5.row r6
   try simp only [cl_int,cl_bool,cl_slice,cl_ptr,putAt_one,List.set_cons_zero,List.set_cons_succ,ivec_set,brow_upd] at r6
   try simp -dsimp only [go_sem] at r6
   simp -dsimp only [go_sem,r2.cell,r3.cell,r4.cell,r6.cell]
   have D5:=(D.fr n6.f0 (fun k hk=>by omega)).fr s5.fr (fun k hk=>by have:=dlo k hk;omega)
   refine call_of (arm_model_bob (m.fr p0) (ht.fr p0 (.inr rfl))) ?_
   rintro v6 h6 ⟨f6,w6⟩
   have D6:=D5.fr f6 (fun k hk=>by omega)
   have f6_z:=f6.size
   replace p0:=p0.F f6
   replace r2:=r2.F f6
   replace r3:=r3.F f6
   replace r4:=r4.F f6
   replace pA:=pA.fresh f6 (by omega)
   replace r6:=r6.F f6
   have t6:=t.fr pA (by omega)
   obtain ⟨y,rfl⟩:=w6.pa.ptr
   have hL6:L≤h5.size∧h5.size≤h6.size∧hs.size≤h5.size:=by omega
   simp -dsimp only [go_sem,r2.cell,r3.cell,r4.cell,r6.cell]
   refine Chk_intro (r3.wr (by first | (simp;done) | (simp;omega))) fun h7 s7=>?_
   have s7_z:=s7.size
   replace p0:=p0.F s7.fr
   replace r2:=r2.F s7.fr
   replace r4:=r4.F s7.fr
   replace r6:=r6.F s7.fr
   replace r3:=s7.row r3
   try simp only [cl_int,cl_bool,cl_slice,cl_ptr,putAt_one,List.set_cons_zero,List.set_cons_succ,ivec_set,brow_upd] at r3
   try simp -dsimp only [go_sem] at r3
   have D7:=D6.fr s7.fr (fun k hk=>by have:=dlo k hk;omega)
   have t7:=t6.fr s7.fr (by omega)
   have w7:=w6.fr s7.fr (by omega)
   simp -dsimp only [go_sem,r2.cell,r3.cell,r4.cell,r6.cell]
   intro b8 h8 n8
   have n8_a:=n8.at_
   have n8_z:=n8.size
   replace p0:=p0.F n8.f0
   replace r2:=r2.F n8.f0
   replace r3:=r3.F n8.f0
   replace r4:=r4.F n8.f0
   replace r6:=r6.F n8.f0
   have r8:=n8.row
   have D8:=D7.fr n8.f0 (fun k hk=>by omega)
   have t8:=t7.fr n8.f0 (by omega)
   have w8:=w7.fr n8.f0 (by omega)
   simp -dsimp only [go_sem,r2.cell,r3.cell,r4.cell,r6.cell,r8.cell]
   refine call_of (rel_UnionU (UA.mk' [(.pointer (some ⟨u,0,none⟩),rangeM (aM g) 3),(.pointer (some ⟨y,0,none⟩),aM g 3)] r8 (pa_cons t8.pa (pa_cons w8.pa pa_nil)) (by simp) (by simp))) ?_
   rintro v9 h9 ⟨f9,t9⟩
   have D9:=D8.fr f9 (fun k hk=>by omega)
   have w9:=w8.fr f9 (by omega)
   have f9_z:=f9.size
   replace p0:=p0.F f9
   replace r2:=r2.F f9
   replace r3:=r3.F f9
   replace r4:=r4.F f9
   replace r6:=r6.F f9
   replace r8:=r8.F f9
   have t9:=PN.of t9
   obtain ⟨u9,rfl⟩:=t9.pa.ptr
   simp -dsimp only [go_sem,r2.cell,r3.cell,r4.cell,r6.cell,r8.cell]
   refine Chk_intro (r3.wr (by first | (simp;done) | (simp;omega))) fun h10 s10=>?_
   have s10_z:=s10.size
   replace p0:=p0.F s10.fr
   replace r2:=r2.F s10.fr
   replace r4:=r4.F s10.fr
   replace r6:=r6.F s10.fr
   replace r8:=r8.F s10.fr
   replace r3:=s10.row r3
   try simp only [cl_int,cl_bool,cl_slice,cl_ptr,putAt_one,List.set_cons_zero,List.set_cons_succ,ivec_set,brow_upd] at r3
   try simp -dsimp only [go_sem] at r3
   have D10:=D9.fr s10.fr (fun k hk=>by have:=dlo k hk;omega)
   have w10:=w9.fr s10.fr (by omega)
   have t10:=t9.fr s10.fr (by omega)
   obtain ⟨A',B',D',dlo'⟩:=Der.snoc (L:=h5.size) (L':=h8.size) (lo:=hs.size) D10 (fun k hk=>by have:=dlo k hk;omega) (by
    obtain ⟨a,b,w,k1,k2,k3⟩:=w8
    exact ⟨a,b,(w.fr f9 (by omega)).fr s10.fr (by omega),k1,k2,k3⟩)
   simp -dsimp only [go_sem,r2.cell,r3.cell,r4.cell,r6.cell,r8.cell]
   simp -dsimp (disch:=omega) only [wrap64]
   exact ⟨3+1,by omega,by simp [Le,find],by omega,p0,r2,r4,upd x 3 (.pointer (some ⟨y,0,none⟩)),u9,A',B',h8.size,r3,D',fun k hk=>by have:=dlo' k hk;omega,(t10.congr fun i j _ _=>by simp [orM,rangeM,List.range_succ,Bool.or_assoc]),by omega,by omega⟩
 ·obtain rfl:i=4:=by omega
  have ocx:∀ k,k<4→(x k).oneCell'=true:=fun k hk=>by obtain ⟨_,e⟩:=hx k hk;rw [e];rfl
  simp -dsimp only [go_sem,Int.lt_irrefl,ocx 0 (by decide),ocx 1 (by decide),ocx 2 (by decide),ocx 3 (by decide),r2.cell,r3.cell,r4.cell]
  have hD:∀ k,k<4→B k≤h3.size:=fun k hk=>by have:=dlo k hk;omega
  obtain ⟨a,b,w,w1,w2,w3⟩:=t
  obtain ⟨A',B',D',dlo'⟩:=Der.snoc (v:=.pointer (some ⟨u,0,none⟩)) (lo:=hs.size) (L:=L) (L':=h3.size) D dlo ⟨a,b,w.congr fun i j _ _=>by simp [rangeM,List.range_succ,aM,obM,Bool.or_assoc],w1,w2,w3⟩
  have hz3:h.size≤h3.size:=by omega
  refine Chk_intro (r2.wr (by first | (simp;done) | (simp;omega))) fun h5 s5=>?_
  have s5_z:=s5.size
  replace p0:=p0.F s5.fr
  replace r3:=r3.F s5.fr
  replace r4:=r4.F s5.fr
  replace r2:=s5.row r2
  try simp only [cl_int,cl_bool,cl_slice,cl_ptr,putAt_one,List.set_cons_zero,List.set_cons_succ,ivec_set,brow_upd] at r2
  have z5:=s5.size
  have D5:=D'.fr s5.fr (fun k hk=>by have:=dlo' k hk;omega)
  replace r2:Rw h5 b2 [x 0,x 1,x 2,x 3,.pointer (some ⟨u,0,none⟩)]:=r2
  simp -dsimp only [go_sem,r2.cell,r3.cell,r4.cell]
  exact ⟨p0,upd x 4 (.pointer (some ⟨u,0,none⟩)),A',B',rfl,D5,fun k hk=>by have:=dlo' k hk;omega⟩
end
end Go.Proofs.Tst
/-
  The words' memory model of a graph; Derive, Check.
-/
namespace Go.Proofs.Tst
open Go Go.Vc
theorem facts_ptr {p:Nat→Value} {h:Heap} {lo:Nat} {rd wr fe:Value} {g:Gr} (F:FactsAt h lo p rd wr fe g):∃ c:Nat→Nat,∀ k,k<10→p k=.pointer (some ⟨c k,0,none⟩):=by
 obtain ⟨A,B,D,-⟩:=F.rel
 exact ⟨fun k=>if hk:k<10 then (progPtr (D.at_ k hk)).choose else 0,fun k hk=>by dsimp only;rw [dif_pos hk];exact (progPtr (D.at_ k hk)).choose_spec⟩
theorem good_true {g:Gr} (h:(g.check true).1=0):g.good=true:=by unfold Gr.good;rw [h];simp
section
variable {h : Heap} {q : GV} {g : Gr}
set_option maxHeartbeats 4000000 in
theorem arm_derive (t:GrAt h q g) (ht:TabAt h) :
  Con Tryz.prog 18 #[.agg (gcells q g).toArray] h fun v h'=>Fr 0 0 h h'∧if (g.check true).1=0 then ∃ mb c rd wr fe d,v=.tuple #[.pointer (some ⟨mb,0,none⟩),.int .i64 0]∧Md h' mb q g c rd wr fe d else v=.tuple #[.pointer none,.int .i64 4]:=by
 have p0:Fr 0 0 h h:=.refl _ _ _
 have hen:g.evs.length=g.n:=rfl
 by_cases hc:(g.check true).1=0
 rotate_left
 ·simp only [if_neg hc]
  refine con_arm_derive ?_
  unfold gcells
  simp -dsimp only [go_sem]
  intro b1 h1 n1
  have n1_a:=n1.at_
  have n1_z:=n1.size
  replace p0:=p0.F n1.f0
  have r1:=n1.row
  simp -dsimp only [go_sem,r1.cell]
  refine call_of (graph_Check (t.fr p0) true) ?_
  rintro v2 h2 ⟨f2,rfl⟩
  have f2_z:=f2.size
  replace p0:=p0.F f2
  replace r1:=r1.F f2
  simp -dsimp only [go_sem,bne_f hc,r1.cell]
  exact p0
 simp only [if_pos hc]
 refine con_arm_derive ?_
 unfold gcells
 simp -dsimp only [go_sem]
 intro b1 h1 n1
 have n1_a:=n1.at_
 have n1_z:=n1.size
 replace p0:=p0.F n1.f0
 have r1:=n1.row
 simp -dsimp only [go_sem,r1.cell]
 refine call_of (graph_Check (t.fr p0) true) ?_
 rintro v2 h2 ⟨f2,rfl⟩
 have f2_z:=f2.size
 replace p0:=p0.F f2
 replace r1:=r1.F f2
 have hg:=good_true hc
 simp -dsimp only [go_sem,bne_t hc,r1.cell]
 refine call_of (graph_Derive (t.fr p0) (ht.fr p0 (.inr rfl))) ?_
 rintro v3 h3 ⟨f3,w3⟩
 have f3_z:=f3.size
 replace p0:=p0.F f3
 replace r1:=r1.F f3
 rw [if_pos hg] at w3
 obtain ⟨p,rd,wr,fe,rfl,F⟩:=w3
 obtain ⟨c,hp⟩:=facts_ptr F
 obtain ⟨A,B,D,dlo,dap⟩:=F.rel
 have hn:=F.n
 have R:∀ k,k<10→PA h3 (.pointer (some ⟨c k,0,none⟩)) g.n (relM g k):=fun k hk=>by rw [← hp k hk];exact ⟨_,_,D.at_ k hk⟩
 have dR:Rd 1 h3 rd (kindsV g 1 g.n).length (boolsV (kindsV g 1 g.n)):=by rw [kinds_len];exact F.hrd.rd
 have dW:Rd 1 h3 wr (kindsV g 2 g.n).length (boolsV (kindsV g 2 g.n)):=by rw [kinds_len];exact F.hwr.rd
 have dF:Rd 1 h3 fe (kindsV g 3 g.n).length (boolsV (kindsV g 3 g.n)):=by rw [kinds_len];exact F.hfe.rd
 obtain ⟨rda,rdc,e1⟩:=F.hrd.is
 obtain ⟨wra,wrc,e2⟩:=F.hwr.is
 obtain ⟨fea,fec,e3⟩:=F.hfe.is
 subst e1;subst e2;subst e3
 clear F D dap dlo
 have p3:Fr 0 0 h3 h3:=.refl _ _ _
 unfold fcells
 rw [hp 0 (by decide),hp 1 (by decide),hp 2 (by decide),hp 3 (by decide),hp 4 (by decide),hp 5 (by decide),hp 6 (by decide),hp 7 (by decide),hp 8 (by decide),hp 9 (by decide)]
 simp -dsimp only [go_sem,r1.cell]
 intro b6 h4 n4
 have n4_a:=n4.at_
 have n4_z:=n4.size
 replace p0:=p0.F n4.f0
 replace r1:=r1.F n4.f0
 replace p3:=p3.F n4.f0
 have r6:=n4.row
 simp -dsimp only [go_sem,r1.cell,r6.cell]
 refine Chk_intro (r6.wr (by first | (simp;done) | (simp;omega))) fun h5 s5=>?_
 have s5_z:=s5.size
 replace p0:=p0.F s5.fr
 replace r1:=r1.F s5.fr
 replace p3:=p3.F s5.fr
 replace r6:=s5.row r6
 try simp only [cl_int,cl_bool,cl_slice,cl_ptr,putAt_one,List.set_cons_zero,List.set_cons_succ,ivec_set,brow_upd] at r6
 try simp -dsimp only [go_sem] at r6
 simp -dsimp only [go_sem,r1.cell,r6.cell]
 refine withC_of [.pointer (some ⟨c 0,0,none⟩),.pointer (some ⟨c 1,0,none⟩),.pointer (some ⟨c 2,0,none⟩),.pointer (some ⟨c 9,0,none⟩),.pointer (some ⟨c 3,0,none⟩),.pointer (some ⟨c 4,0,none⟩),.pointer (some ⟨c 5,0,none⟩),.pointer (some ⟨c 6,0,none⟩),.pointer (some ⟨c 7,0,none⟩),.pointer (some ⟨c 8,0,none⟩),.slice rda g.n rdc,.slice wra g.n wrc,.slice fea g.n fec] 0 (fun j x hj=>by rw [r6.cell,Nat.zero_add];exact hj) ?_
 refine Chk_intro rfl ?_
 simp -dsimp only [go_sem,r1.cell,r6.cell]
 intro mb h6 n6
 have n6_a:=n6.at_
 have n6_z:=n6.size
 replace p0:=p0.F n6.f0
 replace r1:=r1.F n6.f0
 replace p3:=p3.F n6.f0
 replace r6:=r6.F n6.f0
 have rm:=n6.row
 replace rm:Rw h6 mb [.int .i64 g.cells,.slice q.e g.evs.length q.ec,.slice q.f g.rf.length q.fc,.slice q.o g.co.length q.oc,.slice q.r g.rmw.length q.rc,.slice q.a g.addr.length q.ac,.slice q.d g.data.length q.dc,.slice q.c g.ctrl.length q.cc,.pointer (some ⟨c 0,0,none⟩),.pointer (some ⟨c 1,0,none⟩),.pointer (some ⟨c 2,0,none⟩),.pointer (some ⟨c 9,0,none⟩),.pointer (some ⟨c 3,0,none⟩),.pointer (some ⟨c 4,0,none⟩),.pointer (some ⟨c 5,0,none⟩),.pointer (some ⟨c 6,0,none⟩),.pointer (some ⟨c 7,0,none⟩),.pointer (some ⟨c 8,0,none⟩),.slice rda g.n rdc,.slice wra g.n wrc,.slice fea g.n fec,.pointer none,.pointer none,.pointer none,.pointer none,.pointer none,.pointer none]:=rm
 have gb:h.size≤mb:=by omega
 simp -dsimp only [go_sem,r1.cell,r6.cell,rm.cell]
 obtain ⟨_,_,ta⟩:=(R 1 (by decide)).fr p3
 obtain ⟨_,_,tb⟩:=(R 5 (by decide)).fr p3
 refine call_of (rel_Inter ta tb (ht.fr p0 (.inr rfl))) ?_
 rintro vm0 h_m0 ⟨f_m0,t_m0⟩
 rw [Nat.max_self] at t_m0
 have f_m0_z:=f_m0.size
 replace p0:=p0.F f_m0
 replace r1:=r1.F f_m0
 replace p3:=p3.F f_m0
 replace r6:=r6.F f_m0
 replace rm:=rm.fr f_m0 (by omega)
 have e_m0:PN h_m0 h6.size vm0 g.n (rfeM g):=((PN.of t_m0).lower (by omega)).congr fun i j hi hj=>interM_in hi hj
 obtain ⟨m0,rfl⟩:=e_m0.pa.ptr
 clear t_m0 ta tb
 simp -dsimp only [go_sem,r1.cell,r6.cell,rm.cell]
 obtain ⟨_,_,ta⟩:=(R 1 (by decide)).fr p3
 obtain ⟨_,_,tb⟩:=(R 5 (by decide)).fr p3
 refine call_of (rel_Minus ta tb (ht.fr p0 (.inr rfl))) ?_
 rintro vm1 h_m1 ⟨f_m1,t_m1⟩
 rw [Nat.max_self] at t_m1
 have f_m1_z:=f_m1.size
 replace p0:=p0.F f_m1
 replace r1:=r1.F f_m1
 replace p3:=p3.F f_m1
 replace r6:=r6.F f_m1
 replace rm:=rm.fr f_m1 (by omega)
 replace e_m0:=e_m0.fr f_m1 (by omega)
 have e_m1:PN h_m1 h6.size vm1 g.n (rfiM g):=((PN.of t_m1).lower (by omega)).congr fun i j hi hj=>minusM_in hi hj
 obtain ⟨m1,rfl⟩:=e_m1.pa.ptr
 clear t_m1 ta tb
 simp -dsimp only [go_sem,r1.cell,r6.cell,rm.cell]
 refine Chk_intro (rm.wr (by first | (simp;done) | (simp;omega))) fun hs_a ss_a=>?_
 have ss_a_z:=ss_a.size
 replace p0:=p0.F ss_a.fr
 replace r1:=r1.F ss_a.fr
 replace p3:=p3.F ss_a.fr
 replace r6:=r6.F ss_a.fr
 replace e_m0:=e_m0.fr ss_a.fr (by omega)
 replace e_m1:=e_m1.fr ss_a.fr (by omega)
 replace rm:=ss_a.row rm
 try simp only [cl_int,cl_bool,cl_slice,cl_ptr,putAt_one,List.set_cons_zero,List.set_cons_succ,ivec_set,brow_upd] at rm
 try simp -dsimp only [go_sem] at rm
 simp -dsimp only [go_sem,r1.cell,r6.cell,rm.cell]
 refine Chk_intro (rm.wr (by first | (simp;done) | (simp;omega))) fun hs_b ss_b=>?_
 have ss_b_z:=ss_b.size
 replace p0:=p0.F ss_b.fr
 replace r1:=r1.F ss_b.fr
 replace p3:=p3.F ss_b.fr
 replace r6:=r6.F ss_b.fr
 replace e_m0:=e_m0.fr ss_b.fr (by omega)
 replace e_m1:=e_m1.fr ss_b.fr (by omega)
 replace rm:=ss_b.row rm
 try simp only [cl_int,cl_bool,cl_slice,cl_ptr,putAt_one,List.set_cons_zero,List.set_cons_succ,ivec_set,brow_upd] at rm
 try simp -dsimp only [go_sem] at rm
 simp -dsimp only [go_sem,r1.cell,r6.cell,rm.cell]
 obtain ⟨_,_,ta⟩:=(R 2 (by decide)).fr p3
 obtain ⟨_,_,tb⟩:=(R 5 (by decide)).fr p3
 refine call_of (rel_Inter ta tb (ht.fr p0 (.inr rfl))) ?_
 rintro vm2 h_m2 ⟨f_m2,t_m2⟩
 rw [Nat.max_self] at t_m2
 have f_m2_z:=f_m2.size
 replace p0:=p0.F f_m2
 replace r1:=r1.F f_m2
 replace p3:=p3.F f_m2
 replace r6:=r6.F f_m2
 replace rm:=rm.fr f_m2 (by omega)
 replace e_m0:=e_m0.fr f_m2 (by omega)
 replace e_m1:=e_m1.fr f_m2 (by omega)
 have e_m2:PN h_m2 h6.size vm2 g.n (coeM g):=((PN.of t_m2).lower (by omega)).congr fun i j hi hj=>interM_in hi hj
 obtain ⟨m2,rfl⟩:=e_m2.pa.ptr
 clear t_m2 ta tb
 simp -dsimp only [go_sem,r1.cell,r6.cell,rm.cell]
 obtain ⟨_,_,ta⟩:=(R 2 (by decide)).fr p3
 obtain ⟨_,_,tb⟩:=(R 5 (by decide)).fr p3
 refine call_of (rel_Minus ta tb (ht.fr p0 (.inr rfl))) ?_
 rintro vm3 h_m3 ⟨f_m3,t_m3⟩
 rw [Nat.max_self] at t_m3
 have f_m3_z:=f_m3.size
 replace p0:=p0.F f_m3
 replace r1:=r1.F f_m3
 replace p3:=p3.F f_m3
 replace r6:=r6.F f_m3
 replace rm:=rm.fr f_m3 (by omega)
 replace e_m0:=e_m0.fr f_m3 (by omega)
 replace e_m1:=e_m1.fr f_m3 (by omega)
 replace e_m2:=e_m2.fr f_m3 (by omega)
 have e_m3:PN h_m3 h6.size vm3 g.n (coiM g):=((PN.of t_m3).lower (by omega)).congr fun i j hi hj=>minusM_in hi hj
 obtain ⟨m3,rfl⟩:=e_m3.pa.ptr
 clear t_m3 ta tb
 simp -dsimp only [go_sem,r1.cell,r6.cell,rm.cell]
 refine Chk_intro (rm.wr (by first | (simp;done) | (simp;omega))) fun hs_c ss_c=>?_
 have ss_c_z:=ss_c.size
 replace p0:=p0.F ss_c.fr
 replace r1:=r1.F ss_c.fr
 replace p3:=p3.F ss_c.fr
 replace r6:=r6.F ss_c.fr
 replace e_m0:=e_m0.fr ss_c.fr (by omega)
 replace e_m1:=e_m1.fr ss_c.fr (by omega)
 replace e_m2:=e_m2.fr ss_c.fr (by omega)
 replace e_m3:=e_m3.fr ss_c.fr (by omega)
 replace rm:=ss_c.row rm
 try simp only [cl_int,cl_bool,cl_slice,cl_ptr,putAt_one,List.set_cons_zero,List.set_cons_succ,ivec_set,brow_upd] at rm
 try simp -dsimp only [go_sem] at rm
 simp -dsimp only [go_sem,r1.cell,r6.cell,rm.cell]
 refine Chk_intro (rm.wr (by first | (simp;done) | (simp;omega))) fun hs_d ss_d=>?_
 have ss_d_z:=ss_d.size
 replace p0:=p0.F ss_d.fr
 replace r1:=r1.F ss_d.fr
 replace p3:=p3.F ss_d.fr
 replace r6:=r6.F ss_d.fr
 replace e_m0:=e_m0.fr ss_d.fr (by omega)
 replace e_m1:=e_m1.fr ss_d.fr (by omega)
 replace e_m2:=e_m2.fr ss_d.fr (by omega)
 replace e_m3:=e_m3.fr ss_d.fr (by omega)
 replace rm:=ss_d.row rm
 try simp only [cl_int,cl_bool,cl_slice,cl_ptr,putAt_one,List.set_cons_zero,List.set_cons_succ,ivec_set,brow_upd] at rm
 try simp -dsimp only [go_sem] at rm
 simp -dsimp only [go_sem,r1.cell,r6.cell,rm.cell]
 obtain ⟨_,_,ta⟩:=(R 9 (by decide)).fr p3
 obtain ⟨_,_,tb⟩:=(R 5 (by decide)).fr p3
 refine call_of (rel_Inter ta tb (ht.fr p0 (.inr rfl))) ?_
 rintro vm4 h_m4 ⟨f_m4,t_m4⟩
 rw [Nat.max_self] at t_m4
 have f_m4_z:=f_m4.size
 replace p0:=p0.F f_m4
 replace r1:=r1.F f_m4
 replace p3:=p3.F f_m4
 replace r6:=r6.F f_m4
 replace rm:=rm.fr f_m4 (by omega)
 replace e_m0:=e_m0.fr f_m4 (by omega)
 replace e_m1:=e_m1.fr f_m4 (by omega)
 replace e_m2:=e_m2.fr f_m4 (by omega)
 replace e_m3:=e_m3.fr f_m4 (by omega)
 have e_m4:PN h_m4 h6.size vm4 g.n (freM g):=((PN.of t_m4).lower (by omega)).congr fun i j hi hj=>interM_in hi hj
 obtain ⟨m4,rfl⟩:=e_m4.pa.ptr
 clear t_m4 ta tb
 simp -dsimp only [go_sem,r1.cell,r6.cell,rm.cell]
 refine Chk_intro (rm.wr (by first | (simp;done) | (simp;omega))) fun hs_e ss_e=>?_
 have ss_e_z:=ss_e.size
 replace p0:=p0.F ss_e.fr
 replace r1:=r1.F ss_e.fr
 replace p3:=p3.F ss_e.fr
 replace r6:=r6.F ss_e.fr
 replace e_m0:=e_m0.fr ss_e.fr (by omega)
 replace e_m1:=e_m1.fr ss_e.fr (by omega)
 replace e_m2:=e_m2.fr ss_e.fr (by omega)
 replace e_m3:=e_m3.fr ss_e.fr (by omega)
 replace e_m4:=e_m4.fr ss_e.fr (by omega)
 replace rm:=ss_e.row rm
 try simp only [cl_int,cl_bool,cl_slice,cl_ptr,putAt_one,List.set_cons_zero,List.set_cons_succ,ivec_set,brow_upd] at rm
 try simp -dsimp only [go_sem] at rm
 simp -dsimp only [go_sem,r1.cell,r6.cell,rm.cell]
 have gh:Mg hs_e mb q g:=⟨⟨_,rm⟩,t.fr p0,hn⟩
 have pz:Fr 0 0 hs_e hs_e:=.refl _ _ _
 refine call_of (arm_model_mode (gh.fr pz) 12) ?_
 rintro v7 h7 ⟨f7,w7⟩
 have f7_z:=f7.size
 replace p0:=p0.F f7
 replace r1:=r1.F f7
 replace p3:=p3.F f7
 replace r6:=r6.F f7
 replace rm:=rm.fr f7 (by omega)
 replace e_m0:=e_m0.fr f7 (by omega)
 replace e_m1:=e_m1.fr f7 (by omega)
 replace e_m2:=e_m2.fr f7 (by omega)
 replace e_m3:=e_m3.fr f7 (by omega)
 replace e_m4:=e_m4.fr f7 (by omega)
 replace pz:=pz.fresh f7 (by omega)
 simp -dsimp only [go_sem,r1.cell,r6.cell,rm.cell]
 refine call_of (arm_model_mode (gh.fr pz) 16) ?_
 rintro v8 h8 ⟨f8,w8⟩
 have w7:=w7.fr f8 (by omega)
 have f8_z:=f8.size
 replace p0:=p0.F f8
 replace r1:=r1.F f8
 replace p3:=p3.F f8
 replace r6:=r6.F f8
 replace rm:=rm.fr f8 (by omega)
 replace e_m0:=e_m0.fr f8 (by omega)
 replace e_m1:=e_m1.fr f8 (by omega)
 replace e_m2:=e_m2.fr f8 (by omega)
 replace e_m3:=e_m3.fr f8 (by omega)
 replace e_m4:=e_m4.fr f8 (by omega)
 replace pz:=pz.fresh f8 (by omega)
 simp -dsimp only [go_sem,w7.pa.cl,w8.pa.cl,r1.cell,r6.cell,rm.cell]
 intro b9 h9 n9
 have n9_a:=n9.at_
 have n9_z:=n9.size
 replace p0:=p0.F n9.f0
 replace r1:=r1.F n9.f0
 replace p3:=p3.F n9.f0
 replace r6:=r6.F n9.f0
 replace rm:=rm.fr n9.f0 (by omega)
 replace e_m0:=e_m0.fr n9.f0 (by omega)
 replace e_m1:=e_m1.fr n9.f0 (by omega)
 replace e_m2:=e_m2.fr n9.f0 (by omega)
 replace e_m3:=e_m3.fr n9.f0 (by omega)
 replace e_m4:=e_m4.fr n9.f0 (by omega)
 replace pz:=pz.fresh n9.f0 (by omega)
 have r9:=n9.row
 have w7:=w7.fr n9.f0 (by omega)
 have w8:=w8.fr n9.f0 (by omega)
 simp -dsimp only [go_sem,r1.cell,r6.cell,rm.cell,r9.cell]
 refine call_of (rel_UnionU (UA.mk' [(v7,_),(v8,_)] r9 (pa_cons w7.pa (pa_cons w8.pa pa_nil)) (by simp) (by simp))) ?_
 rintro v10 h10 ⟨f10,t10⟩
 have f10_z:=f10.size
 replace p0:=p0.F f10
 replace r1:=r1.F f10
 replace p3:=p3.F f10
 replace r6:=r6.F f10
 replace rm:=rm.fr f10 (by omega)
 replace e_m0:=e_m0.fr f10 (by omega)
 replace e_m1:=e_m1.fr f10 (by omega)
 replace e_m2:=e_m2.fr f10 (by omega)
 replace e_m3:=e_m3.fr f10 (by omega)
 replace e_m4:=e_m4.fr f10 (by omega)
 replace pz:=pz.fresh f10 (by omega)
 replace r9:=r9.F f10
 have e_m5:PN h10 h6.size v10 g.n (dM (acqB g)):=((PN.of t10).lower (by omega)).congr fun i j hi hj=>by
  unfold orM dM acqB
  cases h1:(i==j) <;> simp [h1]
 obtain ⟨m5,rfl⟩:=e_m5.pa.ptr
 simp -dsimp only [go_sem,r1.cell,r6.cell,rm.cell,r9.cell]
 refine Chk_intro (rm.wr (by first | (simp;done) | (simp;omega))) fun h11 s11=>?_
 have s11_z:=s11.size
 replace p0:=p0.F s11.fr
 replace r1:=r1.F s11.fr
 replace p3:=p3.F s11.fr
 replace r6:=r6.F s11.fr
 replace e_m0:=e_m0.fr s11.fr (by omega)
 replace e_m1:=e_m1.fr s11.fr (by omega)
 replace e_m2:=e_m2.fr s11.fr (by omega)
 replace e_m3:=e_m3.fr s11.fr (by omega)
 replace e_m4:=e_m4.fr s11.fr (by omega)
 replace r9:=r9.F s11.fr
 replace e_m5:=e_m5.fr s11.fr (by omega)
 replace rm:=s11.row rm
 try simp only [cl_int,cl_bool,cl_slice,cl_ptr,putAt_one,List.set_cons_zero,List.set_cons_succ,ivec_set,brow_upd] at rm
 try simp -dsimp only [go_sem] at rm
 simp -dsimp only [go_sem,r1.cell,r6.cell,rm.cell,r9.cell]
 refine ⟨p0,mb,c,.slice rda g.n rdc,.slice wra g.n wrc,.slice fea g.n fec,fun k=>[m0,m1,m2,m3,m4,m5].getD k 0,rfl,⟨rm,t.fr p0,hn,fun k hk=>(R k hk).fr p3,fun k hk=>?_,dR.fr p3,dW.fr p3,dF.fr p3⟩⟩
 match k,hk with
 | 0,_=>exact e_m0.pa
 | 1,_=>exact e_m1.pa
 | 2,_=>exact e_m2.pa
 | 3,_=>exact e_m3.pa
 | 4,_=>exact e_m4.pa
 | 5,_=>exact e_m5.pa
end
end Go.Proofs.Tst
