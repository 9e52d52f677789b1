/-
  Contracts of functions that the law reaches: what each returns and what it leaves in memory. Conditions stand in each.
-/
import Derived.Test.YtmcghihgeibgpaaDoorT1
set_option linter.all false
set_option maxRecDepth 2000
namespace Go.Proofs.Tst
open Go Go.Vc
def cnt (n:Nat) (M:Nat→Nat→Bool) (D:Nat→Bool) (p:Nat):Nat:=(List.range n).countP fun a=>M a p&&!D a
def cntV (n:Nat) (c:Nat→Nat):List Value:=(List.range n).map fun (p:Nat)=>Value.int .i64 (c p:Int)
@[simp] theorem length_cntV (n:Nat) (c:Nat→Nat):(cntV n c).length=n:=by simp [cntV]
structure ChB where
 (bn bw bb bp ww bk pw:Nat)
 B:Nat→Value
structure Chs (h:Heap) (lo hi:Nat) (c:ChB) (n:Nat) (M:Nat→Nat→Bool) (D:Nat→Bool):Prop where
 rn:Rw h c.bn [.int .i64 n]
 rw_:Rw h c.bw [.slice (some ⟨c.ww,0,none⟩) n n]
 rb:Rw h c.bb [.slice (some ⟨c.bk,0,none⟩) n n]
 rp:Rw h c.bp [.slice (some ⟨c.pw,0,none⟩) n n]
 waits:Rw h c.ww (cntV n (cnt n M D))
 placed:Rw h c.pw (brow n D)
 behind:Rw h c.bk ((List.range n).map c.B)
 beh:∀ p,p<n→Holder 1 h (c.B p) (rest (M p) n 0).length (natsV (rest (M p) n 0)) lo∧bl (c.B p)≠c.ww∧bl (c.B p)≠c.pw∧bh (c.B p)≤hi
 at_:lo≤c.bn∧c.bn<hi∧lo≤c.bw∧c.bw<hi∧lo≤c.bb∧c.bb<hi∧lo≤c.bp∧c.bp<hi∧lo≤c.ww∧c.ww<hi∧lo≤c.pw∧c.pw<hi∧lo≤c.bk∧c.bk<hi
 ne:c.ww≠c.pw∧c.ww≠c.bn∧c.ww≠c.bw∧c.ww≠c.bb∧c.ww≠c.bp∧c.ww≠c.bk∧c.pw≠c.bn∧c.pw≠c.bw∧c.pw≠c.bb∧c.pw≠c.bp∧c.pw≠c.bk
 small:n≤256
theorem Chs.fr {h h':Heap} {lo hi l r n:Nat} {c:ChB} {M:Nat→Nat→Bool} {D:Nat→Bool} (t:Chs h lo hi c n M D) (f:Fr l r h h') (hd:hi≤l∨r≤lo∨r≤l):Chs h' lo hi c n M D:=by
 have a:=t.at_
 refine ⟨t.rn.fr f (by omega),t.rw_.fr f (by omega),t.rb.fr f (by omega),t.rp.fr f (by omega),t.waits.fr f (by omega),t.placed.fr f (by omega),t.behind.fr f (by omega),fun p hp=>?_,a,t.ne,t.small⟩
 obtain ⟨h1,h2,h3,h4⟩:=t.beh p hp
 have:=h1.at_
 exact ⟨h1.fr f (by omega),h2,h3,h4⟩
def ChB.next (c:ChB):Value:=.func (.func 141) #[] #[.pointer (some ⟨c.bn,0,none⟩),.pointer (some ⟨c.bp,0,none⟩),.pointer (some ⟨c.bw,0,none⟩)]
def ChB.place (c:ChB):Value:=.func (.func 142) #[] #[.pointer (some ⟨c.bp,0,none⟩),.pointer (some ⟨c.bb,0,none⟩),.pointer (some ⟨c.bw,0,none⟩)]
end Go.Proofs.Tst
namespace Go.Proofs.Tst
open Go Go.Vc
end Go.Proofs.Tst
namespace Go.Proofs.Tst
open Go Go.Vc
end Go.Proofs.Tst
namespace Go.Proofs.Tst
open Go Go.Vc
end Go.Proofs.Tst
namespace Go.Proofs.Tst
open Go Go.Vc
def WithinP (n:Nat) (M:Nat→Nat→Bool) (m:Nat) (N:Nat→Nat→Bool):Prop:=∀ a,a<n→∀ b,b<n→M a b=true→a<m∧b<m∧N a b=true
instance (n:Nat) (M:Nat→Nat→Bool) (m:Nat) (N:Nat→Nat→Bool):Decidable (WithinP n M m N):=by unfold WithinP;infer_instance
end Go.Proofs.Tst
namespace Go.Proofs.Tst
open Go Go.Vc
end Go.Proofs.Tst
namespace Go.Proofs.Tst
open Go Go.Vc
end Go.Proofs.Tst
namespace Go.Proofs.Tst
open Go Go.Vc
end Go.Proofs.Tst
/-
  Lists compared, cell by cell.
-/
namespace Go.Proofs.Tst
open Go Go.Vc
theorem c_law12_ints {l m : List Int} {a b : Value} {h : Heap} (hl : Rd 1 h a l.length (intsV l)) (hm : Rd 1 h b m.length (intsV m)) (hb : l.length ≤ 4611686018427387904) :
    Con Tryd.prog 70 #[a, b] h fun v h' => h' = h ∧ v = .bool (decide (l = m)) := by
  refine con_q32 ?_
  obtain ⟨aa, ac, rfl⟩ := hl.is
  obtain ⟨ba, bc, rfl⟩ := hm.is
  simp -dsimp only [go_sem]
  refine ⟨fun hne => ?_, fun heq => ?_⟩
  · simp -dsimp only [go_sem]
    have : l ≠ m := by rintro rfl; simp at hne
    simp [this]
  have heq : l.length = m.length := by have : (l.length : Int) = m.length := by simpa using heq
                                       omega
  simp -dsimp only [go_sem]
  refine loop_intro (fun i : Nat => [(0, .slice aa l.length ac), (1, .slice ba m.length bc), (5, .int .i64 i)])
    (fun i h' => i ≤ l.length ∧ h' = h ∧ ∀ j, j < i → l[j]? = m[j]?) (fun i => l.length - i) 0 ?_ ?_ ?_
  · simp [Le, find]
  · exact ⟨by omega, rfl, fun j hj => by omega⟩
  rintro i _ ⟨hi, rfl, hinv⟩
  simp -dsimp only [go_sem]
  refine ⟨fun hlt => ?_, fun hge => ?_⟩
  · have hlt : i < l.length := by omega
    simp -dsimp only [go_sem]
    refine Chk_intro (by omega) (hl.idx (by omega) fun b1 o1 c1 => ?_)
    simp -dsimp only [go_sem, c1 i _ (intsV_get (List.getElem?_eq_getElem hlt))]
    refine Chk_intro (by omega) (hm.idx (by omega) fun b2 o2 c2 => ?_)
    simp -dsimp only [go_sem, c2 i _ (intsV_get (List.getElem?_eq_getElem (show i < m.length by omega)))]
    refine ⟨fun hne => ?_, fun he => ?_⟩
    · simp -dsimp only [go_sem]
      have : l ≠ m := by rintro rfl; simp at hne
      simp [this]
    · simp -dsimp only [go_sem]
      simp -dsimp (disch := omega) only [wrap64]
      refine ⟨i + 1, by omega, by simp [Le, find], by omega, fun j hj => ?_⟩
      by_cases hji : j = i
      · subst hji
        rw [List.getElem?_eq_getElem hlt, List.getElem?_eq_getElem (show j < m.length by omega)]
        simpa using he
      · exact hinv j (by omega)
  · simp -dsimp only [go_sem]
    have : l = m := List.ext_getElem? fun j => by
      by_cases hj : j < i
      · exact hinv j hj
      · rw [List.getElem?_eq_none (by omega), List.getElem?_eq_none (by omega)]
    simp [this]
end Go.Proofs.Tst
namespace Go.Proofs.Tst
open Go Go.Vc
theorem row_join {w v b b':Nat} {W V:Nat→Nat} {ov:Value} {h:Heap} (hx:Rw h b (wrow w W)) (hy:Rw h b' (wrow v V)) (ho:Rd 1 h ov 1 [.slice (some ⟨b',0,none⟩) v v]) (hW:∀ i,W i<2 ^ 64) (hV:∀ i,V i<2 ^ 64) (hw:w≤1024) (hv:v≤1024) :
  Con Tryd.prog 100 #[.slice (some ⟨b,0,none⟩) w w,ov] h fun _ h'=>Fr b (b+1) h h'∧h'.size=h.size∧Rw h' b (wrow w fun i=>if i<v then W i ||| V i else W i):=by
 refine con_q131 ?_
 obtain ⟨oa,oc,rfl⟩:=ho.is
 simp -dsimp only [go_sem]
 refine loop_intro (fun i:Nat=>[(0,.slice (some ⟨b,0,none⟩) w w),(7,.slice oa 1 oc),(8,.int .i64 1),(9,.int .i64 i)])
  (fun i h'=>(i=0∧h'=h)∨(i=1∧Fr b (b+1) h h'∧h'.size=h.size∧Rw h' b (wrow w fun i=>if i<v then W i ||| V i else W i))) (fun i=>1 - i) 0 ?_ ?_ ?_
 ·simp [Le,find]
 ·exact .inl ⟨rfl,rfl⟩
 rintro i h1 (⟨rfl,rfl⟩ | ⟨rfl,hf,hz,hr⟩)
 ·simp -dsimp only [go_sem]
  refine ⟨fun _=>?_,fun h=>absurd (by omega) h⟩
  simp -dsimp only [go_sem]
  refine Chk_intro (by omega) (ho.idx (by omega) fun b1 o1 c1=>?_)
  have c1:hcell h1 b1 o1=some (.slice (some ⟨b',0,none⟩) v v):=c1 0 _ rfl
  simp -dsimp only [go_sem,c1]
  have hm:(if (v:Int)<(w:Int) then (v:Int) else (w:Int))=((min w v:Nat):Int):=by split <;> omega
  rw [hm]
  refine loop_intro (fun i:Nat=>[(0,.slice (some ⟨b,0,none⟩) w w),(5,.slice (some ⟨b',0,none⟩) v v),(7,.slice oa 1 oc),(8,.int .i64 1),(9,.int .i64 (0:Nat)),(17,.int .i64 (min w v:Nat)),(18,.int .i64 i)])
   (fun i h'=>i≤min w v∧Fr b (b+1) h1 h'∧h'.size=h1.size∧Rw h' b (wrow w fun k=>if k<i then W k ||| V k else W k)) (fun i=>min w v - i) 0 ?_ ?_ ?_
  ·simp [Le,find]
  ·exact ⟨by omega,.refl _ _ _,rfl,by simpa using hx⟩
  rintro i h2 ⟨hi,f2,z2,r2⟩
  simp -dsimp only [go_sem]
  refine ⟨fun hlt=>?_,fun hge=>?_⟩
  ·have hlt:i<min w v:=by omega
   have hy2:hcell h2 b' i=some (.int .u64 (V i:Int)):=by
    by_cases hb:b'=b
    ·subst hb
     obtain ⟨e1,e2⟩:=wrow_inj (hx.inj hy)
     rw [r2.cell,wrow_get (by omega),if_neg (by omega),e2 i (by omega)]
    ·rw [(hy.fr f2 (by omega)).cell,wrow_get (by omega)]
   simp -dsimp only [go_sem]
   refine Chk_intro (by omega) ?_
   simp -dsimp only [go_sem,r2.cell,wrow_get (show i<w by omega)]
   refine Chk_intro (by omega) ?_
   simp -dsimp only [go_sem,hy2,Nat.lt_irrefl]
   rw [or64 (hW i) (hV i)]
   refine Chk_intro (by omega) ?_
   simp -dsimp only [go_sem]
   refine Chk_intro (r2.wr (by simp;omega)) fun h3 s3=>?_
   have r3:=s3.row r2
   have z3:=s3.size
   rw [cl_int,putAt_one,wrow_upd] at r3
   simp -dsimp only [go_sem]
   simp -dsimp (disch:=omega) only [wrap64]
   refine ⟨i+1,by omega,by simp [Le,find],by omega,f2.trans s3.fr,by omega,?_⟩
   rw [wrow_congr fun k hk=>?_];exact r3
   unfold upd
   dsimp only
   by_cases hki:k=i
   ·subst hki;simp
   ·rw [if_neg hki]
    by_cases h1:k<i
    ·rw [if_pos h1,if_pos (by omega)]
    ·rw [if_neg h1,if_neg (by omega)]
  ·have:i=min w v:=by omega
   subst this
   simp -dsimp only [go_sem]
   simp -dsimp (disch:=omega) only [wrap64]
   refine ⟨1,by omega,by simp [Le,find],.inr ⟨rfl,f2,z2,?_⟩⟩
   rw [wrow_congr fun k hk=>?_];exact r2
   by_cases h1:k<v
   ·rw [if_pos h1,if_pos (by omega)]
   ·rw [if_neg h1,if_neg (by omega)]
 ·simp -dsimp only [go_sem]
  refine ⟨fun h=>absurd h (by omega),fun _=>?_⟩
  simp -dsimp only [go_sem]
  exact ⟨hf,hz,hr⟩
theorem row_set {w p b:Nat} {W:Nat→Nat} {h:Heap} (hx:Rw h b (wrow w W)) (hp:p / 64<w) (hW:∀ i,W i<2 ^ 64) (hw:w≤1024) :
  Con Tryd.prog 140 #[.slice (some ⟨b,0,none⟩) w w,.int .i64 p] h fun _ h'=>Fr b (b+1) h h'∧h'.size=h.size∧Rw h' b (wrow w fun j=>if j=p / 64 then W (p / 64) ||| 2 ^ (p % 64) else W j):=by
 refine con_q134 ?_
 have e64:IntKind.u64.wrap (1 * 2 ^ min (p % 64) 64)=((2 ^ (p % 64):Nat):Int):=shl64 (p % 64) (by omega)
 simp -dsimp only [go_sem]
 rw [tdiv64]
 refine Chk_intro (by decide) ?_
 rw [wrap64 (by omega) (by omega)]
 simp -dsimp only [go_sem]
 refine Chk_intro (by omega) ?_
 simp -dsimp only [go_sem,hx.cell,wrow_get hp]
 rw [tmod64]
 refine Chk_intro (by decide) ?_
 simp -dsimp only [go_sem]
 rw [e64,or64 (hW _) (Nat.pow_lt_pow_right (by decide) (by omega))]
 refine Chk_intro (by omega) ?_
 simp -dsimp only [go_sem]
 refine Chk_intro (hx.wr (by simp;omega)) fun h1 s1=>?_
 have r1:=s1.row hx
 rw [cl_int,putAt_one,wrow_set] at r1
 simp -dsimp only [go_sem]
 exact ⟨s1.fr,s1.size,r1⟩
theorem rel_wide {n:Nat} {M:Nat→Nat→Bool} {p:Value} {lo hi:Nat} {h:Heap} (hr:ProgAt h lo hi p n M) (k:Nat) (hk:k≤256) :
  Con Tryd.prog 151 #[p,.int .i64 k] h fun v h'=>Fr 0 0 h h'∧ProgAt h' h.size h'.size v (max k n) (inN n M):=by
 refine con_q126 ?_
 obtain ⟨hn,pb,rb,R,W,rfl,t⟩:=hr
 have hm:(if (n:Int) > (k:Int) then (n:Int) else (k:Int))=((max k n:Nat):Int):=by split <;> omega
 have hcl:clampN (max k n:Nat)=max k n:=by unfold clampN;omega
 simp -dsimp only [go_sem,t.ptr.cell]
 rw [hm]
 refine call_of (rel_New _ h) ?_
 rintro v1 h1 ⟨p1,t1⟩
 rw [hcl] at t1
 obtain ⟨hx,pb1,rb1,R1,W1,rfl,t1⟩:=t1
 have t2:=t.fr p1 (by omega)
 simp -dsimp only [go_sem,t2.ptr.cell]
 have at1:=t1.at_
 refine loop_intro (fun a:Nat=>[(5,.pointer (some ⟨pb1,0,none⟩)),(18,.slice (some ⟨rb,0,none⟩) n n),(19,.int .i64 n),(20,.int .i64 a)])
  (fun a h'=>a≤n∧Fr 0 0 h h'∧h1.size≤h'.size∧∃ W,PTab h' h.size h1.size pb1 rb1 (max k n) R1 W fun i j=>decide (i<a)&&decide (j<n)&&M i j) (fun a=>n - a) 0 ?_ ?_ ?_
 ·simp [Le,find]
 ·exact ⟨by omega,p1,by omega,_,t1.congr fun i j _ _=>by simp⟩
 rintro a h2 ⟨ha,p0,y2,W2,t3⟩
 have p0_z:=p0.size
 have t4:=t.fr p0 (by omega)
 simp -dsimp only [go_sem]
 refine ⟨fun hlt=>?_,fun hge=>?_⟩
 ·have hlt:a<n:=by omega
  simp -dsimp only [go_sem]
  refine Chk_intro (by omega) ?_
  simp -dsimp only [go_sem,t4.rowsGet hlt,t3.ptr.cell]
  refine Chk_intro (by omega) ?_
  simp -dsimp only [go_sem,t3.rowsGet (show a<max k n by omega)]
  intro b5 h5 n5
  have n5_z:=n5.az
  replace p0:=p0.F n5.f0
  replace t3:=t3.fr n5.f0 (by omega)
  have r5:=n5.row
  obtain ⟨g1,g2,g3,g4,g5,g6⟩:=t3.row a (by omega)
  obtain ⟨f1,f2,f3,f4,f5,f6⟩:=(t.fr p0 (by omega)).row a hlt
  simp -dsimp only [go_sem,r5.cell]
  refine call_of (row_join g1 f1 (r5.rd rfl) (fun j=>(g6 j).1) (fun j=>(f6 j).1) (by unfold nw;omega) (by unfold nw;omega)) ?_
  rintro _ h6 ⟨q6,z6,r6⟩
  have t6:=t3.updRow (by omega) q6 r6 (g6.or f6 (by omega))
  have q6_z:=q6.size
  replace p0:=p0.F q6
  simp -dsimp only [go_sem]
  simp -dsimp (disch:=omega) only [wrap64]
  refine ⟨a+1,by omega,by simp [Le,find],by omega,p0,by omega,_,t6.congr fun i j hi hj=>?_⟩
  by_cases hia:i=a
  ·subst hia
   rw [upd_same];simp
  ·rw [upd_ne _ _ hia]
   have:(i<a+1)=(i<a):=by simp;omega
   simp [this]
 ·have:a=n:=by omega
  subst this
  simp -dsimp only [go_sem]
  exact ⟨p0,hx,_,_,_,_,rfl,(t3.mono' y2).congr fun i j _ _=>rfl⟩
end Go.Proofs.Tst
namespace Go.Proofs.Tst
open Go Go.Vc
theorem rel_Copy {n:Nat} {M:Nat→Nat→Bool} {p:Value} {lo hi:Nat} {h:Heap} (hr:ProgAt h lo hi p n M) :
  Con Tryd.prog 150 #[p] h fun v h'=>Fr 0 0 h h'∧ProgAt h' h.size h'.size v n (inN n M):=by
 refine con_q119 ?_
 simp -dsimp only [go_sem]
 refine call_of (rel_wide hr 0 (by omega)) ?_
 rintro v h1 ⟨p1,t1⟩
 simp -dsimp only [go_sem]
 exact ⟨p1,by rwa [Nat.zero_max] at t1⟩
theorem rel_Plus {n:Nat} {M:Nat→Nat→Bool} {p:Value} {lo hi:Nat} {h:Heap} (hr:ProgAt h lo hi p n M) :
  Con Tryd.prog 110 #[p] h fun v h'=>Fr 0 0 h h'∧ProgAt h' h.size h'.size v n (plusM n M):=by
 refine con_q118 ?_
 simp -dsimp only [go_sem]
 refine call_of (rel_Copy hr) ?_
 rintro v1 h1 ⟨p1,hn,pb1,rb1,R1,W1,rfl,t1⟩
 have at1:=t1.at_
 simp -dsimp only [go_sem,t1.ptr.cell]
 refine loop_intro (fun k:Nat=>[(3,.pointer (some ⟨pb1,0,none⟩)),(11,.int .i64 n),(12,.int .i64 k)])
  (fun k h'=>k≤n∧Fr 0 0 h h'∧h1.size≤h'.size∧∃ W,PTab h' h.size h1.size pb1 rb1 n R1 W (warM n M k)) (fun k=>n - k) 0 ?_ ?_ ?_
 ·simp [Le,find]
 ·exact ⟨by omega,p1,by omega,_,t1.congr fun i j hi hj=>inN_in hi hj⟩
 rintro k h2 ⟨hk,p0,y2,W2,t2⟩
 simp -dsimp only [go_sem]
 refine ⟨fun hlt=>?_,fun hge=>?_⟩
 ·have hlt:k<n:=by omega
  simp -dsimp only [go_sem,t2.ptr.cell]
  refine loop_intro (fun a:Nat=>[(3,.pointer (some ⟨pb1,0,none⟩)),(4,.int .i64 k),(11,.int .i64 n),(12,.int .i64 k),(18,.int .i64 n),(19,.int .i64 a)])
   (fun a h'=>a≤n∧Fr 0 0 h h'∧h1.size≤h'.size∧∃ W,PTab h' h.size h1.size pb1 rb1 n R1 W fun i j=>if i<a then warM n M (k+1) i j else warM n M k i j) (fun a=>n - a) 0 ?_ ?_ ?_
  ·simp [Le,find]
  ·exact ⟨by omega,p0,by omega,_,t2.congr fun i j hi hj=>by simp⟩
  rintro a h3 ⟨ha,p0,y3,W3,t3⟩
  have p0_z:=p0.size
  simp -dsimp only [go_sem]
  refine ⟨fun hlt2=>?_,fun hge2=>?_⟩
  ·have hlt2:a<n:=by omega
   obtain ⟨g1,g2,g3,g4,g5,g6⟩:=t3.row a hlt2
   obtain ⟨f1,f2,f3,f4,f5,f6⟩:=t3.row k hlt
   simp -dsimp only [go_sem,t3.ptr.cell]
   refine Chk_intro (by omega) ?_
   simp -dsimp only [go_sem,t3.rowsGet hlt2]
   refine call_of (row_has (p:=k) (ptab_rd t3 hlt2) (by unfold nw;omega) (g6 _).1 (by omega)) ?_
   rintro v h4 ⟨rfl,rfl⟩
   rw [g6.get hlt]
   simp only [Nat.lt_irrefl,if_false]
   cases hm:warM n M k a k with
   | true =>
    simp -dsimp only [go_sem,t3.ptr.cell]
    refine Chk_intro (by omega) ?_
    simp -dsimp only [go_sem,t3.rowsGet hlt2,t3.ptr.cell]
    refine Chk_intro (by omega) ?_
    simp -dsimp only [go_sem,t3.rowsGet hlt]
    intro b5 h5 n5
    have n5_z:=n5.az
    replace p0:=p0.F n5.f0
    replace t3:=t3.fr n5.f0 (by omega)
    have r5:=n5.row
    obtain ⟨g1,g2,g3,g4,g5,g6⟩:=t3.row a hlt2
    obtain ⟨f1,f2,f3,f4,f5,f6⟩:=t3.row k hlt
    simp -dsimp only [go_sem,t3.rowsGet hlt,t3.rowsGet hlt2,t3.ptr.cell,r5.cell]
    refine call_of (row_join g1 f1 (r5.rd rfl) (fun j=>(g6 j).1) (fun j=>(f6 j).1) (by unfold nw;omega) (by unfold nw;omega)) ?_
    rintro _ h6 ⟨q6,z6,r6⟩
    have t6:=t3.updRow hlt2 q6 r6 (g6.or f6 (by omega))
    have q6_z:=q6.size
    replace p0:=p0.F q6
    simp -dsimp only [go_sem,t6.ptr.cell,t6.rowsGet hlt,t6.rowsGet hlt2]
    simp -dsimp (disch:=omega) only [wrap64]
    refine ⟨a+1,by omega,by simp [Le,find],by omega,p0,by omega,_,t6.congr fun i j hi hj=>?_⟩
    by_cases hia:i=a
    ·subst hia
     have e:(if k<i then warM n M (k+1) k j else warM n M k k j)=warM n M k k j:=by split <;> simp [warM_self]
     rw [upd_same,if_pos (Nat.lt_succ_self _)]
     simp only [Nat.lt_irrefl,if_false,e,hj,decide_true,Bool.true_and]
     simp only [warM,hm,Bool.true_and]
    ·rw [upd_ne _ _ hia]
     have:(i<a+1)=(i<a):=by simp;omega
     simp [this]
   | false =>
    simp -dsimp only [go_sem]
    simp -dsimp (disch:=omega) only [wrap64]
    refine ⟨a+1,by omega,by simp [Le,find],by omega,p0,by omega,_,t3.congr fun i j hi hj=>?_⟩
    by_cases hia:i=a
    ·subst hia
     simp [warM,hm]
    ·have:(i<a+1)=(i<a):=by simp;omega
     simp [this]
  ·have:a=n:=by omega
   subst this
   simp -dsimp only [go_sem]
   simp -dsimp (disch:=omega) only [wrap64]
   exact ⟨k+1,by omega,by simp [Le,find],by omega,p0,by omega,_,t3.congr fun i j hi hj=>by simp [hi]⟩
 ·have:k=n:=by omega
  subst this
  simp -dsimp only [go_sem]
  exact ⟨p0,hn,_,_,_,_,rfl,t2.mono' y2⟩
theorem rel_Opt {n:Nat} {M:Nat→Nat→Bool} {p:Value} {lo hi:Nat} {h:Heap} (hr:ProgAt h lo hi p n M) :
  Con Tryd.prog 126 #[p] h fun v h'=>Fr 0 0 h h'∧ProgAt h' h.size h'.size v n (optM M):=by
 refine con_q117 ?_
 simp -dsimp only [go_sem]
 refine call_of (rel_Copy hr) ?_
 rintro v1 h1 ⟨p1,hn,pb1,rb1,R1,W1,rfl,t1⟩
 have at1:=t1.at_
 simp -dsimp only [go_sem,t1.ptr.cell]
 refine loop_intro (fun k:Nat=>[(3,.pointer (some ⟨pb1,0,none⟩)),(10,.int .i64 n),(11,.int .i64 k)])
  (fun k h'=>k≤n∧Fr 0 0 h h'∧h1.size≤h'.size∧∃ W,PTab h' h.size h1.size pb1 rb1 n R1 W fun i j=>M i j||(decide (i<k)&&i==j)) (fun k=>n - k) 0 ?_ ?_ ?_
 ·simp [Le,find]
 ·exact ⟨by omega,p1,by omega,_,t1.congr fun i j hi hj=>by simp [inN_in hi hj]⟩
 rintro a h2 ⟨ha,p0,y2,W2,t3⟩
 have p0_z:=p0.size
 simp -dsimp only [go_sem]
 refine ⟨fun hlt=>?_,fun hge=>?_⟩
 ·have hlt:a<n:=by omega
  obtain ⟨g1,g2,g3,g4,g5,g6⟩:=t3.row a hlt
  simp -dsimp only [go_sem,t3.ptr.cell]
  refine Chk_intro (by omega) ?_
  simp -dsimp only [go_sem,t3.rowsGet hlt]
  refine call_of (row_set (p:=a) g1 (by unfold nw;omega) (fun j=>(g6 j).1) (by unfold nw;omega)) ?_
  rintro _ h6 ⟨q6,z6,r6⟩
  have t6:=t3.updRow hlt q6 r6 (g6.set hlt)
  have q6_z:=q6.size
  replace p0:=p0.F q6
  simp -dsimp only [go_sem]
  simp -dsimp (disch:=omega) only [wrap64]
  refine ⟨a+1,by omega,by simp [Le,find],by omega,p0,by omega,_,t6.congr fun i j hi hj=>?_⟩
  by_cases hia:i=a
  ·subst hia
   rw [upd_same]
   by_cases hji:j=i
   ·subst hji;simp
   ·have:(i==j)=false:=by simp;omega
    simp [hji,this]
  ·rw [upd_ne _ _ hia]
   have:(i<a+1)=(i<a):=by simp;omega
   simp [this]
 ·have:a=n:=by omega
  subst this
  simp -dsimp only [go_sem]
  exact ⟨p0,hn,_,_,_,_,rfl,(t3.mono' y2).congr fun i j hi _=>by simp [optM,hi]⟩
theorem rel_Star {n:Nat} {M:Nat→Nat→Bool} {p:Value} {lo hi:Nat} {h:Heap} (hr:ProgAt h lo hi p n M) :
  Con Tryd.prog 127 #[p] h fun v h'=>Fr 0 0 h h'∧ProgAt h' h.size h'.size v n (optM (plusM n M)):=by
 refine con_q127 ?_
 simp -dsimp only [go_sem]
 refine call_of (rel_Plus hr) ?_
 rintro v1 h1 ⟨p1,t1⟩
 have:=p1.size
 simp -dsimp only [go_sem]
 refine call_of (rel_Opt t1) ?_
 rintro v2 h2 ⟨p2,t2⟩
 simp -dsimp only [go_sem]
 exact ⟨p1.trans p2,t2.mono this (Nat.le_refl _)⟩
end Go.Proofs.Tst
namespace Go.Proofs.Tst
open Go Go.Vc
theorem iter_intro {P:Program} {asg body:GC} {Q:Post} {e:Env} {h:Heap} {kk:Nat} {gf:FuncId} {lb:Array Value} {l:List Nat} {C:Heap→Prop} (hit:Iter P gf lb (l.map fun (p:Nat)=>[Value.int .i64 (p:Int)]) C)
  (cext:∀ h1 h2,Ext h.size h1 h2→C h1→C h2) (h0C:C h)
  (J:Nat→Heap→Prop) (X:GX→Heap→Prop) (keep:∀ d h',J d h'→C h')
  (jext:∀ i h1 h2,Ext h.size h1 h2→J i h1→J i h2) (xext:∀ x h1 h2,Ext h.size h1 h2→X x h1→X x h2) (h0:J 0 h)
  (step:∀ d q h1,h.size≤h1.size→l[d]?=some q→J d h1 →
   vc P none asg (thenQ (fun e2 h2=>∀ h2',Ext h.size h2 h2'→vc P none body (roundQ (fun h3=>J (d+1) h3) X) e2 h2') (fun _ _ _=>False)) ((kk,.int .i64 (q:Int)) :: e) h1)
  (fin:∀ h',h.size≤h'.size→J l.length h'→Q .normal e h')
  (esc:∀ x h',h.size≤h'.size→X x h'→x≠.normal∧Q x e h') :
  ∃ (xs:List (List Value)) (C:Heap→Prop) (I:Nat→Heap→Prop) (X:GX→Heap→Prop),
   Iter P gf lb xs C∧(∀ x∈xs,x.length=[kk].length) ∧
   (∀ h1 h2,Ext h.size h1 h2→C h1→C h2)∧(∀ i h1 h2,Ext h.size h1 h2→I i h1→I i h2)∧(∀ x h1 h2,Ext h.size h1 h2→X x h1→X x h2) ∧
   I 0 h∧C h ∧
   (∀ i x h1,h.size≤h1.size→xs[i]?=some x→I i h1→C h1→vc P none asg (thenQ (fun e2 h2=>∀ h2',Ext h.size h2 h2'→vc P none body (roundQ (fun h3=>I (i+1) h3∧C h3) X) e2 h2') (fun _ _ _=>False)) (zipE [kk] x e) h1) ∧
   (∀ h',h.size≤h'.size→I xs.length h'→C h'→Q .normal e h') ∧
   (∀ x h',h.size≤h'.size→X x h'→x≠.normal∧Q x e h'):=by
 refine ⟨_,C,J,X,hit,?_,cext,jext,xext,h0,h0C,?_,?_,esc⟩
 ·intro x hx;obtain ⟨q,_,rfl⟩:=List.mem_map.1 hx;rfl
 ·rintro d x h1 hs hx hJ hC
  rw [List.getElem?_map,Option.map_eq_some_iff] at hx
  obtain ⟨q,hq,rfl⟩:=hx
  refine vc_mono (fun x e2 h2 h3=>?_) (step d q h1 hs hq hJ)
  cases x with
  | normal =>
   intro h2' x'
   refine vc_mono (fun x e4 h4 h5=>?_) (h3 h2' x')
   cases x with
   | normal=>exact ⟨h5,keep _ _ h5⟩
   | ret=>exact h5
   | exit j=>exact h5
  | ret=>exact h3
  | exit j=>exact h3
 ·intro h' hs hJ hC
  rw [List.length_map] at hJ
  exact fin h' hs hJ
theorem points_intro {P':Program} {asg body:GC} {Q:Post} {e:Env} {h:Heap} {kk bk n:Nat} {xv:Value} {W:Nat→Nat} {f:Nat→Bool} (hP:P'=Tryd.prog) (hb:Bits n W f) (hn:n≤256) (h0C:RowC bk xv (nw n) W h)
  (J:Nat→Heap→Prop) (X:GX→Heap→Prop) (keep:∀ d h',J d h'→RowC bk xv (nw n) W h')
  (jext:∀ i h1 h2,Ext h.size h1 h2→J i h1→J i h2) (xext:∀ x h1 h2,Ext h.size h1 h2→X x h1→X x h2) (h0:J 0 h)
  (step:∀ d q h1,h.size≤h1.size→(rest f n 0)[d]?=some q→q<n→f q=true→J d h1 →
   vc P' none asg (thenQ (fun e2 h2=>∀ h2',Ext h.size h2 h2'→vc P' none body (roundQ (fun h3=>J (d+1) h3) X) e2 h2') (fun _ _ _=>False)) ((kk,.int .i64 (q:Int)) :: e) h1)
  (fin:∀ h',h.size≤h'.size→J (rest f n 0).length h'→Q .normal e h')
  (esc:∀ x h',h.size≤h'.size→X x h'→x≠.normal∧Q x e h') :
  ∃ (xs:List (List Value)) (C:Heap→Prop) (I:Nat→Heap→Prop) (X:GX→Heap→Prop),
   Iter P' 155 #[.pointer (some ⟨bk,0,none⟩)] xs C∧(∀ x∈xs,x.length=[kk].length) ∧
   (∀ h1 h2,Ext h.size h1 h2→C h1→C h2)∧(∀ i h1 h2,Ext h.size h1 h2→I i h1→I i h2)∧(∀ x h1 h2,Ext h.size h1 h2→X x h1→X x h2) ∧
   I 0 h∧C h ∧
   (∀ i x h1,h.size≤h1.size→xs[i]?=some x→I i h1→C h1→vc P' none asg (thenQ (fun e2 h2=>∀ h2',Ext h.size h2 h2'→vc P' none body (roundQ (fun h3=>I (i+1) h3∧C h3) X) e2 h2') (fun _ _ _=>False)) (zipE [kk] x e) h1) ∧
   (∀ h',h.size≤h'.size→I xs.length h'→C h'→Q .normal e h') ∧
   (∀ x h',h.size≤h'.size→X x h'→x≠.normal∧Q x e h'):=by
 subst hP
 have hit:=points_1 (b:=bk) (xv:=xv) (w:=nw n) (W:=W) (fun j=>(hb j).1) (by unfold nw;omega)
 rw [rest_bits hb] at hit
 exact iter_intro hit (fun h1 h2 x ⟨c1,c2,c3⟩=>⟨x.cell c1,x.rd c2,x.tab c3⟩) h0C J X keep jext xext h0
  (fun d q h1 hs hq hJ=>have hm:=mem_rest.1 (List.mem_of_getElem? hq);step d q h1 hs hq hm.2.1 hm.2.2 hJ) fin esc
theorem rel_Inverse {n:Nat} {M:Nat→Nat→Bool} {p:Value} {lo hi:Nat} {h:Heap} (hr:ProgAt h lo hi p n M) (ht:TabAt h) :
  Con Tryd.prog 96 #[p] h fun v h'=>Fr 0 0 h h'∧ProgAt h' h.size h'.size v n (invM M):=by
 refine con_q113 (fun v h1 h2 x ⟨f,o⟩=>⟨x.fr f (Nat.le_refl _),(o.ext x).mono (Nat.le_refl _) x.size⟩) ?_
 obtain ⟨hn,pb,rb,R,W,rfl,t⟩:=hr
 have hcl:clampN n=n:=by unfold clampN;omega
 simp -dsimp only [go_sem,t.ptr.cell]
 refine call_of (rel_New n h) ?_
 rintro v1 h1 ⟨p0,t1⟩
 rw [hcl] at t1
 obtain ⟨-,pb1,rb1,R1,W1,rfl,t1⟩:=t1
 have at1:=t1.at_
 have h1_z:=p0.size
 simp -dsimp only [go_sem]
 intro b2 h2 n2
 have n2_z:=n2.az
 replace p0:=p0.F n2.f0
 replace t1:=t1.fr n2.f0 (by omega)
 have r2:=n2.row
 simp -dsimp only [go_sem,r2.cell]
 refine Chk_intro (r2.W) fun h3 s3=>?_
 have s3_z:=s3.size
 replace p0:=p0.F s3.fr
 replace t1:=t1.fr s3.fr (by omega)
 replace r2:=s3.row r2
 try simp only [cl_int,cl_bool,cl_slice,cl_ptr,putAt_one,zs0,zs1,ivec_set,brow_upd] at r2
 have t3:=t.fr p0 (by omega)
 simp -dsimp only [go_sem,t3.ptr.cell,r2.cell]
 refine loop_intro (fun a:Nat=>[(3,.pointer (some ⟨b2,0,none⟩)),(15,.slice (some ⟨rb,0,none⟩) n n),(16,.int .i64 n),(17,.int .i64 a)])
  (fun a h'=>a≤n∧Fr 0 0 h h'∧h3.size≤h'.size∧Rw h' b2 [.pointer (some ⟨pb1,0,none⟩)]∧∃ W,PTab h' h.size h1.size pb1 rb1 n R1 W fun i j=>decide (j<a)&&M j i) (fun a=>n - a) 0 ?_ ?_ ?_
 ·simp [Le,find]
 ·exact ⟨by omega,p0,by omega,r2,_,t1.congr fun i j _ _=>by simp⟩
 rintro a h4 ⟨ha,p0,y4,r2,W4,t4⟩
 have p0_z:=p0.size
 have r2_l:=r2.lt
 simp -dsimp only [go_sem,r2.cell]
 refine ⟨fun hlt=>?_,fun hge=>?_⟩
 ·have hlt:a<n:=by omega
  simp -dsimp only [go_sem,r2.cell]
  refine Chk_intro (by omega) ?_
  simp -dsimp only [go_sem,(t.fr p0 (by omega)).rowsGet hlt,r2.cell]
  intro b5 h5 n5
  have n5_z:=n5.az
  replace p0:=p0.F n5.f0
  replace r2:=r2.F n5.f0
  replace t4:=t4.fr n5.f0 (by omega)
  have r5:=n5.row
  simp -dsimp only [go_sem,r2.cell,r5.cell]
  refine Chk_intro (r5.W) fun h6 s6=>?_
  have s6_z:=s6.size
  replace p0:=p0.F s6.fr
  replace r2:=r2.F s6.fr
  replace t4:=t4.fr s6.fr (by omega)
  replace r5:=s6.row r5
  try simp only [cl_int,cl_bool,cl_slice,cl_ptr,putAt_one,zs0,zs1,ivec_set,brow_upd] at r5
  simp -dsimp only [go_sem,r2.cell,r5.cell]
  refine call_of (rel_points _ _ _ h6) ?_
  rintro v h7 ⟨f7,rfl,c7,z7⟩
  have f7_z:=f7.size
  replace p0:=p0.F f7
  replace r2:=r2.F f7
  replace t4:=t4.fr f7 (by omega)
  replace r5:=r5.F f7
  simp -dsimp only [go_sem,r2.cell,r5.cell]
  have hbits:=(t.row a hlt).2.2.2.2.2
  refine ⟨rfl,points_intro rfl hbits hn ⟨c7,ptab_rd (t.fr p0 (by omega)) hlt,ht.fr p0 (by omega)⟩
   (fun d h'=>Fr 0 0 h h'∧h7.size≤h'.size∧Rw h' b2 [.pointer (some ⟨pb1,0,none⟩)]∧Rw h' b5 [.int .i64 a]∧hcell h' h6.size 0=some (.slice (some ⟨R a,0,none⟩) (nw n) (nw n))∧∃ W,PTab h' h.size h1.size pb1 rb1 n R1 W fun i j=>(decide (j<a)&&M j i)||(j==a&&((rest (M a) n 0).take d).contains i))
   (fun _ _=>False) ?_ ?_ ?_ ?_ ?_ ?_ ?_⟩
  ·rintro d h' ⟨q0,-,-,-,q1,-⟩
   exact ⟨q1,ptab_rd (t.fr q0 (by omega)) hlt,ht.fr q0 (by omega)⟩
  ·rintro d h8 h9 x ⟨q0,q1,q2,q3,q4,W',q5⟩
   exact ⟨q0.ext x (by omega),Nat.le_trans q1 x.size,q2.ext x,q3.ext x,x.cell q4,W',q5.ext x⟩
  ·exact fun _ _ _ _ h=>h
  ·exact ⟨p0,Nat.le_refl _,r2,r5,c7,_,t4.congr fun i j _ _=>by simp⟩
  ·rintro d q h8 z8 hq hqn hqf ⟨p0,y8,r2,r5,c8,W8,t8⟩
   have p0_z:=p0.size
   have r2_l:=r2.lt
   have r5_l:=r5.lt
   simp -dsimp only [go_sem,r2.cell,r5.cell]
   intro h9 x9
   have x9_z:=x9.size
   replace p0:=p0.ext x9 (by omega)
   replace r2:=r2.ext x9
   replace r5:=r5.ext x9
   replace t8:=t8.ext x9
   have c8:=x9.cell c8
   obtain ⟨g1,g2,g3,g4,g5,g6⟩:=t8.row q hqn
   simp -dsimp only [go_sem,t8.ptr.cell,r2.cell,r5.cell]
   refine Chk_intro (by omega) ?_
   simp -dsimp only [go_sem,t8.rowsGet hqn,r2.cell,r5.cell]
   refine call_of (row_set (p:=a) g1 (by unfold nw;omega) (fun j=>(g6 j).1) (by unfold nw;omega)) ?_
   rintro _ h10 ⟨f10,z10,r10⟩
   have t10:=t8.updRow hqn f10 r10 (g6.set hlt)
   have f10_z:=f10.size
   replace p0:=p0.F f10
   replace r2:=r2.F f10
   replace r5:=r5.F f10
   simp -dsimp only [go_sem,t10.ptr.cell,t10.rowsGet hqn,r2.cell,r5.cell]
   refine ⟨p0,by omega,r2,r5,f10.keep c8 (by omega),_,t10.congr fun i j hi hj=>?_⟩
   rw [List.take_add_one,hq,Option.toList_some,List.contains_append]
   by_cases hiq:i=q
   ·subst hiq
    rw [upd_same]
    by_cases hja:j=a
    ·subst hja;simp
    ·have e:(j==a)=false:=by simpa using hja
     simp [hja,e]
   ·rw [upd_ne _ _ hiq];simp [hiq]
  ·rintro h8 z8 ⟨p0,y8,r2,r5,c8,W8,t8⟩
   simp -dsimp only [go_sem,r2.cell,r5.cell]
   simp -dsimp (disch:=omega) only [wrap64]
   refine ⟨a+1,by omega,by simp [Le,find],by omega,p0,by omega,r2,_,t8.congr fun i j hi hj=>?_⟩
   rw [List.take_length]
   by_cases hja:j=a
   ·subst hja
    cases hm:M j i with
    | true=>simp [mem_rest,hm,hi]
    | false=>simp [mem_rest,hm]
   ·have:(j<a+1)=(j<a):=by simp;omega
    simp [this,hja]
  ·exact fun _ _ _ h=>h.elim
 ·have:a=n:=by omega
  subst this
  simp -dsimp only [go_sem,r2.cell]
  exact ⟨p0,hn,_,_,_,_,rfl,(t4.mono' (by omega)).congr fun i j hi hj=>by simp [invM,hj]⟩
end Go.Proofs.Tst
namespace Go.Proofs.Tst
open Go Go.Vc
set_option maxHeartbeats 800000 in
theorem rel_Comp {n m:Nat} {M N:Nat→Nat→Bool} {p q:Value} {lo hi lo' hi':Nat} {h:Heap} (hr:ProgAt h lo hi p n M) (hs:ProgAt h lo' hi' q m N) (ht:TabAt h) :
  Con Tryd.prog 75 #[p,q] h fun v h'=>Fr 0 0 h h'∧ProgAt h' h.size h'.size v (max n m) (compM n M m N):=by
 refine con_q108 (fun v h1 h2 x ⟨f,o⟩=>⟨x.fr f (Nat.le_refl _),(o.ext x).mono (Nat.le_refl _) x.size⟩) ?_
 obtain ⟨hn,pb,rb,R,W,rfl,t⟩:=hr
 obtain ⟨hm,pb',rb',R',W',rfl,t'⟩:=hs
 have hmx:(if (m:Int) > (n:Int) then (m:Int) else (n:Int))=((max n m:Nat):Int):=by split <;> omega
 have hcl:clampN (max n m:Nat)=max n m:=by unfold clampN;omega
 have p0:Fr 0 0 h h:=.refl _ _ _
 simp -dsimp only [go_sem]
 intro b1 h1 n1
 have n1_z:=n1.az
 replace p0:=p0.F n1.f0
 have r1:=n1.row
 have tp:=t.fr p0 (by omega)
 have tq:=t'.fr p0 (by omega)
 simp -dsimp only [go_sem,tp.ptr.cell,tq.ptr.cell,r1.cell]
 rw [hmx]
 refine rvc_joint (fun b2:Nat=>[(0,.pointer (some ⟨pb,0,none⟩)),(3,.pointer (some ⟨b1,0,none⟩)),(4,.pointer none),(5,.pointer (some ⟨b2,0,none⟩))])
  (fun b2 h'=>Fr 0 0 h h'∧Rw h' b1 [.pointer (some ⟨pb',0,none⟩)]∧b1<b2∧∃ pb1 rb1 R1 W1 lo1 hi1,h1.size≤lo1∧hi1≤h'.size∧(b2<lo1∨hi1≤b2)∧Rw h' b2 [.pointer (some ⟨pb1,0,none⟩)]∧PTab h' lo1 hi1 pb1 rb1 (max n m) R1 W1 fun _ _=>false) ?_ ?_
 ·simp -dsimp only [go_sem,r_two,r1.cell]
  refine ⟨?_,?_⟩
  ·refine call_of (rel_New _ h1) ?_
   rintro v h2 ⟨f2,t2⟩
   rw [hcl] at t2
   obtain ⟨-,pb1,rb1,R1,W1,rfl,t2⟩:=t2
   have f2_z:=f2.size
   replace p0:=p0.F f2
   replace r1:=r1.F f2
   have tp:=t.fr p0 (by omega)
   have tq:=t'.fr p0 (by omega)
   simp -dsimp only [go_sem,tp.ptr.cell,tq.ptr.cell,r1.cell]
   intro b3 h3 n3
   have n3_a:=n3.at_
   have n3_z:=n3.size
   replace p0:=p0.F n3.f0
   replace r1:=r1.F n3.f0
   replace t2:=t2.fr n3.f0 (by omega)
   have r3:=n3.row
   simp -dsimp only [go_sem,r1.cell,r3.cell]
   refine Chk_intro (r3.W) fun h4 s4=>?_
   have s4_z:=s4.size
   replace p0:=p0.F s4.fr
   replace r1:=r1.F s4.fr
   replace t2:=t2.fr s4.fr (by omega)
   replace r3:=s4.row r3
   try simp only [cl_int,cl_bool,cl_slice,cl_ptr,putAt_one,zs0,zs1,ivec_set,brow_upd] at r3
   simp -dsimp only [go_sem,r1.cell,r3.cell]
   exact ⟨b3,by simp [Le,find],p0,r1,by omega,_,_,_,_,_,_,Nat.le_refl _,by omega,.inr (by omega),r3,t2⟩
  ·intro b3 h3 n3
   have n3_a:=n3.at_
   have n3_z:=n3.size
   replace p0:=p0.F n3.f0
   replace r1:=r1.F n3.f0
   have r3:=n3.row
   simp -dsimp only [go_sem,r1.cell,r3.cell]
   refine call_of (rel_New _ h3) ?_
   rintro v h2 ⟨f2,t2⟩
   rw [hcl] at t2
   obtain ⟨-,pb1,rb1,R1,W1,rfl,t2⟩:=t2
   have f2_z:=f2.size
   replace p0:=p0.F f2
   replace r1:=r1.F f2
   replace r3:=r3.F f2
   have tp:=t.fr p0 (by omega)
   have tq:=t'.fr p0 (by omega)
   simp -dsimp only [go_sem,tp.ptr.cell,tq.ptr.cell,r1.cell,r3.cell]
   refine Chk_intro (r3.W) fun h4 s4=>?_
   have s4_z:=s4.size
   replace p0:=p0.F s4.fr
   replace r1:=r1.F s4.fr
   replace t2:=t2.fr s4.fr (by omega)
   replace r3:=s4.row r3
   try simp only [cl_int,cl_bool,cl_slice,cl_ptr,putAt_one,zs0,zs1,ivec_set,brow_upd] at r3
   simp -dsimp only [go_sem,r1.cell,r3.cell]
   exact ⟨b3,by simp [Le,find],p0,r1,by omega,_,_,_,_,h3.size,h2.size,by omega,by omega,.inl (by omega),r3,t2⟩
 rintro b2 h2 ⟨p0,r1,hb12,pb1,rb1,R1,W1,lo1,hi1,hlo,hhi,hb2,r2,t2⟩ e ⟨e0,e3,e4,e5,-⟩
 have p0_z:=p0.size
 have r1_l:=r1.lt
 have r2_l:=r2.lt
 have at2:=t2.at_
 have tp:=t.fr p0 (by omega)
 simp -dsimp only [go_sem,e0,e3,e4,e5,tp.ptr.cell,r1.cell,r2.cell]
 refine loop_intro (fun a:Nat=>[(3,.pointer (some ⟨b1,0,none⟩)),(5,.pointer (some ⟨b2,0,none⟩)),(22,.slice (some ⟨rb,0,none⟩) n n),(23,.int .i64 n),(24,.int .i64 a)])
  (fun a h'=>a≤n∧Fr 0 0 h h'∧h2.size≤h'.size∧Rw h' b1 [.pointer (some ⟨pb',0,none⟩)]∧Rw h' b2 [.pointer (some ⟨pb1,0,none⟩)]∧∃ W,PTab h' lo1 hi1 pb1 rb1 (max n m) R1 W fun i j=>decide (i<a)&&compM n M m N i j) (fun a=>n - a) 0 ?_ ?_ ?_
 ·simp [Le,find]
 ·exact ⟨by omega,p0,by omega,r1,r2,_,t2.congr fun i j _ _=>by simp⟩
 rintro a h4 ⟨ha,p0,y4,r1,r2,W4,t4⟩
 have p0_z:=p0.size
 have r1_l:=r1.lt
 have r2_l:=r2.lt
 simp -dsimp only [go_sem,r1.cell,r2.cell]
 refine ⟨fun hlt=>?_,fun hge=>?_⟩
 ·have hlt:a<n:=by omega
  simp -dsimp only [go_sem,r1.cell,r2.cell]
  refine Chk_intro (by omega) ?_
  simp -dsimp only [go_sem,(t.fr p0 (by omega)).rowsGet hlt,r1.cell,r2.cell]
  intro b5 h5 n5
  have n5_z:=n5.az
  replace p0:=p0.F n5.f0
  replace r1:=r1.F n5.f0
  replace r2:=r2.F n5.f0
  replace t4:=t4.fr n5.f0 (by omega)
  have r5:=n5.row
  simp -dsimp only [go_sem,r1.cell,r2.cell,r5.cell]
  refine Chk_intro (r5.W) fun h6 s6=>?_
  have s6_z:=s6.size
  replace p0:=p0.F s6.fr
  replace r1:=r1.F s6.fr
  replace r2:=r2.F s6.fr
  replace t4:=t4.fr s6.fr (by omega)
  replace r5:=s6.row r5
  try simp only [cl_int,cl_bool,cl_slice,cl_ptr,putAt_one,zs0,zs1,ivec_set,brow_upd] at r5
  simp -dsimp only [go_sem,r1.cell,r2.cell,r5.cell]
  refine call_of (rel_points _ _ _ h6) ?_
  rintro v h7 ⟨f7,rfl,c7,z7⟩
  have f7_z:=f7.size
  replace p0:=p0.F f7
  replace r1:=r1.F f7
  replace r2:=r2.F f7
  replace t4:=t4.fr f7 (by omega)
  replace r5:=r5.F f7
  simp -dsimp only [go_sem,r1.cell,r2.cell,r5.cell]
  have hbits:=(t.row a hlt).2.2.2.2.2
  refine ⟨rfl,points_intro rfl hbits hn ⟨c7,ptab_rd (t.fr p0 (by omega)) hlt,ht.fr p0 (by omega)⟩
   (fun d h'=>Fr 0 0 h h'∧h7.size≤h'.size∧Rw h' b1 [.pointer (some ⟨pb',0,none⟩)]∧Rw h' b2 [.pointer (some ⟨pb1,0,none⟩)]∧Rw h' b5 [.int .i64 a]∧hcell h' h6.size 0=some (.slice (some ⟨R a,0,none⟩) (nw n) (nw n)) ∧
    ∃ W,PTab h' lo1 hi1 pb1 rb1 (max n m) R1 W fun i j=>(decide (i<a)&&compM n M m N i j)||(i==a&&((rest (M a) n 0).take d).any fun q=>inN m N q j))
   (fun _ _=>False) ?_ ?_ ?_ ?_ ?_ ?_ ?_⟩
  ·rintro d h' ⟨q0,-,-,-,-,q1,-⟩
   exact ⟨q1,ptab_rd (t.fr q0 (by omega)) hlt,ht.fr q0 (by omega)⟩
  ·rintro d h8 h9 x ⟨q0,q1,q2,q3,q3',q4,W',q5⟩
   exact ⟨q0.ext x (by omega),Nat.le_trans q1 x.size,q2.ext x,q3.ext x,q3'.ext x,x.cell q4,W',q5.ext x⟩
  ·exact fun _ _ _ _ h=>h
  ·exact ⟨p0,Nat.le_refl _,r1,r2,r5,c7,_,t4.congr fun i j _ _=>by simp⟩
  ·rintro d q h8 z8 hq hqn hqf ⟨p0,y8,r1,r2,r5,c8,W8,t8⟩
   have p0_z:=p0.size
   have r1_l:=r1.lt
   have r2_l:=r2.lt
   have r5_l:=r5.lt
   simp -dsimp only [go_sem,r1.cell,r2.cell,r5.cell]
   intro h9 x9
   have x9_z:=x9.size
   replace p0:=p0.ext x9 (by omega)
   replace r1:=r1.ext x9
   replace r2:=r2.ext x9
   replace r5:=r5.ext x9
   replace t8:=t8.ext x9
   have c8:=x9.cell c8
   have tq:=t'.fr p0 (by omega)
   simp -dsimp only [go_sem,tq.ptr.cell,r1.cell,r2.cell,r5.cell]
   refine ⟨fun hqm=>?_,fun hqm=>?_⟩
   ·have hqm:q<m:=by omega
    obtain ⟨g1,g2,g3,g4,g5,g6⟩:=t8.row a (by omega)
    simp -dsimp only [go_sem,tq.ptr.cell,t8.ptr.cell,r1.cell,r2.cell,r5.cell]
    refine Chk_intro (by omega) ?_
    simp -dsimp only [go_sem,t8.rowsGet (show a<max n m by omega),tq.ptr.cell,r1.cell,r2.cell,r5.cell]
    refine Chk_intro (by omega) ?_
    simp -dsimp only [go_sem,tq.rowsGet hqm,r1.cell,r2.cell,r5.cell]
    intro b10 h10 n10
    have n10_z:=n10.az
    replace p0:=p0.F n10.f0
    replace r1:=r1.F n10.f0
    replace r2:=r2.F n10.f0
    replace r5:=r5.F n10.f0
    replace t8:=t8.fr n10.f0 (by omega)
    have r10:=n10.row
    obtain ⟨g1,g2,g3,g4,g5,g6⟩:=t8.row a (by omega)
    have tq:=t'.fr p0 (by omega)
    obtain ⟨f1,f2,f3,f4,f5,f6⟩:=tq.row q hqm
    simp -dsimp only [go_sem,tq.ptr.cell,t8.ptr.cell,t8.rowsGet (show a<max n m by omega),tq.rowsGet hqm,r1.cell,r2.cell,r5.cell,r10.cell]
    refine call_of (row_join g1 f1 (r10.rd rfl) (fun j=>(g6 j).1) (fun j=>(f6 j).1) (by unfold nw;omega) (by unfold nw;omega)) ?_
    rintro _ h11 ⟨f11,z11,r11⟩
    have t11:=t8.updRow (by omega) f11 r11 (g6.or f6 (by omega))
    have c10:=n10.f0.keep c8 (by omega)
    have f11_z:=f11.size
    replace p0:=p0.F f11
    replace r1:=r1.F f11
    replace r2:=r2.F f11
    replace r5:=r5.F f11
    have tq:=t'.fr p0 (by omega)
    simp -dsimp only [go_sem,t11.ptr.cell,t11.rowsGet (show a<max n m by omega),tq.ptr.cell,tq.rowsGet hqm,r1.cell,r2.cell,r5.cell]
    refine ⟨p0,by omega,r1,r2,r5,f11.keep c10 (by omega),_,t11.congr fun i j hi hj=>?_⟩
    rw [List.take_add_one,hq,Option.toList_some,List.any_append]
    by_cases hia:i=a
    ·subst hia
     rw [upd_same]
     simp [inN,hqm]
    ·rw [upd_ne _ _ hia]
     have e:(i==a)=false:=by simpa using hia
     simp [e]
   ·simp -dsimp only [go_sem,r1.cell,r2.cell,r5.cell]
    refine ⟨p0,by omega,r1,r2,r5,c8,_,t8.congr fun i j hi hj=>?_⟩
    rw [List.take_add_one,hq,Option.toList_some,List.any_append]
    have:inN m N q j=false:=inN_out (by omega)
    simp [this]
  ·rintro h8 z8 ⟨p0,y8,r1,r2,r5,c8,W8,t8⟩
   simp -dsimp only [go_sem,r1.cell,r2.cell,r5.cell]
   simp -dsimp (disch:=omega) only [wrap64]
   refine ⟨a+1,by omega,by simp [Le,find],by omega,p0,by omega,r1,r2,_,t8.congr fun i j hi hj=>?_⟩
   rw [List.take_length]
   by_cases hia:i=a
   ·subst hia
    have:(rest (M i) n 0).any (fun q=>inN m N q j)=compM n M m N i j:=by
     rw [Bool.eq_iff_iff,compM_true,List.any_eq_true]
     constructor
     ·rintro ⟨k,hk,h1⟩
      have:=mem_rest.1 hk
      exact ⟨k,inN_true.2 ⟨hlt,this.2.1,this.2.2⟩,h1⟩
     ·rintro ⟨k,h1,h2⟩
      have:=inN_true.1 h1
      exact ⟨k,mem_rest.2 ⟨by omega,this.2.1,this.2.2⟩,h2⟩
    simp [this]
   ·have e:(i==a)=false:=by simpa using hia
    have:(i<a+1)=(i<a):=by simp;omega
    simp [this,e]
  ·exact fun _ _ _ h=>h.elim
 ·have:a=n:=by omega
  subst this
  simp -dsimp only [go_sem,r1.cell,r2.cell]
  refine ⟨p0,by omega,_,_,_,_,rfl,((t4.mono' (hi':=h4.size) (by omega)).lower (by omega)).congr fun i j hi hj=>?_⟩
  by_cases hia:i<a
  ·simp [hia]
  ·have:compM a M m N i j=false:=by
    rw [Bool.eq_false_iff];intro h'
    obtain ⟨k,h1,_⟩:=compM_true.1 h'
    exact hia (inN_true.1 h1).1
   simp [this]
end Go.Proofs.Tst
namespace Go.Proofs.Tst
open Go Go.Vc
theorem slices_Values {a:Option Addr} {n c:Nat} {h:Heap}:Con Tryd.prog 152 #[.slice a n c] h fun v h'=>Fr 0 0 h h'∧v=.func (.func 161) #[] #[.pointer (some ⟨h.size,0,none⟩)]∧Rw h' h.size [.slice a n c]∧h'.size=h.size+1:=by
 refine con_q156 ?_
 simp -dsimp only [go_sem]
 intro b h1 n1
 have r1:=n1.row
 have a1:=n1.at_
 subst a1
 simp -dsimp only [go_sem]
 exact ⟨n1.fr,r1,n1.size⟩
theorem values_1 {b:Nat} {sv:Value} {l:List Nat} (hl:l.length≤65536) :
  Iter Tryd.prog 161 #[.pointer (some ⟨b,0,none⟩)] (l.map fun (p:Nat)=>[Value.int .i64 (p:Int)]) (fun h=>Rw h b [sv]∧Rd 1 h sv l.length (natsV l)):=by
 refine ⟨by unfold goodF;rw [Tryd.func161];rfl,fun lo I X hy h hI hC=>?_⟩
 show ConX (some lo) Tryd.prog 161 #[.func (.yield lo) #[] #[],.pointer (some ⟨b,0,none⟩)] h _
 refine con_q157 ?_
 obtain ⟨sa,sc,rfl⟩:=hC.2.is
 simp -dsimp only [go_sem,hC.1.cell]
 refine loop_intro (fun i:Nat=>[(0,.func (.yield lo) #[] #[]),(5,.slice sa l.length sc),(6,.int .i64 l.length),(7,.int .i64 i)])
  (fun i h'=>i≤l.length∧(Rw h' b [.slice sa l.length sc]∧Rd 1 h' (.slice sa l.length sc) l.length (natsV l))∧I i h') (fun i=>l.length - i) 0 ?_ ?_ ?_
 ·simp [Le,find]
 ·exact ⟨by omega,hC,hI⟩
 rintro i h1 ⟨hi,hC1,hI1⟩
 simp -dsimp only [go_sem]
 refine ⟨fun hlt=>?_,fun hge=>?_⟩
 ·have hlt:i<l.length:=by omega
  have hq:l[i]?=some l[i]:=by simp [hlt]
  generalize l[i]=q at hq
  simp -dsimp only [go_sem]
  refine Chk_intro (by omega) (hC1.2.idx (by omega) fun b2 o2 c2=>?_)
  simp -dsimp only [go_sem,c2 i _ (natsV_get hq)]
  have hdx:(l.map fun (p:Nat)=>[Value.int .i64 (p:Int)])[i]?=some [.int .i64 (q:Int)]:=by rw [List.getElem?_map,hq];rfl
  refine yld_of (hy i _ _ hdx hI1 hC1) ?_
  rintro v h4 (⟨rfl,hI4,hC4⟩ | ⟨rfl,hX4⟩)
  ·simp -dsimp only [go_sem]
   simp -dsimp (disch:=omega) only [wrap64]
   exact ⟨i+1,by omega,by simp [Le,find],by omega,hC4,hI4⟩
  ·simp -dsimp only [go_sem]
   exact .inr hX4
 ·have:i=l.length:=by omega
  subst this
  simp -dsimp only [go_sem]
  refine .inl ⟨?_,hC1⟩
  rw [List.length_map]
  exact hI1
theorem slices_AppendSeq {gf:FuncId} {lb:Array Value} {l:List Nat} {C:Heap→Prop} {h:Heap} (hit:Iter Tryd.prog gf lb (l.map fun (p:Nat)=>[Value.int .i64 (p:Int)]) C)
  (cext:∀ B h1 h2,h.size≤B→Ext B h1 h2→C h1→C h2) (cfr:∀ h',Fr 0 0 h h'→C h') (hl:l.length≤65536) :
  Con Tryd.prog 162 #[.slice none 0 0,.func (.func gf) #[] lb] h fun v h'=>Fr 0 0 h h'∧Holder 1 h' v l.length (natsV l) h.size:=by
 refine con_q145 (fun v h1 h2 x ⟨f,o⟩=>⟨x.fr f (Nat.le_refl _),o.ext x⟩) ?_
 have p0:Fr 0 0 h h:=.refl _ _ _
 simp -dsimp only [go_sem]
 intro b1 h1 n1
 have n1_z:=n1.az
 replace p0:=p0.F n1.f0
 have r1:=n1.row
 simp -dsimp only [go_sem,r1.cell]
 refine ⟨rfl,iter_intro hit (fun h2 h3 x=>cext _ _ _ (by omega) x) (cfr _ p0)
  (fun d h'=>Fr 0 0 h h'∧h1.size≤h'.size∧∃ sv,Rw h' b1 [sv]∧Holder 1 h' sv d (natsV (l.take d)) h1.size) (fun _ _=>False) ?_ ?_ ?_ ?_ ?_ ?_ ?_⟩
 ·rintro d h' ⟨q0,-⟩;exact cfr _ q0
 ·rintro d h2 h3 x ⟨q0,q1,sv,q2,q3⟩;exact ⟨q0.ext x (by omega),Nat.le_trans q1 x.size,sv,q2.ext x,q3.ext x⟩
 ·exact fun _ _ _ _ h=>h
 ·exact ⟨p0,by omega,_,r1,.none _ _ _⟩
 ·rintro d q h2 z2 hq ⟨p0,y2,sv,r1,o2⟩
  have hd:=(List.getElem?_eq_some_iff.1 hq).1
  have p0_z:=p0.size
  have r1_l:=r1.lt
  have o2_l:=o2.top
  simp -dsimp only [go_sem,r1.cell]
  intro h3 x3
  have x3_z:=x3.size
  replace p0:=p0.ext x3 (by omega)
  replace r1:=r1.ext x3
  replace o2:=o2.ext x3
  obtain ⟨va,vc,rfl⟩:=o2.is
  simp -dsimp only [go_sem,r1.cell]
  intro b4 h4 n4
  have n4_z:=n4.az
  replace p0:=p0.F n4.f0
  replace r1:=r1.F n4.f0
  replace o2:=o2.fr n4.f0 (by have:=o2.at_;omega)
  simp -dsimp only [go_sem,n4.row.cell,r1.cell]
  refine o2.append (by omega) rfl (by omega) (by simp) (by omega) fun v5 h5 o_new f5 e_app=>?_
  have f5_z:=f5.size
  have o_at:=o2.at_
  replace p0:=p0.F f5
  replace r1:=r1.F f5
  clear o_at e_app
  replace o2:=o_new
  have o2_l:=o2.top
  obtain ⟨ua,uc,rfl⟩:=o2.is
  simp -dsimp only [go_sem,r1.cell]
  refine Chk_intro (r1.wr (by simp)) fun h6 s6=>?_
  have s6_z:=s6.size
  have r6:=s6.row r1
  have o6:=o2.fr s6.fr (by have:=o2.at_;omega)
  have q6:=p0.fresh s6.fr (by omega)
  simp -dsimp only [go_sem] at r6
  simp -dsimp only [go_sem,r1.cell]
  refine ⟨q6,by omega,_,r6,?_⟩
  rw [List.take_add_one,hq,Option.toList_some,natsV_append]
  exact o6
 ·rintro h2 z2 ⟨p0,y2,sv,r1,o2⟩
  rw [List.take_length] at o2
  have p0_z:=p0.size
  have r1_l:=r1.lt
  have o2_l:=o2.top
  simp -dsimp only [go_sem,r1.cell]
  exact ⟨p0,o2.lower (by omega)⟩
 ·exact fun _ _ _ h=>h.elim
theorem slices_Collect {gf:FuncId} {lb:Array Value} {l:List Nat} {C:Heap→Prop} {h:Heap} (hit:Iter Tryd.prog gf lb (l.map fun (p:Nat)=>[Value.int .i64 (p:Int)]) C)
  (cext:∀ B h1 h2,h.size≤B→Ext B h1 h2→C h1→C h2) (cfr:∀ h',Fr 0 0 h h'→C h') (hl:l.length≤65536) :
  Con Tryd.prog 153 #[.func (.func gf) #[] lb] h fun v h'=>Fr 0 0 h h'∧Holder 1 h' v l.length (natsV l) h.size:=by
 refine con_q151 ?_
 simp -dsimp only [go_sem]
 refine call_of (slices_AppendSeq hit cext cfr hl) ?_
 rintro v h1 ⟨p1,o1⟩
 simp -dsimp only [go_sem]
 exact ⟨p1,o1⟩
end Go.Proofs.Tst
namespace Go.Proofs.Tst
open Go Go.Vc
def keepM (n:Nat) (M:Nat→Nat→Bool) (m:Nat) (N:Nat→Nat→Bool) (has:Bool) (i j:Nat):Bool:=inN n M i j&&(inN m N i j==has)
set_option maxHeartbeats 800000 in
theorem rel_keep {n m:Nat} {M N:Nat→Nat→Bool} {p q:Value} {lo hi lo' hi':Nat} {h:Heap} (hr:ProgAt h lo hi p n M) (hs:ProgAt h lo' hi' q m N) (ht:TabAt h) (has:Bool) :
  Con Tryd.prog 113 #[p,q,.bool has] h fun v h'=>Fr 0 0 h h'∧ProgAt h' h.size h'.size v (max n m) (keepM n M m N has):=by
 refine con_q129 (fun v h1 h2 x ⟨f,o⟩=>⟨x.fr f (Nat.le_refl _),(o.ext x).mono (Nat.le_refl _) x.size⟩) ?_
 have hr0:=hr;have hs0:=hs
 obtain ⟨hn,pb,rb,R,W,rfl,t⟩:=hr
 obtain ⟨hm,pb',rb',R',W',rfl,t'⟩:=hs
 have p0:Fr 0 0 h h:=.refl _ _ _
 simp -dsimp only [go_sem]
 intro b1 h1 n1
 have n1_z:=n1.az
 replace p0:=p0.F n1.f0
 have r1:=n1.row
 simp -dsimp only [go_sem,r1.cell]
 intro b2 h2 n2
 have n2_z:=n2.az
 replace p0:=p0.F n2.f0
 replace r1:=r1.F n2.f0
 have r2:=n2.row
 have tq:=t'.fr p0 (by omega)
 simp -dsimp only [go_sem,tq.ptr.cell,r1.cell,r2.cell]
 refine call_of (rel_wide (hr0.fr p0 (by omega)) m hm) ?_
 rintro v3 h3 ⟨f3,hk,pb3,rb3,R3,W3,rfl,t3⟩
 rw [Nat.max_comm] at hk t3
 have f3_z:=f3.size
 replace p0:=p0.F f3
 replace r1:=r1.F f3
 replace r2:=r2.F f3
 simp -dsimp only [go_sem,r1.cell,r2.cell]
 intro b4 h4 n4
 have n4_z:=n4.az
 replace p0:=p0.F n4.f0
 replace r1:=r1.F n4.f0
 replace r2:=r2.F n4.f0
 replace t3:=t3.fr n4.f0 (by omega)
 have r4:=n4.row
 simp -dsimp only [go_sem,r1.cell,r2.cell,r4.cell]
 refine Chk_intro (r4.W) fun h5 s5=>?_
 have s5_z:=s5.size
 replace p0:=p0.F s5.fr
 replace r1:=r1.F s5.fr
 replace r2:=r2.F s5.fr
 replace t3:=t3.fr s5.fr (by omega)
 replace r4:=s5.row r4
 try simp only [cl_int,cl_bool,cl_slice,cl_ptr,putAt_one,zs0,zs1,ivec_set,brow_upd] at r4
 have at3:=t3.at_
 simp -dsimp only [go_sem,t3.ptr.cell,r1.cell,r2.cell,r4.cell]
 refine loop_intro (fun a:Nat=>[(4,.pointer (some ⟨b1,0,none⟩)),(5,.pointer (some ⟨b2,0,none⟩)),(7,.pointer (some ⟨b4,0,none⟩)),(20,.slice (some ⟨rb3,0,none⟩) (max n m) (max n m)),(21,.int .i64 (max n m:Nat)),(22,.int .i64 a)])
  (fun a h'=>a≤max n m∧Fr 0 0 h h'∧h5.size≤h'.size∧Rw h' b1 [.pointer (some ⟨pb',0,none⟩)]∧Rw h' b2 [.bool has]∧Rw h' b4 [.pointer (some ⟨pb3,0,none⟩)]∧∃ W,PTab h' h2.size h3.size pb3 rb3 (max n m) R3 W fun i j=>inN n M i j&&(decide (a≤i)||(inN m N i j==has))) (fun a=>max n m - a) 0 ?_ ?_ ?_
 ·simp [Le,find]
 ·exact ⟨by omega,p0,by omega,r1,r2,r4,_,t3.congr fun i j _ _=>by simp⟩
 rintro a h6 ⟨ha,p0,y6,r1,r2,r4,W6,t6⟩
 have p0_z:=p0.size
 have r1_l:=r1.lt
 have r2_l:=r2.lt
 have r4_l:=r4.lt
 simp -dsimp only [go_sem,r1.cell,r2.cell,r4.cell]
 refine ⟨fun hlt=>?_,fun hge=>?_⟩
 ·have hlt:a<max n m:=by omega
  simp -dsimp only [go_sem,r1.cell,r2.cell,r4.cell]
  refine Chk_intro (by omega) ?_
  simp -dsimp only [go_sem,t6.rowsGet hlt,r1.cell,r2.cell,r4.cell]
  intro b7 h7 n7
  have n7_z:=n7.az
  replace p0:=p0.F n7.f0
  replace r1:=r1.F n7.f0
  replace r2:=r2.F n7.f0
  replace r4:=r4.F n7.f0
  replace t6:=t6.fr n7.f0 (by omega)
  have r7:=n7.row
  simp -dsimp only [go_sem,r1.cell,r2.cell,r4.cell,r7.cell]
  refine Chk_intro (r7.W) fun h8 s8=>?_
  have s8_z:=s8.size
  replace p0:=p0.F s8.fr
  replace r1:=r1.F s8.fr
  replace r2:=r2.F s8.fr
  replace r4:=r4.F s8.fr
  replace t6:=t6.fr s8.fr (by omega)
  replace r7:=s8.row r7
  try simp only [cl_int,cl_bool,cl_slice,cl_ptr,putAt_one,zs0,zs1,ivec_set,brow_upd] at r7
  simp -dsimp only [go_sem,r1.cell,r2.cell,r4.cell,r7.cell]
  refine call_of (rel_points _ _ _ h8) ?_
  rintro v h9 ⟨f9,rfl,c9,z9⟩
  have f9_z:=f9.size
  replace p0:=p0.F f9
  replace r1:=r1.F f9
  replace r2:=r2.F f9
  replace r4:=r4.F f9
  replace t6:=t6.fr f9 (by omega)
  replace r7:=r7.F f9
  simp -dsimp only [go_sem,r1.cell,r2.cell,r4.cell,r7.cell]
  have hbits:=(t6.row a hlt).2.2.2.2.2
  have hit:=points_1 (b:=h8.size) (xv:=.slice (some ⟨R3 a,0,none⟩) (nw (max n m)) (nw (max n m))) (w:=nw (max n m)) (W:=W6 a) (fun j=>(hbits j).1) (by unfold nw;omega)
  rw [rest_bits hbits] at hit
  have hL:=length_rest_le (fun j=>inN n M a j&&(decide (a≤a)||(inN m N a j==has))) (max n m) 0
  have hC:RowC h8.size (.slice (some ⟨R3 a,0,none⟩) (nw (max n m)) (nw (max n m))) (nw (max n m)) (W6 a) h9:=⟨c9,ptab_rd t6 hlt,ht.fr p0 (by omega)⟩
  refine call_of (slices_Collect hit (fun B g1 g2 _ x ⟨c1,c2,c3⟩=>⟨x.cell c1,x.rd c2,x.tab c3⟩) (fun g f=>⟨f.keep hC.1 (by omega),hC.2.1.fr f,hC.2.2.fr f (by omega)⟩) (by omega)) ?_
  rintro sv h10 ⟨f10,o10⟩
  clear hit hC
  have hrow:(rest (fun j=>inN n M a j&&(decide (a≤a)||(inN m N a j==has))) (max n m) 0)=rest (fun j=>inN n M a j) (max n m) 0:=rest_congr fun j _ _=>by simp
  rw [hrow] at o10 hL
  have f10_z:=f10.size
  replace p0:=p0.F f10
  replace r1:=r1.F f10
  replace r2:=r2.F f10
  replace r4:=r4.F f10
  replace t6:=t6.fr f10 (by omega)
  replace r7:=r7.F f10
  obtain ⟨va,vc,rfl⟩:=o10.is
  have o10_l:=o10.top
  simp -dsimp only [go_sem,r1.cell,r2.cell,r4.cell,r7.cell]
  refine call_of (slices_Values) ?_
  rintro v h11 ⟨f11,rfl,r11,z11⟩
  have f11_z:=f11.size
  replace p0:=p0.F f11
  replace r1:=r1.F f11
  replace r2:=r2.F f11
  replace r4:=r4.F f11
  replace t6:=t6.fr f11 (by omega)
  replace r7:=r7.F f11
  replace o10:=o10.fr f11 (by have:=o10.at_;omega)
  simp -dsimp only [go_sem,r1.cell,r2.cell,r4.cell,r7.cell,r11.cell]
  refine ⟨rfl,iter_intro (values_1 (l:=rest (fun j=>inN n M a j) (max n m) 0) (by omega)) (fun g1 g2 x ⟨c1,c2⟩=>⟨c1.ext x,c2.ext x⟩) ⟨r11,o10.rd⟩
   (fun d h'=>Fr 0 0 h h'∧h11.size≤h'.size∧Rw h' b1 [.pointer (some ⟨pb',0,none⟩)]∧Rw h' b2 [.bool has]∧Rw h' b4 [.pointer (some ⟨pb3,0,none⟩)]∧Rw h' b7 [.int .i64 a]∧Rw h' h10.size [.slice va (rest (fun j=>inN n M a j) (max n m) 0).length vc]∧Holder 1 h' (.slice va (rest (fun j=>inN n M a j) (max n m) 0).length vc) (rest (fun j=>inN n M a j) (max n m) 0).length (natsV (rest (fun j=>inN n M a j) (max n m) 0)) h9.size ∧
    ∃ W,PTab h' h2.size h3.size pb3 rb3 (max n m) R3 W fun i j=>inN n M i j&&(decide (a+1≤i)||(inN m N i j==has)||(i==a&&!((rest (fun j=>inN n M a j) (max n m) 0).take d).contains j)))
   (fun _ _=>False) ?_ ?_ ?_ ?_ ?_ ?_ ?_⟩
  ·rintro d h' ⟨-,-,-,-,-,-,q1,q2,-⟩;exact ⟨q1,q2.rd⟩
  ·rintro d g1 g2 x ⟨q0,q1,q2,q3,q4,q5,q6,q7,W',q8⟩
   exact ⟨q0.ext x (by omega),Nat.le_trans q1 x.size,q2.ext x,q3.ext x,q4.ext x,q5.ext x,q6.ext x,q7.ext x,W',q8.ext x⟩
  ·exact fun _ _ _ _ h=>h
  ·refine ⟨p0,Nat.le_refl _,r1,r2,r4,r7,r11,o10,_,t6.congr fun i j _ _=>?_⟩
   by_cases hia:i=a
   ·subst hia;simp
   ·have e:(i==a)=false:=by simpa using hia
    have e2:(a≤i)=(a+1≤i):=by simp;omega
    simp [e,e2]
  ·rintro d q h12 z12 hq ⟨p0,y12,r1,r2,r4,r7,r11,o10,W12,t12⟩
   have hqm:=mem_rest.1 (List.mem_of_getElem? hq)
   have p0_z:=p0.size
   have r1_l:=r1.lt
   have r2_l:=r2.lt
   have r4_l:=r4.lt
   have r7_l:=r7.lt
   have r11_l:=r11.lt
   have o10_l:=o10.top
   simp -dsimp only [go_sem,r1.cell,r2.cell,r4.cell,r7.cell,r11.cell]
   intro h13 x13
   have x13_z:=x13.size
   replace p0:=p0.ext x13 (by omega)
   replace r1:=r1.ext x13
   replace r2:=r2.ext x13
   replace r4:=r4.ext x13
   replace r7:=r7.ext x13
   replace r11:=r11.ext x13
   replace o10:=o10.ext x13
   replace t12:=t12.ext x13
   simp -dsimp only [go_sem,r1.cell,r2.cell,r4.cell,r7.cell,r11.cell]
   refine call_of (rel_Has (hs0.fr p0 (by omega)) a q) ?_
   rintro v h14 ⟨rfl,rfl⟩
   have hh:(inR m a&&inR m q&&N (a:Int).toNat (q:Int).toNat)=inN m N a q:=by
    simp [inN,inR]
   rw [hh]
   simp -dsimp only [go_sem,r1.cell,r2.cell,r4.cell,r7.cell,r11.cell]
   have hfree:∀ j,j<max n m→((rest (fun j=>inN n M a j) (max n m) 0).take (d+1)).contains j=(((rest (fun j=>inN n M a j) (max n m) 0).take d).contains j||j==q):=fun j hj=>by
    rw [List.take_add_one,hq,Option.toList_some,List.contains_append,List.contains_cons,List.contains_nil,Bool.or_false]
   cases hb:(inN m N a q != has) with
   | true =>
    have hb':(inN m N a q==has)=false:=by simpa [bne] using hb
    simp -dsimp only [go_sem,r1.cell,r2.cell,r4.cell,r7.cell,r11.cell]
    refine call_of (rel_PutT hk t12 a q false) ?_
    rintro v15 h15 ⟨f15,z15,rfl,W15,t15⟩
    have f15_z:=f15.size
    replace p0:=p0.F f15
    replace r1:=r1.F f15
    replace r2:=r2.F f15
    replace r4:=r4.F f15
    replace r7:=r7.F f15
    replace r11:=r11.F f15
    replace o10:=o10.fr f15 (by have:=o10.at_;omega)
    simp -dsimp only [go_sem,r1.cell,r2.cell,r4.cell,r7.cell,r11.cell]
    refine ⟨p0,by omega,r1,r2,r4,r7,r11,o10,_,t15.congr fun i j hi hj=>?_⟩
    simp only [putM]
    have e1:(inR (max n m:Nat) a&&inR (max n m:Nat) q)=true:=by simp [inR];omega
    rw [e1,hfree j hj]
    by_cases hia:i=a
    ·subst hia
     by_cases hjq:j=q
     ·subst hjq;simp [hb']
     ·have e2:(j==q)=false:=by simpa using hjq
      have e3:((q:Int)==(j:Int))=false:=by simp;omega
      simp [e2,e3]
    ·have e:(i==a)=false:=by simpa using hia
     have e3:((a:Int)==(i:Int))=false:=by simp;omega
     simp [e,e3]
   | false =>
    have hb':(inN m N a q==has)=true:=by simpa [bne] using hb
    simp -dsimp only [go_sem,r1.cell,r2.cell,r4.cell,r7.cell,r11.cell]
    refine ⟨p0,by omega,r1,r2,r4,r7,r11,o10,_,t12.congr fun i j hi hj=>?_⟩
    rw [hfree j hj]
    by_cases hia:i=a
    ·subst hia
     by_cases hjq:j=q
     ·subst hjq;simp [hb']
     ·have e2:(j==q)=false:=by simpa using hjq
      simp [e2]
    ·have e:(i==a)=false:=by simpa using hia
     simp [e]
  ·rintro h12 z12 ⟨p0,y12,r1,r2,r4,r7,r11,o10,W12,t12⟩
   simp -dsimp only [go_sem,r1.cell,r2.cell,r4.cell,r7.cell,r11.cell]
   simp -dsimp (disch:=omega) only [wrap64]
   refine ⟨a+1,by omega,by simp [Le,find],by omega,p0,by omega,r1,r2,r4,_,t12.congr fun i j hi hj=>?_⟩
   rw [List.take_length]
   by_cases hia:i=a
   ·subst hia
    cases hM:inN n M i j with
    | false=>simp
    | true =>
     have:(rest (fun j=>inN n M i j) (max n m) 0).contains j=true:=by
      rw [List.contains_iff_mem];exact mem_rest.2 ⟨by omega,hj,hM⟩
     have e:¬ i+1≤i:=by omega
     rw [this];simp [e]
   ·have e:(i==a)=false:=by simpa using hia
    simp [e]
  ·exact fun _ _ _ h=>h.elim
 ·have:a=max n m:=by omega
  subst this
  simp -dsimp only [go_sem,r1.cell,r2.cell,r4.cell]
  refine ⟨p0,hk,_,_,_,_,rfl,((t6.mono' (hi':=h6.size) (by omega)).lower (by omega)).congr fun i j hi hj=>?_⟩
  have:¬ max n m≤i:=by omega
  simp [keepM,this]
end Go.Proofs.Tst
namespace Go.Proofs.Tst
open Go Go.Vc
theorem rel_Inter {n m:Nat} {M N:Nat→Nat→Bool} {p q:Value} {lo hi lo' hi':Nat} {h:Heap} (hr:ProgAt h lo hi p n M) (hs:ProgAt h lo' hi' q m N) (ht:TabAt h) :
  Con Tryd.prog 73 #[p,q] h fun v h'=>Fr 0 0 h h'∧ProgAt h' h.size h'.size v (max n m) (interM n M m N):=by
 refine con_q112 ?_
 simp -dsimp only [go_sem]
 refine call_of (rel_keep hr hs ht true) ?_
 rintro v h1 ⟨p1,t1⟩
 simp -dsimp only [go_sem]
 exact ⟨p1,t1.congr fun i j _ _=>by unfold keepM interM;cases inN m N i j <;> simp⟩
theorem rel_Minus {n m:Nat} {M N:Nat→Nat→Bool} {p q:Value} {lo hi lo' hi':Nat} {h:Heap} (hr:ProgAt h lo hi p n M) (hs:ProgAt h lo' hi' q m N) (ht:TabAt h) :
  Con Tryd.prog 108 #[p,q] h fun v h'=>Fr 0 0 h h'∧ProgAt h' h.size h'.size v (max n m) (minusM n M m N):=by
 refine con_q114 ?_
 simp -dsimp only [go_sem]
 refine call_of (rel_keep hr hs ht false) ?_
 rintro v h1 ⟨p1,t1⟩
 simp -dsimp only [go_sem]
 exact ⟨p1,t1.congr fun i j _ _=>by unfold keepM minusM;cases inN m N i j <;> simp⟩
theorem rel_Ident (n:Int) {sv:Value} {l:List Bool} {h:Heap} (hl:Rd 1 h sv l.length (boolsV l)) (hb:l.length≤4611686018427387904) :
  Con Tryd.prog 121 #[.int .i64 n,sv] h fun v h'=>Fr 0 0 h h'∧ProgAt h' h.size h'.size v (clampN n) (idM l):=by
 refine con_q111 ?_
 obtain ⟨sa,sc,rfl⟩:=hl.is
 simp -dsimp only [go_sem]
 refine call_of (rel_New n h) ?_
 rintro v1 h1 ⟨p0,t1⟩
 simp -dsimp only [go_sem]
 refine loop_intro (fun a:Nat=>[(5,v1),(10,.slice sa l.length sc),(11,.int .i64 l.length),(12,.int .i64 a)])
  (fun a h'=>a≤l.length∧Fr 0 0 h h'∧h1.size≤h'.size∧ProgAt h' h.size h1.size v1 (clampN n) fun i j=>i==j&&(decide (i<a)&&atB l i)) (fun a=>l.length - a) 0 ?_ ?_ ?_
 ·simp [Le,find]
 ·exact ⟨by omega,p0,by omega,t1.congr fun i j _ _=>by simp⟩
 rintro a h2 ⟨ha,p0,y2,t2⟩
 have:=p0.size
 simp -dsimp only [go_sem]
 refine ⟨fun hlt=>?_,fun hge=>?_⟩
 ·have hlt:a<l.length:=by omega
  have hq:l[a]?=some l[a]:=by simp [hlt]
  generalize l[a]=b at hq
  simp -dsimp only [go_sem]
  refine Chk_intro (by omega) ((hl.fr p0).idx (by omega) fun b2 o2 c2=>?_)
  simp -dsimp only [go_sem,c2 a _ (boolsV_get hq)]
  cases b with
  | true =>
   simp -dsimp only [go_sem]
   refine call_of (rel_Put t2 a a true) ?_
   rintro v3 h3 ⟨f3,z3,rfl,t3⟩
   simp -dsimp only [go_sem]
   simp -dsimp (disch:=omega) only [wrap64]
   refine ⟨a+1,by omega,by simp [Le,find],by omega,p0.fresh f3 (by have:=t1.1;have:=p0.size;omega),by omega,t3.congr fun i j hi hj=>?_⟩
   simp only [putM]
   by_cases hia:i=a
   ·subst hia
    have e1:(inR (clampN n) i)=true:=by simp [inR];omega
    by_cases hij:i=j
    ·subst hij;simp [e1,atB_get hq]
    ·have e2:(i==j)=false:=by simpa using hij
     have e3:((i:Int)==(j:Int))=false:=by simp;omega
     simp [e2,e3]
   ·have e3:((a:Int)==(i:Int))=false:=by simp;omega
    have e4:(i<a+1)=(i<a):=by simp;omega
    simp [e3,e4]
  | false =>
   simp -dsimp only [go_sem]
   simp -dsimp (disch:=omega) only [wrap64]
   refine ⟨a+1,by omega,by simp [Le,find],by omega,p0,by omega,t2.congr fun i j hi hj=>?_⟩
   by_cases hia:i=a
   ·subst hia;simp [atB_get hq]
   ·have e4:(i<a+1)=(i<a):=by simp;omega
    simp [e4]
 ·have:a=l.length:=by omega
  subst this
  simp -dsimp only [go_sem]
  refine ⟨p0,(t2.congr fun i j _ _=>?_).mono (Nat.le_refl _) (by omega)⟩
  by_cases hi:i<l.length
  ·simp [idM,hi]
  ·simp [idM,atB_out (show l.length≤i by omega)]
def RelsAt (h:Heap) (L:List (Value×Nat×(Nat→Nat→Bool))):Prop:=∀ x∈L,∃ lo hi,ProgAt h lo hi x.1 x.2.1 x.2.2
def maxN (L:List (Value×Nat×(Nat→Nat→Bool))):Nat:=L.foldl (fun n x=>max n x.2.1) 0
def anyM (L:List (Value×Nat×(Nat→Nat→Bool))) (i j:Nat):Bool:=L.any fun x=>inN x.2.1 x.2.2 i j
theorem foldl_max (L:List (Value×Nat×(Nat→Nat→Bool))):∀ n,n≤L.foldl (fun n x=>max n x.2.1) n∧∀ x∈L,x.2.1≤L.foldl (fun n x=>max n x.2.1) n:=by
 induction L with
 | nil=>intro n;simp
 | cons y L ih =>
  intro n
  obtain ⟨h1,h2⟩:=ih (max n y.2.1)
  refine ⟨by simp only [List.foldl_cons];omega,fun x hx=>?_⟩
  rcases List.mem_cons.1 hx with rfl | hx
  ·simp only [List.foldl_cons];omega
  ·exact h2 x hx
theorem le_maxN {L:List (Value×Nat×(Nat→Nat→Bool))} {x:Value×Nat×(Nat→Nat→Bool)} (h:x∈L):x.2.1≤maxN L:=(foldl_max L 0).2 x h
theorem RelsAt.fr {h h':Heap} {L:List (Value×Nat×(Nat→Nat→Bool))} (r:RelsAt h L) (f:Fr 0 0 h h'):RelsAt h' L:=fun x hx=>by
 obtain ⟨lo,hi,t⟩:=r x hx;exact ⟨lo,hi,t.fr f (by omega)⟩
theorem foldl_le (L:List (Value×Nat×(Nat→Nat→Bool))) (hL:∀ x∈L,x.2.1≤256):∀ n,n≤256→L.foldl (fun n x=>max n x.2.1) n≤256:=by
 induction L with
 | nil=>intro n h;simpa using h
 | cons y L ih =>
  intro n hn
  exact ih (fun x hx=>hL x (List.mem_cons_of_mem _ hx)) _ (Nat.max_le.2 ⟨hn,hL y (List.mem_cons_self ..)⟩)
theorem rel_Union {lv:Value} {L:List (Value×Nat×(Nat→Nat→Bool))} {h:Heap} (hl:Rd 1 h lv L.length (L.map (·.1))) (hr:RelsAt h L) (hL:L.length≤65536) :
  Con Tryd.prog 58 #[lv] h fun v h'=>Fr 0 0 h h'∧ProgAt h' h.size h'.size v (maxN L) (anyM L):=by
 refine con_q128 ?_
 obtain ⟨la,lc,rfl⟩:=hl.is
 have hle:∀ x∈L,x.2.1≤256:=fun x hx=>by obtain ⟨lo,hi,t⟩:=hr x hx;exact t.1
 have htk:∀ a,(hlt:a<L.length)→((L.take (a+1)).foldl (fun n x=>max n x.2.1) 0)=max ((L.take a).foldl (fun n x=>max n x.2.1) 0) L[a].2.1:=fun a hlt=>by
  rw [List.take_succ_eq_append_getElem hlt,List.foldl_append];rfl
 have htn:∀ a,(L.take a).foldl (fun n x=>max n x.2.1) 0≤256:=fun a=>foldl_le _ (fun x hx=>hle x (List.mem_of_mem_take hx)) 0 (by omega)
 simp -dsimp only [go_sem]
 refine loop_intro (fun a:Nat=>[(0,.slice la L.length lc),(3,.int .i64 ((L.take a).foldl (fun n x=>max n x.2.1) 0:Nat)),(11,.slice la L.length lc),(12,.int .i64 L.length),(13,.int .i64 a)])
  (fun a h'=>a≤L.length∧h'=h) (fun a=>L.length - a) 0 ?_ ?_ ?_
 ·simp [Le,find]
 ·exact ⟨by omega,rfl⟩
 rintro a h0 ⟨ha,hh⟩
 obtain rfl:h=h0:=hh.symm
 simp -dsimp only [go_sem]
 refine ⟨fun hlt=>?_,fun hge=>?_⟩
 ·have hlt:a<L.length:=by omega
  have hq:(L.map (·.1))[a]?=some L[a].1:=by simp [hlt]
  have hmem:L[a]∈L:=List.getElem_mem _
  have ht1:=htk a hlt
  generalize L[a]=x at hq hmem ht1
  obtain ⟨lo,hi,hn,pb,rb,R,W,hxv,t⟩:=hr x hmem
  rw [hxv] at hq
  simp -dsimp only [go_sem]
  refine Chk_intro (by omega) (hl.idx (by omega) fun b2 o2 c2=>?_)
  simp -dsimp only [go_sem,c2 a _ hq,t.ptr.cell]
  simp -dsimp (disch:=omega) only [wrap64]
  have e:(if (x.2.1:Int) > ((L.take a).foldl (fun n x=>max n x.2.1) 0:Nat) then (x.2.1:Int) else ((L.take a).foldl (fun n x=>max n x.2.1) 0:Nat))=((L.take (a+1)).foldl (fun n x=>max n x.2.1) 0:Nat):=by
   rw [ht1];split <;> omega
  rw [e]
  exact ⟨a+1,by omega,by simp [Le,find],by omega⟩
 obtain rfl:a=L.length:=by omega
 rw [List.take_length]
 have hmx:L.foldl (fun n x=>max n x.2.1) 0=maxN L:=rfl
 rw [hmx]
 have hk:maxN L≤256:=by have:=htn L.length;rwa [List.take_length] at this
 have hcl:clampN (maxN L:Nat)=maxN L:=by unfold clampN;omega
 simp -dsimp only [go_sem]
 refine call_of (rel_New _ _) ?_
 rintro v1 h1 ⟨p0,t1⟩
 rw [hcl] at t1
 obtain ⟨-,pb1,rb1,R1,W1,rfl,t1⟩:=t1
 have at1:=t1.at_
 simp -dsimp only [go_sem]
 refine loop_intro (fun a:Nat=>[(6,.pointer (some ⟨pb1,0,none⟩)),(26,.slice la L.length lc),(27,.int .i64 L.length),(28,.int .i64 a)])
  (fun a h'=>a≤L.length∧Fr 0 0 h h'∧h1.size≤h'.size∧∃ W,PTab h' h.size h1.size pb1 rb1 (maxN L) R1 W (anyM (L.take a))) (fun a=>L.length - a) 0 ?_ ?_ ?_
 ·simp [Le,find]
 ·exact ⟨by omega,p0,by omega,_,t1.congr fun i j _ _=>by simp [anyM]⟩
 rintro a h2 ⟨ha,p0,y2,W2,t2⟩
 have p0_z:=p0.size
 simp -dsimp only [go_sem]
 refine ⟨fun hlt=>?_,fun hge=>?_⟩
 ·have hlt:a<L.length:=by omega
  have hq:(L.map (·.1))[a]?=some L[a].1:=by simp [hlt]
  have hmem:L[a]∈L:=List.getElem_mem _
  have htk2:L.take (a+1)=L.take a++[L[a]]:=List.take_succ_eq_append_getElem hlt
  generalize L[a]=x at hq hmem htk2
  obtain ⟨lo,hi,hn,pb,rb,R,W,hxv,t⟩:=hr x hmem
  rw [hxv] at hq
  have hnk:=le_maxN hmem
  generalize hxn:x.2.1=n at hn t hnk
  simp -dsimp only [go_sem]
  refine Chk_intro (by omega) ((hl.fr p0).idx (by omega) fun b2 o2 c2=>?_)
  have tp:=t.fr p0 (by omega)
  simp -dsimp only [go_sem,c2 a _ hq,tp.ptr.cell]
  refine loop_intro (fun q:Nat=>[(6,.pointer (some ⟨pb1,0,none⟩)),(26,.slice la L.length lc),(27,.int .i64 L.length),(28,.int .i64 a),(35,.slice (some ⟨rb,0,none⟩) n n),(36,.int .i64 n),(37,.int .i64 q)])
   (fun q h'=>q≤n∧Fr 0 0 h h'∧h1.size≤h'.size∧∃ W,PTab h' h.size h1.size pb1 rb1 (maxN L) R1 W fun i j=>anyM (L.take a) i j||(decide (i<q)&&decide (j<n)&&x.2.2 i j)) (fun q=>n - q) 0 ?_ ?_ ?_
  ·simp [Le,find]
  ·exact ⟨by omega,p0,by omega,_,t2.congr fun i j _ _=>by simp⟩
  rintro q h3 ⟨hqn,p0,y3,W3,t3⟩
  have p0_z:=p0.size
  simp -dsimp only [go_sem]
  refine ⟨fun hlt2=>?_,fun hge2=>?_⟩
  ·have hlt2:q<n:=by omega
   have tp:=t.fr p0 (by omega)
   simp -dsimp only [go_sem]
   refine Chk_intro (by omega) ?_
   simp -dsimp only [go_sem,tp.rowsGet hlt2,t3.ptr.cell]
   refine Chk_intro (by omega) ?_
   simp -dsimp only [go_sem,t3.rowsGet (show q<maxN L by omega)]
   intro b5 h5 n5
   have n5_z:=n5.az
   replace p0:=p0.F n5.f0
   replace t3:=t3.fr n5.f0 (by omega)
   have r5:=n5.row
   obtain ⟨g1,g2,g3,g4,g5,g6⟩:=t3.row q (by omega)
   obtain ⟨f1,f2,f3,f4,f5,f6⟩:=(t.fr p0 (by omega)).row q hlt2
   simp -dsimp only [go_sem,r5.cell]
   refine call_of (row_join g1 f1 (r5.rd rfl) (fun j=>(g6 j).1) (fun j=>(f6 j).1) (by unfold nw;omega) (by unfold nw;omega)) ?_
   rintro _ h6 ⟨q6,z6,r6⟩
   have t6:=t3.updRow (by omega) q6 r6 (g6.or f6 (by omega))
   have q6_z:=q6.size
   replace p0:=p0.F q6
   simp -dsimp only [go_sem]
   simp -dsimp (disch:=omega) only [wrap64]
   refine ⟨q+1,by omega,by simp [Le,find],by omega,p0,by omega,_,t6.congr fun i j hi hj=>?_⟩
   by_cases hia:i=q
   ·subst hia
    rw [upd_same];simp
   ·rw [upd_ne _ _ hia]
    have:(i<q+1)=(i<q):=by simp;omega
    simp [this]
  ·have:q=n:=by omega
   subst this
   simp -dsimp only [go_sem]
   simp -dsimp (disch:=omega) only [wrap64]
   refine ⟨a+1,by omega,by simp [Le,find],by omega,p0,by omega,_,t3.congr fun i j hi hj=>?_⟩
   rw [htk2]
   simp only [anyM,List.any_append,List.any_cons,List.any_nil,Bool.or_false,hxn]
   rfl
 ·obtain rfl:a=L.length:=by omega
  rw [List.take_length] at t2
  simp -dsimp only [go_sem]
  exact ⟨p0,hk,_,_,_,_,rfl,t2.mono' y2⟩
end Go.Proofs.Tst
namespace Go.Proofs.Tst
open Go Go.Vc
end Go.Proofs.Tst
namespace Go.Proofs.Tst
open Go Go.Vc
set_option maxHeartbeats 800000 in
theorem rel_Cut {n:Nat} {M:Nat→Nat→Bool} {p sv cv:Value} {rs cs:List Bool} {lo hi:Nat} {h:Heap} (hr:ProgAt h lo hi p n M) (ht:TabAt h) (hs:Rd 1 h sv rs.length (boolsV rs)) (hc:Rd 1 h cv cs.length (boolsV cs)) (bs:rs.length≤4611686018427387904) (bc:cs.length≤4611686018427387904) :
  Con Tryd.prog 122 #[p,sv,cv] h fun v h'=>Fr 0 0 h h'∧ProgAt h' h.size h'.size v n (cutM M rs cs):=by
 refine con_q109 (fun v h1 h2 x ⟨f,o⟩=>⟨x.fr f (Nat.le_refl _),(o.ext x).mono (Nat.le_refl _) x.size⟩) ?_
 obtain ⟨hn,pb,rb,R,W,rfl,t⟩:=hr
 obtain ⟨sa,sc,rfl⟩:=hs.is
 obtain ⟨ca,cc,rfl⟩:=hc.is
 have hcl:clampN n=n:=by unfold clampN;omega
 have p0:Fr 0 0 h h:=.refl _ _ _
 simp -dsimp only [go_sem]
 intro b1 h1 n1
 have n1_z:=n1.az
 replace p0:=p0.F n1.f0
 have r1:=n1.row
 have tp:=t.fr p0 (by omega)
 simp -dsimp only [go_sem,tp.ptr.cell,r1.cell]
 refine call_of (rel_New n h1) ?_
 rintro v2 h2 ⟨f2,t2⟩
 rw [hcl] at t2
 obtain ⟨-,pb1,rb1,R1,W1,rfl,t2⟩:=t2
 have at2:=t2.at_
 have f2_z:=f2.size
 replace p0:=p0.F f2
 replace r1:=r1.F f2
 simp -dsimp only [go_sem,r1.cell]
 intro b3 h3 n3
 have n3_z:=n3.az
 replace p0:=p0.F n3.f0
 replace r1:=r1.F n3.f0
 replace t2:=t2.fr n3.f0 (by omega)
 have r3:=n3.row
 simp -dsimp only [go_sem,r1.cell,r3.cell]
 refine Chk_intro (r3.W) fun h4 s4=>?_
 have s4_z:=s4.size
 replace p0:=p0.F s4.fr
 replace r1:=r1.F s4.fr
 replace t2:=t2.fr s4.fr (by omega)
 replace r3:=s4.row r3
 try simp only [cl_int,cl_bool,cl_slice,cl_ptr,putAt_one,zs0,zs1,ivec_set,brow_upd] at r3
 have tp:=t.fr p0 (by omega)
 simp -dsimp only [go_sem,tp.ptr.cell,r1.cell,r3.cell]
 refine loop_intro (fun a:Nat=>[(1,.slice sa rs.length sc),(5,.pointer (some ⟨b1,0,none⟩)),(7,.pointer (some ⟨b3,0,none⟩)),(19,.slice (some ⟨rb,0,none⟩) n n),(20,.int .i64 n),(21,.int .i64 a)])
  (fun a h'=>a≤n∧Fr 0 0 h h'∧h4.size≤h'.size∧Rw h' b1 [.slice ca cs.length cc]∧Rw h' b3 [.pointer (some ⟨pb1,0,none⟩)]∧∃ W,PTab h' h1.size h2.size pb1 rb1 n R1 W fun i j=>decide (i<a)&&cutM M rs cs i j) (fun a=>n - a) 0 ?_ ?_ ?_
 ·simp [Le,find]
 ·exact ⟨by omega,p0,by omega,r1,r3,_,t2.congr fun i j _ _=>by simp⟩
 rintro a h5 ⟨ha,p0,y5,r1,r3,W5,t5⟩
 have p0_z:=p0.size
 have r1_l:=r1.lt
 have r3_l:=r3.lt
 simp -dsimp only [go_sem,r1.cell,r3.cell]
 refine ⟨fun hlt=>?_,fun hge=>?_⟩
 ·have hlt:a<n:=by omega
  have skip:atB rs a=false→∀ i j,(decide (i<a)&&cutM M rs cs i j)=(decide (i<a+1)&&cutM M rs cs i j):=fun h0 i j=>by
   by_cases hia:i=a
   ·subst hia;simp [cutM,h0]
   ·have e4:(i<a+1)=(i<a):=by simp;omega
    simp [e4]
  simp -dsimp only [go_sem,r1.cell,r3.cell]
  refine Chk_intro (by omega) ?_
  simp -dsimp only [go_sem,(t.fr p0 (by omega)).rowsGet hlt,r1.cell,r3.cell]
  intro b6 h6 n6
  have n6_z:=n6.az
  replace p0:=p0.F n6.f0
  replace r1:=r1.F n6.f0
  replace r3:=r3.F n6.f0
  replace t5:=t5.fr n6.f0 (by omega)
  have r6:=n6.row
  simp -dsimp only [go_sem,r1.cell,r3.cell,r6.cell]
  refine Chk_intro (r6.W) fun h7 s7=>?_
  have s7_z:=s7.size
  replace p0:=p0.F s7.fr
  replace r1:=r1.F s7.fr
  replace r3:=r3.F s7.fr
  replace t5:=t5.fr s7.fr (by omega)
  replace r6:=s7.row r6
  try simp only [cl_int,cl_bool,cl_slice,cl_ptr,putAt_one,zs0,zs1,ivec_set,brow_upd] at r6
  simp -dsimp only [go_sem,r1.cell,r3.cell,r6.cell]
  by_cases hlen:(a:Int)≥(rs.length:Int)
  ·simp -dsimp only [go_sem,hlen,r1.cell,r3.cell,r6.cell]
   simp -dsimp (disch:=omega) only [wrap64]
   exact ⟨a+1,by omega,by simp [Le,find],by omega,p0,by omega,r1,r3,_,t5.congr fun i j _ _=>skip (atB_out (by omega)) i j⟩
  obtain ⟨b,hq⟩:∃ b,rs[a]?=some b:=⟨_,List.getElem?_eq_getElem (by omega)⟩
  simp -dsimp only [go_sem,hlen,r1.cell,r3.cell,r6.cell]
  refine Chk_intro (by omega) ((hs.fr p0).idx (by omega) fun b9 o9 c9=>?_)
  simp -dsimp only [go_sem,hlen,c9 a _ (boolsV_get hq),r1.cell,r3.cell,r6.cell]
  cases b with
  | false =>
   simp -dsimp only [go_sem,r1.cell,r3.cell,r6.cell]
   simp -dsimp (disch:=omega) only [wrap64]
   exact ⟨a+1,by omega,by simp [Le,find],by omega,p0,by omega,r1,r3,_,t5.congr fun i j _ _=>skip (atB_get hq) i j⟩
  | true =>
   simp -dsimp only [go_sem,r1.cell,r3.cell,r6.cell]
   refine call_of (rel_points _ _ _ h7) ?_
   rintro v h8 ⟨f8,rfl,c8,z8⟩
   have f8_z:=f8.size
   replace p0:=p0.F f8
   replace r1:=r1.F f8
   replace r3:=r3.F f8
   replace t5:=t5.fr f8 (by omega)
   replace r6:=r6.F f8
   simp -dsimp only [go_sem,r1.cell,r3.cell,r6.cell]
   have hbits:=(t.row a hlt).2.2.2.2.2
   refine ⟨rfl,points_intro rfl hbits hn ⟨c8,ptab_rd (t.fr p0 (by omega)) hlt,ht.fr p0 (by omega)⟩
    (fun d h'=>Fr 0 0 h h'∧h8.size≤h'.size∧Rw h' b1 [.slice ca cs.length cc]∧Rw h' b3 [.pointer (some ⟨pb1,0,none⟩)]∧Rw h' b6 [.int .i64 a]∧hcell h' h7.size 0=some (.slice (some ⟨R a,0,none⟩) (nw n) (nw n)) ∧
     ∃ W,PTab h' h1.size h2.size pb1 rb1 n R1 W fun i j=>(decide (i<a)&&cutM M rs cs i j)||(i==a&&atB cs j&&((rest (M a) n 0).take d).contains j))
    (fun _ _=>False) ?_ ?_ ?_ ?_ ?_ ?_ ?_⟩
   ·rintro d h' ⟨q0,-,-,-,-,q1,-⟩
    exact ⟨q1,ptab_rd (t.fr q0 (by omega)) hlt,ht.fr q0 (by omega)⟩
   ·rintro d g1 g2 x ⟨q0,q1,q2,q3,q4,q5,W',q6⟩
    exact ⟨q0.ext x (by omega),Nat.le_trans q1 x.size,q2.ext x,q3.ext x,q4.ext x,x.cell q5,W',q6.ext x⟩
   ·exact fun _ _ _ _ h=>h
   ·exact ⟨p0,Nat.le_refl _,r1,r3,r6,c8,_,t5.congr fun i j _ _=>by simp⟩
   ·rintro d q h9 z9 hqq hqn hqf ⟨p0,y9,r1,r3,r6,c9,W9,t9⟩
    have hfree:∀ j,((rest (M a) n 0).take (d+1)).contains j=(((rest (M a) n 0).take d).contains j||j==q):=fun j=>by
     rw [List.take_add_one,hqq,Option.toList_some,List.contains_append,List.contains_cons,List.contains_nil,Bool.or_false]
    have stay:atB cs q=false→∀ i j,((decide (i<a)&&cutM M rs cs i j)||(i==a&&atB cs j&&((rest (M a) n 0).take d).contains j))=((decide (i<a)&&cutM M rs cs i j)||(i==a&&atB cs j&&((rest (M a) n 0).take (d+1)).contains j)):=fun h0 i j=>by
     rw [hfree]
     by_cases hjq:j=q
     ·subst hjq;simp [h0]
     ·have e2:(j==q)=false:=by simpa using hjq
      simp [e2]
    have p0_z:=p0.size
    have r1_l:=r1.lt
    have r3_l:=r3.lt
    have r6_l:=r6.lt
    simp -dsimp only [go_sem,r1.cell,r3.cell,r6.cell]
    intro h10 x10
    have x10_z:=x10.size
    replace p0:=p0.ext x10 (by omega)
    replace r1:=r1.ext x10
    replace r3:=r3.ext x10
    replace r6:=r6.ext x10
    replace t9:=t9.ext x10
    have c9:=x10.cell c9
    simp -dsimp only [go_sem,r1.cell,r3.cell,r6.cell]
    by_cases hql:(q:Int)<(cs.length:Int)
    ·have hqc:cs[q]?=some cs[q]:=by simp
     generalize cs[q]=b at hqc
     simp -dsimp only [go_sem,hql,r1.cell,r3.cell,r6.cell]
     refine (hc.fr p0).idx (by omega) fun b4 o4 c4=>?_
     simp -dsimp only [go_sem,hql,c4 q _ (boolsV_get hqc),r1.cell,r3.cell,r6.cell]
     cases b with
     | true =>
      obtain ⟨g1,g2,g3,g4,g5,g6⟩:=t9.row a hlt
      simp -dsimp only [go_sem,t9.ptr.cell,r1.cell,r3.cell,r6.cell]
      refine Chk_intro (by omega) ?_
      simp -dsimp only [go_sem,t9.rowsGet hlt,r1.cell,r3.cell,r6.cell]
      refine call_of (row_set (p:=q) g1 (by unfold nw;omega) (fun j=>(g6 j).1) (by unfold nw;omega)) ?_
      rintro _ h11 ⟨f11,z11,r11⟩
      have t11:=t9.updRow hlt f11 r11 (g6.set hqn)
      have f11_z:=f11.size
      replace p0:=p0.F f11
      replace r1:=r1.F f11
      replace r3:=r3.F f11
      replace r6:=r6.F f11
      simp -dsimp only [go_sem,t11.ptr.cell,t11.rowsGet hlt,r1.cell,r3.cell,r6.cell]
      refine ⟨p0,by omega,r1,r3,r6,f11.keep c9 (by omega),_,t11.congr fun i j hi hj=>?_⟩
      rw [hfree]
      by_cases hia:i=a
      ·subst hia
       rw [upd_same]
       by_cases hjq:j=q
       ·subst hjq;simp [atB_get hqc]
       ·have e2:(j==q)=false:=by simpa using hjq
        simp [e2,hjq]
      ·rw [upd_ne _ _ hia]
       have e2:(i==a)=false:=by simpa using hia
       simp [e2]
     | false =>
      simp -dsimp only [go_sem,r1.cell,r3.cell,r6.cell]
      exact ⟨p0,by omega,r1,r3,r6,c9,_,t9.congr fun i j _ _=>stay (atB_get hqc) i j⟩
    ·simp -dsimp only [go_sem,hql,r1.cell,r3.cell,r6.cell]
     exact ⟨p0,by omega,r1,r3,r6,c9,_,t9.congr fun i j _ _=>stay (atB_out (by omega)) i j⟩
   ·rintro h9 z9 ⟨p0,y9,r1,r3,r6,c9,W9,t9⟩
    simp -dsimp only [go_sem,r1.cell,r3.cell,r6.cell]
    simp -dsimp (disch:=omega) only [wrap64]
    refine ⟨a+1,by omega,by simp [Le,find],by omega,p0,by omega,r1,r3,_,t9.congr fun i j hi hj=>?_⟩
    rw [List.take_length]
    by_cases hia:i=a
    ·subst hia
     have e1:(rest (M i) n 0).contains j=M i j:=by
      rw [Bool.eq_iff_iff,List.contains_iff_mem,mem_rest];simp [hj]
     rw [e1];simp [cutM,atB_get hq,Bool.and_comm]
    ·have e2:(i==a)=false:=by simpa using hia
     have e4:(i<a+1)=(i<a):=by simp;omega
     simp [e2,e4]
   ·exact fun _ _ _ h=>h.elim
 ·obtain rfl:a=n:=by omega
  simp -dsimp only [go_sem,r1.cell,r3.cell]
  refine ⟨p0,hn,_,_,_,_,rfl,((t5.mono' (hi':=h5.size) (by omega)).lower (by omega)).congr fun i j hi hj=>by simp [hi]⟩
end Go.Proofs.Tst
