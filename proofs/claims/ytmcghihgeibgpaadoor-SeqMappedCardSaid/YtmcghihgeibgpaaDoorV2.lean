/-
  A calculus of weakest preconditions over the compiled code of the functions that the law reaches, and its soundness. No condition.
-/
import Derived.Test.YtmcghihgeibgpaaDoorV1
set_option linter.all false
set_option maxRecDepth 2000
namespace Go.Vc
open Go
/-! ### A region that draws its order: reading operations are taken first, whatever the order -/
section
variable {P : Program} {ops : Array Oper} {Q : Exit → Act → World → Prop} {ro : Option Nat} {n : Nat}
def behind (ops:Array Oper) (i k:Nat):Bool:=
 match ops[i]? with
 | some o=>o.after.any fun e=>Region.binds .any e&&e.on==k
 | none=>false
def keepsW (ops:Array Oper) (i:Nat) (W:Watch) (w w':World):Prop:=
 ∀ x∈W,behind ops i x.1=false→(∀ r∈x.2,atAddr r w)→∀ r∈x.2,atAddr r w'
def Any (P:Program) (ops:Array Oper) (Q:Exit→Act→World→Prop) (ro:Option Nat) (n:Nat):Nat→Watch→Array Bool→Act→World→Prop
 | 0,_,listed,a,w=>Region.ready .any ops listed=[]∧Q .normal a w
 | fuel+1,W,listed,a,w =>
  (Region.ready .any ops listed=[]→Q .normal a w) ∧
  ∀ i∈Region.ready .any ops listed,wpOpIn (fw ro) n P ops Q i (fun a' w'=>keepsW ops i W w w'∧Any P ops Q ro n fuel W (listed.setIfInBounds i true) a' w') a w
theorem Any.any:∀ (fuel:Nat) (W:Watch) (listed:Array Bool) (a:Act) (w:World),Any P ops Q ro n fuel W listed a w→wpAnyIn (fw ro) n P .any ops Q fuel listed a w
 | 0,_,_,_,_,h=>h
 | fuel+1,_,_,_,_,h=>⟨h.1,fun i hi=>wpOpIn_mono (fun a' w' hk=>Any.any fuel _ _ a' w' hk.2) (h.2 i hi)⟩
theorem Any.more_nil {i:Nat}:∀ (fuel:Nat) (W:Watch) (listed:Array Bool) (a:Act) (w:World),Any P ops Q ro n fuel W listed a w→Any P ops Q ro n fuel ((i,[]) :: W) listed a w
 | 0,_,_,_,_,h=>h
 | fuel+1,_,_,_,_,h=>⟨h.1,fun j hj=>wpOpIn_mono (fun a' w' hk=>⟨fun y hy=>by
   rcases List.mem_cons.1 hy with rfl | hy
   ·intro _ _ r hr;cases hr
   ·exact hk.1 y hy,Any.more_nil fuel _ _ a' w' hk.2⟩) (h.2 j hj)⟩
theorem Any.less {x:Nat×List (Nat×Nat×Value)}:∀ (fuel:Nat) (W:Watch) (listed:Array Bool) (a:Act) (w:World),Any P ops Q ro n fuel (x :: W) listed a w→Any P ops Q ro n fuel W listed a w
 | 0,_,_,_,_,h=>h
 | fuel+1,_,_,_,_,h=>⟨h.1,fun i hi=>wpOpIn_mono (fun a' w' hk=>⟨fun y hy=>hk.1 y (List.mem_cons_of_mem _ hy),Any.less fuel _ _ a' w' hk.2⟩) (h.2 i hi)⟩
def YieldsR (P:Program) (ops:Array Oper) (o:Oper) (a:Act) (R:List (Nat×Nat×Value)) (v:Value):Prop:=
 (Region.wanted o (yielded ops a.tmps)=true∧QRun P o a R v)∨(Region.wanted o (yielded ops a.tmps)=false∧v=undef)
theorem YieldsR.take {i:Nat} {o:Oper} {v:Value} {a:Act} {R:List (Nat×Nat×Value)} (hi:ops[i]?=some o) (hnd:∀ c,o.op≠.defer c) (hy:YieldsR P ops o a R v)
  {K:Act→World→Prop} {w:World} (hR:∀ r∈R,atAddr r w) (h:K (a.put o.dst v) w):wpOpIn (fw ro) n P ops Q i K a w:=by
 unfold wpOpIn
 simp only [hi]
 rcases hy with ⟨hw,hv⟩ | ⟨hw,rfl⟩
 ·rw [if_pos hw]
  refine ⟨fun _ _=>trivial,?_⟩
  rw [Oper.semAt_eq _ _ _ hnd,hv w hR]
  exact h
 ·rw [if_neg (by rw [hw];simp)]
  exact ⟨fun _ _=>trivial,h⟩
theorem YieldsR.same {o:Oper} {a a':Act} {R:List (Nat×Nat×Value)} {v:Value} (hy:YieldsR P ops o a R v) (he:execOp a'.eval o=execOp a.eval o)
  (hw:Region.wanted o (yielded ops a'.tmps)=Region.wanted o (yielded ops a.tmps)):YieldsR P ops o a' R v:=by
 unfold YieldsR QRun at *
 rw [he,hw]
 exact hy
theorem put_swap {j:Nat} {oi oj:Oper} {v:Value} {R:List (Nat×Nat×Value)} (hj:ops[j]?=some oj) (hnd:∀ c,oj.op≠.defer c) (hap:oi.apart ops oj=true)
  (hsi:∀ cs b,oi.op≠.select cs b) (hsj:∀ cs b,oj.op≠.select cs b) (hQ:∀ c a w,¬ Q (.panic c) a w) (hQo:∀ a w,¬ Q .outgrown a w) {K:Act→World→Prop} {a:Act} {w:World}
  (hy:YieldsR P ops oi a R v) (h:wpOpIn (fw ro) n P ops Q j K (a.put oi.dst v) w) :
  wpOpIn (fw ro) n P ops Q j (fun a' w'=>YieldsR P ops oi a' R v∧K (a'.put oi.dst v) w') a w:=by
 obtain ⟨h1,h2,h3⟩:=Oper.apart_spec hap
 have keep:∀ (a:Act),YieldsR P ops oi a R v→∀ u,YieldsR P ops oi (a.put oj.dst u) R v:=fun a hy u =>
  hy.same (execOp_put oi hsi a oj.dst u h3) (wanted_put oi a oj.dst u h3)
 have keepD:∀ d,YieldsR P ops oi { a with defers:=d :: a.defers } R v:=fun d=>hy.same rfl rfl
 unfold wpOpIn at *
 simp only [hj] at *
 rw [wanted_put oj a oi.dst v h1] at h
 split
 ·rename_i hw
  rw [if_pos hw] at h
  unfold Oper.wpIn at *
  refine ⟨fun _ _=>trivial,?_⟩
  have h:=h.2
  rw [Oper.semAt_eq _ _ _ hnd,execOp_put oj hsj a oi.dst v h1] at h
  rw [Oper.semAt_eq _ _ _ hnd]
  generalize (execOp a.eval oj).run P w=r at *
  cases r with
  | ok x w' =>
   cases x <;> simp only [Oper.uponIn] at h ⊢
   case value u=>exact ⟨keep a hy u,by rw [← Act.put_comm a v u h2];exact h⟩
   case skip=>exact ⟨keep a hy _,by rw [← Act.put_comm a v undef h2];exact h⟩
   case defer d =>
    refine ⟨keep _ (keepD d) _,?_⟩
    rw [← Act.put_comm _ v undef h2,← Act.put_defers]
    exact h
   case enter f args =>
    refine ⟨h.1,CallsIn.mono h.2 fun e w'' he=>?_⟩
    cases e with
    | returned u=>exact ⟨keep a hy u,by rw [← Act.put_comm a v u h2];exact he⟩
    | panicked c=>exact (hQ _ _ _ he).elim
    | outgrown=>obtain ⟨a0,w0,hq⟩:=he;exact (hQo _ _ hq).elim
   case row row args=>exact ⟨h.1,RowsIn.mono h.2 fun u w'' he=>⟨keep a hy u,by rw [← Act.put_comm a v u h2];exact he⟩⟩
   case round l f tmps assign body =>
    refine ⟨h.1,RoundIn.mono h.2 fun e w'' he=>?_⟩
    cases e with
    | returned u=>exact ⟨keep a hy u,by rw [← Act.put_comm a v u h2];exact he⟩
    | panicked c=>exact (hQ _ _ _ he).elim
    | outgrown=>obtain ⟨a0,w0,hq⟩:=he;exact (hQo _ _ hq).elim
  | halt x w' =>
   cases x <;> simp only [Oper.uponIn] at h ⊢
   case panic u=>exact (hQ _ _ _ h).elim
 ·rename_i hw
  rw [if_neg hw] at h
  exact ⟨fun _ _=>trivial,keep a hy _,by rw [← Act.put_comm a v undef h2];exact h.2⟩
theorem Any.first {i:Nat} {oi:Oper} {v:Value} {R:List (Nat×Nat×Value)} (hi:ops[i]?=some oi) (hnd:∀ (j:Nat) (o:Oper) c,ops[j]?=some o→o.op≠.defer c)
  (hsel:∀ (j:Nat) (o:Oper) cs b,ops[j]?=some o→o.op≠.select cs b) (hQ:∀ c a w,¬ Q (.panic c) a w) (hQo:∀ a w,¬ Q .outgrown a w) :
  ∀ (fuel:Nat) (W:Watch) (listed:Array Bool) (a:Act) (w:World),
   (∀ j oj,ops[j]?=some oj→j≠i→listed.getD j true=false→(∀ e∈oj.after,Region.binds .any e=true→e.on≠i)→oi.apart ops oj=true) →
   i∈Region.ready .any ops listed→YieldsR P ops oi a R v→(∀ r∈R,atAddr r w) →
   Any P ops Q ro n fuel ((i,R) :: W) (listed.setIfInBounds i true) (a.put oi.dst v) w→Any P ops Q ro n (fuel+1) W listed a w:=by
 intro fuel
 induction fuel with
 | zero =>
  intro W listed a w _ hr hy hR H
  refine ⟨fun h=>(by rw [h] at hr;cases hr),fun j hj=>?_⟩
  by_cases hji:j=i
  ·subst hji;exact hy.take hi (hnd _ _ · hi) hR ⟨fun _ _ _ h=>h,H⟩
  ·have:=ready_mono hj hji
   rw [H.1] at this
   cases this
 | succ fuel ih =>
  intro W listed a w hfree hr hy hR H
  refine ⟨fun h=>(by rw [h] at hr;cases hr),fun j hj=>?_⟩
  by_cases hji:j=i
  ·subst hji;exact hy.take hi (hnd _ _ · hi) hR ⟨fun _ _ _ h=>h,H.less⟩
  ·have h1:=H.2 j (ready_mono hj hji)
   obtain ⟨hjun,oj,hoj,hall⟩:=mem_ready.1 hj
   have hnot:∀ e∈oj.after,Region.binds .any e=true→e.on≠i:=fun e he hb heq=>by
    have h1:=hall e he hb
    have h0:=(mem_ready.1 hr).1
    rw [heq] at h1
    rcases Nat.lt_or_ge i listed.size with h' | h'
    ·simp [h'] at h0 h1;rw [h0] at h1;cases h1
    ·simp [Array.getElem?_eq_none h'] at h1
   have hbeh:behind ops j i=false:=by
    unfold behind
    rw [hoj]
    simp only [Array.any_eq_false]
    intro k hk
    cases hb:Region.binds .any oj.after[k] with
    | false=>simp
    | true=>simpa using hnot _ (Array.getElem_mem hk) hb
   have h2:=put_swap hoj (hnd _ _ · hoj) (hfree j oj hoj hji hjun hnot) (fun cs b=>hsel i oi cs b hi) (fun cs b=>hsel j oj cs b hoj) hQ hQo hy h1
   have hfree':∀ k ok,ops[k]?=some ok→k≠i→(listed.setIfInBounds j true).getD k true=false →
     (∀ e∈ok.after,Region.binds .any e=true→e.on≠i)→oi.apart ops ok=true:=fun k ok hk hki hun hno=>by
    refine hfree k ok hk hki ?_ hno
    by_cases hjk:j=k
    ·subst hjk;exact hjun
    ·rw [getD_set_ne true hjk] at hun;exact hun
   refine wpOpIn_mono (fun a' w' h3=>?_) h2
   obtain ⟨hy',hk,hA⟩:=h3
   refine ⟨fun x hx=>hk x (List.mem_cons_of_mem _ hx),ih W (listed.setIfInBounds j true) a' w' hfree' (ready_mono hr (Ne.symm hji)) hy' (hk (i,R) (List.mem_cons_self) hbeh hR) ?_⟩
   rw [Array.setIfInBounds_comm _ _ hji]
   exact hA
theorem Any.only {i:Nat} {fuel:Nat} {W:Watch} {listed:Array Bool} {a:Act} {w:World} (hr:Region.ready .any ops listed=[i])
  (h:wpOpIn (fw ro) n P ops Q i (fun a' w'=>keepsW ops i W w w'∧Any P ops Q ro n fuel W (listed.setIfInBounds i true) a' w') a w):Any P ops Q ro n (fuel+1) W listed a w:=
 ⟨fun h0=>(by rw [hr] at h0;cases h0),fun j hj=>by rw [hr] at hj;simp at hj;subst hj;exact h⟩
theorem Any.both {i j:Nat} {fuel:Nat} {W:Watch} {listed:Array Bool} {a:Act} {w:World} (hr:Region.ready .any ops listed=[i,j])
  (h:wpOpIn (fw ro) n P ops Q i (fun a' w'=>keepsW ops i W w w'∧Any P ops Q ro n fuel W (listed.setIfInBounds i true) a' w') a w)
  (h':wpOpIn (fw ro) n P ops Q j (fun a' w'=>keepsW ops j W w w'∧Any P ops Q ro n fuel W (listed.setIfInBounds j true) a' w') a w):Any P ops Q ro n (fuel+1) W listed a w:=
 ⟨fun h0=>(by rw [hr] at h0;cases h0),fun k hk=>by
  rw [hr] at hk;simp at hk
  rcases hk with rfl | rfl
  ·exact h
  ·exact h'⟩
theorem Any.done {fuel:Nat} {W:Watch} {listed:Array Bool} {a:Act} {w:World} (hr:Region.ready .any ops listed=[]) (h:Q .normal a w):Any P ops Q ro n fuel W listed a w:=by
 cases fuel with
 | zero=>exact ⟨hr,h⟩
 | succ fuel=>exact ⟨fun _=>h,by rw [hr];simp⟩
end
def growing:GOp→Bool
 | .alloc .. | .box .. | .buildSlice .. | .makeSlice ..=>true
 | _=>false
def isLoad:GOp→Bool
 | .load ..=>true
 | _=>false
def quietAt (P:Program) (ops:Array Oper) (listed:Array Bool) (i:Nat):Bool:=
 match ops[i]? with
 | some o=>(match compileOp P o with | some g=>g.quiet&&Region.free .any ops listed i | none=>false)
 | none=>false
def loadAt (P:Program) (ops:Array Oper) (i:Nat):Bool:=
 match ops[i]? with
 | some o=>(match compileOp P o with | some g=>isLoad g | none=>false)
 | none=>false
def growAt (P:Program) (ops:Array Oper) (i:Nat):Bool:=
 match ops[i]? with
 | some o=>(match compileOp P o with | some g=>growing g | none=>false)
 | none=>false
def chkOf (P:Program) (ops:Array Oper) (listed:Array Bool) (i:Nat):List Nat:=
 if growAt P ops i then [] else (List.range ops.size).filter fun k=>listed.getD k false&&loadAt P ops k&&!behind ops i k
def dstAt (ops:Array Oper) (i:Nat):Option Nat:=(ops[i]?).bind (·.dst)
def unl (ops:Array Oper) (listed:Array Bool):List Nat:=(List.range ops.size).filter fun i=>!listed.getD i true
def nodupN:List Nat→Bool
 | []=>true
 | d :: D=>!memN d D&&nodupN D
def bpre (ops:Array Oper) (i:Nat):List Nat:=
 match ops[i]? with
 | some o=>o.after.toList.filterMap fun e=>if Region.binds .any e then some e.on else none
 | none=>[]
def turning:GOp→Bool
 | .store .. | .append .. | .mapSet .. | .mapEntry .. | .entryStore .. | .mnext .. | .clearM .. | .appendN .. | .never=>true
 | _=>false
def turnAt (P:Program) (ops:Array Oper) (i:Nat):Bool:=
 match ops[i]? with
 | some o=>(match compileOp P o with | some g=>turning g | none=>false)
 | none=>false
def upTo (P:Program) (ops:Array Oper):List Nat→List Nat
 | []=>[]
 | i :: l=>if turnAt P ops i=true then [] else i :: upTo P ops l
def past (P:Program) (ops:Array Oper):List Nat→List Nat
 | []=>[]
 | i :: l=>if turnAt P ops i=true then i :: l else past P ops l
def downs (ops:Array Oper) (listed:Array Bool) (S:List Nat) (i:Nat):Bool:=(bpre ops i).all fun p=>listed.getD p false||(Nat.blt p i&&memN p S)
def covers (ops:Array Oper):List Nat→List Nat→Bool
 | [],_=>true
 | i :: l,M=>memN i M&&covers ops l (bpre ops i++M)
def gate (ops:Array Oper) (S T:List Nat) (j:Nat):Bool:=(bpre ops j).any (fun k=>memN k T)||covers ops S.reverse (bpre ops j)
def listAll:List Nat→Array Bool→Array Bool
 | [],l=>l
 | i :: S,l=>listAll S (l.setIfInBounds i true)
def ded:List (Nat×Nat)→List (Nat×Nat)
 | []=>[]
 | p :: l=>if memN p.1 (l.map (·.1))=true then ded l else p :: ded l
theorem mem_ded:∀ {l:List (Nat×Nat)} {p:Nat×Nat},p∈ded l→p∈l
 | [],_,h=>h
 | q :: l,p,h=>by
  unfold ded at h
  split at h
  ·exact List.mem_cons_of_mem _ (mem_ded h)
  ·rcases List.mem_cons.1 h with rfl | h
   ·exact List.mem_cons_self
   ·exact List.mem_cons_of_mem _ (mem_ded h)
def preOf (ops:Array Oper) (listed:Array Bool) (o:Oper):List (Nat×Nat):=
 ded <| o.after.toList.filterMap fun e=>if Region.binds .any e&&!listed.getD e.on true then (dstAt ops e.on).map fun s=>(e.on,s) else none
def mkFI (P:Program) (N:Nat) (ops:Array Oper) (listed:Array Bool) (i:Nat):Option FI:=
 match ops[i]?,mkGI P N ops i [] false with
 | some o,some g=>some ⟨g,preOf ops listed o⟩
 | _,_=>none
def mkFIs (P:Program) (N:Nat) (ops:Array Oper) (listed:Array Bool):List Nat→Option (List FI)
 | []=>some []
 | i :: l=>match mkFI P N ops listed i,mkFIs P N ops listed l with
  | some f,some r=>some (f :: r)
  | _,_=>none
def planFree (P:Program) (N:Nat) (ops:Array Oper) (fuel:Nat) (listed:Array Bool) (S T:List Nat) (rest:Array Bool→Option GR):Option GR:=
 if Nat.beq listed.size ops.size&&Nat.ble (S++T).length fuel&&nodupN (S.filterMap (dstAt ops))&&S.all (downs ops listed S)&&T.all (gate ops S T)&&!S.isEmpty then
  match mkFIs P N ops listed S,rest (listAll S listed) with
  | some l,some r=>some (.free (S.filterMap (dstAt ops)) l r)
  | _,_=>none
 else none
def planR (P:Program) (N:Nat) (ops:Array Oper):Nat→Bool→Array Bool→Option GR
 | 0,_,listed=>if Region.ready .any ops listed=[] then some .done else none
 | fuel+1,fr,listed =>
  match Region.ready .any ops listed with
  | []=>some .done
  | r =>
   match r.find? (quietAt P ops listed) with
   | some i=>(match mkGI P N ops i [] (loadAt P ops i),planR P N ops fuel fr (listed.setIfInBounds i true) with
    | some g,some r=>some (.op g r)
    | _,_=>none)
   | none =>
    if (fr&&!(upTo P ops (unl ops listed)).isEmpty)=true then planFree P N ops (fuel+1) listed (upTo P ops (unl ops listed)) (past P ops (unl ops listed)) (planR P N ops fuel fr) else
    match r with
    | [i]=>(match mkGI P N ops i (chkOf P ops listed i) false,planR P N ops fuel fr (listed.setIfInBounds i true) with
     | some g,some r=>some (.op g r)
     | _,_=>none)
    | [i,j]=>(match mkGI P N ops i (chkOf P ops listed i) false,planR P N ops fuel fr (listed.setIfInBounds i true),mkGI P N ops j (chkOf P ops listed j) false,planR P N ops fuel fr (listed.setIfInBounds j true) with
     | some g,some r,some g',some r'=>some (.two (.op g r) (.op g' r'))
     | _,_,_,_=>none)
    | _=>planFree P N ops (fuel+1) listed (upTo P ops (unl ops listed)) (past P ops (unl ops listed)) (planR P N ops fuel fr)
theorem chkW_elim {l:List Nat} {W:Watch} {h:Heap} {K:Prop} (hk:chkW l W h K):K∧∀ j∈l,allAt (wfind W j) h:=by
 induction l with
 | nil=>exact ⟨hk,by simp⟩
 | cons j l ih =>
  obtain ⟨h1,h2⟩:=hk
  obtain ⟨h3,h4⟩:=ih h2
  refine ⟨h3,fun k hk=>?_⟩
  rcases List.mem_cons.1 hk with rfl | hk
  ·exact h1
  ·exact h4 k hk
theorem allAt_at {rs:List (Nat×Nat×Value)} {w:World} (h:allAt rs w.heap):∀ r∈rs,atAddr r w:=by
 induction rs with
 | nil=>simp
 | cons r rs ih =>
  obtain ⟨b,o,v⟩:=r
  intro x hx
  rcases List.mem_cons.1 hx with rfl | hx
  ·unfold atAddr;rw [cell?_heap];exact h.1
  ·exact ih h.2 x hx
theorem hcell_push {h:Heap} {x:Obj} {b o:Nat} {v:Value} (hc:hcell h b o=some v):hcell (h.push x) b o=some v:=by
 unfold hcell at *
 have hb:b<h.size:=by
  rcases Nat.lt_or_ge b h.size with hb | hb
  ·exact hb
  ·rw [Array.getElem?_eq_none hb] at hc;cases hc
 rw [Array.getElem?_push,if_neg (by omega)]
 exact hc
theorem withParts_mono {e:Env}:∀ {ps:List (Nat×Nat×Operand)} {cs:List Value} {K K':List Value→Prop},(∀ cs,K cs→K' cs)→withParts e ps cs K→withParts e ps cs K'
 | [],_,_,_,hk,h=>hk _ h
 | (off,size,x) :: ps,cs,K,K',hk,h=>by
  obtain ⟨v,hv,h1,h2⟩:=withV_elim h
  simp only [withParts,hv,withV]
  exact ⟨h1,withParts_mono hk h2⟩
theorem grow_more {P:Program} {y:Option Nat} {g:GOp} (hg:growing g=true) {e:Env} {h:Heap} {K:Value→Heap→Prop} (hv:gvc P y g e h K):gvc P y g e h fun v h'=>K v h'∧∃ x,h'=h.push x:=by
 cases g <;> first | cases hg | skip
 case alloc=>exact fun b h' hn=>⟨hv b h' hn,let ⟨t,ht⟩:=hn.push;⟨_,ht⟩⟩
 case box =>
  obtain ⟨v,hx,hk⟩:=withV_elim hv
  simp only [gvc,hx,withV]
  exact fun b h' hn=>⟨hk b h' hn,let ⟨t,ht⟩:=hn.push;⟨_,ht⟩⟩
 case buildSlice=>exact withParts_mono (fun cs hk b h' hn=>⟨hk b h' hn,let ⟨t,ht⟩:=hn.push;⟨_,ht⟩⟩) hv
 case makeSlice =>
  obtain ⟨k,l,hl,hk⟩:=withI_elim hv
  obtain ⟨k',c,hc,h1,hk⟩:=withI_elim hk
  simp only [gvc,hl,hc,withI]
  exact ⟨h1,fun b h' hn=>⟨hk b h' hn,let ⟨t,ht⟩:=hn.push;⟨_,ht⟩⟩⟩
theorem wfind_mem {W:Watch} {x:Nat×List (Nat×Nat×Value)} (hx:x∈W) (hnd:(W.map (·.1)).Nodup):wfind W x.1=x.2:=by
 induction W with
 | nil=>cases hx
 | cons y W ih =>
  simp only [List.map_cons,List.nodup_cons] at hnd
  rcases List.mem_cons.1 hx with rfl | hx
  ·simp [wfind]
  ·have hne:y.1≠x.1:=fun e=>hnd.1 (by rw [e];exact List.mem_map.2 ⟨x,hx,rfl⟩)
   unfold wfind
   rw [if_neg hne]
   exact ih hx hnd.2
theorem loaded_lt {P:Program} {ops:Array Oper} {k:Nat} (h:loadAt P ops k=true):k<ops.size:=by
 unfold loadAt at h
 split at h
 ·rename_i o ho;exact (Array.getElem?_eq_some_iff.1 ho).1
 ·cases h
theorem nodupN_spec:∀ {D:List Nat},nodupN D=true→D.Nodup
 | [],_=>.nil
 | d :: D,h=>by
  simp only [nodupN,Bool.and_eq_true,Bool.not_eq_true'] at h
  exact List.nodup_cons.2 ⟨fun hm=>by (have h1:=h.1;rw [memN_iff.2 hm] at h1;cases h1),nodupN_spec h.2⟩
theorem mem_unl {ops:Array Oper} {listed:Array Bool} {i:Nat}:i∈unl ops listed↔i<ops.size∧listed.getD i true=false:=by
 unfold unl;rw [List.mem_filter,List.mem_range];simp
theorem filter_lt {p q:Nat→Bool} (hle:∀ y,q y=true→p y=true):∀ {l:List Nat},(l.filter q).length≤(l.filter p).length∧∀ x∈l,p x=true→q x=false→(l.filter q).length<(l.filter p).length
 | []=>⟨by simp,by simp⟩
 | a :: l=>by
  obtain ⟨h1,h2⟩:=filter_lt hle (l:=l)
  have hb:=hle a
  constructor
  ·simp only [List.filter_cons]
   cases hq:q a
   ·simp only [Bool.false_eq_true,if_false];split
    ·simp;omega
    ·exact h1
   ·rw [hb hq];simp;exact h1
  ·intro x hx hp hn
   simp only [List.filter_cons]
   rcases List.mem_cons.1 hx with rfl | hx
   ·rw [hp,hn];simp;omega
   ·have h3:=h2 x hx hp hn
    cases hq:q a
    ·simp only [Bool.false_eq_true,if_false];split
     ·simp;omega
     ·exact h3
    ·rw [hb hq];simp;exact h3
theorem mkFIs_spec {P:Program} {N:Nat} {ops:Array Oper} {listed:Array Bool}:∀ {U:List Nat} {l:List FI},mkFIs P N ops listed U=some l →
  (∀ f∈l,∃ o,f.g.idx∈U∧ops[f.g.idx]?=some o∧mkGI P N ops f.g.idx [] false=some f.g∧f.pre=preOf ops listed o)∧∀ i∈U,∃ f∈l,f.g.idx=i
 | [],l,h=>by cases h;simp
 | i :: U,l,h=>by
  unfold mkFIs at h
  split at h
  ·rename_i f r hf hr
   cases h
   obtain ⟨h1,h2⟩:=mkFIs_spec hr
   unfold mkFI at hf
   split at hf
   ·rename_i o g ho hg
    cases hf
    obtain ⟨_,_,_,_,_,_,hidx,_⟩:=mkGI_spec hg
    constructor
    ·intro f hf
     rcases List.mem_cons.1 hf with rfl | hf
     ·exact ⟨o,by simp [hidx],by simpa [hidx] using ho,by simpa [hidx] using hg,rfl⟩
     ·obtain ⟨o',k1,k2⟩:=h1 f hf
      exact ⟨o',by simp [k1],k2⟩
    ·intro j hj
     rcases List.mem_cons.1 hj with rfl | hj
     ·exact ⟨_,List.mem_cons_self,hidx⟩
     ·obtain ⟨f,k1,k2⟩:=h2 j hj
      exact ⟨f,List.mem_cons_of_mem _ k1,k2⟩
   ·cases hf
  ·cases h
theorem getD_lt {listed:Array Bool} {i:Nat} (h:i<listed.size) (d d':Bool):listed.getD i d=listed.getD i d':=by
 simp [Array.getD,h]
theorem getD_set_t {listed:Array Bool} {i k:Nat} {d:Bool} (h:listed.getD k d=true):(listed.setIfInBounds i true).getD k d=true:=by
 by_cases hik:i=k
 ·subst hik
  by_cases hlt:i<listed.size
  ·simp [hlt]
  ·simp only [Array.getD,Array.size_setIfInBounds,hlt,dite_false] at h ⊢
   exact h
 ·rw [getD_set_ne d hik];exact h
theorem getD_set_eq {listed:Array Bool} {i:Nat} (h:i<listed.size) (d:Bool):(listed.setIfInBounds i true).getD i d=true:=by
 simp [h]
theorem fr_keeps {P:Program} {ops:Array Oper} {i:Nat} {W:Watch} {w w':World} (f:Fr 0 0 w.heap w'.heap):keepsW ops i W w w':=by
 intro x _ _ hr r hm
 have h1:=hr r hm
 unfold atAddr at *
 rw [cell?_heap] at *
 unfold hcell at *
 split at h1
 ·rename_i c t fz hb
  have hlt:=(Array.getElem?_eq_some_iff.1 hb).1
  rw [f.old _ hlt (by omega),hb]
  exact h1
 ·cases h1
theorem upTo_past {P:Program} {ops:Array Oper}:∀ l:List Nat,upTo P ops l++past P ops l=l
 | []=>rfl
 | i :: l=>by
  unfold upTo past
  split
  ·rfl
  ·rw [List.cons_append,upTo_past l]
theorem size_listAll:∀ (S:List Nat) (l:Array Bool),(listAll S l).size=l.size
 | [],_=>rfl
 | i :: S,l=>by rw [listAll,size_listAll S];simp
theorem getD_listAll:∀ (S:List Nat) (l:Array Bool) (k:Nat),(listAll S l).getD k true=(l.getD k true||memN k S)
 | [],l,k=>by simp [listAll,memN]
 | i :: S,l,k=>by
  rw [listAll,getD_listAll S]
  simp only [memN]
  by_cases hik:k=i
  ·subst hik
   rw [if_pos rfl]
   by_cases hlt:k<l.size
   ·rw [getD_set_eq hlt];simp
   ·have:(l.setIfInBounds k true).getD k true=true:=by simp [Array.getD,hlt]
    rw [this];simp
  ·rw [if_neg hik,getD_set_ne true (Ne.symm hik)]
theorem mem_bpre {ops:Array Oper} {i p:Nat}:p∈bpre ops i↔∃ o,ops[i]?=some o∧∃ e∈o.after,Region.binds .any e=true∧e.on=p:=by
 unfold bpre
 cases ho:ops[i]? with
 | none=>simp
 | some o =>
  simp only [List.mem_filterMap,Option.some.injEq,exists_eq_left']
  constructor
  ·rintro ⟨e,he,hx⟩
   split at hx
   ·rename_i hb;cases hx;exact ⟨e,by simpa using he,hb,rfl⟩
   ·cases hx
  ·rintro ⟨e,he,hb,rfl⟩
   exact ⟨e,by simpa using he,by rw [if_pos hb]⟩
theorem covers_spec {ops:Array Oper} {good:Nat→Prop}:∀ {l M:List Nat},covers ops l M=true→(∀ k∈M,good k)→(∀ i∈l,good i→∀ p∈bpre ops i,good p)→∀ i∈l,good i
 | [],_,_,_,_=>by simp
 | i :: l,M,hc,hM,hd=>by
  simp only [covers,Bool.and_eq_true] at hc
  have hi:=hM i (memN_iff.1 hc.1)
  intro j hj
  rcases List.mem_cons.1 hj with rfl | hj
  ·exact hi
  ·exact covers_spec hc.2 (fun k hk=>by
    rcases List.mem_append.1 hk with h | h
    ·exact hd i (by simp) hi k h
    ·exact hM k h) (fun i hi=>hd i (by simp [hi])) j hj
section
variable {P : Program} {ops : Array Oper} {Q : Exit → Act → World → Prop} {ro : Option Nat} {n : Nat}
theorem unl_set {listed:Array Bool} {i:Nat} (hi:i∈unl ops listed) (hs:listed.size=ops.size):(unl ops (listed.setIfInBounds i true)).length<(unl ops listed).length:=by
 obtain ⟨h1,h2⟩:=mem_unl.1 hi
 unfold unl
 exact (filter_lt (p:=fun k=>!listed.getD k true) (q:=fun k=>!(listed.setIfInBounds i true).getD k true) (fun y hy=>by
  simp only [Bool.not_eq_true'] at hy ⊢
  cases hcc:listed.getD y true
  ·rfl
  ·rw [getD_set_t hcc] at hy;cases hy) (l:=List.range ops.size)).2 i (List.mem_range.2 h1) (by simp only [h2];rfl) (by simp only [getD_set_eq (show i<listed.size by omega)];rfl)
theorem ready_unl {listed:Array Bool} {i:Nat} (hi:i∈Region.ready .any ops listed):i∈unl ops listed:=by
 obtain ⟨h1,o,ho,_⟩:=mem_ready.1 hi
 exact mem_unl.2 ⟨(Array.getElem?_eq_some_iff.1 ho).1,h1⟩
theorem ready_nil {listed:Array Bool} (h:(unl ops listed).length=0):Region.ready .any ops listed=[]:=by
 rw [List.eq_nil_iff_forall_not_mem]
 intro j hj
 have:=List.length_pos_of_mem (ready_unl hj)
 omega
theorem Any.fuel {W:Watch}:∀ (f f':Nat) (listed:Array Bool) (a:Act) (w:World),listed.size=ops.size→(unl ops listed).length≤f→(unl ops listed).length≤f'→Any P ops Q ro n f W listed a w→Any P ops Q ro n f' W listed a w
 | 0,_,listed,_,_,_,h1,_,h=>Any.done (ready_nil (by omega)) h.2
 | f+1,0,listed,_,_,_,_,h2,h=>⟨ready_nil (by omega),h.1 (ready_nil (by omega))⟩
 | f+1,f' + 1,listed,a,w,hs,h1,h2,h=>⟨h.1,fun i hi=>wpOpIn_mono (fun a' w' hk=>⟨hk.1,by
   have:=unl_set (ready_unl hi) hs
   exact Any.fuel f f' _ a' w' (by simpa using hs) (by omega) (by omega) hk.2⟩) (h.2 i hi)⟩
end
theorem free_sound {y:Option Nat} {P:Program} {N n:Nat} {ops:Array Oper} {ro:Option Nat} {Q:Exit→Act→World→Prop} {w0:World} {a0:Act} {K:Env→Heap→Prop} {W:Watch}
  {A:Tells} {l:List FI} {listed:Array Bool} {S T:List Nat} {e:Env} {h0:Heap} (hST:S++T=unl ops listed) (hnd:nodupN (S.filterMap (dstAt ops))=true) (hdown:S.all (downs ops listed S)=true) (hgate:T.all (gate ops S T)=true) (hl:mkFIs P N ops listed S=some l) (hsz:listed.size=ops.size)
  (hrest:∀ (fuel:Nat) a w,(unl ops (listAll S listed)).length≤fuel→After y N w0 a0 K a w→Any P ops Q ro n fuel W (listAll S listed) a w)
  (hA:StabL A) (hnames:namesOk A l=true) (hops:freeOps P y A (S.filterMap (dstAt ops)) h0 e l) (hend:∀ h',Fr 0 0 h0 h'→∀ V,Sep V h0.size h'.size l→freeEnd A V h' l (drp (S.filterMap (dstAt ops)) e) fun e'=>K e' h') :
  ∀ (fuel:Nat) (listed':Array Bool) (a:Act) (w:World),listed'.size=ops.size→(unl ops listed').length≤fuel→(∀ i,listed.getD i true=true→listed'.getD i true=true)→(∀ i,listed'.getD i true=true→listed.getD i true=true∨i∈S) →
   (∀ i∈S,listed'.getD i true=true→∀ p∈bpre ops i,listed'.getD p true=true)→Holds N (drp (S.filterMap (dstAt ops)) e) a →
   (∃ V,∀ f∈l,listed'.getD f.g.idx true=true→tells A f.g.idx V w.heap∧(∀ d,f.g.dst=some d→a.tmps.getD d undef=(V f.g.idx).1)∧(∀ k∈namesOf A f.g.idx,listed'.getD k true=true)∧(h0.size≤(V f.g.idx).2.1∧(V f.g.idx).2.1≤(V f.g.idx).2.2∧(V f.g.idx).2.2≤w.heap.size) ∧
    ∀ j∈l,listed'.getD j.g.idx true=true→f.g.idx≠j.g.idx→(V f.g.idx).2.2≤(V j.g.idx).2.1∨(V j.g.idx).2.2≤(V f.g.idx).2.1)→Fr 0 0 h0 w.heap→a.defers=a0.defers→Like y w0 w→Any P ops Q ro n fuel W listed' a w:=by
 obtain ⟨hl1,hl2⟩:=mkFIs_spec hl
 generalize hDe:S.filterMap (dstAt ops)=D at *
 have hU:(unl ops listed).Nodup:=List.nodup_range.filter _
 have hSnd:S.Nodup:=by rw [← hST] at hU;exact (List.nodup_append.1 hU).1
 have hdisj:∀ k,k∈S→k∈T→False:=by
  rw [← hST] at hU
  intro k h1 h2
  exact (List.nodup_append.1 hU).2.2 k h1 k h2 rfl
 have hSU:∀ i,i∈S→i∈unl ops listed:=fun i hi=>by rw [← hST];exact List.mem_append_left _ hi
 have hTU:∀ i,i∈T→i∈unl ops listed:=fun i hi=>by rw [← hST];exact List.mem_append_right _ hi
 have hdist:∀ i j d,i∈S→j∈S→i≠j→dstAt ops i=some d→dstAt ops j=some d→False:=by
  intro i j d hi hj hij h1 h2
  have hp:=nodupN_spec hnd
  rw [← hDe,List.Nodup,List.pairwise_filterMap] at hp
  have key:∀ (L:List Nat),L.Pairwise (fun a a'=>∀ b,dstAt ops a=some b→∀ b',dstAt ops a'=some b'→b≠b')→i∈L→j∈L→False:=by
   intro L
   induction L with
   | nil=>intro _ h _;cases h
   | cons x L ih =>
    intro hp hi hj
    obtain ⟨hx,hp⟩:=List.pairwise_cons.1 hp
    rcases List.mem_cons.1 hi with hi1 | hi1
    ·rcases List.mem_cons.1 hj with hj1 | hj1
     ·exact hij (hi1.trans hj1.symm)
     ·exact hx j hj1 d (hi1▸h1) d h2 rfl
    ·rcases List.mem_cons.1 hj with hj1 | hj1
     ·exact hx i hi1 d (hj1▸h2) d h1 rfl
     ·exact ih hp hi1 hj1
  exact key _ hp hi hj
 intro fuel
 induction fuel with
 | zero =>
  rintro listed' a w hs hfu hmono hin hdc hh ⟨V,ht⟩ hf hd hlk
  have hall:∀ i,i<ops.size→listed'.getD i true=true:=fun i hi=>by
   cases hc:listed'.getD i true
   ·have hm:=mem_unl.2 ⟨hi,hc⟩
    have:=List.length_pos_of_mem hm
    omega
   ·rfl
  have he:listed'=listAll S listed:=by
   apply Array.ext
   ·rw [size_listAll];omega
   ·intro i h1 h2
    have k1:=hall i (by omega)
    have k2:=getD_listAll S listed i
    have k3:(listed.getD i true||memN i S)=true:=by
     rcases hin i k1 with h | h
     ·rw [h];rfl
     ·rw [memN_iff.2 h];simp
    rw [k3] at k2
    simp [Array.getD,h1] at k1
    simp [Array.getD,h2] at k2
    rw [k1,k2]
  subst he
  refine hrest 0 a w hfu ?_
  have hlst:∀ f∈l,(listAll S listed).getD f.g.idx true=true:=fun f hfm=>by
   obtain ⟨o,hu,_⟩:=hl1 f hfm
   exact hall _ (mem_unl.1 (hSU _ hu)).1
  have hsep:Sep V h0.size w.heap.size l:=⟨fun f hfm=>(ht f hfm (hlst f hfm)).2.2.2.1,fun f hfm j hjm=>(ht f hfm (hlst f hfm)).2.2.2.2 j hjm (hlst j hjm)⟩
  obtain ⟨e',k1,k2⟩:=freeEnd_at (hend _ hf V hsep) hh fun f hfm=>by
   obtain ⟨o,hu,_⟩:=hl1 f hfm
   have:=ht f hfm (hall _ (mem_unl.1 (hSU _ hu)).1)
   exact ⟨this.1,this.2.1⟩
  exact ⟨e',k1,hd,hlk,k2⟩
 | succ fuel ih =>
  rintro listed' a w hs hfu hmono hin hdc hh ⟨V,ht⟩ hf hd hlk
  by_cases hallS:∀ i∈S,listed'.getD i true=true
  ·have he:listed'=listAll S listed:=by
    apply Array.ext
    ·rw [size_listAll];omega
    ·intro i h1 h2
     have k2:=getD_listAll S listed i
     simp only [Array.getD,h2,dite_true] at k2
     have k1:listed'.getD i true=listed'[i]:=by simp [Array.getD,h1]
     show listed'[i]=(listAll S listed)[i]
     rw [← k1]
     refine Eq.trans ?_ k2.symm
     rw [Bool.eq_iff_iff,Bool.or_eq_true]
     constructor
     ·intro h
      rcases hin i h with h | h
      ·exact .inl h
      ·exact .inr (memN_iff.2 h)
     ·rintro (h | h)
      ·exact hmono i h
      ·exact hallS i (memN_iff.1 h)
   subst he
   refine hrest _ a w hfu ?_
   have hlst:∀ f∈l,(listAll S listed).getD f.g.idx true=true:=fun f hfm=>by
    obtain ⟨o,hu,_⟩:=hl1 f hfm
    exact hallS _ hu
   have hsep:Sep V h0.size w.heap.size l:=⟨fun f hfm=>(ht f hfm (hlst f hfm)).2.2.2.1,fun f hfm j hjm=>(ht f hfm (hlst f hfm)).2.2.2.2 j hjm (hlst j hjm)⟩
   obtain ⟨e',k1,k2⟩:=freeEnd_at (hend _ hf V hsep) hh fun f hfm=>by
    obtain ⟨o,hu,_⟩:=hl1 f hfm
    have:=ht f hfm (hallS _ hu)
    exact ⟨this.1,this.2.1⟩
   exact ⟨e',k1,hd,hlk,k2⟩
  refine ⟨fun hr=>?_,fun i hi=>?_⟩
  ·refine absurd (fun i=>?_) hallS
   induction i using Nat.strongRecOn with
   | _ i ihi =>
    intro hi
    cases hc:listed'.getD i true
    ·have hu:=hSU i hi
     have hlt:=(mem_unl.1 hu).1
     have hmem:i∈Region.ready .any ops listed':=by
      obtain ⟨o,ho⟩:∃ o,ops[i]?=some o:=⟨ops[i],by simp [hlt]⟩
      refine mem_ready.2 ⟨hc,o,ho,fun ed hed hb=>?_⟩
      have hdn:=List.all_eq_true.1 hdown i hi
      unfold downs at hdn
      have:=List.all_eq_true.1 hdn ed.on (mem_bpre.2 ⟨o,ho,ed,hed,hb,rfl⟩)
      simp only [Bool.or_eq_true,Bool.and_eq_true] at this
      rcases this with h | ⟨h1,h2⟩
      ·have hon:ed.on<listed.size:=by
        rcases Nat.lt_or_ge ed.on listed.size with h' | h'
        ·exact h'
        ·simp [Array.getElem?_eq_none h'] at h
       rw [getD_lt (by omega) false true]
       rw [getD_lt hon false true] at h
       exact hmono _ h
      ·have hlt2:ed.on<i:=by simpa [Nat.blt_eq] using h1
       rw [getD_lt (by omega) false true]
       exact ihi _ hlt2 (memN_iff.1 h2)
     rw [hr] at hmem;cases hmem
    ·rfl
  ·obtain ⟨hun,o,ho,hpre⟩:=mem_ready.1 hi
   have hlt:i<ops.size:=(Array.getElem?_eq_some_iff.1 ho).1
   have hu:i∈unl ops listed:=mem_unl.2 ⟨hlt,by
    cases hcc:listed.getD i true
    ·rfl
    ·rw [hmono i hcc] at hun;cases hun⟩
   have hpre':∀ p∈bpre ops i,listed'.getD p true=true:=fun p hp=>by
    obtain ⟨o',ho',ed,hed,hb,rfl⟩:=mem_bpre.1 hp
    rw [ho] at ho';cases ho'
    have h:=hpre ed hed hb
    have hon:ed.on<listed'.size:=by
     rcases Nat.lt_or_ge ed.on listed'.size with h' | h'
     ·exact h'
     ·simp [Array.getElem?_eq_none h'] at h
    rw [getD_lt hon false true] at h
    exact h
   have hiS:i∈S:=by
    have hm:i∈S++T:=by rw [hST];exact hu
    rcases List.mem_append.1 hm with h | h
    ·exact h
    ·exfalso
     have hg:=List.all_eq_true.1 hgate i h
     unfold gate at hg
     rw [Bool.or_eq_true] at hg
     rcases hg with hg | hg
     ·obtain ⟨k,hk,hkT⟩:=List.any_eq_true.1 hg
      have hkT:=memN_iff.1 hkT
      rcases hin k (hpre' k hk) with h' | h'
      ·rw [(mem_unl.1 (hTU k hkT)).2] at h';cases h'
      ·exact hdisj k h' hkT
     ·refine hallS fun j hj=>covers_spec (good:=fun k=>listed'.getD k true=true) hg hpre' (fun k hk hgk=>hdc k (List.mem_reverse.1 hk) hgk) j (List.mem_reverse.2 hj)
   obtain ⟨f,hfm,hidx⟩:=hl2 i hiS
   obtain ⟨o',_,ho',hg,hp⟩:=hl1 f hfm
   rw [hidx] at ho' hg
   rw [ho] at ho';cases ho'
   obtain ⟨o',ho',hc,hgd,hdst,e1,e0,e2,e3⟩:=mkGI_spec hg
   rw [ho] at ho';cases ho'
   obtain ⟨e',hh',hv⟩:=withPre_at (freeOps_at hops hfm w.heap hf V) hh fun p hpm=>by
    rw [hp] at hpm
    unfold preOf at hpm
    obtain ⟨ed,hed,hx⟩:=List.mem_filterMap.1 (mem_ded hpm)
    split at hx
    ·rename_i hb
     simp only [Bool.and_eq_true,Bool.not_eq_true'] at hb
     simp only [Option.map_eq_some_iff] at hx
     obtain ⟨s,hs1,rfl⟩:=hx
     have hbp:ed.on∈bpre ops i:=mem_bpre.2 ⟨o,ho,ed,by simpa using hed,hb.1,rfl⟩
     have h1:=hpre' _ hbp
     have honS:ed.on∈S:=by
      rcases hin _ h1 with h | h
      ·rw [hb.2] at h;cases h
      ·exact h
     obtain ⟨f',hf1,hf2⟩:=hl2 ed.on honS
     obtain ⟨o2,_,ho2,hg2,_⟩:=hl1 f' hf1
     obtain ⟨o3,ho3,_,_,_,e12,_⟩:=mkGI_spec hg2
     have hd2:f'.g.dst=some s:=by
      rw [e12]
      unfold dstAt at hs1
      rw [hf2] at ho3
      rw [ho3] at hs1
      exact hs1
     rw [← hf2] at h1 ⊢
     have:=ht f' hf1 h1
     exact ⟨this.1,this.2.1 s hd2⟩
    ·cases hx
   have step:∀ (v:Value) (w':World),Like y w w'→Fr 0 0 w.heap w'.heap→tells A f.g.idx (updV V f.g.idx (v,w.heap.size,w'.heap.size)) w'.heap→keepsW ops i W w w'∧Any P ops Q ro n fuel W (listed'.setIfInBounds i true) (a.put o.dst v) w':=by
    intro v w' hlk' hf' htv
    refine ⟨fr_keeps (P:=P) hf',ih _ _ _ (by simpa using hs) ?_ (fun k hk=>getD_set_t (hmono k hk)) (fun k hk=>?_) (fun k hk hkl p hpk=>?_) ?_ ?_ (hf.trans hf') (by rw [put_defers];exact hd) (hlk.trans hlk')⟩
    ·have:=unl_set (ops:=ops) (mem_unl.2 ⟨hlt,hun⟩) hs
     omega
    ·by_cases hki:i=k
     ·subst hki;exact .inr hiS
     ·rw [getD_set_ne true hki] at hk;exact hin k hk
    ·by_cases hki:i=k
     ·subst hki;exact getD_set_t (hpre' p hpk)
     ·rw [getD_set_ne true hki] at hkl;exact getD_set_t (hdc k hk hkl p hpk)
    ·refine hh.drp_put (fun d hd=>⟨hdst d hd,?_⟩) v
     rw [← hDe]
     exact List.mem_filterMap.2 ⟨i,hiS,by unfold dstAt;rw [ho];exact hd⟩
    ·refine ⟨updV V f.g.idx (v,w.heap.size,w'.heap.size),fun f' hf1 hls=>?_⟩
     obtain ⟨o2,hu2,ho2,hg2,_⟩:=hl1 f' hf1
     obtain ⟨o3,ho3,_,_,_,e12,_⟩:=mkGI_spec hg2
     by_cases hii:f'.g.idx=i
     ·rw [hii,ho] at ho3;cases ho3
      rw [hii,← hidx]
      have hme:updV V f.g.idx (v,w.heap.size,w'.heap.size) f.g.idx=(v,w.heap.size,w'.heap.size):=by simp [updV]
      refine ⟨htv,fun d hdd=>?_,fun k hk=>?_,by rw [hme];exact ⟨hf.size,hf'.size,Nat.le_refl _⟩,fun j hj hjl hne=>?_⟩
      rotate_left 2
      ·rw [hme]
       have hji:j.g.idx≠f.g.idx:=Ne.symm hne
       have hjl':listed'.getD j.g.idx true=true:=by
        rw [getD_set_ne true (fun e=>hji e.symm)] at hjl;exact hjl
       have:=(ht j hj hjl').2.2.2.1
       unfold updV;rw [if_neg hji]
       exact .inr this.2.2
      ·rw [e12] at hdd
       rw [hdd]
       have hN:=hdst d hdd
       have:(a.put (some d) v).tmps.getD d undef=v:=by simp [Act.put,hh.1,hN]
       rw [this];simp [updV]
      ·have h0:=List.all_eq_true.1 hnames f hfm
       have h0:=List.all_eq_true.1 h0 k hk
       rw [Bool.or_eq_true] at h0
       rcases h0 with h0 | h0
       ·have:=Nat.eq_of_beq_eq_true h0
        rw [this,hidx];exact getD_set_eq (by omega) true
       ·obtain ⟨p,hpm,hp0⟩:=List.any_eq_true.1 h0
        rw [hp] at hpm
        unfold preOf at hpm
        obtain ⟨ed,hed,hx⟩:=List.mem_filterMap.1 (mem_ded hpm)
        split at hx
        ·rename_i hb
         simp only [Bool.and_eq_true,Bool.not_eq_true'] at hb
         simp only [Option.map_eq_some_iff] at hx
         obtain ⟨s,hs1,rfl⟩:=hx
         have h1:=hpre' _ (mem_bpre.2 ⟨o,ho,ed,by simpa using hed,hb.1,rfl⟩)
         have honS:ed.on∈S:=by
          rcases hin _ h1 with h | h
          ·rw [hb.2] at h;cases h
          ·exact h
         rw [Bool.or_eq_true] at hp0
         rcases hp0 with hp0 | hp0
         ·rw [Nat.eq_of_beq_eq_true hp0];exact getD_set_t h1
         ·obtain ⟨f2,hf21,hf22⟩:=hl2 ed.on honS
          exact getD_set_t ((ht f2 hf21 (by rw [hf22];exact h1)).2.2.1 k (by rw [hf22];exact memN_iff.1 hp0))
        ·cases hx
     ·rw [getD_set_ne true (Ne.symm hii)] at hls
      obtain ⟨t1,t2,t3,t4,t5⟩:=ht f' hf1 hls
      have hneI:∀ k,listed'.getD k true=true→k≠f.g.idx:=fun k hk he=>by rw [he,hidx,hun] at hk;cases hk
      refine ⟨hA.at_ _ hf' (tells_congr (fun k hk=>?_) t1),fun d hdd=>?_,fun k hk=>getD_set_t (t3 k hk),?_,fun j hj hjl hne=>?_⟩
      rotate_left 2
      ·unfold updV;rw [if_neg (hneI _ hls)];exact ⟨t4.1,t4.2.1,Nat.le_trans t4.2.2 hf'.size⟩
      ·unfold updV
       rw [if_neg (hneI _ hls)]
       by_cases hji:j.g.idx=f.g.idx
       ·rw [if_pos hji];exact .inl t4.2.2
       ·rw [if_neg hji]
        exact t5 j hj (by rw [getD_set_ne true (fun e=>hji (e.symm.trans hidx.symm))] at hjl;exact hjl) hne
      ·unfold updV;rw [if_neg (hneI k (t3 k hk))]
      ·have hne:∀ d',o.dst=some d'→d'≠d:=fun d' hd' he=>by
        subst he
        exact hdist i f'.g.idx d' hiS hu2 (Ne.symm hii) (by unfold dstAt;rw [ho];exact hd') (by unfold dstAt;rw [ho3];exact e12.symm.trans hdd)
       have h2:(a.put o.dst v).tmps.getD d undef=a.tmps.getD d undef:=by
        cases hod:o.dst with
        | none=>rfl
        | some d'=>have:=hne d' hod;simp [Act.put,Array.getElem?_setIfInBounds_ne this]
       rw [h2,t2 d hdd]
       unfold updV;rw [if_neg (hneI _ hls)]
   unfold wpOpIn
   simp only [ho]
   rcases guard_sound hgd hh' hv with ⟨hw,hv⟩ | ⟨hw,hv⟩
   ·rw [if_pos hw]
    refine (g_sound hc hh' hv).wpIn (compile_noDefer hc) ?_
    rintro v w' ⟨hl',hk1,hk2⟩
    exact step v w' hl' hk1 hk2
   ·rw [if_neg (by rw [hw];simp)]
    exact ⟨fun _ _=>trivial,step undef w (.refl _ _) (.refl _ _ _) hv⟩
theorem planFree_sound {y:Option Nat} {P:Program} {N n:Nat} {ops:Array Oper} {ro:Option Nat} {Q:Exit→Act→World→Prop} {w0:World} {a0:Act} {K:Env→Heap→Prop}
  {fuel:Nat} {listed:Array Bool} {S T:List Nat} {rest:Array Bool→Option GR} {r:GR} {W:Watch} {e:Env} {a:Act} {w:World} (hST:S++T=unl ops listed) (hr:planFree P N ops fuel listed S T rest=some r)
  (hrest:∀ (r:GR) e a w,S≠[]→rest (listAll S listed)=some r→rvc P y r W e w.heap K→Holds N e a→a.defers=a0.defers→Like y w0 w→∃ f,(unl ops (listAll S listed)).length≤f∧Any P ops Q ro n f W (listAll S listed) a w)
  (hv:rvc P y r W e w.heap K) (hh:Holds N e a) (hd:a.defers=a0.defers) (hl:Like y w0 w):Any P ops Q ro n fuel W listed a w:=by
 unfold planFree at hr
 split at hr
 ·rename_i hc
  simp only [Bool.and_eq_true,Bool.not_eq_true'] at hc
  obtain ⟨⟨⟨⟨⟨c1,c2⟩,c3⟩,c4⟩,c5⟩,c6⟩:=hc
  have c1:=Nat.eq_of_beq_eq_true c1
  have c2:=Nat.le_of_ble_eq_true c2
  rw [hST] at c2
  split at hr
  ·rename_i l r' hl' hr'
   cases hr
   obtain ⟨A,hA,hn,h1,h2⟩:=hv
   obtain ⟨k1,k2⟩:=mkFIs_spec hl'
   refine free_sound (K:=fun e h=>rvc P y r' W e h K) hST c3 c4 c5 hl' c1 (fun f a w hf haft=>?_) hA hn h1 h2 fuel listed a w c1 c2 (fun _ h=>h) (fun _ h=>.inl h) (fun i hi h=>?_) (hh.drp _) ⟨fun _=>(undef,0,0),fun f hf hls=>?_⟩ (.refl _ _ _) hd hl
   ·obtain ⟨e',m1,m2,m3,m4⟩:=haft
    obtain ⟨f',n1,n2⟩:=hrest r' e' a w (by rintro rfl;cases c6) hr' m4 m1 m2 m3
    exact Any.fuel f' f _ a w (by rw [size_listAll];exact c1) n1 hf n2
   ·have:i∈unl ops listed:=by rw [← hST];exact List.mem_append_left _ hi
    rw [(mem_unl.1 this).2] at h;cases h
   ·obtain ⟨_,hu,_⟩:=k1 f hf
    have:f.g.idx∈unl ops listed:=by rw [← hST];exact List.mem_append_left _ hu
    rw [(mem_unl.1 this).2] at hls;cases hls
  ·cases hr
 ·cases hr
theorem planFree_le {P:Program} {N:Nat} {ops:Array Oper} {fuel:Nat} {listed:Array Bool} {S T:List Nat} {rest:Array Bool→Option GR} {r:GR} (hr:planFree P N ops fuel listed S T rest=some r):(S++T).length≤fuel:=by
 unfold planFree at hr
 split at hr
 ·rename_i hc
  simp only [Bool.and_eq_true] at hc
  exact Nat.le_of_ble_eq_true hc.1.1.1.1.2
 ·cases hr
theorem unl_listAll {ops:Array Oper} {listed:Array Bool} {S:List Nat} {i:Nat} (hi:i∈S) (hu:i∈unl ops listed):(unl ops (listAll S listed)).length<(unl ops listed).length:=by
 obtain ⟨h1,h2⟩:=mem_unl.1 hu
 unfold unl
 exact (filter_lt (p:=fun k=>!listed.getD k true) (q:=fun k=>!(listAll S listed).getD k true) (fun y hy=>by
  simp only [Bool.not_eq_true'] at hy ⊢
  rw [getD_listAll] at hy
  cases hcc:listed.getD y true
  ·rfl
  ·rw [hcc] at hy;cases hy) (l:=List.range ops.size)).2 i (List.mem_range.2 h1) (by simp only [h2];rfl) (by simp only [getD_listAll,memN_iff.2 hi];simp)
theorem plan_sound {y:Option Nat} {P:Program} {N n:Nat} {ops:Array Oper} {ro:Option Nat} {Q:Exit→Act→World→Prop} {w0:World} {a0:Act} {K:Env→Heap→Prop} (hQ:∀ a w,After y N w0 a0 K a w→Q .normal a w)
  (hnd:∀ (j:Nat) (o:Oper) c,ops[j]?=some o→o.op≠.defer c) (hsel:∀ (j:Nat) (o:Oper) cs b,ops[j]?=some o→o.op≠.select cs b) (hQp:∀ c a w,¬ Q (.panic c) a w) (hQo:∀ a w,¬ Q .outgrown a w) :
  ∀ (fuel:Nat) (fr:Bool) (listed:Array Bool) (r:GR) (W:Watch) (e:Env) (a:Act) (w:World),planR P N ops fuel fr listed=some r→rvc P y r W e w.heap K→Holds N e a→a.defers=a0.defers→Like y w0 w →
   (W.map (·.1)).Nodup→(∀ x∈W,listed.getD x.1 false=true∧loadAt P ops x.1=true)→Any P ops Q ro n fuel W listed a w:=by
 intro fuel
 induction fuel with
 | zero =>
  intro fr listed r W e a w hr hv hh hd hl _ _
  simp only [planR] at hr
  split at hr
  ·rename_i h0;cases hr;exact ⟨h0,hQ _ _ ⟨e,hh,hd,hl,hv⟩⟩
  ·cases hr
 | succ fuel ih =>
  intro fr listed r W e a w hr hv hh hd hl hWn hW
  have loud:∀ (i:Nat) (g:GI) (r':GR),i∈Region.ready .any ops listed→mkGI P N ops i (chkOf P ops listed i) false=some g→planR P N ops fuel fr (listed.setIfInBounds i true)=some r'→rvc P y (.op g r') W e w.heap K →
    wpOpIn (fw ro) n P ops Q i (fun a' w'=>keepsW ops i W w w'∧Any P ops Q ro n fuel W (listed.setIfInBounds i true) a' w') a w:=by
   intro i g r' hi hg hr' hv
   obtain ⟨o,ho,hc,hgd,hdst,e1,_,e2,e3⟩:=mkGI_spec hg
   have hW':∀ x∈W,(listed.setIfInBounds i true).getD x.1 false=true∧loadAt P ops x.1=true:=fun x hx=>⟨getD_set_true (hW x hx).1,(hW x hx).2⟩
   unfold wpOpIn
   simp only [ho]
   rcases guard_sound hgd hh hv with ⟨hw,hv⟩ | ⟨hw,hv⟩
   ·rw [if_pos hw]
    by_cases hgr:growing g.op=true
    ·refine (g_sound hc hh (grow_more hgr hv)).wpIn (compile_noDefer hc) ?_
     rintro v w' ⟨hl',hk,x,hx⟩
     obtain ⟨hk,_⟩:=chkW_elim hk
     rw [show addW g W e v=W from by unfold addW;rw [e3];rfl,e1] at hk
     refine ⟨fun y _ _ hy r hr=>?_,ih _ _ _ _ _ _ _ hr' hk (hh.put hdst v) (by rw [put_defers];exact hd) (hl.trans hl') hWn hW'⟩
     have:=hy r hr
     unfold atAddr at this ⊢
     rw [cell?_heap] at this ⊢
     rw [hx]
     exact hcell_push this
    ·refine (g_sound hc hh hv).wpIn (compile_noDefer hc) ?_
     rintro v w' ⟨hl',hk⟩
     obtain ⟨hk,hchk⟩:=chkW_elim hk
     rw [show addW g W e v=W from by unfold addW;rw [e3];rfl,e1] at hk
     refine ⟨fun y hy hb _=>?_,ih _ _ _ _ _ _ _ hr' hk (hh.put hdst v) (by rw [put_defers];exact hd) (hl.trans hl') hWn hW'⟩
     have hmem:y.1∈g.chk:=by
      rw [e2]
      unfold chkOf
      have hga:growAt P ops i=false:=by unfold growAt;rw [ho];simp only [hc];simpa using hgr
      rw [hga]
      simp only [Bool.false_eq_true,if_false,List.mem_filter,List.mem_range,Bool.and_eq_true,Bool.not_eq_true']
      exact ⟨loaded_lt (hW y hy).2,⟨(hW y hy).1,(hW y hy).2⟩,hb⟩
     have:=hchk _ hmem
     rw [wfind_mem hy hWn] at this
     exact allAt_at this
   ·rw [if_neg (by rw [hw];simp)]
    rw [e1] at hv
    exact ⟨fun _ _=>trivial,fun _ _ _ h=>h,ih _ _ _ _ _ _ _ hr' hv (hh.put hdst undef) (by rw [put_defers];exact hd) hl hWn hW'⟩
  simp only [planR] at hr
  split at hr
  ·rename_i h0;cases hr;exact Any.done h0 (hQ _ _ ⟨e,hh,hd,hl,hv⟩)
  ·split at hr
   ·
    rename_i i hfind
    split at hr
    ·rename_i g r' hg hr'
     cases hr
     have hq:=List.find?_some hfind
     have hmem:=List.mem_of_find?_eq_some hfind
     obtain ⟨o,ho,hc,hgd,hdst,e1,e0,e2,e3⟩:=mkGI_spec hg
     unfold quietAt at hq
     simp only [ho,hc,Bool.and_eq_true] at hq
     have hun:=(mem_ready.1 hmem).1
     have hlt:i<listed.size:=by
      rcases Nat.lt_or_ge i listed.size with h | h
      ·exact h
      ·simp [Array.getElem?_eq_none h] at hun
     have hset:(listed.setIfInBounds i true).getD i false=true:=by simp [hlt]
     have hnot:∀ x∈W,x.1≠i:=fun x hx he=>by
      have:=(hW x hx).1
      rw [he] at this
      simp [hlt] at this hun
      rw [hun] at this;cases this
     rcases guard_sound hgd hh hv with ⟨hw,hv⟩ | ⟨hw,hv⟩
     ·have hv':qvc g.op e w.heap fun v=>chkW g.chk W w.heap (rvc P y r' (addW g W e v) (eput e g.dst v) w.heap K):=by
       generalize g.op=gg at hv hq
       cases gg <;> first | exact hv | (exact absurd hq.1 (by simp [GOp.quiet]))
      obtain ⟨v,hk,hreads,hrun⟩:=q_sound hc hq.1 hh hv'
      obtain ⟨hk,_⟩:=chkW_elim hk
      have hR:∀ r∈reads g.op e v,atAddr r w:=fun r hr=>by unfold atAddr;rw [cell?_heap];exact hreads r hr
      rw [e1] at hk
      have hfr:=Region.free_spec ho hq.2
      cases hld:loadAt P ops i with
      | true =>
       rw [show addW g W e v=(i,reads g.op e v) :: W from by unfold addW;rw [e3,hld,e0];rfl] at hk
       refine Any.first ho hnd hsel hQp hQo fuel W listed a w hfr hmem (.inl ⟨hw,hrun⟩) hR (ih _ _ _ _ _ _ _ hr' hk (hh.put hdst v) (by rw [put_defers];exact hd) hl ?_ ?_)
       ·simp only [List.map_cons,List.nodup_cons]
        exact ⟨fun h=>by obtain ⟨x,hx,he⟩:=List.mem_map.1 h;exact hnot x hx he,hWn⟩
       ·intro x hx
        rcases List.mem_cons.1 hx with rfl | hx
        ·exact ⟨hset,hld⟩
        ·exact ⟨getD_set_true (hW x hx).1,(hW x hx).2⟩
      | false =>
       rw [show addW g W e v=W from by unfold addW;rw [e3,hld];rfl] at hk
       have hnl:reads g.op e v=[]:=by
        have:isLoad g.op=false:=by unfold loadAt at hld;simpa [ho,hc] using hld
        generalize g.op=gg at this
        cases gg <;> first | rfl | cases this
       rw [hnl] at hrun
       have h1:=ih _ _ _ W _ _ _ hr' hk (hh.put hdst v) (by rw [put_defers];exact hd) hl hWn (fun x hx=>⟨getD_set_true (hW x hx).1,(hW x hx).2⟩)
       refine Any.first ho hnd hsel hQp hQo fuel W listed a w hfr hmem (R:=[]) (.inl ⟨hw,hrun⟩) (by simp) ?_
       exact Any.more_nil fuel W _ _ _ h1
     ·rw [e1] at hv
      have h1:=ih _ _ _ W _ _ _ hr' hv (hh.put hdst undef) (by rw [put_defers];exact hd) hl hWn (fun x hx=>⟨getD_set_true (hW x hx).1,(hW x hx).2⟩)
      exact Any.first ho hnd hsel hQp hQo fuel W listed a w (Region.free_spec ho hq.2) hmem (R:=[]) (.inr ⟨hw,rfl⟩) (by simp) (Any.more_nil fuel W _ _ _ h1)
    ·cases hr
   ·have hfree:planFree P N ops (fuel+1) listed (upTo P ops (unl ops listed)) (past P ops (unl ops listed)) (planR P N ops fuel fr)=some r→Any P ops Q ro n (fuel+1) W listed a w:=by
     intro hr
     refine planFree_sound (upTo_past _) hr (fun r' e' a' w' hne hr' hv' hh' hd' hl'=>?_) hv hh hd hl
     have hle:=planFree_le hr
     rw [upTo_past] at hle
     obtain ⟨i,hi⟩:=List.exists_mem_of_ne_nil _ hne
     have hiu:i∈unl ops listed:=by rw [← upTo_past (P:=P) (ops:=ops) (unl ops listed)];exact List.mem_append_left _ hi
     have hlt:=unl_listAll hi hiu
     refine ⟨fuel,by omega,ih _ _ _ W _ _ _ hr' hv' hh' hd' hl' hWn fun x hx=>⟨?_,(hW x hx).2⟩⟩
     have h1:=(hW x hx).1
     have hxs:x.1<listed.size:=by
      rcases Nat.lt_or_ge x.1 listed.size with h' | h'
      ·exact h'
      ·simp [Array.getElem?_eq_none h'] at h1
     rw [getD_lt (by rw [size_listAll];exact hxs) false true,getD_listAll]
     rw [getD_lt hxs false true] at h1
     rw [h1];rfl
    split at hr
    ·exact hfree hr
    split at hr
    ·rename_i i hrd
     split at hr
     ·rename_i g r' hg hr'
      cases hr
      exact Any.only hrd (loud i g r' (by rw [hrd];simp) hg hr' hv)
     ·cases hr
    ·rename_i i j hrd
     split at hr
     ·rename_i g r' g' r'' hg hr' hg' hr''
      cases hr
      exact Any.both hrd (loud i g r' (by rw [hrd];simp) hg hr' hv.1) (loud j g' r'' (by rw [hrd];simp) hg' hr'' hv.2)
     ·cases hr
    ·exact hfree hr
def planO (P:Program) (N:Nat) (ops:Array Oper) (once fr:Bool):Nat→Array Bool→Option GR
 | 0,listed=>planR P N ops 0 fr listed
 | fuel+1,listed=>if once=true then planFree P N ops (fuel+1) listed (upTo P ops (unl ops listed)) (past P ops (unl ops listed)) (planR P N ops fuel fr) else planR P N ops (fuel+1) fr listed
theorem planO_sound {y:Option Nat} {P:Program} {N n:Nat} {ops:Array Oper} {ro:Option Nat} {Q:Exit→Act→World→Prop} {w0:World} {a0:Act} {K:Env→Heap→Prop} (hQ:∀ a w,After y N w0 a0 K a w→Q .normal a w)
  (hnd:∀ (j:Nat) (o:Oper) c,ops[j]?=some o→o.op≠.defer c) (hsel:∀ (j:Nat) (o:Oper) cs b,ops[j]?=some o→o.op≠.select cs b) (hQp:∀ c a w,¬ Q (.panic c) a w) (hQo:∀ a w,¬ Q .outgrown a w)
  (fuel:Nat) (once fr:Bool) (listed:Array Bool) (r:GR) (W:Watch) (e:Env) (a:Act) (w:World) (hr:planO P N ops once fr fuel listed=some r) (hv:rvc P y r W e w.heap K) (hh:Holds N e a) (hd:a.defers=a0.defers) (hl:Like y w0 w)
   (hWn:(W.map (·.1)).Nodup) (hW:∀ x∈W,listed.getD x.1 false=true∧loadAt P ops x.1=true):Any P ops Q ro n fuel W listed a w:=by
 cases fuel with
 | zero=>exact plan_sound hQ hnd hsel hQp hQo 0 fr listed r W e a w hr hv hh hd hl hWn hW
 | succ fuel =>
  simp only [planO] at hr
  split at hr
  ·refine planFree_sound (upTo_past _) hr (fun r' e' a' w' hne hr' hv' hh' hd' hl'=>?_) hv hh hd hl
   have hle:=planFree_le hr
   rw [upTo_past] at hle
   obtain ⟨i,hi⟩:=List.exists_mem_of_ne_nil _ hne
   have hiu:i∈unl ops listed:=by rw [← upTo_past (P:=P) (ops:=ops) (unl ops listed)];exact List.mem_append_left _ hi
   have hlt:=unl_listAll hi hiu
   refine ⟨fuel,by omega,plan_sound hQ hnd hsel hQp hQo fuel _ _ _ W _ _ _ hr' hv' hh' hd' hl' hWn fun x hx=>⟨?_,(hW x hx).2⟩⟩
   have h1:=(hW x hx).1
   have hxs:x.1<listed.size:=by
    rcases Nat.lt_or_ge x.1 listed.size with h' | h'
    ·exact h'
    ·simp [Array.getElem?_eq_none h'] at h1
   rw [getD_lt (by rw [size_listAll];exact hxs) false true,getD_listAll]
   rw [getD_lt hxs false true] at h1
   rw [h1];rfl
  ·exact plan_sound hQ hnd hsel hQp hQo (fuel+1) fr listed r W e a w hr hv hh hd hl hWn hW
end Go.Vc
namespace Go.Vc
open Go
inductive GC where
 | skip
 | ret
 | exit (id:Nat)
 | block (id:Nat) (c:GC)
 | loop (c:GC)
 | seq (a b:GC)
 | cond (x:Operand) (a b:GC)
 | reg (r:GR) (live:List Nat)
 | rng (f:Operand) (ps:List Nat) (asg body:GC)
inductive GX where
 | normal
 | ret
 | exit (id:Nat)
def GX.exit':GX→Exit
 | .normal=>.normal
 | .ret=>.ret
 | .exit id=>.exit id
abbrev Post:=GX→Env→Heap→Prop
def thenQ (K:Env→Heap→Prop) (Q:Post):Post
 | .normal,e,h=>K e h
 | .ret,e,h=>Q .ret e h
 | .exit id,e,h=>Q (.exit id) e h
def blockQ (id:Nat) (Q:Post):Post
 | .normal,e,h=>Q .normal e h
 | .ret,e,h=>Q .ret e h
 | .exit id',e,h=>if id'=id then Q .normal e h else Q (.exit id') e h
theorem thenQ_normal (K:Env→Heap→Prop) (Q:Post) (e:Env) (h:Heap):thenQ K Q .normal e h=K e h:=(rfl)
theorem thenQ_ret (K:Env→Heap→Prop) (Q:Post) (e:Env) (h:Heap):thenQ K Q .ret e h=Q .ret e h:=(rfl)
theorem thenQ_exit (K:Env→Heap→Prop) (Q:Post) (id:Nat) (e:Env) (h:Heap):thenQ K Q (.exit id) e h=Q (.exit id) e h:=(rfl)
theorem blockQ_normal (id:Nat) (Q:Post) (e:Env) (h:Heap):blockQ id Q .normal e h=Q .normal e h:=(rfl)
theorem blockQ_ret (id:Nat) (Q:Post) (e:Env) (h:Heap):blockQ id Q .ret e h=Q .ret e h:=(rfl)
theorem blockQ_exit (id id':Nat) (Q:Post) (e:Env) (h:Heap):blockQ id Q (.exit id') e h=if id'=id then Q .normal e h else Q (.exit id') e h:=(rfl)
def book:Obj→Bool
 | .loop _ | .deferred _=>true
 | _=>false
structure Ext (B:Nat) (h h':Heap):Prop where
 size:h.size≤h'.size
 old:∀ (b:Nat) (x:Obj),h[b]?=some x→(b<B∨book x=false)→h'[b]?=some x
theorem Ext.refl (B:Nat) (h:Heap):Ext B h h:=⟨Nat.le_refl _,fun _ _ h _=>h⟩
theorem Ext.trans {B:Nat} {h h' h'':Heap} (a:Ext B h h') (b:Ext B h' h''):Ext B h h'':=⟨Nat.le_trans a.size b.size,fun x o hx hc=>b.old x o (a.old x o hx hc) hc⟩
def Iter (P:Program) (gf:FuncId) (lb:Array Value) (xs:List (List Value)) (C:Heap→Prop):Prop:=
 goodF P gf=true∧∀ (l:Nat) (I:Nat→Heap→Prop) (X:Heap→Prop),
  (∀ i x h,xs[i]?=some x→I i h→C h→Yld P l x.toArray h fun v h'=>(v=.bool true∧I (i+1) h'∧C h')∨(v=.bool false∧X h')) →
  ∀ h,I 0 h→C h→ConX (some l) P gf (#[.func (.yield l) #[] #[]]++lb) h fun _ h'=>(I xs.length h'∧C h')∨X h'
def roundQ (In:Heap→Prop) (X:GX→Heap→Prop):Post
 | .normal,_,h=>In h
 | .ret,_,h=>X .ret h
 | .exit id,_,h=>X (.exit id) h
def loopVC (body:Post→Env→Heap→Prop) (Q:Post) (e:Env) (h:Heap):Prop:=
 ∃ (α:Type) (E:α→Env) (I:α→Heap→Prop) (μ:α→Nat) (s:α),Le (E s) e∧I s h ∧
  ∀ s h,I s h→body (thenQ (fun e' h'=>∃ s',μ s' < μ s∧Le (E s') e'∧I s' h') Q) (E s) h
def zipE (ps:List Nat) (vs:List Value) (e:Env):Env:=
 match ps,vs with
 | p :: ps,v :: vs=>zipE ps vs ((p,v) :: e)
 | _,_=>e
def rngVC (P:Program) (asg body:Post→Env→Heap→Prop) (ps:List Nat) (fv:Option Value) (Q:Post) (e:Env) (h:Heap):Prop:=
 withV fv fun
 | .func (.func gf) first lb=>Chk (first = #[]) (∃ (xs:List (List Value)) (C:Heap→Prop) (I:Nat→Heap→Prop) (X:GX→Heap→Prop),
   Iter P gf lb xs C∧(∀ x∈xs,x.length=ps.length) ∧
   (∀ h1 h2,Ext h.size h1 h2→C h1→C h2)∧(∀ i h1 h2,Ext h.size h1 h2→I i h1→I i h2)∧(∀ x h1 h2,Ext h.size h1 h2→X x h1→X x h2) ∧
   I 0 h∧C h ∧
   (∀ i x h1,h.size≤h1.size→xs[i]?=some x→I i h1→C h1→asg (thenQ (fun e2 h2=>∀ h2',Ext h.size h2 h2'→body (roundQ (fun h3=>I (i+1) h3∧C h3) X) e2 h2') (fun _ _ _=>False)) (zipE ps x e) h1) ∧
   (∀ h',h.size≤h'.size→I xs.length h'→C h'→Q .normal e h') ∧
   (∀ x h',h.size≤h'.size→X x h'→x≠.normal∧Q x e h'))
 | _=>False
def vc (P:Program) (y:Option Nat):GC→Post→Env→Heap→Prop
 | .skip,Q,e,h=>Q .normal e h
 | .ret,Q,e,h=>Q .ret e h
 | .exit id,Q,e,h=>Q (.exit id) e h
 | .block id c,Q,e,h=>vc P y c (blockQ id Q) e h
 | .loop c,Q,e,h=>loopVC (vc P y c) Q e h
 | .seq a b,Q,e,h=>vc P y a (thenQ (vc P y b Q) Q) e h
 | .cond x a b,Q,e,h=>withB (ev e x) fun t=>If (t=true) (vc P y a Q e h) (vc P y b Q e h)
 | .reg r live,Q,e,h=>rvc P y r [] e h fun e h=>Q .normal (only live e) h
 | .rng f ps asg body,Q,e,h=>Chk (y=none) (rngVC P (vc P y asg) (vc P y body) ps (ev e f) Q e h)
def alook:List (Nat×List Nat)→Nat→List Nat
 | [],_=>[]
 | (k,l) :: r,i=>if k=i then l else alook r i
def noDefers (ops:Array Oper):Bool:=ops.all fun o=>match o.op with | .defer _ | .select ..=>false | _=>true
def compile (P:Program) (N:Nat) (T:List (Nat×List Nat)) (inR:Bool):Code→Option GC
 | .skip=>some .skip
 | .ret=>some .ret
 | .exit id=>some (.exit id)
 | .label _=>some .skip
 | .scope c=>compile P N T inR c
 | .block id c=>(compile P N T inR c).map (.block id)
 | .loop c=>(compile P N T inR c).map .loop
 | .seq a b=>(compile P N T inR a).bind fun x=>(compile P N T inR b).map fun y=>.seq x y
 | .cond x a b=>(compile P N T inR a).bind fun u=>(compile P N T inR b).map fun v=>.cond x u v
 | .region id ops draw =>
  if draw then
   if (P.follows .mixedOrders||!Region.departs ops)&&noDefers ops then (planO P N ops (memN 1000001 (alook T id)) (memN 1000000 (alook T id)) ops.size (Array.replicate ops.size false)).map fun r=>.reg r (alook T id) else none
  else (lineR P N ops (List.range ops.size)).map fun r=>.reg r (alook T id)
 | .rangeFunc f ps asg body=>if !inR&&ps.all (fun p=>decide (p<N)) then (compile P N T true asg).bind fun x=>(compile P N T true body).map fun y=>.rng f ps.toList x y else none
 | _=>none
def GC.hasRng:GC→Bool
 | .block _ c | .loop c=>c.hasRng
 | .seq a b | .cond _ a b=>a.hasRng||b.hasRng
 | .rng ..=>true
 | _=>false
def mark (D:Nat):Deferred:={ target:=.collected D,args:=#[] }
def Cur (y:Option Nat) (N:Nat) (w0:World) (m:Bool) (e:Env) (a:Act) (w:World):Prop:=
 Holds N e a∧(∃ ds:List Nat,a.defers=ds.map mark∧ds.Pairwise (· > ·)∧(∀ D∈ds,w0.heap.size≤D∧w.heap[D]?=some (.deferred (some [])))∧(m=false→ds=[]))∧Like y w0 w
def PostW (y:Option Nat) (N:Nat) (w0:World) (m:Bool) (Q:Post):Exit→Act→World→Prop:=fun x a w =>
 ∃ gx e,x=GX.exit' gx∧Cur y N w0 m e a w∧Q gx e w.heap
theorem Cur.to {y:Option Nat} {N:Nat} {w0 w w':World} {m:Bool} {e e':Env} {a a':Act} (h:Cur y N w0 m e a w) (hh:Holds N e' a') (hd:a'.defers=a.defers) (hl:Like y w w'):Cur y N w0 m e' a' w':=by
 obtain ⟨_,⟨ds,h1,h2,h3,h4⟩,h5⟩:=h
 exact ⟨hh,⟨ds,hd.trans h1,h2,fun D hD=>⟨(h3 D hD).1,hl.keepD D (h3 D hD).2⟩,h4⟩,h5.trans hl⟩
theorem noDefers_spec {ops:Array Oper} (h:noDefers ops=true) (j:Nat) (o:Oper) (ho:ops[j]?=some o):(∀ c,o.op≠.defer c)∧∀ cs b,o.op≠.select cs b:=by
 have:=Array.all_eq_true_iff_forall_mem.1 h o (Array.mem_of_getElem? ho)
 constructor
 ·intro c hc;rw [hc] at this;cases this
 ·intro c b hc;rw [hc] at this;cases this
theorem schedule_any {P:Program} {ops:Array Oper} (h:(P.follows .mixedOrders||!Region.departs ops)=true) (t:Nat):Region.schedule (P.follows .mixedOrders) ops t=Region.linearise .any ops t:=by
 unfold Region.schedule
 rw [if_pos h]
theorem region_sound {y:Option Nat} {P:Program} {N n:Nat} {T:List (Nat×List Nat)} {inR:Bool} {id:Nat} {ops:Array Oper} {draw:Bool} {g:GC} (hc:compile P N T inR (.region id ops draw)=some g) {ro:Option Nat} {w0:World} {m:Bool} {Q:Post} {e:Env} {a:Act} {w:World}
  (hcur:Cur y N w0 m e a w) (hv:vc P y g Q e w.heap):(Code.region id ops draw).wpIn (fw ro) n P (PostW y N w0 m Q) a w:=by
 have fin:∀ (w1:World),Like y w w1→w1.heap=w.heap→∀ live a' w',After y N w1 a (fun e h=>Q .normal (only live e) h) a' w'→PostW y N w0 m Q .normal a' w':=by
  rintro w1 hl1 _ live a' w' ⟨e',hh,hd,hl,hq⟩
  exact ⟨.normal,_,rfl,hcur.to (hh.only live) hd (hl1.trans hl),hq⟩
 unfold compile at hc
 cases draw with
 | false =>
  simp only [Bool.false_eq_true,if_false,Option.map_eq_some_iff] at hc
  obtain ⟨r,hr,rfl⟩:=hc
  exact wpIn_region (line_sound (w0:=w) (a0:=a) (fin w (.refl _ _) rfl _) _ _ _ _ _ hr hv hcur.1 rfl (.refl _ _))
 | true =>
  simp only [if_true] at hc
  split at hc
  ·rename_i hcond
   simp only [Bool.and_eq_true] at hcond
   simp only [Option.map_eq_some_iff] at hc
   obtain ⟨r,hr,rfl⟩:=hc
   refine wpIn_region_draw fun t=>?_
   rw [schedule_any hcond.1]
   refine wpAnyIn_sound ops.size t _ a _ ?_
   have hno:=noDefers_spec hcond.2
   have hl1:Like y w { w with drawn:=w.drawn+1 }:=like_draw w _
   refine (planO_sound (w0:={ w with drawn:=w.drawn+1 }) (a0:=a) (fin _ hl1 rfl _) (fun j o c ho=>(hno j o ho).1 c) (fun j o cs b ho=>(hno j o ho).2 cs b) ?_ ?_ _ _ _ _ _ [] _ _ { w with drawn:=w.drawn+1 } hr hv hcur.1 rfl (.refl _ _) (by simp) (by simp)).any
   ·rintro c a' w' ⟨gx,_,hx,_⟩;cases gx <;> cases hx
   ·rintro a' w' ⟨gx,_,hx,_⟩;cases gx <;> cases hx
  ·cases hc
theorem Holds.zipE {N:Nat}:∀ (ps:List Nat) (vs:List Value) {e:Env} {tmps:Array Value} {ds:List Deferred},(∀ p∈ps,p<N)→Holds N e { tmps,defers:=ds } →
  Holds N (Vc.zipE ps vs e) { tmps:=(ps.zip vs).foldl (fun t (x:Nat×Value)=>t.setIfInBounds x.1 x.2) tmps,defers:=ds }
 | [],_,_,_,_,_,h=>by simpa [Vc.zipE] using h
 | _ :: _,[],_,_,_,_,h=>by simpa [Vc.zipE] using h
 | p :: ps,v :: vs,e,tmps,ds,hp,h=>by
  simp only [Vc.zipE,List.zip_cons_cons,List.foldl_cons]
  have h1:=h.put (dst:=some p) (fun d hd=>by cases hd;exact hp p (by simp)) v
  exact Holds.zipE ps vs (fun q hq=>hp q (by simp [hq])) h1
theorem ext_putObj {B l:Nat} {h:Heap} {r:Loop} {x:Obj} (hl:B≤l) (hr:h[l]?=some (.loop r)):Ext B h (h.setIfInBounds l x):=
 ⟨by simp,fun b y hy hc=>by
  by_cases hb:l=b
  ·subst hb
   rw [hr] at hy;cases hy
   rcases hc with hc | hc
   ·omega
   ·cases hc
  ·rw [Array.getElem?_setIfInBounds_ne hb];exact hy⟩
theorem ext_push {B:Nat} {h:Heap} {x:Obj}:Ext B h (h.push x):=
 ⟨by simp,fun b y hy _=>by
  have:=(Array.getElem?_eq_some_iff.1 hy).1
  rw [Array.getElem?_push,if_neg (by omega)];exact hy⟩
theorem like_setObj {w:World} {l:Nat} {r:Loop} {x:Obj} (hr:w.heap[l]?=some (.loop r)):Like (some l) w { w with heap:=w.heap.setIfInBounds l x }:=
 ⟨rfl,rfl,rfl,by simp,fun D hD=>by
  have:l≠D:=fun e=>by subst e;rw [hr] at hD;cases hD
  simp only
  rw [Array.getElem?_setIfInBounds_ne this];exact hD,fun k r' hk hr'=>by
  have:l≠k:=fun e=>hk (by rw [e])
  simp only
  rw [Array.getElem?_setIfInBounds_ne this];exact hr'⟩
theorem get_setObj {h:Heap} {l:Nat} {x y:Obj} (hr:h[l]?=some x):(h.setIfInBounds l y)[l]?=some y:=by
 have:=(Array.getElem?_eq_some_iff.1 hr).1
 simp [this]
theorem run_getLoop' {P:Program} {w:World} {l:Nat} {r:Loop} (hr:w.heap[l]?=some (.loop r)):(Instr.getLoop l).run P w=.ok r w:=by
 simp [Instr.getLoop,getObj,Sem.run,hr]
theorem run_setObj' {P:Program} {w:World} {l:Nat} {r:Loop} {x:Obj} (hr:w.heap[l]?=some (.loop r)):(setObj l x).run P w=.ok () { w with heap:=w.heap.setIfInBounds l x }:=by
 simp [setObj,Sem.run,hr]
theorem wpIn_scope' {F:Fence} {n:Nat} {P:Program} {c:Code} {Q:Exit→Act→World→Prop} {a:Act} {w:World} (hng:∀ l a w,¬ Q (.goto l) a w) (h:c.wpIn F n P Q a w):(Code.scope c).wpIn F n P Q a w:=by
 intro b k cs hro hb hr
 have s1:step P (lone (b.atR a (.code (.scope c) :: k)) cs w)=.next (lone (b.atR a (.code c :: .inScope c :: k)) cs w):=
  step_lone_go (by simp [stepG,stepG.exec,Frame.atR])
 have i1:(lone (b.atR a (.code (.scope c) :: k)) cs w).fenced P F:=fenced_calm hb hr rfl
 obtain ⟨e,a₁,w₁,hq,harr⟩:=h b (.inScope c :: k) cs hro hb hr
 have s2:step P (lone (b.atR a₁ (.inScope c :: k)) cs w₁)=.next (lone (b.atR a₁ k) cs w₁):=
  step_lone_go (by simp [stepG,stepG.exec,Frame.atR])
 have i2:(lone (b.atR a₁ (.inScope c :: k)) cs w₁).fenced P F:=fenced_calm hb hr rfl
 cases e with
 | normal=>exact ⟨.normal,a₁,w₁,hq,.head i1 s1 (StepsIn.trans harr (.one i2 s2))⟩
 | exit id =>
  have hx:∀ k:List Item,exitTo id (.inScope c :: k)=exitTo id k:=fun _=>rfl
  exact ⟨.exit id,a₁,w₁,hq,⟨fun k' hk=>.head i1 s1 (harr.1 k' (by rw [hx];exact hk)),fun hr hk=>let ⟨k₁,h1,h2⟩:=harr.2 hr (by rw [hx];exact hk);⟨k₁,h1,.head i1 s1 h2⟩⟩⟩
 | goto l=>exact (hng l _ _ hq).elim
 | ret=>exact ⟨_,a₁,w₁,hq,.of_steps (.one i1 s1) harr⟩
 | panic ch=>exact ⟨_,a₁,w₁,hq,.of_steps (.one i1 s1) harr⟩
 | outgrown=>exact ⟨_,a₁,w₁,hq,.of_steps (.one i1 s1) harr⟩
def jumpOf:GX→Option Code
 | .normal=>none
 | .ret=>some .ret
 | .exit id=>some (.exit id)
def goal (P:Program) (N:Nat) (T:List (Nat×List Nat)) (c:Code):Prop:=
 ∀ (inR:Bool) (g:GC),compile P N T inR c=some g→∀ (n:Nat) (y ro:Option Nat) (w0:World) (m:Bool) (Q:Post) (e:Env) (a:Act) (w:World),(g.hasRng=true→m=true∧ro=none)→(inR=true∨ro=none) →
  Cur y N w0 m e a w→vc P y g Q e w.heap→c.wpIn (fw ro) n P (PostW y N w0 m Q) a w
theorem compile_inR {P:Program} {N:Nat} {T:List (Nat×List Nat)}:∀ (c:Code) (g:GC),compile P N T true c=some g→g.hasRng=false
 | .skip,_,h=>by cases h;rfl
 | .ret,_,h=>by cases h;rfl
 | .exit _,_,h=>by cases h;rfl
 | .block _ c,_,h=>by
  simp only [compile,Option.map_eq_some_iff] at h
  obtain ⟨g,hg,rfl⟩:=h
  exact compile_inR c g hg
 | .loop c,_,h=>by
  simp only [compile,Option.map_eq_some_iff] at h
  obtain ⟨g,hg,rfl⟩:=h
  exact compile_inR c g hg
 | .seq a b,_,h=>by
  simp only [compile,Option.bind_eq_some_iff,Option.map_eq_some_iff] at h
  obtain ⟨x,hx,y,hy,rfl⟩:=h
  simp [GC.hasRng,compile_inR a x hx,compile_inR b y hy]
 | .cond _ a b,_,h=>by
  simp only [compile,Option.bind_eq_some_iff,Option.map_eq_some_iff] at h
  obtain ⟨x,hx,y,hy,rfl⟩:=h
  simp [GC.hasRng,compile_inR a x hx,compile_inR b y hy]
 | .region _ _ _,_,h=>by
  unfold compile at h
  (repeat' split at h) <;> first | cases h | (simp only [Option.map_eq_some_iff] at h;obtain ⟨_,_,rfl⟩:=h;rfl)
 | .rangeFunc _ _ _ _,_,h=>by
  unfold compile at h
  split at h
  ·rename_i hc;simp at hc
  ·cases h
 | .scope c,g,h=>compile_inR c g h
 | .label _,_,h=>by cases h;rfl
 | .goto _,_,h=>by cases h
 | .refuse _,_,h=>by cases h
theorem vc_sound {P:Program} {N:Nat} {T:List (Nat×List Nat)}:∀ (c:Code),goal P N T c
 | .skip=>by
  intro inR g hc n y ro w0 m Q e a w _ _ hcur hv
  cases hc
  exact wpIn_skip ⟨.normal,e,rfl,hcur,hv⟩
 | .ret=>by
  intro inR g hc n y ro w0 m Q e a w _ _ hcur hv
  cases hc
  exact wpIn_ret ⟨.ret,e,rfl,hcur,hv⟩
 | .exit id=>by
  intro inR g hc n y ro w0 m Q e a w _ _ hcur hv
  cases hc
  exact wpIn_exit ⟨.exit id,e,rfl,hcur,hv⟩
 | .block id c=>by
  intro inR g hc n y ro w0 m Q e a w hm hr hcur hv
  simp only [compile,Option.map_eq_some_iff] at hc
  obtain ⟨g,hg,rfl⟩:=hc
  refine wpIn_block (wpIn_mono (vc_sound c inR g hg n y ro w0 m _ e a w hm hr hcur hv) ?_)
  rintro x a' w' ⟨gx,e',rfl,hcur',hq⟩
  cases gx with
  | normal=>exact ⟨.normal,e',rfl,hcur',hq⟩
  | ret=>exact ⟨.ret,e',rfl,hcur',hq⟩
  | exit id' =>
   simp only [blockQ] at hq
   simp only [GX.exit',Exit.inBlock]
   split
   ·rename_i h;rw [if_pos h] at hq;exact ⟨.normal,e',rfl,hcur',hq⟩
   ·rename_i h;rw [if_neg h] at hq;exact ⟨.exit id',e',rfl,hcur',hq⟩
 | .loop c=>by
  intro inR g hc n y ro w0 m Q e a w hm hr hcur hv
  simp only [compile,Option.map_eq_some_iff] at hc
  obtain ⟨g,hg,rfl⟩:=hc
  obtain ⟨α,E,I,μ,s0,hle,hI,hround⟩:=hv
  refine wpIn_loop_ghost (fun k a w=>∃ s,μ s=k∧Cur y N w0 m (E s) a w∧I s w.heap) (μ s0) ⟨s0,rfl,hcur.to (hcur.1.le hle) rfl (.refl _ _),hI⟩ ?_
  rintro k a w ⟨s,rfl,hcur,hI⟩
  refine wpIn_mono (vc_sound c inR g hg n y ro w0 m _ (E s) a w hm hr hcur (hround s _ hI)) ?_
  rintro x a' w' ⟨gx,e',rfl,hcur',hq⟩
  cases gx with
  | normal =>
   obtain ⟨s',hlt,hle',hI'⟩:=hq
   exact ⟨μ s',hlt,s',rfl,hcur'.to (hcur'.1.le hle') rfl (.refl _ _),hI'⟩
  | ret=>exact ⟨.ret,e',rfl,hcur',hq⟩
  | exit id=>exact ⟨.exit id,e',rfl,hcur',hq⟩
 | .seq p q=>by
  intro inR g hc n y ro w0 m Q e a w hm hr hcur hv
  simp only [compile,Option.bind_eq_some_iff,Option.map_eq_some_iff] at hc
  obtain ⟨gx,hx,gy,hy,rfl⟩:=hc
  have hm1:gx.hasRng=true→m=true∧ro=none:=fun h=>hm (by simp [GC.hasRng,h])
  have hm2:gy.hasRng=true→m=true∧ro=none:=fun h=>hm (by simp [GC.hasRng,h])
  refine wpIn_seq (wpIn_mono (vc_sound p inR gx hx n y ro w0 m _ e a w hm1 hr hcur hv) ?_)
  rintro z a' w' ⟨gz,e',rfl,hcur',hq⟩
  cases gz with
  | normal=>exact vc_sound q inR gy hy n y ro w0 m Q e' a' w' hm2 hr hcur' hq
  | ret=>exact ⟨.ret,e',rfl,hcur',hq⟩
  | exit id=>exact ⟨.exit id,e',rfl,hcur',hq⟩
 | .cond x u v=>by
  intro inR g hc n y ro w0 m Q e a w hm hr hcur hv
  simp only [compile,Option.bind_eq_some_iff,Option.map_eq_some_iff] at hc
  obtain ⟨gu,hu,gv,hv',rfl⟩:=hc
  obtain ⟨t,ht,hif⟩:=withB_elim hv
  have hm1:gu.hasRng=true→m=true∧ro=none:=fun h=>hm (by simp [GC.hasRng,h])
  have hm2:gv.hasRng=true→m=true∧ro=none:=fun h=>hm (by simp [GC.hasRng,h])
  refine wpIn_cond_split (hcur.1.ev ht) (fun h=>?_) (fun h=>?_)
  ·exact vc_sound u inR gu hu n y ro w0 m Q e a w hm1 hr hcur (hif.1 h)
  ·exact vc_sound v inR gv hv' n y ro w0 m Q e a w hm2 hr hcur (hif.2 (by simp [h]))
 | .region id ops draw=>by
  intro inR g hc n y ro w0 m Q e a w _ _ hcur hv
  exact region_sound hc hcur hv
 | .rangeFunc f ps asg body=>by
  intro inR g hc n y ro w0 m Q e a w hm hr hcur hv
  simp only [compile] at hc
  split at hc
  ·rename_i hcond
   simp only [Bool.and_eq_true,Bool.not_eq_true',Array.all_eq_true] at hcond
   simp only [Option.bind_eq_some_iff,Option.map_eq_some_iff] at hc
   obtain ⟨ga,hga,gb,hgb,rfl⟩:=hc
   obtain ⟨rfl,rfl⟩:=hm rfl
   obtain ⟨rfl,hv⟩:=hv
   obtain ⟨fv,hfv,hv⟩:=withV_elim hv
   split at hv
   ·rename_i vv gf first lb
    obtain ⟨rfl,xs,C,I,X,hit,hlen,hCs,hIs,hXs,hI0,hC0,hround,hdone,hstop⟩:=hv
    have hpsN:∀ p∈ps.toList,p<N:=fun p hp=>by
     obtain ⟨i,hi,rfl⟩:=List.mem_iff_getElem.1 hp
     simpa using hcond.2 i (by simpa using hi)
    have hgood:=hit.1
    have henter:∀ (vs:Array Value) (w1:World),(callFunc gf vs).run P w1=.ok (.enter gf vs) w1:=by
     intro vs w1
     unfold goodF at hgood
     split at hgood
     ·rename_i fn hfn
      simp only [Bool.and_eq_true,bne_iff_ne,ne_eq] at hgood
      have hbn:¬ fn.body=none:=by intro hb;rw [hb] at hgood;exact absurd hgood.2 (by simp)
      simp [callFunc,program,Sem.run,hfn,hgood.1,hbn]
     ·cases hgood
    refine wpIn_rangeFunc ?_
    intro fn _
    obtain ⟨rec,hrec⟩:∃ rec:LoopState→Option Code→Loop,rec=fun st pe=>{ state:=st,pending:=pe,fn,tmps:=a.tmps,params:=ps,assign:=asg,body,defers:=w.heap.size }:=⟨_,rfl⟩
    obtain ⟨l,hl⟩:∃ l,l=w.heap.size+1:=⟨_,rfl⟩
    obtain ⟨w1,hw1⟩:∃ w1:World,w1={ w with heap:=(w.heap.push (.deferred (some []))).push (.loop (rec .ready none)) }:=⟨_,rfl⟩
    have hL1:w1.heap[l]?=some (.loop (rec .ready none)):=by rw [hw1,hl];simp only;rw [Array.getElem?_push,if_pos (by simp)]
    have hD1:w1.heap[w.heap.size]?=some (.deferred (some [])):=by rw [hw1];simp only;rw [Array.getElem?_push,if_neg (by simp),Array.getElem?_push,if_pos rfl]
    have hext1:Ext w.heap.size w.heap w1.heap:=by rw [hw1];exact ext_push.trans ext_push
    have hlike1:Like none w w1:=by
     rw [hw1]
     exact (like_push w (.deferred (some []))).trans (like_push { w with heap:=w.heap.push (.deferred (some [])) } (.loop (rec .ready none)))
    refine ⟨l,[mark w.heap.size],w1,{ target:=.fn (.func gf) lb,args:=#[.func (.yield l) #[] #[]] },w1,gf,#[.func (.yield l) #[] #[]]++lb,w1,?_,?_,fun _ _=>trivial,?_,fun hs=>by simp [fw] at hs,?_⟩
    ·rw [hw1,hl,hrec]
     show (Instr.enterLoop fn a.tmps ps asg body none).run P w=_
     simp only [Instr.enterLoop,newObj,Sem.run_bind,Sem.run,Result.andThen,Sem.run_pure,Array.size_push]
     rfl
    ·simp only [resolve,hcur.1.ev hfv]
     simp [Deferred.ofValue,Act.eval]
    ·simp only [invoke];exact henter _ _
    ·refine (callsIn_fw ?_)
     have hcon:=hit.2 l (fun i h=>I i h∧h[l]?=some (.loop (rec .ready none))∧w.heap.size≤h.size)
      (fun h=>∃ x,x≠GX.normal∧X x h∧h[l]?=some (.loop (rec .done (jumpOf x)))∧w.heap.size≤h.size) ?rounds w1.heap ⟨hIs _ _ _ hext1 hI0,hL1,hext1.size⟩ (hCs _ _ hext1 hC0)
     case rounds =>
      rintro i x h hx ⟨hI,hLh,hsz⟩ hC w' rfl
      have hxl:x.length=ps.size:=by
       have:=hlen x (List.mem_of_getElem? hx);simpa using this
      refine ⟨fn,(ps.zip x.toArray).foldl (fun tmps (t,a)=>tmps.setIfInBounds t a) a.tmps,asg,body,?_,?_⟩
      ·simp only [Instr.yield,Sem.run_bind,run_getLoop' hLh,Result.andThen]
       rw [hrec]
       simp [hxl]
      ·
       have hz:(ps.zip x.toArray).foldl (fun tmps (t,a)=>tmps.setIfInBounds t a) a.tmps=(ps.toList.zip x).foldl (fun t (x:Nat×Value)=>t.setIfInBounds x.1 x.2) a.tmps:=by
        rw [← Array.foldl_toList];simp
       rw [hz]
       refine roundIn_of_wpIn (F:=fw none) trivial ?_
       have hh0:Holds N (Vc.zipE ps.toList x e) { tmps:=(ps.toList.zip x).foldl (fun t (x:Nat×Value)=>t.setIfInBounds x.1 x.2) a.tmps,defers:=[] }:=
        Holds.zipE _ _ hpsN hcur.1
       have hc0:Cur none N w' false (Vc.zipE ps.toList x e) { tmps:=(ps.toList.zip x).foldl (fun t (x:Nat×Value)=>t.setIfInBounds x.1 x.2) a.tmps,defers:=[] } w':=
        ⟨hh0,⟨[],rfl,.nil,by simp,fun _=>rfl⟩,.refl _ _⟩
       refine wpIn_mono (vc_sound asg true ga hga 0 none (some l) w' false _ _ _ _ (by rw [compile_inR asg ga hga];simp) (.inl rfl) hc0 (hround i x _ hsz hx hI hC)) ?_
       rintro ex a1 w2 ⟨gx,e1,rfl,hcur1,hq⟩
       cases gx with
       | ret=>exact hq.elim
       | exit id=>exact hq.elim
       | normal =>
        have hL2:=hcur1.2.2.keepL l _ (by simp) hLh
        have hsz2:w.heap.size≤w2.heap.size:=Nat.le_trans hsz hcur1.2.2.size
        obtain ⟨w3,hw3⟩:∃ w3:World,w3={ w2 with heap:=w2.heap.setIfInBounds l (.loop (rec .busy none)) }:=⟨_,rfl⟩
        refine ⟨w3,?_,?_⟩
        ·simp only [Instr.beginRound,Sem.run_bind,run_getLoop' hL2,Result.andThen,run_setObj' hL2]
         rw [hw3,hrec];rfl
        ·have hle:w.heap.size≤l:=by omega
         have hext2:Ext w.heap.size w2.heap w3.heap:=by rw [hw3];exact ext_putObj hle hL2
         have hL3:w3.heap[l]?=some (.loop (rec .busy none)):=by rw [hw3];exact get_setObj hL2
         have hlike2:Like (some l) w2 w3:=by rw [hw3];exact like_setObj hL2
         have hdef:a1.defers=[]:=by
          obtain ⟨_,⟨ds,h1,_,_,h4⟩,_⟩:=hcur1
          rw [h1,h4 rfl];rfl
         have hc3:Cur none N w3 false e1 a1 w3:=⟨hcur1.1,⟨[],by rw [hdef];rfl,.nil,by simp,fun _=>rfl⟩,.refl _ _⟩
         refine wpIn_mono (vc_sound body true gb hgb 0 none (some l) w3 false _ _ _ _ (by rw [compile_inR body gb hgb];simp) (.inl rfl) hc3 (hq _ hext2)) ?_
         have hlike03:Like (some l) w' w3:=hcur1.2.2.any.trans hlike2
         rintro ex a2 w4 ⟨gx,e2,rfl,hcur2,hq2⟩
         have hL4:=hcur2.2.2.keepL l _ (by simp) hL3
         have hsz4:w.heap.size≤w4.heap.size:=by
          have h1:=hcur2.2.2.size
          have h2:w3.heap.size=w2.heap.size:=by rw [hw3];simp
          omega
         have fin:∀ (gx:GX) (st:LoopState) (v:Bool),st=(if (jumpOf gx).isNone then .ready else .done)→v=(jumpOf gx).isNone →
           (Instr.endRound l (jumpOf gx)).run P w4=.ok (.bool v) { w4 with heap:=w4.heap.setIfInBounds l (.loop (rec st (jumpOf gx))) }:=by
          rintro gx st v rfl rfl
          simp only [Instr.endRound,Sem.run_bind,run_getLoop' hL4,Result.andThen,run_setObj' hL4,Sem.run_pure]
          rw [hrec]
         have hlike4:∀ o,Like (some l) w' { w4 with heap:=w4.heap.setIfInBounds l o }:=fun o=>(hlike03.trans hcur2.2.2.any).trans (like_setObj hL4)
         have hext4:∀ o,Ext w.heap.size w4.heap (w4.heap.setIfInBounds l o):=fun o=>ext_putObj hle hL4
         cases gx with
         | normal =>
          refine ⟨.bool true,_,fin .normal .ready true rfl rfl,.bool true,rfl,.inl ⟨rfl,⟨hIs _ _ _ (hext4 _) hq2.1,get_setObj hL4,?_⟩,hCs _ _ (hext4 _) hq2.2⟩,hlike4 _⟩
          simpa using hsz4
         | ret =>
          refine ⟨.bool false,_,fin .ret .done false rfl rfl,.bool false,rfl,.inr ⟨rfl,.ret,by simp,hXs _ _ _ (hext4 _) hq2,get_setObj hL4,?_⟩,hlike4 _⟩
          simpa using hsz4
         | exit id =>
          refine ⟨.bool false,_,fin (.exit id) .done false rfl rfl,.bool false,rfl,.inr ⟨rfl,.exit id,by simp,hXs _ _ _ (hext4 _) hq2,get_setObj hL4,?_⟩,hlike4 _⟩
          simpa using hsz4
     ·
      refine (hcon.2 w1 rfl).mono ?_
      rintro ee w3 ⟨v,rfl,hres,hlk⟩
      have hD3:=hlk.keepD _ hD1
      obtain ⟨hh,⟨ds,hd1,hd2,hd3,hd4⟩,hlk0⟩:=hcur
      have hdnew:∀ (w4:World),Like (some l) w3 w4→Cur none N w0 true e { a with defers:=[mark w.heap.size]++a.defers } w4∨True:=fun _ _=>.inr trivial
      have hcur4:∀ (o:Obj) (r:Loop),w3.heap[l]?=some (.loop r)→Cur none N w0 true e { a with defers:=[mark w.heap.size]++a.defers } { w3 with heap:=w3.heap.setIfInBounds l o }:=by
       intro o r hr3
       have hlk3:=like_setObj (x:=o) hr3
       have hnew:∀ (k:Nat) (rr:Loop),w0.heap[k]?=some (.loop rr)→l≠k:=fun k rr hk he=>by
        have:=(Array.getElem?_eq_some_iff.1 hk).1
        have:=hlk0.size
        omega
       refine ⟨hh,⟨w.heap.size :: ds,by simp [hd1],?_,?_,by simp⟩,?_⟩
       ·refine List.pairwise_cons.2 ⟨fun D hD=>?_,hd2⟩
        have:=(Array.getElem?_eq_some_iff.1 (hd3 D hD).2).1
        exact this
       ·intro D hD
        rcases List.mem_cons.1 hD with rfl | hD
        ·exact ⟨hlk0.size,hlk3.keepD _ hD3⟩
        ·exact ⟨(hd3 D hD).1,hlk3.keepD _ (hlk.keepD _ (hlike1.keepD _ (hd3 D hD).2))⟩
       ·have h1:Like (some l) w0 { w3 with heap:=w3.heap.setIfInBounds l o }:=(hlk0.any.trans hlike1.any).trans (hlk.trans hlk3)
        exact ⟨h1.os,h1.output,h1.tape,h1.size,h1.keepD,fun k rr _ hk=>h1.keepL k rr (fun he=>hnew k rr hk (by cases he;rfl)) hk⟩
      rcases hres with ⟨⟨hI,hL3,hsz3⟩,hC⟩ | ⟨x,hx,hX,hL3,hsz3⟩
      ·refine ⟨none,{ w3 with heap:=w3.heap.setIfInBounds l (.loop { rec .ready none with state:=.exhausted }) },?_,?_⟩
       ·simp only [Instr.endLoop,Sem.run_bind,run_getLoop' hL3,Result.andThen]
        rw [hrec]
        simp [run_setObj' hL3]
       ·have hext3:=ext_putObj (B:=w.heap.size) (x:=.loop { rec .ready none with state:=.exhausted }) (show w.heap.size≤l by omega) hL3
        exact ⟨.normal,e,rfl,hcur4 _ _ hL3,hdone _ (by simpa using hsz3) (hIs _ _ _ hext3 hI) (hCs _ _ hext3 hC)⟩
      ·have hext3:=ext_putObj (B:=w.heap.size) (x:=.loop { rec .done (jumpOf x) with state:=.exhausted }) (show w.heap.size≤l by omega) hL3
       have hq:=hstop x _ (by simpa using hsz3) (hXs _ _ _ hext3 hX)
       refine ⟨jumpOf x,{ w3 with heap:=w3.heap.setIfInBounds l (.loop { rec .done (jumpOf x) with state:=.exhausted }) },?_,?_⟩
       ·simp only [Instr.endLoop,Sem.run_bind,run_getLoop' hL3,Result.andThen]
        rw [hrec]
        simp [run_setObj' hL3]
       ·cases x with
        | normal=>exact absurd rfl hx
        | ret=>exact wpIn_ret ⟨.ret,e,rfl,hcur4 _ _ hL3,hq.2⟩
        | exit id=>exact wpIn_exit ⟨.exit id,e,rfl,hcur4 _ _ hL3,hq.2⟩
   ·exact hv.elim
  ·cases hc
 | .scope c=>by
  intro inR g hc n y ro w0 m Q e a w hm hr hcur hv
  exact wpIn_scope' (fun l a w ⟨gx,_,hx,_⟩=>by cases gx <;> cases hx) (vc_sound c inR g hc n y ro w0 m Q e a w hm hr hcur hv)
 | .label _=>by
  intro inR g hc n y ro w0 m Q e a w _ _ hcur hv
  cases hc
  exact wpIn_label ⟨.normal,e,rfl,hcur,hv⟩
 | .goto _=>by intro inR g hc;cases hc
 | .refuse _=>by intro inR g hc;cases hc
end Go.Vc
namespace Go.Vc
open Go
inductive RV where
 | tmp (t:Nat)
 | cell (t:Nat) (agg:Option Nat)
def compileRes (P:Program):List ResultVar→Option (List RV)
 | []=>some []
 | .tmp t :: l=>(compileRes P l).map (.tmp t :: ·)
 | .cell t ty :: l=>(aggT P ty).bind fun ag=>(compileRes P l).map (.cell t ag :: ·)
def withRes (e:Env) (h:Heap):List RV→(List Value→Prop)→Prop
 | [],K=>K []
 | .tmp t :: l,K=>withV (find e t) fun v=>withRes e h l fun vs=>K (v :: vs)
 | .cell t none :: l,K=>withP (find e t) fun b o=>withV (hcell h b o) fun v=>withRes e h l fun vs=>K (v :: vs)
 | .cell t (some n) :: l,K=>withP (find e t) fun b o=>withC h b o n fun cs=>withRes e h l fun vs=>K (.agg cs.toArray :: vs)
def retV:List Value→Value
 | [v]=>v
 | vs=>.tuple vs.toArray
def retQ (rs:List RV) (R:Value→Heap→Prop):Post
 | .normal,e,h=>withRes e h rs fun vs=>R (retV vs) h
 | .ret,e,h=>withRes e h rs fun vs=>R (retV vs) h
 | .exit _,_,_=>False
theorem retQ_normal (rs:List RV) (R:Value→Heap→Prop) (e:Env) (h:Heap):retQ rs R .normal e h=withRes e h rs fun vs=>R (retV vs) h:=(rfl)
theorem retQ_ret (rs:List RV) (R:Value→Heap→Prop) (e:Env) (h:Heap):retQ rs R .ret e h=withRes e h rs fun vs=>R (retV vs) h:=(rfl)
def argsE:Nat→List Value→Env
 | _,[]=>[]
 | k,v :: vs=>(k,v) :: argsE (k+1) vs
theorem find_argsE:∀ (vs:List Value) (k t:Nat) (v:Value),find (argsE k vs) t=some v→k≤t∧vs[t - k]?=some v
 | [],_,_,_,h=>by simp [argsE,find] at h
 | u :: vs,k,t,v,h=>by
  simp only [argsE,find] at h
  split at h
  ·rename_i hk;subst hk;cases h;simp
  ·rename_i hk
   obtain ⟨h1,h2⟩:=find_argsE vs (k+1) t v h
   refine ⟨by omega,?_⟩
   rw [show t - k=(t - (k+1))+1 from by omega]
   simpa using h2
theorem holds_args {N:Nat} (args:Array Value) (hN:args.size≤N):Holds N (argsE 0 args.toList) { tmps:=args++Array.replicate (N - args.size) undef,defers:=[] }:=by
 refine ⟨by simp;omega,fun t v h=>?_⟩
 obtain ⟨_,h⟩:=find_argsE _ _ _ _ h
 simp only [Nat.sub_zero,Array.getElem?_toList] at h
 have hlt:=(Array.getElem?_eq_some_iff.1 h).1
 have:(args++Array.replicate (N - args.size) undef)[t]?=some v:=by rw [Array.getElem?_append_left hlt];exact h
 simp [this]
theorem ext_cell {B:Nat} {h h':Heap} (hx:Ext B h h') {b o:Nat} {v:Value} (hc:hcell h b o=some v):hcell h' b o=some v:=by
 unfold hcell at *
 split at hc
 ·rename_i c t f hb
  rw [hx.old b _ hb (.inr rfl)]
  exact hc
 ·cases hc
def resOne (tmps:Array Value):ResultVar→Sem Value
 | .tmp t=>pure (tmps.getD t undef)
 | .cell a t=>do loadVar t (← asAddr (tmps.getD a undef))
theorem withRes_run {P:Program} {N:Nat} {e:Env} {a:Act} (hh:Holds N e a) {h:Heap}:∀ (l:List ResultVar) (rs:List RV) (K:List Value→Prop),compileRes P l=some rs→withRes e h rs K →
  ∃ vs,K vs∧∀ (w:World),(∀ b o v,hcell h b o=some v→hcell w.heap b o=some v) →
   (l.mapM (resOne a.tmps)).run P w=.ok vs w
 | [],rs,K,hc,hk=>by
  cases hc
  exact ⟨[],hk,fun w _=>rfl⟩
 | .tmp t :: l,rs,K,hc,hk=>by
  simp only [compileRes,Option.map_eq_some_iff] at hc
  obtain ⟨rs',hc,rfl⟩:=hc
  obtain ⟨v,hv,hk⟩:=withV_elim hk
  obtain ⟨vs,hk,hrun⟩:=withRes_run hh l rs' _ hc hk
  refine ⟨v :: vs,hk,fun w hw=>?_⟩
  have:=hrun w hw
  simp only [List.mapM_cons,Sem.run_bind,resOne,Sem.run_pure,Result.andThen,hh.2 t v hv,this]
 | .cell t ty :: l,rs,K,hc,hk=>by
  simp only [compileRes,Option.bind_eq_some_iff,Option.map_eq_some_iff] at hc
  obtain ⟨ag,hag,rs',hc,rfl⟩:=hc
  cases ag with
  | none =>
   obtain ⟨b,o,hx,hk⟩:=withP_elim hk
   obtain ⟨v,hv,hk⟩:=withV_elim hk
   obtain ⟨vs,hk,hrun⟩:=withRes_run hh l rs' _ hc hk
   refine ⟨v :: vs,hk,fun w hw=>?_⟩
   have:=hrun w hw
   have hcell:w.cell? ⟨b,o,none⟩=some v:=by rw [cell?_heap];exact hw b o v hv
   have hl:(loadVar ty ⟨b,o,none⟩).run P w=.ok v w:=by simp [loadVar,run_isAggT (aggT_none hag),hcell]
   have ha:(asAddr (a.tmps.getD t undef)).run P w=.ok ⟨b,o,none⟩ w:=by rw [hh.2 t _ hx];rfl
   simp only [List.mapM_cons,Sem.run_bind,resOne,Sem.run_pure,Result.andThen,ha,hl,this]
  | some n =>
   obtain ⟨b,o,hx,hk⟩:=withP_elim hk
   obtain ⟨cs,hn,hcs,hk⟩:=withC_elim hk
   obtain ⟨vs,hk,hrun⟩:=withRes_run hh l rs' _ hc hk
   refine ⟨.agg cs.toArray :: vs,hk,fun w hw=>?_⟩
   have:=hrun w hw
   have h1:=run_loadCells_vs (P:=P) (w:=w) (b:=b) (o:=o) (vs:=cs) (fun j v hj=>by rw [cell?_heap];exact hw b (o+j) v (hcs j v hj))
   rw [hn] at h1
   have hl:(loadVar ty ⟨b,o,none⟩).run P w=.ok (.agg cs.toArray) w:=by simp [loadVar,run_isAggT (aggT_some hag).1,run_sizeT (aggT_some hag).2,h1]
   have ha:(asAddr (a.tmps.getD t undef)).run P w=.ok ⟨b,o,none⟩ w:=by rw [hh.2 t _ hx];rfl
   simp only [List.mapM_cons,Sem.run_bind,resOne,Sem.run_pure,Result.andThen,ha,hl,this]
theorem results_run {P:Program} {fn:Func} {tmps:Array Value} {vs:List Value} {w:World} (h:(fn.results.toList.mapM (resOne tmps)).run P w=.ok vs w) :
  (results fn tmps).run P w=.ok (retV vs) w:=by
 have hu:results fn tmps=(fn.results.mapM (resOne tmps) >>= fun vs=>pure (if h:vs.size=1 then vs[0] else .tuple vs)):=by
  unfold results
  congr 1
 rw [hu,Sem.run_bind,Array.mapM_eq_mapM_toList,Sem.run_map,h]
 simp only [Result.andThen,Sem.run_pure]
 congr 1
 match vs with
 | []=>rfl
 | [v]=>rfl
 | _ :: _ :: _=>simp [retV]
theorem leaves_marks {P:Program} {fn:Func} {tmps:Array Value} {n:Nat} {R:Ending→World→Prop} {B:Nat}:∀ (ds:List Nat) (w:World),ds.Pairwise (· > ·)→(∀ D∈ds,B≤D∧w.heap[D]?=some (.deferred (some []))) →
  (∀ w',Ext B w.heap w'.heap→w'.heap.size=w.heap.size→w'.os=w.os→w'.output=w.output→w'.tape=w.tape→(∀ (l:Nat) (r:Loop),w.heap[l]?=some (Obj.loop r)→w'.heap[l]?=some (Obj.loop r))→(∀ D:Nat,D<B→w'.heap[D]?=w.heap[D]?)→∃ v,(results fn tmps).run P w'=.ok v w'∧R (.returned v) w') →
  LeavesInM Fence.wide n P fn tmps R (ds.map mark) .returning w
 | [],w,_,_,h=>h w (.refl _ _) rfl rfl rfl rfl (fun _ _ h=>h) (fun _ _=>rfl)
 | D :: ds,w,hp,hd,h=>by
  obtain ⟨hp1,hp2⟩:=List.pairwise_cons.1 hp
  have hD:=hd D (by simp)
  have hne:∀ k,k≠D→(w.heap.setIfInBounds D (.deferred none))[k]?=w.heap[k]?:=fun k hk=>Array.getElem?_setIfInBounds_ne (Ne.symm hk)
  refine ⟨by simp,.inl ⟨D,{ w with heap:=w.heap.setIfInBounds D (.deferred none) },rfl,?_,?_⟩⟩
  ·simp [Instr.takeDeferred,Sem.run_bind,getObj,setObj,Sem.run,hD.2,Result.andThen]
  ·refine leaves_marks ds _ hp2 (fun D' hD'=>⟨(hd D' (by simp [hD'])).1,?_⟩) ?_
   ·have:=hp1 D' hD'
    simp only
    rw [hne D' (by omega)];exact (hd D' (by simp [hD'])).2
   ·intro w' hx hs ho hu ht hl hB
    refine h w' (Ext.trans ⟨by simp,fun b x hb hc=>?_⟩ hx) (by rw [hs];simp) ho hu ht (fun l r hr=>hl l r ?_) (fun k hk=>?_)
    ·by_cases hbD:b=D
     ·subst hbD
      rw [hD.2] at hb;cases hb
      rcases hc with hc | hc
      ·have:=hD.1;omega
      ·cases hc
     ·rw [hne b hbD];exact hb
    ·simp only
     rw [hne l (fun e=>by subst e;rw [hD.2] at hr;cases hr)];exact hr
    ·rw [hB k hk];simp only
     have:=hD.1
     rw [hne k (by omega)]
theorem con_of_vc {P:Program} {y:Option Nat} {f:FuncId} {fn:Func} {c:Code} {T:List (Nat×List Nat)} {g:GC} {rs:List RV} {args:Array Value} {h:Heap} {R:Value→Heap→Prop}
  (hf:P.funcs[f]?=some fn) (hb:fn.body=some c) (hg:goodF P f=true) (hc:compile P fn.ntmps T false c=some g) (hr:compileRes P fn.results.toList=some rs) (hN:args.size≤fn.ntmps)
  (hR:g.hasRng=true→∀ v h1 h2,Ext h.size h1 h2→R v h1→R v h2) (hv:vc P y g (retQ rs R) (argsE 0 args.toList) h):ConX y P f args h R:=by
 refine ⟨hg,?_⟩
 rintro w rfl
 refine (callsIn_wide (n:=0)).1 (callsIn_of_wp_marks hf hb trivial ?_)
 have hcur:Cur y fn.ntmps w g.hasRng (argsE 0 args.toList) { tmps:=args++Array.replicate (fn.ntmps - args.size) undef,defers:=[] } w:=
  ⟨holds_args args hN,⟨[],rfl,.nil,by simp,fun _=>rfl⟩,.refl _ _⟩
 refine wpIn_mono (vc_sound c false g hc 0 y none w g.hasRng _ _ _ _ (fun h=>⟨h,rfl⟩) (.inr rfl) hcur hv) ?_
 rintro x a' w' ⟨gx,e,rfl,⟨hh,⟨ds,hd1,hd2,hd3,hd4⟩,hlk⟩,hq⟩
 have fin:(withRes e w'.heap rs fun vs=>R (retV vs) w'.heap)→LeavesInM Fence.wide 0 P fn a'.tmps (fun e w'=>∃ v,e=.returned v∧R v w'.heap∧Like y w w') a'.defers .returning w':=by
  intro hq
  obtain ⟨vs,hk,hrun⟩:=withRes_run (P:=P) hh _ _ _ hr hq
  rw [hd1]
  cases hrng:g.hasRng with
  | false =>
   rw [hd4 hrng]
   exact ⟨retV vs,results_run (hrun w' (fun b o v hcell=>hcell)),retV vs,rfl,hk,hlk⟩
  | true =>
   refine leaves_marks (B:=w.heap.size) ds w' hd2 hd3 ?_
   intro w'' hx hs ho hu ht hl hB
   refine ⟨retV vs,results_run (hrun w'' (fun b o v hcell=>ext_cell hx hcell)),retV vs,rfl,hR hrng _ _ _ hx hk,?_⟩
   exact ⟨ho.trans hlk.os,hu.trans hlk.output,ht.trans hlk.tape,by rw [hs];exact hlk.size,fun D hD=>by rw [hB D ((Array.getElem?_eq_some_iff.1 hD).1)];exact hlk.keepD D hD,fun l r hy hl'=>hl l r (hlk.keepL l r hy hl')⟩
 cases gx with
 | normal=>exact fin hq
 | ret=>exact fin hq
 | exit id=>exact hq.elim
def compileF (P:Program) (fn:Func) (T:List (Nat×List Nat)):Option (GC×List RV):=
 if fn.name != "runtime.NumGoroutine" then
  match fn.body with
  | some c=>(compile P fn.ntmps T false c).bind fun g=>(compileRes P fn.results.toList).map fun rs=>(g,rs)
  | none=>none
 else none
theorem con_of {P:Program} {y:Option Nat} {f:FuncId} {fn:Func} {T:List (Nat×List Nat)} {g:GC} {rs:List RV} {args:Array Value} {h:Heap} {R:Value→Heap→Prop}
  (hf:P.funcs[f]?=some fn) (hc:compileF P fn T=some (g,rs)) (hN:Nat.ble args.size fn.ntmps=true)
  (hR:g.hasRng=true→∀ v h1 h2,Ext h.size h1 h2→R v h1→R v h2) (hv:vc P y g (retQ rs R) (argsE 0 args.toList) h):ConX y P f args h R:=by
 unfold compileF at hc
 split at hc
 ·rename_i hn
  split at hc
  ·rename_i c hb
   simp only [Option.bind_eq_some_iff,Option.map_eq_some_iff,Prod.mk.injEq] at hc
   obtain ⟨g',hg,rs',hr,rfl,rfl⟩:=hc
   exact con_of_vc hf hb (by unfold goodF;rw [hf];simp [hb];simpa using hn) hg hr (Nat.le_of_ble_eq_true hN) hR hv
  ·cases hc
 ·cases hc
abbrev OP (i d:Nat) (g:GOp) (r:GR):GR:=.op ⟨i,some d,none,g,[],false⟩ r
abbrev OW (i d:Nat) (g:GOp) (r:GR):GR:=.op ⟨i,some d,none,g,[],true⟩ r
abbrev OS (i:Nat) (g:GOp) (r:GR):GR:=.op ⟨i,none,none,g,[],false⟩ r
abbrev OG (i d s:Nat) (b:Bool) (g:GOp) (r:GR):GR:=.op ⟨i,some d,some (s,b),g,[],false⟩ r
abbrev O1 (i d a : Nat) (r : GR) : GR := .op ⟨i, some d, none, .mv (.tmp a), [], false⟩ r
abbrev O2 (i d a : Nat) (r : GR) : GR := .op ⟨i, some d, none, .load none (.tmp a), [], false⟩ r
abbrev O3 (i d k a : Nat) (r : GR) : GR := .op ⟨i, some d, none, .fieldAddr k (.tmp a), [], false⟩ r
abbrev O4 (i d k a b : Nat) (r : GR) : GR := .op ⟨i, some d, none, .indexAddr k (.tmp a) (.tmp b), [], false⟩ r
abbrev O5 (i d : Nat) (o : BinOp) (a b : Nat) (r : GR) : GR := .op ⟨i, some d, none, .bin o (.tmp a) (.tmp b), [], false⟩ r
abbrev K (n : Int) : Operand := .const (.int .i64 n)
abbrev O6 (i d a : Nat) (r : GR) : GR := .op ⟨i, some d, none, .load none (.tmp a), [], true⟩ r
end Go.Vc
namespace Go.Vc
open Go
def force (e:Env) (K:Env→Prop) (_:Dep K:=.mk):Prop:=K e
theorem force_nil (K:Env→Prop) (d:Dep K):force [] K d=K []:=(rfl)
theorem force_cons (p:Nat×Value) (e:Env) (K:Env→Prop) (d:Dep K):force (p :: e) K d=K (p :: e):=(rfl)
/-! ### The walk's rules -/
section
variable {P : Program} {y : Option Nat} {e : Env} {h : Heap} {Q : Post}
theorem w_skip:vc P y .skip Q e h=Q .normal e h:=(rfl)
theorem w_ret:vc P y .ret Q e h=Q .ret e h:=(rfl)
theorem w_exit (id:Nat):vc P y (.exit id) Q e h=Q (.exit id) e h:=(rfl)
theorem w_block (id:Nat) (c:GC):vc P y (.block id c) Q e h=vc P y c (blockQ id Q) e h:=(rfl)
theorem w_seq (a b:GC):vc P y (.seq a b) Q e h=vc P y a (thenQ (vc P y b Q) Q) e h:=(rfl)
theorem w_cond (x:Operand) (a b:GC):vc P y (.cond x a b) Q e h=withB (ev e x) fun t=>If (t=true) (vc P y a Q e h) (vc P y b Q e h):=(rfl)
theorem w_reg (r:GR) (live:List Nat):vc P y (.reg r live) Q e h=rvc P y r [] e h fun e h=>force (only live e) fun e=>Q .normal e h:=(rfl)
theorem w_loop (c:GC):vc P y (.loop c) Q e h=loopVC (vc P y c) Q e h:=(rfl)
theorem w_rng (f:Operand) (ps:List Nat) (asg body:GC):vc P y (.rng f ps asg body) Q e h=Chk (y=none) (rngVC P (vc P y asg) (vc P y body) ps (ev e f) Q e h):=(rfl)
variable {K : Env → Heap → Prop} {W : Watch}
theorem r_done:rvc P y .done W e h K=K e h:=(rfl)
theorem r_op (i:Nat) (d:Option Nat) (g:GOp) (l:List Nat) (r:GR):rvc P y (.op ⟨i,d,none,g,l,false⟩ r) W e h K =
  gvc P y g e h fun v h'=>chkW l W h' (rvc P y r W (eput e d v) h' K):=(rfl)
theorem r_opl (i:Nat) (d:Option Nat) (g:GOp) (l:List Nat) (r:GR):rvc P y (.op ⟨i,d,none,g,l,true⟩ r) W e h K =
  gvc P y g e h fun v h'=>chkW l W h' (rvc P y r ((i,reads g e v) :: W) (eput e d v) h' K):=(rfl)
theorem r_opg (i:Nat) (d:Option Nat) (s:Nat) (want:Bool) (g:GOp) (l:List Nat) (r:GR):rvc P y (.op ⟨i,d,some (s,want),g,l,false⟩ r) W e h K =
  withG (find e s) want (gvc P y g e h fun v h'=>chkW l W h' (rvc P y r W (eput e d v) h' K)) (rvc P y r W (eput e d undef) h K):=(rfl)
theorem r_opgl (i:Nat) (d:Option Nat) (s:Nat) (want:Bool) (g:GOp) (l:List Nat) (r:GR):rvc P y (.op ⟨i,d,some (s,want),g,l,true⟩ r) W e h K =
  withG (find e s) want (gvc P y g e h fun v h'=>chkW l W h' (rvc P y r ((i,reads g e v) :: W) (eput e d v) h' K)) (rvc P y r W (eput e d undef) h K):=(rfl)
theorem r_two (a b:GR):rvc P y (.two a b) W e h K=(rvc P y a W e h K∧rvc P y b W e h K):=(rfl)
theorem r_free (D:List Nat) (l:List FI) (r:GR):rvc P y (.free D l r) W e h K=freeVC P y D l e h fun e' h'=>rvc P y r W e' h' K:=(rfl)
theorem mn_nil (k:Nat):memN k []=false:=(rfl)
theorem mn_cons (k d:Nat) (D:List Nat):memN k (d :: D)=if k=d then true else memN k D:=(rfl)
theorem dr_nil (D:List Nat):drp D []=[]:=(rfl)
theorem dr_cons (D:List Nat) (k:Nat) (v:Value):drp D ((k,v) :: e)=if memN k D=true then drp D e else (k,v) :: drp D e:=(rfl)
theorem tl_nil (i:Nat) (V:Nat→Out):tells [] i V h=True:=(rfl)
theorem tl_cons (A:Tells) (k i:Nat) (ds:List Nat) (p:Tell) (V:Nat→Out):tells ((k,ds,p) :: A) i V h=(if k=i then p (ds.map V) h else tells A i V h):=(rfl)
theorem uv_eq (V:Nat→Out) (i:Nat) (v:Out) (k:Nat):updV V i v k=if k=i then v else V k:=(rfl)
theorem map_n (V:Nat→Out):List.map V []=[]:=(rfl)
theorem map_c (V:Nat→Out) (k:Nat) (l:List Nat):List.map V (k :: l)=V k :: List.map V l:=(rfl)
theorem wp_nil (A:Tells) (V:Nat→Out) (F:Env→Prop) (d:Dep F):withPre A V h [] e F d=F e:=(rfl)
theorem wp_cons (A:Tells) (V:Nat→Out) (j s:Nat) (l:List (Nat×Nat)) (F:Env→Prop) (d:Dep F):withPre A V h ((j,s) :: l) e F d=(tells A j V h→withPre A V h l ((s,(V j).1) :: e) F d):=(rfl)
theorem fo_nil (A:Tells) (D:List Nat):freeOps P y A D h e []=True:=(rfl)
theorem fo_cons (A:Tells) (D:List Nat) (i:Nat) (dst:Option Nat) (g:GOp) (c:List Nat) (b:Bool) (pre:List (Nat×Nat)) (l:List FI):freeOps P y A D h e (⟨⟨i,dst,none,g,c,b⟩,pre⟩ :: l) =
  ((∀ h1,Fr 0 0 h h1→∀ V,withPre A V h1 pre (drp D e) fun e=>gvc P y g e h1 fun v h'=>Fr 0 0 h1 h'∧tells A i (updV V i (v,h1.size,h'.size)) h')∧freeOps P y A D h e l):=(rfl)
theorem fo_consg (A:Tells) (D:List Nat) (i s:Nat) (want:Bool) (dst:Option Nat) (g:GOp) (c:List Nat) (b:Bool) (pre:List (Nat×Nat)) (l:List FI):freeOps P y A D h e (⟨⟨i,dst,some (s,want),g,c,b⟩,pre⟩ :: l) =
  ((∀ h1,Fr 0 0 h h1→∀ V,withPre A V h1 pre (drp D e) fun e=>withG (find e s) want (gvc P y g e h1 fun v h'=>Fr 0 0 h1 h'∧tells A i (updV V i (v,h1.size,h'.size)) h') (tells A i (updV V i (undef,h1.size,h1.size)) h1))∧freeOps P y A D h e l):=(rfl)
theorem fe_nil (A:Tells) (V:Nat→Out) (F:Env→Prop):freeEnd A V h [] e F=F e:=(rfl)
theorem fe_cons (A:Tells) (V:Nat→Out) (i d:Nat) (gd:Option (Nat×Bool)) (g:GOp) (c:List Nat) (b:Bool) (pre:List (Nat×Nat)) (l:List FI) (F:Env→Prop):freeEnd A V h (⟨⟨i,some d,gd,g,c,b⟩,pre⟩ :: l) e F=(tells A i V h→freeEnd A V h l ((d,(V i).1) :: e) F):=(rfl)
theorem fe_consn (A:Tells) (V:Nat→Out) (i:Nat) (gd:Option (Nat×Bool)) (g:GOp) (c:List Nat) (b:Bool) (pre:List (Nat×Nat)) (l:List FI) (F:Env→Prop):freeEnd A V h (⟨⟨i,none,gd,g,c,b⟩,pre⟩ :: l) e F=(tells A i V h→freeEnd A V h l e F):=(rfl)
theorem c_nil (A:Prop):chkW [] W h A=A:=(rfl)
theorem c_cons (j:Nat) (l:List Nat) (A:Prop):chkW (j :: l) W h A=Chk (allAt (wfind W j) h) (chkW l W h A):=(rfl)
theorem a_nil:allAt [] h=True:=(rfl)
theorem a_cons (b o:Nat) (v:Value) (rs:List (Nat×Nat×Value)):allAt ((b,o,v) :: rs) h=(hcell h b o=some v∧allAt rs h):=(rfl)
theorem e_put (d:Nat) (v:Value):eput e (some d) v=(d,v) :: e:=(rfl)
theorem e_none (v:Value):eput e none v=e:=(rfl)
theorem f_cons (k t:Nat) (v:Value):find ((k,v) :: e) t=if k=t then some v else find e t:=(rfl)
theorem f_nil (t:Nat):find [] t=none:=(rfl)
theorem o_nil:only [] e=[]:=(rfl)
theorem o_cons (t:Nat) (l:List Nat):only (t :: l) e=consO (find e t) t (only l e):=(rfl)
theorem o_some (t:Nat) (v:Value):consO (some v) t e=(t,v) :: e:=(rfl)
theorem o_none (t:Nat):consO none t e=e:=(rfl)
theorem ev_tmp (t:Nat):ev e (.tmp t)=find e t:=(rfl)
theorem ev_const (v:Value):ev e (.const v)=some v:=(rfl)
theorem ev_global (g:Nat):ev e (.global g)=some (.pointer (some ⟨g,0,none⟩)):=(rfl)
theorem ev_func (f:Nat):ev e (.func f)=some (.func (.func f) #[] #[]):=(rfl)
theorem l_nil (K:List Value→Prop):withL e [] K=K []:=(rfl)
theorem l_cons (x:Operand) (l:List Operand) (K:List Value→Prop):withL e (x :: l) K=withV (ev e x) fun v=>withL e l fun vs=>K (v :: vs):=(rfl)
theorem ar_nil (k:Nat):argsE k []=[]:=(rfl)
theorem ar_cons (k:Nat) (v:Value) (vs:List Value):argsE k (v :: vs)=(k,v) :: argsE (k+1) vs:=(rfl)
variable {G : Value → Heap → Prop}
theorem g_mv (x:Operand):gvc P y (.mv x) e h G=withV (ev e x) fun v=>G v h:=(rfl)
theorem g_pick (c a b:Operand):gvc P y (.pick c a b) e h G=withB (ev e c) fun t=>If (t=true) (withV (ev e a) fun v=>G v h) (withV (ev e b) fun v=>G v h):=(rfl)
theorem g_bin (op:BinOp) (a b:Operand):gvc P y (.bin op a b) e h G=withI (ev e a) fun k n=>withI (ev e b) fun k' m=>Chk (k=k') (binI op k n m fun v=>G v h):=(rfl)
theorem g_shl (a b:Operand):gvc P y (.shift .shl a b) e h G=withI (ev e a) fun k n=>withI (ev e b) fun _ m=>Chk (0≤m) (G (.int k (k.wrap (n * 2 ^ (min m.toNat k.bits)))) h):=(rfl)
theorem g_shr (a b:Operand):gvc P y (.shift .shr a b) e h G=withI (ev e a) fun k n=>withI (ev e b) fun _ m=>Chk (0≤m) (G (.int k (n.fdiv (2 ^ (min m.toNat k.bits)))) h):=(rfl)
theorem g_eqBool (ng:Bool) (a b:Operand):gvc P y (.eqBool ng a b) e h G=withB (ev e a) fun p=>withB (ev e b) fun q=>G (.bool (if ng then p != q else p==q)) h:=(rfl)
theorem g_eqNil (sl ng:Bool) (a b:Operand):gvc P y (.eqNil sl ng a b) e h G=withV (ev e a) fun p=>withV (ev e b) fun q=>eqNilV sl p q fun r=>G (.bool (if ng then !r else r)) h:=(rfl)
theorem g_eqStruct (ng:Bool) (offs:List Nat) (a b:Operand):gvc P y (.eqStruct ng offs a b) e h G=withA (ev e a) fun xs=>withA (ev e b) fun ys=>eqCells offs xs ys fun r=>G (.bool (if ng then !r else r)) h:=(rfl)
theorem g_not (x:Operand):gvc P y (.not x) e h G=withB (ev e x) fun b=>G (.bool !b) h:=(rfl)
theorem g_neg (x:Operand):gvc P y (.neg x) e h G=withI (ev e x) fun k n=>G (.int k (k.wrap (0 - n))) h:=(rfl)
theorem g_conv (k:IntKind) (x:Operand):gvc P y (.conv k x) e h G=withI (ev e x) fun _ n=>G (.int k (k.wrap n)) h:=(rfl)
theorem g_nilCheck (x:Operand):gvc P y (.nilCheck x) e h G=withP (ev e x) fun b o=>G (.pointer (some ⟨b,o,none⟩)) h:=(rfl)
theorem g_fieldAddr (off:Nat) (x:Operand):gvc P y (.fieldAddr off x) e h G=withP (ev e x) fun b o=>G (.pointer (some ⟨b,o+off,none⟩)) h:=(rfl)
theorem g_field0 (off:Nat) (x:Operand):gvc P y (.field none off x) e h G=withA (ev e x) fun cs=>withV cs[off]? fun v=>G v h:=(rfl)
theorem g_fieldn (n off:Nat) (x:Operand):gvc P y (.field (some n) off x) e h G=withA (ev e x) fun cs=>G (.agg (cs.extract off (off+n))) h:=(rfl)
theorem g_indexAddr (size : Nat) (x i : Operand) : gvc P y (.indexAddr size x i) e h G = withS (ev e x) fun a n _ => withI (ev e i) fun _ i => Chk (0 ≤ i ∧ i < (n : Int))
      (withAd a fun b o => G (.pointer (some ⟨b, o + i.toNat * size, none⟩)) h) := (rfl)
theorem g_indexArr (size len:Nat) (x i:Operand):gvc P y (.indexArr size len x i) e h G=withP (ev e x) fun b o=>withI (ev e i) fun _ i=>Chk (0≤i∧i<(len:Int)) (G (.pointer (some ⟨b,o+i.toNat * size,none⟩)) h):=(rfl)
theorem g_extract (i:Nat) (x:Operand):gvc P y (.extract i x) e h G=withT (ev e x) fun cs=>withV cs[i]? fun v=>G v h:=(rfl)
theorem g_makeFunc (fn:Fn) (first captured:List Operand):gvc P y (.makeFunc fn first captured) e h G=withL e first fun vs=>withL e captured fun us=>G (.func fn vs.toArray us.toArray) h:=(rfl)
theorem g_len (x:Operand):gvc P y (.len x) e h G=withS (ev e x) fun _ n _=>G (.int .i64 n) h:=(rfl)
theorem g_maxi (a b:Operand):gvc P y (.maxi a b) e h G=withI (ev e a) fun k n=>withI (ev e b) fun _ m=>G (.int k (if m > n then m else n)) h:=(rfl)
theorem g_mini (a b:Operand):gvc P y (.mini a b) e h G=withI (ev e a) fun k n=>withI (ev e b) fun _ m=>G (.int k (if m<n then m else n)) h:=(rfl)
theorem g_slice (size : Nat) (x : Operand) (lo hi : Option Operand) : gvc P y (.slice size x lo hi) e h G = withS (ev e x) fun a n c => withLo e hi n fun hh => Chk (hh ≤ c) (withLo e lo 0 fun l => Chk (l ≤ hh)
      (G (.slice (if c = l then a else a.map (·.add (l * size))) (hh - l) (c - l)) h)) := (rfl)
theorem lo_none (d:Nat) (K:Nat→Prop):withLo e none d K=K d:=(rfl)
theorem lo_some (x:Operand) (d:Nat) (K:Nat→Prop):withLo e (some x) d K=withI (ev e x) fun _ i=>Chk (0≤i) (K i.toNat):=(rfl)
theorem g_build (zero:List Value) (parts:List (Nat×Nat×Operand)):gvc P y (.build zero parts) e h G=withParts e parts zero fun cs=>G (.agg cs.toArray) h:=(rfl)
theorem p_nil (cs:List Value) (K:List Value→Prop):withParts e [] cs K=K cs:=(rfl)
theorem p_cons (off size:Nat) (x:Operand) (ps:List (Nat×Nat×Operand)) (cs:List Value) (K:List Value→Prop):withParts e ((off,size,x) :: ps) cs K =
 withV (ev e x) fun v=>Chk ((cl v).length=size∧off+size≤cs.length) (withParts e ps (putAt cs off (cl v)) K):=(rfl)
theorem g_load0 (x:Operand):gvc P y (.load none x) e h G=withP (ev e x) fun b o=>withV (hcell h b o) fun v=>G v h:=(rfl)
theorem g_loadn (n:Nat) (x:Operand):gvc P y (.load (some n) x) e h G=withP (ev e x) fun b o=>withC h b o n fun vs=>G (.agg vs.toArray) h:=(rfl)
theorem k_zero (b o:Nat) (K:List Value→Prop):withC h b o 0 K=K []:=(rfl)
theorem k_succ (b o n:Nat) (K:List Value→Prop):withC h b o (n+1) K=withV (hcell h b o) fun v=>withC h b (o+1) n fun vs=>K (v :: vs):=(rfl)
theorem k_1 (b o:Nat) (K:List Value→Prop):withC h b o 1 K=withV (hcell h b o) fun v=>K [v]:=(rfl)
theorem k_2 (b o:Nat) (K:List Value→Prop):withC h b o 2 K=withV (hcell h b o) fun v=>withV (hcell h b (o+1)) fun u=>K [v,u]:=(rfl)
theorem g_alloc (el:TypeId) (zero:List Value):gvc P y (.alloc el zero) e h G=newB h zero fun b h'=>G (.pointer (some ⟨b,0,none⟩)) h':=(rfl)
theorem g_box (el:TypeId) (x:Operand):gvc P y (.box el x) e h G=withV (ev e x) fun v=>newB h (cl v) fun b h'=>G (.pointer (some ⟨b,0,none⟩)) h':=(rfl)
theorem g_buildSlice (el:TypeId) (len:Nat) (zero:List Value) (parts:List (Nat×Nat×Operand)):gvc P y (.buildSlice el len zero parts) e h G=withParts e parts zero fun cs=>newB h cs fun b h'=>G (.slice (some ⟨b,0,none⟩) len len) h':=(rfl)
theorem g_makeSlice (el : TypeId) (size bytes : Nat) (zero : List Value) (l c : Operand) : gvc P y (.makeSlice el size bytes zero l c) e h G = withI (ev e l) fun _ l => withI (ev e c) fun _ c => Chk (0 ≤ l ∧ l ≤ c ∧ c ≤ 9223372036854775807 ∧ bytes * c ≤ 281474976710656)
      (newB h (zeros zero c.toNat) fun b h' => G (.slice (some ⟨b, 0, none⟩) l.toNat c.toNat) h') := (rfl)
theorem g_store (n:Nat) (x v:Operand):gvc P y (.store n x v) e h G=withP (ev e x) fun b o=>withV (ev e v) fun v=>Chk ((cl v).length=n∧(cl v).all Value.oneCell'=true) (Chk (Wr h b o n) (stoB h b o (cl v) fun h'=>G undef h')):=(rfl)
theorem g_append (el : TypeId) (size bytes : Nat) (zero : List Value) (s x : Operand) : gvc P y (.append el size bytes zero s x) e h G = withS (ev e s) fun a n c => withS (ev e x) fun a' m _ =>
      If (m = 0) (appB size bytes zero h a n c [] m G) (withAd a' fun b' o' => withC h b' o' (m * size) fun new => Chk (new.all Value.oneCell' = true) (appB size bytes zero h a n c new m G)) := (rfl)
theorem g_call (f:FuncId) (args:List Operand):gvc P y (.call f args) e h G=withL e args fun vs=>callB P f vs.toArray h G:=(rfl)
theorem g_callv (x : Operand) (args : List Operand) : gvc P y (.callv x args) e h G = withV (ev e x) fun v => withL e args fun vs =>
      (match v with
       | .func (.func f) first captured => callB P f (first ++ vs.toArray ++ captured) h G
       | .func (.yield l) first _ => Chk (y = some l) (yldB P l (first ++ vs.toArray) h G)
       | _ => False) := (rfl)
theorem g_makeMap:gvc P y .makeMap e h G=newO h (mapObj []) fun r h'=>G (.map (some r)) h':=(rfl)
theorem g_lookup1 (zero:Value) (x i:Operand):gvc P y (.lookup true zero x i) e h G=withMp (ev e x) fun r=>withI (ev e i) fun k n=>Chk (k=.i64) (withMap h r fun m=>G (.tuple #[mget zero m n,.bool (mhas m n)]) h):=(rfl)
theorem g_lookup0 (zero:Value) (x i:Operand):gvc P y (.lookup false zero x i) e h G=withMp (ev e x) fun r=>withI (ev e i) fun k n=>Chk (k=.i64) (withMap h r fun m=>G (mget zero m n) h):=(rfl)
theorem g_mapSet (x k v:Operand):gvc P y (.mapSet x k v) e h G=withMp (ev e x) fun r=>withI (ev e k) fun kd n=>withV (ev e v) fun v=>Chk (kd=.i64) (withMap h r fun m=>stoO h r (mapObj (mput m n v)) fun h'=>G undef h'):=(rfl)
theorem g_mapEntry (zero:Value) (x k:Operand):gvc P y (.mapEntry zero x k) e h G=withMp (ev e x) fun r=>withI (ev e k) fun kd n=>Chk (kd=.i64) (slotB h r zero n G):=(rfl)
theorem g_entryStore (x s v:Operand):gvc P y (.entryStore x s v) e h G=withMp (ev e x) fun r=>withI (ev e s) fun kd i=>withV (ev e v) fun v=>Chk (kd=.i64) (withMap h r fun m=>Chk (0≤i∧i<(m.length:Int)∧i≤9223372036854775807) (stoO h r (mapObj (mset m i.toNat v)) fun h'=>G undef h')):=(rfl)
theorem g_mrange (x:Operand):gvc P y (.mrange x) e h G=withMp (ev e x) fun r=>withMap h r fun m=>newO h (iterObj r m.length []) fun b h'=>G (.pointer (some ⟨b,0,none⟩)) h':=(rfl)
theorem g_mnext (x:Operand):gvc P y (.mnext x) e h G=withP (ev e x) fun b o=>Chk (o=0) (nextB h b G):=(rfl)
theorem g_cap (x:Operand):gvc P y (.cap x) e h G=withS (ev e x) fun _ _ c=>G (.int .i64 c) h:=(rfl)
theorem g_appendN (el : TypeId) (size bytes : Nat) (zero : List Value) (s x : Operand) : gvc P y (.appendN el size bytes zero s x) e h G = withS (ev e s) fun a n c => withI (ev e x) fun k m => Chk (a = none ∧ n = 0 ∧ c = 0 ∧ k = .i64 ∧ 0 < m ∧ m ≤ 4611686018427387904 ∧ m * 2 * bytes ≤ 281474976710656)
      (∀ c' b' h', m.toNat ≤ c' → New h h' b' (zeros zero m.toNat ++ zeros zero (c' - m.toNat)) → G (.slice (some ⟨b', 0, none⟩) m.toNat c') h') := (rfl)
theorem g_never:gvc P y .never e h G=False:=(rfl)
theorem g_clearM (x:Operand):gvc P y (.clearM x) e h G=withMp (ev e x) fun r=>withMap h r fun m=>Chk (m=[]) (G (.tuple #[]) h):=(rfl)
theorem g_mentry (x:Operand):gvc P y (.mentry x) e h G=withP (ev e x) fun b o=>Chk (o=0) (entryB h b fun v=>G v h):=(rfl)
variable {V : Value → Prop}
theorem b_add (k:IntKind) (a b:Int):binI .add k a b V=V (.int k (k.wrap (a+b))):=(rfl)
theorem b_sub (k:IntKind) (a b:Int):binI .sub k a b V=V (.int k (k.wrap (a - b))):=(rfl)
theorem b_mul (k:IntKind) (a b:Int):binI .mul k a b V=V (.int k (k.wrap (a * b))):=(rfl)
theorem b_quo (k:IntKind) (a b:Int):binI .quo k a b V=Chk (b≠0) (V (.int k (k.wrap (a.tdiv b)))):=(rfl)
theorem b_rem (k:IntKind) (a b:Int):binI .rem k a b V=Chk (b≠0) (V (.int k (a.tmod b))):=(rfl)
theorem b_and (k:IntKind) (a b:Int):binI .and k a b V=V (.int k (k.wrap (BitVec.ofInt k.bits a &&& BitVec.ofInt k.bits b).toNat)):=(rfl)
theorem b_or (k:IntKind) (a b:Int):binI .or k a b V=V (.int k (k.wrap (BitVec.ofInt k.bits a ||| BitVec.ofInt k.bits b).toNat)):=(rfl)
theorem b_xor (k:IntKind) (a b:Int):binI .xor k a b V=V (.int k (k.wrap (BitVec.ofInt k.bits a ^^^ BitVec.ofInt k.bits b).toNat)):=(rfl)
theorem b_eql (k:IntKind) (a b:Int):binI .eql k a b V=V (.bool (a==b)):=(rfl)
theorem b_neq (k:IntKind) (a b:Int):binI .neq k a b V=V (.bool (a != b)):=(rfl)
theorem b_lss (k:IntKind) (a b:Int):binI .lss k a b V=V (.bool (decide (a<b))):=(rfl)
theorem b_leq (k:IntKind) (a b:Int):binI .leq k a b V=V (.bool (decide (a≤b))):=(rfl)
theorem b_gtr (k:IntKind) (a b:Int):binI .gtr k a b V=V (.bool (decide (a > b))):=(rfl)
theorem b_geq (k:IntKind) (a b:Int):binI .geq k a b V=V (.bool (decide (a≥b))):=(rfl)
end
attribute [go_sem ↓] w_skip w_ret w_exit w_block w_seq w_cond w_reg w_loop w_rng r_done r_op r_opl r_opg r_opgl r_free c_nil c_cons e_put e_none l_nil l_cons g_mv g_pick g_bin g_shl g_shr g_eqBool g_eqNil g_eqStruct g_not g_neg g_conv g_nilCheck g_fieldAddr g_field0 g_fieldn g_indexAddr g_indexArr g_extract g_makeFunc g_len g_maxi g_mini g_slice lo_none lo_some g_build p_nil p_cons g_load0 g_loadn g_alloc g_box g_buildSlice g_makeSlice g_store g_append g_call g_callv g_makeMap g_lookup1 g_lookup0 g_mapSet g_mapEntry g_entryStore g_mrange g_mnext g_mentry g_clearM g_cap g_appendN g_never b_add b_sub b_mul b_quo b_rem b_and b_or b_xor b_eql b_neq b_lss b_leq b_gtr b_geq thenQ_normal thenQ_ret thenQ_exit blockQ_normal blockQ_ret blockQ_exit retQ_normal retQ_ret
attribute [go_sem] tell1_eq uv_eq map_n map_c mn_nil mn_cons dr_nil dr_cons tl_nil tl_cons wp_nil wp_cons fo_nil fo_cons fo_consg fe_nil fe_cons fe_consn
attribute [go_sem] force_nil force_cons a_nil a_cons f_cons f_nil o_nil o_cons o_some o_none ev_tmp ev_const ev_global ev_func ar_nil ar_cons k_zero k_1 k_2 withV_some withI_some withB_some withP_some withS_some withA_some withT_some withG_bool withG_undef withG_tuple Chk_true If_true If_false
attribute [go_sem] List.getElem?_cons_zero List.getElem?_cons_succ Int.toNat_natCast List.getElem?_toArray Nat.mul_one Bool.not_true Bool.not_false decide_true decide_false beq_self_eq_true bne_self_eq_false eq_self not_true_eq_false not_false_eq_true Bool.false_eq_true
attribute [go_sem ↓] reduceIte
attribute [go_sem] reduceCtorEq Nat.reduceEqDiff Nat.reduceAdd Nat.reduceLeDiff Nat.reduceMul Int.reduceBEq Int.reduceBNe Int.reduceLT Int.reduceLE Int.reduceGT Int.reduceGE
end Go.Vc
/-
  The weakest precondition is monotone; joints.
-/
namespace Go.Vc
open Go
section
theorem withV_mono {x:Option Value} {K K':Value→Prop} {d:Dep K} {d':Dep K'} (hk:∀ v,K v→K' v) (h:withV x K d):withV x K' d':=by
 unfold withV at *;split at h <;> simp_all
theorem withI_mono {x:Option Value} {K K':IntKind→Int→Prop} {d:Dep K} {d':Dep K'} (hk:∀ k n,K k n→K' k n) (h:withI x K d):withI x K' d':=by
 unfold withI at *;split at h <;> simp_all
theorem withB_mono {x:Option Value} {K K':Bool→Prop} {d:Dep K} {d':Dep K'} (hk:∀ b,K b→K' b) (h:withB x K d):withB x K' d':=by
 unfold withB at *;split at h
 ·exact hk _ h
 ·exact h.elim
theorem withP_mono {x:Option Value} {K K':Nat→Nat→Prop} {d:Dep K} {d':Dep K'} (hk:∀ b o,K b o→K' b o) (h:withP x K d):withP x K' d':=by
 unfold withP at *;split at h <;> simp_all
theorem withS_mono {x:Option Value} {K K':Option Addr→Nat→Nat→Prop} {d:Dep K} {d':Dep K'} (hk:∀ a n c,K a n c→K' a n c) (h:withS x K d):withS x K' d':=by
 unfold withS at *;split at h <;> simp_all
theorem withA_mono {x:Option Value} {K K':Array Value→Prop} {d:Dep K} {d':Dep K'} (hk:∀ v,K v→K' v) (h:withA x K d):withA x K' d':=by
 unfold withA at *;split at h <;> simp_all
theorem withT_mono {x:Option Value} {K K':Array Value→Prop} {d:Dep K} {d':Dep K'} (hk:∀ v,K v→K' v) (h:withT x K d):withT x K' d':=by
 unfold withT at *;split at h <;> simp_all
theorem withAd_mono {x:Option Addr} {K K':Nat→Nat→Prop} {d:Dep K} {d':Dep K'} (hk:∀ b o,K b o→K' b o) (h:withAd x K d):withAd x K' d':=by
 unfold withAd at *;split at h <;> simp_all
theorem withMp_mono {x:Option Value} {K K':Nat→Prop} {d:Dep K} {d':Dep K'} (hk:∀ v,K v→K' v) (h:withMp x K d):withMp x K' d':=by
 unfold withMp at *;split at h <;> simp_all
theorem withMap_mono {h:Heap} {r:Nat} {K K':List (Int×Value)→Prop} {d:Dep K} {d':Dep K'} (hk:∀ v,K v→K' v) (hw:withMap h r K d):withMap h r K' d':=by
 obtain ⟨m,hm,h1⟩:=hw;exact ⟨m,hm,hk _ h1⟩
theorem withL_mono {e:Env} {l:List Operand} {K K':List Value→Prop} (hk:∀ v,K v→K' v) (h:withL e l K):withL e l K':=by
 induction l generalizing K K' with
 | nil=>exact hk _ h
 | cons x l ih=>exact withV_mono (fun v h=>ih (fun vs h=>hk _ h) h) h
theorem withC_mono {hp:Heap} {b:Nat} {n o:Nat} {K K':List Value→Prop} (hk:∀ v,K v→K' v) (h:withC hp b o n K):withC hp b o n K':=by
 induction n generalizing o K K' with
 | zero=>exact hk _ h
 | succ n ih=>exact withV_mono (fun v h=>ih (fun vs h=>hk _ h) h) h
theorem withLo_mono {e:Env} {x:Option Operand} {d:Nat} {K K':Nat→Prop} (hk:∀ v,K v→K' v) (h:withLo e x d K):withLo e x d K':=by
 unfold withLo at *
 split at h
 ·exact hk _ h
 ·exact withI_mono (fun k n h=>⟨h.1,hk _ h.2⟩) h
theorem Chk_mono {c K K':Prop} {d:Dep K} {d':Dep K'} (hk:K→K') (h:Chk c K d):Chk c K' d':=⟨h.1,hk h.2⟩
theorem If_mono {c A B A' B':Prop} {d:Dep A} {d':Dep B} {d2:Dep A'} {d2':Dep B'} (ha:A→A') (hb:B→B') (h:If c A B d d'):If c A' B' d2 d2':=⟨fun hc=>ha (h.1 hc),fun hc=>hb (h.2 hc)⟩
theorem eqCells_mono {os:List Nat} {xs ys:Array Value} {K K':Bool→Prop} (hk:∀ v,K v→K' v) (h:eqCells os xs ys K):eqCells os xs ys K':=by
 induction os generalizing K K' with
 | nil=>exact hk _ h
 | cons o os ih=>exact withI_mono (fun k n h=>withI_mono (fun k' m h=>⟨h.1,ih (fun b h=>hk _ h) h.2⟩) h) h
theorem binI_mono {op:BinOp} {k:IntKind} {a b:Int} {K K':Value→Prop} (hk:∀ v,K v→K' v) (h:binI op k a b K):binI op k a b K':=by
 unfold binI at *
 split at h <;> first | exact hk _ h | exact ⟨h.1,hk _ h.2⟩ | exact h.elim
theorem eqNilV_mono {s:Bool} {a b:Value} {K K':Bool→Prop} (hk:∀ v,K v→K' v) (h:eqNilV s a b K):eqNilV s a b K':=by
 unfold eqNilV at *
 split at h <;> first | exact hk _ h | exact h.elim
theorem qvc_mono {g:GOp} {e:Env} {h:Heap} {K K':Value→Prop} (hk:∀ v,K v→K' v) (hq:qvc g e h K):qvc g e h K':=by
 unfold qvc at *
 split at hq
 ·exact withV_mono hk hq
 ·exact withB_mono (fun t hq=>If_mono (withV_mono hk) (withV_mono hk) hq) hq
 ·exact withI_mono (fun _ _ hq=>withI_mono (fun _ _ hq=>Chk_mono (binI_mono hk) hq) hq) hq
 ·refine withI_mono (fun _ _ hq=>withI_mono (fun _ _ hq=>Chk_mono (fun hq=>?_) hq) hq) hq
  split at hq
  ·exact hk _ hq
  ·exact hk _ hq
  ·exact hq.elim
 ·exact withB_mono (fun _ hq=>withB_mono (fun _ hq=>hk _ hq) hq) hq
 ·exact withV_mono (fun _ hq=>withV_mono (fun _ hq=>eqNilV_mono (fun _ hq=>hk _ hq) hq) hq) hq
 ·exact withA_mono (fun _ hq=>withA_mono (fun _ hq=>eqCells_mono (fun _ hq=>hk _ hq) hq) hq) hq
 ·exact withB_mono (fun _ hq=>hk _ hq) hq
 ·exact withI_mono (fun _ _ hq=>hk _ hq) hq
 ·exact withI_mono (fun _ _ hq=>hk _ hq) hq
 ·exact withI_mono (fun _ _ hq=>hk _ hq) hq
 ·exact withP_mono (fun _ _ hq=>hk _ hq) hq
 ·exact withP_mono (fun _ _ hq=>hk _ hq) hq
 ·exact withA_mono (fun _ hq=>withV_mono hk hq) hq
 ·exact withA_mono (fun _ hq=>hk _ hq) hq
 ·exact withS_mono (fun _ _ _ hq=>withI_mono (fun _ _ hq=>Chk_mono (withAd_mono fun _ _ hq=>hk _ hq) hq) hq) hq
 ·exact withP_mono (fun _ _ hq=>withI_mono (fun _ _ hq=>Chk_mono (hk _) hq) hq) hq
 ·exact withT_mono (fun _ hq=>withV_mono hk hq) hq
 ·exact withL_mono (fun _ hq=>withL_mono (fun _ hq=>hk _ hq) hq) hq
 ·exact withS_mono (fun _ _ _ hq=>hk _ hq) hq
 ·exact withS_mono (fun _ _ _ hq=>hk _ hq) hq
 ·exact withI_mono (fun _ _ hq=>withI_mono (fun _ _ hq=>hk _ hq) hq) hq
 ·exact withI_mono (fun _ _ hq=>withI_mono (fun _ _ hq=>hk _ hq) hq) hq
 ·exact withS_mono (fun _ _ _ hq=>withLo_mono (fun _ hq=>Chk_mono (withLo_mono fun _ hq=>Chk_mono (hk _) hq) hq) hq) hq
 ·exact withParts_mono (fun _ hq=>hk _ hq) hq
 ·exact withP_mono (fun _ _ hq=>withV_mono hk hq) hq
 ·exact withP_mono (fun _ _ hq=>withC_mono (fun _ hq=>hk _ hq) hq) hq
 ·exact hq.elim
theorem appB_mono {size bytes:Nat} {zero:List Value} {h:Heap} {a:Option Addr} {n c:Nat} {new:List Value} {m:Nat} {K K':Value→Heap→Prop} {d:Dep K} {d':Dep K'} (hk:∀ v h,K v h→K' v h)
  (hq:appB size bytes zero h a n c new m K d):appB size bytes zero h a n c new m K' d':=by
 refine ⟨fun hf=>?_,fun hf=>?_⟩
 ·have:=hq.1 hf
  split at this
  ·exact ⟨this.1,fun h' s=>hk _ _ (this.2 h' s)⟩
  ·exact ⟨this.1,hk _ _ this.2⟩
  ·exact this.elim
 ·obtain ⟨h1,old,h2,h3⟩:=hq.2 hf
  exact ⟨h1,old,h2,fun c' b' h' hc n=>hk _ _ (h3 c' b' h' hc n)⟩
theorem gvc_mono {P:Program} {y:Option Nat} {g:GOp} {e:Env} {h:Heap} {K K':Value→Heap→Prop} (hk:∀ v h,K v h→K' v h) (hq:gvc P y g e h K):gvc P y g e h K':=by
 unfold gvc at *
 split at hq
 ·exact fun b h' n=>hk _ _ (hq b h' n)
 ·exact withV_mono (fun _ hq b h' n=>hk _ _ (hq b h' n)) hq
 ·exact withParts_mono (fun _ hq b h' n=>hk _ _ (hq b h' n)) hq
 ·exact withI_mono (fun _ _ hq=>withI_mono (fun _ _ hq=>Chk_mono (fun hq b h' n=>hk _ _ (hq b h' n)) hq) hq) hq
 ·exact withP_mono (fun _ _ hq=>withV_mono (fun _ hq=>Chk_mono (fun hq=>Chk_mono (fun hq h' s=>hk _ _ (hq h' s)) hq) hq) hq) hq
 ·exact withS_mono (fun _ _ _ hq=>withS_mono (fun _ _ _ hq=>If_mono (appB_mono hk) (withAd_mono fun _ _ hq=>withC_mono (fun _ hq=>Chk_mono (appB_mono hk) hq) hq) hq) hq) hq
 ·exact withL_mono (fun _ hq=>ConX.mono hq hk) hq
 ·refine withV_mono (fun _ hq=>withL_mono (fun _ hq=>?_) hq) hq
  split at hq
  ·exact ConX.mono hq hk
  ·exact Chk_mono (fun hq=>Yld.mono hq hk) hq
  ·exact hq.elim
 ·exact fun b h' n=>hk _ _ (hq b h' n)
 ·exact withMp_mono (fun _ hq=>withI_mono (fun _ _ hq=>Chk_mono (withMap_mono fun _ hq=>hk _ _ hq) hq) hq) hq
 ·exact withMp_mono (fun _ hq=>withI_mono (fun _ _ hq=>withV_mono (fun _ hq=>Chk_mono (withMap_mono fun _ hq h' s=>hk _ _ (hq h' s)) hq) hq) hq) hq
 ·exact withMp_mono (fun _ hq=>withI_mono (fun _ _ hq=>Chk_mono (fun hq=>by
   obtain ⟨m,hm,h1,h2⟩:=hq
   exact ⟨m,hm,fun i v hf=>hk _ _ (h1 i v hf),fun hf h' s=>hk _ _ (h2 hf h' s)⟩) hq) hq) hq
 ·exact withMp_mono (fun _ hq=>withI_mono (fun _ _ hq=>withV_mono (fun _ hq=>Chk_mono (withMap_mono fun _ hq=>Chk_mono (fun hq h' s=>hk _ _ (hq h' s)) hq) hq) hq) hq) hq
 ·exact withMp_mono (fun _ hq=>withMap_mono (fun _ hq b h' n=>hk _ _ (hq b h' n)) hq) hq
 ·exact withP_mono (fun _ _ hq=>Chk_mono (fun hq=>by
   obtain ⟨r,m,seen,hb,hm,h1,h2⟩:=hq
   exact ⟨r,m,seen,hb,hm,fun i k v hi hn h' s=>hk _ _ (h1 i k v hi hn h' s),fun ha=>hk _ _ (h2 ha)⟩) hq) hq
 ·exact withP_mono (fun _ _ hq=>Chk_mono (fun hq=>by
   obtain ⟨r,m,seen,i,k,v,hb,hm,hi,h1⟩:=hq
   exact ⟨r,m,seen,i,k,v,hb,hm,hi,hk _ _ h1⟩) hq) hq
 ·exact withS_mono (fun _ _ _ hq=>withI_mono (fun _ _ hq=>Chk_mono (fun hq c' b' h' hc n=>hk _ _ (hq c' b' h' hc n)) hq) hq) hq
 ·exact hq
 ·exact withMp_mono (fun _ hq=>withMap_mono (fun _ hq=>Chk_mono (fun hq=>hk _ _ hq) hq) hq) hq
 ·exact qvc_mono (fun _ hq=>hk _ _ hq) hq
theorem chkW_mono {l:List Nat} {W:Watch} {h:Heap} {K K':Prop} (hk:K→K') (hq:chkW l W h K):chkW l W h K':=by
 induction l with
 | nil=>exact hk hq
 | cons j l ih=>exact ⟨hq.1,ih hq.2⟩
theorem withG_mono {x:Option Value} {w:Bool} {A B A' B':Prop} {d:Dep A} {d':Dep B} {d2:Dep A'} {d2':Dep B'} (ha:A→A') (hb:B→B') (h:withG x w A B d d'):withG x w A' B' d2 d2':=by
 unfold withG at *
 split at h
 ·exact If_mono ha hb h
 ·exact hb h
 ·exact h.elim
theorem rvc_mono {P:Program} {y:Option Nat} {r:GR} {W:Watch} {e:Env} {h:Heap} {K K':Env→Heap→Prop} (hk:∀ e h,K e h→K' e h) (hq:rvc P y r W e h K):rvc P y r W e h K':=by
 induction r generalizing W e h with
 | done=>exact hk _ _ hq
 | op i r ih =>
  have base:gvc P y i.op e h (fun v h'=>chkW i.chk W h' (rvc P y r (addW i W e v) (eput e i.dst v) h' K))→gvc P y i.op e h (fun v h'=>chkW i.chk W h' (rvc P y r (addW i W e v) (eput e i.dst v) h' K')):=
   fun hq=>gvc_mono (fun v h' hq=>chkW_mono ih hq) hq
  show guarded _ _ _ _
  have hq:guarded _ _ _ _:=hq
  unfold guarded at *
  split at hq
  ·exact base hq
  ·exact withG_mono base ih hq
 | two a b iha ihb=>exact ⟨iha hq.1,ihb hq.2⟩
 | free D l r ih =>
  obtain ⟨A,h1,h2,h3,h4⟩:=hq
  exact ⟨A,h1,h2,h3,fun h' f V s=>freeEnd_mono (fun e hq=>ih hq) (h4 h' f V s)⟩
theorem vc_mono {P:Program} {y:Option Nat} {c:GC} {Q Q':Post} {e:Env} {h:Heap} (hQ:∀ x e h,Q x e h→Q' x e h) (hv:vc P y c Q e h):vc P y c Q' e h:=by
 induction c generalizing Q Q' e h with
 | skip=>exact hQ _ _ _ hv
 | ret=>exact hQ _ _ _ hv
 | exit id=>exact hQ _ _ _ hv
 | block id c ih =>
  refine ih (Q:=blockQ id Q) (Q':=blockQ id Q') (fun x e h hq=>?_) hv
  cases x with
  | normal=>exact hQ _ _ _ hq
  | ret=>exact hQ _ _ _ hq
  | exit j=>simp only [blockQ] at *;split <;> rename_i hj <;> simp only [hj,if_true,if_false] at hq <;> exact hQ _ _ _ hq
 | loop c ih =>
  obtain ⟨α,E,I,μ,s,h1,h2,h3⟩:=hv
  refine ⟨α,E,I,μ,s,h1,h2,fun s h hi=>ih (fun x e h hq=>?_) (h3 s h hi)⟩
  cases x with
  | normal=>exact hq
  | ret=>exact hQ _ _ _ hq
  | exit j=>exact hQ _ _ _ hq
 | seq a b iha ihb =>
  refine iha (Q:=thenQ (vc P y b Q) Q) (fun x e h hq=>?_) hv
  cases x with
  | normal=>exact ihb hQ hq
  | ret=>exact hQ _ _ _ hq
  | exit j=>exact hQ _ _ _ hq
 | cond x a b iha ihb=>exact withB_mono (fun t hq=>If_mono (iha hQ) (ihb hQ) hq) hv
 | reg r live=>exact rvc_mono (fun e h hq=>hQ _ _ _ hq) hv
 | rng f ps asg body iha ihb =>
  refine Chk_mono (fun hv=>withV_mono (fun v hv=>?_) hv) hv
  split at hv
  ·refine Chk_mono (fun hv=>?_) hv
   obtain ⟨xs,C,I,X,h1,h2,h3,h4,h5,h6,h7,h8,h9,h10⟩:=hv
   exact ⟨xs,C,I,X,h1,h2,h3,h4,h5,h6,h7,h8,fun h' a b c=>hQ _ _ _ (h9 h' a b c),fun x h' a b=>⟨(h10 x h' a b).1,hQ _ _ _ (h10 x h' a b).2⟩⟩
  ·exact hv.elim
theorem w_joint {P:Program} {y:Option Nat} {a b:GC} {Q:Post} {e:Env} {h:Heap} (J:Env→Heap→Prop) (h1:vc P y a (thenQ J Q) e h) (h2:∀ e h,J e h→vc P y b Q e h):vc P y (.seq a b) Q e h:=
 vc_mono (c:=a) (Q:=thenQ J Q) (Q':=thenQ (vc P y b Q) Q) (fun x e h hq=>by
  cases x with
  | normal=>exact h2 _ _ hq
  | ret=>exact hq
  | exit j=>exact hq) h1
theorem w_jointE {P:Program} {y:Option Nat} {a b:GC} {Q:Post} {e:Env} {h:Heap} {α:Type} (E:α→Env) (I:α→Heap→Prop) (h1:vc P y a (thenQ (fun e h=>∃ s,e=E s∧I s h) Q) e h) (h2:∀ s h,I s h→vc P y b Q (E s) h):vc P y (.seq a b) Q e h:=
 w_joint _ h1 fun _ _ ⟨s,he,hi⟩=>he▸h2 s _ hi
theorem If_joint {P:Program} {y:Option Nat} {c:Prop} {a b:GC} {Q:Post} {K:Env→Heap→Prop} {e e':Env} {h h':Heap} {d:Dep (vc P y a (thenQ K Q) e h)} {d':Dep (vc P y b (thenQ K Q) e' h')} {α:Type} (E:α→Env) (I:α→Heap→Prop)
  (h1:c→vc P y a (thenQ (fun e h=>∃ s,Le (E s) e∧I s h) Q) e h) (h1':¬ c→vc P y b (thenQ (fun e h=>∃ s,Le (E s) e∧I s h) Q) e' h') (h2:∀ s h,I s h→∀ e,Le (E s) e→K e h):If c (vc P y a (thenQ K Q) e h) (vc P y b (thenQ K Q) e' h') d d':=
 have hm:∀ x e h,thenQ (fun e h=>∃ s,Le (E s) e∧I s h) Q x e h→thenQ K Q x e h:=fun x e h hq=>by
  cases x with
  | normal=>obtain ⟨s,hl,hi⟩:=hq;exact h2 _ _ hi _ hl
  | ret=>exact hq
  | exit j=>exact hq
 ⟨fun hc=>vc_mono hm (h1 hc),fun hc=>vc_mono hm (h1' hc)⟩
theorem free_intro {P:Program} {y:Option Nat} {D:List Nat} {l:List FI} {e:Env} {h:Heap} {K:Env→Heap→Prop} {d:Dep K} (A:Tells) (h1:StabL A) (h2:namesOk A l=true) (h3:freeOps P y A D h e l) (h4:∀ h',Fr 0 0 h h'→∀ V,Sep V h.size h'.size l→freeEnd A V h' l (drp D e) fun e'=>K e' h'):freeVC P y D l e h K d:=⟨A,h1,h2,h3,h4⟩
theorem Chk_intro {c K:Prop} {d:Dep K} (h1:c) (h2:K):Chk c K d:=⟨h1,h2⟩
theorem Chk_that {c K:Prop} {d:Dep K} (h1:c) (h2:c→K):Chk c K d:=⟨h1,h2 h1⟩
theorem loop_intro {body:Post→Env→Heap→Prop} {Q:Post} {e:Env} {h:Heap} {α:Type} (E:α→Env) (I:α→Heap→Prop) (μ:α→Nat) (s:α) (h1:Le (E s) e) (h2:I s h)
  (h3:∀ s h,I s h→body (thenQ (fun e' h'=>∃ s',μ s' < μ s∧Le (E s') e'∧I s' h') Q) (E s) h):loopVC body Q e h:=⟨α,E,I,μ,s,h1,h2,h3⟩
end
end Go.Vc
namespace Go.Vc
open Go
theorem cl_int (k:IntKind) (n:Int):cl (.int k n)=[.int k n]:=(rfl)
theorem cl_bool (b:Bool):cl (.bool b)=[.bool b]:=(rfl)
theorem cl_slice (a:Option Addr) (n c:Nat):cl (.slice a n c)=[.slice a n c]:=(rfl)
theorem cl_map (a:Option Nat):cl (.map a)=[.map a]:=(rfl)
theorem oc_map (a:Option Nat):(Value.map a).oneCell'=true:=(rfl)
theorem cl_ptr (a:Option Addr):cl (.pointer a)=[.pointer a]:=(rfl)
theorem cl_func (f:Fn) (a b:Array Value):cl (.func f a b)=[.func f a b]:=(rfl)
theorem cl_agg (cs:List Value):cl (.agg cs.toArray)=cs:=(rfl)
theorem cl_agg' (cs:Array Value):cl (.agg cs)=cs.toList:=(rfl)
theorem oc_int (k:IntKind) (n:Int):(Value.int k n).oneCell'=true:=(rfl)
theorem oc_bool (b:Bool):(Value.bool b).oneCell'=true:=(rfl)
theorem oc_slice (a:Option Addr) (n c:Nat):(Value.slice a n c).oneCell'=true:=(rfl)
theorem oc_ptr (a:Option Addr):(Value.pointer a).oneCell'=true:=(rfl)
theorem oc_func (f:Fn) (a b:Array Value):(Value.func f a b).oneCell'=true:=(rfl)
theorem putAt_nil (l:List Value) (o:Nat):putAt l o []=l:=(rfl)
theorem putAt_cons (l:List Value) (o:Nat) (v:Value) (vs:List Value):putAt l o (v :: vs)=putAt (l.set o v) (o+1) vs:=(rfl)
theorem res_nil (e:Env) (h:Heap) (K:List Value→Prop):withRes e h [] K=K []:=(rfl)
theorem res_tmp (e:Env) (h:Heap) (t:Nat) (l:List RV) (K:List Value→Prop):withRes e h (.tmp t :: l) K=withV (find e t) fun v=>withRes e h l fun vs=>K (v :: vs):=(rfl)
theorem res_cell (e:Env) (h:Heap) (t:Nat) (l:List RV) (K:List Value→Prop):withRes e h (.cell t none :: l) K=withP (find e t) fun b o=>withV (hcell h b o) fun v=>withRes e h l fun vs=>K (v :: vs):=(rfl)
theorem res_celln (e:Env) (h:Heap) (t n:Nat) (l:List RV) (K:List Value→Prop):withRes e h (.cell t (some n) :: l) K=withP (find e t) fun b o=>withC h b o n fun cs=>withRes e h l fun vs=>K (.agg cs.toArray :: vs):=(rfl)
theorem retV_one (v:Value):retV [v]=v:=(rfl)
theorem retV_nil:retV []=.tuple #[]:=(rfl)
theorem retV_two (v u:Value):retV [v,u]=.tuple #[v,u]:=(rfl)
theorem retV_three (v u w:Value):retV [v,u,w]=.tuple #[v,u,w]:=(rfl)
def rdAt (x:Option Value) (v:Value):List (Nat×Nat×Value):=match x with | some (.pointer (some a))=>[(a.block,a.off,v)] | _=>[]
def rdAtN (x:Option Value) (vs:List Value):List (Nat×Nat×Value):=match x with | some (.pointer (some a))=>vs.zipIdx.map fun (c,j)=>(a.block,a.off+j,c) | _=>[]
theorem rd_load0 (x:Operand) (e:Env) (v:Value):reads (.load none x) e v=rdAt (ev e x) v:=(rfl)
theorem rd_loadn (n:Nat) (x:Operand) (e:Env) (v:Value):reads (.load (some n) x) e v=rdAtN (ev e x) (cl v):=(rfl)
theorem rdAt_ptr (b o:Nat) (v:Value):rdAt (some (.pointer (some ⟨b,o,none⟩))) v=[(b,o,v)]:=(rfl)
theorem rdAtN_1 (b o:Nat) (v:Value):rdAtN (some (.pointer (some ⟨b,o,none⟩))) [v]=[(b,o,v)]:=(rfl)
theorem rdAtN_2 (b o:Nat) (v u:Value):rdAtN (some (.pointer (some ⟨b,o,none⟩))) [v,u]=[(b,o,v),(b,o+1,u)]:=(rfl)
theorem wf_cons (k j:Nat) (rs:List (Nat×Nat×Value)) (W:Watch):wfind ((k,rs) :: W) j=if k=j then rs else wfind W j:=(rfl)
attribute [go_sem] rd_load0 rd_loadn rdAt_ptr rdAtN_1 rdAtN_2 wf_cons
attribute [go_sem ↓] res_nil res_tmp res_cell res_celln
attribute [go_sem] retV_one retV_nil retV_two retV_three withAd_some withMp_some cl_map oc_map cl_int cl_bool cl_slice cl_ptr cl_func cl_agg oc_int oc_bool oc_slice oc_ptr oc_func putAt_nil putAt_cons List.length_cons List.length_nil List.set_cons_zero List.set_cons_succ List.all_cons List.all_nil Bool.and_true and_self and_true true_and decide_eq_true_eq Nat.zero_add Nat.add_zero
end Go.Vc
namespace Go.Vc
open Go
theorem call_of {P:Program} {f:FuncId} {args:Array Value} {h:Heap} {R K:Value→Heap→Prop} {d:Dep K} (hc:Con P f args h R) (hk:∀ v h',R v h'→K v h'):callB P f args h K d:=hc.mono hk
theorem yld_of {P:Program} {l:Nat} {args:Array Value} {h:Heap} {R K:Value→Heap→Prop} {d:Dep K} (hc:Yld P l args h R) (hk:∀ v h',R v h'→K v h'):yldB P l args h K d:=hc.mono hk
end Go.Vc
