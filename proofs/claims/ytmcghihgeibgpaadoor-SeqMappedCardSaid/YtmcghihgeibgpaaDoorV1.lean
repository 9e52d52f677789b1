/-
  A calculus of weakest preconditions over the compiled code of the functions that the law reaches, and its soundness. No condition.
-/
import Derived.Carry
import Derived.ChangeKeysEq
import Derived.Deep.DeepHandedRow
import Derived.Deep.Grids
import Derived.Deep.SlicePairs
import Derived.Lib.LaidTab
import Derived.OpenShut
import Derived.OpenVars
import Derived.OrdersIn
import Derived.ProofKit
import Derived.RangeFuncCalls
import Derived.RangeFuncIn
import Derived.RangeFuncLeaves
import Derived.Sort.LoopGhostIn
import Derived.WalkKit
set_option linter.all false
set_option maxRecDepth 2000
/-
  A calculus of weakest preconditions over compiled code: what an operation does to a frame that is known in part, and to a heap.
-/
namespace Go.Vc
open Go
abbrev Heap:=Array Obj
abbrev Env:=List (Nat×Value)
def hcell (h:Heap) (b o:Nat):Option Value:=
 match h[b]? with
 | some (.cells c _ _)=>c[o]?
 | _=>none
theorem cell?_heap (w:World) (b o:Nat):w.cell? ⟨b,o,none⟩=hcell w.heap b o:=by
 unfold World.cell? hcell
 split <;> simp_all
def hmod (o:Nat) (v:Value):Obj→Obj
 | .cells c t f=>.cells (c.setIfInBounds o v) t f
 | x=>x
def hset (h:Heap) (b o:Nat) (v:Value):Heap:=h.modify b (hmod o v)
def hputs (h:Heap) (b o:Nat):List Value→Heap
 | []=>h
 | v :: vs=>hputs (hset h b o v) b (o+1) vs
def Blk (h:Heap) (b:Nat) (t:TypeId) (c:List Value):Prop:=h[b]?=some (.cells c.toArray t (0,0))
def Wr (h:Heap) (b o n:Nat):Prop:=∃ t c,Blk h b t c∧o+n≤c.length
structure New (h h':Heap) (b:Nat) (c:List Value):Prop where
 at_:b=h.size
 push:∃ t,h'=h.push (.cells c.toArray t)
structure Sto (h h':Heap) (b o:Nat) (vs:List Value):Prop where
 eq:h'=hputs h b o vs
structure Like (y:Option Nat) (w w':World):Prop where
 os:w'.os=w.os
 output:w'.output=w.output
 tape:w'.tape=w.tape
 size:w.heap.size≤w'.heap.size
 keepD:∀ D:Nat,w.heap[D]?=some (.deferred (some []))→w'.heap[D]?=some (.deferred (some []))
 keepL:∀ (l:Nat) (r:Loop),y≠some l→w.heap[l]?=some (.loop r)→w'.heap[l]?=some (.loop r)
theorem Like.refl (y:Option Nat) (w:World):Like y w w:=⟨rfl,rfl,rfl,Nat.le_refl _,fun _ h=>h,fun _ _ _ h=>h⟩
theorem Like.trans {y:Option Nat} {w w' w'':World} (h:Like y w w') (k:Like y w' w''):Like y w w'':=
 ⟨k.os.trans h.os,k.output.trans h.output,k.tape.trans h.tape,Nat.le_trans h.size k.size,fun D hD=>k.keepD D (h.keepD D hD),fun l r hy hl=>k.keepL l r hy (h.keepL l r hy hl)⟩
theorem Like.any {y:Option Nat} {w w':World} (h:Like none w w'):Like y w w':=
 ⟨h.os,h.output,h.tape,h.size,h.keepD,fun l r _ hl=>h.keepL l r (by simp) hl⟩
def goodF (P:Program) (f:FuncId):Bool:=
 match P.funcs[f]? with
 | some fn => fn.name != "runtime.NumGoroutine" && fn.body.isSome
 | none=>false
def ConX (y:Option Nat) (P:Program) (f:FuncId) (args:Array Value) (h:Heap) (R:Value→Heap→Prop):Prop:=
 goodF P f=true∧∀ w,w.heap=h→Calls P f args w fun e w'=>∃ v,e=.returned v∧R v w'.heap∧Like y w w'
abbrev Con:=ConX none
theorem ConX.mono {y:Option Nat} {P:Program} {f:FuncId} {args:Array Value} {h:Heap} {R R':Value→Heap→Prop} (hc:ConX y P f args h R)
  (hr:∀ v h',R v h'→R' v h'):ConX y P f args h R':=
 ⟨hc.1,fun w hw=>(hc.2 w hw).mono fun _ _ ⟨v,he,h1,h2⟩=>⟨v,he,hr _ _ h1,h2⟩⟩
def Yld (P:Program) (l:Nat) (args:Array Value) (h:Heap) (R:Value→Heap→Prop):Prop:=
 ∀ w,w.heap=h→∃ fn tmps assign body,(Instr.yield l args).run P w=.ok (.round l fn tmps assign body) w ∧
  RoundIn Fence.wide 0 P l fn tmps assign body w fun e w'=>∃ v,e=.returned v∧R v w'.heap∧Like (some l) w w'
theorem Yld.mono {P:Program} {l:Nat} {args:Array Value} {h:Heap} {R R':Value→Heap→Prop} (hc:Yld P l args h R)
  (hr:∀ v h',R v h'→R' v h'):Yld P l args h R':=
 fun w hw=>by
  obtain ⟨fn,tmps,assign,body,h1,h2⟩:=hc w hw
  exact ⟨fn,tmps,assign,body,h1,h2.mono fun _ _ ⟨v,he,h1,h2⟩=>⟨v,he,hr _ _ h1,h2⟩⟩
def find:Env→Nat→Option Value
 | [],_=>none
 | (k,v) :: e,t=>if k=t then some v else find e t
def ev (e:Env):Operand→Option Value
 | .tmp t=>find e t
 | .const v=>some v
 | .global g=>some (.pointer (some ⟨g,0,none⟩))
 | .func f=>some (.func (.func f) #[] #[])
def Holds (N:Nat) (e:Env) (a:Act):Prop:=a.tmps.size=N∧∀ t v,find e t=some v→a.tmps.getD t undef=v
theorem Holds.ev {N:Nat} {e:Env} {a:Act} (h:Holds N e a) {x:Operand} {v:Value} (hx:Vc.ev e x=some v):a.eval x=v:=by
 cases x with
 | tmp t=>exact h.2 t v hx
 | const u=>simpa [Vc.ev,Act.eval] using hx
 | global g=>simpa [Vc.ev,Act.eval] using hx
 | func f=>simpa [Vc.ev,Act.eval] using hx
def eput (e:Env) (dst:Option Nat) (v:Value):Env:=
 match dst with
 | some d=>(d,v) :: e
 | none=>e
theorem Holds.put {N:Nat} {e:Env} {a:Act} (h:Holds N e a) {dst:Option Nat} (hd:∀ d,dst=some d→d<N) (v:Value) :
  Holds N (eput e dst v) (a.put dst v):=by
 cases dst with
 | none=>exact h
 | some d =>
  have hd:=hd d rfl
  refine ⟨by simp [Act.put,h.1],fun t u ht=>?_⟩
  simp only [eput,find] at ht
  simp only [Act.put]
  by_cases hdt:d=t
  ·subst hdt
   simp only [if_true] at ht
   cases ht
   simp [h.1,hd]
  ·rw [if_neg hdt] at ht
   have:=h.2 t u ht
   simpa [Array.getElem?_setIfInBounds_ne hdt] using this
def consO (x:Option Value) (t:Nat) (e:Env):Env:=
 match x with
 | some v=>(t,v) :: e
 | none=>e
def only (l:List Nat) (e:Env):Env:=
 match l with
 | []=>[]
 | t :: l=>consO (find e t) t (only l e)
theorem find_only {l:List Nat} {e:Env} {t:Nat} {v:Value} (h:find (only l e) t=some v):find e t=some v:=by
 induction l with
 | nil=>simp [only,find] at h
 | cons k l ih =>
  simp only [only,consO] at h
  split at h
  ·rename_i u hu
   simp only [find] at h
   split at h
   ·rename_i hk;subst hk;rw [hu];exact h
   ·exact ih h
  ·exact ih h
theorem Holds.only {N:Nat} {e:Env} {a:Act} (h:Holds N e a) (l:List Nat):Holds N (Vc.only l e) a:=
 ⟨h.1,fun t v ht=>h.2 t v (find_only ht)⟩
def Le:Env→Env→Prop
 | [],_=>True
 | (k,v) :: e,e'=>find e' k=some v∧Le e e'
theorem Le.find {e e':Env} (h:Le e e') {t:Nat} {v:Value} (ht:find e t=some v):Vc.find e' t=some v:=by
 induction e with
 | nil=>simp [Vc.find] at ht
 | cons p e ih =>
  obtain ⟨k,u⟩:=p
  simp only [Vc.find] at ht
  split at ht
  ·rename_i hk;subst hk;cases ht;exact h.1
  ·exact ih h.2 ht
theorem Holds.le {N:Nat} {e e':Env} {a:Act} (h:Holds N e' a) (hl:Le e e'):Holds N e a:=
 ⟨h.1,fun t v ht=>h.2 t v (hl.find ht)⟩
inductive Dep {α:Type} (x:α):Type where
 | mk
def withV (x:Option Value) (K:Value→Prop) (_:Dep K:=.mk):Prop:=match x with | some v=>K v | none=>False
def withI (x:Option Value) (K:IntKind→Int→Prop) (_:Dep K:=.mk):Prop:=match x with | some (.int k n)=>K k n | _=>False
def withB (x:Option Value) (K:Bool→Prop) (_:Dep K:=.mk):Prop:=match x with | some (.bool b)=>K b | _=>False
def withP (x:Option Value) (K:Nat→Nat→Prop) (_:Dep K:=.mk):Prop:=match x with | some (.pointer (some ⟨b,o,none⟩))=>K b o | _=>False
def withS (x:Option Value) (K:Option Addr→Nat→Nat→Prop) (_:Dep K:=.mk):Prop:=match x with | some (.slice a n c)=>K a n c | _=>False
def withA (x:Option Value) (K:Array Value→Prop) (_:Dep K:=.mk):Prop:=match x with | some (.agg cs)=>K cs | _=>False
def withT (x:Option Value) (K:Array Value→Prop) (_:Dep K:=.mk):Prop:=match x with | some (.tuple cs)=>K cs | _=>False
def withAd (x:Option Addr) (K:Nat→Nat→Prop) (_:Dep K:=.mk):Prop:=match x with | some ⟨b,o,none⟩=>K b o | _=>False
def withL (e:Env) (l:List Operand) (K:List Value→Prop):Prop:=
 match l with
 | []=>K []
 | x :: l=>withV (ev e x) fun v=>withL e l fun vs=>K (v :: vs)
def Chk (c K:Prop) (_:Dep K:=.mk):Prop:=c∧K
def If (c A B:Prop) (_:Dep A:=.mk) (_:Dep B:=.mk):Prop:=(c→A)∧(¬ c→B)
def withC (h:Heap) (b o:Nat):Nat→(List Value→Prop)→Prop
 | 0,K=>K []
 | n+1,K=>withV (hcell h b o) fun v=>withC h b (o+1) n fun vs=>K (v :: vs)
section
theorem withV_some (v:Value) (K:Value→Prop) (d:Dep K):withV (some v) K d=K v:=(rfl)
theorem withI_some (k:IntKind) (n:Int) (K:IntKind→Int→Prop) (d:Dep K):withI (some (.int k n)) K d=K k n:=(rfl)
theorem withB_some (b:Bool) (K:Bool→Prop) (d:Dep K):withB (some (.bool b)) K d=K b:=(rfl)
theorem withP_some (b o:Nat) (K:Nat→Nat→Prop) (d:Dep K):withP (some (.pointer (some ⟨b,o,none⟩))) K d=K b o:=(rfl)
theorem withS_some (a:Option Addr) (n c:Nat) (K:Option Addr→Nat→Nat→Prop) (d:Dep K):withS (some (.slice a n c)) K d=K a n c:=(rfl)
theorem withA_some (cs:Array Value) (K:Array Value→Prop) (d:Dep K):withA (some (.agg cs)) K d=K cs:=(rfl)
theorem withT_some (cs:Array Value) (K:Array Value→Prop) (d:Dep K):withT (some (.tuple cs)) K d=K cs:=(rfl)
theorem withAd_some (b o:Nat) (K:Nat→Nat→Prop) (d:Dep K):withAd (some ⟨b,o,none⟩) K d=K b o:=(rfl)
theorem Chk_true (K:Prop) (d:Dep K):Chk True K d=K:=by simp [Chk]
theorem If_true (A B:Prop) (d:Dep A) (d':Dep B):If True A B d d'=A:=by simp [If]
theorem If_false (A B:Prop) (d:Dep A) (d':Dep B):If False A B d d'=B:=by simp [If]
end
theorem withAd_elim {x:Option Addr} {K:Nat→Nat→Prop} (h:withAd x K):∃ b o,x=some ⟨b,o,none⟩∧K b o:=by
 unfold withAd at h;split at h
 ·exact ⟨_,_,rfl,h⟩
 ·exact h.elim
theorem withV_elim {x:Option Value} {K:Value→Prop} (h:withV x K):∃ v,x=some v∧K v:=by
 unfold withV at h;split at h
 ·exact ⟨_,rfl,h⟩
 ·exact h.elim
theorem withI_elim {x:Option Value} {K:IntKind→Int→Prop} (h:withI x K):∃ k n,x=some (.int k n)∧K k n:=by
 unfold withI at h;split at h
 ·exact ⟨_,_,rfl,h⟩
 ·exact h.elim
theorem withB_elim {x:Option Value} {K:Bool→Prop} (h:withB x K):∃ b,x=some (.bool b)∧K b:=by
 unfold withB at h;split at h
 ·exact ⟨_,rfl,h⟩
 ·exact h.elim
theorem withP_elim {x:Option Value} {K:Nat→Nat→Prop} (h:withP x K):∃ b o,x=some (.pointer (some ⟨b,o,none⟩))∧K b o:=by
 unfold withP at h;split at h
 ·exact ⟨_,_,rfl,h⟩
 ·exact h.elim
theorem withS_elim {x:Option Value} {K:Option Addr→Nat→Nat→Prop} (h:withS x K):∃ a n c,x=some (.slice a n c)∧K a n c:=by
 unfold withS at h;split at h
 ·exact ⟨_,_,_,rfl,h⟩
 ·exact h.elim
theorem withA_elim {x:Option Value} {K:Array Value→Prop} (h:withA x K):∃ cs,x=some (.agg cs)∧K cs:=by
 unfold withA at h;split at h
 ·exact ⟨_,rfl,h⟩
 ·exact h.elim
theorem withT_elim {x:Option Value} {K:Array Value→Prop} (h:withT x K):∃ cs,x=some (.tuple cs)∧K cs:=by
 unfold withT at h;split at h
 ·exact ⟨_,rfl,h⟩
 ·exact h.elim
theorem withL_elim {e:Env} {l:List Operand} {K:List Value→Prop} (h:withL e l K):∃ vs,l.map (ev e)=vs.map some∧K vs:=by
 induction l generalizing K with
 | nil=>exact ⟨[],rfl,h⟩
 | cons x l ih =>
  obtain ⟨v,hv,h⟩:=withV_elim h
  obtain ⟨vs,hvs,h⟩:=ih h
  exact ⟨v :: vs,by simp [hv,hvs],h⟩
theorem withC_elim {h:Heap} {b:Nat} {n o:Nat} {K:List Value→Prop} (hk:withC h b o n K) :
  ∃ vs,vs.length=n∧(∀ j v,vs[j]?=some v→hcell h b (o+j)=some v)∧K vs:=by
 induction n generalizing o K with
 | zero=>exact ⟨[],rfl,by simp,hk⟩
 | succ n ih =>
  obtain ⟨v,hv,hk⟩:=withV_elim hk
  obtain ⟨vs,hn,hc,hk⟩:=ih hk
  refine ⟨v :: vs,by simp [hn],fun j u hj=>?_,hk⟩
  cases j with
  | zero=>simp at hj;subst hj;exact hv
  | succ j=>simp at hj;have:=hc j u hj;rwa [show o+1+j=o+(j+1) from by omega] at this
def mapEs:Nat→List (Int×Value)→List MapEntry
 | _,[]=>[]
 | n,(k,v) :: m=>⟨.int .i64 k,v,n⟩ :: mapEs (n+1) m
def mapObj (m:List (Int×Value)):Obj:=.map (mapEs 0 m).toArray m.length
def iterObj (r n:Nat) (seen:List Nat):Obj:=.mapIter (some r) n seen.toArray n
def mfind:List (Int×Value)→Int→Option (Nat×Value)
 | [],_=>none
 | (k,v) :: m,x=>if x=k then some (0,v) else (mfind m x).map fun p=>(p.1+1,p.2)
def mset (m:List (Int×Value)) (i:Nat) (v:Value):List (Int×Value):=m.modify i fun p=>(p.1,v)
def mput (m:List (Int×Value)) (k:Int) (v:Value):List (Int×Value):=match mfind m k with | some (i,_)=>mset m i v | none=>m++[(k,v)]
def mget (z:Value) (m:List (Int×Value)) (k:Int):Value:=match mfind m k with | some (_,v)=>v | none=>z
def mhas (m:List (Int×Value)) (k:Int):Bool:=(mfind m k).isSome
def MapAt (h:Heap) (r:Nat) (m:List (Int×Value)):Prop:=h[r]?=some (mapObj m)
def IterAt (h:Heap) (b r n:Nat) (seen:List Nat):Prop:=h[b]?=some (iterObj r n seen)
def hobj (h:Heap) (r:Nat) (o:Obj):Heap:=h.setIfInBounds r o
structure NewO (h h':Heap) (b:Nat) (o:Obj):Prop where
 at_:b=h.size
 push:h'=h.push o
structure StoO (h h':Heap) (r:Nat) (o:Obj):Prop where
 eq:h'=hobj h r o
def withMp (x:Option Value) (K:Nat→Prop) (_:Dep K:=.mk):Prop:=match x with | some (.map (some r))=>K r | _=>False
def withMap (h:Heap) (r:Nat) (K:List (Int×Value)→Prop) (_:Dep K:=.mk):Prop:=∃ m,MapAt h r m∧K m
theorem withMp_some (r:Nat) (K:Nat→Prop) (d:Dep K):withMp (some (.map (some r))) K d=K r:=(rfl)
theorem withMp_elim {x:Option Value} {K:Nat→Prop} (h:withMp x K):∃ r,x=some (.map (some r))∧K r:=by
 unfold withMp at h;split at h
 ·exact ⟨_,rfl,h⟩
 ·exact h.elim
structure Fr (lo hi:Nat) (h h':Heap):Prop where
 size:h.size≤h'.size
 old:∀ b,b<h.size→(b<lo∨hi≤b)→h'[b]?=h[b]?
theorem Fr.refl (lo hi:Nat) (h:Heap):Fr lo hi h h:=⟨Nat.le_refl _,fun _ _ _=>rfl⟩
theorem Fr.trans {lo hi:Nat} {h h' h'':Heap} (a:Fr lo hi h h') (b:Fr lo hi h' h''):Fr lo hi h h'':=
 ⟨Nat.le_trans a.size b.size,fun x hx hc=>(b.old x (Nat.lt_of_lt_of_le hx a.size) hc).trans (a.old x hx hc)⟩
end Go.Vc
namespace Go.Vc
open Go
inductive GOp where
 | mv (x:Operand)
 | pick (c a b:Operand)
 | bin (op:BinOp) (x y:Operand)
 | shift (op:BinOp) (x y:Operand)
 | eqBool (neg:Bool) (x y:Operand)
 | eqNil (sl neg:Bool) (x y:Operand)
 | eqStruct (neg:Bool) (offs:List Nat) (x y:Operand)
 | not (x:Operand)
 | neg (x:Operand)
 | compl (x:Operand)
 | conv (k:IntKind) (x:Operand)
 | nilCheck (x:Operand)
 | fieldAddr (off:Nat) (x:Operand)
 | field (agg:Option Nat) (off:Nat) (x:Operand)
 | indexAddr (size:Nat) (x i:Operand)
 | indexArr (size len:Nat) (x i:Operand)
 | extract (i:Nat) (x:Operand)
 | makeFunc (fn:Fn) (first captured:List Operand)
 | len (x:Operand)
 | cap (x:Operand)
 | maxi (x y:Operand)
 | mini (x y:Operand)
 | slice (size:Nat) (x:Operand) (lo hi:Option Operand)
 | build (zero:List Value) (parts:List (Nat×Nat×Operand))
 | load (agg:Option Nat) (x:Operand)
 | alloc (elem:TypeId) (zero:List Value)
 | box (elem:TypeId) (x:Operand)
 | buildSlice (elem:TypeId) (len:Nat) (zero:List Value) (parts:List (Nat×Nat×Operand))
 | makeSlice (elem:TypeId) (size bytes:Nat) (zero:List Value) (l c:Operand)
 | store (n:Nat) (x v:Operand)
 | append (elem:TypeId) (size bytes:Nat) (zero:List Value) (s x:Operand)
 | call (f:FuncId) (args:List Operand)
 | callv (x:Operand) (args:List Operand)
 | makeMap
 | lookup (ok:Bool) (zero:Value) (x i:Operand)
 | mapSet (x k v:Operand)
 | mapEntry (zero:Value) (x k:Operand)
 | entryStore (x s v:Operand)
 | mrange (x:Operand)
 | mnext (x:Operand)
 | mentry (x:Operand)
 | clearM (x:Operand)
 | appendN (elem:TypeId) (size bytes:Nat) (zero:List Value) (s x:Operand)
 | never
def GOp.quiet:GOp→Bool
 | .alloc .. | .box .. | .buildSlice .. | .makeSlice .. | .store .. | .append .. | .call .. | .callv .. | .makeMap | .lookup .. | .mapSet .. | .mapEntry .. | .entryStore .. | .mrange .. | .mnext .. | .mentry .. | .clearM .. | .appendN .. | .never=>false
 | _=>true
def putAt (l:List Value) (off:Nat):List Value→List Value
 | []=>l
 | v :: vs=>putAt (l.set off v) (off+1) vs
def cl (v:Value):List Value:=v.cells.toList
def withParts (e:Env):List (Nat×Nat×Operand)→List Value→(List Value→Prop)→Prop
 | [],cs,K=>K cs
 | (off,size,x) :: ps,cs,K=>withV (ev e x) fun v=>Chk ((cl v).length=size∧off+size≤cs.length) (withParts e ps (putAt cs off (cl v)) K)
def binI (op:BinOp) (k:IntKind) (a b:Int) (K:Value→Prop):Prop:=
 match op with
 | .add=>K (.int k (k.wrap (a+b)))
 | .sub=>K (.int k (k.wrap (a - b)))
 | .mul=>K (.int k (k.wrap (a * b)))
 | .quo=>Chk (b≠0) (K (.int k (k.wrap (a.tdiv b))))
 | .rem=>Chk (b≠0) (K (.int k (a.tmod b)))
 | .and=>K (.int k (k.wrap (BitVec.ofInt k.bits a &&& BitVec.ofInt k.bits b).toNat))
 | .or=>K (.int k (k.wrap (BitVec.ofInt k.bits a ||| BitVec.ofInt k.bits b).toNat))
 | .xor=>K (.int k (k.wrap (BitVec.ofInt k.bits a ^^^ BitVec.ofInt k.bits b).toNat))
 | .andNot=>K (.int k (k.wrap (BitVec.ofInt k.bits a &&& ~~~(BitVec.ofInt k.bits b)).toNat))
 | .eql=>K (.bool (a==b))
 | .neq=>K (.bool (a != b))
 | .lss=>K (.bool (decide (a<b)))
 | .leq=>K (.bool (decide (a≤b)))
 | .gtr=>K (.bool (decide (a > b)))
 | .geq=>K (.bool (decide (a≥b)))
 | _=>False
def eqCells:List Nat→Array Value→Array Value→(Bool→Prop)→Prop
 | [],_,_,K=>K true
 | o :: os,xs,ys,K=>withI xs[o]? fun k n=>withI ys[o]? fun k' m=>Chk (k=k') (eqCells os xs ys fun b=>K ((n==m)&&b))
def eqNilV (sl:Bool) (a b:Value) (K:Bool→Prop):Prop:=
 match sl,a,b with
 | false,.pointer none,.pointer q=>K q.isNone
 | false,.pointer (some _),.pointer none=>K false
 | true,.slice none _ _,.slice q _ _=>K q.isNone
 | true,.slice (some _) _ _,.slice none _ _=>K false
 | _,_,_=>False
def withLo (e:Env) (x:Option Operand) (d:Nat) (K:Nat→Prop):Prop:=
 match x with
 | none=>K d
 | some x=>withI (ev e x) fun _ i=>Chk (0≤i) (K i.toNat)
def qvc (g : GOp) (e : Env) (h : Heap) (K : Value → Prop) : Prop :=
  match g with
  | .mv x => withV (ev e x) K
  | .pick c a b => withB (ev e c) fun t => If (t = true) (withV (ev e a) K) (withV (ev e b) K)
  | .bin op x y => withI (ev e x) fun k a => withI (ev e y) fun k' b => Chk (k = k') (binI op k a b K)
  | .shift op x y => withI (ev e x) fun k a => withI (ev e y) fun _ b => Chk (0 ≤ b)
      (match op with
       | .shl => K (.int k (k.wrap (a * 2 ^ (min b.toNat k.bits))))
       | .shr => K (.int k (a.fdiv (2 ^ (min b.toNat k.bits))))
       | _ => False)
  | .eqBool neg x y => withB (ev e x) fun a => withB (ev e y) fun b => K (.bool (if neg then a != b else a == b))
  | .eqNil sl neg x y => withV (ev e x) fun a => withV (ev e y) fun b => eqNilV sl a b fun r => K (.bool (if neg then !r else r))
  | .eqStruct neg offs x y => withA (ev e x) fun xs => withA (ev e y) fun ys => eqCells offs xs ys fun r => K (.bool (if neg then !r else r))
  | .not x => withB (ev e x) fun b => K (.bool !b)
  | .neg x => withI (ev e x) fun k n => K (.int k (k.wrap (0 - n)))
  | .compl x => withI (ev e x) fun k n => K (.int k (k.wrap (BitVec.ofInt k.bits (if k.signed then -1 else k.max) ^^^ BitVec.ofInt k.bits n).toNat))
  | .conv k x => withI (ev e x) fun _ n => K (.int k (k.wrap n))
  | .nilCheck x => withP (ev e x) fun b o => K (.pointer (some ⟨b, o, none⟩))
  | .fieldAddr off x => withP (ev e x) fun b o => K (.pointer (some ⟨b, o + off, none⟩))
  | .field none off x => withA (ev e x) fun cs => withV cs[off]? K
  | .field (some n) off x => withA (ev e x) fun cs => K (.agg (cs.extract off (off + n)))
  | .indexAddr size x i => withS (ev e x) fun a n _ => withI (ev e i) fun _ i => Chk (0 ≤ i ∧ i < (n : Int))
      (withAd a fun b o => K (.pointer (some ⟨b, o + i.toNat * size, none⟩)))
  | .indexArr size len x i => withP (ev e x) fun b o => withI (ev e i) fun _ i => Chk (0 ≤ i ∧ i < (len : Int)) (K (.pointer (some ⟨b, o + i.toNat * size, none⟩)))
  | .extract i x => withT (ev e x) fun cs => withV cs[i]? K
  | .makeFunc fn first captured => withL e first fun vs => withL e captured fun us => K (.func fn vs.toArray us.toArray)
  | .len x => withS (ev e x) fun _ n _ => K (.int .i64 n)
  | .cap x => withS (ev e x) fun _ _ c => K (.int .i64 c)
  | .maxi x y => withI (ev e x) fun k a => withI (ev e y) fun _ b => K (.int k (if b > a then b else a))
  | .mini x y => withI (ev e x) fun k a => withI (ev e y) fun _ b => K (.int k (if b < a then b else a))
  | .slice size x lo hi => withS (ev e x) fun a n c => withLo e hi n fun h => Chk (h ≤ c) (withLo e lo 0 fun l => Chk (l ≤ h)
      (K (.slice (if c = l then a else a.map (·.add (l * size))) (h - l) (c - l))))
  | .build zero parts => withParts e parts zero fun cs => K (.agg cs.toArray)
  | .load none x => withP (ev e x) fun b o => withV (hcell h b o) K
  | .load (some n) x => withP (ev e x) fun b o => withC h b o n fun vs => K (.agg vs.toArray)
  | _ => False
def zeros (zero:List Value) (n:Nat):List Value:=
 match n with
 | 0=>[]
 | n+1=>zero++zeros zero n
def newB (h:Heap) (c:List Value) (K:Nat→Heap→Prop) (_:Dep K:=.mk):Prop:=∀ b h',New h h' b c→K b h'
def stoB (h:Heap) (b o:Nat) (vs:List Value) (K:Heap→Prop) (_:Dep K:=.mk):Prop:=∀ h',Sto h h' b o vs→K h'
def callB (P:Program) (f:FuncId) (args:Array Value) (h:Heap) (K:Value→Heap→Prop) (_:Dep K:=.mk):Prop:=Con P f args h K
def yldB (P:Program) (l:Nat) (args:Array Value) (h:Heap) (K:Value→Heap→Prop) (_:Dep K:=.mk):Prop:=Yld P l args h K
def appB (size bytes : Nat) (zero : List Value) (h : Heap) (a : Option Addr) (n c : Nat) (new : List Value) (m : Nat) (K : Value → Heap → Prop) (_ : Dep K := .mk) : Prop :=
  (n + m ≤ c → match a with
     | some ⟨b, o, none⟩ => Wr h b (o + n * size) (m * size) ∧ ∀ h', Sto h h' b (o + n * size) new → K (.slice a (n + m) c) h'
     | none => m = 0 ∧ K (.slice none (n + m) c) h
     | _ => False) ∧
  (c < n + m → (n + m) * 2 * bytes ≤ 281474976710656 ∧ ∃ old, (old = [] ∧ a = none ∧ n = 0 ∨ ∃ b o, a = some ⟨b, o, none⟩ ∧ old.length = n * size ∧ ∀ j v, old[j]? = some v → hcell h b (o + j) = some v) ∧
     ∀ c' b' h', n + m ≤ c' → New h h' b' (old ++ new ++ zeros zero (c' - (n + m))) → K (.slice (some ⟨b', 0, none⟩) (n + m) c') h')
def newO (h:Heap) (o:Obj) (K:Nat→Heap→Prop) (_:Dep K:=.mk):Prop:=∀ b h',NewO h h' b o→K b h'
def stoO (h:Heap) (r:Nat) (o:Obj) (K:Heap→Prop) (_:Dep K:=.mk):Prop:=∀ h',StoO h h' r o→K h'
def nextB (h:Heap) (b:Nat) (K:Value→Heap→Prop) (_:Dep K:=.mk):Prop:=
 ∃ r m seen,IterAt h b r m.length seen∧MapAt h r m ∧
  (∀ i k v,m[i]?=some (k,v)→i∉seen→∀ h',StoO h h' b (iterObj r m.length (seen++[i]))→K (.tuple #[.bool true,.int .i64 k,v]) h') ∧
  ((∀ i,i<m.length→i∈seen)→K (.tuple #[.bool false]) h)
def entryB (h:Heap) (b:Nat) (K:Value→Prop) (_:Dep K:=.mk):Prop:=
 ∃ r m seen i k v,IterAt h b r m.length (seen++[i])∧MapAt h r m∧m[i]?=some (k,v)∧K (.tuple #[.int .i64 k,v])
def slotB (h:Heap) (r:Nat) (zero:Value) (n:Int) (K:Value→Heap→Prop) (_:Dep K:=.mk):Prop:=
 ∃ m,MapAt h r m∧(∀ i v,mfind m n=some (i,v)→K (.tuple #[v,.int .i64 (i:Nat)]) h) ∧
  (mfind m n=none→∀ h',StoO h h' r (mapObj (m++[(n,zero)]))→K (.tuple #[zero,.int .i64 (m.length:Nat)]) h')
def gvc (P : Program) (y : Option Nat) (g : GOp) (e : Env) (h : Heap) (K : Value → Heap → Prop) : Prop :=
  match g with
  | .alloc _ zero => newB h zero fun b h' => K (.pointer (some ⟨b, 0, none⟩)) h'
  | .box _ x => withV (ev e x) fun v => newB h (cl v) fun b h' => K (.pointer (some ⟨b, 0, none⟩)) h'
  | .buildSlice _ len zero parts => withParts e parts zero fun cs => newB h cs fun b h' => K (.slice (some ⟨b, 0, none⟩) len len) h'
  | .makeSlice _ _ bytes zero l c => withI (ev e l) fun _ l => withI (ev e c) fun _ c => Chk (0 ≤ l ∧ l ≤ c ∧ c ≤ 9223372036854775807 ∧ bytes * c ≤ 281474976710656)
      (newB h (zeros zero c.toNat) fun b h' => K (.slice (some ⟨b, 0, none⟩) l.toNat c.toNat) h')
  | .store n x v => withP (ev e x) fun b o => withV (ev e v) fun v => Chk ((cl v).length = n ∧ (cl v).all Value.oneCell' = true) (Chk (Wr h b o n) (stoB h b o (cl v) fun h' => K undef h'))
  | .append _ size bytes zero s x => withS (ev e s) fun a n c => withS (ev e x) fun a' m _ =>
      If (m = 0) (appB size bytes zero h a n c [] m K) (withAd a' fun b' o' => withC h b' o' (m * size) fun new => Chk (new.all Value.oneCell' = true) (appB size bytes zero h a n c new m K))
  | .call f args => withL e args fun vs => callB P f vs.toArray h K
  | .callv x args => withV (ev e x) fun v => withL e args fun vs =>
      (match v with
       | .func (.func f) first captured => callB P f (first ++ vs.toArray ++ captured) h K
       | .func (.yield l) first _ => Chk (y = some l) (yldB P l (first ++ vs.toArray) h K)
       | _ => False)
  | .makeMap => newO h (mapObj []) fun r h' => K (.map (some r)) h'
  | .lookup ok zero x i => withMp (ev e x) fun r => withI (ev e i) fun k n => Chk (k = .i64) (withMap h r fun m => K (if ok then .tuple #[mget zero m n, .bool (mhas m n)] else mget zero m n) h)
  | .mapSet x k v => withMp (ev e x) fun r => withI (ev e k) fun kd n => withV (ev e v) fun v => Chk (kd = .i64) (withMap h r fun m => stoO h r (mapObj (mput m n v)) fun h' => K undef h')
  | .mapEntry zero x k => withMp (ev e x) fun r => withI (ev e k) fun kd n => Chk (kd = .i64) (slotB h r zero n K)
  | .entryStore x s v => withMp (ev e x) fun r => withI (ev e s) fun kd i => withV (ev e v) fun v => Chk (kd = .i64) (withMap h r fun m => Chk (0 ≤ i ∧ i < (m.length : Int) ∧ i ≤ 9223372036854775807) (stoO h r (mapObj (mset m i.toNat v)) fun h' => K undef h'))
  | .mrange x => withMp (ev e x) fun r => withMap h r fun m => newO h (iterObj r m.length []) fun b h' => K (.pointer (some ⟨b, 0, none⟩)) h'
  | .mnext x => withP (ev e x) fun b o => Chk (o = 0) (nextB h b K)
  | .mentry x => withP (ev e x) fun b o => Chk (o = 0) (entryB h b fun v => K v h)
  | .appendN _ size bytes zero s x => withS (ev e s) fun a n c => withI (ev e x) fun k m => Chk (a = none ∧ n = 0 ∧ c = 0 ∧ k = .i64 ∧ 0 < m ∧ m ≤ 4611686018427387904 ∧ m * 2 * bytes ≤ 281474976710656)
      (∀ c' b' h', m.toNat ≤ c' → New h h' b' (zeros zero m.toNat ++ zeros zero (c' - m.toNat)) → K (.slice (some ⟨b', 0, none⟩) m.toNat c') h')
  | .never => False
  | .clearM x => withMp (ev e x) fun r => withMap h r fun m => Chk (m = []) (K (.tuple #[]) h)
  | g => qvc g e h fun v => K v h
def isAggT (P:Program) (t:TypeId):Option Bool:=
 match P.underlying t with
 | some (.struct _) | some (.array ..)=>some true
 | some _=>some false
 | none=>none
def sizeT (P:Program) (t:TypeId):Option Nat:=(P.info? t).map (·.size)
def zeroT (P:Program) (t:TypeId):Option (List Value):=(P.info? t).bind fun i=>i.zero.map cl
def aggT (P:Program) (t:TypeId):Option (Option Nat):=
 match isAggT P t,sizeT P t with
 | some true,some n=>some (some n)
 | some false,some 1=>some none
 | _,_=>none
def isIntT (P:Program) (t:TypeId):Bool:=match P.underlying t with | some (.int _)=>true | _=>false
def placesT (P:Program) (fs:List Field):Option (List (Nat×Nat)):=fs.mapM fun f=>(sizeT P f.type).map fun n=>(f.offset,n)
def partsS (pl:List (Nat×Nat)):List (Nat×Operand)→Option (List (Nat×Nat×Operand))
 | []=>some []
 | (i,x) :: r=>match pl[i]?,partsS pl r with
  | some (o,n),some l=>some ((o,n,x) :: l)
  | _,_=>none
def partsA (size:Nat) (l:List (Nat×Operand)):List (Nat×Nat×Operand):=l.map fun (i,x)=>(i * size,size,x)
def intOffs (P:Program):List Field→Option (List Nat)
 | []=>some []
 | f :: fs => if isIntT P f.type && f.name != "_" then (intOffs P fs).map (f.offset :: ·) else none
def eqT (P:Program) (neg:Bool) (t:TypeId) (x y:Operand):Option GOp:=
 match P.underlying t with
 | some .bool=>some (.eqBool neg x y)
 | some (.pointer _)=>some (.eqNil false neg x y)
 | some (.slice _)=>some (.eqNil true neg x y)
 | some (.struct fs)=>if P.eqGuardType P.depth t||P.stoodInHeld t then none else (intOffs P fs.toList).map fun l=>.eqStruct neg l x y
 | _=>none
def mapT (P:Program) (t:TypeId):Option Value:=
 match P.underlying t with
 | some (.map kt el)=>if isIntT P kt then (P.info? el).bind (·.zero) else none
 | _=>none
def compileOp (P : Program) (o : Oper) : Option GOp :=
  match o.op with
  | .move x | .assign x => some (.mv x)
  | .pick c a b => some (.pick c a b)
  | .binOp op t x y _ =>
    (match op with
     | .shl | .shr => if isIntT P t then some (.shift op x y) else none
     | .eql => if isIntT P t then some (.bin op x y) else eqT P false t x y
     | .neq => if isIntT P t then some (.bin op x y) else eqT P true t x y
     | _ => if isIntT P t then some (.bin op x y) else none)
  | .unOp .not _ x => some (.not x)
  | .unOp .neg t x => if isIntT P t then some (.neg x) else none
  | .unOp .xor t x => if isIntT P t then some (.compl x) else none
  | .convert s d x => (match P.underlying s, P.underlying d with | some (.int _), some (.int k) => some (.conv k x) | _, _ => none)
  | .nilCheck x => some (.nilCheck x)
  | .fieldAddr s x f => (match P.underlying s with
      | some (.struct fs) => (match fs[f]? with
        | some fl => (match sizeT P fl.type with | some (_ + 1) => some (.fieldAddr fl.offset x) | _ => none)
        | none => none)
      | _ => none)
  | .field s x f => (match P.underlying s with
      | some (.struct fs) => (match fs[f]? with
        | some fl => (aggT P fl.type).map fun ag => .field ag fl.offset x
        | none => none)
      | _ => none)
  | .indexAddr t x i => (match P.underlying t with
      | some (.slice el) => (sizeT P el).map fun n => .indexAddr n x i
      | some (.array len el) => (sizeT P el).map fun n => .indexArr n len x i
      | _ => none)
  | .extract x i => some (.extract i x)
  | .makeFunc fn first captured => some (.makeFunc fn first.toList captured.toList)
  | .slice t x lo hi none => (match P.underlying t with | some (.slice el) => (sizeT P el).map fun n => .slice n x lo hi | _ => none)
  | .build t parts => (match P.underlying t, zeroT P t with
      | some (.struct fs), some z => (placesT P fs.toList).bind fun pl => (partsS pl parts.toList).map fun ps => .build z ps
      | _, _ => none)
  | .load t x => (aggT P t).map fun ag => .load ag x
  | .alloc t => (zeroT P t).map fun z => .alloc t z
  | .box t x => some (.box t x)
  | .buildSlice t len parts => (match P.underlying t with
      | some (.slice el) => (match sizeT P el, zeroT P el with
        | some (n + 1), some z => if len * (n + 1) ≤ 2 ^ 24 ∧ z.length = n + 1 then some (.buildSlice el len (zeros z len) (partsA (n + 1) parts.toList)) else none
        | _, _ => none)
      | _ => none)
  | .makeSlice t l c => (match P.underlying t with
      | some (.slice el) => (match P.info? el with
        | some i => (match i.zero with
          | some z => if (cl z).length = i.size ∧ 0 < i.size then some (.makeSlice el i.size i.bytes (cl z) l c) else none
          | none => none)
        | none => none)
      | _ => none)
  | .store t x v => (sizeT P t).map fun n => .store n x v
  | .makeMap _ none => some .makeMap
  | .lookup t x i ok => (mapT P t).map fun z => .lookup ok z x i
  | .mapUpdate t m k v => (mapT P t).map fun _ => .mapSet m k v
  | .insert t m k v => (mapT P t).map fun _ => .mapSet m k v
  | .mapEntry t m k => (mapT P t).map fun z => .mapEntry z m k
  | .entryStore _ m s v => some (.entryStore m s v)
  | .range t x => (mapT P t).map fun _ => .mrange x
  | .next x false => some (.mnext x)
  | .entry x => some (.mentry x)
  | .call c => (match c.callee with
      | .value (.func f) => some (.call f c.args.toList)
      | .value x => some (.callv x c.args.toList)
      | .builtin .len => (match c.args.toList, c.argTypes[0]? with
        | [x], some t => (match P.underlying t with | some (.slice _) => some (.len x) | _ => none)
        | _, _ => none)
      | .builtin .cap => (match c.args.toList, c.argTypes[0]? with
        | [x], some t => (match P.underlying t with | some (.slice _) => some (.cap x) | _ => none)
        | _, _ => none)
      | .builtin .clear => (match c.args.toList, c.argTypes[0]? with | [x], some t => (mapT P t).map fun _ => .clearM x | _, _ => none)
      | .builtin .max => (match c.args.toList with | [x, y] => some (.maxi x y) | _ => none)
      | .builtin .min => (match c.args.toList with | [x, y] => some (.mini x y) | _ => none)
      | .builtin .append => (match c.args.toList, c.argTypes.toList with
        | [s, x], [st, xt] => (match P.underlying st, P.underlying xt with
          | some (.slice el), some (.slice _) => (match P.info? el with
            | some i => (match i.zero with
              | some z => if (cl z).length = i.size ∧ 0 < i.size ∧ 0 < i.bytes then some (.append el i.size i.bytes (cl z) s x) else none
              | none => none)
            | none => none)
          | some (.slice el), some (.int _) => (match P.info? el with
            | some i => (match i.zero with
              | some z => if (cl z).length = i.size ∧ 0 < i.size ∧ 0 < i.bytes then some (.appendN el i.size i.bytes (cl z) s x) else none
              | none => none)
            | none => none)
          | _, _ => none)
        | _, _ => none)
      | _ => none)
  | .panic _ => some .never
  | .makeInterface .. => some .never
  | _ => none
end Go.Vc
namespace Go.Vc
open Go
def atAddr (r:Nat×Nat×Value) (w:World):Prop:=w.cell? ⟨r.1,r.2.1,none⟩=some r.2.2
def reads (g:GOp) (e:Env) (v:Value):List (Nat×Nat×Value):=
 match g with
 | .load none x=>(match ev e x with | some (.pointer (some a))=>[(a.block,a.off,v)] | _=>[])
 | .load (some _) x=>(match ev e x with | some (.pointer (some a))=>(cl v).zipIdx.map fun (c,j)=>(a.block,a.off+j,c) | _=>[])
 | _=>[]
def QRun (P:Program) (o:Oper) (a:Act) (R:List (Nat×Nat×Value)) (v:Value):Prop:=
 ∀ w,(∀ r∈R,atAddr r w)→(execOp a.eval o).run P w=.ok (.value v) w
theorem run_sizeT {P:Program} {t:TypeId} {n:Nat} (h:sizeT P t=some n) (w:World):(sizeOf t).run P w=.ok n w:=by
 unfold sizeT at h
 cases hi:P.info? t with
 | none=>simp [hi] at h
 | some i=>simp [hi] at h;simp [sizeOf,typeInfo,program,Sem.run,hi,h]
theorem run_zeroT {P:Program} {t:TypeId} {z:List Value} (h:zeroT P t=some z):∃ v,cl v=z∧∀ w,(zeroValue t).run P w=.ok v w:=by
 unfold zeroT at h
 cases hi:P.info? t with
 | none=>simp [hi] at h
 | some i =>
  cases hz:i.zero with
  | none=>simp [hi,hz] at h
  | some v=>simp [hi,hz] at h;exact ⟨v,h,fun w=>by simp [zeroValue,typeInfo,program,Sem.run,hi,hz]⟩
theorem run_isAggT {P:Program} {t:TypeId} {b:Bool} (h:isAggT P t=some b) (w:World):(isAgg t).run P w=.ok b w:=by
 unfold isAggT at h
 cases hi:P.underlying t with
 | none=>simp [hi] at h
 | some d=>cases d <;> simp [hi] at h <;> subst h <;> simp [isAgg,run_underlying hi]
theorem aggT_none {P:Program} {t:TypeId} (h:aggT P t=some none):isAggT P t=some false:=by
 unfold aggT at h;split at h <;> simp_all
theorem aggT_some {P:Program} {t:TypeId} {n:Nat} (h:aggT P t=some (some n)):isAggT P t=some true∧sizeT P t=some n:=by
 unfold aggT at h;split at h <;> simp_all
theorem evs {N:Nat} {e:Env} {a:Act} (h:Holds N e a) {l:List Operand} {vs:List Value} (hl:l.map (Vc.ev e)=vs.map some):l.map a.eval=vs:=by
 induction l generalizing vs with
 | nil=>cases vs <;> simp_all
 | cons x l ih =>
  cases vs with
  | nil=>simp at hl
  | cons v vs=>simp at hl;simp [h.ev hl.1,ih hl.2]
theorem equal_run {P:Program} {t:TypeId} (a b:Value) (w:World) :
  (Op.equal t a b).run P w=(Op.equalIn (9999+1) t a b).run P w:=rfl
theorem equal_bool {P:Program} {t:TypeId} (hu:P.underlying t=some .bool) (p q:Bool) (w:World):(Op.equal t (.bool p) (.bool q)).run P w=.ok (p==q) w:=by
 rw [equal_run,Op.equalIn];simp only [Sem.run_bind,run_underlying hu,Result.andThen,Sem.run_pure]
theorem equal_ptr1 {P:Program} {t el:TypeId} (hu:P.underlying t=some (.pointer el)) (q:Option Addr) (w:World):(Op.equal t (.pointer none) (.pointer q)).run P w=.ok q.isNone w:=by
 rw [equal_run,Op.equalIn];simp only [Sem.run_bind,run_underlying hu,Result.andThen,Sem.run_pure]
theorem equal_ptr2 {P:Program} {t el:TypeId} (hu:P.underlying t=some (.pointer el)) (p:Addr) (w:World):(Op.equal t (.pointer (some p)) (.pointer none)).run P w=.ok false w:=by
 rw [equal_run,Op.equalIn];simp only [Sem.run_bind,run_underlying hu,Result.andThen,Sem.run_pure]
theorem equal_sl1 {P:Program} {t el:TypeId} (hu:P.underlying t=some (.slice el)) (n c:Nat) (q:Option Addr) (n' c':Nat) (w:World):(Op.equal t (.slice none n c) (.slice q n' c')).run P w=.ok q.isNone w:=by
 rw [equal_run,Op.equalIn];simp only [Sem.run_bind,run_underlying hu,Result.andThen,Sem.run_pure]
theorem equal_sl2 {P:Program} {t el:TypeId} (hu:P.underlying t=some (.slice el)) (p:Addr) (n c n' c':Nat) (w:World):(Op.equal t (.slice (some p) n c) (.slice none n' c')).run P w=.ok false w:=by
 rw [equal_run,Op.equalIn];simp only [Sem.run_bind,run_underlying hu,Result.andThen,Sem.run_pure]
theorem eqGuard_run {P:Program} (op:BinOp) (t:TypeId) (x y:Operand) (a b:Value) (h1:¬ (a=.nilIface∧b=.nilIface))
  (h2:(∃ c d,a=.agg c∧b=.agg d)→P.eqGuardType P.depth t=false) (w:World):(eqGuard op t x y a b).run P w=.ok () w:=by
 unfold eqGuard
 split
 all_goals
  simp only [Bool.not_true,Bool.not_false,if_true,Bool.false_eq_true,if_false]
  first
   | rfl
   | (cases a <;> cases b <;> first | rfl | exact absurd ⟨rfl,rfl⟩ h1 | (have h3:=h2 ⟨_,_,rfl,rfl⟩;simp [program,Sem.run,h3]))
theorem part_int {P:Program} {t:TypeId} {k:IntKind} (hu:P.underlying t=some (.int k)) (cs:Array Value) (off:Nat) {v:Value} (hv:cs[off]?=some v) (w:World) :
  (part t cs off).run P w=.ok v w:=by
 simp only [part,Sem.run_bind,isAgg,run_underlying hu,Result.andThen,Sem.run_pure,Bool.false_eq_true,if_false,hv]
theorem equal_fields {P : Program} (xs ys : Array Value) : ∀ (l : List Field) (offs : List Nat) (K : Bool → Prop), intOffs P l = some offs → eqCells offs xs ys K →
    ∃ r, K r ∧ ∀ w, (forIn l ((none, ()) : Option Bool × Unit) fun (f : Field) (_ : Option Bool × Unit) =>
          if f.name ≠ "_" then do
            let __do_lift ← part f.type xs f.offset
            let __do_lift_1 ← part f.type ys f.offset
            let __do_lift ← Op.equalIn 9999 f.type __do_lift __do_lift_1
            if (!__do_lift) = true then pure (ForInStep.done ((some false, ()) : Option Bool × Unit)) else pure (ForInStep.yield (none, ()))
          else pure (ForInStep.yield (none, ()))).run P w = .ok (if r then (none, ()) else (some false, ())) w
  | [], offs, K, ho, hk => by
    simp only [intOffs, Option.some.injEq] at ho
    subst ho
    exact ⟨true, hk, fun w => by simp⟩
  | f :: l, offs, K, ho, hk => by
    simp only [intOffs] at ho
    split at ho
    · rename_i hc
      simp only [Bool.and_eq_true, bne_iff_ne, ne_eq] at hc
      obtain ⟨hc1, hc2⟩ := hc
      simp only [Option.map_eq_some_iff] at ho
      obtain ⟨offs', ho, rfl⟩ := ho
      obtain ⟨k, n, hx, hk⟩ := withI_elim hk
      obtain ⟨k', m, hy, rfl, hk⟩ := withI_elim hk
      obtain ⟨r, hr, hrun⟩ := equal_fields xs ys l offs' _ ho hk
      refine ⟨_, hr, fun w => ?_⟩
      unfold isIntT at hc1
      split at hc1
      · rename_i kt hu
        have he : (Op.equalIn 9999 f.type (.int k n) (.int k m)).run P w = .ok (n == m) w := by
          show (Op.equalIn (9998 + 1) f.type (.int k n) (.int k m)).run P w = .ok (n == m) w
          rw [Op.equalIn]; simp only [Sem.run_bind, run_underlying hu, Result.andThen, if_true, Sem.run_pure]
        rw [List.forIn_cons]
        simp only [if_pos hc2, Sem.run_bind, part_int hu xs _ hx, part_int hu ys _ hy, Result.andThen, he]
        cases hnm : (n == m)
        · simp
        · simp only [Bool.not_true, Bool.false_eq_true, if_false, Sem.run_pure, hrun, Bool.true_and]
      · cases hc1
    · cases ho
theorem equal_struct {P:Program} {t:TypeId} {fs:Array Field} {offs:List Nat} (hu:P.underlying t=some (.struct fs)) (hst:P.stoodInHeld t=false)
  (ho:intOffs P fs.toList=some offs) (xs ys:Array Value) {K:Bool→Prop} (hk:eqCells offs xs ys K) :
  ∃ r,K r∧∀ w,(Op.equal t (.agg xs) (.agg ys)).run P w=.ok r w:=by
 obtain ⟨r,hr,hrun⟩:=equal_fields xs ys _ _ _ ho hk
 refine ⟨r,hr,fun w=>?_⟩
 rw [equal_run,Op.equalIn];simp only [Sem.run_bind,run_underlying hu,Result.andThen,program,Sem.run,hst,Bool.false_eq_true,if_false]
 rw [← Array.forIn_toList,hrun]
 cases r <;> simp
theorem addr_add (b o n:Nat):(⟨b,o,none⟩:Addr).add n=⟨b,o+n,none⟩:=by
 unfold Addr.add;split
 ·simp_all
 ·rfl
theorem putAt_length (vs:List Value):∀ (l:List Value) (off:Nat),(putAt l off vs).length=l.length:=by
 induction vs with
 | nil=>intro l off;rfl
 | cons v vs ih=>intro l off;simp [putAt,ih]
theorem foldl_putAt (vs:List Value):∀ (l:List Value) (off k:Nat),
  (vs.zipIdx k).foldl (fun (cs:Array Value) (x:Value×Nat)=>cs.setIfInBounds (off+x.2) x.1) l.toArray=(putAt l (off+k) vs).toArray:=by
 induction vs with
 | nil=>intro l off k;rfl
 | cons v vs ih =>
  intro l off k
  simp only [List.zipIdx_cons,List.foldl_cons,putAt]
  rw [show (l.toArray.setIfInBounds (off+k) v)=(l.set (off+k) v).toArray from by simp,ih,Nat.add_assoc]
theorem withParts_elim {e:Env} {ps:List (Nat×Nat×Operand)} {cs:List Value} {K:List Value→Prop} (h:withParts e ps cs K) {N:Nat} {a:Act} (hh:Holds N e a)
  {place:Nat→Option (Nat×Nat)} {l:List (Nat×Operand)} (hl:ps=(l.map fun p=>((place p.1).getD (0,0)).1).zip ((l.map fun p=>((place p.1).getD (0,0)).2).zip (l.map (·.2))))
  (hp:∀ p∈l,(place p.1).isSome=true) :
  ∃ cs',Instr.fill place cs.toArray (l.map fun p=>(p.1,a.eval p.2))=some cs'.toArray∧K cs':=by
 induction l generalizing ps cs with
 | nil=>subst hl;exact ⟨cs,rfl,h⟩
 | cons p l ih =>
  obtain ⟨i,x⟩:=p
  obtain ⟨⟨off,size⟩,hpl⟩:=Option.isSome_iff_exists.1 (hp (i,x) (by simp))
  simp only at hpl
  subst hl
  simp only [List.map_cons,List.zip_cons_cons,withParts] at h
  obtain ⟨v,hv,⟨hs,ho⟩,h⟩:=withV_elim h
  simp only [hpl,Option.getD_some] at hs ho h
  obtain ⟨cs',h1,h2⟩:=ih h rfl (fun p hp'=>hp p (by simp [hp']))
  refine ⟨cs',?_,h2⟩
  have hsz:v.cells.size=size:=by simpa [cl] using hs
  simp only [List.map_cons,Instr.fill,hpl,hh.ev hv]
  rw [if_neg (by simp [hsz];omega)]
  have:=foldl_putAt (cl v) cs off 0
  simp only [Nat.add_zero] at this
  have e1:v.cells.zipIdx.foldl (fun (cs:Array Value) (x:Value×Nat)=>cs.setIfInBounds (off+x.2) x.1) cs.toArray=(putAt cs off (cl v)).toArray:=by
   rw [← this,← Array.foldl_toList];simp [cl]
  rw [e1]
  exact h1
theorem partsS_spec {pl:List (Nat×Nat)}:∀ {l:List (Nat×Operand)} {ps:List (Nat×Nat×Operand)},partsS pl l=some ps →
  ps=(l.map fun p=>((pl[p.1]?).getD (0,0)).1).zip ((l.map fun p=>((pl[p.1]?).getD (0,0)).2).zip (l.map (·.2)))∧∀ p∈l,(pl[p.1]?).isSome=true:=by
 intro l
 induction l with
 | nil=>intro ps h;simp [partsS] at h;subst h;simp
 | cons p l ih =>
  intro ps h
  obtain ⟨i,x⟩:=p
  simp only [partsS] at h
  split at h
  ·rename_i o n l' hi hl
   cases h
   obtain ⟨h1,h2⟩:=ih hl
   refine ⟨by simp [hi,← h1],fun p hp=>?_⟩
   rcases List.mem_cons.1 hp with rfl | hp
   ·simp [hi]
   ·exact h2 p hp
  ·cases h
theorem partsA_spec (size:Nat) (l:List (Nat×Operand)) :
  partsA size l=(l.map fun p=>(((fun i=>some (i * size,size)) p.1:Option (Nat×Nat)).getD (0,0)).1).zip ((l.map fun p=>(((fun i=>some (i * size,size)) p.1:Option (Nat×Nat)).getD (0,0)).2).zip (l.map (·.2))):=by
 induction l with
 | nil=>rfl
 | cons p l ih=>simp [partsA] at ih ⊢;exact ih
theorem run_places {P:Program} (fs:List Field) {pl:List (Nat×Nat)} (h:placesT P fs=some pl) (w:World) :
  (fs.mapM fun f=>(do pure (f.offset,← sizeOf f.type):Sem (Nat×Nat))).run P w=.ok pl w:=by
 unfold placesT at h
 induction fs generalizing pl with
 | nil=>simp at h;subst h;rfl
 | cons f fs ih =>
  simp only [List.mapM_cons] at h ⊢
  simp only [Option.bind_eq_bind,Option.bind_eq_some_iff] at h
  obtain ⟨p,hp,ps,hps,h⟩:=h
  simp at h;subst h
  simp only [Option.map_eq_some_iff] at hp
  obtain ⟨n,hn,rfl⟩:=hp
  have ih':=ih hps
  simp only [bind_pure_comp] at ih' ⊢
  simp [Sem.run_bind,run_sizeT hn,ih']
theorem run_loadCells_vs {P:Program} {w:World} {b o:Nat} {vs:List Value} (h:∀ j v,vs[j]?=some v→w.cell? ⟨b,o+j,none⟩=some v) :
  (loadCells ⟨b,o,none⟩ vs.length).run P w=.ok vs.toArray w:=by
 exact run_loadCells_list w ⟨b,o,none⟩ vs (fun j v hj=>by rw [addr_add];exact h j v hj)
theorem q_sound {P:Program} {o:Oper} {g:GOp} (hc:compileOp P o=some g) (hq:g.quiet=true) {N:Nat} {e:Env} {a:Act} (hh:Holds N e a) {h:Heap} {K:Value→Prop}
  (hv:qvc g e h K):∃ v,K v∧(∀ r∈reads g e v,hcell h r.1 r.2.1=some r.2.2)∧QRun P o a (reads g e v) v:=by
 unfold compileOp at hc
 split at hc
 ·
  rename_i x hop
  cases hc
  obtain ⟨v,hx,hk⟩:=withV_elim hv
  exact ⟨v,hk,by simp [reads],fun w _=>by simp [execOp,hop,hh.ev hx]⟩
 ·rename_i x hop
  cases hc
  obtain ⟨v,hx,hk⟩:=withV_elim hv
  exact ⟨v,hk,by simp [reads],fun w _=>by simp [execOp,hop,hh.ev hx]⟩
 ·
  rename_i c x y hop
  cases hc
  obtain ⟨t,ht,hk⟩:=withB_elim hv
  cases t with
  | true =>
   obtain ⟨v,hx,hk⟩:=withV_elim (hk.1 rfl)
   exact ⟨v,hk,by simp [reads],fun w _=>by simp [execOp,hop,hh.ev hx,hh.ev ht,asBool]⟩
  | false =>
   obtain ⟨v,hx,hk⟩:=withV_elim (hk.2 (by simp))
   exact ⟨v,hk,by simp [reads],fun w _=>by simp [execOp,hop,hh.ev hx,hh.ev ht,asBool]⟩
 ·
  rename_i op t x y yt hop
  have key:∀ (g':GOp),g'=.bin op x y→qvc g' e h K→∃ v,K v∧(∀ r∈reads g' e v,hcell h r.1 r.2.1=some r.2.2)∧QRun P o a (reads g' e v) v:=by
   rintro g' rfl hv
   obtain ⟨k,n,hx,hk⟩:=withI_elim hv
   obtain ⟨k',m,hy,rfl,hk⟩:=withI_elim hk
   have hrun:∀ w v,(binOp op t (.int k n) (.int k m)).run P w=.ok v w→(execOp a.eval o).run P w=.ok (.value v) w:=by
    intro w v h1
    have hg:(eqGuard op t x y (.int k n) (.int k m)).run P w=.ok () w:=by unfold eqGuard;split <;> rfl
    simp [execOp,hop,hh.ev hx,hh.ev hy,hg,h1]
   cases op <;> simp only [binI] at hk <;>
    first
     | exact ⟨_,hk,by simp [reads],fun w _=>hrun w _ (by simp [binOp,Op.intArith,Op.intBits,Op.intCmp])⟩
     | (obtain ⟨hb,hk⟩:=hk;exact ⟨_,hk,by simp [reads],fun w _=>hrun w _ (by simp [binOp,Op.intDiv,hb])⟩)
     | exact hk.elim
  have key2:∀ (g':GOp),(op=.shl∨op=.shr)→g'=.shift op x y→qvc g' e h K→∃ v,K v∧(∀ r∈reads g' e v,hcell h r.1 r.2.1=some r.2.2)∧QRun P o a (reads g' e v) v:=by
   rintro g' hop' rfl hv
   obtain ⟨k,n,hx,hk⟩:=withI_elim hv
   obtain ⟨k',m,hy,hm,hk⟩:=withI_elim hk
   have hm':¬ m<0:=by omega
   have hrun:∀ w v,(binOp op t (.int k n) (.int k' m)).run P w=.ok v w→(execOp a.eval o).run P w=.ok (.value v) w:=by
    intro w v h1
    have hg:(eqGuard op t x y (.int k n) (.int k' m)).run P w=.ok () w:=by unfold eqGuard;split <;> rfl
    simp [execOp,hop,hh.ev hx,hh.ev hy,hg,h1]
   rcases hop' with rfl | rfl
   ·exact ⟨_,hk,by simp [reads],fun w _=>hrun w _ (by simp [binOp,Op.shift,hm'])⟩
   ·exact ⟨_,hk,by simp [reads],fun w _=>hrun w _ (by simp [binOp,Op.shift,hm'])⟩
  have key3:∀ (g':GOp) (ng:Bool),op=(if ng then .neq else .eql)→eqT P ng t x y=some g'→qvc g' e h K→∃ v,K v∧(∀ r∈reads g' e v,hcell h r.1 r.2.1=some r.2.2)∧QRun P o a (reads g' e v) v:=by
   rintro g' ng hop' hg' hv
   have fin:∀ (u u':Value) (r:Bool),ev e x=some u→ev e y=some u'→(∀ w,(eqGuard op t x y u u').run P w=.ok () w)→(∀ w,(Op.equal t u u').run P w=.ok r w) →
     (∀ k n,u≠.int k n)→(∀ k n,u≠.float k n)→(∀ k n m,u≠.complex k n m)→(∀ s,u≠.string s) →
     QRun P o a [] (.bool (if ng then !r else r)):=by
    intro u u' r hx hy hg he h1 h2 h3 h4 w _
    have hb:(binOp op t u u').run P w=.ok (.bool (if ng then !r else r)) w:=by
     subst hop'
     cases ng <;> cases u <;> simp_all [binOp]
    simp [execOp,hop,hh.ev hx,hh.ev hy,hg w,hb]
   unfold eqT at hg'
   split at hg'
   ·
    rename_i hu
    cases hg'
    obtain ⟨p,hx,hk⟩:=withB_elim hv
    obtain ⟨q,hy,hk⟩:=withB_elim hk
    refine ⟨_,hk,by simp [reads],?_⟩
    have:=fin _ _ (p==q) hx hy (eqGuard_run _ _ _ _ _ _ (by simp) (by simp)) (equal_bool hu p q) (by simp) (by simp) (by simp) (by simp)
    simpa [bne,reads] using this
   ·rename_i el hu
    cases hg'
    obtain ⟨u,hx,hk⟩:=withV_elim hv
    obtain ⟨u',hy,hk⟩:=withV_elim hk
    match u,u',hk,hx,hy with
    | .pointer none,.pointer q,hk,hx,hy=>exact ⟨_,hk,by simp [reads],fin _ _ _ hx hy (eqGuard_run _ _ _ _ _ _ (by simp) (by simp)) (equal_ptr1 hu _) (by simp) (by simp) (by simp) (by simp)⟩
    | .pointer (some p),.pointer none,hk,hx,hy=>exact ⟨_,hk,by simp [reads],fin _ _ _ hx hy (eqGuard_run _ _ _ _ _ _ (by simp) (by simp)) (equal_ptr2 hu _) (by simp) (by simp) (by simp) (by simp)⟩
   ·rename_i el hu
    cases hg'
    obtain ⟨u,hx,hk⟩:=withV_elim hv
    obtain ⟨u',hy,hk⟩:=withV_elim hk
    match u,u',hk,hx,hy with
    | .slice none n c,.slice q n' c',hk,hx,hy=>exact ⟨_,hk,by simp [reads],fin _ _ _ hx hy (eqGuard_run _ _ _ _ _ _ (by simp) (by simp)) (equal_sl1 hu _ _ _ _ _) (by simp) (by simp) (by simp) (by simp)⟩
    | .slice (some p) n c,.slice none n' c',hk,hx,hy=>exact ⟨_,hk,by simp [reads],fin _ _ _ hx hy (eqGuard_run _ _ _ _ _ _ (by simp) (by simp)) (equal_sl2 hu _ _ _ _ _) (by simp) (by simp) (by simp) (by simp)⟩
   ·rename_i fs hu
    split at hg'
    ·cases hg'
    ·rename_i hst
     simp only [Bool.or_eq_true,not_or,Bool.not_eq_true] at hst
     simp only [Option.map_eq_some_iff] at hg'
     obtain ⟨offs,ho,rfl⟩:=hg'
     obtain ⟨xs,hx,hk⟩:=withA_elim hv
     obtain ⟨ys,hy,hk⟩:=withA_elim hk
     obtain ⟨r,hr,hrun⟩:=equal_struct hu hst.2 ho xs ys hk
     exact ⟨_,hr,by simp [reads],fin _ _ _ hx hy (eqGuard_run _ _ _ _ _ _ (by simp) (fun _=>hst.1)) hrun (by simp) (by simp) (by simp) (by simp)⟩
   ·cases hg'
  cases op <;> simp only at hc <;> (try split at hc) <;> (try cases hc) <;>
   first
    | exact key _ rfl hv
    | exact key2 _ (.inl rfl) rfl hv
    | exact key2 _ (.inr rfl) rfl hv
    | exact key3 _ false rfl hc hv
    | exact key3 _ true rfl hc hv
 ·
  rename_i t x hop
  cases hc
  obtain ⟨b,hx,hk⟩:=withB_elim hv
  exact ⟨_,hk,by simp [reads],fun w _=>by simp [execOp,hop,hh.ev hx,Op.unary]⟩
 ·
  rename_i t x hop
  split at hc
  ·cases hc
   obtain ⟨k,n,hx,hk⟩:=withI_elim hv
   exact ⟨_,hk,by simp [reads],fun w _=>by simp [execOp,hop,hh.ev hx,Op.unary,Op.intArith]⟩
  ·cases hc
 ·
  rename_i t x hop
  split at hc
  ·cases hc
   obtain ⟨k,n,hx,hk⟩:=withI_elim hv
   exact ⟨_,hk,by simp [reads],fun w _=>by simp [execOp,hop,hh.ev hx,Op.unary,Op.intBits]⟩
  ·cases hc
 ·
  rename_i s d x hop
  split at hc
  ·rename_i k1 k2 hs hd
   cases hc
   obtain ⟨k,n,hx,hk⟩:=withI_elim hv
   exact ⟨_,hk,by simp [reads],fun w _=>by simp [execOp,hop,hh.ev hx,convert,run_underlying hs,run_underlying hd,Conv.intToInt]⟩
  ·cases hc
 ·
  rename_i x hop
  cases hc
  obtain ⟨b,off,hx,hk⟩:=withP_elim hv
  exact ⟨_,hk,by simp [reads],fun w _=>by simp [execOp,hop,hh.ev hx]⟩
 ·
  rename_i s x f hop
  split at hc
  ·rename_i fs hs
   split at hc
   ·rename_i fl hf
    split at hc
    ·rename_i n hn
     cases hc
     obtain ⟨b,off,hx,hk⟩:=withP_elim hv
     refine ⟨_,hk,by simp [reads],fun w _=>?_⟩
     simp [execOp,hop,hh.ev hx,Instr.fieldAt,run_underlying hs,hf,Instr.sureAddr,fieldPlace,run_sizeT hn,addr_add]
    ·cases hc
   ·cases hc
  ·cases hc
 ·
  rename_i s x f hop
  split at hc
  ·rename_i fs hs
   split at hc
   ·rename_i fl hf
    simp only [Option.map_eq_some_iff] at hc
    obtain ⟨ag,hag,rfl⟩:=hc
    cases ag with
    | none =>
     obtain ⟨cs,hx,hk⟩:=withA_elim hv
     obtain ⟨v,hcv,hk⟩:=withV_elim hk
     refine ⟨_,hk,by simp [reads],fun w _=>?_⟩
     simp [execOp,hop,hh.ev hx,Instr.field,run_underlying hs,hf,asAgg,part,run_isAggT (aggT_none hag),hcv]
    | some n =>
     obtain ⟨cs,hx,hk⟩:=withA_elim hv
     refine ⟨_,hk,by simp [reads],fun w _=>?_⟩
     simp [execOp,hop,hh.ev hx,Instr.field,run_underlying hs,hf,asAgg,part,run_isAggT (aggT_some hag).1,run_sizeT (aggT_some hag).2]
   ·cases hc
  ·cases hc
 ·
  rename_i t x i hop
  split at hc
  ·rename_i el hs
   simp only [Option.map_eq_some_iff] at hc
   obtain ⟨n,hn,rfl⟩:=hc
   obtain ⟨ad,len,cap,hx,hk⟩:=withS_elim hv
   obtain ⟨k,ix,hi,hb,hk⟩:=withI_elim hk
   obtain ⟨b,off,rfl,hk⟩:=withAd_elim hk
   refine ⟨_,hk,by simp [reads],fun w _=>?_⟩
   simp [execOp,hop,hh.ev hx,hh.ev hi,Instr.indexAt,asIntOf,run_underlying hs,run_sizeT hn,addr_add,hb]
  ·rename_i len el hs
   simp only [Option.map_eq_some_iff] at hc
   obtain ⟨n,hn,rfl⟩:=hc
   obtain ⟨b,off,hx,hk⟩:=withP_elim hv
   obtain ⟨k,ix,hi,hb,hk⟩:=withI_elim hk
   refine ⟨_,hk,by simp [reads],fun w _=>?_⟩
   simp [execOp,hop,hh.ev hx,hh.ev hi,Instr.indexAt,asIntOf,Instr.sureAddr,run_underlying hs,run_sizeT hn,addr_add,hb]
  ·cases hc
 ·
  rename_i x i hop
  cases hc
  obtain ⟨cs,hx,hk⟩:=withT_elim hv
  obtain ⟨v,hcv,hk⟩:=withV_elim hk
  exact ⟨_,hk,by simp [reads],fun w _=>by simp [execOp,hop,hh.ev hx,Instr.extract,hcv]⟩
 ·
  rename_i fn first captured hop
  cases hc
  obtain ⟨vs,hvs,hk⟩:=withL_elim hv
  obtain ⟨us,hus,hk⟩:=withL_elim hk
  refine ⟨_,hk,by simp [reads],fun w _=>?_⟩
  have h1:first.map a.eval=vs.toArray:=by rw [← evs hh hvs,← Array.toList_map,Array.toArray_toList]
  have h2:captured.map a.eval=us.toArray:=by rw [← evs hh hus,← Array.toList_map,Array.toArray_toList]
  simp [execOp,hop,Instr.makeFunc,h1,h2]
 ·
  rename_i t x lo hi hop
  split at hc
  ·rename_i el hs
   simp only [Option.map_eq_some_iff] at hc
   obtain ⟨n,hn,rfl⟩:=hc
   obtain ⟨ad,len,cap,hx,hk⟩:=withS_elim hv
   have hlo:∀ (z:Option Operand) (d:Nat) (K:Nat→Prop),withLo e z d K→∃ r,K r∧((z=none∧r=d)∨∃ q k i,z=some q∧a.eval q=.int k i∧0≤i∧r=i.toNat):=by
    intro z d K hz
    cases z with
    | none=>exact ⟨d,hz,.inl ⟨rfl,rfl⟩⟩
    | some q =>
     obtain ⟨k,i,hi,h0,hk⟩:=withI_elim hz
     exact ⟨_,hk,.inr ⟨q,k,i,rfl,hh.ev hi,h0,rfl⟩⟩
   obtain ⟨r1,⟨hc1,hk⟩,h1⟩:=hlo _ _ _ hk
   obtain ⟨r0,⟨hc0,hk⟩,h0⟩:=hlo _ _ _ hk
   refine ⟨_,hk,by simp [reads],fun w _=>?_⟩
   have hs2:(Instr.sliceBounds true len cap (lo.map a.eval) (hi.map a.eval) none).run P w=.ok (r0,r1,cap) w:=by
    rcases h1 with ⟨rfl,rfl⟩ | ⟨q,k,i,rfl,hq1,hi0,rfl⟩ <;> rcases h0 with ⟨rfl,rfl⟩ | ⟨q',k',i',rfl,hq1',hi0',rfl⟩
    ·simp [Instr.sliceBounds]
    ·have e0:i'≤(r1:Int):=by omega
     simp [Instr.sliceBounds,Instr.sliceBound,asIntOf,hq1',hi0',e0]
    ·have e1:i≤(cap:Int):=by omega
     simp [Instr.sliceBounds,Instr.sliceBound,asIntOf,hq1,hi0,e1]
    ·have e1:i≤(cap:Int):=by omega
     have e0:i'≤i:=by omega
     have e2:max i 0=i:=by omega
     simp [Instr.sliceBounds,Instr.sliceBound,asIntOf,hq1,hi0,e1,hq1',hi0',e0,e2]
   simp [execOp,hop,hh.ev hx,Instr.sliceAt,Instr.slice,run_underlying hs,run_sizeT hn,hs2]
  ·cases hc
 ·
  rename_i t parts hop
  split at hc
  ·rename_i fs z hu hz
   simp only [Option.bind_eq_some_iff,Option.map_eq_some_iff] at hc
   obtain ⟨pl,hpl,ps,hps,rfl⟩:=hc
   obtain ⟨h1,h2⟩:=partsS_spec hps
   obtain ⟨cs,hf,hk⟩:=withParts_elim hv hh h1 h2
   obtain ⟨zv,hzv,hzr⟩:=run_zeroT hz
   refine ⟨_,hk,by simp [reads],fun w _=>?_⟩
   have hz2:zv.cells=z.toArray:=by rw [← hzv];simp [cl]
   have hp:=run_places (P:=P) fs.toList hpl w
   have hm:(fs.mapM fun f=>(do pure (f.offset,← sizeOf f.type):Sem (Nat×Nat))).run P w=.ok pl.toArray w:=by
    rw [Array.mapM_eq_mapM_toList,Sem.run_map,hp];rfl
   have hpa:(parts.map fun (x:Nat×Operand)=>(x.1,a.eval x.2)).toList=parts.toList.map fun p=>(p.1,a.eval p.2):=by simp
   simp only [execOp,hop,Sem.run_bind,Instr.build,hzr,Result.andThen,run_underlying hu,hm,hpa,hz2]
   have hpl2:(fun (i:Nat)=>pl.toArray[i]?)=fun (i:Nat)=>pl[i]?:=by funext i;simp
   rw [hpl2,hf]
   rfl
  ·cases hc
 ·
  rename_i t x hop
  simp only [Option.map_eq_some_iff] at hc
  obtain ⟨ag,hag,rfl⟩:=hc
  cases ag with
  | none =>
   obtain ⟨b,off,hx,hk⟩:=withP_elim hv
   obtain ⟨v,hcv,hk⟩:=withV_elim hk
   refine ⟨v,hk,?_,fun w hw=>?_⟩
   ·simp [reads,hx,hcv]
   ·have hw':=hw (b,off,v) (by simp [reads,hx])
    simp only [atAddr] at hw'
    simp [execOp,hop,hh.ev hx,Instr.loadAt,Instr.sureAddr,loadVar,run_isAggT (aggT_none hag),hw']
  | some n =>
   obtain ⟨b,off,hx,hk⟩:=withP_elim hv
   obtain ⟨vs,hn,hcv,hk⟩:=withC_elim hk
   have hz:∀ c j,(c,j)∈(cl (Value.agg vs.toArray)).zipIdx→vs[j]?=some c:=by
    intro c j hm
    have:=List.mem_zipIdx_iff_getElem?.1 hm
    simpa [cl,Value.cells] using this
   refine ⟨_,hk,?_,fun w hw=>?_⟩
   ·intro r hr
    simp only [reads,hx,List.mem_map] at hr
    obtain ⟨⟨c,j⟩,hm,rfl⟩:=hr
    exact hcv j c (hz c j hm)
   ·have hw':∀ j v,vs[j]?=some v→w.cell? ⟨b,off+j,none⟩=some v:=fun j v hj=>by
     have hm:(v,j)∈(cl (Value.agg vs.toArray)).zipIdx:=List.mem_zipIdx_iff_getElem?.2 (by simpa [cl,Value.cells] using hj)
     exact hw (b,off+j,v) (by simp only [reads,hx,List.mem_map];exact ⟨(v,j),hm,rfl⟩)
    have hrun:=run_loadCells_vs (P:=P) hw'
    rw [hn] at hrun
    simp [execOp,hop,hh.ev hx,Instr.loadAt,Instr.sureAddr,loadVar,run_isAggT (aggT_some hag).1,run_sizeT (aggT_some hag).2,hrun]
 ·simp only [Option.map_eq_some_iff] at hc
  obtain ⟨_,_,rfl⟩:=hc
  cases hq
 ·cases hc;cases hq
 ·(repeat' split at hc) <;> cases hc <;> cases hq
 ·(repeat' split at hc) <;> cases hc <;> cases hq
 ·simp only [Option.map_eq_some_iff] at hc
  obtain ⟨_,_,rfl⟩:=hc
  cases hq
 ·cases hc;cases hq
 ·simp only [Option.map_eq_some_iff] at hc
  obtain ⟨_,_,rfl⟩:=hc
  cases hq
 ·simp only [Option.map_eq_some_iff] at hc
  obtain ⟨_,_,rfl⟩:=hc
  cases hq
 ·simp only [Option.map_eq_some_iff] at hc
  obtain ⟨_,_,rfl⟩:=hc
  cases hq
 ·simp only [Option.map_eq_some_iff] at hc
  obtain ⟨_,_,rfl⟩:=hc
  cases hq
 ·cases hc;cases hq
 ·simp only [Option.map_eq_some_iff] at hc
  obtain ⟨_,_,rfl⟩:=hc
  cases hq
 ·cases hc;cases hq
 ·cases hc;cases hq
 ·
  rename_i c hop
  obtain ⟨callee,args,argTypes⟩:=c
  simp only at hc
  split at hc
  ·cases hc;cases hq
  ·cases hc;cases hq
  ·
   split at hc
   ·rename_i x t hargs htys
    split at hc
    ·rename_i el hu
     cases hc
     obtain ⟨ad,n,cap,hx,hk⟩:=withS_elim hv
     refine ⟨_,hk,by simp [reads],fun w _=>?_⟩
     have ha:args = #[x]:=by rw [← Array.toArray_toList (xs:=args),hargs]
     subst ha
     have ht0:argTypes[0]?=some t:=htys
     simp [execOp,hop,resolve,invoke,builtin,hh.ev hx,Builtin.len_,ht0,run_underlying hu,goInt]
    ·cases hc
   ·cases hc
  ·
   split at hc
   ·rename_i x t hargs htys
    split at hc
    ·rename_i el hu
     cases hc
     obtain ⟨ad,n,cap,hx,hk⟩:=withS_elim hv
     refine ⟨_,hk,by simp [reads],fun w _=>?_⟩
     have ha:args = #[x]:=by rw [← Array.toArray_toList (xs:=args),hargs]
     subst ha
     have ht0:argTypes[0]?=some t:=htys
     simp [execOp,hop,resolve,invoke,builtin,hh.ev hx,Builtin.cap_,ht0,run_underlying hu,goInt]
    ·cases hc
   ·cases hc
  ·
   split at hc
   ·simp only [Option.map_eq_some_iff] at hc
    obtain ⟨z,hz,rfl⟩:=hc
    cases hq
   ·cases hc
  ·
   split at hc
   ·rename_i x y hargs
    cases hc
    obtain ⟨k,n,hx,hk⟩:=withI_elim hv
    obtain ⟨k',m,hy,hk⟩:=withI_elim hk
    refine ⟨_,hk,by simp [reads],fun w _=>?_⟩
    have ha:args = #[x,y]:=by rw [← Array.toArray_toList (xs:=args),hargs]
    subst ha
    simp [execOp,hop,resolve,invoke,builtin,hh.ev hx,hh.ev hy,Builtin.max_,Builtin.max2]
   ·cases hc
  ·
   split at hc
   ·rename_i x y hargs
    cases hc
    obtain ⟨k,n,hx,hk⟩:=withI_elim hv
    obtain ⟨k',m,hy,hk⟩:=withI_elim hk
    refine ⟨_,hk,by simp [reads],fun w _=>?_⟩
    have ha:args = #[x,y]:=by rw [← Array.toArray_toList (xs:=args),hargs]
    subst ha
    simp [execOp,hop,resolve,invoke,builtin,hh.ev hx,hh.ev hy,Builtin.min_,Builtin.min2]
   ·cases hc
  ·(repeat' split at hc) <;> cases hc <;> cases hq
  ·cases hc
 ·cases hc;cases hq
 ·cases hc;cases hq
 ·cases hc
end Go.Vc
namespace Go.Vc
open Go
theorem hset_size (h:Heap) (b o:Nat) (v:Value):(hset h b o v).size=h.size:=by simp [hset]
theorem hputs_size (vs:List Value):∀ (h:Heap) (b o:Nat),(hputs h b o vs).size=h.size:=by
 induction vs with
 | nil=>intro h b o;rfl
 | cons v vs ih=>intro h b o;simp [hputs,ih,hset_size]
theorem hset_get (h:Heap) (b o:Nat) (v:Value) (D:Nat):(hset h b o v)[D]?=if b=D then (h[D]?).map (hmod o v) else h[D]?:=by
 unfold hset;rw [Array.getElem?_modify]
theorem hset_other {h:Heap} {b o:Nat} {v:Value} {D:Nat} (hne:b≠D):(hset h b o v)[D]?=h[D]?:=by
 rw [hset_get,if_neg hne]
theorem hset_def {h:Heap} {b o:Nat} {v:Value} {D:Nat} {x:Option (List Deferred)} (hD:h[D]?=some (.deferred x)):(hset h b o v)[D]?=some (.deferred x):=by
 rw [hset_get];split <;> simp [hD,hmod]
theorem hset_loop {h:Heap} {b o:Nat} {v:Value} {D:Nat} {x:Loop} (hD:h[D]?=some (.loop x)):(hset h b o v)[D]?=some (.loop x):=by
 rw [hset_get];split <;> simp [hD,hmod]
theorem hputs_def {x:Option (List Deferred)} {D:Nat} (vs:List Value):∀ {h:Heap} {b o:Nat},h[D]?=some (.deferred x)→(hputs h b o vs)[D]?=some (.deferred x):=by
 induction vs with
 | nil=>intro h b o hD;exact hD
 | cons v vs ih=>intro h b o hD;exact ih (hset_def hD)
theorem Blk.set {h:Heap} {b:Nat} {t:TypeId} {c:List Value} (hb:Blk h b t c) (o:Nat) (v:Value):Blk (hset h b o v) b t (c.set o v):=by
 unfold Blk at *
 rw [hset_get,if_pos rfl,hb]
 simp [hmod]
theorem Wr.set {h:Heap} {b o n:Nat} (hw:Wr h b o n) (o':Nat) (v:Value):Wr (hset h b o' v) b o n:=by
 obtain ⟨t,c,hb,hl⟩:=hw
 exact ⟨t,_,hb.set o' v,by simpa using hl⟩
theorem Blk.cell {h:Heap} {b:Nat} {t:TypeId} {c:List Value} (hb:Blk h b t c) (o:Nat):hcell h b o=c[o]?:=by
 unfold hcell;rw [show h[b]?=_ from hb];simp
theorem setCell_heap (w:World) (b o:Nat) (v:Value):(w.setCell ⟨b,o,none⟩ v).heap=hset w.heap b o v:=rfl
theorem like_setCell {y:Option Nat} (w:World) (b o:Nat) (v:Value):Like y w (w.setCell ⟨b,o,none⟩ v):=
 ⟨rfl,rfl,rfl,by rw [setCell_heap,hset_size];exact Nat.le_refl _,fun D hD=>by rw [setCell_heap];exact hset_def hD,fun l r _ hl=>by rw [setCell_heap];exact hset_loop hl⟩
theorem like_push {y:Option Nat} (w:World) (o:Obj):Like y w { w with heap:=w.heap.push o }:=
 ⟨rfl,rfl,rfl,by simp,fun D hD=>by
  have:=(Array.getElem?_eq_some_iff.1 hD).1
  simp only
  rw [Array.getElem?_push,if_neg (by omega)];exact hD,fun l r _ hl=>by
  have:=(Array.getElem?_eq_some_iff.1 hl).1
  simp only
  rw [Array.getElem?_push,if_neg (by omega)];exact hl⟩
theorem like_draw {y:Option Nat} (w:World) (n:Nat):Like y w { w with drawn:=n }:=⟨rfl,rfl,rfl,Nat.le_refl _,fun _ h=>h,fun _ _ _ h=>h⟩
theorem run_puts {y:Option Nat} {P:Program} (vs:List Value):∀ (i:Nat) (w:World) (b o:Nat),Wr w.heap b (o+i) vs.length→vs.all Value.oneCell'=true →
  ∃ w',(storeCells ⟨b,o,none⟩ vs i).run P w=.ok () w'∧w'.heap=hputs w.heap b (o+i) vs∧Like y w w':=by
 induction vs with
 | nil=>intro i w b o _ _;exact ⟨w,rfl,rfl,.refl _ _⟩
 | cons v vs ih =>
  intro i w b o hw h1
  simp only [List.all_cons,Bool.and_eq_true] at h1
  obtain ⟨t,c,hb,hl⟩:=hw
  simp only [List.length_cons] at hl
  have hcell:w.cell? ⟨b,o+i,none⟩=some (c[o+i]'(by omega)):=by
   rw [cell?_heap,hb.cell,List.getElem?_eq_getElem]
  have hfro:w.frozen? ⟨b,o+i,none⟩=false:=by
   unfold World.frozen?;rw [show w.heap[b]?=_ from hb];simp
  have hst:(store ((⟨b,o,none⟩:Addr).add i) v).run P w=.ok () (w.setCell ⟨b,o+i,none⟩ v):=by
   rw [addr_add,run_store P w _ v _ h1.1,hcell]
   simp [hfro]
  obtain ⟨w',hr,hh,hk⟩:=ih (i+1) (w.setCell ⟨b,o+i,none⟩ v) b o
   (by rw [setCell_heap];exact Wr.set ⟨t,c,hb,by omega⟩ _ _) h1.2
  refine ⟨w',?_,?_,(like_setCell _ _ _ _).trans hk⟩
  ·simp only [storeCells,Sem.run_bind,hst,Result.andThen,hr]
  ·rw [hh,setCell_heap];rfl
def OpGoes (P:Program) (o:Oper) (a:Act) (w:World) (K:Value→World→Prop):Prop:=
 match (execOp a.eval o).run P w with
 | .ok (.value v) w'=>K v w'
 | .ok .skip w'=>K undef w'
 | .ok (.enter f args) w'=>Calls P f args w' fun e w''=>∃ v,e=.returned v∧K v w''
 | .ok (.round l fn tmps assign body) w'=>RoundIn Fence.wide 0 P l fn tmps assign body w' fun e w''=>∃ v,e=.returned v∧K v w''
 | _=>False
theorem zeroCells_zeros (z:List Value) (hz:0<z.length) (k:Nat):((Array.range (k * z.length)).map fun i=>z.toArray[i % z.length]!)=(zeros z k).toArray:=by
 have key:∀ k,(List.range (k * z.length)).map (fun i=>z.toArray[i % z.length]!)=zeros z k:=by
  intro k
  induction k with
  | zero=>simp [zeros]
  | succ k ih =>
   rw [show (k+1) * z.length=z.length+k * z.length from by rw [Nat.succ_mul];omega,List.range_add,List.map_append,zeros,← ih]
   congr 1
   ·apply List.ext_getElem?
    intro i
    by_cases hi:i<z.length
    ·simp [hi,Nat.mod_eq_of_lt hi]
    ·simp [hi]
   ·simp
 apply Array.ext'
 rw [Array.toList_map,Array.toList_range]
 exact key k
theorem range0_map (f:Nat→Value):(Array.range 0).map f=([]:List Value).toArray:=by
 apply Array.ext'
 simp
theorem cells_array (v:Value):v.cells=(cl v).toArray:=by simp [cl]
theorem nextcap_le (need cap:Nat) (h:cap<need):Builtin.nextslicecap need cap≤2 * need:=by
 unfold Builtin.nextslicecap
 split
 ·omega
 ·split
  ·omega
  ·have hg:∀ r c,c<need→256≤c→Builtin.growBy need r c≤2 * need:=by
    intro r
    induction r with
    | zero=>intro c h1 h2;simp [Builtin.growBy];omega
    | succ r ih =>
     intro c h1 h2
     simp only [Builtin.growBy]
     rw [if_neg (by omega)]
     by_cases hc:c+(c+768) / 4<need
     ·exact ih _ hc (by omega)
     ·cases r with
      | zero=>simp [Builtin.growBy];omega
      | succ r=>simp only [Builtin.growBy];rw [if_pos (by omega)];omega
   exact hg 4 cap h (by omega)
theorem run_append {y:Option Nat} {P:Program} {st xt el:TypeId} {i:TypeInfo} {z:Value} (hst:P.underlying st=some (.slice el)) {el':TypeId} (hxt:P.underlying xt=some (.slice el')) (hi:P.info? el=some i) (hz:i.zero=some z)
  (hs:(cl z).length=i.size) (hs0:0<i.size) (hb0:0<i.bytes) (ty:TypeId) (ad:Option Addr) (n c:Nat) (x:Option Addr) (m mc:Nat) (new:List Value) (w:World)
  (hx:(m=0∧new=[])∨∃ b o,x=some ⟨b,o,none⟩∧new.length=m * i.size∧∀ j v,new[j]?=some v→hcell w.heap b (o+j)=some v)
  (hone:new.all Value.oneCell'=true) {K:Value→Heap→Prop} (hk:appB i.size i.bytes (cl z) w.heap ad n c new m K) :
  ∃ v w',(Builtin.append_ #[st,xt] ty #[.slice ad n c,.slice x m mc]).run P w=.ok v w'∧Like y w w'∧K v w'.heap:=by
 have hni:(match TypeDesc.slice el' with | .int _=>true | _=>false)=false:=rfl
 have hsz:∀ w,(sizeOf el).run P w=.ok i.size w:=fun w=>by simp [sizeOf,typeInfo,program,Sem.run,hi]
 have hti:∀ w,(typeInfo el).run P w=.ok i w:=fun w=>by simp [typeInfo,program,Sem.run,hi]
 have hzv:∀ w,(zeroValue el).run P w=.ok z w:=fun w=>by simp [zeroValue,typeInfo,program,Sem.run,hi,hz]
 have hnew:∀ w1:World,w1.heap=w.heap→(Builtin.firstCells i.size m (.slice x m mc)).run P w1=.ok new.toArray w1:=by
  intro w1 hw1
  rcases hx with ⟨rfl,rfl⟩ | ⟨b,o,rfl,hl,hc⟩
  ·cases x with
   | none=>simp [Builtin.firstCells]
   | some ad=>simp [Builtin.firstCells,loadCells,loadCellsFrom,Sem.run_pure]
  ·have:=run_loadCells_vs (P:=P) (w:=w1) (b:=b) (o:=o) (vs:=new) (fun j v hj=>by rw [cell?_heap,hw1];exact hc j v hj)
   rw [hl] at this
   simpa [Builtin.firstCells] using this
 have hnl:new.length=m * i.size:=by
  rcases hx with ⟨rfl,rfl⟩ | ⟨b,o,rfl,hl,hc⟩
  ·simp
  ·exact hl
 by_cases hfit:n+m≤c
 ·have hk:=hk.1 hfit
  split at hk
  ·rename_i b o hkk
   obtain ⟨hwr,hk⟩:=hk
   obtain ⟨w',hr,hh,hlk⟩:=run_puts (P:=P) new 0 w b (o+n * i.size) (by rw [hnl];exact hwr) hone
   refine ⟨_,w',?_,hlk,hk _ ⟨hh⟩⟩
   simp [Builtin.append_,run_underlying hst,run_underlying hxt,hsz,Builtin.lenOf,hfit,hnew w rfl,addr_add,hr]
  ·rename_i hkk
   obtain ⟨rfl,hk⟩:=hk
   refine ⟨_,w,?_,.refl _ _,hk⟩
   have hfit':n≤c:=by omega
   simp [Builtin.append_,run_underlying hst,run_underlying hxt,hsz,Builtin.lenOf,hfit',hnew w rfl]
  ·exact hk.elim
 ·obtain ⟨hsize,old,hold0,hk⟩:=hk.2 (by omega)
  have hcap:=nextcap_le (n+m) c (by omega)
  have hcap2:¬ Builtin.nextslicecap (n+m) c * i.bytes > 2 ^ 48:=by
   have:=Nat.mul_le_mul_right i.bytes hcap
   have e:2 * (n+m) * i.bytes=(n+m) * 2 * i.bytes:=by rw [Nat.mul_comm 2]
   omega
  obtain ⟨c',hc'⟩:∃ c',c'=(Question.appendCap (n+m) c el).cut (w.tape w.drawn (.appendCap (n+m) c el)):=⟨_,rfl⟩
  have hle:n+m≤c':=by rw [hc'];simp [Question.cut]
  have hroom:∀ w1,(askRoom (c' * i.bytes)).run P w1=.ok () w1:=by
   intro w1;unfold askRoom;split <;> rfl
  have hw2:({ w with drawn:=w.drawn+1 }:World).heap=w.heap:=rfl
  have hchoose:(choose (.appendCap (n+m) c el)).run P w=.ok c' { w with drawn:=w.drawn+1 }:=by
   rw [hc'];simp [choose,Sem.run,Question.forced]
  have hfin:∀ (old:List Value),(Builtin.firstCells i.size n (.slice ad n c)).run P { w with drawn:=w.drawn+1 }=.ok old.toArray { w with drawn:=w.drawn+1 } →
    (Builtin.append_ #[st,xt] ty #[.slice ad n c,.slice x m mc]).run P w=.ok (.slice (some ⟨w.heap.size,0,none⟩) (n+m) c')
     { w with heap:=w.heap.push (.cells (old++new++zeros (cl z) (c' - (n+m))).toArray el),drawn:=w.drawn+1 }:=by
   intro old hold
   have hz2:Builtin.zeroCells z.cells (c' - (n+m))=(zeros (cl z) (c' - (n+m))).toArray:=by
    unfold Builtin.zeroCells;rw [cells_array];simpa using zeroCells_zeros (cl z) (by omega) (c' - (n+m))
   have hlt:¬ (c≥n+m):=by omega
   have hbig:¬ ((9223372036854775807:Int)<((n+m:Nat):Int)∧i.bytes=0):=fun h=>by omega
   have hfit2:c<n+m:=by omega
   have hcap3:¬ (281474976710656<Builtin.nextslicecap (n+m) c * i.bytes):=by have:=hcap2;omega
   have hnr:∀ (cs:Array Value) (w1:World),(newRow el cs).run P w1=.ok ⟨w1.heap.size,0,none⟩ { w1 with heap:=w1.heap.push (.cells cs el) }:=fun cs w1=>rfl
   have hm1:(IntKind.i64.max:Int)=9223372036854775807:=by decide
   have hb1:(i.bytes=0)=False:=by simp;omega
   have hf:(Question.appendCap (n+m) c el).forced=false:=rfl
   have hold':(Builtin.firstCells i.size n (.slice ad n c)).run P w.drew=.ok old.toArray w.drew:=hold
   have hnew':=hnew w.drew rfl
   simp [Builtin.append_,run_underlying hst,run_underlying hxt,hsz,Builtin.lenOf,hti,hfit,hcap3,hroom,hold',hnew',hzv,hz2,hb1,hf,← hc']
   rfl
  have hlike:∀ o,Like y w { w with heap:=w.heap.push o,drawn:=w.drawn+1 }:=fun o=>(like_draw w (w.drawn+1)).trans (like_push { w with drawn:=w.drawn+1 } o)
  have hold:(Builtin.firstCells i.size n (.slice ad n c)).run P { w with drawn:=w.drawn+1 }=.ok old.toArray { w with drawn:=w.drawn+1 }:=by
   rcases hold0 with ⟨rfl,rfl,rfl⟩ | ⟨b,o,rfl,hol,hoc⟩
   ·simp [Builtin.firstCells]
   ·have:=run_loadCells_vs (P:=P) (w:={ w with drawn:=w.drawn+1 }) (b:=b) (o:=o) (vs:=old) (fun j v hj=>by rw [cell?_heap];exact hoc j v hj)
    rw [hol] at this
    simpa [Builtin.firstCells] using this
  exact ⟨_,_,hfin old hold,hlike _,hk c' _ _ hle ⟨rfl,_,rfl⟩⟩
theorem run_appendN {y : Option Nat} {P : Program} {st xt el : TypeId} {i : TypeInfo} {z : Value} {kd : IntKind} (hst : P.underlying st = some (.slice el)) (hxt : P.underlying xt = some (.int kd)) (hi : P.info? el = some i) (hz : i.zero = some z)
    (hs : (cl z).length = i.size) (hs0 : 0 < i.size) (hb0 : 0 < i.bytes) (ty : TypeId) (m : Nat) (hm : 0 < m) (hmax : (m : Int) ≤ 4611686018427387904) (hsize : m * 2 * i.bytes ≤ 281474976710656) (w : World) {K : Value → Heap → Prop}
    (hk : ∀ c' b' h', m ≤ c' → New w.heap h' b' (zeros (cl z) m ++ zeros (cl z) (c' - m)) → K (.slice (some ⟨b', 0, none⟩) m c') h') :
    ∃ v w', (Builtin.append_ #[st, xt] ty #[.slice none 0 0, .int .i64 m]).run P w = .ok v w' ∧ Like y w w' ∧ K v w'.heap := by
  have hsz : ∀ w, (sizeOf el).run P w = .ok i.size w := fun w => by simp [sizeOf, typeInfo, program, Sem.run, hi]
  have hti : ∀ w, (typeInfo el).run P w = .ok i w := fun w => by simp [typeInfo, program, Sem.run, hi]
  have hzv : ∀ w, (zeroValue el).run P w = .ok z w := fun w => by simp [zeroValue, typeInfo, program, Sem.run, hi, hz]
  have hcap := nextcap_le m 0 hm
  have hcap3 : ¬ (281474976710656 < Builtin.nextslicecap m 0 * i.bytes) := by
    have := Nat.mul_le_mul_right i.bytes hcap
    have e : 2 * m * i.bytes = m * 2 * i.bytes := by rw [Nat.mul_comm 2]
    omega
  obtain ⟨c', hc'⟩ : ∃ c', c' = (Question.appendCap m 0 el).cut (w.tape w.drawn (.appendCap m 0 el)) := ⟨_, rfl⟩
  have hle : m ≤ c' := by rw [hc']; simp [Question.cut]
  have hroom : ∀ w1, (askRoom (c' * i.bytes)).run P w1 = .ok () w1 := by
    intro w1; unfold askRoom; split <;> rfl
  have hz1 : ∀ k, Builtin.zeroCells z.cells k = (zeros (cl z) k).toArray := fun k => by
    unfold Builtin.zeroCells; rw [cells_array]; simpa using zeroCells_zeros (cl z) (by omega) k
  have hlike : ∀ o, Like y w { w with heap := w.heap.push o, drawn := w.drawn + 1 } := fun o => (like_draw w (w.drawn + 1)).trans (like_push { w with drawn := w.drawn + 1 } o)
  have hw : IntKind.i64.wrap (m : Int) = m := by rw [IntKind.wrap_i64]; omega
  have hb48 : ¬ ((m : Int) * i.bytes > 2 ^ 48) := by
    have : m * i.bytes ≤ m * 2 * i.bytes := Nat.mul_le_mul_right _ (by omega)
    have h2 : ((m * i.bytes : Nat) : Int) = (m : Int) * i.bytes := by simp
    omega
  have hms : m * i.size ≠ 0 := Nat.ne_of_gt (Nat.mul_pos hm hs0)
  have hf : (Question.appendCap m 0 el).forced = false := rfl
  have hm1 : (IntKind.i64.max : Int) = 9223372036854775807 := by decide
  have hfin : (Builtin.append_ #[st, xt] ty #[.slice none 0 0, .int .i64 m]).run P w = .ok (.slice (some ⟨w.heap.size, 0, none⟩) m c')
        { w with heap := w.heap.push (.cells (zeros (cl z) m ++ zeros (cl z) (c' - m)).toArray el), drawn := w.drawn + 1 } := by
    have hb1 : (i.bytes = 0) = False := by simp; omega
    have hm0 : (m = 0) = False := by simp; omega
    have hs1 : (i.size = 0) = False := by simp; omega
    have hneg : ¬ ((m : Int) < 0) := by omega
    have hms0 : (m * i.size = 0) = False := by simp only [hms]
    have hbig : ¬ ((9223372036854775807 : Int) < (m : Int)) := by omega
    have hb48' : ¬ ((281474976710656 : Int) < (m : Int) * i.bytes) := by simpa using hb48
    simp [Builtin.append_, run_underlying hst, run_underlying hxt, hsz, hti, hms0, hm0, asInt, asIntOf, hw, hneg, hb48', hbig, hcap3, hroom, hzv, hz1, hb1, hf, Builtin.firstCells, ← hc']
    rfl
  exact ⟨_, _, hfin, hlike _, hk c' _ _ hle ⟨rfl, _, rfl⟩⟩
theorem run_getO {P:Program} {w:World} {r:Nat} {o:Obj} (h:w.heap[r]?=some o) (hc:∀ c t f,o≠.cells c t f):(getObj r).run P w=.ok o w:=by
 unfold getObj Sem.run
 rw [h]
 cases o <;> first | rfl | exact absurd rfl (hc _ _ _)
theorem run_setO {P:Program} {w:World} {r:Nat} {o o':Obj} (h:w.heap[r]?=some o) (hc:∀ c t f,o≠.cells c t f):(setObj r o').run P w=.ok () { w with heap:=hobj w.heap r o' }:=by
 unfold setObj Sem.run
 rw [h]
 cases o <;> first | rfl | exact absurd rfl (hc _ _ _)
theorem run_newO {P:Program} {w:World} (o:Obj):(newObj o).run P w=.ok w.heap.size { w with heap:=w.heap.push o }:=rfl
theorem like_setO {y:Option Nat} (w:World) {r:Nat} {o o':Obj} (h:w.heap[r]?=some o) (hd:∀ x,o≠.deferred x) (hl:∀ x,o≠.loop x):Like y w { w with heap:=hobj w.heap r o' }:=by
 have key:∀ (D:Nat) (x:Obj),x≠o→w.heap[D]?=some x→(hobj w.heap r o')[D]?=some x:=by
  intro D x hx hD
  have:r≠D:=fun e=>by subst e;rw [h] at hD;cases hD;exact hx rfl
  unfold hobj
  rw [Array.getElem?_setIfInBounds_ne this,hD]
 exact ⟨rfl,rfl,rfl,by simp [hobj],fun D hD=>key D _ (fun e=>hd _ e.symm) hD,fun l x _ hx=>key l _ (fun e=>hl _ e.symm) hx⟩
theorem mapEs_get:∀ (m:List (Int×Value)) (n i:Nat),(mapEs n m)[i]?=(m[i]?).map fun p=>⟨.int .i64 p.1,p.2,n+i⟩
 | [],n,i=>by simp [mapEs]
 | (k,v) :: m,n,0=>by simp [mapEs]
 | (k,v) :: m,n,i+1=>by simp [mapEs,mapEs_get m (n+1) i];congr 1;funext p;congr 1;omega
theorem mapEs_length:∀ (m:List (Int×Value)) (n:Nat),(mapEs n m).length=m.length
 | [],n=>rfl
 | (k,v) :: m,n=>by simp [mapEs,mapEs_length m (n+1)]
theorem mfind_spec:∀ {m:List (Int×Value)} {k:Int} {i:Nat} {v:Value},mfind m k=some (i,v)→m[i]?=some (k,v)
 | [],k,i,v,h=>by simp [mfind] at h
 | (k',v') :: m,k,i,v,h=>by
  unfold mfind at h
  split at h
  ·rename_i hk;cases h;subst hk;rfl
  ·simp only [Option.map_eq_some_iff,Prod.mk.injEq] at h
   obtain ⟨⟨j,u⟩,h1,rfl,rfl⟩:=h
   simpa using mfind_spec h1
theorem findNow_es (kd:IntKind) (k:Int):∀ (m:List (Int×Value)) (n i:Nat),Instr.findNow (.int kd) (.int .i64 k) (mapEs n m) i=some ((mfind m k).map fun p=>(p.1+i,p.2))
 | [],n,i=>by simp [mapEs,Instr.findNow,mfind]
 | (k',v) :: m,n,i=>by
  have hs:Instr.sameNow (.int kd) (.int .i64 k) (.int .i64 k')=some (k==k'):=by simp [Instr.sameNow]
  unfold mapEs Instr.findNow
  simp only [hs]
  unfold mfind
  by_cases hk:k=k'
  ·subst hk;simp
  ·have:(k==k')=false:=by simpa using hk
   rw [this,if_neg hk,findNow_es kd k m (n+1) (i+1)]
   simp only [Option.map_map]
   congr 2;funext p;simp;omega
theorem run_findKeyI {P:Program} {kt:TypeId} {kd:IntKind} (hu:P.underlying kt=some (.int kd)) (k:Int) (m:List (Int×Value)) (w:World) :
  (Instr.findKey kt (.int .i64 k) (mapEs 0 m)).run P w=.ok (mfind m k) w:=by
 have:=findNow_es kd k m 0 0
 simp only [Nat.add_zero] at this
 have e:(Option.map (fun (p:Nat×Value)=>(p.1,p.2)) (mfind m k))=mfind m k:=by cases mfind m k <;> rfl
 rw [e] at this
 simp only [Instr.findKey,Sem.run_bind,run_underlying hu,Result.andThen,this,Sem.run_pure]
theorem run_checkKeyI {P:Program} {kt:TypeId} {kd:IntKind} (hu:P.underlying kt=some (.int kd)) (b:Bool) (k:Int) (w:World) :
  (Instr.checkKey b 10000 kt (.int .i64 k)).run P w=.ok () w:=by
 show (Instr.checkKey b (9999+1) kt (.int .i64 k)).run P w=.ok () w
 rw [Instr.checkKey];simp only [Sem.run_bind,run_underlying hu,Result.andThen,Sem.run_pure]
theorem run_stays {P:Program} (k:Int) (w:World):(Instr.keyThatStays (.int .i64 k) (.int .i64 k)).run P w=.ok (.int .i64 k) w:=by
 unfold Instr.keyThatStays
 have:Instr.sameBits 10000 (.int .i64 k) (.int .i64 k)=true:=by
  show Instr.sameBits (9999+1) _ _=true
  unfold Instr.sameBits;simp
 rw [if_pos this];rfl
theorem mset_es (m:List (Int×Value)) (i:Nat) (v:Value) (f:MapEntry→MapEntry) (hf:∀ p,m[i]?=some p→∀ n,f ⟨.int .i64 p.1,p.2,n⟩=⟨.int .i64 p.1,v,n⟩) :
  (mapEs 0 m).toArray.modify i f=(mapEs 0 (mset m i v)).toArray:=by
 apply Array.ext'
 rw [Array.toList_modify]
 apply List.ext_getElem?
 intro j
 rw [List.getElem?_modify,mapEs_get,mapEs_get,mset,List.getElem?_modify]
 by_cases hij:i=j
 ·subst hij
  cases hm:m[i]? with
  | none=>simp
  | some p=>simp [hf p hm]
 ·simp [hij]
theorem push_es (m:List (Int×Value)) (k:Int) (v:Value):(mapEs 0 m).toArray.push ⟨.int .i64 k,v,m.length⟩=(mapEs 0 (m++[(k,v)])).toArray:=by
 have key:∀ (m:List (Int×Value)) (n:Nat),mapEs n m++[⟨.int .i64 k,v,n+m.length⟩]=mapEs n (m++[(k,v)]):=by
  intro m
  induction m with
  | nil=>intro n;rfl
  | cons p m ih =>
   intro n
   have e:n+(m.length+1)=n+1+m.length:=by omega
   simp only [mapEs,List.cons_append,List.length_cons,e,ih (n+1)]
 have:=key m 0
 rw [Nat.zero_add] at this
 simp [← this]
theorem mset_same {m:List (Int×Value)} {i:Nat} {k:Int} {v:Value} (h:m[i]?=some (k,v)):mset m i v=m:=by
 apply List.ext_getElem?
 intro j
 rw [mset,List.getElem?_modify]
 by_cases hij:i=j
 ·subst hij;simp [h]
 ·simp [hij]
theorem length_mset (m:List (Int×Value)) (i:Nat) (v:Value):(mset m i v).length=m.length:=by simp [mset]
theorem hobj_same {h:Heap} {r:Nat} {o:Obj} (ho:h[r]?=some o):hobj h r o=h:=by
 unfold hobj
 apply Array.ext_getElem?
 intro i
 by_cases hi:r=i
 ·subst hi
  obtain ⟨hl,he⟩:=Array.getElem?_eq_some_iff.1 ho
  simp [hl,he]
 ·rw [Array.getElem?_setIfInBounds_ne hi]
theorem mapT_spec {P:Program} {t:TypeId} {z:Value} (h:mapT P t=some z):∃ kt el kd,P.underlying t=some (.map kt el)∧P.underlying kt=some (.int kd)∧∀ w,(zeroValue el).run P w=.ok z w:=by
 unfold mapT at h
 split at h
 ·rename_i kt el hu
  split at h
  ·rename_i hi
   unfold isIntT at hi
   split at hi
   ·rename_i kd hk
    simp only [Option.bind_eq_some_iff] at h
    obtain ⟨i,h1,h2⟩:=h
    exact ⟨kt,el,kd,hu,hk,fun w=>by simp [zeroValue,typeInfo,program,Sem.run,h1,h2]⟩
   ·cases hi
  ·cases h
 ·cases h
theorem iter_next {P:Program} {w:World} {b r:Nat} {m:List (Int×Value)} {seen:List Nat} (hb:IterAt w.heap b r m.length seen) (hm:MapAt w.heap r m) (t:TypeId) :
  (∃ i k v w',m[i]?=some (k,v)∧i∉seen∧(Instr.next (.pointer (some ⟨b,0,none⟩)) false t).run P w=.ok (.tuple #[.bool true,.int .i64 k,v]) w'∧w'.heap=hobj w.heap b (iterObj r m.length (seen++[i]))∧∀ y,Like y w w') ∨
  (∃ w',(∀ i,i<m.length→i∈seen)∧(Instr.next (.pointer (some ⟨b,0,none⟩)) false t).run P w=.ok (.tuple #[.bool false]) w'∧w'.heap=w.heap∧∀ y,Like y w w'):=by
 have h1:=run_getO (P:=P) hb (by intro c t f h;cases h)
 have h2:=run_getO (P:=P) hm (by intro c t f h;cases h)
 obtain ⟨left,hleft⟩:∃ left,left=(mapEs 0 m).toArray.filter fun e=>!seen.toArray.contains e.born:=⟨_,rfl⟩
 have hmem:∀ e,e∈left→∃ i k v,e=⟨.int .i64 k,v,i⟩∧m[i]?=some (k,v)∧i∉seen:=by
  intro e he
  rw [hleft,Array.mem_filter] at he
  obtain ⟨he,hs⟩:=he
  obtain ⟨i,hi⟩:=List.mem_iff_getElem?.1 (by simpa using he)
  rw [mapEs_get] at hi
  simp only [Option.map_eq_some_iff] at hi
  obtain ⟨⟨k,v⟩,hm,rfl⟩:=hi
  refine ⟨i,k,v,by simp,hm,?_⟩
  simpa using hs
 have hborn:∀ e,e∈left→e.born<m.length:=by
  intro e he
  obtain ⟨i,k,v,rfl,hm,_⟩:=hmem e he
  exact (List.getElem?_eq_some_iff.1 hm).1
 have hold:left.filter (fun e=>decide (e.born<m.length))=left:=by
  apply Array.filter_eq_self.2;intro e he;simpa using hborn e he
 have hnew:left.filter (fun e=>decide (e.born≥m.length)) = #[]:=by
  apply Array.filter_eq_empty_iff.2;intro e he;have:=hborn e he;simp;omega
 have hgone:(!seen.toArray.isEmpty&&!(mapEs 0 m).toArray.isEmpty&&(mapEs 0 m).toArray.all fun e=>decide (e.born≥m.length))=false:=by
  cases m with
  | nil=>simp [mapEs]
  | cons p m=>simp [mapEs]
 have hempty:left.isEmpty=true→∀ i,i<m.length→i∈seen:=by
  intro he i hi
  apply Classical.byContradiction
  intro hn
  have hx:(⟨.int .i64 m[i].1,m[i].2,i⟩:MapEntry)∈left:=by
   rw [hleft,Array.mem_filter]
   refine ⟨?_,by simpa using hn⟩
   rw [List.mem_toArray]
   apply List.mem_iff_getElem?.2
   exact ⟨i,by rw [mapEs_get];simp [hi]⟩
  rw [Array.isEmpty_iff] at he
  rw [he] at hx
  simp at hx
 obtain ⟨cand,hcand⟩:∃ cand:Array (Option MapEntry),cand=(if left.isEmpty then #[none] else #[])++left.map some:=⟨_,rfl⟩
 have hsz:0<cand.size:=by
  rw [hcand]
  cases he:left.isEmpty
  ·have:left≠#[]:=fun h=>by rw [h] at he;cases he
   have:0<left.size:=by
    rcases Nat.eq_zero_or_pos left.size with h | h
    ·exact absurd (Array.eq_empty_of_size_eq_zero h) this
    ·exact h
   simp;omega
  ·simp;omega
 have hdraw:∃ c w1,(choose (.mapNext cand.size)).run P w=.ok c w1∧c<cand.size∧w1.heap=w.heap∧∀ y,Like y w w1:=by
  unfold choose Sem.run
  cases hf:(Question.mapNext cand.size).forced
  ·refine ⟨_,_,rfl,?_,rfl,fun y=>like_draw _ _⟩
   show w.tape w.drawn (.mapNext cand.size) % cand.size<cand.size
   exact Nat.mod_lt _ hsz
  ·exact ⟨_,_,rfl,hsz,rfl,fun y=>.refl _ _⟩
 obtain ⟨c,w1,hch,hcl,hw1,hlk⟩:=hdraw
 have hrun:(Instr.next (.pointer (some ⟨b,0,none⟩)) false t).run P w =
   (match cand[c]? with
    | some (some e)=>(do setObj b (.mapIter (some r) m.length (seen.toArray.push e.born) m.length);pure (.tuple #[.bool true,e.key,e.val]):Sem Value)
    | some none=>pure (.tuple #[.bool false])
    | none => stuck "Next: no such candidate").run P w1 := by
  unfold Instr.next
  simp only [Sem.run_bind,h1,h2,Result.andThen,iterObj,mapObj,hgone,Bool.false_eq_true,if_false,← hleft,hold,hnew,Array.append_empty,← hcand,hch]
  rcases cand[c]? with _ | _ | e <;> rfl
 rw [hrun]
 have hc0:cand[c]?=some cand[c]:=by simp
 rw [hc0]
 cases hcc:cand[c] with
 | none =>
  right
  refine ⟨w1,hempty ?_,rfl,hw1,hlk⟩
  cases he:left.isEmpty
  ·have hin:(none:Option MapEntry)∈cand:=by rw [← hcc];exact Array.getElem_mem _
   rw [hcand,he] at hin
   simp at hin
  ·rfl
 | some e =>
  left
  have hel:e∈left:=by
   have:some e∈cand:=by rw [← hcc];exact Array.getElem_mem _
   rw [hcand] at this
   simp only [Array.mem_append,Array.mem_map] at this
   rcases this with h | ⟨e',h,he⟩
   ·split at h <;> simp at h
   ·cases he;exact h
  obtain ⟨i,k,v,rfl,hmi,hns⟩:=hmem e hel
  have hb1:w1.heap[b]?=some (iterObj r m.length seen):=by rw [hw1];exact hb
  have hs:=run_setO (P:=P) (o':=iterObj r m.length (seen++[i])) hb1 (by intro c t f h;cases h)
  have e1:Obj.mapIter (some r) m.length (seen.toArray.push i) m.length=iterObj r m.length (seen++[i]):=by simp [iterObj]
  refine ⟨i,k,v,_,hmi,hns,?_,?_,fun y=>(hlk y).trans (like_setO w1 (o':=iterObj r m.length (seen++[i])) hb1 (by intro x h;cases h) (by intro x h;cases h))⟩
  ·simp only [Sem.run_bind,e1,hs,Result.andThen,Sem.run_pure]
  ·simp only [hw1]
theorem g_sound {P:Program} {y:Option Nat} {o:Oper} {g:GOp} (hc:compileOp P o=some g) {N:Nat} {e:Env} {a:Act} (hh:Holds N e a) {w:World} {K:Value→Heap→Prop}
  (hv:gvc P y g e w.heap K):OpGoes P o a w fun v w'=>Like y w w'∧K v w'.heap:=by
 by_cases hq:g.quiet=true
 ·have hv':qvc g e w.heap fun v=>K v w.heap:=by cases g <;> first | exact hv | cases hq
  obtain ⟨v,hk,hr,hrun⟩:=q_sound hc hq hh hv'
  have:=hrun w (fun r hr'=>by unfold atAddr;rw [cell?_heap];exact hr r hr')
  unfold OpGoes
  rw [this]
  exact ⟨.refl _ _,hk⟩
 ·have hns:∀ {t:TypeId} {v:Value} {el:TypeId} (cs:Array Value) (w:World),(newRow el cs).run P w=.ok ⟨w.heap.size,0,none⟩ { w with heap:=w.heap.push (.cells cs el) }:=fun _ _=>rfl
  have mapset:∀ {t:TypeId} {x k v:Operand} {z:Value},((execOp a.eval o)=(do Instr.mapUpdate t (a.eval x) (a.eval k) (a.eval v);pure .skip))→mapT P t=some z→gvc P y (.mapSet x k v) e w.heap K→OpGoes P o a w fun v w'=>Like y w w'∧K v w'.heap:=by
   intro t x k v z hex hz hv
   obtain ⟨kt,el,kd,hu,hk,hzr⟩:=mapT_spec hz
   obtain ⟨r,hx,hv⟩:=withMp_elim hv
   obtain ⟨kk,n,hi,hv⟩:=withI_elim hv
   obtain ⟨u,hu',rfl,m,hm,hv⟩:=withV_elim hv
   have hnc:∀ c t f,mapObj m≠.cells c t f:=by intro c t f h;cases h
   have h1:=run_getO (P:=P) hm hnc
   have hs:=run_setO (P:=P) (o':=mapObj (mput m n u)) hm hnc
   have:(execOp a.eval o).run P w=.ok .skip { w with heap:=hobj w.heap r (mapObj (mput m n u)) }:=by
    rw [hex]
    simp only [Sem.run_bind,Instr.mapUpdate,hh.ev hx,hh.ev hi,hh.ev hu',run_underlying hu,h1,Result.andThen,mapObj,Sem.run_pure,run_checkKeyI hk,run_findKeyI hk]
    cases hf:mfind m n with
    | some p =>
     obtain ⟨i,v⟩:=p
     have he:(mapEs 0 m)[i]?=some ⟨.int .i64 n,v,i⟩:=by rw [mapEs_get,mfind_spec hf];simp
     have he2:(mapEs 0 m).toArray.modify i (fun e=>{ e with key:=.int .i64 n,val:=u })=(mapEs 0 (mset m i u)).toArray:=
      mset_es m i u _ (fun p hp j=>by rw [mfind_spec hf] at hp;cases hp;rfl)
     have e2:Obj.map (mapEs 0 (mset m i u)).toArray m.length=mapObj (mput m n u):=by simp [mapObj,length_mset,mput,hf]
     simp only [Sem.run_bind,List.getElem?_toArray,he,Option.map_some,Option.getD_some,run_stays,Result.andThen,he2]
     rw [e2,hs]
     rfl
    | none =>
     have e1:Obj.map ((mapEs 0 m).toArray.push ⟨.int .i64 n,u,m.length⟩) (m.length+1)=mapObj (mput m n u):=by
      rw [push_es];simp [mapObj,mput,hf]
     simp only [Sem.run_bind]
     rw [e1,hs]
     rfl
   unfold OpGoes;rw [this]
   exact ⟨like_setO w hm (by intro x h;cases h) (by intro x h;cases h),hv _ ⟨rfl⟩⟩
  unfold compileOp at hc
  split at hc
  ·cases hc;exact absurd rfl hq
  ·cases hc;exact absurd rfl hq
  ·cases hc;exact absurd rfl hq
  ·rename_i op t x y yt hop
   exfalso
   cases op <;> simp only [eqT] at hc <;> (repeat' split at hc) <;> first | (cases hc;exact hq rfl) | cases hc | (simp only [Option.map_eq_some_iff] at hc;obtain ⟨_,_,rfl⟩:=hc;exact hq rfl)
  ·cases hc;exact absurd rfl hq
  ·split at hc <;> cases hc;exact absurd rfl hq
  ·split at hc <;> cases hc;exact absurd rfl hq
  ·split at hc <;> cases hc;exact absurd rfl hq
  ·cases hc;exact absurd rfl hq
  ·(repeat' split at hc) <;> cases hc;exact absurd rfl hq
  ·(repeat' split at hc) <;> first | cases hc | (simp only [Option.map_eq_some_iff] at hc;obtain ⟨_,_,rfl⟩:=hc;exact absurd rfl hq)
  ·(repeat' split at hc) <;> first | cases hc | (simp only [Option.map_eq_some_iff] at hc;obtain ⟨_,_,rfl⟩:=hc;exact absurd rfl hq)
  ·cases hc;exact absurd rfl hq
  ·cases hc;exact absurd rfl hq
  ·(repeat' split at hc) <;> first | cases hc | (simp only [Option.map_eq_some_iff] at hc;obtain ⟨_,_,rfl⟩:=hc;exact absurd rfl hq)
  ·split at hc
   ·simp only [Option.bind_eq_some_iff,Option.map_eq_some_iff] at hc
    obtain ⟨_,_,_,_,rfl⟩:=hc;exact absurd rfl hq
   ·cases hc
  ·simp only [Option.map_eq_some_iff] at hc;obtain ⟨_,_,rfl⟩:=hc;exact absurd rfl hq
  ·
   rename_i t hop
   simp only [Option.map_eq_some_iff] at hc
   obtain ⟨z,hz,rfl⟩:=hc
   obtain ⟨zv,hzv,hzr⟩:=run_zeroT hz
   have hz2:zv.cells=z.toArray:=by rw [← hzv];simp [cl]
   have:(execOp a.eval o).run P w=.ok (.value (.pointer (some ⟨w.heap.size,0,none⟩))) { w with heap:=w.heap.push (.cells z.toArray t) }:=by
    simp [execOp,hop,Instr.alloc,hzr,newVar,hz2]
    rfl
   unfold OpGoes;rw [this]
   exact ⟨like_push _ _,hv _ _ ⟨rfl,_,rfl⟩⟩
  ·
   rename_i t x hop
   cases hc
   obtain ⟨v,hx,hk⟩:=withV_elim hv
   have:(execOp a.eval o).run P w=.ok (.value (.pointer (some ⟨w.heap.size,0,none⟩))) { w with heap:=w.heap.push (.cells v.cells t) }:=by
    simp [execOp,hop,Instr.box,newVar,hh.ev hx]
    rfl
   unfold OpGoes;rw [this]
   exact ⟨like_push _ _,hk _ _ ⟨rfl,t,by rw [cells_array]⟩⟩
  ·
   rename_i t len parts hop
   split at hc
   ·rename_i el hu
    split at hc
    ·rename_i n z hn hz
     split at hc
     ·rename_i hle
      cases hc
      obtain ⟨cs,hf,hk⟩:=withParts_elim (place:=fun i=>some (i * (n+1),n+1)) (l:=parts.toList) hv hh (partsA_spec _ _) (fun p _=>rfl)
      obtain ⟨zv,hzv,hzr⟩:=run_zeroT hz
      have hz2:zv.cells=z.toArray:=by rw [← hzv];simp [cl]
      have hpa:(parts.map fun (x:Nat×Operand)=>(x.1,a.eval x.2)).toList=parts.toList.map fun p=>(p.1,a.eval p.2):=by simp
      have hzz:=zeroCells_zeros z (by omega) len
      rw [hle.2] at hzz
      have:(execOp a.eval o).run P w=.ok (.value (.slice (some ⟨w.heap.size,0,none⟩) len len)) { w with heap:=w.heap.push (.cells cs.toArray el) }:=by
       have hn':¬ (len * (n+1) > 2 ^ 24):=by omega
       have hn2:n.succ=n+1:=rfl
       simp only [execOp,hop,Sem.run_bind,Instr.buildSlice,run_underlying hu,Result.andThen,run_sizeT hn,hn2]
       rw [if_neg hn']
       by_cases h0:len * (n+1)=0
       ·have hl0:len=0:=by
         rcases Nat.mul_eq_zero.1 h0 with h | h
         ·exact h
         ·omega
        subst hl0
        simp only [zeros] at hf
        rw [if_pos h0]
        simp only [Sem.run_bind,Sem.run_pure,Result.andThen,hpa,Nat.zero_mul]
        rw [range0_map,hf]
        rfl
       ·rw [if_neg h0]
        simp only [Sem.run_bind,hzr,Sem.run_pure,Result.andThen,hpa,hz2]
        rw [show z.toArray.size=n+1 from by simp [hle.2],hzz,hf]
        rfl
      unfold OpGoes;rw [this]
      exact ⟨like_push _ _,hk _ _ ⟨rfl,_,rfl⟩⟩
     ·cases hc
    ·cases hc
   ·cases hc
  ·
   rename_i t l c hop
   split at hc
   ·rename_i el hu
    split at hc
    ·rename_i i hi
     split at hc
     ·rename_i z hz
      split at hc
      ·rename_i hcond
       cases hc
       obtain ⟨kl,ln,hl,hk⟩:=withI_elim hv
       obtain ⟨kc,cn,hcp,⟨h0,h1,h2,h3⟩,hk⟩:=withI_elim hk
       have hwl:IntKind.i64.wrap ln=ln:=by rw [IntKind.wrap_i64];omega
       have hwc:IntKind.i64.wrap cn=cn:=by rw [IntKind.wrap_i64];omega
       have hb0:(0:Int)≤i.bytes * ln:=Int.mul_nonneg (by omega) h0
       have hbl:(i.bytes:Int) * ln≤i.bytes * cn:=Int.mul_le_mul_of_nonneg_left h1 (by omega)
       have hroom:(askRoom (cn.toNat * i.bytes)).run P w=.ok () w:=by unfold askRoom;split <;> rfl
       have hzz:=zeroCells_zeros (cl z) (by omega) cn.toNat
       rw [hcond.1] at hzz
       have:(execOp a.eval o).run P w=.ok (.value (.slice (some ⟨w.heap.size,0,none⟩) ln.toNat cn.toNat)) { w with heap:=w.heap.push (.cells (zeros (cl z) cn.toNat).toArray el) }:=by
        have hsz:∀ w,(sizeOf el).run P w=.ok i.size w:=fun w=>by simp [sizeOf,typeInfo,program,Sem.run,hi]
        have hti:∀ w,(typeInfo el).run P w=.ok i w:=fun w=>by simp [typeInfo,program,Sem.run,hi]
        have hzv:∀ w,(zeroValue el).run P w=.ok z w:=fun w=>by simp [zeroValue,typeInfo,program,Sem.run,hi,hz]
        have hc1:((decide (cn<0)||decide ((i.bytes:Int) * cn > 2 ^ 48))||decide (ln<0)||decide (ln > cn))=true→False:=by
         simp;omega
        simp only [execOp,hop,Sem.run_bind,Instr.makeSlice,run_underlying hu,Result.andThen,hh.ev hl,hh.ev hcp,asInt,asIntOf,hti,Sem.run_pure,Sem.run_map]
        rw [hwl,hwc]
        rw [if_neg (fun h=>hc1 (by simpa using h))]
        simp only [Sem.run_bind,hroom,Result.andThen,hsz]
        by_cases h0:cn.toNat * i.size=0
        ·have hl0:cn.toNat=0:=by
          rcases Nat.mul_eq_zero.1 h0 with h | h
          ·exact h
          ·omega
         rw [if_pos h0,hl0]
         simp only [Sem.run_bind,Sem.run_pure,Result.andThen,Nat.zero_mul,zeros]
         rw [range0_map]
         rfl
        ·rw [if_neg h0]
         simp only [Sem.run_bind,hzv,Sem.run_pure,Result.andThen,cells_array]
         rw [show (cl z).toArray.size=i.size from by simp [hcond.1],hzz]
         rfl
       unfold OpGoes;rw [this]
       exact ⟨like_push _ _,hk _ _ ⟨rfl,_,rfl⟩⟩
      ·cases hc
     ·cases hc
    ·cases hc
   ·cases hc
  ·
   rename_i t x v hop
   simp only [Option.map_eq_some_iff] at hc
   obtain ⟨n,hn,rfl⟩:=hc
   obtain ⟨b,off,hx,hk⟩:=withP_elim hv
   obtain ⟨u,hu,⟨hlen,hone⟩,hwr,hk⟩:=withV_elim hk
   obtain ⟨w',hr,hhp,hlk⟩:=run_puts (P:=P) (cl u) 0 w b off (by rw [hlen];exact hwr) hone
   have:(execOp a.eval o).run P w=.ok .skip w':=by
    have hs:¬ (u.cells.size≠n):=by simp [← hlen,cl]
    have hr':(storeCells ⟨b,off,none⟩ u.cells.toList).run P w=.ok () w':=hr
    simp [execOp,hop,hh.ev hx,hh.ev hu,Instr.storeAt,Instr.sureAddr,storeVar,run_sizeT hn,hs,hr']
   unfold OpGoes;rw [this]
   exact ⟨hlk,hk _ ⟨hhp⟩⟩
  ·
   rename_i t hop
   cases hc
   have:(execOp a.eval o).run P w=.ok (.value (.map (some w.heap.size))) { w with heap:=w.heap.push (mapObj []) }:=by
    simp only [execOp,hop,Sem.run_bind,Instr.makeMap,Option.map_none,Sem.run_pure,Result.andThen,run_newO]
    rfl
   unfold OpGoes;rw [this]
   exact ⟨like_push _ _,hv _ _ ⟨rfl,rfl⟩⟩
  ·
   rename_i t x i ok hop
   simp only [Option.map_eq_some_iff] at hc
   obtain ⟨z,hz,rfl⟩:=hc
   obtain ⟨kt,el,kd,hu,hk,hzr⟩:=mapT_spec hz
   obtain ⟨r,hx,hv⟩:=withMp_elim hv
   obtain ⟨k,n,hi,rfl,m,hm,hv⟩:=withI_elim hv
   have h1:=run_getO (P:=P) hm (by intro c t f h;cases h)
   have:(execOp a.eval o).run P w=.ok (.value (if ok then .tuple #[mget z m n,.bool (mhas m n)] else mget z m n)) w:=by
    simp only [execOp,hop,Sem.run_bind,Instr.lookup,hh.ev hx,hh.ev hi,run_underlying hu,h1,Result.andThen,mapObj,Sem.run_pure,run_checkKeyI hk,run_findKeyI hk]
    unfold mget mhas
    cases hf:mfind m n with
    | none=>cases ok <;> simp [hzr]
    | some p=>cases ok <;> simp
   unfold OpGoes;rw [this]
   exact ⟨.refl _ _,hv⟩
  ·
   rename_i t x k v hop
   simp only [Option.map_eq_some_iff] at hc
   obtain ⟨z,hz,rfl⟩:=hc
   exact mapset (by simp only [execOp,hop]) hz hv
  ·
   rename_i t x k v hop
   simp only [Option.map_eq_some_iff] at hc
   obtain ⟨z,hz,rfl⟩:=hc
   exact mapset (by simp only [execOp,hop]) hz hv
  ·
   rename_i t x k hop
   simp only [Option.map_eq_some_iff] at hc
   obtain ⟨z,hz,rfl⟩:=hc
   obtain ⟨kt,el,kd,hu,hk,hzr⟩:=mapT_spec hz
   obtain ⟨r,hx,hv⟩:=withMp_elim hv
   obtain ⟨kk,n,hi,rfl,m,hm,hv1,hv2⟩:=withI_elim hv
   have hnc:∀ c t f,mapObj m≠.cells c t f:=by intro c t f h;cases h
   have h1:=run_getO (P:=P) hm hnc
   cases hf:mfind m n with
   | some p =>
    obtain ⟨i,v⟩:=p
    have hs:=run_setO (P:=P) (o':=mapObj m) hm hnc
    rw [hobj_same hm] at hs
    have he:(mapEs 0 m)[i]?=some ⟨.int .i64 n,v,i⟩:=by rw [mapEs_get,mfind_spec hf];simp
    have he2:(mapEs 0 m).toArray.modify i (fun e=>{ e with key:=.int .i64 n })=(mapEs 0 m).toArray:=by
     rw [mset_es m i v _ (fun p hp j=>by rw [mfind_spec hf] at hp;cases hp;rfl),mset_same (mfind_spec hf)]
    have:(execOp a.eval o).run P w=.ok (.value (.tuple #[v,.int .i64 (i:Nat)])) w:=by
     have hs':(setObj r (.map (mapEs 0 m).toArray m.length)).run P w=.ok () w:=hs
     simp only [execOp,hop,Sem.run_bind,Instr.mapEntry,hh.ev hx,hh.ev hi,run_underlying hu,h1,Result.andThen,mapObj,Sem.run_pure,run_checkKeyI hk,run_findKeyI hk,hf,List.getElem?_toArray,he,Option.map_some,Option.getD_some,run_stays,he2,hs',goInt]
    unfold OpGoes;rw [this]
    exact ⟨.refl _ _,hv1 i v hf⟩
   | none =>
    have hs:=run_setO (P:=P) (o':=mapObj (m++[(n,z)])) hm hnc
    have:(execOp a.eval o).run P w=.ok (.value (.tuple #[z,.int .i64 (m.length:Nat)])) { w with heap:=hobj w.heap r (mapObj (m++[(n,z)])) }:=by
     have e1:Obj.map ((mapEs 0 m).toArray.push ⟨.int .i64 n,z,m.length⟩) (m.length+1)=mapObj (m++[(n,z)]):=by
      rw [push_es];simp [mapObj]
     simp only [execOp,hop,Sem.run_bind,Instr.mapEntry,hh.ev hx,hh.ev hi,run_underlying hu,h1,Result.andThen,mapObj,Sem.run_pure,run_checkKeyI hk,run_findKeyI hk,hf,hzr]
     rw [e1,hs]
     rfl
    unfold OpGoes;rw [this]
    exact ⟨like_setO w hm (by intro x h;cases h) (by intro x h;cases h),hv2 hf _ ⟨rfl⟩⟩
  ·
   rename_i t x s v hop
   cases hc
   obtain ⟨r,hx,hv⟩:=withMp_elim hv
   obtain ⟨kk,i,hi,hv⟩:=withI_elim hv
   obtain ⟨u,hu,rfl,m,hm,⟨hi0,hi1,hi2⟩,hv⟩:=withV_elim hv
   have hnc:∀ c t f,mapObj m≠.cells c t f:=by intro c t f h;cases h
   have h1:=run_getO (P:=P) hm hnc
   have hs:=run_setO (P:=P) (o':=mapObj (mset m i.toNat u)) hm hnc
   have hfi:(mapEs 0 m).toArray.findIdx? (fun e=>(e.born:Int)==i)=some i.toNat:=by
    rw [List.findIdx?_toArray,List.findIdx?_eq_some_iff_getElem]
    have hl:i.toNat<(mapEs 0 m).length:=by rw [mapEs_length];omega
    have hg:∀ (j:Nat) (hj:j<(mapEs 0 m).length),((mapEs 0 m)[j]).born=j:=by
     intro j hj
     have hj':j<m.length:=by rwa [mapEs_length] at hj
     have h3:=mapEs_get m 0 j
     rw [List.getElem?_eq_getElem hj,List.getElem?_eq_getElem hj'] at h3
     simp only [Option.map_some,Option.some.injEq] at h3
     rw [h3];simp
    refine ⟨hl,?_,fun j hj=>?_⟩
    ·rw [hg];simp;omega
    ·rw [hg];simp;omega
   have hw:IntKind.i64.wrap i=i:=by rw [IntKind.wrap_i64];omega
   have e1:(mapEs 0 m).toArray.modify i.toNat (fun e=>{ e with val:=u })=(mapEs 0 (mset m i.toNat u)).toArray:=mset_es m i.toNat u _ (fun p hp j=>rfl)
   have e2:Obj.map (mapEs 0 (mset m i.toNat u)).toArray m.length=mapObj (mset m i.toNat u):=by simp [mapObj,length_mset]
   have:(execOp a.eval o).run P w=.ok .skip { w with heap:=hobj w.heap r (mapObj (mset m i.toNat u)) }:=by
    simp only [execOp,hop,Sem.run_bind,Instr.entryStore,hh.ev hx,hh.ev hi,hh.ev hu,h1,Result.andThen,mapObj,asInt,asIntOf,Sem.run_pure,Sem.run_map,hw,hfi,e1]
    rw [e2,hs]
    rfl
   unfold OpGoes;rw [this]
   exact ⟨like_setO w hm (by intro x h;cases h) (by intro x h;cases h),hv _ ⟨rfl⟩⟩
  ·
   rename_i t x hop
   simp only [Option.map_eq_some_iff] at hc
   obtain ⟨z,hz,rfl⟩:=hc
   obtain ⟨kt,el,kd,hu,hk,hzr⟩:=mapT_spec hz
   obtain ⟨r,hx,m,hm,hv⟩:=withMp_elim hv
   have h1:=run_getO (P:=P) hm (by intro c t f h;cases h)
   have:(execOp a.eval o).run P w=.ok (.value (.pointer (some ⟨w.heap.size,0,none⟩))) { w with heap:=w.heap.push (iterObj r m.length []) }:=by
    simp only [execOp,hop,Sem.run_bind,Instr.range,hh.ev hx,run_underlying hu,h1,Result.andThen,mapObj,Sem.run_pure,run_newO]
    rfl
   unfold OpGoes;rw [this]
   exact ⟨like_push _ _,hv _ _ ⟨rfl,rfl⟩⟩
  ·
   rename_i x hop
   cases hc
   obtain ⟨b,off,hx,rfl,r,m,seen,hb,hm,hv1,hv2⟩:=withP_elim hv
   rcases iter_next (P:=P) hb hm o.type with ⟨i,k,v,w',hmi,hns,hrun,hw',hlk⟩ | ⟨w',hall,hrun,hw',hlk⟩
   ·have:(execOp a.eval o).run P w=.ok (.value (.tuple #[.bool true,.int .i64 k,v])) w':=by
     simp only [execOp,hop,Sem.run_bind,hh.ev hx,hrun,Result.andThen,Sem.run_pure]
    unfold OpGoes;rw [this]
    exact ⟨hlk _,hv1 i k v hmi hns _ ⟨hw'⟩⟩
   ·have:(execOp a.eval o).run P w=.ok (.value (.tuple #[.bool false])) w':=by
     simp only [execOp,hop,Sem.run_bind,hh.ev hx,hrun,Result.andThen,Sem.run_pure]
    unfold OpGoes;rw [this]
    exact ⟨hlk _,by rw [hw'];exact hv2 hall⟩
  ·
   rename_i x hop
   cases hc
   obtain ⟨b,off,hx,rfl,r,m,seen,i,k,v,hb,hm,hmi,hv⟩:=withP_elim hv
   have h1:=run_getO (P:=P) hb (by intro c t f h;cases h)
   have h2:=run_getO (P:=P) hm (by intro c t f h;cases h)
   have hfd:(mapEs 0 m).toArray.find? (fun e=>e.born==i)=some ⟨.int .i64 k,v,i⟩:=by
    rw [List.find?_toArray,List.find?_eq_some_iff_getElem]
    have hi:=(List.getElem?_eq_some_iff.1 hmi).1
    have hl:i<(mapEs 0 m).length:=by rw [mapEs_length];exact hi
    have hg:∀ (j:Nat) (hj:j<(mapEs 0 m).length),((mapEs 0 m)[j]).born=j:=by
     intro j hj
     have hj':j<m.length:=by rwa [mapEs_length] at hj
     have h3:=mapEs_get m 0 j
     rw [List.getElem?_eq_getElem hj,List.getElem?_eq_getElem hj'] at h3
     simp only [Option.map_some,Option.some.injEq] at h3
     rw [h3];simp
    refine ⟨by simp,i,hl,?_,fun j hj=>?_⟩
    ·have h3:=mapEs_get m 0 i
     rw [List.getElem?_eq_getElem hl,hmi] at h3
     simpa using h3
    ·rw [hg];simp;omega
   have:(execOp a.eval o).run P w=.ok (.value (.tuple #[.int .i64 k,v])) w:=by
    simp only [execOp,hop,Sem.run_bind,Instr.entry,hh.ev hx,h1,h2,Result.andThen,iterObj,mapObj,Sem.run_pure]
    simp [h2,mapObj,hfd]
   unfold OpGoes;rw [this]
   exact ⟨.refl _ _,hv⟩
  ·
   rename_i c hop
   obtain ⟨callee,args,argTypes⟩:=c
   simp only at hc
   have enter:∀ (d:Deferred) (f:FuncId) (vs:Array Value),goodF P f=true→(resolve a.eval { callee,args,argTypes } o.type).run P w=.ok d w→(invoke d.target d.args=callFunc f vs) →
     (∀ w1,w1.heap=w.heap→Calls P f vs w1 fun e w''=>∃ v,e=.returned v∧(K v w''.heap)∧Like none w1 w'')→OpGoes P o a w fun v w'=>Like y w w'∧K v w'.heap:=by
    intro d f vs hg hres hinv hcall
    unfold goodF at hg
    split at hg
    ·rename_i fn hfn
     simp only [Bool.and_eq_true,bne_iff_ne,ne_eq] at hg
     have hbn:¬ fn.body=none:=by intro hb;rw [hb] at hg;exact absurd hg.2 (by simp)
     have hnm : ¬ fn.name = "runtime.NumGoroutine" := hg.1
     have hrun:(execOp a.eval o).run P w=.ok (.enter f vs) w:=by
      simp only [execOp,hop,Sem.run_bind,hres,Result.andThen,hinv]
      simp [callFunc,program,Sem.run,hfn,hnm,hbn]
     unfold OpGoes;rw [hrun]
     exact (hcall w rfl).mono fun e w'' ⟨v,h1,h2,h3⟩=>⟨v,h1,h3.any,h2⟩
    ·cases hg
   split at hc
   ·cases hc
    rename_i f
    obtain ⟨vs,hvs,hk⟩:=withL_elim hv
    have hargs:args.map a.eval=vs.toArray:=by rw [← evs hh hvs,← Array.toList_map,Array.toArray_toList]
    refine enter { target:=.fn (.func f) #[],args:=vs.toArray } f vs.toArray hk.1 ?_ ?_ hk.2
    ·simp [resolve,hargs,Act.eval,Deferred.ofValue]
    ·simp [invoke]
   ·rename_i x hx0
    cases hc
    obtain ⟨fv,hx,hk⟩:=withV_elim hv
    obtain ⟨vs,hvs,hk⟩:=withL_elim hk
    have hargs:args.map a.eval=vs.toArray:=by rw [← evs hh hvs,← Array.toList_map,Array.toArray_toList]
    split at hk
    ·rename_i f first captured hkk
     refine enter { target:=.fn (.func f) captured,args:=first++vs.toArray } f (first++vs.toArray++captured) hk.1 ?_ ?_ hk.2
     ·simp [resolve,hargs,hh.ev hx,Deferred.ofValue]
     ·simp [invoke]
    ·rename_i l first captured hkk
     obtain ⟨rfl,hk⟩:=hk
     obtain ⟨fn,tmps,assign,body,h1,h2⟩:=hk w rfl
     have hrun:(execOp a.eval o).run P w=.ok (.round l fn tmps assign body) w:=by
      simp [execOp,hop,resolve,hargs,hh.ev hx,Deferred.ofValue,invoke,h1]
     unfold OpGoes;rw [hrun]
     exact h2.mono fun e w'' ⟨v,h1,h2,h3⟩=>⟨v,h1,h3,h2⟩
    ·exact hk.elim
   ·(repeat' split at hc) <;> cases hc;exact absurd rfl hq
   ·(repeat' split at hc) <;> cases hc;exact absurd rfl hq
   ·
    split at hc
    ·rename_i x t hargs htys
     simp only [Option.map_eq_some_iff] at hc
     obtain ⟨z,hz,rfl⟩:=hc
     obtain ⟨kt,el,kd,hu,hk,hzr⟩:=mapT_spec hz
     obtain ⟨r,hx,m,hm,rfl,hv⟩:=withMp_elim hv
     have hnc:∀ c t f,mapObj []≠.cells c t f:=by intro c t f h;cases h
     have h1:=run_getO (P:=P) hm hnc
     have hs:=run_setO (P:=P) (o':=mapObj []) hm hnc
     rw [hobj_same hm] at hs
     have ha:args = #[x]:=by rw [← Array.toArray_toList (xs:=args),hargs]
     subst ha
     have ht0:argTypes[0]?=some t:=htys
     have:(execOp a.eval o).run P w=.ok (.value (.tuple #[])) w:=by
      have hs':(setObj r (.map #[] 0)).run P w=.ok () w:=hs
      have h1':(getObj r).run P w=.ok (.map #[] 0) w:=h1
      simp [execOp,hop,resolve,invoke,builtin,hh.ev hx,Builtin.clear_,ht0,run_underlying hu,h1',hs']
     unfold OpGoes;rw [this]
     exact ⟨.refl _ _,hv⟩
    ·cases hc
   ·(repeat' split at hc) <;> cases hc;exact absurd rfl hq
   ·(repeat' split at hc) <;> cases hc;exact absurd rfl hq
   ·
    split at hc
    ·rename_i s x st xt hargs htys
     split at hc
     ·rename_i el el' hst hxt
      split at hc
      ·rename_i i hi
       split at hc
       ·rename_i z hz
        split at hc
        ·rename_i hcond
         cases hc
         obtain ⟨ad,n,c,hs,hk⟩:=withS_elim hv
         obtain ⟨ad',m,mc,hx,hk⟩:=withS_elim hk
         have ha:args = #[s,x]:=by rw [← Array.toArray_toList (xs:=args),hargs]
         have ht:argTypes = #[st,xt]:=by rw [← Array.toArray_toList (xs:=argTypes),htys]
         subst ha ht
         have fin:∀ new,((m=0∧new=[])∨∃ b o,ad'=some ⟨b,o,none⟩∧new.length=m * i.size∧∀ j v,new[j]?=some v→hcell w.heap b (o+j)=some v)→new.all Value.oneCell'=true →
           appB i.size i.bytes (cl z) w.heap ad n c new m K→OpGoes P o a w fun v w'=>Like y w w'∧K v w'.heap:=by
          intro new h1 h2 h3
          obtain ⟨v,w',hr,hl,hk⟩:=run_append hst hxt hi hz hcond.1 hcond.2.1 hcond.2.2 o.type ad n c ad' m mc new w h1 h2 h3
          have hrun:(execOp a.eval o).run P w=.ok (.value v) w':=by
           simp [execOp,hop,resolve,invoke,builtin,hh.ev hs,hh.ev hx,hr]
          unfold OpGoes;rw [hrun]
          exact ⟨hl,hk⟩
         by_cases hm0:m=0
         ·exact fin [] (.inl ⟨hm0,rfl⟩) rfl (hk.1 hm0)
         ·obtain ⟨b',o',had,hk2⟩:=withAd_elim (hk.2 hm0)
          obtain ⟨new,hnl,hnc,hone,hk3⟩:=withC_elim hk2
          exact fin new (.inr ⟨b',o',had,hnl,hnc⟩) hone hk3
        ·cases hc
       ·cases hc
      ·cases hc
     ·rename_i el kd hst hxt
      split at hc
      ·rename_i i hi
       split at hc
       ·rename_i z hz
        split at hc
        ·rename_i hcond
         cases hc
         obtain ⟨ad,n,c,hs,hk⟩:=withS_elim hv
         obtain ⟨k,m,hx,⟨rfl,rfl,rfl,rfl,hm0,hm1,hm2⟩,hk⟩:=withI_elim hk
         have ha:args = #[s,x]:=by rw [← Array.toArray_toList (xs:=args),hargs]
         have ht:argTypes = #[st,xt]:=by rw [← Array.toArray_toList (xs:=argTypes),htys]
         subst ha ht
         obtain ⟨m',rfl⟩:=Int.eq_ofNat_of_zero_le (Int.le_of_lt hm0)
         rw [Int.toNat_natCast] at hk
         have hm2':m' * 2 * i.bytes≤281474976710656:=by
          have:((m' * 2 * i.bytes:Nat):Int)=(m':Int) * 2 * i.bytes:=by simp
          omega
         obtain ⟨v,w',hr,hl,hk⟩:=run_appendN (y:=y) hst hxt hi hz hcond.1 hcond.2.1 hcond.2.2 o.type m' (by omega) hm1 hm2' w hk
         have hrun:(execOp a.eval o).run P w=.ok (.value v) w':=by
          simp [execOp,hop,resolve,invoke,builtin,hh.ev hs,hh.ev hx,hr]
         unfold OpGoes;rw [hrun]
         exact ⟨hl,hk⟩
        ·cases hc
       ·cases hc
      ·cases hc
     ·cases hc
    ·cases hc
   ·cases hc
  ·cases hc;exact hv.elim
  ·cases hc;exact hv.elim
  ·cases hc
end Go.Vc
namespace Go.Vc
open Go
def fw (ro:Option Nat):Fence:={ fn:=fun _=>True,depth:=none,alive:=false,round:=ro }
theorem fw_none:fw none=Fence.wide:=rfl
theorem room_fw (ro:Option Nat) (n:Nat):(fw ro).room n:=fun _ h=>by simp [fw] at h
theorem callsIn_fw {ro:Option Nat} {n:Nat} {P:Program} {f:FuncId} {args:Array Value} {w:World} {R:Ending→World→Prop} (h:Calls P f args w R):CallsIn (fw ro) n P f args w R:=
 ⟨trivial,fun cs _=>((callsIn_wide (n:=n)).2 h).2 cs (room_wide _)⟩
theorem roundIn_fw {ro:Option Nat} {n m:Nat} {P:Program} {l:Nat} {fn:FuncId} {tmps:Array Value} {assign body:Code} {w:World} {R:Ending→World→Prop}
  (h:RoundIn Fence.wide m P l fn tmps assign body w R):RoundIn (fw ro) n P l fn tmps assign body w R:=
 ⟨trivial,fun c cs _=>h.2 c cs (room_wide _)⟩
theorem OpGoes.wpIn {P:Program} {o:Oper} {a:Act} {w:World} {K:Value→World→Prop} (h:OpGoes P o a w K) (hd:∀ c,o.op≠.defer c) {ro:Option Nat} {n:Nat} {next:Act→World→Prop} {Q:Exit→Act→World→Prop}
  (hn:∀ v w',K v w'→next (a.put o.dst v) w'):o.wpIn (fw ro) n P a w next Q:=by
 refine ⟨fun _ _=>trivial,?_⟩
 rw [Oper.semAt_eq _ _ _ hd]
 unfold OpGoes at h
 generalize (execOp a.eval o).run P w=r at *
 cases r with
 | halt x w'=>exact h.elim
 | ok x w' =>
  cases x <;> simp only at h <;> simp only [Oper.uponIn]
  case value v=>exact hn _ _ h
  case skip=>exact hn _ _ h
  case enter f args =>
   refine ⟨fun hs=>by simp [fw] at hs,(callsIn_fw h).mono ?_⟩
   rintro e w'' ⟨v,rfl,hk⟩
   exact hn _ _ hk
  case round l fn tmps assign body =>
   refine ⟨fun hs=>by simp [fw] at hs,(roundIn_fw h).mono ?_⟩
   rintro e w'' ⟨v,rfl,hk⟩
   exact hn _ _ hk
theorem compile_noDefer {P:Program} {o:Oper} {g:GOp} (h:compileOp P o=some g):∀ c,o.op≠.defer c:=by
 intro c hc;unfold compileOp at h;rw [hc] at h;cases h
theorem compile_noSelect {P:Program} {o:Oper} {g:GOp} (h:compileOp P o=some g):∀ cs b,o.op≠.select cs b:=by
 intro cs b hc;unfold compileOp at h;rw [hc] at h;cases h
structure GI where
 idx:Nat
 dst:Option Nat
 guard:Option (Nat×Bool)
 op:GOp
 chk:List Nat:=[]
 w:Bool:=false
structure FI where
 g:GI
 pre:List (Nat×Nat)
inductive GR where
 | done
 | op (i:GI) (rest:GR)
 | two (a b:GR)
 | free (D:List Nat) (l:List FI) (r:GR)
abbrev Watch:=List (Nat×List (Nat×Nat×Value))
def allAt (rs:List (Nat×Nat×Value)) (h:Heap):Prop:=
 match rs with
 | []=>True
 | (b,o,v) :: rs=>hcell h b o=some v∧allAt rs h
def wfind:Watch→Nat→List (Nat×Nat×Value)
 | [],_=>[]
 | (k,rs) :: W,j=>if k=j then rs else wfind W j
def chkW (l:List Nat) (W:Watch) (h:Heap) (K:Prop):Prop:=
 match l with
 | []=>K
 | j :: l=>Chk (allAt (wfind W j) h) (chkW l W h K)
def withG (x:Option Value) (want:Bool) (A B:Prop) (_:Dep A:=.mk) (_:Dep B:=.mk):Prop:=
 match x with
 | some (.bool b)=>If (b=want) A B
 | some (.tuple _)=>B
 | _=>False
theorem withG_bool (b want:Bool) (A B:Prop) (d:Dep A) (d':Dep B):withG (some (.bool b)) want A B d d'=If (b=want) A B:=(rfl)
theorem withG_undef (want:Bool) (A B:Prop) (d:Dep A) (d':Dep B):withG (some undef) want A B d d'=B:=(rfl)
theorem withG_tuple (cs:Array Value) (want:Bool) (A B:Prop) (d:Dep A) (d':Dep B):withG (some (.tuple cs)) want A B d d'=B:=(rfl)
def guarded (gd:Option (Nat×Bool)) (e:Env) (A B:Prop):Prop:=
 match gd with
 | none=>A
 | some (s,want)=>withG (find e s) want A B
def memN (k:Nat):List Nat→Bool
 | []=>false
 | d :: D=>if k=d then true else memN k D
def drp (D:List Nat) (e:Env):Env:=
 match e with
 | []=>[]
 | (k,v) :: e=>if memN k D=true then drp D e else (k,v) :: drp D e
abbrev Out:=Value×Nat×Nat
abbrev Tell:=List Out→Heap→Prop
abbrev Tells:=List (Nat×List Nat×Tell)
def updV (V:Nat→Out) (i:Nat) (v:Out) (k:Nat):Out:=if k=i then v else V k
def namesOf (A:Tells) (i:Nat):List Nat:=
 match A with
 | []=>[]
 | (k,ds,_) :: A=>if k=i then ds else namesOf A i
def tells (A:Tells) (i:Nat) (V:Nat→Out) (h:Heap):Prop:=
 match A with
 | []=>True
 | (k,ds,p) :: A=>if k=i then p (ds.map V) h else tells A i V h
def Stab (p:Tell):Prop:=∀ vs h h',Fr 0 0 h h'→p vs h→p vs h'
def StabL (A:Tells):Prop:=
 match A with
 | []=>True
 | (_,_,p) :: A=>Stab p∧StabL A
def namesOk (A:Tells) (l:List FI):Bool:=l.all fun f=>(namesOf A f.g.idx).all fun k=>Nat.beq k f.g.idx||f.pre.any fun p=>Nat.beq k p.1||memN k (namesOf A p.1)
def withPre (A:Tells) (V:Nat→Out) (h:Heap) (pre:List (Nat×Nat)) (e:Env) (K:Env→Prop) (d:Dep K:=.mk):Prop:=
 match pre with
 | []=>K e
 | (j,s) :: pre=>tells A j V h→withPre A V h pre ((s,(V j).1) :: e) K d
def freeOps (P:Program) (y:Option Nat) (A:Tells) (D:List Nat) (h0:Heap) (e:Env):List FI→Prop
 | []=>True
 | i :: l=>(∀ h,Fr 0 0 h0 h→∀ V,withPre A V h i.pre (drp D e) fun e=>guarded i.g.guard e (gvc P y i.g.op e h fun v h'=>Fr 0 0 h h'∧tells A i.g.idx (updV V i.g.idx (v,h.size,h'.size)) h') (tells A i.g.idx (updV V i.g.idx (undef,h.size,h.size)) h))∧freeOps P y A D h0 e l
def freeEnd (A:Tells) (V:Nat→Out) (h:Heap):List FI→Env→(Env→Prop)→Prop
 | [],e,K=>K e
 | i :: l,e,K=>match i.g.dst with
  | some d=>tells A i.g.idx V h→freeEnd A V h l ((d,(V i.g.idx).1) :: e) K
  | none=>tells A i.g.idx V h→freeEnd A V h l e K
def Sep (V:Nat→Out) (lo hi:Nat) (l:List FI):Prop:=
 (∀ i∈l,lo≤(V i.g.idx).2.1∧(V i.g.idx).2.1≤(V i.g.idx).2.2∧(V i.g.idx).2.2≤hi)∧∀ i∈l,∀ j∈l,i.g.idx≠j.g.idx→(V i.g.idx).2.2≤(V j.g.idx).2.1∨(V j.g.idx).2.2≤(V i.g.idx).2.1
def freeVC (P:Program) (y:Option Nat) (D:List Nat) (l:List FI) (e:Env) (h:Heap) (K:Env→Heap→Prop) (_:Dep K:=.mk):Prop:=
 ∃ A,StabL A∧namesOk A l=true∧freeOps P y A D h e l∧∀ h',Fr 0 0 h h'→∀ V,Sep V h.size h'.size l→freeEnd A V h' l (drp D e) fun e'=>K e' h'
def tell1 (q:Value→Nat→Nat→Heap→Prop):Tell
 | [u],h=>q u.1 u.2.1 u.2.2 h
 | _,_=>False
theorem tell1_eq (q:Value→Nat→Nat→Heap→Prop) (u:Out) (h:Heap):tell1 q [u] h=q u.1 u.2.1 u.2.2 h:=(rfl)
theorem Stab.one {q:Value→Nat→Nat→Heap→Prop} (s:∀ v a b h h',Fr 0 0 h h'→q v a b h→q v a b h'):Stab (tell1 q):=by
 intro vs h h' f x
 match vs,x with
 | [u],x=>exact s u.1 u.2.1 u.2.2 h h' f x
theorem StabL.at_ {A:Tells} (s:StabL A) (i:Nat) {V:Nat→Out} {h h':Heap} (f:Fr 0 0 h h') (x:tells A i V h):tells A i V h':=by
 induction A with
 | nil=>trivial
 | cons p A ih =>
  obtain ⟨k,ds,p⟩:=p
  simp only [tells] at x ⊢
  split
  ·rename_i hk;rw [if_pos hk] at x;exact s.1 _ _ _ f x
  ·rename_i hk;rw [if_neg hk] at x;exact ih s.2 x
theorem tells_congr {A:Tells} {i:Nat} {V V':Nat→Out} {h:Heap} (hv:∀ k∈namesOf A i,V k=V' k) (x:tells A i V h):tells A i V' h:=by
 induction A with
 | nil=>trivial
 | cons p A ih =>
  obtain ⟨k,ds,p⟩:=p
  simp only [tells,namesOf] at x hv ⊢
  split
  ·rename_i hk
   rw [if_pos hk] at x hv
   rw [← List.map_congr_left hv];exact x
  ·rename_i hk
   rw [if_neg hk] at x hv
   exact ih hv x
theorem freeOps_at {P:Program} {y:Option Nat} {A:Tells} {D:List Nat} {h0:Heap} {e:Env} {l:List FI} (h:freeOps P y A D h0 e l) {i:FI} (hi:i∈l) :
  ∀ h,Fr 0 0 h0 h→∀ V,withPre A V h i.pre (drp D e) fun e=>guarded i.g.guard e (gvc P y i.g.op e h fun v h'=>Fr 0 0 h h'∧tells A i.g.idx (updV V i.g.idx (v,h.size,h'.size)) h') (tells A i.g.idx (updV V i.g.idx (undef,h.size,h.size)) h):=by
 induction l with
 | nil=>cases hi
 | cons j l ih =>
  rcases List.mem_cons.1 hi with rfl | hi
  ·exact h.1
  ·exact ih h.2 hi
theorem freeEnd_mono {A:Tells} {V:Nat→Out} {h:Heap} {l:List FI} {e:Env} {K K':Env→Prop} (hk:∀ e,K e→K' e) (hq:freeEnd A V h l e K):freeEnd A V h l e K':=by
 induction l generalizing e with
 | nil=>exact hk _ hq
 | cons i l ih =>
  simp only [freeEnd] at hq ⊢
  cases hd:i.g.dst with
  | some d=>rw [hd] at hq;exact fun hv=>ih (hq hv)
  | none=>rw [hd] at hq;exact fun hv=>ih (hq hv)
theorem find_drp {D:List Nat} {e:Env} {t:Nat} {v:Value} (h:find (drp D e) t=some v):find e t=some v∧memN t D=false:=by
 induction e with
 | nil=>simp [drp,find] at h
 | cons p e ih =>
  obtain ⟨k,u⟩:=p
  unfold drp at h
  split at h
  ·rename_i hm
   obtain ⟨h1,h2⟩:=ih h
   have:¬ k=t:=fun e=>by rw [e,h2] at hm;cases hm
   exact ⟨by simp only [find];rw [if_neg this];exact h1,h2⟩
  ·rename_i hm
   simp only [find] at h ⊢
   split at h
   ·rename_i hk;subst hk;exact ⟨by simpa using h,by simpa using hm⟩
   ·rename_i hk;rw [if_neg hk];exact ih h
theorem memN_iff {k:Nat} {D:List Nat}:memN k D=true↔k∈D:=by
 induction D with
 | nil=>simp [memN]
 | cons d D ih=>simp only [memN,List.mem_cons];split <;> simp_all
theorem Holds.drp {N:Nat} {e:Env} {a:Act} (h:Holds N e a) (D:List Nat):Holds N (Vc.drp D e) a:=
 ⟨h.1,fun t v ht=>h.2 t v (find_drp ht).1⟩
theorem Holds.drp_put {N:Nat} {e:Env} {a:Act} {D:List Nat} (h:Holds N (Vc.drp D e) a) {dst:Option Nat} (hd:∀ d,dst=some d→d<N∧d∈D) (v:Value):Holds N (Vc.drp D e) (a.put dst v):=by
 cases dst with
 | none=>exact h
 | some d =>
  obtain ⟨hd,hm⟩:=hd d rfl
  refine ⟨by simp [Act.put,h.1],fun t u ht=>?_⟩
  have hne:d≠t:=fun e=>by
   have:=(find_drp ht).2
   rw [← e] at this
   rw [memN_iff.2 hm] at this;cases this
  have:=h.2 t u ht
  simp only [Act.put]
  simpa [Array.getElem?_setIfInBounds_ne hne] using this
theorem Holds.known {N:Nat} {e:Env} {a:Act} (h:Holds N e a) (d:Nat):Holds N ((d,a.tmps.getD d undef) :: e) a:=
 ⟨h.1,fun t v ht=>by
  simp only [find] at ht
  split at ht
  ·rename_i hk;subst hk;cases ht;rfl
  ·exact h.2 t v ht⟩
theorem withPre_at {A:Tells} {V:Nat→Out} {h:Heap} {N:Nat} {a:Act} {pre:List (Nat×Nat)} {e:Env} {K:Env→Prop} (hw:withPre A V h pre e K) (hh:Holds N e a) (hp:∀ p∈pre,tells A p.1 V h∧a.tmps.getD p.2 undef=(V p.1).1):∃ e',Holds N e' a∧K e':=by
 induction pre generalizing e with
 | nil=>exact ⟨e,hh,hw⟩
 | cons p pre ih =>
  obtain ⟨j,s⟩:=p
  have h1:=hp (j,s) (by simp)
  refine ih (hw h1.1) ?_ fun p hp'=>hp p (by simp [hp'])
  rw [← h1.2];exact hh.known s
theorem freeEnd_at {A:Tells} {V:Nat→Out} {h:Heap} {N:Nat} {a:Act} {l:List FI} {e:Env} {K:Env→Prop} (hw:freeEnd A V h l e K) (hh:Holds N e a) (hp:∀ i∈l,tells A i.g.idx V h∧∀ d,i.g.dst=some d→a.tmps.getD d undef=(V i.g.idx).1):∃ e',Holds N e' a∧K e':=by
 induction l generalizing e with
 | nil=>exact ⟨e,hh,hw⟩
 | cons i l ih =>
  have h1:=hp i (by simp)
  unfold freeEnd at hw
  split at hw
  ·rename_i d hd
   refine ih (hw h1.1) ?_ fun i hi=>hp i (by simp [hi])
   rw [← h1.2 d hd];exact hh.known d
  ·exact ih (hw h1.1) hh fun i hi=>hp i (by simp [hi])
def addW (i:GI) (W:Watch) (e:Env) (v:Value):Watch:=if i.w then (i.idx,reads i.op e v) :: W else W
def rvc (P:Program) (y:Option Nat):GR→Watch→Env→Heap→(Env→Heap→Prop)→Prop
 | .done,_,e,h,K=>K e h
 | .op i r,W,e,h,K=>guarded i.guard e
   (gvc P y i.op e h fun v h'=>chkW i.chk W h' (rvc P y r (addW i W e v) (eput e i.dst v) h' K))
   (rvc P y r W (eput e i.dst undef) h K)
 | .two a b,W,e,h,K=>rvc P y a W e h K∧rvc P y b W e h K
 | .free D l r,W,e,h,K=>freeVC P y D l e h fun e' h'=>rvc P y r W e' h' K
def guardOf (ops:Array Oper) (o:Oper):Option (Option (Nat×Bool)):=
 match o.guard with
 | none=>some none
 | some (j,want)=>match (ops[j]?).bind (·.dst) with
  | some s=>some (some (s,want))
  | none=>none
def mkGI (P:Program) (N:Nat) (ops:Array Oper) (i:Nat) (chk:List Nat) (w:Bool):Option GI:=
 match ops[i]? with
 | some o=>match compileOp P o,guardOf ops o,(match o.dst with | some d=>decide (d<N) | none=>true) with
  | some g,some gd,true=>some { idx:=i,dst:=o.dst,guard:=gd,op:=g,chk,w }
  | _,_,_=>none
 | none=>none
def lineR (P:Program) (N:Nat) (ops:Array Oper):List Nat→Option GR
 | []=>some .done
 | i :: l=>match mkGI P N ops i [] false,lineR P N ops l with
  | some g,some r=>some (.op g r)
  | _,_=>none
theorem mkGI_spec {P:Program} {N:Nat} {ops:Array Oper} {i:Nat} {chk:List Nat} {w:Bool} {g:GI} (h:mkGI P N ops i chk w=some g) :
  ∃ o,ops[i]?=some o∧compileOp P o=some g.op∧guardOf ops o=some g.guard∧(∀ d,o.dst=some d→d<N)∧g.dst=o.dst∧g.idx=i∧g.chk=chk∧g.w=w:=by
 unfold mkGI at h
 split at h
 ·rename_i o ho
  split at h
  ·rename_i g' gd hc hg hd
   cases h
   exact ⟨o,ho,hc,hg,fun d hd'=>by simpa [hd'] using hd,rfl,rfl,rfl,rfl⟩
  ·cases h
 ·cases h
theorem guard_sound {N:Nat} {ops:Array Oper} {o:Oper} {gd:Option (Nat×Bool)} (hg:guardOf ops o=some gd) {e:Env} {a:Act} (hh:Holds N e a) {A B:Prop} (h:guarded gd e A B) :
  (Region.wanted o (yielded ops a.tmps)=true∧A)∨(Region.wanted o (yielded ops a.tmps)=false∧B):=by
 unfold guardOf at hg
 unfold Region.wanted
 split at hg
 ·rename_i hn
  cases hg
  exact .inl ⟨by rw [hn],h⟩
 ·rename_i j want hs
  split at hg
  ·rename_i s hd
   cases hg
   rw [hs]
   show ((yielded ops a.tmps j==some want)=true∧A)∨((yielded ops a.tmps j==some want)=false∧B)
   unfold guarded withG at h
   simp only at h
   split at h
   ·rename_i b hv
    have hx:=hh.2 s _ hv
    have hy:yielded ops a.tmps j=some b:=by
     unfold yielded
     rw [hd]
     simp only [Option.bind_some]
     have:a.tmps[s]?=some (.bool b):=by
      cases ht:a.tmps[s]? with
      | none=>simp [ht,undef] at hx
      | some u=>simp [ht] at hx;rw [hx]
     rw [this]
    by_cases hbw:b=want
    ·exact .inl ⟨by rw [hy,hbw];simp,h.1 hbw⟩
    ·exact .inr ⟨by rw [hy];simpa using hbw,h.2 hbw⟩
   ·rename_i cs hv
    have hx:=hh.2 s _ hv
    refine .inr ⟨?_,h⟩
    have hy:yielded ops a.tmps j=none:=by
     unfold yielded
     rw [hd]
     simp only [Option.bind_some]
     cases ht:a.tmps[s]? with
     | none=>rfl
     | some u=>simp [ht] at hx;rw [hx]
    rw [hy];rfl
   ·exact h.elim
  ·cases hg
def After (y:Option Nat) (N:Nat) (w0:World) (a0:Act) (K:Env→Heap→Prop) (a:Act) (w:World):Prop:=
 ∃ e,Holds N e a∧a.defers=a0.defers∧Like y w0 w∧K e w.heap
theorem put_defers (a:Act) (d:Option Nat) (v:Value):(a.put d v).defers=a.defers:=by cases d <;> rfl
theorem line_sound {y:Option Nat} {P:Program} {N n:Nat} {ops:Array Oper} {ro:Option Nat} {Q:Exit→Act→World→Prop} {w0:World} {a0:Act} {K:Env→Heap→Prop} (hQ:∀ a w,After y N w0 a0 K a w→Q .normal a w) :
  ∀ (l:List Nat) (r:GR) (e:Env) (a:Act) (w:World),lineR P N ops l=some r→rvc P y r [] e w.heap K→Holds N e a→a.defers=a0.defers→Like y w0 w→wpOpsIn (fw ro) n P ops Q l a w:=by
 intro l
 induction l with
 | nil =>
  intro r e a w hr hv hh hd hl
  cases hr
  exact hQ _ _ ⟨e,hh,hd,hl,hv⟩
 | cons i l ih =>
  intro r e a w hr hv hh hd hl
  simp only [lineR] at hr
  split at hr
  ·rename_i g r' hg hr'
   cases hr
   obtain ⟨o,ho,hc,hgd,hdst,e1,_,e2,e3⟩:=mkGI_spec hg
   simp only [wpOpsIn,ho]
   rcases guard_sound hgd hh hv with ⟨hw,hv⟩ | ⟨hw,hv⟩
   ·rw [if_pos hw]
    refine (g_sound hc hh hv).wpIn (compile_noDefer hc) ?_
    rintro v w' ⟨hl',hk⟩
    rw [e2] at hk
    have hk':rvc P y r' (addW g [] e v) (eput e g.dst v) w'.heap K:=hk
    rw [show addW g [] e v=[] from by unfold addW;rw [e3];rfl,e1] at hk'
    exact ih _ _ _ _ hr' hk' (hh.put hdst v) (by rw [put_defers];exact hd) (hl.trans hl')
   ·rw [if_neg (by rw [hw];simp)]
    rw [e1] at hv
    exact ⟨fun _ _=>trivial,ih _ _ _ _ hr' hv (hh.put hdst undef) (by rw [put_defers];exact hd) hl⟩
  ·cases hr
end Go.Vc
