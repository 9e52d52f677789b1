/-
  A calculus of weakest preconditions over the compiled code of the functions that the law reaches, and its soundness. No condition.
-/
import Derived.Carry
import Derived.ChangeKeysEq
import Derived.Deep.DeepHandedRow
import Derived.Deep.Grids
import Derived.Deep.SlicePairs
import Derived.Lib.LaidTab
import Derived.OpenShut
import Derived.OpenVars
import Derived.OrdersIn
import Derived.ProofKit
import Derived.RangeFuncCalls
import Derived.RangeFuncIn
import Derived.RangeFuncLeaves
import Derived.Sort.LoopGhostIn
import Derived.WalkKit
set_option linter.all false
set_option maxRecDepth 2000
/-
  A calculus of weakest preconditions over compiled code: what an operation does to a frame that is known in part, and to a heap.
-/
namespace Go.Vc
open Go

abbrev Heap := Array Obj
abbrev Env := List (Nat × Value)

/-- A cell of the heap. -/
def hcell (h : Heap) (b o : Nat) : Option Value :=
  match h[b]? with
  | some (.cells c _ _) => c[o]?
  | _ => none

theorem cell?_heap (w : World) (b o : Nat) : w.cell? ⟨b, o, none⟩ = hcell w.heap b o := by
  unfold World.cell? hcell
  split <;> simp_all

/-- One cell written. -/
def hmod (o : Nat) (v : Value) : Obj → Obj
  | .cells c t f => .cells (c.setIfInBounds o v) t f
  | x => x
def hset (h : Heap) (b o : Nat) (v : Value) : Heap := h.modify b (hmod o v)

/-- Cells from o on written. -/
def hputs (h : Heap) (b o : Nat) : List Value → Heap
  | [] => h
  | v :: vs => hputs (hset h b o v) b (o + 1) vs

/-- Block b is a row of cells, none frozen. -/
def Blk (h : Heap) (b : Nat) (t : TypeId) (c : List Value) : Prop := h[b]? = some (.cells c.toArray t (0, 0))

/-- n cells from o on may be written. -/
def Wr (h : Heap) (b o n : Nat) : Prop := ∃ t c, Blk h b t c ∧ o + n ≤ c.length

/-- A new block b. -/
structure New (h h' : Heap) (b : Nat) (c : List Value) : Prop where
  at_ : b = h.size
  push : ∃ t, h' = h.push (.cells c.toArray t)

/-- Cells from o on of block b have been written. -/
structure Sto (h h' : Heap) (b o : Nat) (vs : List Value) : Prop where
  eq : h' = hputs h b o vs

/-- What a call or an operation leaves besides the heap's cells. -/
structure Like (y : Option Nat) (w w' : World) : Prop where
  os : w'.os = w.os
  output : w'.output = w.output
  tape : w'.tape = w.tape
  size : w.heap.size ≤ w'.heap.size
  keepD : ∀ D : Nat, w.heap[D]? = some (.deferred (some [])) → w'.heap[D]? = some (.deferred (some []))
  keepL : ∀ (l : Nat) (r : Loop), y ≠ some l → w.heap[l]? = some (.loop r) → w'.heap[l]? = some (.loop r)

theorem Like.refl (y : Option Nat) (w : World) : Like y w w := ⟨rfl, rfl, rfl, Nat.le_refl _, fun _ h => h, fun _ _ _ h => h⟩
theorem Like.trans {y : Option Nat} {w w' w'' : World} (h : Like y w w') (k : Like y w' w'') : Like y w w'' :=
  ⟨k.os.trans h.os, k.output.trans h.output, k.tape.trans h.tape, Nat.le_trans h.size k.size, fun D hD => k.keepD D (h.keepD D hD), fun l r hy hl => k.keepL l r hy (h.keepL l r hy hl)⟩
theorem Like.any {y : Option Nat} {w w' : World} (h : Like none w w') : Like y w w' :=
  ⟨h.os, h.output, h.tape, h.size, h.keepD, fun l r _ hl => h.keepL l r (by simp) hl⟩

/-- A function that is entered when it is called. -/
def goodF (P : Program) (f : FuncId) : Bool :=
  match P.funcs[f]? with
  | some fn => fn.name != "runtime.NumGoroutine" && fn.body.isSome
  | none => false

/-- A function's contract. -/
def ConX (y : Option Nat) (P : Program) (f : FuncId) (args : Array Value) (h : Heap) (R : Value → Heap → Prop) : Prop :=
  goodF P f = true ∧ ∀ w, w.heap = h → Calls P f args w fun e w' => ∃ v, e = .returned v ∧ R v w'.heap ∧ Like y w w'

abbrev Con := ConX none

theorem ConX.mono {y : Option Nat} {P : Program} {f : FuncId} {args : Array Value} {h : Heap} {R R' : Value → Heap → Prop} (hc : ConX y P f args h R)
    (hr : ∀ v h', R v h' → R' v h') : ConX y P f args h R' :=
  ⟨hc.1, fun w hw => (hc.2 w hw).mono fun _ _ ⟨v, he, h1, h2⟩ => ⟨v, he, hr _ _ h1, h2⟩⟩

/-- One round of a range over a function, asked for by its yield. -/
def Yld (P : Program) (l : Nat) (args : Array Value) (h : Heap) (R : Value → Heap → Prop) : Prop :=
  ∀ w, w.heap = h → ∃ fn tmps assign body, (Instr.yield l args).run P w = .ok (.round l fn tmps assign body) w ∧
    RoundIn Fence.wide 0 P l fn tmps assign body w fun e w' => ∃ v, e = .returned v ∧ R v w'.heap ∧ Like (some l) w w'

theorem Yld.mono {P : Program} {l : Nat} {args : Array Value} {h : Heap} {R R' : Value → Heap → Prop} (hc : Yld P l args h R)
    (hr : ∀ v h', R v h' → R' v h') : Yld P l args h R' :=
  fun w hw => by
    obtain ⟨fn, tmps, assign, body, h1, h2⟩ := hc w hw
    exact ⟨fn, tmps, assign, body, h1, h2.mono fun _ _ ⟨v, he, h1, h2⟩ => ⟨v, he, hr _ _ h1, h2⟩⟩

/-! ### Frames that are known in part -/
def find : Env → Nat → Option Value
  | [], _ => none
  | (k, v) :: e, t => if k = t then some v else find e t

def ev (e : Env) : Operand → Option Value
  | .tmp t => find e t
  | .const v => some v
  | .global g => some (.pointer (some ⟨g, 0, none⟩))
  | .func f => some (.func (.func f) #[] #[])

/-- The frame holds what the environment says. -/
def Holds (N : Nat) (e : Env) (a : Act) : Prop := a.tmps.size = N ∧ ∀ t v, find e t = some v → a.tmps.getD t undef = v

theorem Holds.ev {N : Nat} {e : Env} {a : Act} (h : Holds N e a) {x : Operand} {v : Value} (hx : Vc.ev e x = some v) : a.eval x = v := by
  cases x with
  | tmp t => exact h.2 t v hx
  | const u => simpa [Vc.ev, Act.eval] using hx
  | global g => simpa [Vc.ev, Act.eval] using hx
  | func f => simpa [Vc.ev, Act.eval] using hx

/-- A value put into its slot. -/
def eput (e : Env) (dst : Option Nat) (v : Value) : Env :=
  match dst with
  | some d => (d, v) :: e
  | none => e

theorem Holds.put {N : Nat} {e : Env} {a : Act} (h : Holds N e a) {dst : Option Nat} (hd : ∀ d, dst = some d → d < N) (v : Value) :
    Holds N (eput e dst v) (a.put dst v) := by
  cases dst with
  | none => exact h
  | some d =>
    have hd := hd d rfl
    refine ⟨by simp [Act.put, h.1], fun t u ht => ?_⟩
    simp only [eput, find] at ht
    simp only [Act.put]
    by_cases hdt : d = t
    · subst hdt
      simp only [if_true] at ht
      cases ht
      simp [h.1, hd]
    · rw [if_neg hdt] at ht
      have := h.2 t u ht
      simpa [Array.getElem?_setIfInBounds_ne hdt] using this

def consO (x : Option Value) (t : Nat) (e : Env) : Env :=
  match x with
  | some v => (t, v) :: e
  | none => e

/-- Only these slots are remembered. -/
def only (l : List Nat) (e : Env) : Env :=
  match l with
  | [] => []
  | t :: l => consO (find e t) t (only l e)

theorem find_only {l : List Nat} {e : Env} {t : Nat} {v : Value} (h : find (only l e) t = some v) : find e t = some v := by
  induction l with
  | nil => simp [only, find] at h
  | cons k l ih =>
    simp only [only, consO] at h
    split at h
    · rename_i u hu
      simp only [find] at h
      split at h
      · rename_i hk; subst hk; rw [hu]; exact h
      · exact ih h
    · exact ih h

theorem Holds.only {N : Nat} {e : Env} {a : Act} (h : Holds N e a) (l : List Nat) : Holds N (Vc.only l e) a :=
  ⟨h.1, fun t v ht => h.2 t v (find_only ht)⟩

/-- All that one environment says is what another one says. -/
def Le : Env → Env → Prop
  | [], _ => True
  | (k, v) :: e, e' => find e' k = some v ∧ Le e e'

theorem Le.find {e e' : Env} (h : Le e e') {t : Nat} {v : Value} (ht : find e t = some v) : Vc.find e' t = some v := by
  induction e with
  | nil => simp [Vc.find] at ht
  | cons p e ih =>
    obtain ⟨k, u⟩ := p
    simp only [Vc.find] at ht
    split at ht
    · rename_i hk; subst hk; cases ht; exact h.1
    · exact ih h.2 ht

theorem Holds.le {N : Nat} {e e' : Env} {a : Act} (h : Holds N e' a) (hl : Le e e') : Holds N e a :=
  ⟨h.1, fun t v ht => h.2 t v (hl.find ht)⟩

/-! ### Small words for what is asked of a value -/
/-- What hangs on x: where it stands, the simplifier does not look into x. -/
inductive Dep {α : Type} (x : α) : Type where
  | mk

def withV (x : Option Value) (K : Value → Prop) (_ : Dep K := .mk) : Prop := match x with | some v => K v | none => False
def withI (x : Option Value) (K : IntKind → Int → Prop) (_ : Dep K := .mk) : Prop := match x with | some (.int k n) => K k n | _ => False
def withB (x : Option Value) (K : Bool → Prop) (_ : Dep K := .mk) : Prop := match x with | some (.bool b) => K b | _ => False
def withP (x : Option Value) (K : Nat → Nat → Prop) (_ : Dep K := .mk) : Prop := match x with | some (.pointer (some ⟨b, o, none⟩)) => K b o | _ => False
/-- A slice: where it lies (none: nil), how long, how much room. -/
def withS (x : Option Value) (K : Option Addr → Nat → Nat → Prop) (_ : Dep K := .mk) : Prop := match x with | some (.slice a n c) => K a n c | _ => False
def withA (x : Option Value) (K : Array Value → Prop) (_ : Dep K := .mk) : Prop := match x with | some (.agg cs) => K cs | _ => False
def withT (x : Option Value) (K : Array Value → Prop) (_ : Dep K := .mk) : Prop := match x with | some (.tuple cs) => K cs | _ => False
/-- Where a slice lies. -/
def withAd (x : Option Addr) (K : Nat → Nat → Prop) (_ : Dep K := .mk) : Prop := match x with | some ⟨b, o, none⟩ => K b o | _ => False
def withL (e : Env) (l : List Operand) (K : List Value → Prop) : Prop :=
  match l with
  | [] => K []
  | x :: l => withV (ev e x) fun v => withL e l fun vs => K (v :: vs)
/-- Asked, and then gone on. -/
def Chk (c K : Prop) (_ : Dep K := .mk) : Prop := c ∧ K
/-- A test. -/
def If (c A B : Prop) (_ : Dep A := .mk) (_ : Dep B := .mk) : Prop := (c → A) ∧ (¬ c → B)
def withC (h : Heap) (b o : Nat) : Nat → (List Value → Prop) → Prop
  | 0, K => K []
  | n + 1, K => withV (hcell h b o) fun v => withC h b (o + 1) n fun vs => K (v :: vs)

section
theorem withV_some (v : Value) (K : Value → Prop) (d : Dep K) : withV (some v) K d = K v := (rfl)
theorem withI_some (k : IntKind) (n : Int) (K : IntKind → Int → Prop) (d : Dep K) : withI (some (.int k n)) K d = K k n := (rfl)
theorem withB_some (b : Bool) (K : Bool → Prop) (d : Dep K) : withB (some (.bool b)) K d = K b := (rfl)
theorem withP_some (b o : Nat) (K : Nat → Nat → Prop) (d : Dep K) : withP (some (.pointer (some ⟨b, o, none⟩))) K d = K b o := (rfl)
theorem withS_some (a : Option Addr) (n c : Nat) (K : Option Addr → Nat → Nat → Prop) (d : Dep K) : withS (some (.slice a n c)) K d = K a n c := (rfl)
theorem withA_some (cs : Array Value) (K : Array Value → Prop) (d : Dep K) : withA (some (.agg cs)) K d = K cs := (rfl)
theorem withT_some (cs : Array Value) (K : Array Value → Prop) (d : Dep K) : withT (some (.tuple cs)) K d = K cs := (rfl)
theorem withAd_some (b o : Nat) (K : Nat → Nat → Prop) (d : Dep K) : withAd (some ⟨b, o, none⟩) K d = K b o := (rfl)
theorem Chk_true (K : Prop) (d : Dep K) : Chk True K d = K := by simp [Chk]
theorem If_true (A B : Prop) (d : Dep A) (d' : Dep B) : If True A B d d' = A := by simp [If]
theorem If_false (A B : Prop) (d : Dep A) (d' : Dep B) : If False A B d d' = B := by simp [If]
end

theorem withAd_elim {x : Option Addr} {K : Nat → Nat → Prop} (h : withAd x K) : ∃ b o, x = some ⟨b, o, none⟩ ∧ K b o := by
  unfold withAd at h; split at h
  · exact ⟨_, _, rfl, h⟩
  · exact h.elim
theorem withV_elim {x : Option Value} {K : Value → Prop} (h : withV x K) : ∃ v, x = some v ∧ K v := by
  unfold withV at h; split at h
  · exact ⟨_, rfl, h⟩
  · exact h.elim
theorem withI_elim {x : Option Value} {K : IntKind → Int → Prop} (h : withI x K) : ∃ k n, x = some (.int k n) ∧ K k n := by
  unfold withI at h; split at h
  · exact ⟨_, _, rfl, h⟩
  · exact h.elim
theorem withB_elim {x : Option Value} {K : Bool → Prop} (h : withB x K) : ∃ b, x = some (.bool b) ∧ K b := by
  unfold withB at h; split at h
  · exact ⟨_, rfl, h⟩
  · exact h.elim
theorem withP_elim {x : Option Value} {K : Nat → Nat → Prop} (h : withP x K) : ∃ b o, x = some (.pointer (some ⟨b, o, none⟩)) ∧ K b o := by
  unfold withP at h; split at h
  · exact ⟨_, _, rfl, h⟩
  · exact h.elim
theorem withS_elim {x : Option Value} {K : Option Addr → Nat → Nat → Prop} (h : withS x K) : ∃ a n c, x = some (.slice a n c) ∧ K a n c := by
  unfold withS at h; split at h
  · exact ⟨_, _, _, rfl, h⟩
  · exact h.elim
theorem withA_elim {x : Option Value} {K : Array Value → Prop} (h : withA x K) : ∃ cs, x = some (.agg cs) ∧ K cs := by
  unfold withA at h; split at h
  · exact ⟨_, rfl, h⟩
  · exact h.elim
theorem withT_elim {x : Option Value} {K : Array Value → Prop} (h : withT x K) : ∃ cs, x = some (.tuple cs) ∧ K cs := by
  unfold withT at h; split at h
  · exact ⟨_, rfl, h⟩
  · exact h.elim
theorem withL_elim {e : Env} {l : List Operand} {K : List Value → Prop} (h : withL e l K) : ∃ vs, l.map (ev e) = vs.map some ∧ K vs := by
  induction l generalizing K with
  | nil => exact ⟨[], rfl, h⟩
  | cons x l ih =>
    obtain ⟨v, hv, h⟩ := withV_elim h
    obtain ⟨vs, hvs, h⟩ := ih h
    exact ⟨v :: vs, by simp [hv, hvs], h⟩
theorem withC_elim {h : Heap} {b : Nat} {n o : Nat} {K : List Value → Prop} (hk : withC h b o n K) :
    ∃ vs, vs.length = n ∧ (∀ j v, vs[j]? = some v → hcell h b (o + j) = some v) ∧ K vs := by
  induction n generalizing o K with
  | zero => exact ⟨[], rfl, by simp, hk⟩
  | succ n ih =>
    obtain ⟨v, hv, hk⟩ := withV_elim hk
    obtain ⟨vs, hn, hc, hk⟩ := ih hk
    refine ⟨v :: vs, by simp [hn], fun j u hj => ?_, hk⟩
    cases j with
    | zero => simp at hj; subst hj; exact hv
    | succ j => simp at hj; have := hc j u hj; rwa [show o + 1 + j = o + (j + 1) from by omega] at this
end Go.Vc
namespace Go.Vc
open Go

/-! ### Operations, their types looked up -/
inductive GOp where
  | mv (x : Operand)
  | pick (c a b : Operand)
  | bin (op : BinOp) (x y : Operand)
  | shift (op : BinOp) (x y : Operand)
  | eqBool (neg : Bool) (x y : Operand)
  | eqNil (sl neg : Bool) (x y : Operand)
  | eqStruct (neg : Bool) (offs : List Nat) (x y : Operand)
  | not (x : Operand)
  | neg (x : Operand)
  | compl (x : Operand)
  | conv (k : IntKind) (x : Operand)
  | nilCheck (x : Operand)
  | fieldAddr (off : Nat) (x : Operand)
  | field (agg : Option Nat) (off : Nat) (x : Operand)
  | indexAddr (size : Nat) (x i : Operand)
  | indexArr (size len : Nat) (x i : Operand)
  | extract (i : Nat) (x : Operand)
  | makeFunc (fn : Fn) (first captured : List Operand)
  | len (x : Operand)
  | maxi (x y : Operand)
  | mini (x y : Operand)
  | slice (size : Nat) (x : Operand) (lo hi : Option Operand)
  | build (zero : List Value) (parts : List (Nat × Nat × Operand))
  | load (agg : Option Nat) (x : Operand)
  -- what follows turns the heap
  | alloc (elem : TypeId) (zero : List Value)
  | box (elem : TypeId) (x : Operand)
  | buildSlice (elem : TypeId) (len : Nat) (zero : List Value) (parts : List (Nat × Nat × Operand))
  | makeSlice (elem : TypeId) (size bytes : Nat) (zero : List Value) (l c : Operand)
  | store (n : Nat) (x v : Operand)
  | append (elem : TypeId) (size bytes : Nat) (zero : List Value) (s x : Operand)
  | call (f : FuncId) (args : List Operand)
  | callv (x : Operand) (args : List Operand)

/-- Does it only read? -/
def GOp.quiet : GOp → Bool
  | .alloc .. | .box .. | .buildSlice .. | .makeSlice .. | .store .. | .append .. | .call .. | .callv .. => false
  | _ => true

/-- A list with values written over it from a place on. -/
def putAt (l : List Value) (off : Nat) : List Value → List Value
  | [] => l
  | v :: vs => putAt (l.set off v) (off + 1) vs

def cl (v : Value) : List Value := v.cells.toList

def withParts (e : Env) : List (Nat × Nat × Operand) → List Value → (List Value → Prop) → Prop
  | [], cs, K => K cs
  | (off, size, x) :: ps, cs, K => withV (ev e x) fun v => Chk ((cl v).length = size ∧ off + size ≤ cs.length) (withParts e ps (putAt cs off (cl v)) K)

def binI (op : BinOp) (k : IntKind) (a b : Int) (K : Value → Prop) : Prop :=
  match op with
  | .add => K (.int k (k.wrap (a + b)))
  | .sub => K (.int k (k.wrap (a - b)))
  | .mul => K (.int k (k.wrap (a * b)))
  | .quo => Chk (b ≠ 0) (K (.int k (k.wrap (a.tdiv b))))
  | .rem => Chk (b ≠ 0) (K (.int k (a.tmod b)))
  | .and => K (.int k (k.wrap (BitVec.ofInt k.bits a &&& BitVec.ofInt k.bits b).toNat))
  | .or => K (.int k (k.wrap (BitVec.ofInt k.bits a ||| BitVec.ofInt k.bits b).toNat))
  | .xor => K (.int k (k.wrap (BitVec.ofInt k.bits a ^^^ BitVec.ofInt k.bits b).toNat))
  | .andNot => K (.int k (k.wrap (BitVec.ofInt k.bits a &&& ~~~(BitVec.ofInt k.bits b)).toNat))
  | .eql => K (.bool (a == b))
  | .neq => K (.bool (a != b))
  | .lss => K (.bool (decide (a < b)))
  | .leq => K (.bool (decide (a ≤ b)))
  | .gtr => K (.bool (decide (a > b)))
  | .geq => K (.bool (decide (a ≥ b)))
  | _ => False

/-- Cells of two structs, integers all, compared. -/
def eqCells : List Nat → Array Value → Array Value → (Bool → Prop) → Prop
  | [], _, _, K => K true
  | o :: os, xs, ys, K => withI xs[o]? fun k n => withI ys[o]? fun k' m => Chk (k = k') (eqCells os xs ys fun b => K ((n == m) && b))

def eqNilV (sl : Bool) (a b : Value) (K : Bool → Prop) : Prop :=
  match sl, a, b with
  | false, .pointer none, .pointer q => K q.isNone
  | false, .pointer (some _), .pointer none => K false
  | true, .slice none _ _, .slice q _ _ => K q.isNone
  | true, .slice (some _) _ _, .slice none _ _ => K false
  | _, _, _ => False

def withLo (e : Env) (x : Option Operand) (d : Nat) (K : Nat → Prop) : Prop :=
  match x with
  | none => K d
  | some x => withI (ev e x) fun _ i => Chk (0 ≤ i) (K i.toNat)

/-- Operations that only read. -/
def qvc (g : GOp) (e : Env) (h : Heap) (K : Value → Prop) : Prop :=
  match g with
  | .mv x => withV (ev e x) K
  | .pick c a b => withB (ev e c) fun t => If (t = true) (withV (ev e a) K) (withV (ev e b) K)
  | .bin op x y => withI (ev e x) fun k a => withI (ev e y) fun k' b => Chk (k = k') (binI op k a b K)
  | .shift op x y => withI (ev e x) fun k a => withI (ev e y) fun _ b => Chk (0 ≤ b)
      (match op with
       | .shl => K (.int k (k.wrap (a * 2 ^ (min b.toNat k.bits))))
       | .shr => K (.int k (a.fdiv (2 ^ (min b.toNat k.bits))))
       | _ => False)
  | .eqBool neg x y => withB (ev e x) fun a => withB (ev e y) fun b => K (.bool (if neg then a != b else a == b))
  | .eqNil sl neg x y => withV (ev e x) fun a => withV (ev e y) fun b => eqNilV sl a b fun r => K (.bool (if neg then !r else r))
  | .eqStruct neg offs x y => withA (ev e x) fun xs => withA (ev e y) fun ys => eqCells offs xs ys fun r => K (.bool (if neg then !r else r))
  | .not x => withB (ev e x) fun b => K (.bool !b)
  | .neg x => withI (ev e x) fun k n => K (.int k (k.wrap (0 - n)))
  | .compl x => withI (ev e x) fun k n => K (.int k (k.wrap (BitVec.ofInt k.bits (if k.signed then -1 else k.max) ^^^ BitVec.ofInt k.bits n).toNat))
  | .conv k x => withI (ev e x) fun _ n => K (.int k (k.wrap n))
  | .nilCheck x => withP (ev e x) fun b o => K (.pointer (some ⟨b, o, none⟩))
  | .fieldAddr off x => withP (ev e x) fun b o => K (.pointer (some ⟨b, o + off, none⟩))
  | .field none off x => withA (ev e x) fun cs => withV cs[off]? K
  | .field (some n) off x => withA (ev e x) fun cs => K (.agg (cs.extract off (off + n)))
  | .indexAddr size x i => withS (ev e x) fun a n _ => withI (ev e i) fun _ i => Chk (0 ≤ i ∧ i < (n : Int))
      (withAd a fun b o => K (.pointer (some ⟨b, o + i.toNat * size, none⟩)))
  | .indexArr size len x i => withP (ev e x) fun b o => withI (ev e i) fun _ i => Chk (0 ≤ i ∧ i < (len : Int)) (K (.pointer (some ⟨b, o + i.toNat * size, none⟩)))
  | .extract i x => withT (ev e x) fun cs => withV cs[i]? K
  | .makeFunc fn first captured => withL e first fun vs => withL e captured fun us => K (.func fn vs.toArray us.toArray)
  | .len x => withS (ev e x) fun _ n _ => K (.int .i64 n)
  | .maxi x y => withI (ev e x) fun k a => withI (ev e y) fun _ b => K (.int k (if b > a then b else a))
  | .mini x y => withI (ev e x) fun k a => withI (ev e y) fun _ b => K (.int k (if b < a then b else a))
  | .slice size x lo hi => withS (ev e x) fun a n c => withLo e hi n fun h => Chk (h ≤ c) (withLo e lo 0 fun l => Chk (l ≤ h)
      (K (.slice (if c = l then a else a.map (·.add (l * size))) (h - l) (c - l))))
  | .build zero parts => withParts e parts zero fun cs => K (.agg cs.toArray)
  | .load none x => withP (ev e x) fun b o => withV (hcell h b o) K
  | .load (some n) x => withP (ev e x) fun b o => withC h b o n fun vs => K (.agg vs.toArray)
  | _ => False

/-- n copies of the zero's cells. -/
def zeros (zero : List Value) (n : Nat) : List Value :=
  match n with
  | 0 => []
  | n + 1 => zero ++ zeros zero n

/-- A new block, whatever its number. -/
def newB (h : Heap) (c : List Value) (K : Nat → Heap → Prop) (_ : Dep K := .mk) : Prop := ∀ b h', New h h' b c → K b h'
def stoB (h : Heap) (b o : Nat) (vs : List Value) (K : Heap → Prop) (_ : Dep K := .mk) : Prop := ∀ h', Sto h h' b o vs → K h'
def callB (P : Program) (f : FuncId) (args : Array Value) (h : Heap) (K : Value → Heap → Prop) (_ : Dep K := .mk) : Prop := Con P f args h K
def yldB (P : Program) (l : Nat) (args : Array Value) (h : Heap) (K : Value → Heap → Prop) (_ : Dep K := .mk) : Prop := Yld P l args h K

/-- What 'append' leaves: the elements' cells 'new', m elements, behind the n elements of the slice at a with room for c. -/
def appB (size bytes : Nat) (zero : List Value) (h : Heap) (a : Option Addr) (n c : Nat) (new : List Value) (m : Nat) (K : Value → Heap → Prop) (_ : Dep K := .mk) : Prop :=
  (n + m ≤ c → match a with
     | some ⟨b, o, none⟩ => Wr h b (o + n * size) (m * size) ∧ ∀ h', Sto h h' b (o + n * size) new → K (.slice a (n + m) c) h'
     | none => m = 0 ∧ K (.slice none (n + m) c) h
     | _ => False) ∧
  (c < n + m → (n + m) * 2 * bytes ≤ 281474976710656 ∧ ∃ old, (old = [] ∧ a = none ∧ n = 0 ∨ ∃ b o, a = some ⟨b, o, none⟩ ∧ old.length = n * size ∧ ∀ j v, old[j]? = some v → hcell h b (o + j) = some v) ∧
     ∀ c' b' h', n + m ≤ c' → New h h' b' (old ++ new ++ zeros zero (c' - (n + m))) → K (.slice (some ⟨b', 0, none⟩) (n + m) c') h')

/-- All operations. -/
def gvc (P : Program) (y : Option Nat) (g : GOp) (e : Env) (h : Heap) (K : Value → Heap → Prop) : Prop :=
  match g with
  | .alloc _ zero => newB h zero fun b h' => K (.pointer (some ⟨b, 0, none⟩)) h'
  | .box _ x => withV (ev e x) fun v => newB h (cl v) fun b h' => K (.pointer (some ⟨b, 0, none⟩)) h'
  | .buildSlice _ len zero parts => withParts e parts zero fun cs => newB h cs fun b h' => K (.slice (some ⟨b, 0, none⟩) len len) h'
  | .makeSlice _ _ bytes zero l c => withI (ev e l) fun _ l => withI (ev e c) fun _ c => Chk (0 ≤ l ∧ l ≤ c ∧ c ≤ 9223372036854775807 ∧ bytes * c ≤ 281474976710656)
      (newB h (zeros zero c.toNat) fun b h' => K (.slice (some ⟨b, 0, none⟩) l.toNat c.toNat) h')
  | .store n x v => withP (ev e x) fun b o => withV (ev e v) fun v => Chk ((cl v).length = n ∧ (cl v).all Value.oneCell' = true) (Chk (Wr h b o n) (stoB h b o (cl v) fun h' => K undef h'))
  | .append _ size bytes zero s x => withS (ev e s) fun a n c => withS (ev e x) fun a' m _ =>
      If (m = 0) (appB size bytes zero h a n c [] m K) (withAd a' fun b' o' => withC h b' o' (m * size) fun new => Chk (new.all Value.oneCell' = true) (appB size bytes zero h a n c new m K))
  | .call f args => withL e args fun vs => callB P f vs.toArray h K
  | .callv x args => withV (ev e x) fun v => withL e args fun vs =>
      (match v with
       | .func (.func f) first captured => callB P f (first ++ vs.toArray ++ captured) h K
       | .func (.yield l) first _ => Chk (y = some l) (yldB P l (first ++ vs.toArray) h K)
       | _ => False)
  | g => qvc g e h fun v => K v h

/-! ### Looking the types up -/
def isAggT (P : Program) (t : TypeId) : Option Bool :=
  match P.underlying t with
  | some (.struct _) | some (.array ..) => some true
  | some _ => some false
  | none => none

def sizeT (P : Program) (t : TypeId) : Option Nat := (P.info? t).map (·.size)
def zeroT (P : Program) (t : TypeId) : Option (List Value) := (P.info? t).bind fun i => i.zero.map cl
def aggT (P : Program) (t : TypeId) : Option (Option Nat) :=
  match isAggT P t, sizeT P t with
  | some true, some n => some (some n)
  | some false, some 1 => some none
  | _, _ => none

def isIntT (P : Program) (t : TypeId) : Bool := match P.underlying t with | some (.int _) => true | _ => false

/-- The places of a struct's fields. -/
def placesT (P : Program) (fs : List Field) : Option (List (Nat × Nat)) := fs.mapM fun f => (sizeT P f.type).map fun n => (f.offset, n)

def partsS (pl : List (Nat × Nat)) : List (Nat × Operand) → Option (List (Nat × Nat × Operand))
  | [] => some []
  | (i, x) :: r => match pl[i]?, partsS pl r with
    | some (o, n), some l => some ((o, n, x) :: l)
    | _, _ => none

def partsA (size : Nat) (l : List (Nat × Operand)) : List (Nat × Nat × Operand) := l.map fun (i, x) => (i * size, size, x)

/-- The offsets of a struct's fields, all of them integers. -/
def intOffs (P : Program) : List Field → Option (List Nat)
  | [] => some []
  | f :: fs => if isIntT P f.type && f.name != "_" then (intOffs P fs).map (f.offset :: ·) else none

def eqT (P : Program) (neg : Bool) (t : TypeId) (x y : Operand) : Option GOp :=
  match P.underlying t with
  | some .bool => some (.eqBool neg x y)
  | some (.pointer _) => some (.eqNil false neg x y)
  | some (.slice _) => some (.eqNil true neg x y)
  | some (.struct fs) => if P.eqGuardType P.depth t || P.stoodInHeld t then none else (intOffs P fs.toList).map fun l => .eqStruct neg l x y
  | _ => none

def compileOp (P : Program) (o : Oper) : Option GOp :=
  match o.op with
  | .move x | .assign x => some (.mv x)
  | .pick c a b => some (.pick c a b)
  | .binOp op t x y _ =>
    (match op with
     | .shl | .shr => if isIntT P t then some (.shift op x y) else none
     | .eql => if isIntT P t then some (.bin op x y) else eqT P false t x y
     | .neq => if isIntT P t then some (.bin op x y) else eqT P true t x y
     | _ => if isIntT P t then some (.bin op x y) else none)
  | .unOp .not _ x => some (.not x)
  | .unOp .neg t x => if isIntT P t then some (.neg x) else none
  | .unOp .xor t x => if isIntT P t then some (.compl x) else none
  | .convert s d x => (match P.underlying s, P.underlying d with | some (.int _), some (.int k) => some (.conv k x) | _, _ => none)
  | .nilCheck x => some (.nilCheck x)
  | .fieldAddr s x f => (match P.underlying s with
      | some (.struct fs) => (match fs[f]? with
        | some fl => (match sizeT P fl.type with | some (_ + 1) => some (.fieldAddr fl.offset x) | _ => none)
        | none => none)
      | _ => none)
  | .field s x f => (match P.underlying s with
      | some (.struct fs) => (match fs[f]? with
        | some fl => (aggT P fl.type).map fun ag => .field ag fl.offset x
        | none => none)
      | _ => none)
  | .indexAddr t x i => (match P.underlying t with
      | some (.slice el) => (sizeT P el).map fun n => .indexAddr n x i
      | some (.array len el) => (sizeT P el).map fun n => .indexArr n len x i
      | _ => none)
  | .extract x i => some (.extract i x)
  | .makeFunc fn first captured => some (.makeFunc fn first.toList captured.toList)
  | .slice t x lo hi none => (match P.underlying t with | some (.slice el) => (sizeT P el).map fun n => .slice n x lo hi | _ => none)
  | .build t parts => (match P.underlying t, zeroT P t with
      | some (.struct fs), some z => (placesT P fs.toList).bind fun pl => (partsS pl parts.toList).map fun ps => .build z ps
      | _, _ => none)
  | .load t x => (aggT P t).map fun ag => .load ag x
  | .alloc t => (zeroT P t).map fun z => .alloc t z
  | .box t x => some (.box t x)
  | .buildSlice t len parts => (match P.underlying t with
      | some (.slice el) => (match sizeT P el, zeroT P el with
        | some (n + 1), some z => if len * (n + 1) ≤ 2 ^ 24 ∧ z.length = n + 1 then some (.buildSlice el len (zeros z len) (partsA (n + 1) parts.toList)) else none
        | _, _ => none)
      | _ => none)
  | .makeSlice t l c => (match P.underlying t with
      | some (.slice el) => (match P.info? el with
        | some i => (match i.zero with
          | some z => if (cl z).length = i.size ∧ 0 < i.size then some (.makeSlice el i.size i.bytes (cl z) l c) else none
          | none => none)
        | none => none)
      | _ => none)
  | .store t x v => (sizeT P t).map fun n => .store n x v
  | .call c => (match c.callee with
      | .value (.func f) => some (.call f c.args.toList)
      | .value x => some (.callv x c.args.toList)
      | .builtin .len => (match c.args.toList, c.argTypes[0]? with
        | [x], some t => (match P.underlying t with | some (.slice _) => some (.len x) | _ => none)
        | _, _ => none)
      | .builtin .max => (match c.args.toList with | [x, y] => some (.maxi x y) | _ => none)
      | .builtin .min => (match c.args.toList with | [x, y] => some (.mini x y) | _ => none)
      | .builtin .append => (match c.args.toList, c.argTypes.toList with
        | [s, x], [st, xt] => (match P.underlying st, P.underlying xt with
          | some (.slice el), some (.slice _) => (match P.info? el with
            | some i => (match i.zero with
              | some z => if (cl z).length = i.size ∧ 0 < i.size ∧ 0 < i.bytes then some (.append el i.size i.bytes (cl z) s x) else none
              | none => none)
            | none => none)
          | _, _ => none)
        | _, _ => none)
      | _ => none)
  | _ => none
end Go.Vc
namespace Go.Vc
open Go

/-! ### Operations that only read: sound -/
def atAddr (r : Nat × Nat × Value) (w : World) : Prop := w.cell? ⟨r.1, r.2.1, none⟩ = some r.2.2

/-- The cells that a reading operation has read. -/
def reads (g : GOp) (e : Env) (v : Value) : List (Nat × Nat × Value) :=
  match g with
  | .load none x => (match ev e x with | some (.pointer (some a)) => [(a.block, a.off, v)] | _ => [])
  | .load (some _) x => (match ev e x with | some (.pointer (some a)) => (cl v).zipIdx.map fun (c, j) => (a.block, a.off + j, c) | _ => [])
  | _ => []

/-- In whatever world holds the cells that are read, the operation yields v and leaves the world alone. -/
def QRun (P : Program) (o : Oper) (a : Act) (R : List (Nat × Nat × Value)) (v : Value) : Prop :=
  ∀ w, (∀ r ∈ R, atAddr r w) → (execOp a.eval o).run P w = .ok (.value v) w

theorem run_sizeT {P : Program} {t : TypeId} {n : Nat} (h : sizeT P t = some n) (w : World) : (sizeOf t).run P w = .ok n w := by
  unfold sizeT at h
  cases hi : P.info? t with
  | none => simp [hi] at h
  | some i => simp [hi] at h; simp [sizeOf, typeInfo, program, Sem.run, hi, h]

theorem run_zeroT {P : Program} {t : TypeId} {z : List Value} (h : zeroT P t = some z) : ∃ v, cl v = z ∧ ∀ w, (zeroValue t).run P w = .ok v w := by
  unfold zeroT at h
  cases hi : P.info? t with
  | none => simp [hi] at h
  | some i =>
    cases hz : i.zero with
    | none => simp [hi, hz] at h
    | some v => simp [hi, hz] at h; exact ⟨v, h, fun w => by simp [zeroValue, typeInfo, program, Sem.run, hi, hz]⟩

theorem run_isAggT {P : Program} {t : TypeId} {b : Bool} (h : isAggT P t = some b) (w : World) : (isAgg t).run P w = .ok b w := by
  unfold isAggT at h
  cases hi : P.underlying t with
  | none => simp [hi] at h
  | some d => cases d <;> simp [hi] at h <;> subst h <;> simp [isAgg, run_underlying hi]

theorem aggT_none {P : Program} {t : TypeId} (h : aggT P t = some none) : isAggT P t = some false := by
  unfold aggT at h; split at h <;> simp_all
theorem aggT_some {P : Program} {t : TypeId} {n : Nat} (h : aggT P t = some (some n)) : isAggT P t = some true ∧ sizeT P t = some n := by
  unfold aggT at h; split at h <;> simp_all

theorem evs {N : Nat} {e : Env} {a : Act} (h : Holds N e a) {l : List Operand} {vs : List Value} (hl : l.map (Vc.ev e) = vs.map some) : l.map a.eval = vs := by
  induction l generalizing vs with
  | nil => cases vs <;> simp_all
  | cons x l ih =>
    cases vs with
    | nil => simp at hl
    | cons v vs => simp at hl; simp [h.ev hl.1, ih hl.2]

theorem equal_run {P : Program} {t : TypeId} (a b : Value) (w : World) :
    (Op.equal t a b).run P w = (Op.equalIn (9999 + 1) t a b).run P w := rfl

theorem equal_bool {P : Program} {t : TypeId} (hu : P.underlying t = some .bool) (p q : Bool) (w : World) : (Op.equal t (.bool p) (.bool q)).run P w = .ok (p == q) w := by
  rw [equal_run, Op.equalIn]; simp only [Sem.run_bind, run_underlying hu, Result.andThen, Sem.run_pure]

theorem equal_ptr1 {P : Program} {t el : TypeId} (hu : P.underlying t = some (.pointer el)) (q : Option Addr) (w : World) : (Op.equal t (.pointer none) (.pointer q)).run P w = .ok q.isNone w := by
  rw [equal_run, Op.equalIn]; simp only [Sem.run_bind, run_underlying hu, Result.andThen, Sem.run_pure]
theorem equal_ptr2 {P : Program} {t el : TypeId} (hu : P.underlying t = some (.pointer el)) (p : Addr) (w : World) : (Op.equal t (.pointer (some p)) (.pointer none)).run P w = .ok false w := by
  rw [equal_run, Op.equalIn]; simp only [Sem.run_bind, run_underlying hu, Result.andThen, Sem.run_pure]
theorem equal_sl1 {P : Program} {t el : TypeId} (hu : P.underlying t = some (.slice el)) (n c : Nat) (q : Option Addr) (n' c' : Nat) (w : World) : (Op.equal t (.slice none n c) (.slice q n' c')).run P w = .ok q.isNone w := by
  rw [equal_run, Op.equalIn]; simp only [Sem.run_bind, run_underlying hu, Result.andThen, Sem.run_pure]
theorem equal_sl2 {P : Program} {t el : TypeId} (hu : P.underlying t = some (.slice el)) (p : Addr) (n c n' c' : Nat) (w : World) : (Op.equal t (.slice (some p) n c) (.slice none n' c')).run P w = .ok false w := by
  rw [equal_run, Op.equalIn]; simp only [Sem.run_bind, run_underlying hu, Result.andThen, Sem.run_pure]

theorem eqGuard_run {P : Program} (op : BinOp) (t : TypeId) (x y : Operand) (a b : Value) (h1 : ¬ (a = .nilIface ∧ b = .nilIface))
    (h2 : (∃ c d, a = .agg c ∧ b = .agg d) → P.eqGuardType P.depth t = false) (w : World) : (eqGuard op t x y a b).run P w = .ok () w := by
  unfold eqGuard
  split
  all_goals
    simp only [Bool.not_true, Bool.not_false, if_true, Bool.false_eq_true, if_false]
    first
      | rfl
      | (cases a <;> cases b <;> first | rfl | exact absurd ⟨rfl, rfl⟩ h1 | (have h3 := h2 ⟨_, _, rfl, rfl⟩; simp [program, Sem.run, h3]))

theorem part_int {P : Program} {t : TypeId} {k : IntKind} (hu : P.underlying t = some (.int k)) (cs : Array Value) (off : Nat) {v : Value} (hv : cs[off]? = some v) (w : World) :
    (part t cs off).run P w = .ok v w := by
  simp only [part, Sem.run_bind, isAgg, run_underlying hu, Result.andThen, Sem.run_pure, Bool.false_eq_true, if_false, hv]

theorem equal_fields {P : Program} (xs ys : Array Value) : ∀ (l : List Field) (offs : List Nat) (K : Bool → Prop), intOffs P l = some offs → eqCells offs xs ys K →
    ∃ r, K r ∧ ∀ w, (forIn l ((none, ()) : Option Bool × Unit) fun (f : Field) (_ : Option Bool × Unit) =>
          if f.name ≠ "_" then do
            let __do_lift ← part f.type xs f.offset
            let __do_lift_1 ← part f.type ys f.offset
            let __do_lift ← Op.equalIn 9999 f.type __do_lift __do_lift_1
            if (!__do_lift) = true then pure (ForInStep.done ((some false, ()) : Option Bool × Unit)) else pure (ForInStep.yield (none, ()))
          else pure (ForInStep.yield (none, ()))).run P w = .ok (if r then (none, ()) else (some false, ())) w
  | [], offs, K, ho, hk => by
    simp only [intOffs, Option.some.injEq] at ho
    subst ho
    exact ⟨true, hk, fun w => by simp⟩
  | f :: l, offs, K, ho, hk => by
    simp only [intOffs] at ho
    split at ho
    · rename_i hc
      simp only [Bool.and_eq_true, bne_iff_ne, ne_eq] at hc
      obtain ⟨hc1, hc2⟩ := hc
      simp only [Option.map_eq_some_iff] at ho
      obtain ⟨offs', ho, rfl⟩ := ho
      obtain ⟨k, n, hx, hk⟩ := withI_elim hk
      obtain ⟨k', m, hy, rfl, hk⟩ := withI_elim hk
      obtain ⟨r, hr, hrun⟩ := equal_fields xs ys l offs' _ ho hk
      refine ⟨_, hr, fun w => ?_⟩
      unfold isIntT at hc1
      split at hc1
      · rename_i kt hu
        have he : (Op.equalIn 9999 f.type (.int k n) (.int k m)).run P w = .ok (n == m) w := by
          show (Op.equalIn (9998 + 1) f.type (.int k n) (.int k m)).run P w = .ok (n == m) w
          rw [Op.equalIn]; simp only [Sem.run_bind, run_underlying hu, Result.andThen, if_true, Sem.run_pure]
        rw [List.forIn_cons]
        simp only [if_pos hc2, Sem.run_bind, part_int hu xs _ hx, part_int hu ys _ hy, Result.andThen, he]
        cases hnm : (n == m)
        · simp
        · simp only [Bool.not_true, Bool.false_eq_true, if_false, Sem.run_pure, hrun, Bool.true_and]
      · cases hc1
    · cases ho

theorem equal_struct {P : Program} {t : TypeId} {fs : Array Field} {offs : List Nat} (hu : P.underlying t = some (.struct fs)) (hst : P.stoodInHeld t = false)
    (ho : intOffs P fs.toList = some offs) (xs ys : Array Value) {K : Bool → Prop} (hk : eqCells offs xs ys K) :
    ∃ r, K r ∧ ∀ w, (Op.equal t (.agg xs) (.agg ys)).run P w = .ok r w := by
  obtain ⟨r, hr, hrun⟩ := equal_fields xs ys _ _ _ ho hk
  refine ⟨r, hr, fun w => ?_⟩
  rw [equal_run, Op.equalIn]; simp only [Sem.run_bind, run_underlying hu, Result.andThen, program, Sem.run, hst, Bool.false_eq_true, if_false]
  rw [← Array.forIn_toList, hrun]
  cases r <;> simp

theorem addr_add (b o n : Nat) : (⟨b, o, none⟩ : Addr).add n = ⟨b, o + n, none⟩ := by
  unfold Addr.add; split
  · simp_all
  · rfl

theorem putAt_length (vs : List Value) : ∀ (l : List Value) (off : Nat), (putAt l off vs).length = l.length := by
  induction vs with
  | nil => intro l off; rfl
  | cons v vs ih => intro l off; simp [putAt, ih]

theorem foldl_putAt (vs : List Value) : ∀ (l : List Value) (off k : Nat),
    (vs.zipIdx k).foldl (fun (cs : Array Value) (x : Value × Nat) => cs.setIfInBounds (off + x.2) x.1) l.toArray = (putAt l (off + k) vs).toArray := by
  induction vs with
  | nil => intro l off k; rfl
  | cons v vs ih =>
    intro l off k
    simp only [List.zipIdx_cons, List.foldl_cons, putAt]
    rw [show (l.toArray.setIfInBounds (off + k) v) = (l.set (off + k) v).toArray from by simp, ih, Nat.add_assoc]

theorem withParts_elim {e : Env} {ps : List (Nat × Nat × Operand)} {cs : List Value} {K : List Value → Prop} (h : withParts e ps cs K) {N : Nat} {a : Act} (hh : Holds N e a)
    {place : Nat → Option (Nat × Nat)} {l : List (Nat × Operand)} (hl : ps = (l.map fun p => ((place p.1).getD (0, 0)).1).zip ((l.map fun p => ((place p.1).getD (0, 0)).2).zip (l.map (·.2))))
    (hp : ∀ p ∈ l, (place p.1).isSome = true) :
    ∃ cs', Instr.fill place cs.toArray (l.map fun p => (p.1, a.eval p.2)) = some cs'.toArray ∧ K cs' := by
  induction l generalizing ps cs with
  | nil => subst hl; exact ⟨cs, rfl, h⟩
  | cons p l ih =>
    obtain ⟨i, x⟩ := p
    obtain ⟨⟨off, size⟩, hpl⟩ := Option.isSome_iff_exists.1 (hp (i, x) (by simp))
    simp only at hpl
    subst hl
    simp only [List.map_cons, List.zip_cons_cons, withParts] at h
    obtain ⟨v, hv, ⟨hs, ho⟩, h⟩ := withV_elim h
    simp only [hpl, Option.getD_some] at hs ho h
    obtain ⟨cs', h1, h2⟩ := ih h rfl (fun p hp' => hp p (by simp [hp']))
    refine ⟨cs', ?_, h2⟩
    have hsz : v.cells.size = size := by simpa [cl] using hs
    simp only [List.map_cons, Instr.fill, hpl, hh.ev hv]
    rw [if_neg (by simp [hsz]; omega)]
    have := foldl_putAt (cl v) cs off 0
    simp only [Nat.add_zero] at this
    have e1 : v.cells.zipIdx.foldl (fun (cs : Array Value) (x : Value × Nat) => cs.setIfInBounds (off + x.2) x.1) cs.toArray = (putAt cs off (cl v)).toArray := by
      rw [← this, ← Array.foldl_toList]; simp [cl]
    rw [e1]
    exact h1

theorem partsS_spec {pl : List (Nat × Nat)} : ∀ {l : List (Nat × Operand)} {ps : List (Nat × Nat × Operand)}, partsS pl l = some ps →
    ps = (l.map fun p => ((pl[p.1]?).getD (0, 0)).1).zip ((l.map fun p => ((pl[p.1]?).getD (0, 0)).2).zip (l.map (·.2))) ∧ ∀ p ∈ l, (pl[p.1]?).isSome = true := by
  intro l
  induction l with
  | nil => intro ps h; simp [partsS] at h; subst h; simp
  | cons p l ih =>
    intro ps h
    obtain ⟨i, x⟩ := p
    simp only [partsS] at h
    split at h
    · rename_i o n l' hi hl
      cases h
      obtain ⟨h1, h2⟩ := ih hl
      refine ⟨by simp [hi, ← h1], fun p hp => ?_⟩
      rcases List.mem_cons.1 hp with rfl | hp
      · simp [hi]
      · exact h2 p hp
    · cases h

theorem partsA_spec (size : Nat) (l : List (Nat × Operand)) :
    partsA size l = (l.map fun p => (((fun i => some (i * size, size)) p.1 : Option (Nat × Nat)).getD (0, 0)).1).zip ((l.map fun p => (((fun i => some (i * size, size)) p.1 : Option (Nat × Nat)).getD (0, 0)).2).zip (l.map (·.2))) := by
  induction l with
  | nil => rfl
  | cons p l ih => simp [partsA] at ih ⊢; exact ih

theorem run_places {P : Program} (fs : List Field) {pl : List (Nat × Nat)} (h : placesT P fs = some pl) (w : World) :
    (fs.mapM fun f => (do pure (f.offset, ← sizeOf f.type) : Sem (Nat × Nat))).run P w = .ok pl w := by
  unfold placesT at h
  induction fs generalizing pl with
  | nil => simp at h; subst h; rfl
  | cons f fs ih =>
    simp only [List.mapM_cons] at h ⊢
    simp only [Option.bind_eq_bind, Option.bind_eq_some_iff] at h
    obtain ⟨p, hp, ps, hps, h⟩ := h
    simp at h; subst h
    simp only [Option.map_eq_some_iff] at hp
    obtain ⟨n, hn, rfl⟩ := hp
    have ih' := ih hps
    simp only [bind_pure_comp] at ih' ⊢
    simp [Sem.run_bind, run_sizeT hn, ih']

theorem run_loadCells_vs {P : Program} {w : World} {b o : Nat} {vs : List Value} (h : ∀ j v, vs[j]? = some v → w.cell? ⟨b, o + j, none⟩ = some v) :
    (loadCells ⟨b, o, none⟩ vs.length).run P w = .ok vs.toArray w := by
  exact run_loadCells_list w ⟨b, o, none⟩ vs (fun j v hj => by rw [addr_add]; exact h j v hj)

/-- **A reading operation does what its word says.** -/
theorem q_sound {P : Program} {o : Oper} {g : GOp} (hc : compileOp P o = some g) (hq : g.quiet = true) {N : Nat} {e : Env} {a : Act} (hh : Holds N e a) {h : Heap} {K : Value → Prop}
    (hv : qvc g e h K) : ∃ v, K v ∧ (∀ r ∈ reads g e v, hcell h r.1 r.2.1 = some r.2.2) ∧ QRun P o a (reads g e v) v := by
  unfold compileOp at hc
  split at hc
  · -- move
    rename_i x hop
    cases hc
    obtain ⟨v, hx, hk⟩ := withV_elim hv
    exact ⟨v, hk, by simp [reads], fun w _ => by simp [execOp, hop, hh.ev hx]⟩
  · rename_i x hop
    cases hc
    obtain ⟨v, hx, hk⟩ := withV_elim hv
    exact ⟨v, hk, by simp [reads], fun w _ => by simp [execOp, hop, hh.ev hx]⟩
  · -- pick
    rename_i c x y hop
    cases hc
    obtain ⟨t, ht, hk⟩ := withB_elim hv
    cases t with
    | true =>
      obtain ⟨v, hx, hk⟩ := withV_elim (hk.1 rfl)
      exact ⟨v, hk, by simp [reads], fun w _ => by simp [execOp, hop, hh.ev hx, hh.ev ht, asBool]⟩
    | false =>
      obtain ⟨v, hx, hk⟩ := withV_elim (hk.2 (by simp))
      exact ⟨v, hk, by simp [reads], fun w _ => by simp [execOp, hop, hh.ev hx, hh.ev ht, asBool]⟩
  · -- binOp
    rename_i op t x y yt hop
    have key : ∀ (g' : GOp), g' = .bin op x y → qvc g' e h K → ∃ v, K v ∧ (∀ r ∈ reads g' e v, hcell h r.1 r.2.1 = some r.2.2) ∧ QRun P o a (reads g' e v) v := by
      rintro g' rfl hv
      obtain ⟨k, n, hx, hk⟩ := withI_elim hv
      obtain ⟨k', m, hy, rfl, hk⟩ := withI_elim hk
      have hrun : ∀ w v, (binOp op t (.int k n) (.int k m)).run P w = .ok v w → (execOp a.eval o).run P w = .ok (.value v) w := by
        intro w v h1
        have hg : (eqGuard op t x y (.int k n) (.int k m)).run P w = .ok () w := by unfold eqGuard; split <;> rfl
        simp [execOp, hop, hh.ev hx, hh.ev hy, hg, h1]
      cases op <;> simp only [binI] at hk <;>
        first
          | exact ⟨_, hk, by simp [reads], fun w _ => hrun w _ (by simp [binOp, Op.intArith, Op.intBits, Op.intCmp])⟩
          | (obtain ⟨hb, hk⟩ := hk; exact ⟨_, hk, by simp [reads], fun w _ => hrun w _ (by simp [binOp, Op.intDiv, hb])⟩)
          | exact hk.elim
    have key2 : ∀ (g' : GOp), (op = .shl ∨ op = .shr) → g' = .shift op x y → qvc g' e h K → ∃ v, K v ∧ (∀ r ∈ reads g' e v, hcell h r.1 r.2.1 = some r.2.2) ∧ QRun P o a (reads g' e v) v := by
      rintro g' hop' rfl hv
      obtain ⟨k, n, hx, hk⟩ := withI_elim hv
      obtain ⟨k', m, hy, hm, hk⟩ := withI_elim hk
      have hm' : ¬ m < 0 := by omega
      have hrun : ∀ w v, (binOp op t (.int k n) (.int k' m)).run P w = .ok v w → (execOp a.eval o).run P w = .ok (.value v) w := by
        intro w v h1
        have hg : (eqGuard op t x y (.int k n) (.int k' m)).run P w = .ok () w := by unfold eqGuard; split <;> rfl
        simp [execOp, hop, hh.ev hx, hh.ev hy, hg, h1]
      rcases hop' with rfl | rfl
      · exact ⟨_, hk, by simp [reads], fun w _ => hrun w _ (by simp [binOp, Op.shift, hm'])⟩
      · exact ⟨_, hk, by simp [reads], fun w _ => hrun w _ (by simp [binOp, Op.shift, hm'])⟩
    have key3 : ∀ (g' : GOp) (ng : Bool), op = (if ng then .neq else .eql) → eqT P ng t x y = some g' → qvc g' e h K → ∃ v, K v ∧ (∀ r ∈ reads g' e v, hcell h r.1 r.2.1 = some r.2.2) ∧ QRun P o a (reads g' e v) v := by
      rintro g' ng hop' hg' hv
      have fin : ∀ (u u' : Value) (r : Bool), ev e x = some u → ev e y = some u' → (∀ w, (eqGuard op t x y u u').run P w = .ok () w) → (∀ w, (Op.equal t u u').run P w = .ok r w) →
          (∀ k n, u ≠ .int k n) → (∀ k n, u ≠ .float k n) → (∀ k n m, u ≠ .complex k n m) → (∀ s, u ≠ .string s) →
          QRun P o a [] (.bool (if ng then !r else r)) := by
        intro u u' r hx hy hg he h1 h2 h3 h4 w _
        have hb : (binOp op t u u').run P w = .ok (.bool (if ng then !r else r)) w := by
          subst hop'
          cases ng <;> cases u <;> simp_all [binOp]
        simp [execOp, hop, hh.ev hx, hh.ev hy, hg w, hb]
      unfold eqT at hg'
      split at hg'
      · -- bool
        rename_i hu
        cases hg'
        obtain ⟨p, hx, hk⟩ := withB_elim hv
        obtain ⟨q, hy, hk⟩ := withB_elim hk
        refine ⟨_, hk, by simp [reads], ?_⟩
        have := fin _ _ (p == q) hx hy (eqGuard_run _ _ _ _ _ _ (by simp) (by simp)) (equal_bool hu p q) (by simp) (by simp) (by simp) (by simp)
        simpa [bne, reads] using this
      · rename_i el hu
        cases hg'
        obtain ⟨u, hx, hk⟩ := withV_elim hv
        obtain ⟨u', hy, hk⟩ := withV_elim hk
        match u, u', hk, hx, hy with
        | .pointer none, .pointer q, hk, hx, hy => exact ⟨_, hk, by simp [reads], fin _ _ _ hx hy (eqGuard_run _ _ _ _ _ _ (by simp) (by simp)) (equal_ptr1 hu _) (by simp) (by simp) (by simp) (by simp)⟩
        | .pointer (some p), .pointer none, hk, hx, hy => exact ⟨_, hk, by simp [reads], fin _ _ _ hx hy (eqGuard_run _ _ _ _ _ _ (by simp) (by simp)) (equal_ptr2 hu _) (by simp) (by simp) (by simp) (by simp)⟩
      · rename_i el hu
        cases hg'
        obtain ⟨u, hx, hk⟩ := withV_elim hv
        obtain ⟨u', hy, hk⟩ := withV_elim hk
        match u, u', hk, hx, hy with
        | .slice none n c, .slice q n' c', hk, hx, hy => exact ⟨_, hk, by simp [reads], fin _ _ _ hx hy (eqGuard_run _ _ _ _ _ _ (by simp) (by simp)) (equal_sl1 hu _ _ _ _ _) (by simp) (by simp) (by simp) (by simp)⟩
        | .slice (some p) n c, .slice none n' c', hk, hx, hy => exact ⟨_, hk, by simp [reads], fin _ _ _ hx hy (eqGuard_run _ _ _ _ _ _ (by simp) (by simp)) (equal_sl2 hu _ _ _ _ _) (by simp) (by simp) (by simp) (by simp)⟩
      · rename_i fs hu
        split at hg'
        · cases hg'
        · rename_i hst
          simp only [Bool.or_eq_true, not_or, Bool.not_eq_true] at hst
          simp only [Option.map_eq_some_iff] at hg'
          obtain ⟨offs, ho, rfl⟩ := hg'
          obtain ⟨xs, hx, hk⟩ := withA_elim hv
          obtain ⟨ys, hy, hk⟩ := withA_elim hk
          obtain ⟨r, hr, hrun⟩ := equal_struct hu hst.2 ho xs ys hk
          exact ⟨_, hr, by simp [reads], fin _ _ _ hx hy (eqGuard_run _ _ _ _ _ _ (by simp) (fun _ => hst.1)) hrun (by simp) (by simp) (by simp) (by simp)⟩
      · cases hg'
    cases op <;> simp only at hc <;> (try split at hc) <;> (try cases hc) <;>
      first
        | exact key _ rfl hv
        | exact key2 _ (.inl rfl) rfl hv
        | exact key2 _ (.inr rfl) rfl hv
        | exact key3 _ false rfl hc hv
        | exact key3 _ true rfl hc hv
  · -- not
    rename_i t x hop
    cases hc
    obtain ⟨b, hx, hk⟩ := withB_elim hv
    exact ⟨_, hk, by simp [reads], fun w _ => by simp [execOp, hop, hh.ev hx, Op.unary]⟩
  · -- neg
    rename_i t x hop
    split at hc
    · cases hc
      obtain ⟨k, n, hx, hk⟩ := withI_elim hv
      exact ⟨_, hk, by simp [reads], fun w _ => by simp [execOp, hop, hh.ev hx, Op.unary, Op.intArith]⟩
    · cases hc
  · -- compl
    rename_i t x hop
    split at hc
    · cases hc
      obtain ⟨k, n, hx, hk⟩ := withI_elim hv
      exact ⟨_, hk, by simp [reads], fun w _ => by simp [execOp, hop, hh.ev hx, Op.unary, Op.intBits]⟩
    · cases hc
  · -- convert
    rename_i s d x hop
    split at hc
    · rename_i k1 k2 hs hd
      cases hc
      obtain ⟨k, n, hx, hk⟩ := withI_elim hv
      exact ⟨_, hk, by simp [reads], fun w _ => by simp [execOp, hop, hh.ev hx, convert, run_underlying hs, run_underlying hd, Conv.intToInt]⟩
    · cases hc
  · -- nilCheck
    rename_i x hop
    cases hc
    obtain ⟨b, off, hx, hk⟩ := withP_elim hv
    exact ⟨_, hk, by simp [reads], fun w _ => by simp [execOp, hop, hh.ev hx]⟩
  · -- fieldAddr
    rename_i s x f hop
    split at hc
    · rename_i fs hs
      split at hc
      · rename_i fl hf
        split at hc
        · rename_i n hn
          cases hc
          obtain ⟨b, off, hx, hk⟩ := withP_elim hv
          refine ⟨_, hk, by simp [reads], fun w _ => ?_⟩
          simp [execOp, hop, hh.ev hx, Instr.fieldAt, run_underlying hs, hf, Instr.sureAddr, fieldPlace, run_sizeT hn, addr_add]
        · cases hc
      · cases hc
    · cases hc
  · -- field
    rename_i s x f hop
    split at hc
    · rename_i fs hs
      split at hc
      · rename_i fl hf
        simp only [Option.map_eq_some_iff] at hc
        obtain ⟨ag, hag, rfl⟩ := hc
        cases ag with
        | none =>
          obtain ⟨cs, hx, hk⟩ := withA_elim hv
          obtain ⟨v, hcv, hk⟩ := withV_elim hk
          refine ⟨_, hk, by simp [reads], fun w _ => ?_⟩
          simp [execOp, hop, hh.ev hx, Instr.field, run_underlying hs, hf, asAgg, part, run_isAggT (aggT_none hag), hcv]
        | some n =>
          obtain ⟨cs, hx, hk⟩ := withA_elim hv
          refine ⟨_, hk, by simp [reads], fun w _ => ?_⟩
          simp [execOp, hop, hh.ev hx, Instr.field, run_underlying hs, hf, asAgg, part, run_isAggT (aggT_some hag).1, run_sizeT (aggT_some hag).2]
      · cases hc
    · cases hc
  · -- indexAddr
    rename_i t x i hop
    split at hc
    · rename_i el hs
      simp only [Option.map_eq_some_iff] at hc
      obtain ⟨n, hn, rfl⟩ := hc
      obtain ⟨ad, len, cap, hx, hk⟩ := withS_elim hv
      obtain ⟨k, ix, hi, hb, hk⟩ := withI_elim hk
      obtain ⟨b, off, rfl, hk⟩ := withAd_elim hk
      refine ⟨_, hk, by simp [reads], fun w _ => ?_⟩
      simp [execOp, hop, hh.ev hx, hh.ev hi, Instr.indexAt, asIntOf, run_underlying hs, run_sizeT hn, addr_add, hb]
    · rename_i len el hs
      simp only [Option.map_eq_some_iff] at hc
      obtain ⟨n, hn, rfl⟩ := hc
      obtain ⟨b, off, hx, hk⟩ := withP_elim hv
      obtain ⟨k, ix, hi, hb, hk⟩ := withI_elim hk
      refine ⟨_, hk, by simp [reads], fun w _ => ?_⟩
      simp [execOp, hop, hh.ev hx, hh.ev hi, Instr.indexAt, asIntOf, Instr.sureAddr, run_underlying hs, run_sizeT hn, addr_add, hb]
    · cases hc
  · -- extract
    rename_i x i hop
    cases hc
    obtain ⟨cs, hx, hk⟩ := withT_elim hv
    obtain ⟨v, hcv, hk⟩ := withV_elim hk
    exact ⟨_, hk, by simp [reads], fun w _ => by simp [execOp, hop, hh.ev hx, Instr.extract, hcv]⟩
  · -- makeFunc
    rename_i fn first captured hop
    cases hc
    obtain ⟨vs, hvs, hk⟩ := withL_elim hv
    obtain ⟨us, hus, hk⟩ := withL_elim hk
    refine ⟨_, hk, by simp [reads], fun w _ => ?_⟩
    have h1 : first.map a.eval = vs.toArray := by rw [← evs hh hvs, ← Array.toList_map, Array.toArray_toList]
    have h2 : captured.map a.eval = us.toArray := by rw [← evs hh hus, ← Array.toList_map, Array.toArray_toList]
    simp [execOp, hop, Instr.makeFunc, h1, h2]
  · -- slice
    rename_i t x lo hi hop
    split at hc
    · rename_i el hs
      simp only [Option.map_eq_some_iff] at hc
      obtain ⟨n, hn, rfl⟩ := hc
      obtain ⟨ad, len, cap, hx, hk⟩ := withS_elim hv
      have hlo : ∀ (z : Option Operand) (d : Nat) (K : Nat → Prop), withLo e z d K → ∃ r, K r ∧ ((z = none ∧ r = d) ∨ ∃ q k i, z = some q ∧ a.eval q = .int k i ∧ 0 ≤ i ∧ r = i.toNat) := by
        intro z d K hz
        cases z with
        | none => exact ⟨d, hz, .inl ⟨rfl, rfl⟩⟩
        | some q =>
          obtain ⟨k, i, hi, h0, hk⟩ := withI_elim hz
          exact ⟨_, hk, .inr ⟨q, k, i, rfl, hh.ev hi, h0, rfl⟩⟩
      obtain ⟨r1, ⟨hc1, hk⟩, h1⟩ := hlo _ _ _ hk
      obtain ⟨r0, ⟨hc0, hk⟩, h0⟩ := hlo _ _ _ hk
      refine ⟨_, hk, by simp [reads], fun w _ => ?_⟩
      have hs2 : (Instr.sliceBounds true len cap (lo.map a.eval) (hi.map a.eval) none).run P w = .ok (r0, r1, cap) w := by
        rcases h1 with ⟨rfl, rfl⟩ | ⟨q, k, i, rfl, hq1, hi0, rfl⟩ <;> rcases h0 with ⟨rfl, rfl⟩ | ⟨q', k', i', rfl, hq1', hi0', rfl⟩
        · simp [Instr.sliceBounds]
        · have e0 : i' ≤ (r1 : Int) := by omega
          simp [Instr.sliceBounds, Instr.sliceBound, asIntOf, hq1', hi0', e0]
        · have e1 : i ≤ (cap : Int) := by omega
          simp [Instr.sliceBounds, Instr.sliceBound, asIntOf, hq1, hi0, e1]
        · have e1 : i ≤ (cap : Int) := by omega
          have e0 : i' ≤ i := by omega
          have e2 : max i 0 = i := by omega
          simp [Instr.sliceBounds, Instr.sliceBound, asIntOf, hq1, hi0, e1, hq1', hi0', e0, e2]
      simp [execOp, hop, hh.ev hx, Instr.sliceAt, Instr.slice, run_underlying hs, run_sizeT hn, hs2]
    · cases hc
  · -- build
    rename_i t parts hop
    split at hc
    · rename_i fs z hu hz
      simp only [Option.bind_eq_some_iff, Option.map_eq_some_iff] at hc
      obtain ⟨pl, hpl, ps, hps, rfl⟩ := hc
      obtain ⟨h1, h2⟩ := partsS_spec hps
      obtain ⟨cs, hf, hk⟩ := withParts_elim hv hh h1 h2
      obtain ⟨zv, hzv, hzr⟩ := run_zeroT hz
      refine ⟨_, hk, by simp [reads], fun w _ => ?_⟩
      have hz2 : zv.cells = z.toArray := by rw [← hzv]; simp [cl]
      have hp := run_places (P := P) fs.toList hpl w
      have hm : (fs.mapM fun f => (do pure (f.offset, ← sizeOf f.type) : Sem (Nat × Nat))).run P w = .ok pl.toArray w := by
        rw [Array.mapM_eq_mapM_toList, Sem.run_map, hp]; rfl
      have hpa : (parts.map fun (x : Nat × Operand) => (x.1, a.eval x.2)).toList = parts.toList.map fun p => (p.1, a.eval p.2) := by simp
      simp only [execOp, hop, Sem.run_bind, Instr.build, hzr, Result.andThen, run_underlying hu, hm, hpa, hz2]
      have hpl2 : (fun (i : Nat) => pl.toArray[i]?) = fun (i : Nat) => pl[i]? := by funext i; simp
      rw [hpl2, hf]
      rfl
    · cases hc
  · -- load
    rename_i t x hop
    simp only [Option.map_eq_some_iff] at hc
    obtain ⟨ag, hag, rfl⟩ := hc
    cases ag with
    | none =>
      obtain ⟨b, off, hx, hk⟩ := withP_elim hv
      obtain ⟨v, hcv, hk⟩ := withV_elim hk
      refine ⟨v, hk, ?_, fun w hw => ?_⟩
      · simp [reads, hx, hcv]
      · have hw' := hw (b, off, v) (by simp [reads, hx])
        simp only [atAddr] at hw'
        simp [execOp, hop, hh.ev hx, Instr.loadAt, Instr.sureAddr, loadVar, run_isAggT (aggT_none hag), hw']
    | some n =>
      obtain ⟨b, off, hx, hk⟩ := withP_elim hv
      obtain ⟨vs, hn, hcv, hk⟩ := withC_elim hk
      have hz : ∀ c j, (c, j) ∈ (cl (Value.agg vs.toArray)).zipIdx → vs[j]? = some c := by
        intro c j hm
        have := List.mem_zipIdx_iff_getElem?.1 hm
        simpa [cl, Value.cells] using this
      refine ⟨_, hk, ?_, fun w hw => ?_⟩
      · intro r hr
        simp only [reads, hx, List.mem_map] at hr
        obtain ⟨⟨c, j⟩, hm, rfl⟩ := hr
        exact hcv j c (hz c j hm)
      · have hw' : ∀ j v, vs[j]? = some v → w.cell? ⟨b, off + j, none⟩ = some v := fun j v hj => by
          have hm : (v, j) ∈ (cl (Value.agg vs.toArray)).zipIdx := List.mem_zipIdx_iff_getElem?.2 (by simpa [cl, Value.cells] using hj)
          exact hw (b, off + j, v) (by simp only [reads, hx, List.mem_map]; exact ⟨(v, j), hm, rfl⟩)
        have hrun := run_loadCells_vs (P := P) hw'
        rw [hn] at hrun
        simp [execOp, hop, hh.ev hx, Instr.loadAt, Instr.sureAddr, loadVar, run_isAggT (aggT_some hag).1, run_sizeT (aggT_some hag).2, hrun]
  · simp only [Option.map_eq_some_iff] at hc
    obtain ⟨_, _, rfl⟩ := hc
    cases hq
  · cases hc; cases hq
  · (repeat' split at hc) <;> cases hc <;> cases hq
  · (repeat' split at hc) <;> cases hc <;> cases hq
  · simp only [Option.map_eq_some_iff] at hc
    obtain ⟨_, _, rfl⟩ := hc
    cases hq
  · -- call: len, max, min
    rename_i c hop
    obtain ⟨callee, args, argTypes⟩ := c
    simp only at hc
    split at hc
    · cases hc; cases hq
    · cases hc; cases hq
    · -- len
      split at hc
      · rename_i x t hargs htys
        split at hc
        · rename_i el hu
          cases hc
          obtain ⟨ad, n, cap, hx, hk⟩ := withS_elim hv
          refine ⟨_, hk, by simp [reads], fun w _ => ?_⟩
          have ha : args = #[x] := by rw [← Array.toArray_toList (xs := args), hargs]
          subst ha
          have ht0 : argTypes[0]? = some t := htys
          simp [execOp, hop, resolve, invoke, builtin, hh.ev hx, Builtin.len_, ht0, run_underlying hu, goInt]
        · cases hc
      · cases hc
    · -- max
      split at hc
      · rename_i x y hargs
        cases hc
        obtain ⟨k, n, hx, hk⟩ := withI_elim hv
        obtain ⟨k', m, hy, hk⟩ := withI_elim hk
        refine ⟨_, hk, by simp [reads], fun w _ => ?_⟩
        have ha : args = #[x, y] := by rw [← Array.toArray_toList (xs := args), hargs]
        subst ha
        simp [execOp, hop, resolve, invoke, builtin, hh.ev hx, hh.ev hy, Builtin.max_, Builtin.max2]
      · cases hc
    · -- min
      split at hc
      · rename_i x y hargs
        cases hc
        obtain ⟨k, n, hx, hk⟩ := withI_elim hv
        obtain ⟨k', m, hy, hk⟩ := withI_elim hk
        refine ⟨_, hk, by simp [reads], fun w _ => ?_⟩
        have ha : args = #[x, y] := by rw [← Array.toArray_toList (xs := args), hargs]
        subst ha
        simp [execOp, hop, resolve, invoke, builtin, hh.ev hx, hh.ev hy, Builtin.min_, Builtin.min2]
      · cases hc
    · (repeat' split at hc) <;> cases hc <;> cases hq
    · cases hc
  · cases hc
end Go.Vc
namespace Go.Vc
open Go

/-! ### Operations that turn the heap: sound -/
theorem hset_size (h : Heap) (b o : Nat) (v : Value) : (hset h b o v).size = h.size := by simp [hset]
theorem hputs_size (vs : List Value) : ∀ (h : Heap) (b o : Nat), (hputs h b o vs).size = h.size := by
  induction vs with
  | nil => intro h b o; rfl
  | cons v vs ih => intro h b o; simp [hputs, ih, hset_size]

theorem hset_get (h : Heap) (b o : Nat) (v : Value) (D : Nat) : (hset h b o v)[D]? = if b = D then (h[D]?).map (hmod o v) else h[D]? := by
  unfold hset; rw [Array.getElem?_modify]

theorem hset_other {h : Heap} {b o : Nat} {v : Value} {D : Nat} (hne : b ≠ D) : (hset h b o v)[D]? = h[D]? := by
  rw [hset_get, if_neg hne]

theorem hset_def {h : Heap} {b o : Nat} {v : Value} {D : Nat} {x : Option (List Deferred)} (hD : h[D]? = some (.deferred x)) : (hset h b o v)[D]? = some (.deferred x) := by
  rw [hset_get]; split <;> simp [hD, hmod]

theorem hset_loop {h : Heap} {b o : Nat} {v : Value} {D : Nat} {x : Loop} (hD : h[D]? = some (.loop x)) : (hset h b o v)[D]? = some (.loop x) := by
  rw [hset_get]; split <;> simp [hD, hmod]

theorem hputs_def {x : Option (List Deferred)} {D : Nat} (vs : List Value) : ∀ {h : Heap} {b o : Nat}, h[D]? = some (.deferred x) → (hputs h b o vs)[D]? = some (.deferred x) := by
  induction vs with
  | nil => intro h b o hD; exact hD
  | cons v vs ih => intro h b o hD; exact ih (hset_def hD)

theorem Blk.set {h : Heap} {b : Nat} {t : TypeId} {c : List Value} (hb : Blk h b t c) (o : Nat) (v : Value) : Blk (hset h b o v) b t (c.set o v) := by
  unfold Blk at *
  rw [hset_get, if_pos rfl, hb]
  simp [hmod]

theorem Wr.set {h : Heap} {b o n : Nat} (hw : Wr h b o n) (o' : Nat) (v : Value) : Wr (hset h b o' v) b o n := by
  obtain ⟨t, c, hb, hl⟩ := hw
  exact ⟨t, _, hb.set o' v, by simpa using hl⟩

theorem Blk.cell {h : Heap} {b : Nat} {t : TypeId} {c : List Value} (hb : Blk h b t c) (o : Nat) : hcell h b o = c[o]? := by
  unfold hcell; rw [show h[b]? = _ from hb]; simp

theorem setCell_heap (w : World) (b o : Nat) (v : Value) : (w.setCell ⟨b, o, none⟩ v).heap = hset w.heap b o v := rfl

theorem like_setCell {y : Option Nat} (w : World) (b o : Nat) (v : Value) : Like y w (w.setCell ⟨b, o, none⟩ v) :=
  ⟨rfl, rfl, rfl, by rw [setCell_heap, hset_size]; exact Nat.le_refl _, fun D hD => by rw [setCell_heap]; exact hset_def hD, fun l r _ hl => by rw [setCell_heap]; exact hset_loop hl⟩

theorem like_push {y : Option Nat} (w : World) (o : Obj) : Like y w { w with heap := w.heap.push o } :=
  ⟨rfl, rfl, rfl, by simp, fun D hD => by
    have := (Array.getElem?_eq_some_iff.1 hD).1
    simp only
    rw [Array.getElem?_push, if_neg (by omega)]; exact hD, fun l r _ hl => by
    have := (Array.getElem?_eq_some_iff.1 hl).1
    simp only
    rw [Array.getElem?_push, if_neg (by omega)]; exact hl⟩

theorem like_draw {y : Option Nat} (w : World) (n : Nat) : Like y w { w with drawn := n } := ⟨rfl, rfl, rfl, Nat.le_refl _, fun _ h => h, fun _ _ _ h => h⟩

theorem run_puts {y : Option Nat} {P : Program} (vs : List Value) : ∀ (i : Nat) (w : World) (b o : Nat), Wr w.heap b (o + i) vs.length → vs.all Value.oneCell' = true →
    ∃ w', (storeCells ⟨b, o, none⟩ vs i).run P w = .ok () w' ∧ w'.heap = hputs w.heap b (o + i) vs ∧ Like y w w' := by
  induction vs with
  | nil => intro i w b o _ _; exact ⟨w, rfl, rfl, .refl _ _⟩
  | cons v vs ih =>
    intro i w b o hw h1
    simp only [List.all_cons, Bool.and_eq_true] at h1
    obtain ⟨t, c, hb, hl⟩ := hw
    simp only [List.length_cons] at hl
    have hcell : w.cell? ⟨b, o + i, none⟩ = some (c[o + i]'(by omega)) := by
      rw [cell?_heap, hb.cell, List.getElem?_eq_getElem]
    have hfro : w.frozen? ⟨b, o + i, none⟩ = false := by
      unfold World.frozen?; rw [show w.heap[b]? = _ from hb]; simp
    have hst : (store ((⟨b, o, none⟩ : Addr).add i) v).run P w = .ok () (w.setCell ⟨b, o + i, none⟩ v) := by
      rw [addr_add, run_store P w _ v _ h1.1, hcell]
      simp [hfro]
    obtain ⟨w', hr, hh, hk⟩ := ih (i + 1) (w.setCell ⟨b, o + i, none⟩ v) b o
      (by rw [setCell_heap]; exact Wr.set ⟨t, c, hb, by omega⟩ _ _) h1.2
    refine ⟨w', ?_, ?_, (like_setCell _ _ _ _).trans hk⟩
    · simp only [storeCells, Sem.run_bind, hst, Result.andThen, hr]
    · rw [hh, setCell_heap]; rfl

/-- How an operation goes. -/
def OpGoes (P : Program) (o : Oper) (a : Act) (w : World) (K : Value → World → Prop) : Prop :=
  match (execOp a.eval o).run P w with
  | .ok (.value v) w' => K v w'
  | .ok .skip w' => K undef w'
  | .ok (.enter f args) w' => Calls P f args w' fun e w'' => ∃ v, e = .returned v ∧ K v w''
  | .ok (.round l fn tmps assign body) w' => RoundIn Fence.wide 0 P l fn tmps assign body w' fun e w'' => ∃ v, e = .returned v ∧ K v w''
  | _ => False

theorem zeroCells_zeros (z : List Value) (hz : 0 < z.length) (k : Nat) : ((Array.range (k * z.length)).map fun i => z.toArray[i % z.length]!) = (zeros z k).toArray := by
  have key : ∀ k, (List.range (k * z.length)).map (fun i => z.toArray[i % z.length]!) = zeros z k := by
    intro k
    induction k with
    | zero => simp [zeros]
    | succ k ih =>
      rw [show (k + 1) * z.length = z.length + k * z.length from by rw [Nat.succ_mul]; omega, List.range_add, List.map_append, zeros, ← ih]
      congr 1
      · apply List.ext_getElem?
        intro i
        by_cases hi : i < z.length
        · simp [hi, Nat.mod_eq_of_lt hi]
        · simp [hi]
      · simp
  apply Array.ext'
  rw [Array.toList_map, Array.toList_range]
  exact key k

theorem range0_map (f : Nat → Value) : (Array.range 0).map f = ([] : List Value).toArray := by
  apply Array.ext'
  simp

theorem cells_array (v : Value) : v.cells = (cl v).toArray := by simp [cl]

theorem nextcap_le (need cap : Nat) (h : cap < need) : Builtin.nextslicecap need cap ≤ 2 * need := by
  unfold Builtin.nextslicecap
  split
  · omega
  · split
    · omega
    · have hg : ∀ r c, c < need → 256 ≤ c → Builtin.growBy need r c ≤ 2 * need := by
        intro r
        induction r with
        | zero => intro c h1 h2; simp [Builtin.growBy]; omega
        | succ r ih =>
          intro c h1 h2
          simp only [Builtin.growBy]
          rw [if_neg (by omega)]
          by_cases hc : c + (c + 768) / 4 < need
          · exact ih _ hc (by omega)
          · cases r with
            | zero => simp [Builtin.growBy]; omega
            | succ r => simp only [Builtin.growBy]; rw [if_pos (by omega)]; omega
      exact hg 4 cap h (by omega)

/-- 'append', run. -/
theorem run_append {y : Option Nat} {P : Program} {st xt el : TypeId} {i : TypeInfo} {z : Value} (hst : P.underlying st = some (.slice el)) {el' : TypeId} (hxt : P.underlying xt = some (.slice el')) (hi : P.info? el = some i) (hz : i.zero = some z)
    (hs : (cl z).length = i.size) (hs0 : 0 < i.size) (hb0 : 0 < i.bytes) (ty : TypeId) (ad : Option Addr) (n c : Nat) (x : Option Addr) (m mc : Nat) (new : List Value) (w : World)
    (hx : (m = 0 ∧ new = []) ∨ ∃ b o, x = some ⟨b, o, none⟩ ∧ new.length = m * i.size ∧ ∀ j v, new[j]? = some v → hcell w.heap b (o + j) = some v)
    (hone : new.all Value.oneCell' = true) {K : Value → Heap → Prop} (hk : appB i.size i.bytes (cl z) w.heap ad n c new m K) :
    ∃ v w', (Builtin.append_ #[st, xt] ty #[.slice ad n c, .slice x m mc]).run P w = .ok v w' ∧ Like y w w' ∧ K v w'.heap := by
  have hni : (match TypeDesc.slice el' with | .int _ => true | _ => false) = false := rfl
  have hsz : ∀ w, (sizeOf el).run P w = .ok i.size w := fun w => by simp [sizeOf, typeInfo, program, Sem.run, hi]
  have hti : ∀ w, (typeInfo el).run P w = .ok i w := fun w => by simp [typeInfo, program, Sem.run, hi]
  have hzv : ∀ w, (zeroValue el).run P w = .ok z w := fun w => by simp [zeroValue, typeInfo, program, Sem.run, hi, hz]
  have hnew : ∀ w1 : World, w1.heap = w.heap → (Builtin.firstCells i.size m (.slice x m mc)).run P w1 = .ok new.toArray w1 := by
    intro w1 hw1
    rcases hx with ⟨rfl, rfl⟩ | ⟨b, o, rfl, hl, hc⟩
    · cases x with
      | none => simp [Builtin.firstCells]
      | some ad => simp [Builtin.firstCells, loadCells, loadCellsFrom, Sem.run_pure]
    · have := run_loadCells_vs (P := P) (w := w1) (b := b) (o := o) (vs := new) (fun j v hj => by rw [cell?_heap, hw1]; exact hc j v hj)
      rw [hl] at this
      simpa [Builtin.firstCells] using this
  have hnl : new.length = m * i.size := by
    rcases hx with ⟨rfl, rfl⟩ | ⟨b, o, rfl, hl, hc⟩
    · simp
    · exact hl
  by_cases hfit : n + m ≤ c
  · have hk := hk.1 hfit
    split at hk
    · rename_i b o hkk
      obtain ⟨hwr, hk⟩ := hk
      obtain ⟨w', hr, hh, hlk⟩ := run_puts (P := P) new 0 w b (o + n * i.size) (by rw [hnl]; exact hwr) hone
      refine ⟨_, w', ?_, hlk, hk _ ⟨hh⟩⟩
      simp [Builtin.append_, run_underlying hst, run_underlying hxt, hsz, Builtin.lenOf, hfit, hnew w rfl, addr_add, hr]
    · rename_i hkk
      obtain ⟨rfl, hk⟩ := hk
      refine ⟨_, w, ?_, .refl _ _, hk⟩
      have hfit' : n ≤ c := by omega
      simp [Builtin.append_, run_underlying hst, run_underlying hxt, hsz, Builtin.lenOf, hfit', hnew w rfl]
    · exact hk.elim
  · obtain ⟨hsize, old, hold0, hk⟩ := hk.2 (by omega)
    have hcap := nextcap_le (n + m) c (by omega)
    have hcap2 : ¬ Builtin.nextslicecap (n + m) c * i.bytes > 2 ^ 48 := by
      have := Nat.mul_le_mul_right i.bytes hcap
      have e : 2 * (n + m) * i.bytes = (n + m) * 2 * i.bytes := by rw [Nat.mul_comm 2]
      omega
    obtain ⟨c', hc'⟩ : ∃ c', c' = (Question.appendCap (n + m) c el).cut (w.tape w.drawn (.appendCap (n + m) c el)) := ⟨_, rfl⟩
    have hle : n + m ≤ c' := by rw [hc']; simp [Question.cut]
    have hroom : ∀ w1, (askRoom (c' * i.bytes)).run P w1 = .ok () w1 := by
      intro w1; unfold askRoom; split <;> rfl
    have hw2 : ({ w with drawn := w.drawn + 1 } : World).heap = w.heap := rfl
    have hchoose : (choose (.appendCap (n + m) c el)).run P w = .ok c' { w with drawn := w.drawn + 1 } := by
      rw [hc']; simp [choose, Sem.run, Question.forced]
    have hfin : ∀ (old : List Value), (Builtin.firstCells i.size n (.slice ad n c)).run P { w with drawn := w.drawn + 1 } = .ok old.toArray { w with drawn := w.drawn + 1 } →
        (Builtin.append_ #[st, xt] ty #[.slice ad n c, .slice x m mc]).run P w = .ok (.slice (some ⟨w.heap.size, 0, none⟩) (n + m) c')
          { w with heap := w.heap.push (.cells (old ++ new ++ zeros (cl z) (c' - (n + m))).toArray el), drawn := w.drawn + 1 } := by
      intro old hold
      have hz2 : Builtin.zeroCells z.cells (c' - (n + m)) = (zeros (cl z) (c' - (n + m))).toArray := by
        unfold Builtin.zeroCells; rw [cells_array]; simpa using zeroCells_zeros (cl z) (by omega) (c' - (n + m))
      have hlt : ¬ (c ≥ n + m) := by omega
      have hbig : ¬ ((9223372036854775807 : Int) < ((n + m : Nat) : Int) ∧ i.bytes = 0) := fun h => by omega
      have hfit2 : c < n + m := by omega
      have hcap3 : ¬ (281474976710656 < Builtin.nextslicecap (n + m) c * i.bytes) := by have := hcap2; omega
      have hnr : ∀ (cs : Array Value) (w1 : World), (newRow el cs).run P w1 = .ok ⟨w1.heap.size, 0, none⟩ { w1 with heap := w1.heap.push (.cells cs el) } := fun cs w1 => rfl
      have hm1 : (IntKind.i64.max : Int) = 9223372036854775807 := by decide
      have hb1 : (i.bytes = 0) = False := by simp; omega
      have hf : (Question.appendCap (n + m) c el).forced = false := rfl
      have hold' : (Builtin.firstCells i.size n (.slice ad n c)).run P w.drew = .ok old.toArray w.drew := hold
      have hnew' := hnew w.drew rfl
      simp [Builtin.append_, run_underlying hst, run_underlying hxt, hsz, Builtin.lenOf, hti, hfit, hcap3, hroom, hold', hnew', hzv, hz2, hb1, hf, ← hc']
      rfl
    have hlike : ∀ o, Like y w { w with heap := w.heap.push o, drawn := w.drawn + 1 } := fun o => (like_draw w (w.drawn + 1)).trans (like_push { w with drawn := w.drawn + 1 } o)
    have hold : (Builtin.firstCells i.size n (.slice ad n c)).run P { w with drawn := w.drawn + 1 } = .ok old.toArray { w with drawn := w.drawn + 1 } := by
      rcases hold0 with ⟨rfl, rfl, rfl⟩ | ⟨b, o, rfl, hol, hoc⟩
      · simp [Builtin.firstCells]
      · have := run_loadCells_vs (P := P) (w := { w with drawn := w.drawn + 1 }) (b := b) (o := o) (vs := old) (fun j v hj => by rw [cell?_heap]; exact hoc j v hj)
        rw [hol] at this
        simpa [Builtin.firstCells] using this
    exact ⟨_, _, hfin old hold, hlike _, hk c' _ _ hle ⟨rfl, _, rfl⟩⟩

/-- **What an operation does.** -/
theorem g_sound {P : Program} {y : Option Nat} {o : Oper} {g : GOp} (hc : compileOp P o = some g) {N : Nat} {e : Env} {a : Act} (hh : Holds N e a) {w : World} {K : Value → Heap → Prop}
    (hv : gvc P y g e w.heap K) : OpGoes P o a w fun v w' => Like y w w' ∧ K v w'.heap := by
  by_cases hq : g.quiet = true
  · have hv' : qvc g e w.heap fun v => K v w.heap := by cases g <;> first | exact hv | cases hq
    obtain ⟨v, hk, hr, hrun⟩ := q_sound hc hq hh hv'
    have := hrun w (fun r hr' => by unfold atAddr; rw [cell?_heap]; exact hr r hr')
    unfold OpGoes
    rw [this]
    exact ⟨.refl _ _, hk⟩
  · have hns : ∀ {t : TypeId} {v : Value} {el : TypeId} (cs : Array Value) (w : World), (newRow el cs).run P w = .ok ⟨w.heap.size, 0, none⟩ { w with heap := w.heap.push (.cells cs el) } := fun _ _ => rfl
    unfold compileOp at hc
    split at hc
    · cases hc; exact absurd rfl hq
    · cases hc; exact absurd rfl hq
    · cases hc; exact absurd rfl hq
    · rename_i op t x y yt hop
      exfalso
      cases op <;> simp only [eqT] at hc <;> (repeat' split at hc) <;> first | (cases hc; exact hq rfl) | cases hc | (simp only [Option.map_eq_some_iff] at hc; obtain ⟨_, _, rfl⟩ := hc; exact hq rfl)
    · cases hc; exact absurd rfl hq
    · split at hc <;> cases hc; exact absurd rfl hq
    · split at hc <;> cases hc; exact absurd rfl hq
    · split at hc <;> cases hc; exact absurd rfl hq
    · cases hc; exact absurd rfl hq
    · (repeat' split at hc) <;> cases hc; exact absurd rfl hq
    · (repeat' split at hc) <;> first | cases hc | (simp only [Option.map_eq_some_iff] at hc; obtain ⟨_, _, rfl⟩ := hc; exact absurd rfl hq)
    · (repeat' split at hc) <;> first | cases hc | (simp only [Option.map_eq_some_iff] at hc; obtain ⟨_, _, rfl⟩ := hc; exact absurd rfl hq)
    · cases hc; exact absurd rfl hq
    · cases hc; exact absurd rfl hq
    · (repeat' split at hc) <;> first | cases hc | (simp only [Option.map_eq_some_iff] at hc; obtain ⟨_, _, rfl⟩ := hc; exact absurd rfl hq)
    · split at hc
      · simp only [Option.bind_eq_some_iff, Option.map_eq_some_iff] at hc
        obtain ⟨_, _, _, _, rfl⟩ := hc; exact absurd rfl hq
      · cases hc
    · simp only [Option.map_eq_some_iff] at hc; obtain ⟨_, _, rfl⟩ := hc; exact absurd rfl hq
    · -- alloc
      rename_i t hop
      simp only [Option.map_eq_some_iff] at hc
      obtain ⟨z, hz, rfl⟩ := hc
      obtain ⟨zv, hzv, hzr⟩ := run_zeroT hz
      have hz2 : zv.cells = z.toArray := by rw [← hzv]; simp [cl]
      have : (execOp a.eval o).run P w = .ok (.value (.pointer (some ⟨w.heap.size, 0, none⟩))) { w with heap := w.heap.push (.cells z.toArray t) } := by
        simp [execOp, hop, Instr.alloc, hzr, newVar, hz2]
        rfl
      unfold OpGoes; rw [this]
      exact ⟨like_push _ _, hv _ _ ⟨rfl, _, rfl⟩⟩
    · -- box
      rename_i t x hop
      cases hc
      obtain ⟨v, hx, hk⟩ := withV_elim hv
      have : (execOp a.eval o).run P w = .ok (.value (.pointer (some ⟨w.heap.size, 0, none⟩))) { w with heap := w.heap.push (.cells v.cells t) } := by
        simp [execOp, hop, Instr.box, newVar, hh.ev hx]
        rfl
      unfold OpGoes; rw [this]
      exact ⟨like_push _ _, hk _ _ ⟨rfl, t, by rw [cells_array]⟩⟩
    · -- buildSlice
      rename_i t len parts hop
      split at hc
      · rename_i el hu
        split at hc
        · rename_i n z hn hz
          split at hc
          · rename_i hle
            cases hc
            obtain ⟨cs, hf, hk⟩ := withParts_elim (place := fun i => some (i * (n + 1), n + 1)) (l := parts.toList) hv hh (partsA_spec _ _) (fun p _ => rfl)
            obtain ⟨zv, hzv, hzr⟩ := run_zeroT hz
            have hz2 : zv.cells = z.toArray := by rw [← hzv]; simp [cl]
            have hpa : (parts.map fun (x : Nat × Operand) => (x.1, a.eval x.2)).toList = parts.toList.map fun p => (p.1, a.eval p.2) := by simp
            have hzz := zeroCells_zeros z (by omega) len
            rw [hle.2] at hzz
            have : (execOp a.eval o).run P w = .ok (.value (.slice (some ⟨w.heap.size, 0, none⟩) len len)) { w with heap := w.heap.push (.cells cs.toArray el) } := by
              have hn' : ¬ (len * (n + 1) > 2 ^ 24) := by omega
              have hn2 : n.succ = n + 1 := rfl
              simp only [execOp, hop, Sem.run_bind, Instr.buildSlice, run_underlying hu, Result.andThen, run_sizeT hn, hn2]
              rw [if_neg hn']
              by_cases h0 : len * (n + 1) = 0
              · have hl0 : len = 0 := by
                  rcases Nat.mul_eq_zero.1 h0 with h | h
                  · exact h
                  · omega
                subst hl0
                simp only [zeros] at hf
                rw [if_pos h0]
                simp only [Sem.run_bind, Sem.run_pure, Result.andThen, hpa, Nat.zero_mul]
                rw [range0_map, hf]
                rfl
              · rw [if_neg h0]
                simp only [Sem.run_bind, hzr, Sem.run_pure, Result.andThen, hpa, hz2]
                rw [show z.toArray.size = n + 1 from by simp [hle.2], hzz, hf]
                rfl
            unfold OpGoes; rw [this]
            exact ⟨like_push _ _, hk _ _ ⟨rfl, _, rfl⟩⟩
          · cases hc
        · cases hc
      · cases hc
    · -- makeSlice
      rename_i t l c hop
      split at hc
      · rename_i el hu
        split at hc
        · rename_i i hi
          split at hc
          · rename_i z hz
            split at hc
            · rename_i hcond
              cases hc
              obtain ⟨kl, ln, hl, hk⟩ := withI_elim hv
              obtain ⟨kc, cn, hcp, ⟨h0, h1, h2, h3⟩, hk⟩ := withI_elim hk
              have hwl : IntKind.i64.wrap ln = ln := by rw [IntKind.wrap_i64]; omega
              have hwc : IntKind.i64.wrap cn = cn := by rw [IntKind.wrap_i64]; omega
              have hb0 : (0 : Int) ≤ i.bytes * ln := Int.mul_nonneg (by omega) h0
              have hbl : (i.bytes : Int) * ln ≤ i.bytes * cn := Int.mul_le_mul_of_nonneg_left h1 (by omega)
              have hroom : (askRoom (cn.toNat * i.bytes)).run P w = .ok () w := by unfold askRoom; split <;> rfl
              have hzz := zeroCells_zeros (cl z) (by omega) cn.toNat
              rw [hcond.1] at hzz
              have : (execOp a.eval o).run P w = .ok (.value (.slice (some ⟨w.heap.size, 0, none⟩) ln.toNat cn.toNat)) { w with heap := w.heap.push (.cells (zeros (cl z) cn.toNat).toArray el) } := by
                have hsz : ∀ w, (sizeOf el).run P w = .ok i.size w := fun w => by simp [sizeOf, typeInfo, program, Sem.run, hi]
                have hti : ∀ w, (typeInfo el).run P w = .ok i w := fun w => by simp [typeInfo, program, Sem.run, hi]
                have hzv : ∀ w, (zeroValue el).run P w = .ok z w := fun w => by simp [zeroValue, typeInfo, program, Sem.run, hi, hz]
                have hc1 : ((decide (cn < 0) || decide ((i.bytes : Int) * cn > 2 ^ 48)) || decide (ln < 0) || decide (ln > cn)) = true → False := by
                  simp; omega
                simp only [execOp, hop, Sem.run_bind, Instr.makeSlice, run_underlying hu, Result.andThen, hh.ev hl, hh.ev hcp, asInt, asIntOf, hti, Sem.run_pure, Sem.run_map]
                rw [hwl, hwc]
                rw [if_neg (fun h => hc1 (by simpa using h))]
                simp only [Sem.run_bind, hroom, Result.andThen, hsz]
                by_cases h0 : cn.toNat * i.size = 0
                · have hl0 : cn.toNat = 0 := by
                    rcases Nat.mul_eq_zero.1 h0 with h | h
                    · exact h
                    · omega
                  rw [if_pos h0, hl0]
                  simp only [Sem.run_bind, Sem.run_pure, Result.andThen, Nat.zero_mul, zeros]
                  rw [range0_map]
                  rfl
                · rw [if_neg h0]
                  simp only [Sem.run_bind, hzv, Sem.run_pure, Result.andThen, cells_array]
                  rw [show (cl z).toArray.size = i.size from by simp [hcond.1], hzz]
                  rfl
              unfold OpGoes; rw [this]
              exact ⟨like_push _ _, hk _ _ ⟨rfl, _, rfl⟩⟩
            · cases hc
          · cases hc
        · cases hc
      · cases hc
    · -- store
      rename_i t x v hop
      simp only [Option.map_eq_some_iff] at hc
      obtain ⟨n, hn, rfl⟩ := hc
      obtain ⟨b, off, hx, hk⟩ := withP_elim hv
      obtain ⟨u, hu, ⟨hlen, hone⟩, hwr, hk⟩ := withV_elim hk
      obtain ⟨w', hr, hhp, hlk⟩ := run_puts (P := P) (cl u) 0 w b off (by rw [hlen]; exact hwr) hone
      have : (execOp a.eval o).run P w = .ok .skip w' := by
        have hs : ¬ (u.cells.size ≠ n) := by simp [← hlen, cl]
        have hr' : (storeCells ⟨b, off, none⟩ u.cells.toList).run P w = .ok () w' := hr
        simp [execOp, hop, hh.ev hx, hh.ev hu, Instr.storeAt, Instr.sureAddr, storeVar, run_sizeT hn, hs, hr']
      unfold OpGoes; rw [this]
      exact ⟨hlk, hk _ ⟨hhp⟩⟩
    · -- call
      rename_i c hop
      obtain ⟨callee, args, argTypes⟩ := c
      simp only at hc
      have enter : ∀ (d : Deferred) (f : FuncId) (vs : Array Value), goodF P f = true → (resolve a.eval { callee, args, argTypes } o.type).run P w = .ok d w → (invoke d.target d.args = callFunc f vs) →
          (∀ w1, w1.heap = w.heap → Calls P f vs w1 fun e w'' => ∃ v, e = .returned v ∧ (K v w''.heap) ∧ Like none w1 w'') → OpGoes P o a w fun v w' => Like y w w' ∧ K v w'.heap := by
        intro d f vs hg hres hinv hcall
        unfold goodF at hg
        split at hg
        · rename_i fn hfn
          simp only [Bool.and_eq_true, bne_iff_ne, ne_eq] at hg
          have hbn : ¬ fn.body = none := by intro hb; rw [hb] at hg; exact absurd hg.2 (by simp)
          have hnm : ¬ fn.name = "runtime.NumGoroutine" := hg.1
          have hrun : (execOp a.eval o).run P w = .ok (.enter f vs) w := by
            simp only [execOp, hop, Sem.run_bind, hres, Result.andThen, hinv]
            simp [callFunc, program, Sem.run, hfn, hnm, hbn]
          unfold OpGoes; rw [hrun]
          exact (hcall w rfl).mono fun e w'' ⟨v, h1, h2, h3⟩ => ⟨v, h1, h3.any, h2⟩
        · cases hg
      split at hc
      · cases hc
        rename_i f
        obtain ⟨vs, hvs, hk⟩ := withL_elim hv
        have hargs : args.map a.eval = vs.toArray := by rw [← evs hh hvs, ← Array.toList_map, Array.toArray_toList]
        refine enter { target := .fn (.func f) #[], args := vs.toArray } f vs.toArray hk.1 ?_ ?_ hk.2
        · simp [resolve, hargs, Act.eval, Deferred.ofValue]
        · simp [invoke]
      · rename_i x hx0
        cases hc
        obtain ⟨fv, hx, hk⟩ := withV_elim hv
        obtain ⟨vs, hvs, hk⟩ := withL_elim hk
        have hargs : args.map a.eval = vs.toArray := by rw [← evs hh hvs, ← Array.toList_map, Array.toArray_toList]
        split at hk
        · rename_i f first captured hkk
          refine enter { target := .fn (.func f) captured, args := first ++ vs.toArray } f (first ++ vs.toArray ++ captured) hk.1 ?_ ?_ hk.2
          · simp [resolve, hargs, hh.ev hx, Deferred.ofValue]
          · simp [invoke]
        · rename_i l first captured hkk
          obtain ⟨rfl, hk⟩ := hk
          obtain ⟨fn, tmps, assign, body, h1, h2⟩ := hk w rfl
          have hrun : (execOp a.eval o).run P w = .ok (.round l fn tmps assign body) w := by
            simp [execOp, hop, resolve, hargs, hh.ev hx, Deferred.ofValue, invoke, h1]
          unfold OpGoes; rw [hrun]
          exact h2.mono fun e w'' ⟨v, h1, h2, h3⟩ => ⟨v, h1, h3, h2⟩
        · exact hk.elim
      · (repeat' split at hc) <;> cases hc; exact absurd rfl hq
      · (repeat' split at hc) <;> cases hc; exact absurd rfl hq
      · (repeat' split at hc) <;> cases hc; exact absurd rfl hq
      · -- append
        split at hc
        · rename_i s x st xt hargs htys
          split at hc
          · rename_i el el' hst hxt
            split at hc
            · rename_i i hi
              split at hc
              · rename_i z hz
                split at hc
                · rename_i hcond
                  cases hc
                  obtain ⟨ad, n, c, hs, hk⟩ := withS_elim hv
                  obtain ⟨ad', m, mc, hx, hk⟩ := withS_elim hk
                  have ha : args = #[s, x] := by rw [← Array.toArray_toList (xs := args), hargs]
                  have ht : argTypes = #[st, xt] := by rw [← Array.toArray_toList (xs := argTypes), htys]
                  subst ha ht
                  have fin : ∀ new, ((m = 0 ∧ new = []) ∨ ∃ b o, ad' = some ⟨b, o, none⟩ ∧ new.length = m * i.size ∧ ∀ j v, new[j]? = some v → hcell w.heap b (o + j) = some v) → new.all Value.oneCell' = true →
                      appB i.size i.bytes (cl z) w.heap ad n c new m K → OpGoes P o a w fun v w' => Like y w w' ∧ K v w'.heap := by
                    intro new h1 h2 h3
                    obtain ⟨v, w', hr, hl, hk⟩ := run_append hst hxt hi hz hcond.1 hcond.2.1 hcond.2.2 o.type ad n c ad' m mc new w h1 h2 h3
                    have hrun : (execOp a.eval o).run P w = .ok (.value v) w' := by
                      simp [execOp, hop, resolve, invoke, builtin, hh.ev hs, hh.ev hx, hr]
                    unfold OpGoes; rw [hrun]
                    exact ⟨hl, hk⟩
                  by_cases hm0 : m = 0
                  · exact fin [] (.inl ⟨hm0, rfl⟩) rfl (hk.1 hm0)
                  · obtain ⟨b', o', had, hk2⟩ := withAd_elim (hk.2 hm0)
                    obtain ⟨new, hnl, hnc, hone, hk3⟩ := withC_elim hk2
                    exact fin new (.inr ⟨b', o', had, hnl, hnc⟩) hone hk3
                · cases hc
              · cases hc
            · cases hc
          · cases hc
        · cases hc
      · cases hc
    · cases hc
end Go.Vc
namespace Go.Vc
open Go

/-! ### The fences -/
/-- The fence that shuts out nothing, in a round or in none. -/
def fw (ro : Option Nat) : Fence := { fn := fun _ => True, depth := none, alive := false, round := ro }

theorem fw_none : fw none = Fence.wide := rfl
theorem room_fw (ro : Option Nat) (n : Nat) : (fw ro).room n := fun _ h => by simp [fw] at h

theorem callsIn_fw {ro : Option Nat} {n : Nat} {P : Program} {f : FuncId} {args : Array Value} {w : World} {R : Ending → World → Prop} (h : Calls P f args w R) : CallsIn (fw ro) n P f args w R :=
  ⟨trivial, fun cs _ => ((callsIn_wide (n := n)).2 h).2 cs (room_wide _)⟩

theorem roundIn_fw {ro : Option Nat} {n m : Nat} {P : Program} {l : Nat} {fn : FuncId} {tmps : Array Value} {assign body : Code} {w : World} {R : Ending → World → Prop}
    (h : RoundIn Fence.wide m P l fn tmps assign body w R) : RoundIn (fw ro) n P l fn tmps assign body w R :=
  ⟨trivial, fun c cs _ => h.2 c cs (room_wide _)⟩

/-- An operation that goes, inside the fence. -/
theorem OpGoes.wpIn {P : Program} {o : Oper} {a : Act} {w : World} {K : Value → World → Prop} (h : OpGoes P o a w K) (hd : ∀ c, o.op ≠ .defer c) {ro : Option Nat} {n : Nat} {next : Act → World → Prop} {Q : Exit → Act → World → Prop}
    (hn : ∀ v w', K v w' → next (a.put o.dst v) w') : o.wpIn (fw ro) n P a w next Q := by
  refine ⟨fun _ _ => trivial, ?_⟩
  rw [Oper.semAt_eq _ _ _ hd]
  unfold OpGoes at h
  generalize (execOp a.eval o).run P w = r at *
  cases r with
  | halt x w' => exact h.elim
  | ok x w' =>
    cases x <;> simp only at h <;> simp only [Oper.uponIn]
    case value v => exact hn _ _ h
    case skip => exact hn _ _ h
    case enter f args =>
      refine ⟨fun hs => by simp [fw] at hs, (callsIn_fw h).mono ?_⟩
      rintro e w'' ⟨v, rfl, hk⟩
      exact hn _ _ hk
    case round l fn tmps assign body =>
      refine ⟨fun hs => by simp [fw] at hs, (roundIn_fw h).mono ?_⟩
      rintro e w'' ⟨v, rfl, hk⟩
      exact hn _ _ hk

theorem compile_noDefer {P : Program} {o : Oper} {g : GOp} (h : compileOp P o = some g) : ∀ c, o.op ≠ .defer c := by
  intro c hc; unfold compileOp at h; rw [hc] at h; cases h
theorem compile_noSelect {P : Program} {o : Oper} {g : GOp} (h : compileOp P o = some g) : ∀ cs b, o.op ≠ .select cs b := by
  intro cs b hc; unfold compileOp at h; rw [hc] at h; cases h

/-! ### Compiled regions -/
structure GI where
  idx : Nat
  dst : Option Nat
  guard : Option (Nat × Bool)
  op : GOp
  chk : List Nat := []
  w : Bool := false

inductive GR where
  | done
  | op (i : GI) (rest : GR)
  | two (a b : GR)

abbrev Watch := List (Nat × List (Nat × Nat × Value))

def allAt (rs : List (Nat × Nat × Value)) (h : Heap) : Prop :=
  match rs with
  | [] => True
  | (b, o, v) :: rs => hcell h b o = some v ∧ allAt rs h

def wfind : Watch → Nat → List (Nat × Nat × Value)
  | [], _ => []
  | (k, rs) :: W, j => if k = j then rs else wfind W j

/-- What was read of these operations lies as it lay. -/
def chkW (l : List Nat) (W : Watch) (h : Heap) (K : Prop) : Prop :=
  match l with
  | [] => K
  | j :: l => Chk (allAt (wfind W j) h) (chkW l W h K)

def withG (x : Option Value) (want : Bool) (A B : Prop) (_ : Dep A := .mk) (_ : Dep B := .mk) : Prop :=
  match x with
  | some (.bool b) => If (b = want) A B
  | some (.tuple _) => B
  | _ => False

theorem withG_bool (b want : Bool) (A B : Prop) (d : Dep A) (d' : Dep B) : withG (some (.bool b)) want A B d d' = If (b = want) A B := (rfl)
theorem withG_undef (want : Bool) (A B : Prop) (d : Dep A) (d' : Dep B) : withG (some undef) want A B d d' = B := (rfl)
theorem withG_tuple (cs : Array Value) (want : Bool) (A B : Prop) (d : Dep A) (d' : Dep B) : withG (some (.tuple cs)) want A B d d' = B := (rfl)

def guarded (gd : Option (Nat × Bool)) (e : Env) (A B : Prop) : Prop :=
  match gd with
  | none => A
  | some (s, want) => withG (find e s) want A B

def addW (i : GI) (W : Watch) (e : Env) (v : Value) : Watch := if i.w then (i.idx, reads i.op e v) :: W else W

def rvc (P : Program) (y : Option Nat) : GR → Watch → Env → Heap → (Env → Heap → Prop) → Prop
  | .done, _, e, h, K => K e h
  | .op i r, W, e, h, K => guarded i.guard e
      (gvc P y i.op e h fun v h' => chkW i.chk W h' (rvc P y r (addW i W e v) (eput e i.dst v) h' K))
      (rvc P y r W (eput e i.dst undef) h K)
  | .two a b, W, e, h, K => rvc P y a W e h K ∧ rvc P y b W e h K

def guardOf (ops : Array Oper) (o : Oper) : Option (Option (Nat × Bool)) :=
  match o.guard with
  | none => some none
  | some (j, want) => match (ops[j]?).bind (·.dst) with
    | some s => some (some (s, want))
    | none => none

def mkGI (P : Program) (N : Nat) (ops : Array Oper) (i : Nat) (chk : List Nat) (w : Bool) : Option GI :=
  match ops[i]? with
  | some o => match compileOp P o, guardOf ops o, (match o.dst with | some d => decide (d < N) | none => true) with
    | some g, some gd, true => some { idx := i, dst := o.dst, guard := gd, op := g, chk, w }
    | _, _, _ => none
  | none => none

/-- A region whose order is that of the text. -/
def lineR (P : Program) (N : Nat) (ops : Array Oper) : List Nat → Option GR
  | [] => some .done
  | i :: l => match mkGI P N ops i [] false, lineR P N ops l with
    | some g, some r => some (.op g r)
    | _, _ => none

theorem mkGI_spec {P : Program} {N : Nat} {ops : Array Oper} {i : Nat} {chk : List Nat} {w : Bool} {g : GI} (h : mkGI P N ops i chk w = some g) :
    ∃ o, ops[i]? = some o ∧ compileOp P o = some g.op ∧ guardOf ops o = some g.guard ∧ (∀ d, o.dst = some d → d < N) ∧ g.dst = o.dst ∧ g.idx = i ∧ g.chk = chk ∧ g.w = w := by
  unfold mkGI at h
  split at h
  · rename_i o ho
    split at h
    · rename_i g' gd hc hg hd
      cases h
      exact ⟨o, ho, hc, hg, fun d hd' => by simpa [hd'] using hd, rfl, rfl, rfl, rfl⟩
    · cases h
  · cases h

/-- The guard, in the frame and in the environment. -/
theorem guard_sound {N : Nat} {ops : Array Oper} {o : Oper} {gd : Option (Nat × Bool)} (hg : guardOf ops o = some gd) {e : Env} {a : Act} (hh : Holds N e a) {A B : Prop} (h : guarded gd e A B) :
    (Region.wanted o (yielded ops a.tmps) = true ∧ A) ∨ (Region.wanted o (yielded ops a.tmps) = false ∧ B) := by
  unfold guardOf at hg
  unfold Region.wanted
  split at hg
  · rename_i hn
    cases hg
    exact .inl ⟨by rw [hn], h⟩
  · rename_i j want hs
    split at hg
    · rename_i s hd
      cases hg
      rw [hs]
      show ((yielded ops a.tmps j == some want) = true ∧ A) ∨ ((yielded ops a.tmps j == some want) = false ∧ B)
      unfold guarded withG at h
      simp only at h
      split at h
      · rename_i b hv
        have hx := hh.2 s _ hv
        have hy : yielded ops a.tmps j = some b := by
          unfold yielded
          rw [hd]
          simp only [Option.bind_some]
          have : a.tmps[s]? = some (.bool b) := by
            cases ht : a.tmps[s]? with
            | none => simp [ht, undef] at hx
            | some u => simp [ht] at hx; rw [hx]
          rw [this]
        by_cases hbw : b = want
        · exact .inl ⟨by rw [hy, hbw]; simp, h.1 hbw⟩
        · exact .inr ⟨by rw [hy]; simpa using hbw, h.2 hbw⟩
      · rename_i cs hv
        have hx := hh.2 s _ hv
        refine .inr ⟨?_, h⟩
        have hy : yielded ops a.tmps j = none := by
          unfold yielded
          rw [hd]
          simp only [Option.bind_some]
          cases ht : a.tmps[s]? with
          | none => rfl
          | some u => simp [ht] at hx; rw [hx]
        rw [hy]; rfl
      · exact h.elim
    · cases hg

/-- What holds at a region's (a piece of code's) normal end: what the word says. -/
def After (y : Option Nat) (N : Nat) (w0 : World) (a0 : Act) (K : Env → Heap → Prop) (a : Act) (w : World) : Prop :=
  ∃ e, Holds N e a ∧ a.defers = a0.defers ∧ Like y w0 w ∧ K e w.heap

theorem put_defers (a : Act) (d : Option Nat) (v : Value) : (a.put d v).defers = a.defers := by cases d <;> rfl

theorem line_sound {y : Option Nat} {P : Program} {N n : Nat} {ops : Array Oper} {ro : Option Nat} {Q : Exit → Act → World → Prop} {w0 : World} {a0 : Act} {K : Env → Heap → Prop} (hQ : ∀ a w, After y N w0 a0 K a w → Q .normal a w) :
    ∀ (l : List Nat) (r : GR) (e : Env) (a : Act) (w : World), lineR P N ops l = some r → rvc P y r [] e w.heap K → Holds N e a → a.defers = a0.defers → Like y w0 w → wpOpsIn (fw ro) n P ops Q l a w := by
  intro l
  induction l with
  | nil =>
    intro r e a w hr hv hh hd hl
    cases hr
    exact hQ _ _ ⟨e, hh, hd, hl, hv⟩
  | cons i l ih =>
    intro r e a w hr hv hh hd hl
    simp only [lineR] at hr
    split at hr
    · rename_i g r' hg hr'
      cases hr
      obtain ⟨o, ho, hc, hgd, hdst, e1, _, e2, e3⟩ := mkGI_spec hg
      simp only [wpOpsIn, ho]
      rcases guard_sound hgd hh hv with ⟨hw, hv⟩ | ⟨hw, hv⟩
      · rw [if_pos hw]
        refine (g_sound hc hh hv).wpIn (compile_noDefer hc) ?_
        rintro v w' ⟨hl', hk⟩
        rw [e2] at hk
        have hk' : rvc P y r' (addW g [] e v) (eput e g.dst v) w'.heap K := hk
        rw [show addW g [] e v = [] from by unfold addW; rw [e3]; rfl, e1] at hk'
        exact ih _ _ _ _ hr' hk' (hh.put hdst v) (by rw [put_defers]; exact hd) (hl.trans hl')
      · rw [if_neg (by rw [hw]; simp)]
        rw [e1] at hv
        exact ⟨fun _ _ => trivial, ih _ _ _ _ hr' hv (hh.put hdst undef) (by rw [put_defers]; exact hd) hl⟩
    · cases hr
end Go.Vc
namespace Go.Vc
open Go

/-! ### A region that draws its order: reading operations are taken first, whatever the order -/
section
variable {P : Program} {ops : Array Oper} {Q : Exit → Act → World → Prop} {ro : Option Nat} {n : Nat}

def behind (ops : Array Oper) (i k : Nat) : Bool :=
  match ops[i]? with
  | some o => o.after.any fun e => Region.binds .any e && e.on == k
  | none => false

/-- What was read of operations that i does not stand behind lies as it lay. -/
def keepsW (ops : Array Oper) (i : Nat) (W : Watch) (w w' : World) : Prop :=
  ∀ x ∈ W, behind ops i x.1 = false → (∀ r ∈ x.2, atAddr r w) → ∀ r ∈ x.2, atAddr r w'

def Any (P : Program) (ops : Array Oper) (Q : Exit → Act → World → Prop) (ro : Option Nat) (n : Nat) : Nat → Watch → Array Bool → Act → World → Prop
  | 0, _, listed, a, w => Region.ready .any ops listed = [] ∧ Q .normal a w
  | fuel + 1, W, listed, a, w =>
    (Region.ready .any ops listed = [] → Q .normal a w) ∧
    ∀ i ∈ Region.ready .any ops listed, wpOpIn (fw ro) n P ops Q i (fun a' w' => keepsW ops i W w w' ∧ Any P ops Q ro n fuel W (listed.setIfInBounds i true) a' w') a w

theorem Any.any : ∀ (fuel : Nat) (W : Watch) (listed : Array Bool) (a : Act) (w : World), Any P ops Q ro n fuel W listed a w → wpAnyIn (fw ro) n P .any ops Q fuel listed a w
  | 0, _, _, _, _, h => h
  | fuel + 1, _, _, _, _, h => ⟨h.1, fun i hi => wpOpIn_mono (fun a' w' hk => Any.any fuel _ _ a' w' hk.2) (h.2 i hi)⟩

theorem Any.more_nil {i : Nat} : ∀ (fuel : Nat) (W : Watch) (listed : Array Bool) (a : Act) (w : World), Any P ops Q ro n fuel W listed a w → Any P ops Q ro n fuel ((i, []) :: W) listed a w
  | 0, _, _, _, _, h => h
  | fuel + 1, _, _, _, _, h => ⟨h.1, fun j hj => wpOpIn_mono (fun a' w' hk => ⟨fun y hy => by
      rcases List.mem_cons.1 hy with rfl | hy
      · intro _ _ r hr; cases hr
      · exact hk.1 y hy, Any.more_nil fuel _ _ a' w' hk.2⟩) (h.2 j hj)⟩

theorem Any.less {x : Nat × List (Nat × Nat × Value)} : ∀ (fuel : Nat) (W : Watch) (listed : Array Bool) (a : Act) (w : World), Any P ops Q ro n fuel (x :: W) listed a w → Any P ops Q ro n fuel W listed a w
  | 0, _, _, _, _, h => h
  | fuel + 1, _, _, _, _, h => ⟨h.1, fun i hi => wpOpIn_mono (fun a' w' hk => ⟨fun y hy => hk.1 y (List.mem_cons_of_mem _ hy), Any.less fuel _ _ a' w' hk.2⟩) (h.2 i hi)⟩

/-- In this state, where these cells are read, the operation yields v and leaves the world alone. -/
def YieldsR (P : Program) (ops : Array Oper) (o : Oper) (a : Act) (R : List (Nat × Nat × Value)) (v : Value) : Prop :=
  (Region.wanted o (yielded ops a.tmps) = true ∧ QRun P o a R v) ∨ (Region.wanted o (yielded ops a.tmps) = false ∧ v = undef)

theorem YieldsR.take {i : Nat} {o : Oper} {v : Value} {a : Act} {R : List (Nat × Nat × Value)} (hi : ops[i]? = some o) (hnd : ∀ c, o.op ≠ .defer c) (hy : YieldsR P ops o a R v)
    {K : Act → World → Prop} {w : World} (hR : ∀ r ∈ R, atAddr r w) (h : K (a.put o.dst v) w) : wpOpIn (fw ro) n P ops Q i K a w := by
  unfold wpOpIn
  simp only [hi]
  rcases hy with ⟨hw, hv⟩ | ⟨hw, rfl⟩
  · rw [if_pos hw]
    refine ⟨fun _ _ => trivial, ?_⟩
    rw [Oper.semAt_eq _ _ _ hnd, hv w hR]
    exact h
  · rw [if_neg (by rw [hw]; simp)]
    exact ⟨fun _ _ => trivial, h⟩

theorem YieldsR.same {o : Oper} {a a' : Act} {R : List (Nat × Nat × Value)} {v : Value} (hy : YieldsR P ops o a R v) (he : execOp a'.eval o = execOp a.eval o)
    (hw : Region.wanted o (yielded ops a'.tmps) = Region.wanted o (yielded ops a.tmps)) : YieldsR P ops o a' R v := by
  unfold YieldsR QRun at *
  rw [he, hw]
  exact hy

theorem put_swap {j : Nat} {oi oj : Oper} {v : Value} {R : List (Nat × Nat × Value)} (hj : ops[j]? = some oj) (hnd : ∀ c, oj.op ≠ .defer c) (hap : oi.apart ops oj = true)
    (hsi : ∀ cs b, oi.op ≠ .select cs b) (hsj : ∀ cs b, oj.op ≠ .select cs b) (hQ : ∀ c a w, ¬ Q (.panic c) a w) (hQo : ∀ a w, ¬ Q .outgrown a w) {K : Act → World → Prop} {a : Act} {w : World}
    (hy : YieldsR P ops oi a R v) (h : wpOpIn (fw ro) n P ops Q j K (a.put oi.dst v) w) :
    wpOpIn (fw ro) n P ops Q j (fun a' w' => YieldsR P ops oi a' R v ∧ K (a'.put oi.dst v) w') a w := by
  obtain ⟨h1, h2, h3⟩ := Oper.apart_spec hap
  have keep : ∀ (a : Act), YieldsR P ops oi a R v → ∀ u, YieldsR P ops oi (a.put oj.dst u) R v := fun a hy u =>
    hy.same (execOp_put oi hsi a oj.dst u h3) (wanted_put oi a oj.dst u h3)
  have keepD : ∀ d, YieldsR P ops oi { a with defers := d :: a.defers } R v := fun d => hy.same rfl rfl
  unfold wpOpIn at *
  simp only [hj] at *
  rw [wanted_put oj a oi.dst v h1] at h
  split
  · rename_i hw
    rw [if_pos hw] at h
    unfold Oper.wpIn at *
    refine ⟨fun _ _ => trivial, ?_⟩
    have h := h.2
    rw [Oper.semAt_eq _ _ _ hnd, execOp_put oj hsj a oi.dst v h1] at h
    rw [Oper.semAt_eq _ _ _ hnd]
    generalize (execOp a.eval oj).run P w = r at *
    cases r with
    | ok x w' =>
      cases x <;> simp only [Oper.uponIn] at h ⊢
      case value u => exact ⟨keep a hy u, by rw [← Act.put_comm a v u h2]; exact h⟩
      case skip => exact ⟨keep a hy _, by rw [← Act.put_comm a v undef h2]; exact h⟩
      case defer d =>
        refine ⟨keep _ (keepD d) _, ?_⟩
        rw [← Act.put_comm _ v undef h2, ← Act.put_defers]
        exact h
      case enter f args =>
        refine ⟨h.1, CallsIn.mono h.2 fun e w'' he => ?_⟩
        cases e with
        | returned u => exact ⟨keep a hy u, by rw [← Act.put_comm a v u h2]; exact he⟩
        | panicked c => exact (hQ _ _ _ he).elim
        | outgrown => obtain ⟨a0, w0, hq⟩ := he; exact (hQo _ _ hq).elim
      case row row args => exact ⟨h.1, RowsIn.mono h.2 fun u w'' he => ⟨keep a hy u, by rw [← Act.put_comm a v u h2]; exact he⟩⟩
      case round l f tmps assign body =>
        refine ⟨h.1, RoundIn.mono h.2 fun e w'' he => ?_⟩
        cases e with
        | returned u => exact ⟨keep a hy u, by rw [← Act.put_comm a v u h2]; exact he⟩
        | panicked c => exact (hQ _ _ _ he).elim
        | outgrown => obtain ⟨a0, w0, hq⟩ := he; exact (hQo _ _ hq).elim
    | halt x w' =>
      cases x <;> simp only [Oper.uponIn] at h ⊢
      case panic u => exact (hQ _ _ _ h).elim
  · rename_i hw
    rw [if_neg hw] at h
    exact ⟨fun _ _ => trivial, keep a hy _, by rw [← Act.put_comm a v undef h2]; exact h.2⟩

/-- **A reading operation that may come up now may be taken first.** -/
theorem Any.first {i : Nat} {oi : Oper} {v : Value} {R : List (Nat × Nat × Value)} (hi : ops[i]? = some oi) (hnd : ∀ (j : Nat) (o : Oper) c, ops[j]? = some o → o.op ≠ .defer c)
    (hsel : ∀ (j : Nat) (o : Oper) cs b, ops[j]? = some o → o.op ≠ .select cs b) (hQ : ∀ c a w, ¬ Q (.panic c) a w) (hQo : ∀ a w, ¬ Q .outgrown a w) :
    ∀ (fuel : Nat) (W : Watch) (listed : Array Bool) (a : Act) (w : World),
      (∀ j oj, ops[j]? = some oj → j ≠ i → listed.getD j true = false → (∀ e ∈ oj.after, Region.binds .any e = true → e.on ≠ i) → oi.apart ops oj = true) →
      i ∈ Region.ready .any ops listed → YieldsR P ops oi a R v → (∀ r ∈ R, atAddr r w) →
      Any P ops Q ro n fuel ((i, R) :: W) (listed.setIfInBounds i true) (a.put oi.dst v) w → Any P ops Q ro n (fuel + 1) W listed a w := by
  intro fuel
  induction fuel with
  | zero =>
    intro W listed a w _ hr hy hR H
    refine ⟨fun h => (by rw [h] at hr; cases hr), fun j hj => ?_⟩
    by_cases hji : j = i
    · subst hji; exact hy.take hi (hnd _ _ · hi) hR ⟨fun _ _ _ h => h, H⟩
    · have := ready_mono hj hji
      rw [H.1] at this
      cases this
  | succ fuel ih =>
    intro W listed a w hfree hr hy hR H
    refine ⟨fun h => (by rw [h] at hr; cases hr), fun j hj => ?_⟩
    by_cases hji : j = i
    · subst hji; exact hy.take hi (hnd _ _ · hi) hR ⟨fun _ _ _ h => h, H.less⟩
    · have h1 := H.2 j (ready_mono hj hji)
      obtain ⟨hjun, oj, hoj, hall⟩ := mem_ready.1 hj
      have hnot : ∀ e ∈ oj.after, Region.binds .any e = true → e.on ≠ i := fun e he hb heq => by
        have h1 := hall e he hb
        have h0 := (mem_ready.1 hr).1
        rw [heq] at h1
        rcases Nat.lt_or_ge i listed.size with h' | h'
        · simp [h'] at h0 h1; rw [h0] at h1; cases h1
        · simp [Array.getElem?_eq_none h'] at h1
      have hbeh : behind ops j i = false := by
        unfold behind
        rw [hoj]
        simp only [Array.any_eq_false]
        intro k hk
        cases hb : Region.binds .any oj.after[k] with
        | false => simp
        | true => simpa using hnot _ (Array.getElem_mem hk) hb
      have h2 := put_swap hoj (hnd _ _ · hoj) (hfree j oj hoj hji hjun hnot) (fun cs b => hsel i oi cs b hi) (fun cs b => hsel j oj cs b hoj) hQ hQo hy h1
      have hfree' : ∀ k ok, ops[k]? = some ok → k ≠ i → (listed.setIfInBounds j true).getD k true = false →
          (∀ e ∈ ok.after, Region.binds .any e = true → e.on ≠ i) → oi.apart ops ok = true := fun k ok hk hki hun hno => by
        refine hfree k ok hk hki ?_ hno
        by_cases hjk : j = k
        · subst hjk; exact hjun
        · rw [getD_set_ne true hjk] at hun; exact hun
      refine wpOpIn_mono (fun a' w' h3 => ?_) h2
      obtain ⟨hy', hk, hA⟩ := h3
      refine ⟨fun x hx => hk x (List.mem_cons_of_mem _ hx), ih W (listed.setIfInBounds j true) a' w' hfree' (ready_mono hr (Ne.symm hji)) hy' (hk (i, R) (List.mem_cons_self) hbeh hR) ?_⟩
      rw [Array.setIfInBounds_comm _ _ hji]
      exact hA

/-- Nothing stands ready beside i. -/
theorem Any.only {i : Nat} {fuel : Nat} {W : Watch} {listed : Array Bool} {a : Act} {w : World} (hr : Region.ready .any ops listed = [i])
    (h : wpOpIn (fw ro) n P ops Q i (fun a' w' => keepsW ops i W w w' ∧ Any P ops Q ro n fuel W (listed.setIfInBounds i true) a' w') a w) : Any P ops Q ro n (fuel + 1) W listed a w :=
  ⟨fun h0 => (by rw [hr] at h0; cases h0), fun j hj => by rw [hr] at hj; simp at hj; subst hj; exact h⟩

theorem Any.both {i j : Nat} {fuel : Nat} {W : Watch} {listed : Array Bool} {a : Act} {w : World} (hr : Region.ready .any ops listed = [i, j])
    (h : wpOpIn (fw ro) n P ops Q i (fun a' w' => keepsW ops i W w w' ∧ Any P ops Q ro n fuel W (listed.setIfInBounds i true) a' w') a w)
    (h' : wpOpIn (fw ro) n P ops Q j (fun a' w' => keepsW ops j W w w' ∧ Any P ops Q ro n fuel W (listed.setIfInBounds j true) a' w') a w) : Any P ops Q ro n (fuel + 1) W listed a w :=
  ⟨fun h0 => (by rw [hr] at h0; cases h0), fun k hk => by
    rw [hr] at hk; simp at hk
    rcases hk with rfl | rfl
    · exact h
    · exact h'⟩

theorem Any.done {fuel : Nat} {W : Watch} {listed : Array Bool} {a : Act} {w : World} (hr : Region.ready .any ops listed = []) (h : Q .normal a w) : Any P ops Q ro n fuel W listed a w := by
  cases fuel with
  | zero => exact ⟨hr, h⟩
  | succ fuel => exact ⟨fun _ => h, by rw [hr]; simp⟩
end

/-! ### A compiled order -/
def growing : GOp → Bool
  | .alloc .. | .box .. | .buildSlice .. | .makeSlice .. => true
  | _ => false

def isLoad : GOp → Bool
  | .load .. => true
  | _ => false

/-- Is operation i one that only reads, and may it be taken first? -/
def quietAt (P : Program) (ops : Array Oper) (listed : Array Bool) (i : Nat) : Bool :=
  match ops[i]? with
  | some o => (match compileOp P o with | some g => g.quiet && Region.free .any ops listed i | none => false)
  | none => false

def loadAt (P : Program) (ops : Array Oper) (i : Nat) : Bool :=
  match ops[i]? with
  | some o => (match compileOp P o with | some g => isLoad g | none => false)
  | none => false

def growAt (P : Program) (ops : Array Oper) (i : Nat) : Bool :=
  match ops[i]? with
  | some o => (match compileOp P o with | some g => growing g | none => false)
  | none => false

/-- What is to be looked at behind operation i: all that has been loaded and that it does not stand behind. -/
def chkOf (P : Program) (ops : Array Oper) (listed : Array Bool) (i : Nat) : List Nat :=
  if growAt P ops i then [] else (List.range ops.size).filter fun k => listed.getD k false && loadAt P ops k && !behind ops i k

def planR (P : Program) (N : Nat) (ops : Array Oper) : Nat → Array Bool → Option GR
  | 0, listed => if Region.ready .any ops listed = [] then some .done else none
  | fuel + 1, listed =>
    match Region.ready .any ops listed with
    | [] => some .done
    | r =>
      match r.find? (quietAt P ops listed) with
      | some i => (match mkGI P N ops i [] (loadAt P ops i), planR P N ops fuel (listed.setIfInBounds i true) with
        | some g, some r => some (.op g r)
        | _, _ => none)
      | none =>
        match r with
        | [i] => (match mkGI P N ops i (chkOf P ops listed i) false, planR P N ops fuel (listed.setIfInBounds i true) with
          | some g, some r => some (.op g r)
          | _, _ => none)
        | [i, j] => (match mkGI P N ops i (chkOf P ops listed i) false, planR P N ops fuel (listed.setIfInBounds i true), mkGI P N ops j (chkOf P ops listed j) false, planR P N ops fuel (listed.setIfInBounds j true) with
          | some g, some r, some g', some r' => some (.two (.op g r) (.op g' r'))
          | _, _, _, _ => none)
        | _ => none

theorem chkW_elim {l : List Nat} {W : Watch} {h : Heap} {K : Prop} (hk : chkW l W h K) : K ∧ ∀ j ∈ l, allAt (wfind W j) h := by
  induction l with
  | nil => exact ⟨hk, by simp⟩
  | cons j l ih =>
    obtain ⟨h1, h2⟩ := hk
    obtain ⟨h3, h4⟩ := ih h2
    refine ⟨h3, fun k hk => ?_⟩
    rcases List.mem_cons.1 hk with rfl | hk
    · exact h1
    · exact h4 k hk

theorem allAt_at {rs : List (Nat × Nat × Value)} {w : World} (h : allAt rs w.heap) : ∀ r ∈ rs, atAddr r w := by
  induction rs with
  | nil => simp
  | cons r rs ih =>
    obtain ⟨b, o, v⟩ := r
    intro x hx
    rcases List.mem_cons.1 hx with rfl | hx
    · unfold atAddr; rw [cell?_heap]; exact h.1
    · exact ih h.2 x hx

theorem hcell_push {h : Heap} {x : Obj} {b o : Nat} {v : Value} (hc : hcell h b o = some v) : hcell (h.push x) b o = some v := by
  unfold hcell at *
  have hb : b < h.size := by
    rcases Nat.lt_or_ge b h.size with hb | hb
    · exact hb
    · rw [Array.getElem?_eq_none hb] at hc; cases hc
  rw [Array.getElem?_push, if_neg (by omega)]
  exact hc

theorem withParts_mono {e : Env} : ∀ {ps : List (Nat × Nat × Operand)} {cs : List Value} {K K' : List Value → Prop}, (∀ cs, K cs → K' cs) → withParts e ps cs K → withParts e ps cs K'
  | [], _, _, _, hk, h => hk _ h
  | (off, size, x) :: ps, cs, K, K', hk, h => by
    obtain ⟨v, hv, h1, h2⟩ := withV_elim h
    simp only [withParts, hv, withV]
    exact ⟨h1, withParts_mono hk h2⟩

/-- An operation that makes memory leaves what was there. -/
theorem grow_more {P : Program} {y : Option Nat} {g : GOp} (hg : growing g = true) {e : Env} {h : Heap} {K : Value → Heap → Prop} (hv : gvc P y g e h K) : gvc P y g e h fun v h' => K v h' ∧ ∃ x, h' = h.push x := by
  cases g <;> first | cases hg | skip
  case alloc => exact fun b h' hn => ⟨hv b h' hn, let ⟨t, ht⟩ := hn.push; ⟨_, ht⟩⟩
  case box =>
    obtain ⟨v, hx, hk⟩ := withV_elim hv
    simp only [gvc, hx, withV]
    exact fun b h' hn => ⟨hk b h' hn, let ⟨t, ht⟩ := hn.push; ⟨_, ht⟩⟩
  case buildSlice => exact withParts_mono (fun cs hk b h' hn => ⟨hk b h' hn, let ⟨t, ht⟩ := hn.push; ⟨_, ht⟩⟩) hv
  case makeSlice =>
    obtain ⟨k, l, hl, hk⟩ := withI_elim hv
    obtain ⟨k', c, hc, h1, hk⟩ := withI_elim hk
    simp only [gvc, hl, hc, withI]
    exact ⟨h1, fun b h' hn => ⟨hk b h' hn, let ⟨t, ht⟩ := hn.push; ⟨_, ht⟩⟩⟩

theorem wfind_mem {W : Watch} {x : Nat × List (Nat × Nat × Value)} (hx : x ∈ W) (hnd : (W.map (·.1)).Nodup) : wfind W x.1 = x.2 := by
  induction W with
  | nil => cases hx
  | cons y W ih =>
    simp only [List.map_cons, List.nodup_cons] at hnd
    rcases List.mem_cons.1 hx with rfl | hx
    · simp [wfind]
    · have hne : y.1 ≠ x.1 := fun e => hnd.1 (by rw [e]; exact List.mem_map.2 ⟨x, hx, rfl⟩)
      unfold wfind
      rw [if_neg hne]
      exact ih hx hnd.2

theorem loaded_lt {P : Program} {ops : Array Oper} {k : Nat} (h : loadAt P ops k = true) : k < ops.size := by
  unfold loadAt at h
  split at h
  · rename_i o ho; exact (Array.getElem?_eq_some_iff.1 ho).1
  · cases h

theorem plan_sound {y : Option Nat} {P : Program} {N n : Nat} {ops : Array Oper} {ro : Option Nat} {Q : Exit → Act → World → Prop} {w0 : World} {a0 : Act} {K : Env → Heap → Prop} (hQ : ∀ a w, After y N w0 a0 K a w → Q .normal a w)
    (hnd : ∀ (j : Nat) (o : Oper) c, ops[j]? = some o → o.op ≠ .defer c) (hsel : ∀ (j : Nat) (o : Oper) cs b, ops[j]? = some o → o.op ≠ .select cs b) (hQp : ∀ c a w, ¬ Q (.panic c) a w) (hQo : ∀ a w, ¬ Q .outgrown a w) :
    ∀ (fuel : Nat) (listed : Array Bool) (r : GR) (W : Watch) (e : Env) (a : Act) (w : World), planR P N ops fuel listed = some r → rvc P y r W e w.heap K → Holds N e a → a.defers = a0.defers → Like y w0 w →
      (W.map (·.1)).Nodup → (∀ x ∈ W, listed.getD x.1 false = true ∧ loadAt P ops x.1 = true) → Any P ops Q ro n fuel W listed a w := by
  intro fuel
  induction fuel with
  | zero =>
    intro listed r W e a w hr hv hh hd hl _ _
    simp only [planR] at hr
    split at hr
    · rename_i h0; cases hr; exact ⟨h0, hQ _ _ ⟨e, hh, hd, hl, hv⟩⟩
    · cases hr
  | succ fuel ih =>
    intro listed r W e a w hr hv hh hd hl hWn hW
    -- an operation that may turn the heap
    have loud : ∀ (i : Nat) (g : GI) (r' : GR), i ∈ Region.ready .any ops listed → mkGI P N ops i (chkOf P ops listed i) false = some g → planR P N ops fuel (listed.setIfInBounds i true) = some r' → rvc P y (.op g r') W e w.heap K →
        wpOpIn (fw ro) n P ops Q i (fun a' w' => keepsW ops i W w w' ∧ Any P ops Q ro n fuel W (listed.setIfInBounds i true) a' w') a w := by
      intro i g r' hi hg hr' hv
      obtain ⟨o, ho, hc, hgd, hdst, e1, _, e2, e3⟩ := mkGI_spec hg
      have hW' : ∀ x ∈ W, (listed.setIfInBounds i true).getD x.1 false = true ∧ loadAt P ops x.1 = true := fun x hx => ⟨getD_set_true (hW x hx).1, (hW x hx).2⟩
      unfold wpOpIn
      simp only [ho]
      rcases guard_sound hgd hh hv with ⟨hw, hv⟩ | ⟨hw, hv⟩
      · rw [if_pos hw]
        by_cases hgr : growing g.op = true
        · refine (g_sound hc hh (grow_more hgr hv)).wpIn (compile_noDefer hc) ?_
          rintro v w' ⟨hl', hk, x, hx⟩
          obtain ⟨hk, _⟩ := chkW_elim hk
          rw [show addW g W e v = W from by unfold addW; rw [e3]; rfl, e1] at hk
          refine ⟨fun y _ _ hy r hr => ?_, ih _ _ _ _ _ _ hr' hk (hh.put hdst v) (by rw [put_defers]; exact hd) (hl.trans hl') hWn hW'⟩
          have := hy r hr
          unfold atAddr at this ⊢
          rw [cell?_heap] at this ⊢
          rw [hx]
          exact hcell_push this
        · refine (g_sound hc hh hv).wpIn (compile_noDefer hc) ?_
          rintro v w' ⟨hl', hk⟩
          obtain ⟨hk, hchk⟩ := chkW_elim hk
          rw [show addW g W e v = W from by unfold addW; rw [e3]; rfl, e1] at hk
          refine ⟨fun y hy hb _ => ?_, ih _ _ _ _ _ _ hr' hk (hh.put hdst v) (by rw [put_defers]; exact hd) (hl.trans hl') hWn hW'⟩
          have hmem : y.1 ∈ g.chk := by
            rw [e2]
            unfold chkOf
            have hga : growAt P ops i = false := by unfold growAt; rw [ho]; simp only [hc]; simpa using hgr
            rw [hga]
            simp only [Bool.false_eq_true, if_false, List.mem_filter, List.mem_range, Bool.and_eq_true, Bool.not_eq_true']
            exact ⟨loaded_lt (hW y hy).2, ⟨(hW y hy).1, (hW y hy).2⟩, hb⟩
          have := hchk _ hmem
          rw [wfind_mem hy hWn] at this
          exact allAt_at this
      · rw [if_neg (by rw [hw]; simp)]
        rw [e1] at hv
        exact ⟨fun _ _ => trivial, fun _ _ _ h => h, ih _ _ _ _ _ _ hr' hv (hh.put hdst undef) (by rw [put_defers]; exact hd) hl hWn hW'⟩
    simp only [planR] at hr
    split at hr
    · rename_i h0; cases hr; exact Any.done h0 (hQ _ _ ⟨e, hh, hd, hl, hv⟩)
    · split at hr
      · -- one that only reads
        rename_i i hfind
        split at hr
        · rename_i g r' hg hr'
          cases hr
          have hq := List.find?_some hfind
          have hmem := List.mem_of_find?_eq_some hfind
          obtain ⟨o, ho, hc, hgd, hdst, e1, e0, e2, e3⟩ := mkGI_spec hg
          unfold quietAt at hq
          simp only [ho, hc, Bool.and_eq_true] at hq
          have hun := (mem_ready.1 hmem).1
          have hlt : i < listed.size := by
            rcases Nat.lt_or_ge i listed.size with h | h
            · exact h
            · simp [Array.getElem?_eq_none h] at hun
          have hset : (listed.setIfInBounds i true).getD i false = true := by simp [hlt]
          have hnot : ∀ x ∈ W, x.1 ≠ i := fun x hx he => by
            have := (hW x hx).1
            rw [he] at this
            simp [hlt] at this hun
            rw [hun] at this; cases this
          rcases guard_sound hgd hh hv with ⟨hw, hv⟩ | ⟨hw, hv⟩
          · have hv' : qvc g.op e w.heap fun v => chkW g.chk W w.heap (rvc P y r' (addW g W e v) (eput e g.dst v) w.heap K) := by
              generalize g.op = gg at hv hq
              cases gg <;> first | exact hv | (exact absurd hq.1 (by simp [GOp.quiet]))
            obtain ⟨v, hk, hreads, hrun⟩ := q_sound hc hq.1 hh hv'
            obtain ⟨hk, _⟩ := chkW_elim hk
            have hR : ∀ r ∈ reads g.op e v, atAddr r w := fun r hr => by unfold atAddr; rw [cell?_heap]; exact hreads r hr
            rw [e1] at hk
            have hfr := Region.free_spec ho hq.2
            cases hld : loadAt P ops i with
            | true =>
              rw [show addW g W e v = (i, reads g.op e v) :: W from by unfold addW; rw [e3, hld, e0]; rfl] at hk
              refine Any.first ho hnd hsel hQp hQo fuel W listed a w hfr hmem (.inl ⟨hw, hrun⟩) hR (ih _ _ _ _ _ _ hr' hk (hh.put hdst v) (by rw [put_defers]; exact hd) hl ?_ ?_)
              · simp only [List.map_cons, List.nodup_cons]
                exact ⟨fun h => by obtain ⟨x, hx, he⟩ := List.mem_map.1 h; exact hnot x hx he, hWn⟩
              · intro x hx
                rcases List.mem_cons.1 hx with rfl | hx
                · exact ⟨hset, hld⟩
                · exact ⟨getD_set_true (hW x hx).1, (hW x hx).2⟩
            | false =>
              rw [show addW g W e v = W from by unfold addW; rw [e3, hld]; rfl] at hk
              have hnl : reads g.op e v = [] := by
                have : isLoad g.op = false := by unfold loadAt at hld; simpa [ho, hc] using hld
                generalize g.op = gg at this
                cases gg <;> first | rfl | cases this
              rw [hnl] at hrun
              have h1 := ih _ _ W _ _ _ hr' hk (hh.put hdst v) (by rw [put_defers]; exact hd) hl hWn (fun x hx => ⟨getD_set_true (hW x hx).1, (hW x hx).2⟩)
              refine Any.first ho hnd hsel hQp hQo fuel W listed a w hfr hmem (R := []) (.inl ⟨hw, hrun⟩) (by simp) ?_
              exact Any.more_nil fuel W _ _ _ h1
          · rw [e1] at hv
            have h1 := ih _ _ W _ _ _ hr' hv (hh.put hdst undef) (by rw [put_defers]; exact hd) hl hWn (fun x hx => ⟨getD_set_true (hW x hx).1, (hW x hx).2⟩)
            exact Any.first ho hnd hsel hQp hQo fuel W listed a w (Region.free_spec ho hq.2) hmem (R := []) (.inr ⟨hw, rfl⟩) (by simp) (Any.more_nil fuel W _ _ _ h1)
        · cases hr
      · split at hr
        · rename_i i hrd
          split at hr
          · rename_i g r' hg hr'
            cases hr
            exact Any.only hrd (loud i g r' (by rw [hrd]; simp) hg hr' hv)
          · cases hr
        · rename_i i j hrd
          split at hr
          · rename_i g r' g' r'' hg hr' hg' hr''
            cases hr
            exact Any.both hrd (loud i g r' (by rw [hrd]; simp) hg hr' hv.1) (loud j g' r'' (by rw [hrd]; simp) hg' hr'' hv.2)
          · cases hr
        · cases hr
end Go.Vc
