/-
  A calculus of weakest preconditions over the compiled code of the functions that the law reaches, and its soundness. No condition.
-/
import Derived.Test.YtgedofjefepebaaDoorV1
set_option linter.all false
set_option maxRecDepth 2000
namespace Go.Vc
open Go

/-! ### Compiled code -/
inductive GC where
  | skip
  | ret
  | exit (id : Nat)
  | block (id : Nat) (c : GC)
  | loop (c : GC)
  | seq (a b : GC)
  | cond (x : Operand) (a b : GC)
  | reg (r : GR) (live : List Nat)
  | rng (f : Operand) (ps : List Nat) (asg body : GC)

inductive GX where
  | normal
  | ret
  | exit (id : Nat)

def GX.exit' : GX → Exit
  | .normal => .normal
  | .ret => .ret
  | .exit id => .exit id

abbrev Post := GX → Env → Heap → Prop

def thenQ (K : Env → Heap → Prop) (Q : Post) : Post
  | .normal, e, h => K e h
  | .ret, e, h => Q .ret e h
  | .exit id, e, h => Q (.exit id) e h
def blockQ (id : Nat) (Q : Post) : Post
  | .normal, e, h => Q .normal e h
  | .ret, e, h => Q .ret e h
  | .exit id', e, h => if id' = id then Q .normal e h else Q (.exit id') e h

theorem thenQ_normal (K : Env → Heap → Prop) (Q : Post) (e : Env) (h : Heap) : thenQ K Q .normal e h = K e h := (rfl)
theorem thenQ_ret (K : Env → Heap → Prop) (Q : Post) (e : Env) (h : Heap) : thenQ K Q .ret e h = Q .ret e h := (rfl)
theorem thenQ_exit (K : Env → Heap → Prop) (Q : Post) (id : Nat) (e : Env) (h : Heap) : thenQ K Q (.exit id) e h = Q (.exit id) e h := (rfl)
theorem blockQ_normal (id : Nat) (Q : Post) (e : Env) (h : Heap) : blockQ id Q .normal e h = Q .normal e h := (rfl)
theorem blockQ_ret (id : Nat) (Q : Post) (e : Env) (h : Heap) : blockQ id Q .ret e h = Q .ret e h := (rfl)
theorem blockQ_exit (id id' : Nat) (Q : Post) (e : Env) (h : Heap) : blockQ id Q (.exit id') e h = if id' = id then Q .normal e h else Q (.exit id') e h := (rfl)

/-- A block that keeps the book of a range over a function. -/
def book : Obj → Bool
  | .loop _ | .deferred _ => true
  | _ => false

/-- What lay there lies there, but for book-keeping from block B on. -/
structure Ext (B : Nat) (h h' : Heap) : Prop where
  size : h.size ≤ h'.size
  old : ∀ (b : Nat) (x : Obj), h[b]? = some x → (b < B ∨ book x = false) → h'[b]? = some x

theorem Ext.refl (B : Nat) (h : Heap) : Ext B h h := ⟨Nat.le_refl _, fun _ _ h _ => h⟩
theorem Ext.trans {B : Nat} {h h' h'' : Heap} (a : Ext B h h') (b : Ext B h' h'') : Ext B h h'' := ⟨Nat.le_trans a.size b.size, fun x o hx hc => b.old x o (a.old x o hx hc) hc⟩

/-- **AN ITERATOR's CONTRACT**: it yields just xs, and turns nothing by itself; what it reads is told by C. -/
def Iter (P : Program) (gf : FuncId) (lb : Array Value) (xs : List (List Value)) (C : Heap → Prop) : Prop :=
  goodF P gf = true ∧ ∀ (l : Nat) (I : Nat → Heap → Prop) (X : Heap → Prop),
    (∀ i x h, xs[i]? = some x → I i h → C h → Yld P l x.toArray h fun v h' => (v = .bool true ∧ I (i + 1) h' ∧ C h') ∨ (v = .bool false ∧ X h')) →
    ∀ h, I 0 h → C h → ConX (some l) P gf (#[.func (.yield l) #[] #[]] ++ lb) h fun _ h' => (I xs.length h' ∧ C h') ∨ X h'

/-- How a round ends. -/
def roundQ (In : Heap → Prop) (X : GX → Heap → Prop) : Post
  | .normal, _, h => In h
  | .ret, _, h => X .ret h
  | .exit id, _, h => X (.exit id) h

/-- A loop's word: what is kept is told by a state s, which a number of its own lowers. -/
def loopVC (body : Post → Env → Heap → Prop) (Q : Post) (e : Env) (h : Heap) : Prop :=
  ∃ (α : Type) (E : α → Env) (I : α → Heap → Prop) (μ : α → Nat) (s : α), Le (E s) e ∧ I s h ∧
    ∀ s h, I s h → body (thenQ (fun e' h' => ∃ s', μ s' < μ s ∧ Le (E s') e' ∧ I s' h') Q) (E s) h

def zipE (ps : List Nat) (vs : List Value) (e : Env) : Env :=
  match ps, vs with
  | p :: ps, v :: vs => zipE ps vs ((p, v) :: e)
  | _, _ => e

/-- A range over a function. -/
def rngVC (P : Program) (asg body : Post → Env → Heap → Prop) (ps : List Nat) (fv : Option Value) (Q : Post) (e : Env) (h : Heap) : Prop :=
  withV fv fun
  | .func (.func gf) first lb => Chk (first = #[]) (∃ (xs : List (List Value)) (C : Heap → Prop) (I : Nat → Heap → Prop) (X : GX → Heap → Prop),
      Iter P gf lb xs C ∧ (∀ x ∈ xs, x.length = ps.length) ∧
      (∀ h1 h2, Ext h.size h1 h2 → C h1 → C h2) ∧ (∀ i h1 h2, Ext h.size h1 h2 → I i h1 → I i h2) ∧ (∀ x h1 h2, Ext h.size h1 h2 → X x h1 → X x h2) ∧
      I 0 h ∧ C h ∧
      (∀ i x h1, h.size ≤ h1.size → xs[i]? = some x → I i h1 → C h1 → asg (thenQ (fun e2 h2 => ∀ h2', Ext h.size h2 h2' → body (roundQ (fun h3 => I (i + 1) h3 ∧ C h3) X) e2 h2') (fun _ _ _ => False)) (zipE ps x e) h1) ∧
      (∀ h', h.size ≤ h'.size → I xs.length h' → C h' → Q .normal e h') ∧
      (∀ x h', h.size ≤ h'.size → X x h' → x ≠ .normal ∧ Q x e h'))
  | _ => False

/-- **THE WEAKEST PRECONDITION.** -/
def vc (P : Program) (y : Option Nat) : GC → Post → Env → Heap → Prop
  | .skip, Q, e, h => Q .normal e h
  | .ret, Q, e, h => Q .ret e h
  | .exit id, Q, e, h => Q (.exit id) e h
  | .block id c, Q, e, h => vc P y c (blockQ id Q) e h
  | .loop c, Q, e, h => loopVC (vc P y c) Q e h
  | .seq a b, Q, e, h => vc P y a (thenQ (vc P y b Q) Q) e h
  | .cond x a b, Q, e, h => withB (ev e x) fun t => If (t = true) (vc P y a Q e h) (vc P y b Q e h)
  | .reg r live, Q, e, h => rvc P y r [] e h fun e h => Q .normal (only live e) h
  | .rng f ps asg body, Q, e, h => Chk (y = none) (rngVC P (vc P y asg) (vc P y body) ps (ev e f) Q e h)

def alook : List (Nat × List Nat) → Nat → List Nat
  | [], _ => []
  | (k, l) :: r, i => if k = i then l else alook r i

def noDefers (ops : Array Oper) : Bool := ops.all fun o => match o.op with | .defer _ | .select .. => false | _ => true

/-- Code compiled; T: of each region, by its number, the slots that are remembered behind it; inR: within a round. -/
def compile (P : Program) (N : Nat) (T : List (Nat × List Nat)) (inR : Bool) : Code → Option GC
  | .skip => some .skip
  | .ret => some .ret
  | .exit id => some (.exit id)
  | .label _ => some .skip
  | .scope c => compile P N T inR c
  | .block id c => (compile P N T inR c).map (.block id)
  | .loop c => (compile P N T inR c).map .loop
  | .seq a b => (compile P N T inR a).bind fun x => (compile P N T inR b).map fun y => .seq x y
  | .cond x a b => (compile P N T inR a).bind fun u => (compile P N T inR b).map fun v => .cond x u v
  | .region id ops draw =>
    if draw then
      if (P.follows .mixedOrders || !Region.departs ops) && noDefers ops then (planR P N ops ops.size (Array.replicate ops.size false)).map fun r => .reg r (alook T id) else none
    else (lineR P N ops (List.range ops.size)).map fun r => .reg r (alook T id)
  | .rangeFunc f ps asg body => if !inR && ps.all (fun p => decide (p < N)) then (compile P N T true asg).bind fun x => (compile P N T true body).map fun y => .rng f ps.toList x y else none
  | _ => none

/-- Is there a range over a function? -/
def GC.hasRng : GC → Bool
  | .block _ c | .loop c => c.hasRng
  | .seq a b | .cond _ a b => a.hasRng || b.hasRng
  | .rng .. => true
  | _ => false

def mark (D : Nat) : Deferred := { target := .collected D, args := #[] }

/-- Where the walk stands: the frame, the marks that the ranges over functions have left, the world. -/
def Cur (y : Option Nat) (N : Nat) (w0 : World) (m : Bool) (e : Env) (a : Act) (w : World) : Prop :=
  Holds N e a ∧ (∃ ds : List Nat, a.defers = ds.map mark ∧ ds.Pairwise (· > ·) ∧ (∀ D ∈ ds, w0.heap.size ≤ D ∧ w.heap[D]? = some (.deferred (some []))) ∧ (m = false → ds = [])) ∧ Like y w0 w

def PostW (y : Option Nat) (N : Nat) (w0 : World) (m : Bool) (Q : Post) : Exit → Act → World → Prop := fun x a w =>
  ∃ gx e, x = GX.exit' gx ∧ Cur y N w0 m e a w ∧ Q gx e w.heap

theorem Cur.to {y : Option Nat} {N : Nat} {w0 w w' : World} {m : Bool} {e e' : Env} {a a' : Act} (h : Cur y N w0 m e a w) (hh : Holds N e' a') (hd : a'.defers = a.defers) (hl : Like y w w') : Cur y N w0 m e' a' w' := by
  obtain ⟨_, ⟨ds, h1, h2, h3, h4⟩, h5⟩ := h
  exact ⟨hh, ⟨ds, hd.trans h1, h2, fun D hD => ⟨(h3 D hD).1, hl.keepD D (h3 D hD).2⟩, h4⟩, h5.trans hl⟩

theorem noDefers_spec {ops : Array Oper} (h : noDefers ops = true) (j : Nat) (o : Oper) (ho : ops[j]? = some o) : (∀ c, o.op ≠ .defer c) ∧ ∀ cs b, o.op ≠ .select cs b := by
  have := Array.all_eq_true_iff_forall_mem.1 h o (Array.mem_of_getElem? ho)
  constructor
  · intro c hc; rw [hc] at this; cases this
  · intro c b hc; rw [hc] at this; cases this

theorem schedule_any {P : Program} {ops : Array Oper} (h : (P.follows .mixedOrders || !Region.departs ops) = true) (t : Nat) : Region.schedule (P.follows .mixedOrders) ops t = Region.linearise .any ops t := by
  unfold Region.schedule
  rw [if_pos h]

theorem region_sound {y : Option Nat} {P : Program} {N n : Nat} {T : List (Nat × List Nat)} {inR : Bool} {id : Nat} {ops : Array Oper} {draw : Bool} {g : GC} (hc : compile P N T inR (.region id ops draw) = some g) {ro : Option Nat} {w0 : World} {m : Bool} {Q : Post} {e : Env} {a : Act} {w : World}
    (hcur : Cur y N w0 m e a w) (hv : vc P y g Q e w.heap) : (Code.region id ops draw).wpIn (fw ro) n P (PostW y N w0 m Q) a w := by
  have fin : ∀ (w1 : World), Like y w w1 → w1.heap = w.heap → ∀ live a' w', After y N w1 a (fun e h => Q .normal (only live e) h) a' w' → PostW y N w0 m Q .normal a' w' := by
    rintro w1 hl1 _ live a' w' ⟨e', hh, hd, hl, hq⟩
    exact ⟨.normal, _, rfl, hcur.to (hh.only live) hd (hl1.trans hl), hq⟩
  unfold compile at hc
  cases draw with
  | false =>
    simp only [Bool.false_eq_true, if_false, Option.map_eq_some_iff] at hc
    obtain ⟨r, hr, rfl⟩ := hc
    exact wpIn_region (line_sound (w0 := w) (a0 := a) (fin w (.refl _ _) rfl _) _ _ _ _ _ hr hv hcur.1 rfl (.refl _ _))
  | true =>
    simp only [if_true] at hc
    split at hc
    · rename_i hcond
      simp only [Bool.and_eq_true] at hcond
      simp only [Option.map_eq_some_iff] at hc
      obtain ⟨r, hr, rfl⟩ := hc
      refine wpIn_region_draw fun t => ?_
      rw [schedule_any hcond.1]
      refine wpAnyIn_sound ops.size t _ a _ ?_
      have hno := noDefers_spec hcond.2
      have hl1 : Like y w { w with drawn := w.drawn + 1 } := like_draw w _
      refine (plan_sound (w0 := { w with drawn := w.drawn + 1 }) (a0 := a) (fin _ hl1 rfl _) (fun j o c ho => (hno j o ho).1 c) (fun j o cs b ho => (hno j o ho).2 cs b) ?_ ?_ _ _ _ [] _ _ { w with drawn := w.drawn + 1 } hr hv hcur.1 rfl (.refl _ _) (by simp) (by simp)).any
      · rintro c a' w' ⟨gx, _, hx, _⟩; cases gx <;> cases hx
      · rintro a' w' ⟨gx, _, hx, _⟩; cases gx <;> cases hx
    · cases hc

theorem Holds.zipE {N : Nat} : ∀ (ps : List Nat) (vs : List Value) {e : Env} {tmps : Array Value} {ds : List Deferred}, (∀ p ∈ ps, p < N) → Holds N e { tmps, defers := ds } →
    Holds N (Vc.zipE ps vs e) { tmps := (ps.zip vs).foldl (fun t (x : Nat × Value) => t.setIfInBounds x.1 x.2) tmps, defers := ds }
  | [], _, _, _, _, _, h => by simpa [Vc.zipE] using h
  | _ :: _, [], _, _, _, _, h => by simpa [Vc.zipE] using h
  | p :: ps, v :: vs, e, tmps, ds, hp, h => by
    simp only [Vc.zipE, List.zip_cons_cons, List.foldl_cons]
    have h1 := h.put (dst := some p) (fun d hd => by cases hd; exact hp p (by simp)) v
    exact Holds.zipE ps vs (fun q hq => hp q (by simp [hq])) h1

theorem ext_putObj {B l : Nat} {h : Heap} {r : Loop} {x : Obj} (hl : B ≤ l) (hr : h[l]? = some (.loop r)) : Ext B h (h.setIfInBounds l x) :=
  ⟨by simp, fun b y hy hc => by
    by_cases hb : l = b
    · subst hb
      rw [hr] at hy; cases hy
      rcases hc with hc | hc
      · omega
      · cases hc
    · rw [Array.getElem?_setIfInBounds_ne hb]; exact hy⟩

theorem ext_push {B : Nat} {h : Heap} {x : Obj} : Ext B h (h.push x) :=
  ⟨by simp, fun b y hy _ => by
    have := (Array.getElem?_eq_some_iff.1 hy).1
    rw [Array.getElem?_push, if_neg (by omega)]; exact hy⟩

theorem like_setObj {w : World} {l : Nat} {r : Loop} {x : Obj} (hr : w.heap[l]? = some (.loop r)) : Like (some l) w { w with heap := w.heap.setIfInBounds l x } :=
  ⟨rfl, rfl, rfl, by simp, fun D hD => by
    have : l ≠ D := fun e => by subst e; rw [hr] at hD; cases hD
    simp only
    rw [Array.getElem?_setIfInBounds_ne this]; exact hD, fun k r' hk hr' => by
    have : l ≠ k := fun e => hk (by rw [e])
    simp only
    rw [Array.getElem?_setIfInBounds_ne this]; exact hr'⟩

theorem get_setObj {h : Heap} {l : Nat} {x y : Obj} (hr : h[l]? = some x) : (h.setIfInBounds l y)[l]? = some y := by
  have := (Array.getElem?_eq_some_iff.1 hr).1
  simp [this]

theorem run_getLoop' {P : Program} {w : World} {l : Nat} {r : Loop} (hr : w.heap[l]? = some (.loop r)) : (Instr.getLoop l).run P w = .ok r w := by
  simp [Instr.getLoop, getObj, Sem.run, hr]
theorem run_setObj' {P : Program} {w : World} {l : Nat} {r : Loop} {x : Obj} (hr : w.heap[l]? = some (.loop r)) : (setObj l x).run P w = .ok () { w with heap := w.heap.setIfInBounds l x } := by
  simp [setObj, Sem.run, hr]

/-- A scope through which the run goes without a jump to a label. -/
theorem wpIn_scope' {F : Fence} {n : Nat} {P : Program} {c : Code} {Q : Exit → Act → World → Prop} {a : Act} {w : World} (hng : ∀ l a w, ¬ Q (.goto l) a w) (h : c.wpIn F n P Q a w) : (Code.scope c).wpIn F n P Q a w := by
  intro b k cs hro hb hr
  have s1 : step P (lone (b.atR a (.code (.scope c) :: k)) cs w) = .next (lone (b.atR a (.code c :: .inScope c :: k)) cs w) :=
    step_lone_go (by simp [stepG, stepG.exec, Frame.atR])
  have i1 : (lone (b.atR a (.code (.scope c) :: k)) cs w).fenced P F := fenced_calm hb hr rfl
  obtain ⟨e, a₁, w₁, hq, harr⟩ := h b (.inScope c :: k) cs hro hb hr
  have s2 : step P (lone (b.atR a₁ (.inScope c :: k)) cs w₁) = .next (lone (b.atR a₁ k) cs w₁) :=
    step_lone_go (by simp [stepG, stepG.exec, Frame.atR])
  have i2 : (lone (b.atR a₁ (.inScope c :: k)) cs w₁).fenced P F := fenced_calm hb hr rfl
  cases e with
  | normal => exact ⟨.normal, a₁, w₁, hq, .head i1 s1 (StepsIn.trans harr (.one i2 s2))⟩
  | exit id =>
    have hx : ∀ k : List Item, exitTo id (.inScope c :: k) = exitTo id k := fun _ => rfl
    exact ⟨.exit id, a₁, w₁, hq, ⟨fun k' hk => .head i1 s1 (harr.1 k' (by rw [hx]; exact hk)), fun hr hk => let ⟨k₁, h1, h2⟩ := harr.2 hr (by rw [hx]; exact hk); ⟨k₁, h1, .head i1 s1 h2⟩⟩⟩
  | goto l => exact (hng l _ _ hq).elim
  | ret => exact ⟨_, a₁, w₁, hq, .of_steps (.one i1 s1) harr⟩
  | panic ch => exact ⟨_, a₁, w₁, hq, .of_steps (.one i1 s1) harr⟩
  | outgrown => exact ⟨_, a₁, w₁, hq, .of_steps (.one i1 s1) harr⟩

/-- The pending jump. -/
def jumpOf : GX → Option Code
  | .normal => none
  | .ret => some .ret
  | .exit id => some (.exit id)

def goal (P : Program) (N : Nat) (T : List (Nat × List Nat)) (c : Code) : Prop :=
  ∀ (inR : Bool) (g : GC), compile P N T inR c = some g → ∀ (n : Nat) (y ro : Option Nat) (w0 : World) (m : Bool) (Q : Post) (e : Env) (a : Act) (w : World), (g.hasRng = true → m = true ∧ ro = none) → (inR = true ∨ ro = none) →
    Cur y N w0 m e a w → vc P y g Q e w.heap → c.wpIn (fw ro) n P (PostW y N w0 m Q) a w

theorem compile_inR {P : Program} {N : Nat} {T : List (Nat × List Nat)} : ∀ (c : Code) (g : GC), compile P N T true c = some g → g.hasRng = false
  | .skip, _, h => by cases h; rfl
  | .ret, _, h => by cases h; rfl
  | .exit _, _, h => by cases h; rfl
  | .block _ c, _, h => by
    simp only [compile, Option.map_eq_some_iff] at h
    obtain ⟨g, hg, rfl⟩ := h
    exact compile_inR c g hg
  | .loop c, _, h => by
    simp only [compile, Option.map_eq_some_iff] at h
    obtain ⟨g, hg, rfl⟩ := h
    exact compile_inR c g hg
  | .seq a b, _, h => by
    simp only [compile, Option.bind_eq_some_iff, Option.map_eq_some_iff] at h
    obtain ⟨x, hx, y, hy, rfl⟩ := h
    simp [GC.hasRng, compile_inR a x hx, compile_inR b y hy]
  | .cond _ a b, _, h => by
    simp only [compile, Option.bind_eq_some_iff, Option.map_eq_some_iff] at h
    obtain ⟨x, hx, y, hy, rfl⟩ := h
    simp [GC.hasRng, compile_inR a x hx, compile_inR b y hy]
  | .region _ _ _, _, h => by
    unfold compile at h
    (repeat' split at h) <;> first | cases h | (simp only [Option.map_eq_some_iff] at h; obtain ⟨_, _, rfl⟩ := h; rfl)
  | .rangeFunc _ _ _ _, _, h => by
    unfold compile at h
    split at h
    · rename_i hc; simp at hc
    · cases h
  | .scope c, g, h => compile_inR c g h
  | .label _, _, h => by cases h; rfl
  | .goto _, _, h => by cases h
  | .refuse _, _, h => by cases h

theorem vc_sound {P : Program} {N : Nat} {T : List (Nat × List Nat)} : ∀ (c : Code), goal P N T c
  | .skip => by
    intro inR g hc n y ro w0 m Q e a w _ _ hcur hv
    cases hc
    exact wpIn_skip ⟨.normal, e, rfl, hcur, hv⟩
  | .ret => by
    intro inR g hc n y ro w0 m Q e a w _ _ hcur hv
    cases hc
    exact wpIn_ret ⟨.ret, e, rfl, hcur, hv⟩
  | .exit id => by
    intro inR g hc n y ro w0 m Q e a w _ _ hcur hv
    cases hc
    exact wpIn_exit ⟨.exit id, e, rfl, hcur, hv⟩
  | .block id c => by
    intro inR g hc n y ro w0 m Q e a w hm hr hcur hv
    simp only [compile, Option.map_eq_some_iff] at hc
    obtain ⟨g, hg, rfl⟩ := hc
    refine wpIn_block (wpIn_mono (vc_sound c inR g hg n y ro w0 m _ e a w hm hr hcur hv) ?_)
    rintro x a' w' ⟨gx, e', rfl, hcur', hq⟩
    cases gx with
    | normal => exact ⟨.normal, e', rfl, hcur', hq⟩
    | ret => exact ⟨.ret, e', rfl, hcur', hq⟩
    | exit id' =>
      simp only [blockQ] at hq
      simp only [GX.exit', Exit.inBlock]
      split
      · rename_i h; rw [if_pos h] at hq; exact ⟨.normal, e', rfl, hcur', hq⟩
      · rename_i h; rw [if_neg h] at hq; exact ⟨.exit id', e', rfl, hcur', hq⟩
  | .loop c => by
    intro inR g hc n y ro w0 m Q e a w hm hr hcur hv
    simp only [compile, Option.map_eq_some_iff] at hc
    obtain ⟨g, hg, rfl⟩ := hc
    obtain ⟨α, E, I, μ, s0, hle, hI, hround⟩ := hv
    refine wpIn_loop_ghost (fun k a w => ∃ s, μ s = k ∧ Cur y N w0 m (E s) a w ∧ I s w.heap) (μ s0) ⟨s0, rfl, hcur.to (hcur.1.le hle) rfl (.refl _ _), hI⟩ ?_
    rintro k a w ⟨s, rfl, hcur, hI⟩
    refine wpIn_mono (vc_sound c inR g hg n y ro w0 m _ (E s) a w hm hr hcur (hround s _ hI)) ?_
    rintro x a' w' ⟨gx, e', rfl, hcur', hq⟩
    cases gx with
    | normal =>
      obtain ⟨s', hlt, hle', hI'⟩ := hq
      exact ⟨μ s', hlt, s', rfl, hcur'.to (hcur'.1.le hle') rfl (.refl _ _), hI'⟩
    | ret => exact ⟨.ret, e', rfl, hcur', hq⟩
    | exit id => exact ⟨.exit id, e', rfl, hcur', hq⟩
  | .seq p q => by
    intro inR g hc n y ro w0 m Q e a w hm hr hcur hv
    simp only [compile, Option.bind_eq_some_iff, Option.map_eq_some_iff] at hc
    obtain ⟨gx, hx, gy, hy, rfl⟩ := hc
    have hm1 : gx.hasRng = true → m = true ∧ ro = none := fun h => hm (by simp [GC.hasRng, h])
    have hm2 : gy.hasRng = true → m = true ∧ ro = none := fun h => hm (by simp [GC.hasRng, h])
    refine wpIn_seq (wpIn_mono (vc_sound p inR gx hx n y ro w0 m _ e a w hm1 hr hcur hv) ?_)
    rintro z a' w' ⟨gz, e', rfl, hcur', hq⟩
    cases gz with
    | normal => exact vc_sound q inR gy hy n y ro w0 m Q e' a' w' hm2 hr hcur' hq
    | ret => exact ⟨.ret, e', rfl, hcur', hq⟩
    | exit id => exact ⟨.exit id, e', rfl, hcur', hq⟩
  | .cond x u v => by
    intro inR g hc n y ro w0 m Q e a w hm hr hcur hv
    simp only [compile, Option.bind_eq_some_iff, Option.map_eq_some_iff] at hc
    obtain ⟨gu, hu, gv, hv', rfl⟩ := hc
    obtain ⟨t, ht, hif⟩ := withB_elim hv
    have hm1 : gu.hasRng = true → m = true ∧ ro = none := fun h => hm (by simp [GC.hasRng, h])
    have hm2 : gv.hasRng = true → m = true ∧ ro = none := fun h => hm (by simp [GC.hasRng, h])
    refine wpIn_cond_split (hcur.1.ev ht) (fun h => ?_) (fun h => ?_)
    · exact vc_sound u inR gu hu n y ro w0 m Q e a w hm1 hr hcur (hif.1 h)
    · exact vc_sound v inR gv hv' n y ro w0 m Q e a w hm2 hr hcur (hif.2 (by simp [h]))
  | .region id ops draw => by
    intro inR g hc n y ro w0 m Q e a w _ _ hcur hv
    exact region_sound hc hcur hv
  | .rangeFunc f ps asg body => by
    intro inR g hc n y ro w0 m Q e a w hm hr hcur hv
    simp only [compile] at hc
    split at hc
    · rename_i hcond
      simp only [Bool.and_eq_true, Bool.not_eq_true', Array.all_eq_true] at hcond
      simp only [Option.bind_eq_some_iff, Option.map_eq_some_iff] at hc
      obtain ⟨ga, hga, gb, hgb, rfl⟩ := hc
      obtain ⟨rfl, rfl⟩ := hm rfl
      obtain ⟨rfl, hv⟩ := hv
      obtain ⟨fv, hfv, hv⟩ := withV_elim hv
      split at hv
      · rename_i vv gf first lb
        obtain ⟨rfl, xs, C, I, X, hit, hlen, hCs, hIs, hXs, hI0, hC0, hround, hdone, hstop⟩ := hv
        have hpsN : ∀ p ∈ ps.toList, p < N := fun p hp => by
          obtain ⟨i, hi, rfl⟩ := List.mem_iff_getElem.1 hp
          simpa using hcond.2 i (by simpa using hi)
        have hgood := hit.1
        have henter : ∀ (vs : Array Value) (w1 : World), (callFunc gf vs).run P w1 = .ok (.enter gf vs) w1 := by
          intro vs w1
          unfold goodF at hgood
          split at hgood
          · rename_i fn hfn
            simp only [Bool.and_eq_true, bne_iff_ne, ne_eq] at hgood
            have hbn : ¬ fn.body = none := by intro hb; rw [hb] at hgood; exact absurd hgood.2 (by simp)
            simp [callFunc, program, Sem.run, hfn, hgood.1, hbn]
          · cases hgood
        refine wpIn_rangeFunc ?_
        intro fn _
        obtain ⟨rec, hrec⟩ : ∃ rec : LoopState → Option Code → Loop, rec = fun st pe => { state := st, pending := pe, fn, tmps := a.tmps, params := ps, assign := asg, body, defers := w.heap.size } := ⟨_, rfl⟩
        obtain ⟨l, hl⟩ : ∃ l, l = w.heap.size + 1 := ⟨_, rfl⟩
        obtain ⟨w1, hw1⟩ : ∃ w1 : World, w1 = { w with heap := (w.heap.push (.deferred (some []))).push (.loop (rec .ready none)) } := ⟨_, rfl⟩
        have hL1 : w1.heap[l]? = some (.loop (rec .ready none)) := by rw [hw1, hl]; simp only; rw [Array.getElem?_push, if_pos (by simp)]
        have hD1 : w1.heap[w.heap.size]? = some (.deferred (some [])) := by rw [hw1]; simp only; rw [Array.getElem?_push, if_neg (by simp), Array.getElem?_push, if_pos rfl]
        have hext1 : Ext w.heap.size w.heap w1.heap := by rw [hw1]; exact ext_push.trans ext_push
        have hlike1 : Like none w w1 := by
          rw [hw1]
          exact (like_push w (.deferred (some []))).trans (like_push { w with heap := w.heap.push (.deferred (some [])) } (.loop (rec .ready none)))
        refine ⟨l, [mark w.heap.size], w1, { target := .fn (.func gf) lb, args := #[.func (.yield l) #[] #[]] }, w1, gf, #[.func (.yield l) #[] #[]] ++ lb, w1, ?_, ?_, fun _ _ => trivial, ?_, fun hs => by simp [fw] at hs, ?_⟩
        · rw [hw1, hl, hrec]
          show (Instr.enterLoop fn a.tmps ps asg body none).run P w = _
          simp only [Instr.enterLoop, newObj, Sem.run_bind, Sem.run, Result.andThen, Sem.run_pure, Array.size_push]
          rfl
        · simp only [resolve, hcur.1.ev hfv]
          simp [Deferred.ofValue, Act.eval]
        · simp only [invoke]; exact henter _ _
        · refine (callsIn_fw ?_)
          -- the iterator's own contract
          have hcon := hit.2 l (fun i h => I i h ∧ h[l]? = some (.loop (rec .ready none)) ∧ w.heap.size ≤ h.size)
            (fun h => ∃ x, x ≠ GX.normal ∧ X x h ∧ h[l]? = some (.loop (rec .done (jumpOf x))) ∧ w.heap.size ≤ h.size) ?rounds w1.heap ⟨hIs _ _ _ hext1 hI0, hL1, hext1.size⟩ (hCs _ _ hext1 hC0)
          case rounds =>
            rintro i x h hx ⟨hI, hLh, hsz⟩ hC w' rfl
            have hxl : x.length = ps.size := by
              have := hlen x (List.mem_of_getElem? hx); simpa using this
            refine ⟨fn, (ps.zip x.toArray).foldl (fun tmps (t, a) => tmps.setIfInBounds t a) a.tmps, asg, body, ?_, ?_⟩
            · simp only [Instr.yield, Sem.run_bind, run_getLoop' hLh, Result.andThen]
              rw [hrec]
              simp [hxl]
            · -- the round
              have hz : (ps.zip x.toArray).foldl (fun tmps (t, a) => tmps.setIfInBounds t a) a.tmps = (ps.toList.zip x).foldl (fun t (x : Nat × Value) => t.setIfInBounds x.1 x.2) a.tmps := by
                rw [← Array.foldl_toList]; simp
              rw [hz]
              refine roundIn_of_wpIn (F := fw none) trivial ?_
              have hh0 : Holds N (Vc.zipE ps.toList x e) { tmps := (ps.toList.zip x).foldl (fun t (x : Nat × Value) => t.setIfInBounds x.1 x.2) a.tmps, defers := [] } :=
                Holds.zipE _ _ hpsN hcur.1
              have hc0 : Cur none N w' false (Vc.zipE ps.toList x e) { tmps := (ps.toList.zip x).foldl (fun t (x : Nat × Value) => t.setIfInBounds x.1 x.2) a.tmps, defers := [] } w' :=
                ⟨hh0, ⟨[], rfl, .nil, by simp, fun _ => rfl⟩, .refl _ _⟩
              refine wpIn_mono (vc_sound asg true ga hga 0 none (some l) w' false _ _ _ _ (by rw [compile_inR asg ga hga]; simp) (.inl rfl) hc0 (hround i x _ hsz hx hI hC)) ?_
              rintro ex a1 w2 ⟨gx, e1, rfl, hcur1, hq⟩
              cases gx with
              | ret => exact hq.elim
              | exit id => exact hq.elim
              | normal =>
                have hL2 := hcur1.2.2.keepL l _ (by simp) hLh
                have hsz2 : w.heap.size ≤ w2.heap.size := Nat.le_trans hsz hcur1.2.2.size
                obtain ⟨w3, hw3⟩ : ∃ w3 : World, w3 = { w2 with heap := w2.heap.setIfInBounds l (.loop (rec .busy none)) } := ⟨_, rfl⟩
                refine ⟨w3, ?_, ?_⟩
                · simp only [Instr.beginRound, Sem.run_bind, run_getLoop' hL2, Result.andThen, run_setObj' hL2]
                  rw [hw3, hrec]; rfl
                · have hle : w.heap.size ≤ l := by omega
                  have hext2 : Ext w.heap.size w2.heap w3.heap := by rw [hw3]; exact ext_putObj hle hL2
                  have hL3 : w3.heap[l]? = some (.loop (rec .busy none)) := by rw [hw3]; exact get_setObj hL2
                  have hlike2 : Like (some l) w2 w3 := by rw [hw3]; exact like_setObj hL2
                  have hdef : a1.defers = [] := by
                    obtain ⟨_, ⟨ds, h1, _, _, h4⟩, _⟩ := hcur1
                    rw [h1, h4 rfl]; rfl
                  have hc3 : Cur none N w3 false e1 a1 w3 := ⟨hcur1.1, ⟨[], by rw [hdef]; rfl, .nil, by simp, fun _ => rfl⟩, .refl _ _⟩
                  refine wpIn_mono (vc_sound body true gb hgb 0 none (some l) w3 false _ _ _ _ (by rw [compile_inR body gb hgb]; simp) (.inl rfl) hc3 (hq _ hext2)) ?_
                  have hlike03 : Like (some l) w' w3 := hcur1.2.2.any.trans hlike2
                  rintro ex a2 w4 ⟨gx, e2, rfl, hcur2, hq2⟩
                  have hL4 := hcur2.2.2.keepL l _ (by simp) hL3
                  have hsz4 : w.heap.size ≤ w4.heap.size := by
                    have h1 := hcur2.2.2.size
                    have h2 : w3.heap.size = w2.heap.size := by rw [hw3]; simp
                    omega
                  have fin : ∀ (gx : GX) (st : LoopState) (v : Bool), st = (if (jumpOf gx).isNone then .ready else .done) → v = (jumpOf gx).isNone →
                      (Instr.endRound l (jumpOf gx)).run P w4 = .ok (.bool v) { w4 with heap := w4.heap.setIfInBounds l (.loop (rec st (jumpOf gx))) } := by
                    rintro gx st v rfl rfl
                    simp only [Instr.endRound, Sem.run_bind, run_getLoop' hL4, Result.andThen, run_setObj' hL4, Sem.run_pure]
                    rw [hrec]
                  have hlike4 : ∀ o, Like (some l) w' { w4 with heap := w4.heap.setIfInBounds l o } := fun o => (hlike03.trans hcur2.2.2.any).trans (like_setObj hL4)
                  have hext4 : ∀ o, Ext w.heap.size w4.heap (w4.heap.setIfInBounds l o) := fun o => ext_putObj hle hL4
                  cases gx with
                  | normal =>
                    refine ⟨.bool true, _, fin .normal .ready true rfl rfl, .bool true, rfl, .inl ⟨rfl, ⟨hIs _ _ _ (hext4 _) hq2.1, get_setObj hL4, ?_⟩, hCs _ _ (hext4 _) hq2.2⟩, hlike4 _⟩
                    simpa using hsz4
                  | ret =>
                    refine ⟨.bool false, _, fin .ret .done false rfl rfl, .bool false, rfl, .inr ⟨rfl, .ret, by simp, hXs _ _ _ (hext4 _) hq2, get_setObj hL4, ?_⟩, hlike4 _⟩
                    simpa using hsz4
                  | exit id =>
                    refine ⟨.bool false, _, fin (.exit id) .done false rfl rfl, .bool false, rfl, .inr ⟨rfl, .exit id, by simp, hXs _ _ _ (hext4 _) hq2, get_setObj hL4, ?_⟩, hlike4 _⟩
                    simpa using hsz4
          · -- behind it
            refine (hcon.2 w1 rfl).mono ?_
            rintro ee w3 ⟨v, rfl, hres, hlk⟩
            have hD3 := hlk.keepD _ hD1
            obtain ⟨hh, ⟨ds, hd1, hd2, hd3, hd4⟩, hlk0⟩ := hcur
            have hdnew : ∀ (w4 : World), Like (some l) w3 w4 → Cur none N w0 true e { a with defers := [mark w.heap.size] ++ a.defers } w4 ∨ True := fun _ _ => .inr trivial
            have hcur4 : ∀ (o : Obj) (r : Loop), w3.heap[l]? = some (.loop r) → Cur none N w0 true e { a with defers := [mark w.heap.size] ++ a.defers } { w3 with heap := w3.heap.setIfInBounds l o } := by
              intro o r hr3
              have hlk3 := like_setObj (x := o) hr3
              have hnew : ∀ (k : Nat) (rr : Loop), w0.heap[k]? = some (.loop rr) → l ≠ k := fun k rr hk he => by
                have := (Array.getElem?_eq_some_iff.1 hk).1
                have := hlk0.size
                omega
              refine ⟨hh, ⟨w.heap.size :: ds, by simp [hd1], ?_, ?_, by simp⟩, ?_⟩
              · refine List.pairwise_cons.2 ⟨fun D hD => ?_, hd2⟩
                have := (Array.getElem?_eq_some_iff.1 (hd3 D hD).2).1
                exact this
              · intro D hD
                rcases List.mem_cons.1 hD with rfl | hD
                · exact ⟨hlk0.size, hlk3.keepD _ hD3⟩
                · exact ⟨(hd3 D hD).1, hlk3.keepD _ (hlk.keepD _ (hlike1.keepD _ (hd3 D hD).2))⟩
              · have h1 : Like (some l) w0 { w3 with heap := w3.heap.setIfInBounds l o } := (hlk0.any.trans hlike1.any).trans (hlk.trans hlk3)
                exact ⟨h1.os, h1.output, h1.tape, h1.size, h1.keepD, fun k rr _ hk => h1.keepL k rr (fun he => hnew k rr hk (by cases he; rfl)) hk⟩
            rcases hres with ⟨⟨hI, hL3, hsz3⟩, hC⟩ | ⟨x, hx, hX, hL3, hsz3⟩
            · refine ⟨none, { w3 with heap := w3.heap.setIfInBounds l (.loop { rec .ready none with state := .exhausted }) }, ?_, ?_⟩
              · simp only [Instr.endLoop, Sem.run_bind, run_getLoop' hL3, Result.andThen]
                rw [hrec]
                simp [run_setObj' hL3]
              · have hext3 := ext_putObj (B := w.heap.size) (x := .loop { rec .ready none with state := .exhausted }) (show w.heap.size ≤ l by omega) hL3
                exact ⟨.normal, e, rfl, hcur4 _ _ hL3, hdone _ (by simpa using hsz3) (hIs _ _ _ hext3 hI) (hCs _ _ hext3 hC)⟩
            · have hext3 := ext_putObj (B := w.heap.size) (x := .loop { rec .done (jumpOf x) with state := .exhausted }) (show w.heap.size ≤ l by omega) hL3
              have hq := hstop x _ (by simpa using hsz3) (hXs _ _ _ hext3 hX)
              refine ⟨jumpOf x, { w3 with heap := w3.heap.setIfInBounds l (.loop { rec .done (jumpOf x) with state := .exhausted }) }, ?_, ?_⟩
              · simp only [Instr.endLoop, Sem.run_bind, run_getLoop' hL3, Result.andThen]
                rw [hrec]
                simp [run_setObj' hL3]
              · cases x with
                | normal => exact absurd rfl hx
                | ret => exact wpIn_ret ⟨.ret, e, rfl, hcur4 _ _ hL3, hq.2⟩
                | exit id => exact wpIn_exit ⟨.exit id, e, rfl, hcur4 _ _ hL3, hq.2⟩
      · exact hv.elim
    · cases hc
  | .scope c => by
    intro inR g hc n y ro w0 m Q e a w hm hr hcur hv
    exact wpIn_scope' (fun l a w ⟨gx, _, hx, _⟩ => by cases gx <;> cases hx) (vc_sound c inR g hc n y ro w0 m Q e a w hm hr hcur hv)
  | .label _ => by
    intro inR g hc n y ro w0 m Q e a w _ _ hcur hv
    cases hc
    exact wpIn_label ⟨.normal, e, rfl, hcur, hv⟩
  | .goto _ => by intro inR g hc; cases hc
  | .refuse _ => by intro inR g hc; cases hc
end Go.Vc
namespace Go.Vc
open Go

/-! ### A function's contract out of its body's weakest precondition -/
inductive RV where
  | tmp (t : Nat)
  | cell (t : Nat) (agg : Option Nat)

def compileRes (P : Program) : List ResultVar → Option (List RV)
  | [] => some []
  | .tmp t :: l => (compileRes P l).map (.tmp t :: ·)
  | .cell t ty :: l => (aggT P ty).bind fun ag => (compileRes P l).map (.cell t ag :: ·)

def withRes (e : Env) (h : Heap) : List RV → (List Value → Prop) → Prop
  | [], K => K []
  | .tmp t :: l, K => withV (find e t) fun v => withRes e h l fun vs => K (v :: vs)
  | .cell t none :: l, K => withP (find e t) fun b o => withV (hcell h b o) fun v => withRes e h l fun vs => K (v :: vs)
  | .cell t (some n) :: l, K => withP (find e t) fun b o => withC h b o n fun cs => withRes e h l fun vs => K (.agg cs.toArray :: vs)

def retV : List Value → Value
  | [v] => v
  | vs => .tuple vs.toArray

def retQ (rs : List RV) (R : Value → Heap → Prop) : Post
  | .normal, e, h => withRes e h rs fun vs => R (retV vs) h
  | .ret, e, h => withRes e h rs fun vs => R (retV vs) h
  | .exit _, _, _ => False

theorem retQ_normal (rs : List RV) (R : Value → Heap → Prop) (e : Env) (h : Heap) : retQ rs R .normal e h = withRes e h rs fun vs => R (retV vs) h := (rfl)
theorem retQ_ret (rs : List RV) (R : Value → Heap → Prop) (e : Env) (h : Heap) : retQ rs R .ret e h = withRes e h rs fun vs => R (retV vs) h := (rfl)

def argsE : Nat → List Value → Env
  | _, [] => []
  | k, v :: vs => (k, v) :: argsE (k + 1) vs

theorem find_argsE : ∀ (vs : List Value) (k t : Nat) (v : Value), find (argsE k vs) t = some v → k ≤ t ∧ vs[t - k]? = some v
  | [], _, _, _, h => by simp [argsE, find] at h
  | u :: vs, k, t, v, h => by
    simp only [argsE, find] at h
    split at h
    · rename_i hk; subst hk; cases h; simp
    · rename_i hk
      obtain ⟨h1, h2⟩ := find_argsE vs (k + 1) t v h
      refine ⟨by omega, ?_⟩
      rw [show t - k = (t - (k + 1)) + 1 from by omega]
      simpa using h2

theorem holds_args {N : Nat} (args : Array Value) (hN : args.size ≤ N) : Holds N (argsE 0 args.toList) { tmps := args ++ Array.replicate (N - args.size) undef, defers := [] } := by
  refine ⟨by simp; omega, fun t v h => ?_⟩
  obtain ⟨_, h⟩ := find_argsE _ _ _ _ h
  simp only [Nat.sub_zero, Array.getElem?_toList] at h
  have hlt := (Array.getElem?_eq_some_iff.1 h).1
  have : (args ++ Array.replicate (N - args.size) undef)[t]? = some v := by rw [Array.getElem?_append_left hlt]; exact h
  simp [this]

theorem ext_cell {B : Nat} {h h' : Heap} (hx : Ext B h h') {b o : Nat} {v : Value} (hc : hcell h b o = some v) : hcell h' b o = some v := by
  unfold hcell at *
  split at hc
  · rename_i c t f hb
    rw [hx.old b _ hb (.inr rfl)]
    exact hc
  · cases hc

def resOne (tmps : Array Value) : ResultVar → Sem Value
  | .tmp t => pure (tmps.getD t undef)
  | .cell a t => do loadVar t (← asAddr (tmps.getD a undef))

theorem withRes_run {P : Program} {N : Nat} {e : Env} {a : Act} (hh : Holds N e a) {h : Heap} : ∀ (l : List ResultVar) (rs : List RV) (K : List Value → Prop), compileRes P l = some rs → withRes e h rs K →
    ∃ vs, K vs ∧ ∀ (w : World), (∀ b o v, hcell h b o = some v → hcell w.heap b o = some v) →
      (l.mapM (resOne a.tmps)).run P w = .ok vs w
  | [], rs, K, hc, hk => by
    cases hc
    exact ⟨[], hk, fun w _ => rfl⟩
  | .tmp t :: l, rs, K, hc, hk => by
    simp only [compileRes, Option.map_eq_some_iff] at hc
    obtain ⟨rs', hc, rfl⟩ := hc
    obtain ⟨v, hv, hk⟩ := withV_elim hk
    obtain ⟨vs, hk, hrun⟩ := withRes_run hh l rs' _ hc hk
    refine ⟨v :: vs, hk, fun w hw => ?_⟩
    have := hrun w hw
    simp only [List.mapM_cons, Sem.run_bind, resOne, Sem.run_pure, Result.andThen, hh.2 t v hv, this]
  | .cell t ty :: l, rs, K, hc, hk => by
    simp only [compileRes, Option.bind_eq_some_iff, Option.map_eq_some_iff] at hc
    obtain ⟨ag, hag, rs', hc, rfl⟩ := hc
    cases ag with
    | none =>
      obtain ⟨b, o, hx, hk⟩ := withP_elim hk
      obtain ⟨v, hv, hk⟩ := withV_elim hk
      obtain ⟨vs, hk, hrun⟩ := withRes_run hh l rs' _ hc hk
      refine ⟨v :: vs, hk, fun w hw => ?_⟩
      have := hrun w hw
      have hcell : w.cell? ⟨b, o, none⟩ = some v := by rw [cell?_heap]; exact hw b o v hv
      have hl : (loadVar ty ⟨b, o, none⟩).run P w = .ok v w := by simp [loadVar, run_isAggT (aggT_none hag), hcell]
      have ha : (asAddr (a.tmps.getD t undef)).run P w = .ok ⟨b, o, none⟩ w := by rw [hh.2 t _ hx]; rfl
      simp only [List.mapM_cons, Sem.run_bind, resOne, Sem.run_pure, Result.andThen, ha, hl, this]
    | some n =>
      obtain ⟨b, o, hx, hk⟩ := withP_elim hk
      obtain ⟨cs, hn, hcs, hk⟩ := withC_elim hk
      obtain ⟨vs, hk, hrun⟩ := withRes_run hh l rs' _ hc hk
      refine ⟨.agg cs.toArray :: vs, hk, fun w hw => ?_⟩
      have := hrun w hw
      have h1 := run_loadCells_vs (P := P) (w := w) (b := b) (o := o) (vs := cs) (fun j v hj => by rw [cell?_heap]; exact hw b (o + j) v (hcs j v hj))
      rw [hn] at h1
      have hl : (loadVar ty ⟨b, o, none⟩).run P w = .ok (.agg cs.toArray) w := by simp [loadVar, run_isAggT (aggT_some hag).1, run_sizeT (aggT_some hag).2, h1]
      have ha : (asAddr (a.tmps.getD t undef)).run P w = .ok ⟨b, o, none⟩ w := by rw [hh.2 t _ hx]; rfl
      simp only [List.mapM_cons, Sem.run_bind, resOne, Sem.run_pure, Result.andThen, ha, hl, this]

theorem results_run {P : Program} {fn : Func} {tmps : Array Value} {vs : List Value} {w : World} (h : (fn.results.toList.mapM (resOne tmps)).run P w = .ok vs w) :
    (results fn tmps).run P w = .ok (retV vs) w := by
  have hu : results fn tmps = (fn.results.mapM (resOne tmps) >>= fun vs => pure (if h : vs.size = 1 then vs[0] else .tuple vs)) := by
    unfold results
    congr 1
  rw [hu, Sem.run_bind, Array.mapM_eq_mapM_toList, Sem.run_map, h]
  simp only [Result.andThen, Sem.run_pure]
  congr 1
  match vs with
  | [] => rfl
  | [v] => rfl
  | _ :: _ :: _ => simp [retV]

/-- The marks are taken, the results read. -/
theorem leaves_marks {P : Program} {fn : Func} {tmps : Array Value} {n : Nat} {R : Ending → World → Prop} {B : Nat} : ∀ (ds : List Nat) (w : World), ds.Pairwise (· > ·) → (∀ D ∈ ds, B ≤ D ∧ w.heap[D]? = some (.deferred (some []))) →
    (∀ w', Ext B w.heap w'.heap → w'.heap.size = w.heap.size → w'.os = w.os → w'.output = w.output → w'.tape = w.tape → (∀ (l : Nat) (r : Loop), w.heap[l]? = some (Obj.loop r) → w'.heap[l]? = some (Obj.loop r)) → (∀ D : Nat, D < B → w'.heap[D]? = w.heap[D]?) → ∃ v, (results fn tmps).run P w' = .ok v w' ∧ R (.returned v) w') →
    LeavesInM Fence.wide n P fn tmps R (ds.map mark) .returning w
  | [], w, _, _, h => h w (.refl _ _) rfl rfl rfl rfl (fun _ _ h => h) (fun _ _ => rfl)
  | D :: ds, w, hp, hd, h => by
    obtain ⟨hp1, hp2⟩ := List.pairwise_cons.1 hp
    have hD := hd D (by simp)
    have hne : ∀ k, k ≠ D → (w.heap.setIfInBounds D (.deferred none))[k]? = w.heap[k]? := fun k hk => Array.getElem?_setIfInBounds_ne (Ne.symm hk)
    refine ⟨by simp, .inl ⟨D, { w with heap := w.heap.setIfInBounds D (.deferred none) }, rfl, ?_, ?_⟩⟩
    · simp [Instr.takeDeferred, Sem.run_bind, getObj, setObj, Sem.run, hD.2, Result.andThen]
    · refine leaves_marks ds _ hp2 (fun D' hD' => ⟨(hd D' (by simp [hD'])).1, ?_⟩) ?_
      · have := hp1 D' hD'
        simp only
        rw [hne D' (by omega)]; exact (hd D' (by simp [hD'])).2
      · intro w' hx hs ho hu ht hl hB
        refine h w' (Ext.trans ⟨by simp, fun b x hb hc => ?_⟩ hx) (by rw [hs]; simp) ho hu ht (fun l r hr => hl l r ?_) (fun k hk => ?_)
        · by_cases hbD : b = D
          · subst hbD
            rw [hD.2] at hb; cases hb
            rcases hc with hc | hc
            · have := hD.1; omega
            · cases hc
          · rw [hne b hbD]; exact hb
        · simp only
          rw [hne l (fun e => by subst e; rw [hD.2] at hr; cases hr)]; exact hr
        · rw [hB k hk]; simp only
          have := hD.1
          rw [hne k (by omega)]

/-- **A FUNCTION's CONTRACT.** The post must not hang on the book-keeping of ranges over functions. -/
theorem con_of_vc {P : Program} {y : Option Nat} {f : FuncId} {fn : Func} {c : Code} {T : List (Nat × List Nat)} {g : GC} {rs : List RV} {args : Array Value} {h : Heap} {R : Value → Heap → Prop}
    (hf : P.funcs[f]? = some fn) (hb : fn.body = some c) (hg : goodF P f = true) (hc : compile P fn.ntmps T false c = some g) (hr : compileRes P fn.results.toList = some rs) (hN : args.size ≤ fn.ntmps)
    (hR : g.hasRng = true → ∀ v h1 h2, Ext h.size h1 h2 → R v h1 → R v h2) (hv : vc P y g (retQ rs R) (argsE 0 args.toList) h) : ConX y P f args h R := by
  refine ⟨hg, ?_⟩
  rintro w rfl
  refine (callsIn_wide (n := 0)).1 (callsIn_of_wp_marks hf hb trivial ?_)
  have hcur : Cur y fn.ntmps w g.hasRng (argsE 0 args.toList) { tmps := args ++ Array.replicate (fn.ntmps - args.size) undef, defers := [] } w :=
    ⟨holds_args args hN, ⟨[], rfl, .nil, by simp, fun _ => rfl⟩, .refl _ _⟩
  refine wpIn_mono (vc_sound c false g hc 0 y none w g.hasRng _ _ _ _ (fun h => ⟨h, rfl⟩) (.inr rfl) hcur hv) ?_
  rintro x a' w' ⟨gx, e, rfl, ⟨hh, ⟨ds, hd1, hd2, hd3, hd4⟩, hlk⟩, hq⟩
  have fin : (withRes e w'.heap rs fun vs => R (retV vs) w'.heap) → LeavesInM Fence.wide 0 P fn a'.tmps (fun e w' => ∃ v, e = .returned v ∧ R v w'.heap ∧ Like y w w') a'.defers .returning w' := by
    intro hq
    obtain ⟨vs, hk, hrun⟩ := withRes_run (P := P) hh _ _ _ hr hq
    rw [hd1]
    cases hrng : g.hasRng with
    | false =>
      rw [hd4 hrng]
      exact ⟨retV vs, results_run (hrun w' (fun b o v hcell => hcell)), retV vs, rfl, hk, hlk⟩
    | true =>
      refine leaves_marks (B := w.heap.size) ds w' hd2 hd3 ?_
      intro w'' hx hs ho hu ht hl hB
      refine ⟨retV vs, results_run (hrun w'' (fun b o v hcell => ext_cell hx hcell)), retV vs, rfl, hR hrng _ _ _ hx hk, ?_⟩
      exact ⟨ho.trans hlk.os, hu.trans hlk.output, ht.trans hlk.tape, by rw [hs]; exact hlk.size, fun D hD => by rw [hB D ((Array.getElem?_eq_some_iff.1 hD).1)]; exact hlk.keepD D hD, fun l r hy hl' => hl l r (hlk.keepL l r hy hl')⟩
  cases gx with
  | normal => exact fin hq
  | ret => exact fin hq
  | exit id => exact hq.elim
/-- A function compiled: its body and where its results lie. -/
def compileF (P : Program) (fn : Func) (T : List (Nat × List Nat)) : Option (GC × List RV) :=
  if fn.name != "runtime.NumGoroutine" then
    match fn.body with
    | some c => (compile P fn.ntmps T false c).bind fun g => (compileRes P fn.results.toList).map fun rs => (g, rs)
    | none => none
  else none

theorem con_of {P : Program} {y : Option Nat} {f : FuncId} {fn : Func} {T : List (Nat × List Nat)} {g : GC} {rs : List RV} {args : Array Value} {h : Heap} {R : Value → Heap → Prop}
    (hf : P.funcs[f]? = some fn) (hc : compileF P fn T = some (g, rs)) (hN : Nat.ble args.size fn.ntmps = true)
    (hR : g.hasRng = true → ∀ v h1 h2, Ext h.size h1 h2 → R v h1 → R v h2) (hv : vc P y g (retQ rs R) (argsE 0 args.toList) h) : ConX y P f args h R := by
  unfold compileF at hc
  split at hc
  · rename_i hn
    split at hc
    · rename_i c hb
      simp only [Option.bind_eq_some_iff, Option.map_eq_some_iff, Prod.mk.injEq] at hc
      obtain ⟨g', hg, rs', hr, rfl, rfl⟩ := hc
      exact con_of_vc hf hb (by unfold goodF; rw [hf]; simp [hb]; simpa using hn) hg hr (Nat.le_of_ble_eq_true hN) hR hv
    · cases hc
  · cases hc
end Go.Vc
namespace Go.Vc
open Go

/-- The frame is reckoned, ahead of what follows. -/
def force (e : Env) (K : Env → Prop) (_ : Dep K := .mk) : Prop := K e
theorem force_nil (K : Env → Prop) (d : Dep K) : force [] K d = K [] := (rfl)
theorem force_cons (p : Nat × Value) (e : Env) (K : Env → Prop) (d : Dep K) : force (p :: e) K d = K (p :: e) := (rfl)

/-! ### The walk's rules -/
section
variable {P : Program} {y : Option Nat} {e : Env} {h : Heap} {Q : Post}
theorem w_skip : vc P y .skip Q e h = Q .normal e h := (rfl)
theorem w_ret : vc P y .ret Q e h = Q .ret e h := (rfl)
theorem w_exit (id : Nat) : vc P y (.exit id) Q e h = Q (.exit id) e h := (rfl)
theorem w_block (id : Nat) (c : GC) : vc P y (.block id c) Q e h = vc P y c (blockQ id Q) e h := (rfl)
theorem w_seq (a b : GC) : vc P y (.seq a b) Q e h = vc P y a (thenQ (vc P y b Q) Q) e h := (rfl)
theorem w_cond (x : Operand) (a b : GC) : vc P y (.cond x a b) Q e h = withB (ev e x) fun t => If (t = true) (vc P y a Q e h) (vc P y b Q e h) := (rfl)
theorem w_reg (r : GR) (live : List Nat) : vc P y (.reg r live) Q e h = rvc P y r [] e h fun e h => force (only live e) fun e => Q .normal e h := (rfl)
theorem w_loop (c : GC) : vc P y (.loop c) Q e h = loopVC (vc P y c) Q e h := (rfl)
theorem w_rng (f : Operand) (ps : List Nat) (asg body : GC) : vc P y (.rng f ps asg body) Q e h = Chk (y = none) (rngVC P (vc P y asg) (vc P y body) ps (ev e f) Q e h) := (rfl)

variable {K : Env → Heap → Prop} {W : Watch}
theorem r_done : rvc P y .done W e h K = K e h := (rfl)
theorem r_op (i : Nat) (d : Option Nat) (g : GOp) (l : List Nat) (r : GR) : rvc P y (.op ⟨i, d, none, g, l, false⟩ r) W e h K =
    gvc P y g e h fun v h' => chkW l W h' (rvc P y r W (eput e d v) h' K) := (rfl)
theorem r_opl (i : Nat) (d : Option Nat) (g : GOp) (l : List Nat) (r : GR) : rvc P y (.op ⟨i, d, none, g, l, true⟩ r) W e h K =
    gvc P y g e h fun v h' => chkW l W h' (rvc P y r ((i, reads g e v) :: W) (eput e d v) h' K) := (rfl)
theorem r_opg (i : Nat) (d : Option Nat) (s : Nat) (want : Bool) (g : GOp) (l : List Nat) (r : GR) : rvc P y (.op ⟨i, d, some (s, want), g, l, false⟩ r) W e h K =
    withG (find e s) want (gvc P y g e h fun v h' => chkW l W h' (rvc P y r W (eput e d v) h' K)) (rvc P y r W (eput e d undef) h K) := (rfl)
theorem r_opgl (i : Nat) (d : Option Nat) (s : Nat) (want : Bool) (g : GOp) (l : List Nat) (r : GR) : rvc P y (.op ⟨i, d, some (s, want), g, l, true⟩ r) W e h K =
    withG (find e s) want (gvc P y g e h fun v h' => chkW l W h' (rvc P y r ((i, reads g e v) :: W) (eput e d v) h' K)) (rvc P y r W (eput e d undef) h K) := (rfl)
theorem r_two (a b : GR) : rvc P y (.two a b) W e h K = (rvc P y a W e h K ∧ rvc P y b W e h K) := (rfl)

theorem c_nil (A : Prop) : chkW [] W h A = A := (rfl)
theorem c_cons (j : Nat) (l : List Nat) (A : Prop) : chkW (j :: l) W h A = Chk (allAt (wfind W j) h) (chkW l W h A) := (rfl)
theorem a_nil : allAt [] h = True := (rfl)
theorem a_cons (b o : Nat) (v : Value) (rs : List (Nat × Nat × Value)) : allAt ((b, o, v) :: rs) h = (hcell h b o = some v ∧ allAt rs h) := (rfl)

theorem e_put (d : Nat) (v : Value) : eput e (some d) v = (d, v) :: e := (rfl)
theorem e_none (v : Value) : eput e none v = e := (rfl)
theorem f_cons (k t : Nat) (v : Value) : find ((k, v) :: e) t = if k = t then some v else find e t := (rfl)
theorem f_nil (t : Nat) : find [] t = none := (rfl)
theorem o_nil : only [] e = [] := (rfl)
theorem o_cons (t : Nat) (l : List Nat) : only (t :: l) e = consO (find e t) t (only l e) := (rfl)
theorem o_some (t : Nat) (v : Value) : consO (some v) t e = (t, v) :: e := (rfl)
theorem o_none (t : Nat) : consO none t e = e := (rfl)
theorem ev_tmp (t : Nat) : ev e (.tmp t) = find e t := (rfl)
theorem ev_const (v : Value) : ev e (.const v) = some v := (rfl)
theorem ev_global (g : Nat) : ev e (.global g) = some (.pointer (some ⟨g, 0, none⟩)) := (rfl)
theorem ev_func (f : Nat) : ev e (.func f) = some (.func (.func f) #[] #[]) := (rfl)
theorem l_nil (K : List Value → Prop) : withL e [] K = K [] := (rfl)
theorem l_cons (x : Operand) (l : List Operand) (K : List Value → Prop) : withL e (x :: l) K = withV (ev e x) fun v => withL e l fun vs => K (v :: vs) := (rfl)
theorem ar_nil (k : Nat) : argsE k [] = [] := (rfl)
theorem ar_cons (k : Nat) (v : Value) (vs : List Value) : argsE k (v :: vs) = (k, v) :: argsE (k + 1) vs := (rfl)

variable {G : Value → Heap → Prop}
theorem g_mv (x : Operand) : gvc P y (.mv x) e h G = withV (ev e x) fun v => G v h := (rfl)
theorem g_pick (c a b : Operand) : gvc P y (.pick c a b) e h G = withB (ev e c) fun t => If (t = true) (withV (ev e a) fun v => G v h) (withV (ev e b) fun v => G v h) := (rfl)
theorem g_bin (op : BinOp) (a b : Operand) : gvc P y (.bin op a b) e h G = withI (ev e a) fun k n => withI (ev e b) fun k' m => Chk (k = k') (binI op k n m fun v => G v h) := (rfl)
theorem g_shl (a b : Operand) : gvc P y (.shift .shl a b) e h G = withI (ev e a) fun k n => withI (ev e b) fun _ m => Chk (0 ≤ m) (G (.int k (k.wrap (n * 2 ^ (min m.toNat k.bits)))) h) := (rfl)
theorem g_shr (a b : Operand) : gvc P y (.shift .shr a b) e h G = withI (ev e a) fun k n => withI (ev e b) fun _ m => Chk (0 ≤ m) (G (.int k (n.fdiv (2 ^ (min m.toNat k.bits)))) h) := (rfl)
theorem g_eqBool (ng : Bool) (a b : Operand) : gvc P y (.eqBool ng a b) e h G = withB (ev e a) fun p => withB (ev e b) fun q => G (.bool (if ng then p != q else p == q)) h := (rfl)
theorem g_eqNil (sl ng : Bool) (a b : Operand) : gvc P y (.eqNil sl ng a b) e h G = withV (ev e a) fun p => withV (ev e b) fun q => eqNilV sl p q fun r => G (.bool (if ng then !r else r)) h := (rfl)
theorem g_eqStruct (ng : Bool) (offs : List Nat) (a b : Operand) : gvc P y (.eqStruct ng offs a b) e h G = withA (ev e a) fun xs => withA (ev e b) fun ys => eqCells offs xs ys fun r => G (.bool (if ng then !r else r)) h := (rfl)
theorem g_not (x : Operand) : gvc P y (.not x) e h G = withB (ev e x) fun b => G (.bool !b) h := (rfl)
theorem g_neg (x : Operand) : gvc P y (.neg x) e h G = withI (ev e x) fun k n => G (.int k (k.wrap (0 - n))) h := (rfl)
theorem g_conv (k : IntKind) (x : Operand) : gvc P y (.conv k x) e h G = withI (ev e x) fun _ n => G (.int k (k.wrap n)) h := (rfl)
theorem g_nilCheck (x : Operand) : gvc P y (.nilCheck x) e h G = withP (ev e x) fun b o => G (.pointer (some ⟨b, o, none⟩)) h := (rfl)
theorem g_fieldAddr (off : Nat) (x : Operand) : gvc P y (.fieldAddr off x) e h G = withP (ev e x) fun b o => G (.pointer (some ⟨b, o + off, none⟩)) h := (rfl)
theorem g_field0 (off : Nat) (x : Operand) : gvc P y (.field none off x) e h G = withA (ev e x) fun cs => withV cs[off]? fun v => G v h := (rfl)
theorem g_fieldn (n off : Nat) (x : Operand) : gvc P y (.field (some n) off x) e h G = withA (ev e x) fun cs => G (.agg (cs.extract off (off + n))) h := (rfl)
theorem g_indexAddr (size : Nat) (x i : Operand) : gvc P y (.indexAddr size x i) e h G = withS (ev e x) fun a n _ => withI (ev e i) fun _ i => Chk (0 ≤ i ∧ i < (n : Int))
      (withAd a fun b o => G (.pointer (some ⟨b, o + i.toNat * size, none⟩)) h) := (rfl)
theorem g_indexArr (size len : Nat) (x i : Operand) : gvc P y (.indexArr size len x i) e h G = withP (ev e x) fun b o => withI (ev e i) fun _ i => Chk (0 ≤ i ∧ i < (len : Int)) (G (.pointer (some ⟨b, o + i.toNat * size, none⟩)) h) := (rfl)
theorem g_extract (i : Nat) (x : Operand) : gvc P y (.extract i x) e h G = withT (ev e x) fun cs => withV cs[i]? fun v => G v h := (rfl)
theorem g_makeFunc (fn : Fn) (first captured : List Operand) : gvc P y (.makeFunc fn first captured) e h G = withL e first fun vs => withL e captured fun us => G (.func fn vs.toArray us.toArray) h := (rfl)
theorem g_len (x : Operand) : gvc P y (.len x) e h G = withS (ev e x) fun _ n _ => G (.int .i64 n) h := (rfl)
theorem g_maxi (a b : Operand) : gvc P y (.maxi a b) e h G = withI (ev e a) fun k n => withI (ev e b) fun _ m => G (.int k (if m > n then m else n)) h := (rfl)
theorem g_mini (a b : Operand) : gvc P y (.mini a b) e h G = withI (ev e a) fun k n => withI (ev e b) fun _ m => G (.int k (if m < n then m else n)) h := (rfl)
theorem g_slice (size : Nat) (x : Operand) (lo hi : Option Operand) : gvc P y (.slice size x lo hi) e h G = withS (ev e x) fun a n c => withLo e hi n fun hh => Chk (hh ≤ c) (withLo e lo 0 fun l => Chk (l ≤ hh)
      (G (.slice (if c = l then a else a.map (·.add (l * size))) (hh - l) (c - l)) h)) := (rfl)
theorem lo_none (d : Nat) (K : Nat → Prop) : withLo e none d K = K d := (rfl)
theorem lo_some (x : Operand) (d : Nat) (K : Nat → Prop) : withLo e (some x) d K = withI (ev e x) fun _ i => Chk (0 ≤ i) (K i.toNat) := (rfl)
theorem g_build (zero : List Value) (parts : List (Nat × Nat × Operand)) : gvc P y (.build zero parts) e h G = withParts e parts zero fun cs => G (.agg cs.toArray) h := (rfl)
theorem p_nil (cs : List Value) (K : List Value → Prop) : withParts e [] cs K = K cs := (rfl)
theorem p_cons (off size : Nat) (x : Operand) (ps : List (Nat × Nat × Operand)) (cs : List Value) (K : List Value → Prop) : withParts e ((off, size, x) :: ps) cs K =
  withV (ev e x) fun v => Chk ((cl v).length = size ∧ off + size ≤ cs.length) (withParts e ps (putAt cs off (cl v)) K) := (rfl)
theorem g_load0 (x : Operand) : gvc P y (.load none x) e h G = withP (ev e x) fun b o => withV (hcell h b o) fun v => G v h := (rfl)
theorem g_loadn (n : Nat) (x : Operand) : gvc P y (.load (some n) x) e h G = withP (ev e x) fun b o => withC h b o n fun vs => G (.agg vs.toArray) h := (rfl)
theorem k_zero (b o : Nat) (K : List Value → Prop) : withC h b o 0 K = K [] := (rfl)
theorem k_succ (b o n : Nat) (K : List Value → Prop) : withC h b o (n + 1) K = withV (hcell h b o) fun v => withC h b (o + 1) n fun vs => K (v :: vs) := (rfl)
theorem k_1 (b o : Nat) (K : List Value → Prop) : withC h b o 1 K = withV (hcell h b o) fun v => K [v] := (rfl)
theorem k_2 (b o : Nat) (K : List Value → Prop) : withC h b o 2 K = withV (hcell h b o) fun v => withV (hcell h b (o + 1)) fun u => K [v, u] := (rfl)
theorem g_alloc (el : TypeId) (zero : List Value) : gvc P y (.alloc el zero) e h G = newB h zero fun b h' => G (.pointer (some ⟨b, 0, none⟩)) h' := (rfl)
theorem g_box (el : TypeId) (x : Operand) : gvc P y (.box el x) e h G = withV (ev e x) fun v => newB h (cl v) fun b h' => G (.pointer (some ⟨b, 0, none⟩)) h' := (rfl)
theorem g_buildSlice (el : TypeId) (len : Nat) (zero : List Value) (parts : List (Nat × Nat × Operand)) : gvc P y (.buildSlice el len zero parts) e h G = withParts e parts zero fun cs => newB h cs fun b h' => G (.slice (some ⟨b, 0, none⟩) len len) h' := (rfl)
theorem g_makeSlice (el : TypeId) (size bytes : Nat) (zero : List Value) (l c : Operand) : gvc P y (.makeSlice el size bytes zero l c) e h G = withI (ev e l) fun _ l => withI (ev e c) fun _ c => Chk (0 ≤ l ∧ l ≤ c ∧ c ≤ 9223372036854775807 ∧ bytes * c ≤ 281474976710656)
      (newB h (zeros zero c.toNat) fun b h' => G (.slice (some ⟨b, 0, none⟩) l.toNat c.toNat) h') := (rfl)
theorem g_store (n : Nat) (x v : Operand) : gvc P y (.store n x v) e h G = withP (ev e x) fun b o => withV (ev e v) fun v => Chk ((cl v).length = n ∧ (cl v).all Value.oneCell' = true) (Chk (Wr h b o n) (stoB h b o (cl v) fun h' => G undef h')) := (rfl)
theorem g_append (el : TypeId) (size bytes : Nat) (zero : List Value) (s x : Operand) : gvc P y (.append el size bytes zero s x) e h G = withS (ev e s) fun a n c => withS (ev e x) fun a' m _ =>
      If (m = 0) (appB size bytes zero h a n c [] m G) (withAd a' fun b' o' => withC h b' o' (m * size) fun new => Chk (new.all Value.oneCell' = true) (appB size bytes zero h a n c new m G)) := (rfl)
theorem g_call (f : FuncId) (args : List Operand) : gvc P y (.call f args) e h G = withL e args fun vs => callB P f vs.toArray h G := (rfl)
theorem g_callv (x : Operand) (args : List Operand) : gvc P y (.callv x args) e h G = withV (ev e x) fun v => withL e args fun vs =>
      (match v with
       | .func (.func f) first captured => callB P f (first ++ vs.toArray ++ captured) h G
       | .func (.yield l) first _ => Chk (y = some l) (yldB P l (first ++ vs.toArray) h G)
       | _ => False) := (rfl)

variable {V : Value → Prop}
theorem b_add (k : IntKind) (a b : Int) : binI .add k a b V = V (.int k (k.wrap (a + b))) := (rfl)
theorem b_sub (k : IntKind) (a b : Int) : binI .sub k a b V = V (.int k (k.wrap (a - b))) := (rfl)
theorem b_mul (k : IntKind) (a b : Int) : binI .mul k a b V = V (.int k (k.wrap (a * b))) := (rfl)
theorem b_quo (k : IntKind) (a b : Int) : binI .quo k a b V = Chk (b ≠ 0) (V (.int k (k.wrap (a.tdiv b)))) := (rfl)
theorem b_rem (k : IntKind) (a b : Int) : binI .rem k a b V = Chk (b ≠ 0) (V (.int k (a.tmod b))) := (rfl)
theorem b_and (k : IntKind) (a b : Int) : binI .and k a b V = V (.int k (k.wrap (BitVec.ofInt k.bits a &&& BitVec.ofInt k.bits b).toNat)) := (rfl)
theorem b_or (k : IntKind) (a b : Int) : binI .or k a b V = V (.int k (k.wrap (BitVec.ofInt k.bits a ||| BitVec.ofInt k.bits b).toNat)) := (rfl)
theorem b_xor (k : IntKind) (a b : Int) : binI .xor k a b V = V (.int k (k.wrap (BitVec.ofInt k.bits a ^^^ BitVec.ofInt k.bits b).toNat)) := (rfl)
theorem b_eql (k : IntKind) (a b : Int) : binI .eql k a b V = V (.bool (a == b)) := (rfl)
theorem b_neq (k : IntKind) (a b : Int) : binI .neq k a b V = V (.bool (a != b)) := (rfl)
theorem b_lss (k : IntKind) (a b : Int) : binI .lss k a b V = V (.bool (decide (a < b))) := (rfl)
theorem b_leq (k : IntKind) (a b : Int) : binI .leq k a b V = V (.bool (decide (a ≤ b))) := (rfl)
theorem b_gtr (k : IntKind) (a b : Int) : binI .gtr k a b V = V (.bool (decide (a > b))) := (rfl)
theorem b_geq (k : IntKind) (a b : Int) : binI .geq k a b V = V (.bool (decide (a ≥ b))) := (rfl)
end

attribute [go_sem ↓] w_skip w_ret w_exit w_block w_seq w_cond w_reg w_loop w_rng r_done r_op r_opl r_opg r_opgl c_nil c_cons e_put e_none l_nil l_cons g_mv g_pick g_bin g_shl g_shr g_eqBool g_eqNil g_eqStruct g_not g_neg g_conv g_nilCheck g_fieldAddr g_field0 g_fieldn g_indexAddr g_indexArr g_extract g_makeFunc g_len g_maxi g_mini g_slice lo_none lo_some g_build p_nil p_cons g_load0 g_loadn g_alloc g_box g_buildSlice g_makeSlice g_store g_append g_call g_callv b_add b_sub b_mul b_quo b_rem b_and b_or b_xor b_eql b_neq b_lss b_leq b_gtr b_geq thenQ_normal thenQ_ret thenQ_exit blockQ_normal blockQ_ret blockQ_exit retQ_normal retQ_ret
attribute [go_sem] force_nil force_cons a_nil a_cons f_cons f_nil o_nil o_cons o_some o_none ev_tmp ev_const ev_global ev_func ar_nil ar_cons k_zero k_1 k_2 withV_some withI_some withB_some withP_some withS_some withA_some withT_some withG_bool withG_undef withG_tuple Chk_true If_true If_false
attribute [go_sem] List.getElem?_cons_zero List.getElem?_cons_succ Int.toNat_natCast List.getElem?_toArray Nat.mul_one Bool.not_true Bool.not_false decide_true decide_false beq_self_eq_true bne_self_eq_false eq_self not_true_eq_false not_false_eq_true Bool.false_eq_true
end Go.Vc
/-
  The weakest precondition is monotone; joints.
-/
namespace Go.Vc
open Go

section
theorem withV_mono {x : Option Value} {K K' : Value → Prop} {d : Dep K} {d' : Dep K'} (hk : ∀ v, K v → K' v) (h : withV x K d) : withV x K' d' := by
  unfold withV at *; split at h <;> simp_all
theorem withI_mono {x : Option Value} {K K' : IntKind → Int → Prop} {d : Dep K} {d' : Dep K'} (hk : ∀ k n, K k n → K' k n) (h : withI x K d) : withI x K' d' := by
  unfold withI at *; split at h <;> simp_all
theorem withB_mono {x : Option Value} {K K' : Bool → Prop} {d : Dep K} {d' : Dep K'} (hk : ∀ b, K b → K' b) (h : withB x K d) : withB x K' d' := by
  unfold withB at *; split at h
  · exact hk _ h
  · exact h.elim
theorem withP_mono {x : Option Value} {K K' : Nat → Nat → Prop} {d : Dep K} {d' : Dep K'} (hk : ∀ b o, K b o → K' b o) (h : withP x K d) : withP x K' d' := by
  unfold withP at *; split at h <;> simp_all
theorem withS_mono {x : Option Value} {K K' : Option Addr → Nat → Nat → Prop} {d : Dep K} {d' : Dep K'} (hk : ∀ a n c, K a n c → K' a n c) (h : withS x K d) : withS x K' d' := by
  unfold withS at *; split at h <;> simp_all
theorem withA_mono {x : Option Value} {K K' : Array Value → Prop} {d : Dep K} {d' : Dep K'} (hk : ∀ v, K v → K' v) (h : withA x K d) : withA x K' d' := by
  unfold withA at *; split at h <;> simp_all
theorem withT_mono {x : Option Value} {K K' : Array Value → Prop} {d : Dep K} {d' : Dep K'} (hk : ∀ v, K v → K' v) (h : withT x K d) : withT x K' d' := by
  unfold withT at *; split at h <;> simp_all
theorem withAd_mono {x : Option Addr} {K K' : Nat → Nat → Prop} {d : Dep K} {d' : Dep K'} (hk : ∀ b o, K b o → K' b o) (h : withAd x K d) : withAd x K' d' := by
  unfold withAd at *; split at h <;> simp_all
theorem withL_mono {e : Env} {l : List Operand} {K K' : List Value → Prop} (hk : ∀ v, K v → K' v) (h : withL e l K) : withL e l K' := by
  induction l generalizing K K' with
  | nil => exact hk _ h
  | cons x l ih => exact withV_mono (fun v h => ih (fun vs h => hk _ h) h) h
theorem withC_mono {hp : Heap} {b : Nat} {n o : Nat} {K K' : List Value → Prop} (hk : ∀ v, K v → K' v) (h : withC hp b o n K) : withC hp b o n K' := by
  induction n generalizing o K K' with
  | zero => exact hk _ h
  | succ n ih => exact withV_mono (fun v h => ih (fun vs h => hk _ h) h) h
theorem withLo_mono {e : Env} {x : Option Operand} {d : Nat} {K K' : Nat → Prop} (hk : ∀ v, K v → K' v) (h : withLo e x d K) : withLo e x d K' := by
  unfold withLo at *
  split at h
  · exact hk _ h
  · exact withI_mono (fun k n h => ⟨h.1, hk _ h.2⟩) h
theorem Chk_mono {c K K' : Prop} {d : Dep K} {d' : Dep K'} (hk : K → K') (h : Chk c K d) : Chk c K' d' := ⟨h.1, hk h.2⟩
theorem If_mono {c A B A' B' : Prop} {d : Dep A} {d' : Dep B} {d2 : Dep A'} {d2' : Dep B'} (ha : A → A') (hb : B → B') (h : If c A B d d') : If c A' B' d2 d2' := ⟨fun hc => ha (h.1 hc), fun hc => hb (h.2 hc)⟩
theorem eqCells_mono {os : List Nat} {xs ys : Array Value} {K K' : Bool → Prop} (hk : ∀ v, K v → K' v) (h : eqCells os xs ys K) : eqCells os xs ys K' := by
  induction os generalizing K K' with
  | nil => exact hk _ h
  | cons o os ih => exact withI_mono (fun k n h => withI_mono (fun k' m h => ⟨h.1, ih (fun b h => hk _ h) h.2⟩) h) h
theorem binI_mono {op : BinOp} {k : IntKind} {a b : Int} {K K' : Value → Prop} (hk : ∀ v, K v → K' v) (h : binI op k a b K) : binI op k a b K' := by
  unfold binI at *
  split at h <;> first | exact hk _ h | exact ⟨h.1, hk _ h.2⟩ | exact h.elim
theorem eqNilV_mono {s : Bool} {a b : Value} {K K' : Bool → Prop} (hk : ∀ v, K v → K' v) (h : eqNilV s a b K) : eqNilV s a b K' := by
  unfold eqNilV at *
  split at h <;> first | exact hk _ h | exact h.elim

theorem qvc_mono {g : GOp} {e : Env} {h : Heap} {K K' : Value → Prop} (hk : ∀ v, K v → K' v) (hq : qvc g e h K) : qvc g e h K' := by
  unfold qvc at *
  split at hq
  · exact withV_mono hk hq
  · exact withB_mono (fun t hq => If_mono (withV_mono hk) (withV_mono hk) hq) hq
  · exact withI_mono (fun _ _ hq => withI_mono (fun _ _ hq => Chk_mono (binI_mono hk) hq) hq) hq
  · refine withI_mono (fun _ _ hq => withI_mono (fun _ _ hq => Chk_mono (fun hq => ?_) hq) hq) hq
    split at hq
    · exact hk _ hq
    · exact hk _ hq
    · exact hq.elim
  · exact withB_mono (fun _ hq => withB_mono (fun _ hq => hk _ hq) hq) hq
  · exact withV_mono (fun _ hq => withV_mono (fun _ hq => eqNilV_mono (fun _ hq => hk _ hq) hq) hq) hq
  · exact withA_mono (fun _ hq => withA_mono (fun _ hq => eqCells_mono (fun _ hq => hk _ hq) hq) hq) hq
  · exact withB_mono (fun _ hq => hk _ hq) hq
  · exact withI_mono (fun _ _ hq => hk _ hq) hq
  · exact withI_mono (fun _ _ hq => hk _ hq) hq
  · exact withI_mono (fun _ _ hq => hk _ hq) hq
  · exact withP_mono (fun _ _ hq => hk _ hq) hq
  · exact withP_mono (fun _ _ hq => hk _ hq) hq
  · exact withA_mono (fun _ hq => withV_mono hk hq) hq
  · exact withA_mono (fun _ hq => hk _ hq) hq
  · exact withS_mono (fun _ _ _ hq => withI_mono (fun _ _ hq => Chk_mono (withAd_mono fun _ _ hq => hk _ hq) hq) hq) hq
  · exact withP_mono (fun _ _ hq => withI_mono (fun _ _ hq => Chk_mono (hk _) hq) hq) hq
  · exact withT_mono (fun _ hq => withV_mono hk hq) hq
  · exact withL_mono (fun _ hq => withL_mono (fun _ hq => hk _ hq) hq) hq
  · exact withS_mono (fun _ _ _ hq => hk _ hq) hq
  · exact withI_mono (fun _ _ hq => withI_mono (fun _ _ hq => hk _ hq) hq) hq
  · exact withI_mono (fun _ _ hq => withI_mono (fun _ _ hq => hk _ hq) hq) hq
  · exact withS_mono (fun _ _ _ hq => withLo_mono (fun _ hq => Chk_mono (withLo_mono fun _ hq => Chk_mono (hk _) hq) hq) hq) hq
  · exact withParts_mono (fun _ hq => hk _ hq) hq
  · exact withP_mono (fun _ _ hq => withV_mono hk hq) hq
  · exact withP_mono (fun _ _ hq => withC_mono (fun _ hq => hk _ hq) hq) hq
  · exact hq.elim

theorem appB_mono {size bytes : Nat} {zero : List Value} {h : Heap} {a : Option Addr} {n c : Nat} {new : List Value} {m : Nat} {K K' : Value → Heap → Prop} {d : Dep K} {d' : Dep K'} (hk : ∀ v h, K v h → K' v h)
    (hq : appB size bytes zero h a n c new m K d) : appB size bytes zero h a n c new m K' d' := by
  refine ⟨fun hf => ?_, fun hf => ?_⟩
  · have := hq.1 hf
    split at this
    · exact ⟨this.1, fun h' s => hk _ _ (this.2 h' s)⟩
    · exact ⟨this.1, hk _ _ this.2⟩
    · exact this.elim
  · obtain ⟨h1, old, h2, h3⟩ := hq.2 hf
    exact ⟨h1, old, h2, fun c' b' h' hc n => hk _ _ (h3 c' b' h' hc n)⟩

theorem gvc_mono {P : Program} {y : Option Nat} {g : GOp} {e : Env} {h : Heap} {K K' : Value → Heap → Prop} (hk : ∀ v h, K v h → K' v h) (hq : gvc P y g e h K) : gvc P y g e h K' := by
  unfold gvc at *
  split at hq
  · exact fun b h' n => hk _ _ (hq b h' n)
  · exact withV_mono (fun _ hq b h' n => hk _ _ (hq b h' n)) hq
  · exact withParts_mono (fun _ hq b h' n => hk _ _ (hq b h' n)) hq
  · exact withI_mono (fun _ _ hq => withI_mono (fun _ _ hq => Chk_mono (fun hq b h' n => hk _ _ (hq b h' n)) hq) hq) hq
  · exact withP_mono (fun _ _ hq => withV_mono (fun _ hq => Chk_mono (fun hq => Chk_mono (fun hq h' s => hk _ _ (hq h' s)) hq) hq) hq) hq
  · exact withS_mono (fun _ _ _ hq => withS_mono (fun _ _ _ hq => If_mono (appB_mono hk) (withAd_mono fun _ _ hq => withC_mono (fun _ hq => Chk_mono (appB_mono hk) hq) hq) hq) hq) hq
  · exact withL_mono (fun _ hq => ConX.mono hq hk) hq
  · refine withV_mono (fun _ hq => withL_mono (fun _ hq => ?_) hq) hq
    split at hq
    · exact ConX.mono hq hk
    · exact Chk_mono (fun hq => Yld.mono hq hk) hq
    · exact hq.elim
  · exact qvc_mono (fun _ hq => hk _ _ hq) hq

theorem chkW_mono {l : List Nat} {W : Watch} {h : Heap} {K K' : Prop} (hk : K → K') (hq : chkW l W h K) : chkW l W h K' := by
  induction l with
  | nil => exact hk hq
  | cons j l ih => exact ⟨hq.1, ih hq.2⟩
theorem withG_mono {x : Option Value} {w : Bool} {A B A' B' : Prop} {d : Dep A} {d' : Dep B} {d2 : Dep A'} {d2' : Dep B'} (ha : A → A') (hb : B → B') (h : withG x w A B d d') : withG x w A' B' d2 d2' := by
  unfold withG at *
  split at h
  · exact If_mono ha hb h
  · exact hb h
  · exact h.elim
theorem rvc_mono {P : Program} {y : Option Nat} {r : GR} {W : Watch} {e : Env} {h : Heap} {K K' : Env → Heap → Prop} (hk : ∀ e h, K e h → K' e h) (hq : rvc P y r W e h K) : rvc P y r W e h K' := by
  induction r generalizing W e h with
  | done => exact hk _ _ hq
  | op i r ih =>
    have base : gvc P y i.op e h (fun v h' => chkW i.chk W h' (rvc P y r (addW i W e v) (eput e i.dst v) h' K)) → gvc P y i.op e h (fun v h' => chkW i.chk W h' (rvc P y r (addW i W e v) (eput e i.dst v) h' K')) :=
      fun hq => gvc_mono (fun v h' hq => chkW_mono ih hq) hq
    show guarded _ _ _ _
    have hq : guarded _ _ _ _ := hq
    unfold guarded at *
    split at hq
    · exact base hq
    · exact withG_mono base ih hq
  | two a b iha ihb => exact ⟨iha hq.1, ihb hq.2⟩

/-- **MONOTONE.** -/
theorem vc_mono {P : Program} {y : Option Nat} {c : GC} {Q Q' : Post} {e : Env} {h : Heap} (hQ : ∀ x e h, Q x e h → Q' x e h) (hv : vc P y c Q e h) : vc P y c Q' e h := by
  induction c generalizing Q Q' e h with
  | skip => exact hQ _ _ _ hv
  | ret => exact hQ _ _ _ hv
  | exit id => exact hQ _ _ _ hv
  | block id c ih =>
    refine ih (Q := blockQ id Q) (Q' := blockQ id Q') (fun x e h hq => ?_) hv
    cases x with
    | normal => exact hQ _ _ _ hq
    | ret => exact hQ _ _ _ hq
    | exit j => simp only [blockQ] at *; split <;> rename_i hj <;> simp only [hj, if_true, if_false] at hq <;> exact hQ _ _ _ hq
  | loop c ih =>
    obtain ⟨α, E, I, μ, s, h1, h2, h3⟩ := hv
    refine ⟨α, E, I, μ, s, h1, h2, fun s h hi => ih (fun x e h hq => ?_) (h3 s h hi)⟩
    cases x with
    | normal => exact hq
    | ret => exact hQ _ _ _ hq
    | exit j => exact hQ _ _ _ hq
  | seq a b iha ihb =>
    refine iha (Q := thenQ (vc P y b Q) Q) (fun x e h hq => ?_) hv
    cases x with
    | normal => exact ihb hQ hq
    | ret => exact hQ _ _ _ hq
    | exit j => exact hQ _ _ _ hq
  | cond x a b iha ihb => exact withB_mono (fun t hq => If_mono (iha hQ) (ihb hQ) hq) hv
  | reg r live => exact rvc_mono (fun e h hq => hQ _ _ _ hq) hv
  | rng f ps asg body iha ihb =>
    refine Chk_mono (fun hv => withV_mono (fun v hv => ?_) hv) hv
    split at hv
    · refine Chk_mono (fun hv => ?_) hv
      obtain ⟨xs, C, I, X, h1, h2, h3, h4, h5, h6, h7, h8, h9, h10⟩ := hv
      exact ⟨xs, C, I, X, h1, h2, h3, h4, h5, h6, h7, h8, fun h' a b c => hQ _ _ _ (h9 h' a b c), fun x h' a b => ⟨(h10 x h' a b).1, hQ _ _ _ (h10 x h' a b).2⟩⟩
    · exact hv.elim

/-- **A JOINT**: what holds between two pieces is named. -/
theorem w_joint {P : Program} {y : Option Nat} {a b : GC} {Q : Post} {e : Env} {h : Heap} (J : Env → Heap → Prop) (h1 : vc P y a (thenQ J Q) e h) (h2 : ∀ e h, J e h → vc P y b Q e h) : vc P y (.seq a b) Q e h :=
  vc_mono (c := a) (Q := thenQ J Q) (Q' := thenQ (vc P y b Q) Q) (fun x e h hq => by
    cases x with
    | normal => exact h2 _ _ hq
    | ret => exact hq
    | exit j => exact hq) h1
/-- A joint whose frame is told. -/
theorem w_jointE {P : Program} {y : Option Nat} {a b : GC} {Q : Post} {e : Env} {h : Heap} {α : Type} (E : α → Env) (I : α → Heap → Prop) (h1 : vc P y a (thenQ (fun e h => ∃ s, e = E s ∧ I s h) Q) e h) (h2 : ∀ s h, I s h → vc P y b Q (E s) h) : vc P y (.seq a b) Q e h :=
  w_joint _ h1 fun _ _ ⟨s, he, hi⟩ => he ▸ h2 s _ hi
theorem If_joint {P : Program} {y : Option Nat} {c : Prop} {a b : GC} {Q : Post} {K : Env → Heap → Prop} {e e' : Env} {h h' : Heap} {d : Dep (vc P y a (thenQ K Q) e h)} {d' : Dep (vc P y b (thenQ K Q) e' h')} {α : Type} (E : α → Env) (I : α → Heap → Prop)
    (h1 : c → vc P y a (thenQ (fun e h => ∃ s, Le (E s) e ∧ I s h) Q) e h) (h1' : ¬ c → vc P y b (thenQ (fun e h => ∃ s, Le (E s) e ∧ I s h) Q) e' h') (h2 : ∀ s h, I s h → ∀ e, Le (E s) e → K e h) : If c (vc P y a (thenQ K Q) e h) (vc P y b (thenQ K Q) e' h') d d' :=
  have hm : ∀ x e h, thenQ (fun e h => ∃ s, Le (E s) e ∧ I s h) Q x e h → thenQ K Q x e h := fun x e h hq => by
    cases x with
    | normal => obtain ⟨s, hl, hi⟩ := hq; exact h2 _ _ hi _ hl
    | ret => exact hq
    | exit j => exact hq
  ⟨fun hc => vc_mono hm (h1 hc), fun hc => vc_mono hm (h1' hc)⟩
theorem Chk_intro {c K : Prop} {d : Dep K} (h1 : c) (h2 : K) : Chk c K d := ⟨h1, h2⟩
theorem Chk_that {c K : Prop} {d : Dep K} (h1 : c) (h2 : c → K) : Chk c K d := ⟨h1, h2 h1⟩
theorem loop_intro {body : Post → Env → Heap → Prop} {Q : Post} {e : Env} {h : Heap} {α : Type} (E : α → Env) (I : α → Heap → Prop) (μ : α → Nat) (s : α) (h1 : Le (E s) e) (h2 : I s h)
    (h3 : ∀ s h, I s h → body (thenQ (fun e' h' => ∃ s', μ s' < μ s ∧ Le (E s') e' ∧ I s' h') Q) (E s) h) : loopVC body Q e h := ⟨α, E, I, μ, s, h1, h2, h3⟩
end
end Go.Vc
namespace Go.Vc
open Go
theorem cl_int (k : IntKind) (n : Int) : cl (.int k n) = [.int k n] := (rfl)
theorem cl_bool (b : Bool) : cl (.bool b) = [.bool b] := (rfl)
theorem cl_slice (a : Option Addr) (n c : Nat) : cl (.slice a n c) = [.slice a n c] := (rfl)
theorem cl_ptr (a : Option Addr) : cl (.pointer a) = [.pointer a] := (rfl)
theorem cl_func (f : Fn) (a b : Array Value) : cl (.func f a b) = [.func f a b] := (rfl)
theorem cl_agg (cs : List Value) : cl (.agg cs.toArray) = cs := (rfl)
theorem cl_agg' (cs : Array Value) : cl (.agg cs) = cs.toList := (rfl)
theorem oc_int (k : IntKind) (n : Int) : (Value.int k n).oneCell' = true := (rfl)
theorem oc_bool (b : Bool) : (Value.bool b).oneCell' = true := (rfl)
theorem oc_slice (a : Option Addr) (n c : Nat) : (Value.slice a n c).oneCell' = true := (rfl)
theorem oc_ptr (a : Option Addr) : (Value.pointer a).oneCell' = true := (rfl)
theorem oc_func (f : Fn) (a b : Array Value) : (Value.func f a b).oneCell' = true := (rfl)
theorem putAt_nil (l : List Value) (o : Nat) : putAt l o [] = l := (rfl)
theorem putAt_cons (l : List Value) (o : Nat) (v : Value) (vs : List Value) : putAt l o (v :: vs) = putAt (l.set o v) (o + 1) vs := (rfl)
theorem res_nil (e : Env) (h : Heap) (K : List Value → Prop) : withRes e h [] K = K [] := (rfl)
theorem res_tmp (e : Env) (h : Heap) (t : Nat) (l : List RV) (K : List Value → Prop) : withRes e h (.tmp t :: l) K = withV (find e t) fun v => withRes e h l fun vs => K (v :: vs) := (rfl)
theorem res_cell (e : Env) (h : Heap) (t : Nat) (l : List RV) (K : List Value → Prop) : withRes e h (.cell t none :: l) K = withP (find e t) fun b o => withV (hcell h b o) fun v => withRes e h l fun vs => K (v :: vs) := (rfl)
theorem res_celln (e : Env) (h : Heap) (t n : Nat) (l : List RV) (K : List Value → Prop) : withRes e h (.cell t (some n) :: l) K = withP (find e t) fun b o => withC h b o n fun cs => withRes e h l fun vs => K (.agg cs.toArray :: vs) := (rfl)
theorem retV_one (v : Value) : retV [v] = v := (rfl)
theorem retV_nil : retV [] = .tuple #[] := (rfl)
theorem retV_two (v u : Value) : retV [v, u] = .tuple #[v, u] := (rfl)
theorem retV_three (v u w : Value) : retV [v, u, w] = .tuple #[v, u, w] := (rfl)
def rdAt (x : Option Value) (v : Value) : List (Nat × Nat × Value) := match x with | some (.pointer (some a)) => [(a.block, a.off, v)] | _ => []
def rdAtN (x : Option Value) (vs : List Value) : List (Nat × Nat × Value) := match x with | some (.pointer (some a)) => vs.zipIdx.map fun (c, j) => (a.block, a.off + j, c) | _ => []
theorem rd_load0 (x : Operand) (e : Env) (v : Value) : reads (.load none x) e v = rdAt (ev e x) v := (rfl)
theorem rd_loadn (n : Nat) (x : Operand) (e : Env) (v : Value) : reads (.load (some n) x) e v = rdAtN (ev e x) (cl v) := (rfl)
theorem rdAt_ptr (b o : Nat) (v : Value) : rdAt (some (.pointer (some ⟨b, o, none⟩))) v = [(b, o, v)] := (rfl)
theorem rdAtN_1 (b o : Nat) (v : Value) : rdAtN (some (.pointer (some ⟨b, o, none⟩))) [v] = [(b, o, v)] := (rfl)
theorem rdAtN_2 (b o : Nat) (v u : Value) : rdAtN (some (.pointer (some ⟨b, o, none⟩))) [v, u] = [(b, o, v), (b, o + 1, u)] := (rfl)
theorem wf_cons (k j : Nat) (rs : List (Nat × Nat × Value)) (W : Watch) : wfind ((k, rs) :: W) j = if k = j then rs else wfind W j := (rfl)
attribute [go_sem] rd_load0 rd_loadn rdAt_ptr rdAtN_1 rdAtN_2 wf_cons
attribute [go_sem ↓] res_nil res_tmp res_cell res_celln
attribute [go_sem] retV_one retV_nil retV_two retV_three withAd_some cl_int cl_bool cl_slice cl_ptr cl_func cl_agg oc_int oc_bool oc_slice oc_ptr oc_func putAt_nil putAt_cons List.length_cons List.length_nil List.set_cons_zero List.set_cons_succ List.all_cons List.all_nil Bool.and_true and_self and_true true_and decide_eq_true_eq Nat.zero_add Nat.add_zero
end Go.Vc
namespace Go.Vc
open Go
theorem call_of {P : Program} {f : FuncId} {args : Array Value} {h : Heap} {R K : Value → Heap → Prop} {d : Dep K} (hc : Con P f args h R) (hk : ∀ v h', R v h' → K v h') : callB P f args h K d := hc.mono hk
theorem yld_of {P : Program} {l : Nat} {args : Array Value} {h : Heap} {R K : Value → Heap → Prop} {d : Dep K} (hc : Yld P l args h R) (hk : ∀ v h', R v h' → K v h') : yldB P l args h K d := hc.mono hk
end Go.Vc
/-
  Frames, rows of cells, slices that are owned: plain facts on heaps.
-/
namespace Go.Vc
open Go

/-! ### Frames -/
/-- What lay outside the blocks from lo up to hi lies as it lay. -/
structure Fr (lo hi : Nat) (h h' : Heap) : Prop where
  size : h.size ≤ h'.size
  old : ∀ b, b < h.size → (b < lo ∨ hi ≤ b) → h'[b]? = h[b]?

theorem Fr.refl (lo hi : Nat) (h : Heap) : Fr lo hi h h := ⟨Nat.le_refl _, fun _ _ _ => rfl⟩
theorem Fr.trans {lo hi : Nat} {h h' h'' : Heap} (a : Fr lo hi h h') (b : Fr lo hi h' h'') : Fr lo hi h h'' :=
  ⟨Nat.le_trans a.size b.size, fun x hx hc => (b.old x (Nat.lt_of_lt_of_le hx a.size) hc).trans (a.old x hx hc)⟩
theorem Fr.mono {lo hi lo' hi' : Nat} {h h' : Heap} (a : Fr lo hi h h') (hl : hi ≤ lo ∨ h.size ≤ lo ∨ (lo' ≤ lo ∧ hi ≤ hi')) : Fr lo' hi' h h' :=
  ⟨a.size, fun x hx hc => a.old x hx (by omega)⟩
theorem Fr.pure {lo hi : Nat} {h h' : Heap} (a : Fr 0 0 h h') : Fr lo hi h h' := a.mono (by omega)
/-- A frame over blocks that are new to an elder heap. -/
theorem Fr.fresh {lo hi : Nat} {h0 h h' : Heap} (p : Fr 0 0 h0 h) (a : Fr lo hi h h') (hl : h0.size ≤ lo ∨ hi ≤ lo) : Fr 0 0 h0 h' :=
  ⟨Nat.le_trans p.size a.size, fun x hx hc => (a.old x (Nat.lt_of_lt_of_le hx p.size) (by omega)).trans (p.old x hx hc)⟩
theorem Fr.freshIn {lo hi l r : Nat} {h0 h h' : Heap} (p : Fr l r h0 h) (a : Fr lo hi h h') (hl : h0.size ≤ lo ∨ hi ≤ lo ∨ (l ≤ lo ∧ hi ≤ r)) : Fr l r h0 h' :=
  ⟨Nat.le_trans p.size a.size, fun x hx hc => (a.old x (Nat.lt_of_lt_of_le hx p.size) (by omega)).trans (p.old x hx hc)⟩
theorem Fr.cell {lo hi : Nat} {h h' : Heap} (a : Fr lo hi h h') {b o : Nat} (hb : b < h.size) (hc : b < lo ∨ hi ≤ b) : hcell h' b o = hcell h b o := by
  unfold hcell; rw [a.old b hb hc]
theorem hcell_lt {h : Heap} {b o : Nat} {v : Value} (hc : hcell h b o = some v) : b < h.size := by
  unfold hcell at hc
  split at hc
  · rename_i hb; exact (Array.getElem?_eq_some_iff.1 hb).1
  · cases hc
theorem Fr.keep {lo hi : Nat} {h h' : Heap} (a : Fr lo hi h h') {b o : Nat} {v : Value} (hv : hcell h b o = some v) (hc : b < lo ∨ hi ≤ b) : hcell h' b o = some v := by
  rw [a.cell (hcell_lt hv) hc, hv]

/-! ### Rows -/
/-- Block b is a row of just these cells, to be read and written. -/
def Rw (h : Heap) (b : Nat) (c : List Value) : Prop := ∃ t, Blk h b t c
theorem Rw.cell {h : Heap} {b : Nat} {c : List Value} (r : Rw h b c) (o : Nat) : hcell h b o = c[o]? := by
  obtain ⟨t, r⟩ := r
  unfold hcell; rw [r]; simp
theorem Rw.wr {h : Heap} {b : Nat} {c : List Value} (r : Rw h b c) {o n : Nat} (hn : o + n ≤ c.length) : Wr h b o n := by
  obtain ⟨t, r⟩ := r; exact ⟨t, c, r, hn⟩
theorem Rw.lt {h : Heap} {b : Nat} {c : List Value} (r : Rw h b c) : b < h.size := by
  obtain ⟨t, r⟩ := r; exact (Array.getElem?_eq_some_iff.1 r).1
theorem Rw.fr {lo hi : Nat} {h h' : Heap} {b : Nat} {c : List Value} (r : Rw h b c) (a : Fr lo hi h h') (hc : b < lo ∨ hi ≤ b) : Rw h' b c := by
  have := r.lt
  obtain ⟨t, r⟩ := r; exact ⟨t, (a.old b this hc).trans r⟩

/-! ### A new block -/
section
variable {h h' : Heap} {b : Nat} {c : List Value}
theorem New.size (n : New h h' b c) : h'.size = h.size + 1 := by obtain ⟨t, rfl⟩ := n.push; simp
theorem New.fr {lo hi : Nat} (n : New h h' b c) : Fr lo hi h h' := by
  obtain ⟨t, rfl⟩ := n.push
  exact ⟨by simp, fun x hx _ => by simp [Array.getElem?_push, Nat.ne_of_lt hx]⟩
theorem New.row (n : New h h' b c) : Rw h' b c := by
  obtain ⟨t, rfl⟩ := n.push
  refine ⟨t, ?_⟩
  unfold Blk; rw [n.at_]; simp
theorem New.rw {b' : Nat} {c' : List Value} (n : New h h' b c) (r : Rw h b' c') : Rw h' b' c' := r.fr (n.fr (lo := 0) (hi := 0)) (by omega)
end

/-! ### A store -/
theorem modify_size (h : Heap) (b : Nat) (f : Obj → Obj) : (h.modify b f).size = h.size := by simp
theorem hset_blk {h : Heap} {b : Nat} {t : TypeId} {c : List Value} (r : Blk h b t c) (o : Nat) (v : Value) : Blk (hset h b o v) b t (c.set o v) := by
  unfold Blk at *
  rw [hset_get, if_pos rfl, r]; simp [hmod]
theorem hputs_old (vs : List Value) : ∀ (h : Heap) (b o x : Nat), x ≠ b → (hputs h b o vs)[x]? = h[x]? := by
  induction vs with
  | nil => intros; rfl
  | cons v vs ih => intro h b o x hx; simp only [hputs]; rw [ih _ _ _ _ hx, hset_get, if_neg (fun h => hx h.symm)]
theorem hputs_blk (vs : List Value) : ∀ {h : Heap} {b : Nat} {t : TypeId} {c : List Value} (_ : Blk h b t c) (o : Nat), Blk (hputs h b o vs) b t (putAt c o vs) := by
  induction vs with
  | nil => intro h b t c r o; exact r
  | cons v vs ih => intro h b t c r o; exact ih (hset_blk r o v) (o + 1)

section
variable {h h' : Heap} {b o : Nat} {vs : List Value}
theorem Sto.size (s : Sto h h' b o vs) : h'.size = h.size := by rw [s.eq, hputs_size]
theorem Sto.fr (s : Sto h h' b o vs) : Fr b (b + 1) h h' := ⟨Nat.le_of_eq s.size.symm, fun x _ hc => by rw [s.eq, hputs_old]; omega⟩
theorem Sto.row {c : List Value} (s : Sto h h' b o vs) (r : Rw h b c) : Rw h' b (putAt c o vs) := by
  obtain ⟨t, r⟩ := r; exact ⟨t, by rw [s.eq]; exact hputs_blk vs r o⟩
theorem Sto.rw {b' : Nat} {c' : List Value} (s : Sto h h' b o vs) (r : Rw h b' c') (hb : b' ≠ b) : Rw h' b' c' := r.fr s.fr (by omega)
end

theorem length_putAt (vs : List Value) : ∀ (l : List Value) (o : Nat), (putAt l o vs).length = l.length := by
  induction vs with
  | nil => intros; rfl
  | cons v vs ih => intro l o; simp [putAt, ih]
theorem putAt_one (l : List Value) (o : Nat) (v : Value) : putAt l o [v] = l.set o v := rfl
theorem putAt_mid (vs : List Value) : ∀ (a m r : List Value), m.length = vs.length → putAt (a ++ m ++ r) a.length vs = a ++ vs ++ r := by
  induction vs with
  | nil => intro a m r hm; simp at hm; simp [hm, putAt]
  | cons v vs ih =>
    intro a m r hm
    cases m with
    | nil => simp at hm
    | cons x m =>
      simp only [putAt]
      have := ih (a ++ [v]) m r (by simpa using hm)
      simp only [List.length_append, List.length_singleton] at this
      rw [show (a ++ x :: m ++ r).set a.length v = a ++ [v] ++ m ++ r from by simp [List.set_append]]
      rw [this]; simp
theorem getElem?_putAt (vs : List Value) : ∀ (l : List Value) (o k : Nat), o + vs.length ≤ l.length → (putAt l o vs)[k]? = if o ≤ k ∧ k < o + vs.length then vs[k - o]? else l[k]? := by
  induction vs with
  | nil => intro l o k _; simp only [putAt, List.length_nil]; rw [if_neg (by omega)]
  | cons v vs ih =>
    intro l o k hl
    simp only [List.length_cons] at hl
    simp only [putAt]
    rw [ih _ _ _ (by simp; omega)]
    simp only [List.length_cons]
    by_cases h1 : o + 1 ≤ k ∧ k < o + 1 + vs.length
    · rw [if_pos h1, if_pos (by omega), show k - o = (k - (o + 1)) + 1 from by omega]; rfl
    · rw [if_neg h1]
      by_cases h2 : k = o
      · subst h2; rw [if_pos (by omega), List.getElem?_set_self (by omega)]; simp
      · rw [if_neg (by omega), List.getElem?_set_ne (fun h => h2 h.symm)]

/-! ### Zeros -/
theorem zeros_one (z : Value) : ∀ n, zeros [z] n = List.replicate n z
  | 0 => rfl
  | n + 1 => by simp [zeros, zeros_one z n, List.replicate_succ]
theorem length_zeros (z : List Value) : ∀ n, (zeros z n).length = n * z.length
  | 0 => by simp [zeros]
  | n + 1 => by simp [zeros, length_zeros z n, Nat.succ_mul]; omega

/-! ### Slices that one holds alone -/
def bl : Value → Nat
  | .slice (some a) _ _ => a.block
  | _ => 0
def bh : Value → Nat
  | .slice (some a) _ _ => a.block + 1
  | _ => 0

/-- v is a slice of n elements of s cells each, whose cells are xs; its block lies from lo on, and it alone holds it. -/
def Holder (s : Nat) (h : Heap) (v : Value) (n : Nat) (xs : List Value) (lo : Nat) : Prop :=
  xs.length = n * s ∧ ((v = .slice none 0 0 ∧ n = 0) ∨ ∃ b c rest, v = .slice (some ⟨b, 0, none⟩) n c ∧ Rw h b (xs ++ rest) ∧ rest.length + n * s = c * s ∧ lo ≤ b)

theorem Holder.none (s : Nat) (h : Heap) (lo : Nat) : Holder s h (.slice none 0 0) 0 [] lo := ⟨by simp, .inl ⟨rfl, rfl⟩⟩
theorem Holder.fr {s : Nat} {h h' : Heap} {v : Value} {n : Nat} {xs : List Value} {lo l r : Nat} (w : Holder s h v n xs lo) (f : Fr l r h h') (hb : bh v ≤ l ∨ r ≤ bl v ∨ r ≤ l) : Holder s h' v n xs lo := by
  obtain ⟨hl, h1 | ⟨b, c, rest, rfl, h2, h3, h4⟩⟩ := w
  · exact ⟨hl, .inl h1⟩
  · exact ⟨hl, .inr ⟨b, c, rest, rfl, h2.fr f (by simp only [bl, bh] at hb; omega), h3, h4⟩⟩
theorem Holder.at_ {s : Nat} {h : Heap} {v : Value} {n : Nat} {xs : List Value} {lo : Nat} (w : Holder s h v n xs lo) : (bl v = 0 ∧ bh v = 0) ∨ (lo ≤ bl v ∧ bh v = bl v + 1 ∧ bl v < h.size) := by
  obtain ⟨hl, ⟨rfl, _⟩ | ⟨b, c, rest, rfl, h2, h3, h4⟩⟩ := w
  · exact .inl ⟨rfl, rfl⟩
  · exact .inr ⟨h4, rfl, h2.lt⟩
theorem Holder.is {s : Nat} {h : Heap} {v : Value} {n : Nat} {xs : List Value} {lo : Nat} (w : Holder s h v n xs lo) : ∃ a c, v = .slice a n c := by
  obtain ⟨hl, ⟨rfl, rfl⟩ | ⟨b, c, rest, rfl, _⟩⟩ := w
  · exact ⟨_, _, rfl⟩
  · exact ⟨_, _, rfl⟩

theorem Holder.lower {s : Nat} {h : Heap} {v : Value} {n : Nat} {xs : List Value} {lo lo' : Nat} (w : Holder s h v n xs lo) (hl : lo' ≤ lo) : Holder s h v n xs lo' := by
  obtain ⟨hx, h1 | ⟨b, c, rest, h1, h2, h3, h4⟩⟩ := w
  · exact ⟨hx, .inl h1⟩
  · exact ⟨hx, .inr ⟨b, c, rest, h1, h2, h3, by omega⟩⟩
/-- What is appended to it. -/
theorem Holder.append {s bytes : Nat} {zero : List Value} {h : Heap} {a : Option Addr} {n c : Nat} {xs new : List Value} {m lo : Nat} {K : Value → Heap → Prop} {d : Dep K}
    (w : Holder s h (.slice a n c) n xs lo) (hs : 0 < s) (hz : zero.length = s) (hlo : lo ≤ h.size) (hm : new.length = m * s) (hbig : (n + m) * 2 * bytes ≤ 281474976710656)
    (hK : ∀ v' h', Holder s h' v' (n + m) (xs ++ new) lo → Fr (bl (.slice a n c)) (bh (.slice a n c)) h h' → bl v' = bl (.slice a n c) ∧ h'.size = h.size ∨ bl v' = h.size ∧ h'.size = h.size + 1 ∨ bh v' = 0 ∧ h' = h → K v' h') :
    appB s bytes zero h a n c new m K d := by
  have hlen := w.1
  refine ⟨fun hfit => ?_, fun hfit => ⟨hbig, ?_⟩⟩
  · obtain ⟨_, ⟨h1, rfl⟩ | ⟨b, c', rest, h1, h2, h3, h4⟩⟩ := w
    · cases h1
      have hm0 : m = 0 := by omega
      subst hm0
      refine ⟨rfl, hK _ _ ⟨by simp at hm hlen; simp [hm, hlen], .inl ⟨rfl, rfl⟩⟩ (.refl _ _ _) (.inr (.inr ⟨rfl, rfl⟩))⟩
    · cases h1
      simp only [Nat.zero_add]
      have hms : m * s ≤ rest.length := by
        have := Nat.mul_le_mul_right s hfit
        rw [Nat.add_mul] at this; omega
      refine ⟨h2.wr (by simp [hlen]; omega), fun h' st => ?_⟩
      refine hK _ _ ⟨by simp [hlen, hm, Nat.add_mul], .inr ⟨b, _, rest.drop (m * s), rfl, ?_, by simp; rw [Nat.add_mul]; omega, h4⟩⟩ st.fr (.inl ⟨rfl, st.size⟩)
      have := st.row h2
      rw [← hlen, ← List.take_append_drop (m * s) rest, ← List.append_assoc, putAt_mid _ _ _ _ (by simp [hm]; omega)] at this
      simpa using this
  · have hold : ∃ old : List Value, old = xs ∧ (old = [] ∧ a = Option.none ∧ n = 0 ∨ ∃ b o, a = some ⟨b, o, Option.none⟩ ∧ old.length = n * s ∧ ∀ j v, old[j]? = some v → hcell h b (o + j) = some v) := by
      refine ⟨xs, rfl, ?_⟩
      obtain ⟨_, ⟨h1, rfl⟩ | ⟨b, c', rest, h1, h2, h3, h4⟩⟩ := w
      · cases h1; exact .inl ⟨by simpa using hlen, rfl, rfl⟩
      · cases h1
        refine .inr ⟨b, 0, rfl, hlen, fun j v hj => ?_⟩
        rw [h2.cell, Nat.zero_add, List.getElem?_append_left (List.getElem?_eq_some_iff.1 hj).1, hj]
    obtain ⟨old, rfl, hold⟩ := hold
    refine ⟨old, hold, fun c' b' h' hc' nw => ?_⟩
    refine hK _ _ ⟨by simp [hlen, hm, Nat.add_mul], .inr ⟨b', c', zeros zero (c' - (n + m)), rfl, nw.row, ?_, by rw [nw.at_]; exact hlo⟩⟩ nw.fr (.inr (.inl ⟨nw.at_, nw.size⟩))
    rw [length_zeros, hz, ← Nat.add_mul]; congr 1; omega

/-! ### Numbers -/
theorem wrap64 {n : Int} (h1 : -9223372036854775808 ≤ n) (h2 : n ≤ 9223372036854775807) : IntKind.i64.wrap n = n := by
  rw [IntKind.wrap_i64]; omega
theorem wrapu64 {n : Int} (h1 : 0 ≤ n) (h2 : n ≤ 18446744073709551615) : IntKind.u64.wrap n = n := by
  rw [IntKind.wrap_u64]; omega
end Go.Vc
namespace Go.Vc
open Go
/-! ### Slices that are only read -/
/-- v is a slice of n elements of s cells each; its cells are xs. -/
def Rd (s : Nat) (h : Heap) (v : Value) (n : Nat) (xs : List Value) : Prop :=
  xs.length = n * s ∧ ∃ a c, v = .slice a n c ∧ (n = 0 ∨ ∃ b o, a = some ⟨b, o, none⟩ ∧ ∀ j x, xs[j]? = some x → hcell h b (o + j) = some x)
theorem Holder.rd {s : Nat} {h : Heap} {v : Value} {n : Nat} {xs : List Value} {lo : Nat} (w : Holder s h v n xs lo) : Rd s h v n xs := by
  obtain ⟨hl, ⟨rfl, rfl⟩ | ⟨b, c, rest, rfl, h2, h3, h4⟩⟩ := w
  · exact ⟨hl, _, _, rfl, .inl rfl⟩
  · refine ⟨hl, _, _, rfl, .inr ⟨b, 0, rfl, fun j x hj => ?_⟩⟩
    rw [h2.cell, Nat.zero_add, List.getElem?_append_left (List.getElem?_eq_some_iff.1 hj).1, hj]
theorem Rd.is {s : Nat} {h : Heap} {v : Value} {n : Nat} {xs : List Value} (w : Rd s h v n xs) : ∃ a c, v = .slice a n c := by
  obtain ⟨_, a, c, h1, _⟩ := w; exact ⟨a, c, h1⟩
/-- It lies below: what is read of it does not change where nothing below changes. -/
theorem Rd.fr {s : Nat} {h h' : Heap} {v : Value} {n : Nat} {xs : List Value} (w : Rd s h v n xs) (f : Fr 0 0 h h') : Rd s h' v n xs := by
  obtain ⟨hl, a, c, h1, h2⟩ := w
  refine ⟨hl, a, c, h1, h2.imp_right ?_⟩
  rintro ⟨b, o, h3, h4⟩
  exact ⟨b, o, h3, fun j x hj => f.keep (h4 j x hj) (by omega)⟩
/-- An element's address. -/
theorem Rd.idx {s : Nat} {h : Heap} {a : Option Addr} {n c : Nat} {xs : List Value} {K : Nat → Nat → Prop} {d : Dep K} (w : Rd s h (.slice a n c) n xs) (hn : 0 < n)
    (hk : ∀ b o, (∀ j x, xs[j]? = some x → hcell h b (o + j) = some x) → K b o) : withAd a K d := by
  obtain ⟨hl, a', c', h1, h2⟩ := w
  cases h1
  rcases h2 with h2 | ⟨b, o, rfl, h4⟩
  · omega
  · exact hk b o h4

/-- Pairs in cells. -/
def pairsV (l : List (Int × Int)) : List Value := l.flatMap fun p => [.int .i64 p.1, .int .i64 p.2]
@[simp] theorem length_pairsV (l : List (Int × Int)) : (pairsV l).length = l.length * 2 := by
  induction l with
  | nil => rfl
  | cons p l ih => simp only [pairsV, List.flatMap_cons, List.length_append, List.length_cons, List.length_nil] at *; omega
theorem pairsV_cons (p : Int × Int) (l : List (Int × Int)) : pairsV (p :: l) = .int .i64 p.1 :: .int .i64 p.2 :: pairsV l := rfl
theorem pairsV_append (l m : List (Int × Int)) : pairsV (l ++ m) = pairsV l ++ pairsV m := by simp [pairsV]
theorem pairsV_get : ∀ (l : List (Int × Int)) (i : Nat) (p : Int × Int), l[i]? = some p → (pairsV l)[i * 2]? = some (.int .i64 p.1) ∧ (pairsV l)[i * 2 + 1]? = some (.int .i64 p.2)
  | [], i, p, h => by simp at h
  | q :: l, 0, p, h => by simp at h; subst h; simp [pairsV_cons]
  | q :: l, i + 1, p, h => by
    have := pairsV_get l i p (by simpa using h)
    rw [pairsV_cons, show (i + 1) * 2 = i * 2 + 2 from by omega]
    simpa using this
theorem Rd.pair {h : Heap} {a : Option Addr} {c : Nat} {l : List (Int × Int)} {K : Nat → Nat → Prop} {d : Dep K} (w : Rd 2 h (.slice a l.length c) l.length (pairsV l)) {i : Nat} {p : Int × Int} (hp : l[i]? = some p)
    (hk : ∀ b o, hcell h b (o + i * 2) = some (.int .i64 p.1) → hcell h b (o + i * 2 + 1) = some (.int .i64 p.2) → K b o) : withAd a K d :=
  w.idx (by have := (List.getElem?_eq_some_iff.1 hp).1; omega) fun b o hc => hk b o (hc _ _ (pairsV_get l i p hp).1) (by rw [Nat.add_assoc]; exact hc _ _ (pairsV_get l i p hp).2)
/-- Integers in cells. -/
def intsV (l : List Int) : List Value := l.map (.int .i64)
@[simp] theorem length_intsV (l : List Int) : (intsV l).length = l.length := by simp [intsV]
theorem intsV_get {l : List Int} {i : Nat} {p : Int} (h : l[i]? = some p) : (intsV l)[i]? = some (.int .i64 p) := by simp [intsV, h]
theorem intsV_append (l m : List Int) : intsV (l ++ m) = intsV l ++ intsV m := by simp [intsV]
end Go.Vc
namespace Go.Vc
open Go
theorem Rw.rd {h : Heap} {b s n c : Nat} {xs : List Value} (r : Rw h b xs) (hl : xs.length = n * s) : Rd s h (.slice (some ⟨b, 0, none⟩) n c) n xs :=
  ⟨hl, _, _, rfl, .inr ⟨b, 0, rfl, fun j x hj => by rw [r.cell, Nat.zero_add, hj]⟩⟩
/-- Numbers in cells. -/
def natsV (l : List Nat) : List Value := l.map fun (p : Nat) => Value.int .i64 (p : Int)
@[simp] theorem length_natsV (l : List Nat) : (natsV l).length = l.length := by simp [natsV]
theorem natsV_get {l : List Nat} {i p : Nat} (h : l[i]? = some p) : (natsV l)[i]? = some (.int .i64 (p : Int)) := by simp [natsV, h]
theorem natsV_append (l m : List Nat) : natsV (l ++ m) = natsV l ++ natsV m := by simp [natsV]

/-! ### The least number that is fit -/
/-- The least one from q on, below n. -/
def lf (f : Nat → Bool) (n q : Nat) : Option Nat := (List.range' q (n - q)).find? f
def nx (o : Option Nat) : Int := match o with | none => -1 | some x => x
theorem lf_end (f : Nat → Bool) {n q : Nat} (h : n ≤ q) : lf f n q = none := by simp [lf, Nat.sub_eq_zero_of_le h]
theorem lf_step (f : Nat → Bool) {n q : Nat} (h : q < n) : lf f n q = if f q = true then some q else lf f n (q + 1) := by
  unfold lf
  rw [show n - q = (n - (q + 1)) + 1 from by omega, List.range'_succ, List.find?_cons]
  cases f q <;> simp
theorem lf_some {f : Nat → Bool} {n q x : Nat} (h : lf f n q = some x) : q ≤ x ∧ x < n ∧ f x = true := by
  unfold lf at h
  have h1 := List.mem_of_find?_eq_some h
  have h2 := List.find?_some h
  rw [List.mem_range'_1] at h1
  exact ⟨by omega, by omega, h2⟩
end Go.Vc
namespace Go.Vc
theorem nx_some (x : Nat) : nx (some x) = (x : Int) := (rfl)
theorem nx_none : nx none = -1 := (rfl)
end Go.Vc
/-
  Words of 64 bits: plain facts.
-/
namespace Go.Vc
open Go

theorem ofInt64 {a : Nat} (ha : a < 2 ^ 64) : (BitVec.ofInt IntKind.u64.bits (a : Int)).toNat = a := by
  show (BitVec.ofInt 64 (a : Int)).toNat = a
  rw [BitVec.toNat_ofInt]
  omega
theorem and64 {a b : Nat} (ha : a < 2 ^ 64) (hb : b < 2 ^ 64) : IntKind.u64.wrap ((BitVec.ofInt IntKind.u64.bits (a : Int) &&& BitVec.ofInt IntKind.u64.bits (b : Int)).toNat : Int) = ((a &&& b : Nat) : Int) := by
  rw [BitVec.toNat_and, ofInt64 ha, ofInt64 hb]
  have : a &&& b ≤ a := Nat.and_le_left
  exact wrapu64 (by omega) (by omega)
theorem or64 {a b : Nat} (ha : a < 2 ^ 64) (hb : b < 2 ^ 64) : IntKind.u64.wrap ((BitVec.ofInt IntKind.u64.bits (a : Int) ||| BitVec.ofInt IntKind.u64.bits (b : Int)).toNat : Int) = ((a ||| b : Nat) : Int) := by
  rw [BitVec.toNat_or, ofInt64 ha, ofInt64 hb]
  have := Nat.or_lt_two_pow ha hb
  exact wrapu64 (by omega) (by omega)
theorem xor64 {a b : Nat} (ha : a < 2 ^ 64) (hb : b < 2 ^ 64) : IntKind.u64.wrap ((BitVec.ofInt IntKind.u64.bits (a : Int) ^^^ BitVec.ofInt IntKind.u64.bits (b : Int)).toNat : Int) = ((a ^^^ b : Nat) : Int) := by
  rw [BitVec.toNat_xor, ofInt64 ha, ofInt64 hb]
  have := Nat.xor_lt_two_pow ha hb
  exact wrapu64 (by omega) (by omega)
theorem shr64 (a k : Nat) (hk : k < 64) : (a : Int).fdiv (2 ^ min k IntKind.u64.bits) = ((a / 2 ^ k : Nat) : Int) := by
  rw [show min k IntKind.u64.bits = k from by show min k 64 = k; omega, Int.fdiv_eq_ediv_of_nonneg _ (by exact Int.le_of_lt (Int.pow_pos (by decide)))]
  simp
theorem shl64 (k : Nat) (hk : k < 64) : IntKind.u64.wrap (1 * 2 ^ min k IntKind.u64.bits) = ((2 ^ k : Nat) : Int) := by
  rw [show min k IntKind.u64.bits = k from by show min k 64 = k; omega, Int.one_mul, show (2 : Int) ^ k = ((2 ^ k : Nat) : Int) from by simp]
  have : (2 : Nat) ^ k < 2 ^ 64 := Nat.pow_lt_pow_right (by decide) hk
  generalize (2 : Nat) ^ k = x at this
  exact wrapu64 (by omega) (by omega)
theorem bit_has {a k : Nat} (ha : a < 2 ^ 64) (hk : k < 64) : (((a / 2 ^ k &&& 1 : Nat) : Int) == 1) = a.testBit k := by
  rw [Nat.testBit_eq_decide_div_mod_eq, Nat.and_one_is_mod, Bool.eq_iff_iff]
  simp only [beq_iff_eq, decide_eq_true_eq]
  omega
theorem tdiv64 (p : Nat) : (p : Int).tdiv 64 = ((p / 64 : Nat) : Int) := by
  rw [Int.tdiv_eq_ediv_of_nonneg (by omega)]; omega
theorem tmod64 (p : Nat) : (p : Int).tmod 64 = ((p % 64 : Nat) : Int) := by
  rw [Int.tmod_eq_emod_of_nonneg (by omega)]; omega

/-- A row of words. -/
def wrow (w : Nat) (W : Nat → Nat) : List Value := (List.range w).map fun (j : Nat) => Value.int .u64 (W j : Int)
@[simp] theorem length_wrow (w : Nat) (W : Nat → Nat) : (wrow w W).length = w := by simp [wrow]
theorem wrow_get {w : Nat} {W : Nat → Nat} {j : Nat} (hj : j < w) : (wrow w W)[j]? = some (.int .u64 (W j : Int)) := by simp [wrow, hj]
theorem wrow_set {w : Nat} {W : Nat → Nat} {j x : Nat} : (wrow w W).set j (.int .u64 (x : Int)) = wrow w fun k => if k = j then x else W k := by
  apply List.ext_getElem?; intro k
  by_cases hk : k < w
  · rw [wrow_get hk, List.getElem?_set]
    by_cases hj : j = k
    · subst hj; simp [hk]
    · rw [if_neg hj, wrow_get hk, if_neg (fun h => hj h.symm)]
  · rw [List.getElem?_eq_none (by simp; omega), List.getElem?_eq_none (by simp; omega)]
theorem wrow_zero (w : Nat) : List.replicate w (Value.int .u64 0) = wrow w fun _ => 0 := by
  apply List.ext_getElem?; intro k
  by_cases hk : k < w
  · rw [wrow_get hk]; simp [hk]
  · simp [wrow, hk]

/-- How many words a row of n points takes. -/
def nw (n : Nat) : Nat := (n + 63) / 64
/-- Words that tell a row of truths over n points. -/
def Bits (n : Nat) (W : Nat → Nat) (f : Nat → Bool) : Prop := ∀ j, W j < 2 ^ 64 ∧ ∀ k, k < 64 → (W j).testBit k = (decide (64 * j + k < n) && f (64 * j + k))
theorem Bits.get {n : Nat} {W : Nat → Nat} {f : Nat → Bool} (b : Bits n W f) {p : Nat} (hp : p < n) : (W (p / 64)).testBit (p % 64) = f p := by
  rw [(b _).2 _ (by omega), show 64 * (p / 64) + p % 64 = p from by omega]; simp [hp]
theorem Bits.zero (n : Nat) : Bits n (fun _ => 0) fun _ => false := fun j => ⟨Nat.two_pow_pos 64, fun k _ => by simp⟩
theorem Bits.flip {n : Nat} {W : Nat → Nat} {f : Nat → Bool} (b : Bits n W f) {p : Nat} (hp : p < n) : Bits n (fun j => if j = p / 64 then W (p / 64) ^^^ 2 ^ (p % 64) else W j) fun q => if q = p then !f p else f q := by
  intro j
  by_cases hj : j = p / 64
  · subst hj
    simp only [if_true]
    refine ⟨Nat.xor_lt_two_pow (b _).1 (Nat.pow_lt_pow_right (by decide) (by omega)), fun k hk => ?_⟩
    rw [Nat.testBit_xor, (b _).2 k hk, Nat.testBit_two_pow]
    by_cases hkp : p % 64 = k
    · subst hkp
      rw [show 64 * (p / 64) + p % 64 = p from by omega]; simp [hp]
    · rw [if_neg (show ¬ 64 * (p / 64) + k = p by omega)]; simp [hkp]
  · simp only [if_neg hj]
    refine ⟨(b j).1, fun k hk => ?_⟩
    rw [(b _).2 k hk, if_neg (show ¬ 64 * j + k = p by omega)]
theorem Bits.set {n : Nat} {W : Nat → Nat} {f : Nat → Bool} (b : Bits n W f) {p : Nat} (hp : p < n) : Bits n (fun j => if j = p / 64 then W (p / 64) ||| 2 ^ (p % 64) else W j) fun q => if q = p then true else f q := by
  intro j
  by_cases hj : j = p / 64
  · subst hj
    simp only [if_true]
    refine ⟨Nat.or_lt_two_pow (b _).1 (Nat.pow_lt_pow_right (by decide) (by omega)), fun k hk => ?_⟩
    rw [Nat.testBit_or, (b _).2 k hk, Nat.testBit_two_pow]
    by_cases hkp : p % 64 = k
    · subst hkp
      rw [show 64 * (p / 64) + p % 64 = p from by omega]; simp [hp]
    · rw [if_neg (show ¬ 64 * (p / 64) + k = p by omega)]; simp [hkp]
  · simp only [if_neg hj]
    refine ⟨(b j).1, fun k hk => ?_⟩
    rw [(b _).2 k hk, if_neg (show ¬ 64 * j + k = p by omega)]

/-- The program's relation: a pointer to its size and its rows. -/
structure PTab (h : Heap) (lo hi pb rb n : Nat) (R : Nat → Nat) (W : Nat → Nat → Nat) (M : Nat → Nat → Bool) : Prop where
  ptr : Rw h pb [.int .i64 n, .slice (some ⟨rb, 0, none⟩) n n]
  rows : Rw h rb ((List.range n).map fun (i : Nat) => Value.slice (some ⟨R i, 0, none⟩) (nw n) (nw n))
  row : ∀ i, i < n → Rw h (R i) (wrow (nw n) (W i)) ∧ lo ≤ R i ∧ R i < hi ∧ R i ≠ pb ∧ R i ≠ rb ∧ Bits n (W i) (M i)
  inj : ∀ i j, i < n → j < n → R i = R j → i = j
  at_ : lo ≤ pb ∧ pb < hi ∧ lo ≤ rb ∧ rb < hi ∧ pb ≠ rb
def ProgAt (h : Heap) (lo hi : Nat) (p : Value) (n : Nat) (M : Nat → Nat → Bool) : Prop :=
  n ≤ 256 ∧ ∃ pb rb R W, p = .pointer (some ⟨pb, 0, none⟩) ∧ PTab h lo hi pb rb n R W M
theorem PTab.fr {h h' : Heap} {lo hi pb rb n : Nat} {R : Nat → Nat} {W : Nat → Nat → Nat} {M : Nat → Nat → Bool} {l r : Nat} (t : PTab h lo hi pb rb n R W M) (f : Fr l r h h') (hd : hi ≤ l ∨ r ≤ lo ∨ r ≤ l) : PTab h' lo hi pb rb n R W M := by
  have a := t.at_
  refine ⟨t.ptr.fr f (by omega), t.rows.fr f (by omega), fun i hi => ?_, t.inj, a⟩
  obtain ⟨h1, h2, h3, h4⟩ := t.row i hi
  exact ⟨h1.fr f (by omega), h2, h3, h4⟩
theorem ProgAt.fr {h h' : Heap} {lo hi l r : Nat} {p : Value} {n : Nat} {M : Nat → Nat → Bool} (t : ProgAt h lo hi p n M) (f : Fr l r h h') (hd : hi ≤ l ∨ r ≤ lo ∨ r ≤ l) : ProgAt h' lo hi p n M := by
  obtain ⟨hn, pb, rb, R, W, hv, ht⟩ := t; exact ⟨hn, pb, rb, R, W, hv, ht.fr f hd⟩
theorem ProgAt.mono {h : Heap} {lo hi lo' hi' : Nat} {p : Value} {n : Nat} {M : Nat → Nat → Bool} (t : ProgAt h lo hi p n M) (h1 : lo' ≤ lo) (h2 : hi ≤ hi') : ProgAt h lo' hi' p n M := by
  obtain ⟨hn, pb, rb, R, W, hv, ht⟩ := t
  have a := ht.at_
  refine ⟨hn, pb, rb, R, W, hv, ht.ptr, ht.rows, fun i hi => ?_, ht.inj, by omega⟩
  obtain ⟨g1, g2, g3, g4⟩ := ht.row i hi
  exact ⟨g1, by omega, by omega, g4⟩
theorem PTab.rowsGet {h : Heap} {lo hi pb rb n : Nat} {R : Nat → Nat} {W : Nat → Nat → Nat} {M : Nat → Nat → Bool} (t : PTab h lo hi pb rb n R W M) {i : Nat} (hi : i < n) : hcell h rb i = some (.slice (some ⟨R i, 0, none⟩) (nw n) (nw n)) := by
  rw [t.rows.cell]; simp [hi]
theorem ProgAt.congr {h : Heap} {lo hi : Nat} {p : Value} {n : Nat} {M M' : Nat → Nat → Bool} (t : ProgAt h lo hi p n M) (he : ∀ i j, i < n → j < n → M i j = M' i j) : ProgAt h lo hi p n M' := by
  obtain ⟨hn, pb, rb, R, W, hv, ht⟩ := t
  refine ⟨hn, pb, rb, R, W, hv, ht.ptr, ht.rows, fun i hi => ?_, ht.inj, ht.at_⟩
  obtain ⟨h1, h2, h3, h4, h5, h6⟩ := ht.row i hi
  refine ⟨h1, h2, h3, h4, h5, fun j => ⟨(h6 j).1, fun k hk => ?_⟩⟩
  rw [(h6 j).2 k hk]
  by_cases hjk : 64 * j + k < n
  · rw [he i _ hi hjk]
  · simp [hjk]
/-- A word of a row is written. -/
theorem PTab.upd {h h' : Heap} {lo hi pb rb n : Nat} {R : Nat → Nat} {W : Nat → Nat → Nat} {M : Nat → Nat → Bool} (t : PTab h lo hi pb rb n R W M) {x o : Nat} {v : Value} {w : Nat → Nat} {f : Nat → Bool} (hx : x < n) (st : Sto h h' (R x) o [v])
    (hw : (wrow (nw n) (W x)).set o v = wrow (nw n) w) (hb : Bits n w f) : PTab h' lo hi pb rb n R (fun i => if i = x then w else W i) (fun i => if i = x then f else M i) := by
  obtain ⟨g1, g2, g3, g4, g5, g6⟩ := t.row x hx
  refine ⟨st.rw t.ptr (Ne.symm g4), st.rw t.rows (Ne.symm g5), fun i hi => ?_, t.inj, t.at_⟩
  obtain ⟨h1, h2, h3, h4, h5, h6⟩ := t.row i hi
  by_cases hix : i = x
  · subst hix
    have := st.row h1
    rw [putAt_one, hw] at this
    simp only [if_true]
    exact ⟨this, h2, h3, h4, h5, hb⟩
  · simp only [if_neg hix]
    exact ⟨st.rw h1 (fun he => hix (t.inj i x hi hx he)), h2, h3, h4, h5, h6⟩
end Go.Vc
/-
  The lowest bit of a word.
-/
namespace Go.Vc
open Go
/-- k is x's lowest bit. -/
def Low (x k : Nat) : Prop := x.testBit k = true ∧ ∀ j, j < k → x.testBit j = false
theorem low_exists {x : Nat} (hx : x ≠ 0) : ∃ k, Low x k := by
  obtain ⟨i, hi⟩ := Nat.exists_testBit_of_ne_zero hx
  induction i using Nat.strongRecOn with
  | _ i ih =>
    by_cases h : ∃ j, j < i ∧ x.testBit j = true
    · obtain ⟨j, hj, hb⟩ := h; exact ih j hj hb
    · exact ⟨i, hi, fun j hj => by
        cases hb : x.testBit j with
        | false => rfl
        | true => exact absurd ⟨j, hj, hb⟩ h⟩
theorem Low.lt {x k w : Nat} (l : Low x k) (hx : x < 2 ^ w) : k < w := by
  apply Classical.byContradiction; intro h
  have := Nat.testBit_lt_two_pow (x := x) (i := k) (Nat.lt_of_lt_of_le hx (Nat.pow_le_pow_right (by decide) (by omega)))
  rw [l.1] at this; cases this
theorem Low.split {x k : Nat} (l : Low x k) : x = 2 ^ (k + 1) * (x / 2 ^ (k + 1)) + 2 ^ k := by
  have : x % 2 ^ (k + 1) = 2 ^ k := by
    apply Nat.eq_of_testBit_eq; intro i
    rw [Nat.testBit_mod_two_pow, Nat.testBit_two_pow]
    by_cases h1 : i < k
    · have : k ≠ i := by omega
      simp [l.2 i h1, this]
    · by_cases h2 : i = k
      · subst h2; simp [l.1]
      · have : ¬ i < k + 1 := by omega
        simp [this, Ne.symm h2]
  have h := Nat.div_add_mod x (2 ^ (k + 1))
  rw [this] at h; exact h.symm
theorem Low.pred {x k : Nat} (l : Low x k) (i : Nat) : (x - 1).testBit i = if i < k then true else if i = k then false else x.testBit i := by
  have hp : 0 < 2 ^ k := Nat.two_pow_pos k
  have hs := l.split
  have hd : 2 ^ (k + 1) = 2 * 2 ^ k := by rw [Nat.pow_succ, Nat.mul_comm]
  have e : x - 1 = 2 ^ (k + 1) * (x / 2 ^ (k + 1)) + (2 ^ k - 1) := by omega
  rw [e, Nat.testBit_two_pow_mul_add _ (by omega), Nat.testBit_two_pow_sub_one]
  by_cases h1 : i < k
  · simp [h1]; omega
  · by_cases h2 : i = k
    · subst h2; simp
    · have h3 : ¬ i < k + 1 := by omega
      rw [if_neg h3, if_neg h1, if_neg h2]
      conv => rhs; rw [hs]
      rw [Nat.testBit_two_pow_mul_add _ (by omega), if_neg h3]
/-- The lowest bit alone. -/
theorem Low.and_neg {x k : Nat} (l : Low x k) (hx : x < 2 ^ 64) : x &&& (2 ^ 64 - x) = 2 ^ k := by
  have h0 : 0 < x := by
    rcases Nat.eq_zero_or_pos x with rfl | h
    · have := l.1; simp at this
    · exact h
  apply Nat.eq_of_testBit_eq; intro i
  rw [Nat.testBit_and, show 2 ^ 64 - x = 2 ^ 64 - (x - 1 + 1) from by omega, Nat.testBit_two_pow_sub_succ (by omega), l.pred, Nat.testBit_two_pow]
  have hk := l.lt hx
  by_cases h1 : i < k
  · rw [l.2 i h1]; simp; omega
  · by_cases h2 : i = k
    · subst h2; simp [l.1, hk]
    · simp [h1, h2, Ne.symm h2]; exact fun h _ => h
/-- The lowest bit struck. -/
theorem Low.strike {x k : Nat} (l : Low x k) (i : Nat) : (x &&& (x - 1)).testBit i = (x.testBit i && decide (i ≠ k)) := by
  rw [Nat.testBit_and, l.pred]
  by_cases h1 : i < k
  · rw [l.2 i h1]; simp
  · by_cases h2 : i = k
    · subst h2; simp
    · simp [h1, h2]

/-- The table by which Go's library finds a lowest bit. -/
def tab64 : List Nat := [0, 1, 56, 2, 57, 49, 28, 3, 61, 58, 42, 50, 38, 29, 17, 4, 62, 47, 59, 36, 45, 43, 51, 22, 53, 39, 33, 30, 24, 18, 12, 5, 63, 55, 48, 27, 60, 41, 37, 16, 46, 35, 44, 21, 52, 32, 23, 11, 54, 26, 40, 15, 34, 20, 31, 10, 25, 14, 19, 9, 13, 8, 7, 6]
theorem tab64_at : ∀ k, k < 64 → tab64[(2 ^ k * 285870213051353865 % 2 ^ 64) / 2 ^ 58]? = some k := by decide
/-- It lies where the program keeps it. -/
def TabAt (h : Heap) : Prop := ∀ (i k : Nat), tab64[i]? = some k → hcell h 0 i = some (.int .u8 (k : Int))
theorem TabAt.fr {h h' : Heap} {l r : Nat} (t : TabAt h) (f : Fr l r h h') (hd : 0 < l ∨ r = 0) : TabAt h' := fun i k hk => f.keep (t i k hk) (by omega)
end Go.Vc
namespace Go.Vc
open Go
theorem neg64 (x y : Nat) (hy : x + y = 18446744073709551616) (hx : 0 < x) : IntKind.u64.wrap (0 - (x : Int)) = (y : Int) := by
  rw [IntKind.wrap_u64]; omega
theorem Low.and_neg' {x k y : Nat} (l : Low x k) (hy : x + y = 18446744073709551616) (hy0 : 0 < y) : x &&& y = 2 ^ k := by
  have h0 : 0 < x := by
    rcases Nat.eq_zero_or_pos x with rfl | h
    · have := l.1; simp at this
    · exact h
  have : y = 2 ^ 64 - x := by omega
  rw [this]; exact l.and_neg (by omega)
theorem mul64 (a b c : Nat) (hc : a * b % 18446744073709551616 = c) : IntKind.u64.wrap ((a : Int) * (b : Int)) = (c : Int) := by
  rw [IntKind.wrap_u64]; omega
end Go.Vc
namespace Go.Vc
open Go
/-- The places from q on, below N, where g is true. -/
def rest (g : Nat → Bool) (N q : Nat) : List Nat := (List.range' q (N - q)).filter g
theorem rest_end {g : Nat → Bool} {N q : Nat} (h : N ≤ q) : rest g N q = [] := by simp [rest, Nat.sub_eq_zero_of_le h]
theorem rest_step {g : Nat → Bool} {N q : Nat} (h : q < N) : rest g N q = if g q = true then q :: rest g N (q + 1) else rest g N (q + 1) := by
  unfold rest
  rw [show N - q = (N - (q + 1)) + 1 from by omega, List.range'_succ, List.filter_cons]
theorem rest_skip {g : Nat → Bool} {N q : Nat} : ∀ (d : Nat), q + d ≤ N → (∀ j, q ≤ j → j < q + d → g j = false) → rest g N q = rest g N (q + d)
  | 0, _, _ => rfl
  | d + 1, h, hg => by
    rw [rest_skip d (by omega) fun j h1 h2 => hg j h1 (by omega), rest_step (q := q + d) (by omega), if_neg (by rw [hg (q + d) (by omega) (by omega)]; simp)]
    rfl
theorem rest_congr {g g' : Nat → Bool} {N q : Nat} (h : ∀ j, q ≤ j → j < N → g j = g' j) : rest g N q = rest g' N q := by
  unfold rest; apply List.filter_congr; intro j hj; rw [List.mem_range'_1] at hj; exact h j (by omega) (by omega)
/-- A row's places, from its words. -/
def wbit (W : Nat → Nat) (p : Nat) : Bool := (W (p / 64)).testBit (p % 64)
end Go.Vc
namespace Go.Vc
open Go
/-! ### Book-keeping aside -/
theorem Ext.rw {B : Nat} {h h' : Heap} (x : Ext B h h') {b : Nat} {c : List Value} (r : Rw h b c) : Rw h' b c := by
  obtain ⟨t, r⟩ := r; exact ⟨t, x.old b _ r (.inr rfl)⟩
theorem Ext.cell {B : Nat} {h h' : Heap} (x : Ext B h h') {b o : Nat} {v : Value} (hc : hcell h b o = some v) : hcell h' b o = some v := ext_cell x hc
theorem Ext.holder {B : Nat} {h h' : Heap} (x : Ext B h h') {s : Nat} {v : Value} {n : Nat} {xs : List Value} {lo : Nat} (w : Holder s h v n xs lo) : Holder s h' v n xs lo := by
  obtain ⟨hl, h1 | ⟨b, c, rest, h1, h2, h3, h4⟩⟩ := w
  · exact ⟨hl, .inl h1⟩
  · exact ⟨hl, .inr ⟨b, c, rest, h1, x.rw h2, h3, h4⟩⟩
theorem Ext.rd {B : Nat} {h h' : Heap} (x : Ext B h h') {s : Nat} {v : Value} {n : Nat} {xs : List Value} (w : Rd s h v n xs) : Rd s h' v n xs := by
  obtain ⟨hl, a, c, h1, h2⟩ := w
  refine ⟨hl, a, c, h1, h2.imp_right ?_⟩
  rintro ⟨b, o, h3, h4⟩; exact ⟨b, o, h3, fun j y hj => x.cell (h4 j y hj)⟩
theorem Ext.fr {B : Nat} {h h1 h2 : Heap} (x : Ext B h1 h2) (f : Fr 0 0 h h1) (hB : h.size ≤ B) : Fr 0 0 h h2 := by
  refine ⟨Nat.le_trans f.size x.size, fun b hb hc => ?_⟩
  rw [← f.old b hb hc]
  have : b < h1.size := Nat.lt_of_lt_of_le hb f.size
  rw [x.old b h1[b] (by simp [this]) (.inl (by omega))]
  simp [this]
theorem Ext.tab {B : Nat} {h h' : Heap} (x : Ext B h h') (t : TabAt h) : TabAt h' := fun i k hk => x.cell (t i k hk)
theorem Ext.ptab {B : Nat} {h h' : Heap} (x : Ext B h h') {lo hi pb rb n : Nat} {R : Nat → Nat} {W : Nat → Nat → Nat} {M : Nat → Nat → Bool} (t : PTab h lo hi pb rb n R W M) : PTab h' lo hi pb rb n R W M :=
  ⟨x.rw t.ptr, x.rw t.rows, fun i hi => by obtain ⟨h1, h2⟩ := t.row i hi; exact ⟨x.rw h1, h2⟩, t.inj, t.at_⟩
theorem Ext.prog {B : Nat} {h h' : Heap} (x : Ext B h h') {lo hi : Nat} {p : Value} {n : Nat} {M : Nat → Nat → Bool} (t : ProgAt h lo hi p n M) : ProgAt h' lo hi p n M := by
  obtain ⟨hn, pb, rb, R, W, hv, ht⟩ := t; exact ⟨hn, pb, rb, R, W, hv, x.ptab ht⟩
/-- The places of a relation's row. -/
theorem rest_bits {n : Nat} {W : Nat → Nat} {f : Nat → Bool} (b : Bits n W f) : rest (wbit W) (64 * nw n) 0 = rest f n 0 := by
  have h1 : rest (wbit W) (64 * nw n) 0 = rest (fun q => decide (q < n) && f q) (64 * nw n) 0 := rest_congr fun j _ _ => by
    unfold wbit; rw [(b _).2 _ (by omega), show 64 * (j / 64) + j % 64 = j from by omega]
  rw [h1]
  unfold rest nw
  rw [Nat.sub_zero, Nat.sub_zero, show 64 * ((n + 63) / 64) = n + (64 * ((n + 63) / 64) - n) from by omega, ← List.range'_append_1, List.filter_append]
  have h2 : (List.range' (0 + n) (64 * ((n + 63) / 64) - n)).filter (fun q => decide (q < n) && f q) = [] := by
    apply List.filter_eq_nil_iff.2; intro q hq; rw [List.mem_range'_1] at hq; simp; omega
  rw [h2, List.append_nil]
  apply List.filter_congr; intro q hq; rw [List.mem_range'_1] at hq; simp; omega
/-- A relation's pairs, in order. -/
def pairsTo (n : Nat) (M : Nat → Nat → Bool) (k : Nat) : List (Int × Int) := (List.range k).flatMap fun (a : Nat) => (rest (M a) n 0).map fun (b : Nat) => ((a : Int), (b : Int))
def pairsOf (n : Nat) (M : Nat → Nat → Bool) : List (Int × Int) := pairsTo n M n
theorem pairsTo_succ (n : Nat) (M : Nat → Nat → Bool) (k : Nat) : pairsTo n M (k + 1) = pairsTo n M k ++ (rest (M k) n 0).map fun (b : Nat) => ((k : Int), (b : Int)) := by
  simp [pairsTo, List.range_succ]
end Go.Vc
namespace Go.Vc
theorem length_rest_le (g : Nat → Bool) (N q : Nat) : (rest g N q).length ≤ N - q := by
  unfold rest; refine Nat.le_trans (List.length_filter_le _ _) (by simp)
theorem length_pairsTo_le (n : Nat) (M : Nat → Nat → Bool) : ∀ k, (pairsTo n M k).length ≤ k * n
  | 0 => by simp [pairsTo]
  | k + 1 => by
    have := length_pairsTo_le n M k
    have := length_rest_le (M k) n 0
    rw [pairsTo_succ, List.length_append, List.length_map, Nat.succ_mul]; omega
end Go.Vc
namespace Go.Vc
theorem mem_rest {g : Nat → Bool} {N q x : Nat} : x ∈ rest g N q ↔ q ≤ x ∧ x < N ∧ g x = true := by
  unfold rest; rw [List.mem_filter, List.mem_range'_1]
  exact ⟨fun ⟨h, hg⟩ => ⟨by omega, by omega, hg⟩, fun ⟨h1, h2, hg⟩ => ⟨by omega, hg⟩⟩
theorem mem_pairsOf {n : Nat} {M : Nat → Nat → Bool} {p : Int × Int} : p ∈ pairsOf n M ↔ ∃ a b : Nat, a < n ∧ b < n ∧ M a b = true ∧ p = ((a : Int), (b : Int)) := by
  unfold pairsOf pairsTo
  simp only [List.mem_flatMap, List.mem_range, List.mem_map, mem_rest]
  constructor
  · rintro ⟨a, ha, b, ⟨_, hb, hm⟩, rfl⟩; exact ⟨a, b, ha, hb, hm, rfl⟩
  · rintro ⟨a, b, ha, hb, hm, rfl⟩; exact ⟨a, ha, b, ⟨by omega, hb, hm⟩, rfl⟩
end Go.Vc
namespace Go.Vc
theorem pairsTo_behind (n : Nat) (M : Nat → Nat → Bool) (a : Nat) : ∀ k, ((pairsTo n M k).filter fun p => p.1 == (a : Int)).map (fun p => p.2.toNat) = if a < k then rest (M a) n 0 else []
  | 0 => by simp [pairsTo]
  | k + 1 => by
    rw [pairsTo_succ, List.filter_append, List.map_append, pairsTo_behind n M a k]
    by_cases hk : k = a
    · subst hk
      have : ((rest (M k) n 0).map fun (b : Nat) => ((k : Int), (b : Int))).filter (fun p => p.1 == (k : Int)) = (rest (M k) n 0).map fun (b : Nat) => ((k : Int), (b : Int)) :=
        List.filter_eq_self.2 fun p hp => by obtain ⟨b, _, rfl⟩ := List.mem_map.1 hp; simp
      rw [this]
      simp [Function.comp_def]
    · have : ((rest (M k) n 0).map fun (b : Nat) => ((k : Int), (b : Int))).filter (fun p => p.1 == (a : Int)) = [] :=
        List.filter_eq_nil_iff.2 fun p hp => by obtain ⟨b, _, rfl⟩ := List.mem_map.1 hp; simp; omega
      rw [this, List.map_nil, List.append_nil]
      have e : (a < k + 1) = (a < k) := by simp; omega
      simp [e]
theorem rest_count (g : Nat → Bool) (n q : Nat) (hq : q < n) : (rest g n 0).countP (fun (b : Nat) => (b : Int) == (q : Int)) = (g q).toNat := by
  have hnd : (rest g n 0).Nodup := by unfold rest; exact List.Nodup.sublist List.filter_sublist (List.nodup_range')
  have e : (fun b : Nat => (b : Int) == (q : Int)) = fun b => b == q := by funext b; rw [Bool.eq_iff_iff]; simp; omega
  rw [e]
  show (rest g n 0).count q = _
  rw [hnd.count]
  by_cases hm : q ∈ rest g n 0
  · rw [if_pos hm, (mem_rest.1 hm).2.2]; rfl
  · rw [if_neg hm]
    cases hg : g q with
    | false => rfl
    | true => exact absurd (mem_rest.2 ⟨by omega, hq, hg⟩) hm
theorem pairsTo_waits (n : Nat) (M : Nat → Nat → Bool) (q : Nat) (hq : q < n) : ∀ k, (pairsTo n M k).countP (fun p => p.2 == (q : Int)) = (List.range k).countP fun a => M a q
  | 0 => by simp [pairsTo]
  | k + 1 => by
    rw [pairsTo_succ, List.countP_append, pairsTo_waits n M q hq k, List.range_succ, List.countP_append, List.countP_map]
    have := rest_count (M k) n q hq
    simp only [Function.comp_def]
    rw [this, List.countP_singleton]
    cases M k q <;> rfl
end Go.Vc
namespace Go.Vc
open Go
theorem q_nil (xs ys : Array Value) (K : Bool → Prop) : eqCells [] xs ys K = K true := (rfl)
theorem q_cons (o : Nat) (os : List Nat) (xs ys : Array Value) (K : Bool → Prop) : eqCells (o :: os) xs ys K = withI xs[o]? fun k n => withI ys[o]? fun k' m => Chk (k = k') (eqCells os xs ys fun b => K ((n == m) && b)) := (rfl)
theorem n_p0 (q : Option Addr) (K : Bool → Prop) : eqNilV false (.pointer none) (.pointer q) K = K q.isNone := (rfl)
theorem n_p1 (a : Addr) (K : Bool → Prop) : eqNilV false (.pointer (some a)) (.pointer none) K = K false := (rfl)
theorem n_s0 (n c m d : Nat) (q : Option Addr) (K : Bool → Prop) : eqNilV true (.slice none n c) (.slice q m d) K = K q.isNone := (rfl)
theorem n_s1 (a : Addr) (n c m d : Nat) (K : Bool → Prop) : eqNilV true (.slice (some a) n c) (.slice none m d) K = K false := (rfl)
attribute [go_sem ↓] q_nil q_cons n_p0 n_p1 n_s0 n_s1
attribute [go_sem] Option.isNone_none Option.isNone_some
theorem withC_of {h : Heap} {b : Nat} : ∀ (xs : List Value) (o : Nat) {K : List Value → Prop}, (∀ (j : Nat) x, xs[j]? = some x → hcell h b (o + j) = some x) → K xs → withC h b o xs.length K
  | [], _, _, _, hk => hk
  | x :: xs, o, K, hc, hk => by
    show withV (hcell h b o) _
    have h0 := hc 0 x rfl
    rw [Nat.add_zero] at h0
    rw [h0]
    exact withC_of xs (o + 1) (K := fun vs => K (x :: vs)) (fun j y hj => by rw [Nat.add_assoc, Nat.add_comm 1 j]; exact hc (j + 1) y hj) hk
/-- What is appended to it out of a slice that is read. -/
theorem Holder.appendRd {s bytes : Nat} {zero : List Value} {h : Heap} {a a' : Option Addr} {n c m c' : Nat} {ys xs : List Value} {lo : Nat} {K : Value → Heap → Prop} {d1 d2 : Dep K}
    {d5 : Dep (appB s bytes zero h a n c [] m K d1)} {d3 : (new : List Value) → Dep (appB s bytes zero h a n c new m K d2)}
    {d4 : Dep fun b' o' => withC h b' o' (m * s) fun new => Chk (new.all Value.oneCell' = true) (appB s bytes zero h a n c new m K d2) (d3 new)} {d6 : Dep (withAd a' (fun b' o' => withC h b' o' (m * s) fun new => Chk (new.all Value.oneCell' = true) (appB s bytes zero h a n c new m K d2) (d3 new)) d4)}
    (w : Holder s h (.slice a n c) n ys lo) (r : Rd s h (.slice a' m c') m xs) (hs : 0 < s) (hz : zero.length = s) (hlo : lo ≤ h.size) (hoc : xs.all Value.oneCell' = true) (hbig : (n + m) * 2 * bytes ≤ 281474976710656)
    (hK : ∀ v' h', Holder s h' v' (n + m) (ys ++ xs) lo → Fr (bl (.slice a n c)) (bh (.slice a n c)) h h' → bl v' = bl (.slice a n c) ∧ h'.size = h.size ∨ bl v' = h.size ∧ h'.size = h.size + 1 ∨ bh v' = 0 ∧ h' = h → K v' h') :
    If (m = 0) (appB s bytes zero h a n c [] m K d1) (withAd a' (fun b' o' => withC h b' o' (m * s) fun new => Chk (new.all Value.oneCell' = true) (appB s bytes zero h a n c new m K d2) (d3 new)) d4) d5 d6 := by
  have hl := r.1
  refine ⟨fun h0 => ?_, fun h0 => ?_⟩
  · have : xs = [] := List.length_eq_zero_iff.1 (by rw [hl, h0, Nat.zero_mul])
    subst this
    exact w.append hs hz hlo (by simp [h0]) hbig hK
  · refine r.idx (by omega) fun b o hc => ?_
    rw [← hl]
    exact withC_of xs o hc ⟨hoc, w.append hs hz hlo hl hbig hK⟩
theorem oc_ints (l : List Int) : (intsV l).all Value.oneCell' = true := by simp [intsV, Value.oneCell', List.all_eq_true]
theorem oc_pairs : ∀ l : List (Int × Int), (pairsV l).all Value.oneCell' = true
  | [] => rfl
  | p :: l => by rw [pairsV_cons]; simp only [List.all_cons, oc_pairs l, Bool.and_true]; rfl
end Go.Vc
