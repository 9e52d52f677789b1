/-
  A calculus of weakest preconditions over the compiled code of the functions that the law reaches, and its soundness. No condition.
-/
import Derived.Test.YtmilaghhnaoidaaDoorV1
set_option linter.all false
set_option maxRecDepth 2000
namespace Go.Vc
open Go

/-! ### The fences -/
/-- The fence that shuts out nothing, in a round or in none. -/
def fw (ro : Option Nat) : Fence := { fn := fun _ => True, depth := none, alive := false, round := ro }

theorem fw_none : fw none = Fence.wide := rfl
theorem room_fw (ro : Option Nat) (n : Nat) : (fw ro).room n := fun _ h => by simp [fw] at h

theorem callsIn_fw {ro : Option Nat} {n : Nat} {P : Program} {f : FuncId} {args : Array Value} {w : World} {R : Ending → World → Prop} (h : Calls P f args w R) : CallsIn (fw ro) n P f args w R :=
  ⟨trivial, fun cs _ => ((callsIn_wide (n := n)).2 h).2 cs (room_wide _)⟩

theorem roundIn_fw {ro : Option Nat} {n m : Nat} {P : Program} {l : Nat} {fn : FuncId} {tmps : Array Value} {assign body : Code} {w : World} {R : Ending → World → Prop}
    (h : RoundIn Fence.wide m P l fn tmps assign body w R) : RoundIn (fw ro) n P l fn tmps assign body w R :=
  ⟨trivial, fun c cs _ => h.2 c cs (room_wide _)⟩

/-- An operation that goes, inside the fence. -/
theorem OpGoes.wpIn {P : Program} {o : Oper} {a : Act} {w : World} {K : Value → World → Prop} (h : OpGoes P o a w K) (hd : ∀ c, o.op ≠ .defer c) {ro : Option Nat} {n : Nat} {next : Act → World → Prop} {Q : Exit → Act → World → Prop}
    (hn : ∀ v w', K v w' → next (a.put o.dst v) w') : o.wpIn (fw ro) n P a w next Q := by
  refine ⟨fun _ _ => trivial, ?_⟩
  rw [Oper.semAt_eq _ _ _ hd]
  unfold OpGoes at h
  generalize (execOp a.eval o).run P w = r at *
  cases r with
  | halt x w' => exact h.elim
  | ok x w' =>
    cases x <;> simp only at h <;> simp only [Oper.uponIn]
    case value v => exact hn _ _ h
    case skip => exact hn _ _ h
    case enter f args =>
      refine ⟨fun hs => by simp [fw] at hs, (callsIn_fw h).mono ?_⟩
      rintro e w'' ⟨v, rfl, hk⟩
      exact hn _ _ hk
    case round l fn tmps assign body =>
      refine ⟨fun hs => by simp [fw] at hs, (roundIn_fw h).mono ?_⟩
      rintro e w'' ⟨v, rfl, hk⟩
      exact hn _ _ hk

theorem compile_noDefer {P : Program} {o : Oper} {g : GOp} (h : compileOp P o = some g) : ∀ c, o.op ≠ .defer c := by
  intro c hc; unfold compileOp at h; rw [hc] at h; cases h
theorem compile_noSelect {P : Program} {o : Oper} {g : GOp} (h : compileOp P o = some g) : ∀ cs b, o.op ≠ .select cs b := by
  intro cs b hc; unfold compileOp at h; rw [hc] at h; cases h

/-! ### Compiled regions -/
structure GI where
  idx : Nat
  dst : Option Nat
  guard : Option (Nat × Bool)
  op : GOp
  chk : List Nat := []
  w : Bool := false

/-- An operation of a free region, with those that it stands behind and their slots. -/
structure FI where
  g : GI
  pre : List (Nat × Nat)

inductive GR where
  | done
  | op (i : GI) (rest : GR)
  | two (a b : GR)
  | free (D : List Nat) (l : List FI) (r : GR)

abbrev Watch := List (Nat × List (Nat × Nat × Value))

def allAt (rs : List (Nat × Nat × Value)) (h : Heap) : Prop :=
  match rs with
  | [] => True
  | (b, o, v) :: rs => hcell h b o = some v ∧ allAt rs h

def wfind : Watch → Nat → List (Nat × Nat × Value)
  | [], _ => []
  | (k, rs) :: W, j => if k = j then rs else wfind W j

/-- What was read of these operations lies as it lay. -/
def chkW (l : List Nat) (W : Watch) (h : Heap) (K : Prop) : Prop :=
  match l with
  | [] => K
  | j :: l => Chk (allAt (wfind W j) h) (chkW l W h K)

def withG (x : Option Value) (want : Bool) (A B : Prop) (_ : Dep A := .mk) (_ : Dep B := .mk) : Prop :=
  match x with
  | some (.bool b) => If (b = want) A B
  | some (.tuple _) => B
  | _ => False

theorem withG_bool (b want : Bool) (A B : Prop) (d : Dep A) (d' : Dep B) : withG (some (.bool b)) want A B d d' = If (b = want) A B := (rfl)
theorem withG_undef (want : Bool) (A B : Prop) (d : Dep A) (d' : Dep B) : withG (some undef) want A B d d' = B := (rfl)
theorem withG_tuple (cs : Array Value) (want : Bool) (A B : Prop) (d : Dep A) (d' : Dep B) : withG (some (.tuple cs)) want A B d d' = B := (rfl)

def guarded (gd : Option (Nat × Bool)) (e : Env) (A B : Prop) : Prop :=
  match gd with
  | none => A
  | some (s, want) => withG (find e s) want A B

/-! ### Free regions: each operation grows the heap, and tells what is so from then on -/
def memN (k : Nat) : List Nat → Bool
  | [] => false
  | d :: D => if k = d then true else memN k D
/-- Without these slots. -/
def drp (D : List Nat) (e : Env) : Env :=
  match e with
  | [] => []
  | (k, v) :: e => if memN k D = true then drp D e else (k, v) :: drp D e
/-- What an operation yielded, and between which sizes of the heap it ran. -/
abbrev Out := Value × Nat × Nat
abbrev Tell := List Out → Heap → Prop
/-- What is told of operation i, by the values of those it names: (i, those named, what). -/
abbrev Tells := List (Nat × List Nat × Tell)
def updV (V : Nat → Out) (i : Nat) (v : Out) (k : Nat) : Out := if k = i then v else V k
def namesOf (A : Tells) (i : Nat) : List Nat :=
  match A with
  | [] => []
  | (k, ds, _) :: A => if k = i then ds else namesOf A i
def tells (A : Tells) (i : Nat) (V : Nat → Out) (h : Heap) : Prop :=
  match A with
  | [] => True
  | (k, ds, p) :: A => if k = i then p (ds.map V) h else tells A i V h
def Stab (p : Tell) : Prop := ∀ vs h h', Fr 0 0 h h' → p vs h → p vs h'
def StabL (A : Tells) : Prop :=
  match A with
  | [] => True
  | (_, _, p) :: A => Stab p ∧ StabL A
/-- Those named have come when i has. -/
def namesOk (A : Tells) (l : List FI) : Bool := l.all fun f => (namesOf A f.g.idx).all fun k => Nat.beq k f.g.idx || f.pre.any fun p => Nat.beq k p.1 || memN k (namesOf A p.1)
def withPre (A : Tells) (V : Nat → Out) (h : Heap) (pre : List (Nat × Nat)) (e : Env) (K : Env → Prop) (d : Dep K := .mk) : Prop :=
  match pre with
  | [] => K e
  | (j, s) :: pre => tells A j V h → withPre A V h pre ((s, (V j).1) :: e) K d
def freeOps (P : Program) (y : Option Nat) (A : Tells) (D : List Nat) (h0 : Heap) (e : Env) : List FI → Prop
  | [] => True
  | i :: l => (∀ h, Fr 0 0 h0 h → ∀ V, withPre A V h i.pre (drp D e) fun e => guarded i.g.guard e (gvc P y i.g.op e h fun v h' => Fr 0 0 h h' ∧ tells A i.g.idx (updV V i.g.idx (v, h.size, h'.size)) h') (tells A i.g.idx (updV V i.g.idx (undef, h.size, h.size)) h)) ∧ freeOps P y A D h0 e l
def freeEnd (A : Tells) (V : Nat → Out) (h : Heap) : List FI → Env → (Env → Prop) → Prop
  | [], e, K => K e
  | i :: l, e, K => match i.g.dst with
    | some d => tells A i.g.idx V h → freeEnd A V h l ((d, (V i.g.idx).1) :: e) K
    | none => tells A i.g.idx V h → freeEnd A V h l e K
/-- No two ran at once. -/
def Sep (V : Nat → Out) (lo hi : Nat) (l : List FI) : Prop :=
  (∀ i ∈ l, lo ≤ (V i.g.idx).2.1 ∧ (V i.g.idx).2.1 ≤ (V i.g.idx).2.2 ∧ (V i.g.idx).2.2 ≤ hi) ∧ ∀ i ∈ l, ∀ j ∈ l, i.g.idx ≠ j.g.idx → (V i.g.idx).2.2 ≤ (V j.g.idx).2.1 ∨ (V j.g.idx).2.2 ≤ (V i.g.idx).2.1
def freeVC (P : Program) (y : Option Nat) (D : List Nat) (l : List FI) (e : Env) (h : Heap) (K : Env → Heap → Prop) (_ : Dep K := .mk) : Prop :=
  ∃ A, StabL A ∧ namesOk A l = true ∧ freeOps P y A D h e l ∧ ∀ h', Fr 0 0 h h' → ∀ V, Sep V h.size h'.size l → freeEnd A V h' l (drp D e) fun e' => K e' h'
/-- What is told of one outcome, of two. -/
def tell1 (q : Value → Nat → Nat → Heap → Prop) : Tell
  | [u], h => q u.1 u.2.1 u.2.2 h
  | _, _ => False
theorem tell1_eq (q : Value → Nat → Nat → Heap → Prop) (u : Out) (h : Heap) : tell1 q [u] h = q u.1 u.2.1 u.2.2 h := (rfl)
theorem Stab.one {q : Value → Nat → Nat → Heap → Prop} (s : ∀ v a b h h', Fr 0 0 h h' → q v a b h → q v a b h') : Stab (tell1 q) := by
  intro vs h h' f x
  match vs, x with
  | [u], x => exact s u.1 u.2.1 u.2.2 h h' f x

theorem StabL.at_ {A : Tells} (s : StabL A) (i : Nat) {V : Nat → Out} {h h' : Heap} (f : Fr 0 0 h h') (x : tells A i V h) : tells A i V h' := by
  induction A with
  | nil => trivial
  | cons p A ih =>
    obtain ⟨k, ds, p⟩ := p
    simp only [tells] at x ⊢
    split
    · rename_i hk; rw [if_pos hk] at x; exact s.1 _ _ _ f x
    · rename_i hk; rw [if_neg hk] at x; exact ih s.2 x
theorem tells_congr {A : Tells} {i : Nat} {V V' : Nat → Out} {h : Heap} (hv : ∀ k ∈ namesOf A i, V k = V' k) (x : tells A i V h) : tells A i V' h := by
  induction A with
  | nil => trivial
  | cons p A ih =>
    obtain ⟨k, ds, p⟩ := p
    simp only [tells, namesOf] at x hv ⊢
    split
    · rename_i hk
      rw [if_pos hk] at x hv
      rw [← List.map_congr_left hv]; exact x
    · rename_i hk
      rw [if_neg hk] at x hv
      exact ih hv x
theorem freeOps_at {P : Program} {y : Option Nat} {A : Tells} {D : List Nat} {h0 : Heap} {e : Env} {l : List FI} (h : freeOps P y A D h0 e l) {i : FI} (hi : i ∈ l) :
    ∀ h, Fr 0 0 h0 h → ∀ V, withPre A V h i.pre (drp D e) fun e => guarded i.g.guard e (gvc P y i.g.op e h fun v h' => Fr 0 0 h h' ∧ tells A i.g.idx (updV V i.g.idx (v, h.size, h'.size)) h') (tells A i.g.idx (updV V i.g.idx (undef, h.size, h.size)) h) := by
  induction l with
  | nil => cases hi
  | cons j l ih =>
    rcases List.mem_cons.1 hi with rfl | hi
    · exact h.1
    · exact ih h.2 hi
theorem freeEnd_mono {A : Tells} {V : Nat → Out} {h : Heap} {l : List FI} {e : Env} {K K' : Env → Prop} (hk : ∀ e, K e → K' e) (hq : freeEnd A V h l e K) : freeEnd A V h l e K' := by
  induction l generalizing e with
  | nil => exact hk _ hq
  | cons i l ih =>
    simp only [freeEnd] at hq ⊢
    cases hd : i.g.dst with
    | some d => rw [hd] at hq; exact fun hv => ih (hq hv)
    | none => rw [hd] at hq; exact fun hv => ih (hq hv)
theorem find_drp {D : List Nat} {e : Env} {t : Nat} {v : Value} (h : find (drp D e) t = some v) : find e t = some v ∧ memN t D = false := by
  induction e with
  | nil => simp [drp, find] at h
  | cons p e ih =>
    obtain ⟨k, u⟩ := p
    unfold drp at h
    split at h
    · rename_i hm
      obtain ⟨h1, h2⟩ := ih h
      have : ¬ k = t := fun e => by rw [e, h2] at hm; cases hm
      exact ⟨by simp only [find]; rw [if_neg this]; exact h1, h2⟩
    · rename_i hm
      simp only [find] at h ⊢
      split at h
      · rename_i hk; subst hk; exact ⟨by simpa using h, by simpa using hm⟩
      · rename_i hk; rw [if_neg hk]; exact ih h
theorem memN_iff {k : Nat} {D : List Nat} : memN k D = true ↔ k ∈ D := by
  induction D with
  | nil => simp [memN]
  | cons d D ih => simp only [memN, List.mem_cons]; split <;> simp_all
theorem Holds.drp {N : Nat} {e : Env} {a : Act} (h : Holds N e a) (D : List Nat) : Holds N (Vc.drp D e) a :=
  ⟨h.1, fun t v ht => h.2 t v (find_drp ht).1⟩
theorem Holds.drp_put {N : Nat} {e : Env} {a : Act} {D : List Nat} (h : Holds N (Vc.drp D e) a) {dst : Option Nat} (hd : ∀ d, dst = some d → d < N ∧ d ∈ D) (v : Value) : Holds N (Vc.drp D e) (a.put dst v) := by
  cases dst with
  | none => exact h
  | some d =>
    obtain ⟨hd, hm⟩ := hd d rfl
    refine ⟨by simp [Act.put, h.1], fun t u ht => ?_⟩
    have hne : d ≠ t := fun e => by
      have := (find_drp ht).2
      rw [← e] at this
      rw [memN_iff.2 hm] at this; cases this
    have := h.2 t u ht
    simp only [Act.put]
    simpa [Array.getElem?_setIfInBounds_ne hne] using this
theorem Holds.known {N : Nat} {e : Env} {a : Act} (h : Holds N e a) (d : Nat) : Holds N ((d, a.tmps.getD d undef) :: e) a :=
  ⟨h.1, fun t v ht => by
    simp only [find] at ht
    split at ht
    · rename_i hk; subst hk; cases ht; rfl
    · exact h.2 t v ht⟩
theorem withPre_at {A : Tells} {V : Nat → Out} {h : Heap} {N : Nat} {a : Act} {pre : List (Nat × Nat)} {e : Env} {K : Env → Prop} (hw : withPre A V h pre e K) (hh : Holds N e a) (hp : ∀ p ∈ pre, tells A p.1 V h ∧ a.tmps.getD p.2 undef = (V p.1).1) : ∃ e', Holds N e' a ∧ K e' := by
  induction pre generalizing e with
  | nil => exact ⟨e, hh, hw⟩
  | cons p pre ih =>
    obtain ⟨j, s⟩ := p
    have h1 := hp (j, s) (by simp)
    refine ih (hw h1.1) ?_ fun p hp' => hp p (by simp [hp'])
    rw [← h1.2]; exact hh.known s
theorem freeEnd_at {A : Tells} {V : Nat → Out} {h : Heap} {N : Nat} {a : Act} {l : List FI} {e : Env} {K : Env → Prop} (hw : freeEnd A V h l e K) (hh : Holds N e a) (hp : ∀ i ∈ l, tells A i.g.idx V h ∧ ∀ d, i.g.dst = some d → a.tmps.getD d undef = (V i.g.idx).1) : ∃ e', Holds N e' a ∧ K e' := by
  induction l generalizing e with
  | nil => exact ⟨e, hh, hw⟩
  | cons i l ih =>
    have h1 := hp i (by simp)
    unfold freeEnd at hw
    split at hw
    · rename_i d hd
      refine ih (hw h1.1) ?_ fun i hi => hp i (by simp [hi])
      rw [← h1.2 d hd]; exact hh.known d
    · exact ih (hw h1.1) hh fun i hi => hp i (by simp [hi])

def addW (i : GI) (W : Watch) (e : Env) (v : Value) : Watch := if i.w then (i.idx, reads i.op e v) :: W else W

def rvc (P : Program) (y : Option Nat) : GR → Watch → Env → Heap → (Env → Heap → Prop) → Prop
  | .done, _, e, h, K => K e h
  | .op i r, W, e, h, K => guarded i.guard e
      (gvc P y i.op e h fun v h' => chkW i.chk W h' (rvc P y r (addW i W e v) (eput e i.dst v) h' K))
      (rvc P y r W (eput e i.dst undef) h K)
  | .two a b, W, e, h, K => rvc P y a W e h K ∧ rvc P y b W e h K
  | .free D l r, W, e, h, K => freeVC P y D l e h fun e' h' => rvc P y r W e' h' K

def guardOf (ops : Array Oper) (o : Oper) : Option (Option (Nat × Bool)) :=
  match o.guard with
  | none => some none
  | some (j, want) => match (ops[j]?).bind (·.dst) with
    | some s => some (some (s, want))
    | none => none

def mkGI (P : Program) (N : Nat) (ops : Array Oper) (i : Nat) (chk : List Nat) (w : Bool) : Option GI :=
  match ops[i]? with
  | some o => match compileOp P o, guardOf ops o, (match o.dst with | some d => decide (d < N) | none => true) with
    | some g, some gd, true => some { idx := i, dst := o.dst, guard := gd, op := g, chk, w }
    | _, _, _ => none
  | none => none

/-- A region whose order is that of the text. -/
def lineR (P : Program) (N : Nat) (ops : Array Oper) : List Nat → Option GR
  | [] => some .done
  | i :: l => match mkGI P N ops i [] false, lineR P N ops l with
    | some g, some r => some (.op g r)
    | _, _ => none

theorem mkGI_spec {P : Program} {N : Nat} {ops : Array Oper} {i : Nat} {chk : List Nat} {w : Bool} {g : GI} (h : mkGI P N ops i chk w = some g) :
    ∃ o, ops[i]? = some o ∧ compileOp P o = some g.op ∧ guardOf ops o = some g.guard ∧ (∀ d, o.dst = some d → d < N) ∧ g.dst = o.dst ∧ g.idx = i ∧ g.chk = chk ∧ g.w = w := by
  unfold mkGI at h
  split at h
  · rename_i o ho
    split at h
    · rename_i g' gd hc hg hd
      cases h
      exact ⟨o, ho, hc, hg, fun d hd' => by simpa [hd'] using hd, rfl, rfl, rfl, rfl⟩
    · cases h
  · cases h

/-- The guard, in the frame and in the environment. -/
theorem guard_sound {N : Nat} {ops : Array Oper} {o : Oper} {gd : Option (Nat × Bool)} (hg : guardOf ops o = some gd) {e : Env} {a : Act} (hh : Holds N e a) {A B : Prop} (h : guarded gd e A B) :
    (Region.wanted o (yielded ops a.tmps) = true ∧ A) ∨ (Region.wanted o (yielded ops a.tmps) = false ∧ B) := by
  unfold guardOf at hg
  unfold Region.wanted
  split at hg
  · rename_i hn
    cases hg
    exact .inl ⟨by rw [hn], h⟩
  · rename_i j want hs
    split at hg
    · rename_i s hd
      cases hg
      rw [hs]
      show ((yielded ops a.tmps j == some want) = true ∧ A) ∨ ((yielded ops a.tmps j == some want) = false ∧ B)
      unfold guarded withG at h
      simp only at h
      split at h
      · rename_i b hv
        have hx := hh.2 s _ hv
        have hy : yielded ops a.tmps j = some b := by
          unfold yielded
          rw [hd]
          simp only [Option.bind_some]
          have : a.tmps[s]? = some (.bool b) := by
            cases ht : a.tmps[s]? with
            | none => simp [ht, undef] at hx
            | some u => simp [ht] at hx; rw [hx]
          rw [this]
        by_cases hbw : b = want
        · exact .inl ⟨by rw [hy, hbw]; simp, h.1 hbw⟩
        · exact .inr ⟨by rw [hy]; simpa using hbw, h.2 hbw⟩
      · rename_i cs hv
        have hx := hh.2 s _ hv
        refine .inr ⟨?_, h⟩
        have hy : yielded ops a.tmps j = none := by
          unfold yielded
          rw [hd]
          simp only [Option.bind_some]
          cases ht : a.tmps[s]? with
          | none => rfl
          | some u => simp [ht] at hx; rw [hx]
        rw [hy]; rfl
      · exact h.elim
    · cases hg

/-- What holds at a region's (a piece of code's) normal end: what the word says. -/
def After (y : Option Nat) (N : Nat) (w0 : World) (a0 : Act) (K : Env → Heap → Prop) (a : Act) (w : World) : Prop :=
  ∃ e, Holds N e a ∧ a.defers = a0.defers ∧ Like y w0 w ∧ K e w.heap

theorem put_defers (a : Act) (d : Option Nat) (v : Value) : (a.put d v).defers = a.defers := by cases d <;> rfl

theorem line_sound {y : Option Nat} {P : Program} {N n : Nat} {ops : Array Oper} {ro : Option Nat} {Q : Exit → Act → World → Prop} {w0 : World} {a0 : Act} {K : Env → Heap → Prop} (hQ : ∀ a w, After y N w0 a0 K a w → Q .normal a w) :
    ∀ (l : List Nat) (r : GR) (e : Env) (a : Act) (w : World), lineR P N ops l = some r → rvc P y r [] e w.heap K → Holds N e a → a.defers = a0.defers → Like y w0 w → wpOpsIn (fw ro) n P ops Q l a w := by
  intro l
  induction l with
  | nil =>
    intro r e a w hr hv hh hd hl
    cases hr
    exact hQ _ _ ⟨e, hh, hd, hl, hv⟩
  | cons i l ih =>
    intro r e a w hr hv hh hd hl
    simp only [lineR] at hr
    split at hr
    · rename_i g r' hg hr'
      cases hr
      obtain ⟨o, ho, hc, hgd, hdst, e1, _, e2, e3⟩ := mkGI_spec hg
      simp only [wpOpsIn, ho]
      rcases guard_sound hgd hh hv with ⟨hw, hv⟩ | ⟨hw, hv⟩
      · rw [if_pos hw]
        refine (g_sound hc hh hv).wpIn (compile_noDefer hc) ?_
        rintro v w' ⟨hl', hk⟩
        rw [e2] at hk
        have hk' : rvc P y r' (addW g [] e v) (eput e g.dst v) w'.heap K := hk
        rw [show addW g [] e v = [] from by unfold addW; rw [e3]; rfl, e1] at hk'
        exact ih _ _ _ _ hr' hk' (hh.put hdst v) (by rw [put_defers]; exact hd) (hl.trans hl')
      · rw [if_neg (by rw [hw]; simp)]
        rw [e1] at hv
        exact ⟨fun _ _ => trivial, ih _ _ _ _ hr' hv (hh.put hdst undef) (by rw [put_defers]; exact hd) hl⟩
    · cases hr
end Go.Vc
namespace Go.Vc
open Go

/-! ### A region that draws its order: reading operations are taken first, whatever the order -/
section
variable {P : Program} {ops : Array Oper} {Q : Exit → Act → World → Prop} {ro : Option Nat} {n : Nat}

def behind (ops : Array Oper) (i k : Nat) : Bool :=
  match ops[i]? with
  | some o => o.after.any fun e => Region.binds .any e && e.on == k
  | none => false

/-- What was read of operations that i does not stand behind lies as it lay. -/
def keepsW (ops : Array Oper) (i : Nat) (W : Watch) (w w' : World) : Prop :=
  ∀ x ∈ W, behind ops i x.1 = false → (∀ r ∈ x.2, atAddr r w) → ∀ r ∈ x.2, atAddr r w'

def Any (P : Program) (ops : Array Oper) (Q : Exit → Act → World → Prop) (ro : Option Nat) (n : Nat) : Nat → Watch → Array Bool → Act → World → Prop
  | 0, _, listed, a, w => Region.ready .any ops listed = [] ∧ Q .normal a w
  | fuel + 1, W, listed, a, w =>
    (Region.ready .any ops listed = [] → Q .normal a w) ∧
    ∀ i ∈ Region.ready .any ops listed, wpOpIn (fw ro) n P ops Q i (fun a' w' => keepsW ops i W w w' ∧ Any P ops Q ro n fuel W (listed.setIfInBounds i true) a' w') a w

theorem Any.any : ∀ (fuel : Nat) (W : Watch) (listed : Array Bool) (a : Act) (w : World), Any P ops Q ro n fuel W listed a w → wpAnyIn (fw ro) n P .any ops Q fuel listed a w
  | 0, _, _, _, _, h => h
  | fuel + 1, _, _, _, _, h => ⟨h.1, fun i hi => wpOpIn_mono (fun a' w' hk => Any.any fuel _ _ a' w' hk.2) (h.2 i hi)⟩

theorem Any.more_nil {i : Nat} : ∀ (fuel : Nat) (W : Watch) (listed : Array Bool) (a : Act) (w : World), Any P ops Q ro n fuel W listed a w → Any P ops Q ro n fuel ((i, []) :: W) listed a w
  | 0, _, _, _, _, h => h
  | fuel + 1, _, _, _, _, h => ⟨h.1, fun j hj => wpOpIn_mono (fun a' w' hk => ⟨fun y hy => by
      rcases List.mem_cons.1 hy with rfl | hy
      · intro _ _ r hr; cases hr
      · exact hk.1 y hy, Any.more_nil fuel _ _ a' w' hk.2⟩) (h.2 j hj)⟩

theorem Any.less {x : Nat × List (Nat × Nat × Value)} : ∀ (fuel : Nat) (W : Watch) (listed : Array Bool) (a : Act) (w : World), Any P ops Q ro n fuel (x :: W) listed a w → Any P ops Q ro n fuel W listed a w
  | 0, _, _, _, _, h => h
  | fuel + 1, _, _, _, _, h => ⟨h.1, fun i hi => wpOpIn_mono (fun a' w' hk => ⟨fun y hy => hk.1 y (List.mem_cons_of_mem _ hy), Any.less fuel _ _ a' w' hk.2⟩) (h.2 i hi)⟩

/-- In this state, where these cells are read, the operation yields v and leaves the world alone. -/
def YieldsR (P : Program) (ops : Array Oper) (o : Oper) (a : Act) (R : List (Nat × Nat × Value)) (v : Value) : Prop :=
  (Region.wanted o (yielded ops a.tmps) = true ∧ QRun P o a R v) ∨ (Region.wanted o (yielded ops a.tmps) = false ∧ v = undef)

theorem YieldsR.take {i : Nat} {o : Oper} {v : Value} {a : Act} {R : List (Nat × Nat × Value)} (hi : ops[i]? = some o) (hnd : ∀ c, o.op ≠ .defer c) (hy : YieldsR P ops o a R v)
    {K : Act → World → Prop} {w : World} (hR : ∀ r ∈ R, atAddr r w) (h : K (a.put o.dst v) w) : wpOpIn (fw ro) n P ops Q i K a w := by
  unfold wpOpIn
  simp only [hi]
  rcases hy with ⟨hw, hv⟩ | ⟨hw, rfl⟩
  · rw [if_pos hw]
    refine ⟨fun _ _ => trivial, ?_⟩
    rw [Oper.semAt_eq _ _ _ hnd, hv w hR]
    exact h
  · rw [if_neg (by rw [hw]; simp)]
    exact ⟨fun _ _ => trivial, h⟩

theorem YieldsR.same {o : Oper} {a a' : Act} {R : List (Nat × Nat × Value)} {v : Value} (hy : YieldsR P ops o a R v) (he : execOp a'.eval o = execOp a.eval o)
    (hw : Region.wanted o (yielded ops a'.tmps) = Region.wanted o (yielded ops a.tmps)) : YieldsR P ops o a' R v := by
  unfold YieldsR QRun at *
  rw [he, hw]
  exact hy

theorem put_swap {j : Nat} {oi oj : Oper} {v : Value} {R : List (Nat × Nat × Value)} (hj : ops[j]? = some oj) (hnd : ∀ c, oj.op ≠ .defer c) (hap : oi.apart ops oj = true)
    (hsi : ∀ cs b, oi.op ≠ .select cs b) (hsj : ∀ cs b, oj.op ≠ .select cs b) (hQ : ∀ c a w, ¬ Q (.panic c) a w) (hQo : ∀ a w, ¬ Q .outgrown a w) {K : Act → World → Prop} {a : Act} {w : World}
    (hy : YieldsR P ops oi a R v) (h : wpOpIn (fw ro) n P ops Q j K (a.put oi.dst v) w) :
    wpOpIn (fw ro) n P ops Q j (fun a' w' => YieldsR P ops oi a' R v ∧ K (a'.put oi.dst v) w') a w := by
  obtain ⟨h1, h2, h3⟩ := Oper.apart_spec hap
  have keep : ∀ (a : Act), YieldsR P ops oi a R v → ∀ u, YieldsR P ops oi (a.put oj.dst u) R v := fun a hy u =>
    hy.same (execOp_put oi hsi a oj.dst u h3) (wanted_put oi a oj.dst u h3)
  have keepD : ∀ d, YieldsR P ops oi { a with defers := d :: a.defers } R v := fun d => hy.same rfl rfl
  unfold wpOpIn at *
  simp only [hj] at *
  rw [wanted_put oj a oi.dst v h1] at h
  split
  · rename_i hw
    rw [if_pos hw] at h
    unfold Oper.wpIn at *
    refine ⟨fun _ _ => trivial, ?_⟩
    have h := h.2
    rw [Oper.semAt_eq _ _ _ hnd, execOp_put oj hsj a oi.dst v h1] at h
    rw [Oper.semAt_eq _ _ _ hnd]
    generalize (execOp a.eval oj).run P w = r at *
    cases r with
    | ok x w' =>
      cases x <;> simp only [Oper.uponIn] at h ⊢
      case value u => exact ⟨keep a hy u, by rw [← Act.put_comm a v u h2]; exact h⟩
      case skip => exact ⟨keep a hy _, by rw [← Act.put_comm a v undef h2]; exact h⟩
      case defer d =>
        refine ⟨keep _ (keepD d) _, ?_⟩
        rw [← Act.put_comm _ v undef h2, ← Act.put_defers]
        exact h
      case enter f args =>
        refine ⟨h.1, CallsIn.mono h.2 fun e w'' he => ?_⟩
        cases e with
        | returned u => exact ⟨keep a hy u, by rw [← Act.put_comm a v u h2]; exact he⟩
        | panicked c => exact (hQ _ _ _ he).elim
        | outgrown => obtain ⟨a0, w0, hq⟩ := he; exact (hQo _ _ hq).elim
      case row row args => exact ⟨h.1, RowsIn.mono h.2 fun u w'' he => ⟨keep a hy u, by rw [← Act.put_comm a v u h2]; exact he⟩⟩
      case round l f tmps assign body =>
        refine ⟨h.1, RoundIn.mono h.2 fun e w'' he => ?_⟩
        cases e with
        | returned u => exact ⟨keep a hy u, by rw [← Act.put_comm a v u h2]; exact he⟩
        | panicked c => exact (hQ _ _ _ he).elim
        | outgrown => obtain ⟨a0, w0, hq⟩ := he; exact (hQo _ _ hq).elim
    | halt x w' =>
      cases x <;> simp only [Oper.uponIn] at h ⊢
      case panic u => exact (hQ _ _ _ h).elim
  · rename_i hw
    rw [if_neg hw] at h
    exact ⟨fun _ _ => trivial, keep a hy _, by rw [← Act.put_comm a v undef h2]; exact h.2⟩

/-- **A reading operation that may come up now may be taken first.** -/
theorem Any.first {i : Nat} {oi : Oper} {v : Value} {R : List (Nat × Nat × Value)} (hi : ops[i]? = some oi) (hnd : ∀ (j : Nat) (o : Oper) c, ops[j]? = some o → o.op ≠ .defer c)
    (hsel : ∀ (j : Nat) (o : Oper) cs b, ops[j]? = some o → o.op ≠ .select cs b) (hQ : ∀ c a w, ¬ Q (.panic c) a w) (hQo : ∀ a w, ¬ Q .outgrown a w) :
    ∀ (fuel : Nat) (W : Watch) (listed : Array Bool) (a : Act) (w : World),
      (∀ j oj, ops[j]? = some oj → j ≠ i → listed.getD j true = false → (∀ e ∈ oj.after, Region.binds .any e = true → e.on ≠ i) → oi.apart ops oj = true) →
      i ∈ Region.ready .any ops listed → YieldsR P ops oi a R v → (∀ r ∈ R, atAddr r w) →
      Any P ops Q ro n fuel ((i, R) :: W) (listed.setIfInBounds i true) (a.put oi.dst v) w → Any P ops Q ro n (fuel + 1) W listed a w := by
  intro fuel
  induction fuel with
  | zero =>
    intro W listed a w _ hr hy hR H
    refine ⟨fun h => (by rw [h] at hr; cases hr), fun j hj => ?_⟩
    by_cases hji : j = i
    · subst hji; exact hy.take hi (hnd _ _ · hi) hR ⟨fun _ _ _ h => h, H⟩
    · have := ready_mono hj hji
      rw [H.1] at this
      cases this
  | succ fuel ih =>
    intro W listed a w hfree hr hy hR H
    refine ⟨fun h => (by rw [h] at hr; cases hr), fun j hj => ?_⟩
    by_cases hji : j = i
    · subst hji; exact hy.take hi (hnd _ _ · hi) hR ⟨fun _ _ _ h => h, H.less⟩
    · have h1 := H.2 j (ready_mono hj hji)
      obtain ⟨hjun, oj, hoj, hall⟩ := mem_ready.1 hj
      have hnot : ∀ e ∈ oj.after, Region.binds .any e = true → e.on ≠ i := fun e he hb heq => by
        have h1 := hall e he hb
        have h0 := (mem_ready.1 hr).1
        rw [heq] at h1
        rcases Nat.lt_or_ge i listed.size with h' | h'
        · simp [h'] at h0 h1; rw [h0] at h1; cases h1
        · simp [Array.getElem?_eq_none h'] at h1
      have hbeh : behind ops j i = false := by
        unfold behind
        rw [hoj]
        simp only [Array.any_eq_false]
        intro k hk
        cases hb : Region.binds .any oj.after[k] with
        | false => simp
        | true => simpa using hnot _ (Array.getElem_mem hk) hb
      have h2 := put_swap hoj (hnd _ _ · hoj) (hfree j oj hoj hji hjun hnot) (fun cs b => hsel i oi cs b hi) (fun cs b => hsel j oj cs b hoj) hQ hQo hy h1
      have hfree' : ∀ k ok, ops[k]? = some ok → k ≠ i → (listed.setIfInBounds j true).getD k true = false →
          (∀ e ∈ ok.after, Region.binds .any e = true → e.on ≠ i) → oi.apart ops ok = true := fun k ok hk hki hun hno => by
        refine hfree k ok hk hki ?_ hno
        by_cases hjk : j = k
        · subst hjk; exact hjun
        · rw [getD_set_ne true hjk] at hun; exact hun
      refine wpOpIn_mono (fun a' w' h3 => ?_) h2
      obtain ⟨hy', hk, hA⟩ := h3
      refine ⟨fun x hx => hk x (List.mem_cons_of_mem _ hx), ih W (listed.setIfInBounds j true) a' w' hfree' (ready_mono hr (Ne.symm hji)) hy' (hk (i, R) (List.mem_cons_self) hbeh hR) ?_⟩
      rw [Array.setIfInBounds_comm _ _ hji]
      exact hA

/-- Nothing stands ready beside i. -/
theorem Any.only {i : Nat} {fuel : Nat} {W : Watch} {listed : Array Bool} {a : Act} {w : World} (hr : Region.ready .any ops listed = [i])
    (h : wpOpIn (fw ro) n P ops Q i (fun a' w' => keepsW ops i W w w' ∧ Any P ops Q ro n fuel W (listed.setIfInBounds i true) a' w') a w) : Any P ops Q ro n (fuel + 1) W listed a w :=
  ⟨fun h0 => (by rw [hr] at h0; cases h0), fun j hj => by rw [hr] at hj; simp at hj; subst hj; exact h⟩

theorem Any.both {i j : Nat} {fuel : Nat} {W : Watch} {listed : Array Bool} {a : Act} {w : World} (hr : Region.ready .any ops listed = [i, j])
    (h : wpOpIn (fw ro) n P ops Q i (fun a' w' => keepsW ops i W w w' ∧ Any P ops Q ro n fuel W (listed.setIfInBounds i true) a' w') a w)
    (h' : wpOpIn (fw ro) n P ops Q j (fun a' w' => keepsW ops j W w w' ∧ Any P ops Q ro n fuel W (listed.setIfInBounds j true) a' w') a w) : Any P ops Q ro n (fuel + 1) W listed a w :=
  ⟨fun h0 => (by rw [hr] at h0; cases h0), fun k hk => by
    rw [hr] at hk; simp at hk
    rcases hk with rfl | rfl
    · exact h
    · exact h'⟩

theorem Any.done {fuel : Nat} {W : Watch} {listed : Array Bool} {a : Act} {w : World} (hr : Region.ready .any ops listed = []) (h : Q .normal a w) : Any P ops Q ro n fuel W listed a w := by
  cases fuel with
  | zero => exact ⟨hr, h⟩
  | succ fuel => exact ⟨fun _ => h, by rw [hr]; simp⟩
end

/-! ### A compiled order -/
def growing : GOp → Bool
  | .alloc .. | .box .. | .buildSlice .. | .makeSlice .. => true
  | _ => false

def isLoad : GOp → Bool
  | .load .. => true
  | _ => false

/-- Is operation i one that only reads, and may it be taken first? -/
def quietAt (P : Program) (ops : Array Oper) (listed : Array Bool) (i : Nat) : Bool :=
  match ops[i]? with
  | some o => (match compileOp P o with | some g => g.quiet && Region.free .any ops listed i | none => false)
  | none => false

def loadAt (P : Program) (ops : Array Oper) (i : Nat) : Bool :=
  match ops[i]? with
  | some o => (match compileOp P o with | some g => isLoad g | none => false)
  | none => false

def growAt (P : Program) (ops : Array Oper) (i : Nat) : Bool :=
  match ops[i]? with
  | some o => (match compileOp P o with | some g => growing g | none => false)
  | none => false

/-- What is to be looked at behind operation i: all that has been loaded and that it does not stand behind. -/
def chkOf (P : Program) (ops : Array Oper) (listed : Array Bool) (i : Nat) : List Nat :=
  if growAt P ops i then [] else (List.range ops.size).filter fun k => listed.getD k false && loadAt P ops k && !behind ops i k

/-! ### Free regions -/
def dstAt (ops : Array Oper) (i : Nat) : Option Nat := (ops[i]?).bind (·.dst)
def unl (ops : Array Oper) (listed : Array Bool) : List Nat := (List.range ops.size).filter fun i => !listed.getD i true
def nodupN : List Nat → Bool
  | [] => true
  | d :: D => !memN d D && nodupN D
def bpre (ops : Array Oper) (i : Nat) : List Nat :=
  match ops[i]? with
  | some o => o.after.toList.filterMap fun e => if Region.binds .any e then some e.on else none
  | none => []
def turning : GOp → Bool
  | .store .. | .append .. | .mapSet .. | .mapEntry .. | .entryStore .. | .mnext .. => true
  | _ => false
def turnAt (P : Program) (ops : Array Oper) (i : Nat) : Bool :=
  match ops[i]? with
  | some o => (match compileOp P o with | some g => turning g | none => false)
  | none => false
/-- Those of a list up to the first that writes; those behind it. -/
def upTo (P : Program) (ops : Array Oper) : List Nat → List Nat
  | [] => []
  | i :: l => if turnAt P ops i = true then [] else i :: upTo P ops l
def past (P : Program) (ops : Array Oper) : List Nat → List Nat
  | [] => []
  | i :: l => if turnAt P ops i = true then i :: l else past P ops l
/-- What i stands behind has been listed, or stands ahead of it among S. -/
def downs (ops : Array Oper) (listed : Array Bool) (S : List Nat) (i : Nat) : Bool := (bpre ops i).all fun p => listed.getD p false || (Nat.blt p i && memN p S)
def covers (ops : Array Oper) : List Nat → List Nat → Bool
  | [], _ => true
  | i :: l, M => memN i M && covers ops l (bpre ops i ++ M)
/-- No sooner ready than all of S is listed. -/
def gate (ops : Array Oper) (S T : List Nat) (j : Nat) : Bool := (bpre ops j).any (fun k => memN k T) || covers ops S.reverse (bpre ops j)
def listAll : List Nat → Array Bool → Array Bool
  | [], l => l
  | i :: S, l => listAll S (l.setIfInBounds i true)
/-- Each once. -/
def ded : List (Nat × Nat) → List (Nat × Nat)
  | [] => []
  | p :: l => if memN p.1 (l.map (·.1)) = true then ded l else p :: ded l
theorem mem_ded : ∀ {l : List (Nat × Nat)} {p : Nat × Nat}, p ∈ ded l → p ∈ l
  | [], _, h => h
  | q :: l, p, h => by
    unfold ded at h
    split at h
    · exact List.mem_cons_of_mem _ (mem_ded h)
    · rcases List.mem_cons.1 h with rfl | h
      · exact List.mem_cons_self
      · exact List.mem_cons_of_mem _ (mem_ded h)
def preOf (ops : Array Oper) (listed : Array Bool) (o : Oper) : List (Nat × Nat) :=
  ded <| o.after.toList.filterMap fun e => if Region.binds .any e && !listed.getD e.on true then (dstAt ops e.on).map fun s => (e.on, s) else none
def mkFI (P : Program) (N : Nat) (ops : Array Oper) (listed : Array Bool) (i : Nat) : Option FI :=
  match ops[i]?, mkGI P N ops i [] false with
  | some o, some g => some ⟨g, preOf ops listed o⟩
  | _, _ => none
def mkFIs (P : Program) (N : Nat) (ops : Array Oper) (listed : Array Bool) : List Nat → Option (List FI)
  | [] => some []
  | i :: l => match mkFI P N ops listed i, mkFIs P N ops listed l with
    | some f, some r => some (f :: r)
    | _, _ => none
/-- What comes up to the first write, in whatever order it comes; then the rest. -/
def planFree (P : Program) (N : Nat) (ops : Array Oper) (fuel : Nat) (listed : Array Bool) (S T : List Nat) (rest : Array Bool → Option GR) : Option GR :=
  if Nat.beq listed.size ops.size && Nat.ble (S ++ T).length fuel && nodupN (S.filterMap (dstAt ops)) && S.all (downs ops listed S) && T.all (gate ops S T) && !S.isEmpty then
    match mkFIs P N ops listed S, rest (listAll S listed) with
    | some l, some r => some (.free (S.filterMap (dstAt ops)) l r)
    | _, _ => none
  else none

def planR (P : Program) (N : Nat) (ops : Array Oper) : Nat → Bool → Array Bool → Option GR
  | 0, _, listed => if Region.ready .any ops listed = [] then some .done else none
  | fuel + 1, fr, listed =>
    match Region.ready .any ops listed with
    | [] => some .done
    | r =>
      match r.find? (quietAt P ops listed) with
      | some i => (match mkGI P N ops i [] (loadAt P ops i), planR P N ops fuel fr (listed.setIfInBounds i true) with
        | some g, some r => some (.op g r)
        | _, _ => none)
      | none =>
        if (fr && !(upTo P ops (unl ops listed)).isEmpty) = true then planFree P N ops (fuel + 1) listed (upTo P ops (unl ops listed)) (past P ops (unl ops listed)) (planR P N ops fuel fr) else
        match r with
        | [i] => (match mkGI P N ops i (chkOf P ops listed i) false, planR P N ops fuel fr (listed.setIfInBounds i true) with
          | some g, some r => some (.op g r)
          | _, _ => none)
        | [i, j] => (match mkGI P N ops i (chkOf P ops listed i) false, planR P N ops fuel fr (listed.setIfInBounds i true), mkGI P N ops j (chkOf P ops listed j) false, planR P N ops fuel fr (listed.setIfInBounds j true) with
          | some g, some r, some g', some r' => some (.two (.op g r) (.op g' r'))
          | _, _, _, _ => none)
        | _ => planFree P N ops (fuel + 1) listed (upTo P ops (unl ops listed)) (past P ops (unl ops listed)) (planR P N ops fuel fr)

theorem chkW_elim {l : List Nat} {W : Watch} {h : Heap} {K : Prop} (hk : chkW l W h K) : K ∧ ∀ j ∈ l, allAt (wfind W j) h := by
  induction l with
  | nil => exact ⟨hk, by simp⟩
  | cons j l ih =>
    obtain ⟨h1, h2⟩ := hk
    obtain ⟨h3, h4⟩ := ih h2
    refine ⟨h3, fun k hk => ?_⟩
    rcases List.mem_cons.1 hk with rfl | hk
    · exact h1
    · exact h4 k hk

theorem allAt_at {rs : List (Nat × Nat × Value)} {w : World} (h : allAt rs w.heap) : ∀ r ∈ rs, atAddr r w := by
  induction rs with
  | nil => simp
  | cons r rs ih =>
    obtain ⟨b, o, v⟩ := r
    intro x hx
    rcases List.mem_cons.1 hx with rfl | hx
    · unfold atAddr; rw [cell?_heap]; exact h.1
    · exact ih h.2 x hx

theorem hcell_push {h : Heap} {x : Obj} {b o : Nat} {v : Value} (hc : hcell h b o = some v) : hcell (h.push x) b o = some v := by
  unfold hcell at *
  have hb : b < h.size := by
    rcases Nat.lt_or_ge b h.size with hb | hb
    · exact hb
    · rw [Array.getElem?_eq_none hb] at hc; cases hc
  rw [Array.getElem?_push, if_neg (by omega)]
  exact hc

theorem withParts_mono {e : Env} : ∀ {ps : List (Nat × Nat × Operand)} {cs : List Value} {K K' : List Value → Prop}, (∀ cs, K cs → K' cs) → withParts e ps cs K → withParts e ps cs K'
  | [], _, _, _, hk, h => hk _ h
  | (off, size, x) :: ps, cs, K, K', hk, h => by
    obtain ⟨v, hv, h1, h2⟩ := withV_elim h
    simp only [withParts, hv, withV]
    exact ⟨h1, withParts_mono hk h2⟩

/-- An operation that makes memory leaves what was there. -/
theorem grow_more {P : Program} {y : Option Nat} {g : GOp} (hg : growing g = true) {e : Env} {h : Heap} {K : Value → Heap → Prop} (hv : gvc P y g e h K) : gvc P y g e h fun v h' => K v h' ∧ ∃ x, h' = h.push x := by
  cases g <;> first | cases hg | skip
  case alloc => exact fun b h' hn => ⟨hv b h' hn, let ⟨t, ht⟩ := hn.push; ⟨_, ht⟩⟩
  case box =>
    obtain ⟨v, hx, hk⟩ := withV_elim hv
    simp only [gvc, hx, withV]
    exact fun b h' hn => ⟨hk b h' hn, let ⟨t, ht⟩ := hn.push; ⟨_, ht⟩⟩
  case buildSlice => exact withParts_mono (fun cs hk b h' hn => ⟨hk b h' hn, let ⟨t, ht⟩ := hn.push; ⟨_, ht⟩⟩) hv
  case makeSlice =>
    obtain ⟨k, l, hl, hk⟩ := withI_elim hv
    obtain ⟨k', c, hc, h1, hk⟩ := withI_elim hk
    simp only [gvc, hl, hc, withI]
    exact ⟨h1, fun b h' hn => ⟨hk b h' hn, let ⟨t, ht⟩ := hn.push; ⟨_, ht⟩⟩⟩

theorem wfind_mem {W : Watch} {x : Nat × List (Nat × Nat × Value)} (hx : x ∈ W) (hnd : (W.map (·.1)).Nodup) : wfind W x.1 = x.2 := by
  induction W with
  | nil => cases hx
  | cons y W ih =>
    simp only [List.map_cons, List.nodup_cons] at hnd
    rcases List.mem_cons.1 hx with rfl | hx
    · simp [wfind]
    · have hne : y.1 ≠ x.1 := fun e => hnd.1 (by rw [e]; exact List.mem_map.2 ⟨x, hx, rfl⟩)
      unfold wfind
      rw [if_neg hne]
      exact ih hx hnd.2

theorem loaded_lt {P : Program} {ops : Array Oper} {k : Nat} (h : loadAt P ops k = true) : k < ops.size := by
  unfold loadAt at h
  split at h
  · rename_i o ho; exact (Array.getElem?_eq_some_iff.1 ho).1
  · cases h

theorem nodupN_spec : ∀ {D : List Nat}, nodupN D = true → D.Nodup
  | [], _ => .nil
  | d :: D, h => by
    simp only [nodupN, Bool.and_eq_true, Bool.not_eq_true'] at h
    exact List.nodup_cons.2 ⟨fun hm => by (have h1 := h.1; rw [memN_iff.2 hm] at h1; cases h1), nodupN_spec h.2⟩
theorem mem_unl {ops : Array Oper} {listed : Array Bool} {i : Nat} : i ∈ unl ops listed ↔ i < ops.size ∧ listed.getD i true = false := by
  unfold unl; rw [List.mem_filter, List.mem_range]; simp
theorem filter_lt {p q : Nat → Bool} (hle : ∀ y, q y = true → p y = true) : ∀ {l : List Nat}, (l.filter q).length ≤ (l.filter p).length ∧ ∀ x ∈ l, p x = true → q x = false → (l.filter q).length < (l.filter p).length
  | [] => ⟨by simp, by simp⟩
  | a :: l => by
    obtain ⟨h1, h2⟩ := filter_lt hle (l := l)
    have hb := hle a
    constructor
    · simp only [List.filter_cons]
      cases hq : q a
      · simp only [Bool.false_eq_true, if_false]; split
        · simp; omega
        · exact h1
      · rw [hb hq]; simp; exact h1
    · intro x hx hp hn
      simp only [List.filter_cons]
      rcases List.mem_cons.1 hx with rfl | hx
      · rw [hp, hn]; simp; omega
      · have h3 := h2 x hx hp hn
        cases hq : q a
        · simp only [Bool.false_eq_true, if_false]; split
          · simp; omega
          · exact h3
        · rw [hb hq]; simp; exact h3
theorem mkFIs_spec {P : Program} {N : Nat} {ops : Array Oper} {listed : Array Bool} : ∀ {U : List Nat} {l : List FI}, mkFIs P N ops listed U = some l →
    (∀ f ∈ l, ∃ o, f.g.idx ∈ U ∧ ops[f.g.idx]? = some o ∧ mkGI P N ops f.g.idx [] false = some f.g ∧ f.pre = preOf ops listed o) ∧ ∀ i ∈ U, ∃ f ∈ l, f.g.idx = i
  | [], l, h => by cases h; simp
  | i :: U, l, h => by
    unfold mkFIs at h
    split at h
    · rename_i f r hf hr
      cases h
      obtain ⟨h1, h2⟩ := mkFIs_spec hr
      unfold mkFI at hf
      split at hf
      · rename_i o g ho hg
        cases hf
        obtain ⟨_, _, _, _, _, _, hidx, _⟩ := mkGI_spec hg
        constructor
        · intro f hf
          rcases List.mem_cons.1 hf with rfl | hf
          · exact ⟨o, by simp [hidx], by simpa [hidx] using ho, by simpa [hidx] using hg, rfl⟩
          · obtain ⟨o', k1, k2⟩ := h1 f hf
            exact ⟨o', by simp [k1], k2⟩
        · intro j hj
          rcases List.mem_cons.1 hj with rfl | hj
          · exact ⟨_, List.mem_cons_self, hidx⟩
          · obtain ⟨f, k1, k2⟩ := h2 j hj
            exact ⟨f, List.mem_cons_of_mem _ k1, k2⟩
      · cases hf
    · cases h
theorem getD_lt {listed : Array Bool} {i : Nat} (h : i < listed.size) (d d' : Bool) : listed.getD i d = listed.getD i d' := by
  simp [Array.getD, h]
theorem getD_set_t {listed : Array Bool} {i k : Nat} {d : Bool} (h : listed.getD k d = true) : (listed.setIfInBounds i true).getD k d = true := by
  by_cases hik : i = k
  · subst hik
    by_cases hlt : i < listed.size
    · simp [hlt]
    · simp only [Array.getD, Array.size_setIfInBounds, hlt, dite_false] at h ⊢
      exact h
  · rw [getD_set_ne d hik]; exact h
theorem getD_set_eq {listed : Array Bool} {i : Nat} (h : i < listed.size) (d : Bool) : (listed.setIfInBounds i true).getD i d = true := by
  simp [h]

theorem fr_keeps {P : Program} {ops : Array Oper} {i : Nat} {W : Watch} {w w' : World} (f : Fr 0 0 w.heap w'.heap) : keepsW ops i W w w' := by
  intro x _ _ hr r hm
  have h1 := hr r hm
  unfold atAddr at *
  rw [cell?_heap] at *
  unfold hcell at *
  split at h1
  · rename_i c t fz hb
    have hlt := (Array.getElem?_eq_some_iff.1 hb).1
    rw [f.old _ hlt (by omega), hb]
    exact h1
  · cases h1

theorem upTo_past {P : Program} {ops : Array Oper} : ∀ l : List Nat, upTo P ops l ++ past P ops l = l
  | [] => rfl
  | i :: l => by
    unfold upTo past
    split
    · rfl
    · rw [List.cons_append, upTo_past l]
theorem size_listAll : ∀ (S : List Nat) (l : Array Bool), (listAll S l).size = l.size
  | [], _ => rfl
  | i :: S, l => by rw [listAll, size_listAll S]; simp
theorem getD_listAll : ∀ (S : List Nat) (l : Array Bool) (k : Nat), (listAll S l).getD k true = (l.getD k true || memN k S)
  | [], l, k => by simp [listAll, memN]
  | i :: S, l, k => by
    rw [listAll, getD_listAll S]
    simp only [memN]
    by_cases hik : k = i
    · subst hik
      rw [if_pos rfl]
      by_cases hlt : k < l.size
      · rw [getD_set_eq hlt]; simp
      · have : (l.setIfInBounds k true).getD k true = true := by simp [Array.getD, hlt]
        rw [this]; simp
    · rw [if_neg hik, getD_set_ne true (Ne.symm hik)]
theorem mem_bpre {ops : Array Oper} {i p : Nat} : p ∈ bpre ops i ↔ ∃ o, ops[i]? = some o ∧ ∃ e ∈ o.after, Region.binds .any e = true ∧ e.on = p := by
  unfold bpre
  cases ho : ops[i]? with
  | none => simp
  | some o =>
    simp only [List.mem_filterMap, Option.some.injEq, exists_eq_left']
    constructor
    · rintro ⟨e, he, hx⟩
      split at hx
      · rename_i hb; cases hx; exact ⟨e, by simpa using he, hb, rfl⟩
      · cases hx
    · rintro ⟨e, he, hb, rfl⟩
      exact ⟨e, by simpa using he, by rw [if_pos hb]⟩
theorem covers_spec {ops : Array Oper} {good : Nat → Prop} : ∀ {l M : List Nat}, covers ops l M = true → (∀ k ∈ M, good k) → (∀ i ∈ l, good i → ∀ p ∈ bpre ops i, good p) → ∀ i ∈ l, good i
  | [], _, _, _, _ => by simp
  | i :: l, M, hc, hM, hd => by
    simp only [covers, Bool.and_eq_true] at hc
    have hi := hM i (memN_iff.1 hc.1)
    intro j hj
    rcases List.mem_cons.1 hj with rfl | hj
    · exact hi
    · exact covers_spec hc.2 (fun k hk => by
        rcases List.mem_append.1 hk with h | h
        · exact hd i (by simp) hi k h
        · exact hM k h) (fun i hi => hd i (by simp [hi])) j hj

section
variable {P : Program} {ops : Array Oper} {Q : Exit → Act → World → Prop} {ro : Option Nat} {n : Nat}
theorem unl_set {listed : Array Bool} {i : Nat} (hi : i ∈ unl ops listed) (hs : listed.size = ops.size) : (unl ops (listed.setIfInBounds i true)).length < (unl ops listed).length := by
  obtain ⟨h1, h2⟩ := mem_unl.1 hi
  unfold unl
  exact (filter_lt (p := fun k => !listed.getD k true) (q := fun k => !(listed.setIfInBounds i true).getD k true) (fun y hy => by
    simp only [Bool.not_eq_true'] at hy ⊢
    cases hcc : listed.getD y true
    · rfl
    · rw [getD_set_t hcc] at hy; cases hy) (l := List.range ops.size)).2 i (List.mem_range.2 h1) (by simp only [h2]; rfl) (by simp only [getD_set_eq (show i < listed.size by omega)]; rfl)
theorem ready_unl {listed : Array Bool} {i : Nat} (hi : i ∈ Region.ready .any ops listed) : i ∈ unl ops listed := by
  obtain ⟨h1, o, ho, _⟩ := mem_ready.1 hi
  exact mem_unl.2 ⟨(Array.getElem?_eq_some_iff.1 ho).1, h1⟩
theorem ready_nil {listed : Array Bool} (h : (unl ops listed).length = 0) : Region.ready .any ops listed = [] := by
  rw [List.eq_nil_iff_forall_not_mem]
  intro j hj
  have := List.length_pos_of_mem (ready_unl hj)
  omega
/-- How much fuel there is does not matter, if only it is enough. -/
theorem Any.fuel {W : Watch} : ∀ (f f' : Nat) (listed : Array Bool) (a : Act) (w : World), listed.size = ops.size → (unl ops listed).length ≤ f → (unl ops listed).length ≤ f' → Any P ops Q ro n f W listed a w → Any P ops Q ro n f' W listed a w
  | 0, _, listed, _, _, _, h1, _, h => Any.done (ready_nil (by omega)) h.2
  | f + 1, 0, listed, _, _, _, _, h2, h => ⟨ready_nil (by omega), h.1 (ready_nil (by omega))⟩
  | f + 1, f' + 1, listed, a, w, hs, h1, h2, h => ⟨h.1, fun i hi => wpOpIn_mono (fun a' w' hk => ⟨hk.1, by
      have := unl_set (ready_unl hi) hs
      exact Any.fuel f f' _ a' w' (by simpa using hs) (by omega) (by omega) hk.2⟩) (h.2 i hi)⟩
end

theorem free_sound {y : Option Nat} {P : Program} {N n : Nat} {ops : Array Oper} {ro : Option Nat} {Q : Exit → Act → World → Prop} {w0 : World} {a0 : Act} {K : Env → Heap → Prop} {W : Watch}
    {A : Tells} {l : List FI} {listed : Array Bool} {S T : List Nat} {e : Env} {h0 : Heap} (hST : S ++ T = unl ops listed) (hnd : nodupN (S.filterMap (dstAt ops)) = true) (hdown : S.all (downs ops listed S) = true) (hgate : T.all (gate ops S T) = true) (hl : mkFIs P N ops listed S = some l) (hsz : listed.size = ops.size)
    (hrest : ∀ (fuel : Nat) a w, (unl ops (listAll S listed)).length ≤ fuel → After y N w0 a0 K a w → Any P ops Q ro n fuel W (listAll S listed) a w)
    (hA : StabL A) (hnames : namesOk A l = true) (hops : freeOps P y A (S.filterMap (dstAt ops)) h0 e l) (hend : ∀ h', Fr 0 0 h0 h' → ∀ V, Sep V h0.size h'.size l → freeEnd A V h' l (drp (S.filterMap (dstAt ops)) e) fun e' => K e' h') :
    ∀ (fuel : Nat) (listed' : Array Bool) (a : Act) (w : World), listed'.size = ops.size → (unl ops listed').length ≤ fuel → (∀ i, listed.getD i true = true → listed'.getD i true = true) → (∀ i, listed'.getD i true = true → listed.getD i true = true ∨ i ∈ S) →
      (∀ i ∈ S, listed'.getD i true = true → ∀ p ∈ bpre ops i, listed'.getD p true = true) → Holds N (drp (S.filterMap (dstAt ops)) e) a →
      (∃ V, ∀ f ∈ l, listed'.getD f.g.idx true = true → tells A f.g.idx V w.heap ∧ (∀ d, f.g.dst = some d → a.tmps.getD d undef = (V f.g.idx).1) ∧ (∀ k ∈ namesOf A f.g.idx, listed'.getD k true = true) ∧ (h0.size ≤ (V f.g.idx).2.1 ∧ (V f.g.idx).2.1 ≤ (V f.g.idx).2.2 ∧ (V f.g.idx).2.2 ≤ w.heap.size) ∧
        ∀ j ∈ l, listed'.getD j.g.idx true = true → f.g.idx ≠ j.g.idx → (V f.g.idx).2.2 ≤ (V j.g.idx).2.1 ∨ (V j.g.idx).2.2 ≤ (V f.g.idx).2.1) → Fr 0 0 h0 w.heap → a.defers = a0.defers → Like y w0 w → Any P ops Q ro n fuel W listed' a w := by
  obtain ⟨hl1, hl2⟩ := mkFIs_spec hl
  generalize hDe : S.filterMap (dstAt ops) = D at *
  have hU : (unl ops listed).Nodup := List.nodup_range.filter _
  have hSnd : S.Nodup := by rw [← hST] at hU; exact (List.nodup_append.1 hU).1
  have hdisj : ∀ k, k ∈ S → k ∈ T → False := by
    rw [← hST] at hU
    intro k h1 h2
    exact (List.nodup_append.1 hU).2.2 k h1 k h2 rfl
  have hSU : ∀ i, i ∈ S → i ∈ unl ops listed := fun i hi => by rw [← hST]; exact List.mem_append_left _ hi
  have hTU : ∀ i, i ∈ T → i ∈ unl ops listed := fun i hi => by rw [← hST]; exact List.mem_append_right _ hi
  have hdist : ∀ i j d, i ∈ S → j ∈ S → i ≠ j → dstAt ops i = some d → dstAt ops j = some d → False := by
    intro i j d hi hj hij h1 h2
    have hp := nodupN_spec hnd
    rw [← hDe, List.Nodup, List.pairwise_filterMap] at hp
    have key : ∀ (L : List Nat), L.Pairwise (fun a a' => ∀ b, dstAt ops a = some b → ∀ b', dstAt ops a' = some b' → b ≠ b') → i ∈ L → j ∈ L → False := by
      intro L
      induction L with
      | nil => intro _ h _; cases h
      | cons x L ih =>
        intro hp hi hj
        obtain ⟨hx, hp⟩ := List.pairwise_cons.1 hp
        rcases List.mem_cons.1 hi with hi1 | hi1
        · rcases List.mem_cons.1 hj with hj1 | hj1
          · exact hij (hi1.trans hj1.symm)
          · exact hx j hj1 d (hi1 ▸ h1) d h2 rfl
        · rcases List.mem_cons.1 hj with hj1 | hj1
          · exact hx i hi1 d (hj1 ▸ h2) d h1 rfl
          · exact ih hp hi1 hj1
    exact key _ hp hi hj
  intro fuel
  induction fuel with
  | zero =>
    rintro listed' a w hs hfu hmono hin hdc hh ⟨V, ht⟩ hf hd hlk
    have hall : ∀ i, i < ops.size → listed'.getD i true = true := fun i hi => by
      cases hc : listed'.getD i true
      · have hm := mem_unl.2 ⟨hi, hc⟩
        have := List.length_pos_of_mem hm
        omega
      · rfl
    have he : listed' = listAll S listed := by
      apply Array.ext
      · rw [size_listAll]; omega
      · intro i h1 h2
        have k1 := hall i (by omega)
        have k2 := getD_listAll S listed i
        have k3 : (listed.getD i true || memN i S) = true := by
          rcases hin i k1 with h | h
          · rw [h]; rfl
          · rw [memN_iff.2 h]; simp
        rw [k3] at k2
        simp [Array.getD, h1] at k1
        simp [Array.getD, h2] at k2
        rw [k1, k2]
    subst he
    refine hrest 0 a w hfu ?_
    have hlst : ∀ f ∈ l, (listAll S listed).getD f.g.idx true = true := fun f hfm => by
      obtain ⟨o, hu, _⟩ := hl1 f hfm
      exact hall _ (mem_unl.1 (hSU _ hu)).1
    have hsep : Sep V h0.size w.heap.size l := ⟨fun f hfm => (ht f hfm (hlst f hfm)).2.2.2.1, fun f hfm j hjm => (ht f hfm (hlst f hfm)).2.2.2.2 j hjm (hlst j hjm)⟩
    obtain ⟨e', k1, k2⟩ := freeEnd_at (hend _ hf V hsep) hh fun f hfm => by
      obtain ⟨o, hu, _⟩ := hl1 f hfm
      have := ht f hfm (hall _ (mem_unl.1 (hSU _ hu)).1)
      exact ⟨this.1, this.2.1⟩
    exact ⟨e', k1, hd, hlk, k2⟩
  | succ fuel ih =>
    rintro listed' a w hs hfu hmono hin hdc hh ⟨V, ht⟩ hf hd hlk
    by_cases hallS : ∀ i ∈ S, listed'.getD i true = true
    · have he : listed' = listAll S listed := by
        apply Array.ext
        · rw [size_listAll]; omega
        · intro i h1 h2
          have k2 := getD_listAll S listed i
          simp only [Array.getD, h2, dite_true] at k2
          have k1 : listed'.getD i true = listed'[i] := by simp [Array.getD, h1]
          show listed'[i] = (listAll S listed)[i]
          rw [← k1]
          refine Eq.trans ?_ k2.symm
          rw [Bool.eq_iff_iff, Bool.or_eq_true]
          constructor
          · intro h
            rcases hin i h with h | h
            · exact .inl h
            · exact .inr (memN_iff.2 h)
          · rintro (h | h)
            · exact hmono i h
            · exact hallS i (memN_iff.1 h)
      subst he
      refine hrest _ a w hfu ?_
      have hlst : ∀ f ∈ l, (listAll S listed).getD f.g.idx true = true := fun f hfm => by
        obtain ⟨o, hu, _⟩ := hl1 f hfm
        exact hallS _ hu
      have hsep : Sep V h0.size w.heap.size l := ⟨fun f hfm => (ht f hfm (hlst f hfm)).2.2.2.1, fun f hfm j hjm => (ht f hfm (hlst f hfm)).2.2.2.2 j hjm (hlst j hjm)⟩
      obtain ⟨e', k1, k2⟩ := freeEnd_at (hend _ hf V hsep) hh fun f hfm => by
        obtain ⟨o, hu, _⟩ := hl1 f hfm
        have := ht f hfm (hallS _ hu)
        exact ⟨this.1, this.2.1⟩
      exact ⟨e', k1, hd, hlk, k2⟩
    refine ⟨fun hr => ?_, fun i hi => ?_⟩
    · refine absurd (fun i => ?_) hallS
      induction i using Nat.strongRecOn with
      | _ i ihi =>
        intro hi
        cases hc : listed'.getD i true
        · have hu := hSU i hi
          have hlt := (mem_unl.1 hu).1
          have hmem : i ∈ Region.ready .any ops listed' := by
            obtain ⟨o, ho⟩ : ∃ o, ops[i]? = some o := ⟨ops[i], by simp [hlt]⟩
            refine mem_ready.2 ⟨hc, o, ho, fun ed hed hb => ?_⟩
            have hdn := List.all_eq_true.1 hdown i hi
            unfold downs at hdn
            have := List.all_eq_true.1 hdn ed.on (mem_bpre.2 ⟨o, ho, ed, hed, hb, rfl⟩)
            simp only [Bool.or_eq_true, Bool.and_eq_true] at this
            rcases this with h | ⟨h1, h2⟩
            · have hon : ed.on < listed.size := by
                rcases Nat.lt_or_ge ed.on listed.size with h' | h'
                · exact h'
                · simp [Array.getElem?_eq_none h'] at h
              rw [getD_lt (by omega) false true]
              rw [getD_lt hon false true] at h
              exact hmono _ h
            · have hlt2 : ed.on < i := by simpa [Nat.blt_eq] using h1
              rw [getD_lt (by omega) false true]
              exact ihi _ hlt2 (memN_iff.1 h2)
          rw [hr] at hmem; cases hmem
        · rfl
    · obtain ⟨hun, o, ho, hpre⟩ := mem_ready.1 hi
      have hlt : i < ops.size := (Array.getElem?_eq_some_iff.1 ho).1
      have hu : i ∈ unl ops listed := mem_unl.2 ⟨hlt, by
        cases hcc : listed.getD i true
        · rfl
        · rw [hmono i hcc] at hun; cases hun⟩
      have hpre' : ∀ p ∈ bpre ops i, listed'.getD p true = true := fun p hp => by
        obtain ⟨o', ho', ed, hed, hb, rfl⟩ := mem_bpre.1 hp
        rw [ho] at ho'; cases ho'
        have h := hpre ed hed hb
        have hon : ed.on < listed'.size := by
          rcases Nat.lt_or_ge ed.on listed'.size with h' | h'
          · exact h'
          · simp [Array.getElem?_eq_none h'] at h
        rw [getD_lt hon false true] at h
        exact h
      have hiS : i ∈ S := by
        have hm : i ∈ S ++ T := by rw [hST]; exact hu
        rcases List.mem_append.1 hm with h | h
        · exact h
        · exfalso
          have hg := List.all_eq_true.1 hgate i h
          unfold gate at hg
          rw [Bool.or_eq_true] at hg
          rcases hg with hg | hg
          · obtain ⟨k, hk, hkT⟩ := List.any_eq_true.1 hg
            have hkT := memN_iff.1 hkT
            rcases hin k (hpre' k hk) with h' | h'
            · rw [(mem_unl.1 (hTU k hkT)).2] at h'; cases h'
            · exact hdisj k h' hkT
          · refine hallS fun j hj => covers_spec (good := fun k => listed'.getD k true = true) hg hpre' (fun k hk hgk => hdc k (List.mem_reverse.1 hk) hgk) j (List.mem_reverse.2 hj)
      obtain ⟨f, hfm, hidx⟩ := hl2 i hiS
      obtain ⟨o', _, ho', hg, hp⟩ := hl1 f hfm
      rw [hidx] at ho' hg
      rw [ho] at ho'; cases ho'
      obtain ⟨o', ho', hc, hgd, hdst, e1, e0, e2, e3⟩ := mkGI_spec hg
      rw [ho] at ho'; cases ho'
      obtain ⟨e', hh', hv⟩ := withPre_at (freeOps_at hops hfm w.heap hf V) hh fun p hpm => by
        rw [hp] at hpm
        unfold preOf at hpm
        obtain ⟨ed, hed, hx⟩ := List.mem_filterMap.1 (mem_ded hpm)
        split at hx
        · rename_i hb
          simp only [Bool.and_eq_true, Bool.not_eq_true'] at hb
          simp only [Option.map_eq_some_iff] at hx
          obtain ⟨s, hs1, rfl⟩ := hx
          have hbp : ed.on ∈ bpre ops i := mem_bpre.2 ⟨o, ho, ed, by simpa using hed, hb.1, rfl⟩
          have h1 := hpre' _ hbp
          have honS : ed.on ∈ S := by
            rcases hin _ h1 with h | h
            · rw [hb.2] at h; cases h
            · exact h
          obtain ⟨f', hf1, hf2⟩ := hl2 ed.on honS
          obtain ⟨o2, _, ho2, hg2, _⟩ := hl1 f' hf1
          obtain ⟨o3, ho3, _, _, _, e12, _⟩ := mkGI_spec hg2
          have hd2 : f'.g.dst = some s := by
            rw [e12]
            unfold dstAt at hs1
            rw [hf2] at ho3
            rw [ho3] at hs1
            exact hs1
          rw [← hf2] at h1 ⊢
          have := ht f' hf1 h1
          exact ⟨this.1, this.2.1 s hd2⟩
        · cases hx
      have step : ∀ (v : Value) (w' : World), Like y w w' → Fr 0 0 w.heap w'.heap → tells A f.g.idx (updV V f.g.idx (v, w.heap.size, w'.heap.size)) w'.heap → keepsW ops i W w w' ∧ Any P ops Q ro n fuel W (listed'.setIfInBounds i true) (a.put o.dst v) w' := by
        intro v w' hlk' hf' htv
        refine ⟨fr_keeps (P := P) hf', ih _ _ _ (by simpa using hs) ?_ (fun k hk => getD_set_t (hmono k hk)) (fun k hk => ?_) (fun k hk hkl p hpk => ?_) ?_ ?_ (hf.trans hf') (by rw [put_defers]; exact hd) (hlk.trans hlk')⟩
        · have := unl_set (ops := ops) (mem_unl.2 ⟨hlt, hun⟩) hs
          omega
        · by_cases hki : i = k
          · subst hki; exact .inr hiS
          · rw [getD_set_ne true hki] at hk; exact hin k hk
        · by_cases hki : i = k
          · subst hki; exact getD_set_t (hpre' p hpk)
          · rw [getD_set_ne true hki] at hkl; exact getD_set_t (hdc k hk hkl p hpk)
        · refine hh.drp_put (fun d hd => ⟨hdst d hd, ?_⟩) v
          rw [← hDe]
          exact List.mem_filterMap.2 ⟨i, hiS, by unfold dstAt; rw [ho]; exact hd⟩
        · refine ⟨updV V f.g.idx (v, w.heap.size, w'.heap.size), fun f' hf1 hls => ?_⟩
          obtain ⟨o2, hu2, ho2, hg2, _⟩ := hl1 f' hf1
          obtain ⟨o3, ho3, _, _, _, e12, _⟩ := mkGI_spec hg2
          by_cases hii : f'.g.idx = i
          · rw [hii, ho] at ho3; cases ho3
            rw [hii, ← hidx]
            have hme : updV V f.g.idx (v, w.heap.size, w'.heap.size) f.g.idx = (v, w.heap.size, w'.heap.size) := by simp [updV]
            refine ⟨htv, fun d hdd => ?_, fun k hk => ?_, by rw [hme]; exact ⟨hf.size, hf'.size, Nat.le_refl _⟩, fun j hj hjl hne => ?_⟩
            rotate_left 2
            · rw [hme]
              have hji : j.g.idx ≠ f.g.idx := Ne.symm hne
              have hjl' : listed'.getD j.g.idx true = true := by
                rw [getD_set_ne true (fun e => hji e.symm)] at hjl; exact hjl
              have := (ht j hj hjl').2.2.2.1
              unfold updV; rw [if_neg hji]
              exact .inr this.2.2
            · rw [e12] at hdd
              rw [hdd]
              have hN := hdst d hdd
              have : (a.put (some d) v).tmps.getD d undef = v := by simp [Act.put, hh.1, hN]
              rw [this]; simp [updV]
            · have h0 := List.all_eq_true.1 hnames f hfm
              have h0 := List.all_eq_true.1 h0 k hk
              rw [Bool.or_eq_true] at h0
              rcases h0 with h0 | h0
              · have := Nat.eq_of_beq_eq_true h0
                rw [this, hidx]; exact getD_set_eq (by omega) true
              · obtain ⟨p, hpm, hp0⟩ := List.any_eq_true.1 h0
                rw [hp] at hpm
                unfold preOf at hpm
                obtain ⟨ed, hed, hx⟩ := List.mem_filterMap.1 (mem_ded hpm)
                split at hx
                · rename_i hb
                  simp only [Bool.and_eq_true, Bool.not_eq_true'] at hb
                  simp only [Option.map_eq_some_iff] at hx
                  obtain ⟨s, hs1, rfl⟩ := hx
                  have h1 := hpre' _ (mem_bpre.2 ⟨o, ho, ed, by simpa using hed, hb.1, rfl⟩)
                  have honS : ed.on ∈ S := by
                    rcases hin _ h1 with h | h
                    · rw [hb.2] at h; cases h
                    · exact h
                  rw [Bool.or_eq_true] at hp0
                  rcases hp0 with hp0 | hp0
                  · rw [Nat.eq_of_beq_eq_true hp0]; exact getD_set_t h1
                  · obtain ⟨f2, hf21, hf22⟩ := hl2 ed.on honS
                    exact getD_set_t ((ht f2 hf21 (by rw [hf22]; exact h1)).2.2.1 k (by rw [hf22]; exact memN_iff.1 hp0))
                · cases hx
          · rw [getD_set_ne true (Ne.symm hii)] at hls
            obtain ⟨t1, t2, t3, t4, t5⟩ := ht f' hf1 hls
            have hneI : ∀ k, listed'.getD k true = true → k ≠ f.g.idx := fun k hk he => by rw [he, hidx, hun] at hk; cases hk
            refine ⟨hA.at_ _ hf' (tells_congr (fun k hk => ?_) t1), fun d hdd => ?_, fun k hk => getD_set_t (t3 k hk), ?_, fun j hj hjl hne => ?_⟩
            rotate_left 2
            · unfold updV; rw [if_neg (hneI _ hls)]; exact ⟨t4.1, t4.2.1, Nat.le_trans t4.2.2 hf'.size⟩
            · unfold updV
              rw [if_neg (hneI _ hls)]
              by_cases hji : j.g.idx = f.g.idx
              · rw [if_pos hji]; exact .inl t4.2.2
              · rw [if_neg hji]
                exact t5 j hj (by rw [getD_set_ne true (fun e => hji (e.symm.trans hidx.symm))] at hjl; exact hjl) hne
            · unfold updV; rw [if_neg (hneI k (t3 k hk))]
            · have hne : ∀ d', o.dst = some d' → d' ≠ d := fun d' hd' he => by
                subst he
                exact hdist i f'.g.idx d' hiS hu2 (Ne.symm hii) (by unfold dstAt; rw [ho]; exact hd') (by unfold dstAt; rw [ho3]; exact e12.symm.trans hdd)
              have h2 : (a.put o.dst v).tmps.getD d undef = a.tmps.getD d undef := by
                cases hod : o.dst with
                | none => rfl
                | some d' => have := hne d' hod; simp [Act.put, Array.getElem?_setIfInBounds_ne this]
              rw [h2, t2 d hdd]
              unfold updV; rw [if_neg (hneI _ hls)]
      unfold wpOpIn
      simp only [ho]
      rcases guard_sound hgd hh' hv with ⟨hw, hv⟩ | ⟨hw, hv⟩
      · rw [if_pos hw]
        refine (g_sound hc hh' hv).wpIn (compile_noDefer hc) ?_
        rintro v w' ⟨hl', hk1, hk2⟩
        exact step v w' hl' hk1 hk2
      · rw [if_neg (by rw [hw]; simp)]
        exact ⟨fun _ _ => trivial, step undef w (.refl _ _) (.refl _ _ _) hv⟩

theorem planFree_sound {y : Option Nat} {P : Program} {N n : Nat} {ops : Array Oper} {ro : Option Nat} {Q : Exit → Act → World → Prop} {w0 : World} {a0 : Act} {K : Env → Heap → Prop}
    {fuel : Nat} {listed : Array Bool} {S T : List Nat} {rest : Array Bool → Option GR} {r : GR} {W : Watch} {e : Env} {a : Act} {w : World} (hST : S ++ T = unl ops listed) (hr : planFree P N ops fuel listed S T rest = some r)
    (hrest : ∀ (r : GR) e a w, S ≠ [] → rest (listAll S listed) = some r → rvc P y r W e w.heap K → Holds N e a → a.defers = a0.defers → Like y w0 w → ∃ f, (unl ops (listAll S listed)).length ≤ f ∧ Any P ops Q ro n f W (listAll S listed) a w)
    (hv : rvc P y r W e w.heap K) (hh : Holds N e a) (hd : a.defers = a0.defers) (hl : Like y w0 w) : Any P ops Q ro n fuel W listed a w := by
  unfold planFree at hr
  split at hr
  · rename_i hc
    simp only [Bool.and_eq_true, Bool.not_eq_true'] at hc
    obtain ⟨⟨⟨⟨⟨c1, c2⟩, c3⟩, c4⟩, c5⟩, c6⟩ := hc
    have c1 := Nat.eq_of_beq_eq_true c1
    have c2 := Nat.le_of_ble_eq_true c2
    rw [hST] at c2
    split at hr
    · rename_i l r' hl' hr'
      cases hr
      obtain ⟨A, hA, hn, h1, h2⟩ := hv
      obtain ⟨k1, k2⟩ := mkFIs_spec hl'
      refine free_sound (K := fun e h => rvc P y r' W e h K) hST c3 c4 c5 hl' c1 (fun f a w hf haft => ?_) hA hn h1 h2 fuel listed a w c1 c2 (fun _ h => h) (fun _ h => .inl h) (fun i hi h => ?_) (hh.drp _) ⟨fun _ => (undef, 0, 0), fun f hf hls => ?_⟩ (.refl _ _ _) hd hl
      · obtain ⟨e', m1, m2, m3, m4⟩ := haft
        obtain ⟨f', n1, n2⟩ := hrest r' e' a w (by rintro rfl; cases c6) hr' m4 m1 m2 m3
        exact Any.fuel f' f _ a w (by rw [size_listAll]; exact c1) n1 hf n2
      · have : i ∈ unl ops listed := by rw [← hST]; exact List.mem_append_left _ hi
        rw [(mem_unl.1 this).2] at h; cases h
      · obtain ⟨_, hu, _⟩ := k1 f hf
        have : f.g.idx ∈ unl ops listed := by rw [← hST]; exact List.mem_append_left _ hu
        rw [(mem_unl.1 this).2] at hls; cases hls
    · cases hr
  · cases hr
theorem planFree_le {P : Program} {N : Nat} {ops : Array Oper} {fuel : Nat} {listed : Array Bool} {S T : List Nat} {rest : Array Bool → Option GR} {r : GR} (hr : planFree P N ops fuel listed S T rest = some r) : (S ++ T).length ≤ fuel := by
  unfold planFree at hr
  split at hr
  · rename_i hc
    simp only [Bool.and_eq_true] at hc
    exact Nat.le_of_ble_eq_true hc.1.1.1.1.2
  · cases hr
theorem unl_listAll {ops : Array Oper} {listed : Array Bool} {S : List Nat} {i : Nat} (hi : i ∈ S) (hu : i ∈ unl ops listed) : (unl ops (listAll S listed)).length < (unl ops listed).length := by
  obtain ⟨h1, h2⟩ := mem_unl.1 hu
  unfold unl
  exact (filter_lt (p := fun k => !listed.getD k true) (q := fun k => !(listAll S listed).getD k true) (fun y hy => by
    simp only [Bool.not_eq_true'] at hy ⊢
    rw [getD_listAll] at hy
    cases hcc : listed.getD y true
    · rfl
    · rw [hcc] at hy; cases hy) (l := List.range ops.size)).2 i (List.mem_range.2 h1) (by simp only [h2]; rfl) (by simp only [getD_listAll, memN_iff.2 hi]; simp)

theorem plan_sound {y : Option Nat} {P : Program} {N n : Nat} {ops : Array Oper} {ro : Option Nat} {Q : Exit → Act → World → Prop} {w0 : World} {a0 : Act} {K : Env → Heap → Prop} (hQ : ∀ a w, After y N w0 a0 K a w → Q .normal a w)
    (hnd : ∀ (j : Nat) (o : Oper) c, ops[j]? = some o → o.op ≠ .defer c) (hsel : ∀ (j : Nat) (o : Oper) cs b, ops[j]? = some o → o.op ≠ .select cs b) (hQp : ∀ c a w, ¬ Q (.panic c) a w) (hQo : ∀ a w, ¬ Q .outgrown a w) :
    ∀ (fuel : Nat) (fr : Bool) (listed : Array Bool) (r : GR) (W : Watch) (e : Env) (a : Act) (w : World), planR P N ops fuel fr listed = some r → rvc P y r W e w.heap K → Holds N e a → a.defers = a0.defers → Like y w0 w →
      (W.map (·.1)).Nodup → (∀ x ∈ W, listed.getD x.1 false = true ∧ loadAt P ops x.1 = true) → Any P ops Q ro n fuel W listed a w := by
  intro fuel
  induction fuel with
  | zero =>
    intro fr listed r W e a w hr hv hh hd hl _ _
    simp only [planR] at hr
    split at hr
    · rename_i h0; cases hr; exact ⟨h0, hQ _ _ ⟨e, hh, hd, hl, hv⟩⟩
    · cases hr
  | succ fuel ih =>
    intro fr listed r W e a w hr hv hh hd hl hWn hW
    -- an operation that may turn the heap
    have loud : ∀ (i : Nat) (g : GI) (r' : GR), i ∈ Region.ready .any ops listed → mkGI P N ops i (chkOf P ops listed i) false = some g → planR P N ops fuel fr (listed.setIfInBounds i true) = some r' → rvc P y (.op g r') W e w.heap K →
        wpOpIn (fw ro) n P ops Q i (fun a' w' => keepsW ops i W w w' ∧ Any P ops Q ro n fuel W (listed.setIfInBounds i true) a' w') a w := by
      intro i g r' hi hg hr' hv
      obtain ⟨o, ho, hc, hgd, hdst, e1, _, e2, e3⟩ := mkGI_spec hg
      have hW' : ∀ x ∈ W, (listed.setIfInBounds i true).getD x.1 false = true ∧ loadAt P ops x.1 = true := fun x hx => ⟨getD_set_true (hW x hx).1, (hW x hx).2⟩
      unfold wpOpIn
      simp only [ho]
      rcases guard_sound hgd hh hv with ⟨hw, hv⟩ | ⟨hw, hv⟩
      · rw [if_pos hw]
        by_cases hgr : growing g.op = true
        · refine (g_sound hc hh (grow_more hgr hv)).wpIn (compile_noDefer hc) ?_
          rintro v w' ⟨hl', hk, x, hx⟩
          obtain ⟨hk, _⟩ := chkW_elim hk
          rw [show addW g W e v = W from by unfold addW; rw [e3]; rfl, e1] at hk
          refine ⟨fun y _ _ hy r hr => ?_, ih _ _ _ _ _ _ _ hr' hk (hh.put hdst v) (by rw [put_defers]; exact hd) (hl.trans hl') hWn hW'⟩
          have := hy r hr
          unfold atAddr at this ⊢
          rw [cell?_heap] at this ⊢
          rw [hx]
          exact hcell_push this
        · refine (g_sound hc hh hv).wpIn (compile_noDefer hc) ?_
          rintro v w' ⟨hl', hk⟩
          obtain ⟨hk, hchk⟩ := chkW_elim hk
          rw [show addW g W e v = W from by unfold addW; rw [e3]; rfl, e1] at hk
          refine ⟨fun y hy hb _ => ?_, ih _ _ _ _ _ _ _ hr' hk (hh.put hdst v) (by rw [put_defers]; exact hd) (hl.trans hl') hWn hW'⟩
          have hmem : y.1 ∈ g.chk := by
            rw [e2]
            unfold chkOf
            have hga : growAt P ops i = false := by unfold growAt; rw [ho]; simp only [hc]; simpa using hgr
            rw [hga]
            simp only [Bool.false_eq_true, if_false, List.mem_filter, List.mem_range, Bool.and_eq_true, Bool.not_eq_true']
            exact ⟨loaded_lt (hW y hy).2, ⟨(hW y hy).1, (hW y hy).2⟩, hb⟩
          have := hchk _ hmem
          rw [wfind_mem hy hWn] at this
          exact allAt_at this
      · rw [if_neg (by rw [hw]; simp)]
        rw [e1] at hv
        exact ⟨fun _ _ => trivial, fun _ _ _ h => h, ih _ _ _ _ _ _ _ hr' hv (hh.put hdst undef) (by rw [put_defers]; exact hd) hl hWn hW'⟩
    simp only [planR] at hr
    split at hr
    · rename_i h0; cases hr; exact Any.done h0 (hQ _ _ ⟨e, hh, hd, hl, hv⟩)
    · split at hr
      · -- one that only reads
        rename_i i hfind
        split at hr
        · rename_i g r' hg hr'
          cases hr
          have hq := List.find?_some hfind
          have hmem := List.mem_of_find?_eq_some hfind
          obtain ⟨o, ho, hc, hgd, hdst, e1, e0, e2, e3⟩ := mkGI_spec hg
          unfold quietAt at hq
          simp only [ho, hc, Bool.and_eq_true] at hq
          have hun := (mem_ready.1 hmem).1
          have hlt : i < listed.size := by
            rcases Nat.lt_or_ge i listed.size with h | h
            · exact h
            · simp [Array.getElem?_eq_none h] at hun
          have hset : (listed.setIfInBounds i true).getD i false = true := by simp [hlt]
          have hnot : ∀ x ∈ W, x.1 ≠ i := fun x hx he => by
            have := (hW x hx).1
            rw [he] at this
            simp [hlt] at this hun
            rw [hun] at this; cases this
          rcases guard_sound hgd hh hv with ⟨hw, hv⟩ | ⟨hw, hv⟩
          · have hv' : qvc g.op e w.heap fun v => chkW g.chk W w.heap (rvc P y r' (addW g W e v) (eput e g.dst v) w.heap K) := by
              generalize g.op = gg at hv hq
              cases gg <;> first | exact hv | (exact absurd hq.1 (by simp [GOp.quiet]))
            obtain ⟨v, hk, hreads, hrun⟩ := q_sound hc hq.1 hh hv'
            obtain ⟨hk, _⟩ := chkW_elim hk
            have hR : ∀ r ∈ reads g.op e v, atAddr r w := fun r hr => by unfold atAddr; rw [cell?_heap]; exact hreads r hr
            rw [e1] at hk
            have hfr := Region.free_spec ho hq.2
            cases hld : loadAt P ops i with
            | true =>
              rw [show addW g W e v = (i, reads g.op e v) :: W from by unfold addW; rw [e3, hld, e0]; rfl] at hk
              refine Any.first ho hnd hsel hQp hQo fuel W listed a w hfr hmem (.inl ⟨hw, hrun⟩) hR (ih _ _ _ _ _ _ _ hr' hk (hh.put hdst v) (by rw [put_defers]; exact hd) hl ?_ ?_)
              · simp only [List.map_cons, List.nodup_cons]
                exact ⟨fun h => by obtain ⟨x, hx, he⟩ := List.mem_map.1 h; exact hnot x hx he, hWn⟩
              · intro x hx
                rcases List.mem_cons.1 hx with rfl | hx
                · exact ⟨hset, hld⟩
                · exact ⟨getD_set_true (hW x hx).1, (hW x hx).2⟩
            | false =>
              rw [show addW g W e v = W from by unfold addW; rw [e3, hld]; rfl] at hk
              have hnl : reads g.op e v = [] := by
                have : isLoad g.op = false := by unfold loadAt at hld; simpa [ho, hc] using hld
                generalize g.op = gg at this
                cases gg <;> first | rfl | cases this
              rw [hnl] at hrun
              have h1 := ih _ _ _ W _ _ _ hr' hk (hh.put hdst v) (by rw [put_defers]; exact hd) hl hWn (fun x hx => ⟨getD_set_true (hW x hx).1, (hW x hx).2⟩)
              refine Any.first ho hnd hsel hQp hQo fuel W listed a w hfr hmem (R := []) (.inl ⟨hw, hrun⟩) (by simp) ?_
              exact Any.more_nil fuel W _ _ _ h1
          · rw [e1] at hv
            have h1 := ih _ _ _ W _ _ _ hr' hv (hh.put hdst undef) (by rw [put_defers]; exact hd) hl hWn (fun x hx => ⟨getD_set_true (hW x hx).1, (hW x hx).2⟩)
            exact Any.first ho hnd hsel hQp hQo fuel W listed a w (Region.free_spec ho hq.2) hmem (R := []) (.inr ⟨hw, rfl⟩) (by simp) (Any.more_nil fuel W _ _ _ h1)
        · cases hr
      · have hfree : planFree P N ops (fuel + 1) listed (upTo P ops (unl ops listed)) (past P ops (unl ops listed)) (planR P N ops fuel fr) = some r → Any P ops Q ro n (fuel + 1) W listed a w := by
          intro hr
          refine planFree_sound (upTo_past _) hr (fun r' e' a' w' hne hr' hv' hh' hd' hl' => ?_) hv hh hd hl
          have hle := planFree_le hr
          rw [upTo_past] at hle
          obtain ⟨i, hi⟩ := List.exists_mem_of_ne_nil _ hne
          have hiu : i ∈ unl ops listed := by rw [← upTo_past (P := P) (ops := ops) (unl ops listed)]; exact List.mem_append_left _ hi
          have hlt := unl_listAll hi hiu
          refine ⟨fuel, by omega, ih _ _ _ W _ _ _ hr' hv' hh' hd' hl' hWn fun x hx => ⟨?_, (hW x hx).2⟩⟩
          have h1 := (hW x hx).1
          have hxs : x.1 < listed.size := by
            rcases Nat.lt_or_ge x.1 listed.size with h' | h'
            · exact h'
            · simp [Array.getElem?_eq_none h'] at h1
          rw [getD_lt (by rw [size_listAll]; exact hxs) false true, getD_listAll]
          rw [getD_lt hxs false true] at h1
          rw [h1]; rfl
        split at hr
        · exact hfree hr
        split at hr
        · rename_i i hrd
          split at hr
          · rename_i g r' hg hr'
            cases hr
            exact Any.only hrd (loud i g r' (by rw [hrd]; simp) hg hr' hv)
          · cases hr
        · rename_i i j hrd
          split at hr
          · rename_i g r' g' r'' hg hr' hg' hr''
            cases hr
            exact Any.both hrd (loud i g r' (by rw [hrd]; simp) hg hr' hv.1) (loud j g' r'' (by rw [hrd]; simp) hg' hr'' hv.2)
          · cases hr
        · exact hfree hr
/-- The same, told of a region's whole order at once. -/
def planO (P : Program) (N : Nat) (ops : Array Oper) (once fr : Bool) : Nat → Array Bool → Option GR
  | 0, listed => planR P N ops 0 fr listed
  | fuel + 1, listed => if once = true then planFree P N ops (fuel + 1) listed (upTo P ops (unl ops listed)) (past P ops (unl ops listed)) (planR P N ops fuel fr) else planR P N ops (fuel + 1) fr listed
theorem planO_sound {y : Option Nat} {P : Program} {N n : Nat} {ops : Array Oper} {ro : Option Nat} {Q : Exit → Act → World → Prop} {w0 : World} {a0 : Act} {K : Env → Heap → Prop} (hQ : ∀ a w, After y N w0 a0 K a w → Q .normal a w)
    (hnd : ∀ (j : Nat) (o : Oper) c, ops[j]? = some o → o.op ≠ .defer c) (hsel : ∀ (j : Nat) (o : Oper) cs b, ops[j]? = some o → o.op ≠ .select cs b) (hQp : ∀ c a w, ¬ Q (.panic c) a w) (hQo : ∀ a w, ¬ Q .outgrown a w)
    (fuel : Nat) (once fr : Bool) (listed : Array Bool) (r : GR) (W : Watch) (e : Env) (a : Act) (w : World) (hr : planO P N ops once fr fuel listed = some r) (hv : rvc P y r W e w.heap K) (hh : Holds N e a) (hd : a.defers = a0.defers) (hl : Like y w0 w)
      (hWn : (W.map (·.1)).Nodup) (hW : ∀ x ∈ W, listed.getD x.1 false = true ∧ loadAt P ops x.1 = true) : Any P ops Q ro n fuel W listed a w := by
  cases fuel with
  | zero => exact plan_sound hQ hnd hsel hQp hQo 0 fr listed r W e a w hr hv hh hd hl hWn hW
  | succ fuel =>
    simp only [planO] at hr
    split at hr
    · refine planFree_sound (upTo_past _) hr (fun r' e' a' w' hne hr' hv' hh' hd' hl' => ?_) hv hh hd hl
      have hle := planFree_le hr
      rw [upTo_past] at hle
      obtain ⟨i, hi⟩ := List.exists_mem_of_ne_nil _ hne
      have hiu : i ∈ unl ops listed := by rw [← upTo_past (P := P) (ops := ops) (unl ops listed)]; exact List.mem_append_left _ hi
      have hlt := unl_listAll hi hiu
      refine ⟨fuel, by omega, plan_sound hQ hnd hsel hQp hQo fuel _ _ _ W _ _ _ hr' hv' hh' hd' hl' hWn fun x hx => ⟨?_, (hW x hx).2⟩⟩
      have h1 := (hW x hx).1
      have hxs : x.1 < listed.size := by
        rcases Nat.lt_or_ge x.1 listed.size with h' | h'
        · exact h'
        · simp [Array.getElem?_eq_none h'] at h1
      rw [getD_lt (by rw [size_listAll]; exact hxs) false true, getD_listAll]
      rw [getD_lt hxs false true] at h1
      rw [h1]; rfl
    · exact plan_sound hQ hnd hsel hQp hQo (fuel + 1) fr listed r W e a w hr hv hh hd hl hWn hW
end Go.Vc
namespace Go.Vc
open Go

/-! ### Compiled code -/
inductive GC where
  | skip
  | ret
  | exit (id : Nat)
  | block (id : Nat) (c : GC)
  | loop (c : GC)
  | seq (a b : GC)
  | cond (x : Operand) (a b : GC)
  | reg (r : GR) (live : List Nat)
  | rng (f : Operand) (ps : List Nat) (asg body : GC)

inductive GX where
  | normal
  | ret
  | exit (id : Nat)

def GX.exit' : GX → Exit
  | .normal => .normal
  | .ret => .ret
  | .exit id => .exit id

abbrev Post := GX → Env → Heap → Prop

def thenQ (K : Env → Heap → Prop) (Q : Post) : Post
  | .normal, e, h => K e h
  | .ret, e, h => Q .ret e h
  | .exit id, e, h => Q (.exit id) e h
def blockQ (id : Nat) (Q : Post) : Post
  | .normal, e, h => Q .normal e h
  | .ret, e, h => Q .ret e h
  | .exit id', e, h => if id' = id then Q .normal e h else Q (.exit id') e h

theorem thenQ_normal (K : Env → Heap → Prop) (Q : Post) (e : Env) (h : Heap) : thenQ K Q .normal e h = K e h := (rfl)
theorem thenQ_ret (K : Env → Heap → Prop) (Q : Post) (e : Env) (h : Heap) : thenQ K Q .ret e h = Q .ret e h := (rfl)
theorem thenQ_exit (K : Env → Heap → Prop) (Q : Post) (id : Nat) (e : Env) (h : Heap) : thenQ K Q (.exit id) e h = Q (.exit id) e h := (rfl)
theorem blockQ_normal (id : Nat) (Q : Post) (e : Env) (h : Heap) : blockQ id Q .normal e h = Q .normal e h := (rfl)
theorem blockQ_ret (id : Nat) (Q : Post) (e : Env) (h : Heap) : blockQ id Q .ret e h = Q .ret e h := (rfl)
theorem blockQ_exit (id id' : Nat) (Q : Post) (e : Env) (h : Heap) : blockQ id Q (.exit id') e h = if id' = id then Q .normal e h else Q (.exit id') e h := (rfl)

/-- A block that keeps the book of a range over a function. -/
def book : Obj → Bool
  | .loop _ | .deferred _ => true
  | _ => false

/-- What lay there lies there, but for book-keeping from block B on. -/
structure Ext (B : Nat) (h h' : Heap) : Prop where
  size : h.size ≤ h'.size
  old : ∀ (b : Nat) (x : Obj), h[b]? = some x → (b < B ∨ book x = false) → h'[b]? = some x

theorem Ext.refl (B : Nat) (h : Heap) : Ext B h h := ⟨Nat.le_refl _, fun _ _ h _ => h⟩
theorem Ext.trans {B : Nat} {h h' h'' : Heap} (a : Ext B h h') (b : Ext B h' h'') : Ext B h h'' := ⟨Nat.le_trans a.size b.size, fun x o hx hc => b.old x o (a.old x o hx hc) hc⟩

/-- **AN ITERATOR's CONTRACT**: it yields just xs, and turns nothing by itself; what it reads is told by C. -/
def Iter (P : Program) (gf : FuncId) (lb : Array Value) (xs : List (List Value)) (C : Heap → Prop) : Prop :=
  goodF P gf = true ∧ ∀ (l : Nat) (I : Nat → Heap → Prop) (X : Heap → Prop),
    (∀ i x h, xs[i]? = some x → I i h → C h → Yld P l x.toArray h fun v h' => (v = .bool true ∧ I (i + 1) h' ∧ C h') ∨ (v = .bool false ∧ X h')) →
    ∀ h, I 0 h → C h → ConX (some l) P gf (#[.func (.yield l) #[] #[]] ++ lb) h fun _ h' => (I xs.length h' ∧ C h') ∨ X h'

/-- How a round ends. -/
def roundQ (In : Heap → Prop) (X : GX → Heap → Prop) : Post
  | .normal, _, h => In h
  | .ret, _, h => X .ret h
  | .exit id, _, h => X (.exit id) h

/-- A loop's word: what is kept is told by a state s, which a number of its own lowers. -/
def loopVC (body : Post → Env → Heap → Prop) (Q : Post) (e : Env) (h : Heap) : Prop :=
  ∃ (α : Type) (E : α → Env) (I : α → Heap → Prop) (μ : α → Nat) (s : α), Le (E s) e ∧ I s h ∧
    ∀ s h, I s h → body (thenQ (fun e' h' => ∃ s', μ s' < μ s ∧ Le (E s') e' ∧ I s' h') Q) (E s) h

def zipE (ps : List Nat) (vs : List Value) (e : Env) : Env :=
  match ps, vs with
  | p :: ps, v :: vs => zipE ps vs ((p, v) :: e)
  | _, _ => e

/-- A range over a function. -/
def rngVC (P : Program) (asg body : Post → Env → Heap → Prop) (ps : List Nat) (fv : Option Value) (Q : Post) (e : Env) (h : Heap) : Prop :=
  withV fv fun
  | .func (.func gf) first lb => Chk (first = #[]) (∃ (xs : List (List Value)) (C : Heap → Prop) (I : Nat → Heap → Prop) (X : GX → Heap → Prop),
      Iter P gf lb xs C ∧ (∀ x ∈ xs, x.length = ps.length) ∧
      (∀ h1 h2, Ext h.size h1 h2 → C h1 → C h2) ∧ (∀ i h1 h2, Ext h.size h1 h2 → I i h1 → I i h2) ∧ (∀ x h1 h2, Ext h.size h1 h2 → X x h1 → X x h2) ∧
      I 0 h ∧ C h ∧
      (∀ i x h1, h.size ≤ h1.size → xs[i]? = some x → I i h1 → C h1 → asg (thenQ (fun e2 h2 => ∀ h2', Ext h.size h2 h2' → body (roundQ (fun h3 => I (i + 1) h3 ∧ C h3) X) e2 h2') (fun _ _ _ => False)) (zipE ps x e) h1) ∧
      (∀ h', h.size ≤ h'.size → I xs.length h' → C h' → Q .normal e h') ∧
      (∀ x h', h.size ≤ h'.size → X x h' → x ≠ .normal ∧ Q x e h'))
  | _ => False

/-- **THE WEAKEST PRECONDITION.** -/
def vc (P : Program) (y : Option Nat) : GC → Post → Env → Heap → Prop
  | .skip, Q, e, h => Q .normal e h
  | .ret, Q, e, h => Q .ret e h
  | .exit id, Q, e, h => Q (.exit id) e h
  | .block id c, Q, e, h => vc P y c (blockQ id Q) e h
  | .loop c, Q, e, h => loopVC (vc P y c) Q e h
  | .seq a b, Q, e, h => vc P y a (thenQ (vc P y b Q) Q) e h
  | .cond x a b, Q, e, h => withB (ev e x) fun t => If (t = true) (vc P y a Q e h) (vc P y b Q e h)
  | .reg r live, Q, e, h => rvc P y r [] e h fun e h => Q .normal (only live e) h
  | .rng f ps asg body, Q, e, h => Chk (y = none) (rngVC P (vc P y asg) (vc P y body) ps (ev e f) Q e h)

def alook : List (Nat × List Nat) → Nat → List Nat
  | [], _ => []
  | (k, l) :: r, i => if k = i then l else alook r i

def noDefers (ops : Array Oper) : Bool := ops.all fun o => match o.op with | .defer _ | .select .. => false | _ => true

/-- Code compiled; T: of each region, by its number, the slots that are remembered behind it; inR: within a round. -/
def compile (P : Program) (N : Nat) (T : List (Nat × List Nat)) (inR : Bool) : Code → Option GC
  | .skip => some .skip
  | .ret => some .ret
  | .exit id => some (.exit id)
  | .label _ => some .skip
  | .scope c => compile P N T inR c
  | .block id c => (compile P N T inR c).map (.block id)
  | .loop c => (compile P N T inR c).map .loop
  | .seq a b => (compile P N T inR a).bind fun x => (compile P N T inR b).map fun y => .seq x y
  | .cond x a b => (compile P N T inR a).bind fun u => (compile P N T inR b).map fun v => .cond x u v
  | .region id ops draw =>
    if draw then
      if (P.follows .mixedOrders || !Region.departs ops) && noDefers ops then (planO P N ops (memN 1000001 (alook T id)) (memN 1000000 (alook T id)) ops.size (Array.replicate ops.size false)).map fun r => .reg r (alook T id) else none
    else (lineR P N ops (List.range ops.size)).map fun r => .reg r (alook T id)
  | .rangeFunc f ps asg body => if !inR && ps.all (fun p => decide (p < N)) then (compile P N T true asg).bind fun x => (compile P N T true body).map fun y => .rng f ps.toList x y else none
  | _ => none

/-- Is there a range over a function? -/
def GC.hasRng : GC → Bool
  | .block _ c | .loop c => c.hasRng
  | .seq a b | .cond _ a b => a.hasRng || b.hasRng
  | .rng .. => true
  | _ => false

def mark (D : Nat) : Deferred := { target := .collected D, args := #[] }

/-- Where the walk stands: the frame, the marks that the ranges over functions have left, the world. -/
def Cur (y : Option Nat) (N : Nat) (w0 : World) (m : Bool) (e : Env) (a : Act) (w : World) : Prop :=
  Holds N e a ∧ (∃ ds : List Nat, a.defers = ds.map mark ∧ ds.Pairwise (· > ·) ∧ (∀ D ∈ ds, w0.heap.size ≤ D ∧ w.heap[D]? = some (.deferred (some []))) ∧ (m = false → ds = [])) ∧ Like y w0 w

def PostW (y : Option Nat) (N : Nat) (w0 : World) (m : Bool) (Q : Post) : Exit → Act → World → Prop := fun x a w =>
  ∃ gx e, x = GX.exit' gx ∧ Cur y N w0 m e a w ∧ Q gx e w.heap

theorem Cur.to {y : Option Nat} {N : Nat} {w0 w w' : World} {m : Bool} {e e' : Env} {a a' : Act} (h : Cur y N w0 m e a w) (hh : Holds N e' a') (hd : a'.defers = a.defers) (hl : Like y w w') : Cur y N w0 m e' a' w' := by
  obtain ⟨_, ⟨ds, h1, h2, h3, h4⟩, h5⟩ := h
  exact ⟨hh, ⟨ds, hd.trans h1, h2, fun D hD => ⟨(h3 D hD).1, hl.keepD D (h3 D hD).2⟩, h4⟩, h5.trans hl⟩

theorem noDefers_spec {ops : Array Oper} (h : noDefers ops = true) (j : Nat) (o : Oper) (ho : ops[j]? = some o) : (∀ c, o.op ≠ .defer c) ∧ ∀ cs b, o.op ≠ .select cs b := by
  have := Array.all_eq_true_iff_forall_mem.1 h o (Array.mem_of_getElem? ho)
  constructor
  · intro c hc; rw [hc] at this; cases this
  · intro c b hc; rw [hc] at this; cases this

theorem schedule_any {P : Program} {ops : Array Oper} (h : (P.follows .mixedOrders || !Region.departs ops) = true) (t : Nat) : Region.schedule (P.follows .mixedOrders) ops t = Region.linearise .any ops t := by
  unfold Region.schedule
  rw [if_pos h]

theorem region_sound {y : Option Nat} {P : Program} {N n : Nat} {T : List (Nat × List Nat)} {inR : Bool} {id : Nat} {ops : Array Oper} {draw : Bool} {g : GC} (hc : compile P N T inR (.region id ops draw) = some g) {ro : Option Nat} {w0 : World} {m : Bool} {Q : Post} {e : Env} {a : Act} {w : World}
    (hcur : Cur y N w0 m e a w) (hv : vc P y g Q e w.heap) : (Code.region id ops draw).wpIn (fw ro) n P (PostW y N w0 m Q) a w := by
  have fin : ∀ (w1 : World), Like y w w1 → w1.heap = w.heap → ∀ live a' w', After y N w1 a (fun e h => Q .normal (only live e) h) a' w' → PostW y N w0 m Q .normal a' w' := by
    rintro w1 hl1 _ live a' w' ⟨e', hh, hd, hl, hq⟩
    exact ⟨.normal, _, rfl, hcur.to (hh.only live) hd (hl1.trans hl), hq⟩
  unfold compile at hc
  cases draw with
  | false =>
    simp only [Bool.false_eq_true, if_false, Option.map_eq_some_iff] at hc
    obtain ⟨r, hr, rfl⟩ := hc
    exact wpIn_region (line_sound (w0 := w) (a0 := a) (fin w (.refl _ _) rfl _) _ _ _ _ _ hr hv hcur.1 rfl (.refl _ _))
  | true =>
    simp only [if_true] at hc
    split at hc
    · rename_i hcond
      simp only [Bool.and_eq_true] at hcond
      simp only [Option.map_eq_some_iff] at hc
      obtain ⟨r, hr, rfl⟩ := hc
      refine wpIn_region_draw fun t => ?_
      rw [schedule_any hcond.1]
      refine wpAnyIn_sound ops.size t _ a _ ?_
      have hno := noDefers_spec hcond.2
      have hl1 : Like y w { w with drawn := w.drawn + 1 } := like_draw w _
      refine (planO_sound (w0 := { w with drawn := w.drawn + 1 }) (a0 := a) (fin _ hl1 rfl _) (fun j o c ho => (hno j o ho).1 c) (fun j o cs b ho => (hno j o ho).2 cs b) ?_ ?_ _ _ _ _ _ [] _ _ { w with drawn := w.drawn + 1 } hr hv hcur.1 rfl (.refl _ _) (by simp) (by simp)).any
      · rintro c a' w' ⟨gx, _, hx, _⟩; cases gx <;> cases hx
      · rintro a' w' ⟨gx, _, hx, _⟩; cases gx <;> cases hx
    · cases hc

theorem Holds.zipE {N : Nat} : ∀ (ps : List Nat) (vs : List Value) {e : Env} {tmps : Array Value} {ds : List Deferred}, (∀ p ∈ ps, p < N) → Holds N e { tmps, defers := ds } →
    Holds N (Vc.zipE ps vs e) { tmps := (ps.zip vs).foldl (fun t (x : Nat × Value) => t.setIfInBounds x.1 x.2) tmps, defers := ds }
  | [], _, _, _, _, _, h => by simpa [Vc.zipE] using h
  | _ :: _, [], _, _, _, _, h => by simpa [Vc.zipE] using h
  | p :: ps, v :: vs, e, tmps, ds, hp, h => by
    simp only [Vc.zipE, List.zip_cons_cons, List.foldl_cons]
    have h1 := h.put (dst := some p) (fun d hd => by cases hd; exact hp p (by simp)) v
    exact Holds.zipE ps vs (fun q hq => hp q (by simp [hq])) h1

theorem ext_putObj {B l : Nat} {h : Heap} {r : Loop} {x : Obj} (hl : B ≤ l) (hr : h[l]? = some (.loop r)) : Ext B h (h.setIfInBounds l x) :=
  ⟨by simp, fun b y hy hc => by
    by_cases hb : l = b
    · subst hb
      rw [hr] at hy; cases hy
      rcases hc with hc | hc
      · omega
      · cases hc
    · rw [Array.getElem?_setIfInBounds_ne hb]; exact hy⟩

theorem ext_push {B : Nat} {h : Heap} {x : Obj} : Ext B h (h.push x) :=
  ⟨by simp, fun b y hy _ => by
    have := (Array.getElem?_eq_some_iff.1 hy).1
    rw [Array.getElem?_push, if_neg (by omega)]; exact hy⟩

theorem like_setObj {w : World} {l : Nat} {r : Loop} {x : Obj} (hr : w.heap[l]? = some (.loop r)) : Like (some l) w { w with heap := w.heap.setIfInBounds l x } :=
  ⟨rfl, rfl, rfl, by simp, fun D hD => by
    have : l ≠ D := fun e => by subst e; rw [hr] at hD; cases hD
    simp only
    rw [Array.getElem?_setIfInBounds_ne this]; exact hD, fun k r' hk hr' => by
    have : l ≠ k := fun e => hk (by rw [e])
    simp only
    rw [Array.getElem?_setIfInBounds_ne this]; exact hr'⟩

theorem get_setObj {h : Heap} {l : Nat} {x y : Obj} (hr : h[l]? = some x) : (h.setIfInBounds l y)[l]? = some y := by
  have := (Array.getElem?_eq_some_iff.1 hr).1
  simp [this]

theorem run_getLoop' {P : Program} {w : World} {l : Nat} {r : Loop} (hr : w.heap[l]? = some (.loop r)) : (Instr.getLoop l).run P w = .ok r w := by
  simp [Instr.getLoop, getObj, Sem.run, hr]
theorem run_setObj' {P : Program} {w : World} {l : Nat} {r : Loop} {x : Obj} (hr : w.heap[l]? = some (.loop r)) : (setObj l x).run P w = .ok () { w with heap := w.heap.setIfInBounds l x } := by
  simp [setObj, Sem.run, hr]

/-- A scope through which the run goes without a jump to a label. -/
theorem wpIn_scope' {F : Fence} {n : Nat} {P : Program} {c : Code} {Q : Exit → Act → World → Prop} {a : Act} {w : World} (hng : ∀ l a w, ¬ Q (.goto l) a w) (h : c.wpIn F n P Q a w) : (Code.scope c).wpIn F n P Q a w := by
  intro b k cs hro hb hr
  have s1 : step P (lone (b.atR a (.code (.scope c) :: k)) cs w) = .next (lone (b.atR a (.code c :: .inScope c :: k)) cs w) :=
    step_lone_go (by simp [stepG, stepG.exec, Frame.atR])
  have i1 : (lone (b.atR a (.code (.scope c) :: k)) cs w).fenced P F := fenced_calm hb hr rfl
  obtain ⟨e, a₁, w₁, hq, harr⟩ := h b (.inScope c :: k) cs hro hb hr
  have s2 : step P (lone (b.atR a₁ (.inScope c :: k)) cs w₁) = .next (lone (b.atR a₁ k) cs w₁) :=
    step_lone_go (by simp [stepG, stepG.exec, Frame.atR])
  have i2 : (lone (b.atR a₁ (.inScope c :: k)) cs w₁).fenced P F := fenced_calm hb hr rfl
  cases e with
  | normal => exact ⟨.normal, a₁, w₁, hq, .head i1 s1 (StepsIn.trans harr (.one i2 s2))⟩
  | exit id =>
    have hx : ∀ k : List Item, exitTo id (.inScope c :: k) = exitTo id k := fun _ => rfl
    exact ⟨.exit id, a₁, w₁, hq, ⟨fun k' hk => .head i1 s1 (harr.1 k' (by rw [hx]; exact hk)), fun hr hk => let ⟨k₁, h1, h2⟩ := harr.2 hr (by rw [hx]; exact hk); ⟨k₁, h1, .head i1 s1 h2⟩⟩⟩
  | goto l => exact (hng l _ _ hq).elim
  | ret => exact ⟨_, a₁, w₁, hq, .of_steps (.one i1 s1) harr⟩
  | panic ch => exact ⟨_, a₁, w₁, hq, .of_steps (.one i1 s1) harr⟩
  | outgrown => exact ⟨_, a₁, w₁, hq, .of_steps (.one i1 s1) harr⟩

/-- The pending jump. -/
def jumpOf : GX → Option Code
  | .normal => none
  | .ret => some .ret
  | .exit id => some (.exit id)

def goal (P : Program) (N : Nat) (T : List (Nat × List Nat)) (c : Code) : Prop :=
  ∀ (inR : Bool) (g : GC), compile P N T inR c = some g → ∀ (n : Nat) (y ro : Option Nat) (w0 : World) (m : Bool) (Q : Post) (e : Env) (a : Act) (w : World), (g.hasRng = true → m = true ∧ ro = none) → (inR = true ∨ ro = none) →
    Cur y N w0 m e a w → vc P y g Q e w.heap → c.wpIn (fw ro) n P (PostW y N w0 m Q) a w

theorem compile_inR {P : Program} {N : Nat} {T : List (Nat × List Nat)} : ∀ (c : Code) (g : GC), compile P N T true c = some g → g.hasRng = false
  | .skip, _, h => by cases h; rfl
  | .ret, _, h => by cases h; rfl
  | .exit _, _, h => by cases h; rfl
  | .block _ c, _, h => by
    simp only [compile, Option.map_eq_some_iff] at h
    obtain ⟨g, hg, rfl⟩ := h
    exact compile_inR c g hg
  | .loop c, _, h => by
    simp only [compile, Option.map_eq_some_iff] at h
    obtain ⟨g, hg, rfl⟩ := h
    exact compile_inR c g hg
  | .seq a b, _, h => by
    simp only [compile, Option.bind_eq_some_iff, Option.map_eq_some_iff] at h
    obtain ⟨x, hx, y, hy, rfl⟩ := h
    simp [GC.hasRng, compile_inR a x hx, compile_inR b y hy]
  | .cond _ a b, _, h => by
    simp only [compile, Option.bind_eq_some_iff, Option.map_eq_some_iff] at h
    obtain ⟨x, hx, y, hy, rfl⟩ := h
    simp [GC.hasRng, compile_inR a x hx, compile_inR b y hy]
  | .region _ _ _, _, h => by
    unfold compile at h
    (repeat' split at h) <;> first | cases h | (simp only [Option.map_eq_some_iff] at h; obtain ⟨_, _, rfl⟩ := h; rfl)
  | .rangeFunc _ _ _ _, _, h => by
    unfold compile at h
    split at h
    · rename_i hc; simp at hc
    · cases h
  | .scope c, g, h => compile_inR c g h
  | .label _, _, h => by cases h; rfl
  | .goto _, _, h => by cases h
  | .refuse _, _, h => by cases h

theorem vc_sound {P : Program} {N : Nat} {T : List (Nat × List Nat)} : ∀ (c : Code), goal P N T c
  | .skip => by
    intro inR g hc n y ro w0 m Q e a w _ _ hcur hv
    cases hc
    exact wpIn_skip ⟨.normal, e, rfl, hcur, hv⟩
  | .ret => by
    intro inR g hc n y ro w0 m Q e a w _ _ hcur hv
    cases hc
    exact wpIn_ret ⟨.ret, e, rfl, hcur, hv⟩
  | .exit id => by
    intro inR g hc n y ro w0 m Q e a w _ _ hcur hv
    cases hc
    exact wpIn_exit ⟨.exit id, e, rfl, hcur, hv⟩
  | .block id c => by
    intro inR g hc n y ro w0 m Q e a w hm hr hcur hv
    simp only [compile, Option.map_eq_some_iff] at hc
    obtain ⟨g, hg, rfl⟩ := hc
    refine wpIn_block (wpIn_mono (vc_sound c inR g hg n y ro w0 m _ e a w hm hr hcur hv) ?_)
    rintro x a' w' ⟨gx, e', rfl, hcur', hq⟩
    cases gx with
    | normal => exact ⟨.normal, e', rfl, hcur', hq⟩
    | ret => exact ⟨.ret, e', rfl, hcur', hq⟩
    | exit id' =>
      simp only [blockQ] at hq
      simp only [GX.exit', Exit.inBlock]
      split
      · rename_i h; rw [if_pos h] at hq; exact ⟨.normal, e', rfl, hcur', hq⟩
      · rename_i h; rw [if_neg h] at hq; exact ⟨.exit id', e', rfl, hcur', hq⟩
  | .loop c => by
    intro inR g hc n y ro w0 m Q e a w hm hr hcur hv
    simp only [compile, Option.map_eq_some_iff] at hc
    obtain ⟨g, hg, rfl⟩ := hc
    obtain ⟨α, E, I, μ, s0, hle, hI, hround⟩ := hv
    refine wpIn_loop_ghost (fun k a w => ∃ s, μ s = k ∧ Cur y N w0 m (E s) a w ∧ I s w.heap) (μ s0) ⟨s0, rfl, hcur.to (hcur.1.le hle) rfl (.refl _ _), hI⟩ ?_
    rintro k a w ⟨s, rfl, hcur, hI⟩
    refine wpIn_mono (vc_sound c inR g hg n y ro w0 m _ (E s) a w hm hr hcur (hround s _ hI)) ?_
    rintro x a' w' ⟨gx, e', rfl, hcur', hq⟩
    cases gx with
    | normal =>
      obtain ⟨s', hlt, hle', hI'⟩ := hq
      exact ⟨μ s', hlt, s', rfl, hcur'.to (hcur'.1.le hle') rfl (.refl _ _), hI'⟩
    | ret => exact ⟨.ret, e', rfl, hcur', hq⟩
    | exit id => exact ⟨.exit id, e', rfl, hcur', hq⟩
  | .seq p q => by
    intro inR g hc n y ro w0 m Q e a w hm hr hcur hv
    simp only [compile, Option.bind_eq_some_iff, Option.map_eq_some_iff] at hc
    obtain ⟨gx, hx, gy, hy, rfl⟩ := hc
    have hm1 : gx.hasRng = true → m = true ∧ ro = none := fun h => hm (by simp [GC.hasRng, h])
    have hm2 : gy.hasRng = true → m = true ∧ ro = none := fun h => hm (by simp [GC.hasRng, h])
    refine wpIn_seq (wpIn_mono (vc_sound p inR gx hx n y ro w0 m _ e a w hm1 hr hcur hv) ?_)
    rintro z a' w' ⟨gz, e', rfl, hcur', hq⟩
    cases gz with
    | normal => exact vc_sound q inR gy hy n y ro w0 m Q e' a' w' hm2 hr hcur' hq
    | ret => exact ⟨.ret, e', rfl, hcur', hq⟩
    | exit id => exact ⟨.exit id, e', rfl, hcur', hq⟩
  | .cond x u v => by
    intro inR g hc n y ro w0 m Q e a w hm hr hcur hv
    simp only [compile, Option.bind_eq_some_iff, Option.map_eq_some_iff] at hc
    obtain ⟨gu, hu, gv, hv', rfl⟩ := hc
    obtain ⟨t, ht, hif⟩ := withB_elim hv
    have hm1 : gu.hasRng = true → m = true ∧ ro = none := fun h => hm (by simp [GC.hasRng, h])
    have hm2 : gv.hasRng = true → m = true ∧ ro = none := fun h => hm (by simp [GC.hasRng, h])
    refine wpIn_cond_split (hcur.1.ev ht) (fun h => ?_) (fun h => ?_)
    · exact vc_sound u inR gu hu n y ro w0 m Q e a w hm1 hr hcur (hif.1 h)
    · exact vc_sound v inR gv hv' n y ro w0 m Q e a w hm2 hr hcur (hif.2 (by simp [h]))
  | .region id ops draw => by
    intro inR g hc n y ro w0 m Q e a w _ _ hcur hv
    exact region_sound hc hcur hv
  | .rangeFunc f ps asg body => by
    intro inR g hc n y ro w0 m Q e a w hm hr hcur hv
    simp only [compile] at hc
    split at hc
    · rename_i hcond
      simp only [Bool.and_eq_true, Bool.not_eq_true', Array.all_eq_true] at hcond
      simp only [Option.bind_eq_some_iff, Option.map_eq_some_iff] at hc
      obtain ⟨ga, hga, gb, hgb, rfl⟩ := hc
      obtain ⟨rfl, rfl⟩ := hm rfl
      obtain ⟨rfl, hv⟩ := hv
      obtain ⟨fv, hfv, hv⟩ := withV_elim hv
      split at hv
      · rename_i vv gf first lb
        obtain ⟨rfl, xs, C, I, X, hit, hlen, hCs, hIs, hXs, hI0, hC0, hround, hdone, hstop⟩ := hv
        have hpsN : ∀ p ∈ ps.toList, p < N := fun p hp => by
          obtain ⟨i, hi, rfl⟩ := List.mem_iff_getElem.1 hp
          simpa using hcond.2 i (by simpa using hi)
        have hgood := hit.1
        have henter : ∀ (vs : Array Value) (w1 : World), (callFunc gf vs).run P w1 = .ok (.enter gf vs) w1 := by
          intro vs w1
          unfold goodF at hgood
          split at hgood
          · rename_i fn hfn
            simp only [Bool.and_eq_true, bne_iff_ne, ne_eq] at hgood
            have hbn : ¬ fn.body = none := by intro hb; rw [hb] at hgood; exact absurd hgood.2 (by simp)
            simp [callFunc, program, Sem.run, hfn, hgood.1, hbn]
          · cases hgood
        refine wpIn_rangeFunc ?_
        intro fn _
        obtain ⟨rec, hrec⟩ : ∃ rec : LoopState → Option Code → Loop, rec = fun st pe => { state := st, pending := pe, fn, tmps := a.tmps, params := ps, assign := asg, body, defers := w.heap.size } := ⟨_, rfl⟩
        obtain ⟨l, hl⟩ : ∃ l, l = w.heap.size + 1 := ⟨_, rfl⟩
        obtain ⟨w1, hw1⟩ : ∃ w1 : World, w1 = { w with heap := (w.heap.push (.deferred (some []))).push (.loop (rec .ready none)) } := ⟨_, rfl⟩
        have hL1 : w1.heap[l]? = some (.loop (rec .ready none)) := by rw [hw1, hl]; simp only; rw [Array.getElem?_push, if_pos (by simp)]
        have hD1 : w1.heap[w.heap.size]? = some (.deferred (some [])) := by rw [hw1]; simp only; rw [Array.getElem?_push, if_neg (by simp), Array.getElem?_push, if_pos rfl]
        have hext1 : Ext w.heap.size w.heap w1.heap := by rw [hw1]; exact ext_push.trans ext_push
        have hlike1 : Like none w w1 := by
          rw [hw1]
          exact (like_push w (.deferred (some []))).trans (like_push { w with heap := w.heap.push (.deferred (some [])) } (.loop (rec .ready none)))
        refine ⟨l, [mark w.heap.size], w1, { target := .fn (.func gf) lb, args := #[.func (.yield l) #[] #[]] }, w1, gf, #[.func (.yield l) #[] #[]] ++ lb, w1, ?_, ?_, fun _ _ => trivial, ?_, fun hs => by simp [fw] at hs, ?_⟩
        · rw [hw1, hl, hrec]
          show (Instr.enterLoop fn a.tmps ps asg body none).run P w = _
          simp only [Instr.enterLoop, newObj, Sem.run_bind, Sem.run, Result.andThen, Sem.run_pure, Array.size_push]
          rfl
        · simp only [resolve, hcur.1.ev hfv]
          simp [Deferred.ofValue, Act.eval]
        · simp only [invoke]; exact henter _ _
        · refine (callsIn_fw ?_)
          -- the iterator's own contract
          have hcon := hit.2 l (fun i h => I i h ∧ h[l]? = some (.loop (rec .ready none)) ∧ w.heap.size ≤ h.size)
            (fun h => ∃ x, x ≠ GX.normal ∧ X x h ∧ h[l]? = some (.loop (rec .done (jumpOf x))) ∧ w.heap.size ≤ h.size) ?rounds w1.heap ⟨hIs _ _ _ hext1 hI0, hL1, hext1.size⟩ (hCs _ _ hext1 hC0)
          case rounds =>
            rintro i x h hx ⟨hI, hLh, hsz⟩ hC w' rfl
            have hxl : x.length = ps.size := by
              have := hlen x (List.mem_of_getElem? hx); simpa using this
            refine ⟨fn, (ps.zip x.toArray).foldl (fun tmps (t, a) => tmps.setIfInBounds t a) a.tmps, asg, body, ?_, ?_⟩
            · simp only [Instr.yield, Sem.run_bind, run_getLoop' hLh, Result.andThen]
              rw [hrec]
              simp [hxl]
            · -- the round
              have hz : (ps.zip x.toArray).foldl (fun tmps (t, a) => tmps.setIfInBounds t a) a.tmps = (ps.toList.zip x).foldl (fun t (x : Nat × Value) => t.setIfInBounds x.1 x.2) a.tmps := by
                rw [← Array.foldl_toList]; simp
              rw [hz]
              refine roundIn_of_wpIn (F := fw none) trivial ?_
              have hh0 : Holds N (Vc.zipE ps.toList x e) { tmps := (ps.toList.zip x).foldl (fun t (x : Nat × Value) => t.setIfInBounds x.1 x.2) a.tmps, defers := [] } :=
                Holds.zipE _ _ hpsN hcur.1
              have hc0 : Cur none N w' false (Vc.zipE ps.toList x e) { tmps := (ps.toList.zip x).foldl (fun t (x : Nat × Value) => t.setIfInBounds x.1 x.2) a.tmps, defers := [] } w' :=
                ⟨hh0, ⟨[], rfl, .nil, by simp, fun _ => rfl⟩, .refl _ _⟩
              refine wpIn_mono (vc_sound asg true ga hga 0 none (some l) w' false _ _ _ _ (by rw [compile_inR asg ga hga]; simp) (.inl rfl) hc0 (hround i x _ hsz hx hI hC)) ?_
              rintro ex a1 w2 ⟨gx, e1, rfl, hcur1, hq⟩
              cases gx with
              | ret => exact hq.elim
              | exit id => exact hq.elim
              | normal =>
                have hL2 := hcur1.2.2.keepL l _ (by simp) hLh
                have hsz2 : w.heap.size ≤ w2.heap.size := Nat.le_trans hsz hcur1.2.2.size
                obtain ⟨w3, hw3⟩ : ∃ w3 : World, w3 = { w2 with heap := w2.heap.setIfInBounds l (.loop (rec .busy none)) } := ⟨_, rfl⟩
                refine ⟨w3, ?_, ?_⟩
                · simp only [Instr.beginRound, Sem.run_bind, run_getLoop' hL2, Result.andThen, run_setObj' hL2]
                  rw [hw3, hrec]; rfl
                · have hle : w.heap.size ≤ l := by omega
                  have hext2 : Ext w.heap.size w2.heap w3.heap := by rw [hw3]; exact ext_putObj hle hL2
                  have hL3 : w3.heap[l]? = some (.loop (rec .busy none)) := by rw [hw3]; exact get_setObj hL2
                  have hlike2 : Like (some l) w2 w3 := by rw [hw3]; exact like_setObj hL2
                  have hdef : a1.defers = [] := by
                    obtain ⟨_, ⟨ds, h1, _, _, h4⟩, _⟩ := hcur1
                    rw [h1, h4 rfl]; rfl
                  have hc3 : Cur none N w3 false e1 a1 w3 := ⟨hcur1.1, ⟨[], by rw [hdef]; rfl, .nil, by simp, fun _ => rfl⟩, .refl _ _⟩
                  refine wpIn_mono (vc_sound body true gb hgb 0 none (some l) w3 false _ _ _ _ (by rw [compile_inR body gb hgb]; simp) (.inl rfl) hc3 (hq _ hext2)) ?_
                  have hlike03 : Like (some l) w' w3 := hcur1.2.2.any.trans hlike2
                  rintro ex a2 w4 ⟨gx, e2, rfl, hcur2, hq2⟩
                  have hL4 := hcur2.2.2.keepL l _ (by simp) hL3
                  have hsz4 : w.heap.size ≤ w4.heap.size := by
                    have h1 := hcur2.2.2.size
                    have h2 : w3.heap.size = w2.heap.size := by rw [hw3]; simp
                    omega
                  have fin : ∀ (gx : GX) (st : LoopState) (v : Bool), st = (if (jumpOf gx).isNone then .ready else .done) → v = (jumpOf gx).isNone →
                      (Instr.endRound l (jumpOf gx)).run P w4 = .ok (.bool v) { w4 with heap := w4.heap.setIfInBounds l (.loop (rec st (jumpOf gx))) } := by
                    rintro gx st v rfl rfl
                    simp only [Instr.endRound, Sem.run_bind, run_getLoop' hL4, Result.andThen, run_setObj' hL4, Sem.run_pure]
                    rw [hrec]
                  have hlike4 : ∀ o, Like (some l) w' { w4 with heap := w4.heap.setIfInBounds l o } := fun o => (hlike03.trans hcur2.2.2.any).trans (like_setObj hL4)
                  have hext4 : ∀ o, Ext w.heap.size w4.heap (w4.heap.setIfInBounds l o) := fun o => ext_putObj hle hL4
                  cases gx with
                  | normal =>
                    refine ⟨.bool true, _, fin .normal .ready true rfl rfl, .bool true, rfl, .inl ⟨rfl, ⟨hIs _ _ _ (hext4 _) hq2.1, get_setObj hL4, ?_⟩, hCs _ _ (hext4 _) hq2.2⟩, hlike4 _⟩
                    simpa using hsz4
                  | ret =>
                    refine ⟨.bool false, _, fin .ret .done false rfl rfl, .bool false, rfl, .inr ⟨rfl, .ret, by simp, hXs _ _ _ (hext4 _) hq2, get_setObj hL4, ?_⟩, hlike4 _⟩
                    simpa using hsz4
                  | exit id =>
                    refine ⟨.bool false, _, fin (.exit id) .done false rfl rfl, .bool false, rfl, .inr ⟨rfl, .exit id, by simp, hXs _ _ _ (hext4 _) hq2, get_setObj hL4, ?_⟩, hlike4 _⟩
                    simpa using hsz4
          · -- behind it
            refine (hcon.2 w1 rfl).mono ?_
            rintro ee w3 ⟨v, rfl, hres, hlk⟩
            have hD3 := hlk.keepD _ hD1
            obtain ⟨hh, ⟨ds, hd1, hd2, hd3, hd4⟩, hlk0⟩ := hcur
            have hdnew : ∀ (w4 : World), Like (some l) w3 w4 → Cur none N w0 true e { a with defers := [mark w.heap.size] ++ a.defers } w4 ∨ True := fun _ _ => .inr trivial
            have hcur4 : ∀ (o : Obj) (r : Loop), w3.heap[l]? = some (.loop r) → Cur none N w0 true e { a with defers := [mark w.heap.size] ++ a.defers } { w3 with heap := w3.heap.setIfInBounds l o } := by
              intro o r hr3
              have hlk3 := like_setObj (x := o) hr3
              have hnew : ∀ (k : Nat) (rr : Loop), w0.heap[k]? = some (.loop rr) → l ≠ k := fun k rr hk he => by
                have := (Array.getElem?_eq_some_iff.1 hk).1
                have := hlk0.size
                omega
              refine ⟨hh, ⟨w.heap.size :: ds, by simp [hd1], ?_, ?_, by simp⟩, ?_⟩
              · refine List.pairwise_cons.2 ⟨fun D hD => ?_, hd2⟩
                have := (Array.getElem?_eq_some_iff.1 (hd3 D hD).2).1
                exact this
              · intro D hD
                rcases List.mem_cons.1 hD with rfl | hD
                · exact ⟨hlk0.size, hlk3.keepD _ hD3⟩
                · exact ⟨(hd3 D hD).1, hlk3.keepD _ (hlk.keepD _ (hlike1.keepD _ (hd3 D hD).2))⟩
              · have h1 : Like (some l) w0 { w3 with heap := w3.heap.setIfInBounds l o } := (hlk0.any.trans hlike1.any).trans (hlk.trans hlk3)
                exact ⟨h1.os, h1.output, h1.tape, h1.size, h1.keepD, fun k rr _ hk => h1.keepL k rr (fun he => hnew k rr hk (by cases he; rfl)) hk⟩
            rcases hres with ⟨⟨hI, hL3, hsz3⟩, hC⟩ | ⟨x, hx, hX, hL3, hsz3⟩
            · refine ⟨none, { w3 with heap := w3.heap.setIfInBounds l (.loop { rec .ready none with state := .exhausted }) }, ?_, ?_⟩
              · simp only [Instr.endLoop, Sem.run_bind, run_getLoop' hL3, Result.andThen]
                rw [hrec]
                simp [run_setObj' hL3]
              · have hext3 := ext_putObj (B := w.heap.size) (x := .loop { rec .ready none with state := .exhausted }) (show w.heap.size ≤ l by omega) hL3
                exact ⟨.normal, e, rfl, hcur4 _ _ hL3, hdone _ (by simpa using hsz3) (hIs _ _ _ hext3 hI) (hCs _ _ hext3 hC)⟩
            · have hext3 := ext_putObj (B := w.heap.size) (x := .loop { rec .done (jumpOf x) with state := .exhausted }) (show w.heap.size ≤ l by omega) hL3
              have hq := hstop x _ (by simpa using hsz3) (hXs _ _ _ hext3 hX)
              refine ⟨jumpOf x, { w3 with heap := w3.heap.setIfInBounds l (.loop { rec .done (jumpOf x) with state := .exhausted }) }, ?_, ?_⟩
              · simp only [Instr.endLoop, Sem.run_bind, run_getLoop' hL3, Result.andThen]
                rw [hrec]
                simp [run_setObj' hL3]
              · cases x with
                | normal => exact absurd rfl hx
                | ret => exact wpIn_ret ⟨.ret, e, rfl, hcur4 _ _ hL3, hq.2⟩
                | exit id => exact wpIn_exit ⟨.exit id, e, rfl, hcur4 _ _ hL3, hq.2⟩
      · exact hv.elim
    · cases hc
  | .scope c => by
    intro inR g hc n y ro w0 m Q e a w hm hr hcur hv
    exact wpIn_scope' (fun l a w ⟨gx, _, hx, _⟩ => by cases gx <;> cases hx) (vc_sound c inR g hc n y ro w0 m Q e a w hm hr hcur hv)
  | .label _ => by
    intro inR g hc n y ro w0 m Q e a w _ _ hcur hv
    cases hc
    exact wpIn_label ⟨.normal, e, rfl, hcur, hv⟩
  | .goto _ => by intro inR g hc; cases hc
  | .refuse _ => by intro inR g hc; cases hc
end Go.Vc
namespace Go.Vc
open Go

/-! ### A function's contract out of its body's weakest precondition -/
inductive RV where
  | tmp (t : Nat)
  | cell (t : Nat) (agg : Option Nat)

def compileRes (P : Program) : List ResultVar → Option (List RV)
  | [] => some []
  | .tmp t :: l => (compileRes P l).map (.tmp t :: ·)
  | .cell t ty :: l => (aggT P ty).bind fun ag => (compileRes P l).map (.cell t ag :: ·)

def withRes (e : Env) (h : Heap) : List RV → (List Value → Prop) → Prop
  | [], K => K []
  | .tmp t :: l, K => withV (find e t) fun v => withRes e h l fun vs => K (v :: vs)
  | .cell t none :: l, K => withP (find e t) fun b o => withV (hcell h b o) fun v => withRes e h l fun vs => K (v :: vs)
  | .cell t (some n) :: l, K => withP (find e t) fun b o => withC h b o n fun cs => withRes e h l fun vs => K (.agg cs.toArray :: vs)

def retV : List Value → Value
  | [v] => v
  | vs => .tuple vs.toArray

def retQ (rs : List RV) (R : Value → Heap → Prop) : Post
  | .normal, e, h => withRes e h rs fun vs => R (retV vs) h
  | .ret, e, h => withRes e h rs fun vs => R (retV vs) h
  | .exit _, _, _ => False

theorem retQ_normal (rs : List RV) (R : Value → Heap → Prop) (e : Env) (h : Heap) : retQ rs R .normal e h = withRes e h rs fun vs => R (retV vs) h := (rfl)
theorem retQ_ret (rs : List RV) (R : Value → Heap → Prop) (e : Env) (h : Heap) : retQ rs R .ret e h = withRes e h rs fun vs => R (retV vs) h := (rfl)

def argsE : Nat → List Value → Env
  | _, [] => []
  | k, v :: vs => (k, v) :: argsE (k + 1) vs

theorem find_argsE : ∀ (vs : List Value) (k t : Nat) (v : Value), find (argsE k vs) t = some v → k ≤ t ∧ vs[t - k]? = some v
  | [], _, _, _, h => by simp [argsE, find] at h
  | u :: vs, k, t, v, h => by
    simp only [argsE, find] at h
    split at h
    · rename_i hk; subst hk; cases h; simp
    · rename_i hk
      obtain ⟨h1, h2⟩ := find_argsE vs (k + 1) t v h
      refine ⟨by omega, ?_⟩
      rw [show t - k = (t - (k + 1)) + 1 from by omega]
      simpa using h2

theorem holds_args {N : Nat} (args : Array Value) (hN : args.size ≤ N) : Holds N (argsE 0 args.toList) { tmps := args ++ Array.replicate (N - args.size) undef, defers := [] } := by
  refine ⟨by simp; omega, fun t v h => ?_⟩
  obtain ⟨_, h⟩ := find_argsE _ _ _ _ h
  simp only [Nat.sub_zero, Array.getElem?_toList] at h
  have hlt := (Array.getElem?_eq_some_iff.1 h).1
  have : (args ++ Array.replicate (N - args.size) undef)[t]? = some v := by rw [Array.getElem?_append_left hlt]; exact h
  simp [this]

theorem ext_cell {B : Nat} {h h' : Heap} (hx : Ext B h h') {b o : Nat} {v : Value} (hc : hcell h b o = some v) : hcell h' b o = some v := by
  unfold hcell at *
  split at hc
  · rename_i c t f hb
    rw [hx.old b _ hb (.inr rfl)]
    exact hc
  · cases hc

def resOne (tmps : Array Value) : ResultVar → Sem Value
  | .tmp t => pure (tmps.getD t undef)
  | .cell a t => do loadVar t (← asAddr (tmps.getD a undef))

theorem withRes_run {P : Program} {N : Nat} {e : Env} {a : Act} (hh : Holds N e a) {h : Heap} : ∀ (l : List ResultVar) (rs : List RV) (K : List Value → Prop), compileRes P l = some rs → withRes e h rs K →
    ∃ vs, K vs ∧ ∀ (w : World), (∀ b o v, hcell h b o = some v → hcell w.heap b o = some v) →
      (l.mapM (resOne a.tmps)).run P w = .ok vs w
  | [], rs, K, hc, hk => by
    cases hc
    exact ⟨[], hk, fun w _ => rfl⟩
  | .tmp t :: l, rs, K, hc, hk => by
    simp only [compileRes, Option.map_eq_some_iff] at hc
    obtain ⟨rs', hc, rfl⟩ := hc
    obtain ⟨v, hv, hk⟩ := withV_elim hk
    obtain ⟨vs, hk, hrun⟩ := withRes_run hh l rs' _ hc hk
    refine ⟨v :: vs, hk, fun w hw => ?_⟩
    have := hrun w hw
    simp only [List.mapM_cons, Sem.run_bind, resOne, Sem.run_pure, Result.andThen, hh.2 t v hv, this]
  | .cell t ty :: l, rs, K, hc, hk => by
    simp only [compileRes, Option.bind_eq_some_iff, Option.map_eq_some_iff] at hc
    obtain ⟨ag, hag, rs', hc, rfl⟩ := hc
    cases ag with
    | none =>
      obtain ⟨b, o, hx, hk⟩ := withP_elim hk
      obtain ⟨v, hv, hk⟩ := withV_elim hk
      obtain ⟨vs, hk, hrun⟩ := withRes_run hh l rs' _ hc hk
      refine ⟨v :: vs, hk, fun w hw => ?_⟩
      have := hrun w hw
      have hcell : w.cell? ⟨b, o, none⟩ = some v := by rw [cell?_heap]; exact hw b o v hv
      have hl : (loadVar ty ⟨b, o, none⟩).run P w = .ok v w := by simp [loadVar, run_isAggT (aggT_none hag), hcell]
      have ha : (asAddr (a.tmps.getD t undef)).run P w = .ok ⟨b, o, none⟩ w := by rw [hh.2 t _ hx]; rfl
      simp only [List.mapM_cons, Sem.run_bind, resOne, Sem.run_pure, Result.andThen, ha, hl, this]
    | some n =>
      obtain ⟨b, o, hx, hk⟩ := withP_elim hk
      obtain ⟨cs, hn, hcs, hk⟩ := withC_elim hk
      obtain ⟨vs, hk, hrun⟩ := withRes_run hh l rs' _ hc hk
      refine ⟨.agg cs.toArray :: vs, hk, fun w hw => ?_⟩
      have := hrun w hw
      have h1 := run_loadCells_vs (P := P) (w := w) (b := b) (o := o) (vs := cs) (fun j v hj => by rw [cell?_heap]; exact hw b (o + j) v (hcs j v hj))
      rw [hn] at h1
      have hl : (loadVar ty ⟨b, o, none⟩).run P w = .ok (.agg cs.toArray) w := by simp [loadVar, run_isAggT (aggT_some hag).1, run_sizeT (aggT_some hag).2, h1]
      have ha : (asAddr (a.tmps.getD t undef)).run P w = .ok ⟨b, o, none⟩ w := by rw [hh.2 t _ hx]; rfl
      simp only [List.mapM_cons, Sem.run_bind, resOne, Sem.run_pure, Result.andThen, ha, hl, this]

theorem results_run {P : Program} {fn : Func} {tmps : Array Value} {vs : List Value} {w : World} (h : (fn.results.toList.mapM (resOne tmps)).run P w = .ok vs w) :
    (results fn tmps).run P w = .ok (retV vs) w := by
  have hu : results fn tmps = (fn.results.mapM (resOne tmps) >>= fun vs => pure (if h : vs.size = 1 then vs[0] else .tuple vs)) := by
    unfold results
    congr 1
  rw [hu, Sem.run_bind, Array.mapM_eq_mapM_toList, Sem.run_map, h]
  simp only [Result.andThen, Sem.run_pure]
  congr 1
  match vs with
  | [] => rfl
  | [v] => rfl
  | _ :: _ :: _ => simp [retV]

/-- The marks are taken, the results read. -/
theorem leaves_marks {P : Program} {fn : Func} {tmps : Array Value} {n : Nat} {R : Ending → World → Prop} {B : Nat} : ∀ (ds : List Nat) (w : World), ds.Pairwise (· > ·) → (∀ D ∈ ds, B ≤ D ∧ w.heap[D]? = some (.deferred (some []))) →
    (∀ w', Ext B w.heap w'.heap → w'.heap.size = w.heap.size → w'.os = w.os → w'.output = w.output → w'.tape = w.tape → (∀ (l : Nat) (r : Loop), w.heap[l]? = some (Obj.loop r) → w'.heap[l]? = some (Obj.loop r)) → (∀ D : Nat, D < B → w'.heap[D]? = w.heap[D]?) → ∃ v, (results fn tmps).run P w' = .ok v w' ∧ R (.returned v) w') →
    LeavesInM Fence.wide n P fn tmps R (ds.map mark) .returning w
  | [], w, _, _, h => h w (.refl _ _) rfl rfl rfl rfl (fun _ _ h => h) (fun _ _ => rfl)
  | D :: ds, w, hp, hd, h => by
    obtain ⟨hp1, hp2⟩ := List.pairwise_cons.1 hp
    have hD := hd D (by simp)
    have hne : ∀ k, k ≠ D → (w.heap.setIfInBounds D (.deferred none))[k]? = w.heap[k]? := fun k hk => Array.getElem?_setIfInBounds_ne (Ne.symm hk)
    refine ⟨by simp, .inl ⟨D, { w with heap := w.heap.setIfInBounds D (.deferred none) }, rfl, ?_, ?_⟩⟩
    · simp [Instr.takeDeferred, Sem.run_bind, getObj, setObj, Sem.run, hD.2, Result.andThen]
    · refine leaves_marks ds _ hp2 (fun D' hD' => ⟨(hd D' (by simp [hD'])).1, ?_⟩) ?_
      · have := hp1 D' hD'
        simp only
        rw [hne D' (by omega)]; exact (hd D' (by simp [hD'])).2
      · intro w' hx hs ho hu ht hl hB
        refine h w' (Ext.trans ⟨by simp, fun b x hb hc => ?_⟩ hx) (by rw [hs]; simp) ho hu ht (fun l r hr => hl l r ?_) (fun k hk => ?_)
        · by_cases hbD : b = D
          · subst hbD
            rw [hD.2] at hb; cases hb
            rcases hc with hc | hc
            · have := hD.1; omega
            · cases hc
          · rw [hne b hbD]; exact hb
        · simp only
          rw [hne l (fun e => by subst e; rw [hD.2] at hr; cases hr)]; exact hr
        · rw [hB k hk]; simp only
          have := hD.1
          rw [hne k (by omega)]

/-- **A FUNCTION's CONTRACT.** The post must not hang on the book-keeping of ranges over functions. -/
theorem con_of_vc {P : Program} {y : Option Nat} {f : FuncId} {fn : Func} {c : Code} {T : List (Nat × List Nat)} {g : GC} {rs : List RV} {args : Array Value} {h : Heap} {R : Value → Heap → Prop}
    (hf : P.funcs[f]? = some fn) (hb : fn.body = some c) (hg : goodF P f = true) (hc : compile P fn.ntmps T false c = some g) (hr : compileRes P fn.results.toList = some rs) (hN : args.size ≤ fn.ntmps)
    (hR : g.hasRng = true → ∀ v h1 h2, Ext h.size h1 h2 → R v h1 → R v h2) (hv : vc P y g (retQ rs R) (argsE 0 args.toList) h) : ConX y P f args h R := by
  refine ⟨hg, ?_⟩
  rintro w rfl
  refine (callsIn_wide (n := 0)).1 (callsIn_of_wp_marks hf hb trivial ?_)
  have hcur : Cur y fn.ntmps w g.hasRng (argsE 0 args.toList) { tmps := args ++ Array.replicate (fn.ntmps - args.size) undef, defers := [] } w :=
    ⟨holds_args args hN, ⟨[], rfl, .nil, by simp, fun _ => rfl⟩, .refl _ _⟩
  refine wpIn_mono (vc_sound c false g hc 0 y none w g.hasRng _ _ _ _ (fun h => ⟨h, rfl⟩) (.inr rfl) hcur hv) ?_
  rintro x a' w' ⟨gx, e, rfl, ⟨hh, ⟨ds, hd1, hd2, hd3, hd4⟩, hlk⟩, hq⟩
  have fin : (withRes e w'.heap rs fun vs => R (retV vs) w'.heap) → LeavesInM Fence.wide 0 P fn a'.tmps (fun e w' => ∃ v, e = .returned v ∧ R v w'.heap ∧ Like y w w') a'.defers .returning w' := by
    intro hq
    obtain ⟨vs, hk, hrun⟩ := withRes_run (P := P) hh _ _ _ hr hq
    rw [hd1]
    cases hrng : g.hasRng with
    | false =>
      rw [hd4 hrng]
      exact ⟨retV vs, results_run (hrun w' (fun b o v hcell => hcell)), retV vs, rfl, hk, hlk⟩
    | true =>
      refine leaves_marks (B := w.heap.size) ds w' hd2 hd3 ?_
      intro w'' hx hs ho hu ht hl hB
      refine ⟨retV vs, results_run (hrun w'' (fun b o v hcell => ext_cell hx hcell)), retV vs, rfl, hR hrng _ _ _ hx hk, ?_⟩
      exact ⟨ho.trans hlk.os, hu.trans hlk.output, ht.trans hlk.tape, by rw [hs]; exact hlk.size, fun D hD => by rw [hB D ((Array.getElem?_eq_some_iff.1 hD).1)]; exact hlk.keepD D hD, fun l r hy hl' => hl l r (hlk.keepL l r hy hl')⟩
  cases gx with
  | normal => exact fin hq
  | ret => exact fin hq
  | exit id => exact hq.elim
/-- A function compiled: its body and where its results lie. -/
def compileF (P : Program) (fn : Func) (T : List (Nat × List Nat)) : Option (GC × List RV) :=
  if fn.name != "runtime.NumGoroutine" then
    match fn.body with
    | some c => (compile P fn.ntmps T false c).bind fun g => (compileRes P fn.results.toList).map fun rs => (g, rs)
    | none => none
  else none

theorem con_of {P : Program} {y : Option Nat} {f : FuncId} {fn : Func} {T : List (Nat × List Nat)} {g : GC} {rs : List RV} {args : Array Value} {h : Heap} {R : Value → Heap → Prop}
    (hf : P.funcs[f]? = some fn) (hc : compileF P fn T = some (g, rs)) (hN : Nat.ble args.size fn.ntmps = true)
    (hR : g.hasRng = true → ∀ v h1 h2, Ext h.size h1 h2 → R v h1 → R v h2) (hv : vc P y g (retQ rs R) (argsE 0 args.toList) h) : ConX y P f args h R := by
  unfold compileF at hc
  split at hc
  · rename_i hn
    split at hc
    · rename_i c hb
      simp only [Option.bind_eq_some_iff, Option.map_eq_some_iff, Prod.mk.injEq] at hc
      obtain ⟨g', hg, rs', hr, rfl, rfl⟩ := hc
      exact con_of_vc hf hb (by unfold goodF; rw [hf]; simp [hb]; simpa using hn) hg hr (Nat.le_of_ble_eq_true hN) hR hv
    · cases hc
  · cases hc
/-! ### Short forms -/
abbrev OP (i d : Nat) (g : GOp) (r : GR) : GR := .op ⟨i, some d, none, g, [], false⟩ r
abbrev OW (i d : Nat) (g : GOp) (r : GR) : GR := .op ⟨i, some d, none, g, [], true⟩ r
abbrev OS (i : Nat) (g : GOp) (r : GR) : GR := .op ⟨i, none, none, g, [], false⟩ r
abbrev OG (i d s : Nat) (b : Bool) (g : GOp) (r : GR) : GR := .op ⟨i, some d, some (s, b), g, [], false⟩ r
end Go.Vc
