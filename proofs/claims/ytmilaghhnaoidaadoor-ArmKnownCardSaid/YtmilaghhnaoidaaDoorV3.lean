/-
  A calculus of weakest preconditions over the compiled code of the functions that the law reaches, and its soundness. No condition.
-/
import Derived.Test.YtmilaghhnaoidaaDoorV2
set_option linter.all false
set_option maxRecDepth 2000
namespace Go.Vc
open Go

/-- The frame is reckoned, ahead of what follows. -/
def force (e : Env) (K : Env → Prop) (_ : Dep K := .mk) : Prop := K e
theorem force_nil (K : Env → Prop) (d : Dep K) : force [] K d = K [] := (rfl)
theorem force_cons (p : Nat × Value) (e : Env) (K : Env → Prop) (d : Dep K) : force (p :: e) K d = K (p :: e) := (rfl)

/-! ### The walk's rules -/
section
variable {P : Program} {y : Option Nat} {e : Env} {h : Heap} {Q : Post}
theorem w_skip : vc P y .skip Q e h = Q .normal e h := (rfl)
theorem w_ret : vc P y .ret Q e h = Q .ret e h := (rfl)
theorem w_exit (id : Nat) : vc P y (.exit id) Q e h = Q (.exit id) e h := (rfl)
theorem w_block (id : Nat) (c : GC) : vc P y (.block id c) Q e h = vc P y c (blockQ id Q) e h := (rfl)
theorem w_seq (a b : GC) : vc P y (.seq a b) Q e h = vc P y a (thenQ (vc P y b Q) Q) e h := (rfl)
theorem w_cond (x : Operand) (a b : GC) : vc P y (.cond x a b) Q e h = withB (ev e x) fun t => If (t = true) (vc P y a Q e h) (vc P y b Q e h) := (rfl)
theorem w_reg (r : GR) (live : List Nat) : vc P y (.reg r live) Q e h = rvc P y r [] e h fun e h => force (only live e) fun e => Q .normal e h := (rfl)
theorem w_loop (c : GC) : vc P y (.loop c) Q e h = loopVC (vc P y c) Q e h := (rfl)
theorem w_rng (f : Operand) (ps : List Nat) (asg body : GC) : vc P y (.rng f ps asg body) Q e h = Chk (y = none) (rngVC P (vc P y asg) (vc P y body) ps (ev e f) Q e h) := (rfl)

variable {K : Env → Heap → Prop} {W : Watch}
theorem r_done : rvc P y .done W e h K = K e h := (rfl)
theorem r_op (i : Nat) (d : Option Nat) (g : GOp) (l : List Nat) (r : GR) : rvc P y (.op ⟨i, d, none, g, l, false⟩ r) W e h K =
    gvc P y g e h fun v h' => chkW l W h' (rvc P y r W (eput e d v) h' K) := (rfl)
theorem r_opl (i : Nat) (d : Option Nat) (g : GOp) (l : List Nat) (r : GR) : rvc P y (.op ⟨i, d, none, g, l, true⟩ r) W e h K =
    gvc P y g e h fun v h' => chkW l W h' (rvc P y r ((i, reads g e v) :: W) (eput e d v) h' K) := (rfl)
theorem r_opg (i : Nat) (d : Option Nat) (s : Nat) (want : Bool) (g : GOp) (l : List Nat) (r : GR) : rvc P y (.op ⟨i, d, some (s, want), g, l, false⟩ r) W e h K =
    withG (find e s) want (gvc P y g e h fun v h' => chkW l W h' (rvc P y r W (eput e d v) h' K)) (rvc P y r W (eput e d undef) h K) := (rfl)
theorem r_opgl (i : Nat) (d : Option Nat) (s : Nat) (want : Bool) (g : GOp) (l : List Nat) (r : GR) : rvc P y (.op ⟨i, d, some (s, want), g, l, true⟩ r) W e h K =
    withG (find e s) want (gvc P y g e h fun v h' => chkW l W h' (rvc P y r ((i, reads g e v) :: W) (eput e d v) h' K)) (rvc P y r W (eput e d undef) h K) := (rfl)
theorem r_two (a b : GR) : rvc P y (.two a b) W e h K = (rvc P y a W e h K ∧ rvc P y b W e h K) := (rfl)

theorem r_free (D : List Nat) (l : List FI) (r : GR) : rvc P y (.free D l r) W e h K = freeVC P y D l e h fun e' h' => rvc P y r W e' h' K := (rfl)
theorem mn_nil (k : Nat) : memN k [] = false := (rfl)
theorem mn_cons (k d : Nat) (D : List Nat) : memN k (d :: D) = if k = d then true else memN k D := (rfl)
theorem dr_nil (D : List Nat) : drp D [] = [] := (rfl)
theorem dr_cons (D : List Nat) (k : Nat) (v : Value) : drp D ((k, v) :: e) = if memN k D = true then drp D e else (k, v) :: drp D e := (rfl)
theorem tl_nil (i : Nat) (V : Nat → Out) : tells [] i V h = True := (rfl)
theorem tl_cons (A : Tells) (k i : Nat) (ds : List Nat) (p : Tell) (V : Nat → Out) : tells ((k, ds, p) :: A) i V h = (if k = i then p (ds.map V) h else tells A i V h) := (rfl)
theorem uv_eq (V : Nat → Out) (i : Nat) (v : Out) (k : Nat) : updV V i v k = if k = i then v else V k := (rfl)
theorem map_n (V : Nat → Out) : List.map V [] = [] := (rfl)
theorem map_c (V : Nat → Out) (k : Nat) (l : List Nat) : List.map V (k :: l) = V k :: List.map V l := (rfl)
theorem wp_nil (A : Tells) (V : Nat → Out) (F : Env → Prop) (d : Dep F) : withPre A V h [] e F d = F e := (rfl)
theorem wp_cons (A : Tells) (V : Nat → Out) (j s : Nat) (l : List (Nat × Nat)) (F : Env → Prop) (d : Dep F) : withPre A V h ((j, s) :: l) e F d = (tells A j V h → withPre A V h l ((s, (V j).1) :: e) F d) := (rfl)
theorem fo_nil (A : Tells) (D : List Nat) : freeOps P y A D h e [] = True := (rfl)
theorem fo_cons (A : Tells) (D : List Nat) (i : Nat) (dst : Option Nat) (g : GOp) (c : List Nat) (b : Bool) (pre : List (Nat × Nat)) (l : List FI) : freeOps P y A D h e (⟨⟨i, dst, none, g, c, b⟩, pre⟩ :: l) =
    ((∀ h1, Fr 0 0 h h1 → ∀ V, withPre A V h1 pre (drp D e) fun e => gvc P y g e h1 fun v h' => Fr 0 0 h1 h' ∧ tells A i (updV V i (v, h1.size, h'.size)) h') ∧ freeOps P y A D h e l) := (rfl)
theorem fo_consg (A : Tells) (D : List Nat) (i s : Nat) (want : Bool) (dst : Option Nat) (g : GOp) (c : List Nat) (b : Bool) (pre : List (Nat × Nat)) (l : List FI) : freeOps P y A D h e (⟨⟨i, dst, some (s, want), g, c, b⟩, pre⟩ :: l) =
    ((∀ h1, Fr 0 0 h h1 → ∀ V, withPre A V h1 pre (drp D e) fun e => withG (find e s) want (gvc P y g e h1 fun v h' => Fr 0 0 h1 h' ∧ tells A i (updV V i (v, h1.size, h'.size)) h') (tells A i (updV V i (undef, h1.size, h1.size)) h1)) ∧ freeOps P y A D h e l) := (rfl)
theorem fe_nil (A : Tells) (V : Nat → Out) (F : Env → Prop) : freeEnd A V h [] e F = F e := (rfl)
theorem fe_cons (A : Tells) (V : Nat → Out) (i d : Nat) (gd : Option (Nat × Bool)) (g : GOp) (c : List Nat) (b : Bool) (pre : List (Nat × Nat)) (l : List FI) (F : Env → Prop) : freeEnd A V h (⟨⟨i, some d, gd, g, c, b⟩, pre⟩ :: l) e F = (tells A i V h → freeEnd A V h l ((d, (V i).1) :: e) F) := (rfl)
theorem fe_consn (A : Tells) (V : Nat → Out) (i : Nat) (gd : Option (Nat × Bool)) (g : GOp) (c : List Nat) (b : Bool) (pre : List (Nat × Nat)) (l : List FI) (F : Env → Prop) : freeEnd A V h (⟨⟨i, none, gd, g, c, b⟩, pre⟩ :: l) e F = (tells A i V h → freeEnd A V h l e F) := (rfl)

theorem c_nil (A : Prop) : chkW [] W h A = A := (rfl)
theorem c_cons (j : Nat) (l : List Nat) (A : Prop) : chkW (j :: l) W h A = Chk (allAt (wfind W j) h) (chkW l W h A) := (rfl)
theorem a_nil : allAt [] h = True := (rfl)
theorem a_cons (b o : Nat) (v : Value) (rs : List (Nat × Nat × Value)) : allAt ((b, o, v) :: rs) h = (hcell h b o = some v ∧ allAt rs h) := (rfl)

theorem e_put (d : Nat) (v : Value) : eput e (some d) v = (d, v) :: e := (rfl)
theorem e_none (v : Value) : eput e none v = e := (rfl)
theorem f_cons (k t : Nat) (v : Value) : find ((k, v) :: e) t = if k = t then some v else find e t := (rfl)
theorem f_nil (t : Nat) : find [] t = none := (rfl)
theorem o_nil : only [] e = [] := (rfl)
theorem o_cons (t : Nat) (l : List Nat) : only (t :: l) e = consO (find e t) t (only l e) := (rfl)
theorem o_some (t : Nat) (v : Value) : consO (some v) t e = (t, v) :: e := (rfl)
theorem o_none (t : Nat) : consO none t e = e := (rfl)
theorem ev_tmp (t : Nat) : ev e (.tmp t) = find e t := (rfl)
theorem ev_const (v : Value) : ev e (.const v) = some v := (rfl)
theorem ev_global (g : Nat) : ev e (.global g) = some (.pointer (some ⟨g, 0, none⟩)) := (rfl)
theorem ev_func (f : Nat) : ev e (.func f) = some (.func (.func f) #[] #[]) := (rfl)
theorem l_nil (K : List Value → Prop) : withL e [] K = K [] := (rfl)
theorem l_cons (x : Operand) (l : List Operand) (K : List Value → Prop) : withL e (x :: l) K = withV (ev e x) fun v => withL e l fun vs => K (v :: vs) := (rfl)
theorem ar_nil (k : Nat) : argsE k [] = [] := (rfl)
theorem ar_cons (k : Nat) (v : Value) (vs : List Value) : argsE k (v :: vs) = (k, v) :: argsE (k + 1) vs := (rfl)

variable {G : Value → Heap → Prop}
theorem g_mv (x : Operand) : gvc P y (.mv x) e h G = withV (ev e x) fun v => G v h := (rfl)
theorem g_pick (c a b : Operand) : gvc P y (.pick c a b) e h G = withB (ev e c) fun t => If (t = true) (withV (ev e a) fun v => G v h) (withV (ev e b) fun v => G v h) := (rfl)
theorem g_bin (op : BinOp) (a b : Operand) : gvc P y (.bin op a b) e h G = withI (ev e a) fun k n => withI (ev e b) fun k' m => Chk (k = k') (binI op k n m fun v => G v h) := (rfl)
theorem g_shl (a b : Operand) : gvc P y (.shift .shl a b) e h G = withI (ev e a) fun k n => withI (ev e b) fun _ m => Chk (0 ≤ m) (G (.int k (k.wrap (n * 2 ^ (min m.toNat k.bits)))) h) := (rfl)
theorem g_shr (a b : Operand) : gvc P y (.shift .shr a b) e h G = withI (ev e a) fun k n => withI (ev e b) fun _ m => Chk (0 ≤ m) (G (.int k (n.fdiv (2 ^ (min m.toNat k.bits)))) h) := (rfl)
theorem g_eqBool (ng : Bool) (a b : Operand) : gvc P y (.eqBool ng a b) e h G = withB (ev e a) fun p => withB (ev e b) fun q => G (.bool (if ng then p != q else p == q)) h := (rfl)
theorem g_eqNil (sl ng : Bool) (a b : Operand) : gvc P y (.eqNil sl ng a b) e h G = withV (ev e a) fun p => withV (ev e b) fun q => eqNilV sl p q fun r => G (.bool (if ng then !r else r)) h := (rfl)
theorem g_eqStruct (ng : Bool) (offs : List Nat) (a b : Operand) : gvc P y (.eqStruct ng offs a b) e h G = withA (ev e a) fun xs => withA (ev e b) fun ys => eqCells offs xs ys fun r => G (.bool (if ng then !r else r)) h := (rfl)
theorem g_not (x : Operand) : gvc P y (.not x) e h G = withB (ev e x) fun b => G (.bool !b) h := (rfl)
theorem g_neg (x : Operand) : gvc P y (.neg x) e h G = withI (ev e x) fun k n => G (.int k (k.wrap (0 - n))) h := (rfl)
theorem g_conv (k : IntKind) (x : Operand) : gvc P y (.conv k x) e h G = withI (ev e x) fun _ n => G (.int k (k.wrap n)) h := (rfl)
theorem g_nilCheck (x : Operand) : gvc P y (.nilCheck x) e h G = withP (ev e x) fun b o => G (.pointer (some ⟨b, o, none⟩)) h := (rfl)
theorem g_fieldAddr (off : Nat) (x : Operand) : gvc P y (.fieldAddr off x) e h G = withP (ev e x) fun b o => G (.pointer (some ⟨b, o + off, none⟩)) h := (rfl)
theorem g_field0 (off : Nat) (x : Operand) : gvc P y (.field none off x) e h G = withA (ev e x) fun cs => withV cs[off]? fun v => G v h := (rfl)
theorem g_fieldn (n off : Nat) (x : Operand) : gvc P y (.field (some n) off x) e h G = withA (ev e x) fun cs => G (.agg (cs.extract off (off + n))) h := (rfl)
theorem g_indexAddr (size : Nat) (x i : Operand) : gvc P y (.indexAddr size x i) e h G = withS (ev e x) fun a n _ => withI (ev e i) fun _ i => Chk (0 ≤ i ∧ i < (n : Int))
      (withAd a fun b o => G (.pointer (some ⟨b, o + i.toNat * size, none⟩)) h) := (rfl)
theorem g_indexArr (size len : Nat) (x i : Operand) : gvc P y (.indexArr size len x i) e h G = withP (ev e x) fun b o => withI (ev e i) fun _ i => Chk (0 ≤ i ∧ i < (len : Int)) (G (.pointer (some ⟨b, o + i.toNat * size, none⟩)) h) := (rfl)
theorem g_extract (i : Nat) (x : Operand) : gvc P y (.extract i x) e h G = withT (ev e x) fun cs => withV cs[i]? fun v => G v h := (rfl)
theorem g_makeFunc (fn : Fn) (first captured : List Operand) : gvc P y (.makeFunc fn first captured) e h G = withL e first fun vs => withL e captured fun us => G (.func fn vs.toArray us.toArray) h := (rfl)
theorem g_len (x : Operand) : gvc P y (.len x) e h G = withS (ev e x) fun _ n _ => G (.int .i64 n) h := (rfl)
theorem g_maxi (a b : Operand) : gvc P y (.maxi a b) e h G = withI (ev e a) fun k n => withI (ev e b) fun _ m => G (.int k (if m > n then m else n)) h := (rfl)
theorem g_mini (a b : Operand) : gvc P y (.mini a b) e h G = withI (ev e a) fun k n => withI (ev e b) fun _ m => G (.int k (if m < n then m else n)) h := (rfl)
theorem g_slice (size : Nat) (x : Operand) (lo hi : Option Operand) : gvc P y (.slice size x lo hi) e h G = withS (ev e x) fun a n c => withLo e hi n fun hh => Chk (hh ≤ c) (withLo e lo 0 fun l => Chk (l ≤ hh)
      (G (.slice (if c = l then a else a.map (·.add (l * size))) (hh - l) (c - l)) h)) := (rfl)
theorem lo_none (d : Nat) (K : Nat → Prop) : withLo e none d K = K d := (rfl)
theorem lo_some (x : Operand) (d : Nat) (K : Nat → Prop) : withLo e (some x) d K = withI (ev e x) fun _ i => Chk (0 ≤ i) (K i.toNat) := (rfl)
theorem g_build (zero : List Value) (parts : List (Nat × Nat × Operand)) : gvc P y (.build zero parts) e h G = withParts e parts zero fun cs => G (.agg cs.toArray) h := (rfl)
theorem p_nil (cs : List Value) (K : List Value → Prop) : withParts e [] cs K = K cs := (rfl)
theorem p_cons (off size : Nat) (x : Operand) (ps : List (Nat × Nat × Operand)) (cs : List Value) (K : List Value → Prop) : withParts e ((off, size, x) :: ps) cs K =
  withV (ev e x) fun v => Chk ((cl v).length = size ∧ off + size ≤ cs.length) (withParts e ps (putAt cs off (cl v)) K) := (rfl)
theorem g_load0 (x : Operand) : gvc P y (.load none x) e h G = withP (ev e x) fun b o => withV (hcell h b o) fun v => G v h := (rfl)
theorem g_loadn (n : Nat) (x : Operand) : gvc P y (.load (some n) x) e h G = withP (ev e x) fun b o => withC h b o n fun vs => G (.agg vs.toArray) h := (rfl)
theorem k_zero (b o : Nat) (K : List Value → Prop) : withC h b o 0 K = K [] := (rfl)
theorem k_succ (b o n : Nat) (K : List Value → Prop) : withC h b o (n + 1) K = withV (hcell h b o) fun v => withC h b (o + 1) n fun vs => K (v :: vs) := (rfl)
theorem k_1 (b o : Nat) (K : List Value → Prop) : withC h b o 1 K = withV (hcell h b o) fun v => K [v] := (rfl)
theorem k_2 (b o : Nat) (K : List Value → Prop) : withC h b o 2 K = withV (hcell h b o) fun v => withV (hcell h b (o + 1)) fun u => K [v, u] := (rfl)
theorem g_alloc (el : TypeId) (zero : List Value) : gvc P y (.alloc el zero) e h G = newB h zero fun b h' => G (.pointer (some ⟨b, 0, none⟩)) h' := (rfl)
theorem g_box (el : TypeId) (x : Operand) : gvc P y (.box el x) e h G = withV (ev e x) fun v => newB h (cl v) fun b h' => G (.pointer (some ⟨b, 0, none⟩)) h' := (rfl)
theorem g_buildSlice (el : TypeId) (len : Nat) (zero : List Value) (parts : List (Nat × Nat × Operand)) : gvc P y (.buildSlice el len zero parts) e h G = withParts e parts zero fun cs => newB h cs fun b h' => G (.slice (some ⟨b, 0, none⟩) len len) h' := (rfl)
theorem g_makeSlice (el : TypeId) (size bytes : Nat) (zero : List Value) (l c : Operand) : gvc P y (.makeSlice el size bytes zero l c) e h G = withI (ev e l) fun _ l => withI (ev e c) fun _ c => Chk (0 ≤ l ∧ l ≤ c ∧ c ≤ 9223372036854775807 ∧ bytes * c ≤ 281474976710656)
      (newB h (zeros zero c.toNat) fun b h' => G (.slice (some ⟨b, 0, none⟩) l.toNat c.toNat) h') := (rfl)
theorem g_store (n : Nat) (x v : Operand) : gvc P y (.store n x v) e h G = withP (ev e x) fun b o => withV (ev e v) fun v => Chk ((cl v).length = n ∧ (cl v).all Value.oneCell' = true) (Chk (Wr h b o n) (stoB h b o (cl v) fun h' => G undef h')) := (rfl)
theorem g_append (el : TypeId) (size bytes : Nat) (zero : List Value) (s x : Operand) : gvc P y (.append el size bytes zero s x) e h G = withS (ev e s) fun a n c => withS (ev e x) fun a' m _ =>
      If (m = 0) (appB size bytes zero h a n c [] m G) (withAd a' fun b' o' => withC h b' o' (m * size) fun new => Chk (new.all Value.oneCell' = true) (appB size bytes zero h a n c new m G)) := (rfl)
theorem g_call (f : FuncId) (args : List Operand) : gvc P y (.call f args) e h G = withL e args fun vs => callB P f vs.toArray h G := (rfl)
theorem g_callv (x : Operand) (args : List Operand) : gvc P y (.callv x args) e h G = withV (ev e x) fun v => withL e args fun vs =>
      (match v with
       | .func (.func f) first captured => callB P f (first ++ vs.toArray ++ captured) h G
       | .func (.yield l) first _ => Chk (y = some l) (yldB P l (first ++ vs.toArray) h G)
       | _ => False) := (rfl)
theorem g_makeMap : gvc P y .makeMap e h G = newO h (mapObj []) fun r h' => G (.map (some r)) h' := (rfl)
theorem g_lookup1 (zero : Value) (x i : Operand) : gvc P y (.lookup true zero x i) e h G = withMp (ev e x) fun r => withI (ev e i) fun k n => Chk (k = .i64) (withMap h r fun m => G (.tuple #[mget zero m n, .bool (mhas m n)]) h) := (rfl)
theorem g_lookup0 (zero : Value) (x i : Operand) : gvc P y (.lookup false zero x i) e h G = withMp (ev e x) fun r => withI (ev e i) fun k n => Chk (k = .i64) (withMap h r fun m => G (mget zero m n) h) := (rfl)
theorem g_mapSet (x k v : Operand) : gvc P y (.mapSet x k v) e h G = withMp (ev e x) fun r => withI (ev e k) fun kd n => withV (ev e v) fun v => Chk (kd = .i64) (withMap h r fun m => stoO h r (mapObj (mput m n v)) fun h' => G undef h') := (rfl)
theorem g_mapEntry (zero : Value) (x k : Operand) : gvc P y (.mapEntry zero x k) e h G = withMp (ev e x) fun r => withI (ev e k) fun kd n => Chk (kd = .i64) (slotB h r zero n G) := (rfl)
theorem g_entryStore (x s v : Operand) : gvc P y (.entryStore x s v) e h G = withMp (ev e x) fun r => withI (ev e s) fun kd i => withV (ev e v) fun v => Chk (kd = .i64) (withMap h r fun m => Chk (0 ≤ i ∧ i < (m.length : Int) ∧ i ≤ 9223372036854775807) (stoO h r (mapObj (mset m i.toNat v)) fun h' => G undef h')) := (rfl)
theorem g_mrange (x : Operand) : gvc P y (.mrange x) e h G = withMp (ev e x) fun r => withMap h r fun m => newO h (iterObj r m.length []) fun b h' => G (.pointer (some ⟨b, 0, none⟩)) h' := (rfl)
theorem g_mnext (x : Operand) : gvc P y (.mnext x) e h G = withP (ev e x) fun b o => Chk (o = 0) (nextB h b G) := (rfl)
theorem g_mentry (x : Operand) : gvc P y (.mentry x) e h G = withP (ev e x) fun b o => Chk (o = 0) (entryB h b fun v => G v h) := (rfl)

variable {V : Value → Prop}
theorem b_add (k : IntKind) (a b : Int) : binI .add k a b V = V (.int k (k.wrap (a + b))) := (rfl)
theorem b_sub (k : IntKind) (a b : Int) : binI .sub k a b V = V (.int k (k.wrap (a - b))) := (rfl)
theorem b_mul (k : IntKind) (a b : Int) : binI .mul k a b V = V (.int k (k.wrap (a * b))) := (rfl)
theorem b_quo (k : IntKind) (a b : Int) : binI .quo k a b V = Chk (b ≠ 0) (V (.int k (k.wrap (a.tdiv b)))) := (rfl)
theorem b_rem (k : IntKind) (a b : Int) : binI .rem k a b V = Chk (b ≠ 0) (V (.int k (a.tmod b))) := (rfl)
theorem b_and (k : IntKind) (a b : Int) : binI .and k a b V = V (.int k (k.wrap (BitVec.ofInt k.bits a &&& BitVec.ofInt k.bits b).toNat)) := (rfl)
theorem b_or (k : IntKind) (a b : Int) : binI .or k a b V = V (.int k (k.wrap (BitVec.ofInt k.bits a ||| BitVec.ofInt k.bits b).toNat)) := (rfl)
theorem b_xor (k : IntKind) (a b : Int) : binI .xor k a b V = V (.int k (k.wrap (BitVec.ofInt k.bits a ^^^ BitVec.ofInt k.bits b).toNat)) := (rfl)
theorem b_eql (k : IntKind) (a b : Int) : binI .eql k a b V = V (.bool (a == b)) := (rfl)
theorem b_neq (k : IntKind) (a b : Int) : binI .neq k a b V = V (.bool (a != b)) := (rfl)
theorem b_lss (k : IntKind) (a b : Int) : binI .lss k a b V = V (.bool (decide (a < b))) := (rfl)
theorem b_leq (k : IntKind) (a b : Int) : binI .leq k a b V = V (.bool (decide (a ≤ b))) := (rfl)
theorem b_gtr (k : IntKind) (a b : Int) : binI .gtr k a b V = V (.bool (decide (a > b))) := (rfl)
theorem b_geq (k : IntKind) (a b : Int) : binI .geq k a b V = V (.bool (decide (a ≥ b))) := (rfl)
end

attribute [go_sem ↓] w_skip w_ret w_exit w_block w_seq w_cond w_reg w_loop w_rng r_done r_op r_opl r_opg r_opgl r_free c_nil c_cons e_put e_none l_nil l_cons g_mv g_pick g_bin g_shl g_shr g_eqBool g_eqNil g_eqStruct g_not g_neg g_conv g_nilCheck g_fieldAddr g_field0 g_fieldn g_indexAddr g_indexArr g_extract g_makeFunc g_len g_maxi g_mini g_slice lo_none lo_some g_build p_nil p_cons g_load0 g_loadn g_alloc g_box g_buildSlice g_makeSlice g_store g_append g_call g_callv g_makeMap g_lookup1 g_lookup0 g_mapSet g_mapEntry g_entryStore g_mrange g_mnext g_mentry b_add b_sub b_mul b_quo b_rem b_and b_or b_xor b_eql b_neq b_lss b_leq b_gtr b_geq thenQ_normal thenQ_ret thenQ_exit blockQ_normal blockQ_ret blockQ_exit retQ_normal retQ_ret
attribute [go_sem] tell1_eq uv_eq map_n map_c mn_nil mn_cons dr_nil dr_cons tl_nil tl_cons wp_nil wp_cons fo_nil fo_cons fo_consg fe_nil fe_cons fe_consn
attribute [go_sem] force_nil force_cons a_nil a_cons f_cons f_nil o_nil o_cons o_some o_none ev_tmp ev_const ev_global ev_func ar_nil ar_cons k_zero k_1 k_2 withV_some withI_some withB_some withP_some withS_some withA_some withT_some withG_bool withG_undef withG_tuple Chk_true If_true If_false
attribute [go_sem] List.getElem?_cons_zero List.getElem?_cons_succ Int.toNat_natCast List.getElem?_toArray Nat.mul_one Bool.not_true Bool.not_false decide_true decide_false beq_self_eq_true bne_self_eq_false eq_self not_true_eq_false not_false_eq_true Bool.false_eq_true
attribute [go_sem ↓] reduceIte
attribute [go_sem] reduceCtorEq Nat.reduceEqDiff Nat.reduceAdd Nat.reduceLeDiff Nat.reduceMul Int.reduceBEq Int.reduceBNe Int.reduceLT Int.reduceLE Int.reduceGT Int.reduceGE
end Go.Vc
/-
  The weakest precondition is monotone; joints.
-/
namespace Go.Vc
open Go

section
theorem withV_mono {x : Option Value} {K K' : Value → Prop} {d : Dep K} {d' : Dep K'} (hk : ∀ v, K v → K' v) (h : withV x K d) : withV x K' d' := by
  unfold withV at *; split at h <;> simp_all
theorem withI_mono {x : Option Value} {K K' : IntKind → Int → Prop} {d : Dep K} {d' : Dep K'} (hk : ∀ k n, K k n → K' k n) (h : withI x K d) : withI x K' d' := by
  unfold withI at *; split at h <;> simp_all
theorem withB_mono {x : Option Value} {K K' : Bool → Prop} {d : Dep K} {d' : Dep K'} (hk : ∀ b, K b → K' b) (h : withB x K d) : withB x K' d' := by
  unfold withB at *; split at h
  · exact hk _ h
  · exact h.elim
theorem withP_mono {x : Option Value} {K K' : Nat → Nat → Prop} {d : Dep K} {d' : Dep K'} (hk : ∀ b o, K b o → K' b o) (h : withP x K d) : withP x K' d' := by
  unfold withP at *; split at h <;> simp_all
theorem withS_mono {x : Option Value} {K K' : Option Addr → Nat → Nat → Prop} {d : Dep K} {d' : Dep K'} (hk : ∀ a n c, K a n c → K' a n c) (h : withS x K d) : withS x K' d' := by
  unfold withS at *; split at h <;> simp_all
theorem withA_mono {x : Option Value} {K K' : Array Value → Prop} {d : Dep K} {d' : Dep K'} (hk : ∀ v, K v → K' v) (h : withA x K d) : withA x K' d' := by
  unfold withA at *; split at h <;> simp_all
theorem withT_mono {x : Option Value} {K K' : Array Value → Prop} {d : Dep K} {d' : Dep K'} (hk : ∀ v, K v → K' v) (h : withT x K d) : withT x K' d' := by
  unfold withT at *; split at h <;> simp_all
theorem withAd_mono {x : Option Addr} {K K' : Nat → Nat → Prop} {d : Dep K} {d' : Dep K'} (hk : ∀ b o, K b o → K' b o) (h : withAd x K d) : withAd x K' d' := by
  unfold withAd at *; split at h <;> simp_all
theorem withMp_mono {x : Option Value} {K K' : Nat → Prop} {d : Dep K} {d' : Dep K'} (hk : ∀ v, K v → K' v) (h : withMp x K d) : withMp x K' d' := by
  unfold withMp at *; split at h <;> simp_all
theorem withMap_mono {h : Heap} {r : Nat} {K K' : List (Int × Value) → Prop} {d : Dep K} {d' : Dep K'} (hk : ∀ v, K v → K' v) (hw : withMap h r K d) : withMap h r K' d' := by
  obtain ⟨m, hm, h1⟩ := hw; exact ⟨m, hm, hk _ h1⟩
theorem withL_mono {e : Env} {l : List Operand} {K K' : List Value → Prop} (hk : ∀ v, K v → K' v) (h : withL e l K) : withL e l K' := by
  induction l generalizing K K' with
  | nil => exact hk _ h
  | cons x l ih => exact withV_mono (fun v h => ih (fun vs h => hk _ h) h) h
theorem withC_mono {hp : Heap} {b : Nat} {n o : Nat} {K K' : List Value → Prop} (hk : ∀ v, K v → K' v) (h : withC hp b o n K) : withC hp b o n K' := by
  induction n generalizing o K K' with
  | zero => exact hk _ h
  | succ n ih => exact withV_mono (fun v h => ih (fun vs h => hk _ h) h) h
theorem withLo_mono {e : Env} {x : Option Operand} {d : Nat} {K K' : Nat → Prop} (hk : ∀ v, K v → K' v) (h : withLo e x d K) : withLo e x d K' := by
  unfold withLo at *
  split at h
  · exact hk _ h
  · exact withI_mono (fun k n h => ⟨h.1, hk _ h.2⟩) h
theorem Chk_mono {c K K' : Prop} {d : Dep K} {d' : Dep K'} (hk : K → K') (h : Chk c K d) : Chk c K' d' := ⟨h.1, hk h.2⟩
theorem If_mono {c A B A' B' : Prop} {d : Dep A} {d' : Dep B} {d2 : Dep A'} {d2' : Dep B'} (ha : A → A') (hb : B → B') (h : If c A B d d') : If c A' B' d2 d2' := ⟨fun hc => ha (h.1 hc), fun hc => hb (h.2 hc)⟩
theorem eqCells_mono {os : List Nat} {xs ys : Array Value} {K K' : Bool → Prop} (hk : ∀ v, K v → K' v) (h : eqCells os xs ys K) : eqCells os xs ys K' := by
  induction os generalizing K K' with
  | nil => exact hk _ h
  | cons o os ih => exact withI_mono (fun k n h => withI_mono (fun k' m h => ⟨h.1, ih (fun b h => hk _ h) h.2⟩) h) h
theorem binI_mono {op : BinOp} {k : IntKind} {a b : Int} {K K' : Value → Prop} (hk : ∀ v, K v → K' v) (h : binI op k a b K) : binI op k a b K' := by
  unfold binI at *
  split at h <;> first | exact hk _ h | exact ⟨h.1, hk _ h.2⟩ | exact h.elim
theorem eqNilV_mono {s : Bool} {a b : Value} {K K' : Bool → Prop} (hk : ∀ v, K v → K' v) (h : eqNilV s a b K) : eqNilV s a b K' := by
  unfold eqNilV at *
  split at h <;> first | exact hk _ h | exact h.elim

theorem qvc_mono {g : GOp} {e : Env} {h : Heap} {K K' : Value → Prop} (hk : ∀ v, K v → K' v) (hq : qvc g e h K) : qvc g e h K' := by
  unfold qvc at *
  split at hq
  · exact withV_mono hk hq
  · exact withB_mono (fun t hq => If_mono (withV_mono hk) (withV_mono hk) hq) hq
  · exact withI_mono (fun _ _ hq => withI_mono (fun _ _ hq => Chk_mono (binI_mono hk) hq) hq) hq
  · refine withI_mono (fun _ _ hq => withI_mono (fun _ _ hq => Chk_mono (fun hq => ?_) hq) hq) hq
    split at hq
    · exact hk _ hq
    · exact hk _ hq
    · exact hq.elim
  · exact withB_mono (fun _ hq => withB_mono (fun _ hq => hk _ hq) hq) hq
  · exact withV_mono (fun _ hq => withV_mono (fun _ hq => eqNilV_mono (fun _ hq => hk _ hq) hq) hq) hq
  · exact withA_mono (fun _ hq => withA_mono (fun _ hq => eqCells_mono (fun _ hq => hk _ hq) hq) hq) hq
  · exact withB_mono (fun _ hq => hk _ hq) hq
  · exact withI_mono (fun _ _ hq => hk _ hq) hq
  · exact withI_mono (fun _ _ hq => hk _ hq) hq
  · exact withI_mono (fun _ _ hq => hk _ hq) hq
  · exact withP_mono (fun _ _ hq => hk _ hq) hq
  · exact withP_mono (fun _ _ hq => hk _ hq) hq
  · exact withA_mono (fun _ hq => withV_mono hk hq) hq
  · exact withA_mono (fun _ hq => hk _ hq) hq
  · exact withS_mono (fun _ _ _ hq => withI_mono (fun _ _ hq => Chk_mono (withAd_mono fun _ _ hq => hk _ hq) hq) hq) hq
  · exact withP_mono (fun _ _ hq => withI_mono (fun _ _ hq => Chk_mono (hk _) hq) hq) hq
  · exact withT_mono (fun _ hq => withV_mono hk hq) hq
  · exact withL_mono (fun _ hq => withL_mono (fun _ hq => hk _ hq) hq) hq
  · exact withS_mono (fun _ _ _ hq => hk _ hq) hq
  · exact withI_mono (fun _ _ hq => withI_mono (fun _ _ hq => hk _ hq) hq) hq
  · exact withI_mono (fun _ _ hq => withI_mono (fun _ _ hq => hk _ hq) hq) hq
  · exact withS_mono (fun _ _ _ hq => withLo_mono (fun _ hq => Chk_mono (withLo_mono fun _ hq => Chk_mono (hk _) hq) hq) hq) hq
  · exact withParts_mono (fun _ hq => hk _ hq) hq
  · exact withP_mono (fun _ _ hq => withV_mono hk hq) hq
  · exact withP_mono (fun _ _ hq => withC_mono (fun _ hq => hk _ hq) hq) hq
  · exact hq.elim

theorem appB_mono {size bytes : Nat} {zero : List Value} {h : Heap} {a : Option Addr} {n c : Nat} {new : List Value} {m : Nat} {K K' : Value → Heap → Prop} {d : Dep K} {d' : Dep K'} (hk : ∀ v h, K v h → K' v h)
    (hq : appB size bytes zero h a n c new m K d) : appB size bytes zero h a n c new m K' d' := by
  refine ⟨fun hf => ?_, fun hf => ?_⟩
  · have := hq.1 hf
    split at this
    · exact ⟨this.1, fun h' s => hk _ _ (this.2 h' s)⟩
    · exact ⟨this.1, hk _ _ this.2⟩
    · exact this.elim
  · obtain ⟨h1, old, h2, h3⟩ := hq.2 hf
    exact ⟨h1, old, h2, fun c' b' h' hc n => hk _ _ (h3 c' b' h' hc n)⟩

theorem gvc_mono {P : Program} {y : Option Nat} {g : GOp} {e : Env} {h : Heap} {K K' : Value → Heap → Prop} (hk : ∀ v h, K v h → K' v h) (hq : gvc P y g e h K) : gvc P y g e h K' := by
  unfold gvc at *
  split at hq
  · exact fun b h' n => hk _ _ (hq b h' n)
  · exact withV_mono (fun _ hq b h' n => hk _ _ (hq b h' n)) hq
  · exact withParts_mono (fun _ hq b h' n => hk _ _ (hq b h' n)) hq
  · exact withI_mono (fun _ _ hq => withI_mono (fun _ _ hq => Chk_mono (fun hq b h' n => hk _ _ (hq b h' n)) hq) hq) hq
  · exact withP_mono (fun _ _ hq => withV_mono (fun _ hq => Chk_mono (fun hq => Chk_mono (fun hq h' s => hk _ _ (hq h' s)) hq) hq) hq) hq
  · exact withS_mono (fun _ _ _ hq => withS_mono (fun _ _ _ hq => If_mono (appB_mono hk) (withAd_mono fun _ _ hq => withC_mono (fun _ hq => Chk_mono (appB_mono hk) hq) hq) hq) hq) hq
  · exact withL_mono (fun _ hq => ConX.mono hq hk) hq
  · refine withV_mono (fun _ hq => withL_mono (fun _ hq => ?_) hq) hq
    split at hq
    · exact ConX.mono hq hk
    · exact Chk_mono (fun hq => Yld.mono hq hk) hq
    · exact hq.elim
  · exact fun b h' n => hk _ _ (hq b h' n)
  · exact withMp_mono (fun _ hq => withI_mono (fun _ _ hq => Chk_mono (withMap_mono fun _ hq => hk _ _ hq) hq) hq) hq
  · exact withMp_mono (fun _ hq => withI_mono (fun _ _ hq => withV_mono (fun _ hq => Chk_mono (withMap_mono fun _ hq h' s => hk _ _ (hq h' s)) hq) hq) hq) hq
  · exact withMp_mono (fun _ hq => withI_mono (fun _ _ hq => Chk_mono (fun hq => by
      obtain ⟨m, hm, h1, h2⟩ := hq
      exact ⟨m, hm, fun i v hf => hk _ _ (h1 i v hf), fun hf h' s => hk _ _ (h2 hf h' s)⟩) hq) hq) hq
  · exact withMp_mono (fun _ hq => withI_mono (fun _ _ hq => withV_mono (fun _ hq => Chk_mono (withMap_mono fun _ hq => Chk_mono (fun hq h' s => hk _ _ (hq h' s)) hq) hq) hq) hq) hq
  · exact withMp_mono (fun _ hq => withMap_mono (fun _ hq b h' n => hk _ _ (hq b h' n)) hq) hq
  · exact withP_mono (fun _ _ hq => Chk_mono (fun hq => by
      obtain ⟨r, m, seen, hb, hm, h1, h2⟩ := hq
      exact ⟨r, m, seen, hb, hm, fun i k v hi hn h' s => hk _ _ (h1 i k v hi hn h' s), fun ha => hk _ _ (h2 ha)⟩) hq) hq
  · exact withP_mono (fun _ _ hq => Chk_mono (fun hq => by
      obtain ⟨r, m, seen, i, k, v, hb, hm, hi, h1⟩ := hq
      exact ⟨r, m, seen, i, k, v, hb, hm, hi, hk _ _ h1⟩) hq) hq
  · exact qvc_mono (fun _ hq => hk _ _ hq) hq

theorem chkW_mono {l : List Nat} {W : Watch} {h : Heap} {K K' : Prop} (hk : K → K') (hq : chkW l W h K) : chkW l W h K' := by
  induction l with
  | nil => exact hk hq
  | cons j l ih => exact ⟨hq.1, ih hq.2⟩
theorem withG_mono {x : Option Value} {w : Bool} {A B A' B' : Prop} {d : Dep A} {d' : Dep B} {d2 : Dep A'} {d2' : Dep B'} (ha : A → A') (hb : B → B') (h : withG x w A B d d') : withG x w A' B' d2 d2' := by
  unfold withG at *
  split at h
  · exact If_mono ha hb h
  · exact hb h
  · exact h.elim
theorem rvc_mono {P : Program} {y : Option Nat} {r : GR} {W : Watch} {e : Env} {h : Heap} {K K' : Env → Heap → Prop} (hk : ∀ e h, K e h → K' e h) (hq : rvc P y r W e h K) : rvc P y r W e h K' := by
  induction r generalizing W e h with
  | done => exact hk _ _ hq
  | op i r ih =>
    have base : gvc P y i.op e h (fun v h' => chkW i.chk W h' (rvc P y r (addW i W e v) (eput e i.dst v) h' K)) → gvc P y i.op e h (fun v h' => chkW i.chk W h' (rvc P y r (addW i W e v) (eput e i.dst v) h' K')) :=
      fun hq => gvc_mono (fun v h' hq => chkW_mono ih hq) hq
    show guarded _ _ _ _
    have hq : guarded _ _ _ _ := hq
    unfold guarded at *
    split at hq
    · exact base hq
    · exact withG_mono base ih hq
  | two a b iha ihb => exact ⟨iha hq.1, ihb hq.2⟩
  | free D l r ih =>
    obtain ⟨A, h1, h2, h3, h4⟩ := hq
    exact ⟨A, h1, h2, h3, fun h' f V s => freeEnd_mono (fun e hq => ih hq) (h4 h' f V s)⟩

/-- **MONOTONE.** -/
theorem vc_mono {P : Program} {y : Option Nat} {c : GC} {Q Q' : Post} {e : Env} {h : Heap} (hQ : ∀ x e h, Q x e h → Q' x e h) (hv : vc P y c Q e h) : vc P y c Q' e h := by
  induction c generalizing Q Q' e h with
  | skip => exact hQ _ _ _ hv
  | ret => exact hQ _ _ _ hv
  | exit id => exact hQ _ _ _ hv
  | block id c ih =>
    refine ih (Q := blockQ id Q) (Q' := blockQ id Q') (fun x e h hq => ?_) hv
    cases x with
    | normal => exact hQ _ _ _ hq
    | ret => exact hQ _ _ _ hq
    | exit j => simp only [blockQ] at *; split <;> rename_i hj <;> simp only [hj, if_true, if_false] at hq <;> exact hQ _ _ _ hq
  | loop c ih =>
    obtain ⟨α, E, I, μ, s, h1, h2, h3⟩ := hv
    refine ⟨α, E, I, μ, s, h1, h2, fun s h hi => ih (fun x e h hq => ?_) (h3 s h hi)⟩
    cases x with
    | normal => exact hq
    | ret => exact hQ _ _ _ hq
    | exit j => exact hQ _ _ _ hq
  | seq a b iha ihb =>
    refine iha (Q := thenQ (vc P y b Q) Q) (fun x e h hq => ?_) hv
    cases x with
    | normal => exact ihb hQ hq
    | ret => exact hQ _ _ _ hq
    | exit j => exact hQ _ _ _ hq
  | cond x a b iha ihb => exact withB_mono (fun t hq => If_mono (iha hQ) (ihb hQ) hq) hv
  | reg r live => exact rvc_mono (fun e h hq => hQ _ _ _ hq) hv
  | rng f ps asg body iha ihb =>
    refine Chk_mono (fun hv => withV_mono (fun v hv => ?_) hv) hv
    split at hv
    · refine Chk_mono (fun hv => ?_) hv
      obtain ⟨xs, C, I, X, h1, h2, h3, h4, h5, h6, h7, h8, h9, h10⟩ := hv
      exact ⟨xs, C, I, X, h1, h2, h3, h4, h5, h6, h7, h8, fun h' a b c => hQ _ _ _ (h9 h' a b c), fun x h' a b => ⟨(h10 x h' a b).1, hQ _ _ _ (h10 x h' a b).2⟩⟩
    · exact hv.elim

/-- **A JOINT**: what holds between two pieces is named. -/
theorem w_joint {P : Program} {y : Option Nat} {a b : GC} {Q : Post} {e : Env} {h : Heap} (J : Env → Heap → Prop) (h1 : vc P y a (thenQ J Q) e h) (h2 : ∀ e h, J e h → vc P y b Q e h) : vc P y (.seq a b) Q e h :=
  vc_mono (c := a) (Q := thenQ J Q) (Q' := thenQ (vc P y b Q) Q) (fun x e h hq => by
    cases x with
    | normal => exact h2 _ _ hq
    | ret => exact hq
    | exit j => exact hq) h1
/-- A joint whose frame is told. -/
theorem w_jointE {P : Program} {y : Option Nat} {a b : GC} {Q : Post} {e : Env} {h : Heap} {α : Type} (E : α → Env) (I : α → Heap → Prop) (h1 : vc P y a (thenQ (fun e h => ∃ s, e = E s ∧ I s h) Q) e h) (h2 : ∀ s h, I s h → vc P y b Q (E s) h) : vc P y (.seq a b) Q e h :=
  w_joint _ h1 fun _ _ ⟨s, he, hi⟩ => he ▸ h2 s _ hi
theorem If_joint {P : Program} {y : Option Nat} {c : Prop} {a b : GC} {Q : Post} {K : Env → Heap → Prop} {e e' : Env} {h h' : Heap} {d : Dep (vc P y a (thenQ K Q) e h)} {d' : Dep (vc P y b (thenQ K Q) e' h')} {α : Type} (E : α → Env) (I : α → Heap → Prop)
    (h1 : c → vc P y a (thenQ (fun e h => ∃ s, Le (E s) e ∧ I s h) Q) e h) (h1' : ¬ c → vc P y b (thenQ (fun e h => ∃ s, Le (E s) e ∧ I s h) Q) e' h') (h2 : ∀ s h, I s h → ∀ e, Le (E s) e → K e h) : If c (vc P y a (thenQ K Q) e h) (vc P y b (thenQ K Q) e' h') d d' :=
  have hm : ∀ x e h, thenQ (fun e h => ∃ s, Le (E s) e ∧ I s h) Q x e h → thenQ K Q x e h := fun x e h hq => by
    cases x with
    | normal => obtain ⟨s, hl, hi⟩ := hq; exact h2 _ _ hi _ hl
    | ret => exact hq
    | exit j => exact hq
  ⟨fun hc => vc_mono hm (h1 hc), fun hc => vc_mono hm (h1' hc)⟩
theorem free_intro {P : Program} {y : Option Nat} {D : List Nat} {l : List FI} {e : Env} {h : Heap} {K : Env → Heap → Prop} {d : Dep K} (A : Tells) (h1 : StabL A) (h2 : namesOk A l = true) (h3 : freeOps P y A D h e l) (h4 : ∀ h', Fr 0 0 h h' → ∀ V, Sep V h.size h'.size l → freeEnd A V h' l (drp D e) fun e' => K e' h') : freeVC P y D l e h K d := ⟨A, h1, h2, h3, h4⟩
theorem Chk_intro {c K : Prop} {d : Dep K} (h1 : c) (h2 : K) : Chk c K d := ⟨h1, h2⟩
theorem Chk_that {c K : Prop} {d : Dep K} (h1 : c) (h2 : c → K) : Chk c K d := ⟨h1, h2 h1⟩
theorem loop_intro {body : Post → Env → Heap → Prop} {Q : Post} {e : Env} {h : Heap} {α : Type} (E : α → Env) (I : α → Heap → Prop) (μ : α → Nat) (s : α) (h1 : Le (E s) e) (h2 : I s h)
    (h3 : ∀ s h, I s h → body (thenQ (fun e' h' => ∃ s', μ s' < μ s ∧ Le (E s') e' ∧ I s' h') Q) (E s) h) : loopVC body Q e h := ⟨α, E, I, μ, s, h1, h2, h3⟩
end
end Go.Vc
namespace Go.Vc
open Go
theorem cl_int (k : IntKind) (n : Int) : cl (.int k n) = [.int k n] := (rfl)
theorem cl_bool (b : Bool) : cl (.bool b) = [.bool b] := (rfl)
theorem cl_slice (a : Option Addr) (n c : Nat) : cl (.slice a n c) = [.slice a n c] := (rfl)
theorem cl_map (a : Option Nat) : cl (.map a) = [.map a] := (rfl)
theorem oc_map (a : Option Nat) : (Value.map a).oneCell' = true := (rfl)
theorem cl_ptr (a : Option Addr) : cl (.pointer a) = [.pointer a] := (rfl)
theorem cl_func (f : Fn) (a b : Array Value) : cl (.func f a b) = [.func f a b] := (rfl)
theorem cl_agg (cs : List Value) : cl (.agg cs.toArray) = cs := (rfl)
theorem cl_agg' (cs : Array Value) : cl (.agg cs) = cs.toList := (rfl)
theorem oc_int (k : IntKind) (n : Int) : (Value.int k n).oneCell' = true := (rfl)
theorem oc_bool (b : Bool) : (Value.bool b).oneCell' = true := (rfl)
theorem oc_slice (a : Option Addr) (n c : Nat) : (Value.slice a n c).oneCell' = true := (rfl)
theorem oc_ptr (a : Option Addr) : (Value.pointer a).oneCell' = true := (rfl)
theorem oc_func (f : Fn) (a b : Array Value) : (Value.func f a b).oneCell' = true := (rfl)
theorem putAt_nil (l : List Value) (o : Nat) : putAt l o [] = l := (rfl)
theorem putAt_cons (l : List Value) (o : Nat) (v : Value) (vs : List Value) : putAt l o (v :: vs) = putAt (l.set o v) (o + 1) vs := (rfl)
theorem res_nil (e : Env) (h : Heap) (K : List Value → Prop) : withRes e h [] K = K [] := (rfl)
theorem res_tmp (e : Env) (h : Heap) (t : Nat) (l : List RV) (K : List Value → Prop) : withRes e h (.tmp t :: l) K = withV (find e t) fun v => withRes e h l fun vs => K (v :: vs) := (rfl)
theorem res_cell (e : Env) (h : Heap) (t : Nat) (l : List RV) (K : List Value → Prop) : withRes e h (.cell t none :: l) K = withP (find e t) fun b o => withV (hcell h b o) fun v => withRes e h l fun vs => K (v :: vs) := (rfl)
theorem res_celln (e : Env) (h : Heap) (t n : Nat) (l : List RV) (K : List Value → Prop) : withRes e h (.cell t (some n) :: l) K = withP (find e t) fun b o => withC h b o n fun cs => withRes e h l fun vs => K (.agg cs.toArray :: vs) := (rfl)
theorem retV_one (v : Value) : retV [v] = v := (rfl)
theorem retV_nil : retV [] = .tuple #[] := (rfl)
theorem retV_two (v u : Value) : retV [v, u] = .tuple #[v, u] := (rfl)
theorem retV_three (v u w : Value) : retV [v, u, w] = .tuple #[v, u, w] := (rfl)
def rdAt (x : Option Value) (v : Value) : List (Nat × Nat × Value) := match x with | some (.pointer (some a)) => [(a.block, a.off, v)] | _ => []
def rdAtN (x : Option Value) (vs : List Value) : List (Nat × Nat × Value) := match x with | some (.pointer (some a)) => vs.zipIdx.map fun (c, j) => (a.block, a.off + j, c) | _ => []
theorem rd_load0 (x : Operand) (e : Env) (v : Value) : reads (.load none x) e v = rdAt (ev e x) v := (rfl)
theorem rd_loadn (n : Nat) (x : Operand) (e : Env) (v : Value) : reads (.load (some n) x) e v = rdAtN (ev e x) (cl v) := (rfl)
theorem rdAt_ptr (b o : Nat) (v : Value) : rdAt (some (.pointer (some ⟨b, o, none⟩))) v = [(b, o, v)] := (rfl)
theorem rdAtN_1 (b o : Nat) (v : Value) : rdAtN (some (.pointer (some ⟨b, o, none⟩))) [v] = [(b, o, v)] := (rfl)
theorem rdAtN_2 (b o : Nat) (v u : Value) : rdAtN (some (.pointer (some ⟨b, o, none⟩))) [v, u] = [(b, o, v), (b, o + 1, u)] := (rfl)
theorem wf_cons (k j : Nat) (rs : List (Nat × Nat × Value)) (W : Watch) : wfind ((k, rs) :: W) j = if k = j then rs else wfind W j := (rfl)
attribute [go_sem] rd_load0 rd_loadn rdAt_ptr rdAtN_1 rdAtN_2 wf_cons
attribute [go_sem ↓] res_nil res_tmp res_cell res_celln
attribute [go_sem] retV_one retV_nil retV_two retV_three withAd_some withMp_some cl_map oc_map cl_int cl_bool cl_slice cl_ptr cl_func cl_agg oc_int oc_bool oc_slice oc_ptr oc_func putAt_nil putAt_cons List.length_cons List.length_nil List.set_cons_zero List.set_cons_succ List.all_cons List.all_nil Bool.and_true and_self and_true true_and decide_eq_true_eq Nat.zero_add Nat.add_zero
end Go.Vc
namespace Go.Vc
open Go
theorem call_of {P : Program} {f : FuncId} {args : Array Value} {h : Heap} {R K : Value → Heap → Prop} {d : Dep K} (hc : Con P f args h R) (hk : ∀ v h', R v h' → K v h') : callB P f args h K d := hc.mono hk
theorem yld_of {P : Program} {l : Nat} {args : Array Value} {h : Heap} {R K : Value → Heap → Prop} {d : Dep K} (hc : Yld P l args h R) (hk : ∀ v h', R v h' → K v h') : yldB P l args h K d := hc.mono hk
end Go.Vc
/-
  Frames, rows of cells, slices that are owned: plain facts on heaps.
-/
namespace Go.Vc
open Go

/-! ### Frames -/
theorem Fr.mono {lo hi lo' hi' : Nat} {h h' : Heap} (a : Fr lo hi h h') (hl : hi ≤ lo ∨ h.size ≤ lo ∨ (lo' ≤ lo ∧ hi ≤ hi')) : Fr lo' hi' h h' :=
  ⟨a.size, fun x hx hc => a.old x hx (by omega)⟩
theorem Fr.pure {lo hi : Nat} {h h' : Heap} (a : Fr 0 0 h h') : Fr lo hi h h' := a.mono (by omega)
/-- A frame over blocks that are new to an elder heap. -/
theorem Fr.fresh {lo hi : Nat} {h0 h h' : Heap} (p : Fr 0 0 h0 h) (a : Fr lo hi h h') (hl : h0.size ≤ lo ∨ hi ≤ lo) : Fr 0 0 h0 h' :=
  ⟨Nat.le_trans p.size a.size, fun x hx hc => (a.old x (Nat.lt_of_lt_of_le hx p.size) (by omega)).trans (p.old x hx hc)⟩
theorem Fr.freshIn {lo hi l r : Nat} {h0 h h' : Heap} (p : Fr l r h0 h) (a : Fr lo hi h h') (hl : h0.size ≤ lo ∨ hi ≤ lo ∨ (l ≤ lo ∧ hi ≤ r)) : Fr l r h0 h' :=
  ⟨Nat.le_trans p.size a.size, fun x hx hc => (a.old x (Nat.lt_of_lt_of_le hx p.size) (by omega)).trans (p.old x hx hc)⟩
theorem Fr.cell {lo hi : Nat} {h h' : Heap} (a : Fr lo hi h h') {b o : Nat} (hb : b < h.size) (hc : b < lo ∨ hi ≤ b) : hcell h' b o = hcell h b o := by
  unfold hcell; rw [a.old b hb hc]
theorem hcell_lt {h : Heap} {b o : Nat} {v : Value} (hc : hcell h b o = some v) : b < h.size := by
  unfold hcell at hc
  split at hc
  · rename_i hb; exact (Array.getElem?_eq_some_iff.1 hb).1
  · cases hc
theorem Fr.keep {lo hi : Nat} {h h' : Heap} (a : Fr lo hi h h') {b o : Nat} {v : Value} (hv : hcell h b o = some v) (hc : b < lo ∨ hi ≤ b) : hcell h' b o = some v := by
  rw [a.cell (hcell_lt hv) hc, hv]

/-! ### Rows -/
/-- Block b is a row of just these cells, to be read and written. -/
def Rw (h : Heap) (b : Nat) (c : List Value) : Prop := ∃ t, Blk h b t c
theorem Rw.cell {h : Heap} {b : Nat} {c : List Value} (r : Rw h b c) (o : Nat) : hcell h b o = c[o]? := by
  obtain ⟨t, r⟩ := r
  unfold hcell; rw [r]; simp
theorem Rw.wr {h : Heap} {b : Nat} {c : List Value} (r : Rw h b c) {o n : Nat} (hn : o + n ≤ c.length) : Wr h b o n := by
  obtain ⟨t, r⟩ := r; exact ⟨t, c, r, hn⟩
theorem Rw.lt {h : Heap} {b : Nat} {c : List Value} (r : Rw h b c) : b < h.size := by
  obtain ⟨t, r⟩ := r; exact (Array.getElem?_eq_some_iff.1 r).1
theorem Rw.fr {lo hi : Nat} {h h' : Heap} {b : Nat} {c : List Value} (r : Rw h b c) (a : Fr lo hi h h') (hc : b < lo ∨ hi ≤ b) : Rw h' b c := by
  have := r.lt
  obtain ⟨t, r⟩ := r; exact ⟨t, (a.old b this hc).trans r⟩

/-! ### A new block -/
section
variable {h h' : Heap} {b : Nat} {c : List Value}
theorem New.size (n : New h h' b c) : h'.size = h.size + 1 := by obtain ⟨t, rfl⟩ := n.push; simp
theorem New.fr {lo hi : Nat} (n : New h h' b c) : Fr lo hi h h' := by
  obtain ⟨t, rfl⟩ := n.push
  exact ⟨by simp, fun x hx _ => by simp [Array.getElem?_push, Nat.ne_of_lt hx]⟩
theorem New.row (n : New h h' b c) : Rw h' b c := by
  obtain ⟨t, rfl⟩ := n.push
  refine ⟨t, ?_⟩
  unfold Blk; rw [n.at_]; simp
theorem New.rw {b' : Nat} {c' : List Value} (n : New h h' b c) (r : Rw h b' c') : Rw h' b' c' := r.fr (n.fr (lo := 0) (hi := 0)) (by omega)
end

/-! ### A store -/
theorem modify_size (h : Heap) (b : Nat) (f : Obj → Obj) : (h.modify b f).size = h.size := by simp
theorem hset_blk {h : Heap} {b : Nat} {t : TypeId} {c : List Value} (r : Blk h b t c) (o : Nat) (v : Value) : Blk (hset h b o v) b t (c.set o v) := by
  unfold Blk at *
  rw [hset_get, if_pos rfl, r]; simp [hmod]
theorem hputs_old (vs : List Value) : ∀ (h : Heap) (b o x : Nat), x ≠ b → (hputs h b o vs)[x]? = h[x]? := by
  induction vs with
  | nil => intros; rfl
  | cons v vs ih => intro h b o x hx; simp only [hputs]; rw [ih _ _ _ _ hx, hset_get, if_neg (fun h => hx h.symm)]
theorem hputs_blk (vs : List Value) : ∀ {h : Heap} {b : Nat} {t : TypeId} {c : List Value} (_ : Blk h b t c) (o : Nat), Blk (hputs h b o vs) b t (putAt c o vs) := by
  induction vs with
  | nil => intro h b t c r o; exact r
  | cons v vs ih => intro h b t c r o; exact ih (hset_blk r o v) (o + 1)

section
variable {h h' : Heap} {b o : Nat} {vs : List Value}
theorem Sto.size (s : Sto h h' b o vs) : h'.size = h.size := by rw [s.eq, hputs_size]
theorem Sto.fr (s : Sto h h' b o vs) : Fr b (b + 1) h h' := ⟨Nat.le_of_eq s.size.symm, fun x _ hc => by rw [s.eq, hputs_old]; omega⟩
theorem Sto.row {c : List Value} (s : Sto h h' b o vs) (r : Rw h b c) : Rw h' b (putAt c o vs) := by
  obtain ⟨t, r⟩ := r; exact ⟨t, by rw [s.eq]; exact hputs_blk vs r o⟩
theorem Sto.rw {b' : Nat} {c' : List Value} (s : Sto h h' b o vs) (r : Rw h b' c') (hb : b' ≠ b) : Rw h' b' c' := r.fr s.fr (by omega)
end

/-! ### Maps -/
section
variable {h h' : Heap} {b r : Nat} {o : Obj}
theorem NewO.size (n : NewO h h' b o) : h'.size = h.size + 1 := by rw [n.push]; simp
theorem NewO.fr {lo hi : Nat} (n : NewO h h' b o) : Fr lo hi h h' := by
  rw [n.push]
  exact ⟨by simp, fun x hx _ => by simp [Array.getElem?_push, Nat.ne_of_lt hx]⟩
theorem NewO.get (n : NewO h h' b o) : h'[b]? = some o := by rw [n.push, n.at_]; simp
theorem StoO.size (s : StoO h h' r o) : h'.size = h.size := by rw [s.eq]; simp [hobj]
theorem StoO.fr (s : StoO h h' r o) : Fr r (r + 1) h h' := ⟨Nat.le_of_eq s.size.symm, fun x _ hc => by rw [s.eq]; unfold hobj; rw [Array.getElem?_setIfInBounds_ne (by omega)]⟩
theorem StoO.get (s : StoO h h' r o) {o' : Obj} (ho : h[r]? = some o') : h'[r]? = some o := by
  have := (Array.getElem?_eq_some_iff.1 ho).1
  rw [s.eq]; unfold hobj; simp [this]
theorem MapAt.lt {m : List (Int × Value)} (w : MapAt h r m) : r < h.size := (Array.getElem?_eq_some_iff.1 w).1
theorem MapAt.fr {lo hi : Nat} {m : List (Int × Value)} (w : MapAt h r m) (f : Fr lo hi h h') (hb : r < lo ∨ hi ≤ r) : MapAt h' r m := (f.old r w.lt hb).trans w
theorem IterAt.lt {n : Nat} {l : List Nat} (w : IterAt h b r n l) : b < h.size := (Array.getElem?_eq_some_iff.1 w).1
theorem IterAt.fr {lo hi n : Nat} {l : List Nat} (w : IterAt h b r n l) (f : Fr lo hi h h') (hb : b < lo ∨ hi ≤ b) : IterAt h' b r n l := (f.old b w.lt hb).trans w
theorem MapAt.of {m : List (Int × Value)} (w : MapAt h r m) {K : List (Int × Value) → Prop} {d : Dep K} (k : K m) : withMap h r K d := ⟨m, w, k⟩
end
/-- A map as a function. -/
def MapF (h : Heap) (r : Nat) (f : Int → Option Value) : Prop := ∃ m, MapAt h r m ∧ (m.map (·.1)).Nodup ∧ ∀ k, (mfind m k).map (·.2) = f k
theorem mfind_none {m : List (Int × Value)} {k : Int} (h : mfind m k = none) : k ∉ m.map (·.1) := by
  induction m with
  | nil => simp
  | cons p m ih =>
    obtain ⟨k', v⟩ := p
    unfold mfind at h
    split at h
    · cases h
    · rename_i hk
      simp only [Option.map_eq_none_iff] at h
      simp only [List.map_cons, List.mem_cons, not_or]
      exact ⟨hk, ih h⟩
theorem mfind_get {m : List (Int × Value)} (hn : (m.map (·.1)).Nodup) : ∀ {i : Nat} {k : Int} {v : Value}, m[i]? = some (k, v) → mfind m k = some (i, v) := by
  induction m with
  | nil => intro i k v h; simp at h
  | cons p m ih =>
    obtain ⟨k', v'⟩ := p
    intro i k v h
    simp only [List.map_cons, List.nodup_cons] at hn
    cases i with
    | zero => simp at h; obtain ⟨rfl, rfl⟩ := h; simp [mfind]
    | succ i =>
      have h : m[i]? = some (k, v) := by simpa using h
      have hk : k ≠ k' := fun e => hn.1 (by subst e; exact List.mem_map.2 ⟨(k, v), List.mem_of_getElem? h, rfl⟩)
      simp [mfind, hk, ih hn.2 h]
theorem mset_keys (m : List (Int × Value)) (i : Nat) (v : Value) : (mset m i v).map (·.1) = m.map (·.1) := by
  apply List.ext_getElem?
  intro j
  rw [List.getElem?_map, List.getElem?_map, mset, List.getElem?_modify]
  cases m[j]? with
  | none => simp
  | some p => by_cases h : i = j <;> simp [h]
theorem mfind_mset {m : List (Int × Value)} (hn : (m.map (·.1)).Nodup) {i : Nat} {k : Int} {u : Value} (hi : m[i]? = some (k, u)) (v : Value) (x : Int) : (mfind (mset m i v) x).map (·.2) = if x = k then some v else (mfind m x).map (·.2) := by
  have hn' : ((mset m i v).map (·.1)).Nodup := by rw [mset_keys]; exact hn
  have hg : ∀ j, (mset m i v)[j]? = (if i = j then (m[j]?).map fun p => (p.1, v) else m[j]?) := by intro j; rw [mset, List.getElem?_modify]; by_cases h : i = j <;> simp [h]
  by_cases hx : x = k
  · subst hx
    rw [mfind_get hn' (i := i) (v := v) (by rw [hg, if_pos rfl, hi]; rfl)]; simp
  · rw [if_neg hx]
    cases hf : mfind m x with
    | none =>
      cases hf' : mfind (mset m i v) x with
      | none => rfl
      | some p =>
        have := mfind_none hf
        rw [← mset_keys m i v] at this
        exact absurd (List.mem_map.2 ⟨(x, p.2), List.mem_of_getElem? (mfind_spec' hf'), rfl⟩) this
    | some p =>
      obtain ⟨j, w⟩ := p
      have hj := mfind_spec hf
      have hij : i ≠ j := fun e => by subst e; rw [hi] at hj; cases hj; exact hx rfl
      rw [mfind_get hn' (i := j) (v := w) (by rw [hg, if_neg hij, hj])]
where mfind_spec' {m : List (Int × Value)} {k : Int} {p : Nat × Value} (h : mfind m k = some p) : m[p.1]? = some (k, p.2) := mfind_spec (by rw [h])
theorem mfind_push (m : List (Int × Value)) (k : Int) (v : Value) (x : Int) (hk : mfind m k = none) : (mfind (m ++ [(k, v)]) x).map (·.2) = if x = k then some v else (mfind m x).map (·.2) := by
  induction m with
  | nil => by_cases h : x = k <;> simp [mfind, h]
  | cons p m ih =>
    obtain ⟨k', v'⟩ := p
    unfold mfind at hk
    split at hk
    · cases hk
    · rename_i hkk
      simp only [Option.map_eq_none_iff] at hk
      simp only [List.cons_append, mfind]
      by_cases h1 : x = k'
      · have : x ≠ k := fun e => hkk (by rw [← e, h1])
        simp [h1, Ne.symm hkk]
      · have := ih hk
        simp only [if_neg h1, Option.map_map] at *
        have e : ((fun x => x.2) ∘ fun (p : Nat × Value) => (p.1 + 1, p.2)) = fun x => x.2 := rfl
        rw [e]; exact this
theorem mput_find {m : List (Int × Value)} (hn : (m.map (·.1)).Nodup) (k : Int) (v : Value) (x : Int) : (mfind (mput m k v) x).map (·.2) = if x = k then some v else (mfind m x).map (·.2) := by
  unfold mput
  cases hf : mfind m k with
  | none => exact mfind_push m k v x hf
  | some p => exact mfind_mset hn (mfind_spec hf) v x
theorem mput_nodup {m : List (Int × Value)} (hn : (m.map (·.1)).Nodup) (k : Int) (v : Value) : ((mput m k v).map (·.1)).Nodup := by
  unfold mput
  cases hf : mfind m k with
  | none =>
    simp only [List.map_append, List.map_cons, List.map_nil]
    rw [List.nodup_append]
    exact ⟨hn, by simp, fun a ha b hb => by simp at hb; subst hb; exact fun e => mfind_none hf (e ▸ ha)⟩
  | some p => rw [mset_keys]; exact hn
/-! ### Maps as functions -/
section
variable {h h' : Heap} {r : Nat} {f : Int → Option Value}
theorem MapF.lt (w : MapF h r f) : r < h.size := by obtain ⟨m, hm, _⟩ := w; exact hm.lt
theorem MapF.fr {lo hi : Nat} (w : MapF h r f) (x : Fr lo hi h h') (hb : r < lo ∨ hi ≤ r) : MapF h' r f := by obtain ⟨m, hm, h1⟩ := w; exact ⟨m, hm.fr x hb, h1⟩
theorem NewO.mapF (n : NewO h h' r (mapObj [])) : MapF h' r fun _ => none := ⟨[], n.get, by simp, fun k => rfl⟩
theorem MapF.look (w : MapF h r f) {z : Value} {n : Int} {K : Value → Bool → Prop} (hk : K ((f n).getD z) (f n).isSome) : ∃ m, MapAt h r m ∧ K (mget z m n) (mhas m n) := by
  obtain ⟨m, hm, _, h1⟩ := w
  refine ⟨m, hm, ?_⟩
  rw [← h1] at hk
  unfold mget mhas
  cases hf : mfind m n with
  | none => rw [hf] at hk; exact hk
  | some p => rw [hf] at hk; exact hk
theorem MapF.look1 (w : MapF h r f) {z : Value} {n : Int} {K : List (Int × Value) → Prop} {d : Dep K} (hk : ∀ m, mget z m n = (f n).getD z → mhas m n = (f n).isSome → K m) : withMap h r K d := by
  obtain ⟨m, hm, _, h1⟩ := w
  refine ⟨m, hm, hk m ?_ ?_⟩ <;> rw [← h1] <;> first | (unfold mget; cases mfind m n <;> rfl) | (unfold mhas; cases mfind m n <;> rfl)
theorem MapF.set (w : MapF h r f) {n : Int} {v : Value} {K : Heap → Prop} {d : (m : List (Int × Value)) → Dep K} {d2 : Dep fun m => stoO h r (mapObj (mput m n v)) K (d m)} (hk : ∀ h', MapF h' r (fun x => if x = n then some v else f x) → Fr r (r + 1) h h' → h'.size = h.size → K h') :
    withMap h r (fun m => stoO h r (mapObj (mput m n v)) K (d m)) d2 := by
  obtain ⟨m, hm, hn, h1⟩ := w
  exact ⟨m, hm, fun h' s => hk h' ⟨_, s.get hm, mput_nodup hn _ _, fun x => by rw [mput_find hn, h1]⟩ s.fr s.size⟩
end

theorem length_putAt (vs : List Value) : ∀ (l : List Value) (o : Nat), (putAt l o vs).length = l.length := by
  induction vs with
  | nil => intros; rfl
  | cons v vs ih => intro l o; simp [putAt, ih]
theorem putAt_one (l : List Value) (o : Nat) (v : Value) : putAt l o [v] = l.set o v := rfl
theorem putAt_mid (vs : List Value) : ∀ (a m r : List Value), m.length = vs.length → putAt (a ++ m ++ r) a.length vs = a ++ vs ++ r := by
  induction vs with
  | nil => intro a m r hm; simp at hm; simp [hm, putAt]
  | cons v vs ih =>
    intro a m r hm
    cases m with
    | nil => simp at hm
    | cons x m =>
      simp only [putAt]
      have := ih (a ++ [v]) m r (by simpa using hm)
      simp only [List.length_append, List.length_singleton] at this
      rw [show (a ++ x :: m ++ r).set a.length v = a ++ [v] ++ m ++ r from by simp [List.set_append]]
      rw [this]; simp
theorem getElem?_putAt (vs : List Value) : ∀ (l : List Value) (o k : Nat), o + vs.length ≤ l.length → (putAt l o vs)[k]? = if o ≤ k ∧ k < o + vs.length then vs[k - o]? else l[k]? := by
  induction vs with
  | nil => intro l o k _; simp only [putAt, List.length_nil]; rw [if_neg (by omega)]
  | cons v vs ih =>
    intro l o k hl
    simp only [List.length_cons] at hl
    simp only [putAt]
    rw [ih _ _ _ (by simp; omega)]
    simp only [List.length_cons]
    by_cases h1 : o + 1 ≤ k ∧ k < o + 1 + vs.length
    · rw [if_pos h1, if_pos (by omega), show k - o = (k - (o + 1)) + 1 from by omega]; rfl
    · rw [if_neg h1]
      by_cases h2 : k = o
      · subst h2; rw [if_pos (by omega), List.getElem?_set_self (by omega)]; simp
      · rw [if_neg (by omega), List.getElem?_set_ne (fun h => h2 h.symm)]

/-! ### Zeros -/
theorem zeros_one (z : Value) : ∀ n, zeros [z] n = List.replicate n z
  | 0 => rfl
  | n + 1 => by simp [zeros, zeros_one z n, List.replicate_succ]
theorem length_zeros (z : List Value) : ∀ n, (zeros z n).length = n * z.length
  | 0 => by simp [zeros]
  | n + 1 => by simp [zeros, length_zeros z n, Nat.succ_mul]; omega

/-! ### Slices that one holds alone -/
def bl : Value → Nat
  | .slice (some a) _ _ => a.block
  | _ => 0
def bh : Value → Nat
  | .slice (some a) _ _ => a.block + 1
  | _ => 0

/-- v is a slice of n elements of s cells each, whose cells are xs; its block lies from lo on, and it alone holds it. -/
def Holder (s : Nat) (h : Heap) (v : Value) (n : Nat) (xs : List Value) (lo : Nat) : Prop :=
  xs.length = n * s ∧ ((v = .slice none 0 0 ∧ n = 0) ∨ ∃ b c rest, v = .slice (some ⟨b, 0, none⟩) n c ∧ Rw h b (xs ++ rest) ∧ rest.length + n * s = c * s ∧ lo ≤ b)

theorem Holder.none (s : Nat) (h : Heap) (lo : Nat) : Holder s h (.slice none 0 0) 0 [] lo := ⟨by simp, .inl ⟨rfl, rfl⟩⟩
theorem Holder.fr {s : Nat} {h h' : Heap} {v : Value} {n : Nat} {xs : List Value} {lo l r : Nat} (w : Holder s h v n xs lo) (f : Fr l r h h') (hb : bh v ≤ l ∨ r ≤ bl v ∨ r ≤ l) : Holder s h' v n xs lo := by
  obtain ⟨hl, h1 | ⟨b, c, rest, rfl, h2, h3, h4⟩⟩ := w
  · exact ⟨hl, .inl h1⟩
  · exact ⟨hl, .inr ⟨b, c, rest, rfl, h2.fr f (by simp only [bl, bh] at hb; omega), h3, h4⟩⟩
theorem Holder.at_ {s : Nat} {h : Heap} {v : Value} {n : Nat} {xs : List Value} {lo : Nat} (w : Holder s h v n xs lo) : (bl v = 0 ∧ bh v = 0) ∨ (lo ≤ bl v ∧ bh v = bl v + 1 ∧ bl v < h.size) := by
  obtain ⟨hl, ⟨rfl, _⟩ | ⟨b, c, rest, rfl, h2, h3, h4⟩⟩ := w
  · exact .inl ⟨rfl, rfl⟩
  · exact .inr ⟨h4, rfl, h2.lt⟩
theorem Holder.is {s : Nat} {h : Heap} {v : Value} {n : Nat} {xs : List Value} {lo : Nat} (w : Holder s h v n xs lo) : ∃ a c, v = .slice a n c := by
  obtain ⟨hl, ⟨rfl, rfl⟩ | ⟨b, c, rest, rfl, _⟩⟩ := w
  · exact ⟨_, _, rfl⟩
  · exact ⟨_, _, rfl⟩

theorem Holder.lower {s : Nat} {h : Heap} {v : Value} {n : Nat} {xs : List Value} {lo lo' : Nat} (w : Holder s h v n xs lo) (hl : lo' ≤ lo) : Holder s h v n xs lo' := by
  obtain ⟨hx, h1 | ⟨b, c, rest, h1, h2, h3, h4⟩⟩ := w
  · exact ⟨hx, .inl h1⟩
  · exact ⟨hx, .inr ⟨b, c, rest, h1, h2, h3, by omega⟩⟩
/-- What is appended to it. -/
theorem Holder.append {s bytes : Nat} {zero : List Value} {h : Heap} {a : Option Addr} {n c : Nat} {xs new : List Value} {m lo : Nat} {K : Value → Heap → Prop} {d : Dep K}
    (w : Holder s h (.slice a n c) n xs lo) (hs : 0 < s) (hz : zero.length = s) (hlo : lo ≤ h.size) (hm : new.length = m * s) (hbig : (n + m) * 2 * bytes ≤ 281474976710656)
    (hK : ∀ v' h', Holder s h' v' (n + m) (xs ++ new) lo → Fr (bl (.slice a n c)) (bh (.slice a n c)) h h' → bl v' = bl (.slice a n c) ∧ h'.size = h.size ∨ bl v' = h.size ∧ h'.size = h.size + 1 ∨ bh v' = 0 ∧ h' = h → K v' h') :
    appB s bytes zero h a n c new m K d := by
  have hlen := w.1
  refine ⟨fun hfit => ?_, fun hfit => ⟨hbig, ?_⟩⟩
  · obtain ⟨_, ⟨h1, rfl⟩ | ⟨b, c', rest, h1, h2, h3, h4⟩⟩ := w
    · cases h1
      have hm0 : m = 0 := by omega
      subst hm0
      refine ⟨rfl, hK _ _ ⟨by simp at hm hlen; simp [hm, hlen], .inl ⟨rfl, rfl⟩⟩ (.refl _ _ _) (.inr (.inr ⟨rfl, rfl⟩))⟩
    · cases h1
      simp only [Nat.zero_add]
      have hms : m * s ≤ rest.length := by
        have := Nat.mul_le_mul_right s hfit
        rw [Nat.add_mul] at this; omega
      refine ⟨h2.wr (by simp [hlen]; omega), fun h' st => ?_⟩
      refine hK _ _ ⟨by simp [hlen, hm, Nat.add_mul], .inr ⟨b, _, rest.drop (m * s), rfl, ?_, by simp; rw [Nat.add_mul]; omega, h4⟩⟩ st.fr (.inl ⟨rfl, st.size⟩)
      have := st.row h2
      rw [← hlen, ← List.take_append_drop (m * s) rest, ← List.append_assoc, putAt_mid _ _ _ _ (by simp [hm]; omega)] at this
      simpa using this
  · have hold : ∃ old : List Value, old = xs ∧ (old = [] ∧ a = Option.none ∧ n = 0 ∨ ∃ b o, a = some ⟨b, o, Option.none⟩ ∧ old.length = n * s ∧ ∀ j v, old[j]? = some v → hcell h b (o + j) = some v) := by
      refine ⟨xs, rfl, ?_⟩
      obtain ⟨_, ⟨h1, rfl⟩ | ⟨b, c', rest, h1, h2, h3, h4⟩⟩ := w
      · cases h1; exact .inl ⟨by simpa using hlen, rfl, rfl⟩
      · cases h1
        refine .inr ⟨b, 0, rfl, hlen, fun j v hj => ?_⟩
        rw [h2.cell, Nat.zero_add, List.getElem?_append_left (List.getElem?_eq_some_iff.1 hj).1, hj]
    obtain ⟨old, rfl, hold⟩ := hold
    refine ⟨old, hold, fun c' b' h' hc' nw => ?_⟩
    refine hK _ _ ⟨by simp [hlen, hm, Nat.add_mul], .inr ⟨b', c', zeros zero (c' - (n + m)), rfl, nw.row, ?_, by rw [nw.at_]; exact hlo⟩⟩ nw.fr (.inr (.inl ⟨nw.at_, nw.size⟩))
    rw [length_zeros, hz, ← Nat.add_mul]; congr 1; omega

/-! ### Numbers -/
theorem wrap64 {n : Int} (h1 : -9223372036854775808 ≤ n) (h2 : n ≤ 9223372036854775807) : IntKind.i64.wrap n = n := by
  rw [IntKind.wrap_i64]; omega
theorem wrapu64 {n : Int} (h1 : 0 ≤ n) (h2 : n ≤ 18446744073709551615) : IntKind.u64.wrap n = n := by
  rw [IntKind.wrap_u64]; omega
end Go.Vc
namespace Go.Vc
open Go
/-! ### Slices that are only read -/
/-- v is a slice of n elements of s cells each; its cells are xs. -/
def Rd (s : Nat) (h : Heap) (v : Value) (n : Nat) (xs : List Value) : Prop :=
  xs.length = n * s ∧ ∃ a c, v = .slice a n c ∧ (n = 0 ∨ ∃ b o, a = some ⟨b, o, none⟩ ∧ ∀ j x, xs[j]? = some x → hcell h b (o + j) = some x)
theorem Holder.rd {s : Nat} {h : Heap} {v : Value} {n : Nat} {xs : List Value} {lo : Nat} (w : Holder s h v n xs lo) : Rd s h v n xs := by
  obtain ⟨hl, ⟨rfl, rfl⟩ | ⟨b, c, rest, rfl, h2, h3, h4⟩⟩ := w
  · exact ⟨hl, _, _, rfl, .inl rfl⟩
  · refine ⟨hl, _, _, rfl, .inr ⟨b, 0, rfl, fun j x hj => ?_⟩⟩
    rw [h2.cell, Nat.zero_add, List.getElem?_append_left (List.getElem?_eq_some_iff.1 hj).1, hj]
theorem Rd.is {s : Nat} {h : Heap} {v : Value} {n : Nat} {xs : List Value} (w : Rd s h v n xs) : ∃ a c, v = .slice a n c := by
  obtain ⟨_, a, c, h1, _⟩ := w; exact ⟨a, c, h1⟩
/-- It lies below: what is read of it does not change where nothing below changes. -/
theorem Rd.fr {s : Nat} {h h' : Heap} {v : Value} {n : Nat} {xs : List Value} (w : Rd s h v n xs) (f : Fr 0 0 h h') : Rd s h' v n xs := by
  obtain ⟨hl, a, c, h1, h2⟩ := w
  refine ⟨hl, a, c, h1, h2.imp_right ?_⟩
  rintro ⟨b, o, h3, h4⟩
  exact ⟨b, o, h3, fun j x hj => f.keep (h4 j x hj) (by omega)⟩
/-- An element's address. -/
theorem Rd.idx {s : Nat} {h : Heap} {a : Option Addr} {n c : Nat} {xs : List Value} {K : Nat → Nat → Prop} {d : Dep K} (w : Rd s h (.slice a n c) n xs) (hn : 0 < n)
    (hk : ∀ b o, (∀ j x, xs[j]? = some x → hcell h b (o + j) = some x) → K b o) : withAd a K d := by
  obtain ⟨hl, a', c', h1, h2⟩ := w
  cases h1
  rcases h2 with h2 | ⟨b, o, rfl, h4⟩
  · omega
  · exact hk b o h4

/-- Pairs in cells. -/
def pairsV (l : List (Int × Int)) : List Value := l.flatMap fun p => [.int .i64 p.1, .int .i64 p.2]
@[simp] theorem length_pairsV (l : List (Int × Int)) : (pairsV l).length = l.length * 2 := by
  induction l with
  | nil => rfl
  | cons p l ih => simp only [pairsV, List.flatMap_cons, List.length_append, List.length_cons, List.length_nil] at *; omega
theorem pairsV_cons (p : Int × Int) (l : List (Int × Int)) : pairsV (p :: l) = .int .i64 p.1 :: .int .i64 p.2 :: pairsV l := rfl
theorem pairsV_append (l m : List (Int × Int)) : pairsV (l ++ m) = pairsV l ++ pairsV m := by simp [pairsV]
theorem pairsV_get : ∀ (l : List (Int × Int)) (i : Nat) (p : Int × Int), l[i]? = some p → (pairsV l)[i * 2]? = some (.int .i64 p.1) ∧ (pairsV l)[i * 2 + 1]? = some (.int .i64 p.2)
  | [], i, p, h => by simp at h
  | q :: l, 0, p, h => by simp at h; subst h; simp [pairsV_cons]
  | q :: l, i + 1, p, h => by
    have := pairsV_get l i p (by simpa using h)
    rw [pairsV_cons, show (i + 1) * 2 = i * 2 + 2 from by omega]
    simpa using this
theorem Rd.pair {h : Heap} {a : Option Addr} {c : Nat} {l : List (Int × Int)} {K : Nat → Nat → Prop} {d : Dep K} (w : Rd 2 h (.slice a l.length c) l.length (pairsV l)) {i : Nat} {p : Int × Int} (hp : l[i]? = some p)
    (hk : ∀ b o, hcell h b (o + i * 2) = some (.int .i64 p.1) → hcell h b (o + i * 2 + 1) = some (.int .i64 p.2) → K b o) : withAd a K d :=
  w.idx (by have := (List.getElem?_eq_some_iff.1 hp).1; omega) fun b o hc => hk b o (hc _ _ (pairsV_get l i p hp).1) (by rw [Nat.add_assoc]; exact hc _ _ (pairsV_get l i p hp).2)
/-- Integers in cells. -/
def intsV (l : List Int) : List Value := l.map (.int .i64)
@[simp] theorem length_intsV (l : List Int) : (intsV l).length = l.length := by simp [intsV]
theorem intsV_get {l : List Int} {i : Nat} {p : Int} (h : l[i]? = some p) : (intsV l)[i]? = some (.int .i64 p) := by simp [intsV, h]
theorem intsV_append (l m : List Int) : intsV (l ++ m) = intsV l ++ intsV m := by simp [intsV]
end Go.Vc
namespace Go.Vc
open Go
theorem Rw.rd {h : Heap} {b s n c : Nat} {xs : List Value} (r : Rw h b xs) (hl : xs.length = n * s) : Rd s h (.slice (some ⟨b, 0, none⟩) n c) n xs :=
  ⟨hl, _, _, rfl, .inr ⟨b, 0, rfl, fun j x hj => by rw [r.cell, Nat.zero_add, hj]⟩⟩
/-- Numbers in cells. -/
def natsV (l : List Nat) : List Value := l.map fun (p : Nat) => Value.int .i64 (p : Int)
@[simp] theorem length_natsV (l : List Nat) : (natsV l).length = l.length := by simp [natsV]
theorem natsV_get {l : List Nat} {i p : Nat} (h : l[i]? = some p) : (natsV l)[i]? = some (.int .i64 (p : Int)) := by simp [natsV, h]
theorem natsV_append (l m : List Nat) : natsV (l ++ m) = natsV l ++ natsV m := by simp [natsV]

/-! ### The least number that is fit -/
/-- The least one from q on, below n. -/
def lf (f : Nat → Bool) (n q : Nat) : Option Nat := (List.range' q (n - q)).find? f
def nx (o : Option Nat) : Int := match o with | none => -1 | some x => x
theorem lf_end (f : Nat → Bool) {n q : Nat} (h : n ≤ q) : lf f n q = none := by simp [lf, Nat.sub_eq_zero_of_le h]
theorem lf_step (f : Nat → Bool) {n q : Nat} (h : q < n) : lf f n q = if f q = true then some q else lf f n (q + 1) := by
  unfold lf
  rw [show n - q = (n - (q + 1)) + 1 from by omega, List.range'_succ, List.find?_cons]
  cases f q <;> simp
theorem lf_some {f : Nat → Bool} {n q x : Nat} (h : lf f n q = some x) : q ≤ x ∧ x < n ∧ f x = true := by
  unfold lf at h
  have h1 := List.mem_of_find?_eq_some h
  have h2 := List.find?_some h
  rw [List.mem_range'_1] at h1
  exact ⟨by omega, by omega, h2⟩
end Go.Vc
namespace Go.Vc
theorem nx_some (x : Nat) : nx (some x) = (x : Int) := (rfl)
theorem nx_none : nx none = -1 := (rfl)
end Go.Vc
/-
  Words of 64 bits: plain facts.
-/
namespace Go.Vc
open Go

theorem ofInt64 {a : Nat} (ha : a < 2 ^ 64) : (BitVec.ofInt IntKind.u64.bits (a : Int)).toNat = a := by
  show (BitVec.ofInt 64 (a : Int)).toNat = a
  rw [BitVec.toNat_ofInt]
  omega
theorem and64 {a b : Nat} (ha : a < 2 ^ 64) (hb : b < 2 ^ 64) : IntKind.u64.wrap ((BitVec.ofInt IntKind.u64.bits (a : Int) &&& BitVec.ofInt IntKind.u64.bits (b : Int)).toNat : Int) = ((a &&& b : Nat) : Int) := by
  rw [BitVec.toNat_and, ofInt64 ha, ofInt64 hb]
  have : a &&& b ≤ a := Nat.and_le_left
  exact wrapu64 (by omega) (by omega)
theorem or64 {a b : Nat} (ha : a < 2 ^ 64) (hb : b < 2 ^ 64) : IntKind.u64.wrap ((BitVec.ofInt IntKind.u64.bits (a : Int) ||| BitVec.ofInt IntKind.u64.bits (b : Int)).toNat : Int) = ((a ||| b : Nat) : Int) := by
  rw [BitVec.toNat_or, ofInt64 ha, ofInt64 hb]
  have := Nat.or_lt_two_pow ha hb
  exact wrapu64 (by omega) (by omega)
theorem xor64 {a b : Nat} (ha : a < 2 ^ 64) (hb : b < 2 ^ 64) : IntKind.u64.wrap ((BitVec.ofInt IntKind.u64.bits (a : Int) ^^^ BitVec.ofInt IntKind.u64.bits (b : Int)).toNat : Int) = ((a ^^^ b : Nat) : Int) := by
  rw [BitVec.toNat_xor, ofInt64 ha, ofInt64 hb]
  have := Nat.xor_lt_two_pow ha hb
  exact wrapu64 (by omega) (by omega)
theorem shr64 (a k : Nat) (hk : k < 64) : (a : Int).fdiv (2 ^ min k IntKind.u64.bits) = ((a / 2 ^ k : Nat) : Int) := by
  rw [show min k IntKind.u64.bits = k from by show min k 64 = k; omega, Int.fdiv_eq_ediv_of_nonneg _ (by exact Int.le_of_lt (Int.pow_pos (by decide)))]
  simp
theorem shl64 (k : Nat) (hk : k < 64) : IntKind.u64.wrap (1 * 2 ^ min k IntKind.u64.bits) = ((2 ^ k : Nat) : Int) := by
  rw [show min k IntKind.u64.bits = k from by show min k 64 = k; omega, Int.one_mul, show (2 : Int) ^ k = ((2 ^ k : Nat) : Int) from by simp]
  have : (2 : Nat) ^ k < 2 ^ 64 := Nat.pow_lt_pow_right (by decide) hk
  generalize (2 : Nat) ^ k = x at this
  exact wrapu64 (by omega) (by omega)
theorem bit_has {a k : Nat} (ha : a < 2 ^ 64) (hk : k < 64) : (((a / 2 ^ k &&& 1 : Nat) : Int) == 1) = a.testBit k := by
  rw [Nat.testBit_eq_decide_div_mod_eq, Nat.and_one_is_mod, Bool.eq_iff_iff]
  simp only [beq_iff_eq, decide_eq_true_eq]
  omega
theorem tdiv64 (p : Nat) : (p : Int).tdiv 64 = ((p / 64 : Nat) : Int) := by
  rw [Int.tdiv_eq_ediv_of_nonneg (by omega)]; omega
theorem tmod64 (p : Nat) : (p : Int).tmod 64 = ((p % 64 : Nat) : Int) := by
  rw [Int.tmod_eq_emod_of_nonneg (by omega)]; omega

/-- A row of words. -/
def wrow (w : Nat) (W : Nat → Nat) : List Value := (List.range w).map fun (j : Nat) => Value.int .u64 (W j : Int)
@[simp] theorem length_wrow (w : Nat) (W : Nat → Nat) : (wrow w W).length = w := by simp [wrow]
theorem wrow_get {w : Nat} {W : Nat → Nat} {j : Nat} (hj : j < w) : (wrow w W)[j]? = some (.int .u64 (W j : Int)) := by simp [wrow, hj]
theorem wrow_set {w : Nat} {W : Nat → Nat} {j x : Nat} : (wrow w W).set j (.int .u64 (x : Int)) = wrow w fun k => if k = j then x else W k := by
  apply List.ext_getElem?; intro k
  by_cases hk : k < w
  · rw [wrow_get hk, List.getElem?_set]
    by_cases hj : j = k
    · subst hj; simp [hk]
    · rw [if_neg hj, wrow_get hk, if_neg (fun h => hj h.symm)]
  · rw [List.getElem?_eq_none (by simp; omega), List.getElem?_eq_none (by simp; omega)]
theorem wrow_zero (w : Nat) : List.replicate w (Value.int .u64 0) = wrow w fun _ => 0 := by
  apply List.ext_getElem?; intro k
  by_cases hk : k < w
  · rw [wrow_get hk]; simp [hk]
  · simp [wrow, hk]

/-- How many words a row of n points takes. -/
def nw (n : Nat) : Nat := (n + 63) / 64
/-- Words that tell a row of truths over n points. -/
def Bits (n : Nat) (W : Nat → Nat) (f : Nat → Bool) : Prop := ∀ j, W j < 2 ^ 64 ∧ ∀ k, k < 64 → (W j).testBit k = (decide (64 * j + k < n) && f (64 * j + k))
theorem Bits.get {n : Nat} {W : Nat → Nat} {f : Nat → Bool} (b : Bits n W f) {p : Nat} (hp : p < n) : (W (p / 64)).testBit (p % 64) = f p := by
  rw [(b _).2 _ (by omega), show 64 * (p / 64) + p % 64 = p from by omega]; simp [hp]
theorem Bits.zero (n : Nat) : Bits n (fun _ => 0) fun _ => false := fun j => ⟨Nat.two_pow_pos 64, fun k _ => by simp⟩
theorem Bits.flip {n : Nat} {W : Nat → Nat} {f : Nat → Bool} (b : Bits n W f) {p : Nat} (hp : p < n) : Bits n (fun j => if j = p / 64 then W (p / 64) ^^^ 2 ^ (p % 64) else W j) fun q => if q = p then !f p else f q := by
  intro j
  by_cases hj : j = p / 64
  · subst hj
    simp only [if_true]
    refine ⟨Nat.xor_lt_two_pow (b _).1 (Nat.pow_lt_pow_right (by decide) (by omega)), fun k hk => ?_⟩
    rw [Nat.testBit_xor, (b _).2 k hk, Nat.testBit_two_pow]
    by_cases hkp : p % 64 = k
    · subst hkp
      rw [show 64 * (p / 64) + p % 64 = p from by omega]; simp [hp]
    · rw [if_neg (show ¬ 64 * (p / 64) + k = p by omega)]; simp [hkp]
  · simp only [if_neg hj]
    refine ⟨(b j).1, fun k hk => ?_⟩
    rw [(b _).2 k hk, if_neg (show ¬ 64 * j + k = p by omega)]
theorem Bits.set {n : Nat} {W : Nat → Nat} {f : Nat → Bool} (b : Bits n W f) {p : Nat} (hp : p < n) : Bits n (fun j => if j = p / 64 then W (p / 64) ||| 2 ^ (p % 64) else W j) fun q => if q = p then true else f q := by
  intro j
  by_cases hj : j = p / 64
  · subst hj
    simp only [if_true]
    refine ⟨Nat.or_lt_two_pow (b _).1 (Nat.pow_lt_pow_right (by decide) (by omega)), fun k hk => ?_⟩
    rw [Nat.testBit_or, (b _).2 k hk, Nat.testBit_two_pow]
    by_cases hkp : p % 64 = k
    · subst hkp
      rw [show 64 * (p / 64) + p % 64 = p from by omega]; simp [hp]
    · rw [if_neg (show ¬ 64 * (p / 64) + k = p by omega)]; simp [hkp]
  · simp only [if_neg hj]
    refine ⟨(b j).1, fun k hk => ?_⟩
    rw [(b _).2 k hk, if_neg (show ¬ 64 * j + k = p by omega)]

/-- The program's relation: a pointer to its size and its rows. -/
structure PTab (h : Heap) (lo hi pb rb n : Nat) (R : Nat → Nat) (W : Nat → Nat → Nat) (M : Nat → Nat → Bool) : Prop where
  ptr : Rw h pb [.int .i64 n, .slice (some ⟨rb, 0, none⟩) n n]
  rows : Rw h rb ((List.range n).map fun (i : Nat) => Value.slice (some ⟨R i, 0, none⟩) (nw n) (nw n))
  row : ∀ i, i < n → Rw h (R i) (wrow (nw n) (W i)) ∧ lo ≤ R i ∧ R i < hi ∧ R i ≠ pb ∧ R i ≠ rb ∧ Bits n (W i) (M i)
  inj : ∀ i j, i < n → j < n → R i = R j → i = j
  at_ : lo ≤ pb ∧ pb < hi ∧ lo ≤ rb ∧ rb < hi ∧ pb ≠ rb
def ProgAt (h : Heap) (lo hi : Nat) (p : Value) (n : Nat) (M : Nat → Nat → Bool) : Prop :=
  n ≤ 256 ∧ ∃ pb rb R W, p = .pointer (some ⟨pb, 0, none⟩) ∧ PTab h lo hi pb rb n R W M
theorem PTab.fr {h h' : Heap} {lo hi pb rb n : Nat} {R : Nat → Nat} {W : Nat → Nat → Nat} {M : Nat → Nat → Bool} {l r : Nat} (t : PTab h lo hi pb rb n R W M) (f : Fr l r h h') (hd : hi ≤ l ∨ r ≤ lo ∨ r ≤ l) : PTab h' lo hi pb rb n R W M := by
  have a := t.at_
  refine ⟨t.ptr.fr f (by omega), t.rows.fr f (by omega), fun i hi => ?_, t.inj, a⟩
  obtain ⟨h1, h2, h3, h4⟩ := t.row i hi
  exact ⟨h1.fr f (by omega), h2, h3, h4⟩
theorem ProgAt.fr {h h' : Heap} {lo hi l r : Nat} {p : Value} {n : Nat} {M : Nat → Nat → Bool} (t : ProgAt h lo hi p n M) (f : Fr l r h h') (hd : hi ≤ l ∨ r ≤ lo ∨ r ≤ l) : ProgAt h' lo hi p n M := by
  obtain ⟨hn, pb, rb, R, W, hv, ht⟩ := t; exact ⟨hn, pb, rb, R, W, hv, ht.fr f hd⟩
theorem ProgAt.mono {h : Heap} {lo hi lo' hi' : Nat} {p : Value} {n : Nat} {M : Nat → Nat → Bool} (t : ProgAt h lo hi p n M) (h1 : lo' ≤ lo) (h2 : hi ≤ hi') : ProgAt h lo' hi' p n M := by
  obtain ⟨hn, pb, rb, R, W, hv, ht⟩ := t
  have a := ht.at_
  refine ⟨hn, pb, rb, R, W, hv, ht.ptr, ht.rows, fun i hi => ?_, ht.inj, by omega⟩
  obtain ⟨g1, g2, g3, g4⟩ := ht.row i hi
  exact ⟨g1, by omega, by omega, g4⟩
theorem PTab.rowsGet {h : Heap} {lo hi pb rb n : Nat} {R : Nat → Nat} {W : Nat → Nat → Nat} {M : Nat → Nat → Bool} (t : PTab h lo hi pb rb n R W M) {i : Nat} (hi : i < n) : hcell h rb i = some (.slice (some ⟨R i, 0, none⟩) (nw n) (nw n)) := by
  rw [t.rows.cell]; simp [hi]
theorem ProgAt.congr {h : Heap} {lo hi : Nat} {p : Value} {n : Nat} {M M' : Nat → Nat → Bool} (t : ProgAt h lo hi p n M) (he : ∀ i j, i < n → j < n → M i j = M' i j) : ProgAt h lo hi p n M' := by
  obtain ⟨hn, pb, rb, R, W, hv, ht⟩ := t
  refine ⟨hn, pb, rb, R, W, hv, ht.ptr, ht.rows, fun i hi => ?_, ht.inj, ht.at_⟩
  obtain ⟨h1, h2, h3, h4, h5, h6⟩ := ht.row i hi
  refine ⟨h1, h2, h3, h4, h5, fun j => ⟨(h6 j).1, fun k hk => ?_⟩⟩
  rw [(h6 j).2 k hk]
  by_cases hjk : 64 * j + k < n
  · rw [he i _ hi hjk]
  · simp [hjk]
/-- A word of a row is written. -/
theorem PTab.upd {h h' : Heap} {lo hi pb rb n : Nat} {R : Nat → Nat} {W : Nat → Nat → Nat} {M : Nat → Nat → Bool} (t : PTab h lo hi pb rb n R W M) {x o : Nat} {v : Value} {w : Nat → Nat} {f : Nat → Bool} (hx : x < n) (st : Sto h h' (R x) o [v])
    (hw : (wrow (nw n) (W x)).set o v = wrow (nw n) w) (hb : Bits n w f) : PTab h' lo hi pb rb n R (fun i => if i = x then w else W i) (fun i => if i = x then f else M i) := by
  obtain ⟨g1, g2, g3, g4, g5, g6⟩ := t.row x hx
  refine ⟨st.rw t.ptr (Ne.symm g4), st.rw t.rows (Ne.symm g5), fun i hi => ?_, t.inj, t.at_⟩
  obtain ⟨h1, h2, h3, h4, h5, h6⟩ := t.row i hi
  by_cases hix : i = x
  · subst hix
    have := st.row h1
    rw [putAt_one, hw] at this
    simp only [if_true]
    exact ⟨this, h2, h3, h4, h5, hb⟩
  · simp only [if_neg hix]
    exact ⟨st.rw h1 (fun he => hix (t.inj i x hi hx he)), h2, h3, h4, h5, h6⟩
end Go.Vc
/-
  The lowest bit of a word.
-/
namespace Go.Vc
open Go
/-- k is x's lowest bit. -/
def Low (x k : Nat) : Prop := x.testBit k = true ∧ ∀ j, j < k → x.testBit j = false
theorem low_exists {x : Nat} (hx : x ≠ 0) : ∃ k, Low x k := by
  obtain ⟨i, hi⟩ := Nat.exists_testBit_of_ne_zero hx
  induction i using Nat.strongRecOn with
  | _ i ih =>
    by_cases h : ∃ j, j < i ∧ x.testBit j = true
    · obtain ⟨j, hj, hb⟩ := h; exact ih j hj hb
    · exact ⟨i, hi, fun j hj => by
        cases hb : x.testBit j with
        | false => rfl
        | true => exact absurd ⟨j, hj, hb⟩ h⟩
theorem Low.lt {x k w : Nat} (l : Low x k) (hx : x < 2 ^ w) : k < w := by
  apply Classical.byContradiction; intro h
  have := Nat.testBit_lt_two_pow (x := x) (i := k) (Nat.lt_of_lt_of_le hx (Nat.pow_le_pow_right (by decide) (by omega)))
  rw [l.1] at this; cases this
theorem Low.split {x k : Nat} (l : Low x k) : x = 2 ^ (k + 1) * (x / 2 ^ (k + 1)) + 2 ^ k := by
  have : x % 2 ^ (k + 1) = 2 ^ k := by
    apply Nat.eq_of_testBit_eq; intro i
    rw [Nat.testBit_mod_two_pow, Nat.testBit_two_pow]
    by_cases h1 : i < k
    · have : k ≠ i := by omega
      simp [l.2 i h1, this]
    · by_cases h2 : i = k
      · subst h2; simp [l.1]
      · have : ¬ i < k + 1 := by omega
        simp [this, Ne.symm h2]
  have h := Nat.div_add_mod x (2 ^ (k + 1))
  rw [this] at h; exact h.symm
theorem Low.pred {x k : Nat} (l : Low x k) (i : Nat) : (x - 1).testBit i = if i < k then true else if i = k then false else x.testBit i := by
  have hp : 0 < 2 ^ k := Nat.two_pow_pos k
  have hs := l.split
  have hd : 2 ^ (k + 1) = 2 * 2 ^ k := by rw [Nat.pow_succ, Nat.mul_comm]
  have e : x - 1 = 2 ^ (k + 1) * (x / 2 ^ (k + 1)) + (2 ^ k - 1) := by omega
  rw [e, Nat.testBit_two_pow_mul_add _ (by omega), Nat.testBit_two_pow_sub_one]
  by_cases h1 : i < k
  · simp [h1]; omega
  · by_cases h2 : i = k
    · subst h2; simp
    · have h3 : ¬ i < k + 1 := by omega
      rw [if_neg h3, if_neg h1, if_neg h2]
      conv => rhs; rw [hs]
      rw [Nat.testBit_two_pow_mul_add _ (by omega), if_neg h3]
/-- The lowest bit alone. -/
theorem Low.and_neg {x k : Nat} (l : Low x k) (hx : x < 2 ^ 64) : x &&& (2 ^ 64 - x) = 2 ^ k := by
  have h0 : 0 < x := by
    rcases Nat.eq_zero_or_pos x with rfl | h
    · have := l.1; simp at this
    · exact h
  apply Nat.eq_of_testBit_eq; intro i
  rw [Nat.testBit_and, show 2 ^ 64 - x = 2 ^ 64 - (x - 1 + 1) from by omega, Nat.testBit_two_pow_sub_succ (by omega), l.pred, Nat.testBit_two_pow]
  have hk := l.lt hx
  by_cases h1 : i < k
  · rw [l.2 i h1]; simp; omega
  · by_cases h2 : i = k
    · subst h2; simp [l.1, hk]
    · simp [h1, h2, Ne.symm h2]; exact fun h _ => h
/-- The lowest bit struck. -/
theorem Low.strike {x k : Nat} (l : Low x k) (i : Nat) : (x &&& (x - 1)).testBit i = (x.testBit i && decide (i ≠ k)) := by
  rw [Nat.testBit_and, l.pred]
  by_cases h1 : i < k
  · rw [l.2 i h1]; simp
  · by_cases h2 : i = k
    · subst h2; simp
    · simp [h1, h2]

/-- The table by which Go's library finds a lowest bit. -/
def tab64 : List Nat := [0, 1, 56, 2, 57, 49, 28, 3, 61, 58, 42, 50, 38, 29, 17, 4, 62, 47, 59, 36, 45, 43, 51, 22, 53, 39, 33, 30, 24, 18, 12, 5, 63, 55, 48, 27, 60, 41, 37, 16, 46, 35, 44, 21, 52, 32, 23, 11, 54, 26, 40, 15, 34, 20, 31, 10, 25, 14, 19, 9, 13, 8, 7, 6]
theorem tab64_at : ∀ k, k < 64 → tab64[(2 ^ k * 285870213051353865 % 2 ^ 64) / 2 ^ 58]? = some k := by decide
/-- It lies where the program keeps it. -/
def TabAt (h : Heap) : Prop := ∀ (i k : Nat), tab64[i]? = some k → hcell h 0 i = some (.int .u8 (k : Int))
theorem TabAt.fr {h h' : Heap} {l r : Nat} (t : TabAt h) (f : Fr l r h h') (hd : 0 < l ∨ r = 0) : TabAt h' := fun i k hk => f.keep (t i k hk) (by omega)
end Go.Vc
namespace Go.Vc
open Go
theorem neg64 (x y : Nat) (hy : x + y = 18446744073709551616) (hx : 0 < x) : IntKind.u64.wrap (0 - (x : Int)) = (y : Int) := by
  rw [IntKind.wrap_u64]; omega
theorem Low.and_neg' {x k y : Nat} (l : Low x k) (hy : x + y = 18446744073709551616) (hy0 : 0 < y) : x &&& y = 2 ^ k := by
  have h0 : 0 < x := by
    rcases Nat.eq_zero_or_pos x with rfl | h
    · have := l.1; simp at this
    · exact h
  have : y = 2 ^ 64 - x := by omega
  rw [this]; exact l.and_neg (by omega)
theorem mul64 (a b c : Nat) (hc : a * b % 18446744073709551616 = c) : IntKind.u64.wrap ((a : Int) * (b : Int)) = (c : Int) := by
  rw [IntKind.wrap_u64]; omega
end Go.Vc
namespace Go.Vc
open Go
/-- The places from q on, below N, where g is true. -/
def rest (g : Nat → Bool) (N q : Nat) : List Nat := (List.range' q (N - q)).filter g
theorem rest_end {g : Nat → Bool} {N q : Nat} (h : N ≤ q) : rest g N q = [] := by simp [rest, Nat.sub_eq_zero_of_le h]
theorem rest_step {g : Nat → Bool} {N q : Nat} (h : q < N) : rest g N q = if g q = true then q :: rest g N (q + 1) else rest g N (q + 1) := by
  unfold rest
  rw [show N - q = (N - (q + 1)) + 1 from by omega, List.range'_succ, List.filter_cons]
theorem rest_skip {g : Nat → Bool} {N q : Nat} : ∀ (d : Nat), q + d ≤ N → (∀ j, q ≤ j → j < q + d → g j = false) → rest g N q = rest g N (q + d)
  | 0, _, _ => rfl
  | d + 1, h, hg => by
    rw [rest_skip d (by omega) fun j h1 h2 => hg j h1 (by omega), rest_step (q := q + d) (by omega), if_neg (by rw [hg (q + d) (by omega) (by omega)]; simp)]
    rfl
theorem rest_congr {g g' : Nat → Bool} {N q : Nat} (h : ∀ j, q ≤ j → j < N → g j = g' j) : rest g N q = rest g' N q := by
  unfold rest; apply List.filter_congr; intro j hj; rw [List.mem_range'_1] at hj; exact h j (by omega) (by omega)
/-- A row's places, from its words. -/
def wbit (W : Nat → Nat) (p : Nat) : Bool := (W (p / 64)).testBit (p % 64)
end Go.Vc
namespace Go.Vc
open Go
/-! ### Book-keeping aside -/
theorem Ext.rw {B : Nat} {h h' : Heap} (x : Ext B h h') {b : Nat} {c : List Value} (r : Rw h b c) : Rw h' b c := by
  obtain ⟨t, r⟩ := r; exact ⟨t, x.old b _ r (.inr rfl)⟩
theorem Ext.cell {B : Nat} {h h' : Heap} (x : Ext B h h') {b o : Nat} {v : Value} (hc : hcell h b o = some v) : hcell h' b o = some v := ext_cell x hc
theorem Ext.holder {B : Nat} {h h' : Heap} (x : Ext B h h') {s : Nat} {v : Value} {n : Nat} {xs : List Value} {lo : Nat} (w : Holder s h v n xs lo) : Holder s h' v n xs lo := by
  obtain ⟨hl, h1 | ⟨b, c, rest, h1, h2, h3, h4⟩⟩ := w
  · exact ⟨hl, .inl h1⟩
  · exact ⟨hl, .inr ⟨b, c, rest, h1, x.rw h2, h3, h4⟩⟩
theorem Ext.rd {B : Nat} {h h' : Heap} (x : Ext B h h') {s : Nat} {v : Value} {n : Nat} {xs : List Value} (w : Rd s h v n xs) : Rd s h' v n xs := by
  obtain ⟨hl, a, c, h1, h2⟩ := w
  refine ⟨hl, a, c, h1, h2.imp_right ?_⟩
  rintro ⟨b, o, h3, h4⟩; exact ⟨b, o, h3, fun j y hj => x.cell (h4 j y hj)⟩
theorem Ext.fr {B : Nat} {h h1 h2 : Heap} (x : Ext B h1 h2) (f : Fr 0 0 h h1) (hB : h.size ≤ B) : Fr 0 0 h h2 := by
  refine ⟨Nat.le_trans f.size x.size, fun b hb hc => ?_⟩
  rw [← f.old b hb hc]
  have : b < h1.size := Nat.lt_of_lt_of_le hb f.size
  rw [x.old b h1[b] (by simp [this]) (.inl (by omega))]
  simp [this]
theorem Ext.tab {B : Nat} {h h' : Heap} (x : Ext B h h') (t : TabAt h) : TabAt h' := fun i k hk => x.cell (t i k hk)
theorem Ext.ptab {B : Nat} {h h' : Heap} (x : Ext B h h') {lo hi pb rb n : Nat} {R : Nat → Nat} {W : Nat → Nat → Nat} {M : Nat → Nat → Bool} (t : PTab h lo hi pb rb n R W M) : PTab h' lo hi pb rb n R W M :=
  ⟨x.rw t.ptr, x.rw t.rows, fun i hi => by obtain ⟨h1, h2⟩ := t.row i hi; exact ⟨x.rw h1, h2⟩, t.inj, t.at_⟩
theorem Ext.prog {B : Nat} {h h' : Heap} (x : Ext B h h') {lo hi : Nat} {p : Value} {n : Nat} {M : Nat → Nat → Bool} (t : ProgAt h lo hi p n M) : ProgAt h' lo hi p n M := by
  obtain ⟨hn, pb, rb, R, W, hv, ht⟩ := t; exact ⟨hn, pb, rb, R, W, hv, x.ptab ht⟩
/-- The places of a relation's row. -/
theorem rest_bits {n : Nat} {W : Nat → Nat} {f : Nat → Bool} (b : Bits n W f) : rest (wbit W) (64 * nw n) 0 = rest f n 0 := by
  have h1 : rest (wbit W) (64 * nw n) 0 = rest (fun q => decide (q < n) && f q) (64 * nw n) 0 := rest_congr fun j _ _ => by
    unfold wbit; rw [(b _).2 _ (by omega), show 64 * (j / 64) + j % 64 = j from by omega]
  rw [h1]
  unfold rest nw
  rw [Nat.sub_zero, Nat.sub_zero, show 64 * ((n + 63) / 64) = n + (64 * ((n + 63) / 64) - n) from by omega, ← List.range'_append_1, List.filter_append]
  have h2 : (List.range' (0 + n) (64 * ((n + 63) / 64) - n)).filter (fun q => decide (q < n) && f q) = [] := by
    apply List.filter_eq_nil_iff.2; intro q hq; rw [List.mem_range'_1] at hq; simp; omega
  rw [h2, List.append_nil]
  apply List.filter_congr; intro q hq; rw [List.mem_range'_1] at hq; simp; omega
/-- A relation's pairs, in order. -/
def pairsTo (n : Nat) (M : Nat → Nat → Bool) (k : Nat) : List (Int × Int) := (List.range k).flatMap fun (a : Nat) => (rest (M a) n 0).map fun (b : Nat) => ((a : Int), (b : Int))
def pairsOf (n : Nat) (M : Nat → Nat → Bool) : List (Int × Int) := pairsTo n M n
theorem pairsTo_succ (n : Nat) (M : Nat → Nat → Bool) (k : Nat) : pairsTo n M (k + 1) = pairsTo n M k ++ (rest (M k) n 0).map fun (b : Nat) => ((k : Int), (b : Int)) := by
  simp [pairsTo, List.range_succ]
end Go.Vc
namespace Go.Vc
theorem length_rest_le (g : Nat → Bool) (N q : Nat) : (rest g N q).length ≤ N - q := by
  unfold rest; refine Nat.le_trans (List.length_filter_le _ _) (by simp)
theorem length_pairsTo_le (n : Nat) (M : Nat → Nat → Bool) : ∀ k, (pairsTo n M k).length ≤ k * n
  | 0 => by simp [pairsTo]
  | k + 1 => by
    have := length_pairsTo_le n M k
    have := length_rest_le (M k) n 0
    rw [pairsTo_succ, List.length_append, List.length_map, Nat.succ_mul]; omega
end Go.Vc
namespace Go.Vc
theorem mem_rest {g : Nat → Bool} {N q x : Nat} : x ∈ rest g N q ↔ q ≤ x ∧ x < N ∧ g x = true := by
  unfold rest; rw [List.mem_filter, List.mem_range'_1]
  exact ⟨fun ⟨h, hg⟩ => ⟨by omega, by omega, hg⟩, fun ⟨h1, h2, hg⟩ => ⟨by omega, hg⟩⟩
theorem mem_pairsOf {n : Nat} {M : Nat → Nat → Bool} {p : Int × Int} : p ∈ pairsOf n M ↔ ∃ a b : Nat, a < n ∧ b < n ∧ M a b = true ∧ p = ((a : Int), (b : Int)) := by
  unfold pairsOf pairsTo
  simp only [List.mem_flatMap, List.mem_range, List.mem_map, mem_rest]
  constructor
  · rintro ⟨a, ha, b, ⟨_, hb, hm⟩, rfl⟩; exact ⟨a, b, ha, hb, hm, rfl⟩
  · rintro ⟨a, b, ha, hb, hm, rfl⟩; exact ⟨a, ha, b, ⟨by omega, hb, hm⟩, rfl⟩
end Go.Vc
namespace Go.Vc
theorem pairsTo_behind (n : Nat) (M : Nat → Nat → Bool) (a : Nat) : ∀ k, ((pairsTo n M k).filter fun p => p.1 == (a : Int)).map (fun p => p.2.toNat) = if a < k then rest (M a) n 0 else []
  | 0 => by simp [pairsTo]
  | k + 1 => by
    rw [pairsTo_succ, List.filter_append, List.map_append, pairsTo_behind n M a k]
    by_cases hk : k = a
    · subst hk
      have : ((rest (M k) n 0).map fun (b : Nat) => ((k : Int), (b : Int))).filter (fun p => p.1 == (k : Int)) = (rest (M k) n 0).map fun (b : Nat) => ((k : Int), (b : Int)) :=
        List.filter_eq_self.2 fun p hp => by obtain ⟨b, _, rfl⟩ := List.mem_map.1 hp; simp
      rw [this]
      simp [Function.comp_def]
    · have : ((rest (M k) n 0).map fun (b : Nat) => ((k : Int), (b : Int))).filter (fun p => p.1 == (a : Int)) = [] :=
        List.filter_eq_nil_iff.2 fun p hp => by obtain ⟨b, _, rfl⟩ := List.mem_map.1 hp; simp; omega
      rw [this, List.map_nil, List.append_nil]
      have e : (a < k + 1) = (a < k) := by simp; omega
      simp [e]
theorem rest_count (g : Nat → Bool) (n q : Nat) (hq : q < n) : (rest g n 0).countP (fun (b : Nat) => (b : Int) == (q : Int)) = (g q).toNat := by
  have hnd : (rest g n 0).Nodup := by unfold rest; exact List.Nodup.sublist List.filter_sublist (List.nodup_range')
  have e : (fun b : Nat => (b : Int) == (q : Int)) = fun b => b == q := by funext b; rw [Bool.eq_iff_iff]; simp; omega
  rw [e]
  show (rest g n 0).count q = _
  rw [hnd.count]
  by_cases hm : q ∈ rest g n 0
  · rw [if_pos hm, (mem_rest.1 hm).2.2]; rfl
  · rw [if_neg hm]
    cases hg : g q with
    | false => rfl
    | true => exact absurd (mem_rest.2 ⟨by omega, hq, hg⟩) hm
theorem pairsTo_waits (n : Nat) (M : Nat → Nat → Bool) (q : Nat) (hq : q < n) : ∀ k, (pairsTo n M k).countP (fun p => p.2 == (q : Int)) = (List.range k).countP fun a => M a q
  | 0 => by simp [pairsTo]
  | k + 1 => by
    rw [pairsTo_succ, List.countP_append, pairsTo_waits n M q hq k, List.range_succ, List.countP_append, List.countP_map]
    have := rest_count (M k) n q hq
    simp only [Function.comp_def]
    rw [this, List.countP_singleton]
    cases M k q <;> rfl
end Go.Vc
namespace Go.Vc
open Go
theorem q_nil (xs ys : Array Value) (K : Bool → Prop) : eqCells [] xs ys K = K true := (rfl)
theorem q_cons (o : Nat) (os : List Nat) (xs ys : Array Value) (K : Bool → Prop) : eqCells (o :: os) xs ys K = withI xs[o]? fun k n => withI ys[o]? fun k' m => Chk (k = k') (eqCells os xs ys fun b => K ((n == m) && b)) := (rfl)
theorem n_p0 (q : Option Addr) (K : Bool → Prop) : eqNilV false (.pointer none) (.pointer q) K = K q.isNone := (rfl)
theorem n_p1 (a : Addr) (K : Bool → Prop) : eqNilV false (.pointer (some a)) (.pointer none) K = K false := (rfl)
theorem n_s0 (n c m d : Nat) (q : Option Addr) (K : Bool → Prop) : eqNilV true (.slice none n c) (.slice q m d) K = K q.isNone := (rfl)
theorem n_s1 (a : Addr) (n c m d : Nat) (K : Bool → Prop) : eqNilV true (.slice (some a) n c) (.slice none m d) K = K false := (rfl)
attribute [go_sem ↓] q_nil q_cons n_p0 n_p1 n_s0 n_s1
attribute [go_sem] Option.isNone_none Option.isNone_some
theorem withC_of {h : Heap} {b : Nat} : ∀ (xs : List Value) (o : Nat) {K : List Value → Prop}, (∀ (j : Nat) x, xs[j]? = some x → hcell h b (o + j) = some x) → K xs → withC h b o xs.length K
  | [], _, _, _, hk => hk
  | x :: xs, o, K, hc, hk => by
    show withV (hcell h b o) _
    have h0 := hc 0 x rfl
    rw [Nat.add_zero] at h0
    rw [h0]
    exact withC_of xs (o + 1) (K := fun vs => K (x :: vs)) (fun j y hj => by rw [Nat.add_assoc, Nat.add_comm 1 j]; exact hc (j + 1) y hj) hk
/-- What is appended to it out of a slice that is read. -/
theorem Holder.appendRd {s bytes : Nat} {zero : List Value} {h : Heap} {a a' : Option Addr} {n c m c' : Nat} {ys xs : List Value} {lo : Nat} {K : Value → Heap → Prop} {d1 d2 : Dep K}
    {d5 : Dep (appB s bytes zero h a n c [] m K d1)} {d3 : (new : List Value) → Dep (appB s bytes zero h a n c new m K d2)}
    {d4 : Dep fun b' o' => withC h b' o' (m * s) fun new => Chk (new.all Value.oneCell' = true) (appB s bytes zero h a n c new m K d2) (d3 new)} {d6 : Dep (withAd a' (fun b' o' => withC h b' o' (m * s) fun new => Chk (new.all Value.oneCell' = true) (appB s bytes zero h a n c new m K d2) (d3 new)) d4)}
    (w : Holder s h (.slice a n c) n ys lo) (r : Rd s h (.slice a' m c') m xs) (hs : 0 < s) (hz : zero.length = s) (hlo : lo ≤ h.size) (hoc : xs.all Value.oneCell' = true) (hbig : (n + m) * 2 * bytes ≤ 281474976710656)
    (hK : ∀ v' h', Holder s h' v' (n + m) (ys ++ xs) lo → Fr (bl (.slice a n c)) (bh (.slice a n c)) h h' → bl v' = bl (.slice a n c) ∧ h'.size = h.size ∨ bl v' = h.size ∧ h'.size = h.size + 1 ∨ bh v' = 0 ∧ h' = h → K v' h') :
    If (m = 0) (appB s bytes zero h a n c [] m K d1) (withAd a' (fun b' o' => withC h b' o' (m * s) fun new => Chk (new.all Value.oneCell' = true) (appB s bytes zero h a n c new m K d2) (d3 new)) d4) d5 d6 := by
  have hl := r.1
  refine ⟨fun h0 => ?_, fun h0 => ?_⟩
  · have : xs = [] := List.length_eq_zero_iff.1 (by rw [hl, h0, Nat.zero_mul])
    subst this
    exact w.append hs hz hlo (by simp [h0]) hbig hK
  · refine r.idx (by omega) fun b o hc => ?_
    rw [← hl]
    exact withC_of xs o hc ⟨hoc, w.append hs hz hlo hl hbig hK⟩
theorem oc_ints (l : List Int) : (intsV l).all Value.oneCell' = true := by simp [intsV, Value.oneCell', List.all_eq_true]
theorem oc_pairs : ∀ l : List (Int × Int), (pairsV l).all Value.oneCell' = true
  | [] => rfl
  | p :: l => by rw [pairsV_cons]; simp only [List.all_cons, oc_pairs l, Bool.and_true]; rfl
end Go.Vc
