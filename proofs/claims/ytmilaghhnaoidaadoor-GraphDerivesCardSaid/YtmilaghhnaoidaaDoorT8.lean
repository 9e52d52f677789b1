/-
  Contracts of functions that the law reaches: what each returns and what it leaves in memory. Conditions stand in each.
-/
import Derived.Test.YtmilaghhnaoidaaDoorT7
set_option linter.all false
set_option maxRecDepth 2000
/-
  whole: are facts the document's?
-/
namespace Go.Proofs.Tst
open Go Go.Vc
def tV (v : Value) : Tell := tell1 fun u _ _ _ => u = v
def tR (n : Nat) (M : Nat → Nat → Bool) : Tell := tell1 fun v a b h => RefAt h a b v n M
def tD (n : Nat) (xs : List Value) : Tell := tell1 fun v _ _ h => Rd 1 h v n xs
theorem stV (v : Value) : Stab (tV v) := Stab.one fun _ _ _ _ _ _ t => t
theorem stR (n : Nat) (M : Nat → Nat → Bool) : Stab (tR n M) := Stab.one fun _ _ _ _ _ f t => t.fr f (by omega)
theorem stD (n : Nat) (xs : List Value) : Stab (tD n xs) := Stab.one fun _ _ _ _ _ f t => t.fr f
def fext (V : Nat → Out) : List FI → Env → Env
  | [], e => e
  | i :: l, e => fext V l (match i.g.dst with | some d => (d, (V i.g.idx).1) :: e | none => e)
theorem free_introD {P : Program} {y : Option Nat} {D : List Nat} {l : List FI} {e : Env} {h : Heap} {K : Env → Heap → Prop} {d : Dep K} (D' : List Nat) (hD : D = D') (A : Tells) (h1 : StabL A) (h2 : namesOk A l = true) (h3 : freeOps P y A D' h e l) (h4 : ∀ h', Fr 0 0 h h' → ∀ V, Sep V h.size h'.size l → freeEnd A V h' l (drp D' e) fun e' => K e' h') : freeVC P y D l e h K d := by
  subst hD; exact free_intro A h1 h2 h3 h4
theorem freeEnd_of {A : Tells} {V : Nat → Out} {h : Heap} {K : Env → Prop} : ∀ {l : List FI} {e : Env}, ((∀ f ∈ l, tells A f.g.idx V h) → K (fext V l e)) → freeEnd A V h l e K
  | [], e, hk => hk (by simp)
  | i :: l, e, hk => by
    unfold freeEnd
    cases hd : i.g.dst with
    | some d =>
      intro ht
      refine freeEnd_of fun h2 => ?_
      have := hk fun f hf => (by
        rcases List.mem_cons.1 hf with rfl | hf
        · exact ht
        · exact h2 f hf)
      unfold fext at this; rw [hd] at this; exact this
    | none =>
      intro ht
      refine freeEnd_of fun h2 => ?_
      have := hk fun f hf => (by
        rcases List.mem_cons.1 hf with rfl | hf
        · exact ht
        · exact h2 f hf)
      unfold fext at this; rw [hd] at this; exact this
def whA (p : Nat → Value) (ra wa fa : Option Addr) (rc wc fc : Nat) (q : GV) (g : Gr) (b2 b3 : Nat) : Tells := [(0, [0], tV (.pointer (some ⟨b2, 0 + 0, none⟩))), (1, [1], tV (p 0)), (2, [2], tV (.agg (gcells q g).toArray)), (3, [3], tR g.n (relM g 0)), (4, [4], tV (.bool true)), (5, [5], tV (.bool true)), (6, [6], tV (.pointer (some ⟨b2, 0 + 1, none⟩))), (7, [7], tV (p 1)), (8, [8], tV (.agg (gcells q g).toArray)), (9, [9], tR g.n (relM g 1)), (10, [10], tV (.bool true)), (11, [11], tV (.bool true)), (12, [12], tV (.bool true)), (13, [13], tV (.pointer (some ⟨b2, 0 + 2, none⟩))), (14, [14], tV (p 2)), (15, [15], tV (.agg (gcells q g).toArray)), (16, [16], tR g.n (relM g 2)), (17, [17], tV (.bool true)), (18, [18], tV (.bool true)), (19, [19], tV (.bool true)), (20, [20], tV (.pointer (some ⟨b2, 0 + 3, none⟩))), (21, [21], tV (p 9)), (22, [22], tV (.agg (gcells q g).toArray)), (23, [23], tR g.n (relM g 9)), (24, [24], tV (.bool true)), (25, [25], tV (.bool true)), (26, [26], tV (.bool true)), (27, [27], tV (.pointer (some ⟨b2, 0 + 4, none⟩))), (28, [28], tV (p 3)), (29, [29], tV (.agg (gcells q g).toArray)), (30, [30], tR g.n (relM g 3)), (31, [31], tV (.bool true)), (32, [32], tV (.bool true)), (33, [33], tV (.bool true)), (34, [34], tV (.pointer (some ⟨b2, 0 + 5, none⟩))), (35, [35], tV (p 4)), (36, [36], tV (.agg (gcells q g).toArray)), (37, [37], tR g.n (relM g 4)), (38, [38], tV (.bool true)), (39, [39], tV (.bool true)), (40, [40], tV (.bool true)), (41, [41], tV (.pointer (some ⟨b2, 0 + 6, none⟩))), (42, [42], tV (p 5)), (43, [43], tV (.agg (gcells q g).toArray)), (44, [44], tR g.n (relM g 5)), (45, [45], tV (.bool true)), (46, [46], tV (.bool true)), (47, [47], tV (.bool true)), (48, [48], tV (.pointer (some ⟨b2, 0 + 7, none⟩))), (49, [49], tV (p 6)), (50, [50], tV (.agg (gcells q g).toArray)), (51, [51], tV (.pointer (some ⟨b3, 0 + 5, none⟩))), (52, [52], tV (.slice q.a g.addr.length q.ac)), (53, [53], tR g.n (ofM g.n g.addr)), (54, [54], tV (.bool true)), (55, [55], tV (.bool true)), (56, [56], tV (.bool true)), (57, [57], tV (.pointer (some ⟨b2, 0 + 8, none⟩))), (58, [58], tV (p 7)), (59, [59], tV (.agg (gcells q g).toArray)), (60, [60], tV (.pointer (some ⟨b3, 0 + 6, none⟩))), (61, [61], tV (.slice q.d g.data.length q.dc)), (62, [62], tR g.n (ofM g.n g.data)), (63, [63], tV (.bool true)), (64, [64], tV (.bool true)), (65, [65], tV (.bool true)), (66, [66], tV (.pointer (some ⟨b2, 0 + 9, none⟩))), (67, [67], tV (p 8)), (68, [68], tV (.agg (gcells q g).toArray)), (69, [69], tV (.pointer (some ⟨b3, 0 + 7, none⟩))), (70, [70], tV (.slice q.c g.ctrl.length q.cc)), (71, [71], tR g.n (ofM g.n g.ctrl)), (72, [72], tV (.bool true)), (73, [73], tV (.bool true)), (74, [74], tV (.bool true)), (75, [75], tV (.pointer (some ⟨b2, 0 + 10, none⟩))), (76, [76], tV (.slice ra g.n rc)), (77, [77], tV (.agg (gcells q g).toArray)), (78, [78], tD g.n (boolsV (kindsV g 1 g.n))), (79, [79], tV (.bool true)), (80, [80], tV (.bool true)), (81, [81], tV (.bool true)), (82, [82], tV (.pointer (some ⟨b2, 0 + 11, none⟩))), (83, [83], tV (.slice wa g.n wc)), (84, [84], tV (.agg (gcells q g).toArray)), (85, [85], tD g.n (boolsV (kindsV g 2 g.n))), (86, [86], tV (.bool true)), (87, [87], tV (.bool true)), (88, [88], tV (.bool true)), (89, [89], tV (.pointer (some ⟨b2, 0 + 12, none⟩))), (90, [90], tV (.slice fa g.n fc)), (91, [91], tV (.agg (gcells q g).toArray)), (92, [92], tD g.n (boolsV (kindsV g 3 g.n))), (93, [93], tV (.bool true)), (94, [94], tV (.bool true)), (95, [95], tV (.bool true))]
theorem wt_0 (p : Nat → Value) (ra wa fa : Option Addr) (rc wc fc : Nat) (q : GV) (g : Gr) (b2 b3 : Nat) (V : Nat → Out) (h : Heap) : tells (whA p ra wa fa rc wc fc q g b2 b3) 0 V h = ((V 0).1 = (.pointer (some ⟨b2, 0 + 0, none⟩))) := (rfl)
theorem wt_1 (p : Nat → Value) (ra wa fa : Option Addr) (rc wc fc : Nat) (q : GV) (g : Gr) (b2 b3 : Nat) (V : Nat → Out) (h : Heap) : tells (whA p ra wa fa rc wc fc q g b2 b3) 1 V h = ((V 1).1 = (p 0)) := (rfl)
theorem wt_2 (p : Nat → Value) (ra wa fa : Option Addr) (rc wc fc : Nat) (q : GV) (g : Gr) (b2 b3 : Nat) (V : Nat → Out) (h : Heap) : tells (whA p ra wa fa rc wc fc q g b2 b3) 2 V h = ((V 2).1 = (.agg (gcells q g).toArray)) := (rfl)
theorem wt_3 (p : Nat → Value) (ra wa fa : Option Addr) (rc wc fc : Nat) (q : GV) (g : Gr) (b2 b3 : Nat) (V : Nat → Out) (h : Heap) : tells (whA p ra wa fa rc wc fc q g b2 b3) 3 V h = (RefAt h (V 3).2.1 (V 3).2.2 (V 3).1 g.n (relM g 0)) := (rfl)
theorem wt_4 (p : Nat → Value) (ra wa fa : Option Addr) (rc wc fc : Nat) (q : GV) (g : Gr) (b2 b3 : Nat) (V : Nat → Out) (h : Heap) : tells (whA p ra wa fa rc wc fc q g b2 b3) 4 V h = ((V 4).1 = (.bool true)) := (rfl)
theorem wt_5 (p : Nat → Value) (ra wa fa : Option Addr) (rc wc fc : Nat) (q : GV) (g : Gr) (b2 b3 : Nat) (V : Nat → Out) (h : Heap) : tells (whA p ra wa fa rc wc fc q g b2 b3) 5 V h = ((V 5).1 = (.bool true)) := (rfl)
theorem wt_6 (p : Nat → Value) (ra wa fa : Option Addr) (rc wc fc : Nat) (q : GV) (g : Gr) (b2 b3 : Nat) (V : Nat → Out) (h : Heap) : tells (whA p ra wa fa rc wc fc q g b2 b3) 6 V h = ((V 6).1 = (.pointer (some ⟨b2, 0 + 1, none⟩))) := (rfl)
theorem wt_7 (p : Nat → Value) (ra wa fa : Option Addr) (rc wc fc : Nat) (q : GV) (g : Gr) (b2 b3 : Nat) (V : Nat → Out) (h : Heap) : tells (whA p ra wa fa rc wc fc q g b2 b3) 7 V h = ((V 7).1 = (p 1)) := (rfl)
theorem wt_8 (p : Nat → Value) (ra wa fa : Option Addr) (rc wc fc : Nat) (q : GV) (g : Gr) (b2 b3 : Nat) (V : Nat → Out) (h : Heap) : tells (whA p ra wa fa rc wc fc q g b2 b3) 8 V h = ((V 8).1 = (.agg (gcells q g).toArray)) := (rfl)
theorem wt_9 (p : Nat → Value) (ra wa fa : Option Addr) (rc wc fc : Nat) (q : GV) (g : Gr) (b2 b3 : Nat) (V : Nat → Out) (h : Heap) : tells (whA p ra wa fa rc wc fc q g b2 b3) 9 V h = (RefAt h (V 9).2.1 (V 9).2.2 (V 9).1 g.n (relM g 1)) := (rfl)
theorem wt_10 (p : Nat → Value) (ra wa fa : Option Addr) (rc wc fc : Nat) (q : GV) (g : Gr) (b2 b3 : Nat) (V : Nat → Out) (h : Heap) : tells (whA p ra wa fa rc wc fc q g b2 b3) 10 V h = ((V 10).1 = (.bool true)) := (rfl)
theorem wt_11 (p : Nat → Value) (ra wa fa : Option Addr) (rc wc fc : Nat) (q : GV) (g : Gr) (b2 b3 : Nat) (V : Nat → Out) (h : Heap) : tells (whA p ra wa fa rc wc fc q g b2 b3) 11 V h = ((V 11).1 = (.bool true)) := (rfl)
theorem wt_12 (p : Nat → Value) (ra wa fa : Option Addr) (rc wc fc : Nat) (q : GV) (g : Gr) (b2 b3 : Nat) (V : Nat → Out) (h : Heap) : tells (whA p ra wa fa rc wc fc q g b2 b3) 12 V h = ((V 12).1 = (.bool true)) := (rfl)
theorem wt_13 (p : Nat → Value) (ra wa fa : Option Addr) (rc wc fc : Nat) (q : GV) (g : Gr) (b2 b3 : Nat) (V : Nat → Out) (h : Heap) : tells (whA p ra wa fa rc wc fc q g b2 b3) 13 V h = ((V 13).1 = (.pointer (some ⟨b2, 0 + 2, none⟩))) := (rfl)
theorem wt_14 (p : Nat → Value) (ra wa fa : Option Addr) (rc wc fc : Nat) (q : GV) (g : Gr) (b2 b3 : Nat) (V : Nat → Out) (h : Heap) : tells (whA p ra wa fa rc wc fc q g b2 b3) 14 V h = ((V 14).1 = (p 2)) := (rfl)
theorem wt_15 (p : Nat → Value) (ra wa fa : Option Addr) (rc wc fc : Nat) (q : GV) (g : Gr) (b2 b3 : Nat) (V : Nat → Out) (h : Heap) : tells (whA p ra wa fa rc wc fc q g b2 b3) 15 V h = ((V 15).1 = (.agg (gcells q g).toArray)) := (rfl)
theorem wt_16 (p : Nat → Value) (ra wa fa : Option Addr) (rc wc fc : Nat) (q : GV) (g : Gr) (b2 b3 : Nat) (V : Nat → Out) (h : Heap) : tells (whA p ra wa fa rc wc fc q g b2 b3) 16 V h = (RefAt h (V 16).2.1 (V 16).2.2 (V 16).1 g.n (relM g 2)) := (rfl)
theorem wt_17 (p : Nat → Value) (ra wa fa : Option Addr) (rc wc fc : Nat) (q : GV) (g : Gr) (b2 b3 : Nat) (V : Nat → Out) (h : Heap) : tells (whA p ra wa fa rc wc fc q g b2 b3) 17 V h = ((V 17).1 = (.bool true)) := (rfl)
theorem wt_18 (p : Nat → Value) (ra wa fa : Option Addr) (rc wc fc : Nat) (q : GV) (g : Gr) (b2 b3 : Nat) (V : Nat → Out) (h : Heap) : tells (whA p ra wa fa rc wc fc q g b2 b3) 18 V h = ((V 18).1 = (.bool true)) := (rfl)
theorem wt_19 (p : Nat → Value) (ra wa fa : Option Addr) (rc wc fc : Nat) (q : GV) (g : Gr) (b2 b3 : Nat) (V : Nat → Out) (h : Heap) : tells (whA p ra wa fa rc wc fc q g b2 b3) 19 V h = ((V 19).1 = (.bool true)) := (rfl)
theorem wt_20 (p : Nat → Value) (ra wa fa : Option Addr) (rc wc fc : Nat) (q : GV) (g : Gr) (b2 b3 : Nat) (V : Nat → Out) (h : Heap) : tells (whA p ra wa fa rc wc fc q g b2 b3) 20 V h = ((V 20).1 = (.pointer (some ⟨b2, 0 + 3, none⟩))) := (rfl)
theorem wt_21 (p : Nat → Value) (ra wa fa : Option Addr) (rc wc fc : Nat) (q : GV) (g : Gr) (b2 b3 : Nat) (V : Nat → Out) (h : Heap) : tells (whA p ra wa fa rc wc fc q g b2 b3) 21 V h = ((V 21).1 = (p 9)) := (rfl)
theorem wt_22 (p : Nat → Value) (ra wa fa : Option Addr) (rc wc fc : Nat) (q : GV) (g : Gr) (b2 b3 : Nat) (V : Nat → Out) (h : Heap) : tells (whA p ra wa fa rc wc fc q g b2 b3) 22 V h = ((V 22).1 = (.agg (gcells q g).toArray)) := (rfl)
theorem wt_23 (p : Nat → Value) (ra wa fa : Option Addr) (rc wc fc : Nat) (q : GV) (g : Gr) (b2 b3 : Nat) (V : Nat → Out) (h : Heap) : tells (whA p ra wa fa rc wc fc q g b2 b3) 23 V h = (RefAt h (V 23).2.1 (V 23).2.2 (V 23).1 g.n (relM g 9)) := (rfl)
theorem wt_24 (p : Nat → Value) (ra wa fa : Option Addr) (rc wc fc : Nat) (q : GV) (g : Gr) (b2 b3 : Nat) (V : Nat → Out) (h : Heap) : tells (whA p ra wa fa rc wc fc q g b2 b3) 24 V h = ((V 24).1 = (.bool true)) := (rfl)
theorem wt_25 (p : Nat → Value) (ra wa fa : Option Addr) (rc wc fc : Nat) (q : GV) (g : Gr) (b2 b3 : Nat) (V : Nat → Out) (h : Heap) : tells (whA p ra wa fa rc wc fc q g b2 b3) 25 V h = ((V 25).1 = (.bool true)) := (rfl)
theorem wt_26 (p : Nat → Value) (ra wa fa : Option Addr) (rc wc fc : Nat) (q : GV) (g : Gr) (b2 b3 : Nat) (V : Nat → Out) (h : Heap) : tells (whA p ra wa fa rc wc fc q g b2 b3) 26 V h = ((V 26).1 = (.bool true)) := (rfl)
theorem wt_27 (p : Nat → Value) (ra wa fa : Option Addr) (rc wc fc : Nat) (q : GV) (g : Gr) (b2 b3 : Nat) (V : Nat → Out) (h : Heap) : tells (whA p ra wa fa rc wc fc q g b2 b3) 27 V h = ((V 27).1 = (.pointer (some ⟨b2, 0 + 4, none⟩))) := (rfl)
theorem wt_28 (p : Nat → Value) (ra wa fa : Option Addr) (rc wc fc : Nat) (q : GV) (g : Gr) (b2 b3 : Nat) (V : Nat → Out) (h : Heap) : tells (whA p ra wa fa rc wc fc q g b2 b3) 28 V h = ((V 28).1 = (p 3)) := (rfl)
theorem wt_29 (p : Nat → Value) (ra wa fa : Option Addr) (rc wc fc : Nat) (q : GV) (g : Gr) (b2 b3 : Nat) (V : Nat → Out) (h : Heap) : tells (whA p ra wa fa rc wc fc q g b2 b3) 29 V h = ((V 29).1 = (.agg (gcells q g).toArray)) := (rfl)
theorem wt_30 (p : Nat → Value) (ra wa fa : Option Addr) (rc wc fc : Nat) (q : GV) (g : Gr) (b2 b3 : Nat) (V : Nat → Out) (h : Heap) : tells (whA p ra wa fa rc wc fc q g b2 b3) 30 V h = (RefAt h (V 30).2.1 (V 30).2.2 (V 30).1 g.n (relM g 3)) := (rfl)
theorem wt_31 (p : Nat → Value) (ra wa fa : Option Addr) (rc wc fc : Nat) (q : GV) (g : Gr) (b2 b3 : Nat) (V : Nat → Out) (h : Heap) : tells (whA p ra wa fa rc wc fc q g b2 b3) 31 V h = ((V 31).1 = (.bool true)) := (rfl)
theorem wt_32 (p : Nat → Value) (ra wa fa : Option Addr) (rc wc fc : Nat) (q : GV) (g : Gr) (b2 b3 : Nat) (V : Nat → Out) (h : Heap) : tells (whA p ra wa fa rc wc fc q g b2 b3) 32 V h = ((V 32).1 = (.bool true)) := (rfl)
theorem wt_33 (p : Nat → Value) (ra wa fa : Option Addr) (rc wc fc : Nat) (q : GV) (g : Gr) (b2 b3 : Nat) (V : Nat → Out) (h : Heap) : tells (whA p ra wa fa rc wc fc q g b2 b3) 33 V h = ((V 33).1 = (.bool true)) := (rfl)
theorem wt_34 (p : Nat → Value) (ra wa fa : Option Addr) (rc wc fc : Nat) (q : GV) (g : Gr) (b2 b3 : Nat) (V : Nat → Out) (h : Heap) : tells (whA p ra wa fa rc wc fc q g b2 b3) 34 V h = ((V 34).1 = (.pointer (some ⟨b2, 0 + 5, none⟩))) := (rfl)
theorem wt_35 (p : Nat → Value) (ra wa fa : Option Addr) (rc wc fc : Nat) (q : GV) (g : Gr) (b2 b3 : Nat) (V : Nat → Out) (h : Heap) : tells (whA p ra wa fa rc wc fc q g b2 b3) 35 V h = ((V 35).1 = (p 4)) := (rfl)
theorem wt_36 (p : Nat → Value) (ra wa fa : Option Addr) (rc wc fc : Nat) (q : GV) (g : Gr) (b2 b3 : Nat) (V : Nat → Out) (h : Heap) : tells (whA p ra wa fa rc wc fc q g b2 b3) 36 V h = ((V 36).1 = (.agg (gcells q g).toArray)) := (rfl)
theorem wt_37 (p : Nat → Value) (ra wa fa : Option Addr) (rc wc fc : Nat) (q : GV) (g : Gr) (b2 b3 : Nat) (V : Nat → Out) (h : Heap) : tells (whA p ra wa fa rc wc fc q g b2 b3) 37 V h = (RefAt h (V 37).2.1 (V 37).2.2 (V 37).1 g.n (relM g 4)) := (rfl)
theorem wt_38 (p : Nat → Value) (ra wa fa : Option Addr) (rc wc fc : Nat) (q : GV) (g : Gr) (b2 b3 : Nat) (V : Nat → Out) (h : Heap) : tells (whA p ra wa fa rc wc fc q g b2 b3) 38 V h = ((V 38).1 = (.bool true)) := (rfl)
theorem wt_39 (p : Nat → Value) (ra wa fa : Option Addr) (rc wc fc : Nat) (q : GV) (g : Gr) (b2 b3 : Nat) (V : Nat → Out) (h : Heap) : tells (whA p ra wa fa rc wc fc q g b2 b3) 39 V h = ((V 39).1 = (.bool true)) := (rfl)
theorem wt_40 (p : Nat → Value) (ra wa fa : Option Addr) (rc wc fc : Nat) (q : GV) (g : Gr) (b2 b3 : Nat) (V : Nat → Out) (h : Heap) : tells (whA p ra wa fa rc wc fc q g b2 b3) 40 V h = ((V 40).1 = (.bool true)) := (rfl)
theorem wt_41 (p : Nat → Value) (ra wa fa : Option Addr) (rc wc fc : Nat) (q : GV) (g : Gr) (b2 b3 : Nat) (V : Nat → Out) (h : Heap) : tells (whA p ra wa fa rc wc fc q g b2 b3) 41 V h = ((V 41).1 = (.pointer (some ⟨b2, 0 + 6, none⟩))) := (rfl)
theorem wt_42 (p : Nat → Value) (ra wa fa : Option Addr) (rc wc fc : Nat) (q : GV) (g : Gr) (b2 b3 : Nat) (V : Nat → Out) (h : Heap) : tells (whA p ra wa fa rc wc fc q g b2 b3) 42 V h = ((V 42).1 = (p 5)) := (rfl)
theorem wt_43 (p : Nat → Value) (ra wa fa : Option Addr) (rc wc fc : Nat) (q : GV) (g : Gr) (b2 b3 : Nat) (V : Nat → Out) (h : Heap) : tells (whA p ra wa fa rc wc fc q g b2 b3) 43 V h = ((V 43).1 = (.agg (gcells q g).toArray)) := (rfl)
theorem wt_44 (p : Nat → Value) (ra wa fa : Option Addr) (rc wc fc : Nat) (q : GV) (g : Gr) (b2 b3 : Nat) (V : Nat → Out) (h : Heap) : tells (whA p ra wa fa rc wc fc q g b2 b3) 44 V h = (RefAt h (V 44).2.1 (V 44).2.2 (V 44).1 g.n (relM g 5)) := (rfl)
theorem wt_45 (p : Nat → Value) (ra wa fa : Option Addr) (rc wc fc : Nat) (q : GV) (g : Gr) (b2 b3 : Nat) (V : Nat → Out) (h : Heap) : tells (whA p ra wa fa rc wc fc q g b2 b3) 45 V h = ((V 45).1 = (.bool true)) := (rfl)
theorem wt_46 (p : Nat → Value) (ra wa fa : Option Addr) (rc wc fc : Nat) (q : GV) (g : Gr) (b2 b3 : Nat) (V : Nat → Out) (h : Heap) : tells (whA p ra wa fa rc wc fc q g b2 b3) 46 V h = ((V 46).1 = (.bool true)) := (rfl)
theorem wt_47 (p : Nat → Value) (ra wa fa : Option Addr) (rc wc fc : Nat) (q : GV) (g : Gr) (b2 b3 : Nat) (V : Nat → Out) (h : Heap) : tells (whA p ra wa fa rc wc fc q g b2 b3) 47 V h = ((V 47).1 = (.bool true)) := (rfl)
theorem wt_48 (p : Nat → Value) (ra wa fa : Option Addr) (rc wc fc : Nat) (q : GV) (g : Gr) (b2 b3 : Nat) (V : Nat → Out) (h : Heap) : tells (whA p ra wa fa rc wc fc q g b2 b3) 48 V h = ((V 48).1 = (.pointer (some ⟨b2, 0 + 7, none⟩))) := (rfl)
theorem wt_49 (p : Nat → Value) (ra wa fa : Option Addr) (rc wc fc : Nat) (q : GV) (g : Gr) (b2 b3 : Nat) (V : Nat → Out) (h : Heap) : tells (whA p ra wa fa rc wc fc q g b2 b3) 49 V h = ((V 49).1 = (p 6)) := (rfl)
theorem wt_50 (p : Nat → Value) (ra wa fa : Option Addr) (rc wc fc : Nat) (q : GV) (g : Gr) (b2 b3 : Nat) (V : Nat → Out) (h : Heap) : tells (whA p ra wa fa rc wc fc q g b2 b3) 50 V h = ((V 50).1 = (.agg (gcells q g).toArray)) := (rfl)
theorem wt_51 (p : Nat → Value) (ra wa fa : Option Addr) (rc wc fc : Nat) (q : GV) (g : Gr) (b2 b3 : Nat) (V : Nat → Out) (h : Heap) : tells (whA p ra wa fa rc wc fc q g b2 b3) 51 V h = ((V 51).1 = (.pointer (some ⟨b3, 0 + 5, none⟩))) := (rfl)
theorem wt_52 (p : Nat → Value) (ra wa fa : Option Addr) (rc wc fc : Nat) (q : GV) (g : Gr) (b2 b3 : Nat) (V : Nat → Out) (h : Heap) : tells (whA p ra wa fa rc wc fc q g b2 b3) 52 V h = ((V 52).1 = (.slice q.a g.addr.length q.ac)) := (rfl)
theorem wt_53 (p : Nat → Value) (ra wa fa : Option Addr) (rc wc fc : Nat) (q : GV) (g : Gr) (b2 b3 : Nat) (V : Nat → Out) (h : Heap) : tells (whA p ra wa fa rc wc fc q g b2 b3) 53 V h = (RefAt h (V 53).2.1 (V 53).2.2 (V 53).1 g.n (ofM g.n g.addr)) := (rfl)
theorem wt_54 (p : Nat → Value) (ra wa fa : Option Addr) (rc wc fc : Nat) (q : GV) (g : Gr) (b2 b3 : Nat) (V : Nat → Out) (h : Heap) : tells (whA p ra wa fa rc wc fc q g b2 b3) 54 V h = ((V 54).1 = (.bool true)) := (rfl)
theorem wt_55 (p : Nat → Value) (ra wa fa : Option Addr) (rc wc fc : Nat) (q : GV) (g : Gr) (b2 b3 : Nat) (V : Nat → Out) (h : Heap) : tells (whA p ra wa fa rc wc fc q g b2 b3) 55 V h = ((V 55).1 = (.bool true)) := (rfl)
theorem wt_56 (p : Nat → Value) (ra wa fa : Option Addr) (rc wc fc : Nat) (q : GV) (g : Gr) (b2 b3 : Nat) (V : Nat → Out) (h : Heap) : tells (whA p ra wa fa rc wc fc q g b2 b3) 56 V h = ((V 56).1 = (.bool true)) := (rfl)
theorem wt_57 (p : Nat → Value) (ra wa fa : Option Addr) (rc wc fc : Nat) (q : GV) (g : Gr) (b2 b3 : Nat) (V : Nat → Out) (h : Heap) : tells (whA p ra wa fa rc wc fc q g b2 b3) 57 V h = ((V 57).1 = (.pointer (some ⟨b2, 0 + 8, none⟩))) := (rfl)
theorem wt_58 (p : Nat → Value) (ra wa fa : Option Addr) (rc wc fc : Nat) (q : GV) (g : Gr) (b2 b3 : Nat) (V : Nat → Out) (h : Heap) : tells (whA p ra wa fa rc wc fc q g b2 b3) 58 V h = ((V 58).1 = (p 7)) := (rfl)
theorem wt_59 (p : Nat → Value) (ra wa fa : Option Addr) (rc wc fc : Nat) (q : GV) (g : Gr) (b2 b3 : Nat) (V : Nat → Out) (h : Heap) : tells (whA p ra wa fa rc wc fc q g b2 b3) 59 V h = ((V 59).1 = (.agg (gcells q g).toArray)) := (rfl)
theorem wt_60 (p : Nat → Value) (ra wa fa : Option Addr) (rc wc fc : Nat) (q : GV) (g : Gr) (b2 b3 : Nat) (V : Nat → Out) (h : Heap) : tells (whA p ra wa fa rc wc fc q g b2 b3) 60 V h = ((V 60).1 = (.pointer (some ⟨b3, 0 + 6, none⟩))) := (rfl)
theorem wt_61 (p : Nat → Value) (ra wa fa : Option Addr) (rc wc fc : Nat) (q : GV) (g : Gr) (b2 b3 : Nat) (V : Nat → Out) (h : Heap) : tells (whA p ra wa fa rc wc fc q g b2 b3) 61 V h = ((V 61).1 = (.slice q.d g.data.length q.dc)) := (rfl)
theorem wt_62 (p : Nat → Value) (ra wa fa : Option Addr) (rc wc fc : Nat) (q : GV) (g : Gr) (b2 b3 : Nat) (V : Nat → Out) (h : Heap) : tells (whA p ra wa fa rc wc fc q g b2 b3) 62 V h = (RefAt h (V 62).2.1 (V 62).2.2 (V 62).1 g.n (ofM g.n g.data)) := (rfl)
theorem wt_63 (p : Nat → Value) (ra wa fa : Option Addr) (rc wc fc : Nat) (q : GV) (g : Gr) (b2 b3 : Nat) (V : Nat → Out) (h : Heap) : tells (whA p ra wa fa rc wc fc q g b2 b3) 63 V h = ((V 63).1 = (.bool true)) := (rfl)
theorem wt_64 (p : Nat → Value) (ra wa fa : Option Addr) (rc wc fc : Nat) (q : GV) (g : Gr) (b2 b3 : Nat) (V : Nat → Out) (h : Heap) : tells (whA p ra wa fa rc wc fc q g b2 b3) 64 V h = ((V 64).1 = (.bool true)) := (rfl)
theorem wt_65 (p : Nat → Value) (ra wa fa : Option Addr) (rc wc fc : Nat) (q : GV) (g : Gr) (b2 b3 : Nat) (V : Nat → Out) (h : Heap) : tells (whA p ra wa fa rc wc fc q g b2 b3) 65 V h = ((V 65).1 = (.bool true)) := (rfl)
theorem wt_66 (p : Nat → Value) (ra wa fa : Option Addr) (rc wc fc : Nat) (q : GV) (g : Gr) (b2 b3 : Nat) (V : Nat → Out) (h : Heap) : tells (whA p ra wa fa rc wc fc q g b2 b3) 66 V h = ((V 66).1 = (.pointer (some ⟨b2, 0 + 9, none⟩))) := (rfl)
theorem wt_67 (p : Nat → Value) (ra wa fa : Option Addr) (rc wc fc : Nat) (q : GV) (g : Gr) (b2 b3 : Nat) (V : Nat → Out) (h : Heap) : tells (whA p ra wa fa rc wc fc q g b2 b3) 67 V h = ((V 67).1 = (p 8)) := (rfl)
theorem wt_68 (p : Nat → Value) (ra wa fa : Option Addr) (rc wc fc : Nat) (q : GV) (g : Gr) (b2 b3 : Nat) (V : Nat → Out) (h : Heap) : tells (whA p ra wa fa rc wc fc q g b2 b3) 68 V h = ((V 68).1 = (.agg (gcells q g).toArray)) := (rfl)
theorem wt_69 (p : Nat → Value) (ra wa fa : Option Addr) (rc wc fc : Nat) (q : GV) (g : Gr) (b2 b3 : Nat) (V : Nat → Out) (h : Heap) : tells (whA p ra wa fa rc wc fc q g b2 b3) 69 V h = ((V 69).1 = (.pointer (some ⟨b3, 0 + 7, none⟩))) := (rfl)
theorem wt_70 (p : Nat → Value) (ra wa fa : Option Addr) (rc wc fc : Nat) (q : GV) (g : Gr) (b2 b3 : Nat) (V : Nat → Out) (h : Heap) : tells (whA p ra wa fa rc wc fc q g b2 b3) 70 V h = ((V 70).1 = (.slice q.c g.ctrl.length q.cc)) := (rfl)
theorem wt_71 (p : Nat → Value) (ra wa fa : Option Addr) (rc wc fc : Nat) (q : GV) (g : Gr) (b2 b3 : Nat) (V : Nat → Out) (h : Heap) : tells (whA p ra wa fa rc wc fc q g b2 b3) 71 V h = (RefAt h (V 71).2.1 (V 71).2.2 (V 71).1 g.n (ofM g.n g.ctrl)) := (rfl)
theorem wt_72 (p : Nat → Value) (ra wa fa : Option Addr) (rc wc fc : Nat) (q : GV) (g : Gr) (b2 b3 : Nat) (V : Nat → Out) (h : Heap) : tells (whA p ra wa fa rc wc fc q g b2 b3) 72 V h = ((V 72).1 = (.bool true)) := (rfl)
theorem wt_73 (p : Nat → Value) (ra wa fa : Option Addr) (rc wc fc : Nat) (q : GV) (g : Gr) (b2 b3 : Nat) (V : Nat → Out) (h : Heap) : tells (whA p ra wa fa rc wc fc q g b2 b3) 73 V h = ((V 73).1 = (.bool true)) := (rfl)
theorem wt_74 (p : Nat → Value) (ra wa fa : Option Addr) (rc wc fc : Nat) (q : GV) (g : Gr) (b2 b3 : Nat) (V : Nat → Out) (h : Heap) : tells (whA p ra wa fa rc wc fc q g b2 b3) 74 V h = ((V 74).1 = (.bool true)) := (rfl)
theorem wt_75 (p : Nat → Value) (ra wa fa : Option Addr) (rc wc fc : Nat) (q : GV) (g : Gr) (b2 b3 : Nat) (V : Nat → Out) (h : Heap) : tells (whA p ra wa fa rc wc fc q g b2 b3) 75 V h = ((V 75).1 = (.pointer (some ⟨b2, 0 + 10, none⟩))) := (rfl)
theorem wt_76 (p : Nat → Value) (ra wa fa : Option Addr) (rc wc fc : Nat) (q : GV) (g : Gr) (b2 b3 : Nat) (V : Nat → Out) (h : Heap) : tells (whA p ra wa fa rc wc fc q g b2 b3) 76 V h = ((V 76).1 = (.slice ra g.n rc)) := (rfl)
theorem wt_77 (p : Nat → Value) (ra wa fa : Option Addr) (rc wc fc : Nat) (q : GV) (g : Gr) (b2 b3 : Nat) (V : Nat → Out) (h : Heap) : tells (whA p ra wa fa rc wc fc q g b2 b3) 77 V h = ((V 77).1 = (.agg (gcells q g).toArray)) := (rfl)
theorem wt_78 (p : Nat → Value) (ra wa fa : Option Addr) (rc wc fc : Nat) (q : GV) (g : Gr) (b2 b3 : Nat) (V : Nat → Out) (h : Heap) : tells (whA p ra wa fa rc wc fc q g b2 b3) 78 V h = (Rd 1 h (V 78).1 g.n (boolsV (kindsV g 1 g.n))) := (rfl)
theorem wt_79 (p : Nat → Value) (ra wa fa : Option Addr) (rc wc fc : Nat) (q : GV) (g : Gr) (b2 b3 : Nat) (V : Nat → Out) (h : Heap) : tells (whA p ra wa fa rc wc fc q g b2 b3) 79 V h = ((V 79).1 = (.bool true)) := (rfl)
theorem wt_80 (p : Nat → Value) (ra wa fa : Option Addr) (rc wc fc : Nat) (q : GV) (g : Gr) (b2 b3 : Nat) (V : Nat → Out) (h : Heap) : tells (whA p ra wa fa rc wc fc q g b2 b3) 80 V h = ((V 80).1 = (.bool true)) := (rfl)
theorem wt_81 (p : Nat → Value) (ra wa fa : Option Addr) (rc wc fc : Nat) (q : GV) (g : Gr) (b2 b3 : Nat) (V : Nat → Out) (h : Heap) : tells (whA p ra wa fa rc wc fc q g b2 b3) 81 V h = ((V 81).1 = (.bool true)) := (rfl)
theorem wt_82 (p : Nat → Value) (ra wa fa : Option Addr) (rc wc fc : Nat) (q : GV) (g : Gr) (b2 b3 : Nat) (V : Nat → Out) (h : Heap) : tells (whA p ra wa fa rc wc fc q g b2 b3) 82 V h = ((V 82).1 = (.pointer (some ⟨b2, 0 + 11, none⟩))) := (rfl)
theorem wt_83 (p : Nat → Value) (ra wa fa : Option Addr) (rc wc fc : Nat) (q : GV) (g : Gr) (b2 b3 : Nat) (V : Nat → Out) (h : Heap) : tells (whA p ra wa fa rc wc fc q g b2 b3) 83 V h = ((V 83).1 = (.slice wa g.n wc)) := (rfl)
theorem wt_84 (p : Nat → Value) (ra wa fa : Option Addr) (rc wc fc : Nat) (q : GV) (g : Gr) (b2 b3 : Nat) (V : Nat → Out) (h : Heap) : tells (whA p ra wa fa rc wc fc q g b2 b3) 84 V h = ((V 84).1 = (.agg (gcells q g).toArray)) := (rfl)
theorem wt_85 (p : Nat → Value) (ra wa fa : Option Addr) (rc wc fc : Nat) (q : GV) (g : Gr) (b2 b3 : Nat) (V : Nat → Out) (h : Heap) : tells (whA p ra wa fa rc wc fc q g b2 b3) 85 V h = (Rd 1 h (V 85).1 g.n (boolsV (kindsV g 2 g.n))) := (rfl)
theorem wt_86 (p : Nat → Value) (ra wa fa : Option Addr) (rc wc fc : Nat) (q : GV) (g : Gr) (b2 b3 : Nat) (V : Nat → Out) (h : Heap) : tells (whA p ra wa fa rc wc fc q g b2 b3) 86 V h = ((V 86).1 = (.bool true)) := (rfl)
theorem wt_87 (p : Nat → Value) (ra wa fa : Option Addr) (rc wc fc : Nat) (q : GV) (g : Gr) (b2 b3 : Nat) (V : Nat → Out) (h : Heap) : tells (whA p ra wa fa rc wc fc q g b2 b3) 87 V h = ((V 87).1 = (.bool true)) := (rfl)
theorem wt_88 (p : Nat → Value) (ra wa fa : Option Addr) (rc wc fc : Nat) (q : GV) (g : Gr) (b2 b3 : Nat) (V : Nat → Out) (h : Heap) : tells (whA p ra wa fa rc wc fc q g b2 b3) 88 V h = ((V 88).1 = (.bool true)) := (rfl)
theorem wt_89 (p : Nat → Value) (ra wa fa : Option Addr) (rc wc fc : Nat) (q : GV) (g : Gr) (b2 b3 : Nat) (V : Nat → Out) (h : Heap) : tells (whA p ra wa fa rc wc fc q g b2 b3) 89 V h = ((V 89).1 = (.pointer (some ⟨b2, 0 + 12, none⟩))) := (rfl)
theorem wt_90 (p : Nat → Value) (ra wa fa : Option Addr) (rc wc fc : Nat) (q : GV) (g : Gr) (b2 b3 : Nat) (V : Nat → Out) (h : Heap) : tells (whA p ra wa fa rc wc fc q g b2 b3) 90 V h = ((V 90).1 = (.slice fa g.n fc)) := (rfl)
theorem wt_91 (p : Nat → Value) (ra wa fa : Option Addr) (rc wc fc : Nat) (q : GV) (g : Gr) (b2 b3 : Nat) (V : Nat → Out) (h : Heap) : tells (whA p ra wa fa rc wc fc q g b2 b3) 91 V h = ((V 91).1 = (.agg (gcells q g).toArray)) := (rfl)
theorem wt_92 (p : Nat → Value) (ra wa fa : Option Addr) (rc wc fc : Nat) (q : GV) (g : Gr) (b2 b3 : Nat) (V : Nat → Out) (h : Heap) : tells (whA p ra wa fa rc wc fc q g b2 b3) 92 V h = (Rd 1 h (V 92).1 g.n (boolsV (kindsV g 3 g.n))) := (rfl)
theorem wt_93 (p : Nat → Value) (ra wa fa : Option Addr) (rc wc fc : Nat) (q : GV) (g : Gr) (b2 b3 : Nat) (V : Nat → Out) (h : Heap) : tells (whA p ra wa fa rc wc fc q g b2 b3) 93 V h = ((V 93).1 = (.bool true)) := (rfl)
theorem wt_94 (p : Nat → Value) (ra wa fa : Option Addr) (rc wc fc : Nat) (q : GV) (g : Gr) (b2 b3 : Nat) (V : Nat → Out) (h : Heap) : tells (whA p ra wa fa rc wc fc q g b2 b3) 94 V h = ((V 94).1 = (.bool true)) := (rfl)
theorem wt_95 (p : Nat → Value) (ra wa fa : Option Addr) (rc wc fc : Nat) (q : GV) (g : Gr) (b2 b3 : Nat) (V : Nat → Out) (h : Heap) : tells (whA p ra wa fa rc wc fc q g b2 b3) 95 V h = ((V 95).1 = (.bool true)) := (rfl)
def whD : List Nat := [5, 6, 7, 8, 9, 10, 11, 12, 13, 14, 15, 16, 17, 18, 19, 20, 21, 22, 23, 24, 25, 26, 27, 28, 29, 30, 31, 32, 33, 34, 35, 36, 37, 38, 39, 40, 41, 42, 43, 44, 45, 46, 47, 48, 49, 50, 51, 52, 53, 54, 55, 56, 57, 58, 59, 60, 61, 62, 63, 64, 65, 66, 67, 68, 69, 70, 71, 72, 73, 74, 75, 76, 77, 78, 79, 80, 81, 82, 83, 84, 85, 86, 87, 88, 89, 90, 91, 92, 93, 94, 95, 96, 97, 98, 99, 4]
set_option maxHeartbeats 4000000 in
set_option maxRecDepth 8000 in
theorem c_law8_whole {h : Heap} {q : GV} {g : Gr} {lo : Nat} {p : Nat → Value} {rd wr fe : Value} (t : GrAt h q g) (ht : TabAt h) (hg : g.good = true) (F : FactsAt h lo p rd wr fe g) :
    Con Tryd.prog 18 #[.agg (fcells p rd wr fe).toArray, .agg (gcells q g).toArray] h fun v h' => Fr 0 0 h h' ∧ v = .bool true := by
  refine con_law8_whole ?_
  have hn := F.n
  have be := t.fits.e
  have ba := t.fits.a
  have bd := t.fits.d
  have bc := t.fits.c
  have hen : g.evs.length = g.n := rfl
  have p0 : Fr 0 0 h h := .refl _ _ _
  obtain ⟨A, B, D, dlo, dap⟩ := F.rel
  have o1 := F.hrd.rd
  have o2 := F.hwr.rd
  have o3 := F.hfe.rd
  obtain ⟨ra, rc, rfl⟩ := o1.is
  obtain ⟨wa, wc, rfl⟩ := o2.is
  obtain ⟨fa, fc, rfl⟩ := o3.is
  have oc : ∀ k, k < 10 → (p k).oneCell' = true := fun k hk => by obtain ⟨_, e⟩ := progPtr (D.at_ k hk); rw [e]; rfl
  have hkl : ∀ k, (kindsV g k g.n).length = g.n := fun k => by simp [kindsV]; unfold Gr.n; omega
  unfold fcells
  simp -dsimp only [go_sem, oc 0 (by decide), oc 1 (by decide), oc 2 (by decide), oc 3 (by decide), oc 4 (by decide), oc 5 (by decide), oc 6 (by decide), oc 7 (by decide), oc 8 (by decide), oc 9 (by decide)]
  intro b2 h1 n2
  have n2_a := n2.at_
  have n2_z := n2.size
  replace p0 := p0.fresh (n2.fr (lo := 0) (hi := 0)) (by omega)
  have r2 := n2.row
  simp -dsimp only [go_sem, r2.cell]
  unfold gcells
  intro b3 h2 n3
  have n3_a := n3.at_
  have n3_z := n3.size
  replace p0 := p0.fresh (n3.fr (lo := 0) (hi := 0)) (by omega)
  replace r2 := r2.fr (n3.fr (lo := 0) (hi := 0)) (by omega)
  have r3 := n3.row
  simp -dsimp only [go_sem, r2.cell, r3.cell]
  have hd : ∀ u v : Value, drp whD [(2, u), (3, v)] = [(2, u), (3, v)] := fun _ _ => rfl
  have K2 : ∀ h', Fr 0 0 h2 h' → Rw h' b2 [p 0, p 1, p 2, p 9, p 3, p 4, p 5, p 6, p 7, p 8, .slice ra g.n rc, .slice wa g.n wc, .slice fa g.n fc] := fun h' f => r2.fr f (by omega)
  have K3 : ∀ h', Fr 0 0 h2 h' → Rw h' b3 [.int .i64 g.cells, .slice q.e g.evs.length q.ec, .slice q.f g.rf.length q.fc, .slice q.o g.co.length q.oc, .slice q.r g.rmw.length q.rc, .slice q.a g.addr.length q.ac, .slice q.d g.data.length q.dc, .slice q.c g.ctrl.length q.cc] := fun h' f => r3.fr f (by omega)
  have P0 : ∀ h', Fr 0 0 h2 h' → Fr 0 0 h h' := fun h' f => p0.trans f
  refine free_introD whD rfl (whA p ra wa fa rc wc fc q g b2 b3) ?_ ?_ ?_ ?_
  · exact ⟨stV _, stV _, stV _, stR _ _, stV _, stV _, stV _, stV _, stV _, stR _ _, stV _, stV _, stV _, stV _, stV _, stV _, stR _ _, stV _, stV _, stV _, stV _, stV _, stV _, stR _ _, stV _, stV _, stV _, stV _, stV _, stV _, stR _ _, stV _, stV _, stV _, stV _, stV _, stV _, stR _ _, stV _, stV _, stV _, stV _, stV _, stV _, stR _ _, stV _, stV _, stV _, stV _, stV _, stV _, stV _, stV _, stR _ _, stV _, stV _, stV _, stV _, stV _, stV _, stV _, stV _, stR _ _, stV _, stV _, stV _, stV _, stV _, stV _, stV _, stV _, stR _ _, stV _, stV _, stV _, stV _, stV _, stV _, stD _ _, stV _, stV _, stV _, stV _, stV _, stV _, stD _ _, stV _, stV _, stV _, stV _, stV _, stV _, stD _ _, stV _, stV _, stV _, trivial⟩
  · rfl
  · simp only [fo_cons, fo_consg, fo_nil, hd, and_true]
    refine ⟨fun h4 f4 V => ?_, fun h4 f4 V => ?_, fun h4 f4 V => ?_, fun h4 f4 V => ?_, fun h4 f4 V => ?_, fun h4 f4 V => ?_, fun h4 f4 V => ?_, fun h4 f4 V => ?_, fun h4 f4 V => ?_, fun h4 f4 V => ?_, fun h4 f4 V => ?_, fun h4 f4 V => ?_, fun h4 f4 V => ?_, fun h4 f4 V => ?_, fun h4 f4 V => ?_, fun h4 f4 V => ?_, fun h4 f4 V => ?_, fun h4 f4 V => ?_, fun h4 f4 V => ?_, fun h4 f4 V => ?_, fun h4 f4 V => ?_, fun h4 f4 V => ?_, fun h4 f4 V => ?_, fun h4 f4 V => ?_, fun h4 f4 V => ?_, fun h4 f4 V => ?_, fun h4 f4 V => ?_, fun h4 f4 V => ?_, fun h4 f4 V => ?_, fun h4 f4 V => ?_, fun h4 f4 V => ?_, fun h4 f4 V => ?_, fun h4 f4 V => ?_, fun h4 f4 V => ?_, fun h4 f4 V => ?_, fun h4 f4 V => ?_, fun h4 f4 V => ?_, fun h4 f4 V => ?_, fun h4 f4 V => ?_, fun h4 f4 V => ?_, fun h4 f4 V => ?_, fun h4 f4 V => ?_, fun h4 f4 V => ?_, fun h4 f4 V => ?_, fun h4 f4 V => ?_, fun h4 f4 V => ?_, fun h4 f4 V => ?_, fun h4 f4 V => ?_, fun h4 f4 V => ?_, fun h4 f4 V => ?_, fun h4 f4 V => ?_, fun h4 f4 V => ?_, fun h4 f4 V => ?_, fun h4 f4 V => ?_, fun h4 f4 V => ?_, fun h4 f4 V => ?_, fun h4 f4 V => ?_, fun h4 f4 V => ?_, fun h4 f4 V => ?_, fun h4 f4 V => ?_, fun h4 f4 V => ?_, fun h4 f4 V => ?_, fun h4 f4 V => ?_, fun h4 f4 V => ?_, fun h4 f4 V => ?_, fun h4 f4 V => ?_, fun h4 f4 V => ?_, fun h4 f4 V => ?_, fun h4 f4 V => ?_, fun h4 f4 V => ?_, fun h4 f4 V => ?_, fun h4 f4 V => ?_, fun h4 f4 V => ?_, fun h4 f4 V => ?_, fun h4 f4 V => ?_, fun h4 f4 V => ?_, fun h4 f4 V => ?_, fun h4 f4 V => ?_, fun h4 f4 V => ?_, fun h4 f4 V => ?_, fun h4 f4 V => ?_, fun h4 f4 V => ?_, fun h4 f4 V => ?_, fun h4 f4 V => ?_, fun h4 f4 V => ?_, fun h4 f4 V => ?_, fun h4 f4 V => ?_, fun h4 f4 V => ?_, fun h4 f4 V => ?_, fun h4 f4 V => ?_, fun h4 f4 V => ?_, fun h4 f4 V => ?_, fun h4 f4 V => ?_, fun h4 f4 V => ?_, fun h4 f4 V => ?_, fun h4 f4 V => ?_⟩
    · try simp -dsimp only [go_sem, wt_0, r2.cell, r3.cell]
      first | done | (try simp -dsimp only [go_sem, wt_0, r2.cell, r3.cell]) <;> first | done | exact .refl _ _ _ | exact ⟨.refl _ _ _, rfl⟩
    · try simp -dsimp only [go_sem, wt_0, wt_1, r2.cell, r3.cell]
      intro a0
      have k := (K2 h4 f4).cell
      simp -dsimp only [go_sem, wt_0, wt_1, a0, k, r2.cell, r3.cell]
      first | done | exact .refl _ _ _
    · try simp -dsimp only [go_sem, wt_2, r2.cell, r3.cell]
      have k := (K3 h4 f4).cell
      simp -dsimp only [go_sem, wt_2, k, r2.cell, r3.cell]
      first | exact ⟨.refl _ _ _, rfl⟩ | exact .refl _ _ _ | done
    · try simp -dsimp only [go_sem, wt_2, wt_3, r2.cell, r3.cell]
      intro a2
      simp -dsimp only [go_sem, wt_2, wt_3, a2, r2.cell, r3.cell]
      refine call_of (ref8_Po (t.fr (P0 h4 f4)) hn) ?_
      rintro v h5 ⟨f5, w⟩
      simp -dsimp only [go_sem, wt_3, r2.cell, r3.cell]
      exact ⟨f5, w⟩
    · try simp -dsimp only [go_sem, wt_1, wt_3, wt_4, r2.cell, r3.cell]
      intro a1 a3
      simp -dsimp only [go_sem, wt_1, wt_3, wt_4, a1, r2.cell, r3.cell]
      refine call_of (c_law8_is (ht.fr (P0 h4 f4) (.inr rfl)) ((D.at_ 0 (by decide)).fr (P0 h4 f4) (by omega)) a3) ?_
      rintro v h5 ⟨f5, rfl⟩
      simp -dsimp only [go_sem, wt_4, r2.cell, r3.cell]
      first | exact ⟨f5, rfl⟩ | exact f5
    · try simp -dsimp only [go_sem, wt_4, wt_5, r2.cell, r3.cell]
      intro a4
      first | done | (try simp -dsimp only [go_sem, wt_4, wt_5, a4, r2.cell, r3.cell]) <;> first | done | exact .refl _ _ _ | exact ⟨.refl _ _ _, rfl⟩
    · try simp -dsimp only [go_sem, wt_5, wt_6, r2.cell, r3.cell]
      intro a5
      first | done | (try simp -dsimp only [go_sem, wt_5, wt_6, a5, r2.cell, r3.cell]) <;> first | done | exact .refl _ _ _ | exact ⟨.refl _ _ _, rfl⟩
    · try simp -dsimp only [go_sem, wt_5, wt_6, wt_7, r2.cell, r3.cell]
      intro a6 a5
      have k := (K2 h4 f4).cell
      simp -dsimp only [go_sem, wt_5, wt_6, wt_7, a6, a5, k, r2.cell, r3.cell]
      first | done | exact .refl _ _ _
    · try simp -dsimp only [go_sem, wt_5, wt_8, r2.cell, r3.cell]
      intro a5
      have k := (K3 h4 f4).cell
      simp -dsimp only [go_sem, wt_5, wt_8, a5, k, r2.cell, r3.cell]
      first | exact ⟨.refl _ _ _, rfl⟩ | exact .refl _ _ _ | done
    · try simp -dsimp only [go_sem, wt_5, wt_8, wt_9, r2.cell, r3.cell]
      intro a8 a5
      simp -dsimp only [go_sem, wt_5, wt_8, wt_9, a8, a5, r2.cell, r3.cell]
      refine call_of (ref8_Rf (t.fr (P0 h4 f4)) hn) ?_
      rintro v h5 ⟨f5, w⟩
      simp -dsimp only [go_sem, wt_9, r2.cell, r3.cell]
      exact ⟨f5, w⟩
    · try simp -dsimp only [go_sem, wt_5, wt_7, wt_9, wt_10, r2.cell, r3.cell]
      intro a7 a9 a5
      simp -dsimp only [go_sem, wt_5, wt_7, wt_9, wt_10, a7, a5, r2.cell, r3.cell]
      refine call_of (c_law8_is (ht.fr (P0 h4 f4) (.inr rfl)) ((D.at_ 1 (by decide)).fr (P0 h4 f4) (by omega)) a9) ?_
      rintro v h5 ⟨f5, rfl⟩
      simp -dsimp only [go_sem, wt_10, r2.cell, r3.cell]
      first | exact ⟨f5, rfl⟩ | exact f5
    · try simp -dsimp only [go_sem, wt_5, wt_10, wt_11, r2.cell, r3.cell]
      intro a5 a10
      first | done | (try simp -dsimp only [go_sem, wt_5, wt_10, wt_11, a5, a10, r2.cell, r3.cell]) <;> first | done | exact .refl _ _ _ | exact ⟨.refl _ _ _, rfl⟩
    · try simp -dsimp only [go_sem, wt_10, wt_11, wt_12, r2.cell, r3.cell]
      intro a11 a10
      first | done | (try simp -dsimp only [go_sem, wt_10, wt_11, wt_12, a11, a10, r2.cell, r3.cell]) <;> first | done | exact .refl _ _ _ | exact ⟨.refl _ _ _, rfl⟩
    · try simp -dsimp only [go_sem, wt_12, wt_13, r2.cell, r3.cell]
      intro a12
      first | done | (try simp -dsimp only [go_sem, wt_12, wt_13, a12, r2.cell, r3.cell]) <;> first | done | exact .refl _ _ _ | exact ⟨.refl _ _ _, rfl⟩
    · try simp -dsimp only [go_sem, wt_12, wt_13, wt_14, r2.cell, r3.cell]
      intro a13 a12
      have k := (K2 h4 f4).cell
      simp -dsimp only [go_sem, wt_12, wt_13, wt_14, a13, a12, k, r2.cell, r3.cell]
      first | done | exact .refl _ _ _
    · try simp -dsimp only [go_sem, wt_12, wt_15, r2.cell, r3.cell]
      intro a12
      have k := (K3 h4 f4).cell
      simp -dsimp only [go_sem, wt_12, wt_15, a12, k, r2.cell, r3.cell]
      first | exact ⟨.refl _ _ _, rfl⟩ | exact .refl _ _ _ | done
    · try simp -dsimp only [go_sem, wt_12, wt_15, wt_16, r2.cell, r3.cell]
      intro a15 a12
      simp -dsimp only [go_sem, wt_12, wt_15, wt_16, a15, a12, r2.cell, r3.cell]
      refine call_of (ref8_Co (t.fr (P0 h4 f4)) hg) ?_
      rintro v h5 ⟨f5, w⟩
      simp -dsimp only [go_sem, wt_16, r2.cell, r3.cell]
      exact ⟨f5, w⟩
    · try simp -dsimp only [go_sem, wt_12, wt_14, wt_16, wt_17, r2.cell, r3.cell]
      intro a14 a16 a12
      simp -dsimp only [go_sem, wt_12, wt_14, wt_16, wt_17, a14, a12, r2.cell, r3.cell]
      refine call_of (c_law8_is (ht.fr (P0 h4 f4) (.inr rfl)) ((D.at_ 2 (by decide)).fr (P0 h4 f4) (by omega)) a16) ?_
      rintro v h5 ⟨f5, rfl⟩
      simp -dsimp only [go_sem, wt_17, r2.cell, r3.cell]
      first | exact ⟨f5, rfl⟩ | exact f5
    · try simp -dsimp only [go_sem, wt_12, wt_17, wt_18, r2.cell, r3.cell]
      intro a12 a17
      first | done | (try simp -dsimp only [go_sem, wt_12, wt_17, wt_18, a12, a17, r2.cell, r3.cell]) <;> first | done | exact .refl _ _ _ | exact ⟨.refl _ _ _, rfl⟩
    · try simp -dsimp only [go_sem, wt_17, wt_18, wt_19, r2.cell, r3.cell]
      intro a18 a17
      first | done | (try simp -dsimp only [go_sem, wt_17, wt_18, wt_19, a18, a17, r2.cell, r3.cell]) <;> first | done | exact .refl _ _ _ | exact ⟨.refl _ _ _, rfl⟩
    · try simp -dsimp only [go_sem, wt_19, wt_20, r2.cell, r3.cell]
      intro a19
      first | done | (try simp -dsimp only [go_sem, wt_19, wt_20, a19, r2.cell, r3.cell]) <;> first | done | exact .refl _ _ _ | exact ⟨.refl _ _ _, rfl⟩
    · try simp -dsimp only [go_sem, wt_19, wt_20, wt_21, r2.cell, r3.cell]
      intro a20 a19
      have k := (K2 h4 f4).cell
      simp -dsimp only [go_sem, wt_19, wt_20, wt_21, a20, a19, k, r2.cell, r3.cell]
      first | done | exact .refl _ _ _
    · try simp -dsimp only [go_sem, wt_19, wt_22, r2.cell, r3.cell]
      intro a19
      have k := (K3 h4 f4).cell
      simp -dsimp only [go_sem, wt_19, wt_22, a19, k, r2.cell, r3.cell]
      first | exact ⟨.refl _ _ _, rfl⟩ | exact .refl _ _ _ | done
    · try simp -dsimp only [go_sem, wt_19, wt_22, wt_23, r2.cell, r3.cell]
      intro a22 a19
      simp -dsimp only [go_sem, wt_19, wt_22, wt_23, a22, a19, r2.cell, r3.cell]
      refine call_of (ref8_Fr (t.fr (P0 h4 f4)) hg) ?_
      rintro v h5 ⟨f5, w⟩
      simp -dsimp only [go_sem, wt_23, r2.cell, r3.cell]
      exact ⟨f5, w⟩
    · try simp -dsimp only [go_sem, wt_19, wt_21, wt_23, wt_24, r2.cell, r3.cell]
      intro a21 a23 a19
      simp -dsimp only [go_sem, wt_19, wt_21, wt_23, wt_24, a21, a19, r2.cell, r3.cell]
      refine call_of (c_law8_is (ht.fr (P0 h4 f4) (.inr rfl)) ((D.at_ 9 (by decide)).fr (P0 h4 f4) (by omega)) a23) ?_
      rintro v h5 ⟨f5, rfl⟩
      simp -dsimp only [go_sem, wt_24, r2.cell, r3.cell]
      first | exact ⟨f5, rfl⟩ | exact f5
    · try simp -dsimp only [go_sem, wt_19, wt_24, wt_25, r2.cell, r3.cell]
      intro a19 a24
      first | done | (try simp -dsimp only [go_sem, wt_19, wt_24, wt_25, a19, a24, r2.cell, r3.cell]) <;> first | done | exact .refl _ _ _ | exact ⟨.refl _ _ _, rfl⟩
    · try simp -dsimp only [go_sem, wt_24, wt_25, wt_26, r2.cell, r3.cell]
      intro a25 a24
      first | done | (try simp -dsimp only [go_sem, wt_24, wt_25, wt_26, a25, a24, r2.cell, r3.cell]) <;> first | done | exact .refl _ _ _ | exact ⟨.refl _ _ _, rfl⟩
    · try simp -dsimp only [go_sem, wt_26, wt_27, r2.cell, r3.cell]
      intro a26
      first | done | (try simp -dsimp only [go_sem, wt_26, wt_27, a26, r2.cell, r3.cell]) <;> first | done | exact .refl _ _ _ | exact ⟨.refl _ _ _, rfl⟩
    · try simp -dsimp only [go_sem, wt_26, wt_27, wt_28, r2.cell, r3.cell]
      intro a27 a26
      have k := (K2 h4 f4).cell
      simp -dsimp only [go_sem, wt_26, wt_27, wt_28, a27, a26, k, r2.cell, r3.cell]
      first | done | exact .refl _ _ _
    · try simp -dsimp only [go_sem, wt_26, wt_29, r2.cell, r3.cell]
      intro a26
      have k := (K3 h4 f4).cell
      simp -dsimp only [go_sem, wt_26, wt_29, a26, k, r2.cell, r3.cell]
      first | exact ⟨.refl _ _ _, rfl⟩ | exact .refl _ _ _ | done
    · try simp -dsimp only [go_sem, wt_26, wt_29, wt_30, r2.cell, r3.cell]
      intro a29 a26
      simp -dsimp only [go_sem, wt_26, wt_29, wt_30, a29, a26, r2.cell, r3.cell]
      refine call_of (ref8_Rmw (t.fr (P0 h4 f4)) hn) ?_
      rintro v h5 ⟨f5, w⟩
      simp -dsimp only [go_sem, wt_30, r2.cell, r3.cell]
      exact ⟨f5, w⟩
    · try simp -dsimp only [go_sem, wt_26, wt_28, wt_30, wt_31, r2.cell, r3.cell]
      intro a28 a30 a26
      simp -dsimp only [go_sem, wt_26, wt_28, wt_30, wt_31, a28, a26, r2.cell, r3.cell]
      refine call_of (c_law8_is (ht.fr (P0 h4 f4) (.inr rfl)) ((D.at_ 3 (by decide)).fr (P0 h4 f4) (by omega)) a30) ?_
      rintro v h5 ⟨f5, rfl⟩
      simp -dsimp only [go_sem, wt_31, r2.cell, r3.cell]
      first | exact ⟨f5, rfl⟩ | exact f5
    · try simp -dsimp only [go_sem, wt_26, wt_31, wt_32, r2.cell, r3.cell]
      intro a26 a31
      first | done | (try simp -dsimp only [go_sem, wt_26, wt_31, wt_32, a26, a31, r2.cell, r3.cell]) <;> first | done | exact .refl _ _ _ | exact ⟨.refl _ _ _, rfl⟩
    · try simp -dsimp only [go_sem, wt_31, wt_32, wt_33, r2.cell, r3.cell]
      intro a32 a31
      first | done | (try simp -dsimp only [go_sem, wt_31, wt_32, wt_33, a32, a31, r2.cell, r3.cell]) <;> first | done | exact .refl _ _ _ | exact ⟨.refl _ _ _, rfl⟩
    · try simp -dsimp only [go_sem, wt_33, wt_34, r2.cell, r3.cell]
      intro a33
      first | done | (try simp -dsimp only [go_sem, wt_33, wt_34, a33, r2.cell, r3.cell]) <;> first | done | exact .refl _ _ _ | exact ⟨.refl _ _ _, rfl⟩
    · try simp -dsimp only [go_sem, wt_33, wt_34, wt_35, r2.cell, r3.cell]
      intro a34 a33
      have k := (K2 h4 f4).cell
      simp -dsimp only [go_sem, wt_33, wt_34, wt_35, a34, a33, k, r2.cell, r3.cell]
      first | done | exact .refl _ _ _
    · try simp -dsimp only [go_sem, wt_33, wt_36, r2.cell, r3.cell]
      intro a33
      have k := (K3 h4 f4).cell
      simp -dsimp only [go_sem, wt_33, wt_36, a33, k, r2.cell, r3.cell]
      first | exact ⟨.refl _ _ _, rfl⟩ | exact .refl _ _ _ | done
    · try simp -dsimp only [go_sem, wt_33, wt_36, wt_37, r2.cell, r3.cell]
      intro a36 a33
      simp -dsimp only [go_sem, wt_33, wt_36, wt_37, a36, a33, r2.cell, r3.cell]
      refine call_of (ref8_Same (t.fr (P0 h4 f4)) hg) ?_
      rintro v h5 ⟨f5, w⟩
      simp -dsimp only [go_sem, wt_37, r2.cell, r3.cell]
      exact ⟨f5, w⟩
    · try simp -dsimp only [go_sem, wt_33, wt_35, wt_37, wt_38, r2.cell, r3.cell]
      intro a35 a37 a33
      simp -dsimp only [go_sem, wt_33, wt_35, wt_37, wt_38, a35, a33, r2.cell, r3.cell]
      refine call_of (c_law8_is (ht.fr (P0 h4 f4) (.inr rfl)) ((D.at_ 4 (by decide)).fr (P0 h4 f4) (by omega)) a37) ?_
      rintro v h5 ⟨f5, rfl⟩
      simp -dsimp only [go_sem, wt_38, r2.cell, r3.cell]
      first | exact ⟨f5, rfl⟩ | exact f5
    · try simp -dsimp only [go_sem, wt_33, wt_38, wt_39, r2.cell, r3.cell]
      intro a33 a38
      first | done | (try simp -dsimp only [go_sem, wt_33, wt_38, wt_39, a33, a38, r2.cell, r3.cell]) <;> first | done | exact .refl _ _ _ | exact ⟨.refl _ _ _, rfl⟩
    · try simp -dsimp only [go_sem, wt_38, wt_39, wt_40, r2.cell, r3.cell]
      intro a39 a38
      first | done | (try simp -dsimp only [go_sem, wt_38, wt_39, wt_40, a39, a38, r2.cell, r3.cell]) <;> first | done | exact .refl _ _ _ | exact ⟨.refl _ _ _, rfl⟩
    · try simp -dsimp only [go_sem, wt_40, wt_41, r2.cell, r3.cell]
      intro a40
      first | done | (try simp -dsimp only [go_sem, wt_40, wt_41, a40, r2.cell, r3.cell]) <;> first | done | exact .refl _ _ _ | exact ⟨.refl _ _ _, rfl⟩
    · try simp -dsimp only [go_sem, wt_40, wt_41, wt_42, r2.cell, r3.cell]
      intro a41 a40
      have k := (K2 h4 f4).cell
      simp -dsimp only [go_sem, wt_40, wt_41, wt_42, a41, a40, k, r2.cell, r3.cell]
      first | done | exact .refl _ _ _
    · try simp -dsimp only [go_sem, wt_40, wt_43, r2.cell, r3.cell]
      intro a40
      have k := (K3 h4 f4).cell
      simp -dsimp only [go_sem, wt_40, wt_43, a40, k, r2.cell, r3.cell]
      first | exact ⟨.refl _ _ _, rfl⟩ | exact .refl _ _ _ | done
    · try simp -dsimp only [go_sem, wt_40, wt_43, wt_44, r2.cell, r3.cell]
      intro a43 a40
      simp -dsimp only [go_sem, wt_40, wt_43, wt_44, a43, a40, r2.cell, r3.cell]
      refine call_of (ref8_Ext (t.fr (P0 h4 f4)) hn) ?_
      rintro v h5 ⟨f5, w⟩
      simp -dsimp only [go_sem, wt_44, r2.cell, r3.cell]
      exact ⟨f5, w⟩
    · try simp -dsimp only [go_sem, wt_40, wt_42, wt_44, wt_45, r2.cell, r3.cell]
      intro a42 a44 a40
      simp -dsimp only [go_sem, wt_40, wt_42, wt_44, wt_45, a42, a40, r2.cell, r3.cell]
      refine call_of (c_law8_is (ht.fr (P0 h4 f4) (.inr rfl)) ((D.at_ 5 (by decide)).fr (P0 h4 f4) (by omega)) a44) ?_
      rintro v h5 ⟨f5, rfl⟩
      simp -dsimp only [go_sem, wt_45, r2.cell, r3.cell]
      first | exact ⟨f5, rfl⟩ | exact f5
    · try simp -dsimp only [go_sem, wt_40, wt_45, wt_46, r2.cell, r3.cell]
      intro a40 a45
      first | done | (try simp -dsimp only [go_sem, wt_40, wt_45, wt_46, a40, a45, r2.cell, r3.cell]) <;> first | done | exact .refl _ _ _ | exact ⟨.refl _ _ _, rfl⟩
    · try simp -dsimp only [go_sem, wt_45, wt_46, wt_47, r2.cell, r3.cell]
      intro a46 a45
      first | done | (try simp -dsimp only [go_sem, wt_45, wt_46, wt_47, a46, a45, r2.cell, r3.cell]) <;> first | done | exact .refl _ _ _ | exact ⟨.refl _ _ _, rfl⟩
    · try simp -dsimp only [go_sem, wt_47, wt_48, r2.cell, r3.cell]
      intro a47
      first | done | (try simp -dsimp only [go_sem, wt_47, wt_48, a47, r2.cell, r3.cell]) <;> first | done | exact .refl _ _ _ | exact ⟨.refl _ _ _, rfl⟩
    · try simp -dsimp only [go_sem, wt_47, wt_48, wt_49, r2.cell, r3.cell]
      intro a48 a47
      have k := (K2 h4 f4).cell
      simp -dsimp only [go_sem, wt_47, wt_48, wt_49, a48, a47, k, r2.cell, r3.cell]
      first | done | exact .refl _ _ _
    · try simp -dsimp only [go_sem, wt_47, wt_50, r2.cell, r3.cell]
      intro a47
      have k := (K3 h4 f4).cell
      simp -dsimp only [go_sem, wt_47, wt_50, a47, k, r2.cell, r3.cell]
      first | exact ⟨.refl _ _ _, rfl⟩ | exact .refl _ _ _ | done
    · try simp -dsimp only [go_sem, wt_47, wt_51, r2.cell, r3.cell]
      intro a47
      first | done | (try simp -dsimp only [go_sem, wt_47, wt_51, a47, r2.cell, r3.cell]) <;> first | done | exact .refl _ _ _ | exact ⟨.refl _ _ _, rfl⟩
    · try simp -dsimp only [go_sem, wt_47, wt_51, wt_52, r2.cell, r3.cell]
      intro a51 a47
      have k := (K3 h4 f4).cell
      simp -dsimp only [go_sem, wt_47, wt_51, wt_52, a51, a47, k, r2.cell, r3.cell]
      first | done | exact .refl _ _ _
    · try simp -dsimp only [go_sem, wt_47, wt_50, wt_52, wt_53, r2.cell, r3.cell]
      intro a50 a52 a47
      simp -dsimp only [go_sem, wt_47, wt_50, wt_52, wt_53, a50, a52, a47, r2.cell, r3.cell]
      refine call_of (ref8_Of (t.fr (P0 h4 f4)) hn ((t.fr (P0 h4 f4)).a) (by omega)) ?_
      rintro v h5 ⟨f5, w⟩
      simp -dsimp only [go_sem, wt_53, r2.cell, r3.cell]
      exact ⟨f5, w⟩
    · try simp -dsimp only [go_sem, wt_47, wt_49, wt_53, wt_54, r2.cell, r3.cell]
      intro a49 a53 a47
      simp -dsimp only [go_sem, wt_47, wt_49, wt_53, wt_54, a49, a47, r2.cell, r3.cell]
      refine call_of (c_law8_is (ht.fr (P0 h4 f4) (.inr rfl)) ((D.at_ 6 (by decide)).fr (P0 h4 f4) (by omega)) a53) ?_
      rintro v h5 ⟨f5, rfl⟩
      simp -dsimp only [go_sem, wt_54, r2.cell, r3.cell]
      first | exact ⟨f5, rfl⟩ | exact f5
    · try simp -dsimp only [go_sem, wt_47, wt_54, wt_55, r2.cell, r3.cell]
      intro a47 a54
      first | done | (try simp -dsimp only [go_sem, wt_47, wt_54, wt_55, a47, a54, r2.cell, r3.cell]) <;> first | done | exact .refl _ _ _ | exact ⟨.refl _ _ _, rfl⟩
    · try simp -dsimp only [go_sem, wt_54, wt_55, wt_56, r2.cell, r3.cell]
      intro a55 a54
      first | done | (try simp -dsimp only [go_sem, wt_54, wt_55, wt_56, a55, a54, r2.cell, r3.cell]) <;> first | done | exact .refl _ _ _ | exact ⟨.refl _ _ _, rfl⟩
    · try simp -dsimp only [go_sem, wt_56, wt_57, r2.cell, r3.cell]
      intro a56
      first | done | (try simp -dsimp only [go_sem, wt_56, wt_57, a56, r2.cell, r3.cell]) <;> first | done | exact .refl _ _ _ | exact ⟨.refl _ _ _, rfl⟩
    · try simp -dsimp only [go_sem, wt_56, wt_57, wt_58, r2.cell, r3.cell]
      intro a57 a56
      have k := (K2 h4 f4).cell
      simp -dsimp only [go_sem, wt_56, wt_57, wt_58, a57, a56, k, r2.cell, r3.cell]
      first | done | exact .refl _ _ _
    · try simp -dsimp only [go_sem, wt_56, wt_59, r2.cell, r3.cell]
      intro a56
      have k := (K3 h4 f4).cell
      simp -dsimp only [go_sem, wt_56, wt_59, a56, k, r2.cell, r3.cell]
      first | exact ⟨.refl _ _ _, rfl⟩ | exact .refl _ _ _ | done
    · try simp -dsimp only [go_sem, wt_56, wt_60, r2.cell, r3.cell]
      intro a56
      first | done | (try simp -dsimp only [go_sem, wt_56, wt_60, a56, r2.cell, r3.cell]) <;> first | done | exact .refl _ _ _ | exact ⟨.refl _ _ _, rfl⟩
    · try simp -dsimp only [go_sem, wt_56, wt_60, wt_61, r2.cell, r3.cell]
      intro a60 a56
      have k := (K3 h4 f4).cell
      simp -dsimp only [go_sem, wt_56, wt_60, wt_61, a60, a56, k, r2.cell, r3.cell]
      first | done | exact .refl _ _ _
    · try simp -dsimp only [go_sem, wt_56, wt_59, wt_61, wt_62, r2.cell, r3.cell]
      intro a59 a61 a56
      simp -dsimp only [go_sem, wt_56, wt_59, wt_61, wt_62, a59, a61, a56, r2.cell, r3.cell]
      refine call_of (ref8_Of (t.fr (P0 h4 f4)) hn ((t.fr (P0 h4 f4)).d) (by omega)) ?_
      rintro v h5 ⟨f5, w⟩
      simp -dsimp only [go_sem, wt_62, r2.cell, r3.cell]
      exact ⟨f5, w⟩
    · try simp -dsimp only [go_sem, wt_56, wt_58, wt_62, wt_63, r2.cell, r3.cell]
      intro a58 a62 a56
      simp -dsimp only [go_sem, wt_56, wt_58, wt_62, wt_63, a58, a56, r2.cell, r3.cell]
      refine call_of (c_law8_is (ht.fr (P0 h4 f4) (.inr rfl)) ((D.at_ 7 (by decide)).fr (P0 h4 f4) (by omega)) a62) ?_
      rintro v h5 ⟨f5, rfl⟩
      simp -dsimp only [go_sem, wt_63, r2.cell, r3.cell]
      first | exact ⟨f5, rfl⟩ | exact f5
    · try simp -dsimp only [go_sem, wt_56, wt_63, wt_64, r2.cell, r3.cell]
      intro a56 a63
      first | done | (try simp -dsimp only [go_sem, wt_56, wt_63, wt_64, a56, a63, r2.cell, r3.cell]) <;> first | done | exact .refl _ _ _ | exact ⟨.refl _ _ _, rfl⟩
    · try simp -dsimp only [go_sem, wt_63, wt_64, wt_65, r2.cell, r3.cell]
      intro a64 a63
      first | done | (try simp -dsimp only [go_sem, wt_63, wt_64, wt_65, a64, a63, r2.cell, r3.cell]) <;> first | done | exact .refl _ _ _ | exact ⟨.refl _ _ _, rfl⟩
    · try simp -dsimp only [go_sem, wt_65, wt_66, r2.cell, r3.cell]
      intro a65
      first | done | (try simp -dsimp only [go_sem, wt_65, wt_66, a65, r2.cell, r3.cell]) <;> first | done | exact .refl _ _ _ | exact ⟨.refl _ _ _, rfl⟩
    · try simp -dsimp only [go_sem, wt_65, wt_66, wt_67, r2.cell, r3.cell]
      intro a66 a65
      have k := (K2 h4 f4).cell
      simp -dsimp only [go_sem, wt_65, wt_66, wt_67, a66, a65, k, r2.cell, r3.cell]
      first | done | exact .refl _ _ _
    · try simp -dsimp only [go_sem, wt_65, wt_68, r2.cell, r3.cell]
      intro a65
      have k := (K3 h4 f4).cell
      simp -dsimp only [go_sem, wt_65, wt_68, a65, k, r2.cell, r3.cell]
      first | exact ⟨.refl _ _ _, rfl⟩ | exact .refl _ _ _ | done
    · try simp -dsimp only [go_sem, wt_65, wt_69, r2.cell, r3.cell]
      intro a65
      first | done | (try simp -dsimp only [go_sem, wt_65, wt_69, a65, r2.cell, r3.cell]) <;> first | done | exact .refl _ _ _ | exact ⟨.refl _ _ _, rfl⟩
    · try simp -dsimp only [go_sem, wt_65, wt_69, wt_70, r2.cell, r3.cell]
      intro a69 a65
      have k := (K3 h4 f4).cell
      simp -dsimp only [go_sem, wt_65, wt_69, wt_70, a69, a65, k, r2.cell, r3.cell]
      first | done | exact .refl _ _ _
    · try simp -dsimp only [go_sem, wt_65, wt_68, wt_70, wt_71, r2.cell, r3.cell]
      intro a68 a70 a65
      simp -dsimp only [go_sem, wt_65, wt_68, wt_70, wt_71, a68, a70, a65, r2.cell, r3.cell]
      refine call_of (ref8_Of (t.fr (P0 h4 f4)) hn ((t.fr (P0 h4 f4)).c) (by omega)) ?_
      rintro v h5 ⟨f5, w⟩
      simp -dsimp only [go_sem, wt_71, r2.cell, r3.cell]
      exact ⟨f5, w⟩
    · try simp -dsimp only [go_sem, wt_65, wt_67, wt_71, wt_72, r2.cell, r3.cell]
      intro a67 a71 a65
      simp -dsimp only [go_sem, wt_65, wt_67, wt_71, wt_72, a67, a65, r2.cell, r3.cell]
      refine call_of (c_law8_is (ht.fr (P0 h4 f4) (.inr rfl)) ((D.at_ 8 (by decide)).fr (P0 h4 f4) (by omega)) a71) ?_
      rintro v h5 ⟨f5, rfl⟩
      simp -dsimp only [go_sem, wt_72, r2.cell, r3.cell]
      first | exact ⟨f5, rfl⟩ | exact f5
    · try simp -dsimp only [go_sem, wt_65, wt_72, wt_73, r2.cell, r3.cell]
      intro a65 a72
      first | done | (try simp -dsimp only [go_sem, wt_65, wt_72, wt_73, a65, a72, r2.cell, r3.cell]) <;> first | done | exact .refl _ _ _ | exact ⟨.refl _ _ _, rfl⟩
    · try simp -dsimp only [go_sem, wt_72, wt_73, wt_74, r2.cell, r3.cell]
      intro a73 a72
      first | done | (try simp -dsimp only [go_sem, wt_72, wt_73, wt_74, a73, a72, r2.cell, r3.cell]) <;> first | done | exact .refl _ _ _ | exact ⟨.refl _ _ _, rfl⟩
    · try simp -dsimp only [go_sem, wt_74, wt_75, r2.cell, r3.cell]
      intro a74
      first | done | (try simp -dsimp only [go_sem, wt_74, wt_75, a74, r2.cell, r3.cell]) <;> first | done | exact .refl _ _ _ | exact ⟨.refl _ _ _, rfl⟩
    · try simp -dsimp only [go_sem, wt_74, wt_75, wt_76, r2.cell, r3.cell]
      intro a75 a74
      have k := (K2 h4 f4).cell
      simp -dsimp only [go_sem, wt_74, wt_75, wt_76, a75, a74, k, r2.cell, r3.cell]
      first | done | exact .refl _ _ _
    · try simp -dsimp only [go_sem, wt_74, wt_77, r2.cell, r3.cell]
      intro a74
      have k := (K3 h4 f4).cell
      simp -dsimp only [go_sem, wt_74, wt_77, a74, k, r2.cell, r3.cell]
      first | exact ⟨.refl _ _ _, rfl⟩ | exact .refl _ _ _ | done
    · try simp -dsimp only [go_sem, wt_74, wt_77, wt_78, r2.cell, r3.cell]
      intro a77 a74
      simp -dsimp only [go_sem, wt_74, wt_77, wt_78, a77, a74, r2.cell, r3.cell]
      refine call_of (ref8_Kinds (t.fr (P0 h4 f4)) (by omega) 1) ?_
      rintro v h5 ⟨f5, w⟩
      simp -dsimp only [go_sem, wt_78, r2.cell, r3.cell]
      exact ⟨f5, w.rd⟩
    · try simp -dsimp only [go_sem, wt_74, wt_76, wt_78, wt_79, r2.cell, r3.cell]
      intro a76 a78 a74
      simp -dsimp only [go_sem, wt_74, wt_76, wt_78, wt_79, a76, a74, r2.cell, r3.cell]
      refine call_of (c_law8_truths (l := kindsV g 1 g.n) (m := kindsV g 1 g.n) (by rw [hkl]; exact o1.fr (P0 h4 f4)) (by rw [hkl]; exact a78) (by rw [hkl]; omega)) ?_
      rintro v h5 ⟨rfl, rfl⟩
      simp -dsimp only [go_sem, wt_79, dec_self, r2.cell, r3.cell]
      first | exact ⟨.refl _ _ _, rfl⟩ | exact .refl _ _ _
    · try simp -dsimp only [go_sem, wt_74, wt_79, wt_80, r2.cell, r3.cell]
      intro a74 a79
      first | done | (try simp -dsimp only [go_sem, wt_74, wt_79, wt_80, a74, a79, r2.cell, r3.cell]) <;> first | done | exact .refl _ _ _ | exact ⟨.refl _ _ _, rfl⟩
    · try simp -dsimp only [go_sem, wt_79, wt_80, wt_81, r2.cell, r3.cell]
      intro a80 a79
      first | done | (try simp -dsimp only [go_sem, wt_79, wt_80, wt_81, a80, a79, r2.cell, r3.cell]) <;> first | done | exact .refl _ _ _ | exact ⟨.refl _ _ _, rfl⟩
    · try simp -dsimp only [go_sem, wt_81, wt_82, r2.cell, r3.cell]
      intro a81
      first | done | (try simp -dsimp only [go_sem, wt_81, wt_82, a81, r2.cell, r3.cell]) <;> first | done | exact .refl _ _ _ | exact ⟨.refl _ _ _, rfl⟩
    · try simp -dsimp only [go_sem, wt_81, wt_82, wt_83, r2.cell, r3.cell]
      intro a82 a81
      have k := (K2 h4 f4).cell
      simp -dsimp only [go_sem, wt_81, wt_82, wt_83, a82, a81, k, r2.cell, r3.cell]
      first | done | exact .refl _ _ _
    · try simp -dsimp only [go_sem, wt_81, wt_84, r2.cell, r3.cell]
      intro a81
      have k := (K3 h4 f4).cell
      simp -dsimp only [go_sem, wt_81, wt_84, a81, k, r2.cell, r3.cell]
      first | exact ⟨.refl _ _ _, rfl⟩ | exact .refl _ _ _ | done
    · try simp -dsimp only [go_sem, wt_81, wt_84, wt_85, r2.cell, r3.cell]
      intro a84 a81
      simp -dsimp only [go_sem, wt_81, wt_84, wt_85, a84, a81, r2.cell, r3.cell]
      refine call_of (ref8_Kinds (t.fr (P0 h4 f4)) (by omega) 2) ?_
      rintro v h5 ⟨f5, w⟩
      simp -dsimp only [go_sem, wt_85, r2.cell, r3.cell]
      exact ⟨f5, w.rd⟩
    · try simp -dsimp only [go_sem, wt_81, wt_83, wt_85, wt_86, r2.cell, r3.cell]
      intro a83 a85 a81
      simp -dsimp only [go_sem, wt_81, wt_83, wt_85, wt_86, a83, a81, r2.cell, r3.cell]
      refine call_of (c_law8_truths (l := kindsV g 2 g.n) (m := kindsV g 2 g.n) (by rw [hkl]; exact o2.fr (P0 h4 f4)) (by rw [hkl]; exact a85) (by rw [hkl]; omega)) ?_
      rintro v h5 ⟨rfl, rfl⟩
      simp -dsimp only [go_sem, wt_86, dec_self, r2.cell, r3.cell]
      first | exact ⟨.refl _ _ _, rfl⟩ | exact .refl _ _ _
    · try simp -dsimp only [go_sem, wt_81, wt_86, wt_87, r2.cell, r3.cell]
      intro a81 a86
      first | done | (try simp -dsimp only [go_sem, wt_81, wt_86, wt_87, a81, a86, r2.cell, r3.cell]) <;> first | done | exact .refl _ _ _ | exact ⟨.refl _ _ _, rfl⟩
    · try simp -dsimp only [go_sem, wt_86, wt_87, wt_88, r2.cell, r3.cell]
      intro a87 a86
      first | done | (try simp -dsimp only [go_sem, wt_86, wt_87, wt_88, a87, a86, r2.cell, r3.cell]) <;> first | done | exact .refl _ _ _ | exact ⟨.refl _ _ _, rfl⟩
    · try simp -dsimp only [go_sem, wt_88, wt_89, r2.cell, r3.cell]
      intro a88
      first | done | (try simp -dsimp only [go_sem, wt_88, wt_89, a88, r2.cell, r3.cell]) <;> first | done | exact .refl _ _ _ | exact ⟨.refl _ _ _, rfl⟩
    · try simp -dsimp only [go_sem, wt_88, wt_89, wt_90, r2.cell, r3.cell]
      intro a89 a88
      have k := (K2 h4 f4).cell
      simp -dsimp only [go_sem, wt_88, wt_89, wt_90, a89, a88, k, r2.cell, r3.cell]
      first | done | exact .refl _ _ _
    · try simp -dsimp only [go_sem, wt_88, wt_91, r2.cell, r3.cell]
      intro a88
      have k := (K3 h4 f4).cell
      simp -dsimp only [go_sem, wt_88, wt_91, a88, k, r2.cell, r3.cell]
      first | exact ⟨.refl _ _ _, rfl⟩ | exact .refl _ _ _ | done
    · try simp -dsimp only [go_sem, wt_88, wt_91, wt_92, r2.cell, r3.cell]
      intro a91 a88
      simp -dsimp only [go_sem, wt_88, wt_91, wt_92, a91, a88, r2.cell, r3.cell]
      refine call_of (ref8_Kinds (t.fr (P0 h4 f4)) (by omega) 3) ?_
      rintro v h5 ⟨f5, w⟩
      simp -dsimp only [go_sem, wt_92, r2.cell, r3.cell]
      exact ⟨f5, w.rd⟩
    · try simp -dsimp only [go_sem, wt_88, wt_90, wt_92, wt_93, r2.cell, r3.cell]
      intro a90 a92 a88
      simp -dsimp only [go_sem, wt_88, wt_90, wt_92, wt_93, a90, a88, r2.cell, r3.cell]
      refine call_of (c_law8_truths (l := kindsV g 3 g.n) (m := kindsV g 3 g.n) (by rw [hkl]; exact o3.fr (P0 h4 f4)) (by rw [hkl]; exact a92) (by rw [hkl]; omega)) ?_
      rintro v h5 ⟨rfl, rfl⟩
      simp -dsimp only [go_sem, wt_93, dec_self, r2.cell, r3.cell]
      first | exact ⟨.refl _ _ _, rfl⟩ | exact .refl _ _ _
    · try simp -dsimp only [go_sem, wt_88, wt_93, wt_94, r2.cell, r3.cell]
      intro a88 a93
      first | done | (try simp -dsimp only [go_sem, wt_88, wt_93, wt_94, a88, a93, r2.cell, r3.cell]) <;> first | done | exact .refl _ _ _ | exact ⟨.refl _ _ _, rfl⟩
    · simp -dsimp only [wp_cons, wp_nil, wt_0, wt_1, wt_2, wt_3, wt_4, wt_5, wt_6, wt_7, wt_8, wt_9, wt_10, wt_11, wt_12, wt_13, wt_14, wt_15, wt_16, wt_17, wt_18, wt_19, wt_20, wt_21, wt_22, wt_23, wt_24, wt_25, wt_26, wt_27, wt_28, wt_29, wt_30, wt_31, wt_32, wt_33, wt_34, wt_35, wt_36, wt_37, wt_38, wt_39, wt_40, wt_41, wt_42, wt_43, wt_44, wt_45, wt_46, wt_47, wt_48, wt_49, wt_50, wt_51, wt_52, wt_53, wt_54, wt_55, wt_56, wt_57, wt_58, wt_59, wt_60, wt_61, wt_62, wt_63, wt_64, wt_65, wt_66, wt_67, wt_68, wt_69, wt_70, wt_71, wt_72, wt_73, wt_74, wt_75, wt_76, wt_77, wt_78, wt_79, wt_80, wt_81, wt_82, wt_83, wt_84, wt_85, wt_86, wt_87, wt_88, wt_89, wt_90, wt_91, wt_92, wt_93, wt_94, wt_95]
      intro a0 a1 a2 a3 a4 a5 a6 a7 a8 a9 a10 a11 a12 a13 a14 a15 a16 a17 a18 a19 a20 a21 a22 a23 a24 a25 a26 a27 a28 a29 a30 a31 a32 a33 a34 a35 a36 a37 a38 a39 a40 a41 a42 a43 a44 a45 a46 a47 a48 a49 a50 a51 a52 a53 a54 a55 a56 a57 a58 a59 a60 a61 a62 a63 a64 a65 a66 a67 a68 a69 a70 a71 a72 a73 a74 a75 a76 a77 a78 a79 a80 a81 a82 a83 a84 a85 a86 a87 a88 a89 a90 a91 a92 a93 a94
      simp -dsimp only [go_sem, a94, wt_95, r2.cell, r3.cell]
      exact .refl _ _ _
  · intro h4 f4 V sep
    refine freeEnd_of fun ta => ?_
    have e95 := ta _ (List.getLast_mem (by simp))
    replace e95 : (V 95).1 = .bool true := e95
    rw [hd]
    simp -dsimp only [fext]
    simp -dsimp only [go_sem, e95, r2.cell, r3.cell]
    exact P0 h4 f4
end Go.Proofs.Tst
/-
  GraphDerives.
-/
namespace Go.Proofs.Tst
open Go Go.Vc
theorem FactsAt.fr {h h' : Heap} {lo l r : Nat} {p : Nat → Value} {rd wr fe : Value} {g : Gr} (F : FactsAt h lo p rd wr fe g) (f : Fr l r h h') (hd : r ≤ lo) : FactsAt h' lo p rd wr fe g := by
  obtain ⟨A, B, D, dlo, dap⟩ := F.rel
  have a1 := F.hrd.at_
  have a2 := F.hwr.at_
  have a3 := F.hfe.at_
  have fz := f.size
  exact ⟨F.n, ⟨A, B, D.fr f (fun k hk => by have := dlo k hk; omega), fun k hk => by have := dlo k hk; omega, dap⟩, F.hrd.fr f (by omega), F.hwr.fr f (by omega), F.hfe.fr f (by omega), F.off⟩
def ixP (i : Nat) : Nat := [0, 1, 2, 9, 3, 4, 5, 6, 7, 8].getD i 0
theorem ixP_lt {i : Nat} (h : i < 10) : ixP i < 10 := (by decide : ∀ i, i < 10 → ixP i < 10) i h
theorem lix {p : Nat → Value} {i : Nat} (h : i < 10) : [p 0, p 1, p 2, p 9, p 3, p 4, p 5, p 6, p 7, p 8][i]? = some (p (ixP i)) := by
  match i, h with
  | 0, _ => rfl
  | 1, _ => rfl
  | 2, _ => rfl
  | 3, _ => rfl
  | 4, _ => rfl
  | 5, _ => rfl
  | 6, _ => rfl
  | 7, _ => rfl
  | 8, _ => rfl
  | 9, _ => rfl
theorem boolsV_set {l : List Bool} {i : Nat} {b : Bool} : (boolsV l).set i (.bool b) = boolsV (l.set i b) := by unfold boolsV; rw [List.map_set]
/-- A truth of a slice turned. -/
theorem holder_bool {h : Heap} {a : Option Addr} {n c lo i : Nat} {ys : List Bool} (w : Holder 1 h (.slice a n c) n (boolsV ys) lo) (hi : i < n) : ∃ b x, a = some ⟨b, 0, none⟩ ∧ hcell h b i = some (.bool x) ∧ Wr h b i 1 ∧ ∀ h' y, Sto h h' b i [.bool y] → ∃ ys', Holder 1 h' (.slice a n c) n (boolsV ys') lo := by
  obtain ⟨b, c', rest, e, r, h3, h4⟩ := w.blk (by omega)
  cases e
  have hl := w.1
  simp at hl
  have hx : (boolsV ys)[i]? = some (.bool ys[i]) := by simp [boolsV, hl, hi]
  refine ⟨b, ys[i], rfl, ?_, w.wrAt hi, fun h' y s => ⟨ys.set i y, by rw [← boolsV_set]; exact w.set hi s⟩⟩
  rw [r.cell, List.getElem?_append_left (by simp; omega), hx]
set_option maxHeartbeats 4000000 in
theorem c_law8_GraphDerives {h : Heap} {q : GV} {g : Gr} (t : GrAt h q g) (ht : TabAt h) :
    Con Tryd.prog 4 #[.agg (gcells q g).toArray] h fun v h' => Fr 0 0 h h' ∧ v = .bool true := by
  refine con_law8_GraphDerives ?_
  have hz : 0 < h.size := hcell_lt (ht 0 0 rfl)
  have be := t.fits.e
  have bo := t.fits.o
  have hen : g.evs.length = g.n := rfl
  have p0 : Fr 0 0 h h := .refl _ _ _
  unfold gcells
  simp -dsimp only [go_sem]
  intro b1 h1 n1
  have n1_a := n1.at_
  have n1_z := n1.size
  replace p0 := p0.fresh (n1.fr (lo := 0) (hi := 0)) (by omega)
  have r1 := n1.row
  simp -dsimp only [go_sem, r1.cell]
  refine call_of (ref8_Copied (t.fr p0) (by omega)) ?_
  rintro v2 h2 ⟨f2, q', rfl, w⟩
  have f2_z := f2.size
  replace p0 := p0.fresh f2 (by omega)
  replace r1 := r1.fr f2 (by omega)
  have t' := w.at_
  have p2 : Fr 0 0 h2 h2 := .refl _ _ _
  unfold gcells
  simp -dsimp only [go_sem, r1.cell]
  intro b3 h3 n3
  have n3_a := n3.at_
  have n3_z := n3.size
  replace p0 := p0.fresh (n3.fr (lo := 0) (hi := 0)) (by omega)
  replace r1 := r1.fr (n3.fr (lo := 0) (hi := 0)) (by omega)
  replace p2 := p2.fresh (n3.fr (lo := 0) (hi := 0)) (by omega)
  have r3 := n3.row
  simp -dsimp only [go_sem, r1.cell, r3.cell]
  refine Chk_intro (r3.wr (by first | (simp; done) | (simp; omega))) fun h4 s4 => ?_
  have s4_z := s4.size
  replace p0 := p0.fresh s4.fr (by omega)
  replace r1 := r1.fr s4.fr (by omega)
  replace p2 := p2.fresh s4.fr (by omega)
  replace r3 := s4.row r3
  try simp only [cl_int, cl_bool, cl_slice, cl_ptr, putAt_one, List.set_cons_zero, List.set_cons_succ, ivec_set, brow_upd] at r3
  simp -dsimp only [go_sem] at r3
  simp -dsimp only [go_sem, r1.cell, r3.cell]
  refine call_of (graph_Derive (t'.fr p2) (ht.fr p0 (.inr rfl))) ?_
  rintro v5 h5 ⟨f5, w5⟩
  have f5_z := f5.size
  replace p0 := p0.fresh f5 (by omega)
  replace r1 := r1.fr f5 (by omega)
  replace p2 := p2.fresh f5 (by omega)
  replace r3 := r3.fr f5 (by omega)
  cases hg : g.good
  · rw [hg] at w5
    simp only [Bool.false_eq_true, if_false] at w5
    subst w5
    unfold fzero
    simp -dsimp only [go_sem, r1.cell, r3.cell]
    intro b4 h6 n6
    have n6_a := n6.at_
    have n6_z := n6.size
    replace p0 := p0.fresh (n6.fr (lo := 0) (hi := 0)) (by omega)
    replace r1 := r1.fr (n6.fr (lo := 0) (hi := 0)) (by omega)
    replace p2 := p2.fresh (n6.fr (lo := 0) (hi := 0)) (by omega)
    replace r3 := r3.fr (n6.fr (lo := 0) (hi := 0)) (by omega)
    have r4 := n6.row
    simp -dsimp only [go_sem, r1.cell, r3.cell, r4.cell]
    refine Chk_intro (r4.wr (by first | (simp; done) | (simp; omega))) fun h7 s7 => ?_
    have s7_z := s7.size
    replace p0 := p0.fresh s7.fr (by omega)
    replace r1 := r1.fr s7.fr (by omega)
    replace p2 := p2.fresh s7.fr (by omega)
    replace r3 := r3.fr s7.fr (by omega)
    replace r4 := s7.row r4
    try simp only [cl_int, cl_bool, cl_slice, cl_ptr, putAt_one, List.set_cons_zero, List.set_cons_succ, ivec_set, brow_upd] at r4
    simp -dsimp only [go_sem] at r4
    simp -dsimp only [go_sem, r1.cell, r3.cell, r4.cell]
    refine call_of (graph_Derive (t'.fr p2) (ht.fr p0 (.inr rfl))) ?_
    rintro v8 h8 ⟨f8, w8⟩
    have f8_z := f8.size
    replace p0 := p0.fresh f8 (by omega)
    replace r1 := r1.fr f8 (by omega)
    replace p2 := p2.fresh f8 (by omega)
    replace r3 := r3.fr f8 (by omega)
    replace r4 := r4.fr f8 (by omega)
    rw [hg] at w8
    simp only [Bool.false_eq_true, if_false] at w8
    subst w8
    unfold fzero
    simp -dsimp only [go_sem, r1.cell, r3.cell, r4.cell]
    intro b6 h9 n9
    have n9_a := n9.at_
    have n9_z := n9.size
    replace p0 := p0.fresh (n9.fr (lo := 0) (hi := 0)) (by omega)
    replace r1 := r1.fr (n9.fr (lo := 0) (hi := 0)) (by omega)
    replace p2 := p2.fresh (n9.fr (lo := 0) (hi := 0)) (by omega)
    replace r3 := r3.fr (n9.fr (lo := 0) (hi := 0)) (by omega)
    replace r4 := r4.fr (n9.fr (lo := 0) (hi := 0)) (by omega)
    have r6 := n9.row
    simp -dsimp only [go_sem, r1.cell, r3.cell, r4.cell, r6.cell]
    refine Chk_intro (r6.wr (by first | (simp; done) | (simp; omega))) fun h10 s10 => ?_
    have s10_z := s10.size
    replace p0 := p0.fresh s10.fr (by omega)
    replace r1 := r1.fr s10.fr (by omega)
    replace p2 := p2.fresh s10.fr (by omega)
    replace r3 := r3.fr s10.fr (by omega)
    replace r4 := r4.fr s10.fr (by omega)
    replace r6 := s10.row r6
    try simp only [cl_int, cl_bool, cl_slice, cl_ptr, putAt_one, List.set_cons_zero, List.set_cons_succ, ivec_set, brow_upd] at r6
    simp -dsimp only [go_sem] at r6
    simp -dsimp only [go_sem, r1.cell, r3.cell, r4.cell, r6.cell]
    refine call_of (ref8_Good (t.fr p0)) ?_
    rintro v11 h11 ⟨f11, rfl⟩
    have f11_z := f11.size
    replace p0 := p0.fresh f11 (by omega)
    replace r1 := r1.fr f11 (by omega)
    replace p2 := p2.fresh f11 (by omega)
    replace r3 := r3.fr f11 (by omega)
    replace r4 := r4.fr f11 (by omega)
    replace r6 := r6.fr f11 (by omega)
    rw [hg]
    simp -dsimp only [go_sem, show (((0 : Nat) : Int) == 0) = true from rfl, r1.cell, r3.cell, r4.cell, r6.cell]
    refine call_of (law8_lives (ht.fr p0 (.inr rfl))) ?_
    rintro v12 h12 ⟨f12, rfl⟩
    have f12_z := f12.size
    replace p0 := p0.fresh f12 (by omega)
    replace r1 := r1.fr f12 (by omega)
    replace p2 := p2.fresh f12 (by omega)
    replace r3 := r3.fr f12 (by omega)
    replace r4 := r4.fr f12 (by omega)
    replace r6 := r6.fr f12 (by omega)
    simp -dsimp only [go_sem, r1.cell, r3.cell, r4.cell, r6.cell]
    exact p0
  rw [hg, if_pos rfl] at w5
  obtain ⟨p, rd, wr, fe, rfl, F⟩ := w5
  have hn := F.n
  have o1 := F.hrd
  have o2 := F.hwr
  have o3 := F.hfe
  obtain ⟨ra, rc, rfl⟩ := o1.is
  obtain ⟨wa, wc, rfl⟩ := o2.is
  obtain ⟨fa, fc, rfl⟩ := o3.is
  have oc : ∀ k, k < 10 → (p k).oneCell' = true := fun k hk => by
    obtain ⟨A, B, D, -⟩ := F.rel
    obtain ⟨_, e⟩ := progPtr (D.at_ k hk); rw [e]; rfl
  have hcl : ∀ k, k < 10 → cl (p k) = [p k] := fun k hk => by
    obtain ⟨A, B, D, -⟩ := F.rel
    obtain ⟨_, e⟩ := progPtr (D.at_ k hk); rw [e]; rfl
  clear o1 o2 o3
  have g5 : h4.size ≤ h5.size := by omega
  unfold fcells
  have p5 : Fr 0 0 h5 h5 := .refl _ _ _
  simp -dsimp only [go_sem, r1.cell, r3.cell]
  intro b4 h6 n6
  have n6_a := n6.at_
  have n6_z := n6.size
  replace p0 := p0.fresh (n6.fr (lo := 0) (hi := 0)) (by omega)
  replace r1 := r1.fr (n6.fr (lo := 0) (hi := 0)) (by omega)
  replace p2 := p2.fresh (n6.fr (lo := 0) (hi := 0)) (by omega)
  replace r3 := r3.fr (n6.fr (lo := 0) (hi := 0)) (by omega)
  replace p5 := p5.fresh (n6.fr (lo := 0) (hi := 0)) (by omega)
  have r4 := n6.row
  simp -dsimp only [go_sem, oc 0 (by decide), oc 1 (by decide), oc 2 (by decide), oc 3 (by decide), oc 4 (by decide), oc 5 (by decide), oc 6 (by decide), oc 7 (by decide), oc 8 (by decide), oc 9 (by decide), r1.cell, r3.cell, r4.cell]
  refine Chk_intro (r4.wr (by first | (simp; done) | (simp; omega))) fun h7 s7 => ?_
  have s7_z := s7.size
  replace p0 := p0.fresh s7.fr (by omega)
  replace r1 := r1.fr s7.fr (by omega)
  replace p2 := p2.fresh s7.fr (by omega)
  replace r3 := r3.fr s7.fr (by omega)
  replace p5 := p5.fresh s7.fr (by omega)
  replace r4 := s7.row r4
  try simp only [cl_int, cl_bool, cl_slice, cl_ptr, putAt_one, List.set_cons_zero, List.set_cons_succ, ivec_set, brow_upd] at r4
  replace r4 : Rw h7 b4 (fcells p (.slice ra g.n rc) (.slice wa g.n wc) (.slice fa g.n fc)) := r4
  unfold fcells at r4
  simp -dsimp only [go_sem, r1.cell, r3.cell, r4.cell]
  refine call_of (graph_Derive (t'.fr p2) (ht.fr p0 (.inr rfl))) ?_
  rintro v8 h8 ⟨f8, w8⟩
  have f8_z := f8.size
  replace p0 := p0.fresh f8 (by omega)
  replace r1 := r1.fr f8 (by omega)
  replace p2 := p2.fresh f8 (by omega)
  replace r3 := r3.fr f8 (by omega)
  replace p5 := p5.fresh f8 (by omega)
  replace r4 := r4.fr f8 (by omega)
  rw [hg, if_pos rfl] at w8
  obtain ⟨p', rd', wr', fe', rfl, F'⟩ := w8
  have hg7 : h5.size ≤ h7.size ∧ b4 < h7.size ∧ h5.size ≤ b4 := by omega
  have oc' : ∀ k, k < 10 → (p' k).oneCell' = true := fun k hk => by
    obtain ⟨A, B, D, -⟩ := F'.rel
    obtain ⟨_, e⟩ := progPtr (D.at_ k hk); rw [e]; rfl
  have ocd : rd'.oneCell' = true ∧ wr'.oneCell' = true ∧ fe'.oneCell' = true := by
    obtain ⟨_, _, e1⟩ := F'.hrd.is
    obtain ⟨_, _, e2⟩ := F'.hwr.is
    obtain ⟨_, _, e3⟩ := F'.hfe.is
    rw [e1, e2, e3]; exact ⟨rfl, rfl, rfl⟩
  obtain ⟨od1, od2, od3⟩ := ocd
  unfold fcells
  have p8 : Fr 0 0 h8 h8 := .refl _ _ _
  simp -dsimp only [go_sem, r1.cell, r3.cell, r4.cell]
  intro b6 h9 n9
  have n9_a := n9.at_
  have n9_z := n9.size
  replace p0 := p0.fresh (n9.fr (lo := 0) (hi := 0)) (by omega)
  replace r1 := r1.fr (n9.fr (lo := 0) (hi := 0)) (by omega)
  replace p2 := p2.fresh (n9.fr (lo := 0) (hi := 0)) (by omega)
  replace r3 := r3.fr (n9.fr (lo := 0) (hi := 0)) (by omega)
  replace p5 := p5.fresh (n9.fr (lo := 0) (hi := 0)) (by omega)
  replace r4 := r4.fr (n9.fr (lo := 0) (hi := 0)) (by omega)
  replace p8 := p8.fresh (n9.fr (lo := 0) (hi := 0)) (by omega)
  have r6 := n9.row
  simp -dsimp only [go_sem, oc' 0 (by decide), oc' 1 (by decide), oc' 2 (by decide), oc' 3 (by decide), oc' 4 (by decide), oc' 5 (by decide), oc' 6 (by decide), oc' 7 (by decide), oc' 8 (by decide), oc' 9 (by decide), od1, od2, od3, r1.cell, r3.cell, r4.cell, r6.cell]
  refine Chk_intro (r6.wr (by first | (simp; done) | (simp; omega))) fun h10 s10 => ?_
  have s10_z := s10.size
  replace p0 := p0.fresh s10.fr (by omega)
  replace r1 := r1.fr s10.fr (by omega)
  replace p2 := p2.fresh s10.fr (by omega)
  replace r3 := r3.fr s10.fr (by omega)
  replace p5 := p5.fresh s10.fr (by omega)
  replace r4 := r4.fr s10.fr (by omega)
  replace p8 := p8.fresh s10.fr (by omega)
  replace r6 := s10.row r6
  try simp only [cl_int, cl_bool, cl_slice, cl_ptr, putAt_one, List.set_cons_zero, List.set_cons_succ, ivec_set, brow_upd] at r6
  replace r6 : Rw h10 b6 (fcells p' rd' wr' fe') := r6
  unfold fcells at r6
  simp -dsimp only [go_sem, r1.cell, r3.cell, r4.cell, r6.cell]
  refine call_of (ref8_Good (t.fr p0)) ?_
  rintro v11 h11 ⟨f11, rfl⟩
  have f11_z := f11.size
  replace p0 := p0.fresh f11 (by omega)
  replace r1 := r1.fr f11 (by omega)
  replace p2 := p2.fresh f11 (by omega)
  replace r3 := r3.fr f11 (by omega)
  replace p5 := p5.fresh f11 (by omega)
  replace r4 := r4.fr f11 (by omega)
  replace p8 := p8.fresh f11 (by omega)
  replace r6 := r6.fr f11 (by omega)
  rw [hg]
  simp -dsimp only [go_sem, r1.cell, r3.cell, r4.cell, r6.cell]
  refine withC_of (fcells p (.slice ra g.n rc) (.slice wa g.n wc) (.slice fa g.n fc)) 0 (fun j x hj => by rw [r4.cell, Nat.zero_add]; exact hj) ?_
  refine call_of (c_law8_whole (t.fr p0) (ht.fr p0 (.inr rfl)) hg (F.fr p5 (by omega))) ?_
  rintro v12 h12 ⟨f12, rfl⟩
  have f12_z := f12.size
  replace p0 := p0.fresh f12 (by omega)
  replace r1 := r1.fr f12 (by omega)
  replace p2 := p2.fresh f12 (by omega)
  replace r3 := r3.fr f12 (by omega)
  replace p5 := p5.fresh f12 (by omega)
  replace r4 := r4.fr f12 (by omega)
  replace p8 := p8.fresh f12 (by omega)
  replace r6 := r6.fr f12 (by omega)
  simp -dsimp only [go_sem, hcl 0 (by decide), hcl 1 (by decide), hcl 2 (by decide), hcl 3 (by decide), hcl 4 (by decide), hcl 5 (by decide), hcl 6 (by decide), hcl 7 (by decide), hcl 8 (by decide), hcl 9 (by decide), putAt_one, r1.cell, r3.cell, r4.cell, r6.cell]
  intro b8 h13 n13
  have n13_a := n13.at_
  have n13_z := n13.size
  replace p0 := p0.fresh (n13.fr (lo := 0) (hi := 0)) (by omega)
  replace r1 := r1.fr (n13.fr (lo := 0) (hi := 0)) (by omega)
  replace p2 := p2.fresh (n13.fr (lo := 0) (hi := 0)) (by omega)
  replace r3 := r3.fr (n13.fr (lo := 0) (hi := 0)) (by omega)
  replace p5 := p5.fresh (n13.fr (lo := 0) (hi := 0)) (by omega)
  replace r4 := r4.fr (n13.fr (lo := 0) (hi := 0)) (by omega)
  replace p8 := p8.fresh (n13.fr (lo := 0) (hi := 0)) (by omega)
  replace r6 := r6.fr (n13.fr (lo := 0) (hi := 0)) (by omega)
  have r8 := n13.row
  have g13 : h5.size ≤ h12.size ∧ h12.size ≤ h13.size ∧ h8.size ≤ h12.size ∧ h7.size ≤ h8.size := by omega
  have Fa := F.fr p5 (by omega)
  have Fb := F'.fr p8 (by omega)
  simp -dsimp only [go_sem, r1.cell, r3.cell, r4.cell, r6.cell, r8.cell]
  obtain ⟨A, B, D, dlo, dap⟩ := F.rel
  have D := D.fr p5 (by omega)
  have o1 := Fa.hrd
  have o2 := Fa.hwr
  have o3 := Fa.hfe
  obtain ⟨f12, f13, f23⟩ := Fa.off
  have dlo5 : ∀ k, k < 10 → h4.size ≤ A k ∧ A k ≤ B k ∧ B k ≤ h5.size := dlo
  have q13 : Fr h4.size h5.size h13 h13 := .refl _ _ _
  have dap1 : ∀ k, k < 10 → bh (.slice ra g.n rc) ≤ A k ∨ B k ≤ bl (.slice ra g.n rc) ∨ bh (.slice ra g.n rc) ≤ bl (.slice ra g.n rc) := fun k hk => dap k hk _ (by simp)
  have dap2 : ∀ k, k < 10 → bh (.slice wa g.n wc) ≤ A k ∨ B k ≤ bl (.slice wa g.n wc) ∨ bh (.slice wa g.n wc) ≤ bl (.slice wa g.n wc) := fun k hk => dap k hk _ (by simp)
  have dap3 : ∀ k, k < 10 → bh (.slice fa g.n fc) ≤ A k ∨ B k ≤ bl (.slice fa g.n fc) ∨ bh (.slice fa g.n fc) ≤ bl (.slice fa g.n fc) := fun k hk => dap k hk _ (by simp)
  have tp1 := F.hrd.top
  have tp2 := F.hwr.top
  have tp3 := F.hfe.top
  have k1 := r1
  have k3 := r3
  have k4 := r4
  have k6 := r6
  have k8 := r8
  have P0 := p0
  have P2 := p2
  -- the relations are spoilt
  refine loop_intro (fun i : Nat => [(1, .pointer (some ⟨b1, 0, none⟩)), (3, .pointer (some ⟨b3, 0, none⟩)), (4, .pointer (some ⟨b4, 0, none⟩)), (6, .pointer (some ⟨b6, 0, none⟩)), (8, .slice (some ⟨b8, 0, none⟩) 10 10), (9, .int .i64 i)])
    (fun i h' => i ≤ 10 ∧ Fr h4.size h5.size h13 h' ∧ (∃ M, Der h' A B p g.n M 10) ∧ Holder 1 h' (.slice ra g.n rc) g.n (boolsV (kindsV g 1 g.n)) h4.size ∧ Holder 1 h' (.slice wa g.n wc) g.n (boolsV (kindsV g 2 g.n)) h4.size ∧ Holder 1 h' (.slice fa g.n fc) g.n (boolsV (kindsV g 3 g.n)) h4.size) (fun i => 10 - i) 0 ?_ ?_ ?_
  · simp [Le, find]
  · exact ⟨by omega, q13, ⟨_, D⟩, o1, o2, o3⟩
  clear p0 p2 p5 p8 r1 r3 r4 r6 r8 D o1 o2 o3 q13
  rintro i h14 ⟨hi, q, ⟨M, D⟩, o1, o2, o3⟩
  have r8 := k8.fr q (by omega)
  by_cases hlt : i < 10
  · have e1 : ((i : Int) < ((10 : Nat) : Int)) := by omega
    simp -dsimp only [go_sem, e1, r8.cell]
    have hk := ixP_lt hlt
    have hc := lix (p := p) hlt
    have ab := dlo5 _ hk
    generalize ixP i = k at hk hc ab
    have ap1 := dap1 _ hk
    have ap2 := dap2 _ hk
    have ap3 := dap3 _ hk
    refine loop_intro (fun x : Nat => [(1, .pointer (some ⟨b1, 0, none⟩)), (3, .pointer (some ⟨b3, 0, none⟩)), (4, .pointer (some ⟨b4, 0, none⟩)), (6, .pointer (some ⟨b6, 0, none⟩)), (8, .slice (some ⟨b8, 0, none⟩) 10 10), (9, .int .i64 i), (10, .int .i64 x)])
      (fun x h' => x ≤ g.n ∧ Fr h4.size h5.size h13 h' ∧ (∃ M, Der h' A B p g.n M 10) ∧ Holder 1 h' (.slice ra g.n rc) g.n (boolsV (kindsV g 1 g.n)) h4.size ∧ Holder 1 h' (.slice wa g.n wc) g.n (boolsV (kindsV g 2 g.n)) h4.size ∧ Holder 1 h' (.slice fa g.n fc) g.n (boolsV (kindsV g 3 g.n)) h4.size) (fun x => g.n - x) 0 ?_ ?_ ?_
    · simp [Le, find]
    · exact ⟨by omega, q, ⟨_, D⟩, o1, o2, o3⟩
    clear q D o1 o2 o3 r8 M
    rintro x h15 ⟨hx, q, ⟨M, D⟩, o1, o2, o3⟩
    have r8 := k8.fr q (by omega)
    simp -dsimp only [go_sem, e1, hc, r8.cell]
    refine call_of (rel_Len (D.at_ k hk)) ?_
    rintro v16 h16 ⟨hh, rfl⟩
    obtain rfl : h15 = h16 := hh.symm
    by_cases hxl : x < g.n
    · have e2 : ((x : Int) < (g.n : Int)) := by omega
      simp -dsimp only [go_sem, e1, e2, hc, r8.cell]
      refine call_of (rel_Has (D.at_ k hk) x x) ?_
      rintro v17 h17 ⟨hh, rfl⟩
      obtain rfl : h15 = h17 := hh.symm
      simp -dsimp only [go_sem, e1, e2, hc, r8.cell]
      refine call_of (rel_Put (D.at_ k hk) x x _) ?_
      rintro v18 h18 ⟨f18, z18, -, w18⟩
      replace D := D.put hk f18 w18
      replace q := q.freshIn f18 (by omega)
      replace r8 := r8.fr f18 (by omega)
      replace o1 := o1.fr f18 (by have := o1.at_; omega)
      replace o2 := o2.fr f18 (by have := o2.at_; omega)
      replace o3 := o3.fr f18 (by have := o3.at_; omega)
      simp -dsimp only [go_sem, e1, e2, hc, r8.cell]
      simp -dsimp (disch := omega) only [wrap64]
      exact ⟨x + 1, by omega, by simp [Le, find], by omega, q, ⟨_, D⟩, o1, o2, o3⟩
    · obtain rfl : x = g.n := by omega
      simp -dsimp only [go_sem, e1, Int.lt_irrefl, r8.cell]
      simp -dsimp (disch := omega) only [wrap64]
      exact ⟨i + 1, by omega, by simp [Le, find], by omega, q, ⟨_, D⟩, o1, o2, o3⟩
  obtain rfl : i = 10 := by omega
  simp -dsimp only [go_sem, Int.lt_irrefl]
  -- the truths are spoilt
  clear D r8
  refine loop_intro (fun i : Nat => [(1, .pointer (some ⟨b1, 0, none⟩)), (3, .pointer (some ⟨b3, 0, none⟩)), (4, .pointer (some ⟨b4, 0, none⟩)), (6, .pointer (some ⟨b6, 0, none⟩)), (11, .int .i64 i)])
    (fun i h' => i ≤ g.n ∧ Fr h4.size h5.size h13 h' ∧ (∃ y, Holder 1 h' (.slice ra g.n rc) g.n (boolsV y) h4.size) ∧ (∃ y, Holder 1 h' (.slice wa g.n wc) g.n (boolsV y) h4.size) ∧ ∃ y, Holder 1 h' (.slice fa g.n fc) g.n (boolsV y) h4.size) (fun i => g.n - i) 0 ?_ ?_ ?_
  · simp [Le, find]
  · exact ⟨by omega, q, ⟨_, o1⟩, ⟨_, o2⟩, ⟨_, o3⟩⟩
  clear q o1 o2 o3
  rintro i h20 ⟨hi, q, ⟨y1, o1⟩, ⟨y2, o2⟩, ⟨y3, o3⟩⟩
  have r4 := k4.fr q (by omega)
  by_cases hlt : i < g.n
  · have e1 : ((i : Int) < (g.n : Int)) := by omega
    obtain ⟨z1, x1, rfl, hc1, wr1, st1⟩ := holder_bool o1 hlt
    simp -dsimp only [go_sem, e1, hc1, r4.cell]
    refine Chk_intro wr1 fun h21 s1 => ?_
    obtain ⟨ys1, o1'⟩ := st1 _ _ s1
    have lb1 : bl (.slice (some ⟨z1, 0, none⟩) g.n rc) = z1 ∧ bh (.slice (some ⟨z1, 0, none⟩) g.n rc) = z1 + 1 := ⟨rfl, rfl⟩
    have la1 := o1.at_
    have off1 := f12
    have off2 := f13
    unfold Off at off1 off2
    have f21 : Fr z1 (z1 + 1) _ _ := s1.fr
    replace q := q.freshIn f21 (by omega)
    replace r4 := r4.fr f21 (by omega)
    replace o2 := o2.fr f21 (by have := o2.at_; omega)
    replace o3 := o3.fr f21 (by have := o3.at_; omega)
    clear o1 off1 off2
    simp -dsimp only [go_sem, e1, r4.cell]
    obtain ⟨z2, x2, rfl, hc2, wr2, st2⟩ := holder_bool o2 hlt
    simp -dsimp only [go_sem, e1, hc2, r4.cell]
    refine Chk_intro wr2 fun h22 s2 => ?_
    obtain ⟨ys2, o2'⟩ := st2 _ _ s2
    have lb2 : bl (.slice (some ⟨z2, 0, none⟩) g.n wc) = z2 ∧ bh (.slice (some ⟨z2, 0, none⟩) g.n wc) = z2 + 1 := ⟨rfl, rfl⟩
    have la2 := o2.at_
    have off1 := f12
    have off2 := f23
    unfold Off at off1 off2
    have f22 : Fr z2 (z2 + 1) _ _ := s2.fr
    replace q := q.freshIn f22 (by omega)
    replace r4 := r4.fr f22 (by omega)
    replace o1' := o1'.fr f22 (by have := o1'.at_; omega)
    replace o3 := o3.fr f22 (by have := o3.at_; omega)
    clear o2 off1 off2
    simp -dsimp only [go_sem, e1, r4.cell]
    obtain ⟨z3, x3, rfl, hc3, wr3, st3⟩ := holder_bool o3 hlt
    simp -dsimp only [go_sem, e1, hc3, r4.cell]
    refine Chk_intro wr3 fun h23 s3 => ?_
    obtain ⟨ys3, o3'⟩ := st3 _ _ s3
    have lb3 : bl (.slice (some ⟨z3, 0, none⟩) g.n fc) = z3 ∧ bh (.slice (some ⟨z3, 0, none⟩) g.n fc) = z3 + 1 := ⟨rfl, rfl⟩
    have la3 := o3.at_
    have off1 := f13
    have off2 := f23
    unfold Off at off1 off2
    have f23 : Fr z3 (z3 + 1) _ _ := s3.fr
    replace q := q.freshIn f23 (by omega)
    replace r4 := r4.fr f23 (by omega)
    replace o1' := o1'.fr f23 (by have := o1'.at_; omega)
    replace o2' := o2'.fr f23 (by have := o2'.at_; omega)
    clear o3 off1 off2
    simp -dsimp only [go_sem, e1, r4.cell]
    simp -dsimp (disch := omega) only [wrap64]
    exact ⟨i + 1, by omega, by simp [Le, find], by omega, q, ⟨_, o1'⟩, ⟨_, o2'⟩, ⟨_, o3'⟩⟩
  obtain rfl : i = g.n := by omega
  simp -dsimp only [go_sem, Int.lt_irrefl, r4.cell]
  have p0 := P0.fresh q (by omega)
  have p2 := P2.fresh q (by omega)
  have r1 := k1.fr q (by omega)
  have r3 := k3.fr q (by omega)
  have r6 := k6.fr q (by omega)
  have Fb := Fb.fr q (by omega)
  clear r4 q o1 o2 o3
  simp -dsimp only [go_sem, r1.cell, r3.cell, r6.cell]
  refine withC_of (fcells p' rd' wr' fe') 0 (fun j x hj => by rw [r6.cell, Nat.zero_add]; exact hj) ?_
  refine call_of (c_law8_whole (t.fr p0) (ht.fr p0 (.inr rfl)) hg Fb) ?_
  rintro v24 h24 ⟨f24, rfl⟩
  have f24_z := f24.size
  replace p0 := p0.fresh f24 (by omega)
  replace p2 := p2.fresh f24 (by omega)
  replace r1 := r1.fr f24 (by omega)
  replace r3 := r3.fr f24 (by omega)
  replace r6 := r6.fr f24 (by omega)
  simp -dsimp only [go_sem, r1.cell, r3.cell, r6.cell]
  refine call_of (ref8_Alike (t'.fr p2) (t.fr p0)) ?_
  rintro v25 h25 ⟨f25, rfl⟩
  have f25_z := f25.size
  replace p0 := p0.fresh f25 (by omega)
  replace p2 := p2.fresh f25 (by omega)
  replace r1 := r1.fr f25 (by omega)
  replace r3 := r3.fr f25 (by omega)
  replace r6 := r6.fr f25 (by omega)
  simp -dsimp only [go_sem, r1.cell, r3.cell, r6.cell]
  refine call_of (law8_lives (ht.fr p0 (.inr rfl))) ?_
  rintro v26 h26 ⟨f26, rfl⟩
  have f26_z := f26.size
  replace p0 := p0.fresh f26 (by omega)
  replace p2 := p2.fresh f26 (by omega)
  replace r1 := r1.fr f26 (by omega)
  replace r3 := r3.fr f26 (by omega)
  replace r6 := r6.fr f26 (by omega)
  simp -dsimp only [go_sem, r1.cell, r3.cell, r6.cell]
  exact p0
end Go.Proofs.Tst
