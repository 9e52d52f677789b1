/-
  SeqChecks: whatever the arguments, the law answers true, and what was in memory is as it was. The row lists the table of math/bits; the card ties it to the program text.
-/
import Derived.Test.YtmcghihgeibgpaaGreatDoorCards
import Derived.Test.YtmcghihgeibgpaaGreatDoorTie
import Derived.Test.YtmcghihgeibgpaaGreatDoorT11
set_option linter.all false
set_option maxRecDepth 100000
namespace Go.Proofs.YtmcghihgeibgpaaGreatDoor.seqChecks
open Go Go.Vc Go.ChangeShapes Go.WideShapes Go.ChangeAt Go.RowKit Go.Proofs.Tst
theorem own : ownKnob Tryz.prog.godebug = none := by kernel_rfl
theorem gTab : Tryz.prog.globalNamed "math/bits.deBruijn64tab" = some 0 := by kernel_rfl
theorem gTabType : (Tryz.prog.globals[0]?).map (·.type) = some 144 := by kernel_rfl
theorem cells3 : Tryz.prog.cellsOf 3 = 1 := by kernel_rfl
theorem cells5 : Tryz.prog.cellsOf 5 = 1 := by kernel_rfl
theorem cells22 : Tryz.prog.cellsOf 22 = 1 := by kernel_rfl
theorem cells23 : Tryz.prog.cellsOf 23 = 1 := by kernel_rfl
theorem cells24 : Tryz.prog.cellsOf 24 = 1 := by kernel_rfl
theorem cells26 : Tryz.prog.cellsOf 26 = 8 := by kernel_rfl
theorem cells28 : Tryz.prog.cellsOf 28 = 1 := by kernel_rfl
theorem cells61 : Tryz.prog.cellsOf 61 = 1 := by kernel_rfl
theorem cells63 : Tryz.prog.cellsOf 63 = 5 := by kernel_rfl
theorem cells76 : Tryz.prog.cellsOf 76 = 2 := by kernel_rfl
theorem cells144 : Tryz.prog.cellsOf 144 = 64 := by kernel_rfl
theorem bytes3 : Tryz.prog.bytesOf 3 = 8 := by kernel_rfl
theorem bytes28 : Tryz.prog.bytesOf 28 = 24 := by kernel_rfl
theorem bytes63 : Tryz.prog.bytesOf 63 = 40 := by kernel_rfl
theorem bytes76 : Tryz.prog.bytesOf 76 = 16 := by kernel_rfl
theorem table {W : World} (h : laidMetH Tryz.prog Rows.seqChecksRow.laid W) : TabAt W.heap := by
  have t : Lib.TabIs Tryz.prog W "math/bits.deBruijn64tab" .u8 (tab64.map fun (k : Nat) => (k : Int)) := Lib.tabIs_of_head (rest := []) gTab gTabType Tryz.underlying144 Tryz.underlying5 cells5 cells144 h
  intro i k hk
  rw [← cell?_heap]
  have hi := (List.getElem?_eq_some_iff.1 hk).1
  have := t.cell gTab i (by rw [List.length_map]; exact hi)
  rw [List.getD_eq_getElem?_getD, List.getElem?_map, hk] at this
  exact this
set_option maxRecDepth 100000 in
theorem contract (H : Type) (enc : TypeId × Value → H) (W : World) (base : Nat) (args : Array Value) (ds gs : List (DataW H)) (before : List MemPlace)
    (hval : ∀ (j : Nat) t v, Tryz.f3.params[j]? = some t → args[j]? = some v → Value.okWide Tryz.prog W .any base t v)
    (hW : DataW.Whole enc Tryz.prog Tryz.f3.params.toList Rows.seqChecksSpec.vars false W args.toList ds gs before)
    (hwt : (DataW.weightsEach Tryz.prog (Tryz.f3.params.toList ++ (OpenSpec.ofChange Rows.seqChecksSpec).bare.plain.varTypes Tryz.prog) (ds ++ gs)).all (· ≤ reachBytes) = true) (hL : laidMetH Tryz.prog Rows.seqChecksRow.laid W) :
    Calls Tryz.prog 3 args W fun e W' => ∃ v, e = .returned v ∧ Rows.seqChecksSpec.post enc Tryz.prog Tryz.f3 false true false false W args v W' := by
  have hW' := hW
  obtain ⟨p, q, hA0, hV, hbf, hfz, hnd⟩ := hW
  have hA : DataW.TrodAll enc Tryz.prog W 0 (fun _ => true) true Tryz.f3.params.toList args.toList ds p := hA0
  rw [Tryz.params3] at hA hval hwt
  obtain ⟨v0, vs0, d0, ds0, p0, q0, hargs, rfl, rfl, h0, r0⟩ := trodAll_cons hA
  obtain ⟨rfl, rfl, rfl⟩ := trodAll_nil r0
  obtain rfl : args = #[v0] := by cases args; simp_all
  obtain ⟨rfl, rfl⟩ := trodVars_none hV
  have hw : ∀ x ∈ DataW.weightsEach Tryz.prog [26] [d0], x ≤ reachBytes := fun x hx => by
    have := List.all_eq_true.1 hwt x (by rw [List.append_nil]; exact hx)
    simpa using this
  clear hA0 hA
  have ht := table hL
  obtain ⟨q0, g0, rfl, hg0⟩ := arg_graph Tryz.underlying26 cells26 ⟨rfl, rfl, rfl, rfl, rfl, rfl, rfl, rfl⟩ ⟨rfl, rfl, rfl, rfl, rfl, rfl, rfl, rfl⟩ Tryz.underlying22 Tryz.underlying63 cells63 bytes63 ⟨rfl, rfl, rfl, rfl, rfl⟩ ⟨rfl, rfl, rfl, rfl, rfl⟩ Tryz.underlying23 Tryz.underlying76 cells76 bytes76 ⟨rfl, rfl, rfl, rfl⟩ Tryz.underlying24 Tryz.underlying28 cells28 bytes28 Tryz.underlying3 cells3 bytes3 Tryz.underlying61 cells61 cells22 cells23 cells24 (hval 0 26 v0 rfl rfl) h0 (fun x hx => hw x (by simp only [DataW.weightsEach, List.mem_append]; exact .inl hx))
  refine ((c_law12_SeqChecks hg0 ht).2 W rfl).mono fun e W' ⟨v, he, ⟨hf, hv⟩, hl⟩ => ?_
  subst hv
  exact ⟨_, he, law_post (by kernel_rfl) (by rw [Tryz.params3]; kernel_rfl) rfl (by kernel_rfl) Tryz.underlying4 hW' (below_of hf hl) rfl⟩
noncomputable def laidWorld (os : Os) : World :=
  { World.holding Tryz.prog os ⟨#[], #[], []⟩ with heap := (World.holding Tryz.prog os ⟨#[], #[], []⟩).heap.modify 0 fun
      | .cells _ t frozen => .cells #[.int .u8 0, .int .u8 1, .int .u8 56, .int .u8 2, .int .u8 57, .int .u8 49, .int .u8 28, .int .u8 3, .int .u8 61, .int .u8 58, .int .u8 42, .int .u8 50, .int .u8 38, .int .u8 29, .int .u8 17, .int .u8 4, .int .u8 62, .int .u8 47, .int .u8 59, .int .u8 36, .int .u8 45, .int .u8 43, .int .u8 51, .int .u8 22, .int .u8 53, .int .u8 39, .int .u8 33, .int .u8 30, .int .u8 24, .int .u8 18, .int .u8 12, .int .u8 5, .int .u8 63, .int .u8 55, .int .u8 48, .int .u8 27, .int .u8 60, .int .u8 41, .int .u8 37, .int .u8 16, .int .u8 46, .int .u8 35, .int .u8 44, .int .u8 21, .int .u8 52, .int .u8 32, .int .u8 23, .int .u8 11, .int .u8 54, .int .u8 26, .int .u8 40, .int .u8 15, .int .u8 34, .int .u8 20, .int .u8 31, .int .u8 10, .int .u8 25, .int .u8 14, .int .u8 19, .int .u8 9, .int .u8 13, .int .u8 8, .int .u8 7, .int .u8 6] t frozen
      | o => o }
theorem laid_met (os : Os) : laidMet Tryz.prog Rows.seqChecksRow.laid ((laidWorld os).forCall (fun _ _ => 0) ⟨#[], #[Value.agg #[.int .i64 0, .slice none 0 0, .slice none 0 0, .slice none 0 0, .slice none 0 0, .slice none 0 0, .slice none 0 0, .slice none 0 0]], []⟩).memory :=
  laidMet_of_run' 8 (by kernel_rfl) (by kernel_rfl)
theorem reads (os : Os) {H : Type} (enc : TypeId × Value → H) : ∃ places, DataW.whole enc Tryz.prog ((laidWorld os).forCall (fun _ _ => 0) ⟨#[], #[Value.agg #[.int .i64 0, .slice none 0 0, .slice none 0 0, .slice none 0 0, .slice none 0 0, .slice none 0 0, .slice none 0 0, .slice none 0 0]], []⟩).memory Tryz.f3.params.toList Rows.seqChecksSpec.vars false (#[Value.agg #[.int .i64 0, .slice none 0 0, .slice none 0 0, .slice none 0 0, .slice none 0 0, .slice none 0 0, .slice none 0 0, .slice none 0 0]] : Array Value).toList 8 = some ([.agg [.lit (.int .i64 0), .nil, .nil, .nil, .nil, .nil, .nil, .nil]], [], places) :=
  ⟨[], by kernel_rfl⟩

set_option maxRecDepth 100000 in
theorem lifted (os : Os) (started : os.Started) (H : Type) (enc : TypeId × Value → H) (F : Stop.Interp) :
    ReturnsInHanded {} Tryz.checked os 3 .any ((OpenSpec.ofChange Rows.seqChecksSpec).preRow enc Tryz.prog Tryz.f3 Rows.seqChecksRow.domain false Rows.seqChecksRow.laid) (((OpenSpec.ofChange Rows.seqChecksSpec).at F).post enc Tryz.prog Tryz.f3 false true false false) := by
  obtain ⟨places, hx⟩ := reads os enc
  refine returnsInHanded_of_row (C := Tryz.checked) (s := OpenSpec.ofChange Rows.seqChecksSpec) own started (by kernel_rfl) Tryz.func3
    (witness_row_at (enc := enc) (C := Tryz.checked) false (laidWorld os) #[Value.agg #[.int .i64 0, .slice none 0 0, .slice none 0 0, .slice none 0 0, .slice none 0 0, .slice none 0 0, .slice none 0 0, .slice none 0 0]] rfl (by kernel_rfl) (by kernel_rfl) (by kernel_rfl)
      (OpenSpec.preRow_of_cond 8 hx (by kernel_rfl) (fun k hk => by cases hk) (by kernel_rfl) (laid_met os))) ?_
  intro W base args ds gs before hval hW _ _ hwt hL _ _
  exact contract H enc W base args ds gs before hval hW hwt hL

theorem said : Rows.SeqChecksSaid :=
  OpenClaim.holds_of_cond 3 Tryz.f3 rfl rfl rfl rfl rfl rfl rfl ⟨rfl, rfl, rfl, rfl, rfl⟩ rfl rfl rfl rfl rfl (by kernel_rfl) Tryz.func3 (by kernel_rfl)
    (of_decide_eq_true (by kernel_rfl)) (by unfold Func.isWrapper; first | (rw [if_pos (by decide +kernel)]; kernel_rfl) | (rw [if_neg (by decide +kernel)]; exact ⟨rfl, rfl⟩))
    (fun os started H enc _ F => by rw [OpenClaim.pre_eq_preRow]; exact lifted os started H enc F)

theorem plain (f : FuncId) (fn : Func) (hf : Tryz.pinned.checked.prog.funcNamed "sextant/sextantlaw12.SeqChecks" = some f) (hfn : Tryz.pinned.checked.prog.funcs[f]? = some fn) :
    false = Tryz.pinned.checked.prog.looks [] ∧ ∀ (j : Nat) t, fn.params[j]? = some t → Tryz.pinned.checked.prog.wantsStandIn t = false := by
  obtain rfl : f = 3 := Option.some.inj ((show Tryz.prog.funcNamed "sextant/sextantlaw12.SeqChecks" = some 3 by kernel_rfl).symm.trans hf) |>.symm
  obtain rfl : fn = Tryz.f3 := (Option.some.inj (Tryz.func3.symm.trans hfn)).symm
  refine ⟨by kernel_rfl, fun j t ht => ?_⟩
  have h := Array.mem_of_getElem? ht
  have h2 : (Tryz.f3.params.toList.all fun t => !Tryz.prog.wantsStandIn t) = true := by rw [Tryz.params3]; kernel_rfl
  have h3 := List.all_eq_true.1 h2 t (Array.mem_toList_iff.2 h)
  show Tryz.prog.wantsStandIn t = false
  simpa using h3

theorem proved : Rows.SeqChecksCardSaid :=
  Claim7.holds_tied_plain_at .later [] _ _ _ _ said (fun _ h => by cases h) (by kernel_rfl) (fun _ h => by cases h) seqChecks_row_tie rfl ⟨rfl, rfl⟩ (by kernel_rfl) rfl plain (by kernel_rfl)
#print axioms proved
end Go.Proofs.YtmcghihgeibgpaaGreatDoor.seqChecks
