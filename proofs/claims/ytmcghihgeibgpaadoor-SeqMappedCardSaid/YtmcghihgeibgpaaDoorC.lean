/-
  SeqMapped: whatever the arguments, the law answers true, and what was in memory is as it was. The row lists the table of math/bits; the card ties it to the program text.
-/
import Derived.Test.YtmcghihgeibgpaaDoorCards
import Derived.Test.YtmcghihgeibgpaaDoorTie
import Derived.Test.YtmcghihgeibgpaaDoorT12
set_option linter.all false
set_option maxRecDepth 100000
namespace Go.Proofs.YtmcghihgeibgpaaDoor.seqMapped
open Go Go.Vc Go.ChangeShapes Go.WideShapes Go.ChangeAt Go.RowKit Go.Proofs.Tst
theorem own : ownKnob Tryd.prog.godebug = none := by kernel_rfl
theorem gTab : Tryd.prog.globalNamed "math/bits.deBruijn64tab" = some 0 := by kernel_rfl
theorem gTabType : (Tryd.prog.globals[0]?).map (·.type) = some 198 := by kernel_rfl
theorem cells3 : Tryd.prog.cellsOf 3 = 1 := by kernel_rfl
theorem cells5 : Tryd.prog.cellsOf 5 = 1 := by kernel_rfl
theorem cells22 : Tryd.prog.cellsOf 22 = 1 := by kernel_rfl
theorem cells23 : Tryd.prog.cellsOf 23 = 1 := by kernel_rfl
theorem cells24 : Tryd.prog.cellsOf 24 = 1 := by kernel_rfl
theorem cells26 : Tryd.prog.cellsOf 26 = 8 := by kernel_rfl
theorem cells34 : Tryd.prog.cellsOf 34 = 1 := by kernel_rfl
theorem cells36 : Tryd.prog.cellsOf 36 = 5 := by kernel_rfl
theorem cells38 : Tryd.prog.cellsOf 38 = 2 := by kernel_rfl
theorem cells39 : Tryd.prog.cellsOf 39 = 1 := by kernel_rfl
theorem cells198 : Tryd.prog.cellsOf 198 = 64 := by kernel_rfl
theorem bytes3 : Tryd.prog.bytesOf 3 = 8 := by kernel_rfl
theorem bytes36 : Tryd.prog.bytesOf 36 = 40 := by kernel_rfl
theorem bytes38 : Tryd.prog.bytesOf 38 = 16 := by kernel_rfl
theorem bytes39 : Tryd.prog.bytesOf 39 = 24 := by kernel_rfl
theorem table {W : World} (h : laidMetH Tryd.prog Rows.seqMappedRow.laid W) : TabAt W.heap := by
  have t : Lib.TabIs Tryd.prog W "math/bits.deBruijn64tab" .u8 (tab64.map fun (k : Nat) => (k : Int)) := Lib.tabIs_of_head (rest := []) gTab gTabType Tryd.underlying198 Tryd.underlying5 cells5 cells198 h
  intro i k hk
  rw [← cell?_heap]
  have hi := (List.getElem?_eq_some_iff.1 hk).1
  have := t.cell gTab i (by rw [List.length_map]; exact hi)
  rw [List.getD_eq_getElem?_getD, List.getElem?_map, hk] at this
  exact this
set_option maxRecDepth 100000 in
theorem contract (H : Type) (enc : TypeId × Value → H) (W : World) (base : Nat) (args : Array Value) (ds gs : List (DataW H)) (before : List MemPlace)
    (hval : ∀ (j : Nat) t v, Tryd.f11.params[j]? = some t → args[j]? = some v → Value.okWide Tryd.prog W .any base t v)
    (hW : DataW.Whole enc Tryd.prog Tryd.f11.params.toList Rows.seqMappedSpec.vars false W args.toList ds gs before)
    (hwt : (DataW.weightsEach Tryd.prog (Tryd.f11.params.toList ++ (OpenSpec.ofChange Rows.seqMappedSpec).bare.plain.varTypes Tryd.prog) (ds ++ gs)).all (· ≤ reachBytes) = true) (hL : laidMetH Tryd.prog Rows.seqMappedRow.laid W) :
    Calls Tryd.prog 11 args W fun e W' => ∃ v, e = .returned v ∧ Rows.seqMappedSpec.post enc Tryd.prog Tryd.f11 false true false false W args v W' := by
  have hW' := hW
  obtain ⟨p, q, hA0, hV, hbf, hfz, hnd⟩ := hW
  have hA : DataW.TrodAll enc Tryd.prog W 0 (fun _ => true) true Tryd.f11.params.toList args.toList ds p := hA0
  rw [Tryd.params11] at hA hval hwt
  obtain ⟨v0, vs0, d0, ds0, p0, q0, hargs, rfl, rfl, h0, r0⟩ := trodAll_cons hA
  obtain ⟨v1, vs1, d1, ds1, p1, q1, rfl, rfl, rfl, h1, r1⟩ := trodAll_cons r0
  obtain ⟨rfl, rfl, rfl⟩ := trodAll_nil r1
  obtain rfl : args = #[v0, v1] := by cases args; simp_all
  obtain ⟨rfl, rfl⟩ := trodVars_none hV
  have hw : ∀ x ∈ DataW.weightsEach Tryd.prog [26, 4] [d0, d1], x ≤ reachBytes := fun x hx => by
    have := List.all_eq_true.1 hwt x (by rw [List.append_nil]; exact hx)
    simpa using this
  clear hA0 hA
  have ht := table hL
  obtain ⟨q0, g0, rfl, hg0⟩ := arg_graph Tryd.underlying26 cells26 ⟨rfl, rfl, rfl, rfl, rfl, rfl, rfl, rfl⟩ ⟨rfl, rfl, rfl, rfl, rfl, rfl, rfl, rfl⟩ Tryd.underlying22 Tryd.underlying36 cells36 bytes36 ⟨rfl, rfl, rfl, rfl, rfl⟩ ⟨rfl, rfl, rfl, rfl, rfl⟩ Tryd.underlying23 Tryd.underlying38 cells38 bytes38 ⟨rfl, rfl, rfl, rfl⟩ Tryd.underlying24 Tryd.underlying39 cells39 bytes39 Tryd.underlying3 cells3 bytes3 Tryd.underlying34 cells34 cells22 cells23 cells24 (hval 0 26 v0 rfl rfl) h0 (fun x hx => hw x (by simp only [DataW.weightsEach, List.mem_append]; exact .inl hx))
  obtain ⟨n1, rfl, rfl, rfl⟩ := open_bool Tryd.underlying4 (hval 1 4 v1 rfl rfl) h1
  refine ((c_law12_SeqMapped hg0 n1 ht).2 W rfl).mono fun e W' ⟨v, he, ⟨hf, hv⟩, hl⟩ => ?_
  subst hv
  exact ⟨_, he, law_post (by kernel_rfl) (by rw [Tryd.params11]; kernel_rfl) rfl (by kernel_rfl) Tryd.underlying4 hW' (below_of hf hl) rfl⟩
noncomputable def laidWorld (os : Os) : World :=
  { World.holding Tryd.prog os ⟨#[], #[], []⟩ with heap := (World.holding Tryd.prog os ⟨#[], #[], []⟩).heap.modify 0 fun
      | .cells _ t frozen => .cells #[.int .u8 0, .int .u8 1, .int .u8 56, .int .u8 2, .int .u8 57, .int .u8 49, .int .u8 28, .int .u8 3, .int .u8 61, .int .u8 58, .int .u8 42, .int .u8 50, .int .u8 38, .int .u8 29, .int .u8 17, .int .u8 4, .int .u8 62, .int .u8 47, .int .u8 59, .int .u8 36, .int .u8 45, .int .u8 43, .int .u8 51, .int .u8 22, .int .u8 53, .int .u8 39, .int .u8 33, .int .u8 30, .int .u8 24, .int .u8 18, .int .u8 12, .int .u8 5, .int .u8 63, .int .u8 55, .int .u8 48, .int .u8 27, .int .u8 60, .int .u8 41, .int .u8 37, .int .u8 16, .int .u8 46, .int .u8 35, .int .u8 44, .int .u8 21, .int .u8 52, .int .u8 32, .int .u8 23, .int .u8 11, .int .u8 54, .int .u8 26, .int .u8 40, .int .u8 15, .int .u8 34, .int .u8 20, .int .u8 31, .int .u8 10, .int .u8 25, .int .u8 14, .int .u8 19, .int .u8 9, .int .u8 13, .int .u8 8, .int .u8 7, .int .u8 6] t frozen
      | o => o }
theorem laid_met (os : Os) : laidMet Tryd.prog Rows.seqMappedRow.laid ((laidWorld os).forCall (fun _ _ => 0) ⟨#[], #[Value.agg #[.int .i64 0, .slice none 0 0, .slice none 0 0, .slice none 0 0, .slice none 0 0, .slice none 0 0, .slice none 0 0, .slice none 0 0], Value.bool false], []⟩).memory :=
  laidMet_of_run' 8 (by kernel_rfl) (by kernel_rfl)
theorem reads (os : Os) {H : Type} (enc : TypeId × Value → H) : ∃ places, DataW.whole enc Tryd.prog ((laidWorld os).forCall (fun _ _ => 0) ⟨#[], #[Value.agg #[.int .i64 0, .slice none 0 0, .slice none 0 0, .slice none 0 0, .slice none 0 0, .slice none 0 0, .slice none 0 0, .slice none 0 0], Value.bool false], []⟩).memory Tryd.f11.params.toList Rows.seqMappedSpec.vars false (#[Value.agg #[.int .i64 0, .slice none 0 0, .slice none 0 0, .slice none 0 0, .slice none 0 0, .slice none 0 0, .slice none 0 0, .slice none 0 0], Value.bool false] : Array Value).toList 8 = some ([.agg [.lit (.int .i64 0), .nil, .nil, .nil, .nil, .nil, .nil, .nil], .lit (.bool false)], [], places) :=
  ⟨[], by kernel_rfl⟩

set_option maxRecDepth 100000 in
theorem lifted (os : Os) (started : os.Started) (H : Type) (enc : TypeId × Value → H) (F : Stop.Interp) :
    ReturnsInHanded {} Tryd.checked os 11 .any ((OpenSpec.ofChange Rows.seqMappedSpec).preRow enc Tryd.prog Tryd.f11 Rows.seqMappedRow.domain false Rows.seqMappedRow.laid) (((OpenSpec.ofChange Rows.seqMappedSpec).at F).post enc Tryd.prog Tryd.f11 false true false false) := by
  obtain ⟨places, hx⟩ := reads os enc
  refine returnsInHanded_of_row (C := Tryd.checked) (s := OpenSpec.ofChange Rows.seqMappedSpec) own started (by kernel_rfl) Tryd.func11
    (witness_row_at (enc := enc) (C := Tryd.checked) false (laidWorld os) #[Value.agg #[.int .i64 0, .slice none 0 0, .slice none 0 0, .slice none 0 0, .slice none 0 0, .slice none 0 0, .slice none 0 0, .slice none 0 0], Value.bool false] rfl (by kernel_rfl) (by kernel_rfl) (by kernel_rfl)
      (OpenSpec.preRow_of_cond 8 hx (by kernel_rfl) (fun k hk => by cases hk) (by kernel_rfl) (laid_met os))) ?_
  intro W base args ds gs before hval hW _ _ hwt hL _ _
  exact contract H enc W base args ds gs before hval hW hwt hL

theorem said : Rows.SeqMappedSaid :=
  OpenClaim.holds_of_cond 11 Tryd.f11 rfl rfl rfl rfl rfl rfl rfl ⟨rfl, rfl, rfl, rfl, rfl⟩ rfl rfl rfl rfl rfl (by kernel_rfl) Tryd.func11 (by kernel_rfl)
    (of_decide_eq_true (by kernel_rfl)) (by unfold Func.isWrapper; first | (rw [if_pos (by decide +kernel)]; kernel_rfl) | (rw [if_neg (by decide +kernel)]; exact ⟨rfl, rfl⟩))
    (fun os started H enc _ F => by rw [OpenClaim.pre_eq_preRow]; exact lifted os started H enc F)

theorem plain (f : FuncId) (fn : Func) (hf : Tryd.pinned.checked.prog.funcNamed "sextant/sextantlaw12.SeqMapped" = some f) (hfn : Tryd.pinned.checked.prog.funcs[f]? = some fn) :
    false = Tryd.pinned.checked.prog.looks [] ∧ ∀ (j : Nat) t, fn.params[j]? = some t → Tryd.pinned.checked.prog.wantsStandIn t = false := by
  obtain rfl : f = 11 := Option.some.inj ((show Tryd.prog.funcNamed "sextant/sextantlaw12.SeqMapped" = some 11 by kernel_rfl).symm.trans hf) |>.symm
  obtain rfl : fn = Tryd.f11 := (Option.some.inj (Tryd.func11.symm.trans hfn)).symm
  refine ⟨by kernel_rfl, fun j t ht => ?_⟩
  have h := Array.mem_of_getElem? ht
  have h2 : (Tryd.f11.params.toList.all fun t => !Tryd.prog.wantsStandIn t) = true := by rw [Tryd.params11]; kernel_rfl
  have h3 := List.all_eq_true.1 h2 t (Array.mem_toList_iff.2 h)
  show Tryd.prog.wantsStandIn t = false
  simpa using h3

theorem proved : Rows.SeqMappedCardSaid :=
  Claim7.holds_tied_plain_at .later [] _ _ _ _ said (fun _ h => by cases h) (by kernel_rfl) (fun _ h => by cases h) seqMapped_row_tie rfl ⟨rfl, rfl⟩ (by kernel_rfl) rfl plain (by kernel_rfl)
#print axioms proved
end Go.Proofs.YtmcghihgeibgpaaDoor.seqMapped
