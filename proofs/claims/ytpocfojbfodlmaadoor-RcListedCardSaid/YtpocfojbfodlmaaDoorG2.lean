/-
  The compiled forms of functions that the law reaches, each checked against the program by the kernel. No condition.
-/
import Derived.Test.YtpocfojbfodlmaaDoorG1
set_option linter.all false
set_option maxRecDepth 2000
namespace Go.Proofs.Tst
open Go Go.Vc
variable {y : Option Nat} {a0 a1 a2 a3 a4 a5 a6 a7 : Value} {h : Heap} {R : Value → Heap → Prop}
def T_graph_look_po:List (Nat×List Nat):=[(0,[0,1,2]),(1,[1,2,7]),(2,[6])]
abbrev g_graph_look_po_r0:GR:=(OP 0 6 (.mv (.const (.bool false))) .done)
abbrev g_graph_look_po_r1:GR:=(O1 0 8 0 (OP 1 9 (.nilCheck (.tmp 8)) (O3 2 10 0 9 (O3 3 11 1 10 (O2 4 12 11 (O1 5 7 12 .done))))))
abbrev g_graph_look_po_r2:GR:=(O1 0 13 1 (OP 1 14 (.bin .geq (.tmp 13) (.const (.int .i64 0))) (O1 2 15 14 (OG 3 16 15 true (.mv (.tmp 1)) (OG 4 17 15 true (.mv (.tmp 2)) (OG 5 18 15 true (.bin .lss (.tmp 16) (.tmp 17)) (OP 6 19 (.pick (.tmp 15) (.tmp 18) (.const (.bool false))) (O1 7 20 19 (OG 8 21 20 true (.mv (.tmp 2)) (OG 9 22 20 true (.mv (.tmp 7)) (OG 10 23 20 true (.len (.tmp 22)) (OG 11 24 20 true (.bin .lss (.tmp 21) (.tmp 23)) (OP 12 25 (.pick (.tmp 20) (.tmp 24) (.const (.bool false))) (O1 13 26 25 (OG 14 27 26 true (.mv (.tmp 7)) (OG 15 28 26 true (.mv (.tmp 1)) (OG 16 29 26 true (.indexAddr 5 (.tmp 27) (.tmp 28)) (OG 17 30 26 true (.fieldAddr 0 (.tmp 29)) (.op (GI.mk 18 (some 31) (some (26,true)) (.load none (.tmp 30)) [] true) (OG 19 32 26 true (.bin .geq (.tmp 31) (.const (.int .i64 0))) (OP 20 33 (.pick (.tmp 26) (.tmp 32) (.const (.bool false))) (O1 21 34 33 (OG 22 35 34 true (.mv (.tmp 7)) (OG 23 36 34 true (.mv (.tmp 1)) (OG 24 37 34 true (.indexAddr 5 (.tmp 35) (.tmp 36)) (OG 25 38 34 true (.fieldAddr 0 (.tmp 37)) (.op (GI.mk 26 (some 39) (some (34,true)) (.load none (.tmp 38)) [] true) (OG 27 40 34 true (.mv (.tmp 7)) (OG 28 41 34 true (.mv (.tmp 2)) (OG 29 42 34 true (.indexAddr 5 (.tmp 40) (.tmp 41)) (OG 30 43 34 true (.fieldAddr 0 (.tmp 42)) (.op (GI.mk 31 (some 44) (some (34,true)) (.load none (.tmp 43)) [] true) (OG 32 45 34 true (.bin .eql (.tmp 39) (.tmp 44)) (OP 33 46 (.pick (.tmp 34) (.tmp 45) (.const (.bool false))) (O1 34 6 46 .done)))))))))))))))))))))))))))))))))))
abbrev g_graph_look_po:GC:=(.seq (.reg g_graph_look_po_r0 [0,1,2]) (.seq (.reg g_graph_look_po_r1 [1,2,7]) (.seq (.reg g_graph_look_po_r2 [6]) .ret)))
abbrev rs_graph_look_po:List RV:=[(.tmp 6)]
theorem gc_graph_look_po:compileF Tryd.prog Tryd.f82 T_graph_look_po=some (g_graph_look_po,rs_graph_look_po):=by kernel_rfl
theorem con_graph_look_po (hv:vc Tryd.prog y g_graph_look_po (retQ rs_graph_look_po R) [(0,a0),(1,a1),(2,a2)] h):ConX y Tryd.prog 82 #[a0,a1,a2] h R:=con_of Tryd.func82 gc_graph_look_po rfl (fun h=>absurd h (by decide)) hv
def T_slices_Values:List (Nat×List Nat):=[(0,[1]),(1,[2])]
abbrev g_slices_Values_r0:GR:=(OP 0 1 (.box 35 (.tmp 0)) (OP 1 2 (.mv (.const Value.nilFunc)) .done))
abbrev g_slices_Values_r1:GR:=(OP 0 3 (.makeFunc (Fn.func 86) [] [(.tmp 1)]) (O1 1 2 3 .done))
abbrev g_slices_Values:GC:=(.seq (.reg g_slices_Values_r0 [1]) (.seq (.reg g_slices_Values_r1 [2]) .ret))
abbrev rs_slices_Values:List RV:=[(.tmp 2)]
theorem gc_slices_Values:compileF Tryd.prog Tryd.f83 T_slices_Values=some (g_slices_Values,rs_slices_Values):=by kernel_rfl
theorem con_slices_Values (hv:vc Tryd.prog y g_slices_Values (retQ rs_slices_Values R) [(0,a0)] h):ConX y Tryd.prog 83 #[a0] h R:=con_of Tryd.func83 gc_slices_Values rfl (fun h=>absurd h (by decide)) hv
def T_slices_Collect:List (Nat×List Nat):=[(0,[0]),(1,[2])]
abbrev g_slices_Collect_r0:GR:=(OP 0 2 (.mv (.const (.slice none 0 0))) .done)
abbrev g_slices_Collect_r1:GR:=(O1 0 3 0 (OP 1 4 (.call 87 [(.const (.slice none 0 0)),(.tmp 3)]) (O1 2 2 4 .done)))
abbrev g_slices_Collect:GC:=(.seq (.reg g_slices_Collect_r0 [0]) (.seq (.reg g_slices_Collect_r1 [2]) .ret))
abbrev rs_slices_Collect:List RV:=[(.tmp 2)]
theorem gc_slices_Collect:compileF Tryd.prog Tryd.f84 T_slices_Collect=some (g_slices_Collect,rs_slices_Collect):=by kernel_rfl
theorem con_slices_Collect (hv:vc Tryd.prog y g_slices_Collect (retQ rs_slices_Collect R) [(0,a0)] h):ConX y Tryd.prog 84 #[a0] h R:=con_of Tryd.func84 gc_slices_Collect rfl (fun h=>absurd h (by decide)) hv
def T_slices_Index:List (Nat×List Nat):=[(0,[0,1]),(1,[0,1,7,8]),(2,[0,1,7,8,9]),(3,[0,1,5,7,8]),(4,[0,1,5,7,8,16]),(5,[4]),(6,[0,1,7,8]),(7,[4])]
abbrev g_slices_Index_r0:GR:=(OP 0 4 (.mv (.const (.int .i64 0))) .done)
abbrev g_slices_Index_r1:GR:=(O1 0 6 0 (OP 1 7 (.len (.tmp 6)) (OP 2 8 (.mv (.const (.int .i64 0))) .done)))
abbrev g_slices_Index_r2:GR:=(O5 0 9 .lss 8 7 .done)
abbrev g_slices_Index_r3:GR:=(O1 0 10 8 (O1 1 5 10 .done))
abbrev g_slices_Index_r4:GR:=(O1 0 11 1 (O1 1 12 0 (O1 2 13 5 (O4 3 14 1 12 13 (O2 4 15 14 (O5 5 16 .eql 11 15 .done))))))
abbrev g_slices_Index_r5:GR:=(O1 0 17 5 (O1 1 4 17 .done))
abbrev g_slices_Index_r6:GR:=(OP 0 18 (.bin .add (.tmp 8) (.const (.int .i64 1))) (O1 1 8 18 .done))
abbrev g_slices_Index_l7:GC:=(.seq (.reg g_slices_Index_r2 [0,1,7,8,9]) (.seq (.cond (.tmp 9) .skip (.exit 0)) (.seq (.block 1 (.seq (.reg g_slices_Index_r3 [0,1,5,7,8]) (.seq (.reg g_slices_Index_r4 [0,1,5,7,8,16]) (.cond (.tmp 16) (.seq (.reg g_slices_Index_r5 [4]) .ret) .skip)))) (.reg g_slices_Index_r6 [0,1,7,8]))))
abbrev g_slices_Index_r8:GR:=(OP 0 4 (.mv (.const (.int .i64 (-1)))) .done)
abbrev g_slices_Index:GC:=(.seq (.reg g_slices_Index_r0 [0,1]) (.seq (.seq (.reg g_slices_Index_r1 [0,1,7,8]) (.block 0 (.loop g_slices_Index_l7))) (.seq (.reg g_slices_Index_r8 [4]) .ret)))
abbrev rs_slices_Index:List RV:=[(.tmp 4)]
theorem gc_slices_Index:compileF Tryd.prog Tryd.f85 T_slices_Index=some (g_slices_Index,rs_slices_Index):=by kernel_rfl
theorem con_slices_Index (hv:vc Tryd.prog y g_slices_Index (retQ rs_slices_Index R) [(0,a0),(1,a1)] h):ConX y Tryd.prog 85 #[a0,a1] h R:=con_of Tryd.func85 gc_slices_Index rfl (fun h=>absurd h (by decide)) hv
def T_slices_Values_1:List (Nat×List Nat):=[(0,[0,5,6,7]),(1,[0,5,6,7,8]),(2,[0,4,5,6,7]),(3,[0,5,6,7,14]),(4,[0,5,6,7])]
abbrev g_slices_Values_1_r0:GR:=(O2 0 5 1 (OP 1 6 (.len (.tmp 5)) (OP 2 7 (.mv (.const (.int .i64 0))) .done)))
abbrev g_slices_Values_1_r1:GR:=(O5 0 8 .lss 7 6 .done)
abbrev g_slices_Values_1_r2:GR:=(O4 0 9 1 5 7 (O2 1 10 9 (O1 2 4 10 .done)))
abbrev g_slices_Values_1_r3:GR:=(O1 0 11 0 (O1 1 12 4 (OP 2 13 (.callv (.tmp 11) [(.tmp 12)]) (OP 3 14 (.not (.tmp 13)) .done))))
abbrev g_slices_Values_1_r4:GR:=(OP 0 15 (.bin .add (.tmp 7) (.const (.int .i64 1))) (O1 1 7 15 .done))
abbrev g_slices_Values_1_l5:GC:=(.seq (.reg g_slices_Values_1_r1 [0,5,6,7,8]) (.seq (.cond (.tmp 8) .skip (.exit 0)) (.seq (.block 1 (.seq (.reg g_slices_Values_1_r2 [0,4,5,6,7]) (.seq (.reg g_slices_Values_1_r3 [0,5,6,7,14]) (.cond (.tmp 14) .ret .skip)))) (.reg g_slices_Values_1_r4 [0,5,6,7]))))
abbrev g_slices_Values_1:GC:=(.seq (.reg g_slices_Values_1_r0 [0,5,6,7]) (.block 0 (.loop g_slices_Values_1_l5)))
abbrev rs_slices_Values_1:List RV:=[]
theorem gc_slices_Values_1:compileF Tryd.prog Tryd.f86 T_slices_Values_1=some (g_slices_Values_1,rs_slices_Values_1):=by kernel_rfl
theorem con_slices_Values_1 (hv:vc Tryd.prog y g_slices_Values_1 (retQ rs_slices_Values_1 R) [(0,a0),(1,a1)] h):ConX y Tryd.prog 86 #[a0,a1] h R:=con_of Tryd.func86 gc_slices_Values_1 rfl (fun h=>absurd h (by decide)) hv
def T_slices_AppendSeq:List (Nat×List Nat):=[(0,[1,2,4]),(1,[2,4,6]),(2,[2,5]),(3,[]),(4,[4])]
abbrev g_slices_AppendSeq_r0:GR:=(OP 0 2 (.box 35 (.tmp 0)) (OP 1 4 (.mv (.const (.slice none 0 0))) .done))
abbrev g_slices_AppendSeq_r1:GR:=(O1 0 6 1 .done)
abbrev g_slices_AppendSeq_r2:GR:=(O1 0 5 7 .done)
abbrev g_slices_AppendSeq_r3:GR:=(O2 0 8 2 (O1 1 9 5 (OP 2 10 (.buildSlice 3 1 [(.int .i64 0)] [(0,(1,(.tmp 9)))]) (OP 3 11 (.append 3 1 8 [(.int .i64 0)] (.tmp 8) (.tmp 10)) (OS 4 (.store 1 (.tmp 2) (.tmp 11)) .done)))))
abbrev g_slices_AppendSeq_b4:GC:=(.block 1 (.reg g_slices_AppendSeq_r3 []))
abbrev g_slices_AppendSeq_r5:GR:=(O2 0 12 2 (O1 1 4 12 .done))
abbrev g_slices_AppendSeq:GC:=(.seq (.reg g_slices_AppendSeq_r0 [1,2,4]) (.seq (.seq (.reg g_slices_AppendSeq_r1 [2,4,6]) (.block 0 (.rng (.tmp 6) [7] (.reg g_slices_AppendSeq_r2 [2,5]) g_slices_AppendSeq_b4))) (.seq (.reg g_slices_AppendSeq_r5 [4]) .ret)))
abbrev rs_slices_AppendSeq:List RV:=[(.tmp 4)]
theorem gc_slices_AppendSeq:compileF Tryd.prog Tryd.f87 T_slices_AppendSeq=some (g_slices_AppendSeq,rs_slices_AppendSeq):=by kernel_rfl
theorem con_slices_AppendSeq (hR:∀ v h1 h2,Ext h.size h1 h2→R v h1→R v h2) (hv:vc Tryd.prog y g_slices_AppendSeq (retQ rs_slices_AppendSeq R) [(0,a0),(1,a1)] h):ConX y Tryd.prog 87 #[a0,a1] h R:=con_of Tryd.func87 gc_slices_AppendSeq rfl (fun _=>hR) hv
end Go.Proofs.Tst
