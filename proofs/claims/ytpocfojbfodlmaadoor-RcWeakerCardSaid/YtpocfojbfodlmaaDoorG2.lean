/-
  The compiled forms of functions that the law reaches, each checked against the program by the kernel. No condition.
-/
import Derived.Test.YtpocfojbfodlmaaDoorG1
set_option linter.all false
set_option maxRecDepth 2000
namespace Go.Proofs.Tst
open Go Go.Vc
variable {y : Option Nat} {a0 a1 a2 a3 a4 a5 a6 a7 : Value} {h : Heap} {R : Value → Heap → Prop}
def T_slices_Values_1:List (Nat×List Nat):=[(0,[0,5,6,7]),(1,[0,5,6,7,8]),(2,[0,4,5,6,7]),(3,[0,5,6,7,14]),(4,[0,5,6,7])]
abbrev g_slices_Values_1_r0:GR:=(O2 0 5 1 (OP 1 6 (.len (.tmp 5)) (OP 2 7 (.mv (.const (.int .i64 0))) .done)))
abbrev g_slices_Values_1_r1:GR:=(O5 0 8 .lss 7 6 .done)
abbrev g_slices_Values_1_r2:GR:=(O4 0 9 1 5 7 (O2 1 10 9 (O1 2 4 10 .done)))
abbrev g_slices_Values_1_r3:GR:=(O1 0 11 0 (O1 1 12 4 (OP 2 13 (.callv (.tmp 11) [(.tmp 12)]) (OP 3 14 (.not (.tmp 13)) .done))))
abbrev g_slices_Values_1_r4:GR:=(OP 0 15 (.bin .add (.tmp 7) (.const (.int .i64 1))) (O1 1 7 15 .done))
abbrev g_slices_Values_1_l5:GC:=(.seq (.reg g_slices_Values_1_r1 [0,5,6,7,8]) (.seq (.cond (.tmp 8) .skip (.exit 0)) (.seq (.block 1 (.seq (.reg g_slices_Values_1_r2 [0,4,5,6,7]) (.seq (.reg g_slices_Values_1_r3 [0,5,6,7,14]) (.cond (.tmp 14) .ret .skip)))) (.reg g_slices_Values_1_r4 [0,5,6,7]))))
abbrev g_slices_Values_1:GC:=(.seq (.reg g_slices_Values_1_r0 [0,5,6,7]) (.block 0 (.loop g_slices_Values_1_l5)))
abbrev rs_slices_Values_1:List RV:=[]
theorem gc_slices_Values_1:compileF Tryd.prog Tryd.f86 T_slices_Values_1=some (g_slices_Values_1,rs_slices_Values_1):=by kernel_rfl
theorem con_slices_Values_1 (hv:vc Tryd.prog y g_slices_Values_1 (retQ rs_slices_Values_1 R) [(0,a0),(1,a1)] h):ConX y Tryd.prog 86 #[a0,a1] h R:=con_of Tryd.func86 gc_slices_Values_1 rfl (fun h=>absurd h (by decide)) hv
def T_slices_AppendSeq:List (Nat×List Nat):=[(0,[1,2,4]),(1,[2,4,6]),(2,[2,5]),(3,[]),(4,[4])]
abbrev g_slices_AppendSeq_r0:GR:=(OP 0 2 (.box 35 (.tmp 0)) (OP 1 4 (.mv (.const (.slice none 0 0))) .done))
abbrev g_slices_AppendSeq_r1:GR:=(O1 0 6 1 .done)
abbrev g_slices_AppendSeq_r2:GR:=(O1 0 5 7 .done)
abbrev g_slices_AppendSeq_r3:GR:=(O2 0 8 2 (O1 1 9 5 (OP 2 10 (.buildSlice 3 1 [(.int .i64 0)] [(0,(1,(.tmp 9)))]) (OP 3 11 (.append 3 1 8 [(.int .i64 0)] (.tmp 8) (.tmp 10)) (OS 4 (.store 1 (.tmp 2) (.tmp 11)) .done)))))
abbrev g_slices_AppendSeq_b4:GC:=(.block 1 (.reg g_slices_AppendSeq_r3 []))
abbrev g_slices_AppendSeq_r5:GR:=(O2 0 12 2 (O1 1 4 12 .done))
abbrev g_slices_AppendSeq:GC:=(.seq (.reg g_slices_AppendSeq_r0 [1,2,4]) (.seq (.seq (.reg g_slices_AppendSeq_r1 [2,4,6]) (.block 0 (.rng (.tmp 6) [7] (.reg g_slices_AppendSeq_r2 [2,5]) g_slices_AppendSeq_b4))) (.seq (.reg g_slices_AppendSeq_r5 [4]) .ret)))
abbrev rs_slices_AppendSeq:List RV:=[(.tmp 4)]
theorem gc_slices_AppendSeq:compileF Tryd.prog Tryd.f87 T_slices_AppendSeq=some (g_slices_AppendSeq,rs_slices_AppendSeq):=by kernel_rfl
theorem con_slices_AppendSeq (hR:∀ v h1 h2,Ext h.size h1 h2→R v h1→R v h2) (hv:vc Tryd.prog y g_slices_AppendSeq (retQ rs_slices_AppendSeq R) [(0,a0),(1,a1)] h):ConX y Tryd.prog 87 #[a0,a1] h R:=con_of Tryd.func87 gc_slices_AppendSeq rfl (fun _=>hR) hv
end Go.Proofs.Tst
