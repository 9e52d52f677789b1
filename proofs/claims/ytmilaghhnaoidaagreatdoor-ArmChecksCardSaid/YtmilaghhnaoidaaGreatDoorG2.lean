/-
  The compiled forms of functions that the law reaches, each checked against the program by the kernel. No condition.
-/
import Derived.Test.YtmilaghhnaoidaaGreatDoorG1
set_option linter.all false
set_option maxRecDepth 2000
namespace Go.Proofs.Tst
open Go Go.Vc
variable {y : Option Nat} {a0 a1 a2 a3 a4 a5 a6 a7 : Value} {h : Heap} {R : Value → Heap → Prop}
def T_ref1_far:List (Nat×List Nat):=[(0,[1,2]),(1,[1,2,5]),(2,[1,2,5,6]),(3,[1,2,5,6,16]),(4,[1,2,5,6]),(5,[1,2,5,6]),(6,[1,2,5,7]),(7,[1,2,5,7,25]),(8,[1,2,5,7]),(9,[1,2,5,7,8]),(10,[1,2,5,7,8,31]),(11,[1,2,5,7,8]),(12,[1,2,5,7,8,9]),(13,[1,2,5,7,8,9,44]),(14,[1,2,5,7,8,9]),(15,[1,2,5,7,8,9,76]),(16,[1,2,5,7,8,9]),(17,[4])]
abbrev g_ref1_far_r0:GR:=(OP 0 2 (.box 47 (.tmp 0)) (OP 1 4 (.mv (.const (.slice none 0 0))) .done))
abbrev g_ref1_far_r1:GR:=(O3 0 10 0 2 (O2 1 11 10 (OP 2 12 (.makeSlice 3 1 8 [(.int .i64 0)] (.tmp 11) (.tmp 11)) (O1 3 5 12 .done))))
abbrev g_ref1_far_r2:GR:=(OP 0 6 (.mv (.const (.int .i64 0))) .done)
abbrev g_ref1_far_r3:GR:=(O1 0 13 6 (O3 1 14 0 2 (O2 2 15 14 (O5 3 16 .lss 13 15 .done))))
abbrev g_ref1_far_r4:GR:=(O1 0 19 5 (O1 1 20 6 (O4 2 21 1 19 20 (OS 3 (.store 1 (.tmp 21) (.const (.int .i64 (-1)))) .done))))
abbrev g_ref1_far_r5:GR:=(O1 0 17 6 (OP 1 18 (.bin .add (.tmp 17) (.const (.int .i64 1))) (O1 2 6 18 .done)))
abbrev g_ref1_far_l6:GC:=(.seq (.seq (.reg g_ref1_far_r3 [1,2,5,6,16]) (.cond (.tmp 16) .skip (.exit 0))) (.seq (.block 1 (.reg g_ref1_far_r4 [1,2,5,6])) (.reg g_ref1_far_r5 [1,2,5,6])))
abbrev g_ref1_far_r7:GR:=(OP 0 7 (.mv (.const (.int .i64 1))) .done)
abbrev g_ref1_far_r8:GR:=(O1 0 22 7 (O3 1 23 0 2 (O2 2 24 23 (O5 3 25 .leq 22 24 .done))))
abbrev g_ref1_far_r9:GR:=(OP 0 8 (.mv (.const (.int .i64 0))) .done)
abbrev g_ref1_far_r10:GR:=(O1 0 28 8 (O3 1 29 0 2 (O2 2 30 29 (O5 3 31 .lss 28 30 .done))))
abbrev g_ref1_far_r11:GR:=(OP 0 9 (.mv (.const (.int .i64 0))) .done)
abbrev g_ref1_far_r12:GR:=(O1 0 34 5 (O1 1 35 8 (O4 2 36 1 34 35 (O2 3 37 36 (OP 4 38 (.bin .lss (.tmp 37) (.const (.int .i64 0))) (O1 5 39 38 (OG 6 40 39 true (.mv (.tmp 9)) (OG 7 41 39 true (.fieldAddr 0 (.tmp 2)) (OG 8 42 39 true (.load none (.tmp 41)) (OG 9 43 39 true (.bin .lss (.tmp 40) (.tmp 42)) (OP 10 44 (.pick (.tmp 39) (.tmp 43) (.const (.bool false))) .done)))))))))))
abbrev g_ref1_far_r13:GR:=(O3 0 47 1 2 (O2 1 48 47 (O1 2 49 8 (O4 3 50 1 48 49 (O2 4 51 50 (O1 5 52 9 (O4 6 53 1 51 52 (O2 7 54 53 (O1 8 55 54 (OG 9 56 55 true (.mv (.tmp 7)) (OG 10 57 55 true (.bin .eql (.tmp 56) (.const (.int .i64 1))) (OG 11 58 55 true (.mv (.tmp 57)) (OG 12 59 58 true (.mv (.tmp 9)) (OG 13 60 58 true (.mv (.tmp 1)) (OG 14 61 58 true (.bin .eql (.tmp 59) (.tmp 60)) (OG 15 62 55 true (.pick (.tmp 58) (.tmp 61) (.const (.bool false))) (OG 16 63 55 true (.mv (.tmp 62)) (OG 17 64 63 false (.mv (.tmp 7)) (OG 18 65 63 false (.bin .gtr (.tmp 64) (.const (.int .i64 1))) (OG 19 66 63 false (.mv (.tmp 65)) (OG 20 67 66 true (.mv (.tmp 5)) (OG 21 68 66 true (.mv (.tmp 9)) (OG 22 69 66 true (.indexAddr 1 (.tmp 67) (.tmp 68)) (OG 23 70 66 true (.load none (.tmp 69)) (OG 24 71 66 true (.mv (.tmp 7)) (OG 25 72 66 true (.bin .sub (.tmp 71) (.const (.int .i64 1))) (OG 26 73 66 true (.bin .eql (.tmp 70) (.tmp 72)) (OG 27 74 63 false (.pick (.tmp 66) (.tmp 73) (.const (.bool false))) (OG 28 75 55 true (.pick (.tmp 63) (.const (.bool true)) (.tmp 74)) (OP 29 76 (.pick (.tmp 55) (.tmp 75) (.const (.bool false))) .done))))))))))))))))))))))))))))))
abbrev g_ref1_far_r14:GR:=(O1 0 77 5 (O1 1 78 8 (O1 2 79 7 (O4 3 80 1 77 78 (OS 4 (.store 1 (.tmp 80) (.tmp 79)) .done)))))
abbrev g_ref1_far_r15:GR:=(O1 0 45 9 (OP 1 46 (.bin .add (.tmp 45) (.const (.int .i64 1))) (O1 2 9 46 .done)))
abbrev g_ref1_far_l16:GC:=(.seq (.seq (.reg g_ref1_far_r12 [1,2,5,7,8,9,44]) (.cond (.tmp 44) .skip (.exit 6))) (.seq (.block 7 (.seq (.reg g_ref1_far_r13 [1,2,5,7,8,9,76]) (.cond (.tmp 76) (.reg g_ref1_far_r14 [1,2,5,7,8,9]) .skip))) (.reg g_ref1_far_r15 [1,2,5,7,8,9])))
abbrev g_ref1_far_r17:GR:=(O1 0 32 8 (OP 1 33 (.bin .add (.tmp 32) (.const (.int .i64 1))) (O1 2 8 33 .done)))
abbrev g_ref1_far_l18:GC:=(.seq (.seq (.reg g_ref1_far_r10 [1,2,5,7,8,31]) (.cond (.tmp 31) .skip (.exit 4))) (.seq (.block 5 (.seq (.reg g_ref1_far_r11 [1,2,5,7,8,9]) (.block 6 (.loop g_ref1_far_l16)))) (.reg g_ref1_far_r17 [1,2,5,7,8])))
abbrev g_ref1_far_r19:GR:=(O1 0 26 7 (OP 1 27 (.bin .add (.tmp 26) (.const (.int .i64 1))) (O1 2 7 27 .done)))
abbrev g_ref1_far_l20:GC:=(.seq (.seq (.reg g_ref1_far_r8 [1,2,5,7,25]) (.cond (.tmp 25) .skip (.exit 2))) (.seq (.block 3 (.seq (.reg g_ref1_far_r9 [1,2,5,7,8]) (.block 4 (.loop g_ref1_far_l18)))) (.reg g_ref1_far_r19 [1,2,5,7])))
abbrev g_ref1_far_r21:GR:=(O1 0 81 5 (O1 1 4 81 .done))
abbrev g_ref1_far:GC:=(.seq (.reg g_ref1_far_r0 [1,2]) (.seq (.reg g_ref1_far_r1 [1,2,5]) (.seq (.seq (.reg g_ref1_far_r2 [1,2,5,6]) (.block 0 (.loop g_ref1_far_l6))) (.seq (.seq (.reg g_ref1_far_r7 [1,2,5,7]) (.block 2 (.loop g_ref1_far_l20))) (.seq (.reg g_ref1_far_r21 [4]) .ret)))))
abbrev rs_ref1_far:List RV:=[(.tmp 4)]
theorem gc_ref1_far:compileF Tryz.prog Tryz.f74 T_ref1_far=some (g_ref1_far,rs_ref1_far):=by kernel_rfl
theorem con_ref1_far (hv:vc Tryz.prog y g_ref1_far (retQ rs_ref1_far R) [(0,a0),(1,a1)] h):ConX y Tryz.prog 74 #[a0,a1] h R:=con_of Tryz.func74 gc_ref1_far rfl (fun h=>absurd h (by decide)) hv
def T_ref1_Union:List (Nat×List Nat):=[(0,[2,3,4]),(1,[3,4,5]),(2,[3,4,5,6]),(3,[3,4,5,6,15]),(4,[3,4,5,6]),(5,[3,4,5,6,7]),(6,[3,4,5,6,7,21]),(7,[3,4,5,6,7]),(8,[3,4,5,6,7]),(9,[4])]
abbrev g_ref1_Union_r0:GR:=(OP 0 2 (.box 47 (.tmp 0)) (OP 1 3 (.box 47 (.tmp 1)) (OP 2 4 (.alloc 47 [(.int .i64 0),(.slice none 0 0)]) .done)))
abbrev g_ref1_Union_r1:GR:=(OP 0 8 (.load (some 2) (.tmp 2)) (O3 1 9 0 3 (O2 2 10 9 (OP 3 11 (.call 76 [(.tmp 8),(.tmp 10)]) (OP 4 5 (.alloc 47 [(.int .i64 0),(.slice none 0 0)]) (OS 5 (.store 2 (.tmp 5) (.tmp 11)) .done))))))
abbrev g_ref1_Union_r2:GR:=(OP 0 6 (.mv (.const (.int .i64 0))) .done)
abbrev g_ref1_Union_r3:GR:=(O1 0 12 6 (O3 1 13 0 3 (O2 2 14 13 (O5 3 15 .lss 12 14 .done))))
abbrev g_ref1_Union_r4:GR:=(OP 0 7 (.mv (.const (.int .i64 0))) .done)
abbrev g_ref1_Union_r5:GR:=(O1 0 18 7 (O3 1 19 0 3 (O2 2 20 19 (O5 3 21 .lss 18 20 .done))))
abbrev g_ref1_Union_r6:GR:=(O3 0 24 1 5 (O6 1 25 24 (O1 2 26 6 (O4 3 27 1 25 26 (O6 4 28 27 (O1 5 29 7 (O3 6 30 1 5 (O6 7 31 30 (O1 8 32 6 (O4 9 33 1 31 32 (O6 10 34 33 (O1 11 35 7 (O4 12 36 1 34 35 (O6 13 37 36 (O1 14 38 37 (OG 15 39 38 false (.fieldAddr 1 (.tmp 3)) (.op (GI.mk 16 (some 40) (some (38,false)) (.load none (.tmp 39)) [] true) (OG 17 41 38 false (.mv (.tmp 6)) (OG 18 42 38 false (.indexAddr 1 (.tmp 40) (.tmp 41)) (.op (GI.mk 19 (some 43) (some (38,false)) (.load none (.tmp 42)) [] true) (OG 20 44 38 false (.mv (.tmp 7)) (OG 21 45 38 false (.indexAddr 1 (.tmp 43) (.tmp 44)) (.op (GI.mk 22 (some 46) (some (38,false)) (.load none (.tmp 45)) [] true) (OP 23 47 (.pick (.tmp 38) (.const (.bool true)) (.tmp 46)) (O4 24 48 1 28 29 (OS 25 (.store 1 (.tmp 48) (.tmp 47)) .done))))))))))))))))))))))))))
abbrev g_ref1_Union_r7:GR:=(O1 0 22 7 (OP 1 23 (.bin .add (.tmp 22) (.const (.int .i64 1))) (O1 2 7 23 .done)))
abbrev g_ref1_Union_l8:GC:=(.seq (.seq (.reg g_ref1_Union_r5 [3,4,5,6,7,21]) (.cond (.tmp 21) .skip (.exit 2))) (.seq (.block 3 (.reg g_ref1_Union_r6 [3,4,5,6,7])) (.reg g_ref1_Union_r7 [3,4,5,6,7])))
abbrev g_ref1_Union_r9:GR:=(O1 0 16 6 (OP 1 17 (.bin .add (.tmp 16) (.const (.int .i64 1))) (O1 2 6 17 .done)))
abbrev g_ref1_Union_l10:GC:=(.seq (.seq (.reg g_ref1_Union_r3 [3,4,5,6,15]) (.cond (.tmp 15) .skip (.exit 0))) (.seq (.block 1 (.seq (.reg g_ref1_Union_r4 [3,4,5,6,7]) (.block 2 (.loop g_ref1_Union_l8)))) (.reg g_ref1_Union_r9 [3,4,5,6])))
abbrev g_ref1_Union_r11:GR:=(OP 0 49 (.load (some 2) (.tmp 5)) (OS 1 (.store 2 (.tmp 4) (.tmp 49)) .done))
abbrev g_ref1_Union:GC:=(.seq (.reg g_ref1_Union_r0 [2,3,4]) (.seq (.reg g_ref1_Union_r1 [3,4,5]) (.seq (.seq (.reg g_ref1_Union_r2 [3,4,5,6]) (.block 0 (.loop g_ref1_Union_l10))) (.seq (.reg g_ref1_Union_r11 [4]) .ret))))
abbrev rs_ref1_Union:List RV:=[(.cell 4 (some 2))]
theorem gc_ref1_Union:compileF Tryz.prog Tryz.f75 T_ref1_Union=some (g_ref1_Union,rs_ref1_Union):=by kernel_rfl
theorem con_ref1_Union (hv:vc Tryz.prog y g_ref1_Union (retQ rs_ref1_Union R) [(0,a0),(1,a1)] h):ConX y Tryz.prog 75 #[a0,a1] h R:=con_of Tryz.func75 gc_ref1_Union rfl (fun h=>absurd h (by decide)) hv
def T_ref1_Wide:List (Nat×List Nat):=[(0,[1,2,4]),(1,[1,2,4,11]),(2,[1,2,4]),(3,[2,4,5]),(4,[2,4,5,6]),(5,[2,4,5,6,19]),(6,[2,4,5,6]),(7,[2,4,5,6,7]),(8,[2,4,5,6,7,25]),(9,[2,4,5,6,7]),(10,[2,4,5,6,7]),(11,[4])]
abbrev g_ref1_Wide_r0:GR:=(OP 0 2 (.box 47 (.tmp 0)) (OP 1 4 (.alloc 47 [(.int .i64 0),(.slice none 0 0)]) .done))
abbrev g_ref1_Wide_r1:GR:=(O3 0 8 0 2 (O2 1 9 8 (O1 2 10 1 (O5 3 11 .gtr 9 10 .done))))
abbrev g_ref1_Wide_r2:GR:=(O3 0 12 0 2 (O2 1 13 12 (O1 2 1 13 .done)))
abbrev g_ref1_Wide_r3:GR:=(O1 0 14 1 (OP 1 15 (.call 70 [(.tmp 14)]) (OP 2 5 (.alloc 47 [(.int .i64 0),(.slice none 0 0)]) (OS 3 (.store 2 (.tmp 5) (.tmp 15)) .done))))
abbrev g_ref1_Wide_r4:GR:=(OP 0 6 (.mv (.const (.int .i64 0))) .done)
abbrev g_ref1_Wide_r5:GR:=(O1 0 16 6 (O3 1 17 0 2 (O2 2 18 17 (O5 3 19 .lss 16 18 .done))))
abbrev g_ref1_Wide_r6:GR:=(OP 0 7 (.mv (.const (.int .i64 0))) .done)
abbrev g_ref1_Wide_r7:GR:=(O1 0 22 7 (O3 1 23 0 2 (O2 2 24 23 (O5 3 25 .lss 22 24 .done))))
abbrev g_ref1_Wide_r8:GR:=(O3 0 28 1 5 (O6 1 29 28 (O1 2 30 6 (O4 3 31 1 29 30 (O6 4 32 31 (O1 5 33 7 (O3 6 34 1 2 (O6 7 35 34 (O1 8 36 6 (O4 9 37 1 35 36 (O6 10 38 37 (O1 11 39 7 (O4 12 40 1 38 39 (O6 13 41 40 (O4 14 42 1 32 33 (OS 15 (.store 1 (.tmp 42) (.tmp 41)) .done))))))))))))))))
abbrev g_ref1_Wide_r9:GR:=(O1 0 26 7 (OP 1 27 (.bin .add (.tmp 26) (.const (.int .i64 1))) (O1 2 7 27 .done)))
abbrev g_ref1_Wide_l10:GC:=(.seq (.seq (.reg g_ref1_Wide_r7 [2,4,5,6,7,25]) (.cond (.tmp 25) .skip (.exit 2))) (.seq (.block 3 (.reg g_ref1_Wide_r8 [2,4,5,6,7])) (.reg g_ref1_Wide_r9 [2,4,5,6,7])))
abbrev g_ref1_Wide_r11:GR:=(O1 0 20 6 (OP 1 21 (.bin .add (.tmp 20) (.const (.int .i64 1))) (O1 2 6 21 .done)))
abbrev g_ref1_Wide_l12:GC:=(.seq (.seq (.reg g_ref1_Wide_r5 [2,4,5,6,19]) (.cond (.tmp 19) .skip (.exit 0))) (.seq (.block 1 (.seq (.reg g_ref1_Wide_r6 [2,4,5,6,7]) (.block 2 (.loop g_ref1_Wide_l10)))) (.reg g_ref1_Wide_r11 [2,4,5,6])))
abbrev g_ref1_Wide_r13:GR:=(OP 0 43 (.load (some 2) (.tmp 5)) (OS 1 (.store 2 (.tmp 4) (.tmp 43)) .done))
abbrev g_ref1_Wide:GC:=(.seq (.reg g_ref1_Wide_r0 [1,2,4]) (.seq (.seq (.reg g_ref1_Wide_r1 [1,2,4,11]) (.cond (.tmp 11) (.reg g_ref1_Wide_r2 [1,2,4]) .skip)) (.seq (.reg g_ref1_Wide_r3 [2,4,5]) (.seq (.seq (.reg g_ref1_Wide_r4 [2,4,5,6]) (.block 0 (.loop g_ref1_Wide_l12))) (.seq (.reg g_ref1_Wide_r13 [4]) .ret)))))
abbrev rs_ref1_Wide:List RV:=[(.cell 4 (some 2))]
theorem gc_ref1_Wide:compileF Tryz.prog Tryz.f76 T_ref1_Wide=some (g_ref1_Wide,rs_ref1_Wide):=by kernel_rfl
theorem con_ref1_Wide (hv:vc Tryz.prog y g_ref1_Wide (retQ rs_ref1_Wide R) [(0,a0),(1,a1)] h):ConX y Tryz.prog 76 #[a0,a1] h R:=con_of Tryz.func76 gc_ref1_Wide rfl (fun h=>absurd h (by decide)) hv
def T_ref1_Has:List (Nat×List Nat):=[(0,[1,2,3]),(1,[6])]
abbrev g_ref1_Has_r0:GR:=(OP 0 3 (.box 47 (.tmp 0)) (OP 1 6 (.mv (.const (.bool false))) .done))
abbrev g_ref1_Has_r1:GR:=(OP 0 7 (.load (some 2) (.tmp 3)) (O1 1 8 1 (OP 2 9 (.call 104 [(.tmp 7),(.tmp 8)]) (O1 3 10 9 (OG 4 11 10 true (.load (some 2) (.tmp 3)) (OG 5 12 10 true (.mv (.tmp 2)) (OG 6 13 10 true (.call 104 [(.tmp 11),(.tmp 12)]) (OP 7 14 (.pick (.tmp 10) (.tmp 13) (.const (.bool false))) (O1 8 15 14 (OG 9 16 15 true (.fieldAddr 1 (.tmp 3)) (OG 10 17 15 true (.load none (.tmp 16)) (OG 11 18 15 true (.mv (.tmp 1)) (OG 12 19 15 true (.indexAddr 1 (.tmp 17) (.tmp 18)) (OG 13 20 15 true (.load none (.tmp 19)) (OG 14 21 15 true (.mv (.tmp 2)) (OG 15 22 15 true (.indexAddr 1 (.tmp 20) (.tmp 21)) (OG 16 23 15 true (.load none (.tmp 22)) (OP 17 24 (.pick (.tmp 15) (.tmp 23) (.const (.bool false))) (O1 18 6 24 .done)))))))))))))))))))
abbrev g_ref1_Has:GC:=(.seq (.reg g_ref1_Has_r0 [1,2,3]) (.seq (.reg g_ref1_Has_r1 [6]) .ret))
abbrev rs_ref1_Has:List RV:=[(.tmp 6)]
theorem gc_ref1_Has:compileF Tryz.prog Tryz.f77 T_ref1_Has=some (g_ref1_Has,rs_ref1_Has):=by kernel_rfl
theorem con_ref1_Has (hv:vc Tryz.prog y g_ref1_Has (retQ rs_ref1_Has R) [(0,a0),(1,a1),(2,a2)] h):ConX y Tryz.prog 77 #[a0,a1,a2] h R:=con_of Tryz.func77 gc_ref1_Has rfl (fun h=>absurd h (by decide)) hv
def T_law11_two:List (Nat×List Nat):=[(0,[0,1,2,3,8]),(1,[0,2,3,8,9]),(2,[2,3,8,9]),(3,[2,3,8,9,10]),(4,[3,8,9,10]),(5,[3,8,9,10,11]),(6,[8,9,10,11]),(7,[8,9]),(8,[8])]
abbrev g_law11_two_r0:GR:=(OP 0 8 (.alloc 26 [(.int .i64 0),(.slice none 0 0),(.slice none 0 0),(.slice none 0 0),(.slice none 0 0),(.slice none 0 0),(.slice none 0 0),(.slice none 0 0)]) .done)
abbrev g_law11_two_r1:GR:=(OP 0 12 (.call 79 [(.const (.int .i64 (-1))),(.const (.int .i64 2)),(.const (.int .i64 0)),(.const (.int .u64 0)),(.const (.int .i64 11))]) (OP 1 13 (.call 79 [(.const (.int .i64 (-1))),(.const (.int .i64 2)),(.const (.int .i64 1)),(.const (.int .u64 0)),(.const (.int .i64 11))]) (OP 2 14 (.buildSlice 77 2 [(.int .i64 0),(.int .i64 0),(.int .i64 0),(.int .u64 0),(.int .i64 0),(.int .i64 0),(.int .i64 0),(.int .i64 0),(.int .u64 0),(.int .i64 0)] [(0,(5,(.tmp 12))),(5,(5,(.tmp 13)))]) (O1 3 15 1 (OP 4 16 (.build [(.int .i64 0),(.slice none 0 0),(.slice none 0 0),(.slice none 0 0),(.slice none 0 0),(.slice none 0 0),(.slice none 0 0),(.slice none 0 0)] [(0,(1,(.const (.int .i64 2)))),(1,(1,(.tmp 14))),(2,(1,(.tmp 15)))]) (OP 5 9 (.alloc 26 [(.int .i64 0),(.slice none 0 0),(.slice none 0 0),(.slice none 0 0),(.slice none 0 0),(.slice none 0 0),(.slice none 0 0),(.slice none 0 0)]) (OS 6 (.store 8 (.tmp 9) (.tmp 16)) .done)))))))
abbrev g_law11_two_r2:GR:=(O3 0 17 1 9 (O2 1 18 17 (O1 2 19 0 (OP 3 20 (.append 77 5 40 [(.int .i64 0),(.int .i64 0),(.int .i64 0),(.int .u64 0),(.int .i64 0)] (.tmp 18) (.tmp 19)) (O3 4 21 1 9 (OS 5 (.store 1 (.tmp 21) (.tmp 20)) .done))))))
abbrev g_law11_two_r3:GR:=(OP 0 22 (.buildSlice 3 1 [(.int .i64 0)] [(0,(1,(.const (.int .i64 0))))]) (O1 1 10 22 .done))
abbrev g_law11_two_r4:GR:=(O1 0 23 10 (O1 1 24 2 (OP 2 25 (.append 3 1 8 [(.int .i64 0)] (.tmp 23) (.tmp 24)) (O1 3 10 25 .done))))
abbrev g_law11_two_r5:GR:=(OP 0 26 (.buildSlice 3 1 [(.int .i64 0)] [(0,(1,(.const (.int .i64 1))))]) (O1 1 11 26 .done))
abbrev g_law11_two_r6:GR:=(O1 0 27 11 (O1 1 28 3 (OP 2 29 (.append 3 1 8 [(.int .i64 0)] (.tmp 27) (.tmp 28)) (O1 3 11 29 .done))))
abbrev g_law11_two_r7:GR:=(O1 0 30 10 (O1 1 31 11 (OP 2 32 (.buildSlice 28 2 [(.slice none 0 0),(.slice none 0 0)] [(0,(1,(.tmp 30))),(1,(1,(.tmp 31)))]) (O3 3 33 3 9 (OS 4 (.store 1 (.tmp 33) (.tmp 32)) .done)))))
abbrev g_law11_two_r8:GR:=(OP 0 34 (.load (some 8) (.tmp 9)) (OS 1 (.store 8 (.tmp 8) (.tmp 34)) .done))
abbrev g_law11_two:GC:=(.seq (.reg g_law11_two_r0 [0,1,2,3,8]) (.seq (.reg g_law11_two_r1 [0,2,3,8,9]) (.seq (.reg g_law11_two_r2 [2,3,8,9]) (.seq (.reg g_law11_two_r3 [2,3,8,9,10]) (.seq (.reg g_law11_two_r4 [3,8,9,10]) (.seq (.reg g_law11_two_r5 [3,8,9,10,11]) (.seq (.reg g_law11_two_r6 [8,9,10,11]) (.seq (.reg g_law11_two_r7 [8,9]) (.seq (.reg g_law11_two_r8 [8]) .ret)))))))))
abbrev rs_law11_two:List RV:=[(.cell 8 (some 8))]
theorem gc_law11_two:compileF Tryz.prog Tryz.f78 T_law11_two=some (g_law11_two,rs_law11_two):=by kernel_rfl
theorem con_law11_two (hv:vc Tryz.prog y g_law11_two (retQ rs_law11_two R) [(0,a0),(1,a1),(2,a2),(3,a3)] h):ConX y Tryz.prog 78 #[a0,a1,a2,a3] h R:=con_of Tryz.func78 gc_law11_two rfl (fun h=>absurd h (by decide)) hv
def T_law11_ev:List (Nat×List Nat):=[(0,[0,1,2,3,4,10]),(1,[10])]
abbrev g_law11_ev_r0:GR:=(OP 0 10 (.alloc 77 [(.int .i64 0),(.int .i64 0),(.int .i64 0),(.int .u64 0),(.int .i64 0)]) .done)
abbrev g_law11_ev_r1:GR:=(O1 0 11 0 (O1 1 12 1 (O1 2 13 2 (O1 3 14 3 (O1 4 15 4 (OP 5 16 (.build [(.int .i64 0),(.int .i64 0),(.int .i64 0),(.int .u64 0),(.int .i64 0)] [(0,(1,(.tmp 11))),(1,(1,(.tmp 12))),(2,(1,(.tmp 13))),(3,(1,(.tmp 14))),(4,(1,(.tmp 15)))]) (OS 6 (.store 5 (.tmp 10) (.tmp 16)) .done)))))))
abbrev g_law11_ev:GC:=(.seq (.reg g_law11_ev_r0 [0,1,2,3,4,10]) (.seq (.reg g_law11_ev_r1 [10]) .ret))
abbrev rs_law11_ev:List RV:=[(.cell 10 (some 5))]
theorem gc_law11_ev:compileF Tryz.prog Tryz.f79 T_law11_ev=some (g_law11_ev,rs_law11_ev):=by kernel_rfl
theorem con_law11_ev (hv:vc Tryz.prog y g_law11_ev (retQ rs_law11_ev R) [(0,a0),(1,a1),(2,a2),(3,a3),(4,a4)] h):ConX y Tryz.prog 79 #[a0,a1,a2,a3,a4] h R:=con_of Tryz.func79 gc_law11_ev rfl (fun h=>absurd h (by decide)) hv
def T_ref8_mode:List (Nat×List Nat):=[(0,[0,1,2]),(1,[0,1,7]),(2,[6]),(3,[6])]
abbrev g_ref8_mode_r0:GR:=(OP 0 6 (.mv (.const (.bool false))) .done)
abbrev g_ref8_mode_r1:GR:=(O1 0 7 2 .done)
abbrev g_ref8_mode_r2:GR:=(O1 0 8 0 (OP 1 9 (.bin .eql (.tmp 8) (.const (.int .i64 1))) (O1 2 10 9 (OG 3 11 10 true (.mv (.tmp 1)) (OG 4 12 10 true (.bin .eql (.tmp 11) (.const (.int .i64 11))) (OG 5 13 10 true (.mv (.tmp 12)) (OG 6 14 13 false (.mv (.tmp 1)) (OG 7 15 13 false (.bin .eql (.tmp 14) (.const (.int .i64 12))) (OG 8 16 10 true (.pick (.tmp 13) (.const (.bool true)) (.tmp 15)) (OG 9 17 10 true (.mv (.tmp 16)) (OG 10 18 17 false (.mv (.tmp 1)) (OG 11 19 17 false (.bin .eql (.tmp 18) (.const (.int .i64 16))) (OG 12 20 10 true (.pick (.tmp 17) (.const (.bool true)) (.tmp 19)) (OP 13 21 (.pick (.tmp 10) (.tmp 20) (.const (.bool false))) (O1 14 22 21 (OG 15 23 22 false (.mv (.tmp 0)) (OG 16 24 22 false (.bin .eql (.tmp 23) (.const (.int .i64 2))) (OG 17 25 22 false (.mv (.tmp 24)) (OG 18 26 25 true (.mv (.tmp 1)) (OG 19 27 25 true (.bin .eql (.tmp 26) (.const (.int .i64 11))) (OG 20 28 25 true (.mv (.tmp 27)) (OG 21 29 28 false (.mv (.tmp 1)) (OG 22 30 28 false (.bin .eql (.tmp 29) (.const (.int .i64 13))) (OG 23 31 25 true (.pick (.tmp 28) (.const (.bool true)) (.tmp 30)) (OG 24 32 22 false (.pick (.tmp 25) (.tmp 31) (.const (.bool false))) (OP 25 33 (.pick (.tmp 22) (.const (.bool true)) (.tmp 32)) (O1 26 34 33 (OG 27 35 34 false (.mv (.tmp 0)) (OG 28 36 34 false (.bin .eql (.tmp 35) (.const (.int .i64 3))) (OG 29 37 34 false (.mv (.tmp 36)) (OG 30 38 37 true (.mv (.tmp 1)) (OG 31 39 37 true (.bin .eql (.tmp 38) (.const (.int .i64 14))) (OG 32 40 37 true (.mv (.tmp 39)) (OG 33 41 40 false (.mv (.tmp 1)) (OG 34 42 40 false (.bin .eql (.tmp 41) (.const (.int .i64 15))) (OG 35 43 37 true (.pick (.tmp 40) (.const (.bool true)) (.tmp 42)) (OG 36 44 34 false (.pick (.tmp 37) (.tmp 43) (.const (.bool false))) (OP 37 45 (.pick (.tmp 34) (.const (.bool true)) (.tmp 44)) (O1 38 6 45 .done)))))))))))))))))))))))))))))))))))))))
abbrev g_ref8_mode_r3:GR:=(O1 0 46 0 (OP 1 47 (.bin .eql (.tmp 46) (.const (.int .i64 1))) (O1 2 48 47 (OG 3 49 48 true (.mv (.tmp 1)) (OG 4 50 48 true (.bin .eql (.tmp 49) (.const (.int .i64 1))) (OG 5 51 48 true (.mv (.tmp 50)) (OG 6 52 51 false (.mv (.tmp 1)) (OG 7 53 51 false (.bin .eql (.tmp 52) (.const (.int .i64 2))) (OG 8 54 48 true (.pick (.tmp 51) (.const (.bool true)) (.tmp 53)) (OG 9 55 48 true (.mv (.tmp 54)) (OG 10 56 55 false (.mv (.tmp 1)) (OG 11 57 55 false (.bin .eql (.tmp 56) (.const (.int .i64 5))) (OG 12 58 48 true (.pick (.tmp 55) (.const (.bool true)) (.tmp 57)) (OP 13 59 (.pick (.tmp 48) (.tmp 58) (.const (.bool false))) (O1 14 60 59 (OG 15 61 60 false (.mv (.tmp 0)) (OG 16 62 60 false (.bin .eql (.tmp 61) (.const (.int .i64 2))) (OG 17 63 60 false (.mv (.tmp 62)) (OG 18 64 63 true (.mv (.tmp 1)) (OG 19 65 63 true (.bin .eql (.tmp 64) (.const (.int .i64 1))) (OG 20 66 63 true (.mv (.tmp 65)) (OG 21 67 66 false (.mv (.tmp 1)) (OG 22 68 66 false (.bin .eql (.tmp 67) (.const (.int .i64 3))) (OG 23 69 63 true (.pick (.tmp 66) (.const (.bool true)) (.tmp 68)) (OG 24 70 63 true (.mv (.tmp 69)) (OG 25 71 70 false (.mv (.tmp 1)) (OG 26 72 70 false (.bin .eql (.tmp 71) (.const (.int .i64 5))) (OG 27 73 63 true (.pick (.tmp 70) (.const (.bool true)) (.tmp 72)) (OG 28 74 60 false (.pick (.tmp 63) (.tmp 73) (.const (.bool false))) (OP 29 75 (.pick (.tmp 60) (.const (.bool true)) (.tmp 74)) (O1 30 76 75 (OG 31 77 76 false (.mv (.tmp 0)) (OG 32 78 76 false (.bin .eql (.tmp 77) (.const (.int .i64 3))) (OG 33 79 76 false (.mv (.tmp 78)) (OG 34 80 79 true (.mv (.tmp 1)) (OG 35 81 79 true (.bin .eql (.tmp 80) (.const (.int .i64 2))) (OG 36 82 79 true (.mv (.tmp 81)) (OG 37 83 82 false (.mv (.tmp 1)) (OG 38 84 82 false (.bin .eql (.tmp 83) (.const (.int .i64 3))) (OG 39 85 79 true (.pick (.tmp 82) (.const (.bool true)) (.tmp 84)) (OG 40 86 79 true (.mv (.tmp 85)) (OG 41 87 86 false (.mv (.tmp 1)) (OG 42 88 86 false (.bin .eql (.tmp 87) (.const (.int .i64 4))) (OG 43 89 79 true (.pick (.tmp 86) (.const (.bool true)) (.tmp 88)) (OG 44 90 79 true (.mv (.tmp 89)) (OG 45 91 90 false (.mv (.tmp 1)) (OG 46 92 90 false (.bin .eql (.tmp 91) (.const (.int .i64 5))) (OG 47 93 79 true (.pick (.tmp 90) (.const (.bool true)) (.tmp 92)) (OG 48 94 76 false (.pick (.tmp 79) (.tmp 93) (.const (.bool false))) (OP 49 95 (.pick (.tmp 76) (.const (.bool true)) (.tmp 94)) (O1 50 6 95 .done)))))))))))))))))))))))))))))))))))))))))))))))))))
abbrev g_ref8_mode:GC:=(.seq (.reg g_ref8_mode_r0 [0,1,2]) (.seq (.seq (.reg g_ref8_mode_r1 [0,1,7]) (.cond (.tmp 7) (.seq (.reg g_ref8_mode_r2 [6]) .ret) .skip)) (.seq (.reg g_ref8_mode_r3 [6]) .ret)))
abbrev rs_ref8_mode:List RV:=[(.tmp 6)]
theorem gc_ref8_mode:compileF Tryz.prog Tryz.f80 T_ref8_mode=some (g_ref8_mode,rs_ref8_mode):=by kernel_rfl
theorem con_ref8_mode (hv:vc Tryz.prog y g_ref8_mode (retQ rs_ref8_mode R) [(0,a0),(1,a1),(2,a2)] h):ConX y Tryz.prog 80 #[a0,a1,a2] h R:=con_of Tryz.func80 gc_ref8_mode rfl (fun h=>absurd h (by decide)) hv
def T_ref8_is:List (Nat×List Nat):=[(0,[1,2,3]),(1,[6])]
abbrev g_ref8_is_r0:GR:=(OP 0 3 (.box 26 (.tmp 0)) (OP 1 6 (.mv (.const (.bool false))) .done))
abbrev g_ref8_is_r1:GR:=(O1 0 7 1 (OP 1 8 (.bin .geq (.tmp 7) (.const (.int .i64 0))) (O1 2 9 8 (OG 3 10 9 true (.mv (.tmp 1)) (OG 4 11 9 true (.fieldAddr 1 (.tmp 3)) (OG 5 12 9 true (.load none (.tmp 11)) (OG 6 13 9 true (.len (.tmp 12)) (OG 7 14 9 true (.bin .lss (.tmp 10) (.tmp 13)) (OP 8 15 (.pick (.tmp 9) (.tmp 14) (.const (.bool false))) (O1 9 16 15 (OG 10 17 16 true (.fieldAddr 1 (.tmp 3)) (OG 11 18 16 true (.load none (.tmp 17)) (OG 12 19 16 true (.mv (.tmp 1)) (OG 13 20 16 true (.indexAddr 5 (.tmp 18) (.tmp 19)) (OG 14 21 16 true (.fieldAddr 1 (.tmp 20)) (OG 15 22 16 true (.load none (.tmp 21)) (OG 16 23 16 true (.mv (.tmp 2)) (OG 17 24 16 true (.bin .eql (.tmp 22) (.tmp 23)) (OP 18 25 (.pick (.tmp 16) (.tmp 24) (.const (.bool false))) (O1 19 6 25 .done))))))))))))))))))))
abbrev g_ref8_is:GC:=(.seq (.reg g_ref8_is_r0 [1,2,3]) (.seq (.reg g_ref8_is_r1 [6]) .ret))
abbrev rs_ref8_is:List RV:=[(.tmp 6)]
theorem gc_ref8_is:compileF Tryz.prog Tryz.f81 T_ref8_is=some (g_ref8_is,rs_ref8_is):=by kernel_rfl
theorem con_ref8_is (hv:vc Tryz.prog y g_ref8_is (retQ rs_ref8_is R) [(0,a0),(1,a1),(2,a2)] h):ConX y Tryz.prog 81 #[a0,a1,a2] h R:=con_of Tryz.func81 gc_ref8_is rfl (fun h=>absurd h (by decide)) hv
def T_ref8_next:List (Nat×List Nat):=[(0,[1,2,3]),(1,[1,2,3,12]),(2,[6]),(3,[1,2,3,7]),(4,[1,2,3,7,17]),(5,[1,2,3,7]),(6,[1,2,3,7,32]),(7,[6]),(8,[6])]
abbrev g_ref8_next_r0:GR:=(OP 0 3 (.box 26 (.tmp 0)) (OP 1 6 (.mv (.const (.bool false))) .done))
abbrev g_ref8_next_r1:GR:=(OP 0 8 (.load (some 8) (.tmp 3)) (O1 1 9 1 (O1 2 10 2 (OP 3 11 (.call 71 [(.tmp 8),(.tmp 9),(.tmp 10)]) (OP 4 12 (.not (.tmp 11)) .done)))))
abbrev g_ref8_next_r2:GR:=(OP 0 6 (.mv (.const (.bool false))) .done)
abbrev g_ref8_next_r3:GR:=(O1 0 13 1 (OP 1 14 (.bin .add (.tmp 13) (.const (.int .i64 1))) (O1 2 7 14 .done)))
abbrev g_ref8_next_r4:GR:=(O1 0 15 7 (O1 1 16 2 (O5 2 17 .lss 15 16 .done)))
abbrev g_ref8_next_r5:GR:=(O3 0 20 1 3 (O6 1 21 20 (O1 2 22 7 (O4 3 23 5 21 22 (O3 4 24 0 23 (O6 5 25 24 (O3 6 26 1 3 (O6 7 27 26 (O1 8 28 1 (O4 9 29 5 27 28 (O3 10 30 0 29 (O6 11 31 30 (O5 12 32 .eql 25 31 .done)))))))))))))
abbrev g_ref8_next_r6:GR:=(OP 0 6 (.mv (.const (.bool false))) .done)
abbrev g_ref8_next_r7:GR:=(O1 0 18 7 (OP 1 19 (.bin .add (.tmp 18) (.const (.int .i64 1))) (O1 2 7 19 .done)))
abbrev g_ref8_next_l8:GC:=(.seq (.seq (.reg g_ref8_next_r4 [1,2,3,7,17]) (.cond (.tmp 17) .skip (.exit 0))) (.seq (.block 1 (.seq (.reg g_ref8_next_r5 [1,2,3,7,32]) (.cond (.tmp 32) (.seq (.reg g_ref8_next_r6 [6]) .ret) .skip))) (.reg g_ref8_next_r7 [1,2,3,7])))
abbrev g_ref8_next_r9:GR:=(OP 0 6 (.mv (.const (.bool true))) .done)
abbrev g_ref8_next:GC:=(.seq (.reg g_ref8_next_r0 [1,2,3]) (.seq (.seq (.reg g_ref8_next_r1 [1,2,3,12]) (.cond (.tmp 12) (.seq (.reg g_ref8_next_r2 [6]) .ret) .skip)) (.seq (.seq (.reg g_ref8_next_r3 [1,2,3,7]) (.block 0 (.loop g_ref8_next_l8))) (.seq (.reg g_ref8_next_r9 [6]) .ret))))
abbrev rs_ref8_next:List RV:=[(.tmp 6)]
theorem gc_ref8_next:compileF Tryz.prog Tryz.f82 T_ref8_next=some (g_ref8_next,rs_ref8_next):=by kernel_rfl
theorem con_ref8_next (hv:vc Tryz.prog y g_ref8_next (retQ rs_ref8_next R) [(0,a0),(1,a1),(2,a2)] h):ConX y Tryz.prog 82 #[a0,a1,a2] h R:=con_of Tryz.func82 gc_ref8_next rfl (fun h=>absurd h (by decide)) hv
def T_ref1_Of:List (Nat×List Nat):=[(0,[0,1,4]),(1,[1,4,5]),(2,[1,4,5,6]),(3,[1,4,5,6,12]),(4,[1,4,5,6]),(5,[1,4,5,6,30]),(6,[1,4,5,6]),(7,[4])]
abbrev g_ref1_Of_r0:GR:=(OP 0 4 (.alloc 47 [(.int .i64 0),(.slice none 0 0)]) .done)
abbrev g_ref1_Of_r1:GR:=(O1 0 7 0 (OP 1 8 (.call 70 [(.tmp 7)]) (OP 2 5 (.alloc 47 [(.int .i64 0),(.slice none 0 0)]) (OS 3 (.store 2 (.tmp 5) (.tmp 8)) .done))))
abbrev g_ref1_Of_r2:GR:=(OP 0 6 (.mv (.const (.int .i64 0))) .done)
abbrev g_ref1_Of_r3:GR:=(O1 0 9 6 (O1 1 10 1 (OP 2 11 (.len (.tmp 10)) (O5 3 12 .lss 9 11 .done))))
abbrev g_ref1_Of_r4:GR:=(OW 0 15 (.load (some 2) (.tmp 5)) (O1 1 16 1 (O1 2 17 6 (O4 3 18 2 16 17 (O3 4 19 0 18 (O6 5 20 19 (OP 6 21 (.call 104 [(.tmp 15),(.tmp 20)]) (O1 7 22 21 (.op (GI.mk 8 (some 23) (some (22,true)) (.load (some 2) (.tmp 5)) [] true) (OG 9 24 22 true (.mv (.tmp 1)) (OG 10 25 22 true (.mv (.tmp 6)) (OG 11 26 22 true (.indexAddr 2 (.tmp 24) (.tmp 25)) (OG 12 27 22 true (.fieldAddr 1 (.tmp 26)) (.op (GI.mk 13 (some 28) (some (22,true)) (.load none (.tmp 27)) [] true) (.op (GI.mk 14 (some 29) (some (22,true)) (.call 104 [(.tmp 23),(.tmp 28)]) [0,5] false) (OP 15 30 (.pick (.tmp 22) (.tmp 29) (.const (.bool false))) .done))))))))))))))))
abbrev g_ref1_Of_r5:GR:=(O3 0 31 1 5 (O6 1 32 31 (O1 2 33 1 (O1 3 34 6 (O4 4 35 2 33 34 (O3 5 36 0 35 (O6 6 37 36 (O4 7 38 1 32 37 (O6 8 39 38 (O1 9 40 1 (O1 10 41 6 (O4 11 42 2 40 41 (O3 12 43 1 42 (O6 13 44 43 (O4 14 45 1 39 44 (OS 15 (.store 1 (.tmp 45) (.const (.bool true))) .done))))))))))))))))
abbrev g_ref1_Of_r6:GR:=(O1 0 13 6 (OP 1 14 (.bin .add (.tmp 13) (.const (.int .i64 1))) (O1 2 6 14 .done)))
abbrev g_ref1_Of_l7:GC:=(.seq (.seq (.reg g_ref1_Of_r3 [1,4,5,6,12]) (.cond (.tmp 12) .skip (.exit 0))) (.seq (.block 1 (.seq (.reg g_ref1_Of_r4 [1,4,5,6,30]) (.cond (.tmp 30) (.reg g_ref1_Of_r5 [1,4,5,6]) .skip))) (.reg g_ref1_Of_r6 [1,4,5,6])))
abbrev g_ref1_Of_r8:GR:=(OP 0 46 (.load (some 2) (.tmp 5)) (OS 1 (.store 2 (.tmp 4) (.tmp 46)) .done))
abbrev g_ref1_Of:GC:=(.seq (.reg g_ref1_Of_r0 [0,1,4]) (.seq (.reg g_ref1_Of_r1 [1,4,5]) (.seq (.seq (.reg g_ref1_Of_r2 [1,4,5,6]) (.block 0 (.loop g_ref1_Of_l7))) (.seq (.reg g_ref1_Of_r8 [4]) .ret))))
abbrev rs_ref1_Of:List RV:=[(.cell 4 (some 2))]
theorem gc_ref1_Of:compileF Tryz.prog Tryz.f83 T_ref1_Of=some (g_ref1_Of,rs_ref1_Of):=by kernel_rfl
theorem con_ref1_Of (hv:vc Tryz.prog y g_ref1_Of (retQ rs_ref1_Of R) [(0,a0),(1,a1)] h):ConX y Tryz.prog 83 #[a0,a1] h R:=con_of Tryz.func83 gc_ref1_Of rfl (fun h=>absurd h (by decide)) hv
def T_ref1_At:List (Nat×List Nat):=[(0,[0,1]),(1,[4])]
abbrev g_ref1_At_r0:GR:=(OP 0 4 (.mv (.const (.bool false))) .done)
abbrev g_ref1_At_r1:GR:=(O1 0 5 1 (O1 1 6 0 (OP 2 7 (.len (.tmp 6)) (O5 3 8 .lss 5 7 (O1 4 9 8 (OG 5 10 9 true (.mv (.tmp 0)) (OG 6 11 9 true (.mv (.tmp 1)) (OG 7 12 9 true (.indexAddr 1 (.tmp 10) (.tmp 11)) (OG 8 13 9 true (.load none (.tmp 12)) (OP 9 14 (.pick (.tmp 9) (.tmp 13) (.const (.bool false))) (O1 10 4 14 .done)))))))))))
abbrev g_ref1_At:GC:=(.seq (.reg g_ref1_At_r0 [0,1]) (.seq (.reg g_ref1_At_r1 [4]) .ret))
abbrev rs_ref1_At:List RV:=[(.tmp 4)]
theorem gc_ref1_At:compileF Tryz.prog Tryz.f84 T_ref1_At=some (g_ref1_At,rs_ref1_At):=by kernel_rfl
theorem con_ref1_At (hv:vc Tryz.prog y g_ref1_At (retQ rs_ref1_At R) [(0,a0),(1,a1)] h):ConX y Tryz.prog 84 #[a0,a1] h R:=con_of Tryz.func84 gc_ref1_At rfl (fun h=>absurd h (by decide)) hv
def T_slices_Backward:List (Nat×List Nat):=[(0,[1]),(1,[2])]
abbrev g_slices_Backward_r0:GR:=(OP 0 1 (.box 22 (.tmp 0)) (OP 1 2 (.mv (.const Value.nilFunc)) .done))
abbrev g_slices_Backward_r1:GR:=(OP 0 3 (.makeFunc (Fn.func 105) [] [(.tmp 1)]) (O1 1 2 3 .done))
abbrev g_slices_Backward:GC:=(.seq (.reg g_slices_Backward_r0 [1]) (.seq (.reg g_slices_Backward_r1 [2]) .ret))
abbrev rs_slices_Backward:List RV:=[(.tmp 2)]
theorem gc_slices_Backward:compileF Tryz.prog Tryz.f86 T_slices_Backward=some (g_slices_Backward,rs_slices_Backward):=by kernel_rfl
theorem con_slices_Backward (hv:vc Tryz.prog y g_slices_Backward (retQ rs_slices_Backward R) [(0,a0)] h):ConX y Tryz.prog 86 #[a0] h R:=con_of Tryz.func86 gc_slices_Backward rfl (fun h=>absurd h (by decide)) hv
def T_graph_look_events:List (Nat×List Nat):=[(0,[0]),(1,[0,3]),(2,[0,3,18]),(3,[0,3]),(4,[0,3,4]),(5,[0,3,4,5]),(6,[0,3,4,5,51]),(7,[0,3,5]),(8,[0,3,5]),(9,[0,3,80]),(10,[2]),(11,[2])]
abbrev g_graph_look_events_r0:GR:=(OP 0 2 (.mv (.const (.int .i64 0))) .done)
abbrev g_graph_look_events_r1:GR:=(O1 0 6 0 (OP 1 7 (.nilCheck (.tmp 6)) (O3 2 8 0 7 (O3 3 9 0 8 (O2 4 10 9 (O1 5 3 10 .done))))))
abbrev g_graph_look_events_r2:GR:=(O1 0 11 3 (O1 1 12 0 (OP 2 13 (.nilCheck (.tmp 12)) (O3 3 14 0 13 (O3 4 15 1 14 (O2 5 16 15 (OP 6 17 (.len (.tmp 16)) (O5 7 18 .lss 11 17 .done))))))))
abbrev g_graph_look_events_r3:GR:=(O1 0 21 0 (OP 1 22 (.nilCheck (.tmp 21)) (O3 2 23 0 22 (O3 3 24 1 23 (O2 4 25 24 (O1 5 26 3 (O4 6 27 5 25 26 (OP 7 28 (.load (some 5) (.tmp 27)) (OP 8 4 (.alloc 77 [(.int .i64 0),(.int .i64 0),(.int .i64 0),(.int .u64 0),(.int .i64 0)]) (OS 9 (.store 5 (.tmp 4) (.tmp 28)) .done))))))))))
abbrev g_graph_look_events_r4:GR:=(O3 0 29 0 4 (O6 1 30 29 (OP 2 31 (.bin .geq (.tmp 30) (.const (.int .i64 0))) (O1 3 32 31 (OG 4 33 32 true (.fieldAddr 0 (.tmp 4)) (.op (GI.mk 5 (some 34) (some (32,true)) (.load none (.tmp 33)) [] true) (OG 6 35 32 true (.bin .lss (.tmp 34) (.const (.int .i64 64))) (OP 7 36 (.pick (.tmp 32) (.tmp 35) (.const (.bool false))) (O1 8 37 36 (OG 9 38 37 true (.fieldAddr 1 (.tmp 4)) (.op (GI.mk 10 (some 39) (some (37,true)) (.load none (.tmp 38)) [] true) (OG 11 40 37 true (.mv (.tmp 0)) (OG 12 41 37 true (.nilCheck (.tmp 40)) (OG 13 42 37 true (.fieldAddr 8 (.tmp 41)) (.op (GI.mk 14 (some 43) (some (37,true)) (.load none (.tmp 42)) [] true) (OG 16 45 37 true (.fieldAddr 4 (.tmp 4)) (.op (GI.mk 17 (some 46) (some (37,true)) (.load none (.tmp 45)) [] true) (.op (GI.mk 15 (some 44) (some (37,true)) (.call 107 [(.tmp 39),(.tmp 43)]) [1,5,17] false) (.op (GI.mk 18 (some 47) (some (37,true)) (.call 106 [(.tmp 44),(.tmp 46)]) [1,5,10,14] false) (OP 19 48 (.pick (.tmp 37) (.tmp 47) (.const (.bool false))) (O1 20 5 48 .done)))))))))))))))))))))
abbrev g_graph_look_events_r5:GR:=(O3 0 49 1 4 (O2 1 50 49 (OP 2 51 (.bin .eql (.tmp 50) (.const (.int .i64 3))) .done)))
abbrev g_graph_look_events_r6:GR:=(O1 0 52 5 (O1 1 53 52 (OG 2 54 53 true (.fieldAddr 2 (.tmp 4)) (OG 3 55 53 true (.load none (.tmp 54)) (OG 4 56 53 true (.bin .eql (.tmp 55) (.const (.int .i64 (-1)))) (OP 5 57 (.pick (.tmp 53) (.tmp 56) (.const (.bool false))) (O1 6 58 57 (OG 7 59 58 true (.fieldAddr 3 (.tmp 4)) (OG 8 60 58 true (.load none (.tmp 59)) (OG 9 61 58 true (.bin .eql (.tmp 60) (.const (.int .u64 0))) (OP 10 62 (.pick (.tmp 58) (.tmp 61) (.const (.bool false))) (O1 11 5 62 .done))))))))))))
abbrev g_graph_look_events_r7:GR:=(O1 0 63 5 (O1 1 64 63 (OG 2 65 64 true (.fieldAddr 2 (.tmp 4)) (.op (GI.mk 3 (some 66) (some (64,true)) (.load none (.tmp 65)) [] true) (OG 4 67 64 true (.bin .geq (.tmp 66) (.const (.int .i64 0))) (OP 5 68 (.pick (.tmp 64) (.tmp 67) (.const (.bool false))) (O1 6 69 68 (OG 7 70 69 true (.fieldAddr 2 (.tmp 4)) (.op (GI.mk 8 (some 71) (some (69,true)) (.load none (.tmp 70)) [] true) (OG 9 72 69 true (.mv (.tmp 0)) (OG 10 73 69 true (.nilCheck (.tmp 72)) (OG 11 74 69 true (.fieldAddr 0 (.tmp 73)) (OG 12 75 69 true (.fieldAddr 0 (.tmp 74)) (.op (GI.mk 13 (some 76) (some (69,true)) (.load none (.tmp 75)) [] true) (OG 14 77 69 true (.bin .lss (.tmp 71) (.tmp 76)) (OP 15 78 (.pick (.tmp 69) (.tmp 77) (.const (.bool false))) (O1 16 5 78 .done)))))))))))))))))
abbrev g_graph_look_events_r8:GR:=(O1 0 79 5 (OP 1 80 (.not (.tmp 79)) .done))
abbrev g_graph_look_events_r9:GR:=(O1 0 81 3 (O1 1 2 81 .done))
abbrev g_graph_look_events_r10:GR:=(O1 0 19 3 (OP 1 20 (.bin .add (.tmp 19) (.const (.int .i64 1))) (O1 2 3 20 .done)))
abbrev g_graph_look_events_l11:GC:=(.seq (.seq (.reg g_graph_look_events_r2 [0,3,18]) (.cond (.tmp 18) .skip (.exit 0))) (.seq (.block 1 (.seq (.reg g_graph_look_events_r3 [0,3,4]) (.seq (.reg g_graph_look_events_r4 [0,3,4,5]) (.seq (.seq (.reg g_graph_look_events_r5 [0,3,4,5,51]) (.cond (.tmp 51) (.reg g_graph_look_events_r6 [0,3,5]) (.reg g_graph_look_events_r7 [0,3,5]))) (.seq (.reg g_graph_look_events_r8 [0,3,80]) (.cond (.tmp 80) (.seq (.reg g_graph_look_events_r9 [2]) .ret) .skip)))))) (.reg g_graph_look_events_r10 [0,3])))
abbrev g_graph_look_events_r12:GR:=(OP 0 2 (.mv (.const (.int .i64 (-1)))) .done)
abbrev g_graph_look_events:GC:=(.seq (.reg g_graph_look_events_r0 [0]) (.seq (.seq (.reg g_graph_look_events_r1 [0,3]) (.block 0 (.loop g_graph_look_events_l11))) (.seq (.reg g_graph_look_events_r12 [2]) .ret)))
abbrev rs_graph_look_events:List RV:=[(.tmp 2)]
theorem gc_graph_look_events:compileF Tryz.prog Tryz.f87 T_graph_look_events=some (g_graph_look_events,rs_graph_look_events):=by kernel_rfl
theorem con_graph_look_events (hv:vc Tryz.prog y g_graph_look_events (retQ rs_graph_look_events R) [(0,a0)] h):ConX y Tryz.prog 87 #[a0] h R:=con_of Tryz.func87 gc_graph_look_events rfl (fun h=>absurd h (by decide)) hv
def T_graph_look_rf:List (Nat×List Nat):=[(0,[0]),(1,[0,3]),(2,[0,3,11,12,13]),(3,[0,3,11,12,13,14]),(4,[0,3,4,5,11,12,13]),(5,[0,3,4,5,11,12,13,20]),(6,[0,3,5,11,12,13,55]),(7,[2]),(8,[0,3,5,6,11,12,13]),(9,[0,3,11,12,13,84]),(10,[2]),(11,[0,3,11,12,13]),(12,[0,3,11,12,13]),(13,[3,96]),(14,[2]),(15,[2])]
abbrev g_graph_look_rf_r0:GR:=(OP 0 2 (.mv (.const (.int .i64 0))) .done)
abbrev g_graph_look_rf_r1:GR:=(OP 0 3 (.mv (.const (.int .i64 0))) .done)
abbrev g_graph_look_rf_r2:GR:=(O1 0 7 0 (OP 1 8 (.nilCheck (.tmp 7)) (O3 2 9 0 8 (O3 3 10 1 9 (O2 4 11 10 (OP 5 12 (.len (.tmp 11)) (OP 6 13 (.mv (.const (.int .i64 0))) .done)))))))
abbrev g_graph_look_rf_r3:GR:=(O5 0 14 .lss 13 12 .done)
abbrev g_graph_look_rf_r4:GR:=(O1 0 15 13 (O4 1 16 5 11 13 (OP 2 17 (.load (some 5) (.tmp 16)) (OP 3 5 (.alloc 77 [(.int .i64 0),(.int .i64 0),(.int .i64 0),(.int .u64 0),(.int .i64 0)]) (O1 4 4 15 (OS 5 (.store 5 (.tmp 5) (.tmp 17)) .done))))))
abbrev g_graph_look_rf_r5:GR:=(O3 0 18 1 5 (O2 1 19 18 (OP 2 20 (.bin .neq (.tmp 19) (.const (.int .i64 1))) .done)))
abbrev g_graph_look_rf_r6:GR:=(O1 0 21 3 (O1 1 22 0 (OP 2 23 (.nilCheck (.tmp 22)) (O3 3 24 0 23 (O3 4 25 2 24 (O2 5 26 25 (OP 6 27 (.len (.tmp 26)) (O5 7 28 .eql 21 27 (O1 8 29 28 (OG 9 30 29 false (.mv (.tmp 0)) (OG 10 31 29 false (.nilCheck (.tmp 30)) (OG 11 32 29 false (.fieldAddr 0 (.tmp 31)) (OG 12 33 29 false (.fieldAddr 2 (.tmp 32)) (OG 13 34 29 false (.load none (.tmp 33)) (OG 14 35 29 false (.mv (.tmp 3)) (OG 15 36 29 false (.indexAddr 2 (.tmp 34) (.tmp 35)) (OG 16 37 29 false (.fieldAddr 1 (.tmp 36)) (OG 17 38 29 false (.load none (.tmp 37)) (OG 18 39 29 false (.mv (.tmp 4)) (OG 19 40 29 false (.bin .neq (.tmp 38) (.tmp 39)) (OP 20 41 (.pick (.tmp 29) (.const (.bool true)) (.tmp 40)) (O1 21 42 41 (OG 22 43 42 false (.mv (.tmp 0)) (OG 23 44 42 false (.mv (.tmp 0)) (OG 24 45 42 false (.nilCheck (.tmp 44)) (OG 25 46 42 false (.fieldAddr 0 (.tmp 45)) (OG 26 47 42 false (.fieldAddr 2 (.tmp 46)) (OG 27 48 42 false (.load none (.tmp 47)) (OG 28 49 42 false (.mv (.tmp 3)) (OG 29 50 42 false (.indexAddr 2 (.tmp 48) (.tmp 49)) (OG 30 51 42 false (.fieldAddr 0 (.tmp 50)) (OG 31 52 42 false (.load none (.tmp 51)) (OG 32 53 42 false (.call 108 [(.tmp 43),(.tmp 52),(.const (.int .i64 2))]) (OG 33 54 42 false (.not (.tmp 53)) (OP 34 55 (.pick (.tmp 42) (.const (.bool true)) (.tmp 54)) .done)))))))))))))))))))))))))))))))))))
abbrev g_graph_look_rf_r7:GR:=(O1 0 56 3 (O1 1 2 56 .done))
abbrev g_graph_look_rf_r8:GR:=(O1 0 57 0 (OP 1 58 (.nilCheck (.tmp 57)) (O3 2 59 0 58 (O3 3 60 1 59 (O6 4 61 60 (O1 5 62 0 (OP 6 63 (.nilCheck (.tmp 62)) (O3 7 64 0 63 (O3 8 65 2 64 (O6 9 66 65 (O1 10 67 3 (O4 11 68 2 66 67 (O3 12 69 0 68 (O6 13 70 69 (O4 14 71 5 61 70 (OW 15 72 (.load (some 5) (.tmp 71)) (OP 16 6 (.alloc 77 [(.int .i64 0),(.int .i64 0),(.int .i64 0),(.int .u64 0),(.int .i64 0)]) (OS 17 (.store 5 (.tmp 6) (.tmp 72)) .done))))))))))))))))))
abbrev g_graph_look_rf_r9:GR:=(O3 0 73 2 6 (O2 1 74 73 (O3 2 75 2 5 (O2 3 76 75 (O5 4 77 .neq 74 76 (O1 5 78 77 (OG 6 79 78 false (.fieldAddr 3 (.tmp 6)) (OG 7 80 78 false (.load none (.tmp 79)) (OG 8 81 78 false (.fieldAddr 3 (.tmp 5)) (OG 9 82 78 false (.load none (.tmp 81)) (OG 10 83 78 false (.bin .neq (.tmp 80) (.tmp 82)) (OP 11 84 (.pick (.tmp 78) (.const (.bool true)) (.tmp 83)) .done))))))))))))
abbrev g_graph_look_rf_r10:GR:=(O1 0 85 3 (O1 1 2 85 .done))
abbrev g_graph_look_rf_r11:GR:=(O1 0 86 3 (OP 1 87 (.bin .add (.tmp 86) (.const (.int .i64 1))) (O1 2 3 87 .done)))
abbrev g_graph_look_rf_r12:GR:=(OP 0 88 (.bin .add (.tmp 13) (.const (.int .i64 1))) (O1 1 13 88 .done))
abbrev g_graph_look_rf_l13:GC:=(.seq (.reg g_graph_look_rf_r3 [0,3,11,12,13,14]) (.seq (.cond (.tmp 14) .skip (.exit 0)) (.seq (.block 1 (.seq (.reg g_graph_look_rf_r4 [0,3,4,5,11,12,13]) (.seq (.seq (.reg g_graph_look_rf_r5 [0,3,4,5,11,12,13,20]) (.cond (.tmp 20) (.exit 1) .skip)) (.seq (.seq (.reg g_graph_look_rf_r6 [0,3,5,11,12,13,55]) (.cond (.tmp 55) (.seq (.reg g_graph_look_rf_r7 [2]) .ret) .skip)) (.seq (.seq (.reg g_graph_look_rf_r8 [0,3,5,6,11,12,13]) (.seq (.reg g_graph_look_rf_r9 [0,3,11,12,13,84]) (.cond (.tmp 84) (.seq (.reg g_graph_look_rf_r10 [2]) .ret) .skip))) (.reg g_graph_look_rf_r11 [0,3,11,12,13])))))) (.reg g_graph_look_rf_r12 [0,3,11,12,13]))))
abbrev g_graph_look_rf_r14:GR:=(O1 0 89 3 (O1 1 90 0 (OP 2 91 (.nilCheck (.tmp 90)) (O3 3 92 0 91 (O3 4 93 2 92 (O2 5 94 93 (OP 6 95 (.len (.tmp 94)) (O5 7 96 .lss 89 95 .done))))))))
abbrev g_graph_look_rf_r15:GR:=(O1 0 97 3 (O1 1 2 97 .done))
abbrev g_graph_look_rf_r16:GR:=(OP 0 2 (.mv (.const (.int .i64 (-1)))) .done)
abbrev g_graph_look_rf:GC:=(.seq (.reg g_graph_look_rf_r0 [0]) (.seq (.reg g_graph_look_rf_r1 [0,3]) (.seq (.seq (.reg g_graph_look_rf_r2 [0,3,11,12,13]) (.block 0 (.loop g_graph_look_rf_l13))) (.seq (.seq (.reg g_graph_look_rf_r14 [3,96]) (.cond (.tmp 96) (.seq (.reg g_graph_look_rf_r15 [2]) .ret) .skip)) (.seq (.reg g_graph_look_rf_r16 [2]) .ret)))))
abbrev rs_graph_look_rf:List RV:=[(.tmp 2)]
theorem gc_graph_look_rf:compileF Tryz.prog Tryz.f88 T_graph_look_rf=some (g_graph_look_rf,rs_graph_look_rf):=by kernel_rfl
theorem con_graph_look_rf (hv:vc Tryz.prog y g_graph_look_rf (retQ rs_graph_look_rf R) [(0,a0)] h):ConX y Tryz.prog 88 #[a0] h R:=con_of Tryz.func88 gc_graph_look_rf rfl (fun h=>absurd h (by decide)) hv
def T_graph_look_co:List (Nat×List Nat):=[(0,[0]),(1,[0,3]),(2,[0,3,21,22,23]),(3,[0,3,21,22,23,24]),(4,[0,3,5,21,22,23]),(5,[0,3,5,21,22,23,29]),(6,[0,3,21,22,23]),(7,[0,3,21,22,23]),(8,[0,3,6]),(9,[0,3,6,7]),(10,[0,3,6,7,8]),(11,[0,3,6,7,8,62,63,64]),(12,[0,3,6,7,8,62,63,64,65]),(13,[0,3,6,7,8,9,10,62,63,64]),(14,[0,3,6,7,8,9,10,11,62,63,64]),(15,[0,3,6,7,8,9,11,62,63,64,79,80,81]),(16,[0,3,6,7,8,9,11,62,63,64,79,80,81,82]),(17,[0,3,6,7,8,9,11,13,62,63,64,79,80,81]),(18,[0,3,6,7,8,9,11,13,62,63,64,79,80,81]),(19,[0,3,6,7,8,9,11,13,62,63,64,79,80,81,111]),(20,[0,3,6,7,8,9,11,62,63,64,79,80,81]),(21,[0,3,6,7,8,9,11,62,63,64,79,80,81]),(22,[0,3,6,7,8,9,11,62,63,64,79,80,81]),(23,[0,3,6,7,8,9,62,63,64,121]),(24,[0,3,6,7,8,62,63,64]),(25,[0,3,6,7,8,62,63,64]),(26,[0,7,8,127]),(27,[0,7,8,127,129]),(28,[0,7,8,14,15,127]),(29,[0,7,8,14,127,134]),(30,[0,7,8,127]),(31,[8,154]),(32,[2]),(33,[2])]
abbrev g_graph_look_co_r0:GR:=(OP 0 2 (.mv (.const (.int .i64 0))) .done)
abbrev g_graph_look_co_r1:GR:=(OP 0 16 .makeMap (O1 1 3 16 .done))
abbrev g_graph_look_co_r2:GR:=(O1 0 17 0 (OP 1 18 (.nilCheck (.tmp 17)) (O3 2 19 0 18 (O3 3 20 1 19 (O2 4 21 20 (OP 5 22 (.len (.tmp 21)) (OP 6 23 (.mv (.const (.int .i64 0))) .done)))))))
abbrev g_graph_look_co_r3:GR:=(O5 0 24 .lss 23 22 .done)
abbrev g_graph_look_co_r4:GR:=(O4 0 25 5 21 23 (OP 1 26 (.load (some 5) (.tmp 25)) (OP 2 5 (.alloc 77 [(.int .i64 0),(.int .i64 0),(.int .i64 0),(.int .u64 0),(.int .i64 0)]) (OS 3 (.store 5 (.tmp 5) (.tmp 26)) .done))))
abbrev g_graph_look_co_r5:GR:=(O3 0 27 1 5 (O2 1 28 27 (OP 2 29 (.bin .eql (.tmp 28) (.const (.int .i64 2))) .done)))
abbrev g_graph_look_co_r6:GR:=(O1 0 30 3 (O3 1 31 2 5 (O2 2 32 31 (OP 3 33 (.lookup false (.int .i64 0) (.tmp 30) (.tmp 32)) (OP 4 34 (.bin .add (.tmp 33) (.const (.int .i64 1))) (OS 5 (.mapSet (.tmp 30) (.tmp 32) (.tmp 34)) .done))))))
abbrev g_graph_look_co_r7:GR:=(OP 0 35 (.bin .add (.tmp 23) (.const (.int .i64 1))) (O1 1 23 35 .done))
abbrev g_graph_look_co_l8:GC:=(.seq (.reg g_graph_look_co_r3 [0,3,21,22,23,24]) (.seq (.cond (.tmp 24) .skip (.exit 0)) (.seq (.block 1 (.seq (.reg g_graph_look_co_r4 [0,3,5,21,22,23]) (.seq (.reg g_graph_look_co_r5 [0,3,5,21,22,23,29]) (.cond (.tmp 29) (.reg g_graph_look_co_r6 [0,3,21,22,23]) .skip)))) (.reg g_graph_look_co_r7 [0,3,21,22,23]))))
abbrev g_graph_look_co_r9:GR:=(O1 0 36 0 (OP 1 37 (.nilCheck (.tmp 36)) (O3 2 38 0 37 (O3 3 39 1 38 (O2 4 40 39 (OP 5 41 (.len (.tmp 40)) (OP 6 42 (.makeSlice 4 1 1 [(.bool false)] (.tmp 41) (.tmp 41)) (O1 7 6 42 .done))))))))
abbrev g_graph_look_co_r10:GR:=(O1 0 43 0 (OP 1 44 (.nilCheck (.tmp 43)) (O3 2 45 0 44 (O3 3 46 3 45 (O6 4 47 46 (OP 5 48 (.len (.tmp 47)) (O1 6 49 0 (OP 7 50 (.nilCheck (.tmp 49)) (O3 8 51 0 50 (O3 9 52 0 51 (O6 10 53 52 (OP 11 54 (.mini (.tmp 48) (.tmp 53)) (O1 12 7 54 .done)))))))))))))
abbrev g_graph_look_co_r11:GR:=(O1 0 55 7 (O1 1 8 55 .done))
abbrev g_graph_look_co_r12:GR:=(O1 0 56 0 (OP 1 57 (.nilCheck (.tmp 56)) (O3 2 58 0 57 (O3 3 59 3 58 (O2 4 60 59 (O1 5 61 7 (OP 6 62 (.slice 1 (.tmp 60) none (some (.tmp 61))) (OP 7 63 (.len (.tmp 62)) (OP 8 64 (.mv (.const (.int .i64 0))) .done)))))))))
abbrev g_graph_look_co_r13:GR:=(O5 0 65 .lss 64 63 .done)
abbrev g_graph_look_co_r14:GR:=(O1 0 66 64 (O4 1 67 1 62 64 (O2 2 68 67 (O1 3 9 66 (O1 4 10 68 .done)))))
abbrev g_graph_look_co_r15:GR:=(O1 0 69 10 (OP 1 70 (.len (.tmp 69)) (OP 2 71 (.bin .gtr (.tmp 70) (.const (.int .i64 0))) (O1 3 72 71 (OG 4 73 72 true (.mv (.tmp 10)) (OG 5 74 72 true (.indexAddr 1 (.tmp 73) (.const (.int .i64 0))) (OG 6 75 72 true (.load none (.tmp 74)) (OG 7 76 72 true (.mv (.tmp 9)) (OG 8 77 72 true (.bin .eql (.tmp 75) (.tmp 76)) (OP 9 78 (.pick (.tmp 72) (.tmp 77) (.const (.bool false))) (O1 10 11 78 .done)))))))))))
abbrev g_graph_look_co_r16:GR:=(O1 0 79 10 (OP 1 80 (.len (.tmp 79)) (OP 2 81 (.mv (.const (.int .i64 0))) .done)))
abbrev g_graph_look_co_r17:GR:=(O5 0 82 .lss 81 80 .done)
abbrev g_graph_look_co_r18:GR:=(O4 0 83 1 79 81 (O2 1 84 83 (O1 2 13 84 .done)))
abbrev g_graph_look_co_r19:GR:=(O1 0 85 11 (O1 1 86 85 (OG 2 87 86 true (.mv (.tmp 0)) (OG 3 88 86 true (.mv (.tmp 13)) (OG 4 89 86 true (.call 108 [(.tmp 87),(.tmp 88),(.const (.int .i64 2))]) (OP 5 90 (.pick (.tmp 86) (.tmp 89) (.const (.bool false))) (O1 6 91 90 (OG 7 92 91 true (.mv (.tmp 0)) (OG 8 93 91 true (.nilCheck (.tmp 92)) (OG 9 94 91 true (.fieldAddr 0 (.tmp 93)) (OG 10 95 91 true (.fieldAddr 1 (.tmp 94)) (OG 11 96 91 true (.load none (.tmp 95)) (OG 12 97 91 true (.mv (.tmp 13)) (OG 13 98 91 true (.indexAddr 5 (.tmp 96) (.tmp 97)) (OG 14 99 91 true (.fieldAddr 2 (.tmp 98)) (OG 15 100 91 true (.load none (.tmp 99)) (OG 16 101 91 true (.mv (.tmp 9)) (OG 17 102 91 true (.bin .eql (.tmp 100) (.tmp 101)) (OP 18 103 (.pick (.tmp 91) (.tmp 102) (.const (.bool false))) (O1 19 104 103 (OG 20 105 104 true (.mv (.tmp 6)) (OG 21 106 104 true (.mv (.tmp 13)) (OG 22 107 104 true (.indexAddr 1 (.tmp 105) (.tmp 106)) (OG 23 108 104 true (.load none (.tmp 107)) (OG 24 109 104 true (.not (.tmp 108)) (OP 25 110 (.pick (.tmp 104) (.tmp 109) (.const (.bool false))) (O1 26 11 110 .done)))))))))))))))))))))))))))
abbrev g_graph_look_co_r20:GR:=(O1 0 111 11 .done)
abbrev g_graph_look_co_r21:GR:=(O1 0 112 6 (O1 1 113 13 (O4 2 114 1 112 113 (OS 3 (.store 1 (.tmp 114) (.const (.bool true))) .done))))
abbrev g_graph_look_co_r22:GR:=(O1 0 115 3 (O1 1 116 9 (OP 2 117 (.lookup false (.int .i64 0) (.tmp 115) (.tmp 116)) (OP 3 118 (.bin .sub (.tmp 117) (.const (.int .i64 1))) (OS 4 (.mapSet (.tmp 115) (.tmp 116) (.tmp 118)) .done)))))
abbrev g_graph_look_co_r23:GR:=(OP 0 119 (.bin .add (.tmp 81) (.const (.int .i64 1))) (O1 1 81 119 .done))
abbrev g_graph_look_co_l24:GC:=(.seq (.reg g_graph_look_co_r17 [0,3,6,7,8,9,11,62,63,64,79,80,81,82]) (.seq (.cond (.tmp 82) .skip (.exit 4)) (.seq (.block 5 (.seq (.reg g_graph_look_co_r18 [0,3,6,7,8,9,11,13,62,63,64,79,80,81]) (.seq (.reg g_graph_look_co_r19 [0,3,6,7,8,9,11,13,62,63,64,79,80,81]) (.seq (.reg g_graph_look_co_r20 [0,3,6,7,8,9,11,13,62,63,64,79,80,81,111]) (.cond (.tmp 111) (.seq (.reg g_graph_look_co_r21 [0,3,6,7,8,9,11,62,63,64,79,80,81]) (.reg g_graph_look_co_r22 [0,3,6,7,8,9,11,62,63,64,79,80,81])) .skip))))) (.reg g_graph_look_co_r23 [0,3,6,7,8,9,11,62,63,64,79,80,81]))))
abbrev g_graph_look_co_r25:GR:=(O1 0 120 11 (OP 1 121 (.not (.tmp 120)) .done))
abbrev g_graph_look_co_r26:GR:=(O1 0 122 8 (O1 1 123 9 (OP 2 124 (.mini (.tmp 122) (.tmp 123)) (O1 3 8 124 .done))))
abbrev g_graph_look_co_r27:GR:=(OP 0 125 (.bin .add (.tmp 64) (.const (.int .i64 1))) (O1 1 64 125 .done))
abbrev g_graph_look_co_l28:GC:=(.seq (.reg g_graph_look_co_r13 [0,3,6,7,8,62,63,64,65]) (.seq (.cond (.tmp 65) .skip (.exit 2)) (.seq (.block 3 (.seq (.reg g_graph_look_co_r14 [0,3,6,7,8,9,10,62,63,64]) (.seq (.reg g_graph_look_co_r15 [0,3,6,7,8,9,10,11,62,63,64]) (.seq (.seq (.reg g_graph_look_co_r16 [0,3,6,7,8,9,11,62,63,64,79,80,81]) (.block 4 (.loop g_graph_look_co_l24))) (.seq (.reg g_graph_look_co_r25 [0,3,6,7,8,9,62,63,64,121]) (.cond (.tmp 121) (.reg g_graph_look_co_r26 [0,3,6,7,8,62,63,64]) .skip)))))) (.reg g_graph_look_co_r27 [0,3,6,7,8,62,63,64]))))
abbrev g_graph_look_co_r29:GR:=(O1 0 126 3 (OP 1 127 (.mrange (.tmp 126)) .done))
abbrev g_graph_look_co_r30:GR:=(OP 0 128 (.mnext (.tmp 127)) (OP 1 129 (.extract 0 (.tmp 128)) .done))
abbrev g_graph_look_co_r31:GR:=(OP 0 130 (.mentry (.tmp 127)) (OP 1 131 (.extract 0 (.tmp 130)) (OP 2 132 (.extract 1 (.tmp 130)) (O1 3 14 131 (O1 4 15 132 .done)))))
abbrev g_graph_look_co_r32:GR:=(O1 0 133 15 (OP 1 134 (.bin .gtr (.tmp 133) (.const (.int .i64 0))) .done))
abbrev g_graph_look_co_r33:GR:=(O1 0 135 8 (O1 1 136 14 (OP 2 137 (.mini (.tmp 135) (.tmp 136)) (O1 3 8 137 .done))))
abbrev g_graph_look_co_l34:GC:=(.seq (.reg g_graph_look_co_r30 [0,7,8,127,129]) (.seq (.cond (.tmp 129) .skip (.exit 6)) (.block 7 (.seq (.reg g_graph_look_co_r31 [0,7,8,14,15,127]) (.seq (.reg g_graph_look_co_r32 [0,7,8,14,127,134]) (.cond (.tmp 134) (.reg g_graph_look_co_r33 [0,7,8,127]) .skip))))))
abbrev g_graph_look_co_r35:GR:=(O1 0 138 8 (O1 1 139 7 (O5 2 140 .lss 138 139 (O1 3 141 140 (OG 4 142 141 false (.mv (.tmp 0)) (OG 5 143 141 false (.nilCheck (.tmp 142)) (OG 6 144 141 false (.fieldAddr 0 (.tmp 143)) (OG 7 145 141 false (.fieldAddr 3 (.tmp 144)) (.op (GI.mk 8 (some 146) (some (141,false)) (.load none (.tmp 145)) [] true) (OG 9 147 141 false (.len (.tmp 146)) (OG 10 148 141 false (.mv (.tmp 0)) (OG 11 149 141 false (.nilCheck (.tmp 148)) (OG 12 150 141 false (.fieldAddr 0 (.tmp 149)) (OG 13 151 141 false (.fieldAddr 0 (.tmp 150)) (.op (GI.mk 14 (some 152) (some (141,false)) (.load none (.tmp 151)) [] true) (OG 15 153 141 false (.bin .neq (.tmp 147) (.tmp 152)) (OP 16 154 (.pick (.tmp 141) (.const (.bool true)) (.tmp 153)) .done)))))))))))))))))
abbrev g_graph_look_co_r36:GR:=(O1 0 155 8 (O1 1 2 155 .done))
abbrev g_graph_look_co_r37:GR:=(OP 0 2 (.mv (.const (.int .i64 (-1)))) .done)
abbrev g_graph_look_co:GC:=(.seq (.reg g_graph_look_co_r0 [0]) (.seq (.reg g_graph_look_co_r1 [0,3]) (.seq (.seq (.reg g_graph_look_co_r2 [0,3,21,22,23]) (.block 0 (.loop g_graph_look_co_l8))) (.seq (.reg g_graph_look_co_r9 [0,3,6]) (.seq (.reg g_graph_look_co_r10 [0,3,6,7]) (.seq (.reg g_graph_look_co_r11 [0,3,6,7,8]) (.seq (.seq (.reg g_graph_look_co_r12 [0,3,6,7,8,62,63,64]) (.block 2 (.loop g_graph_look_co_l28))) (.seq (.seq (.reg g_graph_look_co_r29 [0,7,8,127]) (.block 6 (.loop g_graph_look_co_l34))) (.seq (.seq (.reg g_graph_look_co_r35 [8,154]) (.cond (.tmp 154) (.seq (.reg g_graph_look_co_r36 [2]) .ret) .skip)) (.seq (.reg g_graph_look_co_r37 [2]) .ret))))))))))
abbrev rs_graph_look_co:List RV:=[(.tmp 2)]
theorem gc_graph_look_co:compileF Tryz.prog Tryz.f89 T_graph_look_co=some (g_graph_look_co,rs_graph_look_co):=by kernel_rfl
theorem con_graph_look_co (hv:vc Tryz.prog y g_graph_look_co (retQ rs_graph_look_co R) [(0,a0)] h):ConX y Tryz.prog 89 #[a0] h R:=con_of Tryz.func89 gc_graph_look_co rfl (fun h=>absurd h (by decide)) hv
def T_graph_look_rmw:List (Nat×List Nat):=[(0,[0]),(1,[0,9,10,11]),(2,[0,9,10,11,12]),(3,[0,3,4,9,10,11]),(4,[0,3,9,10,11,82]),(5,[2]),(6,[0,9,10,11]),(7,[2])]
abbrev g_graph_look_rmw_r0:GR:=(OP 0 2 (.mv (.const (.int .i64 0))) .done)
abbrev g_graph_look_rmw_r1:GR:=(O1 0 5 0 (OP 1 6 (.nilCheck (.tmp 5)) (O3 2 7 0 6 (O3 3 8 4 7 (O2 4 9 8 (OP 5 10 (.len (.tmp 9)) (OP 6 11 (.mv (.const (.int .i64 0))) .done)))))))
abbrev g_graph_look_rmw_r2:GR:=(O5 0 12 .lss 11 10 .done)
abbrev g_graph_look_rmw_r3:GR:=(O1 0 13 11 (O4 1 14 2 9 11 (OP 2 15 (.load (some 2) (.tmp 14)) (OP 3 4 (.alloc 69 [(.int .i64 0),(.int .i64 0)]) (O1 4 3 13 (OS 5 (.store 2 (.tmp 4) (.tmp 15)) .done))))))
abbrev g_graph_look_rmw_r4:GR:=(O1 0 16 3 (OP 1 17 (.bin .gtr (.tmp 16) (.const (.int .i64 0))) (O1 2 18 17 (OG 3 19 18 true (.fieldAddr 0 (.tmp 4)) (.op (GI.mk 4 (some 20) (some (18,true)) (.load none (.tmp 19)) [] true) (OG 5 21 18 true (.mv (.tmp 0)) (OG 6 22 18 true (.nilCheck (.tmp 21)) (OG 7 23 18 true (.fieldAddr 0 (.tmp 22)) (OG 8 24 18 true (.fieldAddr 4 (.tmp 23)) (.op (GI.mk 9 (some 25) (some (18,true)) (.load none (.tmp 24)) [] true) (OG 10 26 18 true (.mv (.tmp 3)) (OG 11 27 18 true (.bin .sub (.tmp 26) (.const (.int .i64 1))) (OG 12 28 18 true (.indexAddr 2 (.tmp 25) (.tmp 27)) (OG 13 29 18 true (.fieldAddr 0 (.tmp 28)) (.op (GI.mk 14 (some 30) (some (18,true)) (.load none (.tmp 29)) [] true) (OG 15 31 18 true (.bin .leq (.tmp 20) (.tmp 30)) (OP 16 32 (.pick (.tmp 18) (.tmp 31) (.const (.bool false))) (O1 17 33 32 (OG 18 34 33 false (.mv (.tmp 0)) (OG 19 35 33 false (.fieldAddr 0 (.tmp 4)) (.op (GI.mk 20 (some 36) (some (33,false)) (.load none (.tmp 35)) [] true) (.op (GI.mk 21 (some 37) (some (33,false)) (.call 108 [(.tmp 34),(.tmp 36),(.const (.int .i64 1))]) [4,9,14] false) (OG 22 38 33 false (.not (.tmp 37)) (OP 23 39 (.pick (.tmp 33) (.const (.bool true)) (.tmp 38)) (O1 24 40 39 (OG 25 41 40 false (.mv (.tmp 0)) (OG 26 42 40 false (.fieldAddr 1 (.tmp 4)) (.op (GI.mk 27 (some 43) (some (40,false)) (.load none (.tmp 42)) [] true) (.op (GI.mk 28 (some 44) (some (40,false)) (.call 108 [(.tmp 41),(.tmp 43),(.const (.int .i64 2))]) [4,9,14,20] false) (OG 29 45 40 false (.not (.tmp 44)) (OP 30 46 (.pick (.tmp 40) (.const (.bool true)) (.tmp 45)) (O1 31 47 46 (OG 32 48 47 false (.mv (.tmp 0)) (OG 33 49 47 false (.nilCheck (.tmp 48)) (OG 34 50 47 false (.fieldAddr 9 (.tmp 49)) (.op (GI.mk 35 (some 51) (some (47,false)) (.load none (.tmp 50)) [] true) (OG 36 52 47 false (.fieldAddr 0 (.tmp 4)) (.op (GI.mk 37 (some 53) (some (47,false)) (.load none (.tmp 52)) [] true) (OG 38 54 47 false (.indexAddr 1 (.tmp 51) (.tmp 53)) (.op (GI.mk 39 (some 55) (some (47,false)) (.load none (.tmp 54)) [] true) (OG 40 56 47 false (.fieldAddr 1 (.tmp 4)) (.op (GI.mk 41 (some 57) (some (47,false)) (.load none (.tmp 56)) [] true) (OG 42 58 47 false (.bin .neq (.tmp 55) (.tmp 57)) (OP 43 59 (.pick (.tmp 47) (.const (.bool true)) (.tmp 58)) (O1 44 60 59 (OG 45 61 60 false (.mv (.tmp 0)) (OG 46 62 60 false (.nilCheck (.tmp 61)) (OG 47 63 60 false (.fieldAddr 0 (.tmp 62)) (OG 48 64 60 false (.fieldAddr 1 (.tmp 63)) (.op (GI.mk 49 (some 65) (some (60,false)) (.load none (.tmp 64)) [] true) (OG 50 66 60 false (.fieldAddr 0 (.tmp 4)) (.op (GI.mk 51 (some 67) (some (60,false)) (.load none (.tmp 66)) [] true) (OG 52 68 60 false (.indexAddr 5 (.tmp 65) (.tmp 67)) (OG 53 69 60 false (.fieldAddr 2 (.tmp 68)) (.op (GI.mk 54 (some 70) (some (60,false)) (.load none (.tmp 69)) [] true) (OG 55 71 60 false (.mv (.tmp 0)) (OG 56 72 60 false (.nilCheck (.tmp 71)) (OG 57 73 60 false (.fieldAddr 0 (.tmp 72)) (OG 58 74 60 false (.fieldAddr 1 (.tmp 73)) (.op (GI.mk 59 (some 75) (some (60,false)) (.load none (.tmp 74)) [] true) (OG 60 76 60 false (.fieldAddr 1 (.tmp 4)) (.op (GI.mk 61 (some 77) (some (60,false)) (.load none (.tmp 76)) [] true) (OG 62 78 60 false (.indexAddr 5 (.tmp 75) (.tmp 77)) (OG 63 79 60 false (.fieldAddr 2 (.tmp 78)) (.op (GI.mk 64 (some 80) (some (60,false)) (.load none (.tmp 79)) [] true) (OG 65 81 60 false (.bin .neq (.tmp 70) (.tmp 80)) (OP 66 82 (.pick (.tmp 60) (.const (.bool true)) (.tmp 81)) .done)))))))))))))))))))))))))))))))))))))))))))))))))))))))))))))))))))
abbrev g_graph_look_rmw_r5:GR:=(O1 0 83 3 (O1 1 2 83 .done))
abbrev g_graph_look_rmw_r6:GR:=(OP 0 84 (.bin .add (.tmp 11) (.const (.int .i64 1))) (O1 1 11 84 .done))
abbrev g_graph_look_rmw_l7:GC:=(.seq (.reg g_graph_look_rmw_r2 [0,9,10,11,12]) (.seq (.cond (.tmp 12) .skip (.exit 0)) (.seq (.block 1 (.seq (.reg g_graph_look_rmw_r3 [0,3,4,9,10,11]) (.seq (.reg g_graph_look_rmw_r4 [0,3,9,10,11,82]) (.cond (.tmp 82) (.seq (.reg g_graph_look_rmw_r5 [2]) .ret) .skip)))) (.reg g_graph_look_rmw_r6 [0,9,10,11]))))
abbrev g_graph_look_rmw_r8:GR:=(OP 0 2 (.mv (.const (.int .i64 (-1)))) .done)
abbrev g_graph_look_rmw:GC:=(.seq (.reg g_graph_look_rmw_r0 [0]) (.seq (.seq (.reg g_graph_look_rmw_r1 [0,9,10,11]) (.block 0 (.loop g_graph_look_rmw_l7))) (.seq (.reg g_graph_look_rmw_r8 [2]) .ret)))
abbrev rs_graph_look_rmw:List RV:=[(.tmp 2)]
theorem gc_graph_look_rmw:compileF Tryz.prog Tryz.f90 T_graph_look_rmw=some (g_graph_look_rmw,rs_graph_look_rmw):=by kernel_rfl
theorem con_graph_look_rmw (hv:vc Tryz.prog y g_graph_look_rmw (retQ rs_graph_look_rmw R) [(0,a0)] h):ConX y Tryz.prog 90 #[a0] h R:=con_of Tryz.func90 gc_graph_look_rmw rfl (fun h=>absurd h (by decide)) hv
def T_graph_look_deps:List (Nat×List Nat):=[(0,[0,1,2]),(1,[0,1,2,9,10,11]),(2,[0,1,2,9,10,11,12]),(3,[0,1,2,7,8,9,10,11]),(4,[0,1,2,7,9,10,11,88]),(5,[6]),(6,[0,1,2,9,10,11]),(7,[6])]
abbrev g_graph_look_deps_r0:GR:=(OP 0 6 (.mv (.const (.int .i64 0))) .done)
abbrev g_graph_look_deps_r1:GR:=(O1 0 9 1 (OP 1 10 (.len (.tmp 9)) (OP 2 11 (.mv (.const (.int .i64 0))) .done)))
abbrev g_graph_look_deps_r2:GR:=(O5 0 12 .lss 11 10 .done)
abbrev g_graph_look_deps_r3:GR:=(O1 0 13 11 (O4 1 14 2 9 11 (OP 2 15 (.load (some 2) (.tmp 14)) (OP 3 8 (.alloc 69 [(.int .i64 0),(.int .i64 0)]) (O1 4 7 13 (OS 5 (.store 2 (.tmp 8) (.tmp 15)) .done))))))
abbrev g_graph_look_deps_r4:GR:=(O1 0 16 7 (OP 1 17 (.bin .gtr (.tmp 16) (.const (.int .i64 0))) (O1 2 18 17 (OG 3 19 18 true (.fieldAddr 0 (.tmp 8)) (.op (GI.mk 4 (some 20) (some (18,true)) (.load none (.tmp 19)) [] true) (OG 5 21 18 true (.mv (.tmp 1)) (OG 6 22 18 true (.mv (.tmp 7)) (OG 7 23 18 true (.bin .sub (.tmp 22) (.const (.int .i64 1))) (OG 8 24 18 true (.indexAddr 2 (.tmp 21) (.tmp 23)) (OG 9 25 18 true (.fieldAddr 0 (.tmp 24)) (.op (GI.mk 10 (some 26) (some (18,true)) (.load none (.tmp 25)) [] true) (OG 11 27 18 true (.bin .lss (.tmp 20) (.tmp 26)) (OG 12 28 18 true (.mv (.tmp 27)) (OG 13 29 28 false (.fieldAddr 0 (.tmp 8)) (.op (GI.mk 14 (some 30) (some (28,false)) (.load none (.tmp 29)) [] true) (OG 15 31 28 false (.mv (.tmp 1)) (OG 16 32 28 false (.mv (.tmp 7)) (OG 17 33 28 false (.bin .sub (.tmp 32) (.const (.int .i64 1))) (OG 18 34 28 false (.indexAddr 2 (.tmp 31) (.tmp 33)) (OG 19 35 28 false (.fieldAddr 0 (.tmp 34)) (.op (GI.mk 20 (some 36) (some (28,false)) (.load none (.tmp 35)) [] true) (OG 21 37 28 false (.bin .eql (.tmp 30) (.tmp 36)) (OG 22 38 28 false (.mv (.tmp 37)) (OG 23 39 38 true (.fieldAddr 1 (.tmp 8)) (.op (GI.mk 24 (some 40) (some (38,true)) (.load none (.tmp 39)) [] true) (OG 25 41 38 true (.mv (.tmp 1)) (OG 26 42 38 true (.mv (.tmp 7)) (OG 27 43 38 true (.bin .sub (.tmp 42) (.const (.int .i64 1))) (OG 28 44 38 true (.indexAddr 2 (.tmp 41) (.tmp 43)) (OG 29 45 38 true (.fieldAddr 1 (.tmp 44)) (.op (GI.mk 30 (some 46) (some (38,true)) (.load none (.tmp 45)) [] true) (OG 31 47 38 true (.bin .leq (.tmp 40) (.tmp 46)) (OG 32 48 28 false (.pick (.tmp 38) (.tmp 47) (.const (.bool false))) (OG 33 49 18 true (.pick (.tmp 28) (.const (.bool true)) (.tmp 48)) (OP 34 50 (.pick (.tmp 18) (.tmp 49) (.const (.bool false))) (O1 35 51 50 (OG 36 52 51 false (.mv (.tmp 0)) (OG 37 53 51 false (.nilCheck (.tmp 52)) (OG 38 54 51 false (.fieldAddr 8 (.tmp 53)) (.op (GI.mk 39 (some 55) (some (51,false)) (.load none (.tmp 54)) [] true) (OG 40 56 51 false (.not (.tmp 55)) (OP 41 57 (.pick (.tmp 51) (.const (.bool true)) (.tmp 56)) (O1 42 58 57 (OG 43 59 58 false (.mv (.tmp 0)) (OG 44 60 58 false (.fieldAddr 0 (.tmp 8)) (.op (GI.mk 45 (some 61) (some (58,false)) (.load none (.tmp 60)) [] true) (.op (GI.mk 46 (some 62) (some (58,false)) (.call 108 [(.tmp 59),(.tmp 61),(.const (.int .i64 1))]) [4,10,14,20,24,30,39] false) (OG 47 63 58 false (.not (.tmp 62)) (OP 48 64 (.pick (.tmp 58) (.const (.bool true)) (.tmp 63)) (O1 49 65 64 (OG 50 66 65 false (.mv (.tmp 0)) (OG 51 67 65 false (.fieldAddr 0 (.tmp 8)) (.op (GI.mk 52 (some 68) (some (65,false)) (.load none (.tmp 67)) [] true) (OG 53 69 65 false (.fieldAddr 1 (.tmp 8)) (.op (GI.mk 54 (some 70) (some (65,false)) (.load none (.tmp 69)) [] true) (.op (GI.mk 55 (some 71) (some (65,false)) (.call 109 [(.tmp 66),(.tmp 68),(.tmp 70)]) [4,10,14,20,24,30,39,45] false) (OG 56 72 65 false (.not (.tmp 71)) (OP 57 73 (.pick (.tmp 65) (.const (.bool true)) (.tmp 72)) (O1 58 74 73 (OG 59 75 74 false (.mv (.tmp 2)) (OG 60 76 74 false (.mv (.tmp 0)) (OG 61 77 74 false (.nilCheck (.tmp 76)) (OG 62 78 74 false (.fieldAddr 0 (.tmp 77)) (OG 63 79 74 false (.fieldAddr 1 (.tmp 78)) (.op (GI.mk 64 (some 80) (some (74,false)) (.load none (.tmp 79)) [] true) (OG 65 81 74 false (.fieldAddr 1 (.tmp 8)) (.op (GI.mk 66 (some 82) (some (74,false)) (.load none (.tmp 81)) [] true) (OG 67 83 74 false (.indexAddr 5 (.tmp 80) (.tmp 82)) (OG 68 84 74 false (.fieldAddr 1 (.tmp 83)) (.op (GI.mk 69 (some 85) (some (74,false)) (.load none (.tmp 84)) [] true) (.op (GI.mk 70 (some 86) (some (74,false)) (.call 106 [(.tmp 75),(.tmp 85)]) [4,10,14,20,24,30,39,45,52,54,64,66] false) (OG 71 87 74 false (.not (.tmp 86)) (OP 72 88 (.pick (.tmp 74) (.const (.bool true)) (.tmp 87)) .done)))))))))))))))))))))))))))))))))))))))))))))))))))))))))))))))))))))))))
abbrev g_graph_look_deps_r5:GR:=(O1 0 89 7 (O1 1 6 89 .done))
abbrev g_graph_look_deps_r6:GR:=(OP 0 90 (.bin .add (.tmp 11) (.const (.int .i64 1))) (O1 1 11 90 .done))
abbrev g_graph_look_deps_l7:GC:=(.seq (.reg g_graph_look_deps_r2 [0,1,2,9,10,11,12]) (.seq (.cond (.tmp 12) .skip (.exit 0)) (.seq (.block 1 (.seq (.reg g_graph_look_deps_r3 [0,1,2,7,8,9,10,11]) (.seq (.reg g_graph_look_deps_r4 [0,1,2,7,9,10,11,88]) (.cond (.tmp 88) (.seq (.reg g_graph_look_deps_r5 [6]) .ret) .skip)))) (.reg g_graph_look_deps_r6 [0,1,2,9,10,11]))))
abbrev g_graph_look_deps_r8:GR:=(OP 0 6 (.mv (.const (.int .i64 (-1)))) .done)
abbrev g_graph_look_deps:GC:=(.seq (.reg g_graph_look_deps_r0 [0,1,2]) (.seq (.seq (.reg g_graph_look_deps_r1 [0,1,2,9,10,11]) (.block 0 (.loop g_graph_look_deps_l7))) (.seq (.reg g_graph_look_deps_r8 [6]) .ret)))
abbrev rs_graph_look_deps:List RV:=[(.tmp 6)]
theorem gc_graph_look_deps:compileF Tryz.prog Tryz.f91 T_graph_look_deps=some (g_graph_look_deps,rs_graph_look_deps):=by kernel_rfl
theorem con_graph_look_deps (hv:vc Tryz.prog y g_graph_look_deps (retQ rs_graph_look_deps R) [(0,a0),(1,a1),(2,a2)] h):ConX y Tryz.prog 91 #[a0,a1,a2] h R:=con_of Tryz.func91 gc_graph_look_deps rfl (fun h=>absurd h (by decide)) hv
def T_graph_good:List (Nat×List Nat):=[(0,[1]),(1,[1,3]),(2,[1,13]),(3,[2]),(4,[5]),(5,[2])]
abbrev g_graph_good_r0:GR:=(OP 0 1 (.box 26 (.tmp 0)) (OP 1 2 (.mv (.const (.bool false))) .done))
abbrev g_graph_good_r1:GR:=(OP 0 8 (.load (some 8) (.tmp 1)) (OP 1 9 (.call 56 [(.tmp 8),(.const (.bool false))]) (O1 2 7 9 (OP 3 10 (.extract 0 (.tmp 7)) (OP 4 11 (.extract 1 (.tmp 7)) (O1 5 3 10 (O1 6 4 11 .done)))))))
abbrev g_graph_good_r2:GR:=(O1 0 12 3 (OP 1 13 (.bin .eql (.tmp 12) (.const (.int .i64 0))) .done))
abbrev g_graph_good_r3:GR:=(OP 0 2 (.mv (.const (.bool true))) .done)
abbrev g_graph_good_r4:GR:=(OP 0 15 (.load (some 8) (.tmp 1)) (OP 1 16 (.call 56 [(.tmp 15),(.const (.bool true))]) (O1 2 14 16 (OP 3 17 (.extract 0 (.tmp 14)) (OP 4 18 (.extract 1 (.tmp 14)) (O1 5 5 17 (O1 6 6 18 .done)))))))
abbrev g_graph_good_r5:GR:=(O1 0 19 5 (OP 1 20 (.bin .eql (.tmp 19) (.const (.int .i64 0))) (O1 2 2 20 .done)))
abbrev g_graph_good:GC:=(.seq (.reg g_graph_good_r0 [1]) (.seq (.seq (.reg g_graph_good_r1 [1,3]) (.seq (.reg g_graph_good_r2 [1,13]) (.cond (.tmp 13) (.seq (.reg g_graph_good_r3 [2]) .ret) .skip))) (.seq (.reg g_graph_good_r4 [5]) (.seq (.reg g_graph_good_r5 [2]) .ret))))
abbrev rs_graph_good:List RV:=[(.tmp 2)]
theorem gc_graph_good:compileF Tryz.prog Tryz.f92 T_graph_good=some (g_graph_good,rs_graph_good):=by kernel_rfl
theorem con_graph_good (hv:vc Tryz.prog y g_graph_good (retQ rs_graph_good R) [(0,a0)] h):ConX y Tryz.prog 92 #[a0] h R:=con_of Tryz.func92 gc_graph_good rfl (fun h=>absurd h (by decide)) hv
def T_rel_Of:List (Nat×List Nat):=[(0,[0,1]),(1,[1,5]),(2,[5,10,11,12]),(3,[5,10,11,12,13]),(4,[5,7,10,11,12]),(5,[5,10,11,12]),(6,[5,10,11,12]),(7,[4])]
abbrev g_rel_Of_r0:GR:=(OP 0 4 (.mv (.const (.pointer none))) .done)
abbrev g_rel_Of_r1:GR:=(O1 0 8 0 (OP 1 9 (.call 62 [(.tmp 8)]) (O1 2 5 9 .done)))
abbrev g_rel_Of_r2:GR:=(O1 0 10 1 (OP 1 11 (.len (.tmp 10)) (OP 2 12 (.mv (.const (.int .i64 0))) .done)))
abbrev g_rel_Of_r3:GR:=(O5 0 13 .lss 12 11 .done)
abbrev g_rel_Of_r4:GR:=(O4 0 14 2 10 12 (OP 1 15 (.load (some 2) (.tmp 14)) (OP 2 7 (.alloc 69 [(.int .i64 0),(.int .i64 0)]) (OS 3 (.store 2 (.tmp 7) (.tmp 15)) .done))))
abbrev g_rel_Of_r5:GR:=(O1 0 16 5 (O3 1 17 0 7 (O2 2 18 17 (O3 3 19 1 7 (O2 4 20 19 (OP 5 21 (.call 16 [(.tmp 16),(.tmp 18),(.tmp 20),(.const (.bool true))]) .done))))))
abbrev g_rel_Of_r6:GR:=(OP 0 22 (.bin .add (.tmp 12) (.const (.int .i64 1))) (O1 1 12 22 .done))
abbrev g_rel_Of_l7:GC:=(.seq (.reg g_rel_Of_r3 [5,10,11,12,13]) (.seq (.cond (.tmp 13) .skip (.exit 0)) (.seq (.block 1 (.seq (.reg g_rel_Of_r4 [5,7,10,11,12]) (.reg g_rel_Of_r5 [5,10,11,12]))) (.reg g_rel_Of_r6 [5,10,11,12]))))
abbrev g_rel_Of_r8:GR:=(O1 0 23 5 (O1 1 4 23 .done))
abbrev g_rel_Of:GC:=(.seq (.reg g_rel_Of_r0 [0,1]) (.seq (.reg g_rel_Of_r1 [1,5]) (.seq (.seq (.reg g_rel_Of_r2 [5,10,11,12]) (.block 0 (.loop g_rel_Of_l7))) (.seq (.reg g_rel_Of_r8 [4]) .ret))))
abbrev rs_rel_Of:List RV:=[(.tmp 4)]
theorem gc_rel_Of:compileF Tryz.prog Tryz.f93 T_rel_Of=some (g_rel_Of,rs_rel_Of):=by kernel_rfl
theorem con_rel_Of (hv:vc Tryz.prog y g_rel_Of (retQ rs_rel_Of R) [(0,a0),(1,a1)] h):ConX y Tryz.prog 93 #[a0,a1] h R:=con_of Tryz.func93 gc_rel_Of rfl (fun h=>absurd h (by decide)) hv
def T_rel_Inverse:List (Nat×List Nat):=[(0,[0,2]),(1,[0,2,3]),(2,[2,3,15,16,17]),(3,[2,3,15,16,17,18]),(4,[2,3,4,5,15,16,17]),(5,[2,3,4,15,16,17,23]),(6,[3,4,6]),(7,[]),(8,[2,3,15,16,17]),(9,[2])]
abbrev g_rel_Inverse_r0:GR:=(OP 0 2 (.mv (.const (.pointer none))) .done)
abbrev g_rel_Inverse_r1:GR:=(O1 0 7 0 (OP 1 8 (.nilCheck (.tmp 7)) (O3 2 9 0 8 (O2 3 10 9 (OP 4 11 (.call 62 [(.tmp 10)]) (OP 5 3 (.alloc 38 [(.pointer none)]) (OS 6 (.store 1 (.tmp 3) (.tmp 11)) .done)))))))
abbrev g_rel_Inverse_r2:GR:=(O1 0 12 0 (OP 1 13 (.nilCheck (.tmp 12)) (O3 2 14 1 13 (O2 3 15 14 (OP 4 16 (.len (.tmp 15)) (OP 5 17 (.mv (.const (.int .i64 0))) .done))))))
abbrev g_rel_Inverse_r3:GR:=(O5 0 18 .lss 17 16 .done)
abbrev g_rel_Inverse_r4:GR:=(O1 0 19 17 (O4 1 20 1 15 17 (O2 2 21 20 (OP 3 4 (.alloc 3 [(.int .i64 0)]) (OS 4 (.store 1 (.tmp 4) (.tmp 19)) (O1 5 5 21 .done))))))
abbrev g_rel_Inverse_r5:GR:=(O1 0 22 5 (OP 1 23 (.call 69 [(.tmp 22)]) .done))
abbrev g_rel_Inverse_r6:GR:=(O1 0 6 24 .done)
abbrev g_rel_Inverse_r7:GR:=(O6 0 25 3 (OP 1 26 (.nilCheck (.tmp 25)) (O3 2 27 1 26 (O6 3 28 27 (O1 4 29 6 (O4 5 30 1 28 29 (O6 6 31 30 (O6 7 32 4 (.op (GI.mk 8 (some 33) none (.call 110 [(.tmp 31),(.tmp 32)]) [0,3] false) .done)))))))))
abbrev g_rel_Inverse_b8:GC:=(.block 3 (.reg g_rel_Inverse_r7 []))
abbrev g_rel_Inverse_r9:GR:=(OP 0 34 (.bin .add (.tmp 17) (.const (.int .i64 1))) (O1 1 17 34 .done))
abbrev g_rel_Inverse_l10:GC:=(.seq (.reg g_rel_Inverse_r3 [2,3,15,16,17,18]) (.seq (.cond (.tmp 18) .skip (.exit 0)) (.seq (.block 1 (.seq (.reg g_rel_Inverse_r4 [2,3,4,5,15,16,17]) (.seq (.reg g_rel_Inverse_r5 [2,3,4,15,16,17,23]) (.block 2 (.rng (.tmp 23) [24] (.reg g_rel_Inverse_r6 [3,4,6]) g_rel_Inverse_b8))))) (.reg g_rel_Inverse_r9 [2,3,15,16,17]))))
abbrev g_rel_Inverse_r11:GR:=(O2 0 35 3 (O1 1 2 35 .done))
abbrev g_rel_Inverse:GC:=(.seq (.reg g_rel_Inverse_r0 [0,2]) (.seq (.reg g_rel_Inverse_r1 [0,2,3]) (.seq (.seq (.reg g_rel_Inverse_r2 [2,3,15,16,17]) (.block 0 (.loop g_rel_Inverse_l10))) (.seq (.reg g_rel_Inverse_r11 [2]) .ret))))
abbrev rs_rel_Inverse:List RV:=[(.tmp 2)]
theorem gc_rel_Inverse:compileF Tryz.prog Tryz.f94 T_rel_Inverse=some (g_rel_Inverse,rs_rel_Inverse):=by kernel_rfl
theorem con_rel_Inverse (hR:∀ v h1 h2,Ext h.size h1 h2→R v h1→R v h2) (hv:vc Tryz.prog y g_rel_Inverse (retQ rs_rel_Inverse R) [(0,a0)] h):ConX y Tryz.prog 94 #[a0] h R:=con_of Tryz.func94 gc_rel_Inverse rfl (fun _=>hR) hv
def T_arm_model_set:List (Nat×List Nat):=[(0,[0,1]),(1,[4])]
abbrev g_arm_model_set_r0:GR:=(OP 0 4 (.mv (.const (.pointer none))) .done)
abbrev g_arm_model_set_r1:GR:=(O1 0 5 0 (OP 1 6 (.nilCheck (.tmp 5)) (O3 2 7 0 6 (O3 3 8 1 7 (O2 4 9 8 (OP 5 10 (.len (.tmp 9)) (O1 6 11 1 (OP 7 12 (.call 111 [(.tmp 10),(.tmp 11)]) (O1 8 4 12 .done)))))))))
abbrev g_arm_model_set:GC:=(.seq (.reg g_arm_model_set_r0 [0,1]) (.seq (.reg g_arm_model_set_r1 [4]) .ret))
abbrev rs_arm_model_set:List RV:=[(.tmp 4)]
theorem gc_arm_model_set:compileF Tryz.prog Tryz.f95 T_arm_model_set=some (g_arm_model_set,rs_arm_model_set):=by kernel_rfl
theorem con_arm_model_set (hv:vc Tryz.prog y g_arm_model_set (retQ rs_arm_model_set R) [(0,a0),(1,a1)] h):ConX y Tryz.prog 95 #[a0,a1] h R:=con_of Tryz.func95 gc_arm_model_set rfl (fun h=>absurd h (by decide)) hv
def T_graph_With:List (Nat×List Nat):=[(0,[1,2]),(1,[1,2,5]),(2,[1,5,13,14,15]),(3,[1,5,13,14,15,16]),(4,[1,5,6,7,13,14,15]),(5,[1,5,13,14,15]),(6,[1,5,13,14,15]),(7,[4])]
abbrev g_graph_With_r0:GR:=(OP 0 2 (.box 26 (.tmp 0)) (OP 1 4 (.mv (.const (.slice none 0 0))) .done))
abbrev g_graph_With_r1:GR:=(O3 0 8 1 2 (O2 1 9 8 (OP 2 10 (.len (.tmp 9)) (OP 3 11 (.makeSlice 4 1 1 [(.bool false)] (.tmp 10) (.tmp 10)) (O1 4 5 11 .done)))))
abbrev g_graph_With_r2:GR:=(O3 0 12 1 2 (O2 1 13 12 (OP 2 14 (.len (.tmp 13)) (OP 3 15 (.mv (.const (.int .i64 0))) .done))))
abbrev g_graph_With_r3:GR:=(O5 0 16 .lss 15 14 .done)
abbrev g_graph_With_r4:GR:=(O1 0 17 15 (O4 1 18 5 13 15 (OP 2 19 (.load (some 5) (.tmp 18)) (OP 3 7 (.alloc 77 [(.int .i64 0),(.int .i64 0),(.int .i64 0),(.int .u64 0),(.int .i64 0)]) (O1 4 6 17 (OS 5 (.store 5 (.tmp 7) (.tmp 19)) .done))))))
abbrev g_graph_With_r5:GR:=(O1 0 20 5 (O1 1 21 6 (O1 2 22 1 (O3 3 23 4 7 (O2 4 24 23 (OP 5 25 (.call 106 [(.tmp 22),(.tmp 24)]) (O4 6 26 1 20 21 (OS 7 (.store 1 (.tmp 26) (.tmp 25)) .done))))))))
abbrev g_graph_With_r6:GR:=(OP 0 27 (.bin .add (.tmp 15) (.const (.int .i64 1))) (O1 1 15 27 .done))
abbrev g_graph_With_l7:GC:=(.seq (.reg g_graph_With_r3 [1,5,13,14,15,16]) (.seq (.cond (.tmp 16) .skip (.exit 0)) (.seq (.block 1 (.seq (.reg g_graph_With_r4 [1,5,6,7,13,14,15]) (.reg g_graph_With_r5 [1,5,13,14,15]))) (.reg g_graph_With_r6 [1,5,13,14,15]))))
abbrev g_graph_With_r8:GR:=(O1 0 28 5 (O1 1 4 28 .done))
abbrev g_graph_With:GC:=(.seq (.reg g_graph_With_r0 [1,2]) (.seq (.reg g_graph_With_r1 [1,2,5]) (.seq (.seq (.reg g_graph_With_r2 [1,5,13,14,15]) (.block 0 (.loop g_graph_With_l7))) (.seq (.reg g_graph_With_r8 [4]) .ret))))
abbrev rs_graph_With:List RV:=[(.tmp 4)]
theorem gc_graph_With:compileF Tryz.prog Tryz.f96 T_graph_With=some (g_graph_With,rs_graph_With):=by kernel_rfl
theorem con_graph_With (hv:vc Tryz.prog y g_graph_With (retQ rs_graph_With R) [(0,a0),(1,a1)] h):ConX y Tryz.prog 96 #[a0,a1] h R:=con_of Tryz.func96 gc_graph_With rfl (fun h=>absurd h (by decide)) hv
def T_rel_Rel_Copy:List (Nat×List Nat):=[(0,[0]),(1,[2])]
abbrev g_rel_Rel_Copy_r0:GR:=(OP 0 2 (.mv (.const (.pointer none))) .done)
abbrev g_rel_Rel_Copy_r1:GR:=(O1 0 3 0 (OP 1 4 (.call 98 [(.tmp 3),(.const (.int .i64 0))]) (O1 2 2 4 .done)))
abbrev g_rel_Rel_Copy:GC:=(.seq (.reg g_rel_Rel_Copy_r0 [0]) (.seq (.reg g_rel_Rel_Copy_r1 [2]) .ret))
abbrev rs_rel_Rel_Copy:List RV:=[(.tmp 2)]
theorem gc_rel_Rel_Copy:compileF Tryz.prog Tryz.f97 T_rel_Rel_Copy=some (g_rel_Rel_Copy,rs_rel_Rel_Copy):=by kernel_rfl
theorem con_rel_Rel_Copy (hv:vc Tryz.prog y g_rel_Rel_Copy (retQ rs_rel_Rel_Copy R) [(0,a0)] h):ConX y Tryz.prog 97 #[a0] h R:=con_of Tryz.func97 gc_rel_Rel_Copy rfl (fun h=>absurd h (by decide)) hv
def T_rel_Rel_wide:List (Nat×List Nat):=[(0,[0,1]),(1,[0,5]),(2,[5,18,19,20]),(3,[5,18,19,20,21]),(4,[5,6,7,18,19,20]),(5,[5,18,19,20]),(6,[5,18,19,20]),(7,[4])]
abbrev g_rel_Rel_wide_r0:GR:=(OP 0 4 (.mv (.const (.pointer none))) .done)
abbrev g_rel_Rel_wide_r1:GR:=(O1 0 8 1 (O1 1 9 0 (OP 2 10 (.nilCheck (.tmp 9)) (O3 3 11 0 10 (O2 4 12 11 (OP 5 13 (.maxi (.tmp 8) (.tmp 12)) (OP 6 14 (.call 62 [(.tmp 13)]) (O1 7 5 14 .done))))))))
abbrev g_rel_Rel_wide_r2:GR:=(O1 0 15 0 (OP 1 16 (.nilCheck (.tmp 15)) (O3 2 17 1 16 (O2 3 18 17 (OP 4 19 (.len (.tmp 18)) (OP 5 20 (.mv (.const (.int .i64 0))) .done))))))
abbrev g_rel_Rel_wide_r3:GR:=(O5 0 21 .lss 20 19 .done)
abbrev g_rel_Rel_wide_r4:GR:=(O1 0 22 20 (O4 1 23 1 18 20 (O2 2 24 23 (O1 3 6 22 (O1 4 7 24 .done)))))
abbrev g_rel_Rel_wide_r5:GR:=(O1 0 25 5 (OP 1 26 (.nilCheck (.tmp 25)) (O3 2 27 1 26 (O2 3 28 27 (O1 4 29 6 (O4 5 30 1 28 29 (O2 6 31 30 (O1 7 32 7 (OP 8 33 (.buildSlice 95 1 [(.slice none 0 0)] [(0,(1,(.tmp 32)))]) (OP 9 34 (.call 63 [(.tmp 31),(.tmp 33)]) .done))))))))))
abbrev g_rel_Rel_wide_r6:GR:=(OP 0 35 (.bin .add (.tmp 20) (.const (.int .i64 1))) (O1 1 20 35 .done))
abbrev g_rel_Rel_wide_l7:GC:=(.seq (.reg g_rel_Rel_wide_r3 [5,18,19,20,21]) (.seq (.cond (.tmp 21) .skip (.exit 0)) (.seq (.block 1 (.seq (.reg g_rel_Rel_wide_r4 [5,6,7,18,19,20]) (.reg g_rel_Rel_wide_r5 [5,18,19,20]))) (.reg g_rel_Rel_wide_r6 [5,18,19,20]))))
abbrev g_rel_Rel_wide_r8:GR:=(O1 0 36 5 (O1 1 4 36 .done))
abbrev g_rel_Rel_wide:GC:=(.seq (.reg g_rel_Rel_wide_r0 [0,1]) (.seq (.reg g_rel_Rel_wide_r1 [0,5]) (.seq (.seq (.reg g_rel_Rel_wide_r2 [5,18,19,20]) (.block 0 (.loop g_rel_Rel_wide_l7))) (.seq (.reg g_rel_Rel_wide_r8 [4]) .ret))))
abbrev rs_rel_Rel_wide:List RV:=[(.tmp 4)]
theorem gc_rel_Rel_wide:compileF Tryz.prog Tryz.f98 T_rel_Rel_wide=some (g_rel_Rel_wide,rs_rel_Rel_wide):=by kernel_rfl
theorem con_rel_Rel_wide (hv:vc Tryz.prog y g_rel_Rel_wide (retQ rs_rel_Rel_wide R) [(0,a0),(1,a1)] h):ConX y Tryz.prog 98 #[a0,a1] h R:=con_of Tryz.func98 gc_rel_Rel_wide rfl (fun h=>absurd h (by decide)) hv
def T_slices_Values:List (Nat×List Nat):=[(0,[1]),(1,[2])]
abbrev g_slices_Values_r0:GR:=(OP 0 1 (.box 28 (.tmp 0)) (OP 1 2 (.mv (.const Value.nilFunc)) .done))
abbrev g_slices_Values_r1:GR:=(OP 0 3 (.makeFunc (Fn.func 112) [] [(.tmp 1)]) (O1 1 2 3 .done))
abbrev g_slices_Values:GC:=(.seq (.reg g_slices_Values_r0 [1]) (.seq (.reg g_slices_Values_r1 [2]) .ret))
abbrev rs_slices_Values:List RV:=[(.tmp 2)]
theorem gc_slices_Values:compileF Tryz.prog Tryz.f99 T_slices_Values=some (g_slices_Values,rs_slices_Values):=by kernel_rfl
theorem con_slices_Values (hv:vc Tryz.prog y g_slices_Values (retQ rs_slices_Values R) [(0,a0)] h):ConX y Tryz.prog 99 #[a0] h R:=con_of Tryz.func99 gc_slices_Values rfl (fun h=>absurd h (by decide)) hv
def T_slices_Collect:List (Nat×List Nat):=[(0,[0]),(1,[2])]
abbrev g_slices_Collect_r0:GR:=(OP 0 2 (.mv (.const (.slice none 0 0))) .done)
abbrev g_slices_Collect_r1:GR:=(O1 0 3 0 (OP 1 4 (.call 113 [(.const (.slice none 0 0)),(.tmp 3)]) (O1 2 2 4 .done)))
abbrev g_slices_Collect:GC:=(.seq (.reg g_slices_Collect_r0 [0]) (.seq (.reg g_slices_Collect_r1 [2]) .ret))
abbrev rs_slices_Collect:List RV:=[(.tmp 2)]
theorem gc_slices_Collect:compileF Tryz.prog Tryz.f100 T_slices_Collect=some (g_slices_Collect,rs_slices_Collect):=by kernel_rfl
theorem con_slices_Collect (hv:vc Tryz.prog y g_slices_Collect (retQ rs_slices_Collect R) [(0,a0)] h):ConX y Tryz.prog 100 #[a0] h R:=con_of Tryz.func100 gc_slices_Collect rfl (fun h=>absurd h (by decide)) hv
def T_arm_chain:List (Nat×List Nat):=[(0,[0,1]),(1,[0,7,8,9]),(2,[0,7,8,9,10]),(3,[0,6,7,8,9]),(4,[0,7,8,9]),(5,[0,7,8,9]),(6,[4])]
abbrev g_arm_chain_r0:GR:=(OP 0 4 (.mv (.const (.pointer none))) .done)
abbrev g_arm_chain_r1:GR:=(O1 0 7 1 (OP 1 8 (.len (.tmp 7)) (OP 2 9 (.mv (.const (.int .i64 0))) .done)))
abbrev g_arm_chain_r2:GR:=(O5 0 10 .lss 9 8 .done)
abbrev g_arm_chain_r3:GR:=(O4 0 11 1 7 9 (O2 1 12 11 (O1 2 6 12 .done)))
abbrev g_arm_chain_r4:GR:=(O1 0 13 0 (O1 1 14 6 (OP 2 15 (.call 23 [(.tmp 13),(.tmp 14)]) (O1 3 0 15 .done))))
abbrev g_arm_chain_r5:GR:=(OP 0 16 (.bin .add (.tmp 9) (.const (.int .i64 1))) (O1 1 9 16 .done))
abbrev g_arm_chain_l6:GC:=(.seq (.reg g_arm_chain_r2 [0,7,8,9,10]) (.seq (.cond (.tmp 10) .skip (.exit 0)) (.seq (.block 1 (.seq (.reg g_arm_chain_r3 [0,6,7,8,9]) (.reg g_arm_chain_r4 [0,7,8,9]))) (.reg g_arm_chain_r5 [0,7,8,9]))))
abbrev g_arm_chain_r7:GR:=(O1 0 17 0 (O1 1 4 17 .done))
abbrev g_arm_chain:GC:=(.seq (.reg g_arm_chain_r0 [0,1]) (.seq (.seq (.reg g_arm_chain_r1 [0,7,8,9]) (.block 0 (.loop g_arm_chain_l6))) (.seq (.reg g_arm_chain_r7 [4]) .ret)))
abbrev rs_arm_chain:List RV:=[(.tmp 4)]
theorem gc_arm_chain:compileF Tryz.prog Tryz.f101 T_arm_chain=some (g_arm_chain,rs_arm_chain):=by kernel_rfl
theorem con_arm_chain (hv:vc Tryz.prog y g_arm_chain (retQ rs_arm_chain R) [(0,a0),(1,a1)] h):ConX y Tryz.prog 101 #[a0,a1] h R:=con_of Tryz.func101 gc_arm_chain rfl (fun h=>absurd h (by decide)) hv
def T_rel_row_points_1:List (Nat×List Nat):=[(0,[0,5,6,7]),(1,[0,5,6,7,8]),(2,[0,3,4,5,6,7]),(3,[0,3,4,5,6,7,13]),(4,[0,3,4,5,6,7]),(5,[0,3,4,5,6,7,25]),(6,[0,5,6,7])]
abbrev g_rel_row_points_1_r0:GR:=(O2 0 5 1 (OP 1 6 (.len (.tmp 5)) (OP 2 7 (.mv (.const (.int .i64 0))) .done)))
abbrev g_rel_row_points_1_r1:GR:=(O5 0 8 .lss 7 6 .done)
abbrev g_rel_row_points_1_r2:GR:=(O1 0 9 7 (O4 1 10 1 5 7 (O2 2 11 10 (O1 3 3 9 (O1 4 4 11 .done)))))
abbrev g_rel_row_points_1_r3:GR:=(O1 0 12 4 (OP 1 13 (.bin .neq (.tmp 12) (.const (.int .u64 0))) .done))
abbrev g_rel_row_points_1_r4:GR:=(O1 0 18 0 (O1 1 19 3 (OP 2 20 (.bin .mul (.const (.int .i64 64)) (.tmp 19)) (O1 3 21 4 (OP 4 22 (.call 103 [(.tmp 21)]) (O5 5 23 .add 20 22 (OP 6 24 (.callv (.tmp 18) [(.tmp 23)]) (OP 7 25 (.not (.tmp 24)) .done))))))))
abbrev g_rel_row_points_1_r5:GR:=(O1 0 14 4 (O1 1 15 4 (OP 2 16 (.bin .sub (.tmp 15) (.const (.int .u64 1))) (O5 3 17 .and 14 16 (O1 4 4 17 .done)))))
abbrev g_rel_row_points_1_l6:GC:=(.seq (.seq (.reg g_rel_row_points_1_r3 [0,3,4,5,6,7,13]) (.cond (.tmp 13) .skip (.exit 2))) (.seq (.block 3 (.seq (.reg g_rel_row_points_1_r4 [0,3,4,5,6,7,25]) (.cond (.tmp 25) .ret .skip))) (.reg g_rel_row_points_1_r5 [0,3,4,5,6,7])))
abbrev g_rel_row_points_1_r7:GR:=(OP 0 26 (.bin .add (.tmp 7) (.const (.int .i64 1))) (O1 1 7 26 .done))
abbrev g_rel_row_points_1_l8:GC:=(.seq (.reg g_rel_row_points_1_r1 [0,5,6,7,8]) (.seq (.cond (.tmp 8) .skip (.exit 0)) (.seq (.block 1 (.seq (.reg g_rel_row_points_1_r2 [0,3,4,5,6,7]) (.block 2 (.loop g_rel_row_points_1_l6)))) (.reg g_rel_row_points_1_r7 [0,5,6,7]))))
abbrev g_rel_row_points_1:GC:=(.seq (.reg g_rel_row_points_1_r0 [0,5,6,7]) (.block 0 (.loop g_rel_row_points_1_l8)))
abbrev rs_rel_row_points_1:List RV:=[]
theorem gc_rel_row_points_1:compileF Tryz.prog Tryz.f102 T_rel_row_points_1=some (g_rel_row_points_1,rs_rel_row_points_1):=by kernel_rfl
theorem con_rel_row_points_1 (hv:vc Tryz.prog y g_rel_row_points_1 (retQ rs_rel_row_points_1 R) [(0,a0),(1,a1)] h):ConX y Tryz.prog 102 #[a0,a1] h R:=con_of Tryz.func102 gc_rel_row_points_1 rfl (fun h=>absurd h (by decide)) hv
def T_math_bits_TrailingZeros64:List (Nat×List Nat):=[(0,[0]),(1,[0,4]),(2,[2]),(3,[2])]
abbrev g_math_bits_TrailingZeros64_r0:GR:=(OP 0 2 (.mv (.const (.int .i64 0))) .done)
abbrev g_math_bits_TrailingZeros64_r1:GR:=(O1 0 3 0 (OP 1 4 (.bin .eql (.tmp 3) (.const (.int .u64 0))) .done))
abbrev g_math_bits_TrailingZeros64_r2:GR:=(OP 0 2 (.mv (.const (.int .i64 64))) .done)
abbrev g_math_bits_TrailingZeros64_r3:GR:=(O1 0 5 0 (O1 1 6 0 (OP 2 7 (.neg (.tmp 6)) (O5 3 8 .and 5 7 (OP 4 9 (.bin .mul (.tmp 8) (.const (.int .u64 285870213051353865))) (OP 5 10 (.shift .shr (.tmp 9) (.const (.int .u64 58))) (OP 6 11 (.indexArr 1 64 (.global 0) (.tmp 10)) (O2 7 12 11 (OP 8 13 (.conv .i64 (.tmp 12)) (O1 9 2 13 .done))))))))))
abbrev g_math_bits_TrailingZeros64:GC:=(.seq (.reg g_math_bits_TrailingZeros64_r0 [0]) (.seq (.seq (.reg g_math_bits_TrailingZeros64_r1 [0,4]) (.cond (.tmp 4) (.seq (.reg g_math_bits_TrailingZeros64_r2 [2]) .ret) .skip)) (.seq (.reg g_math_bits_TrailingZeros64_r3 [2]) .ret)))
abbrev rs_math_bits_TrailingZeros64:List RV:=[(.tmp 2)]
theorem gc_math_bits_TrailingZeros64:compileF Tryz.prog Tryz.f103 T_math_bits_TrailingZeros64=some (g_math_bits_TrailingZeros64,rs_math_bits_TrailingZeros64):=by kernel_rfl
theorem con_math_bits_TrailingZeros64 (hv:vc Tryz.prog y g_math_bits_TrailingZeros64 (retQ rs_math_bits_TrailingZeros64 R) [(0,a0)] h):ConX y Tryz.prog 103 #[a0] h R:=con_of Tryz.func103 gc_math_bits_TrailingZeros64 rfl (fun h=>absurd h (by decide)) hv
def T_ref1_in:List (Nat×List Nat):=[(0,[1,2]),(1,[4])]
abbrev g_ref1_in_r0:GR:=(OP 0 2 (.box 47 (.tmp 0)) (OP 1 4 (.mv (.const (.bool false))) .done))
abbrev g_ref1_in_r1:GR:=(O1 0 5 1 (OP 1 6 (.bin .geq (.tmp 5) (.const (.int .i64 0))) (O1 2 7 6 (OG 3 8 7 true (.mv (.tmp 1)) (OG 4 9 7 true (.fieldAddr 0 (.tmp 2)) (OG 5 10 7 true (.load none (.tmp 9)) (OG 6 11 7 true (.bin .lss (.tmp 8) (.tmp 10)) (OP 7 12 (.pick (.tmp 7) (.tmp 11) (.const (.bool false))) (O1 8 4 12 .done)))))))))
abbrev g_ref1_in:GC:=(.seq (.reg g_ref1_in_r0 [1,2]) (.seq (.reg g_ref1_in_r1 [4]) .ret))
abbrev rs_ref1_in:List RV:=[(.tmp 4)]
theorem gc_ref1_in:compileF Tryz.prog Tryz.f104 T_ref1_in=some (g_ref1_in,rs_ref1_in):=by kernel_rfl
theorem con_ref1_in (hv:vc Tryz.prog y g_ref1_in (retQ rs_ref1_in R) [(0,a0),(1,a1)] h):ConX y Tryz.prog 104 #[a0,a1] h R:=con_of Tryz.func104 gc_ref1_in rfl (fun h=>absurd h (by decide)) hv
def T_slices_Backward_1:List (Nat×List Nat):=[(0,[0,1,3]),(1,[0,1,3,8]),(2,[0,1,3]),(3,[0,1,3,18])]
abbrev g_slices_Backward_1_r0:GR:=(O2 0 4 1 (OP 1 5 (.len (.tmp 4)) (OP 2 6 (.bin .sub (.tmp 5) (.const (.int .i64 1))) (O1 3 3 6 .done))))
abbrev g_slices_Backward_1_r1:GR:=(O1 0 7 3 (OP 1 8 (.bin .geq (.tmp 7) (.const (.int .i64 0))) .done))
abbrev g_slices_Backward_1_r2:GR:=(O1 0 11 0 (O1 1 12 3 (O2 2 13 1 (O1 3 14 3 (O4 4 15 5 13 14 (OP 5 16 (.load (some 5) (.tmp 15)) (OP 6 17 (.callv (.tmp 11) [(.tmp 12),(.tmp 16)]) (OP 7 18 (.not (.tmp 17)) .done))))))))
abbrev g_slices_Backward_1_r3:GR:=(O1 0 9 3 (OP 1 10 (.bin .sub (.tmp 9) (.const (.int .i64 1))) (O1 2 3 10 .done)))
abbrev g_slices_Backward_1_l4:GC:=(.seq (.seq (.reg g_slices_Backward_1_r1 [0,1,3,8]) (.cond (.tmp 8) .skip (.exit 0))) (.seq (.block 1 (.seq (.reg g_slices_Backward_1_r2 [0,1,3,18]) (.cond (.tmp 18) .ret .skip))) (.reg g_slices_Backward_1_r3 [0,1,3])))
abbrev g_slices_Backward_1:GC:=(.seq (.reg g_slices_Backward_1_r0 [0,1,3]) (.block 0 (.loop g_slices_Backward_1_l4)))
abbrev rs_slices_Backward_1:List RV:=[]
theorem gc_slices_Backward_1:compileF Tryz.prog Tryz.f105 T_slices_Backward_1=some (g_slices_Backward_1,rs_slices_Backward_1):=by kernel_rfl
theorem con_slices_Backward_1 (hv:vc Tryz.prog y g_slices_Backward_1 (retQ rs_slices_Backward_1 R) [(0,a0),(1,a1)] h):ConX y Tryz.prog 105 #[a0,a1] h R:=con_of Tryz.func105 gc_slices_Backward_1 rfl (fun h=>absurd h (by decide)) hv
def T_slices_Contains:List (Nat×List Nat):=[(0,[0,1]),(1,[4])]
abbrev g_slices_Contains_r0:GR:=(OP 0 4 (.mv (.const (.bool false))) .done)
abbrev g_slices_Contains_r1:GR:=(O1 0 5 0 (O1 1 6 1 (OP 2 7 (.call 114 [(.tmp 5),(.tmp 6)]) (OP 3 8 (.bin .geq (.tmp 7) (.const (.int .i64 0))) (O1 4 4 8 .done)))))
abbrev g_slices_Contains:GC:=(.seq (.reg g_slices_Contains_r0 [0,1]) (.seq (.reg g_slices_Contains_r1 [4]) .ret))
abbrev rs_slices_Contains:List RV:=[(.tmp 4)]
theorem gc_slices_Contains:compileF Tryz.prog Tryz.f106 T_slices_Contains=some (g_slices_Contains,rs_slices_Contains):=by kernel_rfl
theorem con_slices_Contains (hv:vc Tryz.prog y g_slices_Contains (retQ rs_slices_Contains R) [(0,a0),(1,a1)] h):ConX y Tryz.prog 106 #[a0,a1] h R:=con_of Tryz.func106 gc_slices_Contains rfl (fun h=>absurd h (by decide)) hv
def T_graph_modes:List (Nat×List Nat):=[(0,[0,1]),(1,[0,1,5]),(2,[4]),(3,[0,1,12]),(4,[4]),(5,[0,1,16]),(6,[4]),(7,[0,1,23]),(8,[4]),(9,[0,27]),(10,[4]),(11,[34]),(12,[4]),(13,[4])]
abbrev g_graph_modes_r0:GR:=(OP 0 4 (.mv (.const (.slice none 0 0))) .done)
abbrev g_graph_modes_r1:GR:=(O1 0 6 0 (OP 1 7 (.bin .eql (.tmp 6) (.const (.int .i64 1))) (O1 2 8 7 (OG 3 9 8 true (.mv (.tmp 1)) (OP 4 10 (.pick (.tmp 8) (.tmp 9) (.const (.bool false))) (O1 5 5 10 .done))))))
abbrev g_graph_modes_r2:GR:=(OP 0 11 (.buildSlice 3 3 [(.int .i64 0),(.int .i64 0),(.int .i64 0)] [(0,(1,(.const (.int .i64 11)))),(1,(1,(.const (.int .i64 12)))),(2,(1,(.const (.int .i64 16))))]) (O1 1 4 11 .done))
abbrev g_graph_modes_r3:GR:=(O1 0 13 0 (OP 1 14 (.bin .eql (.tmp 13) (.const (.int .i64 1))) (O1 2 12 14 .done)))
abbrev g_graph_modes_r4:GR:=(OP 0 15 (.buildSlice 3 3 [(.int .i64 0),(.int .i64 0),(.int .i64 0)] [(0,(1,(.const (.int .i64 1)))),(1,(1,(.const (.int .i64 2)))),(2,(1,(.const (.int .i64 5))))]) (O1 1 4 15 .done))
abbrev g_graph_modes_r5:GR:=(O1 0 17 0 (OP 1 18 (.bin .eql (.tmp 17) (.const (.int .i64 2))) (O1 2 19 18 (OG 3 20 19 true (.mv (.tmp 1)) (OP 4 21 (.pick (.tmp 19) (.tmp 20) (.const (.bool false))) (O1 5 16 21 .done))))))
abbrev g_graph_modes_r6:GR:=(OP 0 22 (.buildSlice 3 2 [(.int .i64 0),(.int .i64 0)] [(0,(1,(.const (.int .i64 11)))),(1,(1,(.const (.int .i64 13))))]) (O1 1 4 22 .done))
abbrev g_graph_modes_r7:GR:=(O1 0 24 0 (OP 1 25 (.bin .eql (.tmp 24) (.const (.int .i64 2))) (O1 2 23 25 .done)))
abbrev g_graph_modes_r8:GR:=(OP 0 26 (.buildSlice 3 3 [(.int .i64 0),(.int .i64 0),(.int .i64 0)] [(0,(1,(.const (.int .i64 1)))),(1,(1,(.const (.int .i64 3)))),(2,(1,(.const (.int .i64 5))))]) (O1 1 4 26 .done))
abbrev g_graph_modes_r9:GR:=(O1 0 28 0 (OP 1 29 (.bin .eql (.tmp 28) (.const (.int .i64 3))) (O1 2 30 29 (OG 3 31 30 true (.mv (.tmp 1)) (OP 4 32 (.pick (.tmp 30) (.tmp 31) (.const (.bool false))) (O1 5 27 32 .done))))))
abbrev g_graph_modes_r10:GR:=(OP 0 33 (.buildSlice 3 2 [(.int .i64 0),(.int .i64 0)] [(0,(1,(.const (.int .i64 14)))),(1,(1,(.const (.int .i64 15))))]) (O1 1 4 33 .done))
abbrev g_graph_modes_r11:GR:=(O1 0 35 0 (OP 1 36 (.bin .eql (.tmp 35) (.const (.int .i64 3))) (O1 2 34 36 .done)))
abbrev g_graph_modes_r12:GR:=(OP 0 37 (.buildSlice 3 4 [(.int .i64 0),(.int .i64 0),(.int .i64 0),(.int .i64 0)] [(0,(1,(.const (.int .i64 2)))),(1,(1,(.const (.int .i64 3)))),(2,(1,(.const (.int .i64 4)))),(3,(1,(.const (.int .i64 5))))]) (O1 1 4 37 .done))
abbrev g_graph_modes_r13:GR:=(OP 0 4 (.mv (.const (.slice none 0 0))) .done)
abbrev g_graph_modes:GC:=(.seq (.reg g_graph_modes_r0 [0,1]) (.seq (.block 0 (.seq (.reg g_graph_modes_r1 [0,1,5]) (.cond (.tmp 5) (.seq (.reg g_graph_modes_r2 [4]) .ret) (.seq (.reg g_graph_modes_r3 [0,1,12]) (.cond (.tmp 12) (.seq (.reg g_graph_modes_r4 [4]) .ret) (.seq (.reg g_graph_modes_r5 [0,1,16]) (.cond (.tmp 16) (.seq (.reg g_graph_modes_r6 [4]) .ret) (.seq (.reg g_graph_modes_r7 [0,1,23]) (.cond (.tmp 23) (.seq (.reg g_graph_modes_r8 [4]) .ret) (.seq (.reg g_graph_modes_r9 [0,27]) (.cond (.tmp 27) (.seq (.reg g_graph_modes_r10 [4]) .ret) (.seq (.reg g_graph_modes_r11 [34]) (.cond (.tmp 34) (.seq (.reg g_graph_modes_r12 [4]) .ret) .skip))))))))))))) (.seq (.reg g_graph_modes_r13 [4]) .ret)))
abbrev rs_graph_modes:List RV:=[(.tmp 4)]
theorem gc_graph_modes:compileF Tryz.prog Tryz.f107 T_graph_modes=some (g_graph_modes,rs_graph_modes):=by kernel_rfl
theorem con_graph_modes (hv:vc Tryz.prog y g_graph_modes (retQ rs_graph_modes R) [(0,a0),(1,a1)] h):ConX y Tryz.prog 107 #[a0,a1] h R:=con_of Tryz.func107 gc_graph_modes rfl (fun h=>absurd h (by decide)) hv
def T_graph_look_is:List (Nat×List Nat):=[(0,[0,1,2]),(1,[6])]
abbrev g_graph_look_is_r0:GR:=(OP 0 6 (.mv (.const (.bool false))) .done)
abbrev g_graph_look_is_r1:GR:=(O1 0 7 1 (OP 1 8 (.bin .geq (.tmp 7) (.const (.int .i64 0))) (O1 2 9 8 (OG 3 10 9 true (.mv (.tmp 1)) (OG 4 11 9 true (.mv (.tmp 0)) (OG 5 12 9 true (.nilCheck (.tmp 11)) (OG 6 13 9 true (.fieldAddr 0 (.tmp 12)) (OG 7 14 9 true (.fieldAddr 1 (.tmp 13)) (OG 8 15 9 true (.load none (.tmp 14)) (OG 9 16 9 true (.len (.tmp 15)) (OG 10 17 9 true (.bin .lss (.tmp 10) (.tmp 16)) (OP 11 18 (.pick (.tmp 9) (.tmp 17) (.const (.bool false))) (O1 12 19 18 (OG 13 20 19 true (.mv (.tmp 0)) (OG 14 21 19 true (.nilCheck (.tmp 20)) (OG 15 22 19 true (.fieldAddr 0 (.tmp 21)) (OG 16 23 19 true (.fieldAddr 1 (.tmp 22)) (OG 17 24 19 true (.load none (.tmp 23)) (OG 18 25 19 true (.mv (.tmp 1)) (OG 19 26 19 true (.indexAddr 5 (.tmp 24) (.tmp 25)) (OG 20 27 19 true (.fieldAddr 1 (.tmp 26)) (OG 21 28 19 true (.load none (.tmp 27)) (OG 22 29 19 true (.mv (.tmp 2)) (OG 23 30 19 true (.bin .eql (.tmp 28) (.tmp 29)) (OP 24 31 (.pick (.tmp 19) (.tmp 30) (.const (.bool false))) (O1 25 6 31 .done))))))))))))))))))))))))))
abbrev g_graph_look_is:GC:=(.seq (.reg g_graph_look_is_r0 [0,1,2]) (.seq (.reg g_graph_look_is_r1 [6]) .ret))
abbrev rs_graph_look_is:List RV:=[(.tmp 6)]
theorem gc_graph_look_is:compileF Tryz.prog Tryz.f108 T_graph_look_is=some (g_graph_look_is,rs_graph_look_is):=by kernel_rfl
theorem con_graph_look_is (hv:vc Tryz.prog y g_graph_look_is (retQ rs_graph_look_is R) [(0,a0),(1,a1),(2,a2)] h):ConX y Tryz.prog 108 #[a0,a1,a2] h R:=con_of Tryz.func108 gc_graph_look_is rfl (fun h=>absurd h (by decide)) hv
def T_graph_look_po:List (Nat×List Nat):=[(0,[0,1,2]),(1,[1,2,7]),(2,[6])]
abbrev g_graph_look_po_r0:GR:=(OP 0 6 (.mv (.const (.bool false))) .done)
abbrev g_graph_look_po_r1:GR:=(O1 0 8 0 (OP 1 9 (.nilCheck (.tmp 8)) (O3 2 10 0 9 (O3 3 11 1 10 (O2 4 12 11 (O1 5 7 12 .done))))))
abbrev g_graph_look_po_r2:GR:=(O1 0 13 1 (OP 1 14 (.bin .geq (.tmp 13) (.const (.int .i64 0))) (O1 2 15 14 (OG 3 16 15 true (.mv (.tmp 1)) (OG 4 17 15 true (.mv (.tmp 2)) (OG 5 18 15 true (.bin .lss (.tmp 16) (.tmp 17)) (OP 6 19 (.pick (.tmp 15) (.tmp 18) (.const (.bool false))) (O1 7 20 19 (OG 8 21 20 true (.mv (.tmp 2)) (OG 9 22 20 true (.mv (.tmp 7)) (OG 10 23 20 true (.len (.tmp 22)) (OG 11 24 20 true (.bin .lss (.tmp 21) (.tmp 23)) (OP 12 25 (.pick (.tmp 20) (.tmp 24) (.const (.bool false))) (O1 13 26 25 (OG 14 27 26 true (.mv (.tmp 7)) (OG 15 28 26 true (.mv (.tmp 1)) (OG 16 29 26 true (.indexAddr 5 (.tmp 27) (.tmp 28)) (OG 17 30 26 true (.fieldAddr 0 (.tmp 29)) (.op (GI.mk 18 (some 31) (some (26,true)) (.load none (.tmp 30)) [] true) (OG 19 32 26 true (.bin .geq (.tmp 31) (.const (.int .i64 0))) (OP 20 33 (.pick (.tmp 26) (.tmp 32) (.const (.bool false))) (O1 21 34 33 (OG 22 35 34 true (.mv (.tmp 7)) (OG 23 36 34 true (.mv (.tmp 1)) (OG 24 37 34 true (.indexAddr 5 (.tmp 35) (.tmp 36)) (OG 25 38 34 true (.fieldAddr 0 (.tmp 37)) (.op (GI.mk 26 (some 39) (some (34,true)) (.load none (.tmp 38)) [] true) (OG 27 40 34 true (.mv (.tmp 7)) (OG 28 41 34 true (.mv (.tmp 2)) (OG 29 42 34 true (.indexAddr 5 (.tmp 40) (.tmp 41)) (OG 30 43 34 true (.fieldAddr 0 (.tmp 42)) (.op (GI.mk 31 (some 44) (some (34,true)) (.load none (.tmp 43)) [] true) (OG 32 45 34 true (.bin .eql (.tmp 39) (.tmp 44)) (OP 33 46 (.pick (.tmp 34) (.tmp 45) (.const (.bool false))) (O1 34 6 46 .done)))))))))))))))))))))))))))))))))))
abbrev g_graph_look_po:GC:=(.seq (.reg g_graph_look_po_r0 [0,1,2]) (.seq (.reg g_graph_look_po_r1 [1,2,7]) (.seq (.reg g_graph_look_po_r2 [6]) .ret)))
abbrev rs_graph_look_po:List RV:=[(.tmp 6)]
theorem gc_graph_look_po:compileF Tryz.prog Tryz.f109 T_graph_look_po=some (g_graph_look_po,rs_graph_look_po):=by kernel_rfl
theorem con_graph_look_po (hv:vc Tryz.prog y g_graph_look_po (retQ rs_graph_look_po R) [(0,a0),(1,a1),(2,a2)] h):ConX y Tryz.prog 109 #[a0,a1,a2] h R:=con_of Tryz.func109 gc_graph_look_po rfl (fun h=>absurd h (by decide)) hv
def T_rel_row_set:List (Nat×List Nat):=[(0,[])]
abbrev g_rel_row_set_r0:GR:=(O1 0 4 0 (O1 1 5 1 (OP 2 6 (.bin .quo (.tmp 5) (.const (.int .i64 64))) (O4 3 7 1 4 6 (O6 4 8 7 (O1 5 9 1 (OP 6 10 (.bin .rem (.tmp 9) (.const (.int .i64 64))) (OP 7 11 (.shift .shl (.const (.int .u64 1)) (.tmp 10)) (O5 8 12 .or 8 11 (O4 9 13 1 4 6 (OS 10 (.store 1 (.tmp 13) (.tmp 12)) .done)))))))))))
abbrev g_rel_row_set:GC:=(.reg g_rel_row_set_r0 [])
abbrev rs_rel_row_set:List RV:=[]
theorem gc_rel_row_set:compileF Tryz.prog Tryz.f110 T_rel_row_set=some (g_rel_row_set,rs_rel_row_set):=by kernel_rfl
theorem con_rel_row_set (hv:vc Tryz.prog y g_rel_row_set (retQ rs_rel_row_set R) [(0,a0),(1,a1)] h):ConX y Tryz.prog 110 #[a0,a1] h R:=con_of Tryz.func110 gc_rel_row_set rfl (fun h=>absurd h (by decide)) hv
def T_rel_Ident:List (Nat×List Nat):=[(0,[0,1]),(1,[1,5]),(2,[5,10,11,12]),(3,[5,10,11,12,13]),(4,[5,6,7,10,11,12]),(5,[5,6,10,11,12,17]),(6,[5,10,11,12]),(7,[5,10,11,12]),(8,[4])]
abbrev g_rel_Ident_r0:GR:=(OP 0 4 (.mv (.const (.pointer none))) .done)
abbrev g_rel_Ident_r1:GR:=(O1 0 8 0 (OP 1 9 (.call 62 [(.tmp 8)]) (O1 2 5 9 .done)))
abbrev g_rel_Ident_r2:GR:=(O1 0 10 1 (OP 1 11 (.len (.tmp 10)) (OP 2 12 (.mv (.const (.int .i64 0))) .done)))
abbrev g_rel_Ident_r3:GR:=(O5 0 13 .lss 12 11 .done)
abbrev g_rel_Ident_r4:GR:=(O1 0 14 12 (O4 1 15 1 10 12 (O2 2 16 15 (O1 3 6 14 (O1 4 7 16 .done)))))
abbrev g_rel_Ident_r5:GR:=(O1 0 17 7 .done)
abbrev g_rel_Ident_r6:GR:=(O1 0 18 5 (O1 1 19 6 (O1 2 20 6 (OP 3 21 (.call 16 [(.tmp 18),(.tmp 19),(.tmp 20),(.const (.bool true))]) .done))))
abbrev g_rel_Ident_r7:GR:=(OP 0 22 (.bin .add (.tmp 12) (.const (.int .i64 1))) (O1 1 12 22 .done))
abbrev g_rel_Ident_l8:GC:=(.seq (.reg g_rel_Ident_r3 [5,10,11,12,13]) (.seq (.cond (.tmp 13) .skip (.exit 0)) (.seq (.block 1 (.seq (.reg g_rel_Ident_r4 [5,6,7,10,11,12]) (.seq (.reg g_rel_Ident_r5 [5,6,10,11,12,17]) (.cond (.tmp 17) (.reg g_rel_Ident_r6 [5,10,11,12]) .skip)))) (.reg g_rel_Ident_r7 [5,10,11,12]))))
abbrev g_rel_Ident_r9:GR:=(O1 0 23 5 (O1 1 4 23 .done))
abbrev g_rel_Ident:GC:=(.seq (.reg g_rel_Ident_r0 [0,1]) (.seq (.reg g_rel_Ident_r1 [1,5]) (.seq (.seq (.reg g_rel_Ident_r2 [5,10,11,12]) (.block 0 (.loop g_rel_Ident_l8))) (.seq (.reg g_rel_Ident_r9 [4]) .ret))))
abbrev rs_rel_Ident:List RV:=[(.tmp 4)]
theorem gc_rel_Ident:compileF Tryz.prog Tryz.f111 T_rel_Ident=some (g_rel_Ident,rs_rel_Ident):=by kernel_rfl
theorem con_rel_Ident (hv:vc Tryz.prog y g_rel_Ident (retQ rs_rel_Ident R) [(0,a0),(1,a1)] h):ConX y Tryz.prog 111 #[a0,a1] h R:=con_of Tryz.func111 gc_rel_Ident rfl (fun h=>absurd h (by decide)) hv
def T_slices_Values_1:List (Nat×List Nat):=[(0,[0,5,6,7]),(1,[0,5,6,7,8]),(2,[0,4,5,6,7]),(3,[0,5,6,7,14]),(4,[0,5,6,7])]
abbrev g_slices_Values_1_r0:GR:=(O2 0 5 1 (OP 1 6 (.len (.tmp 5)) (OP 2 7 (.mv (.const (.int .i64 0))) .done)))
abbrev g_slices_Values_1_r1:GR:=(O5 0 8 .lss 7 6 .done)
abbrev g_slices_Values_1_r2:GR:=(O4 0 9 1 5 7 (O2 1 10 9 (O1 2 4 10 .done)))
abbrev g_slices_Values_1_r3:GR:=(O1 0 11 0 (O1 1 12 4 (OP 2 13 (.callv (.tmp 11) [(.tmp 12)]) (OP 3 14 (.not (.tmp 13)) .done))))
abbrev g_slices_Values_1_r4:GR:=(OP 0 15 (.bin .add (.tmp 7) (.const (.int .i64 1))) (O1 1 7 15 .done))
abbrev g_slices_Values_1_l5:GC:=(.seq (.reg g_slices_Values_1_r1 [0,5,6,7,8]) (.seq (.cond (.tmp 8) .skip (.exit 0)) (.seq (.block 1 (.seq (.reg g_slices_Values_1_r2 [0,4,5,6,7]) (.seq (.reg g_slices_Values_1_r3 [0,5,6,7,14]) (.cond (.tmp 14) .ret .skip)))) (.reg g_slices_Values_1_r4 [0,5,6,7]))))
abbrev g_slices_Values_1:GC:=(.seq (.reg g_slices_Values_1_r0 [0,5,6,7]) (.block 0 (.loop g_slices_Values_1_l5)))
abbrev rs_slices_Values_1:List RV:=[]
theorem gc_slices_Values_1:compileF Tryz.prog Tryz.f112 T_slices_Values_1=some (g_slices_Values_1,rs_slices_Values_1):=by kernel_rfl
theorem con_slices_Values_1 (hv:vc Tryz.prog y g_slices_Values_1 (retQ rs_slices_Values_1 R) [(0,a0),(1,a1)] h):ConX y Tryz.prog 112 #[a0,a1] h R:=con_of Tryz.func112 gc_slices_Values_1 rfl (fun h=>absurd h (by decide)) hv
def T_slices_AppendSeq:List (Nat×List Nat):=[(0,[1,2,4]),(1,[2,4,6]),(2,[2,5]),(3,[]),(4,[4])]
abbrev g_slices_AppendSeq_r0:GR:=(OP 0 2 (.box 28 (.tmp 0)) (OP 1 4 (.mv (.const (.slice none 0 0))) .done))
abbrev g_slices_AppendSeq_r1:GR:=(O1 0 6 1 .done)
abbrev g_slices_AppendSeq_r2:GR:=(O1 0 5 7 .done)
abbrev g_slices_AppendSeq_r3:GR:=(O2 0 8 2 (O1 1 9 5 (OP 2 10 (.buildSlice 3 1 [(.int .i64 0)] [(0,(1,(.tmp 9)))]) (OP 3 11 (.append 3 1 8 [(.int .i64 0)] (.tmp 8) (.tmp 10)) (OS 4 (.store 1 (.tmp 2) (.tmp 11)) .done)))))
abbrev g_slices_AppendSeq_b4:GC:=(.block 1 (.reg g_slices_AppendSeq_r3 []))
abbrev g_slices_AppendSeq_r5:GR:=(O2 0 12 2 (O1 1 4 12 .done))
abbrev g_slices_AppendSeq:GC:=(.seq (.reg g_slices_AppendSeq_r0 [1,2,4]) (.seq (.seq (.reg g_slices_AppendSeq_r1 [2,4,6]) (.block 0 (.rng (.tmp 6) [7] (.reg g_slices_AppendSeq_r2 [2,5]) g_slices_AppendSeq_b4))) (.seq (.reg g_slices_AppendSeq_r5 [4]) .ret)))
abbrev rs_slices_AppendSeq:List RV:=[(.tmp 4)]
theorem gc_slices_AppendSeq:compileF Tryz.prog Tryz.f113 T_slices_AppendSeq=some (g_slices_AppendSeq,rs_slices_AppendSeq):=by kernel_rfl
theorem con_slices_AppendSeq (hR:∀ v h1 h2,Ext h.size h1 h2→R v h1→R v h2) (hv:vc Tryz.prog y g_slices_AppendSeq (retQ rs_slices_AppendSeq R) [(0,a0),(1,a1)] h):ConX y Tryz.prog 113 #[a0,a1] h R:=con_of Tryz.func113 gc_slices_AppendSeq rfl (fun _=>hR) hv
def T_slices_Index:List (Nat×List Nat):=[(0,[0,1]),(1,[0,1,7,8]),(2,[0,1,7,8,9]),(3,[0,1,5,7,8]),(4,[0,1,5,7,8,16]),(5,[4]),(6,[0,1,7,8]),(7,[4])]
abbrev g_slices_Index_r0:GR:=(OP 0 4 (.mv (.const (.int .i64 0))) .done)
abbrev g_slices_Index_r1:GR:=(O1 0 6 0 (OP 1 7 (.len (.tmp 6)) (OP 2 8 (.mv (.const (.int .i64 0))) .done)))
abbrev g_slices_Index_r2:GR:=(O5 0 9 .lss 8 7 .done)
abbrev g_slices_Index_r3:GR:=(O1 0 10 8 (O1 1 5 10 .done))
abbrev g_slices_Index_r4:GR:=(O1 0 11 1 (O1 1 12 0 (O1 2 13 5 (O4 3 14 1 12 13 (O2 4 15 14 (O5 5 16 .eql 11 15 .done))))))
abbrev g_slices_Index_r5:GR:=(O1 0 17 5 (O1 1 4 17 .done))
abbrev g_slices_Index_r6:GR:=(OP 0 18 (.bin .add (.tmp 8) (.const (.int .i64 1))) (O1 1 8 18 .done))
abbrev g_slices_Index_l7:GC:=(.seq (.reg g_slices_Index_r2 [0,1,7,8,9]) (.seq (.cond (.tmp 9) .skip (.exit 0)) (.seq (.block 1 (.seq (.reg g_slices_Index_r3 [0,1,5,7,8]) (.seq (.reg g_slices_Index_r4 [0,1,5,7,8,16]) (.cond (.tmp 16) (.seq (.reg g_slices_Index_r5 [4]) .ret) .skip)))) (.reg g_slices_Index_r6 [0,1,7,8]))))
abbrev g_slices_Index_r8:GR:=(OP 0 4 (.mv (.const (.int .i64 (-1)))) .done)
abbrev g_slices_Index:GC:=(.seq (.reg g_slices_Index_r0 [0,1]) (.seq (.seq (.reg g_slices_Index_r1 [0,1,7,8]) (.block 0 (.loop g_slices_Index_l7))) (.seq (.reg g_slices_Index_r8 [4]) .ret)))
abbrev rs_slices_Index:List RV:=[(.tmp 4)]
theorem gc_slices_Index:compileF Tryz.prog Tryz.f114 T_slices_Index=some (g_slices_Index,rs_slices_Index):=by kernel_rfl
theorem con_slices_Index (hv:vc Tryz.prog y g_slices_Index (retQ rs_slices_Index R) [(0,a0),(1,a1)] h):ConX y Tryz.prog 114 #[a0,a1] h R:=con_of Tryz.func114 gc_slices_Index rfl (fun h=>absurd h (by decide)) hv
end Go.Proofs.Tst
