/-
  The compiled forms of functions that the law reaches, each checked against the program by the kernel. No condition.
-/
import Derived.Test.YtmcghihgeibgpaaGreatDoorG1
set_option linter.all false
set_option maxRecDepth 2000
namespace Go.Proofs.Tst
open Go Go.Vc
variable {y : Option Nat} {a0 a1 a2 a3 a4 a5 a6 a7 : Value} {h : Heap} {R : Value → Heap → Prop}
def T_q109:List (Nat×List Nat):=[(0,[1]),(1,[2])]
abbrev g_q109_r0:GR:=(OP 0 1 (.box 28 (.tmp 0)) (OP 1 2 (.mv (.const Value.nilFunc)) .done))
abbrev g_q109_r1:GR:=(OP 0 3 (.makeFunc (Fn.func 106) [] [(.tmp 1)]) (O1 1 2 3 .done))
abbrev g_q109:GC:=(.seq (.reg g_q109_r0 [1]) (.seq (.reg g_q109_r1 [2]) .ret))
abbrev rs_q109:List RV:=[(.tmp 2)]
theorem gc_q109:compileF Tryz.prog Tryz.f88 T_q109=some (g_q109,rs_q109):=by kernel_rfl
theorem con_q109 (hv:vc Tryz.prog y g_q109 (retQ rs_q109 R) [(0,a0)] h):ConX y Tryz.prog 88 #[a0] h R:=con_of Tryz.func88 gc_q109 rfl (fun h=>absurd h (by decide)) hv
def T_q104:List (Nat×List Nat):=[(0,[0]),(1,[2])]
abbrev g_q104_r0:GR:=(OP 0 2 (.mv (.const (.slice none 0 0))) .done)
abbrev g_q104_r1:GR:=(O1 0 3 0 (OP 1 4 (.call 107 [(.const (.slice none 0 0)),(.tmp 3)]) (O1 2 2 4 .done)))
abbrev g_q104:GC:=(.seq (.reg g_q104_r0 [0]) (.seq (.reg g_q104_r1 [2]) .ret))
abbrev rs_q104:List RV:=[(.tmp 2)]
theorem gc_q104:compileF Tryz.prog Tryz.f89 T_q104=some (g_q104,rs_q104):=by kernel_rfl
theorem con_q104 (hv:vc Tryz.prog y g_q104 (retQ rs_q104 R) [(0,a0)] h):ConX y Tryz.prog 89 #[a0] h R:=con_of Tryz.func89 gc_q104 rfl (fun h=>absurd h (by decide)) hv
def T_q106:List (Nat×List Nat):=[(0,[0,1]),(1,[4])]
abbrev g_q106_r0:GR:=(OP 0 4 (.mv (.const (.bool false))) .done)
abbrev g_q106_r1:GR:=(O1 0 5 0 (O1 1 6 1 (OP 2 7 (.call 108 [(.tmp 5),(.tmp 6)]) (OP 3 8 (.bin .geq (.tmp 7) (K 0)) (O1 4 4 8 .done)))))
abbrev g_q106:GC:=(.seq (.reg g_q106_r0 [0,1]) (.seq (.reg g_q106_r1 [4]) .ret))
abbrev rs_q106:List RV:=[(.tmp 4)]
theorem gc_q106:compileF Tryz.prog Tryz.f90 T_q106=some (g_q106,rs_q106):=by kernel_rfl
theorem con_q106 (hv:vc Tryz.prog y g_q106 (retQ rs_q106 R) [(0,a0),(1,a1)] h):ConX y Tryz.prog 90 #[a0,a1] h R:=con_of Tryz.func90 gc_q106 rfl (fun h=>absurd h (by decide)) hv
def T_q107:List (Nat×List Nat):=[(0,[0,1]),(1,[0,1,6]),(2,[0,1]),(3,[0,1]),(4,[0,1,16]),(5,[0]),(6,[4])]
abbrev g_q107_r0:GR:=(OP 0 4 (.mv (.const (.slice none 0 0))) .done)
abbrev g_q107_r1:GR:=(O1 0 5 1 (OP 1 6 (.bin .lss (.tmp 5) (K 0)) .done))
abbrev g_q107_r2:GR:=(OP 0 7 .never (OS 1 .never .done))
abbrev g_q107_r3:GR:=(O1 0 8 1 (O1 1 9 0 (OP 2 10 (.cap (.tmp 9)) (O1 3 11 0 (OP 4 12 (.len (.tmp 11)) (O5 5 13 .sub 10 12 (O5 6 14 .sub 8 13 (O1 7 1 14 .done))))))))
abbrev g_q107_r4:GR:=(O1 0 15 1 (OP 1 16 (.bin .gtr (.tmp 15) (K 0)) .done))
abbrev g_q107_r5:GR:=(O1 0 17 0 (O1 1 18 0 (OP 2 19 (.cap (.tmp 18)) (OP 3 20 (.slice 1 (.tmp 17) none (some (.tmp 19))) (O1 4 21 1 (OP 5 22 (.appendN 38 1 8 [(.pointer none)] (.tmp 20) (.tmp 21)) (O1 6 23 0 (OP 7 24 (.len (.tmp 23)) (OP 8 25 (.slice 1 (.tmp 22) none (some (.tmp 24))) (O1 9 0 25 .done))))))))))
abbrev g_q107_r6:GR:=(O1 0 26 0 (O1 1 4 26 .done))
abbrev g_q107:GC:=(.seq (.reg g_q107_r0 [0,1]) (.seq (.seq (.reg g_q107_r1 [0,1,6]) (.cond (.tmp 6) (.reg g_q107_r2 [0,1]) .skip)) (.seq (.seq (.reg g_q107_r3 [0,1]) (.seq (.reg g_q107_r4 [0,1,16]) (.cond (.tmp 16) (.reg g_q107_r5 [0]) .skip))) (.seq (.reg g_q107_r6 [4]) .ret))))
abbrev rs_q107:List RV:=[(.tmp 4)]
theorem gc_q107:compileF Tryz.prog Tryz.f91 T_q107=some (g_q107,rs_q107):=by kernel_rfl
theorem con_q107 (hv:vc Tryz.prog y g_q107 (retQ rs_q107 R) [(0,a0),(1,a1)] h):ConX y Tryz.prog 91 #[a0,a1] h R:=con_of Tryz.func91 gc_q107 rfl (fun h=>absurd h (by decide)) hv
def T_q41:List (Nat×List Nat):=[(0,[1,2]),(1,[4])]
abbrev g_q41_r0:GR:=(OP 0 2 (.box 54 (.tmp 0)) (OP 1 4 (.mv (.const (.bool false))) .done))
abbrev g_q41_r1:GR:=(O1 0 5 1 (OP 1 6 (.bin .geq (.tmp 5) (K 0)) (O1 2 7 6 (OG 3 8 7 true (.mv (.tmp 1)) (OG 4 9 7 true (.fieldAddr 0 (.tmp 2)) (OG 5 10 7 true (.load none (.tmp 9)) (OG 6 11 7 true (.bin .lss (.tmp 8) (.tmp 10)) (OP 7 12 (.pick (.tmp 7) (.tmp 11) (.const (.bool false))) (O1 8 4 12 .done)))))))))
abbrev g_q41:GC:=(.seq (.reg g_q41_r0 [1,2]) (.seq (.reg g_q41_r1 [4]) .ret))
abbrev rs_q41:List RV:=[(.tmp 4)]
theorem gc_q41:compileF Tryz.prog Tryz.f92 T_q41=some (g_q41,rs_q41):=by kernel_rfl
theorem con_q41 (hv:vc Tryz.prog y g_q41 (retQ rs_q41 R) [(0,a0),(1,a1)] h):ConX y Tryz.prog 92 #[a0,a1] h R:=con_of Tryz.func92 gc_q41 rfl (fun h=>absurd h (by decide)) hv
def T_q36:List (Nat×List Nat):=[(0,[0,1,4]),(1,[1,4,5]),(2,[1,4,5,6]),(3,[1,4,5,6,12]),(4,[1,4,5,6]),(5,[1,4,5,6,30]),(6,[1,4,5,6]),(7,[4])]
abbrev g_q36_r0:GR:=(OP 0 4 (.alloc 54 [(.int .i64 0),(.slice none 0 0)]) .done)
abbrev g_q36_r1:GR:=(O1 0 7 0 (OP 1 8 (.call 59 [(.tmp 7)]) (OP 2 5 (.alloc 54 [(.int .i64 0),(.slice none 0 0)]) (OS 3 (.store 2 (.tmp 5) (.tmp 8)) .done))))
abbrev g_q36_r2:GR:=(OP 0 6 (.mv (K 0)) .done)
abbrev g_q36_r3:GR:=(O1 0 9 6 (O1 1 10 1 (OP 2 11 (.len (.tmp 10)) (O5 3 12 .lss 9 11 .done))))
abbrev g_q36_r4:GR:=(OW 0 15 (.load (some 2) (.tmp 5)) (O1 1 16 1 (O1 2 17 6 (O4 3 18 2 16 17 (O3 4 19 0 18 (O6 5 20 19 (OP 6 21 (.call 92 [(.tmp 15),(.tmp 20)]) (O1 7 22 21 (.op (GI.mk 8 (some 23) (some (22,true)) (.load (some 2) (.tmp 5)) [] true) (OG 9 24 22 true (.mv (.tmp 1)) (OG 10 25 22 true (.mv (.tmp 6)) (OG 11 26 22 true (.indexAddr 2 (.tmp 24) (.tmp 25)) (OG 12 27 22 true (.fieldAddr 1 (.tmp 26)) (.op (GI.mk 13 (some 28) (some (22,true)) (.load none (.tmp 27)) [] true) (.op (GI.mk 14 (some 29) (some (22,true)) (.call 92 [(.tmp 23),(.tmp 28)]) [0,5] false) (OP 15 30 (.pick (.tmp 22) (.tmp 29) (.const (.bool false))) .done))))))))))))))))
abbrev g_q36_r5:GR:=(O3 0 31 1 5 (O6 1 32 31 (O1 2 33 1 (O1 3 34 6 (O4 4 35 2 33 34 (O3 5 36 0 35 (O6 6 37 36 (O4 7 38 1 32 37 (O6 8 39 38 (O1 9 40 1 (O1 10 41 6 (O4 11 42 2 40 41 (O3 12 43 1 42 (O6 13 44 43 (O4 14 45 1 39 44 (OS 15 (.store 1 (.tmp 45) (.const (.bool true))) .done))))))))))))))))
abbrev g_q36_r6:GR:=(O1 0 13 6 (OP 1 14 (.bin .add (.tmp 13) (K 1)) (O1 2 6 14 .done)))
abbrev g_q36_l7:GC:=(.seq (.seq (.reg g_q36_r3 [1,4,5,6,12]) (.cond (.tmp 12) .skip (.exit 0))) (.seq (.block 1 (.seq (.reg g_q36_r4 [1,4,5,6,30]) (.cond (.tmp 30) (.reg g_q36_r5 [1,4,5,6]) .skip))) (.reg g_q36_r6 [1,4,5,6])))
abbrev g_q36_r8:GR:=(OP 0 46 (.load (some 2) (.tmp 5)) (OS 1 (.store 2 (.tmp 4) (.tmp 46)) .done))
abbrev g_q36:GC:=(.seq (.reg g_q36_r0 [0,1,4]) (.seq (.reg g_q36_r1 [1,4,5]) (.seq (.seq (.reg g_q36_r2 [1,4,5,6]) (.block 0 (.loop g_q36_l7))) (.seq (.reg g_q36_r8 [4]) .ret))))
abbrev rs_q36:List RV:=[(.cell 4 (some 2))]
theorem gc_q36:compileF Tryz.prog Tryz.f93 T_q36=some (g_q36,rs_q36):=by kernel_rfl
theorem con_q36 (hv:vc Tryz.prog y g_q36 (retQ rs_q36 R) [(0,a0),(1,a1)] h):ConX y Tryz.prog 93 #[a0,a1] h R:=con_of Tryz.func93 gc_q36 rfl (fun h=>absurd h (by decide)) hv
def T_q99:List (Nat×List Nat):=[(0,[1]),(1,[2])]
abbrev g_q99_r0:GR:=(OP 0 1 (.box 22 (.tmp 0)) (OP 1 2 (.mv (.const Value.nilFunc)) .done))
abbrev g_q99_r1:GR:=(OP 0 3 (.makeFunc (Fn.func 109) [] [(.tmp 1)]) (O1 1 2 3 .done))
abbrev g_q99:GC:=(.seq (.reg g_q99_r0 [1]) (.seq (.reg g_q99_r1 [2]) .ret))
abbrev rs_q99:List RV:=[(.tmp 2)]
theorem gc_q99:compileF Tryz.prog Tryz.f94 T_q99=some (g_q99,rs_q99):=by kernel_rfl
theorem con_q99 (hv:vc Tryz.prog y g_q99 (retQ rs_q99 R) [(0,a0)] h):ConX y Tryz.prog 94 #[a0] h R:=con_of Tryz.func94 gc_q99 rfl (fun h=>absurd h (by decide)) hv
def T_q8:List (Nat×List Nat):=[(0,[0]),(1,[0,3]),(2,[0,3,18]),(3,[0,3]),(4,[0,3,4]),(5,[0,3,4,5]),(6,[0,3,4,5,51]),(7,[0,3,5]),(8,[0,3,5]),(9,[0,3,80]),(10,[2]),(11,[2])]
abbrev g_q8_r0:GR:=(OP 0 2 (.mv (K 0)) .done)
abbrev g_q8_r1:GR:=(O1 0 6 0 (OP 1 7 (.nilCheck (.tmp 6)) (O3 2 8 0 7 (O3 3 9 0 8 (O2 4 10 9 (O1 5 3 10 .done))))))
abbrev g_q8_r2:GR:=(O1 0 11 3 (O1 1 12 0 (OP 2 13 (.nilCheck (.tmp 12)) (O3 3 14 0 13 (O3 4 15 1 14 (O2 5 16 15 (OP 6 17 (.len (.tmp 16)) (O5 7 18 .lss 11 17 .done))))))))
abbrev g_q8_r3:GR:=(O1 0 21 0 (OP 1 22 (.nilCheck (.tmp 21)) (O3 2 23 0 22 (O3 3 24 1 23 (O2 4 25 24 (O1 5 26 3 (O4 6 27 5 25 26 (OP 7 28 (.load (some 5) (.tmp 27)) (OP 8 4 (.alloc 63 [(.int .i64 0),(.int .i64 0),(.int .i64 0),(.int .u64 0),(.int .i64 0)]) (OS 9 (.store 5 (.tmp 4) (.tmp 28)) .done))))))))))
abbrev g_q8_r4:GR:=(O3 0 29 0 4 (O6 1 30 29 (OP 2 31 (.bin .geq (.tmp 30) (K 0)) (O1 3 32 31 (OG 4 33 32 true (.fieldAddr 0 (.tmp 4)) (.op (GI.mk 5 (some 34) (some (32,true)) (.load none (.tmp 33)) [] true) (OG 6 35 32 true (.bin .lss (.tmp 34) (K 64)) (OP 7 36 (.pick (.tmp 32) (.tmp 35) (.const (.bool false))) (O1 8 37 36 (OG 9 38 37 true (.fieldAddr 1 (.tmp 4)) (.op (GI.mk 10 (some 39) (some (37,true)) (.load none (.tmp 38)) [] true) (OG 11 40 37 true (.mv (.tmp 0)) (OG 12 41 37 true (.nilCheck (.tmp 40)) (OG 13 42 37 true (.fieldAddr 8 (.tmp 41)) (.op (GI.mk 14 (some 43) (some (37,true)) (.load none (.tmp 42)) [] true) (OG 16 45 37 true (.fieldAddr 4 (.tmp 4)) (.op (GI.mk 17 (some 46) (some (37,true)) (.load none (.tmp 45)) [] true) (.op (GI.mk 15 (some 44) (some (37,true)) (.call 110 [(.tmp 39),(.tmp 43)]) [1,5,17] false) (.op (GI.mk 18 (some 47) (some (37,true)) (.call 90 [(.tmp 44),(.tmp 46)]) [1,5,10,14] false) (OP 19 48 (.pick (.tmp 37) (.tmp 47) (.const (.bool false))) (O1 20 5 48 .done)))))))))))))))))))))
abbrev g_q8_r5:GR:=(O3 0 49 1 4 (O2 1 50 49 (OP 2 51 (.bin .eql (.tmp 50) (K 3)) .done)))
abbrev g_q8_r6:GR:=(O1 0 52 5 (O1 1 53 52 (OG 2 54 53 true (.fieldAddr 2 (.tmp 4)) (OG 3 55 53 true (.load none (.tmp 54)) (OG 4 56 53 true (.bin .eql (.tmp 55) (K (-1))) (OP 5 57 (.pick (.tmp 53) (.tmp 56) (.const (.bool false))) (O1 6 58 57 (OG 7 59 58 true (.fieldAddr 3 (.tmp 4)) (OG 8 60 58 true (.load none (.tmp 59)) (OG 9 61 58 true (.bin .eql (.tmp 60) (.const (.int .u64 0))) (OP 10 62 (.pick (.tmp 58) (.tmp 61) (.const (.bool false))) (O1 11 5 62 .done))))))))))))
abbrev g_q8_r7:GR:=(O1 0 63 5 (O1 1 64 63 (OG 2 65 64 true (.fieldAddr 2 (.tmp 4)) (.op (GI.mk 3 (some 66) (some (64,true)) (.load none (.tmp 65)) [] true) (OG 4 67 64 true (.bin .geq (.tmp 66) (K 0)) (OP 5 68 (.pick (.tmp 64) (.tmp 67) (.const (.bool false))) (O1 6 69 68 (OG 7 70 69 true (.fieldAddr 2 (.tmp 4)) (.op (GI.mk 8 (some 71) (some (69,true)) (.load none (.tmp 70)) [] true) (OG 9 72 69 true (.mv (.tmp 0)) (OG 10 73 69 true (.nilCheck (.tmp 72)) (OG 11 74 69 true (.fieldAddr 0 (.tmp 73)) (OG 12 75 69 true (.fieldAddr 0 (.tmp 74)) (.op (GI.mk 13 (some 76) (some (69,true)) (.load none (.tmp 75)) [] true) (OG 14 77 69 true (.bin .lss (.tmp 71) (.tmp 76)) (OP 15 78 (.pick (.tmp 69) (.tmp 77) (.const (.bool false))) (O1 16 5 78 .done)))))))))))))))))
abbrev g_q8_r8:GR:=(O1 0 79 5 (OP 1 80 (.not (.tmp 79)) .done))
abbrev g_q8_r9:GR:=(O1 0 81 3 (O1 1 2 81 .done))
abbrev g_q8_r10:GR:=(O1 0 19 3 (OP 1 20 (.bin .add (.tmp 19) (K 1)) (O1 2 3 20 .done)))
abbrev g_q8_l11:GC:=(.seq (.seq (.reg g_q8_r2 [0,3,18]) (.cond (.tmp 18) .skip (.exit 0))) (.seq (.block 1 (.seq (.reg g_q8_r3 [0,3,4]) (.seq (.reg g_q8_r4 [0,3,4,5]) (.seq (.seq (.reg g_q8_r5 [0,3,4,5,51]) (.cond (.tmp 51) (.reg g_q8_r6 [0,3,5]) (.reg g_q8_r7 [0,3,5]))) (.seq (.reg g_q8_r8 [0,3,80]) (.cond (.tmp 80) (.seq (.reg g_q8_r9 [2]) .ret) .skip)))))) (.reg g_q8_r10 [0,3])))
abbrev g_q8_r12:GR:=(OP 0 2 (.mv (K (-1))) .done)
abbrev g_q8:GC:=(.seq (.reg g_q8_r0 [0]) (.seq (.seq (.reg g_q8_r1 [0,3]) (.block 0 (.loop g_q8_l11))) (.seq (.reg g_q8_r12 [2]) .ret)))
abbrev rs_q8:List RV:=[(.tmp 2)]
theorem gc_q8:compileF Tryz.prog Tryz.f95 T_q8=some (g_q8,rs_q8):=by kernel_rfl
theorem con_q8 (hv:vc Tryz.prog y g_q8 (retQ rs_q8 R) [(0,a0)] h):ConX y Tryz.prog 95 #[a0] h R:=con_of Tryz.func95 gc_q8 rfl (fun h=>absurd h (by decide)) hv
def T_q11:List (Nat×List Nat):=[(0,[0]),(1,[0,3]),(2,[0,3,11,12,13]),(3,[0,3,11,12,13,14]),(4,[0,3,4,5,11,12,13]),(5,[0,3,4,5,11,12,13,20]),(6,[0,3,5,11,12,13,55]),(7,[2]),(8,[0,3,5,6,11,12,13]),(9,[0,3,11,12,13,84]),(10,[2]),(11,[0,3,11,12,13]),(12,[0,3,11,12,13]),(13,[3,96]),(14,[2]),(15,[2])]
abbrev g_q11_r0:GR:=(OP 0 2 (.mv (K 0)) .done)
abbrev g_q11_r1:GR:=(OP 0 3 (.mv (K 0)) .done)
abbrev g_q11_r2:GR:=(O1 0 7 0 (OP 1 8 (.nilCheck (.tmp 7)) (O3 2 9 0 8 (O3 3 10 1 9 (O2 4 11 10 (OP 5 12 (.len (.tmp 11)) (OP 6 13 (.mv (K 0)) .done)))))))
abbrev g_q11_r3:GR:=(O5 0 14 .lss 13 12 .done)
abbrev g_q11_r4:GR:=(O1 0 15 13 (O4 1 16 5 11 13 (OP 2 17 (.load (some 5) (.tmp 16)) (OP 3 5 (.alloc 63 [(.int .i64 0),(.int .i64 0),(.int .i64 0),(.int .u64 0),(.int .i64 0)]) (O1 4 4 15 (OS 5 (.store 5 (.tmp 5) (.tmp 17)) .done))))))
abbrev g_q11_r5:GR:=(O3 0 18 1 5 (O2 1 19 18 (OP 2 20 (.bin .neq (.tmp 19) (K 1)) .done)))
abbrev g_q11_r6:GR:=(O1 0 21 3 (O1 1 22 0 (OP 2 23 (.nilCheck (.tmp 22)) (O3 3 24 0 23 (O3 4 25 2 24 (O2 5 26 25 (OP 6 27 (.len (.tmp 26)) (O5 7 28 .eql 21 27 (O1 8 29 28 (OG 9 30 29 false (.mv (.tmp 0)) (OG 10 31 29 false (.nilCheck (.tmp 30)) (OG 11 32 29 false (.fieldAddr 0 (.tmp 31)) (OG 12 33 29 false (.fieldAddr 2 (.tmp 32)) (OG 13 34 29 false (.load none (.tmp 33)) (OG 14 35 29 false (.mv (.tmp 3)) (OG 15 36 29 false (.indexAddr 2 (.tmp 34) (.tmp 35)) (OG 16 37 29 false (.fieldAddr 1 (.tmp 36)) (OG 17 38 29 false (.load none (.tmp 37)) (OG 18 39 29 false (.mv (.tmp 4)) (OG 19 40 29 false (.bin .neq (.tmp 38) (.tmp 39)) (OP 20 41 (.pick (.tmp 29) (.const (.bool true)) (.tmp 40)) (O1 21 42 41 (OG 22 43 42 false (.mv (.tmp 0)) (OG 23 44 42 false (.mv (.tmp 0)) (OG 24 45 42 false (.nilCheck (.tmp 44)) (OG 25 46 42 false (.fieldAddr 0 (.tmp 45)) (OG 26 47 42 false (.fieldAddr 2 (.tmp 46)) (OG 27 48 42 false (.load none (.tmp 47)) (OG 28 49 42 false (.mv (.tmp 3)) (OG 29 50 42 false (.indexAddr 2 (.tmp 48) (.tmp 49)) (OG 30 51 42 false (.fieldAddr 0 (.tmp 50)) (OG 31 52 42 false (.load none (.tmp 51)) (OG 32 53 42 false (.call 111 [(.tmp 43),(.tmp 52),(K 2)]) (OG 33 54 42 false (.not (.tmp 53)) (OP 34 55 (.pick (.tmp 42) (.const (.bool true)) (.tmp 54)) .done)))))))))))))))))))))))))))))))))))
abbrev g_q11_r7:GR:=(O1 0 56 3 (O1 1 2 56 .done))
abbrev g_q11_r8:GR:=(O1 0 57 0 (OP 1 58 (.nilCheck (.tmp 57)) (O3 2 59 0 58 (O3 3 60 1 59 (O6 4 61 60 (O1 5 62 0 (OP 6 63 (.nilCheck (.tmp 62)) (O3 7 64 0 63 (O3 8 65 2 64 (O6 9 66 65 (O1 10 67 3 (O4 11 68 2 66 67 (O3 12 69 0 68 (O6 13 70 69 (O4 14 71 5 61 70 (OW 15 72 (.load (some 5) (.tmp 71)) (OP 16 6 (.alloc 63 [(.int .i64 0),(.int .i64 0),(.int .i64 0),(.int .u64 0),(.int .i64 0)]) (OS 17 (.store 5 (.tmp 6) (.tmp 72)) .done))))))))))))))))))
abbrev g_q11_r9:GR:=(O3 0 73 2 6 (O2 1 74 73 (O3 2 75 2 5 (O2 3 76 75 (O5 4 77 .neq 74 76 (O1 5 78 77 (OG 6 79 78 false (.fieldAddr 3 (.tmp 6)) (OG 7 80 78 false (.load none (.tmp 79)) (OG 8 81 78 false (.fieldAddr 3 (.tmp 5)) (OG 9 82 78 false (.load none (.tmp 81)) (OG 10 83 78 false (.bin .neq (.tmp 80) (.tmp 82)) (OP 11 84 (.pick (.tmp 78) (.const (.bool true)) (.tmp 83)) .done))))))))))))
abbrev g_q11_r10:GR:=(O1 0 85 3 (O1 1 2 85 .done))
abbrev g_q11_r11:GR:=(O1 0 86 3 (OP 1 87 (.bin .add (.tmp 86) (K 1)) (O1 2 3 87 .done)))
abbrev g_q11_r12:GR:=(OP 0 88 (.bin .add (.tmp 13) (K 1)) (O1 1 13 88 .done))
abbrev g_q11_l13:GC:=(.seq (.reg g_q11_r3 [0,3,11,12,13,14]) (.seq (.cond (.tmp 14) .skip (.exit 0)) (.seq (.block 1 (.seq (.reg g_q11_r4 [0,3,4,5,11,12,13]) (.seq (.seq (.reg g_q11_r5 [0,3,4,5,11,12,13,20]) (.cond (.tmp 20) (.exit 1) .skip)) (.seq (.seq (.reg g_q11_r6 [0,3,5,11,12,13,55]) (.cond (.tmp 55) (.seq (.reg g_q11_r7 [2]) .ret) .skip)) (.seq (.seq (.reg g_q11_r8 [0,3,5,6,11,12,13]) (.seq (.reg g_q11_r9 [0,3,11,12,13,84]) (.cond (.tmp 84) (.seq (.reg g_q11_r10 [2]) .ret) .skip))) (.reg g_q11_r11 [0,3,11,12,13])))))) (.reg g_q11_r12 [0,3,11,12,13]))))
abbrev g_q11_r14:GR:=(O1 0 89 3 (O1 1 90 0 (OP 2 91 (.nilCheck (.tmp 90)) (O3 3 92 0 91 (O3 4 93 2 92 (O2 5 94 93 (OP 6 95 (.len (.tmp 94)) (O5 7 96 .lss 89 95 .done))))))))
abbrev g_q11_r15:GR:=(O1 0 97 3 (O1 1 2 97 .done))
abbrev g_q11_r16:GR:=(OP 0 2 (.mv (K (-1))) .done)
abbrev g_q11:GC:=(.seq (.reg g_q11_r0 [0]) (.seq (.reg g_q11_r1 [0,3]) (.seq (.seq (.reg g_q11_r2 [0,3,11,12,13]) (.block 0 (.loop g_q11_l13))) (.seq (.seq (.reg g_q11_r14 [3,96]) (.cond (.tmp 96) (.seq (.reg g_q11_r15 [2]) .ret) .skip)) (.seq (.reg g_q11_r16 [2]) .ret)))))
abbrev rs_q11:List RV:=[(.tmp 2)]
theorem gc_q11:compileF Tryz.prog Tryz.f96 T_q11=some (g_q11,rs_q11):=by kernel_rfl
theorem con_q11 (hv:vc Tryz.prog y g_q11 (retQ rs_q11 R) [(0,a0)] h):ConX y Tryz.prog 96 #[a0] h R:=con_of Tryz.func96 gc_q11 rfl (fun h=>absurd h (by decide)) hv
def T_q6:List (Nat×List Nat):=[(0,[0]),(1,[0,3]),(2,[0,3,21,22,23]),(3,[0,3,21,22,23,24]),(4,[0,3,5,21,22,23]),(5,[0,3,5,21,22,23,29]),(6,[0,3,21,22,23]),(7,[0,3,21,22,23]),(8,[0,3,6]),(9,[0,3,6,7]),(10,[0,3,6,7,8]),(11,[0,3,6,7,8,62,63,64]),(12,[0,3,6,7,8,62,63,64,65]),(13,[0,3,6,7,8,9,10,62,63,64]),(14,[0,3,6,7,8,9,10,11,62,63,64]),(15,[0,3,6,7,8,9,11,62,63,64,79,80,81]),(16,[0,3,6,7,8,9,11,62,63,64,79,80,81,82]),(17,[0,3,6,7,8,9,11,13,62,63,64,79,80,81]),(18,[0,3,6,7,8,9,11,13,62,63,64,79,80,81]),(19,[0,3,6,7,8,9,11,13,62,63,64,79,80,81,111]),(20,[0,3,6,7,8,9,11,62,63,64,79,80,81]),(21,[0,3,6,7,8,9,11,62,63,64,79,80,81]),(22,[0,3,6,7,8,9,11,62,63,64,79,80,81]),(23,[0,3,6,7,8,9,62,63,64,121]),(24,[0,3,6,7,8,62,63,64]),(25,[0,3,6,7,8,62,63,64]),(26,[0,7,8,127]),(27,[0,7,8,127,129]),(28,[0,7,8,14,15,127]),(29,[0,7,8,14,127,134]),(30,[0,7,8,127]),(31,[8,154]),(32,[2]),(33,[2])]
abbrev g_q6_r0:GR:=(OP 0 2 (.mv (K 0)) .done)
abbrev g_q6_r1:GR:=(OP 0 16 .makeMap (O1 1 3 16 .done))
abbrev g_q6_r2:GR:=(O1 0 17 0 (OP 1 18 (.nilCheck (.tmp 17)) (O3 2 19 0 18 (O3 3 20 1 19 (O2 4 21 20 (OP 5 22 (.len (.tmp 21)) (OP 6 23 (.mv (K 0)) .done)))))))
abbrev g_q6_r3:GR:=(O5 0 24 .lss 23 22 .done)
abbrev g_q6_r4:GR:=(O4 0 25 5 21 23 (OP 1 26 (.load (some 5) (.tmp 25)) (OP 2 5 (.alloc 63 [(.int .i64 0),(.int .i64 0),(.int .i64 0),(.int .u64 0),(.int .i64 0)]) (OS 3 (.store 5 (.tmp 5) (.tmp 26)) .done))))
abbrev g_q6_r5:GR:=(O3 0 27 1 5 (O2 1 28 27 (OP 2 29 (.bin .eql (.tmp 28) (K 2)) .done)))
abbrev g_q6_r6:GR:=(O1 0 30 3 (O3 1 31 2 5 (O2 2 32 31 (OP 3 33 (.lookup false (.int .i64 0) (.tmp 30) (.tmp 32)) (OP 4 34 (.bin .add (.tmp 33) (K 1)) (OS 5 (.mapSet (.tmp 30) (.tmp 32) (.tmp 34)) .done))))))
abbrev g_q6_r7:GR:=(OP 0 35 (.bin .add (.tmp 23) (K 1)) (O1 1 23 35 .done))
abbrev g_q6_l8:GC:=(.seq (.reg g_q6_r3 [0,3,21,22,23,24]) (.seq (.cond (.tmp 24) .skip (.exit 0)) (.seq (.block 1 (.seq (.reg g_q6_r4 [0,3,5,21,22,23]) (.seq (.reg g_q6_r5 [0,3,5,21,22,23,29]) (.cond (.tmp 29) (.reg g_q6_r6 [0,3,21,22,23]) .skip)))) (.reg g_q6_r7 [0,3,21,22,23]))))
abbrev g_q6_r9:GR:=(O1 0 36 0 (OP 1 37 (.nilCheck (.tmp 36)) (O3 2 38 0 37 (O3 3 39 1 38 (O2 4 40 39 (OP 5 41 (.len (.tmp 40)) (OP 6 42 (.makeSlice 4 1 1 [(.bool false)] (.tmp 41) (.tmp 41)) (O1 7 6 42 .done))))))))
abbrev g_q6_r10:GR:=(O1 0 43 0 (OP 1 44 (.nilCheck (.tmp 43)) (O3 2 45 0 44 (O3 3 46 3 45 (O6 4 47 46 (OP 5 48 (.len (.tmp 47)) (O1 6 49 0 (OP 7 50 (.nilCheck (.tmp 49)) (O3 8 51 0 50 (O3 9 52 0 51 (O6 10 53 52 (OP 11 54 (.mini (.tmp 48) (.tmp 53)) (O1 12 7 54 .done)))))))))))))
abbrev g_q6_r11:GR:=(O1 0 55 7 (O1 1 8 55 .done))
abbrev g_q6_r12:GR:=(O1 0 56 0 (OP 1 57 (.nilCheck (.tmp 56)) (O3 2 58 0 57 (O3 3 59 3 58 (O2 4 60 59 (O1 5 61 7 (OP 6 62 (.slice 1 (.tmp 60) none (some (.tmp 61))) (OP 7 63 (.len (.tmp 62)) (OP 8 64 (.mv (K 0)) .done)))))))))
abbrev g_q6_r13:GR:=(O5 0 65 .lss 64 63 .done)
abbrev g_q6_r14:GR:=(O1 0 66 64 (O4 1 67 1 62 64 (O2 2 68 67 (O1 3 9 66 (O1 4 10 68 .done)))))
abbrev g_q6_r15:GR:=(O1 0 69 10 (OP 1 70 (.len (.tmp 69)) (OP 2 71 (.bin .gtr (.tmp 70) (K 0)) (O1 3 72 71 (OG 4 73 72 true (.mv (.tmp 10)) (OG 5 74 72 true (.indexAddr 1 (.tmp 73) (K 0)) (OG 6 75 72 true (.load none (.tmp 74)) (OG 7 76 72 true (.mv (.tmp 9)) (OG 8 77 72 true (.bin .eql (.tmp 75) (.tmp 76)) (OP 9 78 (.pick (.tmp 72) (.tmp 77) (.const (.bool false))) (O1 10 11 78 .done)))))))))))
abbrev g_q6_r16:GR:=(O1 0 79 10 (OP 1 80 (.len (.tmp 79)) (OP 2 81 (.mv (K 0)) .done)))
abbrev g_q6_r17:GR:=(O5 0 82 .lss 81 80 .done)
abbrev g_q6_r18:GR:=(O4 0 83 1 79 81 (O2 1 84 83 (O1 2 13 84 .done)))
abbrev g_q6_r19:GR:=(O1 0 85 11 (O1 1 86 85 (OG 2 87 86 true (.mv (.tmp 0)) (OG 3 88 86 true (.mv (.tmp 13)) (OG 4 89 86 true (.call 111 [(.tmp 87),(.tmp 88),(K 2)]) (OP 5 90 (.pick (.tmp 86) (.tmp 89) (.const (.bool false))) (O1 6 91 90 (OG 7 92 91 true (.mv (.tmp 0)) (OG 8 93 91 true (.nilCheck (.tmp 92)) (OG 9 94 91 true (.fieldAddr 0 (.tmp 93)) (OG 10 95 91 true (.fieldAddr 1 (.tmp 94)) (OG 11 96 91 true (.load none (.tmp 95)) (OG 12 97 91 true (.mv (.tmp 13)) (OG 13 98 91 true (.indexAddr 5 (.tmp 96) (.tmp 97)) (OG 14 99 91 true (.fieldAddr 2 (.tmp 98)) (OG 15 100 91 true (.load none (.tmp 99)) (OG 16 101 91 true (.mv (.tmp 9)) (OG 17 102 91 true (.bin .eql (.tmp 100) (.tmp 101)) (OP 18 103 (.pick (.tmp 91) (.tmp 102) (.const (.bool false))) (O1 19 104 103 (OG 20 105 104 true (.mv (.tmp 6)) (OG 21 106 104 true (.mv (.tmp 13)) (OG 22 107 104 true (.indexAddr 1 (.tmp 105) (.tmp 106)) (OG 23 108 104 true (.load none (.tmp 107)) (OG 24 109 104 true (.not (.tmp 108)) (OP 25 110 (.pick (.tmp 104) (.tmp 109) (.const (.bool false))) (O1 26 11 110 .done)))))))))))))))))))))))))))
abbrev g_q6_r20:GR:=(O1 0 111 11 .done)
abbrev g_q6_r21:GR:=(O1 0 112 6 (O1 1 113 13 (O4 2 114 1 112 113 (OS 3 (.store 1 (.tmp 114) (.const (.bool true))) .done))))
abbrev g_q6_r22:GR:=(O1 0 115 3 (O1 1 116 9 (OP 2 117 (.lookup false (.int .i64 0) (.tmp 115) (.tmp 116)) (OP 3 118 (.bin .sub (.tmp 117) (K 1)) (OS 4 (.mapSet (.tmp 115) (.tmp 116) (.tmp 118)) .done)))))
abbrev g_q6_r23:GR:=(OP 0 119 (.bin .add (.tmp 81) (K 1)) (O1 1 81 119 .done))
abbrev g_q6_l24:GC:=(.seq (.reg g_q6_r17 [0,3,6,7,8,9,11,62,63,64,79,80,81,82]) (.seq (.cond (.tmp 82) .skip (.exit 4)) (.seq (.block 5 (.seq (.reg g_q6_r18 [0,3,6,7,8,9,11,13,62,63,64,79,80,81]) (.seq (.reg g_q6_r19 [0,3,6,7,8,9,11,13,62,63,64,79,80,81]) (.seq (.reg g_q6_r20 [0,3,6,7,8,9,11,13,62,63,64,79,80,81,111]) (.cond (.tmp 111) (.seq (.reg g_q6_r21 [0,3,6,7,8,9,11,62,63,64,79,80,81]) (.reg g_q6_r22 [0,3,6,7,8,9,11,62,63,64,79,80,81])) .skip))))) (.reg g_q6_r23 [0,3,6,7,8,9,11,62,63,64,79,80,81]))))
abbrev g_q6_r25:GR:=(O1 0 120 11 (OP 1 121 (.not (.tmp 120)) .done))
abbrev g_q6_r26:GR:=(O1 0 122 8 (O1 1 123 9 (OP 2 124 (.mini (.tmp 122) (.tmp 123)) (O1 3 8 124 .done))))
abbrev g_q6_r27:GR:=(OP 0 125 (.bin .add (.tmp 64) (K 1)) (O1 1 64 125 .done))
abbrev g_q6_l28:GC:=(.seq (.reg g_q6_r13 [0,3,6,7,8,62,63,64,65]) (.seq (.cond (.tmp 65) .skip (.exit 2)) (.seq (.block 3 (.seq (.reg g_q6_r14 [0,3,6,7,8,9,10,62,63,64]) (.seq (.reg g_q6_r15 [0,3,6,7,8,9,10,11,62,63,64]) (.seq (.seq (.reg g_q6_r16 [0,3,6,7,8,9,11,62,63,64,79,80,81]) (.block 4 (.loop g_q6_l24))) (.seq (.reg g_q6_r25 [0,3,6,7,8,9,62,63,64,121]) (.cond (.tmp 121) (.reg g_q6_r26 [0,3,6,7,8,62,63,64]) .skip)))))) (.reg g_q6_r27 [0,3,6,7,8,62,63,64]))))
abbrev g_q6_r29:GR:=(O1 0 126 3 (OP 1 127 (.mrange (.tmp 126)) .done))
abbrev g_q6_r30:GR:=(OP 0 128 (.mnext (.tmp 127)) (OP 1 129 (.extract 0 (.tmp 128)) .done))
abbrev g_q6_r31:GR:=(OP 0 130 (.mentry (.tmp 127)) (OP 1 131 (.extract 0 (.tmp 130)) (OP 2 132 (.extract 1 (.tmp 130)) (O1 3 14 131 (O1 4 15 132 .done)))))
abbrev g_q6_r32:GR:=(O1 0 133 15 (OP 1 134 (.bin .gtr (.tmp 133) (K 0)) .done))
abbrev g_q6_r33:GR:=(O1 0 135 8 (O1 1 136 14 (OP 2 137 (.mini (.tmp 135) (.tmp 136)) (O1 3 8 137 .done))))
abbrev g_q6_l34:GC:=(.seq (.reg g_q6_r30 [0,7,8,127,129]) (.seq (.cond (.tmp 129) .skip (.exit 6)) (.block 7 (.seq (.reg g_q6_r31 [0,7,8,14,15,127]) (.seq (.reg g_q6_r32 [0,7,8,14,127,134]) (.cond (.tmp 134) (.reg g_q6_r33 [0,7,8,127]) .skip))))))
abbrev g_q6_r35:GR:=(O1 0 138 8 (O1 1 139 7 (O5 2 140 .lss 138 139 (O1 3 141 140 (OG 4 142 141 false (.mv (.tmp 0)) (OG 5 143 141 false (.nilCheck (.tmp 142)) (OG 6 144 141 false (.fieldAddr 0 (.tmp 143)) (OG 7 145 141 false (.fieldAddr 3 (.tmp 144)) (.op (GI.mk 8 (some 146) (some (141,false)) (.load none (.tmp 145)) [] true) (OG 9 147 141 false (.len (.tmp 146)) (OG 10 148 141 false (.mv (.tmp 0)) (OG 11 149 141 false (.nilCheck (.tmp 148)) (OG 12 150 141 false (.fieldAddr 0 (.tmp 149)) (OG 13 151 141 false (.fieldAddr 0 (.tmp 150)) (.op (GI.mk 14 (some 152) (some (141,false)) (.load none (.tmp 151)) [] true) (OG 15 153 141 false (.bin .neq (.tmp 147) (.tmp 152)) (OP 16 154 (.pick (.tmp 141) (.const (.bool true)) (.tmp 153)) .done)))))))))))))))))
abbrev g_q6_r36:GR:=(O1 0 155 8 (O1 1 2 155 .done))
abbrev g_q6_r37:GR:=(OP 0 2 (.mv (K (-1))) .done)
abbrev g_q6:GC:=(.seq (.reg g_q6_r0 [0]) (.seq (.reg g_q6_r1 [0,3]) (.seq (.seq (.reg g_q6_r2 [0,3,21,22,23]) (.block 0 (.loop g_q6_l8))) (.seq (.reg g_q6_r9 [0,3,6]) (.seq (.reg g_q6_r10 [0,3,6,7]) (.seq (.reg g_q6_r11 [0,3,6,7,8]) (.seq (.seq (.reg g_q6_r12 [0,3,6,7,8,62,63,64]) (.block 2 (.loop g_q6_l28))) (.seq (.seq (.reg g_q6_r29 [0,7,8,127]) (.block 6 (.loop g_q6_l34))) (.seq (.seq (.reg g_q6_r35 [8,154]) (.cond (.tmp 154) (.seq (.reg g_q6_r36 [2]) .ret) .skip)) (.seq (.reg g_q6_r37 [2]) .ret))))))))))
abbrev rs_q6:List RV:=[(.tmp 2)]
theorem gc_q6:compileF Tryz.prog Tryz.f97 T_q6=some (g_q6,rs_q6):=by kernel_rfl
theorem con_q6 (hv:vc Tryz.prog y g_q6 (retQ rs_q6 R) [(0,a0)] h):ConX y Tryz.prog 97 #[a0] h R:=con_of Tryz.func97 gc_q6 rfl (fun h=>absurd h (by decide)) hv
def T_q12:List (Nat×List Nat):=[(0,[0]),(1,[0,9,10,11]),(2,[0,9,10,11,12]),(3,[0,3,4,9,10,11]),(4,[0,3,9,10,11,82]),(5,[2]),(6,[0,9,10,11]),(7,[2])]
abbrev g_q12_r0:GR:=(OP 0 2 (.mv (K 0)) .done)
abbrev g_q12_r1:GR:=(O1 0 5 0 (OP 1 6 (.nilCheck (.tmp 5)) (O3 2 7 0 6 (O3 3 8 4 7 (O2 4 9 8 (OP 5 10 (.len (.tmp 9)) (OP 6 11 (.mv (K 0)) .done)))))))
abbrev g_q12_r2:GR:=(O5 0 12 .lss 11 10 .done)
abbrev g_q12_r3:GR:=(O1 0 13 11 (O4 1 14 2 9 11 (OP 2 15 (.load (some 2) (.tmp 14)) (OP 3 4 (.alloc 76 [(.int .i64 0),(.int .i64 0)]) (O1 4 3 13 (OS 5 (.store 2 (.tmp 4) (.tmp 15)) .done))))))
abbrev g_q12_r4:GR:=(O1 0 16 3 (OP 1 17 (.bin .gtr (.tmp 16) (K 0)) (O1 2 18 17 (OG 3 19 18 true (.fieldAddr 0 (.tmp 4)) (.op (GI.mk 4 (some 20) (some (18,true)) (.load none (.tmp 19)) [] true) (OG 5 21 18 true (.mv (.tmp 0)) (OG 6 22 18 true (.nilCheck (.tmp 21)) (OG 7 23 18 true (.fieldAddr 0 (.tmp 22)) (OG 8 24 18 true (.fieldAddr 4 (.tmp 23)) (.op (GI.mk 9 (some 25) (some (18,true)) (.load none (.tmp 24)) [] true) (OG 10 26 18 true (.mv (.tmp 3)) (OG 11 27 18 true (.bin .sub (.tmp 26) (K 1)) (OG 12 28 18 true (.indexAddr 2 (.tmp 25) (.tmp 27)) (OG 13 29 18 true (.fieldAddr 0 (.tmp 28)) (.op (GI.mk 14 (some 30) (some (18,true)) (.load none (.tmp 29)) [] true) (OG 15 31 18 true (.bin .leq (.tmp 20) (.tmp 30)) (OP 16 32 (.pick (.tmp 18) (.tmp 31) (.const (.bool false))) (O1 17 33 32 (OG 18 34 33 false (.mv (.tmp 0)) (OG 19 35 33 false (.fieldAddr 0 (.tmp 4)) (.op (GI.mk 20 (some 36) (some (33,false)) (.load none (.tmp 35)) [] true) (.op (GI.mk 21 (some 37) (some (33,false)) (.call 111 [(.tmp 34),(.tmp 36),(K 1)]) [4,9,14] false) (OG 22 38 33 false (.not (.tmp 37)) (OP 23 39 (.pick (.tmp 33) (.const (.bool true)) (.tmp 38)) (O1 24 40 39 (OG 25 41 40 false (.mv (.tmp 0)) (OG 26 42 40 false (.fieldAddr 1 (.tmp 4)) (.op (GI.mk 27 (some 43) (some (40,false)) (.load none (.tmp 42)) [] true) (.op (GI.mk 28 (some 44) (some (40,false)) (.call 111 [(.tmp 41),(.tmp 43),(K 2)]) [4,9,14,20] false) (OG 29 45 40 false (.not (.tmp 44)) (OP 30 46 (.pick (.tmp 40) (.const (.bool true)) (.tmp 45)) (O1 31 47 46 (OG 32 48 47 false (.mv (.tmp 0)) (OG 33 49 47 false (.nilCheck (.tmp 48)) (OG 34 50 47 false (.fieldAddr 9 (.tmp 49)) (.op (GI.mk 35 (some 51) (some (47,false)) (.load none (.tmp 50)) [] true) (OG 36 52 47 false (.fieldAddr 0 (.tmp 4)) (.op (GI.mk 37 (some 53) (some (47,false)) (.load none (.tmp 52)) [] true) (OG 38 54 47 false (.indexAddr 1 (.tmp 51) (.tmp 53)) (.op (GI.mk 39 (some 55) (some (47,false)) (.load none (.tmp 54)) [] true) (OG 40 56 47 false (.fieldAddr 1 (.tmp 4)) (.op (GI.mk 41 (some 57) (some (47,false)) (.load none (.tmp 56)) [] true) (OG 42 58 47 false (.bin .neq (.tmp 55) (.tmp 57)) (OP 43 59 (.pick (.tmp 47) (.const (.bool true)) (.tmp 58)) (O1 44 60 59 (OG 45 61 60 false (.mv (.tmp 0)) (OG 46 62 60 false (.nilCheck (.tmp 61)) (OG 47 63 60 false (.fieldAddr 0 (.tmp 62)) (OG 48 64 60 false (.fieldAddr 1 (.tmp 63)) (.op (GI.mk 49 (some 65) (some (60,false)) (.load none (.tmp 64)) [] true) (OG 50 66 60 false (.fieldAddr 0 (.tmp 4)) (.op (GI.mk 51 (some 67) (some (60,false)) (.load none (.tmp 66)) [] true) (OG 52 68 60 false (.indexAddr 5 (.tmp 65) (.tmp 67)) (OG 53 69 60 false (.fieldAddr 2 (.tmp 68)) (.op (GI.mk 54 (some 70) (some (60,false)) (.load none (.tmp 69)) [] true) (OG 55 71 60 false (.mv (.tmp 0)) (OG 56 72 60 false (.nilCheck (.tmp 71)) (OG 57 73 60 false (.fieldAddr 0 (.tmp 72)) (OG 58 74 60 false (.fieldAddr 1 (.tmp 73)) (.op (GI.mk 59 (some 75) (some (60,false)) (.load none (.tmp 74)) [] true) (OG 60 76 60 false (.fieldAddr 1 (.tmp 4)) (.op (GI.mk 61 (some 77) (some (60,false)) (.load none (.tmp 76)) [] true) (OG 62 78 60 false (.indexAddr 5 (.tmp 75) (.tmp 77)) (OG 63 79 60 false (.fieldAddr 2 (.tmp 78)) (.op (GI.mk 64 (some 80) (some (60,false)) (.load none (.tmp 79)) [] true) (OG 65 81 60 false (.bin .neq (.tmp 70) (.tmp 80)) (OP 66 82 (.pick (.tmp 60) (.const (.bool true)) (.tmp 81)) .done)))))))))))))))))))))))))))))))))))))))))))))))))))))))))))))))))))
abbrev g_q12_r5:GR:=(O1 0 83 3 (O1 1 2 83 .done))
abbrev g_q12_r6:GR:=(OP 0 84 (.bin .add (.tmp 11) (K 1)) (O1 1 11 84 .done))
abbrev g_q12_l7:GC:=(.seq (.reg g_q12_r2 [0,9,10,11,12]) (.seq (.cond (.tmp 12) .skip (.exit 0)) (.seq (.block 1 (.seq (.reg g_q12_r3 [0,3,4,9,10,11]) (.seq (.reg g_q12_r4 [0,3,9,10,11,82]) (.cond (.tmp 82) (.seq (.reg g_q12_r5 [2]) .ret) .skip)))) (.reg g_q12_r6 [0,9,10,11]))))
abbrev g_q12_r8:GR:=(OP 0 2 (.mv (K (-1))) .done)
abbrev g_q12:GC:=(.seq (.reg g_q12_r0 [0]) (.seq (.seq (.reg g_q12_r1 [0,9,10,11]) (.block 0 (.loop g_q12_l7))) (.seq (.reg g_q12_r8 [2]) .ret)))
abbrev rs_q12:List RV:=[(.tmp 2)]
theorem gc_q12:compileF Tryz.prog Tryz.f98 T_q12=some (g_q12,rs_q12):=by kernel_rfl
theorem con_q12 (hv:vc Tryz.prog y g_q12 (retQ rs_q12 R) [(0,a0)] h):ConX y Tryz.prog 98 #[a0] h R:=con_of Tryz.func98 gc_q12 rfl (fun h=>absurd h (by decide)) hv
def T_q7:List (Nat×List Nat):=[(0,[0,1,2]),(1,[0,1,2,9,10,11]),(2,[0,1,2,9,10,11,12]),(3,[0,1,2,7,8,9,10,11]),(4,[0,1,2,7,9,10,11,88]),(5,[6]),(6,[0,1,2,9,10,11]),(7,[6])]
abbrev g_q7_r0:GR:=(OP 0 6 (.mv (K 0)) .done)
abbrev g_q7_r1:GR:=(O1 0 9 1 (OP 1 10 (.len (.tmp 9)) (OP 2 11 (.mv (K 0)) .done)))
abbrev g_q7_r2:GR:=(O5 0 12 .lss 11 10 .done)
abbrev g_q7_r3:GR:=(O1 0 13 11 (O4 1 14 2 9 11 (OP 2 15 (.load (some 2) (.tmp 14)) (OP 3 8 (.alloc 76 [(.int .i64 0),(.int .i64 0)]) (O1 4 7 13 (OS 5 (.store 2 (.tmp 8) (.tmp 15)) .done))))))
abbrev g_q7_r4:GR:=(O1 0 16 7 (OP 1 17 (.bin .gtr (.tmp 16) (K 0)) (O1 2 18 17 (OG 3 19 18 true (.fieldAddr 0 (.tmp 8)) (.op (GI.mk 4 (some 20) (some (18,true)) (.load none (.tmp 19)) [] true) (OG 5 21 18 true (.mv (.tmp 1)) (OG 6 22 18 true (.mv (.tmp 7)) (OG 7 23 18 true (.bin .sub (.tmp 22) (K 1)) (OG 8 24 18 true (.indexAddr 2 (.tmp 21) (.tmp 23)) (OG 9 25 18 true (.fieldAddr 0 (.tmp 24)) (.op (GI.mk 10 (some 26) (some (18,true)) (.load none (.tmp 25)) [] true) (OG 11 27 18 true (.bin .lss (.tmp 20) (.tmp 26)) (OG 12 28 18 true (.mv (.tmp 27)) (OG 13 29 28 false (.fieldAddr 0 (.tmp 8)) (.op (GI.mk 14 (some 30) (some (28,false)) (.load none (.tmp 29)) [] true) (OG 15 31 28 false (.mv (.tmp 1)) (OG 16 32 28 false (.mv (.tmp 7)) (OG 17 33 28 false (.bin .sub (.tmp 32) (K 1)) (OG 18 34 28 false (.indexAddr 2 (.tmp 31) (.tmp 33)) (OG 19 35 28 false (.fieldAddr 0 (.tmp 34)) (.op (GI.mk 20 (some 36) (some (28,false)) (.load none (.tmp 35)) [] true) (OG 21 37 28 false (.bin .eql (.tmp 30) (.tmp 36)) (OG 22 38 28 false (.mv (.tmp 37)) (OG 23 39 38 true (.fieldAddr 1 (.tmp 8)) (.op (GI.mk 24 (some 40) (some (38,true)) (.load none (.tmp 39)) [] true) (OG 25 41 38 true (.mv (.tmp 1)) (OG 26 42 38 true (.mv (.tmp 7)) (OG 27 43 38 true (.bin .sub (.tmp 42) (K 1)) (OG 28 44 38 true (.indexAddr 2 (.tmp 41) (.tmp 43)) (OG 29 45 38 true (.fieldAddr 1 (.tmp 44)) (.op (GI.mk 30 (some 46) (some (38,true)) (.load none (.tmp 45)) [] true) (OG 31 47 38 true (.bin .leq (.tmp 40) (.tmp 46)) (OG 32 48 28 false (.pick (.tmp 38) (.tmp 47) (.const (.bool false))) (OG 33 49 18 true (.pick (.tmp 28) (.const (.bool true)) (.tmp 48)) (OP 34 50 (.pick (.tmp 18) (.tmp 49) (.const (.bool false))) (O1 35 51 50 (OG 36 52 51 false (.mv (.tmp 0)) (OG 37 53 51 false (.nilCheck (.tmp 52)) (OG 38 54 51 false (.fieldAddr 8 (.tmp 53)) (.op (GI.mk 39 (some 55) (some (51,false)) (.load none (.tmp 54)) [] true) (OG 40 56 51 false (.not (.tmp 55)) (OP 41 57 (.pick (.tmp 51) (.const (.bool true)) (.tmp 56)) (O1 42 58 57 (OG 43 59 58 false (.mv (.tmp 0)) (OG 44 60 58 false (.fieldAddr 0 (.tmp 8)) (.op (GI.mk 45 (some 61) (some (58,false)) (.load none (.tmp 60)) [] true) (.op (GI.mk 46 (some 62) (some (58,false)) (.call 111 [(.tmp 59),(.tmp 61),(K 1)]) [4,10,14,20,24,30,39] false) (OG 47 63 58 false (.not (.tmp 62)) (OP 48 64 (.pick (.tmp 58) (.const (.bool true)) (.tmp 63)) (O1 49 65 64 (OG 50 66 65 false (.mv (.tmp 0)) (OG 51 67 65 false (.fieldAddr 0 (.tmp 8)) (.op (GI.mk 52 (some 68) (some (65,false)) (.load none (.tmp 67)) [] true) (OG 53 69 65 false (.fieldAddr 1 (.tmp 8)) (.op (GI.mk 54 (some 70) (some (65,false)) (.load none (.tmp 69)) [] true) (.op (GI.mk 55 (some 71) (some (65,false)) (.call 112 [(.tmp 66),(.tmp 68),(.tmp 70)]) [4,10,14,20,24,30,39,45] false) (OG 56 72 65 false (.not (.tmp 71)) (OP 57 73 (.pick (.tmp 65) (.const (.bool true)) (.tmp 72)) (O1 58 74 73 (OG 59 75 74 false (.mv (.tmp 2)) (OG 60 76 74 false (.mv (.tmp 0)) (OG 61 77 74 false (.nilCheck (.tmp 76)) (OG 62 78 74 false (.fieldAddr 0 (.tmp 77)) (OG 63 79 74 false (.fieldAddr 1 (.tmp 78)) (.op (GI.mk 64 (some 80) (some (74,false)) (.load none (.tmp 79)) [] true) (OG 65 81 74 false (.fieldAddr 1 (.tmp 8)) (.op (GI.mk 66 (some 82) (some (74,false)) (.load none (.tmp 81)) [] true) (OG 67 83 74 false (.indexAddr 5 (.tmp 80) (.tmp 82)) (OG 68 84 74 false (.fieldAddr 1 (.tmp 83)) (.op (GI.mk 69 (some 85) (some (74,false)) (.load none (.tmp 84)) [] true) (.op (GI.mk 70 (some 86) (some (74,false)) (.call 90 [(.tmp 75),(.tmp 85)]) [4,10,14,20,24,30,39,45,52,54,64,66] false) (OG 71 87 74 false (.not (.tmp 86)) (OP 72 88 (.pick (.tmp 74) (.const (.bool true)) (.tmp 87)) .done)))))))))))))))))))))))))))))))))))))))))))))))))))))))))))))))))))))))))
abbrev g_q7_r5:GR:=(O1 0 89 7 (O1 1 6 89 .done))
abbrev g_q7_r6:GR:=(OP 0 90 (.bin .add (.tmp 11) (K 1)) (O1 1 11 90 .done))
abbrev g_q7_l7:GC:=(.seq (.reg g_q7_r2 [0,1,2,9,10,11,12]) (.seq (.cond (.tmp 12) .skip (.exit 0)) (.seq (.block 1 (.seq (.reg g_q7_r3 [0,1,2,7,8,9,10,11]) (.seq (.reg g_q7_r4 [0,1,2,7,9,10,11,88]) (.cond (.tmp 88) (.seq (.reg g_q7_r5 [6]) .ret) .skip)))) (.reg g_q7_r6 [0,1,2,9,10,11]))))
abbrev g_q7_r8:GR:=(OP 0 6 (.mv (K (-1))) .done)
abbrev g_q7:GC:=(.seq (.reg g_q7_r0 [0,1,2]) (.seq (.seq (.reg g_q7_r1 [0,1,2,9,10,11]) (.block 0 (.loop g_q7_l7))) (.seq (.reg g_q7_r8 [6]) .ret)))
abbrev rs_q7:List RV:=[(.tmp 6)]
theorem gc_q7:compileF Tryz.prog Tryz.f99 T_q7=some (g_q7,rs_q7):=by kernel_rfl
theorem con_q7 (hv:vc Tryz.prog y g_q7 (retQ rs_q7 R) [(0,a0),(1,a1),(2,a2)] h):ConX y Tryz.prog 99 #[a0,a1,a2] h R:=con_of Tryz.func99 gc_q7 rfl (fun h=>absurd h (by decide)) hv
def T_q86:List (Nat×List Nat):=[(0,[0,5,6,7]),(1,[0,5,6,7,8]),(2,[0,3,4,5,6,7]),(3,[0,3,4,5,6,7,13]),(4,[0,3,4,5,6,7]),(5,[0,3,4,5,6,7,25]),(6,[0,5,6,7])]
abbrev g_q86_r0:GR:=(O2 0 5 1 (OP 1 6 (.len (.tmp 5)) (OP 2 7 (.mv (K 0)) .done)))
abbrev g_q86_r1:GR:=(O5 0 8 .lss 7 6 .done)
abbrev g_q86_r2:GR:=(O1 0 9 7 (O4 1 10 1 5 7 (O2 2 11 10 (O1 3 3 9 (O1 4 4 11 .done)))))
abbrev g_q86_r3:GR:=(O1 0 12 4 (OP 1 13 (.bin .neq (.tmp 12) (.const (.int .u64 0))) .done))
abbrev g_q86_r4:GR:=(O1 0 18 0 (O1 1 19 3 (OP 2 20 (.bin .mul (K 64) (.tmp 19)) (O1 3 21 4 (OP 4 22 (.call 101 [(.tmp 21)]) (O5 5 23 .add 20 22 (OP 6 24 (.callv (.tmp 18) [(.tmp 23)]) (OP 7 25 (.not (.tmp 24)) .done))))))))
abbrev g_q86_r5:GR:=(O1 0 14 4 (O1 1 15 4 (OP 2 16 (.bin .sub (.tmp 15) (.const (.int .u64 1))) (O5 3 17 .and 14 16 (O1 4 4 17 .done)))))
abbrev g_q86_l6:GC:=(.seq (.seq (.reg g_q86_r3 [0,3,4,5,6,7,13]) (.cond (.tmp 13) .skip (.exit 2))) (.seq (.block 3 (.seq (.reg g_q86_r4 [0,3,4,5,6,7,25]) (.cond (.tmp 25) .ret .skip))) (.reg g_q86_r5 [0,3,4,5,6,7])))
abbrev g_q86_r7:GR:=(OP 0 26 (.bin .add (.tmp 7) (K 1)) (O1 1 7 26 .done))
abbrev g_q86_l8:GC:=(.seq (.reg g_q86_r1 [0,5,6,7,8]) (.seq (.cond (.tmp 8) .skip (.exit 0)) (.seq (.block 1 (.seq (.reg g_q86_r2 [0,3,4,5,6,7]) (.block 2 (.loop g_q86_l6)))) (.reg g_q86_r7 [0,5,6,7]))))
abbrev g_q86:GC:=(.seq (.reg g_q86_r0 [0,5,6,7]) (.block 0 (.loop g_q86_l8)))
abbrev rs_q86:List RV:=[]
theorem gc_q86:compileF Tryz.prog Tryz.f100 T_q86=some (g_q86,rs_q86):=by kernel_rfl
theorem con_q86 (hv:vc Tryz.prog y g_q86 (retQ rs_q86 R) [(0,a0),(1,a1)] h):ConX y Tryz.prog 100 #[a0,a1] h R:=con_of Tryz.func100 gc_q86 rfl (fun h=>absurd h (by decide)) hv
def T_q23:List (Nat×List Nat):=[(0,[0]),(1,[0,4]),(2,[2]),(3,[2])]
abbrev g_q23_r0:GR:=(OP 0 2 (.mv (K 0)) .done)
abbrev g_q23_r1:GR:=(O1 0 3 0 (OP 1 4 (.bin .eql (.tmp 3) (.const (.int .u64 0))) .done))
abbrev g_q23_r2:GR:=(OP 0 2 (.mv (K 64)) .done)
abbrev g_q23_r3:GR:=(O1 0 5 0 (O1 1 6 0 (OP 2 7 (.neg (.tmp 6)) (O5 3 8 .and 5 7 (OP 4 9 (.bin .mul (.tmp 8) (.const (.int .u64 285870213051353865))) (OP 5 10 (.shift .shr (.tmp 9) (.const (.int .u64 58))) (OP 6 11 (.indexArr 1 64 (.global 0) (.tmp 10)) (O2 7 12 11 (OP 8 13 (.conv .i64 (.tmp 12)) (O1 9 2 13 .done))))))))))
abbrev g_q23:GC:=(.seq (.reg g_q23_r0 [0]) (.seq (.seq (.reg g_q23_r1 [0,4]) (.cond (.tmp 4) (.seq (.reg g_q23_r2 [2]) .ret) .skip)) (.seq (.reg g_q23_r3 [2]) .ret)))
abbrev rs_q23:List RV:=[(.tmp 2)]
theorem gc_q23:compileF Tryz.prog Tryz.f101 T_q23=some (g_q23,rs_q23):=by kernel_rfl
theorem con_q23 (hv:vc Tryz.prog y g_q23 (retQ rs_q23 R) [(0,a0)] h):ConX y Tryz.prog 101 #[a0] h R:=con_of Tryz.func101 gc_q23 rfl (fun h=>absurd h (by decide)) hv
def T_q75:List (Nat×List Nat):=[(0,[0]),(1,[2])]
abbrev g_q75_r0:GR:=(OP 0 2 (.mv (.const (.pointer none))) .done)
abbrev g_q75_r1:GR:=(O1 0 3 0 (OP 1 4 (.call 87 [(.tmp 3),(K 0)]) (O1 2 2 4 .done)))
abbrev g_q75:GC:=(.seq (.reg g_q75_r0 [0]) (.seq (.reg g_q75_r1 [2]) .ret))
abbrev rs_q75:List RV:=[(.tmp 2)]
theorem gc_q75:compileF Tryz.prog Tryz.f102 T_q75=some (g_q75,rs_q75):=by kernel_rfl
theorem con_q75 (hv:vc Tryz.prog y g_q75 (retQ rs_q75 R) [(0,a0)] h):ConX y Tryz.prog 102 #[a0] h R:=con_of Tryz.func102 gc_q75 rfl (fun h=>absurd h (by decide)) hv
def T_q61:List (Nat×List Nat):=[(0,[0,1,2]),(1,[0,1,7]),(2,[6]),(3,[6])]
abbrev g_q61_r0:GR:=(OP 0 6 (.mv (.const (.bool false))) .done)
abbrev g_q61_r1:GR:=(O1 0 7 2 .done)
abbrev g_q61_r2:GR:=(O1 0 8 0 (OP 1 9 (.bin .eql (.tmp 8) (K 1)) (O1 2 10 9 (OG 3 11 10 true (.mv (.tmp 1)) (OG 4 12 10 true (.bin .eql (.tmp 11) (K 11)) (OG 5 13 10 true (.mv (.tmp 12)) (OG 6 14 13 false (.mv (.tmp 1)) (OG 7 15 13 false (.bin .eql (.tmp 14) (K 12)) (OG 8 16 10 true (.pick (.tmp 13) (.const (.bool true)) (.tmp 15)) (OG 9 17 10 true (.mv (.tmp 16)) (OG 10 18 17 false (.mv (.tmp 1)) (OG 11 19 17 false (.bin .eql (.tmp 18) (K 16)) (OG 12 20 10 true (.pick (.tmp 17) (.const (.bool true)) (.tmp 19)) (OP 13 21 (.pick (.tmp 10) (.tmp 20) (.const (.bool false))) (O1 14 22 21 (OG 15 23 22 false (.mv (.tmp 0)) (OG 16 24 22 false (.bin .eql (.tmp 23) (K 2)) (OG 17 25 22 false (.mv (.tmp 24)) (OG 18 26 25 true (.mv (.tmp 1)) (OG 19 27 25 true (.bin .eql (.tmp 26) (K 11)) (OG 20 28 25 true (.mv (.tmp 27)) (OG 21 29 28 false (.mv (.tmp 1)) (OG 22 30 28 false (.bin .eql (.tmp 29) (K 13)) (OG 23 31 25 true (.pick (.tmp 28) (.const (.bool true)) (.tmp 30)) (OG 24 32 22 false (.pick (.tmp 25) (.tmp 31) (.const (.bool false))) (OP 25 33 (.pick (.tmp 22) (.const (.bool true)) (.tmp 32)) (O1 26 34 33 (OG 27 35 34 false (.mv (.tmp 0)) (OG 28 36 34 false (.bin .eql (.tmp 35) (K 3)) (OG 29 37 34 false (.mv (.tmp 36)) (OG 30 38 37 true (.mv (.tmp 1)) (OG 31 39 37 true (.bin .eql (.tmp 38) (K 14)) (OG 32 40 37 true (.mv (.tmp 39)) (OG 33 41 40 false (.mv (.tmp 1)) (OG 34 42 40 false (.bin .eql (.tmp 41) (K 15)) (OG 35 43 37 true (.pick (.tmp 40) (.const (.bool true)) (.tmp 42)) (OG 36 44 34 false (.pick (.tmp 37) (.tmp 43) (.const (.bool false))) (OP 37 45 (.pick (.tmp 34) (.const (.bool true)) (.tmp 44)) (O1 38 6 45 .done)))))))))))))))))))))))))))))))))))))))
abbrev g_q61_r3:GR:=(O1 0 46 0 (OP 1 47 (.bin .eql (.tmp 46) (K 1)) (O1 2 48 47 (OG 3 49 48 true (.mv (.tmp 1)) (OG 4 50 48 true (.bin .eql (.tmp 49) (K 1)) (OG 5 51 48 true (.mv (.tmp 50)) (OG 6 52 51 false (.mv (.tmp 1)) (OG 7 53 51 false (.bin .eql (.tmp 52) (K 2)) (OG 8 54 48 true (.pick (.tmp 51) (.const (.bool true)) (.tmp 53)) (OG 9 55 48 true (.mv (.tmp 54)) (OG 10 56 55 false (.mv (.tmp 1)) (OG 11 57 55 false (.bin .eql (.tmp 56) (K 5)) (OG 12 58 48 true (.pick (.tmp 55) (.const (.bool true)) (.tmp 57)) (OP 13 59 (.pick (.tmp 48) (.tmp 58) (.const (.bool false))) (O1 14 60 59 (OG 15 61 60 false (.mv (.tmp 0)) (OG 16 62 60 false (.bin .eql (.tmp 61) (K 2)) (OG 17 63 60 false (.mv (.tmp 62)) (OG 18 64 63 true (.mv (.tmp 1)) (OG 19 65 63 true (.bin .eql (.tmp 64) (K 1)) (OG 20 66 63 true (.mv (.tmp 65)) (OG 21 67 66 false (.mv (.tmp 1)) (OG 22 68 66 false (.bin .eql (.tmp 67) (K 3)) (OG 23 69 63 true (.pick (.tmp 66) (.const (.bool true)) (.tmp 68)) (OG 24 70 63 true (.mv (.tmp 69)) (OG 25 71 70 false (.mv (.tmp 1)) (OG 26 72 70 false (.bin .eql (.tmp 71) (K 5)) (OG 27 73 63 true (.pick (.tmp 70) (.const (.bool true)) (.tmp 72)) (OG 28 74 60 false (.pick (.tmp 63) (.tmp 73) (.const (.bool false))) (OP 29 75 (.pick (.tmp 60) (.const (.bool true)) (.tmp 74)) (O1 30 76 75 (OG 31 77 76 false (.mv (.tmp 0)) (OG 32 78 76 false (.bin .eql (.tmp 77) (K 3)) (OG 33 79 76 false (.mv (.tmp 78)) (OG 34 80 79 true (.mv (.tmp 1)) (OG 35 81 79 true (.bin .eql (.tmp 80) (K 2)) (OG 36 82 79 true (.mv (.tmp 81)) (OG 37 83 82 false (.mv (.tmp 1)) (OG 38 84 82 false (.bin .eql (.tmp 83) (K 3)) (OG 39 85 79 true (.pick (.tmp 82) (.const (.bool true)) (.tmp 84)) (OG 40 86 79 true (.mv (.tmp 85)) (OG 41 87 86 false (.mv (.tmp 1)) (OG 42 88 86 false (.bin .eql (.tmp 87) (K 4)) (OG 43 89 79 true (.pick (.tmp 86) (.const (.bool true)) (.tmp 88)) (OG 44 90 79 true (.mv (.tmp 89)) (OG 45 91 90 false (.mv (.tmp 1)) (OG 46 92 90 false (.bin .eql (.tmp 91) (K 5)) (OG 47 93 79 true (.pick (.tmp 90) (.const (.bool true)) (.tmp 92)) (OG 48 94 76 false (.pick (.tmp 79) (.tmp 93) (.const (.bool false))) (OP 49 95 (.pick (.tmp 76) (.const (.bool true)) (.tmp 94)) (O1 50 6 95 .done)))))))))))))))))))))))))))))))))))))))))))))))))))
abbrev g_q61:GC:=(.seq (.reg g_q61_r0 [0,1,2]) (.seq (.seq (.reg g_q61_r1 [0,1,7]) (.cond (.tmp 7) (.seq (.reg g_q61_r2 [6]) .ret) .skip)) (.seq (.reg g_q61_r3 [6]) .ret)))
abbrev rs_q61:List RV:=[(.tmp 6)]
theorem gc_q61:compileF Tryz.prog Tryz.f103 T_q61=some (g_q61,rs_q61):=by kernel_rfl
theorem con_q61 (hv:vc Tryz.prog y g_q61 (retQ rs_q61 R) [(0,a0),(1,a1),(2,a2)] h):ConX y Tryz.prog 103 #[a0,a1,a2] h R:=con_of Tryz.func103 gc_q61 rfl (fun h=>absurd h (by decide)) hv
def T_q60:List (Nat×List Nat):=[(0,[1,2,3]),(1,[6])]
abbrev g_q60_r0:GR:=(OP 0 3 (.box 26 (.tmp 0)) (OP 1 6 (.mv (.const (.bool false))) .done))
abbrev g_q60_r1:GR:=(O1 0 7 1 (OP 1 8 (.bin .geq (.tmp 7) (K 0)) (O1 2 9 8 (OG 3 10 9 true (.mv (.tmp 1)) (OG 4 11 9 true (.fieldAddr 1 (.tmp 3)) (OG 5 12 9 true (.load none (.tmp 11)) (OG 6 13 9 true (.len (.tmp 12)) (OG 7 14 9 true (.bin .lss (.tmp 10) (.tmp 13)) (OP 8 15 (.pick (.tmp 9) (.tmp 14) (.const (.bool false))) (O1 9 16 15 (OG 10 17 16 true (.fieldAddr 1 (.tmp 3)) (OG 11 18 16 true (.load none (.tmp 17)) (OG 12 19 16 true (.mv (.tmp 1)) (OG 13 20 16 true (.indexAddr 5 (.tmp 18) (.tmp 19)) (OG 14 21 16 true (.fieldAddr 1 (.tmp 20)) (OG 15 22 16 true (.load none (.tmp 21)) (OG 16 23 16 true (.mv (.tmp 2)) (OG 17 24 16 true (.bin .eql (.tmp 22) (.tmp 23)) (OP 18 25 (.pick (.tmp 16) (.tmp 24) (.const (.bool false))) (O1 19 6 25 .done))))))))))))))))))))
abbrev g_q60:GC:=(.seq (.reg g_q60_r0 [1,2,3]) (.seq (.reg g_q60_r1 [6]) .ret))
abbrev rs_q60:List RV:=[(.tmp 6)]
theorem gc_q60:compileF Tryz.prog Tryz.f104 T_q60=some (g_q60,rs_q60):=by kernel_rfl
theorem con_q60 (hv:vc Tryz.prog y g_q60 (retQ rs_q60 R) [(0,a0),(1,a1),(2,a2)] h):ConX y Tryz.prog 104 #[a0,a1,a2] h R:=con_of Tryz.func104 gc_q60 rfl (fun h=>absurd h (by decide)) hv
def T_q62:List (Nat×List Nat):=[(0,[1,2,3]),(1,[1,2,3,12]),(2,[6]),(3,[1,2,3,7]),(4,[1,2,3,7,17]),(5,[1,2,3,7]),(6,[1,2,3,7,32]),(7,[6]),(8,[6])]
abbrev g_q62_r0:GR:=(OP 0 3 (.box 26 (.tmp 0)) (OP 1 6 (.mv (.const (.bool false))) .done))
abbrev g_q62_r1:GR:=(OP 0 8 (.load (some 8) (.tmp 3)) (O1 1 9 1 (O1 2 10 2 (OP 3 11 (.call 60 [(.tmp 8),(.tmp 9),(.tmp 10)]) (OP 4 12 (.not (.tmp 11)) .done)))))
abbrev g_q62_r2:GR:=(OP 0 6 (.mv (.const (.bool false))) .done)
abbrev g_q62_r3:GR:=(O1 0 13 1 (OP 1 14 (.bin .add (.tmp 13) (K 1)) (O1 2 7 14 .done)))
abbrev g_q62_r4:GR:=(O1 0 15 7 (O1 1 16 2 (O5 2 17 .lss 15 16 .done)))
abbrev g_q62_r5:GR:=(O3 0 20 1 3 (O6 1 21 20 (O1 2 22 7 (O4 3 23 5 21 22 (O3 4 24 0 23 (O6 5 25 24 (O3 6 26 1 3 (O6 7 27 26 (O1 8 28 1 (O4 9 29 5 27 28 (O3 10 30 0 29 (O6 11 31 30 (O5 12 32 .eql 25 31 .done)))))))))))))
abbrev g_q62_r6:GR:=(OP 0 6 (.mv (.const (.bool false))) .done)
abbrev g_q62_r7:GR:=(O1 0 18 7 (OP 1 19 (.bin .add (.tmp 18) (K 1)) (O1 2 7 19 .done)))
abbrev g_q62_l8:GC:=(.seq (.seq (.reg g_q62_r4 [1,2,3,7,17]) (.cond (.tmp 17) .skip (.exit 0))) (.seq (.block 1 (.seq (.reg g_q62_r5 [1,2,3,7,32]) (.cond (.tmp 32) (.seq (.reg g_q62_r6 [6]) .ret) .skip))) (.reg g_q62_r7 [1,2,3,7])))
abbrev g_q62_r9:GR:=(OP 0 6 (.mv (.const (.bool true))) .done)
abbrev g_q62:GC:=(.seq (.reg g_q62_r0 [1,2,3]) (.seq (.seq (.reg g_q62_r1 [1,2,3,12]) (.cond (.tmp 12) (.seq (.reg g_q62_r2 [6]) .ret) .skip)) (.seq (.seq (.reg g_q62_r3 [1,2,3,7]) (.block 0 (.loop g_q62_l8))) (.seq (.reg g_q62_r9 [6]) .ret))))
abbrev rs_q62:List RV:=[(.tmp 6)]
theorem gc_q62:compileF Tryz.prog Tryz.f105 T_q62=some (g_q62,rs_q62):=by kernel_rfl
theorem con_q62 (hv:vc Tryz.prog y g_q62 (retQ rs_q62 R) [(0,a0),(1,a1),(2,a2)] h):ConX y Tryz.prog 105 #[a0,a1,a2] h R:=con_of Tryz.func105 gc_q62 rfl (fun h=>absurd h (by decide)) hv
def T_q110:List (Nat×List Nat):=[(0,[0,5,6,7]),(1,[0,5,6,7,8]),(2,[0,4,5,6,7]),(3,[0,5,6,7,14]),(4,[0,5,6,7])]
abbrev g_q110_r0:GR:=(O2 0 5 1 (OP 1 6 (.len (.tmp 5)) (OP 2 7 (.mv (K 0)) .done)))
abbrev g_q110_r1:GR:=(O5 0 8 .lss 7 6 .done)
abbrev g_q110_r2:GR:=(O4 0 9 1 5 7 (O2 1 10 9 (O1 2 4 10 .done)))
abbrev g_q110_r3:GR:=(O1 0 11 0 (O1 1 12 4 (OP 2 13 (.callv (.tmp 11) [(.tmp 12)]) (OP 3 14 (.not (.tmp 13)) .done))))
abbrev g_q110_r4:GR:=(OP 0 15 (.bin .add (.tmp 7) (K 1)) (O1 1 7 15 .done))
abbrev g_q110_l5:GC:=(.seq (.reg g_q110_r1 [0,5,6,7,8]) (.seq (.cond (.tmp 8) .skip (.exit 0)) (.seq (.block 1 (.seq (.reg g_q110_r2 [0,4,5,6,7]) (.seq (.reg g_q110_r3 [0,5,6,7,14]) (.cond (.tmp 14) .ret .skip)))) (.reg g_q110_r4 [0,5,6,7]))))
abbrev g_q110:GC:=(.seq (.reg g_q110_r0 [0,5,6,7]) (.block 0 (.loop g_q110_l5)))
abbrev rs_q110:List RV:=[]
theorem gc_q110:compileF Tryz.prog Tryz.f106 T_q110=some (g_q110,rs_q110):=by kernel_rfl
theorem con_q110 (hv:vc Tryz.prog y g_q110 (retQ rs_q110 R) [(0,a0),(1,a1)] h):ConX y Tryz.prog 106 #[a0,a1] h R:=con_of Tryz.func106 gc_q110 rfl (fun h=>absurd h (by decide)) hv
def T_q98:List (Nat×List Nat):=[(0,[1,2,4]),(1,[2,4,6]),(2,[2,5]),(3,[]),(4,[4])]
abbrev g_q98_r0:GR:=(OP 0 2 (.box 28 (.tmp 0)) (OP 1 4 (.mv (.const (.slice none 0 0))) .done))
abbrev g_q98_r1:GR:=(O1 0 6 1 .done)
abbrev g_q98_r2:GR:=(O1 0 5 7 .done)
abbrev g_q98_r3:GR:=(O2 0 8 2 (O1 1 9 5 (OP 2 10 (.buildSlice 3 1 [(.int .i64 0)] [(0,(1,(.tmp 9)))]) (OP 3 11 (.append 3 1 8 [(.int .i64 0)] (.tmp 8) (.tmp 10)) (OS 4 (.store 1 (.tmp 2) (.tmp 11)) .done)))))
abbrev g_q98_b4:GC:=(.block 1 (.reg g_q98_r3 []))
abbrev g_q98_r5:GR:=(O2 0 12 2 (O1 1 4 12 .done))
abbrev g_q98:GC:=(.seq (.reg g_q98_r0 [1,2,4]) (.seq (.seq (.reg g_q98_r1 [2,4,6]) (.block 0 (.rng (.tmp 6) [7] (.reg g_q98_r2 [2,5]) g_q98_b4))) (.seq (.reg g_q98_r5 [4]) .ret)))
abbrev rs_q98:List RV:=[(.tmp 4)]
theorem gc_q98:compileF Tryz.prog Tryz.f107 T_q98=some (g_q98,rs_q98):=by kernel_rfl
theorem con_q98 (hR:∀ v h1 h2,Ext h.size h1 h2→R v h1→R v h2) (hv:vc Tryz.prog y g_q98 (retQ rs_q98 R) [(0,a0),(1,a1)] h):ConX y Tryz.prog 107 #[a0,a1] h R:=con_of Tryz.func107 gc_q98 rfl (fun _=>hR) hv
def T_q108:List (Nat×List Nat):=[(0,[0,1]),(1,[0,1,7,8]),(2,[0,1,7,8,9]),(3,[0,1,5,7,8]),(4,[0,1,5,7,8,16]),(5,[4]),(6,[0,1,7,8]),(7,[4])]
abbrev g_q108_r0:GR:=(OP 0 4 (.mv (K 0)) .done)
abbrev g_q108_r1:GR:=(O1 0 6 0 (OP 1 7 (.len (.tmp 6)) (OP 2 8 (.mv (K 0)) .done)))
abbrev g_q108_r2:GR:=(O5 0 9 .lss 8 7 .done)
abbrev g_q108_r3:GR:=(O1 0 10 8 (O1 1 5 10 .done))
abbrev g_q108_r4:GR:=(O1 0 11 1 (O1 1 12 0 (O1 2 13 5 (O4 3 14 1 12 13 (O2 4 15 14 (O5 5 16 .eql 11 15 .done))))))
abbrev g_q108_r5:GR:=(O1 0 17 5 (O1 1 4 17 .done))
abbrev g_q108_r6:GR:=(OP 0 18 (.bin .add (.tmp 8) (K 1)) (O1 1 8 18 .done))
abbrev g_q108_l7:GC:=(.seq (.reg g_q108_r2 [0,1,7,8,9]) (.seq (.cond (.tmp 9) .skip (.exit 0)) (.seq (.block 1 (.seq (.reg g_q108_r3 [0,1,5,7,8]) (.seq (.reg g_q108_r4 [0,1,5,7,8,16]) (.cond (.tmp 16) (.seq (.reg g_q108_r5 [4]) .ret) .skip)))) (.reg g_q108_r6 [0,1,7,8]))))
abbrev g_q108_r8:GR:=(OP 0 4 (.mv (K (-1))) .done)
abbrev g_q108:GC:=(.seq (.reg g_q108_r0 [0,1]) (.seq (.seq (.reg g_q108_r1 [0,1,7,8]) (.block 0 (.loop g_q108_l7))) (.seq (.reg g_q108_r8 [4]) .ret)))
abbrev rs_q108:List RV:=[(.tmp 4)]
theorem gc_q108:compileF Tryz.prog Tryz.f108 T_q108=some (g_q108,rs_q108):=by kernel_rfl
theorem con_q108 (hv:vc Tryz.prog y g_q108 (retQ rs_q108 R) [(0,a0),(1,a1)] h):ConX y Tryz.prog 108 #[a0,a1] h R:=con_of Tryz.func108 gc_q108 rfl (fun h=>absurd h (by decide)) hv
def T_q100:List (Nat×List Nat):=[(0,[0,1,3]),(1,[0,1,3,8]),(2,[0,1,3]),(3,[0,1,3,18])]
abbrev g_q100_r0:GR:=(O2 0 4 1 (OP 1 5 (.len (.tmp 4)) (OP 2 6 (.bin .sub (.tmp 5) (K 1)) (O1 3 3 6 .done))))
abbrev g_q100_r1:GR:=(O1 0 7 3 (OP 1 8 (.bin .geq (.tmp 7) (K 0)) .done))
abbrev g_q100_r2:GR:=(O1 0 11 0 (O1 1 12 3 (O2 2 13 1 (O1 3 14 3 (O4 4 15 5 13 14 (OP 5 16 (.load (some 5) (.tmp 15)) (OP 6 17 (.callv (.tmp 11) [(.tmp 12),(.tmp 16)]) (OP 7 18 (.not (.tmp 17)) .done))))))))
abbrev g_q100_r3:GR:=(O1 0 9 3 (OP 1 10 (.bin .sub (.tmp 9) (K 1)) (O1 2 3 10 .done)))
abbrev g_q100_l4:GC:=(.seq (.seq (.reg g_q100_r1 [0,1,3,8]) (.cond (.tmp 8) .skip (.exit 0))) (.seq (.block 1 (.seq (.reg g_q100_r2 [0,1,3,18]) (.cond (.tmp 18) .ret .skip))) (.reg g_q100_r3 [0,1,3])))
abbrev g_q100:GC:=(.seq (.reg g_q100_r0 [0,1,3]) (.block 0 (.loop g_q100_l4)))
abbrev rs_q100:List RV:=[]
theorem gc_q100:compileF Tryz.prog Tryz.f109 T_q100=some (g_q100,rs_q100):=by kernel_rfl
theorem con_q100 (hv:vc Tryz.prog y g_q100 (retQ rs_q100 R) [(0,a0),(1,a1)] h):ConX y Tryz.prog 109 #[a0,a1] h R:=con_of Tryz.func109 gc_q100 rfl (fun h=>absurd h (by decide)) hv
def T_q13:List (Nat×List Nat):=[(0,[0,1]),(1,[0,1,5]),(2,[4]),(3,[0,1,12]),(4,[4]),(5,[0,1,16]),(6,[4]),(7,[0,1,23]),(8,[4]),(9,[0,27]),(10,[4]),(11,[34]),(12,[4]),(13,[4])]
abbrev g_q13_r0:GR:=(OP 0 4 (.mv (.const (.slice none 0 0))) .done)
abbrev g_q13_r1:GR:=(O1 0 6 0 (OP 1 7 (.bin .eql (.tmp 6) (K 1)) (O1 2 8 7 (OG 3 9 8 true (.mv (.tmp 1)) (OP 4 10 (.pick (.tmp 8) (.tmp 9) (.const (.bool false))) (O1 5 5 10 .done))))))
abbrev g_q13_r2:GR:=(OP 0 11 (.buildSlice 3 3 [(.int .i64 0),(.int .i64 0),(.int .i64 0)] [(0,(1,(K 11))),(1,(1,(K 12))),(2,(1,(K 16)))]) (O1 1 4 11 .done))
abbrev g_q13_r3:GR:=(O1 0 13 0 (OP 1 14 (.bin .eql (.tmp 13) (K 1)) (O1 2 12 14 .done)))
abbrev g_q13_r4:GR:=(OP 0 15 (.buildSlice 3 3 [(.int .i64 0),(.int .i64 0),(.int .i64 0)] [(0,(1,(K 1))),(1,(1,(K 2))),(2,(1,(K 5)))]) (O1 1 4 15 .done))
abbrev g_q13_r5:GR:=(O1 0 17 0 (OP 1 18 (.bin .eql (.tmp 17) (K 2)) (O1 2 19 18 (OG 3 20 19 true (.mv (.tmp 1)) (OP 4 21 (.pick (.tmp 19) (.tmp 20) (.const (.bool false))) (O1 5 16 21 .done))))))
abbrev g_q13_r6:GR:=(OP 0 22 (.buildSlice 3 2 [(.int .i64 0),(.int .i64 0)] [(0,(1,(K 11))),(1,(1,(K 13)))]) (O1 1 4 22 .done))
abbrev g_q13_r7:GR:=(O1 0 24 0 (OP 1 25 (.bin .eql (.tmp 24) (K 2)) (O1 2 23 25 .done)))
abbrev g_q13_r8:GR:=(OP 0 26 (.buildSlice 3 3 [(.int .i64 0),(.int .i64 0),(.int .i64 0)] [(0,(1,(K 1))),(1,(1,(K 3))),(2,(1,(K 5)))]) (O1 1 4 26 .done))
abbrev g_q13_r9:GR:=(O1 0 28 0 (OP 1 29 (.bin .eql (.tmp 28) (K 3)) (O1 2 30 29 (OG 3 31 30 true (.mv (.tmp 1)) (OP 4 32 (.pick (.tmp 30) (.tmp 31) (.const (.bool false))) (O1 5 27 32 .done))))))
abbrev g_q13_r10:GR:=(OP 0 33 (.buildSlice 3 2 [(.int .i64 0),(.int .i64 0)] [(0,(1,(K 14))),(1,(1,(K 15)))]) (O1 1 4 33 .done))
abbrev g_q13_r11:GR:=(O1 0 35 0 (OP 1 36 (.bin .eql (.tmp 35) (K 3)) (O1 2 34 36 .done)))
abbrev g_q13_r12:GR:=(OP 0 37 (.buildSlice 3 4 [(.int .i64 0),(.int .i64 0),(.int .i64 0),(.int .i64 0)] [(0,(1,(K 2))),(1,(1,(K 3))),(2,(1,(K 4))),(3,(1,(K 5)))]) (O1 1 4 37 .done))
abbrev g_q13_r13:GR:=(OP 0 4 (.mv (.const (.slice none 0 0))) .done)
abbrev g_q13:GC:=(.seq (.reg g_q13_r0 [0,1]) (.seq (.block 0 (.seq (.reg g_q13_r1 [0,1,5]) (.cond (.tmp 5) (.seq (.reg g_q13_r2 [4]) .ret) (.seq (.reg g_q13_r3 [0,1,12]) (.cond (.tmp 12) (.seq (.reg g_q13_r4 [4]) .ret) (.seq (.reg g_q13_r5 [0,1,16]) (.cond (.tmp 16) (.seq (.reg g_q13_r6 [4]) .ret) (.seq (.reg g_q13_r7 [0,1,23]) (.cond (.tmp 23) (.seq (.reg g_q13_r8 [4]) .ret) (.seq (.reg g_q13_r9 [0,27]) (.cond (.tmp 27) (.seq (.reg g_q13_r10 [4]) .ret) (.seq (.reg g_q13_r11 [34]) (.cond (.tmp 34) (.seq (.reg g_q13_r12 [4]) .ret) .skip))))))))))))) (.seq (.reg g_q13_r13 [4]) .ret)))
abbrev rs_q13:List RV:=[(.tmp 4)]
theorem gc_q13:compileF Tryz.prog Tryz.f110 T_q13=some (g_q13,rs_q13):=by kernel_rfl
theorem con_q13 (hv:vc Tryz.prog y g_q13 (retQ rs_q13 R) [(0,a0),(1,a1)] h):ConX y Tryz.prog 110 #[a0,a1] h R:=con_of Tryz.func110 gc_q13 rfl (fun h=>absurd h (by decide)) hv
def T_q9:List (Nat×List Nat):=[(0,[0,1,2]),(1,[6])]
abbrev g_q9_r0:GR:=(OP 0 6 (.mv (.const (.bool false))) .done)
abbrev g_q9_r1:GR:=(O1 0 7 1 (OP 1 8 (.bin .geq (.tmp 7) (K 0)) (O1 2 9 8 (OG 3 10 9 true (.mv (.tmp 1)) (OG 4 11 9 true (.mv (.tmp 0)) (OG 5 12 9 true (.nilCheck (.tmp 11)) (OG 6 13 9 true (.fieldAddr 0 (.tmp 12)) (OG 7 14 9 true (.fieldAddr 1 (.tmp 13)) (OG 8 15 9 true (.load none (.tmp 14)) (OG 9 16 9 true (.len (.tmp 15)) (OG 10 17 9 true (.bin .lss (.tmp 10) (.tmp 16)) (OP 11 18 (.pick (.tmp 9) (.tmp 17) (.const (.bool false))) (O1 12 19 18 (OG 13 20 19 true (.mv (.tmp 0)) (OG 14 21 19 true (.nilCheck (.tmp 20)) (OG 15 22 19 true (.fieldAddr 0 (.tmp 21)) (OG 16 23 19 true (.fieldAddr 1 (.tmp 22)) (OG 17 24 19 true (.load none (.tmp 23)) (OG 18 25 19 true (.mv (.tmp 1)) (OG 19 26 19 true (.indexAddr 5 (.tmp 24) (.tmp 25)) (OG 20 27 19 true (.fieldAddr 1 (.tmp 26)) (OG 21 28 19 true (.load none (.tmp 27)) (OG 22 29 19 true (.mv (.tmp 2)) (OG 23 30 19 true (.bin .eql (.tmp 28) (.tmp 29)) (OP 24 31 (.pick (.tmp 19) (.tmp 30) (.const (.bool false))) (O1 25 6 31 .done))))))))))))))))))))))))))
abbrev g_q9:GC:=(.seq (.reg g_q9_r0 [0,1,2]) (.seq (.reg g_q9_r1 [6]) .ret))
abbrev rs_q9:List RV:=[(.tmp 6)]
theorem gc_q9:compileF Tryz.prog Tryz.f111 T_q9=some (g_q9,rs_q9):=by kernel_rfl
theorem con_q9 (hv:vc Tryz.prog y g_q9 (retQ rs_q9 R) [(0,a0),(1,a1),(2,a2)] h):ConX y Tryz.prog 111 #[a0,a1,a2] h R:=con_of Tryz.func111 gc_q9 rfl (fun h=>absurd h (by decide)) hv
def T_q10:List (Nat×List Nat):=[(0,[0,1,2]),(1,[1,2,7]),(2,[6])]
abbrev g_q10_r0:GR:=(OP 0 6 (.mv (.const (.bool false))) .done)
abbrev g_q10_r1:GR:=(O1 0 8 0 (OP 1 9 (.nilCheck (.tmp 8)) (O3 2 10 0 9 (O3 3 11 1 10 (O2 4 12 11 (O1 5 7 12 .done))))))
abbrev g_q10_r2:GR:=(O1 0 13 1 (OP 1 14 (.bin .geq (.tmp 13) (K 0)) (O1 2 15 14 (OG 3 16 15 true (.mv (.tmp 1)) (OG 4 17 15 true (.mv (.tmp 2)) (OG 5 18 15 true (.bin .lss (.tmp 16) (.tmp 17)) (OP 6 19 (.pick (.tmp 15) (.tmp 18) (.const (.bool false))) (O1 7 20 19 (OG 8 21 20 true (.mv (.tmp 2)) (OG 9 22 20 true (.mv (.tmp 7)) (OG 10 23 20 true (.len (.tmp 22)) (OG 11 24 20 true (.bin .lss (.tmp 21) (.tmp 23)) (OP 12 25 (.pick (.tmp 20) (.tmp 24) (.const (.bool false))) (O1 13 26 25 (OG 14 27 26 true (.mv (.tmp 7)) (OG 15 28 26 true (.mv (.tmp 1)) (OG 16 29 26 true (.indexAddr 5 (.tmp 27) (.tmp 28)) (OG 17 30 26 true (.fieldAddr 0 (.tmp 29)) (.op (GI.mk 18 (some 31) (some (26,true)) (.load none (.tmp 30)) [] true) (OG 19 32 26 true (.bin .geq (.tmp 31) (K 0)) (OP 20 33 (.pick (.tmp 26) (.tmp 32) (.const (.bool false))) (O1 21 34 33 (OG 22 35 34 true (.mv (.tmp 7)) (OG 23 36 34 true (.mv (.tmp 1)) (OG 24 37 34 true (.indexAddr 5 (.tmp 35) (.tmp 36)) (OG 25 38 34 true (.fieldAddr 0 (.tmp 37)) (.op (GI.mk 26 (some 39) (some (34,true)) (.load none (.tmp 38)) [] true) (OG 27 40 34 true (.mv (.tmp 7)) (OG 28 41 34 true (.mv (.tmp 2)) (OG 29 42 34 true (.indexAddr 5 (.tmp 40) (.tmp 41)) (OG 30 43 34 true (.fieldAddr 0 (.tmp 42)) (.op (GI.mk 31 (some 44) (some (34,true)) (.load none (.tmp 43)) [] true) (OG 32 45 34 true (.bin .eql (.tmp 39) (.tmp 44)) (OP 33 46 (.pick (.tmp 34) (.tmp 45) (.const (.bool false))) (O1 34 6 46 .done)))))))))))))))))))))))))))))))))))
abbrev g_q10:GC:=(.seq (.reg g_q10_r0 [0,1,2]) (.seq (.reg g_q10_r1 [1,2,7]) (.seq (.reg g_q10_r2 [6]) .ret)))
abbrev rs_q10:List RV:=[(.tmp 6)]
theorem gc_q10:compileF Tryz.prog Tryz.f112 T_q10=some (g_q10,rs_q10):=by kernel_rfl
theorem con_q10 (hv:vc Tryz.prog y g_q10 (retQ rs_q10 R) [(0,a0),(1,a1),(2,a2)] h):ConX y Tryz.prog 112 #[a0,a1,a2] h R:=con_of Tryz.func112 gc_q10 rfl (fun h=>absurd h (by decide)) hv
end Go.Proofs.Tst
