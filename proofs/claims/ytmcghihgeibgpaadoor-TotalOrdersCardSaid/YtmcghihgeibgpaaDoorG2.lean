/-
  The compiled forms of functions that the law reaches, each checked against the program by the kernel. No condition.
-/
import Derived.Test.YtmcghihgeibgpaaDoorG1
set_option linter.all false
set_option maxRecDepth 2000
namespace Go.Proofs.Tst
open Go Go.Vc
variable {y : Option Nat} {a0 a1 a2 a3 a4 a5 a6 a7 : Value} {h : Heap} {R : Value → Heap → Prop}
def T_q103:List (Nat×List Nat):=[(0,[0,1,2]),(1,[0,1,7]),(2,[6]),(3,[6])]
abbrev g_q103_r0:GR:=(OP 0 6 (.mv (.const (.bool false))) .done)
abbrev g_q103_r1:GR:=(O1 0 7 2 .done)
abbrev g_q103_r2:GR:=(O1 0 8 0 (OP 1 9 (.bin .eql (.tmp 8) (K 1)) (O1 2 10 9 (OG 3 11 10 true (.mv (.tmp 1)) (OG 4 12 10 true (.bin .eql (.tmp 11) (K 11)) (OG 5 13 10 true (.mv (.tmp 12)) (OG 6 14 13 false (.mv (.tmp 1)) (OG 7 15 13 false (.bin .eql (.tmp 14) (K 12)) (OG 8 16 10 true (.pick (.tmp 13) (.const (.bool true)) (.tmp 15)) (OG 9 17 10 true (.mv (.tmp 16)) (OG 10 18 17 false (.mv (.tmp 1)) (OG 11 19 17 false (.bin .eql (.tmp 18) (K 16)) (OG 12 20 10 true (.pick (.tmp 17) (.const (.bool true)) (.tmp 19)) (OP 13 21 (.pick (.tmp 10) (.tmp 20) (.const (.bool false))) (O1 14 22 21 (OG 15 23 22 false (.mv (.tmp 0)) (OG 16 24 22 false (.bin .eql (.tmp 23) (K 2)) (OG 17 25 22 false (.mv (.tmp 24)) (OG 18 26 25 true (.mv (.tmp 1)) (OG 19 27 25 true (.bin .eql (.tmp 26) (K 11)) (OG 20 28 25 true (.mv (.tmp 27)) (OG 21 29 28 false (.mv (.tmp 1)) (OG 22 30 28 false (.bin .eql (.tmp 29) (K 13)) (OG 23 31 25 true (.pick (.tmp 28) (.const (.bool true)) (.tmp 30)) (OG 24 32 22 false (.pick (.tmp 25) (.tmp 31) (.const (.bool false))) (OP 25 33 (.pick (.tmp 22) (.const (.bool true)) (.tmp 32)) (O1 26 34 33 (OG 27 35 34 false (.mv (.tmp 0)) (OG 28 36 34 false (.bin .eql (.tmp 35) (K 3)) (OG 29 37 34 false (.mv (.tmp 36)) (OG 30 38 37 true (.mv (.tmp 1)) (OG 31 39 37 true (.bin .eql (.tmp 38) (K 14)) (OG 32 40 37 true (.mv (.tmp 39)) (OG 33 41 40 false (.mv (.tmp 1)) (OG 34 42 40 false (.bin .eql (.tmp 41) (K 15)) (OG 35 43 37 true (.pick (.tmp 40) (.const (.bool true)) (.tmp 42)) (OG 36 44 34 false (.pick (.tmp 37) (.tmp 43) (.const (.bool false))) (OP 37 45 (.pick (.tmp 34) (.const (.bool true)) (.tmp 44)) (O1 38 6 45 .done)))))))))))))))))))))))))))))))))))))))
abbrev g_q103_r3:GR:=(O1 0 46 0 (OP 1 47 (.bin .eql (.tmp 46) (K 1)) (O1 2 48 47 (OG 3 49 48 true (.mv (.tmp 1)) (OG 4 50 48 true (.bin .eql (.tmp 49) (K 1)) (OG 5 51 48 true (.mv (.tmp 50)) (OG 6 52 51 false (.mv (.tmp 1)) (OG 7 53 51 false (.bin .eql (.tmp 52) (K 2)) (OG 8 54 48 true (.pick (.tmp 51) (.const (.bool true)) (.tmp 53)) (OG 9 55 48 true (.mv (.tmp 54)) (OG 10 56 55 false (.mv (.tmp 1)) (OG 11 57 55 false (.bin .eql (.tmp 56) (K 5)) (OG 12 58 48 true (.pick (.tmp 55) (.const (.bool true)) (.tmp 57)) (OP 13 59 (.pick (.tmp 48) (.tmp 58) (.const (.bool false))) (O1 14 60 59 (OG 15 61 60 false (.mv (.tmp 0)) (OG 16 62 60 false (.bin .eql (.tmp 61) (K 2)) (OG 17 63 60 false (.mv (.tmp 62)) (OG 18 64 63 true (.mv (.tmp 1)) (OG 19 65 63 true (.bin .eql (.tmp 64) (K 1)) (OG 20 66 63 true (.mv (.tmp 65)) (OG 21 67 66 false (.mv (.tmp 1)) (OG 22 68 66 false (.bin .eql (.tmp 67) (K 3)) (OG 23 69 63 true (.pick (.tmp 66) (.const (.bool true)) (.tmp 68)) (OG 24 70 63 true (.mv (.tmp 69)) (OG 25 71 70 false (.mv (.tmp 1)) (OG 26 72 70 false (.bin .eql (.tmp 71) (K 5)) (OG 27 73 63 true (.pick (.tmp 70) (.const (.bool true)) (.tmp 72)) (OG 28 74 60 false (.pick (.tmp 63) (.tmp 73) (.const (.bool false))) (OP 29 75 (.pick (.tmp 60) (.const (.bool true)) (.tmp 74)) (O1 30 76 75 (OG 31 77 76 false (.mv (.tmp 0)) (OG 32 78 76 false (.bin .eql (.tmp 77) (K 3)) (OG 33 79 76 false (.mv (.tmp 78)) (OG 34 80 79 true (.mv (.tmp 1)) (OG 35 81 79 true (.bin .eql (.tmp 80) (K 2)) (OG 36 82 79 true (.mv (.tmp 81)) (OG 37 83 82 false (.mv (.tmp 1)) (OG 38 84 82 false (.bin .eql (.tmp 83) (K 3)) (OG 39 85 79 true (.pick (.tmp 82) (.const (.bool true)) (.tmp 84)) (OG 40 86 79 true (.mv (.tmp 85)) (OG 41 87 86 false (.mv (.tmp 1)) (OG 42 88 86 false (.bin .eql (.tmp 87) (K 4)) (OG 43 89 79 true (.pick (.tmp 86) (.const (.bool true)) (.tmp 88)) (OG 44 90 79 true (.mv (.tmp 89)) (OG 45 91 90 false (.mv (.tmp 1)) (OG 46 92 90 false (.bin .eql (.tmp 91) (K 5)) (OG 47 93 79 true (.pick (.tmp 90) (.const (.bool true)) (.tmp 92)) (OG 48 94 76 false (.pick (.tmp 79) (.tmp 93) (.const (.bool false))) (OP 49 95 (.pick (.tmp 76) (.const (.bool true)) (.tmp 94)) (O1 50 6 95 .done)))))))))))))))))))))))))))))))))))))))))))))))))))
abbrev g_q103:GC:=(.seq (.reg g_q103_r0 [0,1,2]) (.seq (.seq (.reg g_q103_r1 [0,1,7]) (.cond (.tmp 7) (.seq (.reg g_q103_r2 [6]) .ret) .skip)) (.seq (.reg g_q103_r3 [6]) .ret)))
abbrev rs_q103:List RV:=[(.tmp 6)]
theorem gc_q103:compileF Tryd.prog Tryd.f137 T_q103=some (g_q103,rs_q103):=by kernel_rfl
theorem con_q103 (hv:vc Tryd.prog y g_q103 (retQ rs_q103 R) [(0,a0),(1,a1),(2,a2)] h):ConX y Tryd.prog 137 #[a0,a1,a2] h R:=con_of Tryd.func137 gc_q103 rfl (fun h=>absurd h (by decide)) hv
def T_q102:List (Nat×List Nat):=[(0,[1,2,3]),(1,[6])]
abbrev g_q102_r0:GR:=(OP 0 3 (.box 26 (.tmp 0)) (OP 1 6 (.mv (.const (.bool false))) .done))
abbrev g_q102_r1:GR:=(O1 0 7 1 (OP 1 8 (.bin .geq (.tmp 7) (K 0)) (O1 2 9 8 (OG 3 10 9 true (.mv (.tmp 1)) (OG 4 11 9 true (.fieldAddr 1 (.tmp 3)) (OG 5 12 9 true (.load none (.tmp 11)) (OG 6 13 9 true (.len (.tmp 12)) (OG 7 14 9 true (.bin .lss (.tmp 10) (.tmp 13)) (OP 8 15 (.pick (.tmp 9) (.tmp 14) (.const (.bool false))) (O1 9 16 15 (OG 10 17 16 true (.fieldAddr 1 (.tmp 3)) (OG 11 18 16 true (.load none (.tmp 17)) (OG 12 19 16 true (.mv (.tmp 1)) (OG 13 20 16 true (.indexAddr 5 (.tmp 18) (.tmp 19)) (OG 14 21 16 true (.fieldAddr 1 (.tmp 20)) (OG 15 22 16 true (.load none (.tmp 21)) (OG 16 23 16 true (.mv (.tmp 2)) (OG 17 24 16 true (.bin .eql (.tmp 22) (.tmp 23)) (OP 18 25 (.pick (.tmp 16) (.tmp 24) (.const (.bool false))) (O1 19 6 25 .done))))))))))))))))))))
abbrev g_q102:GC:=(.seq (.reg g_q102_r0 [1,2,3]) (.seq (.reg g_q102_r1 [6]) .ret))
abbrev rs_q102:List RV:=[(.tmp 6)]
theorem gc_q102:compileF Tryd.prog Tryd.f138 T_q102=some (g_q102,rs_q102):=by kernel_rfl
theorem con_q102 (hv:vc Tryd.prog y g_q102 (retQ rs_q102 R) [(0,a0),(1,a1),(2,a2)] h):ConX y Tryd.prog 138 #[a0,a1,a2] h R:=con_of Tryd.func138 gc_q102 rfl (fun h=>absurd h (by decide)) hv
def T_q104:List (Nat×List Nat):=[(0,[1,2,3]),(1,[1,2,3,12]),(2,[6]),(3,[1,2,3,7]),(4,[1,2,3,7,17]),(5,[1,2,3,7]),(6,[1,2,3,7,32]),(7,[6]),(8,[6])]
abbrev g_q104_r0:GR:=(OP 0 3 (.box 26 (.tmp 0)) (OP 1 6 (.mv (.const (.bool false))) .done))
abbrev g_q104_r1:GR:=(OP 0 8 (.load (some 8) (.tmp 3)) (O1 1 9 1 (O1 2 10 2 (OP 3 11 (.call 93 [(.tmp 8),(.tmp 9),(.tmp 10)]) (OP 4 12 (.not (.tmp 11)) .done)))))
abbrev g_q104_r2:GR:=(OP 0 6 (.mv (.const (.bool false))) .done)
abbrev g_q104_r3:GR:=(O1 0 13 1 (OP 1 14 (.bin .add (.tmp 13) (K 1)) (O1 2 7 14 .done)))
abbrev g_q104_r4:GR:=(O1 0 15 7 (O1 1 16 2 (O5 2 17 .lss 15 16 .done)))
abbrev g_q104_r5:GR:=(O3 0 20 1 3 (O6 1 21 20 (O1 2 22 7 (O4 3 23 5 21 22 (O3 4 24 0 23 (O6 5 25 24 (O3 6 26 1 3 (O6 7 27 26 (O1 8 28 1 (O4 9 29 5 27 28 (O3 10 30 0 29 (O6 11 31 30 (O5 12 32 .eql 25 31 .done)))))))))))))
abbrev g_q104_r6:GR:=(OP 0 6 (.mv (.const (.bool false))) .done)
abbrev g_q104_r7:GR:=(O1 0 18 7 (OP 1 19 (.bin .add (.tmp 18) (K 1)) (O1 2 7 19 .done)))
abbrev g_q104_l8:GC:=(.seq (.seq (.reg g_q104_r4 [1,2,3,7,17]) (.cond (.tmp 17) .skip (.exit 0))) (.seq (.block 1 (.seq (.reg g_q104_r5 [1,2,3,7,32]) (.cond (.tmp 32) (.seq (.reg g_q104_r6 [6]) .ret) .skip))) (.reg g_q104_r7 [1,2,3,7])))
abbrev g_q104_r9:GR:=(OP 0 6 (.mv (.const (.bool true))) .done)
abbrev g_q104:GC:=(.seq (.reg g_q104_r0 [1,2,3]) (.seq (.seq (.reg g_q104_r1 [1,2,3,12]) (.cond (.tmp 12) (.seq (.reg g_q104_r2 [6]) .ret) .skip)) (.seq (.seq (.reg g_q104_r3 [1,2,3,7]) (.block 0 (.loop g_q104_l8))) (.seq (.reg g_q104_r9 [6]) .ret))))
abbrev rs_q104:List RV:=[(.tmp 6)]
theorem gc_q104:compileF Tryd.prog Tryd.f139 T_q104=some (g_q104,rs_q104):=by kernel_rfl
theorem con_q104 (hv:vc Tryd.prog y g_q104 (retQ rs_q104 R) [(0,a0),(1,a1),(2,a2)] h):ConX y Tryd.prog 139 #[a0,a1,a2] h R:=con_of Tryd.func139 gc_q104 rfl (fun h=>absurd h (by decide)) hv
def T_q134:List (Nat×List Nat):=[(0,[])]
abbrev g_q134_r0:GR:=(O1 0 4 0 (O1 1 5 1 (OP 2 6 (.bin .quo (.tmp 5) (K 64)) (O4 3 7 1 4 6 (O6 4 8 7 (O1 5 9 1 (OP 6 10 (.bin .rem (.tmp 9) (K 64)) (OP 7 11 (.shift .shl (.const (.int .u64 1)) (.tmp 10)) (O5 8 12 .or 8 11 (O4 9 13 1 4 6 (OS 10 (.store 1 (.tmp 13) (.tmp 12)) .done)))))))))))
abbrev g_q134:GC:=(.reg g_q134_r0 [])
abbrev rs_q134:List RV:=[]
theorem gc_q134:compileF Tryd.prog Tryd.f140 T_q134=some (g_q134,rs_q134):=by kernel_rfl
theorem con_q134 (hv:vc Tryd.prog y g_q134 (retQ rs_q134 R) [(0,a0),(1,a1)] h):ConX y Tryd.prog 140 #[a0,a1] h R:=con_of Tryd.func140 gc_q134 rfl (fun h=>absurd h (by decide)) hv
def T_q54:List (Nat×List Nat):=[(0,[0,1,2,3]),(1,[1,2,3,6]),(2,[1,2,3,6,10]),(3,[1,2,3,6]),(4,[1,2,3,6,24]),(5,[5]),(6,[5])]
abbrev g_q54_r0:GR:=(OP 0 5 (.mv (K 0)) .done)
abbrev g_q54_r1:GR:=(O1 0 7 0 (O1 1 6 7 .done))
abbrev g_q54_r2:GR:=(O1 0 8 6 (O2 1 9 1 (O5 2 10 .lss 8 9 .done)))
abbrev g_q54_r3:GR:=(O2 0 13 2 (O1 1 14 6 (O4 2 15 1 13 14 (O2 3 16 15 (OP 4 17 (.not (.tmp 16)) (O1 5 18 17 (OG 6 19 18 true (.load none (.tmp 3)) (OG 7 20 18 true (.mv (.tmp 6)) (OG 8 21 18 true (.indexAddr 1 (.tmp 19) (.tmp 20)) (OG 9 22 18 true (.load none (.tmp 21)) (OG 10 23 18 true (.bin .eql (.tmp 22) (K 0)) (OP 11 24 (.pick (.tmp 18) (.tmp 23) (.const (.bool false))) .done))))))))))))
abbrev g_q54_r4:GR:=(O1 0 25 6 (O1 1 5 25 .done))
abbrev g_q54_r5:GR:=(O1 0 11 6 (OP 1 12 (.bin .add (.tmp 11) (K 1)) (O1 2 6 12 .done)))
abbrev g_q54_l6:GC:=(.seq (.seq (.reg g_q54_r2 [1,2,3,6,10]) (.cond (.tmp 10) .skip (.exit 0))) (.seq (.block 1 (.seq (.reg g_q54_r3 [1,2,3,6,24]) (.cond (.tmp 24) (.seq (.reg g_q54_r4 [5]) .ret) .skip))) (.reg g_q54_r5 [1,2,3,6])))
abbrev g_q54_r7:GR:=(OP 0 5 (.mv (K (-1))) .done)
abbrev g_q54:GC:=(.seq (.reg g_q54_r0 [0,1,2,3]) (.seq (.seq (.reg g_q54_r1 [1,2,3,6]) (.block 0 (.loop g_q54_l6))) (.seq (.reg g_q54_r7 [5]) .ret)))
abbrev rs_q54:List RV:=[(.tmp 5)]
theorem gc_q54:compileF Tryd.prog Tryd.f141 T_q54=some (g_q54,rs_q54):=by kernel_rfl
theorem con_q54 (hv:vc Tryd.prog y g_q54 (retQ rs_q54 R) [(0,a0),(1,a1),(2,a2),(3,a3)] h):ConX y Tryd.prog 141 #[a0,a1,a2,a3] h R:=con_of Tryd.func141 gc_q54 rfl (fun h=>absurd h (by decide)) hv
def T_q55:List (Nat×List Nat):=[(0,[0,1,3,4]),(1,[1,4,16,17,18]),(2,[1,4,16,17,18,19]),(3,[1,4,8,16,17,18]),(4,[1,4,8,16,17,18,22]),(5,[1,4,16,17,18]),(6,[1,4,16,17,18]),(7,[1,4,16,17,18])]
abbrev g_q55_r0:GR:=(O2 0 9 2 (O1 1 10 0 (O1 2 11 1 (O4 3 12 1 9 10 (OS 4 (.store 1 (.tmp 12) (.tmp 11)) .done)))))
abbrev g_q55_r1:GR:=(O2 0 13 3 (O1 1 14 0 (O4 2 15 1 13 14 (O2 3 16 15 (OP 4 17 (.len (.tmp 16)) (OP 5 18 (.mv (K 0)) .done))))))
abbrev g_q55_r2:GR:=(O5 0 19 .lss 18 17 .done)
abbrev g_q55_r3:GR:=(O4 0 20 1 16 18 (O2 1 21 20 (O1 2 8 21 .done)))
abbrev g_q55_r4:GR:=(O1 0 22 1 .done)
abbrev g_q55_r5:GR:=(O2 0 23 4 (O1 1 24 8 (O4 2 25 1 23 24 (O2 3 26 25 (OP 4 27 (.bin .sub (.tmp 26) (K 1)) (O4 5 28 1 23 24 (OS 6 (.store 1 (.tmp 28) (.tmp 27)) .done)))))))
abbrev g_q55_r6:GR:=(O2 0 29 4 (O1 1 30 8 (O4 2 31 1 29 30 (O2 3 32 31 (OP 4 33 (.bin .add (.tmp 32) (K 1)) (O4 5 34 1 29 30 (OS 6 (.store 1 (.tmp 34) (.tmp 33)) .done)))))))
abbrev g_q55_r7:GR:=(OP 0 35 (.bin .add (.tmp 18) (K 1)) (O1 1 18 35 .done))
abbrev g_q55_l8:GC:=(.seq (.reg g_q55_r2 [1,4,16,17,18,19]) (.seq (.cond (.tmp 19) .skip (.exit 0)) (.seq (.block 1 (.seq (.reg g_q55_r3 [1,4,8,16,17,18]) (.seq (.reg g_q55_r4 [1,4,8,16,17,18,22]) (.cond (.tmp 22) (.reg g_q55_r5 [1,4,16,17,18]) (.reg g_q55_r6 [1,4,16,17,18]))))) (.reg g_q55_r7 [1,4,16,17,18]))))
abbrev g_q55:GC:=(.seq (.reg g_q55_r0 [0,1,3,4]) (.seq (.reg g_q55_r1 [1,4,16,17,18]) (.block 0 (.loop g_q55_l8))))
abbrev rs_q55:List RV:=[]
theorem gc_q55:compileF Tryd.prog Tryd.f142 T_q55=some (g_q55,rs_q55):=by kernel_rfl
theorem con_q55 (hv:vc Tryd.prog y g_q55 (retQ rs_q55 R) [(0,a0),(1,a1),(2,a2),(3,a3),(4,a4)] h):ConX y Tryd.prog 142 #[a0,a1,a2,a3,a4] h R:=con_of Tryd.func142 gc_q55 rfl (fun h=>absurd h (by decide)) hv
def T_q76:List (Nat×List Nat):=[(0,[1,2]),(1,[2,3]),(2,[2,3,4]),(3,[2,3,4,12]),(4,[2,3,4]),(5,[2,3,4,5]),(6,[2,3,4,5,18]),(7,[2,3,4,5]),(8,[2,3,4,5,6]),(9,[2,3,4,5,6,34]),(10,[2,3,4,5,6]),(11,[2,3,4,5,6]),(12,[2])]
abbrev g_q76_r0:GR:=(OP 0 1 (.box 75 (.tmp 0)) (OP 1 2 (.alloc 75 [(.int .i64 0),(.slice none 0 0)]) .done))
abbrev g_q76_r1:GR:=(OP 0 7 (.load (some 2) (.tmp 1)) (OP 1 8 (.call 159 [(.tmp 7),(K 0)]) (OP 2 3 (.alloc 75 [(.int .i64 0),(.slice none 0 0)]) (OS 3 (.store 2 (.tmp 3) (.tmp 8)) .done))))
abbrev g_q76_r2:GR:=(OP 0 4 (.mv (K 0)) .done)
abbrev g_q76_r3:GR:=(O1 0 9 4 (O3 1 10 0 3 (O2 2 11 10 (O5 3 12 .lss 9 11 .done))))
abbrev g_q76_r4:GR:=(OP 0 5 (.mv (K 0)) .done)
abbrev g_q76_r5:GR:=(O1 0 15 5 (O3 1 16 0 3 (O2 2 17 16 (O5 3 18 .lss 15 17 .done))))
abbrev g_q76_r6:GR:=(OP 0 6 (.mv (K 0)) .done)
abbrev g_q76_r7:GR:=(O3 0 21 1 3 (O2 1 22 21 (O1 2 23 5 (O4 3 24 1 22 23 (O2 4 25 24 (O1 5 26 4 (O4 6 27 1 25 26 (O2 7 28 27 (O1 8 29 28 (OG 9 30 29 true (.mv (.tmp 6)) (OG 10 31 29 true (.fieldAddr 0 (.tmp 3)) (OG 11 32 29 true (.load none (.tmp 31)) (OG 12 33 29 true (.bin .lss (.tmp 30) (.tmp 32)) (OP 13 34 (.pick (.tmp 29) (.tmp 33) (.const (.bool false))) .done))))))))))))))
abbrev g_q76_r8:GR:=(O3 0 37 1 3 (O6 1 38 37 (O1 2 39 5 (O4 3 40 1 38 39 (O6 4 41 40 (O1 5 42 6 (O3 6 43 1 3 (O6 7 44 43 (O1 8 45 5 (O4 9 46 1 44 45 (O6 10 47 46 (O1 11 48 6 (O4 12 49 1 47 48 (O6 13 50 49 (O1 14 51 50 (OG 15 52 51 false (.fieldAddr 1 (.tmp 3)) (.op (GI.mk 16 (some 53) (some (51,false)) (.load none (.tmp 52)) [] true) (OG 17 54 51 false (.mv (.tmp 4)) (OG 18 55 51 false (.indexAddr 1 (.tmp 53) (.tmp 54)) (.op (GI.mk 19 (some 56) (some (51,false)) (.load none (.tmp 55)) [] true) (OG 20 57 51 false (.mv (.tmp 6)) (OG 21 58 51 false (.indexAddr 1 (.tmp 56) (.tmp 57)) (.op (GI.mk 22 (some 59) (some (51,false)) (.load none (.tmp 58)) [] true) (OP 23 60 (.pick (.tmp 51) (.const (.bool true)) (.tmp 59)) (O4 24 61 1 41 42 (OS 25 (.store 1 (.tmp 61) (.tmp 60)) .done))))))))))))))))))))))))))
abbrev g_q76_r9:GR:=(O1 0 35 6 (OP 1 36 (.bin .add (.tmp 35) (K 1)) (O1 2 6 36 .done)))
abbrev g_q76_l10:GC:=(.seq (.seq (.reg g_q76_r7 [2,3,4,5,6,34]) (.cond (.tmp 34) .skip (.exit 4))) (.seq (.block 5 (.reg g_q76_r8 [2,3,4,5,6])) (.reg g_q76_r9 [2,3,4,5,6])))
abbrev g_q76_r11:GR:=(O1 0 19 5 (OP 1 20 (.bin .add (.tmp 19) (K 1)) (O1 2 5 20 .done)))
abbrev g_q76_l12:GC:=(.seq (.seq (.reg g_q76_r5 [2,3,4,5,18]) (.cond (.tmp 18) .skip (.exit 2))) (.seq (.block 3 (.seq (.reg g_q76_r6 [2,3,4,5,6]) (.block 4 (.loop g_q76_l10)))) (.reg g_q76_r11 [2,3,4,5])))
abbrev g_q76_r13:GR:=(O1 0 13 4 (OP 1 14 (.bin .add (.tmp 13) (K 1)) (O1 2 4 14 .done)))
abbrev g_q76_l14:GC:=(.seq (.seq (.reg g_q76_r3 [2,3,4,12]) (.cond (.tmp 12) .skip (.exit 0))) (.seq (.block 1 (.seq (.reg g_q76_r4 [2,3,4,5]) (.block 2 (.loop g_q76_l12)))) (.reg g_q76_r13 [2,3,4])))
abbrev g_q76_r15:GR:=(OP 0 62 (.load (some 2) (.tmp 3)) (OS 1 (.store 2 (.tmp 2) (.tmp 62)) .done))
abbrev g_q76:GC:=(.seq (.reg g_q76_r0 [1,2]) (.seq (.reg g_q76_r1 [2,3]) (.seq (.seq (.reg g_q76_r2 [2,3,4]) (.block 0 (.loop g_q76_l14))) (.seq (.reg g_q76_r15 [2]) .ret))))
abbrev rs_q76:List RV:=[(.cell 2 (some 2))]
theorem gc_q76:compileF Tryd.prog Tryd.f143 T_q76=some (g_q76,rs_q76):=by kernel_rfl
theorem con_q76 (hv:vc Tryd.prog y g_q76 (retQ rs_q76 R) [(0,a0)] h):ConX y Tryd.prog 143 #[a0] h R:=con_of Tryd.func143 gc_q76 rfl (fun h=>absurd h (by decide)) hv
def T_q79:List (Nat×List Nat):=[(0,[1,2]),(1,[1,2,5]),(2,[1,2,5,6]),(3,[1,2,5,6,16]),(4,[1,2,5,6]),(5,[1,2,5,6]),(6,[1,2,5,7]),(7,[1,2,5,7,25]),(8,[1,2,5,7]),(9,[1,2,5,7,8]),(10,[1,2,5,7,8,31]),(11,[1,2,5,7,8]),(12,[1,2,5,7,8,9]),(13,[1,2,5,7,8,9,44]),(14,[1,2,5,7,8,9]),(15,[1,2,5,7,8,9,76]),(16,[1,2,5,7,8,9]),(17,[4])]
abbrev g_q79_r0:GR:=(OP 0 2 (.box 75 (.tmp 0)) (OP 1 4 (.mv (.const (.slice none 0 0))) .done))
abbrev g_q79_r1:GR:=(O3 0 10 0 2 (O2 1 11 10 (OP 2 12 (.makeSlice 3 1 8 [(.int .i64 0)] (.tmp 11) (.tmp 11)) (O1 3 5 12 .done))))
abbrev g_q79_r2:GR:=(OP 0 6 (.mv (K 0)) .done)
abbrev g_q79_r3:GR:=(O1 0 13 6 (O3 1 14 0 2 (O2 2 15 14 (O5 3 16 .lss 13 15 .done))))
abbrev g_q79_r4:GR:=(O1 0 19 5 (O1 1 20 6 (O4 2 21 1 19 20 (OS 3 (.store 1 (.tmp 21) (K (-1))) .done))))
abbrev g_q79_r5:GR:=(O1 0 17 6 (OP 1 18 (.bin .add (.tmp 17) (K 1)) (O1 2 6 18 .done)))
abbrev g_q79_l6:GC:=(.seq (.seq (.reg g_q79_r3 [1,2,5,6,16]) (.cond (.tmp 16) .skip (.exit 0))) (.seq (.block 1 (.reg g_q79_r4 [1,2,5,6])) (.reg g_q79_r5 [1,2,5,6])))
abbrev g_q79_r7:GR:=(OP 0 7 (.mv (K 1)) .done)
abbrev g_q79_r8:GR:=(O1 0 22 7 (O3 1 23 0 2 (O2 2 24 23 (O5 3 25 .leq 22 24 .done))))
abbrev g_q79_r9:GR:=(OP 0 8 (.mv (K 0)) .done)
abbrev g_q79_r10:GR:=(O1 0 28 8 (O3 1 29 0 2 (O2 2 30 29 (O5 3 31 .lss 28 30 .done))))
abbrev g_q79_r11:GR:=(OP 0 9 (.mv (K 0)) .done)
abbrev g_q79_r12:GR:=(O1 0 34 5 (O1 1 35 8 (O4 2 36 1 34 35 (O2 3 37 36 (OP 4 38 (.bin .lss (.tmp 37) (K 0)) (O1 5 39 38 (OG 6 40 39 true (.mv (.tmp 9)) (OG 7 41 39 true (.fieldAddr 0 (.tmp 2)) (OG 8 42 39 true (.load none (.tmp 41)) (OG 9 43 39 true (.bin .lss (.tmp 40) (.tmp 42)) (OP 10 44 (.pick (.tmp 39) (.tmp 43) (.const (.bool false))) .done)))))))))))
abbrev g_q79_r13:GR:=(O3 0 47 1 2 (O2 1 48 47 (O1 2 49 8 (O4 3 50 1 48 49 (O2 4 51 50 (O1 5 52 9 (O4 6 53 1 51 52 (O2 7 54 53 (O1 8 55 54 (OG 9 56 55 true (.mv (.tmp 7)) (OG 10 57 55 true (.bin .eql (.tmp 56) (K 1)) (OG 11 58 55 true (.mv (.tmp 57)) (OG 12 59 58 true (.mv (.tmp 9)) (OG 13 60 58 true (.mv (.tmp 1)) (OG 14 61 58 true (.bin .eql (.tmp 59) (.tmp 60)) (OG 15 62 55 true (.pick (.tmp 58) (.tmp 61) (.const (.bool false))) (OG 16 63 55 true (.mv (.tmp 62)) (OG 17 64 63 false (.mv (.tmp 7)) (OG 18 65 63 false (.bin .gtr (.tmp 64) (K 1)) (OG 19 66 63 false (.mv (.tmp 65)) (OG 20 67 66 true (.mv (.tmp 5)) (OG 21 68 66 true (.mv (.tmp 9)) (OG 22 69 66 true (.indexAddr 1 (.tmp 67) (.tmp 68)) (OG 23 70 66 true (.load none (.tmp 69)) (OG 24 71 66 true (.mv (.tmp 7)) (OG 25 72 66 true (.bin .sub (.tmp 71) (K 1)) (OG 26 73 66 true (.bin .eql (.tmp 70) (.tmp 72)) (OG 27 74 63 false (.pick (.tmp 66) (.tmp 73) (.const (.bool false))) (OG 28 75 55 true (.pick (.tmp 63) (.const (.bool true)) (.tmp 74)) (OP 29 76 (.pick (.tmp 55) (.tmp 75) (.const (.bool false))) .done))))))))))))))))))))))))))))))
abbrev g_q79_r14:GR:=(O1 0 77 5 (O1 1 78 8 (O1 2 79 7 (O4 3 80 1 77 78 (OS 4 (.store 1 (.tmp 80) (.tmp 79)) .done)))))
abbrev g_q79_r15:GR:=(O1 0 45 9 (OP 1 46 (.bin .add (.tmp 45) (K 1)) (O1 2 9 46 .done)))
abbrev g_q79_l16:GC:=(.seq (.seq (.reg g_q79_r12 [1,2,5,7,8,9,44]) (.cond (.tmp 44) .skip (.exit 6))) (.seq (.block 7 (.seq (.reg g_q79_r13 [1,2,5,7,8,9,76]) (.cond (.tmp 76) (.reg g_q79_r14 [1,2,5,7,8,9]) .skip))) (.reg g_q79_r15 [1,2,5,7,8,9])))
abbrev g_q79_r17:GR:=(O1 0 32 8 (OP 1 33 (.bin .add (.tmp 32) (K 1)) (O1 2 8 33 .done)))
abbrev g_q79_l18:GC:=(.seq (.seq (.reg g_q79_r10 [1,2,5,7,8,31]) (.cond (.tmp 31) .skip (.exit 4))) (.seq (.block 5 (.seq (.reg g_q79_r11 [1,2,5,7,8,9]) (.block 6 (.loop g_q79_l16)))) (.reg g_q79_r17 [1,2,5,7,8])))
abbrev g_q79_r19:GR:=(O1 0 26 7 (OP 1 27 (.bin .add (.tmp 26) (K 1)) (O1 2 7 27 .done)))
abbrev g_q79_l20:GC:=(.seq (.seq (.reg g_q79_r8 [1,2,5,7,25]) (.cond (.tmp 25) .skip (.exit 2))) (.seq (.block 3 (.seq (.reg g_q79_r9 [1,2,5,7,8]) (.block 4 (.loop g_q79_l18)))) (.reg g_q79_r19 [1,2,5,7])))
abbrev g_q79_r21:GR:=(O1 0 81 5 (O1 1 4 81 .done))
abbrev g_q79:GC:=(.seq (.reg g_q79_r0 [1,2]) (.seq (.reg g_q79_r1 [1,2,5]) (.seq (.seq (.reg g_q79_r2 [1,2,5,6]) (.block 0 (.loop g_q79_l6))) (.seq (.seq (.reg g_q79_r7 [1,2,5,7]) (.block 2 (.loop g_q79_l20))) (.seq (.reg g_q79_r21 [4]) .ret)))))
abbrev rs_q79:List RV:=[(.tmp 4)]
theorem gc_q79:compileF Tryd.prog Tryd.f144 T_q79=some (g_q79,rs_q79):=by kernel_rfl
theorem con_q79 (hv:vc Tryd.prog y g_q79 (retQ rs_q79 R) [(0,a0),(1,a1)] h):ConX y Tryd.prog 144 #[a0,a1] h R:=con_of Tryd.func144 gc_q79 rfl (fun h=>absurd h (by decide)) hv
def T_q71:List (Nat×List Nat):=[(0,[2,3,4]),(1,[2,3,4,5]),(2,[4,5,6]),(3,[4,5,6,7]),(4,[4,5,6,7,8]),(5,[4,5,6,7,8,25]),(6,[4,5,6,7,8]),(7,[4,5,6,7,8,9]),(8,[4,5,6,7,8,9,31]),(9,[4,5,6,7,8,9]),(10,[4,5,6,7,8,9,10]),(11,[4,5,6,7,8,9,10,47]),(12,[4,5,6,7,8,9,10]),(13,[4,5,6,7,8,9,10]),(14,[4])]
abbrev g_q71_r0:GR:=(OP 0 2 (.box 75 (.tmp 0)) (OP 1 3 (.box 75 (.tmp 1)) (OP 2 4 (.alloc 75 [(.int .i64 0),(.slice none 0 0)]) .done)))
abbrev g_q71_r1:GR:=(OP 0 11 (.load (some 2) (.tmp 2)) (O3 1 12 0 3 (O2 2 13 12 (OP 3 14 (.call 159 [(.tmp 11),(.tmp 13)]) (OP 4 5 (.alloc 75 [(.int .i64 0),(.slice none 0 0)]) (OS 5 (.store 2 (.tmp 5) (.tmp 14)) .done))))))
abbrev g_q71_r2:GR:=(OP 0 15 (.load (some 2) (.tmp 3)) (O3 1 16 0 2 (O2 2 17 16 (OP 3 18 (.call 159 [(.tmp 15),(.tmp 17)]) (OP 4 6 (.alloc 75 [(.int .i64 0),(.slice none 0 0)]) (OS 5 (.store 2 (.tmp 6) (.tmp 18)) .done))))))
abbrev g_q71_r3:GR:=(O3 0 19 0 5 (O2 1 20 19 (OP 2 21 (.call 92 [(.tmp 20)]) (OP 3 7 (.alloc 75 [(.int .i64 0),(.slice none 0 0)]) (OS 4 (.store 2 (.tmp 7) (.tmp 21)) .done)))))
abbrev g_q71_r4:GR:=(OP 0 8 (.mv (K 0)) .done)
abbrev g_q71_r5:GR:=(O1 0 22 8 (O3 1 23 0 7 (O2 2 24 23 (O5 3 25 .lss 22 24 .done))))
abbrev g_q71_r6:GR:=(OP 0 9 (.mv (K 0)) .done)
abbrev g_q71_r7:GR:=(O1 0 28 9 (O3 1 29 0 7 (O2 2 30 29 (O5 3 31 .lss 28 30 .done))))
abbrev g_q71_r8:GR:=(OP 0 10 (.mv (K 0)) .done)
abbrev g_q71_r9:GR:=(O3 0 34 1 5 (O2 1 35 34 (O1 2 36 8 (O4 3 37 1 35 36 (O2 4 38 37 (O1 5 39 9 (O4 6 40 1 38 39 (O2 7 41 40 (O1 8 42 41 (OG 9 43 42 true (.mv (.tmp 10)) (OG 10 44 42 true (.fieldAddr 0 (.tmp 7)) (OG 11 45 42 true (.load none (.tmp 44)) (OG 12 46 42 true (.bin .lss (.tmp 43) (.tmp 45)) (OP 13 47 (.pick (.tmp 42) (.tmp 46) (.const (.bool false))) .done))))))))))))))
abbrev g_q71_r10:GR:=(O3 0 50 1 7 (O6 1 51 50 (O1 2 52 8 (O4 3 53 1 51 52 (O6 4 54 53 (O1 5 55 10 (O3 6 56 1 7 (O6 7 57 56 (O1 8 58 8 (O4 9 59 1 57 58 (O6 10 60 59 (O1 11 61 10 (O4 12 62 1 60 61 (O6 13 63 62 (O1 14 64 63 (OG 15 65 64 false (.fieldAddr 1 (.tmp 6)) (.op (GI.mk 16 (some 66) (some (64,false)) (.load none (.tmp 65)) [] true) (OG 17 67 64 false (.mv (.tmp 9)) (OG 18 68 64 false (.indexAddr 1 (.tmp 66) (.tmp 67)) (.op (GI.mk 19 (some 69) (some (64,false)) (.load none (.tmp 68)) [] true) (OG 20 70 64 false (.mv (.tmp 10)) (OG 21 71 64 false (.indexAddr 1 (.tmp 69) (.tmp 70)) (.op (GI.mk 22 (some 72) (some (64,false)) (.load none (.tmp 71)) [] true) (OP 23 73 (.pick (.tmp 64) (.const (.bool true)) (.tmp 72)) (O4 24 74 1 54 55 (OS 25 (.store 1 (.tmp 74) (.tmp 73)) .done))))))))))))))))))))))))))
abbrev g_q71_r11:GR:=(O1 0 48 10 (OP 1 49 (.bin .add (.tmp 48) (K 1)) (O1 2 10 49 .done)))
abbrev g_q71_l12:GC:=(.seq (.seq (.reg g_q71_r9 [4,5,6,7,8,9,10,47]) (.cond (.tmp 47) .skip (.exit 4))) (.seq (.block 5 (.reg g_q71_r10 [4,5,6,7,8,9,10])) (.reg g_q71_r11 [4,5,6,7,8,9,10])))
abbrev g_q71_r13:GR:=(O1 0 32 9 (OP 1 33 (.bin .add (.tmp 32) (K 1)) (O1 2 9 33 .done)))
abbrev g_q71_l14:GC:=(.seq (.seq (.reg g_q71_r7 [4,5,6,7,8,9,31]) (.cond (.tmp 31) .skip (.exit 2))) (.seq (.block 3 (.seq (.reg g_q71_r8 [4,5,6,7,8,9,10]) (.block 4 (.loop g_q71_l12)))) (.reg g_q71_r13 [4,5,6,7,8,9])))
abbrev g_q71_r15:GR:=(O1 0 26 8 (OP 1 27 (.bin .add (.tmp 26) (K 1)) (O1 2 8 27 .done)))
abbrev g_q71_l16:GC:=(.seq (.seq (.reg g_q71_r5 [4,5,6,7,8,25]) (.cond (.tmp 25) .skip (.exit 0))) (.seq (.block 1 (.seq (.reg g_q71_r6 [4,5,6,7,8,9]) (.block 2 (.loop g_q71_l14)))) (.reg g_q71_r15 [4,5,6,7,8])))
abbrev g_q71_r17:GR:=(OP 0 75 (.load (some 2) (.tmp 7)) (OS 1 (.store 2 (.tmp 4) (.tmp 75)) .done))
abbrev g_q71:GC:=(.seq (.reg g_q71_r0 [2,3,4]) (.seq (.reg g_q71_r1 [2,3,4,5]) (.seq (.reg g_q71_r2 [4,5,6]) (.seq (.reg g_q71_r3 [4,5,6,7]) (.seq (.seq (.reg g_q71_r4 [4,5,6,7,8]) (.block 0 (.loop g_q71_l16))) (.seq (.reg g_q71_r17 [4]) .ret))))))
abbrev rs_q71:List RV:=[(.cell 4 (some 2))]
theorem gc_q71:compileF Tryd.prog Tryd.f145 T_q71=some (g_q71,rs_q71):=by kernel_rfl
theorem con_q71 (hv:vc Tryd.prog y g_q71 (retQ rs_q71 R) [(0,a0),(1,a1)] h):ConX y Tryd.prog 145 #[a0,a1] h R:=con_of Tryd.func145 gc_q71 rfl (fun h=>absurd h (by decide)) hv
def T_q77:List (Nat×List Nat):=[(0,[2,3,4]),(1,[3,4,5]),(2,[3,4,5,6]),(3,[3,4,5,6,15]),(4,[3,4,5,6]),(5,[3,4,5,6,7]),(6,[3,4,5,6,7,21]),(7,[3,4,5,6,7]),(8,[3,4,5,6,7]),(9,[4])]
abbrev g_q77_r0:GR:=(OP 0 2 (.box 75 (.tmp 0)) (OP 1 3 (.box 75 (.tmp 1)) (OP 2 4 (.alloc 75 [(.int .i64 0),(.slice none 0 0)]) .done)))
abbrev g_q77_r1:GR:=(OP 0 8 (.load (some 2) (.tmp 2)) (O3 1 9 0 3 (O2 2 10 9 (OP 3 11 (.call 159 [(.tmp 8),(.tmp 10)]) (OP 4 5 (.alloc 75 [(.int .i64 0),(.slice none 0 0)]) (OS 5 (.store 2 (.tmp 5) (.tmp 11)) .done))))))
abbrev g_q77_r2:GR:=(OP 0 6 (.mv (K 0)) .done)
abbrev g_q77_r3:GR:=(O1 0 12 6 (O3 1 13 0 3 (O2 2 14 13 (O5 3 15 .lss 12 14 .done))))
abbrev g_q77_r4:GR:=(OP 0 7 (.mv (K 0)) .done)
abbrev g_q77_r5:GR:=(O1 0 18 7 (O3 1 19 0 3 (O2 2 20 19 (O5 3 21 .lss 18 20 .done))))
abbrev g_q77_r6:GR:=(O3 0 24 1 5 (O6 1 25 24 (O1 2 26 6 (O4 3 27 1 25 26 (O6 4 28 27 (O1 5 29 7 (O3 6 30 1 5 (O6 7 31 30 (O1 8 32 6 (O4 9 33 1 31 32 (O6 10 34 33 (O1 11 35 7 (O4 12 36 1 34 35 (O6 13 37 36 (O1 14 38 37 (OG 15 39 38 false (.fieldAddr 1 (.tmp 3)) (.op (GI.mk 16 (some 40) (some (38,false)) (.load none (.tmp 39)) [] true) (OG 17 41 38 false (.mv (.tmp 6)) (OG 18 42 38 false (.indexAddr 1 (.tmp 40) (.tmp 41)) (.op (GI.mk 19 (some 43) (some (38,false)) (.load none (.tmp 42)) [] true) (OG 20 44 38 false (.mv (.tmp 7)) (OG 21 45 38 false (.indexAddr 1 (.tmp 43) (.tmp 44)) (.op (GI.mk 22 (some 46) (some (38,false)) (.load none (.tmp 45)) [] true) (OP 23 47 (.pick (.tmp 38) (.const (.bool true)) (.tmp 46)) (O4 24 48 1 28 29 (OS 25 (.store 1 (.tmp 48) (.tmp 47)) .done))))))))))))))))))))))))))
abbrev g_q77_r7:GR:=(O1 0 22 7 (OP 1 23 (.bin .add (.tmp 22) (K 1)) (O1 2 7 23 .done)))
abbrev g_q77_l8:GC:=(.seq (.seq (.reg g_q77_r5 [3,4,5,6,7,21]) (.cond (.tmp 21) .skip (.exit 2))) (.seq (.block 3 (.reg g_q77_r6 [3,4,5,6,7])) (.reg g_q77_r7 [3,4,5,6,7])))
abbrev g_q77_r9:GR:=(O1 0 16 6 (OP 1 17 (.bin .add (.tmp 16) (K 1)) (O1 2 6 17 .done)))
abbrev g_q77_l10:GC:=(.seq (.seq (.reg g_q77_r3 [3,4,5,6,15]) (.cond (.tmp 15) .skip (.exit 0))) (.seq (.block 1 (.seq (.reg g_q77_r4 [3,4,5,6,7]) (.block 2 (.loop g_q77_l8)))) (.reg g_q77_r9 [3,4,5,6])))
abbrev g_q77_r11:GR:=(OP 0 49 (.load (some 2) (.tmp 5)) (OS 1 (.store 2 (.tmp 4) (.tmp 49)) .done))
abbrev g_q77:GC:=(.seq (.reg g_q77_r0 [2,3,4]) (.seq (.reg g_q77_r1 [3,4,5]) (.seq (.seq (.reg g_q77_r2 [3,4,5,6]) (.block 0 (.loop g_q77_l10))) (.seq (.reg g_q77_r11 [4]) .ret))))
abbrev rs_q77:List RV:=[(.cell 4 (some 2))]
theorem gc_q77:compileF Tryd.prog Tryd.f146 T_q77=some (g_q77,rs_q77):=by kernel_rfl
theorem con_q77 (hv:vc Tryd.prog y g_q77 (retQ rs_q77 R) [(0,a0),(1,a1)] h):ConX y Tryd.prog 146 #[a0,a1] h R:=con_of Tryd.func146 gc_q77 rfl (fun h=>absurd h (by decide)) hv
def T_q95:List (Nat×List Nat):=[(0,[1,2,4]),(1,[4])]
abbrev g_q95_r0:GR:=(OP 0 2 (.box 26 (.tmp 0)) (OP 1 4 (.alloc 75 [(.int .i64 0),(.slice none 0 0)]) .done))
abbrev g_q95_r1:GR:=(O3 0 5 1 2 (O2 1 6 5 (OP 2 7 (.len (.tmp 6)) (O1 3 8 1 (OP 4 9 (.call 160 [(.tmp 7),(.tmp 8)]) (OS 5 (.store 2 (.tmp 4) (.tmp 9)) .done))))))
abbrev g_q95:GC:=(.seq (.reg g_q95_r0 [1,2,4]) (.seq (.reg g_q95_r1 [4]) .ret))
abbrev rs_q95:List RV:=[(.cell 4 (some 2))]
theorem gc_q95:compileF Tryd.prog Tryd.f147 T_q95=some (g_q95,rs_q95):=by kernel_rfl
theorem con_q95 (hv:vc Tryd.prog y g_q95 (retQ rs_q95 R) [(0,a0),(1,a1)] h):ConX y Tryd.prog 147 #[a0,a1] h R:=con_of Tryd.func147 gc_q95 rfl (fun h=>absurd h (by decide)) hv
def T_q73:List (Nat×List Nat):=[(0,[1,2]),(1,[1,2,3]),(2,[1,2,3,4]),(3,[1,2,3,4,12]),(4,[1,2,3,4]),(5,[1,2,3,4,5]),(6,[1,2,3,4,5,18]),(7,[1,2,3,4,5]),(8,[1,2,3,4,5]),(9,[2])]
abbrev g_q73_r0:GR:=(OP 0 1 (.box 75 (.tmp 0)) (OP 1 2 (.alloc 75 [(.int .i64 0),(.slice none 0 0)]) .done))
abbrev g_q73_r1:GR:=(O3 0 6 0 1 (O2 1 7 6 (OP 2 8 (.call 92 [(.tmp 7)]) (OP 3 3 (.alloc 75 [(.int .i64 0),(.slice none 0 0)]) (OS 4 (.store 2 (.tmp 3) (.tmp 8)) .done)))))
abbrev g_q73_r2:GR:=(OP 0 4 (.mv (K 0)) .done)
abbrev g_q73_r3:GR:=(O1 0 9 4 (O3 1 10 0 3 (O2 2 11 10 (O5 3 12 .lss 9 11 .done))))
abbrev g_q73_r4:GR:=(OP 0 5 (.mv (K 0)) .done)
abbrev g_q73_r5:GR:=(O1 0 15 5 (O3 1 16 0 3 (O2 2 17 16 (O5 3 18 .lss 15 17 .done))))
abbrev g_q73_r6:GR:=(O3 0 21 1 3 (O6 1 22 21 (O1 2 23 5 (O4 3 24 1 22 23 (O6 4 25 24 (O1 5 26 4 (O3 6 27 1 1 (O6 7 28 27 (O1 8 29 4 (O4 9 30 1 28 29 (O6 10 31 30 (O1 11 32 5 (O4 12 33 1 31 32 (O6 13 34 33 (O4 14 35 1 25 26 (OS 15 (.store 1 (.tmp 35) (.tmp 34)) .done))))))))))))))))
abbrev g_q73_r7:GR:=(O1 0 19 5 (OP 1 20 (.bin .add (.tmp 19) (K 1)) (O1 2 5 20 .done)))
abbrev g_q73_l8:GC:=(.seq (.seq (.reg g_q73_r5 [1,2,3,4,5,18]) (.cond (.tmp 18) .skip (.exit 2))) (.seq (.block 3 (.reg g_q73_r6 [1,2,3,4,5])) (.reg g_q73_r7 [1,2,3,4,5])))
abbrev g_q73_r9:GR:=(O1 0 13 4 (OP 1 14 (.bin .add (.tmp 13) (K 1)) (O1 2 4 14 .done)))
abbrev g_q73_l10:GC:=(.seq (.seq (.reg g_q73_r3 [1,2,3,4,12]) (.cond (.tmp 12) .skip (.exit 0))) (.seq (.block 1 (.seq (.reg g_q73_r4 [1,2,3,4,5]) (.block 2 (.loop g_q73_l8)))) (.reg g_q73_r9 [1,2,3,4])))
abbrev g_q73_r11:GR:=(OP 0 36 (.load (some 2) (.tmp 3)) (OS 1 (.store 2 (.tmp 2) (.tmp 36)) .done))
abbrev g_q73:GC:=(.seq (.reg g_q73_r0 [1,2]) (.seq (.reg g_q73_r1 [1,2,3]) (.seq (.seq (.reg g_q73_r2 [1,2,3,4]) (.block 0 (.loop g_q73_l10))) (.seq (.reg g_q73_r11 [2]) .ret))))
abbrev rs_q73:List RV:=[(.cell 2 (some 2))]
theorem gc_q73:compileF Tryd.prog Tryd.f148 T_q73=some (g_q73,rs_q73):=by kernel_rfl
theorem con_q73 (hv:vc Tryd.prog y g_q73 (retQ rs_q73 R) [(0,a0)] h):ConX y Tryd.prog 148 #[a0] h R:=con_of Tryd.func148 gc_q73 rfl (fun h=>absurd h (by decide)) hv
def T_q119:List (Nat×List Nat):=[(0,[0]),(1,[2])]
abbrev g_q119_r0:GR:=(OP 0 2 (.mv (.const (.pointer none))) .done)
abbrev g_q119_r1:GR:=(O1 0 3 0 (OP 1 4 (.call 151 [(.tmp 3),(K 0)]) (O1 2 2 4 .done)))
abbrev g_q119:GC:=(.seq (.reg g_q119_r0 [0]) (.seq (.reg g_q119_r1 [2]) .ret))
abbrev rs_q119:List RV:=[(.tmp 2)]
theorem gc_q119:compileF Tryd.prog Tryd.f150 T_q119=some (g_q119,rs_q119):=by kernel_rfl
theorem con_q119 (hv:vc Tryd.prog y g_q119 (retQ rs_q119 R) [(0,a0)] h):ConX y Tryd.prog 150 #[a0] h R:=con_of Tryd.func150 gc_q119 rfl (fun h=>absurd h (by decide)) hv
def T_q126:List (Nat×List Nat):=[(0,[0,1]),(1,[0,5]),(2,[5,18,19,20]),(3,[5,18,19,20,21]),(4,[5,6,7,18,19,20]),(5,[5,18,19,20]),(6,[5,18,19,20]),(7,[4])]
abbrev g_q126_r0:GR:=(OP 0 4 (.mv (.const (.pointer none))) .done)
abbrev g_q126_r1:GR:=(O1 0 8 1 (O1 1 9 0 (OP 2 10 (.nilCheck (.tmp 9)) (O3 3 11 0 10 (O2 4 12 11 (OP 5 13 (.maxi (.tmp 8) (.tmp 12)) (OP 6 14 (.call 56 [(.tmp 13)]) (O1 7 5 14 .done))))))))
abbrev g_q126_r2:GR:=(O1 0 15 0 (OP 1 16 (.nilCheck (.tmp 15)) (O3 2 17 1 16 (O2 3 18 17 (OP 4 19 (.len (.tmp 18)) (OP 5 20 (.mv (K 0)) .done))))))
abbrev g_q126_r3:GR:=(O5 0 21 .lss 20 19 .done)
abbrev g_q126_r4:GR:=(O1 0 22 20 (O4 1 23 1 18 20 (O2 2 24 23 (O1 3 6 22 (O1 4 7 24 .done)))))
abbrev g_q126_r5:GR:=(O1 0 25 5 (OP 1 26 (.nilCheck (.tmp 25)) (O3 2 27 1 26 (O2 3 28 27 (O1 4 29 6 (O4 5 30 1 28 29 (O2 6 31 30 (O1 7 32 7 (OP 8 33 (.buildSlice 145 1 [(.slice none 0 0)] [(0,(1,(.tmp 32)))]) (OP 9 34 (.call 100 [(.tmp 31),(.tmp 33)]) .done))))))))))
abbrev g_q126_r6:GR:=(OP 0 35 (.bin .add (.tmp 20) (K 1)) (O1 1 20 35 .done))
abbrev g_q126_l7:GC:=(.seq (.reg g_q126_r3 [5,18,19,20,21]) (.seq (.cond (.tmp 21) .skip (.exit 0)) (.seq (.block 1 (.seq (.reg g_q126_r4 [5,6,7,18,19,20]) (.reg g_q126_r5 [5,18,19,20]))) (.reg g_q126_r6 [5,18,19,20]))))
abbrev g_q126_r8:GR:=(O1 0 36 5 (O1 1 4 36 .done))
abbrev g_q126:GC:=(.seq (.reg g_q126_r0 [0,1]) (.seq (.reg g_q126_r1 [0,5]) (.seq (.seq (.reg g_q126_r2 [5,18,19,20]) (.block 0 (.loop g_q126_l7))) (.seq (.reg g_q126_r8 [4]) .ret))))
abbrev rs_q126:List RV:=[(.tmp 4)]
theorem gc_q126:compileF Tryd.prog Tryd.f151 T_q126=some (g_q126,rs_q126):=by kernel_rfl
theorem con_q126 (hv:vc Tryd.prog y g_q126 (retQ rs_q126 R) [(0,a0),(1,a1)] h):ConX y Tryd.prog 151 #[a0,a1] h R:=con_of Tryd.func151 gc_q126 rfl (fun h=>absurd h (by decide)) hv
def T_q133:List (Nat×List Nat):=[(0,[0,5,6,7]),(1,[0,5,6,7,8]),(2,[0,3,4,5,6,7]),(3,[0,3,4,5,6,7,13]),(4,[0,3,4,5,6,7]),(5,[0,3,4,5,6,7,25]),(6,[0,5,6,7])]
abbrev g_q133_r0:GR:=(O2 0 5 1 (OP 1 6 (.len (.tmp 5)) (OP 2 7 (.mv (K 0)) .done)))
abbrev g_q133_r1:GR:=(O5 0 8 .lss 7 6 .done)
abbrev g_q133_r2:GR:=(O1 0 9 7 (O4 1 10 1 5 7 (O2 2 11 10 (O1 3 3 9 (O1 4 4 11 .done)))))
abbrev g_q133_r3:GR:=(O1 0 12 4 (OP 1 13 (.bin .neq (.tmp 12) (.const (.int .u64 0))) .done))
abbrev g_q133_r4:GR:=(O1 0 18 0 (O1 1 19 3 (OP 2 20 (.bin .mul (K 64) (.tmp 19)) (O1 3 21 4 (OP 4 22 (.call 156 [(.tmp 21)]) (O5 5 23 .add 20 22 (OP 6 24 (.callv (.tmp 18) [(.tmp 23)]) (OP 7 25 (.not (.tmp 24)) .done))))))))
abbrev g_q133_r5:GR:=(O1 0 14 4 (O1 1 15 4 (OP 2 16 (.bin .sub (.tmp 15) (.const (.int .u64 1))) (O5 3 17 .and 14 16 (O1 4 4 17 .done)))))
abbrev g_q133_l6:GC:=(.seq (.seq (.reg g_q133_r3 [0,3,4,5,6,7,13]) (.cond (.tmp 13) .skip (.exit 2))) (.seq (.block 3 (.seq (.reg g_q133_r4 [0,3,4,5,6,7,25]) (.cond (.tmp 25) .ret .skip))) (.reg g_q133_r5 [0,3,4,5,6,7])))
abbrev g_q133_r7:GR:=(OP 0 26 (.bin .add (.tmp 7) (K 1)) (O1 1 7 26 .done))
abbrev g_q133_l8:GC:=(.seq (.reg g_q133_r1 [0,5,6,7,8]) (.seq (.cond (.tmp 8) .skip (.exit 0)) (.seq (.block 1 (.seq (.reg g_q133_r2 [0,3,4,5,6,7]) (.block 2 (.loop g_q133_l6)))) (.reg g_q133_r7 [0,5,6,7]))))
abbrev g_q133:GC:=(.seq (.reg g_q133_r0 [0,5,6,7]) (.block 0 (.loop g_q133_l8)))
abbrev rs_q133:List RV:=[]
theorem gc_q133:compileF Tryd.prog Tryd.f155 T_q133=some (g_q133,rs_q133):=by kernel_rfl
theorem con_q133 (hv:vc Tryd.prog y g_q133 (retQ rs_q133 R) [(0,a0),(1,a1)] h):ConX y Tryd.prog 155 #[a0,a1] h R:=con_of Tryd.func155 gc_q133 rfl (fun h=>absurd h (by decide)) hv
def T_q50:List (Nat×List Nat):=[(0,[0]),(1,[0,4]),(2,[2]),(3,[2])]
abbrev g_q50_r0:GR:=(OP 0 2 (.mv (K 0)) .done)
abbrev g_q50_r1:GR:=(O1 0 3 0 (OP 1 4 (.bin .eql (.tmp 3) (.const (.int .u64 0))) .done))
abbrev g_q50_r2:GR:=(OP 0 2 (.mv (K 64)) .done)
abbrev g_q50_r3:GR:=(O1 0 5 0 (O1 1 6 0 (OP 2 7 (.neg (.tmp 6)) (O5 3 8 .and 5 7 (OP 4 9 (.bin .mul (.tmp 8) (.const (.int .u64 285870213051353865))) (OP 5 10 (.shift .shr (.tmp 9) (.const (.int .u64 58))) (OP 6 11 (.indexArr 1 64 (.global 0) (.tmp 10)) (O2 7 12 11 (OP 8 13 (.conv .i64 (.tmp 12)) (O1 9 2 13 .done))))))))))
abbrev g_q50:GC:=(.seq (.reg g_q50_r0 [0]) (.seq (.seq (.reg g_q50_r1 [0,4]) (.cond (.tmp 4) (.seq (.reg g_q50_r2 [2]) .ret) .skip)) (.seq (.reg g_q50_r3 [2]) .ret)))
abbrev rs_q50:List RV:=[(.tmp 2)]
theorem gc_q50:compileF Tryd.prog Tryd.f156 T_q50=some (g_q50,rs_q50):=by kernel_rfl
theorem con_q50 (hv:vc Tryd.prog y g_q50 (retQ rs_q50 R) [(0,a0)] h):ConX y Tryd.prog 156 #[a0] h R:=con_of Tryd.func156 gc_q50 rfl (fun h=>absurd h (by decide)) hv
def T_q155:List (Nat×List Nat):=[(0,[0,1]),(1,[0,1,7,8]),(2,[0,1,7,8,9]),(3,[0,1,5,7,8]),(4,[0,1,5,7,8,16]),(5,[4]),(6,[0,1,7,8]),(7,[4])]
abbrev g_q155_r0:GR:=(OP 0 4 (.mv (K 0)) .done)
abbrev g_q155_r1:GR:=(O1 0 6 0 (OP 1 7 (.len (.tmp 6)) (OP 2 8 (.mv (K 0)) .done)))
abbrev g_q155_r2:GR:=(O5 0 9 .lss 8 7 .done)
abbrev g_q155_r3:GR:=(O1 0 10 8 (O1 1 5 10 .done))
abbrev g_q155_r4:GR:=(O1 0 11 1 (O1 1 12 0 (O1 2 13 5 (O4 3 14 1 12 13 (O2 4 15 14 (O5 5 16 .eql 11 15 .done))))))
abbrev g_q155_r5:GR:=(O1 0 17 5 (O1 1 4 17 .done))
abbrev g_q155_r6:GR:=(OP 0 18 (.bin .add (.tmp 8) (K 1)) (O1 1 8 18 .done))
abbrev g_q155_l7:GC:=(.seq (.reg g_q155_r2 [0,1,7,8,9]) (.seq (.cond (.tmp 9) .skip (.exit 0)) (.seq (.block 1 (.seq (.reg g_q155_r3 [0,1,5,7,8]) (.seq (.reg g_q155_r4 [0,1,5,7,8,16]) (.cond (.tmp 16) (.seq (.reg g_q155_r5 [4]) .ret) .skip)))) (.reg g_q155_r6 [0,1,7,8]))))
abbrev g_q155_r8:GR:=(OP 0 4 (.mv (K (-1))) .done)
abbrev g_q155:GC:=(.seq (.reg g_q155_r0 [0,1]) (.seq (.seq (.reg g_q155_r1 [0,1,7,8]) (.block 0 (.loop g_q155_l7))) (.seq (.reg g_q155_r8 [4]) .ret)))
abbrev rs_q155:List RV:=[(.tmp 4)]
theorem gc_q155:compileF Tryd.prog Tryd.f158 T_q155=some (g_q155,rs_q155):=by kernel_rfl
theorem con_q155 (hv:vc Tryd.prog y g_q155 (retQ rs_q155 R) [(0,a0),(1,a1)] h):ConX y Tryd.prog 158 #[a0,a1] h R:=con_of Tryd.func158 gc_q155 rfl (fun h=>absurd h (by decide)) hv
def T_q78:List (Nat×List Nat):=[(0,[1,2,4]),(1,[1,2,4,11]),(2,[1,2,4]),(3,[2,4,5]),(4,[2,4,5,6]),(5,[2,4,5,6,19]),(6,[2,4,5,6]),(7,[2,4,5,6,7]),(8,[2,4,5,6,7,25]),(9,[2,4,5,6,7]),(10,[2,4,5,6,7]),(11,[4])]
abbrev g_q78_r0:GR:=(OP 0 2 (.box 75 (.tmp 0)) (OP 1 4 (.alloc 75 [(.int .i64 0),(.slice none 0 0)]) .done))
abbrev g_q78_r1:GR:=(O3 0 8 0 2 (O2 1 9 8 (O1 2 10 1 (O5 3 11 .gtr 9 10 .done))))
abbrev g_q78_r2:GR:=(O3 0 12 0 2 (O2 1 13 12 (O1 2 1 13 .done)))
abbrev g_q78_r3:GR:=(O1 0 14 1 (OP 1 15 (.call 92 [(.tmp 14)]) (OP 2 5 (.alloc 75 [(.int .i64 0),(.slice none 0 0)]) (OS 3 (.store 2 (.tmp 5) (.tmp 15)) .done))))
abbrev g_q78_r4:GR:=(OP 0 6 (.mv (K 0)) .done)
abbrev g_q78_r5:GR:=(O1 0 16 6 (O3 1 17 0 2 (O2 2 18 17 (O5 3 19 .lss 16 18 .done))))
abbrev g_q78_r6:GR:=(OP 0 7 (.mv (K 0)) .done)
abbrev g_q78_r7:GR:=(O1 0 22 7 (O3 1 23 0 2 (O2 2 24 23 (O5 3 25 .lss 22 24 .done))))
abbrev g_q78_r8:GR:=(O3 0 28 1 5 (O6 1 29 28 (O1 2 30 6 (O4 3 31 1 29 30 (O6 4 32 31 (O1 5 33 7 (O3 6 34 1 2 (O6 7 35 34 (O1 8 36 6 (O4 9 37 1 35 36 (O6 10 38 37 (O1 11 39 7 (O4 12 40 1 38 39 (O6 13 41 40 (O4 14 42 1 32 33 (OS 15 (.store 1 (.tmp 42) (.tmp 41)) .done))))))))))))))))
abbrev g_q78_r9:GR:=(O1 0 26 7 (OP 1 27 (.bin .add (.tmp 26) (K 1)) (O1 2 7 27 .done)))
abbrev g_q78_l10:GC:=(.seq (.seq (.reg g_q78_r7 [2,4,5,6,7,25]) (.cond (.tmp 25) .skip (.exit 2))) (.seq (.block 3 (.reg g_q78_r8 [2,4,5,6,7])) (.reg g_q78_r9 [2,4,5,6,7])))
abbrev g_q78_r11:GR:=(O1 0 20 6 (OP 1 21 (.bin .add (.tmp 20) (K 1)) (O1 2 6 21 .done)))
abbrev g_q78_l12:GC:=(.seq (.seq (.reg g_q78_r5 [2,4,5,6,19]) (.cond (.tmp 19) .skip (.exit 0))) (.seq (.block 1 (.seq (.reg g_q78_r6 [2,4,5,6,7]) (.block 2 (.loop g_q78_l10)))) (.reg g_q78_r11 [2,4,5,6])))
abbrev g_q78_r13:GR:=(OP 0 43 (.load (some 2) (.tmp 5)) (OS 1 (.store 2 (.tmp 4) (.tmp 43)) .done))
abbrev g_q78:GC:=(.seq (.reg g_q78_r0 [1,2,4]) (.seq (.seq (.reg g_q78_r1 [1,2,4,11]) (.cond (.tmp 11) (.reg g_q78_r2 [1,2,4]) .skip)) (.seq (.reg g_q78_r3 [2,4,5]) (.seq (.seq (.reg g_q78_r4 [2,4,5,6]) (.block 0 (.loop g_q78_l12))) (.seq (.reg g_q78_r13 [4]) .ret)))))
abbrev rs_q78:List RV:=[(.cell 4 (some 2))]
theorem gc_q78:compileF Tryd.prog Tryd.f159 T_q78=some (g_q78,rs_q78):=by kernel_rfl
theorem con_q78 (hv:vc Tryd.prog y g_q78 (retQ rs_q78 R) [(0,a0),(1,a1)] h):ConX y Tryd.prog 159 #[a0,a1] h R:=con_of Tryd.func159 gc_q78 rfl (fun h=>absurd h (by decide)) hv
def T_q75:List (Nat×List Nat):=[(0,[0,1,4]),(1,[1,4,5]),(2,[1,4,5,6]),(3,[1,4,5,6,12]),(4,[1,4,5,6]),(5,[1,4,5,6,30]),(6,[1,4,5,6]),(7,[4])]
abbrev g_q75_r0:GR:=(OP 0 4 (.alloc 75 [(.int .i64 0),(.slice none 0 0)]) .done)
abbrev g_q75_r1:GR:=(O1 0 7 0 (OP 1 8 (.call 92 [(.tmp 7)]) (OP 2 5 (.alloc 75 [(.int .i64 0),(.slice none 0 0)]) (OS 3 (.store 2 (.tmp 5) (.tmp 8)) .done))))
abbrev g_q75_r2:GR:=(OP 0 6 (.mv (K 0)) .done)
abbrev g_q75_r3:GR:=(O1 0 9 6 (O1 1 10 1 (OP 2 11 (.len (.tmp 10)) (O5 3 12 .lss 9 11 .done))))
abbrev g_q75_r4:GR:=(OW 0 15 (.load (some 2) (.tmp 5)) (O1 1 16 1 (O1 2 17 6 (O4 3 18 2 16 17 (O3 4 19 0 18 (O6 5 20 19 (OP 6 21 (.call 163 [(.tmp 15),(.tmp 20)]) (O1 7 22 21 (.op (GI.mk 8 (some 23) (some (22,true)) (.load (some 2) (.tmp 5)) [] true) (OG 9 24 22 true (.mv (.tmp 1)) (OG 10 25 22 true (.mv (.tmp 6)) (OG 11 26 22 true (.indexAddr 2 (.tmp 24) (.tmp 25)) (OG 12 27 22 true (.fieldAddr 1 (.tmp 26)) (.op (GI.mk 13 (some 28) (some (22,true)) (.load none (.tmp 27)) [] true) (.op (GI.mk 14 (some 29) (some (22,true)) (.call 163 [(.tmp 23),(.tmp 28)]) [0,5] false) (OP 15 30 (.pick (.tmp 22) (.tmp 29) (.const (.bool false))) .done))))))))))))))))
abbrev g_q75_r5:GR:=(O3 0 31 1 5 (O6 1 32 31 (O1 2 33 1 (O1 3 34 6 (O4 4 35 2 33 34 (O3 5 36 0 35 (O6 6 37 36 (O4 7 38 1 32 37 (O6 8 39 38 (O1 9 40 1 (O1 10 41 6 (O4 11 42 2 40 41 (O3 12 43 1 42 (O6 13 44 43 (O4 14 45 1 39 44 (OS 15 (.store 1 (.tmp 45) (.const (.bool true))) .done))))))))))))))))
abbrev g_q75_r6:GR:=(O1 0 13 6 (OP 1 14 (.bin .add (.tmp 13) (K 1)) (O1 2 6 14 .done)))
abbrev g_q75_l7:GC:=(.seq (.seq (.reg g_q75_r3 [1,4,5,6,12]) (.cond (.tmp 12) .skip (.exit 0))) (.seq (.block 1 (.seq (.reg g_q75_r4 [1,4,5,6,30]) (.cond (.tmp 30) (.reg g_q75_r5 [1,4,5,6]) .skip))) (.reg g_q75_r6 [1,4,5,6])))
abbrev g_q75_r8:GR:=(OP 0 46 (.load (some 2) (.tmp 5)) (OS 1 (.store 2 (.tmp 4) (.tmp 46)) .done))
abbrev g_q75:GC:=(.seq (.reg g_q75_r0 [0,1,4]) (.seq (.reg g_q75_r1 [1,4,5]) (.seq (.seq (.reg g_q75_r2 [1,4,5,6]) (.block 0 (.loop g_q75_l7))) (.seq (.reg g_q75_r8 [4]) .ret))))
abbrev rs_q75:List RV:=[(.cell 4 (some 2))]
theorem gc_q75:compileF Tryd.prog Tryd.f160 T_q75=some (g_q75,rs_q75):=by kernel_rfl
theorem con_q75 (hv:vc Tryd.prog y g_q75 (retQ rs_q75 R) [(0,a0),(1,a1)] h):ConX y Tryd.prog 160 #[a0,a1] h R:=con_of Tryd.func160 gc_q75 rfl (fun h=>absurd h (by decide)) hv
def T_q80:List (Nat×List Nat):=[(0,[1,2]),(1,[4])]
abbrev g_q80_r0:GR:=(OP 0 2 (.box 75 (.tmp 0)) (OP 1 4 (.mv (.const (.bool false))) .done))
abbrev g_q80_r1:GR:=(O1 0 5 1 (OP 1 6 (.bin .geq (.tmp 5) (K 0)) (O1 2 7 6 (OG 3 8 7 true (.mv (.tmp 1)) (OG 4 9 7 true (.fieldAddr 0 (.tmp 2)) (OG 5 10 7 true (.load none (.tmp 9)) (OG 6 11 7 true (.bin .lss (.tmp 8) (.tmp 10)) (OP 7 12 (.pick (.tmp 7) (.tmp 11) (.const (.bool false))) (O1 8 4 12 .done)))))))))
abbrev g_q80:GC:=(.seq (.reg g_q80_r0 [1,2]) (.seq (.reg g_q80_r1 [4]) .ret))
abbrev rs_q80:List RV:=[(.tmp 4)]
theorem gc_q80:compileF Tryd.prog Tryd.f163 T_q80=some (g_q80,rs_q80):=by kernel_rfl
theorem con_q80 (hv:vc Tryd.prog y g_q80 (retQ rs_q80 R) [(0,a0),(1,a1)] h):ConX y Tryd.prog 163 #[a0,a1] h R:=con_of Tryd.func163 gc_q80 rfl (fun h=>absurd h (by decide)) hv
end Go.Proofs.Tst
