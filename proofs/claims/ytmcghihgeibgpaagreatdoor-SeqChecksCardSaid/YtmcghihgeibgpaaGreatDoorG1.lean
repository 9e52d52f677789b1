/-
  The compiled forms of functions that the law reaches, each checked against the program by the kernel. No condition.
-/
import Derived.Test.YtmcghihgeibgpaaGreatDoorV3
import Derived.Test.YtmcghihgeibgpaaGreatDoorProg
set_option linter.all false
set_option maxRecDepth 2000
namespace Go.Proofs.Tst
open Go Go.Vc
variable {y : Option Nat} {a0 a1 a2 a3 a4 a5 a6 a7 : Value} {h : Heap} {R : Value → Heap → Prop}
def T_q14:List (Nat×List Nat):=[(0,[1]),(1,[1,3]),(2,[1,3,4,5,6]),(3,[1,3,4,5,6,7,8,9]),(4,[1,3,5,8,39]),(5,[2]),(6,[1,3,5,8,10]),(7,[1,3,5,8,10,43]),(8,[1,3,5,8,10]),(9,[1,3,5,8,10]),(10,[1,3,5,8]),(11,[1,3,58]),(12,[2]),(13,[1,3,4,5,6]),(14,[1,3,4,5,6,7,8,9]),(15,[1,3,5,8,84]),(16,[2]),(17,[1,3,5,8,11]),(18,[1,3,5,8,11,88]),(19,[1,3,5,8,11]),(20,[1,3,5,8,11]),(21,[1,3,5,8]),(22,[2])]
abbrev g_q14_r0:GR:=(OP 0 1 (.box 26 (.tmp 0)) (OP 1 2 (.mv (.const (.bool false))) .done))
abbrev g_q14_r1:GR:=(OP 0 12 (.load (some 8) (.tmp 1)) (OP 1 13 (.call 4 [(.tmp 12)]) (OP 2 3 (.alloc 26 [(.int .i64 0),(.slice none 0 0),(.slice none 0 0),(.slice none 0 0),(.slice none 0 0),(.slice none 0 0),(.slice none 0 0),(.slice none 0 0)]) (OS 3 (.store 8 (.tmp 3) (.tmp 13)) .done))))
abbrev g_q14_r2:GR:=(OP 0 15 (.load (some 8) (.tmp 3)) (OP 1 16 (.call 5 [(.tmp 15)]) (O1 2 14 16 (OP 3 17 (.extract 0 (.tmp 14)) (OP 4 18 (.extract 1 (.tmp 14)) (OP 5 19 (.extract 2 (.tmp 14)) (O1 6 4 17 (O1 7 5 18 (O1 8 6 19 .done)))))))))
abbrev g_q14_r3:GR:=(OP 0 21 (.load (some 8) (.tmp 1)) (OP 1 22 (.call 6 [(.tmp 21)]) (O1 2 20 22 (OP 3 23 (.extract 0 (.tmp 20)) (OP 4 24 (.extract 1 (.tmp 20)) (OP 5 25 (.extract 2 (.tmp 20)) (O1 6 7 23 (O1 7 8 24 (O1 8 9 25 .done)))))))))
abbrev g_q14_r4:GR:=(O1 0 26 6 (O1 1 27 9 (O5 2 28 .neq 26 27 (O1 3 29 28 (OG 4 30 29 false (.mv (.tmp 4)) (OG 5 31 29 false (.mv (.tmp 7)) (OG 6 32 29 false (.bin .neq (.tmp 30) (.tmp 31)) (OP 7 33 (.pick (.tmp 29) (.const (.bool true)) (.tmp 32)) (O1 8 34 33 (OG 9 35 34 false (.mv (.tmp 5)) (OG 10 36 34 false (.mv (.tmp 8)) (OG 11 37 34 false (.call 7 [(.tmp 35),(.tmp 36)]) (OG 12 38 34 false (.not (.tmp 37)) (OP 13 39 (.pick (.tmp 34) (.const (.bool true)) (.tmp 38)) .done))))))))))))))
abbrev g_q14_r5:GR:=(OP 0 2 (.mv (.const (.bool false))) .done)
abbrev g_q14_r6:GR:=(OP 0 10 (.mv (K 0)) .done)
abbrev g_q14_r7:GR:=(O1 0 40 10 (O1 1 41 5 (OP 2 42 (.len (.tmp 41)) (O5 3 43 .lss 40 42 .done))))
abbrev g_q14_r8:GR:=(O1 0 46 5 (O1 1 47 10 (O4 2 48 1 46 47 (OS 3 (.store 1 (.tmp 48) (K (-1))) .done))))
abbrev g_q14_r9:GR:=(O1 0 44 10 (OP 1 45 (.bin .add (.tmp 44) (K 1)) (O1 2 10 45 .done)))
abbrev g_q14_l10:GC:=(.seq (.seq (.reg g_q14_r7 [1,3,5,8,10,43]) (.cond (.tmp 43) .skip (.exit 0))) (.seq (.block 1 (.reg g_q14_r8 [1,3,5,8,10])) (.reg g_q14_r9 [1,3,5,8,10])))
abbrev g_q14_r11:GR:=(OP 0 50 (.load (some 8) (.tmp 3)) (OP 1 51 (.call 5 [(.tmp 50)]) (O1 2 49 51 (OP 3 52 (.extract 0 (.tmp 49)) (OP 4 53 (.extract 1 (.tmp 49)) (OP 5 54 (.extract 2 (.tmp 49)) (O1 6 5 53 .done)))))))
abbrev g_q14_r12:GR:=(O1 0 55 5 (O1 1 56 8 (OP 2 57 (.call 7 [(.tmp 55),(.tmp 56)]) (OP 3 58 (.not (.tmp 57)) .done))))
abbrev g_q14_r13:GR:=(OP 0 2 (.mv (.const (.bool false))) .done)
abbrev g_q14_r14:GR:=(OP 0 60 (.load (some 8) (.tmp 3)) (OP 1 61 (.call 8 [(.tmp 60)]) (O1 2 59 61 (OP 3 62 (.extract 0 (.tmp 59)) (OP 4 63 (.extract 1 (.tmp 59)) (OP 5 64 (.extract 2 (.tmp 59)) (O1 6 4 62 (O1 7 5 63 (O1 8 6 64 .done)))))))))
abbrev g_q14_r15:GR:=(OP 0 66 (.load (some 8) (.tmp 1)) (OP 1 67 (.call 9 [(.tmp 66)]) (O1 2 65 67 (OP 3 68 (.extract 0 (.tmp 65)) (OP 4 69 (.extract 1 (.tmp 65)) (OP 5 70 (.extract 2 (.tmp 65)) (O1 6 7 68 (O1 7 8 69 (O1 8 9 70 .done)))))))))
abbrev g_q14_r16:GR:=(O1 0 71 6 (O1 1 72 9 (O5 2 73 .neq 71 72 (O1 3 74 73 (OG 4 75 74 false (.mv (.tmp 4)) (OG 5 76 74 false (.mv (.tmp 7)) (OG 6 77 74 false (.bin .neq (.tmp 75) (.tmp 76)) (OP 7 78 (.pick (.tmp 74) (.const (.bool true)) (.tmp 77)) (O1 8 79 78 (OG 9 80 79 false (.mv (.tmp 5)) (OG 10 81 79 false (.mv (.tmp 8)) (OG 11 82 79 false (.call 7 [(.tmp 80),(.tmp 81)]) (OG 12 83 79 false (.not (.tmp 82)) (OP 13 84 (.pick (.tmp 79) (.const (.bool true)) (.tmp 83)) .done))))))))))))))
abbrev g_q14_r17:GR:=(OP 0 2 (.mv (.const (.bool false))) .done)
abbrev g_q14_r18:GR:=(OP 0 11 (.mv (K 0)) .done)
abbrev g_q14_r19:GR:=(O1 0 85 11 (O1 1 86 5 (OP 2 87 (.len (.tmp 86)) (O5 3 88 .lss 85 87 .done))))
abbrev g_q14_r20:GR:=(O1 0 91 5 (O1 1 92 11 (O4 2 93 1 91 92 (OS 3 (.store 1 (.tmp 93) (K (-1))) .done))))
abbrev g_q14_r21:GR:=(O1 0 89 11 (OP 1 90 (.bin .add (.tmp 89) (K 1)) (O1 2 11 90 .done)))
abbrev g_q14_l22:GC:=(.seq (.seq (.reg g_q14_r19 [1,3,5,8,11,88]) (.cond (.tmp 88) .skip (.exit 2))) (.seq (.block 3 (.reg g_q14_r20 [1,3,5,8,11])) (.reg g_q14_r21 [1,3,5,8,11])))
abbrev g_q14_r23:GR:=(OP 0 95 (.load (some 8) (.tmp 3)) (OP 1 96 (.call 8 [(.tmp 95)]) (O1 2 94 96 (OP 3 97 (.extract 0 (.tmp 94)) (OP 4 98 (.extract 1 (.tmp 94)) (OP 5 99 (.extract 2 (.tmp 94)) (O1 6 5 98 .done)))))))
abbrev g_q14_r24:GR:=(O1 0 100 5 (O1 1 101 8 (OP 2 102 (.call 7 [(.tmp 100),(.tmp 101)]) (O1 3 103 102 (OG 4 104 103 true (.load (some 8) (.tmp 3)) (OG 5 105 103 true (.load (some 8) (.tmp 1)) (OG 6 106 103 true (.call 10 [(.tmp 104),(.tmp 105)]) (OP 7 107 (.pick (.tmp 103) (.tmp 106) (.const (.bool false))) (O1 8 108 107 (OG 9 109 108 true (.call 11 []) (OP 10 110 (.pick (.tmp 108) (.tmp 109) (.const (.bool false))) (O1 11 2 110 .done))))))))))))
abbrev g_q14:GC:=(.seq (.reg g_q14_r0 [1]) (.seq (.reg g_q14_r1 [1,3]) (.seq (.reg g_q14_r2 [1,3,4,5,6]) (.seq (.reg g_q14_r3 [1,3,4,5,6,7,8,9]) (.seq (.seq (.reg g_q14_r4 [1,3,5,8,39]) (.cond (.tmp 39) (.seq (.reg g_q14_r5 [2]) .ret) .skip)) (.seq (.seq (.reg g_q14_r6 [1,3,5,8,10]) (.block 0 (.loop g_q14_l10))) (.seq (.reg g_q14_r11 [1,3,5,8]) (.seq (.seq (.reg g_q14_r12 [1,3,58]) (.cond (.tmp 58) (.seq (.reg g_q14_r13 [2]) .ret) .skip)) (.seq (.reg g_q14_r14 [1,3,4,5,6]) (.seq (.reg g_q14_r15 [1,3,4,5,6,7,8,9]) (.seq (.seq (.reg g_q14_r16 [1,3,5,8,84]) (.cond (.tmp 84) (.seq (.reg g_q14_r17 [2]) .ret) .skip)) (.seq (.seq (.reg g_q14_r18 [1,3,5,8,11]) (.block 2 (.loop g_q14_l22))) (.seq (.reg g_q14_r23 [1,3,5,8]) (.seq (.reg g_q14_r24 [2]) .ret))))))))))))))
abbrev rs_q14:List RV:=[(.tmp 2)]
theorem gc_q14:compileF Tryz.prog Tryz.f3 T_q14=some (g_q14,rs_q14):=by kernel_rfl
theorem con_q14 (hv:vc Tryz.prog y g_q14 (retQ rs_q14 R) [(0,a0)] h):ConX y Tryz.prog 3 #[a0] h R:=con_of Tryz.func3 gc_q14 rfl (fun h=>absurd h (by decide)) hv
def T_q46:List (Nat×List Nat):=[(0,[1,2]),(1,[1,2,3]),(2,[1,2,3]),(3,[1,2,3]),(4,[1,2,3]),(5,[1,2,3]),(6,[1,2,3]),(7,[1,2,3]),(8,[1,2,3,4]),(9,[1,2,3,4,50]),(10,[1,2,3,4]),(11,[1,2,3,4,5]),(12,[1,2,3,4,5,6]),(13,[1,2,3,4,5,6,60]),(14,[1,2,3,4,5,6]),(15,[1,2,3,4,5,6]),(16,[1,2,3,4]),(17,[2])]
abbrev g_q46_r0:GR:=(OP 0 1 (.box 26 (.tmp 0)) (OP 1 2 (.alloc 26 [(.int .i64 0),(.slice none 0 0),(.slice none 0 0),(.slice none 0 0),(.slice none 0 0),(.slice none 0 0),(.slice none 0 0),(.slice none 0 0)]) .done))
abbrev g_q46_r1:GR:=(O3 0 7 0 1 (O2 1 8 7 (OP 2 9 (.build [(.int .i64 0),(.slice none 0 0),(.slice none 0 0),(.slice none 0 0),(.slice none 0 0),(.slice none 0 0),(.slice none 0 0),(.slice none 0 0)] [(0,(1,(.tmp 8)))]) (OP 3 3 (.alloc 26 [(.int .i64 0),(.slice none 0 0),(.slice none 0 0),(.slice none 0 0),(.slice none 0 0),(.slice none 0 0),(.slice none 0 0),(.slice none 0 0)]) (OS 4 (.store 8 (.tmp 3) (.tmp 9)) .done)))))
abbrev g_q46_r2:GR:=(O3 0 10 1 3 (O2 1 11 10 (O3 2 12 1 1 (O2 3 13 12 (OP 4 14 (.append 63 5 40 [(.int .i64 0),(.int .i64 0),(.int .i64 0),(.int .u64 0),(.int .i64 0)] (.tmp 11) (.tmp 13)) (O3 5 15 1 3 (OS 6 (.store 1 (.tmp 15) (.tmp 14)) .done)))))))
abbrev g_q46_r3:GR:=(O3 0 16 2 3 (O2 1 17 16 (O3 2 18 2 1 (O2 3 19 18 (OP 4 20 (.append 76 2 16 [(.int .i64 0),(.int .i64 0)] (.tmp 17) (.tmp 19)) (O3 5 21 2 3 (OS 6 (.store 1 (.tmp 21) (.tmp 20)) .done)))))))
abbrev g_q46_r4:GR:=(O3 0 22 4 3 (O2 1 23 22 (O3 2 24 4 1 (O2 3 25 24 (OP 4 26 (.append 76 2 16 [(.int .i64 0),(.int .i64 0)] (.tmp 23) (.tmp 25)) (O3 5 27 4 3 (OS 6 (.store 1 (.tmp 27) (.tmp 26)) .done)))))))
abbrev g_q46_r5:GR:=(O3 0 28 5 3 (O2 1 29 28 (O3 2 30 5 1 (O2 3 31 30 (OP 4 32 (.append 76 2 16 [(.int .i64 0),(.int .i64 0)] (.tmp 29) (.tmp 31)) (O3 5 33 5 3 (OS 6 (.store 1 (.tmp 33) (.tmp 32)) .done)))))))
abbrev g_q46_r6:GR:=(O3 0 34 6 3 (O2 1 35 34 (O3 2 36 6 1 (O2 3 37 36 (OP 4 38 (.append 76 2 16 [(.int .i64 0),(.int .i64 0)] (.tmp 35) (.tmp 37)) (O3 5 39 6 3 (OS 6 (.store 1 (.tmp 39) (.tmp 38)) .done)))))))
abbrev g_q46_r7:GR:=(O3 0 40 7 3 (O2 1 41 40 (O3 2 42 7 1 (O2 3 43 42 (OP 4 44 (.append 76 2 16 [(.int .i64 0),(.int .i64 0)] (.tmp 41) (.tmp 43)) (O3 5 45 7 3 (OS 6 (.store 1 (.tmp 45) (.tmp 44)) .done)))))))
abbrev g_q46_r8:GR:=(OP 0 4 (.mv (K 0)) .done)
abbrev g_q46_r9:GR:=(O1 0 46 4 (O3 1 47 3 1 (O2 2 48 47 (OP 3 49 (.len (.tmp 48)) (O5 4 50 .lss 46 49 .done)))))
abbrev g_q46_r10:GR:=(OP 0 5 (.mv (.const (.slice none 0 0))) .done)
abbrev g_q46_r11:GR:=(OP 0 6 (.mv (K 0)) .done)
abbrev g_q46_r12:GR:=(O1 0 53 6 (O3 1 54 3 1 (O2 2 55 54 (O1 3 56 4 (O4 4 57 1 55 56 (O2 5 58 57 (OP 6 59 (.len (.tmp 58)) (O5 7 60 .lss 53 59 .done))))))))
abbrev g_q46_r13:GR:=(O1 0 63 5 (O3 1 64 3 1 (O2 2 65 64 (O1 3 66 4 (O4 4 67 1 65 66 (O2 5 68 67 (O1 6 69 6 (O4 7 70 1 68 69 (O2 8 71 70 (OP 9 72 (.buildSlice 3 1 [(.int .i64 0)] [(0,(1,(.tmp 71)))]) (OP 10 73 (.append 3 1 8 [(.int .i64 0)] (.tmp 63) (.tmp 72)) (O1 11 5 73 .done))))))))))))
abbrev g_q46_r14:GR:=(O1 0 61 6 (OP 1 62 (.bin .add (.tmp 61) (K 1)) (O1 2 6 62 .done)))
abbrev g_q46_l15:GC:=(.seq (.seq (.reg g_q46_r12 [1,2,3,4,5,6,60]) (.cond (.tmp 60) .skip (.exit 2))) (.seq (.block 3 (.reg g_q46_r13 [1,2,3,4,5,6])) (.reg g_q46_r14 [1,2,3,4,5,6])))
abbrev g_q46_r16:GR:=(O3 0 74 3 3 (O2 1 75 74 (O1 2 76 5 (OP 3 77 (.buildSlice 28 1 [(.slice none 0 0)] [(0,(1,(.tmp 76)))]) (OP 4 78 (.append 28 1 24 [(.slice none 0 0)] (.tmp 75) (.tmp 77)) (O3 5 79 3 3 (OS 6 (.store 1 (.tmp 79) (.tmp 78)) .done)))))))
abbrev g_q46_r17:GR:=(O1 0 51 4 (OP 1 52 (.bin .add (.tmp 51) (K 1)) (O1 2 4 52 .done)))
abbrev g_q46_l18:GC:=(.seq (.seq (.reg g_q46_r9 [1,2,3,4,50]) (.cond (.tmp 50) .skip (.exit 0))) (.seq (.block 1 (.seq (.reg g_q46_r10 [1,2,3,4,5]) (.seq (.seq (.reg g_q46_r11 [1,2,3,4,5,6]) (.block 2 (.loop g_q46_l15))) (.reg g_q46_r16 [1,2,3,4])))) (.reg g_q46_r17 [1,2,3,4])))
abbrev g_q46_r19:GR:=(OP 0 80 (.load (some 8) (.tmp 3)) (OS 1 (.store 8 (.tmp 2) (.tmp 80)) .done))
abbrev g_q46:GC:=(.seq (.reg g_q46_r0 [1,2]) (.seq (.reg g_q46_r1 [1,2,3]) (.seq (.reg g_q46_r2 [1,2,3]) (.seq (.reg g_q46_r3 [1,2,3]) (.seq (.reg g_q46_r4 [1,2,3]) (.seq (.reg g_q46_r5 [1,2,3]) (.seq (.reg g_q46_r6 [1,2,3]) (.seq (.reg g_q46_r7 [1,2,3]) (.seq (.seq (.reg g_q46_r8 [1,2,3,4]) (.block 0 (.loop g_q46_l18))) (.seq (.reg g_q46_r19 [2]) .ret))))))))))
abbrev rs_q46:List RV:=[(.cell 2 (some 8))]
theorem gc_q46:compileF Tryz.prog Tryz.f4 T_q46=some (g_q46,rs_q46):=by kernel_rfl
theorem con_q46 (hv:vc Tryz.prog y g_q46 (retQ rs_q46 R) [(0,a0)] h):ConX y Tryz.prog 4 #[a0] h R:=con_of Tryz.func4 gc_q46 rfl (fun h=>absurd h (by decide)) hv
def T_q89:List (Nat×List Nat):=[(0,[1]),(1,[1,5,6]),(2,[1,5,6,13]),(3,[2,3,4]),(4,[2,3,4])]
abbrev g_q89_r0:GR:=(OP 0 1 (.box 26 (.tmp 0)) (OP 1 2 (.mv (K 0)) (OP 2 3 (.mv (.const (.slice none 0 0))) (OP 3 4 (.mv (K 0)) .done))))
abbrev g_q89_r1:GR:=(OP 0 8 (.load (some 8) (.tmp 1)) (OP 1 9 (.call 12 [(.tmp 8)]) (O1 2 7 9 (OP 3 10 (.extract 0 (.tmp 7)) (OP 4 11 (.extract 1 (.tmp 7)) (OP 5 5 (.alloc 41 [(.pointer none),(.pointer none),(.pointer none),(.pointer none),(.pointer none),(.pointer none),(.pointer none),(.pointer none),(.pointer none),(.pointer none),(.slice none 0 0),(.slice none 0 0),(.slice none 0 0)]) (OS 6 (.store 13 (.tmp 5) (.tmp 10)) (O1 7 6 11 .done))))))))
abbrev g_q89_r2:GR:=(O1 0 12 6 (OP 1 13 (.bin .neq (.tmp 12) (K 0)) .done))
abbrev g_q89_r3:GR:=(O1 0 14 6 (OP 1 2 (.mv (K 0)) (OP 2 3 (.mv (.const (.slice none 0 0))) (O1 3 4 14 .done))))
abbrev g_q89_r4:GR:=(OP 0 15 (.load (some 8) (.tmp 1)) (OP 1 16 (.load (some 13) (.tmp 5)) (OP 2 17 (.build [(.int .i64 0),(.slice none 0 0),(.slice none 0 0),(.slice none 0 0),(.slice none 0 0),(.slice none 0 0),(.slice none 0 0),(.slice none 0 0),(.pointer none),(.pointer none),(.pointer none),(.pointer none),(.pointer none),(.pointer none),(.pointer none),(.pointer none),(.pointer none),(.pointer none),(.slice none 0 0),(.slice none 0 0),(.slice none 0 0)] [(0,(8,(.tmp 15))),(8,(13,(.tmp 16)))]) (OP 3 18 (.build [(.int .i64 0),Value.nilFunc] [(0,(1,(K 1))),(1,(1,(.func 14)))]) (OP 4 19 (.build [(.int .i64 0),Value.nilFunc] [(0,(1,(K 2))),(1,(1,(.func 16)))]) (OP 5 20 (.buildSlice 50 2 [(.int .i64 0),Value.nilFunc,(.int .i64 0),Value.nilFunc] [(0,(2,(.tmp 18))),(2,(2,(.tmp 19)))]) (OP 6 21 (.call 13 [(.tmp 17),(.tmp 20)]) (OP 7 22 (.extract 0 (.tmp 21)) (OP 8 23 (.extract 1 (.tmp 21)) (OP 9 24 (.extract 2 (.tmp 21)) (O1 10 2 22 (O1 11 3 23 (O1 12 4 24 .done)))))))))))))
abbrev g_q89:GC:=(.seq (.reg g_q89_r0 [1]) (.seq (.reg g_q89_r1 [1,5,6]) (.seq (.seq (.reg g_q89_r2 [1,5,6,13]) (.cond (.tmp 13) (.seq (.reg g_q89_r3 [2,3,4]) .ret) .skip)) (.seq (.reg g_q89_r4 [2,3,4]) .ret))))
abbrev rs_q89:List RV:=[(.tmp 2),(.tmp 3),(.tmp 4)]
theorem gc_q89:compileF Tryz.prog Tryz.f5 T_q89=some (g_q89,rs_q89):=by kernel_rfl
theorem con_q89 (hv:vc Tryz.prog y g_q89 (retQ rs_q89 R) [(0,a0)] h):ConX y Tryz.prog 5 #[a0] h R:=con_of Tryz.func5 gc_q89 rfl (fun h=>absurd h (by decide)) hv
def T_q26:List (Nat×List Nat):=[(0,[1]),(1,[1,8]),(2,[2,3,4]),(3,[1,5]),(4,[1,5,14]),(5,[2,3,4]),(6,[5]),(7,[5,20]),(8,[2,3,4]),(9,[2,3,4])]
abbrev g_q26_r0:GR:=(OP 0 1 (.box 26 (.tmp 0)) (OP 1 2 (.mv (K 0)) (OP 2 3 (.mv (.const (.slice none 0 0))) (OP 3 4 (.mv (K 0)) .done))))
abbrev g_q26_r1:GR:=(OP 0 6 (.load (some 8) (.tmp 1)) (OP 1 7 (.call 17 [(.tmp 6)]) (OP 2 8 (.not (.tmp 7)) .done)))
abbrev g_q26_r2:GR:=(OP 0 2 (.mv (K 0)) (OP 1 3 (.mv (.const (.slice none 0 0))) (OP 2 4 (.mv (K 4)) .done)))
abbrev g_q26_r3:GR:=(OP 0 9 (.load (some 8) (.tmp 1)) (OP 1 10 (.call 19 [(.tmp 9)]) (OP 2 11 (.call 18 [(.tmp 10)]) (O1 3 5 11 .done))))
abbrev g_q26_r4:GR:=(O1 0 12 5 (OP 1 13 (.len (.tmp 12)) (OP 2 14 (.bin .gtr (.tmp 13) (K 0)) .done)))
abbrev g_q26_r5:GR:=(O1 0 15 5 (OP 1 2 (.mv (K 1)) (O1 2 3 15 (OP 3 4 (.mv (K 0)) .done))))
abbrev g_q26_r6:GR:=(OP 0 16 (.load (some 8) (.tmp 1)) (OP 1 17 (.call 20 [(.tmp 16)]) (O1 2 5 17 .done)))
abbrev g_q26_r7:GR:=(O1 0 18 5 (OP 1 19 (.len (.tmp 18)) (OP 2 20 (.bin .gtr (.tmp 19) (K 0)) .done)))
abbrev g_q26_r8:GR:=(O1 0 21 5 (OP 1 2 (.mv (K 2)) (O1 2 3 21 (OP 3 4 (.mv (K 0)) .done))))
abbrev g_q26_r9:GR:=(OP 0 2 (.mv (K 0)) (OP 1 3 (.mv (.const (.slice none 0 0))) (OP 2 4 (.mv (K 0)) .done)))
abbrev g_q26:GC:=(.seq (.reg g_q26_r0 [1]) (.seq (.seq (.reg g_q26_r1 [1,8]) (.cond (.tmp 8) (.seq (.reg g_q26_r2 [2,3,4]) .ret) .skip)) (.seq (.reg g_q26_r3 [1,5]) (.seq (.seq (.reg g_q26_r4 [1,5,14]) (.cond (.tmp 14) (.seq (.reg g_q26_r5 [2,3,4]) .ret) .skip)) (.seq (.reg g_q26_r6 [5]) (.seq (.seq (.reg g_q26_r7 [5,20]) (.cond (.tmp 20) (.seq (.reg g_q26_r8 [2,3,4]) .ret) .skip)) (.seq (.reg g_q26_r9 [2,3,4]) .ret)))))))
abbrev rs_q26:List RV:=[(.tmp 2),(.tmp 3),(.tmp 4)]
theorem gc_q26:compileF Tryz.prog Tryz.f6 T_q26=some (g_q26,rs_q26):=by kernel_rfl
theorem con_q26 (hv:vc Tryz.prog y g_q26 (retQ rs_q26 R) [(0,a0)] h):ConX y Tryz.prog 6 #[a0] h R:=con_of Tryz.func6 gc_q26 rfl (fun h=>absurd h (by decide)) hv
def T_q17:List (Nat×List Nat):=[(0,[0,1]),(1,[0,1,10]),(2,[4]),(3,[0,1,5]),(4,[0,1,5,14]),(5,[0,1,5]),(6,[0,1,5,25]),(7,[4]),(8,[4])]
abbrev g_q17_r0:GR:=(OP 0 4 (.mv (.const (.bool false))) .done)
abbrev g_q17_r1:GR:=(O1 0 6 0 (OP 1 7 (.len (.tmp 6)) (O1 2 8 1 (OP 3 9 (.len (.tmp 8)) (O5 4 10 .neq 7 9 .done)))))
abbrev g_q17_r2:GR:=(OP 0 4 (.mv (.const (.bool false))) .done)
abbrev g_q17_r3:GR:=(OP 0 5 (.mv (K 0)) .done)
abbrev g_q17_r4:GR:=(O1 0 11 5 (O1 1 12 0 (OP 2 13 (.len (.tmp 12)) (O5 3 14 .lss 11 13 .done))))
abbrev g_q17_r5:GR:=(O1 0 17 0 (O1 1 18 5 (O4 2 19 1 17 18 (O6 3 20 19 (O1 4 21 1 (O1 5 22 5 (O4 6 23 1 21 22 (O6 7 24 23 (O5 8 25 .neq 20 24 .done)))))))))
abbrev g_q17_r6:GR:=(OP 0 4 (.mv (.const (.bool false))) .done)
abbrev g_q17_r7:GR:=(O1 0 15 5 (OP 1 16 (.bin .add (.tmp 15) (K 1)) (O1 2 5 16 .done)))
abbrev g_q17_l8:GC:=(.seq (.seq (.reg g_q17_r4 [0,1,5,14]) (.cond (.tmp 14) .skip (.exit 0))) (.seq (.block 1 (.seq (.reg g_q17_r5 [0,1,5,25]) (.cond (.tmp 25) (.seq (.reg g_q17_r6 [4]) .ret) .skip))) (.reg g_q17_r7 [0,1,5])))
abbrev g_q17_r9:GR:=(OP 0 4 (.mv (.const (.bool true))) .done)
abbrev g_q17:GC:=(.seq (.reg g_q17_r0 [0,1]) (.seq (.seq (.reg g_q17_r1 [0,1,10]) (.cond (.tmp 10) (.seq (.reg g_q17_r2 [4]) .ret) .skip)) (.seq (.seq (.reg g_q17_r3 [0,1,5]) (.block 0 (.loop g_q17_l8))) (.seq (.reg g_q17_r9 [4]) .ret))))
abbrev rs_q17:List RV:=[(.tmp 4)]
theorem gc_q17:compileF Tryz.prog Tryz.f7 T_q17=some (g_q17,rs_q17):=by kernel_rfl
theorem con_q17 (hv:vc Tryz.prog y g_q17 (retQ rs_q17 R) [(0,a0),(1,a1)] h):ConX y Tryz.prog 7 #[a0,a1] h R:=con_of Tryz.func7 gc_q17 rfl (fun h=>absurd h (by decide)) hv
def T_q91:List (Nat×List Nat):=[(0,[1]),(1,[1,5,6]),(2,[1,5,6,14]),(3,[2,3,4]),(4,[1,5,7]),(5,[2,3,4])]
abbrev g_q91_r0:GR:=(OP 0 1 (.box 26 (.tmp 0)) (OP 1 2 (.mv (K 0)) (OP 2 3 (.mv (.const (.slice none 0 0))) (OP 3 4 (.mv (K 0)) .done))))
abbrev g_q91_r1:GR:=(OP 0 9 (.load (some 8) (.tmp 1)) (OP 1 10 (.call 12 [(.tmp 9)]) (O1 2 8 10 (OP 3 11 (.extract 0 (.tmp 8)) (OP 4 12 (.extract 1 (.tmp 8)) (OP 5 5 (.alloc 41 [(.pointer none),(.pointer none),(.pointer none),(.pointer none),(.pointer none),(.pointer none),(.pointer none),(.pointer none),(.pointer none),(.pointer none),(.slice none 0 0),(.slice none 0 0),(.slice none 0 0)]) (OS 6 (.store 13 (.tmp 5) (.tmp 11)) (O1 7 6 12 .done))))))))
abbrev g_q91_r2:GR:=(O1 0 13 6 (OP 1 14 (.bin .neq (.tmp 13) (K 0)) .done))
abbrev g_q91_r3:GR:=(O1 0 15 6 (OP 1 2 (.mv (K 0)) (OP 2 3 (.mv (.const (.slice none 0 0))) (O1 3 4 15 .done))))
abbrev g_q91_r4:GR:=(OP 0 7 (.mv (.func 21)) .done)
abbrev g_q91_r5:GR:=(OP 0 16 (.load (some 8) (.tmp 1)) (OP 1 17 (.load (some 13) (.tmp 5)) (OP 2 18 (.build [(.int .i64 0),(.slice none 0 0),(.slice none 0 0),(.slice none 0 0),(.slice none 0 0),(.slice none 0 0),(.slice none 0 0),(.slice none 0 0),(.pointer none),(.pointer none),(.pointer none),(.pointer none),(.pointer none),(.pointer none),(.pointer none),(.pointer none),(.pointer none),(.pointer none),(.slice none 0 0),(.slice none 0 0),(.slice none 0 0)] [(0,(8,(.tmp 16))),(8,(13,(.tmp 17)))]) (O1 3 19 7 (OP 4 20 (.build [(.int .i64 0),Value.nilFunc] [(0,(1,(K 1))),(1,(1,(.tmp 19)))]) (OP 5 21 (.build [(.int .i64 0),Value.nilFunc] [(0,(1,(K 2))),(1,(1,(.func 16)))]) (OP 6 22 (.build [(.int .i64 0),Value.nilFunc] [(0,(1,(K 3))),(1,(1,(.func 23)))]) (OP 7 23 (.buildSlice 50 3 [(.int .i64 0),Value.nilFunc,(.int .i64 0),Value.nilFunc,(.int .i64 0),Value.nilFunc] [(0,(2,(.tmp 20))),(2,(2,(.tmp 21))),(4,(2,(.tmp 22)))]) (OP 8 24 (.call 13 [(.tmp 18),(.tmp 23)]) (OP 9 25 (.extract 0 (.tmp 24)) (OP 10 26 (.extract 1 (.tmp 24)) (OP 11 27 (.extract 2 (.tmp 24)) (O1 12 2 25 (O1 13 3 26 (O1 14 4 27 .done)))))))))))))))
abbrev g_q91:GC:=(.seq (.reg g_q91_r0 [1]) (.seq (.reg g_q91_r1 [1,5,6]) (.seq (.seq (.reg g_q91_r2 [1,5,6,14]) (.cond (.tmp 14) (.seq (.reg g_q91_r3 [2,3,4]) .ret) .skip)) (.seq (.reg g_q91_r4 [1,5,7]) (.seq (.reg g_q91_r5 [2,3,4]) .ret)))))
abbrev rs_q91:List RV:=[(.tmp 2),(.tmp 3),(.tmp 4)]
theorem gc_q91:compileF Tryz.prog Tryz.f8 T_q91=some (g_q91,rs_q91):=by kernel_rfl
theorem con_q91 (hv:vc Tryz.prog y g_q91 (retQ rs_q91 R) [(0,a0)] h):ConX y Tryz.prog 8 #[a0] h R:=con_of Tryz.func8 gc_q91 rfl (fun h=>absurd h (by decide)) hv
def T_q27:List (Nat×List Nat):=[(0,[1]),(1,[1,8]),(2,[2,3,4]),(3,[1,5]),(4,[1,5,25]),(5,[2,3,4]),(6,[1,5]),(7,[1,5,31]),(8,[2,3,4]),(9,[5]),(10,[5,38]),(11,[2,3,4]),(12,[2,3,4])]
abbrev g_q27_r0:GR:=(OP 0 1 (.box 26 (.tmp 0)) (OP 1 2 (.mv (K 0)) (OP 2 3 (.mv (.const (.slice none 0 0))) (OP 3 4 (.mv (K 0)) .done))))
abbrev g_q27_r1:GR:=(OP 0 6 (.load (some 8) (.tmp 1)) (OP 1 7 (.call 17 [(.tmp 6)]) (OP 2 8 (.not (.tmp 7)) .done)))
abbrev g_q27_r2:GR:=(OP 0 2 (.mv (K 0)) (OP 1 3 (.mv (.const (.slice none 0 0))) (OP 2 4 (.mv (K 4)) .done)))
abbrev g_q27_r3:GR:=(OW 0 9 (.load (some 8) (.tmp 1)) (OW 2 11 (.load (some 8) (.tmp 1)) (OW 5 14 (.load (some 8) (.tmp 1)) (OW 7 16 (.load (some 8) (.tmp 1)) (OW 9 18 (.load (some 8) (.tmp 1)) (.op (GI.mk 1 (some 10) none (.call 26 [(.tmp 9)]) [2,5,7,9] false) (.op (GI.mk 3 (some 12) none (.call 27 [(.tmp 11)]) [0,5,7,9] false) (.op (GI.mk 4 (some 13) none (.call 25 [(.tmp 10),(.tmp 12)]) [0,2,5,7,9] false) (.op (GI.mk 6 (some 15) none (.call 28 [(.tmp 14)]) [0,2,7,9] false) (.op (GI.mk 8 (some 17) none (.call 29 [(.tmp 16)]) [0,2,5,9] false) (.op (GI.mk 10 (some 19) none (.call 30 [(.tmp 18)]) [0,2,5,7] false) (OP 11 20 (.buildSlice 54 4 [(.int .i64 0),(.slice none 0 0),(.int .i64 0),(.slice none 0 0),(.int .i64 0),(.slice none 0 0),(.int .i64 0),(.slice none 0 0)] [(0,(2,(.tmp 13))),(2,(2,(.tmp 15))),(4,(2,(.tmp 17))),(6,(2,(.tmp 19)))]) (.op (GI.mk 12 (some 21) none (.call 24 [(.tmp 20)]) [0,2,5,7,9] false) (.op (GI.mk 13 (some 22) none (.call 18 [(.tmp 21)]) [0,2,5,7,9] false) (O1 14 5 22 .done)))))))))))))))
abbrev g_q27_r4:GR:=(O1 0 23 5 (OP 1 24 (.len (.tmp 23)) (OP 2 25 (.bin .gtr (.tmp 24) (K 0)) .done)))
abbrev g_q27_r5:GR:=(O1 0 26 5 (OP 1 2 (.mv (K 1)) (O1 2 3 26 (OP 3 4 (.mv (K 0)) .done))))
abbrev g_q27_r6:GR:=(OP 0 27 (.load (some 8) (.tmp 1)) (OP 1 28 (.call 20 [(.tmp 27)]) (O1 2 5 28 .done)))
abbrev g_q27_r7:GR:=(O1 0 29 5 (OP 1 30 (.len (.tmp 29)) (OP 2 31 (.bin .gtr (.tmp 30) (K 0)) .done)))
abbrev g_q27_r8:GR:=(O1 0 32 5 (OP 1 2 (.mv (K 2)) (O1 2 3 32 (OP 3 4 (.mv (K 0)) .done))))
abbrev g_q27_r9:GR:=(OP 0 33 (.load (some 8) (.tmp 1)) (OP 1 34 (.call 31 [(.tmp 33)]) (OP 2 35 (.call 18 [(.tmp 34)]) (O1 3 5 35 .done))))
abbrev g_q27_r10:GR:=(O1 0 36 5 (OP 1 37 (.len (.tmp 36)) (OP 2 38 (.bin .gtr (.tmp 37) (K 0)) .done)))
abbrev g_q27_r11:GR:=(O1 0 39 5 (OP 1 2 (.mv (K 3)) (O1 2 3 39 (OP 3 4 (.mv (K 0)) .done))))
abbrev g_q27_r12:GR:=(OP 0 2 (.mv (K 0)) (OP 1 3 (.mv (.const (.slice none 0 0))) (OP 2 4 (.mv (K 0)) .done)))
abbrev g_q27:GC:=(.seq (.reg g_q27_r0 [1]) (.seq (.seq (.reg g_q27_r1 [1,8]) (.cond (.tmp 8) (.seq (.reg g_q27_r2 [2,3,4]) .ret) .skip)) (.seq (.reg g_q27_r3 [1,5]) (.seq (.seq (.reg g_q27_r4 [1,5,25]) (.cond (.tmp 25) (.seq (.reg g_q27_r5 [2,3,4]) .ret) .skip)) (.seq (.reg g_q27_r6 [1,5]) (.seq (.seq (.reg g_q27_r7 [1,5,31]) (.cond (.tmp 31) (.seq (.reg g_q27_r8 [2,3,4]) .ret) .skip)) (.seq (.reg g_q27_r9 [5]) (.seq (.seq (.reg g_q27_r10 [5,38]) (.cond (.tmp 38) (.seq (.reg g_q27_r11 [2,3,4]) .ret) .skip)) (.seq (.reg g_q27_r12 [2,3,4]) .ret)))))))))
abbrev rs_q27:List RV:=[(.tmp 2),(.tmp 3),(.tmp 4)]
theorem gc_q27:compileF Tryz.prog Tryz.f9 T_q27=some (g_q27,rs_q27):=by kernel_rfl
theorem con_q27 (hv:vc Tryz.prog y g_q27 (retQ rs_q27 R) [(0,a0)] h):ConX y Tryz.prog 9 #[a0] h R:=con_of Tryz.func9 gc_q27 rfl (fun h=>absurd h (by decide)) hv
def T_q42:List (Nat×List Nat):=[(0,[2,3]),(1,[2,3,70]),(2,[4]),(3,[2,3,5]),(4,[2,3,5,75]),(5,[2,3,5]),(6,[2,3,5,88]),(7,[4]),(8,[2,3,6]),(9,[2,3,6,93]),(10,[2,3,6]),(11,[2,3,6,108]),(12,[4]),(13,[2,3,6,7]),(14,[2,3,6,7,116]),(15,[2,3,6,7]),(16,[2,3,6,7,135]),(17,[4]),(18,[4])]
abbrev g_q42_r0:GR:=(OP 0 2 (.box 26 (.tmp 0)) (OP 1 3 (.box 26 (.tmp 1)) (OP 2 4 (.mv (.const (.bool false))) .done)))
abbrev g_q42_r1:GR:=(O3 0 8 0 2 (O2 1 9 8 (O3 2 10 0 3 (O2 3 11 10 (O5 4 12 .neq 9 11 (O1 5 13 12 (OG 6 14 13 false (.fieldAddr 1 (.tmp 2)) (OG 7 15 13 false (.load none (.tmp 14)) (OG 8 16 13 false (.len (.tmp 15)) (OG 9 17 13 false (.fieldAddr 1 (.tmp 3)) (OG 10 18 13 false (.load none (.tmp 17)) (OG 11 19 13 false (.len (.tmp 18)) (OG 12 20 13 false (.bin .neq (.tmp 16) (.tmp 19)) (OP 13 21 (.pick (.tmp 13) (.const (.bool true)) (.tmp 20)) (O1 14 22 21 (OG 15 23 22 false (.fieldAddr 3 (.tmp 2)) (OG 16 24 22 false (.load none (.tmp 23)) (OG 17 25 22 false (.len (.tmp 24)) (OG 18 26 22 false (.fieldAddr 3 (.tmp 3)) (OG 19 27 22 false (.load none (.tmp 26)) (OG 20 28 22 false (.len (.tmp 27)) (OG 21 29 22 false (.bin .neq (.tmp 25) (.tmp 28)) (OP 22 30 (.pick (.tmp 22) (.const (.bool true)) (.tmp 29)) (O1 23 31 30 (OG 24 32 31 false (.fieldAddr 2 (.tmp 2)) (OG 25 33 31 false (.load none (.tmp 32)) (OG 26 34 31 false (.fieldAddr 2 (.tmp 3)) (OG 27 35 31 false (.load none (.tmp 34)) (OG 28 36 31 false (.call 32 [(.tmp 33),(.tmp 35)]) (OG 29 37 31 false (.not (.tmp 36)) (OP 30 38 (.pick (.tmp 31) (.const (.bool true)) (.tmp 37)) (O1 31 39 38 (OG 32 40 39 false (.fieldAddr 4 (.tmp 2)) (OG 33 41 39 false (.load none (.tmp 40)) (OG 34 42 39 false (.fieldAddr 4 (.tmp 3)) (OG 35 43 39 false (.load none (.tmp 42)) (OG 36 44 39 false (.call 32 [(.tmp 41),(.tmp 43)]) (OG 37 45 39 false (.not (.tmp 44)) (OP 38 46 (.pick (.tmp 39) (.const (.bool true)) (.tmp 45)) (O1 39 47 46 (OG 40 48 47 false (.fieldAddr 5 (.tmp 2)) (OG 41 49 47 false (.load none (.tmp 48)) (OG 42 50 47 false (.fieldAddr 5 (.tmp 3)) (OG 43 51 47 false (.load none (.tmp 50)) (OG 44 52 47 false (.call 32 [(.tmp 49),(.tmp 51)]) (OG 45 53 47 false (.not (.tmp 52)) (OP 46 54 (.pick (.tmp 47) (.const (.bool true)) (.tmp 53)) (O1 47 55 54 (OG 48 56 55 false (.fieldAddr 6 (.tmp 2)) (OG 49 57 55 false (.load none (.tmp 56)) (OG 50 58 55 false (.fieldAddr 6 (.tmp 3)) (OG 51 59 55 false (.load none (.tmp 58)) (OG 52 60 55 false (.call 32 [(.tmp 57),(.tmp 59)]) (OG 53 61 55 false (.not (.tmp 60)) (OP 54 62 (.pick (.tmp 55) (.const (.bool true)) (.tmp 61)) (O1 55 63 62 (OG 56 64 63 false (.fieldAddr 7 (.tmp 2)) (OG 57 65 63 false (.load none (.tmp 64)) (OG 58 66 63 false (.fieldAddr 7 (.tmp 3)) (OG 59 67 63 false (.load none (.tmp 66)) (OG 60 68 63 false (.call 32 [(.tmp 65),(.tmp 67)]) (OG 61 69 63 false (.not (.tmp 68)) (OP 62 70 (.pick (.tmp 63) (.const (.bool true)) (.tmp 69)) .done)))))))))))))))))))))))))))))))))))))))))))))))))))))))))))))))
abbrev g_q42_r2:GR:=(OP 0 4 (.mv (.const (.bool false))) .done)
abbrev g_q42_r3:GR:=(OP 0 5 (.mv (K 0)) .done)
abbrev g_q42_r4:GR:=(O1 0 71 5 (O3 1 72 1 2 (O2 2 73 72 (OP 3 74 (.len (.tmp 73)) (O5 4 75 .lss 71 74 .done)))))
abbrev g_q42_r5:GR:=(O3 0 78 1 2 (O6 1 79 78 (O1 2 80 5 (O4 3 81 5 79 80 (OW 4 82 (.load (some 5) (.tmp 81)) (O3 5 83 1 3 (O6 6 84 83 (O1 7 85 5 (O4 8 86 5 84 85 (OW 9 87 (.load (some 5) (.tmp 86)) (OP 10 88 (.eqStruct true [0,1,2,3,4] (.tmp 82) (.tmp 87)) .done)))))))))))
abbrev g_q42_r6:GR:=(OP 0 4 (.mv (.const (.bool false))) .done)
abbrev g_q42_r7:GR:=(O1 0 76 5 (OP 1 77 (.bin .add (.tmp 76) (K 1)) (O1 2 5 77 .done)))
abbrev g_q42_l8:GC:=(.seq (.seq (.reg g_q42_r4 [2,3,5,75]) (.cond (.tmp 75) .skip (.exit 0))) (.seq (.block 1 (.seq (.reg g_q42_r5 [2,3,5,88]) (.cond (.tmp 88) (.seq (.reg g_q42_r6 [4]) .ret) .skip))) (.reg g_q42_r7 [2,3,5])))
abbrev g_q42_r9:GR:=(OP 0 6 (.mv (K 0)) .done)
abbrev g_q42_r10:GR:=(O1 0 89 6 (O3 1 90 3 2 (O2 2 91 90 (OP 3 92 (.len (.tmp 91)) (O5 4 93 .lss 89 92 .done)))))
abbrev g_q42_r11:GR:=(O3 0 96 3 2 (O6 1 97 96 (O1 2 98 6 (O4 3 99 1 97 98 (O6 4 100 99 (OP 5 101 (.len (.tmp 100)) (O3 6 102 3 3 (O6 7 103 102 (O1 8 104 6 (O4 9 105 1 103 104 (O6 10 106 105 (OP 11 107 (.len (.tmp 106)) (O5 12 108 .neq 101 107 .done)))))))))))))
abbrev g_q42_r12:GR:=(OP 0 4 (.mv (.const (.bool false))) .done)
abbrev g_q42_r13:GR:=(OP 0 7 (.mv (K 0)) .done)
abbrev g_q42_r14:GR:=(O1 0 109 7 (O3 1 110 3 2 (O2 2 111 110 (O1 3 112 6 (O4 4 113 1 111 112 (O2 5 114 113 (OP 6 115 (.len (.tmp 114)) (O5 7 116 .lss 109 115 .done))))))))
abbrev g_q42_r15:GR:=(O3 0 119 3 2 (O6 1 120 119 (O1 2 121 6 (O4 3 122 1 120 121 (O6 4 123 122 (O1 5 124 7 (O4 6 125 1 123 124 (O6 7 126 125 (O3 8 127 3 3 (O6 9 128 127 (O1 10 129 6 (O4 11 130 1 128 129 (O6 12 131 130 (O1 13 132 7 (O4 14 133 1 131 132 (O6 15 134 133 (O5 16 135 .neq 126 134 .done)))))))))))))))))
abbrev g_q42_r16:GR:=(OP 0 4 (.mv (.const (.bool false))) .done)
abbrev g_q42_r17:GR:=(O1 0 117 7 (OP 1 118 (.bin .add (.tmp 117) (K 1)) (O1 2 7 118 .done)))
abbrev g_q42_l18:GC:=(.seq (.seq (.reg g_q42_r14 [2,3,6,7,116]) (.cond (.tmp 116) .skip (.exit 4))) (.seq (.block 5 (.seq (.reg g_q42_r15 [2,3,6,7,135]) (.cond (.tmp 135) (.seq (.reg g_q42_r16 [4]) .ret) .skip))) (.reg g_q42_r17 [2,3,6,7])))
abbrev g_q42_r19:GR:=(O1 0 94 6 (OP 1 95 (.bin .add (.tmp 94) (K 1)) (O1 2 6 95 .done)))
abbrev g_q42_l20:GC:=(.seq (.seq (.reg g_q42_r10 [2,3,6,93]) (.cond (.tmp 93) .skip (.exit 2))) (.seq (.block 3 (.seq (.seq (.reg g_q42_r11 [2,3,6,108]) (.cond (.tmp 108) (.seq (.reg g_q42_r12 [4]) .ret) .skip)) (.seq (.reg g_q42_r13 [2,3,6,7]) (.block 4 (.loop g_q42_l18))))) (.reg g_q42_r19 [2,3,6])))
abbrev g_q42_r21:GR:=(OP 0 4 (.mv (.const (.bool true))) .done)
abbrev g_q42:GC:=(.seq (.reg g_q42_r0 [2,3]) (.seq (.seq (.reg g_q42_r1 [2,3,70]) (.cond (.tmp 70) (.seq (.reg g_q42_r2 [4]) .ret) .skip)) (.seq (.seq (.reg g_q42_r3 [2,3,5]) (.block 0 (.loop g_q42_l8))) (.seq (.seq (.reg g_q42_r9 [2,3,6]) (.block 2 (.loop g_q42_l20))) (.seq (.reg g_q42_r21 [4]) .ret)))))
abbrev rs_q42:List RV:=[(.tmp 4)]
theorem gc_q42:compileF Tryz.prog Tryz.f10 T_q42=some (g_q42,rs_q42):=by kernel_rfl
theorem con_q42 (hv:vc Tryz.prog y g_q42 (retQ rs_q42 R) [(0,a0),(1,a1)] h):ConX y Tryz.prog 10 #[a0,a1] h R:=con_of Tryz.func10 gc_q42 rfl (fun h=>absurd h (by decide)) hv
def T_q18:List (Nat×List Nat):=[(0,[]),(1,[1,2]),(2,[0])]
abbrev g_q18_r0:GR:=(OP 0 0 (.mv (.const (.bool false))) .done)
abbrev g_q18_r1:GR:=(OP 0 4 (.call 34 []) (OP 1 5 (.call 33 [(.tmp 4),(.const (.bool false))]) (O1 2 3 5 (OP 3 6 (.extract 0 (.tmp 3)) (OP 4 7 (.extract 1 (.tmp 3)) (OP 5 1 (.alloc 26 [(.int .i64 0),(.slice none 0 0),(.slice none 0 0),(.slice none 0 0),(.slice none 0 0),(.slice none 0 0),(.slice none 0 0),(.slice none 0 0)]) (OS 6 (.store 8 (.tmp 1) (.tmp 6)) (O1 7 2 7 .done))))))))
abbrev g_q18_r2:GR:=(OP 0 8 (.call 36 []) (OP 1 9 (.buildSlice 3 4 [(.int .i64 0),(.int .i64 0),(.int .i64 0),(.int .i64 0)] [(0,(1,(K 2))),(1,(1,(K 3))),(2,(1,(K 4))),(3,(1,(K 5)))]) (OP 2 10 (.call 35 [(.tmp 8),(K 1),(.tmp 9)]) (O1 3 11 10 (OG 4 12 11 true (.call 36 []) (OG 5 13 11 true (.call 37 [(.tmp 12),(K 0),(.const (.slice none 0 0))]) (OP 6 14 (.pick (.tmp 11) (.tmp 13) (.const (.bool false))) (O1 7 15 14 (OG 8 16 15 true (.call 34 []) (OG 9 17 15 true (.buildSlice 3 4 [(.int .i64 0),(.int .i64 0),(.int .i64 0),(.int .i64 0)] [(0,(1,(K 2))),(1,(1,(K 3))),(2,(1,(K 4))),(3,(1,(K 5)))]) (OG 10 18 15 true (.call 37 [(.tmp 16),(K 3),(.tmp 17)]) (OP 11 19 (.pick (.tmp 15) (.tmp 18) (.const (.bool false))) (O1 12 20 19 (OG 13 21 20 true (.mv (.tmp 2)) (OG 14 22 20 true (.bin .eql (.tmp 21) (K 0)) (OP 15 23 (.pick (.tmp 20) (.tmp 22) (.const (.bool false))) (O1 16 24 23 (OG 17 25 24 true (.fieldAddr 7 (.tmp 1)) (OG 18 26 24 true (.load none (.tmp 25)) (OG 19 27 24 true (.len (.tmp 26)) (OG 20 28 24 true (.bin .eql (.tmp 27) (K 2)) (OP 21 29 (.pick (.tmp 24) (.tmp 28) (.const (.bool false))) (O1 22 30 29 (OG 23 31 30 true (.fieldAddr 1 (.tmp 1)) (OG 24 32 30 true (.load none (.tmp 31)) (OG 25 33 30 true (.len (.tmp 32)) (OG 26 34 30 true (.bin .eql (.tmp 33) (K 6)) (OP 27 35 (.pick (.tmp 30) (.tmp 34) (.const (.bool false))) (O1 28 36 35 (OG 29 37 36 true (.fieldAddr 1 (.tmp 1)) (OG 30 38 36 true (.load none (.tmp 37)) (OG 31 39 36 true (.indexAddr 5 (.tmp 38) (K 2)) (OG 32 40 36 true (.fieldAddr 4 (.tmp 39)) (OG 33 41 36 true (.load none (.tmp 40)) (OG 34 42 36 true (.bin .eql (.tmp 41) (K 11)) (OP 35 43 (.pick (.tmp 36) (.tmp 42) (.const (.bool false))) (O1 36 0 43 .done)))))))))))))))))))))))))))))))))))))
abbrev g_q18:GC:=(.seq (.reg g_q18_r0 []) (.seq (.reg g_q18_r1 [1,2]) (.seq (.reg g_q18_r2 [0]) .ret)))
abbrev rs_q18:List RV:=[(.tmp 0)]
theorem gc_q18:compileF Tryz.prog Tryz.f11 T_q18=some (g_q18,rs_q18):=by kernel_rfl
theorem con_q18 (hv:vc Tryz.prog y g_q18 (retQ rs_q18 R) [] h):ConX y Tryz.prog 11 #[] h R:=con_of Tryz.func11 gc_q18 rfl (fun h=>absurd h (by decide)) hv
def T_q2:List (Nat×List Nat):=[(0,[1,2]),(1,[1,2,18]),(2,[2,3]),(3,[1,2,4]),(4,[1,2,5,1000000]),(5,[1,2,5,53,54,55]),(6,[1,2,5,53,54,55,56]),(7,[1,2,5,6,7,53,54,55]),(8,[1,2,5,6,7,53,54,55]),(9,[1,2,5,6,7,53,54,55]),(10,[1,2,5,6,7,53,54,55]),(11,[1,2,5,6,7,53,54,55,85,86,87]),(12,[1,2,5,6,7,53,54,55,85,86,87,88]),(13,[1,2,5,6,7,8,9,53,54,55,85,86,87]),(14,[1,2,5,6,7,8,9,53,54,55,85,86,87]),(15,[1,2,5,6,7,8,9,53,54,55,85,86,87]),(16,[1,2,5,6,7,53,54,55,85,86,87]),(17,[1,2,5,6,7,53,54,55,85,86,87]),(18,[1,2,5,53,54,55]),(19,[2,5,140,141,142]),(20,[2,5,140,141,142,143]),(21,[2,5,11,140,141,142]),(22,[2,5,11,140,141,142,146,147,148]),(23,[2,5,11,140,141,142,146,147,148,149]),(24,[2,5,11,12,13,140,141,142,146,147,148]),(25,[2,5,11,13,140,141,142,146,147,148,156,157,158]),(26,[2,5,11,13,140,141,142,146,147,148,156,157,158,159]),(27,[2,5,11,13,15,140,141,142,146,147,148,156,157,158]),(28,[2,5,11,13,140,141,142,146,147,148,156,157,158]),(29,[2,5,11,13,140,141,142,146,147,148,156,157,158]),(30,[2,5,11,140,141,142,146,147,148]),(31,[2,5,140,141,142]),(32,[2,5]),(33,[2,3])]
abbrev g_q2_r0:GR:=(OP 0 1 (.box 26 (.tmp 0)) (OP 1 2 (.alloc 41 [(.pointer none),(.pointer none),(.pointer none),(.pointer none),(.pointer none),(.pointer none),(.pointer none),(.pointer none),(.pointer none),(.pointer none),(.slice none 0 0),(.slice none 0 0),(.slice none 0 0)]) (OP 2 3 (.mv (K 0)) .done)))
abbrev g_q2_r1:GR:=(OP 0 16 (.load (some 8) (.tmp 1)) (OP 1 17 (.call 38 [(.tmp 16)]) (OP 2 18 (.not (.tmp 17)) .done)))
abbrev g_q2_r2:GR:=(OP 0 19 (.build [(.pointer none),(.pointer none),(.pointer none),(.pointer none),(.pointer none),(.pointer none),(.pointer none),(.pointer none),(.pointer none),(.pointer none),(.slice none 0 0),(.slice none 0 0),(.slice none 0 0)] []) (OS 1 (.store 13 (.tmp 2) (.tmp 19)) (OP 2 3 (.mv (K 4)) .done)))
abbrev g_q2_r3:GR:=(O3 0 20 1 1 (O2 1 21 20 (OP 2 22 (.len (.tmp 21)) (O1 3 4 22 .done))))
abbrev g_q2_r4:GR:=(O1 0 23 4 (O1 2 25 4 (O3 3 26 2 1 (O6 4 27 26 (O1 6 29 4 (O1 8 31 4 (O3 9 32 4 1 (O6 10 33 32 (O1 12 35 4 (O1 14 37 4 (O1 16 39 4 (O3 17 40 5 1 (O6 18 41 40 (O1 20 43 4 (O3 21 44 6 1 (O6 22 45 44 (O1 24 47 4 (O3 25 48 7 1 (O6 26 49 48 (.free [24,28,30,34,36,38,42,46,50,51,5] [(FI.mk (GI.mk 1 (some 24) none (.call 39 [(.tmp 23)]) [] false) []),(FI.mk (GI.mk 5 (some 28) none (.call 40 [(.tmp 25),(.tmp 27)]) [] false) [(1,24)]),(FI.mk (GI.mk 7 (some 30) none (.call 39 [(.tmp 29)]) [] false) [(5,28)]),(FI.mk (GI.mk 11 (some 34) none (.call 40 [(.tmp 31),(.tmp 33)]) [] false) [(7,30)]),(FI.mk (GI.mk 13 (some 36) none (.call 39 [(.tmp 35)]) [] false) [(11,34)]),(FI.mk (GI.mk 15 (some 38) none (.call 39 [(.tmp 37)]) [] false) [(13,36)]),(FI.mk (GI.mk 19 (some 42) none (.call 40 [(.tmp 39),(.tmp 41)]) [] false) [(15,38)]),(FI.mk (GI.mk 23 (some 46) none (.call 40 [(.tmp 43),(.tmp 45)]) [] false) [(19,42)]),(FI.mk (GI.mk 27 (some 50) none (.call 40 [(.tmp 47),(.tmp 49)]) [] false) [(23,46)]),(FI.mk (GI.mk 28 (some 51) none (.build [(.pointer none),(.pointer none),(.pointer none),(.pointer none),(.pointer none),(.pointer none),(.pointer none),(.pointer none),(.pointer none),(.pointer none),(.slice none 0 0),(.slice none 0 0),(.slice none 0 0)] [(0,(1,(.tmp 24))),(1,(1,(.tmp 28))),(2,(1,(.tmp 30))),(4,(1,(.tmp 34))),(5,(1,(.tmp 36))),(6,(1,(.tmp 38))),(7,(1,(.tmp 42))),(8,(1,(.tmp 46))),(9,(1,(.tmp 50)))]) [] false) [(1,24),(5,28),(7,30),(11,34),(13,36),(15,38),(19,42),(23,46),(27,50)]),(FI.mk (GI.mk 29 (some 5) none (.alloc 41 [(.pointer none),(.pointer none),(.pointer none),(.pointer none),(.pointer none),(.pointer none),(.pointer none),(.pointer none),(.pointer none),(.pointer none),(.slice none 0 0),(.slice none 0 0),(.slice none 0 0)]) [] false) [])] (OS 30 (.store 13 (.tmp 5) (.tmp 51)) .done)))))))))))))))))))))
abbrev g_q2_r5:GR:=(O3 0 52 1 1 (O2 1 53 52 (OP 2 54 (.len (.tmp 53)) (OP 3 55 (.mv (K 0)) .done))))
abbrev g_q2_r6:GR:=(O5 0 56 .lss 55 54 .done)
abbrev g_q2_r7:GR:=(O1 0 57 55 (O4 1 58 5 53 55 (OP 2 59 (.load (some 5) (.tmp 58)) (OP 3 7 (.alloc 63 [(.int .i64 0),(.int .i64 0),(.int .i64 0),(.int .u64 0),(.int .i64 0)]) (O1 4 6 57 (OS 5 (.store 5 (.tmp 7) (.tmp 59)) .done))))))
abbrev g_q2_r8:GR:=(O3 0 60 10 5 (O2 1 61 60 (O3 2 62 1 7 (O2 3 63 62 (OP 4 64 (.bin .eql (.tmp 63) (K 1)) (OP 5 65 (.buildSlice 4 1 [(.bool false)] [(0,(1,(.tmp 64)))]) (OP 6 66 (.append 4 1 1 [(.bool false)] (.tmp 61) (.tmp 65)) (O3 7 67 10 5 (OS 8 (.store 1 (.tmp 67) (.tmp 66)) .done)))))))))
abbrev g_q2_r9:GR:=(O3 0 68 11 5 (O2 1 69 68 (O3 2 70 1 7 (O2 3 71 70 (OP 4 72 (.bin .eql (.tmp 71) (K 2)) (OP 5 73 (.buildSlice 4 1 [(.bool false)] [(0,(1,(.tmp 72)))]) (OP 6 74 (.append 4 1 1 [(.bool false)] (.tmp 69) (.tmp 73)) (O3 7 75 11 5 (OS 8 (.store 1 (.tmp 75) (.tmp 74)) .done)))))))))
abbrev g_q2_r10:GR:=(O3 0 76 12 5 (O2 1 77 76 (O3 2 78 1 7 (O2 3 79 78 (OP 4 80 (.bin .eql (.tmp 79) (K 3)) (OP 5 81 (.buildSlice 4 1 [(.bool false)] [(0,(1,(.tmp 80)))]) (OP 6 82 (.append 4 1 1 [(.bool false)] (.tmp 77) (.tmp 81)) (O3 7 83 12 5 (OS 8 (.store 1 (.tmp 83) (.tmp 82)) .done)))))))))
abbrev g_q2_r11:GR:=(O3 0 84 1 1 (O2 1 85 84 (OP 2 86 (.len (.tmp 85)) (OP 3 87 (.mv (K 0)) .done))))
abbrev g_q2_r12:GR:=(O5 0 88 .lss 87 86 .done)
abbrev g_q2_r13:GR:=(O1 0 89 87 (O4 1 90 5 85 87 (OP 2 91 (.load (some 5) (.tmp 90)) (OP 3 9 (.alloc 63 [(.int .i64 0),(.int .i64 0),(.int .i64 0),(.int .u64 0),(.int .i64 0)]) (O1 4 8 89 (OS 5 (.store 5 (.tmp 9) (.tmp 91)) .done))))))
abbrev g_q2_r14:GR:=(O3 0 92 0 5 (O2 1 93 92 (O1 2 94 6 (O1 3 95 8 (O1 4 96 6 (O1 5 97 8 (O5 6 98 .lss 96 97 (O1 7 99 98 (OG 8 100 99 true (.fieldAddr 0 (.tmp 7)) (OG 9 101 99 true (.load none (.tmp 100)) (OG 10 102 99 true (.bin .geq (.tmp 101) (K 0)) (OP 11 103 (.pick (.tmp 99) (.tmp 102) (.const (.bool false))) (O1 12 104 103 (OG 13 105 104 true (.fieldAddr 0 (.tmp 7)) (OG 14 106 104 true (.load none (.tmp 105)) (OG 15 107 104 true (.fieldAddr 0 (.tmp 9)) (OG 16 108 104 true (.load none (.tmp 107)) (OG 17 109 104 true (.bin .eql (.tmp 106) (.tmp 108)) (OP 18 110 (.pick (.tmp 104) (.tmp 109) (.const (.bool false))) (OP 19 111 (.call 41 [(.tmp 93),(.tmp 94),(.tmp 95),(.tmp 110)]) .done))))))))))))))))))))
abbrev g_q2_r15:GR:=(O3 0 112 5 5 (O2 1 113 112 (O1 2 114 6 (O1 3 115 8 (O3 4 116 2 7 (O2 5 117 116 (OP 6 118 (.bin .geq (.tmp 117) (K 0)) (O1 7 119 118 (OG 8 120 119 true (.fieldAddr 2 (.tmp 7)) (OG 9 121 119 true (.load none (.tmp 120)) (OG 10 122 119 true (.fieldAddr 2 (.tmp 9)) (OG 11 123 119 true (.load none (.tmp 122)) (OG 12 124 119 true (.bin .eql (.tmp 121) (.tmp 123)) (OP 13 125 (.pick (.tmp 119) (.tmp 124) (.const (.bool false))) (OP 14 126 (.call 41 [(.tmp 113),(.tmp 114),(.tmp 115),(.tmp 125)]) .done)))))))))))))))
abbrev g_q2_r16:GR:=(O3 0 127 6 5 (O2 1 128 127 (O1 2 129 6 (O1 3 130 8 (O3 4 131 0 7 (O2 5 132 131 (O3 6 133 0 9 (O2 7 134 133 (O5 8 135 .neq 132 134 (OP 9 136 (.call 41 [(.tmp 128),(.tmp 129),(.tmp 130),(.tmp 135)]) .done))))))))))
abbrev g_q2_r17:GR:=(OP 0 137 (.bin .add (.tmp 87) (K 1)) (O1 1 87 137 .done))
abbrev g_q2_l18:GC:=(.seq (.reg g_q2_r12 [1,2,5,6,7,53,54,55,85,86,87,88]) (.seq (.cond (.tmp 88) .skip (.exit 2)) (.seq (.block 3 (.seq (.reg g_q2_r13 [1,2,5,6,7,8,9,53,54,55,85,86,87]) (.seq (.reg g_q2_r14 [1,2,5,6,7,8,9,53,54,55,85,86,87]) (.seq (.reg g_q2_r15 [1,2,5,6,7,8,9,53,54,55,85,86,87]) (.reg g_q2_r16 [1,2,5,6,7,53,54,55,85,86,87]))))) (.reg g_q2_r17 [1,2,5,6,7,53,54,55,85,86,87]))))
abbrev g_q2_r19:GR:=(OP 0 138 (.bin .add (.tmp 55) (K 1)) (O1 1 55 138 .done))
abbrev g_q2_l20:GC:=(.seq (.reg g_q2_r6 [1,2,5,53,54,55,56]) (.seq (.cond (.tmp 56) .skip (.exit 0)) (.seq (.block 1 (.seq (.reg g_q2_r7 [1,2,5,6,7,53,54,55]) (.seq (.reg g_q2_r8 [1,2,5,6,7,53,54,55]) (.seq (.reg g_q2_r9 [1,2,5,6,7,53,54,55]) (.seq (.reg g_q2_r10 [1,2,5,6,7,53,54,55]) (.seq (.reg g_q2_r11 [1,2,5,6,7,53,54,55,85,86,87]) (.block 2 (.loop g_q2_l18)))))))) (.reg g_q2_r19 [1,2,5,53,54,55]))))
abbrev g_q2_r21:GR:=(O3 0 139 3 1 (O2 1 140 139 (OP 2 141 (.len (.tmp 140)) (OP 3 142 (.mv (K 0)) .done))))
abbrev g_q2_r22:GR:=(O5 0 143 .lss 142 141 .done)
abbrev g_q2_r23:GR:=(O4 0 144 1 140 142 (O2 1 145 144 (O1 2 11 145 .done)))
abbrev g_q2_r24:GR:=(O1 0 146 11 (OP 1 147 (.len (.tmp 146)) (OP 2 148 (.mv (K 0)) .done)))
abbrev g_q2_r25:GR:=(O5 0 149 .lss 148 147 .done)
abbrev g_q2_r26:GR:=(O1 0 150 148 (O4 1 151 1 146 148 (O2 2 152 151 (O1 3 12 150 (O1 4 13 152 .done)))))
abbrev g_q2_r27:GR:=(O1 0 153 11 (O1 1 154 12 (OP 2 155 (.bin .add (.tmp 154) (K 1)) (OP 3 156 (.slice 1 (.tmp 153) (some (.tmp 155)) none) (OP 4 157 (.len (.tmp 156)) (OP 5 158 (.mv (K 0)) .done))))))
abbrev g_q2_r28:GR:=(O5 0 159 .lss 158 157 .done)
abbrev g_q2_r29:GR:=(O4 0 160 1 156 158 (O2 1 161 160 (O1 2 15 161 .done)))
abbrev g_q2_r30:GR:=(O3 0 162 2 5 (O2 1 163 162 (O1 2 164 13 (O1 3 165 15 (OP 4 166 (.call 41 [(.tmp 163),(.tmp 164),(.tmp 165),(.const (.bool true))]) .done)))))
abbrev g_q2_r31:GR:=(OP 0 167 (.bin .add (.tmp 158) (K 1)) (O1 1 158 167 .done))
abbrev g_q2_l32:GC:=(.seq (.reg g_q2_r28 [2,5,11,13,140,141,142,146,147,148,156,157,158,159]) (.seq (.cond (.tmp 159) .skip (.exit 8)) (.seq (.block 9 (.seq (.reg g_q2_r29 [2,5,11,13,15,140,141,142,146,147,148,156,157,158]) (.reg g_q2_r30 [2,5,11,13,140,141,142,146,147,148,156,157,158]))) (.reg g_q2_r31 [2,5,11,13,140,141,142,146,147,148,156,157,158]))))
abbrev g_q2_r33:GR:=(OP 0 168 (.bin .add (.tmp 148) (K 1)) (O1 1 148 168 .done))
abbrev g_q2_l34:GC:=(.seq (.reg g_q2_r25 [2,5,11,140,141,142,146,147,148,149]) (.seq (.cond (.tmp 149) .skip (.exit 6)) (.seq (.block 7 (.seq (.reg g_q2_r26 [2,5,11,12,13,140,141,142,146,147,148]) (.seq (.reg g_q2_r27 [2,5,11,13,140,141,142,146,147,148,156,157,158]) (.block 8 (.loop g_q2_l32))))) (.reg g_q2_r33 [2,5,11,140,141,142,146,147,148]))))
abbrev g_q2_r35:GR:=(OP 0 169 (.bin .add (.tmp 142) (K 1)) (O1 1 142 169 .done))
abbrev g_q2_l36:GC:=(.seq (.reg g_q2_r22 [2,5,140,141,142,143]) (.seq (.cond (.tmp 143) .skip (.exit 4)) (.seq (.block 5 (.seq (.reg g_q2_r23 [2,5,11,140,141,142]) (.seq (.reg g_q2_r24 [2,5,11,140,141,142,146,147,148]) (.block 6 (.loop g_q2_l34))))) (.reg g_q2_r35 [2,5,140,141,142]))))
abbrev g_q2_r37:GR:=(O3 0 170 1 5 (O6 1 171 170 (O3 3 173 2 5 (O6 4 174 173 (.op (GI.mk 2 (some 172) none (.call 43 [(.tmp 171)]) [4] false) (.op (GI.mk 5 (some 175) none (.call 42 [(.tmp 172),(.tmp 174)]) [1] false) (O3 6 176 3 5 (OS 7 (.store 1 (.tmp 176) (.tmp 175)) .done))))))))
abbrev g_q2_r38:GR:=(OP 0 177 (.load (some 13) (.tmp 5)) (OS 1 (.store 13 (.tmp 2) (.tmp 177)) (OP 2 3 (.mv (K 0)) .done)))
abbrev g_q2:GC:=(.seq (.reg g_q2_r0 [1,2]) (.seq (.seq (.reg g_q2_r1 [1,2,18]) (.cond (.tmp 18) (.seq (.reg g_q2_r2 [2,3]) .ret) .skip)) (.seq (.reg g_q2_r3 [1,2,4]) (.seq (.reg g_q2_r4 [1,2,5,1000000]) (.seq (.seq (.reg g_q2_r5 [1,2,5,53,54,55]) (.block 0 (.loop g_q2_l20))) (.seq (.seq (.reg g_q2_r21 [2,5,140,141,142]) (.block 4 (.loop g_q2_l36))) (.seq (.reg g_q2_r37 [2,5]) (.seq (.reg g_q2_r38 [2,3]) .ret))))))))
abbrev rs_q2:List RV:=[(.cell 2 (some 13)),(.tmp 3)]
theorem gc_q2:compileF Tryz.prog Tryz.f12 T_q2=some (g_q2,rs_q2):=by kernel_rfl
theorem con_q2 (hv:vc Tryz.prog y g_q2 (retQ rs_q2 R) [(0,a0)] h):ConX y Tryz.prog 12 #[a0] h R:=con_of Tryz.func12 gc_q2 rfl (fun h=>absurd h (by decide)) hv
def T_q93:List (Nat×List Nat):=[(0,[1,2]),(1,[2,10,11,12]),(2,[2,10,11,12,13]),(3,[2,8,10,11,12]),(4,[2,8,9,10,11,12]),(5,[2,8,9,10,11,12,22]),(6,[4,5,6]),(7,[2,10,11,12]),(8,[4,5,6])]
abbrev g_q93_r0:GR:=(OP 0 2 (.box 46 (.tmp 0)) (OP 1 4 (.mv (K 0)) (OP 2 5 (.mv (.const (.slice none 0 0))) (OP 3 6 (.mv (K 0)) .done))))
abbrev g_q93_r1:GR:=(O1 0 10 1 (OP 1 11 (.len (.tmp 10)) (OP 2 12 (.mv (K 0)) .done)))
abbrev g_q93_r2:GR:=(O5 0 13 .lss 12 11 .done)
abbrev g_q93_r3:GR:=(O4 0 14 2 10 12 (OP 1 15 (.load (some 2) (.tmp 14)) (OP 2 8 (.alloc 50 [(.int .i64 0),Value.nilFunc]) (OS 3 (.store 2 (.tmp 8) (.tmp 15)) .done))))
abbrev g_q93_r4:GR:=(O3 0 16 1 8 (O2 1 17 16 (OP 2 18 (.load (some 21) (.tmp 2)) (OP 3 19 (.callv (.tmp 17) [(.tmp 18)]) (O1 4 9 19 .done)))))
abbrev g_q93_r5:GR:=(O1 0 20 9 (OP 1 21 (.len (.tmp 20)) (OP 2 22 (.bin .gtr (.tmp 21) (K 0)) .done)))
abbrev g_q93_r6:GR:=(O3 0 23 0 8 (O2 1 24 23 (O1 2 25 9 (O1 3 4 24 (O1 4 5 25 (OP 5 6 (.mv (K 0)) .done))))))
abbrev g_q93_r7:GR:=(OP 0 26 (.bin .add (.tmp 12) (K 1)) (O1 1 12 26 .done))
abbrev g_q93_l8:GC:=(.seq (.reg g_q93_r2 [2,10,11,12,13]) (.seq (.cond (.tmp 13) .skip (.exit 0)) (.seq (.block 1 (.seq (.reg g_q93_r3 [2,8,10,11,12]) (.seq (.reg g_q93_r4 [2,8,9,10,11,12]) (.seq (.reg g_q93_r5 [2,8,9,10,11,12,22]) (.cond (.tmp 22) (.seq (.reg g_q93_r6 [4,5,6]) .ret) .skip))))) (.reg g_q93_r7 [2,10,11,12]))))
abbrev g_q93_r9:GR:=(OP 0 4 (.mv (K 0)) (OP 1 5 (.mv (.const (.slice none 0 0))) (OP 2 6 (.mv (K 0)) .done)))
abbrev g_q93:GC:=(.seq (.reg g_q93_r0 [1,2]) (.seq (.seq (.reg g_q93_r1 [2,10,11,12]) (.block 0 (.loop g_q93_l8))) (.seq (.reg g_q93_r9 [4,5,6]) .ret)))
abbrev rs_q93:List RV:=[(.tmp 4),(.tmp 5),(.tmp 6)]
theorem gc_q93:compileF Tryz.prog Tryz.f13 T_q93=some (g_q93,rs_q93):=by kernel_rfl
theorem con_q93 (hv:vc Tryz.prog y g_q93 (retQ rs_q93 R) [(0,a0),(1,a1)] h):ConX y Tryz.prog 13 #[a0,a1] h R:=con_of Tryz.func13 gc_q93 rfl (fun h=>absurd h (by decide)) hv
def T_q90:List (Nat×List Nat):=[(0,[1]),(1,[2])]
abbrev g_q90_r0:GR:=(OP 0 1 (.box 46 (.tmp 0)) (OP 1 2 (.mv (.const (.slice none 0 0))) .done))
abbrev g_q90_r1:GR:=(OP 0 3 (.load (some 21) (.tmp 1)) (O3 1 4 8 1 (O3 2 5 0 4 (O2 3 6 5 (OP 4 7 (.call 15 [(.tmp 3),(.tmp 6)]) (O1 5 2 7 .done))))))
abbrev g_q90:GC:=(.seq (.reg g_q90_r0 [1]) (.seq (.reg g_q90_r1 [2]) .ret))
abbrev rs_q90:List RV:=[(.tmp 2)]
theorem gc_q90:compileF Tryz.prog Tryz.f14 T_q90=some (g_q90,rs_q90):=by kernel_rfl
theorem con_q90 (hv:vc Tryz.prog y g_q90 (retQ rs_q90 R) [(0,a0)] h):ConX y Tryz.prog 14 #[a0] h R:=con_of Tryz.func14 gc_q90 rfl (fun h=>absurd h (by decide)) hv
def T_q96:List (Nat×List Nat):=[(0,[1,2]),(1,[4])]
abbrev g_q96_r0:GR:=(OP 0 2 (.box 46 (.tmp 0)) (OP 1 4 (.mv (.const (.slice none 0 0))) .done))
abbrev g_q96_r1:GR:=(O1 0 5 1 (O3 1 6 8 2 (O3 2 7 1 6 (O2 3 8 7 (O3 4 9 8 2 (O3 5 10 2 9 (O2 6 11 10 (O3 7 12 8 2 (O3 8 13 3 12 (O2 9 14 13 (OP 10 15 (.buildSlice 38 4 [(.pointer none),(.pointer none),(.pointer none),(.pointer none)] [(0,(1,(.tmp 5))),(1,(1,(.tmp 8))),(2,(1,(.tmp 11))),(3,(1,(.tmp 14)))]) (OP 11 16 (.call 45 [(.tmp 15)]) (OP 12 17 (.call 44 [(.tmp 16)]) (O1 13 4 17 .done))))))))))))))
abbrev g_q96:GC:=(.seq (.reg g_q96_r0 [1,2]) (.seq (.reg g_q96_r1 [4]) .ret))
abbrev rs_q96:List RV:=[(.tmp 4)]
theorem gc_q96:compileF Tryz.prog Tryz.f15 T_q96=some (g_q96,rs_q96):=by kernel_rfl
theorem con_q96 (hv:vc Tryz.prog y g_q96 (retQ rs_q96 R) [(0,a0),(1,a1)] h):ConX y Tryz.prog 15 #[a0,a1] h R:=con_of Tryz.func15 gc_q96 rfl (fun h=>absurd h (by decide)) hv
def T_q97:List (Nat×List Nat):=[(0,[1]),(1,[1,3]),(2,[3,15,16,17]),(3,[3,15,16,17,18]),(4,[3,5,15,16,17]),(5,[3,5,15,16,17,26]),(6,[2]),(7,[3,15,16,17]),(8,[2])]
abbrev g_q97_r0:GR:=(OP 0 1 (.box 46 (.tmp 0)) (OP 1 2 (.mv (.const (.slice none 0 0))) .done))
abbrev g_q97_r1:GR:=(O3 0 6 8 1 (O3 1 7 3 6 (O2 2 8 7 (O3 3 9 8 1 (O3 4 10 2 9 (O2 5 11 10 (OP 6 12 (.call 42 [(.tmp 8),(.tmp 11)]) (O1 7 3 12 .done))))))))
abbrev g_q97_r2:GR:=(O3 0 13 0 1 (O3 1 14 4 13 (O2 2 15 14 (OP 3 16 (.len (.tmp 15)) (OP 4 17 (.mv (K 0)) .done)))))
abbrev g_q97_r3:GR:=(O5 0 18 .lss 17 16 .done)
abbrev g_q97_r4:GR:=(O4 0 19 2 15 17 (OP 1 20 (.load (some 2) (.tmp 19)) (OP 2 5 (.alloc 76 [(.int .i64 0),(.int .i64 0)]) (OS 3 (.store 2 (.tmp 5) (.tmp 20)) .done))))
abbrev g_q97_r5:GR:=(O1 0 21 3 (O3 1 22 0 5 (O2 2 23 22 (O3 3 24 1 5 (O2 4 25 24 (OP 5 26 (.call 46 [(.tmp 21),(.tmp 23),(.tmp 25)]) .done))))))
abbrev g_q97_r6:GR:=(O3 0 27 0 5 (O2 1 28 27 (O3 2 29 1 5 (O2 3 30 29 (OP 4 31 (.buildSlice 3 2 [(.int .i64 0),(.int .i64 0)] [(0,(1,(.tmp 28))),(1,(1,(.tmp 30)))]) (O1 5 2 31 .done))))))
abbrev g_q97_r7:GR:=(OP 0 32 (.bin .add (.tmp 17) (K 1)) (O1 1 17 32 .done))
abbrev g_q97_l8:GC:=(.seq (.reg g_q97_r3 [3,15,16,17,18]) (.seq (.cond (.tmp 18) .skip (.exit 0)) (.seq (.block 1 (.seq (.reg g_q97_r4 [3,5,15,16,17]) (.seq (.reg g_q97_r5 [3,5,15,16,17,26]) (.cond (.tmp 26) (.seq (.reg g_q97_r6 [2]) .ret) .skip)))) (.reg g_q97_r7 [3,15,16,17]))))
abbrev g_q97_r9:GR:=(OP 0 2 (.mv (.const (.slice none 0 0))) .done)
abbrev g_q97:GC:=(.seq (.reg g_q97_r0 [1]) (.seq (.reg g_q97_r1 [1,3]) (.seq (.seq (.reg g_q97_r2 [3,15,16,17]) (.block 0 (.loop g_q97_l8))) (.seq (.reg g_q97_r9 [2]) .ret))))
abbrev rs_q97:List RV:=[(.tmp 2)]
theorem gc_q97:compileF Tryz.prog Tryz.f16 T_q97=some (g_q97,rs_q97):=by kernel_rfl
theorem con_q97 (hv:vc Tryz.prog y g_q97 (retQ rs_q97 R) [(0,a0)] h):ConX y Tryz.prog 16 #[a0] h R:=con_of Tryz.func16 gc_q97 rfl (fun h=>absurd h (by decide)) hv
def T_q49:List (Nat×List Nat):=[(0,[1]),(1,[1,3]),(2,[3,5]),(3,[2])]
abbrev g_q49_r0:GR:=(OP 0 1 (.box 26 (.tmp 0)) (OP 1 2 (.mv (.const (.bool false))) .done))
abbrev g_q49_r1:GR:=(OP 0 8 (.load (some 8) (.tmp 1)) (OP 1 9 (.call 47 [(.tmp 8),(.const (.bool false))]) (O1 2 7 9 (OP 3 10 (.extract 0 (.tmp 7)) (OP 4 11 (.extract 1 (.tmp 7)) (O1 5 3 10 (O1 6 4 11 .done)))))))
abbrev g_q49_r2:GR:=(OP 0 13 (.load (some 8) (.tmp 1)) (OP 1 14 (.call 47 [(.tmp 13),(.const (.bool true))]) (O1 2 12 14 (OP 3 15 (.extract 0 (.tmp 12)) (OP 4 16 (.extract 1 (.tmp 12)) (O1 5 5 15 (O1 6 6 16 .done)))))))
abbrev g_q49_r3:GR:=(O1 0 17 3 (OP 1 18 (.bin .eql (.tmp 17) (K 0)) (O1 2 19 18 (OG 3 20 19 false (.mv (.tmp 5)) (OG 4 21 19 false (.bin .eql (.tmp 20) (K 0)) (OP 5 22 (.pick (.tmp 19) (.const (.bool true)) (.tmp 21)) (O1 6 2 22 .done)))))))
abbrev g_q49:GC:=(.seq (.reg g_q49_r0 [1]) (.seq (.reg g_q49_r1 [1,3]) (.seq (.reg g_q49_r2 [3,5]) (.seq (.reg g_q49_r3 [2]) .ret))))
abbrev rs_q49:List RV:=[(.tmp 2)]
theorem gc_q49:compileF Tryz.prog Tryz.f17 T_q49=some (g_q49,rs_q49):=by kernel_rfl
theorem con_q49 (hv:vc Tryz.prog y g_q49 (retQ rs_q49 R) [(0,a0)] h):ConX y Tryz.prog 17 #[a0] h R:=con_of Tryz.func17 gc_q49 rfl (fun h=>absurd h (by decide)) hv
def T_q31:List (Nat×List Nat):=[(0,[1]),(1,[1,3]),(2,[1,3,4]),(3,[1,3,4,16]),(4,[1,3,4]),(5,[1,3,4,27]),(6,[1,4,5]),(7,[1,4,5,6]),(8,[1,4,5,6,7]),(9,[1,5,6,7,8]),(10,[1,5,6,7,8,40]),(11,[1,5,6,7,8]),(12,[1,5,6,7,8,9]),(13,[1,5,6,7,8,9,10]),(14,[1,5,6,7,8,9,10,47]),(15,[1,5,6,7,8,9,10]),(16,[1,5,6,7,8,9,10,65]),(17,[1,5,6,7,8,9,10]),(18,[1,5,6,8,9]),(19,[1,5,6,7,8]),(20,[2]),(21,[2])]
abbrev g_q31_r0:GR:=(OP 0 1 (.box 54 (.tmp 0)) (OP 1 2 (.mv (.const (.slice none 0 0))) .done))
abbrev g_q31_r1:GR:=(OP 0 11 (.load (some 2) (.tmp 1)) (OP 1 12 (.call 48 [(.tmp 11)]) (OP 2 3 (.alloc 54 [(.int .i64 0),(.slice none 0 0)]) (OS 3 (.store 2 (.tmp 3) (.tmp 12)) .done))))
abbrev g_q31_r2:GR:=(OP 0 4 (.mv (K 0)) .done)
abbrev g_q31_r3:GR:=(O1 0 13 4 (O3 1 14 0 1 (O2 2 15 14 (O5 3 16 .lss 13 15 .done))))
abbrev g_q31_r4:GR:=(O3 0 19 1 3 (O2 1 20 19 (O1 2 21 4 (O4 3 22 1 20 21 (O2 4 23 22 (O1 5 24 4 (O4 6 25 1 23 24 (O2 7 26 25 (OP 8 27 (.not (.tmp 26)) .done)))))))))
abbrev g_q31_r5:GR:=(OP 0 28 (.load (some 2) (.tmp 1)) (O1 1 29 4 (OP 2 30 (.call 49 [(.tmp 28),(.tmp 29)]) (O1 3 5 30 .done))))
abbrev g_q31_r6:GR:=(O1 0 31 4 (OP 1 32 (.buildSlice 3 1 [(.int .i64 0)] [(0,(1,(.tmp 31)))]) (O1 2 6 32 .done)))
abbrev g_q31_r7:GR:=(O1 0 33 4 (O1 1 7 33 .done))
abbrev g_q31_r8:GR:=(O1 0 34 5 (O1 1 35 4 (O4 2 36 1 34 35 (O2 3 37 36 (OP 4 38 (.bin .sub (.tmp 37) (K 1)) (O1 5 8 38 .done))))))
abbrev g_q31_r9:GR:=(O1 0 39 8 (OP 1 40 (.bin .gtr (.tmp 39) (K 0)) .done))
abbrev g_q31_r10:GR:=(OP 0 9 (.mv (K (-1))) .done)
abbrev g_q31_r11:GR:=(O3 0 43 0 1 (O2 1 44 43 (OP 2 45 (.bin .sub (.tmp 44) (K 1)) (O1 3 10 45 .done))))
abbrev g_q31_r12:GR:=(O1 0 46 10 (OP 1 47 (.bin .geq (.tmp 46) (K 0)) .done))
abbrev g_q31_r13:GR:=(O3 0 50 1 1 (O2 1 51 50 (O1 2 52 7 (O4 3 53 1 51 52 (O2 4 54 53 (O1 5 55 10 (O4 6 56 1 54 55 (O2 7 57 56 (O1 8 58 57 (OG 9 59 58 true (.mv (.tmp 5)) (OG 10 60 58 true (.mv (.tmp 10)) (OG 11 61 58 true (.indexAddr 1 (.tmp 59) (.tmp 60)) (OG 12 62 58 true (.load none (.tmp 61)) (OG 13 63 58 true (.mv (.tmp 8)) (OG 14 64 58 true (.bin .eql (.tmp 62) (.tmp 63)) (OP 15 65 (.pick (.tmp 58) (.tmp 64) (.const (.bool false))) .done))))))))))))))))
abbrev g_q31_r14:GR:=(O1 0 66 10 (O1 1 9 66 .done))
abbrev g_q31_r15:GR:=(O1 0 48 10 (OP 1 49 (.bin .sub (.tmp 48) (K 1)) (O1 2 10 49 .done)))
abbrev g_q31_l16:GC:=(.seq (.seq (.reg g_q31_r12 [1,5,6,7,8,9,10,47]) (.cond (.tmp 47) .skip (.exit 4))) (.seq (.block 5 (.seq (.reg g_q31_r13 [1,5,6,7,8,9,10,65]) (.cond (.tmp 65) (.reg g_q31_r14 [1,5,6,7,8,9,10]) .skip))) (.reg g_q31_r15 [1,5,6,7,8,9,10])))
abbrev g_q31_r17:GR:=(O1 0 67 6 (O1 1 68 9 (OP 2 69 (.buildSlice 3 1 [(.int .i64 0)] [(0,(1,(.tmp 68)))]) (OP 3 70 (.append 3 1 8 [(.int .i64 0)] (.tmp 67) (.tmp 69)) (O1 4 6 70 .done)))))
abbrev g_q31_r18:GR:=(O1 0 71 9 (O1 1 7 71 .done))
abbrev g_q31_r19:GR:=(O1 0 41 8 (OP 1 42 (.bin .sub (.tmp 41) (K 1)) (O1 2 8 42 .done)))
abbrev g_q31_l20:GC:=(.seq (.seq (.reg g_q31_r9 [1,5,6,7,8,40]) (.cond (.tmp 40) .skip (.exit 2))) (.seq (.block 3 (.seq (.reg g_q31_r10 [1,5,6,7,8,9]) (.seq (.seq (.reg g_q31_r11 [1,5,6,7,8,9,10]) (.block 4 (.loop g_q31_l16))) (.seq (.reg g_q31_r17 [1,5,6,8,9]) (.reg g_q31_r18 [1,5,6,7,8]))))) (.reg g_q31_r19 [1,5,6,7,8])))
abbrev g_q31_r21:GR:=(O1 0 72 6 (O1 1 2 72 .done))
abbrev g_q31_r22:GR:=(O1 0 17 4 (OP 1 18 (.bin .add (.tmp 17) (K 1)) (O1 2 4 18 .done)))
abbrev g_q31_l23:GC:=(.seq (.seq (.reg g_q31_r3 [1,3,4,16]) (.cond (.tmp 16) .skip (.exit 0))) (.seq (.block 1 (.seq (.seq (.reg g_q31_r4 [1,3,4,27]) (.cond (.tmp 27) (.exit 1) .skip)) (.seq (.reg g_q31_r5 [1,4,5]) (.seq (.reg g_q31_r6 [1,4,5,6]) (.seq (.reg g_q31_r7 [1,4,5,6,7]) (.seq (.seq (.reg g_q31_r8 [1,5,6,7,8]) (.block 2 (.loop g_q31_l20))) (.seq (.reg g_q31_r21 [2]) .ret))))))) (.reg g_q31_r22 [1,3,4])))
abbrev g_q31_r24:GR:=(OP 0 2 (.mv (.const (.slice none 0 0))) .done)
abbrev g_q31:GC:=(.seq (.reg g_q31_r0 [1]) (.seq (.reg g_q31_r1 [1,3]) (.seq (.seq (.reg g_q31_r2 [1,3,4]) (.block 0 (.loop g_q31_l23))) (.seq (.reg g_q31_r24 [2]) .ret))))
abbrev rs_q31:List RV:=[(.tmp 2)]
theorem gc_q31:compileF Tryz.prog Tryz.f18 T_q31=some (g_q31,rs_q31):=by kernel_rfl
theorem con_q31 (hv:vc Tryz.prog y g_q31 (retQ rs_q31 R) [(0,a0)] h):ConX y Tryz.prog 18 #[a0] h R:=con_of Tryz.func18 gc_q31 rfl (fun h=>absurd h (by decide)) hv
def T_q24:List (Nat×List Nat):=[(0,[1,2]),(1,[2])]
abbrev g_q24_r0:GR:=(OP 0 1 (.box 26 (.tmp 0)) (OP 1 2 (.alloc 54 [(.int .i64 0),(.slice none 0 0)]) .done))
abbrev g_q24_r1:GR:=(OW 0 3 (.load (some 8) (.tmp 1)) (OW 2 5 (.load (some 8) (.tmp 1)) (OW 4 7 (.load (some 8) (.tmp 1)) (OW 6 9 (.load (some 8) (.tmp 1)) (.op (GI.mk 1 (some 4) none (.call 26 [(.tmp 3)]) [2,4,6] false) (.op (GI.mk 3 (some 6) none (.call 28 [(.tmp 5)]) [0,4,6] false) (.op (GI.mk 5 (some 8) none (.call 29 [(.tmp 7)]) [0,2,6] false) (.op (GI.mk 7 (some 10) none (.call 30 [(.tmp 9)]) [0,2,4] false) (OP 8 11 (.buildSlice 54 4 [(.int .i64 0),(.slice none 0 0),(.int .i64 0),(.slice none 0 0),(.int .i64 0),(.slice none 0 0),(.int .i64 0),(.slice none 0 0)] [(0,(2,(.tmp 4))),(2,(2,(.tmp 6))),(4,(2,(.tmp 8))),(6,(2,(.tmp 10)))]) (.op (GI.mk 9 (some 12) none (.call 24 [(.tmp 11)]) [0,2,4,6] false) (OS 10 (.store 2 (.tmp 2) (.tmp 12)) .done)))))))))))
abbrev g_q24:GC:=(.seq (.reg g_q24_r0 [1,2]) (.seq (.reg g_q24_r1 [2]) .ret))
abbrev rs_q24:List RV:=[(.cell 2 (some 2))]
theorem gc_q24:compileF Tryz.prog Tryz.f19 T_q24=some (g_q24,rs_q24):=by kernel_rfl
theorem con_q24 (hv:vc Tryz.prog y g_q24 (retQ rs_q24 R) [(0,a0)] h):ConX y Tryz.prog 19 #[a0] h R:=con_of Tryz.func19 gc_q24 rfl (fun h=>absurd h (by decide)) hv
def T_q29:List (Nat×List Nat):=[(0,[1]),(1,[1,3]),(2,[1,3,4]),(3,[1,3,4,14]),(4,[1,3,4]),(5,[1,3,4,34]),(6,[2]),(7,[2])]
abbrev g_q29_r0:GR:=(OP 0 1 (.box 26 (.tmp 0)) (OP 1 2 (.mv (.const (.slice none 0 0))) .done))
abbrev g_q29_r1:GR:=(OW 0 5 (.load (some 8) (.tmp 1)) (OW 2 7 (.load (some 8) (.tmp 1)) (.two (.op (GI.mk 1 (some 6) none (.call 30 [(.tmp 5)]) [2] false) (.two (.op (GI.mk 3 (some 8) none (.call 29 [(.tmp 7)]) [0] false) (.two (.op (GI.mk 4 (some 9) none (.call 50 [(.tmp 6),(.tmp 8)]) [0,2] false) (OP 5 3 (.alloc 54 [(.int .i64 0),(.slice none 0 0)]) (OS 6 (.store 2 (.tmp 3) (.tmp 9)) .done))) (OP 5 3 (.alloc 54 [(.int .i64 0),(.slice none 0 0)]) (.op (GI.mk 4 (some 9) none (.call 50 [(.tmp 6),(.tmp 8)]) [0,2] false) (OS 6 (.store 2 (.tmp 3) (.tmp 9)) .done))))) (OP 5 3 (.alloc 54 [(.int .i64 0),(.slice none 0 0)]) (.op (GI.mk 3 (some 8) none (.call 29 [(.tmp 7)]) [0] false) (.op (GI.mk 4 (some 9) none (.call 50 [(.tmp 6),(.tmp 8)]) [0,2] false) (OS 6 (.store 2 (.tmp 3) (.tmp 9)) .done)))))) (OP 5 3 (.alloc 54 [(.int .i64 0),(.slice none 0 0)]) (.op (GI.mk 1 (some 6) none (.call 30 [(.tmp 5)]) [2] false) (.op (GI.mk 3 (some 8) none (.call 29 [(.tmp 7)]) [0] false) (.op (GI.mk 4 (some 9) none (.call 50 [(.tmp 6),(.tmp 8)]) [0,2] false) (OS 6 (.store 2 (.tmp 3) (.tmp 9)) .done))))))))
abbrev g_q29_r2:GR:=(OP 0 4 (.mv (K 0)) .done)
abbrev g_q29_r3:GR:=(O1 0 10 4 (O3 1 11 4 1 (O2 2 12 11 (OP 3 13 (.len (.tmp 12)) (O5 4 14 .lss 10 13 .done)))))
abbrev g_q29_r4:GR:=(O3 0 17 1 3 (O6 1 18 17 (O3 2 19 4 1 (O6 3 20 19 (O1 4 21 4 (O4 5 22 2 20 21 (O3 6 23 0 22 (O6 7 24 23 (O4 8 25 1 18 24 (O6 9 26 25 (O3 10 27 4 1 (O6 11 28 27 (O1 12 29 4 (O4 13 30 2 28 29 (O3 14 31 1 30 (O6 15 32 31 (O4 16 33 1 26 32 (O6 17 34 33 .done))))))))))))))))))
abbrev g_q29_r5:GR:=(O3 0 35 4 1 (O6 1 36 35 (O1 2 37 4 (O4 3 38 2 36 37 (O3 4 39 0 38 (O6 5 40 39 (O3 6 41 4 1 (O6 7 42 41 (O1 8 43 4 (O4 9 44 2 42 43 (O3 10 45 1 44 (O6 11 46 45 (OP 12 47 (.buildSlice 3 2 [(.int .i64 0),(.int .i64 0)] [(0,(1,(.tmp 40))),(1,(1,(.tmp 46)))]) (O1 13 2 47 .done))))))))))))))
abbrev g_q29_r6:GR:=(O1 0 15 4 (OP 1 16 (.bin .add (.tmp 15) (K 1)) (O1 2 4 16 .done)))
abbrev g_q29_l7:GC:=(.seq (.seq (.reg g_q29_r3 [1,3,4,14]) (.cond (.tmp 14) .skip (.exit 0))) (.seq (.block 1 (.seq (.reg g_q29_r4 [1,3,4,34]) (.cond (.tmp 34) (.seq (.reg g_q29_r5 [2]) .ret) .skip))) (.reg g_q29_r6 [1,3,4])))
abbrev g_q29_r8:GR:=(OP 0 2 (.mv (.const (.slice none 0 0))) .done)
abbrev g_q29:GC:=(.seq (.reg g_q29_r0 [1]) (.seq (.reg g_q29_r1 [1,3]) (.seq (.seq (.reg g_q29_r2 [1,3,4]) (.block 0 (.loop g_q29_l7))) (.seq (.reg g_q29_r8 [2]) .ret))))
abbrev rs_q29:List RV:=[(.tmp 2)]
theorem gc_q29:compileF Tryz.prog Tryz.f20 T_q29=some (g_q29,rs_q29):=by kernel_rfl
theorem con_q29 (hv:vc Tryz.prog y g_q29 (retQ rs_q29 R) [(0,a0)] h):ConX y Tryz.prog 20 #[a0] h R:=con_of Tryz.func20 gc_q29 rfl (fun h=>absurd h (by decide)) hv
def T_q92:List (Nat×List Nat):=[(0,[1]),(1,[2])]
abbrev g_q92_r0:GR:=(OP 0 1 (.box 46 (.tmp 0)) (OP 1 2 (.mv (.const (.slice none 0 0))) .done))
abbrev g_q92_r1:GR:=(OW 0 3 (.load (some 21) (.tmp 1)) (O3 1 4 8 1 (O3 2 5 0 4 (O6 3 6 5 (O3 4 7 8 1 (O3 5 8 5 7 (O6 6 9 8 (.op (GI.mk 7 (some 10) none (.call 22 [(.tmp 6),(.tmp 9)]) [0] false) (.op (GI.mk 8 (some 11) none (.call 15 [(.tmp 3),(.tmp 10)]) [3,6] false) (O1 9 2 11 .done))))))))))
abbrev g_q92:GC:=(.seq (.reg g_q92_r0 [1]) (.seq (.reg g_q92_r1 [2]) .ret))
abbrev rs_q92:List RV:=[(.tmp 2)]
theorem gc_q92:compileF Tryz.prog Tryz.f21 T_q92=some (g_q92,rs_q92):=by kernel_rfl
theorem con_q92 (hv:vc Tryz.prog y g_q92 (retQ rs_q92 R) [(0,a0)] h):ConX y Tryz.prog 21 #[a0] h R:=con_of Tryz.func21 gc_q92 rfl (fun h=>absurd h (by decide)) hv
def T_q70:List (Nat×List Nat):=[(0,[0,1]),(1,[4])]
abbrev g_q70_r0:GR:=(OP 0 4 (.mv (.const (.pointer none))) .done)
abbrev g_q70_r1:GR:=(O1 0 5 0 (O1 1 6 1 (OP 2 7 (.call 51 [(.tmp 5),(.tmp 6),(.const (.bool true))]) (O1 3 4 7 .done))))
abbrev g_q70:GC:=(.seq (.reg g_q70_r0 [0,1]) (.seq (.reg g_q70_r1 [4]) .ret))
abbrev rs_q70:List RV:=[(.tmp 4)]
theorem gc_q70:compileF Tryz.prog Tryz.f22 T_q70=some (g_q70,rs_q70):=by kernel_rfl
theorem con_q70 (hv:vc Tryz.prog y g_q70 (retQ rs_q70 R) [(0,a0),(1,a1)] h):ConX y Tryz.prog 22 #[a0,a1] h R:=con_of Tryz.func22 gc_q70 rfl (fun h=>absurd h (by decide)) hv
def T_q94:List (Nat×List Nat):=[(0,[1]),(1,[1,3]),(2,[1,3,4]),(3,[1,3,4,5]),(4,[1,3,4,5,23,24]),(5,[1,3,4,5,23,24,25]),(6,[1,3,4,5,6,23,24]),(7,[1,3,4,5,6,23,24]),(8,[1,3,4,5,23,24]),(9,[1,3,4,5,23,24]),(10,[1,3,4,5,7]),(11,[1,3,4,5,7,57,58,59]),(12,[1,3,4,5,7,57,58,59,60]),(13,[1,3,4,5,7,9,57,58,59]),(14,[1,3,4,5,7,57,58,59]),(15,[1,3,4,5,7,57,58,59]),(16,[1,5,10,11]),(17,[1,12]),(18,[2])]
abbrev g_q94_r0:GR:=(OP 0 1 (.box 46 (.tmp 0)) (OP 1 2 (.mv (.const (.slice none 0 0))) .done))
abbrev g_q94_r1:GR:=(O3 0 13 0 1 (O3 1 14 1 13 (O2 2 15 14 (OP 3 16 (.len (.tmp 15)) (O1 4 3 16 .done)))))
abbrev g_q94_r2:GR:=(O3 0 17 0 1 (OP 1 18 (.load (some 8) (.tmp 17)) (OP 2 19 (.buildSlice 3 2 [(.int .i64 0),(.int .i64 0)] [(0,(1,(K 5))),(1,(1,(K 15)))]) (OP 3 20 (.call 52 [(.tmp 18),(.tmp 19)]) (O1 4 4 20 .done)))))
abbrev g_q94_r3:GR:=(O1 0 21 3 (OP 1 22 (.makeSlice 4 1 1 [(.bool false)] (.tmp 21) (.tmp 21)) (O1 2 5 22 .done)))
abbrev g_q94_r4:GR:=(O1 0 23 3 (OP 1 24 (.mv (K 0)) .done))
abbrev g_q94_r5:GR:=(O5 0 25 .lss 24 23 .done)
abbrev g_q94_r6:GR:=(O1 0 26 24 (O1 1 6 26 .done))
abbrev g_q94_r7:GR:=(O1 0 27 4 (O1 1 28 6 (O1 2 29 4 (O1 3 30 6 (O4 4 31 1 29 30 (O2 5 32 31 (O1 6 33 32 (OG 7 34 33 true (.fieldAddr 8 (.tmp 1)) (OG 8 35 33 true (.fieldAddr 12 (.tmp 34)) (OG 9 36 33 true (.load none (.tmp 35)) (OG 10 37 33 true (.mv (.tmp 6)) (OG 11 38 33 true (.indexAddr 1 (.tmp 36) (.tmp 37)) (OG 12 39 33 true (.load none (.tmp 38)) (OP 13 40 (.pick (.tmp 33) (.tmp 39) (.const (.bool false))) (O4 14 41 1 27 28 (OS 15 (.store 1 (.tmp 41) (.tmp 40)) .done))))))))))))))))
abbrev g_q94_r8:GR:=(O1 0 42 5 (O1 1 43 6 (O3 2 44 8 1 (O3 3 45 12 44 (O2 4 46 45 (O1 5 47 6 (O4 6 48 1 46 47 (O2 7 49 48 (OP 8 50 (.not (.tmp 49)) (O4 9 51 1 42 43 (OS 10 (.store 1 (.tmp 51) (.tmp 50)) .done)))))))))))
abbrev g_q94_r9:GR:=(OP 0 52 (.bin .add (.tmp 24) (K 1)) (O1 1 24 52 .done))
abbrev g_q94_l10:GC:=(.seq (.reg g_q94_r5 [1,3,4,5,23,24,25]) (.seq (.cond (.tmp 25) .skip (.exit 0)) (.seq (.block 1 (.seq (.reg g_q94_r6 [1,3,4,5,6,23,24]) (.seq (.reg g_q94_r7 [1,3,4,5,6,23,24]) (.reg g_q94_r8 [1,3,4,5,23,24])))) (.reg g_q94_r9 [1,3,4,5,23,24]))))
abbrev g_q94_r11:GR:=(O1 0 53 3 (OP 1 54 (.makeSlice 4 1 1 [(.bool false)] (.tmp 53) (.tmp 53)) (O1 2 7 54 .done)))
abbrev g_q94_r12:GR:=(O3 0 55 0 1 (O3 1 56 4 55 (O2 2 57 56 (OP 3 58 (.len (.tmp 57)) (OP 4 59 (.mv (K 0)) .done)))))
abbrev g_q94_r13:GR:=(O5 0 60 .lss 59 58 .done)
abbrev g_q94_r14:GR:=(O4 0 61 2 57 59 (OP 1 62 (.load (some 2) (.tmp 61)) (OP 2 9 (.alloc 76 [(.int .i64 0),(.int .i64 0)]) (OS 3 (.store 2 (.tmp 9) (.tmp 62)) .done))))
abbrev g_q94_r15:GR:=(O1 0 63 7 (O3 1 64 0 9 (O6 2 65 64 (O1 3 66 7 (O3 4 67 1 9 (O6 5 68 67 (O4 6 69 1 63 65 (.op (GI.mk 7 none none (.store 1 (.tmp 69) (.const (.bool true))) [5] false) (O4 8 70 1 66 68 (OS 9 (.store 1 (.tmp 70) (.const (.bool true))) .done))))))))))
abbrev g_q94_r16:GR:=(OP 0 71 (.bin .add (.tmp 59) (K 1)) (O1 1 59 71 .done))
abbrev g_q94_l17:GC:=(.seq (.reg g_q94_r13 [1,3,4,5,7,57,58,59,60]) (.seq (.cond (.tmp 60) .skip (.exit 2)) (.seq (.block 3 (.seq (.reg g_q94_r14 [1,3,4,5,7,9,57,58,59]) (.reg g_q94_r15 [1,3,4,5,7,57,58,59]))) (.reg g_q94_r16 [1,3,4,5,7,57,58,59]))))
abbrev g_q94_r18:GR:=(O1 0 72 3 (O1 1 73 4 (OP 2 74 (.call 53 [(.tmp 72),(.tmp 73)]) (O1 3 75 3 (O1 4 76 7 (OP 5 77 (.call 53 [(.tmp 75),(.tmp 76)]) (O1 6 10 74 (O1 7 11 77 .done))))))))
abbrev g_q94_r19:GR:=(O3 0 78 8 1 (O3 1 79 0 78 (O6 2 80 79 (O3 3 81 8 1 (O3 4 82 10 81 (O6 5 83 82 (O1 6 84 5 (O3 8 86 8 1 (O3 9 87 0 86 (O6 10 88 87 (O1 11 89 5 (O3 12 90 8 1 (O3 13 91 11 90 (O6 14 92 91 (O3 16 94 8 1 (O3 17 95 0 94 (O6 18 96 95 (O1 19 97 10 (O3 21 99 8 1 (O3 22 100 0 99 (O6 23 101 100 (O3 25 103 8 1 (O3 26 104 0 103 (O6 27 105 104 (O1 28 106 11 (O1 30 108 11 (O3 31 109 8 1 (O3 32 110 0 109 (O6 33 111 110 (.op (GI.mk 7 (some 85) none (.call 54 [(.tmp 80),(.tmp 83),(.tmp 84)]) [10,14,18,23,27,33] false) (.op (GI.mk 15 (some 93) none (.call 54 [(.tmp 88),(.tmp 89),(.tmp 92)]) [2,5,18,23,27,33] false) (.op (GI.mk 20 (some 98) none (.call 42 [(.tmp 96),(.tmp 97)]) [2,5,10,14,23,27,33] false) (.op (GI.mk 24 (some 102) none (.call 42 [(.tmp 98),(.tmp 101)]) [2,5,10,14,18,27,33] false) (.op (GI.mk 29 (some 107) none (.call 42 [(.tmp 105),(.tmp 106)]) [2,5,10,14,18,23,33] false) (.op (GI.mk 34 (some 112) none (.call 42 [(.tmp 108),(.tmp 111)]) [2,5,10,14,18,23,27] false) (OP 35 113 (.buildSlice 38 5 [(.pointer none),(.pointer none),(.pointer none),(.pointer none),(.pointer none)] [(0,(1,(.tmp 85))),(1,(1,(.tmp 93))),(2,(1,(.tmp 102))),(3,(1,(.tmp 107))),(4,(1,(.tmp 112)))]) (O1 36 12 113 .done)))))))))))))))))))))))))))))))))))))
abbrev g_q94_r20:GR:=(O1 0 114 12 (O3 1 115 8 1 (O3 2 116 1 115 (O6 3 117 116 (O3 4 118 8 1 (O3 5 119 6 118 (O6 6 120 119 (O3 8 122 8 1 (O3 9 123 2 122 (O6 10 124 123 (O3 11 125 8 1 (O3 12 126 3 125 (O6 13 127 126 (.op (GI.mk 7 (some 121) none (.call 22 [(.tmp 117),(.tmp 120)]) [10,13] false) (OP 14 128 (.buildSlice 38 3 [(.pointer none),(.pointer none),(.pointer none)] [(0,(1,(.tmp 121))),(1,(1,(.tmp 124))),(2,(1,(.tmp 127)))]) (OP 15 129 (.buildSlice 86 2 [(.slice none 0 0),(.slice none 0 0)] [(0,(1,(.tmp 114))),(1,(1,(.tmp 128)))]) (.op (GI.mk 16 (some 130) none (.call 55 [(.tmp 129)]) [3,6,10,13] false) (.op (GI.mk 17 (some 131) none (.call 45 [(.tmp 130)]) [3,6,10,13] false) (.op (GI.mk 18 (some 132) none (.call 44 [(.tmp 131)]) [3,6,10,13] false) (O1 19 2 132 .done))))))))))))))))))))
abbrev g_q94:GC:=(.seq (.reg g_q94_r0 [1]) (.seq (.reg g_q94_r1 [1,3]) (.seq (.reg g_q94_r2 [1,3,4]) (.seq (.reg g_q94_r3 [1,3,4,5]) (.seq (.seq (.reg g_q94_r4 [1,3,4,5,23,24]) (.block 0 (.loop g_q94_l10))) (.seq (.reg g_q94_r11 [1,3,4,5,7]) (.seq (.seq (.reg g_q94_r12 [1,3,4,5,7,57,58,59]) (.block 2 (.loop g_q94_l17))) (.seq (.reg g_q94_r18 [1,5,10,11]) (.seq (.reg g_q94_r19 [1,12]) (.seq (.reg g_q94_r20 [2]) .ret))))))))))
abbrev rs_q94:List RV:=[(.tmp 2)]
theorem gc_q94:compileF Tryz.prog Tryz.f23 T_q94=some (g_q94,rs_q94):=by kernel_rfl
theorem con_q94 (hv:vc Tryz.prog y g_q94 (retQ rs_q94 R) [(0,a0)] h):ConX y Tryz.prog 23 #[a0] h R:=con_of Tryz.func23 gc_q94 rfl (fun h=>absurd h (by decide)) hv
def T_q28:List (Nat×List Nat):=[(0,[0,2]),(1,[0,2,3]),(2,[0,2,3,4]),(3,[0,2,3,4,11]),(4,[0,2,3,4]),(5,[0,2,3,4]),(6,[2])]
abbrev g_q28_r0:GR:=(OP 0 2 (.alloc 54 [(.int .i64 0),(.slice none 0 0)]) .done)
abbrev g_q28_r1:GR:=(O1 0 5 0 (OP 1 6 (.indexAddr 2 (.tmp 5) (K 0)) (OP 2 7 (.load (some 2) (.tmp 6)) (OP 3 3 (.alloc 54 [(.int .i64 0),(.slice none 0 0)]) (OS 4 (.store 2 (.tmp 3) (.tmp 7)) .done)))))
abbrev g_q28_r2:GR:=(OP 0 4 (.mv (K 1)) .done)
abbrev g_q28_r3:GR:=(O1 0 8 4 (O1 1 9 0 (OP 2 10 (.len (.tmp 9)) (O5 3 11 .lss 8 10 .done))))
abbrev g_q28_r4:GR:=(OW 0 14 (.load (some 2) (.tmp 3)) (O1 1 15 0 (O1 2 16 4 (O4 3 17 2 15 16 (OW 4 18 (.load (some 2) (.tmp 17)) (OP 5 19 (.call 56 [(.tmp 14),(.tmp 18)]) (OS 6 (.store 2 (.tmp 3) (.tmp 19)) .done)))))))
abbrev g_q28_r5:GR:=(O1 0 12 4 (OP 1 13 (.bin .add (.tmp 12) (K 1)) (O1 2 4 13 .done)))
abbrev g_q28_l6:GC:=(.seq (.seq (.reg g_q28_r3 [0,2,3,4,11]) (.cond (.tmp 11) .skip (.exit 0))) (.seq (.block 1 (.reg g_q28_r4 [0,2,3,4])) (.reg g_q28_r5 [0,2,3,4])))
abbrev g_q28_r7:GR:=(OP 0 20 (.load (some 2) (.tmp 3)) (OS 1 (.store 2 (.tmp 2) (.tmp 20)) .done))
abbrev g_q28:GC:=(.seq (.reg g_q28_r0 [0,2]) (.seq (.reg g_q28_r1 [0,2,3]) (.seq (.seq (.reg g_q28_r2 [0,2,3,4]) (.block 0 (.loop g_q28_l6))) (.seq (.reg g_q28_r7 [2]) .ret))))
abbrev rs_q28:List RV:=[(.cell 2 (some 2))]
theorem gc_q28:compileF Tryz.prog Tryz.f24 T_q28=some (g_q28,rs_q28):=by kernel_rfl
theorem con_q28 (hv:vc Tryz.prog y g_q28 (retQ rs_q28 R) [(0,a0)] h):ConX y Tryz.prog 24 #[a0] h R:=con_of Tryz.func24 gc_q28 rfl (fun h=>absurd h (by decide)) hv
def T_q33:List (Nat×List Nat):=[(0,[2,3,4]),(1,[3,4,5]),(2,[3,4,5,6]),(3,[3,4,5,6,15]),(4,[3,4,5,6]),(5,[3,4,5,6,7]),(6,[3,4,5,6,7,21]),(7,[3,4,5,6,7]),(8,[3,4,5,6,7]),(9,[4])]
abbrev g_q33_r0:GR:=(OP 0 2 (.box 54 (.tmp 0)) (OP 1 3 (.box 54 (.tmp 1)) (OP 2 4 (.alloc 54 [(.int .i64 0),(.slice none 0 0)]) .done)))
abbrev g_q33_r1:GR:=(OP 0 8 (.load (some 2) (.tmp 2)) (O3 1 9 0 3 (O2 2 10 9 (OP 3 11 (.call 57 [(.tmp 8),(.tmp 10)]) (OP 4 5 (.alloc 54 [(.int .i64 0),(.slice none 0 0)]) (OS 5 (.store 2 (.tmp 5) (.tmp 11)) .done))))))
abbrev g_q33_r2:GR:=(OP 0 6 (.mv (K 0)) .done)
abbrev g_q33_r3:GR:=(O1 0 12 6 (O3 1 13 0 5 (O2 2 14 13 (O5 3 15 .lss 12 14 .done))))
abbrev g_q33_r4:GR:=(OP 0 7 (.mv (K 0)) .done)
abbrev g_q33_r5:GR:=(O1 0 18 7 (O3 1 19 0 5 (O2 2 20 19 (O5 3 21 .lss 18 20 .done))))
abbrev g_q33_r6:GR:=(O3 0 24 1 5 (O6 1 25 24 (O1 2 26 6 (O4 3 27 1 25 26 (O6 4 28 27 (O1 5 29 7 (O3 6 30 1 5 (O6 7 31 30 (O1 8 32 6 (O4 9 33 1 31 32 (O6 10 34 33 (O1 11 35 7 (O4 12 36 1 34 35 (O6 13 37 36 (O1 14 38 37 (.op (GI.mk 15 (some 39) (some (38,true)) (.load (some 2) (.tmp 3)) [] true) (OG 16 40 38 true (.mv (.tmp 6)) (OG 17 41 38 true (.mv (.tmp 7)) (.op (GI.mk 18 (some 42) (some (38,true)) (.call 58 [(.tmp 39),(.tmp 40),(.tmp 41)]) [1,4,7,10,13] false) (OP 19 43 (.pick (.tmp 38) (.tmp 42) (.const (.bool false))) (O4 20 44 1 28 29 (OS 21 (.store 1 (.tmp 44) (.tmp 43)) .done))))))))))))))))))))))
abbrev g_q33_r7:GR:=(O1 0 22 7 (OP 1 23 (.bin .add (.tmp 22) (K 1)) (O1 2 7 23 .done)))
abbrev g_q33_l8:GC:=(.seq (.seq (.reg g_q33_r5 [3,4,5,6,7,21]) (.cond (.tmp 21) .skip (.exit 2))) (.seq (.block 3 (.reg g_q33_r6 [3,4,5,6,7])) (.reg g_q33_r7 [3,4,5,6,7])))
abbrev g_q33_r9:GR:=(O1 0 16 6 (OP 1 17 (.bin .add (.tmp 16) (K 1)) (O1 2 6 17 .done)))
abbrev g_q33_l10:GC:=(.seq (.seq (.reg g_q33_r3 [3,4,5,6,15]) (.cond (.tmp 15) .skip (.exit 0))) (.seq (.block 1 (.seq (.reg g_q33_r4 [3,4,5,6,7]) (.block 2 (.loop g_q33_l8)))) (.reg g_q33_r9 [3,4,5,6])))
abbrev g_q33_r11:GR:=(OP 0 45 (.load (some 2) (.tmp 5)) (OS 1 (.store 2 (.tmp 4) (.tmp 45)) .done))
abbrev g_q33:GC:=(.seq (.reg g_q33_r0 [2,3,4]) (.seq (.reg g_q33_r1 [3,4,5]) (.seq (.seq (.reg g_q33_r2 [3,4,5,6]) (.block 0 (.loop g_q33_l10))) (.seq (.reg g_q33_r11 [4]) .ret))))
abbrev rs_q33:List RV:=[(.cell 4 (some 2))]
theorem gc_q33:compileF Tryz.prog Tryz.f25 T_q33=some (g_q33,rs_q33):=by kernel_rfl
theorem con_q33 (hv:vc Tryz.prog y g_q33 (retQ rs_q33 R) [(0,a0),(1,a1)] h):ConX y Tryz.prog 25 #[a0,a1] h R:=con_of Tryz.func25 gc_q33 rfl (fun h=>absurd h (by decide)) hv
def T_q52:List (Nat×List Nat):=[(0,[1,2]),(1,[1,2,3]),(2,[1,2,3,4]),(3,[1,2,3,4,13]),(4,[1,2,3,4]),(5,[1,2,3,4,5]),(6,[1,2,3,4,5,19]),(7,[1,2,3,4,5]),(8,[1,2,3,4,5]),(9,[2])]
abbrev g_q52_r0:GR:=(OP 0 1 (.box 26 (.tmp 0)) (OP 1 2 (.alloc 54 [(.int .i64 0),(.slice none 0 0)]) .done))
abbrev g_q52_r1:GR:=(O3 0 6 1 1 (O2 1 7 6 (OP 2 8 (.len (.tmp 7)) (OP 3 9 (.call 59 [(.tmp 8)]) (OP 4 3 (.alloc 54 [(.int .i64 0),(.slice none 0 0)]) (OS 5 (.store 2 (.tmp 3) (.tmp 9)) .done))))))
abbrev g_q52_r2:GR:=(OP 0 4 (.mv (K 0)) .done)
abbrev g_q52_r3:GR:=(O1 0 10 4 (O3 1 11 0 3 (O2 2 12 11 (O5 3 13 .lss 10 12 .done))))
abbrev g_q52_r4:GR:=(OP 0 5 (.mv (K 0)) .done)
abbrev g_q52_r5:GR:=(O1 0 16 5 (O3 1 17 0 3 (O2 2 18 17 (O5 3 19 .lss 16 18 .done))))
abbrev g_q52_r6:GR:=(O3 0 22 1 3 (O6 1 23 22 (O1 2 24 4 (O4 3 25 1 23 24 (O6 4 26 25 (O1 5 27 5 (OW 6 28 (.load (some 8) (.tmp 1)) (O1 7 29 4 (O1 8 30 5 (.op (GI.mk 9 (some 31) none (.call 60 [(.tmp 28),(.tmp 29),(.tmp 30)]) [1,4] false) (O4 10 32 1 26 27 (OS 11 (.store 1 (.tmp 32) (.tmp 31)) .done))))))))))))
abbrev g_q52_r7:GR:=(O1 0 20 5 (OP 1 21 (.bin .add (.tmp 20) (K 1)) (O1 2 5 21 .done)))
abbrev g_q52_l8:GC:=(.seq (.seq (.reg g_q52_r5 [1,2,3,4,5,19]) (.cond (.tmp 19) .skip (.exit 2))) (.seq (.block 3 (.reg g_q52_r6 [1,2,3,4,5])) (.reg g_q52_r7 [1,2,3,4,5])))
abbrev g_q52_r9:GR:=(O1 0 14 4 (OP 1 15 (.bin .add (.tmp 14) (K 1)) (O1 2 4 15 .done)))
abbrev g_q52_l10:GC:=(.seq (.seq (.reg g_q52_r3 [1,2,3,4,13]) (.cond (.tmp 13) .skip (.exit 0))) (.seq (.block 1 (.seq (.reg g_q52_r4 [1,2,3,4,5]) (.block 2 (.loop g_q52_l8)))) (.reg g_q52_r9 [1,2,3,4])))
abbrev g_q52_r11:GR:=(OP 0 33 (.load (some 2) (.tmp 3)) (OS 1 (.store 2 (.tmp 2) (.tmp 33)) .done))
abbrev g_q52:GC:=(.seq (.reg g_q52_r0 [1,2]) (.seq (.reg g_q52_r1 [1,2,3]) (.seq (.seq (.reg g_q52_r2 [1,2,3,4]) (.block 0 (.loop g_q52_l10))) (.seq (.reg g_q52_r11 [2]) .ret))))
abbrev rs_q52:List RV:=[(.cell 2 (some 2))]
theorem gc_q52:compileF Tryz.prog Tryz.f26 T_q52=some (g_q52,rs_q52):=by kernel_rfl
theorem con_q52 (hv:vc Tryz.prog y g_q52 (retQ rs_q52 R) [(0,a0)] h):ConX y Tryz.prog 26 #[a0] h R:=con_of Tryz.func26 gc_q52 rfl (fun h=>absurd h (by decide)) hv
def T_q54:List (Nat×List Nat):=[(0,[1,2]),(1,[1,2,3]),(2,[1,2,3,4]),(3,[1,2,3,4,13]),(4,[1,2,3,4]),(5,[1,2,3,4,5]),(6,[1,2,3,4,5,19]),(7,[1,2,3,4,5]),(8,[1,2,3,4,5]),(9,[2])]
abbrev g_q54_r0:GR:=(OP 0 1 (.box 26 (.tmp 0)) (OP 1 2 (.alloc 54 [(.int .i64 0),(.slice none 0 0)]) .done))
abbrev g_q54_r1:GR:=(O3 0 6 1 1 (O2 1 7 6 (OP 2 8 (.len (.tmp 7)) (OP 3 9 (.call 59 [(.tmp 8)]) (OP 4 3 (.alloc 54 [(.int .i64 0),(.slice none 0 0)]) (OS 5 (.store 2 (.tmp 3) (.tmp 9)) .done))))))
abbrev g_q54_r2:GR:=(OP 0 4 (.mv (K 0)) .done)
abbrev g_q54_r3:GR:=(O1 0 10 4 (O3 1 11 0 3 (O2 2 12 11 (O5 3 13 .lss 10 12 .done))))
abbrev g_q54_r4:GR:=(OP 0 5 (.mv (K 0)) .done)
abbrev g_q54_r5:GR:=(O1 0 16 5 (O3 1 17 0 3 (O2 2 18 17 (O5 3 19 .lss 16 18 .done))))
abbrev g_q54_r6:GR:=(O3 0 22 1 3 (O6 1 23 22 (O1 2 24 4 (O4 3 25 1 23 24 (O6 4 26 25 (O1 5 27 5 (O3 6 28 1 1 (O6 7 29 28 (O1 8 30 4 (O4 9 31 5 29 30 (O3 10 32 1 31 (O6 11 33 32 (OP 12 34 (.bin .neq (.tmp 33) (K 3)) (O1 13 35 34 (OG 14 36 35 true (.fieldAddr 1 (.tmp 1)) (.op (GI.mk 15 (some 37) (some (35,true)) (.load none (.tmp 36)) [] true) (OG 16 38 35 true (.mv (.tmp 5)) (OG 17 39 35 true (.indexAddr 5 (.tmp 37) (.tmp 38)) (OG 18 40 35 true (.fieldAddr 1 (.tmp 39)) (.op (GI.mk 19 (some 41) (some (35,true)) (.load none (.tmp 40)) [] true) (OG 20 42 35 true (.bin .neq (.tmp 41) (K 3)) (OP 21 43 (.pick (.tmp 35) (.tmp 42) (.const (.bool false))) (O1 22 44 43 (OG 23 45 44 true (.fieldAddr 1 (.tmp 1)) (.op (GI.mk 24 (some 46) (some (44,true)) (.load none (.tmp 45)) [] true) (OG 25 47 44 true (.mv (.tmp 4)) (OG 26 48 44 true (.indexAddr 5 (.tmp 46) (.tmp 47)) (OG 27 49 44 true (.fieldAddr 2 (.tmp 48)) (.op (GI.mk 28 (some 50) (some (44,true)) (.load none (.tmp 49)) [] true) (OG 29 51 44 true (.fieldAddr 1 (.tmp 1)) (.op (GI.mk 30 (some 52) (some (44,true)) (.load none (.tmp 51)) [] true) (OG 31 53 44 true (.mv (.tmp 5)) (OG 32 54 44 true (.indexAddr 5 (.tmp 52) (.tmp 53)) (OG 33 55 44 true (.fieldAddr 2 (.tmp 54)) (.op (GI.mk 34 (some 56) (some (44,true)) (.load none (.tmp 55)) [] true) (OG 35 57 44 true (.bin .eql (.tmp 50) (.tmp 56)) (OP 36 58 (.pick (.tmp 44) (.tmp 57) (.const (.bool false))) (O4 37 59 1 26 27 (OS 38 (.store 1 (.tmp 59) (.tmp 58)) .done)))))))))))))))))))))))))))))))))))))))
abbrev g_q54_r7:GR:=(O1 0 20 5 (OP 1 21 (.bin .add (.tmp 20) (K 1)) (O1 2 5 21 .done)))
abbrev g_q54_l8:GC:=(.seq (.seq (.reg g_q54_r5 [1,2,3,4,5,19]) (.cond (.tmp 19) .skip (.exit 2))) (.seq (.block 3 (.reg g_q54_r6 [1,2,3,4,5])) (.reg g_q54_r7 [1,2,3,4,5])))
abbrev g_q54_r9:GR:=(O1 0 14 4 (OP 1 15 (.bin .add (.tmp 14) (K 1)) (O1 2 4 15 .done)))
abbrev g_q54_l10:GC:=(.seq (.seq (.reg g_q54_r3 [1,2,3,4,13]) (.cond (.tmp 13) .skip (.exit 0))) (.seq (.block 1 (.seq (.reg g_q54_r4 [1,2,3,4,5]) (.block 2 (.loop g_q54_l8)))) (.reg g_q54_r9 [1,2,3,4])))
abbrev g_q54_r11:GR:=(OP 0 60 (.load (some 2) (.tmp 3)) (OS 1 (.store 2 (.tmp 2) (.tmp 60)) .done))
abbrev g_q54:GC:=(.seq (.reg g_q54_r0 [1,2]) (.seq (.reg g_q54_r1 [1,2,3]) (.seq (.seq (.reg g_q54_r2 [1,2,3,4]) (.block 0 (.loop g_q54_l10))) (.seq (.reg g_q54_r11 [2]) .ret))))
abbrev rs_q54:List RV:=[(.cell 2 (some 2))]
theorem gc_q54:compileF Tryz.prog Tryz.f27 T_q54=some (g_q54,rs_q54):=by kernel_rfl
theorem con_q54 (hv:vc Tryz.prog y g_q54 (retQ rs_q54 R) [(0,a0)] h):ConX y Tryz.prog 27 #[a0] h R:=con_of Tryz.func27 gc_q54 rfl (fun h=>absurd h (by decide)) hv
def T_q53:List (Nat×List Nat):=[(0,[1,2]),(1,[2])]
abbrev g_q53_r0:GR:=(OP 0 1 (.box 26 (.tmp 0)) (OP 1 2 (.alloc 54 [(.int .i64 0),(.slice none 0 0)]) .done))
abbrev g_q53_r1:GR:=(OP 0 3 (.load (some 8) (.tmp 1)) (O3 1 4 2 1 (O2 2 5 4 (OP 3 6 (.call 61 [(.tmp 3),(.tmp 5)]) (OS 4 (.store 2 (.tmp 2) (.tmp 6)) .done)))))
abbrev g_q53:GC:=(.seq (.reg g_q53_r0 [1,2]) (.seq (.reg g_q53_r1 [2]) .ret))
abbrev rs_q53:List RV:=[(.cell 2 (some 2))]
theorem gc_q53:compileF Tryz.prog Tryz.f28 T_q53=some (g_q53,rs_q53):=by kernel_rfl
theorem con_q53 (hv:vc Tryz.prog y g_q53 (retQ rs_q53 R) [(0,a0)] h):ConX y Tryz.prog 28 #[a0] h R:=con_of Tryz.func28 gc_q53 rfl (fun h=>absurd h (by decide)) hv
def T_q45:List (Nat×List Nat):=[(0,[1,2]),(1,[1,2,3]),(2,[1,2,3,4]),(3,[1,2,3,4,15]),(4,[1,2,3,4]),(5,[1,2,3,4,5]),(6,[1,2,3,4,5,25]),(7,[1,2,3,4,5]),(8,[1,2,3,4,5,6]),(9,[1,2,3,4,5,6,37]),(10,[1,2,3,4,5,6]),(11,[1,2,3,4,5,6]),(12,[2])]
abbrev g_q45_r0:GR:=(OP 0 1 (.box 26 (.tmp 0)) (OP 1 2 (.alloc 54 [(.int .i64 0),(.slice none 0 0)]) .done))
abbrev g_q45_r1:GR:=(O3 0 7 1 1 (O2 1 8 7 (OP 2 9 (.len (.tmp 8)) (OP 3 10 (.call 59 [(.tmp 9)]) (OP 4 3 (.alloc 54 [(.int .i64 0),(.slice none 0 0)]) (OS 5 (.store 2 (.tmp 3) (.tmp 10)) .done))))))
abbrev g_q45_r2:GR:=(OP 0 4 (.mv (K 0)) .done)
abbrev g_q45_r3:GR:=(O1 0 11 4 (O3 1 12 3 1 (O2 2 13 12 (OP 3 14 (.len (.tmp 13)) (O5 4 15 .lss 11 14 .done)))))
abbrev g_q45_r4:GR:=(OP 0 5 (.mv (K 0)) .done)
abbrev g_q45_r5:GR:=(O1 0 18 5 (O3 1 19 3 1 (O2 2 20 19 (O1 3 21 4 (O4 4 22 1 20 21 (O2 5 23 22 (OP 6 24 (.len (.tmp 23)) (O5 7 25 .lss 18 24 .done))))))))
abbrev g_q45_r6:GR:=(O1 0 28 5 (OP 1 29 (.bin .add (.tmp 28) (K 1)) (O1 2 6 29 .done)))
abbrev g_q45_r7:GR:=(O1 0 30 6 (O3 1 31 3 1 (O2 2 32 31 (O1 3 33 4 (O4 4 34 1 32 33 (O2 5 35 34 (OP 6 36 (.len (.tmp 35)) (O5 7 37 .lss 30 36 .done))))))))
abbrev g_q45_r8:GR:=(O3 0 40 1 3 (O6 1 41 40 (O3 2 42 3 1 (O6 3 43 42 (O1 4 44 4 (O4 5 45 1 43 44 (O6 6 46 45 (O1 7 47 5 (O4 8 48 1 46 47 (O6 9 49 48 (O4 10 50 1 41 49 (O6 11 51 50 (O3 12 52 3 1 (O6 13 53 52 (O1 14 54 4 (O4 15 55 1 53 54 (O6 16 56 55 (O1 17 57 6 (O4 18 58 1 56 57 (O6 19 59 58 (O4 20 60 1 51 59 (OS 21 (.store 1 (.tmp 60) (.const (.bool true))) .done))))))))))))))))))))))
abbrev g_q45_r9:GR:=(O1 0 38 6 (OP 1 39 (.bin .add (.tmp 38) (K 1)) (O1 2 6 39 .done)))
abbrev g_q45_l10:GC:=(.seq (.seq (.reg g_q45_r7 [1,2,3,4,5,6,37]) (.cond (.tmp 37) .skip (.exit 4))) (.seq (.block 5 (.reg g_q45_r8 [1,2,3,4,5,6])) (.reg g_q45_r9 [1,2,3,4,5,6])))
abbrev g_q45_r11:GR:=(O1 0 26 5 (OP 1 27 (.bin .add (.tmp 26) (K 1)) (O1 2 5 27 .done)))
abbrev g_q45_l12:GC:=(.seq (.seq (.reg g_q45_r5 [1,2,3,4,5,25]) (.cond (.tmp 25) .skip (.exit 2))) (.seq (.block 3 (.seq (.reg g_q45_r6 [1,2,3,4,5,6]) (.block 4 (.loop g_q45_l10)))) (.reg g_q45_r11 [1,2,3,4,5])))
abbrev g_q45_r13:GR:=(O1 0 16 4 (OP 1 17 (.bin .add (.tmp 16) (K 1)) (O1 2 4 17 .done)))
abbrev g_q45_l14:GC:=(.seq (.seq (.reg g_q45_r3 [1,2,3,4,15]) (.cond (.tmp 15) .skip (.exit 0))) (.seq (.block 1 (.seq (.reg g_q45_r4 [1,2,3,4,5]) (.block 2 (.loop g_q45_l12)))) (.reg g_q45_r13 [1,2,3,4])))
abbrev g_q45_r15:GR:=(OP 0 61 (.load (some 2) (.tmp 3)) (OS 1 (.store 2 (.tmp 2) (.tmp 61)) .done))
abbrev g_q45:GC:=(.seq (.reg g_q45_r0 [1,2]) (.seq (.reg g_q45_r1 [1,2,3]) (.seq (.seq (.reg g_q45_r2 [1,2,3,4]) (.block 0 (.loop g_q45_l14))) (.seq (.reg g_q45_r15 [2]) .ret))))
abbrev rs_q45:List RV:=[(.cell 2 (some 2))]
theorem gc_q45:compileF Tryz.prog Tryz.f29 T_q45=some (g_q45,rs_q45):=by kernel_rfl
theorem con_q45 (hv:vc Tryz.prog y g_q45 (retQ rs_q45 R) [(0,a0)] h):ConX y Tryz.prog 29 #[a0] h R:=con_of Tryz.func29 gc_q45 rfl (fun h=>absurd h (by decide)) hv
def T_q48:List (Nat×List Nat):=[(0,[1,2]),(1,[2])]
abbrev g_q48_r0:GR:=(OP 0 1 (.box 26 (.tmp 0)) (OP 1 2 (.alloc 54 [(.int .i64 0),(.slice none 0 0)]) .done))
abbrev g_q48_r1:GR:=(OW 0 3 (.load (some 8) (.tmp 1)) (OW 3 6 (.load (some 8) (.tmp 1)) (.op (GI.mk 1 (some 4) none (.call 28 [(.tmp 3)]) [3] false) (.op (GI.mk 2 (some 5) none (.call 62 [(.tmp 4)]) [0,3] false) (.op (GI.mk 4 (some 7) none (.call 29 [(.tmp 6)]) [0] false) (.op (GI.mk 5 (some 8) none (.call 50 [(.tmp 5),(.tmp 7)]) [0,3] false) (OS 6 (.store 2 (.tmp 2) (.tmp 8)) .done)))))))
abbrev g_q48:GC:=(.seq (.reg g_q48_r0 [1,2]) (.seq (.reg g_q48_r1 [2]) .ret))
abbrev rs_q48:List RV:=[(.cell 2 (some 2))]
theorem gc_q48:compileF Tryz.prog Tryz.f30 T_q48=some (g_q48,rs_q48):=by kernel_rfl
theorem con_q48 (hv:vc Tryz.prog y g_q48 (retQ rs_q48 R) [(0,a0)] h):ConX y Tryz.prog 30 #[a0] h R:=con_of Tryz.func30 gc_q48 rfl (fun h=>absurd h (by decide)) hv
def T_q25:List (Nat×List Nat):=[(0,[1,2]),(1,[1,2,3]),(2,[1,2,3,4]),(3,[1,2,3,4,5]),(4,[1,2,3,4,5,6]),(5,[1,2,3,4,5,6,7]),(6,[1,2,3,4,5,6,7,32]),(7,[1,2,3,4,5,6,7]),(8,[1,2,3,4,5,6,7]),(9,[1,2,3,4,5,6,7]),(10,[1,2,3,4,5,6,8]),(11,[1,2,3,4,5,6,8,9]),(12,[1,2,3,4,5,6,8,9,55]),(13,[1,2,3,4,5,6,8,9]),(14,[1,2,3,4,5,6,8,9,10]),(15,[1,2,3,4,5,6,8,9,10,60]),(16,[1,2,3,4,5,6,8,9,10]),(17,[1,2,3,4,5,6,8,9,10,11]),(18,[1,2,3,4,5,6,8,9,10,11,12]),(19,[1,2,3,4,5,6,8,9,10,11,12,13]),(20,[1,2,3,4,5,6,8,9,10]),(21,[1,2,3,4,5,6,8,9,10]),(22,[1,2,3,4,5,6,8,9,10,14]),(23,[1,2,3,4,5,6,8,9,10,14,147]),(24,[1,2,3,4,5,6,8,9,10,14]),(25,[1,2,3,4,5,6,8,9,10,14]),(26,[2])]
abbrev g_q25_r0:GR:=(OP 0 1 (.box 26 (.tmp 0)) (OP 1 2 (.alloc 54 [(.int .i64 0),(.slice none 0 0)]) .done))
abbrev g_q25_r1:GR:=(O3 0 15 1 1 (O2 1 16 15 (OP 2 17 (.len (.tmp 16)) (O1 3 3 17 .done))))
abbrev g_q25_r2:GR:=(OP 0 18 (.load (some 8) (.tmp 1)) (OP 1 19 (.call 26 [(.tmp 18)]) (OP 2 4 (.alloc 54 [(.int .i64 0),(.slice none 0 0)]) (OS 3 (.store 2 (.tmp 4) (.tmp 19)) .done))))
abbrev g_q25_r3:GR:=(OW 0 20 (.load (some 8) (.tmp 1)) (OW 2 22 (.load (some 8) (.tmp 1)) (.two (.op (GI.mk 1 (some 21) none (.call 64 [(.tmp 20),(K 3)]) [2] false) (OP 3 23 (.buildSlice 3 2 [(.int .i64 0),(.int .i64 0)] [(0,(1,(K 5))),(1,(1,(K 15)))]) (.op (GI.mk 4 (some 24) none (.call 65 [(.tmp 22),(.tmp 23)]) [0] false) (.op (GI.mk 5 (some 25) none (.call 63 [(.tmp 21),(.tmp 24)]) [0,2] false) (O1 6 5 25 .done))))) (OP 3 23 (.buildSlice 3 2 [(.int .i64 0),(.int .i64 0)] [(0,(1,(K 5))),(1,(1,(K 15)))]) (.op (GI.mk 1 (some 21) none (.call 64 [(.tmp 20),(K 3)]) [2] false) (.op (GI.mk 4 (some 24) none (.call 65 [(.tmp 22),(.tmp 23)]) [0] false) (.op (GI.mk 5 (some 25) none (.call 63 [(.tmp 21),(.tmp 24)]) [0,2] false) (O1 6 5 25 .done))))))))
abbrev g_q25_r4:GR:=(O1 0 26 3 (OP 1 27 (.makeSlice 4 1 1 [(.bool false)] (.tmp 26) (.tmp 26)) (O1 2 6 27 .done)))
abbrev g_q25_r5:GR:=(OP 0 7 (.mv (K 0)) .done)
abbrev g_q25_r6:GR:=(O1 0 28 7 (O3 1 29 4 1 (O2 2 30 29 (OP 3 31 (.len (.tmp 30)) (O5 4 32 .lss 28 31 .done)))))
abbrev g_q25_r7:GR:=(O1 0 35 6 (O3 1 36 4 1 (O2 2 37 36 (O1 3 38 7 (O4 4 39 2 37 38 (O3 5 40 0 39 (O2 6 41 40 (O4 7 42 1 35 41 (OS 8 (.store 1 (.tmp 42) (.const (.bool true))) .done)))))))))
abbrev g_q25_r8:GR:=(O1 0 43 6 (O3 1 44 4 1 (O2 2 45 44 (O1 3 46 7 (O4 4 47 2 45 46 (O3 5 48 1 47 (O2 6 49 48 (O4 7 50 1 43 49 (OS 8 (.store 1 (.tmp 50) (.const (.bool true))) .done)))))))))
abbrev g_q25_r9:GR:=(O1 0 33 7 (OP 1 34 (.bin .add (.tmp 33) (K 1)) (O1 2 7 34 .done)))
abbrev g_q25_l10:GC:=(.seq (.seq (.reg g_q25_r6 [1,2,3,4,5,6,7,32]) (.cond (.tmp 32) .skip (.exit 0))) (.seq (.block 1 (.seq (.reg g_q25_r7 [1,2,3,4,5,6,7]) (.reg g_q25_r8 [1,2,3,4,5,6,7]))) (.reg g_q25_r9 [1,2,3,4,5,6,7])))
abbrev g_q25_r11:GR:=(O1 0 51 3 (OP 1 52 (.call 59 [(.tmp 51)]) (OP 2 8 (.alloc 54 [(.int .i64 0),(.slice none 0 0)]) (OS 3 (.store 2 (.tmp 8) (.tmp 52)) .done))))
abbrev g_q25_r12:GR:=(OP 0 9 (.mv (K 0)) .done)
abbrev g_q25_r13:GR:=(O1 0 53 9 (O1 1 54 3 (O5 2 55 .lss 53 54 .done)))
abbrev g_q25_r14:GR:=(OP 0 10 (.mv (K 0)) .done)
abbrev g_q25_r15:GR:=(O1 0 58 10 (O1 1 59 3 (O5 2 60 .lss 58 59 .done)))
abbrev g_q25_r16:GR:=(O3 0 63 1 1 (O2 1 64 63 (O1 2 65 9 (O4 3 66 5 64 65 (O3 4 67 1 66 (O2 5 68 67 (O1 6 11 68 .done)))))))
abbrev g_q25_r17:GR:=(O3 0 69 1 1 (O2 1 70 69 (O1 2 71 10 (O4 3 72 5 70 71 (O3 4 73 1 72 (O2 5 74 73 (O1 6 12 74 .done)))))))
abbrev g_q25_r18:GR:=(O1 0 75 11 (OP 1 76 (.bin .neq (.tmp 75) (K 3)) (O1 2 77 76 (OG 3 78 77 true (.mv (.tmp 12)) (OG 4 79 77 true (.bin .neq (.tmp 78) (K 3)) (OP 5 80 (.pick (.tmp 77) (.tmp 79) (.const (.bool false))) (O1 6 13 80 .done)))))))
abbrev g_q25_r19:GR:=(O3 0 81 1 8 (O6 1 82 81 (O1 2 83 9 (O4 3 84 1 82 83 (O6 4 85 84 (O1 5 86 10 (O3 6 87 1 4 (O6 7 88 87 (O1 8 89 9 (O4 9 90 1 88 89 (O6 10 91 90 (O1 11 92 10 (O4 12 93 1 91 92 (O6 13 94 93 (O1 14 95 94 (OG 15 96 95 true (.mv (.tmp 13)) (OP 16 97 (.pick (.tmp 95) (.tmp 96) (.const (.bool false))) (O1 17 98 97 (OG 18 99 98 true (.mv (.tmp 11)) (OG 19 100 98 true (.bin .eql (.tmp 99) (K 2)) (OG 20 101 98 true (.mv (.tmp 100)) (OG 21 102 101 true (.mv (.tmp 12)) (OG 22 103 101 true (.bin .eql (.tmp 102) (K 1)) (OG 23 104 98 true (.pick (.tmp 101) (.tmp 103) (.const (.bool false))) (OG 24 105 98 true (.not (.tmp 104)) (OP 25 106 (.pick (.tmp 98) (.tmp 105) (.const (.bool false))) (O4 26 107 1 85 86 (OS 27 (.store 1 (.tmp 107) (.tmp 106)) .done))))))))))))))))))))))))))))
abbrev g_q25_r20:GR:=(O3 0 108 1 8 (O6 1 109 108 (O1 2 110 9 (O4 3 111 1 109 110 (O6 4 112 111 (O1 5 113 10 (O3 6 114 1 8 (O6 7 115 114 (O1 8 116 9 (O4 9 117 1 115 116 (O6 10 118 117 (O1 11 119 10 (O4 12 120 1 118 119 (O6 13 121 120 (O1 14 122 121 (OG 15 123 122 false (.fieldAddr 1 (.tmp 4)) (.op (GI.mk 16 (some 124) (some (122,false)) (.load none (.tmp 123)) [] true) (OG 17 125 122 false (.mv (.tmp 9)) (OG 18 126 122 false (.indexAddr 1 (.tmp 124) (.tmp 125)) (.op (GI.mk 19 (some 127) (some (122,false)) (.load none (.tmp 126)) [] true) (OG 20 128 122 false (.mv (.tmp 10)) (OG 21 129 122 false (.indexAddr 1 (.tmp 127) (.tmp 128)) (.op (GI.mk 22 (some 130) (some (122,false)) (.load none (.tmp 129)) [] true) (OG 23 131 122 false (.mv (.tmp 130)) (OG 24 132 131 true (.mv (.tmp 6)) (OG 25 133 131 true (.mv (.tmp 9)) (OG 26 134 131 true (.indexAddr 1 (.tmp 132) (.tmp 133)) (.op (GI.mk 27 (some 135) (some (131,true)) (.load none (.tmp 134)) [] true) (OG 28 136 131 true (.mv (.tmp 135)) (OG 29 137 136 false (.mv (.tmp 6)) (OG 30 138 136 false (.mv (.tmp 10)) (OG 31 139 136 false (.indexAddr 1 (.tmp 137) (.tmp 138)) (.op (GI.mk 32 (some 140) (some (136,false)) (.load none (.tmp 139)) [] true) (OG 33 141 131 true (.pick (.tmp 136) (.const (.bool true)) (.tmp 140)) (OG 34 142 122 false (.pick (.tmp 131) (.tmp 141) (.const (.bool false))) (OP 35 143 (.pick (.tmp 122) (.const (.bool true)) (.tmp 142)) (O4 36 144 1 112 113 (OS 37 (.store 1 (.tmp 144) (.tmp 143)) .done))))))))))))))))))))))))))))))))))))))
abbrev g_q25_r21:GR:=(OP 0 14 (.mv (K 0)) .done)
abbrev g_q25_r22:GR:=(O1 0 145 14 (O1 1 146 3 (O5 2 147 .lss 145 146 .done)))
abbrev g_q25_r23:GR:=(O3 0 150 1 8 (O6 1 151 150 (O1 2 152 9 (O4 3 153 1 151 152 (O6 4 154 153 (O1 5 155 10 (O3 6 156 1 8 (O6 7 157 156 (O1 8 158 9 (O4 9 159 1 157 158 (O6 10 160 159 (O1 11 161 10 (O4 12 162 1 160 161 (O6 13 163 162 (O1 14 164 163 (OG 15 165 164 false (.mv (.tmp 5)) (OG 16 166 164 false (.mv (.tmp 14)) (OG 17 167 164 false (.indexAddr 1 (.tmp 165) (.tmp 166)) (.op (GI.mk 18 (some 168) (some (164,false)) (.load none (.tmp 167)) [] true) (OG 19 169 164 false (.mv (.tmp 168)) (OG 20 170 169 true (.fieldAddr 1 (.tmp 4)) (.op (GI.mk 21 (some 171) (some (169,true)) (.load none (.tmp 170)) [] true) (OG 22 172 169 true (.mv (.tmp 9)) (OG 23 173 169 true (.indexAddr 1 (.tmp 171) (.tmp 172)) (.op (GI.mk 24 (some 174) (some (169,true)) (.load none (.tmp 173)) [] true) (OG 25 175 169 true (.mv (.tmp 14)) (OG 26 176 169 true (.indexAddr 1 (.tmp 174) (.tmp 175)) (.op (GI.mk 27 (some 177) (some (169,true)) (.load none (.tmp 176)) [] true) (OG 28 178 164 false (.pick (.tmp 169) (.tmp 177) (.const (.bool false))) (OG 29 179 164 false (.mv (.tmp 178)) (OG 30 180 179 true (.fieldAddr 1 (.tmp 4)) (.op (GI.mk 31 (some 181) (some (179,true)) (.load none (.tmp 180)) [] true) (OG 32 182 179 true (.mv (.tmp 14)) (OG 33 183 179 true (.indexAddr 1 (.tmp 181) (.tmp 182)) (.op (GI.mk 34 (some 184) (some (179,true)) (.load none (.tmp 183)) [] true) (OG 35 185 179 true (.mv (.tmp 10)) (OG 36 186 179 true (.indexAddr 1 (.tmp 184) (.tmp 185)) (.op (GI.mk 37 (some 187) (some (179,true)) (.load none (.tmp 186)) [] true) (OG 38 188 164 false (.pick (.tmp 179) (.tmp 187) (.const (.bool false))) (OP 39 189 (.pick (.tmp 164) (.const (.bool true)) (.tmp 188)) (O4 40 190 1 154 155 (OS 41 (.store 1 (.tmp 190) (.tmp 189)) .done))))))))))))))))))))))))))))))))))))))))))
abbrev g_q25_r24:GR:=(O1 0 148 14 (OP 1 149 (.bin .add (.tmp 148) (K 1)) (O1 2 14 149 .done)))
abbrev g_q25_l25:GC:=(.seq (.seq (.reg g_q25_r22 [1,2,3,4,5,6,8,9,10,14,147]) (.cond (.tmp 147) .skip (.exit 6))) (.seq (.block 7 (.reg g_q25_r23 [1,2,3,4,5,6,8,9,10,14])) (.reg g_q25_r24 [1,2,3,4,5,6,8,9,10,14])))
abbrev g_q25_r26:GR:=(O1 0 61 10 (OP 1 62 (.bin .add (.tmp 61) (K 1)) (O1 2 10 62 .done)))
abbrev g_q25_l27:GC:=(.seq (.seq (.reg g_q25_r15 [1,2,3,4,5,6,8,9,10,60]) (.cond (.tmp 60) .skip (.exit 4))) (.seq (.block 5 (.seq (.reg g_q25_r16 [1,2,3,4,5,6,8,9,10,11]) (.seq (.reg g_q25_r17 [1,2,3,4,5,6,8,9,10,11,12]) (.seq (.reg g_q25_r18 [1,2,3,4,5,6,8,9,10,11,12,13]) (.seq (.reg g_q25_r19 [1,2,3,4,5,6,8,9,10]) (.seq (.reg g_q25_r20 [1,2,3,4,5,6,8,9,10]) (.seq (.reg g_q25_r21 [1,2,3,4,5,6,8,9,10,14]) (.block 6 (.loop g_q25_l25))))))))) (.reg g_q25_r26 [1,2,3,4,5,6,8,9,10])))
abbrev g_q25_r28:GR:=(O1 0 56 9 (OP 1 57 (.bin .add (.tmp 56) (K 1)) (O1 2 9 57 .done)))
abbrev g_q25_l29:GC:=(.seq (.seq (.reg g_q25_r13 [1,2,3,4,5,6,8,9,55]) (.cond (.tmp 55) .skip (.exit 2))) (.seq (.block 3 (.seq (.reg g_q25_r14 [1,2,3,4,5,6,8,9,10]) (.block 4 (.loop g_q25_l27)))) (.reg g_q25_r28 [1,2,3,4,5,6,8,9])))
abbrev g_q25_r30:GR:=(OW 0 191 (.load (some 2) (.tmp 8)) (OW 1 192 (.load (some 8) (.tmp 1)) (OW 3 194 (.load (some 8) (.tmp 1)) (OW 6 197 (.load (some 8) (.tmp 1)) (OW 8 199 (.load (some 8) (.tmp 1)) (.op (GI.mk 2 (some 193) none (.call 28 [(.tmp 192)]) [0,3,6,8] false) (.op (GI.mk 4 (some 195) none (.call 66 [(.tmp 194)]) [0,1,6,8] false) (.op (GI.mk 5 (some 196) none (.call 25 [(.tmp 193),(.tmp 195)]) [0,1,3,6,8] false) (.op (GI.mk 7 (some 198) none (.call 29 [(.tmp 197)]) [0,1,3,8] false) (.op (GI.mk 9 (some 200) none (.call 30 [(.tmp 199)]) [0,1,3,6] false) (OP 10 201 (.buildSlice 54 4 [(.int .i64 0),(.slice none 0 0),(.int .i64 0),(.slice none 0 0),(.int .i64 0),(.slice none 0 0),(.int .i64 0),(.slice none 0 0)] [(0,(2,(.tmp 191))),(2,(2,(.tmp 196))),(4,(2,(.tmp 198))),(6,(2,(.tmp 200)))]) (.op (GI.mk 11 (some 202) none (.call 24 [(.tmp 201)]) [0,1,3,6,8] false) (OS 12 (.store 2 (.tmp 2) (.tmp 202)) .done)))))))))))))
abbrev g_q25:GC:=(.seq (.reg g_q25_r0 [1,2]) (.seq (.reg g_q25_r1 [1,2,3]) (.seq (.reg g_q25_r2 [1,2,3,4]) (.seq (.reg g_q25_r3 [1,2,3,4,5]) (.seq (.reg g_q25_r4 [1,2,3,4,5,6]) (.seq (.seq (.reg g_q25_r5 [1,2,3,4,5,6,7]) (.block 0 (.loop g_q25_l10))) (.seq (.reg g_q25_r11 [1,2,3,4,5,6,8]) (.seq (.seq (.reg g_q25_r12 [1,2,3,4,5,6,8,9]) (.block 2 (.loop g_q25_l29))) (.seq (.reg g_q25_r30 [2]) .ret)))))))))
abbrev rs_q25:List RV:=[(.cell 2 (some 2))]
theorem gc_q25:compileF Tryz.prog Tryz.f31 T_q25=some (g_q25,rs_q25):=by kernel_rfl
theorem con_q25 (hv:vc Tryz.prog y g_q25 (retQ rs_q25 R) [(0,a0)] h):ConX y Tryz.prog 31 #[a0] h R:=con_of Tryz.func31 gc_q25 rfl (fun h=>absurd h (by decide)) hv
def T_q63:List (Nat×List Nat):=[(0,[0,1]),(1,[0,1,10]),(2,[4]),(3,[0,1,5]),(4,[0,1,5,14]),(5,[0,1,5]),(6,[0,1,5,25]),(7,[4]),(8,[4])]
abbrev g_q63_r0:GR:=(OP 0 4 (.mv (.const (.bool false))) .done)
abbrev g_q63_r1:GR:=(O1 0 6 0 (OP 1 7 (.len (.tmp 6)) (O1 2 8 1 (OP 3 9 (.len (.tmp 8)) (O5 4 10 .neq 7 9 .done)))))
abbrev g_q63_r2:GR:=(OP 0 4 (.mv (.const (.bool false))) .done)
abbrev g_q63_r3:GR:=(OP 0 5 (.mv (K 0)) .done)
abbrev g_q63_r4:GR:=(O1 0 11 5 (O1 1 12 0 (OP 2 13 (.len (.tmp 12)) (O5 3 14 .lss 11 13 .done))))
abbrev g_q63_r5:GR:=(O1 0 17 0 (O1 1 18 5 (O4 2 19 2 17 18 (OW 3 20 (.load (some 2) (.tmp 19)) (O1 4 21 1 (O1 5 22 5 (O4 6 23 2 21 22 (OW 7 24 (.load (some 2) (.tmp 23)) (OP 8 25 (.eqStruct true [0,1] (.tmp 20) (.tmp 24)) .done)))))))))
abbrev g_q63_r6:GR:=(OP 0 4 (.mv (.const (.bool false))) .done)
abbrev g_q63_r7:GR:=(O1 0 15 5 (OP 1 16 (.bin .add (.tmp 15) (K 1)) (O1 2 5 16 .done)))
abbrev g_q63_l8:GC:=(.seq (.seq (.reg g_q63_r4 [0,1,5,14]) (.cond (.tmp 14) .skip (.exit 0))) (.seq (.block 1 (.seq (.reg g_q63_r5 [0,1,5,25]) (.cond (.tmp 25) (.seq (.reg g_q63_r6 [4]) .ret) .skip))) (.reg g_q63_r7 [0,1,5])))
abbrev g_q63_r9:GR:=(OP 0 4 (.mv (.const (.bool true))) .done)
abbrev g_q63:GC:=(.seq (.reg g_q63_r0 [0,1]) (.seq (.seq (.reg g_q63_r1 [0,1,10]) (.cond (.tmp 10) (.seq (.reg g_q63_r2 [4]) .ret) .skip)) (.seq (.seq (.reg g_q63_r3 [0,1,5]) (.block 0 (.loop g_q63_l8))) (.seq (.reg g_q63_r9 [4]) .ret))))
abbrev rs_q63:List RV:=[(.tmp 4)]
theorem gc_q63:compileF Tryz.prog Tryz.f32 T_q63=some (g_q63,rs_q63):=by kernel_rfl
theorem con_q63 (hv:vc Tryz.prog y g_q63 (retQ rs_q63 R) [(0,a0),(1,a1)] h):ConX y Tryz.prog 32 #[a0,a1] h R:=con_of Tryz.func32 gc_q63 rfl (fun h=>absurd h (by decide)) hv
def T_q88:List (Nat×List Nat):=[(0,[1,2,4]),(1,[1,2,4,6]),(2,[1,2,4,24]),(3,[4,5]),(4,[1,2,4,8]),(5,[1,2,4,8,39,40,41]),(6,[1,2,4,8,39,40,41,42]),(7,[1,2,4,8,10,39,40,41]),(8,[1,2,4,8,39,40,41]),(9,[1,2,4,8,39,40,41]),(10,[1,2,4,8,11]),(11,[1,2,4,8,11,55,56,57]),(12,[1,2,4,8,11,55,56,57,58]),(13,[1,2,4,8,11,13,55,56,57]),(14,[1,2,4,8,11,55,56,57]),(15,[1,2,4,8,11,55,56,57]),(16,[1,2,4,8,11,66,67,68]),(17,[1,2,4,8,11,66,67,68,69]),(18,[1,2,4,8,11,14,15,66,67,68]),(19,[1,2,4,8,11,14,15,66,67,68]),(20,[1,2,4,8,11,14,15,66,67,68,96]),(21,[1,2,4,8,11,14,15,66,67,68]),(22,[1,2,4,8,11,14,15,66,67,68,109]),(23,[1,2,4,8,11,14,66,67,68,113,114,115]),(24,[1,2,4,8,11,14,66,67,68,113,114,115,116]),(25,[1,2,4,8,11,14,17,66,67,68,113,114,115]),(26,[1,2,4,8,11,14,17,66,67,68,113,114,115,121]),(27,[1,2,4,8,11,14,66,67,68,113,114,115]),(28,[1,2,4,8,11,14,66,67,68,113,114,115]),(29,[1,2,4,8,11,66,67,68]),(30,[4,5])]
abbrev g_q88_r0:GR:=(OP 0 2 (.box 26 (.tmp 0)) (OP 1 4 (.alloc 26 [(.int .i64 0),(.slice none 0 0),(.slice none 0 0),(.slice none 0 0),(.slice none 0 0),(.slice none 0 0),(.slice none 0 0),(.slice none 0 0)]) (OP 2 5 (.mv (K 0)) .done)))
abbrev g_q88_r1:GR:=(OP 0 19 (.load (some 8) (.tmp 2)) (OP 1 20 (.call 67 [(.tmp 19),(.const (.bool false))]) (O1 2 18 20 (OP 3 21 (.extract 0 (.tmp 18)) (OP 4 22 (.extract 1 (.tmp 18)) (O1 5 6 21 (O1 6 7 22 .done)))))))
abbrev g_q88_r2:GR:=(O1 0 23 6 (OP 1 24 (.bin .neq (.tmp 23) (K 0)) .done))
abbrev g_q88_r3:GR:=(OP 0 25 (.build [(.int .i64 0),(.slice none 0 0),(.slice none 0 0),(.slice none 0 0),(.slice none 0 0),(.slice none 0 0),(.slice none 0 0),(.slice none 0 0)] []) (OS 1 (.store 8 (.tmp 4) (.tmp 25)) (OP 2 5 (.mv (K 4)) .done)))
abbrev g_q88_r4:GR:=(O3 0 26 0 2 (O6 1 27 26 (O3 2 28 1 2 (O6 3 29 28 (O3 5 31 2 2 (O6 6 32 31 (O3 8 34 4 2 (O6 9 35 34 (.two (.op (GI.mk 4 (some 30) none (.call 68 [(.tmp 29)]) [1,6,9] false) (.two (.op (GI.mk 7 (some 33) none (.call 69 [(.tmp 32)]) [1,3,9] false) (.two (.op (GI.mk 10 (some 36) none (.call 69 [(.tmp 35)]) [1,3,6] false) (OP 11 37 (.build [(.int .i64 0),(.slice none 0 0),(.slice none 0 0),(.slice none 0 0),(.slice none 0 0),(.slice none 0 0),(.slice none 0 0),(.slice none 0 0)] [(0,(1,(.tmp 27))),(1,(1,(.tmp 30))),(2,(1,(.tmp 33))),(4,(1,(.tmp 36)))]) (OP 12 8 (.alloc 26 [(.int .i64 0),(.slice none 0 0),(.slice none 0 0),(.slice none 0 0),(.slice none 0 0),(.slice none 0 0),(.slice none 0 0),(.slice none 0 0)]) (OS 13 (.store 8 (.tmp 8) (.tmp 37)) .done)))) (OP 12 8 (.alloc 26 [(.int .i64 0),(.slice none 0 0),(.slice none 0 0),(.slice none 0 0),(.slice none 0 0),(.slice none 0 0),(.slice none 0 0),(.slice none 0 0)]) (.op (GI.mk 10 (some 36) none (.call 69 [(.tmp 35)]) [1,3,6] false) (OP 11 37 (.build [(.int .i64 0),(.slice none 0 0),(.slice none 0 0),(.slice none 0 0),(.slice none 0 0),(.slice none 0 0),(.slice none 0 0),(.slice none 0 0)] [(0,(1,(.tmp 27))),(1,(1,(.tmp 30))),(2,(1,(.tmp 33))),(4,(1,(.tmp 36)))]) (OS 13 (.store 8 (.tmp 8) (.tmp 37)) .done)))))) (OP 12 8 (.alloc 26 [(.int .i64 0),(.slice none 0 0),(.slice none 0 0),(.slice none 0 0),(.slice none 0 0),(.slice none 0 0),(.slice none 0 0),(.slice none 0 0)]) (.op (GI.mk 7 (some 33) none (.call 69 [(.tmp 32)]) [1,3,9] false) (.op (GI.mk 10 (some 36) none (.call 69 [(.tmp 35)]) [1,3,6] false) (OP 11 37 (.build [(.int .i64 0),(.slice none 0 0),(.slice none 0 0),(.slice none 0 0),(.slice none 0 0),(.slice none 0 0),(.slice none 0 0),(.slice none 0 0)] [(0,(1,(.tmp 27))),(1,(1,(.tmp 30))),(2,(1,(.tmp 33))),(4,(1,(.tmp 36)))]) (OS 13 (.store 8 (.tmp 8) (.tmp 37)) .done))))))) (OP 12 8 (.alloc 26 [(.int .i64 0),(.slice none 0 0),(.slice none 0 0),(.slice none 0 0),(.slice none 0 0),(.slice none 0 0),(.slice none 0 0),(.slice none 0 0)]) (.op (GI.mk 4 (some 30) none (.call 68 [(.tmp 29)]) [1,6,9] false) (.op (GI.mk 7 (some 33) none (.call 69 [(.tmp 32)]) [1,3,9] false) (.op (GI.mk 10 (some 36) none (.call 69 [(.tmp 35)]) [1,3,6] false) (OP 11 37 (.build [(.int .i64 0),(.slice none 0 0),(.slice none 0 0),(.slice none 0 0),(.slice none 0 0),(.slice none 0 0),(.slice none 0 0),(.slice none 0 0)] [(0,(1,(.tmp 27))),(1,(1,(.tmp 30))),(2,(1,(.tmp 33))),(4,(1,(.tmp 36)))]) (OS 13 (.store 8 (.tmp 8) (.tmp 37)) .done)))))))))))))))
abbrev g_q88_r5:GR:=(O3 0 38 3 2 (O2 1 39 38 (OP 2 40 (.len (.tmp 39)) (OP 3 41 (.mv (K 0)) .done))))
abbrev g_q88_r6:GR:=(O5 0 42 .lss 41 40 .done)
abbrev g_q88_r7:GR:=(O4 0 43 1 39 41 (O2 1 44 43 (O1 2 10 44 .done)))
abbrev g_q88_r8:GR:=(O3 0 45 3 8 (O6 1 46 45 (O1 2 47 10 (.op (GI.mk 3 (some 48) none (.call 70 [(.tmp 47)]) [1] false) (OP 4 49 (.buildSlice 28 1 [(.slice none 0 0)] [(0,(1,(.tmp 48)))]) (OP 5 50 (.append 28 1 24 [(.slice none 0 0)] (.tmp 46) (.tmp 49)) (O3 6 51 3 8 (OS 7 (.store 1 (.tmp 51) (.tmp 50)) .done))))))))
abbrev g_q88_r9:GR:=(OP 0 52 (.bin .add (.tmp 41) (K 1)) (O1 1 41 52 .done))
abbrev g_q88_l10:GC:=(.seq (.reg g_q88_r6 [1,2,4,8,39,40,41,42]) (.seq (.cond (.tmp 42) .skip (.exit 0)) (.seq (.block 1 (.seq (.reg g_q88_r7 [1,2,4,8,10,39,40,41]) (.reg g_q88_r8 [1,2,4,8,39,40,41]))) (.reg g_q88_r9 [1,2,4,8,39,40,41]))))
abbrev g_q88_r11:GR:=(OP 0 53 .makeMap (O1 1 11 53 .done))
abbrev g_q88_r12:GR:=(O3 0 54 4 2 (O2 1 55 54 (OP 2 56 (.len (.tmp 55)) (OP 3 57 (.mv (K 0)) .done))))
abbrev g_q88_r13:GR:=(O5 0 58 .lss 57 56 .done)
abbrev g_q88_r14:GR:=(O4 0 59 2 55 57 (OP 1 60 (.load (some 2) (.tmp 59)) (OP 2 13 (.alloc 76 [(.int .i64 0),(.int .i64 0)]) (OS 3 (.store 2 (.tmp 13) (.tmp 60)) .done))))
abbrev g_q88_r15:GR:=(O1 0 61 11 (O3 1 62 0 13 (O2 2 63 62 (OS 3 (.mapSet (.tmp 61) (.tmp 63) (.const (.bool true))) .done))))
abbrev g_q88_r16:GR:=(OP 0 64 (.bin .add (.tmp 57) (K 1)) (O1 1 57 64 .done))
abbrev g_q88_l17:GC:=(.seq (.reg g_q88_r13 [1,2,4,8,11,55,56,57,58]) (.seq (.cond (.tmp 58) .skip (.exit 2)) (.seq (.block 3 (.seq (.reg g_q88_r14 [1,2,4,8,11,13,55,56,57]) (.reg g_q88_r15 [1,2,4,8,11,55,56,57]))) (.reg g_q88_r16 [1,2,4,8,11,55,56,57]))))
abbrev g_q88_r18:GR:=(O3 0 65 1 2 (O2 1 66 65 (OP 2 67 (.len (.tmp 66)) (OP 3 68 (.mv (K 0)) .done))))
abbrev g_q88_r19:GR:=(O5 0 69 .lss 68 67 .done)
abbrev g_q88_r20:GR:=(O1 0 70 68 (O4 1 71 5 66 68 (OP 2 72 (.load (some 5) (.tmp 71)) (OP 3 15 (.alloc 63 [(.int .i64 0),(.int .i64 0),(.int .i64 0),(.int .u64 0),(.int .i64 0)]) (O1 4 14 70 (OS 5 (.store 5 (.tmp 15) (.tmp 72)) .done))))))
abbrev g_q88_r21:GR:=(O3 0 73 1 8 (O6 1 74 73 (O1 2 75 14 (OW 3 76 (.load (some 5) (.tmp 15)) (.op (GI.mk 4 (some 77) none (.call 71 [(.tmp 76)]) [1] false) (O4 5 78 5 74 75 (O3 6 79 4 78 (OS 7 (.store 1 (.tmp 79) (.tmp 77)) .done))))))))
abbrev g_q88_r22:GR:=(O1 0 80 1 (O1 1 81 80 (OG 2 82 81 true (.fieldAddr 1 (.tmp 15)) (OG 3 83 81 true (.load none (.tmp 82)) (OG 4 84 81 true (.bin .eql (.tmp 83) (K 1)) (OP 5 85 (.pick (.tmp 81) (.tmp 84) (.const (.bool false))) (O1 6 86 85 (OG 7 87 86 true (.fieldAddr 4 (.tmp 15)) (OG 8 88 86 true (.load none (.tmp 87)) (OG 9 89 86 true (.bin .eql (.tmp 88) (K 2)) (OP 10 90 (.pick (.tmp 86) (.tmp 89) (.const (.bool false))) (O1 11 91 90 (OG 12 92 91 true (.mv (.tmp 11)) (OG 13 93 91 true (.mv (.tmp 14)) (OG 14 94 91 true (.lookup false (.bool false) (.tmp 92) (.tmp 93)) (OG 15 95 91 true (.not (.tmp 94)) (OP 16 96 (.pick (.tmp 91) (.tmp 95) (.const (.bool false))) .done)))))))))))))))))
abbrev g_q88_r23:GR:=(O3 0 97 1 8 (O2 1 98 97 (O1 2 99 14 (O4 3 100 5 98 99 (O3 4 101 4 100 (OS 5 (.store 1 (.tmp 101) (K 16)) .done))))))
abbrev g_q88_r24:GR:=(O3 0 102 1 15 (O2 1 103 102 (OP 2 104 (.bin .neq (.tmp 103) (K 1)) (O1 3 105 104 (OG 4 106 105 false (.fieldAddr 4 (.tmp 15)) (OG 5 107 105 false (.load none (.tmp 106)) (OG 6 108 105 false (.bin .neq (.tmp 107) (K 1)) (OP 7 109 (.pick (.tmp 105) (.const (.bool true)) (.tmp 108)) .done))))))))
abbrev g_q88_r25:GR:=(OP 0 110 (.load (some 8) (.tmp 2)) (O3 1 111 0 15 (O2 2 112 111 (OP 3 113 (.call 72 [(.tmp 110),(.tmp 112)]) (OP 4 114 (.len (.tmp 113)) (OP 5 115 (.mv (K 0)) .done))))))
abbrev g_q88_r26:GR:=(O5 0 116 .lss 115 114 .done)
abbrev g_q88_r27:GR:=(O4 0 117 1 113 115 (O2 1 118 117 (O1 2 17 118 .done)))
abbrev g_q88_r28:GR:=(O1 0 119 17 (O1 1 120 14 (O5 2 121 .gtr 119 120 .done)))
abbrev g_q88_r29:GR:=(O3 0 122 7 8 (O2 1 123 122 (O1 2 124 14 (O1 3 125 17 (OP 4 126 (.build [(.int .i64 0),(.int .i64 0)] [(0,(1,(.tmp 124))),(1,(1,(.tmp 125)))]) (OP 5 127 (.buildSlice 76 1 [(.int .i64 0),(.int .i64 0)] [(0,(2,(.tmp 126)))]) (OP 6 128 (.append 76 2 16 [(.int .i64 0),(.int .i64 0)] (.tmp 123) (.tmp 127)) (O3 7 129 7 8 (OS 8 (.store 1 (.tmp 129) (.tmp 128)) .done)))))))))
abbrev g_q88_r30:GR:=(OP 0 130 (.bin .add (.tmp 115) (K 1)) (O1 1 115 130 .done))
abbrev g_q88_l31:GC:=(.seq (.reg g_q88_r26 [1,2,4,8,11,14,66,67,68,113,114,115,116]) (.seq (.cond (.tmp 116) .skip (.exit 6)) (.seq (.block 7 (.seq (.reg g_q88_r27 [1,2,4,8,11,14,17,66,67,68,113,114,115]) (.seq (.reg g_q88_r28 [1,2,4,8,11,14,17,66,67,68,113,114,115,121]) (.cond (.tmp 121) (.reg g_q88_r29 [1,2,4,8,11,14,66,67,68,113,114,115]) .skip)))) (.reg g_q88_r30 [1,2,4,8,11,14,66,67,68,113,114,115]))))
abbrev g_q88_r32:GR:=(OP 0 131 (.bin .add (.tmp 68) (K 1)) (O1 1 68 131 .done))
abbrev g_q88_l33:GC:=(.seq (.reg g_q88_r19 [1,2,4,8,11,66,67,68,69]) (.seq (.cond (.tmp 69) .skip (.exit 4)) (.seq (.block 5 (.seq (.reg g_q88_r20 [1,2,4,8,11,14,15,66,67,68]) (.seq (.reg g_q88_r21 [1,2,4,8,11,14,15,66,67,68]) (.seq (.seq (.reg g_q88_r22 [1,2,4,8,11,14,15,66,67,68,96]) (.cond (.tmp 96) (.reg g_q88_r23 [1,2,4,8,11,14,15,66,67,68]) .skip)) (.seq (.seq (.reg g_q88_r24 [1,2,4,8,11,14,15,66,67,68,109]) (.cond (.tmp 109) (.exit 5) .skip)) (.seq (.reg g_q88_r25 [1,2,4,8,11,14,66,67,68,113,114,115]) (.block 6 (.loop g_q88_l31)))))))) (.reg g_q88_r32 [1,2,4,8,11,66,67,68]))))
abbrev g_q88_r34:GR:=(OP 0 132 (.load (some 8) (.tmp 8)) (OS 1 (.store 8 (.tmp 4) (.tmp 132)) (OP 2 5 (.mv (K 0)) .done)))
abbrev g_q88:GC:=(.seq (.reg g_q88_r0 [1,2,4]) (.seq (.seq (.reg g_q88_r1 [1,2,4,6]) (.seq (.reg g_q88_r2 [1,2,4,24]) (.cond (.tmp 24) (.seq (.reg g_q88_r3 [4,5]) .ret) .skip))) (.seq (.reg g_q88_r4 [1,2,4,8]) (.seq (.seq (.reg g_q88_r5 [1,2,4,8,39,40,41]) (.block 0 (.loop g_q88_l10))) (.seq (.reg g_q88_r11 [1,2,4,8,11]) (.seq (.seq (.reg g_q88_r12 [1,2,4,8,11,55,56,57]) (.block 2 (.loop g_q88_l17))) (.seq (.seq (.reg g_q88_r18 [1,2,4,8,11,66,67,68]) (.block 4 (.loop g_q88_l33))) (.seq (.reg g_q88_r34 [4,5]) .ret))))))))
abbrev rs_q88:List RV:=[(.cell 4 (some 8)),(.tmp 5)]
theorem gc_q88:compileF Tryz.prog Tryz.f33 T_q88=some (g_q88,rs_q88):=by kernel_rfl
theorem con_q88 (hv:vc Tryz.prog y g_q88 (retQ rs_q88 R) [(0,a0),(1,a1)] h):ConX y Tryz.prog 33 #[a0,a1] h R:=con_of Tryz.func33 gc_q88 rfl (fun h=>absurd h (by decide)) hv
def T_q19:List (Nat×List Nat):=[(0,[0]),(1,[0])]
abbrev g_q19_r0:GR:=(OP 0 0 (.alloc 26 [(.int .i64 0),(.slice none 0 0),(.slice none 0 0),(.slice none 0 0),(.slice none 0 0),(.slice none 0 0),(.slice none 0 0),(.slice none 0 0)]) .done)
abbrev g_q19_r1:GR:=(OP 0 1 (.call 74 [(K 0),(K 1),(K 0),(.const (.int .u64 1)),(K 1)]) (OP 1 2 (.call 74 [(K 0),(K 2),(K 1),(.const (.int .u64 1)),(K 1)]) (OP 2 3 (.call 74 [(K 1),(K 1),(K 1),(.const (.int .u64 1)),(K 1)]) (OP 3 4 (.call 74 [(K 1),(K 2),(K 0),(.const (.int .u64 1)),(K 1)]) (OP 4 5 (.buildSlice 63 4 [(.int .i64 0),(.int .i64 0),(.int .i64 0),(.int .u64 0),(.int .i64 0),(.int .i64 0),(.int .i64 0),(.int .i64 0),(.int .u64 0),(.int .i64 0),(.int .i64 0),(.int .i64 0),(.int .i64 0),(.int .u64 0),(.int .i64 0),(.int .i64 0),(.int .i64 0),(.int .i64 0),(.int .u64 0),(.int .i64 0)] [(0,(5,(.tmp 1))),(5,(5,(.tmp 2))),(10,(5,(.tmp 3))),(15,(5,(.tmp 4)))]) (OP 5 6 (.build [(.int .i64 0),(.int .i64 0)] [(0,(1,(K 5))),(1,(1,(K 2)))]) (OP 6 7 (.build [(.int .i64 0),(.int .i64 0)] [(0,(1,(K 3))),(1,(1,(K 4)))]) (OP 7 8 (.buildSlice 76 2 [(.int .i64 0),(.int .i64 0),(.int .i64 0),(.int .i64 0)] [(0,(2,(.tmp 6))),(2,(2,(.tmp 7)))]) (OP 8 9 (.buildSlice 3 1 [(.int .i64 0)] [(0,(1,(K 5)))]) (OP 9 10 (.buildSlice 3 1 [(.int .i64 0)] [(0,(1,(K 3)))]) (OP 10 11 (.call 73 [(.tmp 5),(.tmp 8),(.tmp 9),(.tmp 10)]) (OS 11 (.store 8 (.tmp 0) (.tmp 11)) .done))))))))))))
abbrev g_q19:GC:=(.seq (.reg g_q19_r0 [0]) (.seq (.reg g_q19_r1 [0]) .ret))
abbrev rs_q19:List RV:=[(.cell 0 (some 8))]
theorem gc_q19:compileF Tryz.prog Tryz.f34 T_q19=some (g_q19,rs_q19):=by kernel_rfl
theorem con_q19 (hv:vc Tryz.prog y g_q19 (retQ rs_q19 R) [] h):ConX y Tryz.prog 34 #[] h R:=con_of Tryz.func34 gc_q19 rfl (fun h=>absurd h (by decide)) hv
def T_q20:List (Nat×List Nat):=[(0,[1,2,3]),(1,[1,2,7,8,9]),(2,[6])]
abbrev g_q20_r0:GR:=(OP 0 3 (.box 26 (.tmp 0)) (OP 1 6 (.mv (.const (.bool false))) .done))
abbrev g_q20_r1:GR:=(OP 0 11 (.load (some 8) (.tmp 3)) (OP 1 12 (.call 5 [(.tmp 11)]) (O1 2 10 12 (OP 3 13 (.extract 0 (.tmp 10)) (OP 4 14 (.extract 1 (.tmp 10)) (OP 5 15 (.extract 2 (.tmp 10)) (O1 6 7 13 (O1 7 8 14 (O1 8 9 15 .done)))))))))
abbrev g_q20_r2:GR:=(O1 0 16 9 (OP 1 17 (.bin .eql (.tmp 16) (K 0)) (O1 2 18 17 (OG 3 19 18 true (.mv (.tmp 7)) (OG 4 20 18 true (.mv (.tmp 1)) (OG 5 21 18 true (.bin .eql (.tmp 19) (.tmp 20)) (OP 6 22 (.pick (.tmp 18) (.tmp 21) (.const (.bool false))) (O1 7 23 22 (OG 8 24 23 true (.mv (.tmp 8)) (OG 9 25 23 true (.mv (.tmp 2)) (OG 10 26 23 true (.call 7 [(.tmp 24),(.tmp 25)]) (OP 11 27 (.pick (.tmp 23) (.tmp 26) (.const (.bool false))) (O1 12 6 27 .done)))))))))))))
abbrev g_q20:GC:=(.seq (.reg g_q20_r0 [1,2,3]) (.seq (.reg g_q20_r1 [1,2,7,8,9]) (.seq (.reg g_q20_r2 [6]) .ret)))
abbrev rs_q20:List RV:=[(.tmp 6)]
theorem gc_q20:compileF Tryz.prog Tryz.f35 T_q20=some (g_q20,rs_q20):=by kernel_rfl
theorem con_q20 (hv:vc Tryz.prog y g_q20 (retQ rs_q20 R) [(0,a0),(1,a1),(2,a2)] h):ConX y Tryz.prog 35 #[a0,a1,a2] h R:=con_of Tryz.func35 gc_q20 rfl (fun h=>absurd h (by decide)) hv
def T_q15:List (Nat×List Nat):=[(0,[0]),(1,[0])]
abbrev g_q15_r0:GR:=(OP 0 0 (.alloc 26 [(.int .i64 0),(.slice none 0 0),(.slice none 0 0),(.slice none 0 0),(.slice none 0 0),(.slice none 0 0),(.slice none 0 0),(.slice none 0 0)]) .done)
abbrev g_q15_r1:GR:=(OP 0 1 (.call 74 [(K 0),(K 2),(K 0),(.const (.int .u64 1)),(K 1)]) (OP 1 2 (.call 74 [(K 0),(K 1),(K 1),(.const (.int .u64 0)),(K 1)]) (OP 2 3 (.call 74 [(K 1),(K 2),(K 1),(.const (.int .u64 1)),(K 1)]) (OP 3 4 (.call 74 [(K 1),(K 1),(K 0),(.const (.int .u64 0)),(K 1)]) (OP 4 5 (.buildSlice 63 4 [(.int .i64 0),(.int .i64 0),(.int .i64 0),(.int .u64 0),(.int .i64 0),(.int .i64 0),(.int .i64 0),(.int .i64 0),(.int .u64 0),(.int .i64 0),(.int .i64 0),(.int .i64 0),(.int .i64 0),(.int .u64 0),(.int .i64 0),(.int .i64 0),(.int .i64 0),(.int .i64 0),(.int .u64 0),(.int .i64 0)] [(0,(5,(.tmp 1))),(5,(5,(.tmp 2))),(10,(5,(.tmp 3))),(15,(5,(.tmp 4)))]) (OP 5 6 (.build [(.int .i64 0),(.int .i64 0)] [(0,(1,(K 1))),(1,(1,(K 3)))]) (OP 6 7 (.build [(.int .i64 0),(.int .i64 0)] [(0,(1,(K 0))),(1,(1,(K 5)))]) (OP 7 8 (.buildSlice 76 2 [(.int .i64 0),(.int .i64 0),(.int .i64 0),(.int .i64 0)] [(0,(2,(.tmp 6))),(2,(2,(.tmp 7)))]) (OP 8 9 (.buildSlice 3 1 [(.int .i64 0)] [(0,(1,(K 2)))]) (OP 9 10 (.buildSlice 3 1 [(.int .i64 0)] [(0,(1,(K 4)))]) (OP 10 11 (.call 73 [(.tmp 5),(.tmp 8),(.tmp 9),(.tmp 10)]) (OS 11 (.store 8 (.tmp 0) (.tmp 11)) .done))))))))))))
abbrev g_q15:GC:=(.seq (.reg g_q15_r0 [0]) (.seq (.reg g_q15_r1 [0]) .ret))
abbrev rs_q15:List RV:=[(.cell 0 (some 8))]
theorem gc_q15:compileF Tryz.prog Tryz.f36 T_q15=some (g_q15,rs_q15):=by kernel_rfl
theorem con_q15 (hv:vc Tryz.prog y g_q15 (retQ rs_q15 R) [] h):ConX y Tryz.prog 36 #[] h R:=con_of Tryz.func36 gc_q15 rfl (fun h=>absurd h (by decide)) hv
def T_q21:List (Nat×List Nat):=[(0,[1,2,3]),(1,[1,2,7,8,9]),(2,[6])]
abbrev g_q21_r0:GR:=(OP 0 3 (.box 26 (.tmp 0)) (OP 1 6 (.mv (.const (.bool false))) .done))
abbrev g_q21_r1:GR:=(OP 0 11 (.load (some 8) (.tmp 3)) (OP 1 12 (.call 8 [(.tmp 11)]) (O1 2 10 12 (OP 3 13 (.extract 0 (.tmp 10)) (OP 4 14 (.extract 1 (.tmp 10)) (OP 5 15 (.extract 2 (.tmp 10)) (O1 6 7 13 (O1 7 8 14 (O1 8 9 15 .done)))))))))
abbrev g_q21_r2:GR:=(O1 0 16 9 (OP 1 17 (.bin .eql (.tmp 16) (K 0)) (O1 2 18 17 (OG 3 19 18 true (.mv (.tmp 7)) (OG 4 20 18 true (.mv (.tmp 1)) (OG 5 21 18 true (.bin .eql (.tmp 19) (.tmp 20)) (OP 6 22 (.pick (.tmp 18) (.tmp 21) (.const (.bool false))) (O1 7 23 22 (OG 8 24 23 true (.mv (.tmp 8)) (OG 9 25 23 true (.mv (.tmp 2)) (OG 10 26 23 true (.call 7 [(.tmp 24),(.tmp 25)]) (OP 11 27 (.pick (.tmp 23) (.tmp 26) (.const (.bool false))) (O1 12 6 27 .done)))))))))))))
abbrev g_q21:GC:=(.seq (.reg g_q21_r0 [1,2,3]) (.seq (.reg g_q21_r1 [1,2,7,8,9]) (.seq (.reg g_q21_r2 [6]) .ret)))
abbrev rs_q21:List RV:=[(.tmp 6)]
theorem gc_q21:compileF Tryz.prog Tryz.f37 T_q21=some (g_q21,rs_q21):=by kernel_rfl
theorem con_q21 (hv:vc Tryz.prog y g_q21 (retQ rs_q21 R) [(0,a0),(1,a1),(2,a2)] h):ConX y Tryz.prog 37 #[a0,a1,a2] h R:=con_of Tryz.func37 gc_q21 rfl (fun h=>absurd h (by decide)) hv
def T_q5:List (Nat×List Nat):=[(0,[1]),(1,[1,3]),(2,[1,13]),(3,[2]),(4,[5]),(5,[2])]
abbrev g_q5_r0:GR:=(OP 0 1 (.box 26 (.tmp 0)) (OP 1 2 (.mv (.const (.bool false))) .done))
abbrev g_q5_r1:GR:=(OP 0 8 (.load (some 8) (.tmp 1)) (OP 1 9 (.call 67 [(.tmp 8),(.const (.bool false))]) (O1 2 7 9 (OP 3 10 (.extract 0 (.tmp 7)) (OP 4 11 (.extract 1 (.tmp 7)) (O1 5 3 10 (O1 6 4 11 .done)))))))
abbrev g_q5_r2:GR:=(O1 0 12 3 (OP 1 13 (.bin .eql (.tmp 12) (K 0)) .done))
abbrev g_q5_r3:GR:=(OP 0 2 (.mv (.const (.bool true))) .done)
abbrev g_q5_r4:GR:=(OP 0 15 (.load (some 8) (.tmp 1)) (OP 1 16 (.call 67 [(.tmp 15),(.const (.bool true))]) (O1 2 14 16 (OP 3 17 (.extract 0 (.tmp 14)) (OP 4 18 (.extract 1 (.tmp 14)) (O1 5 5 17 (O1 6 6 18 .done)))))))
abbrev g_q5_r5:GR:=(O1 0 19 5 (OP 1 20 (.bin .eql (.tmp 19) (K 0)) (O1 2 2 20 .done)))
abbrev g_q5:GC:=(.seq (.reg g_q5_r0 [1]) (.seq (.seq (.reg g_q5_r1 [1,3]) (.seq (.reg g_q5_r2 [1,13]) (.cond (.tmp 13) (.seq (.reg g_q5_r3 [2]) .ret) .skip))) (.seq (.reg g_q5_r4 [5]) (.seq (.reg g_q5_r5 [2]) .ret))))
abbrev rs_q5:List RV:=[(.tmp 2)]
theorem gc_q5:compileF Tryz.prog Tryz.f38 T_q5=some (g_q5,rs_q5):=by kernel_rfl
theorem con_q5 (hv:vc Tryz.prog y g_q5 (retQ rs_q5 R) [(0,a0)] h):ConX y Tryz.prog 38 #[a0] h R:=con_of Tryz.func38 gc_q5 rfl (fun h=>absurd h (by decide)) hv
def T_q72:List (Nat×List Nat):=[(0,[0]),(1,[0]),(2,[0,3]),(3,[0,3,17,18]),(4,[0,3,17,18,19]),(5,[0,3,4,17,18]),(6,[0,3,17,18]),(7,[0,3,17,18]),(8,[2])]
abbrev g_q72_r0:GR:=(OP 0 2 (.mv (.const (.pointer none))) .done)
abbrev g_q72_r1:GR:=(O1 0 5 0 (OP 1 6 (.mini (.tmp 5) (K 256)) (OP 2 7 (.maxi (K 0) (.tmp 6)) (O1 3 0 7 .done))))
abbrev g_q72_r2:GR:=(O1 0 8 0 (O1 1 9 0 (OP 2 10 (.makeSlice 109 1 24 [(.slice none 0 0)] (.tmp 9) (.tmp 9)) (OP 3 11 (.build [(.int .i64 0),(.slice none 0 0)] [(0,(1,(.tmp 8))),(1,(1,(.tmp 10)))]) (OP 4 12 (.box 107 (.tmp 11)) (O1 5 3 12 .done))))))
abbrev g_q72_r3:GR:=(O1 0 13 3 (OP 1 14 (.nilCheck (.tmp 13)) (O3 2 15 1 14 (O2 3 16 15 (OP 4 17 (.len (.tmp 16)) (OP 5 18 (.mv (K 0)) .done))))))
abbrev g_q72_r4:GR:=(O5 0 19 .lss 18 17 .done)
abbrev g_q72_r5:GR:=(O1 0 20 18 (O1 1 4 20 .done))
abbrev g_q72_r6:GR:=(O1 0 21 3 (OP 1 22 (.nilCheck (.tmp 21)) (O3 2 23 1 22 (O6 3 24 23 (O1 4 25 4 (O1 5 26 0 (OP 6 27 (.bin .add (.tmp 26) (K 63)) (OP 7 28 (.bin .quo (.tmp 27) (K 64)) (OP 8 29 (.makeSlice 61 1 8 [(.int .u64 0)] (.tmp 28) (.tmp 28)) (O4 9 30 1 24 25 (OS 10 (.store 1 (.tmp 30) (.tmp 29)) .done)))))))))))
abbrev g_q72_r7:GR:=(OP 0 31 (.bin .add (.tmp 18) (K 1)) (O1 1 18 31 .done))
abbrev g_q72_l8:GC:=(.seq (.reg g_q72_r4 [0,3,17,18,19]) (.seq (.cond (.tmp 19) .skip (.exit 0)) (.seq (.block 1 (.seq (.reg g_q72_r5 [0,3,4,17,18]) (.reg g_q72_r6 [0,3,17,18]))) (.reg g_q72_r7 [0,3,17,18]))))
abbrev g_q72_r9:GR:=(O1 0 32 3 (O1 1 2 32 .done))
abbrev g_q72:GC:=(.seq (.reg g_q72_r0 [0]) (.seq (.reg g_q72_r1 [0]) (.seq (.reg g_q72_r2 [0,3]) (.seq (.seq (.reg g_q72_r3 [0,3,17,18]) (.block 0 (.loop g_q72_l8))) (.seq (.reg g_q72_r9 [2]) .ret)))))
abbrev rs_q72:List RV:=[(.tmp 2)]
theorem gc_q72:compileF Tryz.prog Tryz.f39 T_q72=some (g_q72,rs_q72):=by kernel_rfl
theorem con_q72 (hv:vc Tryz.prog y g_q72 (retQ rs_q72 R) [(0,a0)] h):ConX y Tryz.prog 39 #[a0] h R:=con_of Tryz.func39 gc_q72 rfl (fun h=>absurd h (by decide)) hv
def T_q73:List (Nat×List Nat):=[(0,[0,1]),(1,[1,5]),(2,[5,10,11,12]),(3,[5,10,11,12,13]),(4,[5,7,10,11,12]),(5,[5,10,11,12]),(6,[5,10,11,12]),(7,[4])]
abbrev g_q73_r0:GR:=(OP 0 4 (.mv (.const (.pointer none))) .done)
abbrev g_q73_r1:GR:=(O1 0 8 0 (OP 1 9 (.call 39 [(.tmp 8)]) (O1 2 5 9 .done)))
abbrev g_q73_r2:GR:=(O1 0 10 1 (OP 1 11 (.len (.tmp 10)) (OP 2 12 (.mv (K 0)) .done)))
abbrev g_q73_r3:GR:=(O5 0 13 .lss 12 11 .done)
abbrev g_q73_r4:GR:=(O4 0 14 2 10 12 (OP 1 15 (.load (some 2) (.tmp 14)) (OP 2 7 (.alloc 76 [(.int .i64 0),(.int .i64 0)]) (OS 3 (.store 2 (.tmp 7) (.tmp 15)) .done))))
abbrev g_q73_r5:GR:=(O1 0 16 5 (O3 1 17 0 7 (O2 2 18 17 (O3 3 19 1 7 (O2 4 20 19 (OP 5 21 (.call 41 [(.tmp 16),(.tmp 18),(.tmp 20),(.const (.bool true))]) .done))))))
abbrev g_q73_r6:GR:=(OP 0 22 (.bin .add (.tmp 12) (K 1)) (O1 1 12 22 .done))
abbrev g_q73_l7:GC:=(.seq (.reg g_q73_r3 [5,10,11,12,13]) (.seq (.cond (.tmp 13) .skip (.exit 0)) (.seq (.block 1 (.seq (.reg g_q73_r4 [5,7,10,11,12]) (.reg g_q73_r5 [5,10,11,12]))) (.reg g_q73_r6 [5,10,11,12]))))
abbrev g_q73_r8:GR:=(O1 0 23 5 (O1 1 4 23 .done))
abbrev g_q73:GC:=(.seq (.reg g_q73_r0 [0,1]) (.seq (.reg g_q73_r1 [1,5]) (.seq (.seq (.reg g_q73_r2 [5,10,11,12]) (.block 0 (.loop g_q73_l7))) (.seq (.reg g_q73_r8 [4]) .ret))))
abbrev rs_q73:List RV:=[(.tmp 4)]
theorem gc_q73:compileF Tryz.prog Tryz.f40 T_q73=some (g_q73,rs_q73):=by kernel_rfl
theorem con_q73 (hv:vc Tryz.prog y g_q73 (retQ rs_q73 R) [(0,a0),(1,a1)] h):ConX y Tryz.prog 40 #[a0,a1] h R:=con_of Tryz.func40 gc_q73 rfl (fun h=>absurd h (by decide)) hv
def T_q77:List (Nat×List Nat):=[(0,[0,1,2,3]),(1,[0,1,2,26]),(2,[8]),(3,[]),(4,[8])]
abbrev g_q77_r0:GR:=(OP 0 8 (.mv (.const (.bool false))) .done)
abbrev g_q77_r1:GR:=(O1 0 9 0 (O1 1 10 1 (O1 2 11 2 (OP 3 12 (.call 75 [(.tmp 9),(.tmp 10),(.tmp 11)]) (OP 4 13 (.not (.tmp 12)) (O1 5 14 13 (OG 6 15 14 false (.mv (.tmp 0)) (OG 7 16 14 false (.nilCheck (.tmp 15)) (OG 8 17 14 false (.fieldAddr 1 (.tmp 16)) (OG 9 18 14 false (.load none (.tmp 17)) (OG 10 19 14 false (.mv (.tmp 1)) (OG 11 20 14 false (.indexAddr 1 (.tmp 18) (.tmp 19)) (OG 12 21 14 false (.load none (.tmp 20)) (OG 13 22 14 false (.mv (.tmp 2)) (OG 14 23 14 false (.call 76 [(.tmp 21),(.tmp 22)]) (OG 15 24 14 false (.mv (.tmp 3)) (OG 16 25 14 false (.eqBool false (.tmp 23) (.tmp 24)) (OP 17 26 (.pick (.tmp 14) (.const (.bool true)) (.tmp 25)) .done))))))))))))))))))
abbrev g_q77_r2:GR:=(OP 0 8 (.mv (.const (.bool false))) .done)
abbrev g_q77_r3:GR:=(O1 0 27 0 (OP 1 28 (.nilCheck (.tmp 27)) (O3 2 29 1 28 (O6 3 30 29 (O1 4 31 1 (O4 5 32 1 30 31 (O6 6 33 32 (O1 7 34 2 (OP 8 35 (.bin .quo (.tmp 34) (K 64)) (O4 9 36 1 33 35 (O6 10 37 36 (O1 11 38 2 (OP 12 39 (.bin .rem (.tmp 38) (K 64)) (OP 13 40 (.shift .shl (.const (.int .u64 1)) (.tmp 39)) (O5 14 41 .xor 37 40 (O4 15 42 1 33 35 (OS 16 (.store 1 (.tmp 42) (.tmp 41)) .done)))))))))))))))))
abbrev g_q77_r4:GR:=(OP 0 8 (.mv (.const (.bool true))) .done)
abbrev g_q77:GC:=(.seq (.reg g_q77_r0 [0,1,2,3]) (.seq (.seq (.reg g_q77_r1 [0,1,2,26]) (.cond (.tmp 26) (.seq (.reg g_q77_r2 [8]) .ret) .skip)) (.seq (.reg g_q77_r3 []) (.seq (.reg g_q77_r4 [8]) .ret))))
abbrev rs_q77:List RV:=[(.tmp 8)]
theorem gc_q77:compileF Tryz.prog Tryz.f41 T_q77=some (g_q77,rs_q77):=by kernel_rfl
theorem con_q77 (hv:vc Tryz.prog y g_q77 (retQ rs_q77 R) [(0,a0),(1,a1),(2,a2),(3,a3)] h):ConX y Tryz.prog 41 #[a0,a1,a2,a3] h R:=con_of Tryz.func41 gc_q77 rfl (fun h=>absurd h (by decide)) hv
def T_q66:List (Nat×List Nat):=[(0,[0,3,4]),(1,[0,3,4,5]),(2,[3,4,5,22,23,24]),(3,[3,4,5,22,23,24,25]),(4,[3,4,5,6,7,22,23,24]),(5,[3,4,5,6,22,23,24,30]),(6,[3,5,6,8]),(7,[3,5,6,8,37]),(8,[]),(9,[3,4,5,22,23,24]),(10,[4])]
abbrev g_q66_r0:GR:=(OP 0 3 (.box 38 (.tmp 1)) (OP 1 4 (.mv (.const (.pointer none))) .done))
abbrev g_q66_r1:GR:=(O1 0 9 0 (OP 1 10 (.nilCheck (.tmp 9)) (O3 2 11 0 10 (O6 3 12 11 (O6 4 13 3 (OP 5 14 (.nilCheck (.tmp 13)) (O3 6 15 0 14 (O6 7 16 15 (OP 8 17 (.maxi (.tmp 12) (.tmp 16)) (.two (.op (GI.mk 9 (some 18) none (.call 39 [(.tmp 17)]) [3,4,7] false) (OP 10 5 (.alloc 38 [(.pointer none)]) (OS 11 (.store 1 (.tmp 5) (.tmp 18)) .done))) (OP 10 5 (.alloc 38 [(.pointer none)]) (.op (GI.mk 9 (some 18) none (.call 39 [(.tmp 17)]) [3,4,7] false) (OS 11 (.store 1 (.tmp 5) (.tmp 18)) .done)))))))))))))
abbrev g_q66_r2:GR:=(O1 0 19 0 (OP 1 20 (.nilCheck (.tmp 19)) (O3 2 21 1 20 (O2 3 22 21 (OP 4 23 (.len (.tmp 22)) (OP 5 24 (.mv (K 0)) .done))))))
abbrev g_q66_r3:GR:=(O5 0 25 .lss 24 23 .done)
abbrev g_q66_r4:GR:=(O1 0 26 24 (O4 1 27 1 22 24 (O2 2 28 27 (OP 3 6 (.alloc 3 [(.int .i64 0)]) (OS 4 (.store 1 (.tmp 6) (.tmp 26)) (O1 5 7 28 .done))))))
abbrev g_q66_r5:GR:=(O1 0 29 7 (OP 1 30 (.call 77 [(.tmp 29)]) .done))
abbrev g_q66_r6:GR:=(O1 0 8 31 .done)
abbrev g_q66_r7:GR:=(O1 0 32 8 (O2 1 33 3 (OP 2 34 (.nilCheck (.tmp 33)) (O3 3 35 0 34 (O2 4 36 35 (O5 5 37 .lss 32 36 .done))))))
abbrev g_q66_r8:GR:=(O6 0 38 5 (OP 1 39 (.nilCheck (.tmp 38)) (O3 2 40 1 39 (O6 3 41 40 (O6 4 42 6 (O4 5 43 1 41 42 (O6 6 44 43 (O6 7 45 3 (OP 8 46 (.nilCheck (.tmp 45)) (O3 9 47 1 46 (O6 10 48 47 (O1 11 49 8 (O4 12 50 1 48 49 (O6 13 51 50 (OP 14 52 (.buildSlice 109 1 [(.slice none 0 0)] [(0,(1,(.tmp 51)))]) (.op (GI.mk 15 (some 53) none (.call 78 [(.tmp 44),(.tmp 52)]) [0,3,4,7,10,13] false) .done))))))))))))))))
abbrev g_q66_b9:GC:=(.block 3 (.seq (.reg g_q66_r7 [3,5,6,8,37]) (.cond (.tmp 37) (.reg g_q66_r8 []) .skip)))
abbrev g_q66_r10:GR:=(OP 0 54 (.bin .add (.tmp 24) (K 1)) (O1 1 24 54 .done))
abbrev g_q66_l11:GC:=(.seq (.reg g_q66_r3 [3,4,5,22,23,24,25]) (.seq (.cond (.tmp 25) .skip (.exit 0)) (.seq (.block 1 (.seq (.reg g_q66_r4 [3,4,5,6,7,22,23,24]) (.seq (.reg g_q66_r5 [3,4,5,6,22,23,24,30]) (.block 2 (.rng (.tmp 30) [31] (.reg g_q66_r6 [3,5,6,8]) g_q66_b9))))) (.reg g_q66_r10 [3,4,5,22,23,24]))))
abbrev g_q66_r12:GR:=(O2 0 55 5 (O1 1 4 55 .done))
abbrev g_q66:GC:=(.seq (.reg g_q66_r0 [0,3,4]) (.seq (.reg g_q66_r1 [0,3,4,5]) (.seq (.seq (.reg g_q66_r2 [3,4,5,22,23,24]) (.block 0 (.loop g_q66_l11))) (.seq (.reg g_q66_r12 [4]) .ret))))
abbrev rs_q66:List RV:=[(.tmp 4)]
theorem gc_q66:compileF Tryz.prog Tryz.f42 T_q66=some (g_q66,rs_q66):=by kernel_rfl
theorem con_q66 (hR:∀ v h1 h2,Ext h.size h1 h2→R v h1→R v h2) (hv:vc Tryz.prog y g_q66 (retQ rs_q66 R) [(0,a0),(1,a1)] h):ConX y Tryz.prog 42 #[a0,a1] h R:=con_of Tryz.func42 gc_q66 rfl (fun _=>hR) hv
def T_q71:List (Nat×List Nat):=[(0,[0,2]),(1,[0,2,3]),(2,[2,3,15,16,17]),(3,[2,3,15,16,17,18]),(4,[2,3,4,5,15,16,17]),(5,[2,3,4,15,16,17,23]),(6,[3,4,6]),(7,[]),(8,[2,3,15,16,17]),(9,[2])]
abbrev g_q71_r0:GR:=(OP 0 2 (.mv (.const (.pointer none))) .done)
abbrev g_q71_r1:GR:=(O1 0 7 0 (OP 1 8 (.nilCheck (.tmp 7)) (O3 2 9 0 8 (O2 3 10 9 (OP 4 11 (.call 39 [(.tmp 10)]) (OP 5 3 (.alloc 38 [(.pointer none)]) (OS 6 (.store 1 (.tmp 3) (.tmp 11)) .done)))))))
abbrev g_q71_r2:GR:=(O1 0 12 0 (OP 1 13 (.nilCheck (.tmp 12)) (O3 2 14 1 13 (O2 3 15 14 (OP 4 16 (.len (.tmp 15)) (OP 5 17 (.mv (K 0)) .done))))))
abbrev g_q71_r3:GR:=(O5 0 18 .lss 17 16 .done)
abbrev g_q71_r4:GR:=(O1 0 19 17 (O4 1 20 1 15 17 (O2 2 21 20 (OP 3 4 (.alloc 3 [(.int .i64 0)]) (OS 4 (.store 1 (.tmp 4) (.tmp 19)) (O1 5 5 21 .done))))))
abbrev g_q71_r5:GR:=(O1 0 22 5 (OP 1 23 (.call 77 [(.tmp 22)]) .done))
abbrev g_q71_r6:GR:=(O1 0 6 24 .done)
abbrev g_q71_r7:GR:=(O6 0 25 3 (OP 1 26 (.nilCheck (.tmp 25)) (O3 2 27 1 26 (O6 3 28 27 (O1 4 29 6 (O4 5 30 1 28 29 (O6 6 31 30 (O6 7 32 4 (.op (GI.mk 8 (some 33) none (.call 79 [(.tmp 31),(.tmp 32)]) [0,3] false) .done)))))))))
abbrev g_q71_b8:GC:=(.block 3 (.reg g_q71_r7 []))
abbrev g_q71_r9:GR:=(OP 0 34 (.bin .add (.tmp 17) (K 1)) (O1 1 17 34 .done))
abbrev g_q71_l10:GC:=(.seq (.reg g_q71_r3 [2,3,15,16,17,18]) (.seq (.cond (.tmp 18) .skip (.exit 0)) (.seq (.block 1 (.seq (.reg g_q71_r4 [2,3,4,5,15,16,17]) (.seq (.reg g_q71_r5 [2,3,4,15,16,17,23]) (.block 2 (.rng (.tmp 23) [24] (.reg g_q71_r6 [3,4,6]) g_q71_b8))))) (.reg g_q71_r9 [2,3,15,16,17]))))
abbrev g_q71_r11:GR:=(O2 0 35 3 (O1 1 2 35 .done))
abbrev g_q71:GC:=(.seq (.reg g_q71_r0 [0,2]) (.seq (.reg g_q71_r1 [0,2,3]) (.seq (.seq (.reg g_q71_r2 [2,3,15,16,17]) (.block 0 (.loop g_q71_l10))) (.seq (.reg g_q71_r11 [2]) .ret))))
abbrev rs_q71:List RV:=[(.tmp 2)]
theorem gc_q71:compileF Tryz.prog Tryz.f43 T_q71=some (g_q71,rs_q71):=by kernel_rfl
theorem con_q71 (hR:∀ v h1 h2,Ext h.size h1 h2→R v h1→R v h2) (hv:vc Tryz.prog y g_q71 (retQ rs_q71 R) [(0,a0)] h):ConX y Tryz.prog 43 #[a0] h R:=con_of Tryz.func43 gc_q71 rfl (fun _=>hR) hv
def T_q68:List (Nat×List Nat):=[(0,[0]),(1,[0,3]),(2,[0,3,10,11]),(3,[0,3,10,11,12]),(4,[0,3,4,10,11]),(5,[0,3,4,10,11,22]),(6,[2]),(7,[0,3,10,11]),(8,[2])]
abbrev g_q68_r0:GR:=(OP 0 2 (.mv (.const (.slice none 0 0))) .done)
abbrev g_q68_r1:GR:=(O1 0 5 0 (OP 1 6 (.call 80 [(.tmp 5)]) (O1 2 3 6 .done)))
abbrev g_q68_r2:GR:=(O1 0 7 0 (OP 1 8 (.nilCheck (.tmp 7)) (O3 2 9 0 8 (O2 3 10 9 (OP 4 11 (.mv (K 0)) .done)))))
abbrev g_q68_r3:GR:=(O5 0 12 .lss 11 10 .done)
abbrev g_q68_r4:GR:=(O1 0 13 11 (O1 1 4 13 .done))
abbrev g_q68_r5:GR:=(O1 0 14 3 (OP 1 15 (.nilCheck (.tmp 14)) (O3 2 16 1 15 (O2 3 17 16 (O1 4 18 4 (O4 5 19 1 17 18 (O2 6 20 19 (O1 7 21 4 (OP 8 22 (.call 76 [(.tmp 20),(.tmp 21)]) .done)))))))))
abbrev g_q68_r6:GR:=(O1 0 23 0 (O1 1 24 4 (OP 2 25 (.call 81 [(.tmp 23),(.tmp 24)]) (O1 3 2 25 .done))))
abbrev g_q68_r7:GR:=(OP 0 26 (.bin .add (.tmp 11) (K 1)) (O1 1 11 26 .done))
abbrev g_q68_l8:GC:=(.seq (.reg g_q68_r3 [0,3,10,11,12]) (.seq (.cond (.tmp 12) .skip (.exit 0)) (.seq (.block 1 (.seq (.reg g_q68_r4 [0,3,4,10,11]) (.seq (.reg g_q68_r5 [0,3,4,10,11,22]) (.cond (.tmp 22) (.seq (.reg g_q68_r6 [2]) .ret) .skip)))) (.reg g_q68_r7 [0,3,10,11]))))
abbrev g_q68_r9:GR:=(OP 0 2 (.mv (.const (.slice none 0 0))) .done)
abbrev g_q68:GC:=(.seq (.reg g_q68_r0 [0]) (.seq (.reg g_q68_r1 [0,3]) (.seq (.seq (.reg g_q68_r2 [0,3,10,11]) (.block 0 (.loop g_q68_l8))) (.seq (.reg g_q68_r9 [2]) .ret))))
abbrev rs_q68:List RV:=[(.tmp 2)]
theorem gc_q68:compileF Tryz.prog Tryz.f44 T_q68=some (g_q68,rs_q68):=by kernel_rfl
theorem con_q68 (hv:vc Tryz.prog y g_q68 (retQ rs_q68 R) [(0,a0)] h):ConX y Tryz.prog 44 #[a0] h R:=con_of Tryz.func44 gc_q68 rfl (fun h=>absurd h (by decide)) hv
def T_q81:List (Nat×List Nat):=[(0,[0]),(1,[0,3]),(2,[0,3,11,12,13]),(3,[0,3,11,12,13,14]),(4,[0,3,5,11,12,13]),(5,[0,3,11,12,13]),(6,[0,3,11,12,13]),(7,[0,6]),(8,[6,26,27,28]),(9,[6,26,27,28,29]),(10,[6,8,26,27,28]),(11,[6,26,27,28,35,36,37]),(12,[6,26,27,28,35,36,37,38]),(13,[6,9,10,26,27,28,35,36,37]),(14,[6,26,27,28,35,36,37]),(15,[6,26,27,28,35,36,37]),(16,[6,26,27,28]),(17,[2])]
abbrev g_q81_r0:GR:=(OP 0 2 (.mv (.const (.pointer none))) .done)
abbrev g_q81_r1:GR:=(OP 0 3 (.mv (K 0)) .done)
abbrev g_q81_r2:GR:=(O1 0 11 0 (OP 1 12 (.len (.tmp 11)) (OP 2 13 (.mv (K 0)) .done)))
abbrev g_q81_r3:GR:=(O5 0 14 .lss 13 12 .done)
abbrev g_q81_r4:GR:=(O4 0 15 1 11 13 (O2 1 16 15 (O1 2 5 16 .done)))
abbrev g_q81_r5:GR:=(O1 0 17 3 (O1 1 18 5 (OP 2 19 (.nilCheck (.tmp 18)) (O3 3 20 0 19 (O2 4 21 20 (OP 5 22 (.maxi (.tmp 17) (.tmp 21)) (O1 6 3 22 .done)))))))
abbrev g_q81_r6:GR:=(OP 0 23 (.bin .add (.tmp 13) (K 1)) (O1 1 13 23 .done))
abbrev g_q81_l7:GC:=(.seq (.reg g_q81_r3 [0,3,11,12,13,14]) (.seq (.cond (.tmp 14) .skip (.exit 0)) (.seq (.block 1 (.seq (.reg g_q81_r4 [0,3,5,11,12,13]) (.reg g_q81_r5 [0,3,11,12,13]))) (.reg g_q81_r6 [0,3,11,12,13]))))
abbrev g_q81_r8:GR:=(O1 0 24 3 (OP 1 25 (.call 39 [(.tmp 24)]) (O1 2 6 25 .done)))
abbrev g_q81_r9:GR:=(O1 0 26 0 (OP 1 27 (.len (.tmp 26)) (OP 2 28 (.mv (K 0)) .done)))
abbrev g_q81_r10:GR:=(O5 0 29 .lss 28 27 .done)
abbrev g_q81_r11:GR:=(O4 0 30 1 26 28 (O2 1 31 30 (O1 2 8 31 .done)))
abbrev g_q81_r12:GR:=(O1 0 32 8 (OP 1 33 (.nilCheck (.tmp 32)) (O3 2 34 1 33 (O2 3 35 34 (OP 4 36 (.len (.tmp 35)) (OP 5 37 (.mv (K 0)) .done))))))
abbrev g_q81_r13:GR:=(O5 0 38 .lss 37 36 .done)
abbrev g_q81_r14:GR:=(O1 0 39 37 (O4 1 40 1 35 37 (O2 2 41 40 (O1 3 9 39 (O1 4 10 41 .done)))))
abbrev g_q81_r15:GR:=(O1 0 42 6 (OP 1 43 (.nilCheck (.tmp 42)) (O3 2 44 1 43 (O2 3 45 44 (O1 4 46 9 (O4 5 47 1 45 46 (O2 6 48 47 (O1 7 49 10 (OP 8 50 (.buildSlice 109 1 [(.slice none 0 0)] [(0,(1,(.tmp 49)))]) (OP 9 51 (.call 78 [(.tmp 48),(.tmp 50)]) .done))))))))))
abbrev g_q81_r16:GR:=(OP 0 52 (.bin .add (.tmp 37) (K 1)) (O1 1 37 52 .done))
abbrev g_q81_l17:GC:=(.seq (.reg g_q81_r13 [6,26,27,28,35,36,37,38]) (.seq (.cond (.tmp 38) .skip (.exit 4)) (.seq (.block 5 (.seq (.reg g_q81_r14 [6,9,10,26,27,28,35,36,37]) (.reg g_q81_r15 [6,26,27,28,35,36,37]))) (.reg g_q81_r16 [6,26,27,28,35,36,37]))))
abbrev g_q81_r18:GR:=(OP 0 53 (.bin .add (.tmp 28) (K 1)) (O1 1 28 53 .done))
abbrev g_q81_l19:GC:=(.seq (.reg g_q81_r10 [6,26,27,28,29]) (.seq (.cond (.tmp 29) .skip (.exit 2)) (.seq (.block 3 (.seq (.reg g_q81_r11 [6,8,26,27,28]) (.seq (.reg g_q81_r12 [6,26,27,28,35,36,37]) (.block 4 (.loop g_q81_l17))))) (.reg g_q81_r18 [6,26,27,28]))))
abbrev g_q81_r20:GR:=(O1 0 54 6 (O1 1 2 54 .done))
abbrev g_q81:GC:=(.seq (.reg g_q81_r0 [0]) (.seq (.reg g_q81_r1 [0,3]) (.seq (.seq (.reg g_q81_r2 [0,3,11,12,13]) (.block 0 (.loop g_q81_l7))) (.seq (.reg g_q81_r8 [0,6]) (.seq (.seq (.reg g_q81_r9 [6,26,27,28]) (.block 2 (.loop g_q81_l19))) (.seq (.reg g_q81_r20 [2]) .ret))))))
abbrev rs_q81:List RV:=[(.tmp 2)]
theorem gc_q81:compileF Tryz.prog Tryz.f45 T_q81=some (g_q81,rs_q81):=by kernel_rfl
theorem con_q81 (hv:vc Tryz.prog y g_q81 (retQ rs_q81 R) [(0,a0)] h):ConX y Tryz.prog 45 #[a0] h R:=con_of Tryz.func45 gc_q81 rfl (fun h=>absurd h (by decide)) hv
def T_q76:List (Nat×List Nat):=[(0,[0,1,2]),(1,[6])]
abbrev g_q76_r0:GR:=(OP 0 6 (.mv (.const (.bool false))) .done)
abbrev g_q76_r1:GR:=(O1 0 7 0 (O1 1 8 1 (O1 2 9 2 (OP 3 10 (.call 75 [(.tmp 7),(.tmp 8),(.tmp 9)]) (O1 4 11 10 (OG 5 12 11 true (.mv (.tmp 0)) (OG 6 13 11 true (.nilCheck (.tmp 12)) (OG 7 14 11 true (.fieldAddr 1 (.tmp 13)) (OG 8 15 11 true (.load none (.tmp 14)) (OG 9 16 11 true (.mv (.tmp 1)) (OG 10 17 11 true (.indexAddr 1 (.tmp 15) (.tmp 16)) (OG 11 18 11 true (.load none (.tmp 17)) (OG 12 19 11 true (.mv (.tmp 2)) (OG 13 20 11 true (.call 76 [(.tmp 18),(.tmp 19)]) (OP 14 21 (.pick (.tmp 11) (.tmp 20) (.const (.bool false))) (O1 15 6 21 .done))))))))))))))))
abbrev g_q76:GC:=(.seq (.reg g_q76_r0 [0,1,2]) (.seq (.reg g_q76_r1 [6]) .ret))
abbrev rs_q76:List RV:=[(.tmp 6)]
theorem gc_q76:compileF Tryz.prog Tryz.f46 T_q76=some (g_q76,rs_q76):=by kernel_rfl
theorem con_q76 (hv:vc Tryz.prog y g_q76 (retQ rs_q76 R) [(0,a0),(1,a1),(2,a2)] h):ConX y Tryz.prog 46 #[a0,a1,a2] h R:=con_of Tryz.func46 gc_q76 rfl (fun h=>absurd h (by decide)) hv
def T_q44:List (Nat×List Nat):=[(0,[1,2]),(1,[1,2,33]),(2,[4,5]),(3,[1,2,6]),(4,[1,2,6,35]),(5,[1,2,6]),(6,[1,2,6,7]),(7,[1,2,6,7,40]),(8,[1,2,6,7]),(9,[1,2,6,7]),(10,[1,2,6,7,51]),(11,[4,5]),(12,[1,2,8]),(13,[1,2,8,59]),(14,[1,2,8]),(15,[1,2,8,70]),(16,[4,5]),(17,[1,2,9]),(18,[1,2,9,75]),(19,[4,5]),(20,[1,2,9]),(21,[1,2,9,80]),(22,[4,5]),(23,[1,2,9]),(24,[1,2,9,85]),(25,[4,5]),(26,[1,2,10]),(27,[1,2,10,11]),(28,[1,2,10,11,95]),(29,[1,2,10,11]),(30,[1,2,9,10,11]),(31,[1,2,9,10,11,115]),(32,[1,2,9,10,11]),(33,[1,2,9,10,11,117]),(34,[4,5]),(35,[4,5])]
abbrev g_q44_r0:GR:=(OP 0 2 (.box 26 (.tmp 0)) (OP 1 4 (.mv (K 0)) (OP 2 5 (.mv (K 0)) .done)))
abbrev g_q44_r1:GR:=(O3 0 12 0 2 (O2 1 13 12 (OP 2 14 (.bin .lss (.tmp 13) (K 0)) (O1 3 15 14 (OG 4 16 15 false (.fieldAddr 0 (.tmp 2)) (OG 5 17 15 false (.load none (.tmp 16)) (OG 6 18 15 false (.bin .gtr (.tmp 17) (K 4096)) (OP 7 19 (.pick (.tmp 15) (.const (.bool true)) (.tmp 18)) (O1 8 20 19 (OG 9 21 20 false (.fieldAddr 1 (.tmp 2)) (OG 10 22 20 false (.load none (.tmp 21)) (OG 11 23 20 false (.len (.tmp 22)) (OG 12 24 20 false (.fieldAddr 0 (.tmp 2)) (OG 13 25 20 false (.load none (.tmp 24)) (OG 14 26 20 false (.bin .lss (.tmp 23) (.tmp 25)) (OP 15 27 (.pick (.tmp 20) (.const (.bool true)) (.tmp 26)) (O1 16 28 27 (OG 17 29 28 false (.fieldAddr 1 (.tmp 2)) (OG 18 30 28 false (.load none (.tmp 29)) (OG 19 31 28 false (.len (.tmp 30)) (OG 20 32 28 false (.bin .gtr (.tmp 31) (K 256)) (OP 21 33 (.pick (.tmp 28) (.const (.bool true)) (.tmp 32)) .done))))))))))))))))))))))
abbrev g_q44_r2:GR:=(OP 0 4 (.mv (K 1)) (OP 1 5 (.mv (K 0)) .done))
abbrev g_q44_r3:GR:=(OP 0 34 (.build [(.int .i64 0),(.int .i64 0),(.int .i64 0),(.int .u64 0),(.int .i64 0)] [(0,(1,(K (-1)))),(1,(1,(K 2))),(2,(1,(K 0))),(3,(1,(.const (.int .u64 0)))),(4,(1,(K 1)))]) (OP 1 6 (.alloc 63 [(.int .i64 0),(.int .i64 0),(.int .i64 0),(.int .u64 0),(.int .i64 0)]) (OS 2 (.store 5 (.tmp 6) (.tmp 34)) .done)))
abbrev g_q44_r4:GR:=(O1 0 35 1 .done)
abbrev g_q44_r5:GR:=(O3 0 36 4 6 (OS 1 (.store 1 (.tmp 36) (K 11)) .done))
abbrev g_q44_r6:GR:=(OP 0 7 (.mv (K 0)) .done)
abbrev g_q44_r7:GR:=(O1 0 37 7 (O3 1 38 0 2 (O2 2 39 38 (O5 3 40 .lss 37 39 .done))))
abbrev g_q44_r8:GR:=(O1 0 43 7 (O3 1 44 2 6 (OS 2 (.store 1 (.tmp 44) (.tmp 43)) .done)))
abbrev g_q44_r9:GR:=(O3 0 45 1 2 (O6 1 46 45 (O1 2 47 7 (O4 3 48 5 46 47 (OW 4 49 (.load (some 5) (.tmp 48)) (OW 5 50 (.load (some 5) (.tmp 6)) (OP 6 51 (.eqStruct true [0,1,2,3,4] (.tmp 49) (.tmp 50)) .done)))))))
abbrev g_q44_r10:GR:=(O1 0 52 7 (OP 1 4 (.mv (K 2)) (O1 2 5 52 .done)))
abbrev g_q44_r11:GR:=(O1 0 41 7 (OP 1 42 (.bin .add (.tmp 41) (K 1)) (O1 2 7 42 .done)))
abbrev g_q44_l12:GC:=(.seq (.seq (.reg g_q44_r7 [1,2,6,7,40]) (.cond (.tmp 40) .skip (.exit 0))) (.seq (.block 1 (.seq (.reg g_q44_r8 [1,2,6,7]) (.seq (.reg g_q44_r9 [1,2,6,7,51]) (.cond (.tmp 51) (.seq (.reg g_q44_r10 [4,5]) .ret) .skip)))) (.reg g_q44_r11 [1,2,6,7])))
abbrev g_q44_r13:GR:=(O3 0 53 0 2 (O2 1 54 53 (O1 2 8 54 .done)))
abbrev g_q44_r14:GR:=(O1 0 55 8 (O3 1 56 1 2 (O2 2 57 56 (OP 3 58 (.len (.tmp 57)) (O5 4 59 .lss 55 58 .done)))))
abbrev g_q44_r15:GR:=(OW 0 62 (.load (some 8) (.tmp 2)) (O3 1 63 1 2 (O6 2 64 63 (O1 3 65 8 (O4 4 66 5 64 65 (OW 5 67 (.load (some 5) (.tmp 66)) (O1 6 68 1 (.op (GI.mk 7 (some 69) none (.call 82 [(.tmp 62),(.tmp 67),(.tmp 68)]) [2] false) (OP 8 70 (.not (.tmp 69)) .done)))))))))
abbrev g_q44_r16:GR:=(O1 0 71 8 (OP 1 4 (.mv (K 3)) (O1 2 5 71 .done)))
abbrev g_q44_r17:GR:=(O1 0 60 8 (OP 1 61 (.bin .add (.tmp 60) (K 1)) (O1 2 8 61 .done)))
abbrev g_q44_l18:GC:=(.seq (.seq (.reg g_q44_r14 [1,2,8,59]) (.cond (.tmp 59) .skip (.exit 2))) (.seq (.block 3 (.seq (.reg g_q44_r15 [1,2,8,70]) (.cond (.tmp 70) (.seq (.reg g_q44_r16 [4,5]) .ret) .skip))) (.reg g_q44_r17 [1,2,8])))
abbrev g_q44_r19:GR:=(OP 0 72 (.load (some 8) (.tmp 2)) (OP 1 73 (.call 83 [(.tmp 72)]) (O1 2 9 73 .done)))
abbrev g_q44_r20:GR:=(O1 0 74 9 (OP 1 75 (.bin .geq (.tmp 74) (K 0)) .done))
abbrev g_q44_r21:GR:=(O1 0 76 9 (OP 1 4 (.mv (K 4)) (O1 2 5 76 .done)))
abbrev g_q44_r22:GR:=(OP 0 77 (.load (some 8) (.tmp 2)) (OP 1 78 (.call 84 [(.tmp 77)]) (O1 2 9 78 .done)))
abbrev g_q44_r23:GR:=(O1 0 79 9 (OP 1 80 (.bin .geq (.tmp 79) (K 0)) .done))
abbrev g_q44_r24:GR:=(O1 0 81 9 (OP 1 4 (.mv (K 5)) (O1 2 5 81 .done)))
abbrev g_q44_r25:GR:=(OP 0 82 (.load (some 8) (.tmp 2)) (OP 1 83 (.call 85 [(.tmp 82)]) (O1 2 9 83 .done)))
abbrev g_q44_r26:GR:=(O1 0 84 9 (OP 1 85 (.bin .geq (.tmp 84) (K 0)) .done))
abbrev g_q44_r27:GR:=(O1 0 86 9 (OP 1 4 (.mv (K 6)) (O1 2 5 86 .done)))
abbrev g_q44_r28:GR:=(O3 0 87 5 2 (O2 1 88 87 (O3 2 89 6 2 (O2 3 90 89 (O3 4 91 7 2 (O2 5 92 91 (OP 6 93 (.buildSlice 23 3 [(.slice none 0 0),(.slice none 0 0),(.slice none 0 0)] [(0,(1,(.tmp 88))),(1,(1,(.tmp 90))),(2,(1,(.tmp 92)))]) (O1 7 10 93 .done))))))))
abbrev g_q44_r29:GR:=(OP 0 11 (.mv (K 0)) .done)
abbrev g_q44_r30:GR:=(O1 0 94 11 (OP 1 95 (.bin .lss (.tmp 94) (K 3)) .done))
abbrev g_q44_r31:GR:=(OW 0 98 (.load (some 8) (.tmp 2)) (O1 1 99 10 (O1 2 100 11 (O4 3 101 1 99 100 (O6 4 102 101 (O1 5 103 11 (OP 6 104 (.bin .add (K 7) (.tmp 103)) (OP 7 105 (.call 86 [(.tmp 98),(.tmp 102),(.tmp 104)]) (O1 8 9 105 .done)))))))))
abbrev g_q44_r32:GR:=(O1 0 106 1 (OP 1 107 (.not (.tmp 106)) (O1 2 108 107 (OG 3 109 108 true (.mv (.tmp 10)) (OG 4 110 108 true (.mv (.tmp 11)) (OG 5 111 108 true (.indexAddr 1 (.tmp 109) (.tmp 110)) (OG 6 112 108 true (.load none (.tmp 111)) (OG 7 113 108 true (.len (.tmp 112)) (OG 8 114 108 true (.bin .gtr (.tmp 113) (K 0)) (OP 9 115 (.pick (.tmp 108) (.tmp 114) (.const (.bool false))) .done))))))))))
abbrev g_q44_r33:GR:=(OP 0 9 (.mv (K 0)) .done)
abbrev g_q44_r34:GR:=(O1 0 116 9 (OP 1 117 (.bin .geq (.tmp 116) (K 0)) .done))
abbrev g_q44_r35:GR:=(O1 0 118 11 (OP 1 119 (.bin .add (K 7) (.tmp 118)) (O1 2 120 9 (O1 3 4 119 (O1 4 5 120 .done)))))
abbrev g_q44_r36:GR:=(O1 0 96 11 (OP 1 97 (.bin .add (.tmp 96) (K 1)) (O1 2 11 97 .done)))
abbrev g_q44_l37:GC:=(.seq (.seq (.reg g_q44_r30 [1,2,10,11,95]) (.cond (.tmp 95) .skip (.exit 4))) (.seq (.block 5 (.seq (.reg g_q44_r31 [1,2,9,10,11]) (.seq (.seq (.reg g_q44_r32 [1,2,9,10,11,115]) (.cond (.tmp 115) (.reg g_q44_r33 [1,2,9,10,11]) .skip)) (.seq (.reg g_q44_r34 [1,2,9,10,11,117]) (.cond (.tmp 117) (.seq (.reg g_q44_r35 [4,5]) .ret) .skip))))) (.reg g_q44_r36 [1,2,10,11])))
abbrev g_q44_r38:GR:=(OP 0 4 (.mv (K 0)) (OP 1 5 (.mv (K 0)) .done))
abbrev g_q44:GC:=(.seq (.reg g_q44_r0 [1,2]) (.seq (.seq (.reg g_q44_r1 [1,2,33]) (.cond (.tmp 33) (.seq (.reg g_q44_r2 [4,5]) .ret) .skip)) (.seq (.reg g_q44_r3 [1,2,6]) (.seq (.seq (.reg g_q44_r4 [1,2,6,35]) (.cond (.tmp 35) (.reg g_q44_r5 [1,2,6]) .skip)) (.seq (.seq (.reg g_q44_r6 [1,2,6,7]) (.block 0 (.loop g_q44_l12))) (.seq (.seq (.reg g_q44_r13 [1,2,8]) (.block 2 (.loop g_q44_l18))) (.seq (.reg g_q44_r19 [1,2,9]) (.seq (.seq (.reg g_q44_r20 [1,2,9,75]) (.cond (.tmp 75) (.seq (.reg g_q44_r21 [4,5]) .ret) .skip)) (.seq (.reg g_q44_r22 [1,2,9]) (.seq (.seq (.reg g_q44_r23 [1,2,9,80]) (.cond (.tmp 80) (.seq (.reg g_q44_r24 [4,5]) .ret) .skip)) (.seq (.reg g_q44_r25 [1,2,9]) (.seq (.seq (.reg g_q44_r26 [1,2,9,85]) (.cond (.tmp 85) (.seq (.reg g_q44_r27 [4,5]) .ret) .skip)) (.seq (.reg g_q44_r28 [1,2,10]) (.seq (.seq (.reg g_q44_r29 [1,2,10,11]) (.block 4 (.loop g_q44_l37))) (.seq (.reg g_q44_r38 [4,5]) .ret)))))))))))))))
abbrev rs_q44:List RV:=[(.tmp 4),(.tmp 5)]
theorem gc_q44:compileF Tryz.prog Tryz.f47 T_q44=some (g_q44,rs_q44):=by kernel_rfl
theorem con_q44 (hv:vc Tryz.prog y g_q44 (retQ rs_q44 R) [(0,a0),(1,a1)] h):ConX y Tryz.prog 47 #[a0,a1] h R:=con_of Tryz.func47 gc_q44 rfl (fun h=>absurd h (by decide)) hv
def T_q37:List (Nat×List Nat):=[(0,[1,2]),(1,[2,3]),(2,[2,3,4]),(3,[2,3,4,12]),(4,[2,3,4]),(5,[2,3,4,5]),(6,[2,3,4,5,18]),(7,[2,3,4,5]),(8,[2,3,4,5,6]),(9,[2,3,4,5,6,34]),(10,[2,3,4,5,6]),(11,[2,3,4,5,6]),(12,[2])]
abbrev g_q37_r0:GR:=(OP 0 1 (.box 54 (.tmp 0)) (OP 1 2 (.alloc 54 [(.int .i64 0),(.slice none 0 0)]) .done))
abbrev g_q37_r1:GR:=(OP 0 7 (.load (some 2) (.tmp 1)) (OP 1 8 (.call 57 [(.tmp 7),(K 0)]) (OP 2 3 (.alloc 54 [(.int .i64 0),(.slice none 0 0)]) (OS 3 (.store 2 (.tmp 3) (.tmp 8)) .done))))
abbrev g_q37_r2:GR:=(OP 0 4 (.mv (K 0)) .done)
abbrev g_q37_r3:GR:=(O1 0 9 4 (O3 1 10 0 3 (O2 2 11 10 (O5 3 12 .lss 9 11 .done))))
abbrev g_q37_r4:GR:=(OP 0 5 (.mv (K 0)) .done)
abbrev g_q37_r5:GR:=(O1 0 15 5 (O3 1 16 0 3 (O2 2 17 16 (O5 3 18 .lss 15 17 .done))))
abbrev g_q37_r6:GR:=(OP 0 6 (.mv (K 0)) .done)
abbrev g_q37_r7:GR:=(O3 0 21 1 3 (O2 1 22 21 (O1 2 23 5 (O4 3 24 1 22 23 (O2 4 25 24 (O1 5 26 4 (O4 6 27 1 25 26 (O2 7 28 27 (O1 8 29 28 (OG 9 30 29 true (.mv (.tmp 6)) (OG 10 31 29 true (.fieldAddr 0 (.tmp 3)) (OG 11 32 29 true (.load none (.tmp 31)) (OG 12 33 29 true (.bin .lss (.tmp 30) (.tmp 32)) (OP 13 34 (.pick (.tmp 29) (.tmp 33) (.const (.bool false))) .done))))))))))))))
abbrev g_q37_r8:GR:=(O3 0 37 1 3 (O6 1 38 37 (O1 2 39 5 (O4 3 40 1 38 39 (O6 4 41 40 (O1 5 42 6 (O3 6 43 1 3 (O6 7 44 43 (O1 8 45 5 (O4 9 46 1 44 45 (O6 10 47 46 (O1 11 48 6 (O4 12 49 1 47 48 (O6 13 50 49 (O1 14 51 50 (OG 15 52 51 false (.fieldAddr 1 (.tmp 3)) (.op (GI.mk 16 (some 53) (some (51,false)) (.load none (.tmp 52)) [] true) (OG 17 54 51 false (.mv (.tmp 4)) (OG 18 55 51 false (.indexAddr 1 (.tmp 53) (.tmp 54)) (.op (GI.mk 19 (some 56) (some (51,false)) (.load none (.tmp 55)) [] true) (OG 20 57 51 false (.mv (.tmp 6)) (OG 21 58 51 false (.indexAddr 1 (.tmp 56) (.tmp 57)) (.op (GI.mk 22 (some 59) (some (51,false)) (.load none (.tmp 58)) [] true) (OP 23 60 (.pick (.tmp 51) (.const (.bool true)) (.tmp 59)) (O4 24 61 1 41 42 (OS 25 (.store 1 (.tmp 61) (.tmp 60)) .done))))))))))))))))))))))))))
abbrev g_q37_r9:GR:=(O1 0 35 6 (OP 1 36 (.bin .add (.tmp 35) (K 1)) (O1 2 6 36 .done)))
abbrev g_q37_l10:GC:=(.seq (.seq (.reg g_q37_r7 [2,3,4,5,6,34]) (.cond (.tmp 34) .skip (.exit 4))) (.seq (.block 5 (.reg g_q37_r8 [2,3,4,5,6])) (.reg g_q37_r9 [2,3,4,5,6])))
abbrev g_q37_r11:GR:=(O1 0 19 5 (OP 1 20 (.bin .add (.tmp 19) (K 1)) (O1 2 5 20 .done)))
abbrev g_q37_l12:GC:=(.seq (.seq (.reg g_q37_r5 [2,3,4,5,18]) (.cond (.tmp 18) .skip (.exit 2))) (.seq (.block 3 (.seq (.reg g_q37_r6 [2,3,4,5,6]) (.block 4 (.loop g_q37_l10)))) (.reg g_q37_r11 [2,3,4,5])))
abbrev g_q37_r13:GR:=(O1 0 13 4 (OP 1 14 (.bin .add (.tmp 13) (K 1)) (O1 2 4 14 .done)))
abbrev g_q37_l14:GC:=(.seq (.seq (.reg g_q37_r3 [2,3,4,12]) (.cond (.tmp 12) .skip (.exit 0))) (.seq (.block 1 (.seq (.reg g_q37_r4 [2,3,4,5]) (.block 2 (.loop g_q37_l12)))) (.reg g_q37_r13 [2,3,4])))
abbrev g_q37_r15:GR:=(OP 0 62 (.load (some 2) (.tmp 3)) (OS 1 (.store 2 (.tmp 2) (.tmp 62)) .done))
abbrev g_q37:GC:=(.seq (.reg g_q37_r0 [1,2]) (.seq (.reg g_q37_r1 [2,3]) (.seq (.seq (.reg g_q37_r2 [2,3,4]) (.block 0 (.loop g_q37_l14))) (.seq (.reg g_q37_r15 [2]) .ret))))
abbrev rs_q37:List RV:=[(.cell 2 (some 2))]
theorem gc_q37:compileF Tryz.prog Tryz.f48 T_q37=some (g_q37,rs_q37):=by kernel_rfl
theorem con_q37 (hv:vc Tryz.prog y g_q37 (retQ rs_q37 R) [(0,a0)] h):ConX y Tryz.prog 48 #[a0] h R:=con_of Tryz.func48 gc_q37 rfl (fun h=>absurd h (by decide)) hv
def T_q40:List (Nat×List Nat):=[(0,[1,2]),(1,[1,2,5]),(2,[1,2,5,6]),(3,[1,2,5,6,16]),(4,[1,2,5,6]),(5,[1,2,5,6]),(6,[1,2,5,7]),(7,[1,2,5,7,25]),(8,[1,2,5,7]),(9,[1,2,5,7,8]),(10,[1,2,5,7,8,31]),(11,[1,2,5,7,8]),(12,[1,2,5,7,8,9]),(13,[1,2,5,7,8,9,44]),(14,[1,2,5,7,8,9]),(15,[1,2,5,7,8,9,76]),(16,[1,2,5,7,8,9]),(17,[4])]
abbrev g_q40_r0:GR:=(OP 0 2 (.box 54 (.tmp 0)) (OP 1 4 (.mv (.const (.slice none 0 0))) .done))
abbrev g_q40_r1:GR:=(O3 0 10 0 2 (O2 1 11 10 (OP 2 12 (.makeSlice 3 1 8 [(.int .i64 0)] (.tmp 11) (.tmp 11)) (O1 3 5 12 .done))))
abbrev g_q40_r2:GR:=(OP 0 6 (.mv (K 0)) .done)
abbrev g_q40_r3:GR:=(O1 0 13 6 (O3 1 14 0 2 (O2 2 15 14 (O5 3 16 .lss 13 15 .done))))
abbrev g_q40_r4:GR:=(O1 0 19 5 (O1 1 20 6 (O4 2 21 1 19 20 (OS 3 (.store 1 (.tmp 21) (K (-1))) .done))))
abbrev g_q40_r5:GR:=(O1 0 17 6 (OP 1 18 (.bin .add (.tmp 17) (K 1)) (O1 2 6 18 .done)))
abbrev g_q40_l6:GC:=(.seq (.seq (.reg g_q40_r3 [1,2,5,6,16]) (.cond (.tmp 16) .skip (.exit 0))) (.seq (.block 1 (.reg g_q40_r4 [1,2,5,6])) (.reg g_q40_r5 [1,2,5,6])))
abbrev g_q40_r7:GR:=(OP 0 7 (.mv (K 1)) .done)
abbrev g_q40_r8:GR:=(O1 0 22 7 (O3 1 23 0 2 (O2 2 24 23 (O5 3 25 .leq 22 24 .done))))
abbrev g_q40_r9:GR:=(OP 0 8 (.mv (K 0)) .done)
abbrev g_q40_r10:GR:=(O1 0 28 8 (O3 1 29 0 2 (O2 2 30 29 (O5 3 31 .lss 28 30 .done))))
abbrev g_q40_r11:GR:=(OP 0 9 (.mv (K 0)) .done)
abbrev g_q40_r12:GR:=(O1 0 34 5 (O1 1 35 8 (O4 2 36 1 34 35 (O2 3 37 36 (OP 4 38 (.bin .lss (.tmp 37) (K 0)) (O1 5 39 38 (OG 6 40 39 true (.mv (.tmp 9)) (OG 7 41 39 true (.fieldAddr 0 (.tmp 2)) (OG 8 42 39 true (.load none (.tmp 41)) (OG 9 43 39 true (.bin .lss (.tmp 40) (.tmp 42)) (OP 10 44 (.pick (.tmp 39) (.tmp 43) (.const (.bool false))) .done)))))))))))
abbrev g_q40_r13:GR:=(O3 0 47 1 2 (O2 1 48 47 (O1 2 49 8 (O4 3 50 1 48 49 (O2 4 51 50 (O1 5 52 9 (O4 6 53 1 51 52 (O2 7 54 53 (O1 8 55 54 (OG 9 56 55 true (.mv (.tmp 7)) (OG 10 57 55 true (.bin .eql (.tmp 56) (K 1)) (OG 11 58 55 true (.mv (.tmp 57)) (OG 12 59 58 true (.mv (.tmp 9)) (OG 13 60 58 true (.mv (.tmp 1)) (OG 14 61 58 true (.bin .eql (.tmp 59) (.tmp 60)) (OG 15 62 55 true (.pick (.tmp 58) (.tmp 61) (.const (.bool false))) (OG 16 63 55 true (.mv (.tmp 62)) (OG 17 64 63 false (.mv (.tmp 7)) (OG 18 65 63 false (.bin .gtr (.tmp 64) (K 1)) (OG 19 66 63 false (.mv (.tmp 65)) (OG 20 67 66 true (.mv (.tmp 5)) (OG 21 68 66 true (.mv (.tmp 9)) (OG 22 69 66 true (.indexAddr 1 (.tmp 67) (.tmp 68)) (OG 23 70 66 true (.load none (.tmp 69)) (OG 24 71 66 true (.mv (.tmp 7)) (OG 25 72 66 true (.bin .sub (.tmp 71) (K 1)) (OG 26 73 66 true (.bin .eql (.tmp 70) (.tmp 72)) (OG 27 74 63 false (.pick (.tmp 66) (.tmp 73) (.const (.bool false))) (OG 28 75 55 true (.pick (.tmp 63) (.const (.bool true)) (.tmp 74)) (OP 29 76 (.pick (.tmp 55) (.tmp 75) (.const (.bool false))) .done))))))))))))))))))))))))))))))
abbrev g_q40_r14:GR:=(O1 0 77 5 (O1 1 78 8 (O1 2 79 7 (O4 3 80 1 77 78 (OS 4 (.store 1 (.tmp 80) (.tmp 79)) .done)))))
abbrev g_q40_r15:GR:=(O1 0 45 9 (OP 1 46 (.bin .add (.tmp 45) (K 1)) (O1 2 9 46 .done)))
abbrev g_q40_l16:GC:=(.seq (.seq (.reg g_q40_r12 [1,2,5,7,8,9,44]) (.cond (.tmp 44) .skip (.exit 6))) (.seq (.block 7 (.seq (.reg g_q40_r13 [1,2,5,7,8,9,76]) (.cond (.tmp 76) (.reg g_q40_r14 [1,2,5,7,8,9]) .skip))) (.reg g_q40_r15 [1,2,5,7,8,9])))
abbrev g_q40_r17:GR:=(O1 0 32 8 (OP 1 33 (.bin .add (.tmp 32) (K 1)) (O1 2 8 33 .done)))
abbrev g_q40_l18:GC:=(.seq (.seq (.reg g_q40_r10 [1,2,5,7,8,31]) (.cond (.tmp 31) .skip (.exit 4))) (.seq (.block 5 (.seq (.reg g_q40_r11 [1,2,5,7,8,9]) (.block 6 (.loop g_q40_l16)))) (.reg g_q40_r17 [1,2,5,7,8])))
abbrev g_q40_r19:GR:=(O1 0 26 7 (OP 1 27 (.bin .add (.tmp 26) (K 1)) (O1 2 7 27 .done)))
abbrev g_q40_l20:GC:=(.seq (.seq (.reg g_q40_r8 [1,2,5,7,25]) (.cond (.tmp 25) .skip (.exit 2))) (.seq (.block 3 (.seq (.reg g_q40_r9 [1,2,5,7,8]) (.block 4 (.loop g_q40_l18)))) (.reg g_q40_r19 [1,2,5,7])))
abbrev g_q40_r21:GR:=(O1 0 81 5 (O1 1 4 81 .done))
abbrev g_q40:GC:=(.seq (.reg g_q40_r0 [1,2]) (.seq (.reg g_q40_r1 [1,2,5]) (.seq (.seq (.reg g_q40_r2 [1,2,5,6]) (.block 0 (.loop g_q40_l6))) (.seq (.seq (.reg g_q40_r7 [1,2,5,7]) (.block 2 (.loop g_q40_l20))) (.seq (.reg g_q40_r21 [4]) .ret)))))
abbrev rs_q40:List RV:=[(.tmp 4)]
theorem gc_q40:compileF Tryz.prog Tryz.f49 T_q40=some (g_q40,rs_q40):=by kernel_rfl
theorem con_q40 (hv:vc Tryz.prog y g_q40 (retQ rs_q40 R) [(0,a0),(1,a1)] h):ConX y Tryz.prog 49 #[a0,a1] h R:=con_of Tryz.func49 gc_q40 rfl (fun h=>absurd h (by decide)) hv
def T_q30:List (Nat×List Nat):=[(0,[2,3,4]),(1,[2,3,4,5]),(2,[4,5,6]),(3,[4,5,6,7]),(4,[4,5,6,7,8]),(5,[4,5,6,7,8,25]),(6,[4,5,6,7,8]),(7,[4,5,6,7,8,9]),(8,[4,5,6,7,8,9,31]),(9,[4,5,6,7,8,9]),(10,[4,5,6,7,8,9,10]),(11,[4,5,6,7,8,9,10,47]),(12,[4,5,6,7,8,9,10]),(13,[4,5,6,7,8,9,10]),(14,[4])]
abbrev g_q30_r0:GR:=(OP 0 2 (.box 54 (.tmp 0)) (OP 1 3 (.box 54 (.tmp 1)) (OP 2 4 (.alloc 54 [(.int .i64 0),(.slice none 0 0)]) .done)))
abbrev g_q30_r1:GR:=(OP 0 11 (.load (some 2) (.tmp 2)) (O3 1 12 0 3 (O2 2 13 12 (OP 3 14 (.call 57 [(.tmp 11),(.tmp 13)]) (OP 4 5 (.alloc 54 [(.int .i64 0),(.slice none 0 0)]) (OS 5 (.store 2 (.tmp 5) (.tmp 14)) .done))))))
abbrev g_q30_r2:GR:=(OP 0 15 (.load (some 2) (.tmp 3)) (O3 1 16 0 2 (O2 2 17 16 (OP 3 18 (.call 57 [(.tmp 15),(.tmp 17)]) (OP 4 6 (.alloc 54 [(.int .i64 0),(.slice none 0 0)]) (OS 5 (.store 2 (.tmp 6) (.tmp 18)) .done))))))
abbrev g_q30_r3:GR:=(O3 0 19 0 5 (O2 1 20 19 (OP 2 21 (.call 59 [(.tmp 20)]) (OP 3 7 (.alloc 54 [(.int .i64 0),(.slice none 0 0)]) (OS 4 (.store 2 (.tmp 7) (.tmp 21)) .done)))))
abbrev g_q30_r4:GR:=(OP 0 8 (.mv (K 0)) .done)
abbrev g_q30_r5:GR:=(O1 0 22 8 (O3 1 23 0 7 (O2 2 24 23 (O5 3 25 .lss 22 24 .done))))
abbrev g_q30_r6:GR:=(OP 0 9 (.mv (K 0)) .done)
abbrev g_q30_r7:GR:=(O1 0 28 9 (O3 1 29 0 7 (O2 2 30 29 (O5 3 31 .lss 28 30 .done))))
abbrev g_q30_r8:GR:=(OP 0 10 (.mv (K 0)) .done)
abbrev g_q30_r9:GR:=(O3 0 34 1 5 (O2 1 35 34 (O1 2 36 8 (O4 3 37 1 35 36 (O2 4 38 37 (O1 5 39 9 (O4 6 40 1 38 39 (O2 7 41 40 (O1 8 42 41 (OG 9 43 42 true (.mv (.tmp 10)) (OG 10 44 42 true (.fieldAddr 0 (.tmp 7)) (OG 11 45 42 true (.load none (.tmp 44)) (OG 12 46 42 true (.bin .lss (.tmp 43) (.tmp 45)) (OP 13 47 (.pick (.tmp 42) (.tmp 46) (.const (.bool false))) .done))))))))))))))
abbrev g_q30_r10:GR:=(O3 0 50 1 7 (O6 1 51 50 (O1 2 52 8 (O4 3 53 1 51 52 (O6 4 54 53 (O1 5 55 10 (O3 6 56 1 7 (O6 7 57 56 (O1 8 58 8 (O4 9 59 1 57 58 (O6 10 60 59 (O1 11 61 10 (O4 12 62 1 60 61 (O6 13 63 62 (O1 14 64 63 (OG 15 65 64 false (.fieldAddr 1 (.tmp 6)) (.op (GI.mk 16 (some 66) (some (64,false)) (.load none (.tmp 65)) [] true) (OG 17 67 64 false (.mv (.tmp 9)) (OG 18 68 64 false (.indexAddr 1 (.tmp 66) (.tmp 67)) (.op (GI.mk 19 (some 69) (some (64,false)) (.load none (.tmp 68)) [] true) (OG 20 70 64 false (.mv (.tmp 10)) (OG 21 71 64 false (.indexAddr 1 (.tmp 69) (.tmp 70)) (.op (GI.mk 22 (some 72) (some (64,false)) (.load none (.tmp 71)) [] true) (OP 23 73 (.pick (.tmp 64) (.const (.bool true)) (.tmp 72)) (O4 24 74 1 54 55 (OS 25 (.store 1 (.tmp 74) (.tmp 73)) .done))))))))))))))))))))))))))
abbrev g_q30_r11:GR:=(O1 0 48 10 (OP 1 49 (.bin .add (.tmp 48) (K 1)) (O1 2 10 49 .done)))
abbrev g_q30_l12:GC:=(.seq (.seq (.reg g_q30_r9 [4,5,6,7,8,9,10,47]) (.cond (.tmp 47) .skip (.exit 4))) (.seq (.block 5 (.reg g_q30_r10 [4,5,6,7,8,9,10])) (.reg g_q30_r11 [4,5,6,7,8,9,10])))
abbrev g_q30_r13:GR:=(O1 0 32 9 (OP 1 33 (.bin .add (.tmp 32) (K 1)) (O1 2 9 33 .done)))
abbrev g_q30_l14:GC:=(.seq (.seq (.reg g_q30_r7 [4,5,6,7,8,9,31]) (.cond (.tmp 31) .skip (.exit 2))) (.seq (.block 3 (.seq (.reg g_q30_r8 [4,5,6,7,8,9,10]) (.block 4 (.loop g_q30_l12)))) (.reg g_q30_r13 [4,5,6,7,8,9])))
abbrev g_q30_r15:GR:=(O1 0 26 8 (OP 1 27 (.bin .add (.tmp 26) (K 1)) (O1 2 8 27 .done)))
abbrev g_q30_l16:GC:=(.seq (.seq (.reg g_q30_r5 [4,5,6,7,8,25]) (.cond (.tmp 25) .skip (.exit 0))) (.seq (.block 1 (.seq (.reg g_q30_r6 [4,5,6,7,8,9]) (.block 2 (.loop g_q30_l14)))) (.reg g_q30_r15 [4,5,6,7,8])))
abbrev g_q30_r17:GR:=(OP 0 75 (.load (some 2) (.tmp 7)) (OS 1 (.store 2 (.tmp 4) (.tmp 75)) .done))
abbrev g_q30:GC:=(.seq (.reg g_q30_r0 [2,3,4]) (.seq (.reg g_q30_r1 [2,3,4,5]) (.seq (.reg g_q30_r2 [4,5,6]) (.seq (.reg g_q30_r3 [4,5,6,7]) (.seq (.seq (.reg g_q30_r4 [4,5,6,7,8]) (.block 0 (.loop g_q30_l16))) (.seq (.reg g_q30_r17 [4]) .ret))))))
abbrev rs_q30:List RV:=[(.cell 4 (some 2))]
theorem gc_q30:compileF Tryz.prog Tryz.f50 T_q30=some (g_q30,rs_q30):=by kernel_rfl
theorem con_q30 (hv:vc Tryz.prog y g_q30 (retQ rs_q30 R) [(0,a0),(1,a1)] h):ConX y Tryz.prog 50 #[a0,a1] h R:=con_of Tryz.func50 gc_q30 rfl (fun h=>absurd h (by decide)) hv
def T_q82:List (Nat×List Nat):=[(0,[0,4,5,6]),(1,[4,5,6,7]),(2,[4,5,6,7,20,21,22]),(3,[4,5,6,7,20,21,22,23]),(4,[4,5,6,7,8,9,20,21,22]),(5,[4,5,6,7,8,20,21,22,30]),(6,[4,5,7,8,10]),(7,[7,8,10,37]),(8,[]),(9,[4,5,6,7,20,21,22]),(10,[6])]
abbrev g_q82_r0:GR:=(OP 0 4 (.box 38 (.tmp 1)) (OP 1 5 (.box 4 (.tmp 2)) (OP 2 6 (.mv (.const (.pointer none))) .done)))
abbrev g_q82_r1:GR:=(O1 0 11 0 (O2 1 12 4 (OP 2 13 (.nilCheck (.tmp 12)) (O3 3 14 0 13 (O2 4 15 14 (OP 5 16 (.call 87 [(.tmp 11),(.tmp 15)]) (OP 6 7 (.alloc 38 [(.pointer none)]) (OS 7 (.store 1 (.tmp 7) (.tmp 16)) .done))))))))
abbrev g_q82_r2:GR:=(O2 0 17 7 (OP 1 18 (.nilCheck (.tmp 17)) (O3 2 19 1 18 (O2 3 20 19 (OP 4 21 (.len (.tmp 20)) (OP 5 22 (.mv (K 0)) .done))))))
abbrev g_q82_r3:GR:=(O5 0 23 .lss 22 21 .done)
abbrev g_q82_r4:GR:=(O1 0 24 22 (O4 1 25 1 20 22 (O2 2 26 25 (OP 3 8 (.alloc 3 [(.int .i64 0)]) (OS 4 (.store 1 (.tmp 8) (.tmp 24)) (O1 5 9 26 .done))))))
abbrev g_q82_r5:GR:=(O1 0 27 9 (OP 1 28 (.call 77 [(.tmp 27)]) (OP 2 29 (.call 89 [(.tmp 28)]) (OP 3 30 (.call 88 [(.tmp 29)]) .done))))
abbrev g_q82_r6:GR:=(O1 0 10 31 .done)
abbrev g_q82_r7:GR:=(O6 0 32 4 (O6 1 33 8 (O1 2 34 10 (O6 4 36 5 (.op (GI.mk 3 (some 35) none (.call 46 [(.tmp 32),(.tmp 33),(.tmp 34)]) [4] false) (OP 5 37 (.eqBool true (.tmp 35) (.tmp 36)) .done))))))
abbrev g_q82_r8:GR:=(O2 0 38 7 (O2 1 39 8 (O1 2 40 10 (OP 3 41 (.call 41 [(.tmp 38),(.tmp 39),(.tmp 40),(.const (.bool false))]) .done))))
abbrev g_q82_b9:GC:=(.block 3 (.seq (.reg g_q82_r7 [7,8,10,37]) (.cond (.tmp 37) (.reg g_q82_r8 []) .skip)))
abbrev g_q82_r10:GR:=(OP 0 42 (.bin .add (.tmp 22) (K 1)) (O1 1 22 42 .done))
abbrev g_q82_l11:GC:=(.seq (.reg g_q82_r3 [4,5,6,7,20,21,22,23]) (.seq (.cond (.tmp 23) .skip (.exit 0)) (.seq (.block 1 (.seq (.reg g_q82_r4 [4,5,6,7,8,9,20,21,22]) (.seq (.reg g_q82_r5 [4,5,6,7,8,20,21,22,30]) (.block 2 (.rng (.tmp 30) [31] (.reg g_q82_r6 [4,5,7,8,10]) g_q82_b9))))) (.reg g_q82_r10 [4,5,6,7,20,21,22]))))
abbrev g_q82_r12:GR:=(O2 0 43 7 (O1 1 6 43 .done))
abbrev g_q82:GC:=(.seq (.reg g_q82_r0 [0,4,5,6]) (.seq (.reg g_q82_r1 [4,5,6,7]) (.seq (.seq (.reg g_q82_r2 [4,5,6,7,20,21,22]) (.block 0 (.loop g_q82_l11))) (.seq (.reg g_q82_r12 [6]) .ret))))
abbrev rs_q82:List RV:=[(.tmp 6)]
theorem gc_q82:compileF Tryz.prog Tryz.f51 T_q82=some (g_q82,rs_q82):=by kernel_rfl
theorem con_q82 (hR:∀ v h1 h2,Ext h.size h1 h2→R v h1→R v h2) (hv:vc Tryz.prog y g_q82 (retQ rs_q82 R) [(0,a0),(1,a1),(2,a2)] h):ConX y Tryz.prog 51 #[a0,a1,a2] h R:=con_of Tryz.func51 gc_q82 rfl (fun _=>hR) hv
def T_q4:List (Nat×List Nat):=[(0,[1,2]),(1,[1,2,5]),(2,[1,5,13,14,15]),(3,[1,5,13,14,15,16]),(4,[1,5,6,7,13,14,15]),(5,[1,5,13,14,15]),(6,[1,5,13,14,15]),(7,[4])]
abbrev g_q4_r0:GR:=(OP 0 2 (.box 26 (.tmp 0)) (OP 1 4 (.mv (.const (.slice none 0 0))) .done))
abbrev g_q4_r1:GR:=(O3 0 8 1 2 (O2 1 9 8 (OP 2 10 (.len (.tmp 9)) (OP 3 11 (.makeSlice 4 1 1 [(.bool false)] (.tmp 10) (.tmp 10)) (O1 4 5 11 .done)))))
abbrev g_q4_r2:GR:=(O3 0 12 1 2 (O2 1 13 12 (OP 2 14 (.len (.tmp 13)) (OP 3 15 (.mv (K 0)) .done))))
abbrev g_q4_r3:GR:=(O5 0 16 .lss 15 14 .done)
abbrev g_q4_r4:GR:=(O1 0 17 15 (O4 1 18 5 13 15 (OP 2 19 (.load (some 5) (.tmp 18)) (OP 3 7 (.alloc 63 [(.int .i64 0),(.int .i64 0),(.int .i64 0),(.int .u64 0),(.int .i64 0)]) (O1 4 6 17 (OS 5 (.store 5 (.tmp 7) (.tmp 19)) .done))))))
abbrev g_q4_r5:GR:=(O1 0 20 5 (O1 1 21 6 (O1 2 22 1 (O3 3 23 4 7 (O2 4 24 23 (OP 5 25 (.call 90 [(.tmp 22),(.tmp 24)]) (O4 6 26 1 20 21 (OS 7 (.store 1 (.tmp 26) (.tmp 25)) .done))))))))
abbrev g_q4_r6:GR:=(OP 0 27 (.bin .add (.tmp 15) (K 1)) (O1 1 15 27 .done))
abbrev g_q4_l7:GC:=(.seq (.reg g_q4_r3 [1,5,13,14,15,16]) (.seq (.cond (.tmp 16) .skip (.exit 0)) (.seq (.block 1 (.seq (.reg g_q4_r4 [1,5,6,7,13,14,15]) (.reg g_q4_r5 [1,5,13,14,15]))) (.reg g_q4_r6 [1,5,13,14,15]))))
abbrev g_q4_r8:GR:=(O1 0 28 5 (O1 1 4 28 .done))
abbrev g_q4:GC:=(.seq (.reg g_q4_r0 [1,2]) (.seq (.reg g_q4_r1 [1,2,5]) (.seq (.seq (.reg g_q4_r2 [1,5,13,14,15]) (.block 0 (.loop g_q4_l7))) (.seq (.reg g_q4_r8 [4]) .ret))))
abbrev rs_q4:List RV:=[(.tmp 4)]
theorem gc_q4:compileF Tryz.prog Tryz.f52 T_q4=some (g_q4,rs_q4):=by kernel_rfl
theorem con_q4 (hv:vc Tryz.prog y g_q4 (retQ rs_q4 R) [(0,a0),(1,a1)] h):ConX y Tryz.prog 52 #[a0,a1] h R:=con_of Tryz.func52 gc_q4 rfl (fun h=>absurd h (by decide)) hv
def T_q69:List (Nat×List Nat):=[(0,[0,1]),(1,[1,5]),(2,[5,10,11,12]),(3,[5,10,11,12,13]),(4,[5,6,7,10,11,12]),(5,[5,6,10,11,12,17]),(6,[5,10,11,12]),(7,[5,10,11,12]),(8,[4])]
abbrev g_q69_r0:GR:=(OP 0 4 (.mv (.const (.pointer none))) .done)
abbrev g_q69_r1:GR:=(O1 0 8 0 (OP 1 9 (.call 39 [(.tmp 8)]) (O1 2 5 9 .done)))
abbrev g_q69_r2:GR:=(O1 0 10 1 (OP 1 11 (.len (.tmp 10)) (OP 2 12 (.mv (K 0)) .done)))
abbrev g_q69_r3:GR:=(O5 0 13 .lss 12 11 .done)
abbrev g_q69_r4:GR:=(O1 0 14 12 (O4 1 15 1 10 12 (O2 2 16 15 (O1 3 6 14 (O1 4 7 16 .done)))))
abbrev g_q69_r5:GR:=(O1 0 17 7 .done)
abbrev g_q69_r6:GR:=(O1 0 18 5 (O1 1 19 6 (O1 2 20 6 (OP 3 21 (.call 41 [(.tmp 18),(.tmp 19),(.tmp 20),(.const (.bool true))]) .done))))
abbrev g_q69_r7:GR:=(OP 0 22 (.bin .add (.tmp 12) (K 1)) (O1 1 12 22 .done))
abbrev g_q69_l8:GC:=(.seq (.reg g_q69_r3 [5,10,11,12,13]) (.seq (.cond (.tmp 13) .skip (.exit 0)) (.seq (.block 1 (.seq (.reg g_q69_r4 [5,6,7,10,11,12]) (.seq (.reg g_q69_r5 [5,6,10,11,12,17]) (.cond (.tmp 17) (.reg g_q69_r6 [5,10,11,12]) .skip)))) (.reg g_q69_r7 [5,10,11,12]))))
abbrev g_q69_r9:GR:=(O1 0 23 5 (O1 1 4 23 .done))
abbrev g_q69:GC:=(.seq (.reg g_q69_r0 [0,1]) (.seq (.reg g_q69_r1 [1,5]) (.seq (.seq (.reg g_q69_r2 [5,10,11,12]) (.block 0 (.loop g_q69_l8))) (.seq (.reg g_q69_r9 [4]) .ret))))
abbrev rs_q69:List RV:=[(.tmp 4)]
theorem gc_q69:compileF Tryz.prog Tryz.f53 T_q69=some (g_q69,rs_q69):=by kernel_rfl
theorem con_q69 (hv:vc Tryz.prog y g_q69 (retQ rs_q69 R) [(0,a0),(1,a1)] h):ConX y Tryz.prog 53 #[a0,a1] h R:=con_of Tryz.func53 gc_q69 rfl (fun h=>absurd h (by decide)) hv
def T_q67:List (Nat×List Nat):=[(0,[0,1,5,6]),(1,[0,1,5,6,7]),(2,[1,5,6,7,19,20,21]),(3,[1,5,6,7,19,20,21,22]),(4,[1,5,6,7,8,9,19,20,21]),(5,[1,5,6,7,8,9,19,20,21,36]),(6,[1,5,6,7,8,19,20,21,38]),(7,[5,7,8,10]),(8,[7,8,10,49]),(9,[]),(10,[1,5,6,7,19,20,21]),(11,[6])]
abbrev g_q67_r0:GR:=(OP 0 5 (.box 39 (.tmp 2)) (OP 1 6 (.mv (.const (.pointer none))) .done))
abbrev g_q67_r1:GR:=(O1 0 11 0 (OP 1 12 (.nilCheck (.tmp 11)) (O3 2 13 0 12 (O2 3 14 13 (OP 4 15 (.call 39 [(.tmp 14)]) (OP 5 7 (.alloc 38 [(.pointer none)]) (OS 6 (.store 1 (.tmp 7) (.tmp 15)) .done)))))))
abbrev g_q67_r2:GR:=(O1 0 16 0 (OP 1 17 (.nilCheck (.tmp 16)) (O3 2 18 1 17 (O2 3 19 18 (OP 4 20 (.len (.tmp 19)) (OP 5 21 (.mv (K 0)) .done))))))
abbrev g_q67_r3:GR:=(O5 0 22 .lss 21 20 .done)
abbrev g_q67_r4:GR:=(O1 0 23 21 (O4 1 24 1 19 21 (O2 2 25 24 (OP 3 8 (.alloc 3 [(.int .i64 0)]) (OS 4 (.store 1 (.tmp 8) (.tmp 23)) (O1 5 9 25 .done))))))
abbrev g_q67_r5:GR:=(O2 0 26 8 (O1 1 27 1 (OP 2 28 (.len (.tmp 27)) (O5 3 29 .geq 26 28 (O1 4 30 29 (OG 5 31 30 false (.mv (.tmp 1)) (OG 6 32 30 false (.load none (.tmp 8)) (OG 7 33 30 false (.indexAddr 1 (.tmp 31) (.tmp 32)) (OG 8 34 30 false (.load none (.tmp 33)) (OG 9 35 30 false (.not (.tmp 34)) (OP 10 36 (.pick (.tmp 30) (.const (.bool true)) (.tmp 35)) .done)))))))))))
abbrev g_q67_r6:GR:=(O1 0 37 9 (OP 1 38 (.call 77 [(.tmp 37)]) .done))
abbrev g_q67_r7:GR:=(O1 0 10 39 .done)
abbrev g_q67_r8:GR:=(O1 0 40 10 (O2 1 41 5 (OP 2 42 (.len (.tmp 41)) (O5 3 43 .lss 40 42 (O1 4 44 43 (OG 5 45 44 true (.load none (.tmp 5)) (OG 6 46 44 true (.mv (.tmp 10)) (OG 7 47 44 true (.indexAddr 1 (.tmp 45) (.tmp 46)) (OG 8 48 44 true (.load none (.tmp 47)) (OP 9 49 (.pick (.tmp 44) (.tmp 48) (.const (.bool false))) .done))))))))))
abbrev g_q67_r9:GR:=(O6 0 50 7 (OP 1 51 (.nilCheck (.tmp 50)) (O3 2 52 1 51 (O6 3 53 52 (O6 4 54 8 (O4 5 55 1 53 54 (O6 6 56 55 (O1 7 57 10 (.op (GI.mk 8 (some 58) none (.call 79 [(.tmp 56),(.tmp 57)]) [0,3,4] false) .done)))))))))
abbrev g_q67_b10:GC:=(.block 3 (.seq (.reg g_q67_r8 [7,8,10,49]) (.cond (.tmp 49) (.reg g_q67_r9 []) .skip)))
abbrev g_q67_r11:GR:=(OP 0 59 (.bin .add (.tmp 21) (K 1)) (O1 1 21 59 .done))
abbrev g_q67_l12:GC:=(.seq (.reg g_q67_r3 [1,5,6,7,19,20,21,22]) (.seq (.cond (.tmp 22) .skip (.exit 0)) (.seq (.block 1 (.seq (.reg g_q67_r4 [1,5,6,7,8,9,19,20,21]) (.seq (.seq (.reg g_q67_r5 [1,5,6,7,8,9,19,20,21,36]) (.cond (.tmp 36) (.exit 1) .skip)) (.seq (.reg g_q67_r6 [1,5,6,7,8,19,20,21,38]) (.block 2 (.rng (.tmp 38) [39] (.reg g_q67_r7 [5,7,8,10]) g_q67_b10)))))) (.reg g_q67_r11 [1,5,6,7,19,20,21]))))
abbrev g_q67_r13:GR:=(O2 0 60 7 (O1 1 6 60 .done))
abbrev g_q67:GC:=(.seq (.reg g_q67_r0 [0,1,5,6]) (.seq (.reg g_q67_r1 [0,1,5,6,7]) (.seq (.seq (.reg g_q67_r2 [1,5,6,7,19,20,21]) (.block 0 (.loop g_q67_l12))) (.seq (.reg g_q67_r13 [6]) .ret))))
abbrev rs_q67:List RV:=[(.tmp 6)]
theorem gc_q67:compileF Tryz.prog Tryz.f54 T_q67=some (g_q67,rs_q67):=by kernel_rfl
theorem con_q67 (hR:∀ v h1 h2,Ext h.size h1 h2→R v h1→R v h2) (hv:vc Tryz.prog y g_q67 (retQ rs_q67 R) [(0,a0),(1,a1),(2,a2)] h):ConX y Tryz.prog 54 #[a0,a1,a2] h R:=con_of Tryz.func54 gc_q67 rfl (fun _=>hR) hv
def T_q105:List (Nat×List Nat):=[(0,[0]),(1,[0,3]),(2,[0,3,9,10,11]),(3,[0,3,9,10,11,12]),(4,[0,3,5,9,10,11]),(5,[0,3,9,10,11]),(6,[0,3,9,10,11,20]),(7,[0,3,9,10,11]),(8,[0,3,9,10,11]),(9,[0,6]),(10,[6,25,26,27]),(11,[6,25,26,27,28]),(12,[6,8,25,26,27]),(13,[6,25,26,27]),(14,[6,25,26,27]),(15,[2])]
abbrev g_q105_r0:GR:=(OP 0 2 (.mv (.const (.slice none 0 0))) .done)
abbrev g_q105_r1:GR:=(OP 0 3 (.mv (K 0)) .done)
abbrev g_q105_r2:GR:=(O1 0 9 0 (OP 1 10 (.len (.tmp 9)) (OP 2 11 (.mv (K 0)) .done)))
abbrev g_q105_r3:GR:=(O5 0 12 .lss 11 10 .done)
abbrev g_q105_r4:GR:=(O4 0 13 1 9 11 (O2 1 14 13 (O1 2 5 14 .done)))
abbrev g_q105_r5:GR:=(O1 0 15 3 (O1 1 16 5 (OP 2 17 (.len (.tmp 16)) (O5 3 18 .add 15 17 (O1 4 3 18 .done)))))
abbrev g_q105_r6:GR:=(O1 0 19 3 (OP 1 20 (.bin .lss (.tmp 19) (K 0)) .done))
abbrev g_q105_r7:GR:=(OP 0 21 .never (OS 1 .never .done))
abbrev g_q105_r8:GR:=(OP 0 22 (.bin .add (.tmp 11) (K 1)) (O1 1 11 22 .done))
abbrev g_q105_l9:GC:=(.seq (.reg g_q105_r3 [0,3,9,10,11,12]) (.seq (.cond (.tmp 12) .skip (.exit 0)) (.seq (.block 1 (.seq (.reg g_q105_r4 [0,3,5,9,10,11]) (.seq (.reg g_q105_r5 [0,3,9,10,11]) (.seq (.reg g_q105_r6 [0,3,9,10,11,20]) (.cond (.tmp 20) (.reg g_q105_r7 [0,3,9,10,11]) .skip))))) (.reg g_q105_r8 [0,3,9,10,11]))))
abbrev g_q105_r10:GR:=(O1 0 23 3 (OP 1 24 (.call 91 [(.const (.slice none 0 0)),(.tmp 23)]) (O1 2 6 24 .done)))
abbrev g_q105_r11:GR:=(O1 0 25 0 (OP 1 26 (.len (.tmp 25)) (OP 2 27 (.mv (K 0)) .done)))
abbrev g_q105_r12:GR:=(O5 0 28 .lss 27 26 .done)
abbrev g_q105_r13:GR:=(O4 0 29 1 25 27 (O2 1 30 29 (O1 2 8 30 .done)))
abbrev g_q105_r14:GR:=(O1 0 31 6 (O1 1 32 8 (OP 2 33 (.append 38 1 8 [(.pointer none)] (.tmp 31) (.tmp 32)) (O1 3 6 33 .done))))
abbrev g_q105_r15:GR:=(OP 0 34 (.bin .add (.tmp 27) (K 1)) (O1 1 27 34 .done))
abbrev g_q105_l16:GC:=(.seq (.reg g_q105_r12 [6,25,26,27,28]) (.seq (.cond (.tmp 28) .skip (.exit 2)) (.seq (.block 3 (.seq (.reg g_q105_r13 [6,8,25,26,27]) (.reg g_q105_r14 [6,25,26,27]))) (.reg g_q105_r15 [6,25,26,27]))))
abbrev g_q105_r17:GR:=(O1 0 35 6 (O1 1 2 35 .done))
abbrev g_q105:GC:=(.seq (.reg g_q105_r0 [0]) (.seq (.reg g_q105_r1 [0,3]) (.seq (.seq (.reg g_q105_r2 [0,3,9,10,11]) (.block 0 (.loop g_q105_l9))) (.seq (.reg g_q105_r10 [0,6]) (.seq (.seq (.reg g_q105_r11 [6,25,26,27]) (.block 2 (.loop g_q105_l16))) (.seq (.reg g_q105_r17 [2]) .ret))))))
abbrev rs_q105:List RV:=[(.tmp 2)]
theorem gc_q105:compileF Tryz.prog Tryz.f55 T_q105=some (g_q105,rs_q105):=by kernel_rfl
theorem con_q105 (hv:vc Tryz.prog y g_q105 (retQ rs_q105 R) [(0,a0)] h):ConX y Tryz.prog 55 #[a0] h R:=con_of Tryz.func55 gc_q105 rfl (fun h=>absurd h (by decide)) hv
def T_q38:List (Nat×List Nat):=[(0,[2,3,4]),(1,[3,4,5]),(2,[3,4,5,6]),(3,[3,4,5,6,15]),(4,[3,4,5,6]),(5,[3,4,5,6,7]),(6,[3,4,5,6,7,21]),(7,[3,4,5,6,7]),(8,[3,4,5,6,7]),(9,[4])]
abbrev g_q38_r0:GR:=(OP 0 2 (.box 54 (.tmp 0)) (OP 1 3 (.box 54 (.tmp 1)) (OP 2 4 (.alloc 54 [(.int .i64 0),(.slice none 0 0)]) .done)))
abbrev g_q38_r1:GR:=(OP 0 8 (.load (some 2) (.tmp 2)) (O3 1 9 0 3 (O2 2 10 9 (OP 3 11 (.call 57 [(.tmp 8),(.tmp 10)]) (OP 4 5 (.alloc 54 [(.int .i64 0),(.slice none 0 0)]) (OS 5 (.store 2 (.tmp 5) (.tmp 11)) .done))))))
abbrev g_q38_r2:GR:=(OP 0 6 (.mv (K 0)) .done)
abbrev g_q38_r3:GR:=(O1 0 12 6 (O3 1 13 0 3 (O2 2 14 13 (O5 3 15 .lss 12 14 .done))))
abbrev g_q38_r4:GR:=(OP 0 7 (.mv (K 0)) .done)
abbrev g_q38_r5:GR:=(O1 0 18 7 (O3 1 19 0 3 (O2 2 20 19 (O5 3 21 .lss 18 20 .done))))
abbrev g_q38_r6:GR:=(O3 0 24 1 5 (O6 1 25 24 (O1 2 26 6 (O4 3 27 1 25 26 (O6 4 28 27 (O1 5 29 7 (O3 6 30 1 5 (O6 7 31 30 (O1 8 32 6 (O4 9 33 1 31 32 (O6 10 34 33 (O1 11 35 7 (O4 12 36 1 34 35 (O6 13 37 36 (O1 14 38 37 (OG 15 39 38 false (.fieldAddr 1 (.tmp 3)) (.op (GI.mk 16 (some 40) (some (38,false)) (.load none (.tmp 39)) [] true) (OG 17 41 38 false (.mv (.tmp 6)) (OG 18 42 38 false (.indexAddr 1 (.tmp 40) (.tmp 41)) (.op (GI.mk 19 (some 43) (some (38,false)) (.load none (.tmp 42)) [] true) (OG 20 44 38 false (.mv (.tmp 7)) (OG 21 45 38 false (.indexAddr 1 (.tmp 43) (.tmp 44)) (.op (GI.mk 22 (some 46) (some (38,false)) (.load none (.tmp 45)) [] true) (OP 23 47 (.pick (.tmp 38) (.const (.bool true)) (.tmp 46)) (O4 24 48 1 28 29 (OS 25 (.store 1 (.tmp 48) (.tmp 47)) .done))))))))))))))))))))))))))
abbrev g_q38_r7:GR:=(O1 0 22 7 (OP 1 23 (.bin .add (.tmp 22) (K 1)) (O1 2 7 23 .done)))
abbrev g_q38_l8:GC:=(.seq (.seq (.reg g_q38_r5 [3,4,5,6,7,21]) (.cond (.tmp 21) .skip (.exit 2))) (.seq (.block 3 (.reg g_q38_r6 [3,4,5,6,7])) (.reg g_q38_r7 [3,4,5,6,7])))
abbrev g_q38_r9:GR:=(O1 0 16 6 (OP 1 17 (.bin .add (.tmp 16) (K 1)) (O1 2 6 17 .done)))
abbrev g_q38_l10:GC:=(.seq (.seq (.reg g_q38_r3 [3,4,5,6,15]) (.cond (.tmp 15) .skip (.exit 0))) (.seq (.block 1 (.seq (.reg g_q38_r4 [3,4,5,6,7]) (.block 2 (.loop g_q38_l8)))) (.reg g_q38_r9 [3,4,5,6])))
abbrev g_q38_r11:GR:=(OP 0 49 (.load (some 2) (.tmp 5)) (OS 1 (.store 2 (.tmp 4) (.tmp 49)) .done))
abbrev g_q38:GC:=(.seq (.reg g_q38_r0 [2,3,4]) (.seq (.reg g_q38_r1 [3,4,5]) (.seq (.seq (.reg g_q38_r2 [3,4,5,6]) (.block 0 (.loop g_q38_l10))) (.seq (.reg g_q38_r11 [4]) .ret))))
abbrev rs_q38:List RV:=[(.cell 4 (some 2))]
theorem gc_q38:compileF Tryz.prog Tryz.f56 T_q38=some (g_q38,rs_q38):=by kernel_rfl
theorem con_q38 (hv:vc Tryz.prog y g_q38 (retQ rs_q38 R) [(0,a0),(1,a1)] h):ConX y Tryz.prog 56 #[a0,a1] h R:=con_of Tryz.func56 gc_q38 rfl (fun h=>absurd h (by decide)) hv
def T_q39:List (Nat×List Nat):=[(0,[1,2,4]),(1,[1,2,4,11]),(2,[1,2,4]),(3,[2,4,5]),(4,[2,4,5,6]),(5,[2,4,5,6,19]),(6,[2,4,5,6]),(7,[2,4,5,6,7]),(8,[2,4,5,6,7,25]),(9,[2,4,5,6,7]),(10,[2,4,5,6,7]),(11,[4])]
abbrev g_q39_r0:GR:=(OP 0 2 (.box 54 (.tmp 0)) (OP 1 4 (.alloc 54 [(.int .i64 0),(.slice none 0 0)]) .done))
abbrev g_q39_r1:GR:=(O3 0 8 0 2 (O2 1 9 8 (O1 2 10 1 (O5 3 11 .gtr 9 10 .done))))
abbrev g_q39_r2:GR:=(O3 0 12 0 2 (O2 1 13 12 (O1 2 1 13 .done)))
abbrev g_q39_r3:GR:=(O1 0 14 1 (OP 1 15 (.call 59 [(.tmp 14)]) (OP 2 5 (.alloc 54 [(.int .i64 0),(.slice none 0 0)]) (OS 3 (.store 2 (.tmp 5) (.tmp 15)) .done))))
abbrev g_q39_r4:GR:=(OP 0 6 (.mv (K 0)) .done)
abbrev g_q39_r5:GR:=(O1 0 16 6 (O3 1 17 0 2 (O2 2 18 17 (O5 3 19 .lss 16 18 .done))))
abbrev g_q39_r6:GR:=(OP 0 7 (.mv (K 0)) .done)
abbrev g_q39_r7:GR:=(O1 0 22 7 (O3 1 23 0 2 (O2 2 24 23 (O5 3 25 .lss 22 24 .done))))
abbrev g_q39_r8:GR:=(O3 0 28 1 5 (O6 1 29 28 (O1 2 30 6 (O4 3 31 1 29 30 (O6 4 32 31 (O1 5 33 7 (O3 6 34 1 2 (O6 7 35 34 (O1 8 36 6 (O4 9 37 1 35 36 (O6 10 38 37 (O1 11 39 7 (O4 12 40 1 38 39 (O6 13 41 40 (O4 14 42 1 32 33 (OS 15 (.store 1 (.tmp 42) (.tmp 41)) .done))))))))))))))))
abbrev g_q39_r9:GR:=(O1 0 26 7 (OP 1 27 (.bin .add (.tmp 26) (K 1)) (O1 2 7 27 .done)))
abbrev g_q39_l10:GC:=(.seq (.seq (.reg g_q39_r7 [2,4,5,6,7,25]) (.cond (.tmp 25) .skip (.exit 2))) (.seq (.block 3 (.reg g_q39_r8 [2,4,5,6,7])) (.reg g_q39_r9 [2,4,5,6,7])))
abbrev g_q39_r11:GR:=(O1 0 20 6 (OP 1 21 (.bin .add (.tmp 20) (K 1)) (O1 2 6 21 .done)))
abbrev g_q39_l12:GC:=(.seq (.seq (.reg g_q39_r5 [2,4,5,6,19]) (.cond (.tmp 19) .skip (.exit 0))) (.seq (.block 1 (.seq (.reg g_q39_r6 [2,4,5,6,7]) (.block 2 (.loop g_q39_l10)))) (.reg g_q39_r11 [2,4,5,6])))
abbrev g_q39_r13:GR:=(OP 0 43 (.load (some 2) (.tmp 5)) (OS 1 (.store 2 (.tmp 4) (.tmp 43)) .done))
abbrev g_q39:GC:=(.seq (.reg g_q39_r0 [1,2,4]) (.seq (.seq (.reg g_q39_r1 [1,2,4,11]) (.cond (.tmp 11) (.reg g_q39_r2 [1,2,4]) .skip)) (.seq (.reg g_q39_r3 [2,4,5]) (.seq (.seq (.reg g_q39_r4 [2,4,5,6]) (.block 0 (.loop g_q39_l12))) (.seq (.reg g_q39_r13 [4]) .ret)))))
abbrev rs_q39:List RV:=[(.cell 4 (some 2))]
theorem gc_q39:compileF Tryz.prog Tryz.f57 T_q39=some (g_q39,rs_q39):=by kernel_rfl
theorem con_q39 (hv:vc Tryz.prog y g_q39 (retQ rs_q39 R) [(0,a0),(1,a1)] h):ConX y Tryz.prog 57 #[a0,a1] h R:=con_of Tryz.func57 gc_q39 rfl (fun h=>absurd h (by decide)) hv
def T_q32:List (Nat×List Nat):=[(0,[1,2,3]),(1,[6])]
abbrev g_q32_r0:GR:=(OP 0 3 (.box 54 (.tmp 0)) (OP 1 6 (.mv (.const (.bool false))) .done))
abbrev g_q32_r1:GR:=(OP 0 7 (.load (some 2) (.tmp 3)) (O1 1 8 1 (OP 2 9 (.call 92 [(.tmp 7),(.tmp 8)]) (O1 3 10 9 (OG 4 11 10 true (.load (some 2) (.tmp 3)) (OG 5 12 10 true (.mv (.tmp 2)) (OG 6 13 10 true (.call 92 [(.tmp 11),(.tmp 12)]) (OP 7 14 (.pick (.tmp 10) (.tmp 13) (.const (.bool false))) (O1 8 15 14 (OG 9 16 15 true (.fieldAddr 1 (.tmp 3)) (OG 10 17 15 true (.load none (.tmp 16)) (OG 11 18 15 true (.mv (.tmp 1)) (OG 12 19 15 true (.indexAddr 1 (.tmp 17) (.tmp 18)) (OG 13 20 15 true (.load none (.tmp 19)) (OG 14 21 15 true (.mv (.tmp 2)) (OG 15 22 15 true (.indexAddr 1 (.tmp 20) (.tmp 21)) (OG 16 23 15 true (.load none (.tmp 22)) (OP 17 24 (.pick (.tmp 15) (.tmp 23) (.const (.bool false))) (O1 18 6 24 .done)))))))))))))))))))
abbrev g_q32:GC:=(.seq (.reg g_q32_r0 [1,2,3]) (.seq (.reg g_q32_r1 [6]) .ret))
abbrev rs_q32:List RV:=[(.tmp 6)]
theorem gc_q32:compileF Tryz.prog Tryz.f58 T_q32=some (g_q32,rs_q32):=by kernel_rfl
theorem con_q32 (hv:vc Tryz.prog y g_q32 (retQ rs_q32 R) [(0,a0),(1,a1),(2,a2)] h):ConX y Tryz.prog 58 #[a0,a1,a2] h R:=con_of Tryz.func58 gc_q32 rfl (fun h=>absurd h (by decide)) hv
def T_q35:List (Nat×List Nat):=[(0,[0,2]),(1,[0,2,6]),(2,[0,2]),(3,[0,2,8]),(4,[0,2]),(5,[0,2,3]),(6,[0,2,3,4]),(7,[0,2,3,4,13]),(8,[0,2,3,4]),(9,[0,2,3,4]),(10,[2])]
abbrev g_q35_r0:GR:=(OP 0 2 (.alloc 54 [(.int .i64 0),(.slice none 0 0)]) .done)
abbrev g_q35_r1:GR:=(O1 0 5 0 (OP 1 6 (.bin .lss (.tmp 5) (K 0)) .done))
abbrev g_q35_r2:GR:=(OP 0 0 (.mv (K 0)) .done)
abbrev g_q35_r3:GR:=(O1 0 7 0 (OP 1 8 (.bin .gtr (.tmp 7) (K 256)) .done))
abbrev g_q35_r4:GR:=(OP 0 0 (.mv (K 256)) .done)
abbrev g_q35_r5:GR:=(O1 0 9 0 (OP 1 10 (.build [(.int .i64 0),(.slice none 0 0)] [(0,(1,(.tmp 9))),(1,(1,(.const (.slice none 0 0))))]) (OP 2 3 (.alloc 54 [(.int .i64 0),(.slice none 0 0)]) (OS 3 (.store 2 (.tmp 3) (.tmp 10)) .done))))
abbrev g_q35_r6:GR:=(OP 0 4 (.mv (K 0)) .done)
abbrev g_q35_r7:GR:=(O1 0 11 4 (O1 1 12 0 (O5 2 13 .lss 11 12 .done)))
abbrev g_q35_r8:GR:=(O3 0 16 1 3 (O6 1 17 16 (O1 2 18 0 (OP 3 19 (.makeSlice 4 1 1 [(.bool false)] (.tmp 18) (.tmp 18)) (OP 4 20 (.buildSlice 39 1 [(.slice none 0 0)] [(0,(1,(.tmp 19)))]) (OP 5 21 (.append 39 1 24 [(.slice none 0 0)] (.tmp 17) (.tmp 20)) (O3 6 22 1 3 (OS 7 (.store 1 (.tmp 22) (.tmp 21)) .done))))))))
abbrev g_q35_r9:GR:=(O1 0 14 4 (OP 1 15 (.bin .add (.tmp 14) (K 1)) (O1 2 4 15 .done)))
abbrev g_q35_l10:GC:=(.seq (.seq (.reg g_q35_r7 [0,2,3,4,13]) (.cond (.tmp 13) .skip (.exit 0))) (.seq (.block 1 (.reg g_q35_r8 [0,2,3,4])) (.reg g_q35_r9 [0,2,3,4])))
abbrev g_q35_r11:GR:=(OP 0 23 (.load (some 2) (.tmp 3)) (OS 1 (.store 2 (.tmp 2) (.tmp 23)) .done))
abbrev g_q35:GC:=(.seq (.reg g_q35_r0 [0,2]) (.seq (.seq (.reg g_q35_r1 [0,2,6]) (.cond (.tmp 6) (.reg g_q35_r2 [0,2]) .skip)) (.seq (.seq (.reg g_q35_r3 [0,2,8]) (.cond (.tmp 8) (.reg g_q35_r4 [0,2]) .skip)) (.seq (.reg g_q35_r5 [0,2,3]) (.seq (.seq (.reg g_q35_r6 [0,2,3,4]) (.block 0 (.loop g_q35_l10))) (.seq (.reg g_q35_r11 [2]) .ret))))))
abbrev rs_q35:List RV:=[(.cell 2 (some 2))]
theorem gc_q35:compileF Tryz.prog Tryz.f59 T_q35=some (g_q35,rs_q35):=by kernel_rfl
theorem con_q35 (hv:vc Tryz.prog y g_q35 (retQ rs_q35 R) [(0,a0)] h):ConX y Tryz.prog 59 #[a0] h R:=con_of Tryz.func59 gc_q35 rfl (fun h=>absurd h (by decide)) hv
def T_q56:List (Nat×List Nat):=[(0,[1,2,3]),(1,[6])]
abbrev g_q56_r0:GR:=(OP 0 3 (.box 26 (.tmp 0)) (OP 1 6 (.mv (.const (.bool false))) .done))
abbrev g_q56_r1:GR:=(O1 0 7 1 (OP 1 8 (.bin .geq (.tmp 7) (K 0)) (O1 2 9 8 (OG 3 10 9 true (.mv (.tmp 1)) (OG 4 11 9 true (.mv (.tmp 2)) (OG 5 12 9 true (.bin .lss (.tmp 10) (.tmp 11)) (OP 6 13 (.pick (.tmp 9) (.tmp 12) (.const (.bool false))) (O1 7 14 13 (OG 8 15 14 true (.mv (.tmp 2)) (OG 9 16 14 true (.fieldAddr 1 (.tmp 3)) (.op (GI.mk 10 (some 17) (some (14,true)) (.load none (.tmp 16)) [] true) (OG 11 18 14 true (.len (.tmp 17)) (OG 12 19 14 true (.bin .lss (.tmp 15) (.tmp 18)) (OP 13 20 (.pick (.tmp 14) (.tmp 19) (.const (.bool false))) (O1 14 21 20 (OG 15 22 21 true (.fieldAddr 1 (.tmp 3)) (.op (GI.mk 16 (some 23) (some (21,true)) (.load none (.tmp 22)) [] true) (OG 17 24 21 true (.mv (.tmp 1)) (OG 18 25 21 true (.indexAddr 5 (.tmp 23) (.tmp 24)) (OG 19 26 21 true (.fieldAddr 0 (.tmp 25)) (.op (GI.mk 20 (some 27) (some (21,true)) (.load none (.tmp 26)) [] true) (OG 21 28 21 true (.bin .geq (.tmp 27) (K 0)) (OP 22 29 (.pick (.tmp 21) (.tmp 28) (.const (.bool false))) (O1 23 30 29 (OG 24 31 30 true (.fieldAddr 1 (.tmp 3)) (.op (GI.mk 25 (some 32) (some (30,true)) (.load none (.tmp 31)) [] true) (OG 26 33 30 true (.mv (.tmp 1)) (OG 27 34 30 true (.indexAddr 5 (.tmp 32) (.tmp 33)) (OG 28 35 30 true (.fieldAddr 0 (.tmp 34)) (.op (GI.mk 29 (some 36) (some (30,true)) (.load none (.tmp 35)) [] true) (OG 30 37 30 true (.fieldAddr 1 (.tmp 3)) (.op (GI.mk 31 (some 38) (some (30,true)) (.load none (.tmp 37)) [] true) (OG 32 39 30 true (.mv (.tmp 2)) (OG 33 40 30 true (.indexAddr 5 (.tmp 38) (.tmp 39)) (OG 34 41 30 true (.fieldAddr 0 (.tmp 40)) (.op (GI.mk 35 (some 42) (some (30,true)) (.load none (.tmp 41)) [] true) (OG 36 43 30 true (.bin .eql (.tmp 36) (.tmp 42)) (OP 37 44 (.pick (.tmp 30) (.tmp 43) (.const (.bool false))) (O1 38 6 44 .done)))))))))))))))))))))))))))))))))))))))
abbrev g_q56:GC:=(.seq (.reg g_q56_r0 [1,2,3]) (.seq (.reg g_q56_r1 [6]) .ret))
abbrev rs_q56:List RV:=[(.tmp 6)]
theorem gc_q56:compileF Tryz.prog Tryz.f60 T_q56=some (g_q56,rs_q56):=by kernel_rfl
theorem con_q56 (hv:vc Tryz.prog y g_q56 (retQ rs_q56 R) [(0,a0),(1,a1),(2,a2)] h):ConX y Tryz.prog 60 #[a0,a1,a2] h R:=con_of Tryz.func60 gc_q56 rfl (fun h=>absurd h (by decide)) hv
def T_q51:List (Nat×List Nat):=[(0,[1,2,4]),(1,[4])]
abbrev g_q51_r0:GR:=(OP 0 2 (.box 26 (.tmp 0)) (OP 1 4 (.alloc 54 [(.int .i64 0),(.slice none 0 0)]) .done))
abbrev g_q51_r1:GR:=(O3 0 5 1 2 (O2 1 6 5 (OP 2 7 (.len (.tmp 6)) (O1 3 8 1 (OP 4 9 (.call 93 [(.tmp 7),(.tmp 8)]) (OS 5 (.store 2 (.tmp 4) (.tmp 9)) .done))))))
abbrev g_q51:GC:=(.seq (.reg g_q51_r0 [1,2,4]) (.seq (.reg g_q51_r1 [4]) .ret))
abbrev rs_q51:List RV:=[(.cell 4 (some 2))]
theorem gc_q51:compileF Tryz.prog Tryz.f61 T_q51=some (g_q51,rs_q51):=by kernel_rfl
theorem con_q51 (hv:vc Tryz.prog y g_q51 (retQ rs_q51 R) [(0,a0),(1,a1)] h):ConX y Tryz.prog 61 #[a0,a1] h R:=con_of Tryz.func61 gc_q51 rfl (fun h=>absurd h (by decide)) hv
def T_q34:List (Nat×List Nat):=[(0,[1,2]),(1,[1,2,3]),(2,[1,2,3,4]),(3,[1,2,3,4,12]),(4,[1,2,3,4]),(5,[1,2,3,4,5]),(6,[1,2,3,4,5,18]),(7,[1,2,3,4,5]),(8,[1,2,3,4,5]),(9,[2])]
abbrev g_q34_r0:GR:=(OP 0 1 (.box 54 (.tmp 0)) (OP 1 2 (.alloc 54 [(.int .i64 0),(.slice none 0 0)]) .done))
abbrev g_q34_r1:GR:=(O3 0 6 0 1 (O2 1 7 6 (OP 2 8 (.call 59 [(.tmp 7)]) (OP 3 3 (.alloc 54 [(.int .i64 0),(.slice none 0 0)]) (OS 4 (.store 2 (.tmp 3) (.tmp 8)) .done)))))
abbrev g_q34_r2:GR:=(OP 0 4 (.mv (K 0)) .done)
abbrev g_q34_r3:GR:=(O1 0 9 4 (O3 1 10 0 3 (O2 2 11 10 (O5 3 12 .lss 9 11 .done))))
abbrev g_q34_r4:GR:=(OP 0 5 (.mv (K 0)) .done)
abbrev g_q34_r5:GR:=(O1 0 15 5 (O3 1 16 0 3 (O2 2 17 16 (O5 3 18 .lss 15 17 .done))))
abbrev g_q34_r6:GR:=(O3 0 21 1 3 (O6 1 22 21 (O1 2 23 5 (O4 3 24 1 22 23 (O6 4 25 24 (O1 5 26 4 (O3 6 27 1 1 (O6 7 28 27 (O1 8 29 4 (O4 9 30 1 28 29 (O6 10 31 30 (O1 11 32 5 (O4 12 33 1 31 32 (O6 13 34 33 (O4 14 35 1 25 26 (OS 15 (.store 1 (.tmp 35) (.tmp 34)) .done))))))))))))))))
abbrev g_q34_r7:GR:=(O1 0 19 5 (OP 1 20 (.bin .add (.tmp 19) (K 1)) (O1 2 5 20 .done)))
abbrev g_q34_l8:GC:=(.seq (.seq (.reg g_q34_r5 [1,2,3,4,5,18]) (.cond (.tmp 18) .skip (.exit 2))) (.seq (.block 3 (.reg g_q34_r6 [1,2,3,4,5])) (.reg g_q34_r7 [1,2,3,4,5])))
abbrev g_q34_r9:GR:=(O1 0 13 4 (OP 1 14 (.bin .add (.tmp 13) (K 1)) (O1 2 4 14 .done)))
abbrev g_q34_l10:GC:=(.seq (.seq (.reg g_q34_r3 [1,2,3,4,12]) (.cond (.tmp 12) .skip (.exit 0))) (.seq (.block 1 (.seq (.reg g_q34_r4 [1,2,3,4,5]) (.block 2 (.loop g_q34_l8)))) (.reg g_q34_r9 [1,2,3,4])))
abbrev g_q34_r11:GR:=(OP 0 36 (.load (some 2) (.tmp 3)) (OS 1 (.store 2 (.tmp 2) (.tmp 36)) .done))
abbrev g_q34:GC:=(.seq (.reg g_q34_r0 [1,2]) (.seq (.reg g_q34_r1 [1,2,3]) (.seq (.seq (.reg g_q34_r2 [1,2,3,4]) (.block 0 (.loop g_q34_l10))) (.seq (.reg g_q34_r11 [2]) .ret))))
abbrev rs_q34:List RV:=[(.cell 2 (some 2))]
theorem gc_q34:compileF Tryz.prog Tryz.f62 T_q34=some (g_q34,rs_q34):=by kernel_rfl
theorem con_q34 (hv:vc Tryz.prog y g_q34 (retQ rs_q34 R) [(0,a0)] h):ConX y Tryz.prog 62 #[a0] h R:=con_of Tryz.func62 gc_q34 rfl (fun h=>absurd h (by decide)) hv
def T_q43:List (Nat×List Nat):=[(0,[0,1]),(1,[0,1,5]),(2,[0,1,5,6]),(3,[0,1,5,6,16]),(4,[0,1,5,6]),(5,[0,1,5,6]),(6,[4])]
abbrev g_q43_r0:GR:=(OP 0 4 (.mv (.const (.slice none 0 0))) .done)
abbrev g_q43_r1:GR:=(OP 0 5 (.mv (.const (.slice none 0 0))) .done)
abbrev g_q43_r2:GR:=(OP 0 6 (.mv (K 0)) .done)
abbrev g_q43_r3:GR:=(O1 0 7 6 (O1 1 8 0 (OP 2 9 (.len (.tmp 8)) (O5 3 10 .lss 7 9 (O1 4 11 10 (OG 5 12 11 true (.mv (.tmp 6)) (OG 6 13 11 true (.mv (.tmp 1)) (OG 7 14 11 true (.len (.tmp 13)) (OG 8 15 11 true (.bin .lss (.tmp 12) (.tmp 14)) (OP 9 16 (.pick (.tmp 11) (.tmp 15) (.const (.bool false))) .done))))))))))
abbrev g_q43_r4:GR:=(O1 0 19 5 (O1 1 20 0 (O1 2 21 6 (O4 3 22 1 20 21 (O2 4 23 22 (O1 5 24 23 (OG 6 25 24 true (.mv (.tmp 1)) (OG 7 26 24 true (.mv (.tmp 6)) (OG 8 27 24 true (.indexAddr 1 (.tmp 25) (.tmp 26)) (OG 9 28 24 true (.load none (.tmp 27)) (OP 10 29 (.pick (.tmp 24) (.tmp 28) (.const (.bool false))) (OP 11 30 (.buildSlice 4 1 [(.bool false)] [(0,(1,(.tmp 29)))]) (OP 12 31 (.append 4 1 1 [(.bool false)] (.tmp 19) (.tmp 30)) (O1 13 5 31 .done))))))))))))))
abbrev g_q43_r5:GR:=(O1 0 17 6 (OP 1 18 (.bin .add (.tmp 17) (K 1)) (O1 2 6 18 .done)))
abbrev g_q43_l6:GC:=(.seq (.seq (.reg g_q43_r3 [0,1,5,6,16]) (.cond (.tmp 16) .skip (.exit 0))) (.seq (.block 1 (.reg g_q43_r4 [0,1,5,6])) (.reg g_q43_r5 [0,1,5,6])))
abbrev g_q43_r7:GR:=(O1 0 32 5 (O1 1 4 32 .done))
abbrev g_q43:GC:=(.seq (.reg g_q43_r0 [0,1]) (.seq (.reg g_q43_r1 [0,1,5]) (.seq (.seq (.reg g_q43_r2 [0,1,5,6]) (.block 0 (.loop g_q43_l6))) (.seq (.reg g_q43_r7 [4]) .ret))))
abbrev rs_q43:List RV:=[(.tmp 4)]
theorem gc_q43:compileF Tryz.prog Tryz.f63 T_q43=some (g_q43,rs_q43):=by kernel_rfl
theorem con_q43 (hv:vc Tryz.prog y g_q43 (retQ rs_q43 R) [(0,a0),(1,a1)] h):ConX y Tryz.prog 63 #[a0,a1] h R:=con_of Tryz.func63 gc_q43 rfl (fun h=>absurd h (by decide)) hv
def T_q50:List (Nat×List Nat):=[(0,[1,2]),(1,[1,2,5]),(2,[1,2,5,6]),(3,[1,2,5,6,11]),(4,[1,2,5,6]),(5,[1,2,5,6]),(6,[4])]
abbrev g_q50_r0:GR:=(OP 0 2 (.box 26 (.tmp 0)) (OP 1 4 (.mv (.const (.slice none 0 0))) .done))
abbrev g_q50_r1:GR:=(OP 0 5 (.mv (.const (.slice none 0 0))) .done)
abbrev g_q50_r2:GR:=(OP 0 6 (.mv (K 0)) .done)
abbrev g_q50_r3:GR:=(O1 0 7 6 (O3 1 8 1 2 (O2 2 9 8 (OP 3 10 (.len (.tmp 9)) (O5 4 11 .lss 7 10 .done)))))
abbrev g_q50_r4:GR:=(O1 0 14 5 (O3 1 15 1 2 (O2 2 16 15 (O1 3 17 6 (O4 4 18 5 16 17 (O3 5 19 1 18 (O2 6 20 19 (O1 7 21 1 (O5 8 22 .eql 20 21 (OP 9 23 (.buildSlice 4 1 [(.bool false)] [(0,(1,(.tmp 22)))]) (OP 10 24 (.append 4 1 1 [(.bool false)] (.tmp 14) (.tmp 23)) (O1 11 5 24 .done))))))))))))
abbrev g_q50_r5:GR:=(O1 0 12 6 (OP 1 13 (.bin .add (.tmp 12) (K 1)) (O1 2 6 13 .done)))
abbrev g_q50_l6:GC:=(.seq (.seq (.reg g_q50_r3 [1,2,5,6,11]) (.cond (.tmp 11) .skip (.exit 0))) (.seq (.block 1 (.reg g_q50_r4 [1,2,5,6])) (.reg g_q50_r5 [1,2,5,6])))
abbrev g_q50_r7:GR:=(O1 0 25 5 (O1 1 4 25 .done))
abbrev g_q50:GC:=(.seq (.reg g_q50_r0 [1,2]) (.seq (.reg g_q50_r1 [1,2,5]) (.seq (.seq (.reg g_q50_r2 [1,2,5,6]) (.block 0 (.loop g_q50_l6))) (.seq (.reg g_q50_r7 [4]) .ret))))
abbrev rs_q50:List RV:=[(.tmp 4)]
theorem gc_q50:compileF Tryz.prog Tryz.f64 T_q50=some (g_q50,rs_q50):=by kernel_rfl
theorem con_q50 (hv:vc Tryz.prog y g_q50 (retQ rs_q50 R) [(0,a0),(1,a1)] h):ConX y Tryz.prog 64 #[a0,a1] h R:=con_of Tryz.func64 gc_q50 rfl (fun h=>absurd h (by decide)) hv
def T_q55:List (Nat×List Nat):=[(0,[1,2]),(1,[1,2,5]),(2,[1,2,5,6]),(3,[1,2,5,6,13]),(4,[1,2,5,6]),(5,[1,2,5,6,7]),(6,[1,2,5,6,7,8]),(7,[1,2,5,6,7,8,19]),(8,[1,2,5,6,7,8]),(9,[1,2,5,6,7,8]),(10,[1,2,5,6]),(11,[4])]
abbrev g_q55_r0:GR:=(OP 0 2 (.box 26 (.tmp 0)) (OP 1 4 (.mv (.const (.slice none 0 0))) .done))
abbrev g_q55_r1:GR:=(OP 0 5 (.mv (.const (.slice none 0 0))) .done)
abbrev g_q55_r2:GR:=(OP 0 6 (.mv (K 0)) .done)
abbrev g_q55_r3:GR:=(O1 0 9 6 (O3 1 10 1 2 (O2 2 11 10 (OP 3 12 (.len (.tmp 11)) (O5 4 13 .lss 9 12 .done)))))
abbrev g_q55_r4:GR:=(OP 0 7 (.mv (.const (.bool false))) .done)
abbrev g_q55_r5:GR:=(OP 0 8 (.mv (K 0)) .done)
abbrev g_q55_r6:GR:=(O1 0 16 8 (O1 1 17 1 (OP 2 18 (.len (.tmp 17)) (O5 3 19 .lss 16 18 .done))))
abbrev g_q55_r7:GR:=(O1 0 22 7 (O1 1 23 22 (OG 2 24 23 false (.fieldAddr 1 (.tmp 2)) (.op (GI.mk 3 (some 25) (some (23,false)) (.load none (.tmp 24)) [] true) (OG 4 26 23 false (.mv (.tmp 6)) (OG 5 27 23 false (.indexAddr 5 (.tmp 25) (.tmp 26)) (OG 6 28 23 false (.fieldAddr 4 (.tmp 27)) (.op (GI.mk 7 (some 29) (some (23,false)) (.load none (.tmp 28)) [] true) (OG 8 30 23 false (.mv (.tmp 1)) (OG 9 31 23 false (.mv (.tmp 8)) (OG 10 32 23 false (.indexAddr 1 (.tmp 30) (.tmp 31)) (.op (GI.mk 11 (some 33) (some (23,false)) (.load none (.tmp 32)) [] true) (OG 12 34 23 false (.bin .eql (.tmp 29) (.tmp 33)) (OP 13 35 (.pick (.tmp 23) (.const (.bool true)) (.tmp 34)) (O1 14 7 35 .done)))))))))))))))
abbrev g_q55_r8:GR:=(O1 0 20 8 (OP 1 21 (.bin .add (.tmp 20) (K 1)) (O1 2 8 21 .done)))
abbrev g_q55_l9:GC:=(.seq (.seq (.reg g_q55_r6 [1,2,5,6,7,8,19]) (.cond (.tmp 19) .skip (.exit 2))) (.seq (.block 3 (.reg g_q55_r7 [1,2,5,6,7,8])) (.reg g_q55_r8 [1,2,5,6,7,8])))
abbrev g_q55_r10:GR:=(O1 0 36 5 (O1 1 37 7 (OP 2 38 (.buildSlice 4 1 [(.bool false)] [(0,(1,(.tmp 37)))]) (OP 3 39 (.append 4 1 1 [(.bool false)] (.tmp 36) (.tmp 38)) (O1 4 5 39 .done)))))
abbrev g_q55_r11:GR:=(O1 0 14 6 (OP 1 15 (.bin .add (.tmp 14) (K 1)) (O1 2 6 15 .done)))
abbrev g_q55_l12:GC:=(.seq (.seq (.reg g_q55_r3 [1,2,5,6,13]) (.cond (.tmp 13) .skip (.exit 0))) (.seq (.block 1 (.seq (.reg g_q55_r4 [1,2,5,6,7]) (.seq (.seq (.reg g_q55_r5 [1,2,5,6,7,8]) (.block 2 (.loop g_q55_l9))) (.reg g_q55_r10 [1,2,5,6])))) (.reg g_q55_r11 [1,2,5,6])))
abbrev g_q55_r13:GR:=(O1 0 40 5 (O1 1 4 40 .done))
abbrev g_q55:GC:=(.seq (.reg g_q55_r0 [1,2]) (.seq (.reg g_q55_r1 [1,2,5]) (.seq (.seq (.reg g_q55_r2 [1,2,5,6]) (.block 0 (.loop g_q55_l12))) (.seq (.reg g_q55_r13 [4]) .ret))))
abbrev rs_q55:List RV:=[(.tmp 4)]
theorem gc_q55:compileF Tryz.prog Tryz.f65 T_q55=some (g_q55,rs_q55):=by kernel_rfl
theorem con_q55 (hv:vc Tryz.prog y g_q55 (retQ rs_q55 R) [(0,a0),(1,a1)] h):ConX y Tryz.prog 65 #[a0,a1] h R:=con_of Tryz.func65 gc_q55 rfl (fun h=>absurd h (by decide)) hv
def T_q47:List (Nat×List Nat):=[(0,[1,2]),(1,[1,2,3]),(2,[1,2,3,4]),(3,[1,2,3,4,13]),(4,[1,2,3,4]),(5,[1,2,3,4,5]),(6,[1,2,3,4,5,19]),(7,[1,2,3,4,5]),(8,[1,2,3,4,5]),(9,[2])]
abbrev g_q47_r0:GR:=(OP 0 1 (.box 26 (.tmp 0)) (OP 1 2 (.alloc 54 [(.int .i64 0),(.slice none 0 0)]) .done))
abbrev g_q47_r1:GR:=(O3 0 6 1 1 (O2 1 7 6 (OP 2 8 (.len (.tmp 7)) (OP 3 9 (.call 59 [(.tmp 8)]) (OP 4 3 (.alloc 54 [(.int .i64 0),(.slice none 0 0)]) (OS 5 (.store 2 (.tmp 3) (.tmp 9)) .done))))))
abbrev g_q47_r2:GR:=(OP 0 4 (.mv (K 0)) .done)
abbrev g_q47_r3:GR:=(O1 0 10 4 (O3 1 11 0 3 (O2 2 12 11 (O5 3 13 .lss 10 12 .done))))
abbrev g_q47_r4:GR:=(OP 0 5 (.mv (K 0)) .done)
abbrev g_q47_r5:GR:=(O1 0 16 5 (O3 1 17 0 3 (O2 2 18 17 (O5 3 19 .lss 16 18 .done))))
abbrev g_q47_r6:GR:=(O3 0 22 1 3 (O6 1 23 22 (O1 2 24 4 (O4 3 25 1 23 24 (O6 4 26 25 (O1 5 27 5 (O3 6 28 1 1 (O6 7 29 28 (O1 8 30 4 (O4 9 31 5 29 30 (O3 10 32 0 31 (O6 11 33 32 (O3 12 34 1 1 (O6 13 35 34 (O1 14 36 5 (O4 15 37 5 35 36 (O3 16 38 0 37 (O6 17 39 38 (O5 18 40 .neq 33 39 (O4 19 41 1 26 27 (OS 20 (.store 1 (.tmp 41) (.tmp 40)) .done)))))))))))))))))))))
abbrev g_q47_r7:GR:=(O1 0 20 5 (OP 1 21 (.bin .add (.tmp 20) (K 1)) (O1 2 5 21 .done)))
abbrev g_q47_l8:GC:=(.seq (.seq (.reg g_q47_r5 [1,2,3,4,5,19]) (.cond (.tmp 19) .skip (.exit 2))) (.seq (.block 3 (.reg g_q47_r6 [1,2,3,4,5])) (.reg g_q47_r7 [1,2,3,4,5])))
abbrev g_q47_r9:GR:=(O1 0 14 4 (OP 1 15 (.bin .add (.tmp 14) (K 1)) (O1 2 4 15 .done)))
abbrev g_q47_l10:GC:=(.seq (.seq (.reg g_q47_r3 [1,2,3,4,13]) (.cond (.tmp 13) .skip (.exit 0))) (.seq (.block 1 (.seq (.reg g_q47_r4 [1,2,3,4,5]) (.block 2 (.loop g_q47_l8)))) (.reg g_q47_r9 [1,2,3,4])))
abbrev g_q47_r11:GR:=(OP 0 42 (.load (some 2) (.tmp 3)) (OS 1 (.store 2 (.tmp 2) (.tmp 42)) .done))
abbrev g_q47:GC:=(.seq (.reg g_q47_r0 [1,2]) (.seq (.reg g_q47_r1 [1,2,3]) (.seq (.seq (.reg g_q47_r2 [1,2,3,4]) (.block 0 (.loop g_q47_l10))) (.seq (.reg g_q47_r11 [2]) .ret))))
abbrev rs_q47:List RV:=[(.cell 2 (some 2))]
theorem gc_q47:compileF Tryz.prog Tryz.f66 T_q47=some (g_q47,rs_q47):=by kernel_rfl
theorem con_q47 (hv:vc Tryz.prog y g_q47 (retQ rs_q47 R) [(0,a0)] h):ConX y Tryz.prog 66 #[a0] h R:=con_of Tryz.func66 gc_q47 rfl (fun h=>absurd h (by decide)) hv
def T_q1:List (Nat×List Nat):=[(0,[1,2,4,5]),(1,[1,2,4,5,42]),(2,[4,5]),(3,[1,2,4,5,6]),(4,[1,2,4,5,6,44]),(5,[1,2,4,5,6]),(6,[1,2,4,5,6,47,48]),(7,[1,2,4,5,6,47,48,49]),(8,[1,2,4,5,6,7,47,48]),(9,[1,2,4,5,6,7,47,48]),(10,[1,2,4,5,6,7,47,48,59]),(11,[4,5]),(12,[1,2,4,5,6,47,48]),(13,[2,4,5,8]),(14,[2,4,5,8,9]),(15,[2,4,5,8,9,73]),(16,[8,9,10,75]),(17,[8,9,10,11]),(18,[8,9,10,11]),(19,[8,9,10,11,12,13]),(20,[8,9,10,11,12,94]),(21,[9,10,11]),(22,[]),(23,[2,8,14]),(24,[2,8,14,109]),(25,[4,5]),(26,[2,8,15]),(27,[2,8,15,114]),(28,[4,5]),(29,[2,8,16]),(30,[2,8,16,119]),(31,[4,5]),(32,[2,8,17]),(33,[2,8,17,124]),(34,[4,5]),(35,[2,8,18]),(36,[2,8,18,132]),(37,[4,5]),(38,[2,8,19]),(39,[2,8,19,140]),(40,[4,5]),(41,[20]),(42,[20,148]),(43,[4,5]),(44,[4,5])]
abbrev g_q1_r0:GR:=(OP 0 2 (.box 26 (.tmp 0)) (OP 1 4 (.mv (K 0)) (OP 2 5 (.mv (K 0)) .done)))
abbrev g_q1_r1:GR:=(O3 0 21 0 2 (O2 1 22 21 (OP 2 23 (.bin .lss (.tmp 22) (K 0)) (O1 3 24 23 (OG 4 25 24 false (.fieldAddr 0 (.tmp 2)) (OG 5 26 24 false (.load none (.tmp 25)) (OG 6 27 24 false (.bin .gtr (.tmp 26) (K 4096)) (OP 7 28 (.pick (.tmp 24) (.const (.bool true)) (.tmp 27)) (O1 8 29 28 (OG 9 30 29 false (.fieldAddr 1 (.tmp 2)) (OG 10 31 29 false (.load none (.tmp 30)) (OG 11 32 29 false (.len (.tmp 31)) (OG 12 33 29 false (.fieldAddr 0 (.tmp 2)) (OG 13 34 29 false (.load none (.tmp 33)) (OG 14 35 29 false (.bin .lss (.tmp 32) (.tmp 34)) (OP 15 36 (.pick (.tmp 29) (.const (.bool true)) (.tmp 35)) (O1 16 37 36 (OG 17 38 37 false (.fieldAddr 1 (.tmp 2)) (OG 18 39 37 false (.load none (.tmp 38)) (OG 19 40 37 false (.len (.tmp 39)) (OG 20 41 37 false (.bin .gtr (.tmp 40) (K 256)) (OP 21 42 (.pick (.tmp 37) (.const (.bool true)) (.tmp 41)) .done))))))))))))))))))))))
abbrev g_q1_r2:GR:=(OP 0 4 (.mv (K 1)) (OP 1 5 (.mv (K 0)) .done))
abbrev g_q1_r3:GR:=(OP 0 43 (.build [(.int .i64 0),(.int .i64 0),(.int .i64 0),(.int .u64 0),(.int .i64 0)] [(0,(1,(K (-1)))),(1,(1,(K 2))),(4,(1,(K 1)))]) (OP 1 6 (.alloc 63 [(.int .i64 0),(.int .i64 0),(.int .i64 0),(.int .u64 0),(.int .i64 0)]) (OS 2 (.store 5 (.tmp 6) (.tmp 43)) .done)))
abbrev g_q1_r4:GR:=(O1 0 44 1 .done)
abbrev g_q1_r5:GR:=(O3 0 45 4 6 (OS 1 (.store 1 (.tmp 45) (K 11)) .done))
abbrev g_q1_r6:GR:=(O3 0 46 0 2 (O2 1 47 46 (OP 2 48 (.mv (K 0)) .done)))
abbrev g_q1_r7:GR:=(O5 0 49 .lss 48 47 .done)
abbrev g_q1_r8:GR:=(O1 0 50 48 (O1 1 7 50 .done))
abbrev g_q1_r9:GR:=(O1 0 51 7 (O3 1 52 2 6 (OS 2 (.store 1 (.tmp 52) (.tmp 51)) .done)))
abbrev g_q1_r10:GR:=(O3 0 53 1 2 (O6 1 54 53 (O1 2 55 7 (O4 3 56 5 54 55 (OW 4 57 (.load (some 5) (.tmp 56)) (OW 5 58 (.load (some 5) (.tmp 6)) (OP 6 59 (.eqStruct true [0,1,2,3,4] (.tmp 57) (.tmp 58)) .done)))))))
abbrev g_q1_r11:GR:=(O1 0 60 7 (OP 1 4 (.mv (K 2)) (O1 2 5 60 .done)))
abbrev g_q1_r12:GR:=(OP 0 61 (.bin .add (.tmp 48) (K 1)) (O1 1 48 61 .done))
abbrev g_q1_l13:GC:=(.seq (.reg g_q1_r7 [1,2,4,5,6,47,48,49]) (.seq (.cond (.tmp 49) .skip (.exit 0)) (.seq (.block 1 (.seq (.reg g_q1_r8 [1,2,4,5,6,7,47,48]) (.seq (.reg g_q1_r9 [1,2,4,5,6,7,47,48]) (.seq (.reg g_q1_r10 [1,2,4,5,6,7,47,48,59]) (.cond (.tmp 59) (.seq (.reg g_q1_r11 [4,5]) .ret) .skip))))) (.reg g_q1_r12 [1,2,4,5,6,47,48]))))
abbrev g_q1_r14:GR:=(OW 0 62 (.load (some 8) (.tmp 2)) (O1 1 63 1 (O3 2 64 1 2 (O6 3 65 64 (OP 4 66 (.len (.tmp 65)) (.two (OP 5 67 (.makeSlice 3 1 8 [(.int .i64 0)] (.tmp 66) (.tmp 66)) (OP 6 68 (.build [(.int .i64 0),(.slice none 0 0),(.slice none 0 0),(.slice none 0 0),(.slice none 0 0),(.slice none 0 0),(.slice none 0 0),(.slice none 0 0),(.bool false),(.slice none 0 0)] [(0,(8,(.tmp 62))),(8,(1,(.tmp 63))),(9,(1,(.tmp 67)))]) (.two (OP 7 69 (.box 130 (.tmp 68)) (OP 8 8 (.alloc 128 [(.pointer none)]) (OS 9 (.store 1 (.tmp 8) (.tmp 69)) .done))) (OP 8 8 (.alloc 128 [(.pointer none)]) (OP 7 69 (.box 130 (.tmp 68)) (OS 9 (.store 1 (.tmp 8) (.tmp 69)) .done)))))) (OP 8 8 (.alloc 128 [(.pointer none)]) (OP 5 67 (.makeSlice 3 1 8 [(.int .i64 0)] (.tmp 66) (.tmp 66)) (OP 6 68 (.build [(.int .i64 0),(.slice none 0 0),(.slice none 0 0),(.slice none 0 0),(.slice none 0 0),(.slice none 0 0),(.slice none 0 0),(.slice none 0 0),(.bool false),(.slice none 0 0)] [(0,(8,(.tmp 62))),(8,(1,(.tmp 63))),(9,(1,(.tmp 67)))]) (OP 7 69 (.box 130 (.tmp 68)) (OS 9 (.store 1 (.tmp 8) (.tmp 69)) .done)))))))))))
abbrev g_q1_r15:GR:=(OP 0 70 .makeMap (OP 1 9 (.alloc 131 [(Value.map none)]) (OS 2 (.store 1 (.tmp 9) (.tmp 70)) .done)))
abbrev g_q1_r16:GR:=(O3 0 71 1 2 (O2 1 72 71 (OP 2 73 (.call 94 [(.tmp 72)]) .done)))
abbrev g_q1_r17:GR:=(O1 0 10 74 .done)
abbrev g_q1_r18:GR:=(OP 0 11 (.alloc 63 [(.int .i64 0),(.int .i64 0),(.int .i64 0),(.int .u64 0),(.int .i64 0)]) (OS 1 (.store 5 (.tmp 11) (.tmp 75)) .done))
abbrev g_q1_r19:GR:=(O2 0 76 8 (OP 1 77 (.nilCheck (.tmp 76)) (O3 2 78 9 77 (O2 3 79 78 (O1 4 80 10 (O4 5 81 1 79 80 (OS 6 (.store 1 (.tmp 81) (K (-1))) .done)))))))
abbrev g_q1_r20:GR:=(O2 0 83 9 (O3 1 84 0 11 (O2 2 85 84 (OP 3 86 (.lookup true (.int .i64 0) (.tmp 83) (.tmp 85)) (O1 4 82 86 (OP 5 87 (.extract 0 (.tmp 82)) (OP 6 88 (.extract 1 (.tmp 82)) (O1 7 12 87 (O1 8 13 88 .done)))))))))
abbrev g_q1_r21:GR:=(O1 0 89 13 (O1 1 90 89 (OG 2 91 90 true (.fieldAddr 0 (.tmp 11)) (OG 3 92 90 true (.load none (.tmp 91)) (OG 4 93 90 true (.bin .geq (.tmp 92) (K 0)) (OP 5 94 (.pick (.tmp 90) (.tmp 93) (.const (.bool false))) .done))))))
abbrev g_q1_r22:GR:=(O2 0 95 8 (OP 1 96 (.nilCheck (.tmp 95)) (O3 2 97 9 96 (O2 3 98 97 (O1 4 99 10 (O1 5 100 12 (O4 6 101 1 98 99 (OS 7 (.store 1 (.tmp 101) (.tmp 100)) .done))))))))
abbrev g_q1_r23:GR:=(O2 0 102 9 (O3 1 103 0 11 (O2 2 104 103 (O1 3 105 10 (OS 4 (.mapSet (.tmp 102) (.tmp 104) (.tmp 105)) .done)))))
abbrev g_q1_b24:GC:=(.block 3 (.seq (.reg g_q1_r19 [8,9,10,11]) (.seq (.seq (.reg g_q1_r20 [8,9,10,11,12,13]) (.seq (.reg g_q1_r21 [8,9,10,11,12,94]) (.cond (.tmp 94) (.reg g_q1_r22 [9,10,11]) .skip))) (.reg g_q1_r23 []))))
abbrev g_q1_r25:GR:=(O2 0 106 8 (OP 1 107 (.call 95 [(.tmp 106)]) (O1 2 14 107 .done)))
abbrev g_q1_r26:GR:=(O1 0 108 14 (OP 1 109 (.bin .geq (.tmp 108) (K 0)) .done))
abbrev g_q1_r27:GR:=(O1 0 110 14 (OP 1 4 (.mv (K 3)) (O1 2 5 110 .done)))
abbrev g_q1_r28:GR:=(O2 0 111 8 (OP 1 112 (.call 96 [(.tmp 111)]) (O1 2 15 112 .done)))
abbrev g_q1_r29:GR:=(O1 0 113 15 (OP 1 114 (.bin .geq (.tmp 113) (K 0)) .done))
abbrev g_q1_r30:GR:=(O1 0 115 15 (OP 1 4 (.mv (K 4)) (O1 2 5 115 .done)))
abbrev g_q1_r31:GR:=(O2 0 116 8 (OP 1 117 (.call 97 [(.tmp 116)]) (O1 2 16 117 .done)))
abbrev g_q1_r32:GR:=(O1 0 118 16 (OP 1 119 (.bin .geq (.tmp 118) (K 0)) .done))
abbrev g_q1_r33:GR:=(O1 0 120 16 (OP 1 4 (.mv (K 5)) (O1 2 5 120 .done)))
abbrev g_q1_r34:GR:=(O2 0 121 8 (OP 1 122 (.call 98 [(.tmp 121)]) (O1 2 17 122 .done)))
abbrev g_q1_r35:GR:=(O1 0 123 17 (OP 1 124 (.bin .geq (.tmp 123) (K 0)) .done))
abbrev g_q1_r36:GR:=(O1 0 125 17 (OP 1 4 (.mv (K 6)) (O1 2 5 125 .done)))
abbrev g_q1_r37:GR:=(O2 0 126 8 (O3 1 127 5 2 (O2 2 128 127 (OP 3 129 (.buildSlice 3 2 [(.int .i64 0),(.int .i64 0)] [(0,(1,(K 1))),(1,(1,(K 2)))]) (OP 4 130 (.call 99 [(.tmp 126),(.tmp 128),(.tmp 129)]) (O1 5 18 130 .done))))))
abbrev g_q1_r38:GR:=(O1 0 131 18 (OP 1 132 (.bin .geq (.tmp 131) (K 0)) .done))
abbrev g_q1_r39:GR:=(O1 0 133 18 (OP 1 4 (.mv (K 7)) (O1 2 5 133 .done)))
abbrev g_q1_r40:GR:=(O2 0 134 8 (O3 1 135 6 2 (O2 2 136 135 (OP 3 137 (.buildSlice 3 1 [(.int .i64 0)] [(0,(1,(K 2)))]) (OP 4 138 (.call 99 [(.tmp 134),(.tmp 136),(.tmp 137)]) (O1 5 19 138 .done))))))
abbrev g_q1_r41:GR:=(O1 0 139 19 (OP 1 140 (.bin .geq (.tmp 139) (K 0)) .done))
abbrev g_q1_r42:GR:=(O1 0 141 19 (OP 1 4 (.mv (K 8)) (O1 2 5 141 .done)))
abbrev g_q1_r43:GR:=(O2 0 142 8 (O3 1 143 7 2 (O2 2 144 143 (OP 3 145 (.buildSlice 3 3 [(.int .i64 0),(.int .i64 0),(.int .i64 0)] [(0,(1,(K 1))),(1,(1,(K 2))),(2,(1,(K 3)))]) (OP 4 146 (.call 99 [(.tmp 142),(.tmp 144),(.tmp 145)]) (O1 5 20 146 .done))))))
abbrev g_q1_r44:GR:=(O1 0 147 20 (OP 1 148 (.bin .geq (.tmp 147) (K 0)) .done))
abbrev g_q1_r45:GR:=(O1 0 149 20 (OP 1 4 (.mv (K 9)) (O1 2 5 149 .done)))
abbrev g_q1_r46:GR:=(OP 0 4 (.mv (K 0)) (OP 1 5 (.mv (K 0)) .done))
abbrev g_q1:GC:=(.seq (.reg g_q1_r0 [1,2,4,5]) (.seq (.seq (.reg g_q1_r1 [1,2,4,5,42]) (.cond (.tmp 42) (.seq (.reg g_q1_r2 [4,5]) .ret) .skip)) (.seq (.reg g_q1_r3 [1,2,4,5,6]) (.seq (.seq (.reg g_q1_r4 [1,2,4,5,6,44]) (.cond (.tmp 44) (.reg g_q1_r5 [1,2,4,5,6]) .skip)) (.seq (.seq (.reg g_q1_r6 [1,2,4,5,6,47,48]) (.block 0 (.loop g_q1_l13))) (.seq (.reg g_q1_r14 [2,4,5,8]) (.seq (.reg g_q1_r15 [2,4,5,8,9]) (.seq (.seq (.reg g_q1_r16 [2,4,5,8,9,73]) (.block 2 (.rng (.tmp 73) [74,75] (.seq (.reg g_q1_r17 [8,9,10,75]) (.reg g_q1_r18 [8,9,10,11])) g_q1_b24))) (.seq (.seq (.reg g_q1_r25 [2,8,14]) (.seq (.reg g_q1_r26 [2,8,14,109]) (.cond (.tmp 109) (.seq (.reg g_q1_r27 [4,5]) .ret) .skip))) (.seq (.seq (.reg g_q1_r28 [2,8,15]) (.seq (.reg g_q1_r29 [2,8,15,114]) (.cond (.tmp 114) (.seq (.reg g_q1_r30 [4,5]) .ret) .skip))) (.seq (.seq (.reg g_q1_r31 [2,8,16]) (.seq (.reg g_q1_r32 [2,8,16,119]) (.cond (.tmp 119) (.seq (.reg g_q1_r33 [4,5]) .ret) .skip))) (.seq (.seq (.reg g_q1_r34 [2,8,17]) (.seq (.reg g_q1_r35 [2,8,17,124]) (.cond (.tmp 124) (.seq (.reg g_q1_r36 [4,5]) .ret) .skip))) (.seq (.seq (.reg g_q1_r37 [2,8,18]) (.seq (.reg g_q1_r38 [2,8,18,132]) (.cond (.tmp 132) (.seq (.reg g_q1_r39 [4,5]) .ret) .skip))) (.seq (.seq (.reg g_q1_r40 [2,8,19]) (.seq (.reg g_q1_r41 [2,8,19,140]) (.cond (.tmp 140) (.seq (.reg g_q1_r42 [4,5]) .ret) .skip))) (.seq (.seq (.reg g_q1_r43 [20]) (.seq (.reg g_q1_r44 [20,148]) (.cond (.tmp 148) (.seq (.reg g_q1_r45 [4,5]) .ret) .skip))) (.seq (.reg g_q1_r46 [4,5]) .ret))))))))))))))))
abbrev rs_q1:List RV:=[(.tmp 4),(.tmp 5)]
theorem gc_q1:compileF Tryz.prog Tryz.f67 T_q1=some (g_q1,rs_q1):=by kernel_rfl
theorem con_q1 (hR:∀ v h1 h2,Ext h.size h1 h2→R v h1→R v h2) (hv:vc Tryz.prog y g_q1 (retQ rs_q1 R) [(0,a0),(1,a1)] h):ConX y Tryz.prog 67 #[a0,a1] h R:=con_of Tryz.func67 gc_q1 rfl (fun _=>hR) hv
def T_q102:List (Nat×List Nat):=[(0,[0]),(1,[0,4]),(2,[2]),(3,[2])]
abbrev g_q102_r0:GR:=(OP 0 2 (.mv (.const (.slice none 0 0))) .done)
abbrev g_q102_r1:GR:=(O1 0 3 0 (OP 1 4 (.eqNil true false (.tmp 3) (.const (.slice none 0 0))) .done))
abbrev g_q102_r2:GR:=(OP 0 2 (.mv (.const (.slice none 0 0))) .done)
abbrev g_q102_r3:GR:=(OP 0 5 (.buildSlice 63 0 [] []) (O1 1 6 0 (OP 2 7 (.append 63 5 40 [(.int .i64 0),(.int .i64 0),(.int .i64 0),(.int .u64 0),(.int .i64 0)] (.tmp 5) (.tmp 6)) (O1 3 2 7 .done))))
abbrev g_q102:GC:=(.seq (.reg g_q102_r0 [0]) (.seq (.seq (.reg g_q102_r1 [0,4]) (.cond (.tmp 4) (.seq (.reg g_q102_r2 [2]) .ret) .skip)) (.seq (.reg g_q102_r3 [2]) .ret)))
abbrev rs_q102:List RV:=[(.tmp 2)]
theorem gc_q102:compileF Tryz.prog Tryz.f68 T_q102=some (g_q102,rs_q102):=by kernel_rfl
theorem con_q102 (hv:vc Tryz.prog y g_q102 (retQ rs_q102 R) [(0,a0)] h):ConX y Tryz.prog 68 #[a0] h R:=con_of Tryz.func68 gc_q102 rfl (fun h=>absurd h (by decide)) hv
def T_q103:List (Nat×List Nat):=[(0,[0]),(1,[0,4]),(2,[2]),(3,[2])]
abbrev g_q103_r0:GR:=(OP 0 2 (.mv (.const (.slice none 0 0))) .done)
abbrev g_q103_r1:GR:=(O1 0 3 0 (OP 1 4 (.eqNil true false (.tmp 3) (.const (.slice none 0 0))) .done))
abbrev g_q103_r2:GR:=(OP 0 2 (.mv (.const (.slice none 0 0))) .done)
abbrev g_q103_r3:GR:=(OP 0 5 (.buildSlice 76 0 [] []) (O1 1 6 0 (OP 2 7 (.append 76 2 16 [(.int .i64 0),(.int .i64 0)] (.tmp 5) (.tmp 6)) (O1 3 2 7 .done))))
abbrev g_q103:GC:=(.seq (.reg g_q103_r0 [0]) (.seq (.seq (.reg g_q103_r1 [0,4]) (.cond (.tmp 4) (.seq (.reg g_q103_r2 [2]) .ret) .skip)) (.seq (.reg g_q103_r3 [2]) .ret)))
abbrev rs_q103:List RV:=[(.tmp 2)]
theorem gc_q103:compileF Tryz.prog Tryz.f69 T_q103=some (g_q103,rs_q103):=by kernel_rfl
theorem con_q103 (hv:vc Tryz.prog y g_q103 (retQ rs_q103 R) [(0,a0)] h):ConX y Tryz.prog 69 #[a0] h R:=con_of Tryz.func69 gc_q103 rfl (fun h=>absurd h (by decide)) hv
def T_q101:List (Nat×List Nat):=[(0,[0]),(1,[0,4]),(2,[2]),(3,[2])]
abbrev g_q101_r0:GR:=(OP 0 2 (.mv (.const (.slice none 0 0))) .done)
abbrev g_q101_r1:GR:=(O1 0 3 0 (OP 1 4 (.eqNil true false (.tmp 3) (.const (.slice none 0 0))) .done))
abbrev g_q101_r2:GR:=(OP 0 2 (.mv (.const (.slice none 0 0))) .done)
abbrev g_q101_r3:GR:=(OP 0 5 (.buildSlice 3 0 [] []) (O1 1 6 0 (OP 2 7 (.append 3 1 8 [(.int .i64 0)] (.tmp 5) (.tmp 6)) (O1 3 2 7 .done))))
abbrev g_q101:GC:=(.seq (.reg g_q101_r0 [0]) (.seq (.seq (.reg g_q101_r1 [0,4]) (.cond (.tmp 4) (.seq (.reg g_q101_r2 [2]) .ret) .skip)) (.seq (.reg g_q101_r3 [2]) .ret)))
abbrev rs_q101:List RV:=[(.tmp 2)]
theorem gc_q101:compileF Tryz.prog Tryz.f70 T_q101=some (g_q101,rs_q101):=by kernel_rfl
theorem con_q101 (hv:vc Tryz.prog y g_q101 (retQ rs_q101 R) [(0,a0)] h):ConX y Tryz.prog 70 #[a0] h R:=con_of Tryz.func70 gc_q101 rfl (fun h=>absurd h (by decide)) hv
def T_q95:List (Nat×List Nat):=[(0,[1]),(1,[1,3]),(2,[2]),(3,[1,12]),(4,[2]),(5,[1,16]),(6,[2]),(7,[20]),(8,[2]),(9,[2])]
abbrev g_q95_r0:GR:=(OP 0 1 (.box 63 (.tmp 0)) (OP 1 2 (.mv (K 0)) .done))
abbrev g_q95_r1:GR:=(O3 0 4 1 1 (O2 1 5 4 (OP 2 6 (.bin .eql (.tmp 5) (K 3)) (O1 3 7 6 (OG 4 8 7 true (.fieldAddr 4 (.tmp 1)) (OG 5 9 7 true (.load none (.tmp 8)) (OG 6 10 7 true (.bin .eql (.tmp 9) (K 2)) (OP 7 11 (.pick (.tmp 7) (.tmp 10) (.const (.bool false))) (O1 8 3 11 .done)))))))))
abbrev g_q95_r2:GR:=(OP 0 2 (.mv (K 14)) .done)
abbrev g_q95_r3:GR:=(O3 0 13 1 1 (O2 1 14 13 (OP 2 15 (.bin .eql (.tmp 14) (K 3)) (O1 3 12 15 .done))))
abbrev g_q95_r4:GR:=(OP 0 2 (.mv (K 15)) .done)
abbrev g_q95_r5:GR:=(O3 0 17 4 1 (O2 1 18 17 (OP 2 19 (.bin .eql (.tmp 18) (K 1)) (O1 3 16 19 .done))))
abbrev g_q95_r6:GR:=(OP 0 2 (.mv (K 11)) .done)
abbrev g_q95_r7:GR:=(O3 0 21 1 1 (O2 1 22 21 (OP 2 23 (.bin .eql (.tmp 22) (K 1)) (O1 3 20 23 .done))))
abbrev g_q95_r8:GR:=(OP 0 2 (.mv (K 12)) .done)
abbrev g_q95_r9:GR:=(OP 0 2 (.mv (K 13)) .done)
abbrev g_q95:GC:=(.seq (.reg g_q95_r0 [1]) (.seq (.block 0 (.seq (.reg g_q95_r1 [1,3]) (.cond (.tmp 3) (.seq (.reg g_q95_r2 [2]) .ret) (.seq (.reg g_q95_r3 [1,12]) (.cond (.tmp 12) (.seq (.reg g_q95_r4 [2]) .ret) (.seq (.reg g_q95_r5 [1,16]) (.cond (.tmp 16) (.seq (.reg g_q95_r6 [2]) .ret) (.seq (.reg g_q95_r7 [20]) (.cond (.tmp 20) (.seq (.reg g_q95_r8 [2]) .ret) .skip))))))))) (.seq (.reg g_q95_r9 [2]) .ret)))
abbrev rs_q95:List RV:=[(.tmp 2)]
theorem gc_q95:compileF Tryz.prog Tryz.f71 T_q95=some (g_q95,rs_q95):=by kernel_rfl
theorem con_q95 (hv:vc Tryz.prog y g_q95 (retQ rs_q95 R) [(0,a0)] h):ConX y Tryz.prog 71 #[a0] h R:=con_of Tryz.func71 gc_q95 rfl (fun h=>absurd h (by decide)) hv
def T_q3:List (Nat×List Nat):=[(0,[1,2]),(1,[1,2,5]),(2,[1,5,9,10,11]),(3,[1,5,9,10,11,12]),(4,[1,5,6,7,9,10,11]),(5,[1,5,6,9,10,11,19]),(6,[1,5,9,10,11]),(7,[1,5,9,10,11]),(8,[4])]
abbrev g_q3_r0:GR:=(OP 0 2 (.box 26 (.tmp 0)) (OP 1 4 (.mv (.const (.slice none 0 0))) .done))
abbrev g_q3_r1:GR:=(OP 0 5 (.mv (.const (.slice none 0 0))) .done)
abbrev g_q3_r2:GR:=(O3 0 8 1 2 (O2 1 9 8 (OP 2 10 (.len (.tmp 9)) (OP 3 11 (.mv (K 0)) .done))))
abbrev g_q3_r3:GR:=(O5 0 12 .lss 11 10 .done)
abbrev g_q3_r4:GR:=(O1 0 13 11 (O4 1 14 5 9 11 (OP 2 15 (.load (some 5) (.tmp 14)) (OP 3 7 (.alloc 63 [(.int .i64 0),(.int .i64 0),(.int .i64 0),(.int .u64 0),(.int .i64 0)]) (O1 4 6 13 (OS 5 (.store 5 (.tmp 7) (.tmp 15)) .done))))))
abbrev g_q3_r5:GR:=(O3 0 16 0 7 (O2 1 17 16 (O1 2 18 1 (O5 3 19 .eql 17 18 .done))))
abbrev g_q3_r6:GR:=(O1 0 20 5 (O1 1 21 6 (OP 2 22 (.buildSlice 3 1 [(.int .i64 0)] [(0,(1,(.tmp 21)))]) (OP 3 23 (.append 3 1 8 [(.int .i64 0)] (.tmp 20) (.tmp 22)) (O1 4 5 23 .done)))))
abbrev g_q3_r7:GR:=(OP 0 24 (.bin .add (.tmp 11) (K 1)) (O1 1 11 24 .done))
abbrev g_q3_l8:GC:=(.seq (.reg g_q3_r3 [1,5,9,10,11,12]) (.seq (.cond (.tmp 12) .skip (.exit 0)) (.seq (.block 1 (.seq (.reg g_q3_r4 [1,5,6,7,9,10,11]) (.seq (.reg g_q3_r5 [1,5,6,9,10,11,19]) (.cond (.tmp 19) (.reg g_q3_r6 [1,5,9,10,11]) .skip)))) (.reg g_q3_r7 [1,5,9,10,11]))))
abbrev g_q3_r9:GR:=(O1 0 25 5 (O1 1 4 25 .done))
abbrev g_q3:GC:=(.seq (.reg g_q3_r0 [1,2]) (.seq (.reg g_q3_r1 [1,2,5]) (.seq (.seq (.reg g_q3_r2 [1,5,9,10,11]) (.block 0 (.loop g_q3_l8))) (.seq (.reg g_q3_r9 [4]) .ret))))
abbrev rs_q3:List RV:=[(.tmp 4)]
theorem gc_q3:compileF Tryz.prog Tryz.f72 T_q3=some (g_q3,rs_q3):=by kernel_rfl
theorem con_q3 (hv:vc Tryz.prog y g_q3 (retQ rs_q3 R) [(0,a0),(1,a1)] h):ConX y Tryz.prog 72 #[a0,a1] h R:=con_of Tryz.func72 gc_q3 rfl (fun h=>absurd h (by decide)) hv
def T_q22:List (Nat×List Nat):=[(0,[0,1,2,3,8]),(1,[0,2,3,8,9]),(2,[2,3,8,9]),(3,[2,3,8,9,10]),(4,[3,8,9,10]),(5,[3,8,9,10,11]),(6,[8,9,10,11]),(7,[8,9]),(8,[8])]
abbrev g_q22_r0:GR:=(OP 0 8 (.alloc 26 [(.int .i64 0),(.slice none 0 0),(.slice none 0 0),(.slice none 0 0),(.slice none 0 0),(.slice none 0 0),(.slice none 0 0),(.slice none 0 0)]) .done)
abbrev g_q22_r1:GR:=(OP 0 12 (.call 74 [(K (-1)),(K 2),(K 0),(.const (.int .u64 0)),(K 1)]) (OP 1 13 (.call 74 [(K (-1)),(K 2),(K 1),(.const (.int .u64 0)),(K 1)]) (OP 2 14 (.buildSlice 63 2 [(.int .i64 0),(.int .i64 0),(.int .i64 0),(.int .u64 0),(.int .i64 0),(.int .i64 0),(.int .i64 0),(.int .i64 0),(.int .u64 0),(.int .i64 0)] [(0,(5,(.tmp 12))),(5,(5,(.tmp 13)))]) (O1 3 15 1 (OP 4 16 (.build [(.int .i64 0),(.slice none 0 0),(.slice none 0 0),(.slice none 0 0),(.slice none 0 0),(.slice none 0 0),(.slice none 0 0),(.slice none 0 0)] [(0,(1,(K 2))),(1,(1,(.tmp 14))),(2,(1,(.tmp 15)))]) (OP 5 9 (.alloc 26 [(.int .i64 0),(.slice none 0 0),(.slice none 0 0),(.slice none 0 0),(.slice none 0 0),(.slice none 0 0),(.slice none 0 0),(.slice none 0 0)]) (OS 6 (.store 8 (.tmp 9) (.tmp 16)) .done)))))))
abbrev g_q22_r2:GR:=(O3 0 17 1 9 (O2 1 18 17 (O1 2 19 0 (OP 3 20 (.append 63 5 40 [(.int .i64 0),(.int .i64 0),(.int .i64 0),(.int .u64 0),(.int .i64 0)] (.tmp 18) (.tmp 19)) (O3 4 21 1 9 (OS 5 (.store 1 (.tmp 21) (.tmp 20)) .done))))))
abbrev g_q22_r3:GR:=(OP 0 22 (.buildSlice 3 1 [(.int .i64 0)] [(0,(1,(K 0)))]) (O1 1 10 22 .done))
abbrev g_q22_r4:GR:=(O1 0 23 10 (O1 1 24 2 (OP 2 25 (.append 3 1 8 [(.int .i64 0)] (.tmp 23) (.tmp 24)) (O1 3 10 25 .done))))
abbrev g_q22_r5:GR:=(OP 0 26 (.buildSlice 3 1 [(.int .i64 0)] [(0,(1,(K 1)))]) (O1 1 11 26 .done))
abbrev g_q22_r6:GR:=(O1 0 27 11 (O1 1 28 3 (OP 2 29 (.append 3 1 8 [(.int .i64 0)] (.tmp 27) (.tmp 28)) (O1 3 11 29 .done))))
abbrev g_q22_r7:GR:=(O1 0 30 10 (O1 1 31 11 (OP 2 32 (.buildSlice 28 2 [(.slice none 0 0),(.slice none 0 0)] [(0,(1,(.tmp 30))),(1,(1,(.tmp 31)))]) (O3 3 33 3 9 (OS 4 (.store 1 (.tmp 33) (.tmp 32)) .done)))))
abbrev g_q22_r8:GR:=(OP 0 34 (.load (some 8) (.tmp 9)) (OS 1 (.store 8 (.tmp 8) (.tmp 34)) .done))
abbrev g_q22:GC:=(.seq (.reg g_q22_r0 [0,1,2,3,8]) (.seq (.reg g_q22_r1 [0,2,3,8,9]) (.seq (.reg g_q22_r2 [2,3,8,9]) (.seq (.reg g_q22_r3 [2,3,8,9,10]) (.seq (.reg g_q22_r4 [3,8,9,10]) (.seq (.reg g_q22_r5 [3,8,9,10,11]) (.seq (.reg g_q22_r6 [8,9,10,11]) (.seq (.reg g_q22_r7 [8,9]) (.seq (.reg g_q22_r8 [8]) .ret)))))))))
abbrev rs_q22:List RV:=[(.cell 8 (some 8))]
theorem gc_q22:compileF Tryz.prog Tryz.f73 T_q22=some (g_q22,rs_q22):=by kernel_rfl
theorem con_q22 (hv:vc Tryz.prog y g_q22 (retQ rs_q22 R) [(0,a0),(1,a1),(2,a2),(3,a3)] h):ConX y Tryz.prog 73 #[a0,a1,a2,a3] h R:=con_of Tryz.func73 gc_q22 rfl (fun h=>absurd h (by decide)) hv
def T_q16:List (Nat×List Nat):=[(0,[0,1,2,3,4,10]),(1,[10])]
abbrev g_q16_r0:GR:=(OP 0 10 (.alloc 63 [(.int .i64 0),(.int .i64 0),(.int .i64 0),(.int .u64 0),(.int .i64 0)]) .done)
abbrev g_q16_r1:GR:=(O1 0 11 0 (O1 1 12 1 (O1 2 13 2 (O1 3 14 3 (O1 4 15 4 (OP 5 16 (.build [(.int .i64 0),(.int .i64 0),(.int .i64 0),(.int .u64 0),(.int .i64 0)] [(0,(1,(.tmp 11))),(1,(1,(.tmp 12))),(2,(1,(.tmp 13))),(3,(1,(.tmp 14))),(4,(1,(.tmp 15)))]) (OS 6 (.store 5 (.tmp 10) (.tmp 16)) .done)))))))
abbrev g_q16:GC:=(.seq (.reg g_q16_r0 [0,1,2,3,4,10]) (.seq (.reg g_q16_r1 [10]) .ret))
abbrev rs_q16:List RV:=[(.cell 10 (some 5))]
theorem gc_q16:compileF Tryz.prog Tryz.f74 T_q16=some (g_q16,rs_q16):=by kernel_rfl
theorem con_q16 (hv:vc Tryz.prog y g_q16 (retQ rs_q16 R) [(0,a0),(1,a1),(2,a2),(3,a3),(4,a4)] h):ConX y Tryz.prog 74 #[a0,a1,a2,a3,a4] h R:=con_of Tryz.func74 gc_q16 rfl (fun h=>absurd h (by decide)) hv
def T_q78:List (Nat×List Nat):=[(0,[0,1,2]),(1,[6])]
abbrev g_q78_r0:GR:=(OP 0 6 (.mv (.const (.bool false))) .done)
abbrev g_q78_r1:GR:=(O1 0 7 1 (OP 1 8 (.bin .geq (.tmp 7) (K 0)) (O1 2 9 8 (OG 3 10 9 true (.mv (.tmp 1)) (OG 4 11 9 true (.mv (.tmp 0)) (OG 5 12 9 true (.nilCheck (.tmp 11)) (OG 6 13 9 true (.fieldAddr 0 (.tmp 12)) (OG 7 14 9 true (.load none (.tmp 13)) (OG 8 15 9 true (.bin .lss (.tmp 10) (.tmp 14)) (OP 9 16 (.pick (.tmp 9) (.tmp 15) (.const (.bool false))) (O1 10 17 16 (OG 11 18 17 true (.mv (.tmp 2)) (OG 12 19 17 true (.bin .geq (.tmp 18) (K 0)) (OP 13 20 (.pick (.tmp 17) (.tmp 19) (.const (.bool false))) (O1 14 21 20 (OG 15 22 21 true (.mv (.tmp 2)) (OG 16 23 21 true (.mv (.tmp 0)) (OG 17 24 21 true (.nilCheck (.tmp 23)) (OG 18 25 21 true (.fieldAddr 0 (.tmp 24)) (OG 19 26 21 true (.load none (.tmp 25)) (OG 20 27 21 true (.bin .lss (.tmp 22) (.tmp 26)) (OP 21 28 (.pick (.tmp 21) (.tmp 27) (.const (.bool false))) (O1 22 6 28 .done)))))))))))))))))))))))
abbrev g_q78:GC:=(.seq (.reg g_q78_r0 [0,1,2]) (.seq (.reg g_q78_r1 [6]) .ret))
abbrev rs_q78:List RV:=[(.tmp 6)]
theorem gc_q78:compileF Tryz.prog Tryz.f75 T_q78=some (g_q78,rs_q78):=by kernel_rfl
theorem con_q78 (hv:vc Tryz.prog y g_q78 (retQ rs_q78 R) [(0,a0),(1,a1),(2,a2)] h):ConX y Tryz.prog 75 #[a0,a1,a2] h R:=con_of Tryz.func75 gc_q78 rfl (fun h=>absurd h (by decide)) hv
def T_q83:List (Nat×List Nat):=[(0,[0,1]),(1,[4])]
abbrev g_q83_r0:GR:=(OP 0 4 (.mv (.const (.bool false))) .done)
abbrev g_q83_r1:GR:=(O1 0 5 0 (O1 1 6 1 (OP 2 7 (.bin .quo (.tmp 6) (K 64)) (O4 3 8 1 5 7 (O2 4 9 8 (O1 5 10 1 (OP 6 11 (.bin .rem (.tmp 10) (K 64)) (OP 7 12 (.shift .shr (.tmp 9) (.tmp 11)) (OP 8 13 (.bin .and (.tmp 12) (.const (.int .u64 1))) (OP 9 14 (.bin .eql (.tmp 13) (.const (.int .u64 1))) (O1 10 4 14 .done)))))))))))
abbrev g_q83:GC:=(.seq (.reg g_q83_r0 [0,1]) (.seq (.reg g_q83_r1 [4]) .ret))
abbrev rs_q83:List RV:=[(.tmp 4)]
theorem gc_q83:compileF Tryz.prog Tryz.f76 T_q83=some (g_q83,rs_q83):=by kernel_rfl
theorem con_q83 (hv:vc Tryz.prog y g_q83 (retQ rs_q83 R) [(0,a0),(1,a1)] h):ConX y Tryz.prog 76 #[a0,a1] h R:=con_of Tryz.func76 gc_q83 rfl (fun h=>absurd h (by decide)) hv
def T_q85:List (Nat×List Nat):=[(0,[1]),(1,[2])]
abbrev g_q85_r0:GR:=(OP 0 1 (.box 109 (.tmp 0)) (OP 1 2 (.mv (.const Value.nilFunc)) .done))
abbrev g_q85_r1:GR:=(OP 0 3 (.makeFunc (Fn.func 100) [] [(.tmp 1)]) (O1 1 2 3 .done))
abbrev g_q85:GC:=(.seq (.reg g_q85_r0 [1]) (.seq (.reg g_q85_r1 [2]) .ret))
abbrev rs_q85:List RV:=[(.tmp 2)]
theorem gc_q85:compileF Tryz.prog Tryz.f77 T_q85=some (g_q85,rs_q85):=by kernel_rfl
theorem con_q85 (hv:vc Tryz.prog y g_q85 (retQ rs_q85 R) [(0,a0)] h):ConX y Tryz.prog 77 #[a0] h R:=con_of Tryz.func77 gc_q85 rfl (fun h=>absurd h (by decide)) hv
def T_q84:List (Nat×List Nat):=[(0,[0,7,8,9]),(1,[0,7,8,9,10]),(2,[0,5,7,8,9]),(3,[0,5,7,8,9,17,18]),(4,[0,5,7,8,9,17,18,19]),(5,[0,5,6,7,8,9,17,18]),(6,[0,5,7,8,9,17,18]),(7,[0,5,7,8,9,17,18]),(8,[0,7,8,9])]
abbrev g_q84_r0:GR:=(O1 0 7 1 (OP 1 8 (.len (.tmp 7)) (OP 2 9 (.mv (K 0)) .done)))
abbrev g_q84_r1:GR:=(O5 0 10 .lss 9 8 .done)
abbrev g_q84_r2:GR:=(O4 0 11 1 7 9 (O2 1 12 11 (O1 2 5 12 .done)))
abbrev g_q84_r3:GR:=(O1 0 13 0 (OP 1 14 (.len (.tmp 13)) (O1 2 15 5 (OP 3 16 (.len (.tmp 15)) (OP 4 17 (.mini (.tmp 14) (.tmp 16)) (OP 5 18 (.mv (K 0)) .done))))))
abbrev g_q84_r4:GR:=(O5 0 19 .lss 18 17 .done)
abbrev g_q84_r5:GR:=(O1 0 20 18 (O1 1 6 20 .done))
abbrev g_q84_r6:GR:=(O1 0 21 0 (O1 1 22 6 (O4 2 23 1 21 22 (O6 3 24 23 (O1 4 25 5 (O1 5 26 6 (O4 6 27 1 25 26 (O6 7 28 27 (O5 8 29 .or 24 28 (O4 9 30 1 21 22 (OS 10 (.store 1 (.tmp 30) (.tmp 29)) .done)))))))))))
abbrev g_q84_r7:GR:=(OP 0 31 (.bin .add (.tmp 18) (K 1)) (O1 1 18 31 .done))
abbrev g_q84_l8:GC:=(.seq (.reg g_q84_r4 [0,5,7,8,9,17,18,19]) (.seq (.cond (.tmp 19) .skip (.exit 2)) (.seq (.block 3 (.seq (.reg g_q84_r5 [0,5,6,7,8,9,17,18]) (.reg g_q84_r6 [0,5,7,8,9,17,18]))) (.reg g_q84_r7 [0,5,7,8,9,17,18]))))
abbrev g_q84_r9:GR:=(OP 0 32 (.bin .add (.tmp 9) (K 1)) (O1 1 9 32 .done))
abbrev g_q84_l10:GC:=(.seq (.reg g_q84_r1 [0,7,8,9,10]) (.seq (.cond (.tmp 10) .skip (.exit 0)) (.seq (.block 1 (.seq (.reg g_q84_r2 [0,5,7,8,9]) (.seq (.reg g_q84_r3 [0,5,7,8,9,17,18]) (.block 2 (.loop g_q84_l8))))) (.reg g_q84_r9 [0,7,8,9]))))
abbrev g_q84:GC:=(.seq (.reg g_q84_r0 [0,7,8,9]) (.block 0 (.loop g_q84_l10)))
abbrev rs_q84:List RV:=[]
theorem gc_q84:compileF Tryz.prog Tryz.f78 T_q84=some (g_q84,rs_q84):=by kernel_rfl
theorem con_q84 (hv:vc Tryz.prog y g_q84 (retQ rs_q84 R) [(0,a0),(1,a1)] h):ConX y Tryz.prog 78 #[a0,a1] h R:=con_of Tryz.func78 gc_q84 rfl (fun h=>absurd h (by decide)) hv
def T_q87:List (Nat×List Nat):=[(0,[])]
abbrev g_q87_r0:GR:=(O1 0 4 0 (O1 1 5 1 (OP 2 6 (.bin .quo (.tmp 5) (K 64)) (O4 3 7 1 4 6 (O6 4 8 7 (O1 5 9 1 (OP 6 10 (.bin .rem (.tmp 9) (K 64)) (OP 7 11 (.shift .shl (.const (.int .u64 1)) (.tmp 10)) (O5 8 12 .or 8 11 (O4 9 13 1 4 6 (OS 10 (.store 1 (.tmp 13) (.tmp 12)) .done)))))))))))
abbrev g_q87:GC:=(.reg g_q87_r0 [])
abbrev rs_q87:List RV:=[]
theorem gc_q87:compileF Tryz.prog Tryz.f79 T_q87=some (g_q87,rs_q87):=by kernel_rfl
theorem con_q87 (hv:vc Tryz.prog y g_q87 (retQ rs_q87 R) [(0,a0),(1,a1)] h):ConX y Tryz.prog 79 #[a0,a1] h R:=con_of Tryz.func79 gc_q87 rfl (fun h=>absurd h (by decide)) hv
def T_q74:List (Nat×List Nat):=[(0,[0]),(1,[3]),(2,[3,11,12]),(3,[3,11,12,13]),(4,[3,4,11,12]),(5,[3,4,11,12,18,19]),(6,[3,4,11,12,18,19,20]),(7,[3,4,5,11,12,18,19]),(8,[3,4,5,11,12,18,19,30]),(9,[3,4,11,12,18,19]),(10,[3,4,11,12,18,19]),(11,[3,11,12]),(12,[2])]
abbrev g_q74_r0:GR:=(OP 0 2 (.mv (.const (.pointer none))) .done)
abbrev g_q74_r1:GR:=(O1 0 6 0 (OP 1 7 (.call 102 [(.tmp 6)]) (O1 2 3 7 .done)))
abbrev g_q74_r2:GR:=(O1 0 8 3 (OP 1 9 (.nilCheck (.tmp 8)) (O3 2 10 0 9 (O2 3 11 10 (OP 4 12 (.mv (K 0)) .done)))))
abbrev g_q74_r3:GR:=(O5 0 13 .lss 12 11 .done)
abbrev g_q74_r4:GR:=(O1 0 14 12 (O1 1 4 14 .done))
abbrev g_q74_r5:GR:=(O1 0 15 3 (OP 1 16 (.nilCheck (.tmp 15)) (O3 2 17 0 16 (O2 3 18 17 (OP 4 19 (.mv (K 0)) .done)))))
abbrev g_q74_r6:GR:=(O5 0 20 .lss 19 18 .done)
abbrev g_q74_r7:GR:=(O1 0 21 19 (O1 1 5 21 .done))
abbrev g_q74_r8:GR:=(O1 0 22 3 (OP 1 23 (.nilCheck (.tmp 22)) (O3 2 24 1 23 (O2 3 25 24 (O1 4 26 5 (O4 5 27 1 25 26 (O2 6 28 27 (O1 7 29 4 (OP 8 30 (.call 76 [(.tmp 28),(.tmp 29)]) .done)))))))))
abbrev g_q74_r9:GR:=(O1 0 31 3 (OP 1 32 (.nilCheck (.tmp 31)) (O3 2 33 1 32 (O6 3 34 33 (O1 4 35 5 (O4 5 36 1 34 35 (O6 6 37 36 (O1 7 38 3 (OP 8 39 (.nilCheck (.tmp 38)) (O3 9 40 1 39 (O6 10 41 40 (O1 11 42 4 (O4 12 43 1 41 42 (O6 13 44 43 (OP 14 45 (.buildSlice 109 1 [(.slice none 0 0)] [(0,(1,(.tmp 44)))]) (.op (GI.mk 15 (some 46) none (.call 78 [(.tmp 37),(.tmp 45)]) [3,10,13] false) .done))))))))))))))))
abbrev g_q74_r10:GR:=(OP 0 47 (.bin .add (.tmp 19) (K 1)) (O1 1 19 47 .done))
abbrev g_q74_l11:GC:=(.seq (.reg g_q74_r6 [3,4,11,12,18,19,20]) (.seq (.cond (.tmp 20) .skip (.exit 2)) (.seq (.block 3 (.seq (.reg g_q74_r7 [3,4,5,11,12,18,19]) (.seq (.reg g_q74_r8 [3,4,5,11,12,18,19,30]) (.cond (.tmp 30) (.reg g_q74_r9 [3,4,11,12,18,19]) .skip)))) (.reg g_q74_r10 [3,4,11,12,18,19]))))
abbrev g_q74_r12:GR:=(OP 0 48 (.bin .add (.tmp 12) (K 1)) (O1 1 12 48 .done))
abbrev g_q74_l13:GC:=(.seq (.reg g_q74_r3 [3,11,12,13]) (.seq (.cond (.tmp 13) .skip (.exit 0)) (.seq (.block 1 (.seq (.reg g_q74_r4 [3,4,11,12]) (.seq (.reg g_q74_r5 [3,4,11,12,18,19]) (.block 2 (.loop g_q74_l11))))) (.reg g_q74_r12 [3,11,12]))))
abbrev g_q74_r14:GR:=(O1 0 49 3 (O1 1 2 49 .done))
abbrev g_q74:GC:=(.seq (.reg g_q74_r0 [0]) (.seq (.reg g_q74_r1 [3]) (.seq (.seq (.reg g_q74_r2 [3,11,12]) (.block 0 (.loop g_q74_l13))) (.seq (.reg g_q74_r14 [2]) .ret))))
abbrev rs_q74:List RV:=[(.tmp 2)]
theorem gc_q74:compileF Tryz.prog Tryz.f80 T_q74=some (g_q74,rs_q74):=by kernel_rfl
theorem con_q74 (hv:vc Tryz.prog y g_q74 (retQ rs_q74 R) [(0,a0)] h):ConX y Tryz.prog 80 #[a0] h R:=con_of Tryz.func80 gc_q74 rfl (fun h=>absurd h (by decide)) hv
def T_q79:List (Nat×List Nat):=[(0,[0,1,4]),(1,[0,1,4,5]),(2,[0,1,4,5,6]),(3,[0,1,4,5,6,7]),(4,[0,1,4,5,6,7,8]),(5,[0,1,4,5,6,7,8,27]),(6,[0,1,4,5,6,7,8]),(7,[0,1,4,5,6,7,8,9]),(8,[0,1,4,5,6,7,8,9,30,31,32]),(9,[0,1,4,5,6,7,8,9,30,31,32,33]),(10,[0,1,4,5,6,7,8,9,11,30,31,32]),(11,[0,1,4,5,6,7,8,9,30,31,32,43]),(12,[6,8,9,12]),(13,[6,8,9,12,49]),(14,[9,12]),(15,[]),(16,[0,1,4,5,6,7,8,9,30,31,32]),(17,[0,1,4,5,6,7,8]),(18,[0,1,4,5,6,7,60]),(19,[0,1,4,5,6,7,8]),(20,[0,1,4,6,13]),(21,[0,4,6,13,14]),(22,[0,4,6,13,14,69]),(23,[0,4,6,13,14]),(24,[0,4,6,13,14,84]),(25,[6,13,14,15]),(26,[13,15,91]),(27,[]),(28,[0,4,6,13,96]),(29,[0,4,6,13,14]),(30,[4])]
abbrev g_q79_r0:GR:=(OP 0 4 (.mv (.const (.slice none 0 0))) .done)
abbrev g_q79_r1:GR:=(O1 0 16 0 (OP 1 17 (.call 43 [(.tmp 16)]) (O1 2 5 17 .done)))
abbrev g_q79_r2:GR:=(O1 0 18 0 (OP 1 19 (.nilCheck (.tmp 18)) (O3 2 20 0 19 (O2 3 21 20 (OP 4 22 (.makeSlice 3 1 8 [(.int .i64 0)] (.tmp 21) (.tmp 21)) (OP 5 6 (.alloc 28 [(.slice none 0 0)]) (OS 6 (.store 1 (.tmp 6) (.tmp 22)) .done)))))))
abbrev g_q79_r3:GR:=(O1 0 23 1 (OP 1 24 (.buildSlice 3 1 [(.int .i64 0)] [(0,(1,(.tmp 23)))]) (O1 2 7 24 .done)))
abbrev g_q79_r4:GR:=(OP 0 8 (.alloc 3 [(.int .i64 0)]) (OS 1 (.store 1 (.tmp 8) (K 1)) .done))
abbrev g_q79_r5:GR:=(O1 0 25 7 (OP 1 26 (.len (.tmp 25)) (OP 2 27 (.bin .gtr (.tmp 26) (K 0)) .done)))
abbrev g_q79_r6:GR:=(OP 0 9 (.alloc 28 [(.slice none 0 0)]) .done)
abbrev g_q79_r7:GR:=(O1 0 30 7 (OP 1 31 (.len (.tmp 30)) (OP 2 32 (.mv (K 0)) .done)))
abbrev g_q79_r8:GR:=(O5 0 33 .lss 32 31 .done)
abbrev g_q79_r9:GR:=(O4 0 34 1 30 32 (O2 1 35 34 (O1 2 11 35 .done)))
abbrev g_q79_r10:GR:=(O1 0 36 5 (OP 1 37 (.nilCheck (.tmp 36)) (O3 2 38 1 37 (O2 3 39 38 (O1 4 40 11 (O4 5 41 1 39 40 (O2 6 42 41 (OP 7 43 (.call 77 [(.tmp 42)]) .done))))))))
abbrev g_q79_r11:GR:=(O1 0 12 44 .done)
abbrev g_q79_r12:GR:=(O2 0 45 6 (O1 1 46 12 (O4 2 47 1 45 46 (O2 3 48 47 (OP 4 49 (.bin .eql (.tmp 48) (K 0)) .done)))))
abbrev g_q79_r13:GR:=(O2 0 50 6 (O1 1 51 12 (O2 2 52 8 (O4 3 53 1 50 51 (OS 4 (.store 1 (.tmp 53) (.tmp 52)) .done)))))
abbrev g_q79_r14:GR:=(O2 0 54 9 (O1 1 55 12 (OP 2 56 (.buildSlice 3 1 [(.int .i64 0)] [(0,(1,(.tmp 55)))]) (OP 3 57 (.append 3 1 8 [(.int .i64 0)] (.tmp 54) (.tmp 56)) (OS 4 (.store 1 (.tmp 9) (.tmp 57)) .done)))))
abbrev g_q79_b15:GC:=(.block 5 (.seq (.reg g_q79_r12 [6,8,9,12,49]) (.cond (.tmp 49) (.seq (.reg g_q79_r13 [9,12]) (.reg g_q79_r14 [])) .skip)))
abbrev g_q79_r16:GR:=(OP 0 58 (.bin .add (.tmp 32) (K 1)) (O1 1 32 58 .done))
abbrev g_q79_l17:GC:=(.seq (.reg g_q79_r8 [0,1,4,5,6,7,8,9,30,31,32,33]) (.seq (.cond (.tmp 33) .skip (.exit 2)) (.seq (.block 3 (.seq (.reg g_q79_r9 [0,1,4,5,6,7,8,9,11,30,31,32]) (.seq (.reg g_q79_r10 [0,1,4,5,6,7,8,9,30,31,32,43]) (.block 4 (.rng (.tmp 43) [44] (.reg g_q79_r11 [6,8,9,12]) g_q79_b15))))) (.reg g_q79_r16 [0,1,4,5,6,7,8,9,30,31,32]))))
abbrev g_q79_r18:GR:=(O2 0 59 9 (O1 1 7 59 .done))
abbrev g_q79_r19:GR:=(O2 0 60 8 .done)
abbrev g_q79_r20:GR:=(OP 0 8 (.alloc 3 [(.int .i64 0)]) (OS 1 (.store 1 (.tmp 8) (.tmp 60)) .done))
abbrev g_q79_r21:GR:=(O2 0 28 8 (OP 1 29 (.bin .add (.tmp 28) (K 1)) (OS 2 (.store 1 (.tmp 8) (.tmp 29)) .done)))
abbrev g_q79_l22:GC:=(.seq (.seq (.reg g_q79_r5 [0,1,4,5,6,7,8,27]) (.cond (.tmp 27) .skip (.exit 0))) (.seq (.block 1 (.seq (.reg g_q79_r6 [0,1,4,5,6,7,8,9]) (.seq (.seq (.reg g_q79_r7 [0,1,4,5,6,7,8,9,30,31,32]) (.block 2 (.loop g_q79_l17))) (.reg g_q79_r18 [0,1,4,5,6,7,8])))) (.seq (.seq (.reg g_q79_r19 [0,1,4,5,6,7,60]) (.reg g_q79_r20 [0,1,4,5,6,7,8])) (.reg g_q79_r21 [0,1,4,5,6,7,8]))))
abbrev g_q79_r23:GR:=(O1 0 61 1 (OP 1 62 (.buildSlice 3 1 [(.int .i64 0)] [(0,(1,(.tmp 61)))]) (OP 2 13 (.alloc 28 [(.slice none 0 0)]) (OS 3 (.store 1 (.tmp 13) (.tmp 62)) .done))))
abbrev g_q79_r24:GR:=(O2 0 63 6 (O1 1 64 1 (O4 2 65 1 63 64 (O2 3 66 65 (OP 4 67 (.bin .sub (.tmp 66) (K 1)) (OP 5 14 (.alloc 3 [(.int .i64 0)]) (OS 6 (.store 1 (.tmp 14) (.tmp 67)) .done)))))))
abbrev g_q79_r25:GR:=(O2 0 68 14 (OP 1 69 (.bin .gtr (.tmp 68) (K 0)) .done))
abbrev g_q79_r26:GR:=(O1 0 72 0 (OP 1 73 (.nilCheck (.tmp 72)) (O3 2 74 1 73 (O6 3 75 74 (O6 4 76 13 (O6 5 77 13 (OP 6 78 (.len (.tmp 77)) (OP 7 79 (.bin .sub (.tmp 78) (K 1)) (O4 8 80 1 76 79 (O6 9 81 80 (O4 10 82 1 75 81 (O6 11 83 82 (.op (GI.mk 12 (some 84) none (.call 77 [(.tmp 83)]) [3,4,5,9] false) .done)))))))))))))
abbrev g_q79_r27:GR:=(O1 0 15 85 .done)
abbrev g_q79_r28:GR:=(O6 0 86 6 (O1 1 87 15 (O4 2 88 1 86 87 (O6 3 89 88 (O6 4 90 14 (O5 5 91 .eql 89 90 .done))))))
abbrev g_q79_r29:GR:=(O2 0 92 13 (O1 1 93 15 (OP 2 94 (.buildSlice 3 1 [(.int .i64 0)] [(0,(1,(.tmp 93)))]) (OP 3 95 (.append 3 1 8 [(.int .i64 0)] (.tmp 92) (.tmp 94)) (OS 4 (.store 1 (.tmp 13) (.tmp 95)) .done)))))
abbrev g_q79_b30:GC:=(.block 9 (.seq (.reg g_q79_r28 [13,15,91]) (.cond (.tmp 91) (.seq (.reg g_q79_r29 []) (.exit 8)) .skip)))
abbrev g_q79_r31:GR:=(O2 0 96 14 .done)
abbrev g_q79_r32:GR:=(OP 0 14 (.alloc 3 [(.int .i64 0)]) (OS 1 (.store 1 (.tmp 14) (.tmp 96)) .done))
abbrev g_q79_r33:GR:=(O2 0 70 14 (OP 1 71 (.bin .sub (.tmp 70) (K 1)) (OS 2 (.store 1 (.tmp 14) (.tmp 71)) .done)))
abbrev g_q79_l34:GC:=(.seq (.seq (.reg g_q79_r25 [0,4,6,13,14,69]) (.cond (.tmp 69) .skip (.exit 6))) (.seq (.block 7 (.seq (.reg g_q79_r26 [0,4,6,13,14,84]) (.block 8 (.rng (.tmp 84) [85] (.reg g_q79_r27 [6,13,14,15]) g_q79_b30)))) (.seq (.seq (.reg g_q79_r31 [0,4,6,13,96]) (.reg g_q79_r32 [0,4,6,13,14])) (.reg g_q79_r33 [0,4,6,13,14]))))
abbrev g_q79_r35:GR:=(O2 0 97 13 (O1 1 4 97 .done))
abbrev g_q79:GC:=(.seq (.reg g_q79_r0 [0,1,4]) (.seq (.reg g_q79_r1 [0,1,4,5]) (.seq (.reg g_q79_r2 [0,1,4,5,6]) (.seq (.reg g_q79_r3 [0,1,4,5,6,7]) (.seq (.seq (.reg g_q79_r4 [0,1,4,5,6,7,8]) (.block 0 (.loop g_q79_l22))) (.seq (.reg g_q79_r23 [0,1,4,6,13]) (.seq (.seq (.reg g_q79_r24 [0,4,6,13,14]) (.block 6 (.loop g_q79_l34))) (.seq (.reg g_q79_r35 [4]) .ret))))))))
abbrev rs_q79:List RV:=[(.tmp 4)]
theorem gc_q79:compileF Tryz.prog Tryz.f81 T_q79=some (g_q79,rs_q79):=by kernel_rfl
theorem con_q79 (hR:∀ v h1 h2,Ext h.size h1 h2→R v h1→R v h2) (hv:vc Tryz.prog y g_q79 (retQ rs_q79 R) [(0,a0),(1,a1)] h):ConX y Tryz.prog 81 #[a0,a1] h R:=con_of Tryz.func81 gc_q79 rfl (fun _=>hR) hv
def T_q59:List (Nat×List Nat):=[(0,[2,3,4]),(1,[3,4,23]),(2,[6]),(3,[3,4,26]),(4,[6]),(5,[6])]
abbrev g_q59_r0:GR:=(OP 0 3 (.box 26 (.tmp 0)) (OP 1 4 (.box 63 (.tmp 1)) (OP 2 6 (.mv (.const (.bool false))) .done)))
abbrev g_q59_r1:GR:=(O3 0 7 0 4 (O2 1 8 7 (OP 2 9 (.bin .lss (.tmp 8) (K 0)) (O1 3 10 9 (OG 4 11 10 false (.fieldAddr 0 (.tmp 4)) (OG 5 12 10 false (.load none (.tmp 11)) (OG 6 13 10 false (.bin .gtr (.tmp 12) (K 63)) (OP 7 14 (.pick (.tmp 10) (.const (.bool true)) (.tmp 13)) (O1 8 15 14 (OG 9 16 15 false (.fieldAddr 1 (.tmp 4)) (OG 10 17 15 false (.load none (.tmp 16)) (OG 11 18 15 false (.fieldAddr 4 (.tmp 4)) (OG 12 19 15 false (.load none (.tmp 18)) (OG 13 20 15 false (.mv (.tmp 2)) (OG 14 21 15 false (.call 103 [(.tmp 17),(.tmp 19),(.tmp 20)]) (OG 15 22 15 false (.not (.tmp 21)) (OP 16 23 (.pick (.tmp 15) (.const (.bool true)) (.tmp 22)) .done)))))))))))))))))
abbrev g_q59_r2:GR:=(OP 0 6 (.mv (.const (.bool false))) .done)
abbrev g_q59_r3:GR:=(O3 0 24 1 4 (O2 1 25 24 (OP 2 26 (.bin .eql (.tmp 25) (K 3)) .done)))
abbrev g_q59_r4:GR:=(O3 0 27 2 4 (O2 1 28 27 (OP 2 29 (.bin .eql (.tmp 28) (K (-1))) (O1 3 30 29 (OG 4 31 30 true (.fieldAddr 3 (.tmp 4)) (OG 5 32 30 true (.load none (.tmp 31)) (OG 6 33 30 true (.bin .eql (.tmp 32) (.const (.int .u64 0))) (OP 7 34 (.pick (.tmp 30) (.tmp 33) (.const (.bool false))) (O1 8 6 34 .done)))))))))
abbrev g_q59_r5:GR:=(O3 0 35 2 4 (O2 1 36 35 (OP 2 37 (.bin .geq (.tmp 36) (K 0)) (O1 3 38 37 (OG 4 39 38 true (.fieldAddr 2 (.tmp 4)) (OG 5 40 38 true (.load none (.tmp 39)) (OG 6 41 38 true (.fieldAddr 0 (.tmp 3)) (OG 7 42 38 true (.load none (.tmp 41)) (OG 8 43 38 true (.bin .lss (.tmp 40) (.tmp 42)) (OP 9 44 (.pick (.tmp 38) (.tmp 43) (.const (.bool false))) (O1 10 6 44 .done)))))))))))
abbrev g_q59:GC:=(.seq (.reg g_q59_r0 [2,3,4]) (.seq (.seq (.reg g_q59_r1 [3,4,23]) (.cond (.tmp 23) (.seq (.reg g_q59_r2 [6]) .ret) .skip)) (.seq (.seq (.reg g_q59_r3 [3,4,26]) (.cond (.tmp 26) (.seq (.reg g_q59_r4 [6]) .ret) .skip)) (.seq (.reg g_q59_r5 [6]) .ret))))
abbrev rs_q59:List RV:=[(.tmp 6)]
theorem gc_q59:compileF Tryz.prog Tryz.f82 T_q59=some (g_q59,rs_q59):=by kernel_rfl
theorem con_q59 (hv:vc Tryz.prog y g_q59 (retQ rs_q59 R) [(0,a0),(1,a1),(2,a2)] h):ConX y Tryz.prog 82 #[a0,a1,a2] h R:=con_of Tryz.func82 gc_q59 rfl (fun h=>absurd h (by decide)) hv
def T_q64:List (Nat×List Nat):=[(0,[1]),(1,[1,3]),(2,[1,3,4]),(3,[1,3,4,10]),(4,[1,3,4]),(5,[1,3,4,19]),(6,[1,3,4,24]),(7,[2]),(8,[1,3,4,5]),(9,[1,3,4,73]),(10,[2]),(11,[1,3,4]),(12,[3,81]),(13,[2]),(14,[2])]
abbrev g_q64_r0:GR:=(OP 0 1 (.box 26 (.tmp 0)) (OP 1 2 (.mv (K 0)) .done))
abbrev g_q64_r1:GR:=(OP 0 3 (.mv (K 0)) .done)
abbrev g_q64_r2:GR:=(OP 0 4 (.mv (K 0)) .done)
abbrev g_q64_r3:GR:=(O1 0 6 4 (O3 1 7 1 1 (O2 2 8 7 (OP 3 9 (.len (.tmp 8)) (O5 4 10 .lss 6 9 .done)))))
abbrev g_q64_r4:GR:=(O3 0 13 1 1 (O2 1 14 13 (O1 2 15 4 (O4 3 16 5 14 15 (O3 4 17 1 16 (O2 5 18 17 (OP 6 19 (.bin .neq (.tmp 18) (K 1)) .done)))))))
abbrev g_q64_r5:GR:=(O1 0 20 3 (O3 1 21 2 1 (O2 2 22 21 (OP 3 23 (.len (.tmp 22)) (O5 4 24 .geq 20 23 .done)))))
abbrev g_q64_r6:GR:=(O1 0 25 3 (O1 1 2 25 .done))
abbrev g_q64_r7:GR:=(O3 0 26 2 1 (O2 1 27 26 (O1 2 28 3 (O4 3 29 2 27 28 (OP 4 30 (.load (some 2) (.tmp 29)) (OP 5 5 (.alloc 76 [(.int .i64 0),(.int .i64 0)]) (OS 6 (.store 2 (.tmp 5) (.tmp 30)) .done)))))))
abbrev g_q64_r8:GR:=(O3 0 31 1 5 (O6 1 32 31 (O1 2 33 4 (O5 3 34 .neq 32 33 (O1 4 35 34 (.op (GI.mk 5 (some 36) (some (35,false)) (.load (some 8) (.tmp 1)) [] true) (OG 6 37 35 false (.fieldAddr 0 (.tmp 5)) (.op (GI.mk 7 (some 38) (some (35,false)) (.load none (.tmp 37)) [] true) (.op (GI.mk 8 (some 39) (some (35,false)) (.call 104 [(.tmp 36),(.tmp 38),(K 2)]) [1] false) (OG 9 40 35 false (.not (.tmp 39)) (OP 10 41 (.pick (.tmp 35) (.const (.bool true)) (.tmp 40)) (O1 11 42 41 (OG 12 43 42 false (.fieldAddr 1 (.tmp 1)) (.op (GI.mk 13 (some 44) (some (42,false)) (.load none (.tmp 43)) [] true) (OG 14 45 42 false (.fieldAddr 0 (.tmp 5)) (.op (GI.mk 15 (some 46) (some (42,false)) (.load none (.tmp 45)) [] true) (OG 16 47 42 false (.indexAddr 5 (.tmp 44) (.tmp 46)) (OG 17 48 42 false (.fieldAddr 2 (.tmp 47)) (.op (GI.mk 18 (some 49) (some (42,false)) (.load none (.tmp 48)) [] true) (OG 19 50 42 false (.fieldAddr 1 (.tmp 1)) (.op (GI.mk 20 (some 51) (some (42,false)) (.load none (.tmp 50)) [] true) (OG 21 52 42 false (.mv (.tmp 4)) (OG 22 53 42 false (.indexAddr 5 (.tmp 51) (.tmp 52)) (OG 23 54 42 false (.fieldAddr 2 (.tmp 53)) (.op (GI.mk 24 (some 55) (some (42,false)) (.load none (.tmp 54)) [] true) (OG 25 56 42 false (.bin .neq (.tmp 49) (.tmp 55)) (OP 26 57 (.pick (.tmp 42) (.const (.bool true)) (.tmp 56)) (O1 27 58 57 (OG 28 59 58 false (.fieldAddr 1 (.tmp 1)) (.op (GI.mk 29 (some 60) (some (58,false)) (.load none (.tmp 59)) [] true) (OG 30 61 58 false (.fieldAddr 0 (.tmp 5)) (.op (GI.mk 31 (some 62) (some (58,false)) (.load none (.tmp 61)) [] true) (OG 32 63 58 false (.indexAddr 5 (.tmp 60) (.tmp 62)) (OG 33 64 58 false (.fieldAddr 3 (.tmp 63)) (.op (GI.mk 34 (some 65) (some (58,false)) (.load none (.tmp 64)) [] true) (OG 35 66 58 false (.fieldAddr 1 (.tmp 1)) (.op (GI.mk 36 (some 67) (some (58,false)) (.load none (.tmp 66)) [] true) (OG 37 68 58 false (.mv (.tmp 4)) (OG 38 69 58 false (.indexAddr 5 (.tmp 67) (.tmp 68)) (OG 39 70 58 false (.fieldAddr 3 (.tmp 69)) (.op (GI.mk 40 (some 71) (some (58,false)) (.load none (.tmp 70)) [] true) (OG 41 72 58 false (.bin .neq (.tmp 65) (.tmp 71)) (OP 42 73 (.pick (.tmp 58) (.const (.bool true)) (.tmp 72)) .done)))))))))))))))))))))))))))))))))))))))))))
abbrev g_q64_r9:GR:=(O1 0 74 3 (O1 1 2 74 .done))
abbrev g_q64_r10:GR:=(O1 0 75 3 (OP 1 76 (.bin .add (.tmp 75) (K 1)) (O1 2 3 76 .done)))
abbrev g_q64_r11:GR:=(O1 0 11 4 (OP 1 12 (.bin .add (.tmp 11) (K 1)) (O1 2 4 12 .done)))
abbrev g_q64_l12:GC:=(.seq (.seq (.reg g_q64_r3 [1,3,4,10]) (.cond (.tmp 10) .skip (.exit 0))) (.seq (.block 1 (.seq (.seq (.reg g_q64_r4 [1,3,4,19]) (.cond (.tmp 19) (.exit 1) .skip)) (.seq (.seq (.reg g_q64_r5 [1,3,4,24]) (.cond (.tmp 24) (.seq (.reg g_q64_r6 [2]) .ret) .skip)) (.seq (.reg g_q64_r7 [1,3,4,5]) (.seq (.seq (.reg g_q64_r8 [1,3,4,73]) (.cond (.tmp 73) (.seq (.reg g_q64_r9 [2]) .ret) .skip)) (.reg g_q64_r10 [1,3,4])))))) (.reg g_q64_r11 [1,3,4])))
abbrev g_q64_r13:GR:=(O1 0 77 3 (O3 1 78 2 1 (O2 2 79 78 (OP 3 80 (.len (.tmp 79)) (O5 4 81 .lss 77 80 .done)))))
abbrev g_q64_r14:GR:=(O1 0 82 3 (O1 1 2 82 .done))
abbrev g_q64_r15:GR:=(OP 0 2 (.mv (K (-1))) .done)
abbrev g_q64:GC:=(.seq (.reg g_q64_r0 [1]) (.seq (.reg g_q64_r1 [1,3]) (.seq (.seq (.reg g_q64_r2 [1,3,4]) (.block 0 (.loop g_q64_l12))) (.seq (.seq (.reg g_q64_r13 [3,81]) (.cond (.tmp 81) (.seq (.reg g_q64_r14 [2]) .ret) .skip)) (.seq (.reg g_q64_r15 [2]) .ret)))))
abbrev rs_q64:List RV:=[(.tmp 2)]
theorem gc_q64:compileF Tryz.prog Tryz.f83 T_q64=some (g_q64,rs_q64):=by kernel_rfl
theorem con_q64 (hv:vc Tryz.prog y g_q64 (retQ rs_q64 R) [(0,a0)] h):ConX y Tryz.prog 83 #[a0] h R:=con_of Tryz.func83 gc_q64 rfl (fun h=>absurd h (by decide)) hv
def T_q57:List (Nat×List Nat):=[(0,[1]),(1,[1,3]),(2,[1,3,19]),(3,[1,3]),(4,[1,3,4]),(5,[1,3,4,36]),(6,[2]),(7,[1,3,4,5]),(8,[1,3,4,5,6]),(9,[1,3,4,5,6,42]),(10,[1,3,4,5,6]),(11,[1,3,4,5,6,61]),(12,[1,3,4,5,6]),(13,[1,3,4,67]),(14,[2]),(15,[1,3,4,7]),(16,[1,3,4,7,72]),(17,[1,3,4,7]),(18,[1,3,4,7,94]),(19,[2]),(20,[1,3,4,7,8]),(21,[1,3,4,7,8,98]),(22,[1,3,4,7,8]),(23,[1,3,4,7,8,109]),(24,[2]),(25,[1,116]),(26,[2]),(27,[1,125]),(28,[2]),(29,[2])]
abbrev g_q57_r0:GR:=(OP 0 1 (.box 26 (.tmp 0)) (OP 1 2 (.mv (K 0)) .done))
abbrev g_q57_r1:GR:=(OP 0 3 (.mv (K 0)) .done)
abbrev g_q57_r2:GR:=(O1 0 9 3 (O3 1 10 0 1 (O2 2 11 10 (O5 3 12 .lss 9 11 (O1 4 13 12 (OG 5 14 13 true (.mv (.tmp 3)) (OG 6 15 13 true (.fieldAddr 3 (.tmp 1)) (OG 7 16 13 true (.load none (.tmp 15)) (OG 8 17 13 true (.len (.tmp 16)) (OG 9 18 13 true (.bin .lss (.tmp 14) (.tmp 17)) (OP 10 19 (.pick (.tmp 13) (.tmp 18) (.const (.bool false))) .done)))))))))))
abbrev g_q57_r3:GR:=(O3 0 22 3 1 (O2 1 23 22 (O1 2 24 3 (O4 3 25 1 23 24 (O2 4 26 25 (O1 5 4 26 .done))))))
abbrev g_q57_r4:GR:=(O1 0 27 4 (OP 1 28 (.len (.tmp 27)) (OP 2 29 (.bin .eql (.tmp 28) (K 0)) (O1 3 30 29 (OG 4 31 30 false (.mv (.tmp 4)) (OG 5 32 30 false (.indexAddr 1 (.tmp 31) (K 0)) (OG 6 33 30 false (.load none (.tmp 32)) (OG 7 34 30 false (.mv (.tmp 3)) (OG 8 35 30 false (.bin .neq (.tmp 33) (.tmp 34)) (OP 9 36 (.pick (.tmp 30) (.const (.bool true)) (.tmp 35)) .done))))))))))
abbrev g_q57_r5:GR:=(O1 0 37 3 (O1 1 2 37 .done))
abbrev g_q57_r6:GR:=(OP 0 5 (.mv (K 0)) .done)
abbrev g_q57_r7:GR:=(OP 0 6 (.mv (K 0)) .done)
abbrev g_q57_r8:GR:=(O1 0 38 6 (O3 1 39 1 1 (O2 2 40 39 (OP 3 41 (.len (.tmp 40)) (O5 4 42 .lss 38 41 .done)))))
abbrev g_q57_r9:GR:=(O3 0 45 1 1 (O2 1 46 45 (O1 2 47 6 (O4 3 48 5 46 47 (O3 4 49 1 48 (O2 5 50 49 (OP 6 51 (.bin .eql (.tmp 50) (K 2)) (O1 7 52 51 (OG 8 53 52 true (.fieldAddr 1 (.tmp 1)) (OG 9 54 52 true (.load none (.tmp 53)) (OG 10 55 52 true (.mv (.tmp 6)) (OG 11 56 52 true (.indexAddr 5 (.tmp 54) (.tmp 55)) (OG 12 57 52 true (.fieldAddr 2 (.tmp 56)) (OG 13 58 52 true (.load none (.tmp 57)) (OG 14 59 52 true (.mv (.tmp 3)) (OG 15 60 52 true (.bin .eql (.tmp 58) (.tmp 59)) (OP 16 61 (.pick (.tmp 52) (.tmp 60) (.const (.bool false))) .done)))))))))))))))))
abbrev g_q57_r10:GR:=(O1 0 62 5 (OP 1 63 (.bin .add (.tmp 62) (K 1)) (O1 2 5 63 .done)))
abbrev g_q57_r11:GR:=(O1 0 43 6 (OP 1 44 (.bin .add (.tmp 43) (K 1)) (O1 2 6 44 .done)))
abbrev g_q57_l12:GC:=(.seq (.seq (.reg g_q57_r8 [1,3,4,5,6,42]) (.cond (.tmp 42) .skip (.exit 2))) (.seq (.block 3 (.seq (.reg g_q57_r9 [1,3,4,5,6,61]) (.cond (.tmp 61) (.reg g_q57_r10 [1,3,4,5,6]) .skip))) (.reg g_q57_r11 [1,3,4,5,6])))
abbrev g_q57_r13:GR:=(O1 0 64 4 (OP 1 65 (.len (.tmp 64)) (O1 2 66 5 (O5 3 67 .neq 65 66 .done))))
abbrev g_q57_r14:GR:=(O1 0 68 3 (O1 1 2 68 .done))
abbrev g_q57_r15:GR:=(OP 0 7 (.mv (K 0)) .done)
abbrev g_q57_r16:GR:=(O1 0 69 7 (O1 1 70 4 (OP 2 71 (.len (.tmp 70)) (O5 3 72 .lss 69 71 .done))))
abbrev g_q57_r17:GR:=(OW 0 75 (.load (some 8) (.tmp 1)) (O1 1 76 4 (O1 2 77 7 (O4 3 78 1 76 77 (O6 4 79 78 (OP 5 80 (.call 104 [(.tmp 75),(.tmp 79),(K 2)]) (OP 6 81 (.not (.tmp 80)) (O1 7 82 81 (OG 8 83 82 false (.fieldAddr 1 (.tmp 1)) (.op (GI.mk 9 (some 84) (some (82,false)) (.load none (.tmp 83)) [] true) (OG 10 85 82 false (.mv (.tmp 4)) (OG 11 86 82 false (.mv (.tmp 7)) (OG 12 87 82 false (.indexAddr 1 (.tmp 85) (.tmp 86)) (.op (GI.mk 13 (some 88) (some (82,false)) (.load none (.tmp 87)) [] true) (OG 14 89 82 false (.indexAddr 5 (.tmp 84) (.tmp 88)) (OG 15 90 82 false (.fieldAddr 2 (.tmp 89)) (.op (GI.mk 16 (some 91) (some (82,false)) (.load none (.tmp 90)) [] true) (OG 17 92 82 false (.mv (.tmp 3)) (OG 18 93 82 false (.bin .neq (.tmp 91) (.tmp 92)) (OP 19 94 (.pick (.tmp 82) (.const (.bool true)) (.tmp 93)) .done))))))))))))))))))))
abbrev g_q57_r18:GR:=(O1 0 95 3 (O1 1 2 95 .done))
abbrev g_q57_r19:GR:=(OP 0 8 (.mv (K 0)) .done)
abbrev g_q57_r20:GR:=(O1 0 96 8 (O1 1 97 7 (O5 2 98 .lss 96 97 .done)))
abbrev g_q57_r21:GR:=(O1 0 101 4 (O1 1 102 8 (O4 2 103 1 101 102 (O6 3 104 103 (O1 4 105 4 (O1 5 106 7 (O4 6 107 1 105 106 (O6 7 108 107 (O5 8 109 .eql 104 108 .done)))))))))
abbrev g_q57_r22:GR:=(O1 0 110 3 (O1 1 2 110 .done))
abbrev g_q57_r23:GR:=(O1 0 99 8 (OP 1 100 (.bin .add (.tmp 99) (K 1)) (O1 2 8 100 .done)))
abbrev g_q57_l24:GC:=(.seq (.seq (.reg g_q57_r20 [1,3,4,7,8,98]) (.cond (.tmp 98) .skip (.exit 6))) (.seq (.block 7 (.seq (.reg g_q57_r21 [1,3,4,7,8,109]) (.cond (.tmp 109) (.seq (.reg g_q57_r22 [2]) .ret) .skip))) (.reg g_q57_r23 [1,3,4,7,8])))
abbrev g_q57_r25:GR:=(O1 0 73 7 (OP 1 74 (.bin .add (.tmp 73) (K 1)) (O1 2 7 74 .done)))
abbrev g_q57_l26:GC:=(.seq (.seq (.reg g_q57_r16 [1,3,4,7,72]) (.cond (.tmp 72) .skip (.exit 4))) (.seq (.block 5 (.seq (.seq (.reg g_q57_r17 [1,3,4,7,94]) (.cond (.tmp 94) (.seq (.reg g_q57_r18 [2]) .ret) .skip)) (.seq (.reg g_q57_r19 [1,3,4,7,8]) (.block 6 (.loop g_q57_l24))))) (.reg g_q57_r25 [1,3,4,7])))
abbrev g_q57_r27:GR:=(O1 0 20 3 (OP 1 21 (.bin .add (.tmp 20) (K 1)) (O1 2 3 21 .done)))
abbrev g_q57_l28:GC:=(.seq (.seq (.reg g_q57_r2 [1,3,19]) (.cond (.tmp 19) .skip (.exit 0))) (.seq (.block 1 (.seq (.reg g_q57_r3 [1,3,4]) (.seq (.seq (.reg g_q57_r4 [1,3,4,36]) (.cond (.tmp 36) (.seq (.reg g_q57_r5 [2]) .ret) .skip)) (.seq (.reg g_q57_r6 [1,3,4,5]) (.seq (.seq (.reg g_q57_r7 [1,3,4,5,6]) (.block 2 (.loop g_q57_l12))) (.seq (.seq (.reg g_q57_r13 [1,3,4,67]) (.cond (.tmp 67) (.seq (.reg g_q57_r14 [2]) .ret) .skip)) (.seq (.reg g_q57_r15 [1,3,4,7]) (.block 4 (.loop g_q57_l26))))))))) (.reg g_q57_r27 [1,3])))
abbrev g_q57_r29:GR:=(O3 0 111 3 1 (O2 1 112 111 (OP 2 113 (.len (.tmp 112)) (O3 3 114 0 1 (O2 4 115 114 (O5 5 116 .lss 113 115 .done))))))
abbrev g_q57_r30:GR:=(O3 0 117 3 1 (O2 1 118 117 (OP 2 119 (.len (.tmp 118)) (O1 3 2 119 .done))))
abbrev g_q57_r31:GR:=(O3 0 120 3 1 (O2 1 121 120 (OP 2 122 (.len (.tmp 121)) (O3 3 123 0 1 (O2 4 124 123 (O5 5 125 .gtr 122 124 .done))))))
abbrev g_q57_r32:GR:=(O3 0 126 0 1 (O2 1 127 126 (O1 2 2 127 .done)))
abbrev g_q57_r33:GR:=(OP 0 2 (.mv (K (-1))) .done)
abbrev g_q57:GC:=(.seq (.reg g_q57_r0 [1]) (.seq (.seq (.reg g_q57_r1 [1,3]) (.block 0 (.loop g_q57_l28))) (.seq (.seq (.reg g_q57_r29 [1,116]) (.cond (.tmp 116) (.seq (.reg g_q57_r30 [2]) .ret) .skip)) (.seq (.seq (.reg g_q57_r31 [1,125]) (.cond (.tmp 125) (.seq (.reg g_q57_r32 [2]) .ret) .skip)) (.seq (.reg g_q57_r33 [2]) .ret)))))
abbrev rs_q57:List RV:=[(.tmp 2)]
theorem gc_q57:compileF Tryz.prog Tryz.f84 T_q57=some (g_q57,rs_q57):=by kernel_rfl
theorem con_q57 (hv:vc Tryz.prog y g_q57 (retQ rs_q57 R) [(0,a0)] h):ConX y Tryz.prog 84 #[a0] h R:=con_of Tryz.func84 gc_q57 rfl (fun h=>absurd h (by decide)) hv
def T_q65:List (Nat×List Nat):=[(0,[1]),(1,[1,3]),(2,[1,3,9]),(3,[1,3]),(4,[1,3,4]),(5,[1,3,70]),(6,[2]),(7,[2])]
abbrev g_q65_r0:GR:=(OP 0 1 (.box 26 (.tmp 0)) (OP 1 2 (.mv (K 0)) .done))
abbrev g_q65_r1:GR:=(OP 0 3 (.mv (K 0)) .done)
abbrev g_q65_r2:GR:=(O1 0 5 3 (O3 1 6 4 1 (O2 2 7 6 (OP 3 8 (.len (.tmp 7)) (O5 4 9 .lss 5 8 .done)))))
abbrev g_q65_r3:GR:=(O3 0 12 4 1 (O2 1 13 12 (O1 2 14 3 (O4 3 15 2 13 14 (OP 4 16 (.load (some 2) (.tmp 15)) (OP 5 4 (.alloc 76 [(.int .i64 0),(.int .i64 0)]) (OS 6 (.store 2 (.tmp 4) (.tmp 16)) .done)))))))
abbrev g_q65_r4:GR:=(O1 0 17 3 (OP 1 18 (.bin .gtr (.tmp 17) (K 0)) (O1 2 19 18 (OG 3 20 19 true (.fieldAddr 0 (.tmp 4)) (.op (GI.mk 4 (some 21) (some (19,true)) (.load none (.tmp 20)) [] true) (OG 5 22 19 true (.fieldAddr 4 (.tmp 1)) (.op (GI.mk 6 (some 23) (some (19,true)) (.load none (.tmp 22)) [] true) (OG 7 24 19 true (.mv (.tmp 3)) (OG 8 25 19 true (.bin .sub (.tmp 24) (K 1)) (OG 9 26 19 true (.indexAddr 2 (.tmp 23) (.tmp 25)) (OG 10 27 19 true (.fieldAddr 0 (.tmp 26)) (.op (GI.mk 11 (some 28) (some (19,true)) (.load none (.tmp 27)) [] true) (OG 12 29 19 true (.bin .leq (.tmp 21) (.tmp 28)) (OP 13 30 (.pick (.tmp 19) (.tmp 29) (.const (.bool false))) (O1 14 31 30 (.op (GI.mk 15 (some 32) (some (31,false)) (.load (some 8) (.tmp 1)) [] true) (OG 16 33 31 false (.fieldAddr 0 (.tmp 4)) (.op (GI.mk 17 (some 34) (some (31,false)) (.load none (.tmp 33)) [] true) (.op (GI.mk 18 (some 35) (some (31,false)) (.call 104 [(.tmp 32),(.tmp 34),(K 1)]) [4,6,11] false) (OG 19 36 31 false (.not (.tmp 35)) (OP 20 37 (.pick (.tmp 31) (.const (.bool true)) (.tmp 36)) (O1 21 38 37 (.op (GI.mk 22 (some 39) (some (38,false)) (.load (some 8) (.tmp 1)) [] true) (OG 23 40 38 false (.fieldAddr 1 (.tmp 4)) (.op (GI.mk 24 (some 41) (some (38,false)) (.load none (.tmp 40)) [] true) (.op (GI.mk 25 (some 42) (some (38,false)) (.call 104 [(.tmp 39),(.tmp 41),(K 2)]) [4,6,11,15,17] false) (OG 26 43 38 false (.not (.tmp 42)) (OP 27 44 (.pick (.tmp 38) (.const (.bool true)) (.tmp 43)) (O1 28 45 44 (.op (GI.mk 29 (some 46) (some (45,false)) (.load (some 8) (.tmp 1)) [] true) (OG 30 47 45 false (.fieldAddr 0 (.tmp 4)) (.op (GI.mk 31 (some 48) (some (45,false)) (.load none (.tmp 47)) [] true) (OG 32 49 45 false (.fieldAddr 1 (.tmp 4)) (.op (GI.mk 33 (some 50) (some (45,false)) (.load none (.tmp 49)) [] true) (.op (GI.mk 34 (some 51) (some (45,false)) (.call 105 [(.tmp 46),(.tmp 48),(.tmp 50)]) [4,6,11,15,17,22,24] false) (OG 35 52 45 false (.not (.tmp 51)) (OP 36 53 (.pick (.tmp 45) (.const (.bool true)) (.tmp 52)) (O1 37 54 53 (OG 38 55 54 false (.fieldAddr 1 (.tmp 1)) (.op (GI.mk 39 (some 56) (some (54,false)) (.load none (.tmp 55)) [] true) (OG 40 57 54 false (.fieldAddr 0 (.tmp 4)) (.op (GI.mk 41 (some 58) (some (54,false)) (.load none (.tmp 57)) [] true) (OG 42 59 54 false (.indexAddr 5 (.tmp 56) (.tmp 58)) (OG 43 60 54 false (.fieldAddr 2 (.tmp 59)) (.op (GI.mk 44 (some 61) (some (54,false)) (.load none (.tmp 60)) [] true) (OG 45 62 54 false (.fieldAddr 1 (.tmp 1)) (.op (GI.mk 46 (some 63) (some (54,false)) (.load none (.tmp 62)) [] true) (OG 47 64 54 false (.fieldAddr 1 (.tmp 4)) (.op (GI.mk 48 (some 65) (some (54,false)) (.load none (.tmp 64)) [] true) (OG 49 66 54 false (.indexAddr 5 (.tmp 63) (.tmp 65)) (OG 50 67 54 false (.fieldAddr 2 (.tmp 66)) (.op (GI.mk 51 (some 68) (some (54,false)) (.load none (.tmp 67)) [] true) (OG 52 69 54 false (.bin .neq (.tmp 61) (.tmp 68)) (OP 53 70 (.pick (.tmp 54) (.const (.bool true)) (.tmp 69)) .done))))))))))))))))))))))))))))))))))))))))))))))))))))))
abbrev g_q65_r5:GR:=(O1 0 71 3 (O1 1 2 71 .done))
abbrev g_q65_r6:GR:=(O1 0 10 3 (OP 1 11 (.bin .add (.tmp 10) (K 1)) (O1 2 3 11 .done)))
abbrev g_q65_l7:GC:=(.seq (.seq (.reg g_q65_r2 [1,3,9]) (.cond (.tmp 9) .skip (.exit 0))) (.seq (.block 1 (.seq (.reg g_q65_r3 [1,3,4]) (.seq (.reg g_q65_r4 [1,3,70]) (.cond (.tmp 70) (.seq (.reg g_q65_r5 [2]) .ret) .skip)))) (.reg g_q65_r6 [1,3])))
abbrev g_q65_r8:GR:=(OP 0 2 (.mv (K (-1))) .done)
abbrev g_q65:GC:=(.seq (.reg g_q65_r0 [1]) (.seq (.seq (.reg g_q65_r1 [1,3]) (.block 0 (.loop g_q65_l7))) (.seq (.reg g_q65_r8 [2]) .ret)))
abbrev rs_q65:List RV:=[(.tmp 2)]
theorem gc_q65:compileF Tryz.prog Tryz.f85 T_q65=some (g_q65,rs_q65):=by kernel_rfl
theorem con_q65 (hv:vc Tryz.prog y g_q65 (retQ rs_q65 R) [(0,a0)] h):ConX y Tryz.prog 85 #[a0] h R:=con_of Tryz.func85 gc_q65 rfl (fun h=>absurd h (by decide)) hv
def T_q58:List (Nat×List Nat):=[(0,[1,2,3]),(1,[1,2,3,7]),(2,[1,2,3,7,13]),(3,[1,2,3,7]),(4,[1,2,3,7,8]),(5,[1,2,3,7,8,70]),(6,[6]),(7,[1,2,3,7,9]),(8,[1,2,3,7,92]),(9,[6]),(10,[6])]
abbrev g_q58_r0:GR:=(OP 0 3 (.box 26 (.tmp 0)) (OP 1 6 (.mv (K 0)) .done))
abbrev g_q58_r1:GR:=(OP 0 7 (.mv (K 0)) .done)
abbrev g_q58_r2:GR:=(O1 0 10 7 (O1 1 11 1 (OP 2 12 (.len (.tmp 11)) (O5 3 13 .lss 10 12 .done))))
abbrev g_q58_r3:GR:=(O1 0 16 1 (O1 1 17 7 (O4 2 18 2 16 17 (OP 3 19 (.load (some 2) (.tmp 18)) (OP 4 8 (.alloc 76 [(.int .i64 0),(.int .i64 0)]) (OS 5 (.store 2 (.tmp 8) (.tmp 19)) .done))))))
abbrev g_q58_r4:GR:=(O1 0 20 7 (OP 1 21 (.bin .gtr (.tmp 20) (K 0)) (O1 2 22 21 (OG 3 23 22 true (.fieldAddr 0 (.tmp 8)) (.op (GI.mk 4 (some 24) (some (22,true)) (.load none (.tmp 23)) [] true) (OG 5 25 22 true (.mv (.tmp 1)) (OG 6 26 22 true (.mv (.tmp 7)) (OG 7 27 22 true (.bin .sub (.tmp 26) (K 1)) (OG 8 28 22 true (.indexAddr 2 (.tmp 25) (.tmp 27)) (OG 9 29 22 true (.fieldAddr 0 (.tmp 28)) (.op (GI.mk 10 (some 30) (some (22,true)) (.load none (.tmp 29)) [] true) (OG 11 31 22 true (.bin .lss (.tmp 24) (.tmp 30)) (OG 12 32 22 true (.mv (.tmp 31)) (OG 13 33 32 false (.fieldAddr 0 (.tmp 8)) (.op (GI.mk 14 (some 34) (some (32,false)) (.load none (.tmp 33)) [] true) (OG 15 35 32 false (.mv (.tmp 1)) (OG 16 36 32 false (.mv (.tmp 7)) (OG 17 37 32 false (.bin .sub (.tmp 36) (K 1)) (OG 18 38 32 false (.indexAddr 2 (.tmp 35) (.tmp 37)) (OG 19 39 32 false (.fieldAddr 0 (.tmp 38)) (.op (GI.mk 20 (some 40) (some (32,false)) (.load none (.tmp 39)) [] true) (OG 21 41 32 false (.bin .eql (.tmp 34) (.tmp 40)) (OG 22 42 32 false (.mv (.tmp 41)) (OG 23 43 42 true (.fieldAddr 1 (.tmp 8)) (.op (GI.mk 24 (some 44) (some (42,true)) (.load none (.tmp 43)) [] true) (OG 25 45 42 true (.mv (.tmp 1)) (OG 26 46 42 true (.mv (.tmp 7)) (OG 27 47 42 true (.bin .sub (.tmp 46) (K 1)) (OG 28 48 42 true (.indexAddr 2 (.tmp 45) (.tmp 47)) (OG 29 49 42 true (.fieldAddr 1 (.tmp 48)) (.op (GI.mk 30 (some 50) (some (42,true)) (.load none (.tmp 49)) [] true) (OG 31 51 42 true (.bin .leq (.tmp 44) (.tmp 50)) (OG 32 52 32 false (.pick (.tmp 42) (.tmp 51) (.const (.bool false))) (OG 33 53 22 true (.pick (.tmp 32) (.const (.bool true)) (.tmp 52)) (OP 34 54 (.pick (.tmp 22) (.tmp 53) (.const (.bool false))) (O1 35 55 54 (.op (GI.mk 36 (some 56) (some (55,false)) (.load (some 8) (.tmp 3)) [] true) (OG 37 57 55 false (.fieldAddr 0 (.tmp 8)) (.op (GI.mk 38 (some 58) (some (55,false)) (.load none (.tmp 57)) [] true) (.op (GI.mk 39 (some 59) (some (55,false)) (.call 104 [(.tmp 56),(.tmp 58),(K 1)]) [4,10,14,20,24,30] false) (OG 40 60 55 false (.not (.tmp 59)) (OP 41 61 (.pick (.tmp 55) (.const (.bool true)) (.tmp 60)) (O1 42 62 61 (.op (GI.mk 43 (some 63) (some (62,false)) (.load (some 8) (.tmp 3)) [] true) (OG 44 64 62 false (.fieldAddr 0 (.tmp 8)) (.op (GI.mk 45 (some 65) (some (62,false)) (.load none (.tmp 64)) [] true) (OG 46 66 62 false (.fieldAddr 1 (.tmp 8)) (.op (GI.mk 47 (some 67) (some (62,false)) (.load none (.tmp 66)) [] true) (.op (GI.mk 48 (some 68) (some (62,false)) (.call 60 [(.tmp 63),(.tmp 65),(.tmp 67)]) [4,10,14,20,24,30,36,38] false) (OG 49 69 62 false (.not (.tmp 68)) (OP 50 70 (.pick (.tmp 62) (.const (.bool true)) (.tmp 69)) .done)))))))))))))))))))))))))))))))))))))))))))))))))))
abbrev g_q58_r5:GR:=(O1 0 71 7 (O1 1 6 71 .done))
abbrev g_q58_r6:GR:=(O3 0 72 1 3 (O2 1 73 72 (O3 2 74 1 8 (O2 3 75 74 (O4 4 76 5 73 75 (O3 5 77 1 76 (O2 6 78 77 (O1 7 9 78 .done))))))))
abbrev g_q58_r7:GR:=(O1 0 79 2 (OP 1 80 (.bin .eql (.tmp 79) (K 7)) (O1 2 81 80 (OG 3 82 81 true (.mv (.tmp 9)) (OG 4 83 81 true (.bin .eql (.tmp 82) (K 3)) (OP 5 84 (.pick (.tmp 81) (.tmp 83) (.const (.bool false))) (O1 6 85 84 (OG 7 86 85 false (.mv (.tmp 2)) (OG 8 87 85 false (.bin .eql (.tmp 86) (K 8)) (OG 9 88 85 false (.mv (.tmp 87)) (OG 10 89 88 true (.mv (.tmp 9)) (OG 11 90 88 true (.bin .neq (.tmp 89) (K 2)) (OG 12 91 85 false (.pick (.tmp 88) (.tmp 90) (.const (.bool false))) (OP 13 92 (.pick (.tmp 85) (.const (.bool true)) (.tmp 91)) .done))))))))))))))
abbrev g_q58_r8:GR:=(O1 0 93 7 (O1 1 6 93 .done))
abbrev g_q58_r9:GR:=(O1 0 14 7 (OP 1 15 (.bin .add (.tmp 14) (K 1)) (O1 2 7 15 .done)))
abbrev g_q58_l10:GC:=(.seq (.seq (.reg g_q58_r2 [1,2,3,7,13]) (.cond (.tmp 13) .skip (.exit 0))) (.seq (.block 1 (.seq (.reg g_q58_r3 [1,2,3,7,8]) (.seq (.seq (.reg g_q58_r4 [1,2,3,7,8,70]) (.cond (.tmp 70) (.seq (.reg g_q58_r5 [6]) .ret) .skip)) (.seq (.reg g_q58_r6 [1,2,3,7,9]) (.seq (.reg g_q58_r7 [1,2,3,7,92]) (.cond (.tmp 92) (.seq (.reg g_q58_r8 [6]) .ret) .skip)))))) (.reg g_q58_r9 [1,2,3,7])))
abbrev g_q58_r11:GR:=(OP 0 6 (.mv (K (-1))) .done)
abbrev g_q58:GC:=(.seq (.reg g_q58_r0 [1,2,3]) (.seq (.seq (.reg g_q58_r1 [1,2,3,7]) (.block 0 (.loop g_q58_l10))) (.seq (.reg g_q58_r11 [6]) .ret)))
abbrev rs_q58:List RV:=[(.tmp 6)]
theorem gc_q58:compileF Tryz.prog Tryz.f86 T_q58=some (g_q58,rs_q58):=by kernel_rfl
theorem con_q58 (hv:vc Tryz.prog y g_q58 (retQ rs_q58 R) [(0,a0),(1,a1),(2,a2)] h):ConX y Tryz.prog 86 #[a0,a1,a2] h R:=con_of Tryz.func86 gc_q58 rfl (fun h=>absurd h (by decide)) hv
def T_q80:List (Nat×List Nat):=[(0,[0,1]),(1,[0,5]),(2,[5,18,19,20]),(3,[5,18,19,20,21]),(4,[5,6,7,18,19,20]),(5,[5,18,19,20]),(6,[5,18,19,20]),(7,[4])]
abbrev g_q80_r0:GR:=(OP 0 4 (.mv (.const (.pointer none))) .done)
abbrev g_q80_r1:GR:=(O1 0 8 1 (O1 1 9 0 (OP 2 10 (.nilCheck (.tmp 9)) (O3 3 11 0 10 (O2 4 12 11 (OP 5 13 (.maxi (.tmp 8) (.tmp 12)) (OP 6 14 (.call 39 [(.tmp 13)]) (O1 7 5 14 .done))))))))
abbrev g_q80_r2:GR:=(O1 0 15 0 (OP 1 16 (.nilCheck (.tmp 15)) (O3 2 17 1 16 (O2 3 18 17 (OP 4 19 (.len (.tmp 18)) (OP 5 20 (.mv (K 0)) .done))))))
abbrev g_q80_r3:GR:=(O5 0 21 .lss 20 19 .done)
abbrev g_q80_r4:GR:=(O1 0 22 20 (O4 1 23 1 18 20 (O2 2 24 23 (O1 3 6 22 (O1 4 7 24 .done)))))
abbrev g_q80_r5:GR:=(O1 0 25 5 (OP 1 26 (.nilCheck (.tmp 25)) (O3 2 27 1 26 (O2 3 28 27 (O1 4 29 6 (O4 5 30 1 28 29 (O2 6 31 30 (O1 7 32 7 (OP 8 33 (.buildSlice 109 1 [(.slice none 0 0)] [(0,(1,(.tmp 32)))]) (OP 9 34 (.call 78 [(.tmp 31),(.tmp 33)]) .done))))))))))
abbrev g_q80_r6:GR:=(OP 0 35 (.bin .add (.tmp 20) (K 1)) (O1 1 20 35 .done))
abbrev g_q80_l7:GC:=(.seq (.reg g_q80_r3 [5,18,19,20,21]) (.seq (.cond (.tmp 21) .skip (.exit 0)) (.seq (.block 1 (.seq (.reg g_q80_r4 [5,6,7,18,19,20]) (.reg g_q80_r5 [5,18,19,20]))) (.reg g_q80_r6 [5,18,19,20]))))
abbrev g_q80_r8:GR:=(O1 0 36 5 (O1 1 4 36 .done))
abbrev g_q80:GC:=(.seq (.reg g_q80_r0 [0,1]) (.seq (.reg g_q80_r1 [0,5]) (.seq (.seq (.reg g_q80_r2 [5,18,19,20]) (.block 0 (.loop g_q80_l7))) (.seq (.reg g_q80_r8 [4]) .ret))))
abbrev rs_q80:List RV:=[(.tmp 4)]
theorem gc_q80:compileF Tryz.prog Tryz.f87 T_q80=some (g_q80,rs_q80):=by kernel_rfl
theorem con_q80 (hv:vc Tryz.prog y g_q80 (retQ rs_q80 R) [(0,a0),(1,a1)] h):ConX y Tryz.prog 87 #[a0,a1] h R:=con_of Tryz.func87 gc_q80 rfl (fun h=>absurd h (by decide)) hv
end Go.Proofs.Tst
