/-
  The compiled forms of functions that the law reaches, each checked against the program by the kernel. No condition.
-/
import Derived.Test.YtpocfojbfodlmaaGreatDoorG1
set_option linter.all false
set_option maxRecDepth 2000
namespace Go.Proofs.Tst
open Go Go.Vc
variable {y : Option Nat} {a0 a1 a2 a3 a4 a5 a6 a7 : Value} {h : Heap} {R : Value → Heap → Prop}
def T_q5:List (Nat×List Nat):=[(0,[0]),(1,[0,3]),(2,[0,3,21,22,23]),(3,[0,3,21,22,23,24]),(4,[0,3,5,21,22,23]),(5,[0,3,5,21,22,23,29]),(6,[0,3,21,22,23]),(7,[0,3,21,22,23]),(8,[0,3,6]),(9,[0,3,6,7]),(10,[0,3,6,7,8]),(11,[0,3,6,7,8,62,63,64]),(12,[0,3,6,7,8,62,63,64,65]),(13,[0,3,6,7,8,9,10,62,63,64]),(14,[0,3,6,7,8,9,10,11,62,63,64]),(15,[0,3,6,7,8,9,11,62,63,64,79,80,81]),(16,[0,3,6,7,8,9,11,62,63,64,79,80,81,82]),(17,[0,3,6,7,8,9,11,13,62,63,64,79,80,81]),(18,[0,3,6,7,8,9,11,13,62,63,64,79,80,81]),(19,[0,3,6,7,8,9,11,13,62,63,64,79,80,81,111]),(20,[0,3,6,7,8,9,11,62,63,64,79,80,81]),(21,[0,3,6,7,8,9,11,62,63,64,79,80,81]),(22,[0,3,6,7,8,9,11,62,63,64,79,80,81]),(23,[0,3,6,7,8,9,62,63,64,121]),(24,[0,3,6,7,8,62,63,64]),(25,[0,3,6,7,8,62,63,64]),(26,[0,7,8,127]),(27,[0,7,8,127,129]),(28,[0,7,8,14,15,127]),(29,[0,7,8,14,127,134]),(30,[0,7,8,127]),(31,[8,154]),(32,[2]),(33,[2])]
abbrev g_q5_r0:GR:=(OP 0 2 (.mv (K 0)) .done)
abbrev g_q5_r1:GR:=(OP 0 16 .makeMap (O1 1 3 16 .done))
abbrev g_q5_r2:GR:=(O1 0 17 0 (OP 1 18 (.nilCheck (.tmp 17)) (O3 2 19 0 18 (O3 3 20 1 19 (O2 4 21 20 (OP 5 22 (.len (.tmp 21)) (OP 6 23 (.mv (K 0)) .done)))))))
abbrev g_q5_r3:GR:=(O5 0 24 .lss 23 22 .done)
abbrev g_q5_r4:GR:=(O4 0 25 5 21 23 (OP 1 26 (.load (some 5) (.tmp 25)) (OP 2 5 (.alloc 72 [(.int .i64 0),(.int .i64 0),(.int .i64 0),(.int .u64 0),(.int .i64 0)]) (OS 3 (.store 5 (.tmp 5) (.tmp 26)) .done))))
abbrev g_q5_r5:GR:=(O3 0 27 1 5 (O2 1 28 27 (OP 2 29 (.bin .eql (.tmp 28) (K 2)) .done)))
abbrev g_q5_r6:GR:=(O1 0 30 3 (O3 1 31 2 5 (O2 2 32 31 (OP 3 33 (.lookup false (.int .i64 0) (.tmp 30) (.tmp 32)) (OP 4 34 (.bin .add (.tmp 33) (K 1)) (OS 5 (.mapSet (.tmp 30) (.tmp 32) (.tmp 34)) .done))))))
abbrev g_q5_r7:GR:=(OP 0 35 (.bin .add (.tmp 23) (K 1)) (O1 1 23 35 .done))
abbrev g_q5_l8:GC:=(.seq (.reg g_q5_r3 [0,3,21,22,23,24]) (.seq (.cond (.tmp 24) .skip (.exit 0)) (.seq (.block 1 (.seq (.reg g_q5_r4 [0,3,5,21,22,23]) (.seq (.reg g_q5_r5 [0,3,5,21,22,23,29]) (.cond (.tmp 29) (.reg g_q5_r6 [0,3,21,22,23]) .skip)))) (.reg g_q5_r7 [0,3,21,22,23]))))
abbrev g_q5_r9:GR:=(O1 0 36 0 (OP 1 37 (.nilCheck (.tmp 36)) (O3 2 38 0 37 (O3 3 39 1 38 (O2 4 40 39 (OP 5 41 (.len (.tmp 40)) (OP 6 42 (.makeSlice 4 1 1 [(.bool false)] (.tmp 41) (.tmp 41)) (O1 7 6 42 .done))))))))
abbrev g_q5_r10:GR:=(O1 0 43 0 (OP 1 44 (.nilCheck (.tmp 43)) (O3 2 45 0 44 (O3 3 46 3 45 (O6 4 47 46 (OP 5 48 (.len (.tmp 47)) (O1 6 49 0 (OP 7 50 (.nilCheck (.tmp 49)) (O3 8 51 0 50 (O3 9 52 0 51 (O6 10 53 52 (OP 11 54 (.mini (.tmp 48) (.tmp 53)) (O1 12 7 54 .done)))))))))))))
abbrev g_q5_r11:GR:=(O1 0 55 7 (O1 1 8 55 .done))
abbrev g_q5_r12:GR:=(O1 0 56 0 (OP 1 57 (.nilCheck (.tmp 56)) (O3 2 58 0 57 (O3 3 59 3 58 (O2 4 60 59 (O1 5 61 7 (OP 6 62 (.slice 1 (.tmp 60) none (some (.tmp 61))) (OP 7 63 (.len (.tmp 62)) (OP 8 64 (.mv (K 0)) .done)))))))))
abbrev g_q5_r13:GR:=(O5 0 65 .lss 64 63 .done)
abbrev g_q5_r14:GR:=(O1 0 66 64 (O4 1 67 1 62 64 (O2 2 68 67 (O1 3 9 66 (O1 4 10 68 .done)))))
abbrev g_q5_r15:GR:=(O1 0 69 10 (OP 1 70 (.len (.tmp 69)) (OP 2 71 (.bin .gtr (.tmp 70) (K 0)) (O1 3 72 71 (OG 4 73 72 true (.mv (.tmp 10)) (OG 5 74 72 true (.indexAddr 1 (.tmp 73) (K 0)) (OG 6 75 72 true (.load none (.tmp 74)) (OG 7 76 72 true (.mv (.tmp 9)) (OG 8 77 72 true (.bin .eql (.tmp 75) (.tmp 76)) (OP 9 78 (.pick (.tmp 72) (.tmp 77) (.const (.bool false))) (O1 10 11 78 .done)))))))))))
abbrev g_q5_r16:GR:=(O1 0 79 10 (OP 1 80 (.len (.tmp 79)) (OP 2 81 (.mv (K 0)) .done)))
abbrev g_q5_r17:GR:=(O5 0 82 .lss 81 80 .done)
abbrev g_q5_r18:GR:=(O4 0 83 1 79 81 (O2 1 84 83 (O1 2 13 84 .done)))
abbrev g_q5_r19:GR:=(O1 0 85 11 (O1 1 86 85 (OG 2 87 86 true (.mv (.tmp 0)) (OG 3 88 86 true (.mv (.tmp 13)) (OG 4 89 86 true (.call 110 [(.tmp 87),(.tmp 88),(K 2)]) (OP 5 90 (.pick (.tmp 86) (.tmp 89) (.const (.bool false))) (O1 6 91 90 (OG 7 92 91 true (.mv (.tmp 0)) (OG 8 93 91 true (.nilCheck (.tmp 92)) (OG 9 94 91 true (.fieldAddr 0 (.tmp 93)) (OG 10 95 91 true (.fieldAddr 1 (.tmp 94)) (OG 11 96 91 true (.load none (.tmp 95)) (OG 12 97 91 true (.mv (.tmp 13)) (OG 13 98 91 true (.indexAddr 5 (.tmp 96) (.tmp 97)) (OG 14 99 91 true (.fieldAddr 2 (.tmp 98)) (OG 15 100 91 true (.load none (.tmp 99)) (OG 16 101 91 true (.mv (.tmp 9)) (OG 17 102 91 true (.bin .eql (.tmp 100) (.tmp 101)) (OP 18 103 (.pick (.tmp 91) (.tmp 102) (.const (.bool false))) (O1 19 104 103 (OG 20 105 104 true (.mv (.tmp 6)) (OG 21 106 104 true (.mv (.tmp 13)) (OG 22 107 104 true (.indexAddr 1 (.tmp 105) (.tmp 106)) (OG 23 108 104 true (.load none (.tmp 107)) (OG 24 109 104 true (.not (.tmp 108)) (OP 25 110 (.pick (.tmp 104) (.tmp 109) (.const (.bool false))) (O1 26 11 110 .done)))))))))))))))))))))))))))
abbrev g_q5_r20:GR:=(O1 0 111 11 .done)
abbrev g_q5_r21:GR:=(O1 0 112 6 (O1 1 113 13 (O4 2 114 1 112 113 (OS 3 (.store 1 (.tmp 114) (.const (.bool true))) .done))))
abbrev g_q5_r22:GR:=(O1 0 115 3 (O1 1 116 9 (OP 2 117 (.lookup false (.int .i64 0) (.tmp 115) (.tmp 116)) (OP 3 118 (.bin .sub (.tmp 117) (K 1)) (OS 4 (.mapSet (.tmp 115) (.tmp 116) (.tmp 118)) .done)))))
abbrev g_q5_r23:GR:=(OP 0 119 (.bin .add (.tmp 81) (K 1)) (O1 1 81 119 .done))
abbrev g_q5_l24:GC:=(.seq (.reg g_q5_r17 [0,3,6,7,8,9,11,62,63,64,79,80,81,82]) (.seq (.cond (.tmp 82) .skip (.exit 4)) (.seq (.block 5 (.seq (.reg g_q5_r18 [0,3,6,7,8,9,11,13,62,63,64,79,80,81]) (.seq (.reg g_q5_r19 [0,3,6,7,8,9,11,13,62,63,64,79,80,81]) (.seq (.reg g_q5_r20 [0,3,6,7,8,9,11,13,62,63,64,79,80,81,111]) (.cond (.tmp 111) (.seq (.reg g_q5_r21 [0,3,6,7,8,9,11,62,63,64,79,80,81]) (.reg g_q5_r22 [0,3,6,7,8,9,11,62,63,64,79,80,81])) .skip))))) (.reg g_q5_r23 [0,3,6,7,8,9,11,62,63,64,79,80,81]))))
abbrev g_q5_r25:GR:=(O1 0 120 11 (OP 1 121 (.not (.tmp 120)) .done))
abbrev g_q5_r26:GR:=(O1 0 122 8 (O1 1 123 9 (OP 2 124 (.mini (.tmp 122) (.tmp 123)) (O1 3 8 124 .done))))
abbrev g_q5_r27:GR:=(OP 0 125 (.bin .add (.tmp 64) (K 1)) (O1 1 64 125 .done))
abbrev g_q5_l28:GC:=(.seq (.reg g_q5_r13 [0,3,6,7,8,62,63,64,65]) (.seq (.cond (.tmp 65) .skip (.exit 2)) (.seq (.block 3 (.seq (.reg g_q5_r14 [0,3,6,7,8,9,10,62,63,64]) (.seq (.reg g_q5_r15 [0,3,6,7,8,9,10,11,62,63,64]) (.seq (.seq (.reg g_q5_r16 [0,3,6,7,8,9,11,62,63,64,79,80,81]) (.block 4 (.loop g_q5_l24))) (.seq (.reg g_q5_r25 [0,3,6,7,8,9,62,63,64,121]) (.cond (.tmp 121) (.reg g_q5_r26 [0,3,6,7,8,62,63,64]) .skip)))))) (.reg g_q5_r27 [0,3,6,7,8,62,63,64]))))
abbrev g_q5_r29:GR:=(O1 0 126 3 (OP 1 127 (.mrange (.tmp 126)) .done))
abbrev g_q5_r30:GR:=(OP 0 128 (.mnext (.tmp 127)) (OP 1 129 (.extract 0 (.tmp 128)) .done))
abbrev g_q5_r31:GR:=(OP 0 130 (.mentry (.tmp 127)) (OP 1 131 (.extract 0 (.tmp 130)) (OP 2 132 (.extract 1 (.tmp 130)) (O1 3 14 131 (O1 4 15 132 .done)))))
abbrev g_q5_r32:GR:=(O1 0 133 15 (OP 1 134 (.bin .gtr (.tmp 133) (K 0)) .done))
abbrev g_q5_r33:GR:=(O1 0 135 8 (O1 1 136 14 (OP 2 137 (.mini (.tmp 135) (.tmp 136)) (O1 3 8 137 .done))))
abbrev g_q5_l34:GC:=(.seq (.reg g_q5_r30 [0,7,8,127,129]) (.seq (.cond (.tmp 129) .skip (.exit 6)) (.block 7 (.seq (.reg g_q5_r31 [0,7,8,14,15,127]) (.seq (.reg g_q5_r32 [0,7,8,14,127,134]) (.cond (.tmp 134) (.reg g_q5_r33 [0,7,8,127]) .skip))))))
abbrev g_q5_r35:GR:=(O1 0 138 8 (O1 1 139 7 (O5 2 140 .lss 138 139 (O1 3 141 140 (OG 4 142 141 false (.mv (.tmp 0)) (OG 5 143 141 false (.nilCheck (.tmp 142)) (OG 6 144 141 false (.fieldAddr 0 (.tmp 143)) (OG 7 145 141 false (.fieldAddr 3 (.tmp 144)) (.op (GI.mk 8 (some 146) (some (141,false)) (.load none (.tmp 145)) [] true) (OG 9 147 141 false (.len (.tmp 146)) (OG 10 148 141 false (.mv (.tmp 0)) (OG 11 149 141 false (.nilCheck (.tmp 148)) (OG 12 150 141 false (.fieldAddr 0 (.tmp 149)) (OG 13 151 141 false (.fieldAddr 0 (.tmp 150)) (.op (GI.mk 14 (some 152) (some (141,false)) (.load none (.tmp 151)) [] true) (OG 15 153 141 false (.bin .neq (.tmp 147) (.tmp 152)) (OP 16 154 (.pick (.tmp 141) (.const (.bool true)) (.tmp 153)) .done)))))))))))))))))
abbrev g_q5_r36:GR:=(O1 0 155 8 (O1 1 2 155 .done))
abbrev g_q5_r37:GR:=(OP 0 2 (.mv (K (-1))) .done)
abbrev g_q5:GC:=(.seq (.reg g_q5_r0 [0]) (.seq (.reg g_q5_r1 [0,3]) (.seq (.seq (.reg g_q5_r2 [0,3,21,22,23]) (.block 0 (.loop g_q5_l8))) (.seq (.reg g_q5_r9 [0,3,6]) (.seq (.reg g_q5_r10 [0,3,6,7]) (.seq (.reg g_q5_r11 [0,3,6,7,8]) (.seq (.seq (.reg g_q5_r12 [0,3,6,7,8,62,63,64]) (.block 2 (.loop g_q5_l28))) (.seq (.seq (.reg g_q5_r29 [0,7,8,127]) (.block 6 (.loop g_q5_l34))) (.seq (.seq (.reg g_q5_r35 [8,154]) (.cond (.tmp 154) (.seq (.reg g_q5_r36 [2]) .ret) .skip)) (.seq (.reg g_q5_r37 [2]) .ret))))))))))
abbrev rs_q5:List RV:=[(.tmp 2)]
theorem gc_q5:compileF Tryz.prog Tryz.f89 T_q5=some (g_q5,rs_q5):=by kernel_rfl
theorem con_q5 (hv:vc Tryz.prog y g_q5 (retQ rs_q5 R) [(0,a0)] h):ConX y Tryz.prog 89 #[a0] h R:=con_of Tryz.func89 gc_q5 rfl (fun h=>absurd h (by decide)) hv
def T_q11:List (Nat×List Nat):=[(0,[0]),(1,[0,9,10,11]),(2,[0,9,10,11,12]),(3,[0,3,4,9,10,11]),(4,[0,3,9,10,11,82]),(5,[2]),(6,[0,9,10,11]),(7,[2])]
abbrev g_q11_r0:GR:=(OP 0 2 (.mv (K 0)) .done)
abbrev g_q11_r1:GR:=(O1 0 5 0 (OP 1 6 (.nilCheck (.tmp 5)) (O3 2 7 0 6 (O3 3 8 4 7 (O2 4 9 8 (OP 5 10 (.len (.tmp 9)) (OP 6 11 (.mv (K 0)) .done)))))))
abbrev g_q11_r2:GR:=(O5 0 12 .lss 11 10 .done)
abbrev g_q11_r3:GR:=(O1 0 13 11 (O4 1 14 2 9 11 (OP 2 15 (.load (some 2) (.tmp 14)) (OP 3 4 (.alloc 67 [(.int .i64 0),(.int .i64 0)]) (O1 4 3 13 (OS 5 (.store 2 (.tmp 4) (.tmp 15)) .done))))))
abbrev g_q11_r4:GR:=(O1 0 16 3 (OP 1 17 (.bin .gtr (.tmp 16) (K 0)) (O1 2 18 17 (OG 3 19 18 true (.fieldAddr 0 (.tmp 4)) (.op (GI.mk 4 (some 20) (some (18,true)) (.load none (.tmp 19)) [] true) (OG 5 21 18 true (.mv (.tmp 0)) (OG 6 22 18 true (.nilCheck (.tmp 21)) (OG 7 23 18 true (.fieldAddr 0 (.tmp 22)) (OG 8 24 18 true (.fieldAddr 4 (.tmp 23)) (.op (GI.mk 9 (some 25) (some (18,true)) (.load none (.tmp 24)) [] true) (OG 10 26 18 true (.mv (.tmp 3)) (OG 11 27 18 true (.bin .sub (.tmp 26) (K 1)) (OG 12 28 18 true (.indexAddr 2 (.tmp 25) (.tmp 27)) (OG 13 29 18 true (.fieldAddr 0 (.tmp 28)) (.op (GI.mk 14 (some 30) (some (18,true)) (.load none (.tmp 29)) [] true) (OG 15 31 18 true (.bin .leq (.tmp 20) (.tmp 30)) (OP 16 32 (.pick (.tmp 18) (.tmp 31) (.const (.bool false))) (O1 17 33 32 (OG 18 34 33 false (.mv (.tmp 0)) (OG 19 35 33 false (.fieldAddr 0 (.tmp 4)) (.op (GI.mk 20 (some 36) (some (33,false)) (.load none (.tmp 35)) [] true) (.op (GI.mk 21 (some 37) (some (33,false)) (.call 110 [(.tmp 34),(.tmp 36),(K 1)]) [4,9,14] false) (OG 22 38 33 false (.not (.tmp 37)) (OP 23 39 (.pick (.tmp 33) (.const (.bool true)) (.tmp 38)) (O1 24 40 39 (OG 25 41 40 false (.mv (.tmp 0)) (OG 26 42 40 false (.fieldAddr 1 (.tmp 4)) (.op (GI.mk 27 (some 43) (some (40,false)) (.load none (.tmp 42)) [] true) (.op (GI.mk 28 (some 44) (some (40,false)) (.call 110 [(.tmp 41),(.tmp 43),(K 2)]) [4,9,14,20] false) (OG 29 45 40 false (.not (.tmp 44)) (OP 30 46 (.pick (.tmp 40) (.const (.bool true)) (.tmp 45)) (O1 31 47 46 (OG 32 48 47 false (.mv (.tmp 0)) (OG 33 49 47 false (.nilCheck (.tmp 48)) (OG 34 50 47 false (.fieldAddr 9 (.tmp 49)) (.op (GI.mk 35 (some 51) (some (47,false)) (.load none (.tmp 50)) [] true) (OG 36 52 47 false (.fieldAddr 0 (.tmp 4)) (.op (GI.mk 37 (some 53) (some (47,false)) (.load none (.tmp 52)) [] true) (OG 38 54 47 false (.indexAddr 1 (.tmp 51) (.tmp 53)) (.op (GI.mk 39 (some 55) (some (47,false)) (.load none (.tmp 54)) [] true) (OG 40 56 47 false (.fieldAddr 1 (.tmp 4)) (.op (GI.mk 41 (some 57) (some (47,false)) (.load none (.tmp 56)) [] true) (OG 42 58 47 false (.bin .neq (.tmp 55) (.tmp 57)) (OP 43 59 (.pick (.tmp 47) (.const (.bool true)) (.tmp 58)) (O1 44 60 59 (OG 45 61 60 false (.mv (.tmp 0)) (OG 46 62 60 false (.nilCheck (.tmp 61)) (OG 47 63 60 false (.fieldAddr 0 (.tmp 62)) (OG 48 64 60 false (.fieldAddr 1 (.tmp 63)) (.op (GI.mk 49 (some 65) (some (60,false)) (.load none (.tmp 64)) [] true) (OG 50 66 60 false (.fieldAddr 0 (.tmp 4)) (.op (GI.mk 51 (some 67) (some (60,false)) (.load none (.tmp 66)) [] true) (OG 52 68 60 false (.indexAddr 5 (.tmp 65) (.tmp 67)) (OG 53 69 60 false (.fieldAddr 2 (.tmp 68)) (.op (GI.mk 54 (some 70) (some (60,false)) (.load none (.tmp 69)) [] true) (OG 55 71 60 false (.mv (.tmp 0)) (OG 56 72 60 false (.nilCheck (.tmp 71)) (OG 57 73 60 false (.fieldAddr 0 (.tmp 72)) (OG 58 74 60 false (.fieldAddr 1 (.tmp 73)) (.op (GI.mk 59 (some 75) (some (60,false)) (.load none (.tmp 74)) [] true) (OG 60 76 60 false (.fieldAddr 1 (.tmp 4)) (.op (GI.mk 61 (some 77) (some (60,false)) (.load none (.tmp 76)) [] true) (OG 62 78 60 false (.indexAddr 5 (.tmp 75) (.tmp 77)) (OG 63 79 60 false (.fieldAddr 2 (.tmp 78)) (.op (GI.mk 64 (some 80) (some (60,false)) (.load none (.tmp 79)) [] true) (OG 65 81 60 false (.bin .neq (.tmp 70) (.tmp 80)) (OP 66 82 (.pick (.tmp 60) (.const (.bool true)) (.tmp 81)) .done)))))))))))))))))))))))))))))))))))))))))))))))))))))))))))))))))))
abbrev g_q11_r5:GR:=(O1 0 83 3 (O1 1 2 83 .done))
abbrev g_q11_r6:GR:=(OP 0 84 (.bin .add (.tmp 11) (K 1)) (O1 1 11 84 .done))
abbrev g_q11_l7:GC:=(.seq (.reg g_q11_r2 [0,9,10,11,12]) (.seq (.cond (.tmp 12) .skip (.exit 0)) (.seq (.block 1 (.seq (.reg g_q11_r3 [0,3,4,9,10,11]) (.seq (.reg g_q11_r4 [0,3,9,10,11,82]) (.cond (.tmp 82) (.seq (.reg g_q11_r5 [2]) .ret) .skip)))) (.reg g_q11_r6 [0,9,10,11]))))
abbrev g_q11_r8:GR:=(OP 0 2 (.mv (K (-1))) .done)
abbrev g_q11:GC:=(.seq (.reg g_q11_r0 [0]) (.seq (.seq (.reg g_q11_r1 [0,9,10,11]) (.block 0 (.loop g_q11_l7))) (.seq (.reg g_q11_r8 [2]) .ret)))
abbrev rs_q11:List RV:=[(.tmp 2)]
theorem gc_q11:compileF Tryz.prog Tryz.f90 T_q11=some (g_q11,rs_q11):=by kernel_rfl
theorem con_q11 (hv:vc Tryz.prog y g_q11 (retQ rs_q11 R) [(0,a0)] h):ConX y Tryz.prog 90 #[a0] h R:=con_of Tryz.func90 gc_q11 rfl (fun h=>absurd h (by decide)) hv
def T_q6:List (Nat×List Nat):=[(0,[0,1,2]),(1,[0,1,2,9,10,11]),(2,[0,1,2,9,10,11,12]),(3,[0,1,2,7,8,9,10,11]),(4,[0,1,2,7,9,10,11,88]),(5,[6]),(6,[0,1,2,9,10,11]),(7,[6])]
abbrev g_q6_r0:GR:=(OP 0 6 (.mv (K 0)) .done)
abbrev g_q6_r1:GR:=(O1 0 9 1 (OP 1 10 (.len (.tmp 9)) (OP 2 11 (.mv (K 0)) .done)))
abbrev g_q6_r2:GR:=(O5 0 12 .lss 11 10 .done)
abbrev g_q6_r3:GR:=(O1 0 13 11 (O4 1 14 2 9 11 (OP 2 15 (.load (some 2) (.tmp 14)) (OP 3 8 (.alloc 67 [(.int .i64 0),(.int .i64 0)]) (O1 4 7 13 (OS 5 (.store 2 (.tmp 8) (.tmp 15)) .done))))))
abbrev g_q6_r4:GR:=(O1 0 16 7 (OP 1 17 (.bin .gtr (.tmp 16) (K 0)) (O1 2 18 17 (OG 3 19 18 true (.fieldAddr 0 (.tmp 8)) (.op (GI.mk 4 (some 20) (some (18,true)) (.load none (.tmp 19)) [] true) (OG 5 21 18 true (.mv (.tmp 1)) (OG 6 22 18 true (.mv (.tmp 7)) (OG 7 23 18 true (.bin .sub (.tmp 22) (K 1)) (OG 8 24 18 true (.indexAddr 2 (.tmp 21) (.tmp 23)) (OG 9 25 18 true (.fieldAddr 0 (.tmp 24)) (.op (GI.mk 10 (some 26) (some (18,true)) (.load none (.tmp 25)) [] true) (OG 11 27 18 true (.bin .lss (.tmp 20) (.tmp 26)) (OG 12 28 18 true (.mv (.tmp 27)) (OG 13 29 28 false (.fieldAddr 0 (.tmp 8)) (.op (GI.mk 14 (some 30) (some (28,false)) (.load none (.tmp 29)) [] true) (OG 15 31 28 false (.mv (.tmp 1)) (OG 16 32 28 false (.mv (.tmp 7)) (OG 17 33 28 false (.bin .sub (.tmp 32) (K 1)) (OG 18 34 28 false (.indexAddr 2 (.tmp 31) (.tmp 33)) (OG 19 35 28 false (.fieldAddr 0 (.tmp 34)) (.op (GI.mk 20 (some 36) (some (28,false)) (.load none (.tmp 35)) [] true) (OG 21 37 28 false (.bin .eql (.tmp 30) (.tmp 36)) (OG 22 38 28 false (.mv (.tmp 37)) (OG 23 39 38 true (.fieldAddr 1 (.tmp 8)) (.op (GI.mk 24 (some 40) (some (38,true)) (.load none (.tmp 39)) [] true) (OG 25 41 38 true (.mv (.tmp 1)) (OG 26 42 38 true (.mv (.tmp 7)) (OG 27 43 38 true (.bin .sub (.tmp 42) (K 1)) (OG 28 44 38 true (.indexAddr 2 (.tmp 41) (.tmp 43)) (OG 29 45 38 true (.fieldAddr 1 (.tmp 44)) (.op (GI.mk 30 (some 46) (some (38,true)) (.load none (.tmp 45)) [] true) (OG 31 47 38 true (.bin .leq (.tmp 40) (.tmp 46)) (OG 32 48 28 false (.pick (.tmp 38) (.tmp 47) (.const (.bool false))) (OG 33 49 18 true (.pick (.tmp 28) (.const (.bool true)) (.tmp 48)) (OP 34 50 (.pick (.tmp 18) (.tmp 49) (.const (.bool false))) (O1 35 51 50 (OG 36 52 51 false (.mv (.tmp 0)) (OG 37 53 51 false (.nilCheck (.tmp 52)) (OG 38 54 51 false (.fieldAddr 8 (.tmp 53)) (.op (GI.mk 39 (some 55) (some (51,false)) (.load none (.tmp 54)) [] true) (OG 40 56 51 false (.not (.tmp 55)) (OP 41 57 (.pick (.tmp 51) (.const (.bool true)) (.tmp 56)) (O1 42 58 57 (OG 43 59 58 false (.mv (.tmp 0)) (OG 44 60 58 false (.fieldAddr 0 (.tmp 8)) (.op (GI.mk 45 (some 61) (some (58,false)) (.load none (.tmp 60)) [] true) (.op (GI.mk 46 (some 62) (some (58,false)) (.call 110 [(.tmp 59),(.tmp 61),(K 1)]) [4,10,14,20,24,30,39] false) (OG 47 63 58 false (.not (.tmp 62)) (OP 48 64 (.pick (.tmp 58) (.const (.bool true)) (.tmp 63)) (O1 49 65 64 (OG 50 66 65 false (.mv (.tmp 0)) (OG 51 67 65 false (.fieldAddr 0 (.tmp 8)) (.op (GI.mk 52 (some 68) (some (65,false)) (.load none (.tmp 67)) [] true) (OG 53 69 65 false (.fieldAddr 1 (.tmp 8)) (.op (GI.mk 54 (some 70) (some (65,false)) (.load none (.tmp 69)) [] true) (.op (GI.mk 55 (some 71) (some (65,false)) (.call 111 [(.tmp 66),(.tmp 68),(.tmp 70)]) [4,10,14,20,24,30,39,45] false) (OG 56 72 65 false (.not (.tmp 71)) (OP 57 73 (.pick (.tmp 65) (.const (.bool true)) (.tmp 72)) (O1 58 74 73 (OG 59 75 74 false (.mv (.tmp 2)) (OG 60 76 74 false (.mv (.tmp 0)) (OG 61 77 74 false (.nilCheck (.tmp 76)) (OG 62 78 74 false (.fieldAddr 0 (.tmp 77)) (OG 63 79 74 false (.fieldAddr 1 (.tmp 78)) (.op (GI.mk 64 (some 80) (some (74,false)) (.load none (.tmp 79)) [] true) (OG 65 81 74 false (.fieldAddr 1 (.tmp 8)) (.op (GI.mk 66 (some 82) (some (74,false)) (.load none (.tmp 81)) [] true) (OG 67 83 74 false (.indexAddr 5 (.tmp 80) (.tmp 82)) (OG 68 84 74 false (.fieldAddr 1 (.tmp 83)) (.op (GI.mk 69 (some 85) (some (74,false)) (.load none (.tmp 84)) [] true) (.op (GI.mk 70 (some 86) (some (74,false)) (.call 108 [(.tmp 75),(.tmp 85)]) [4,10,14,20,24,30,39,45,52,54,64,66] false) (OG 71 87 74 false (.not (.tmp 86)) (OP 72 88 (.pick (.tmp 74) (.const (.bool true)) (.tmp 87)) .done)))))))))))))))))))))))))))))))))))))))))))))))))))))))))))))))))))))))))
abbrev g_q6_r5:GR:=(O1 0 89 7 (O1 1 6 89 .done))
abbrev g_q6_r6:GR:=(OP 0 90 (.bin .add (.tmp 11) (K 1)) (O1 1 11 90 .done))
abbrev g_q6_l7:GC:=(.seq (.reg g_q6_r2 [0,1,2,9,10,11,12]) (.seq (.cond (.tmp 12) .skip (.exit 0)) (.seq (.block 1 (.seq (.reg g_q6_r3 [0,1,2,7,8,9,10,11]) (.seq (.reg g_q6_r4 [0,1,2,7,9,10,11,88]) (.cond (.tmp 88) (.seq (.reg g_q6_r5 [6]) .ret) .skip)))) (.reg g_q6_r6 [0,1,2,9,10,11]))))
abbrev g_q6_r8:GR:=(OP 0 6 (.mv (K (-1))) .done)
abbrev g_q6:GC:=(.seq (.reg g_q6_r0 [0,1,2]) (.seq (.seq (.reg g_q6_r1 [0,1,2,9,10,11]) (.block 0 (.loop g_q6_l7))) (.seq (.reg g_q6_r8 [6]) .ret)))
abbrev rs_q6:List RV:=[(.tmp 6)]
theorem gc_q6:compileF Tryz.prog Tryz.f91 T_q6=some (g_q6,rs_q6):=by kernel_rfl
theorem con_q6 (hv:vc Tryz.prog y g_q6 (retQ rs_q6 R) [(0,a0),(1,a1),(2,a2)] h):ConX y Tryz.prog 91 #[a0,a1,a2] h R:=con_of Tryz.func91 gc_q6 rfl (fun h=>absurd h (by decide)) hv
def T_q4:List (Nat×List Nat):=[(0,[1]),(1,[1,3]),(2,[1,13]),(3,[2]),(4,[5]),(5,[2])]
abbrev g_q4_r0:GR:=(OP 0 1 (.box 26 (.tmp 0)) (OP 1 2 (.mv (.const (.bool false))) .done))
abbrev g_q4_r1:GR:=(OP 0 8 (.load (some 8) (.tmp 1)) (OP 1 9 (.call 55 [(.tmp 8),(.const (.bool false))]) (O1 2 7 9 (OP 3 10 (.extract 0 (.tmp 7)) (OP 4 11 (.extract 1 (.tmp 7)) (O1 5 3 10 (O1 6 4 11 .done)))))))
abbrev g_q4_r2:GR:=(O1 0 12 3 (OP 1 13 (.bin .eql (.tmp 12) (K 0)) .done))
abbrev g_q4_r3:GR:=(OP 0 2 (.mv (.const (.bool true))) .done)
abbrev g_q4_r4:GR:=(OP 0 15 (.load (some 8) (.tmp 1)) (OP 1 16 (.call 55 [(.tmp 15),(.const (.bool true))]) (O1 2 14 16 (OP 3 17 (.extract 0 (.tmp 14)) (OP 4 18 (.extract 1 (.tmp 14)) (O1 5 5 17 (O1 6 6 18 .done)))))))
abbrev g_q4_r5:GR:=(O1 0 19 5 (OP 1 20 (.bin .eql (.tmp 19) (K 0)) (O1 2 2 20 .done)))
abbrev g_q4:GC:=(.seq (.reg g_q4_r0 [1]) (.seq (.seq (.reg g_q4_r1 [1,3]) (.seq (.reg g_q4_r2 [1,13]) (.cond (.tmp 13) (.seq (.reg g_q4_r3 [2]) .ret) .skip))) (.seq (.reg g_q4_r4 [5]) (.seq (.reg g_q4_r5 [2]) .ret))))
abbrev rs_q4:List RV:=[(.tmp 2)]
theorem gc_q4:compileF Tryz.prog Tryz.f92 T_q4=some (g_q4,rs_q4):=by kernel_rfl
theorem con_q4 (hv:vc Tryz.prog y g_q4 (retQ rs_q4 R) [(0,a0)] h):ConX y Tryz.prog 92 #[a0] h R:=con_of Tryz.func92 gc_q4 rfl (fun h=>absurd h (by decide)) hv
def T_q88:List (Nat×List Nat):=[(0,[0]),(1,[0]),(2,[0,3]),(3,[0,3,17,18]),(4,[0,3,17,18,19]),(5,[0,3,4,17,18]),(6,[0,3,17,18]),(7,[0,3,17,18]),(8,[2])]
abbrev g_q88_r0:GR:=(OP 0 2 (.mv (.const (.pointer none))) .done)
abbrev g_q88_r1:GR:=(O1 0 5 0 (OP 1 6 (.mini (.tmp 5) (K 256)) (OP 2 7 (.maxi (K 0) (.tmp 6)) (O1 3 0 7 .done))))
abbrev g_q88_r2:GR:=(O1 0 8 0 (O1 1 9 0 (OP 2 10 (.makeSlice 96 1 24 [(.slice none 0 0)] (.tmp 9) (.tmp 9)) (OP 3 11 (.build [(.int .i64 0),(.slice none 0 0)] [(0,(1,(.tmp 8))),(1,(1,(.tmp 10)))]) (OP 4 12 (.box 94 (.tmp 11)) (O1 5 3 12 .done))))))
abbrev g_q88_r3:GR:=(O1 0 13 3 (OP 1 14 (.nilCheck (.tmp 13)) (O3 2 15 1 14 (O2 3 16 15 (OP 4 17 (.len (.tmp 16)) (OP 5 18 (.mv (K 0)) .done))))))
abbrev g_q88_r4:GR:=(O5 0 19 .lss 18 17 .done)
abbrev g_q88_r5:GR:=(O1 0 20 18 (O1 1 4 20 .done))
abbrev g_q88_r6:GR:=(O1 0 21 3 (OP 1 22 (.nilCheck (.tmp 21)) (O3 2 23 1 22 (O6 3 24 23 (O1 4 25 4 (O1 5 26 0 (OP 6 27 (.bin .add (.tmp 26) (K 63)) (OP 7 28 (.bin .quo (.tmp 27) (K 64)) (OP 8 29 (.makeSlice 70 1 8 [(.int .u64 0)] (.tmp 28) (.tmp 28)) (O4 9 30 1 24 25 (OS 10 (.store 1 (.tmp 30) (.tmp 29)) .done)))))))))))
abbrev g_q88_r7:GR:=(OP 0 31 (.bin .add (.tmp 18) (K 1)) (O1 1 18 31 .done))
abbrev g_q88_l8:GC:=(.seq (.reg g_q88_r4 [0,3,17,18,19]) (.seq (.cond (.tmp 19) .skip (.exit 0)) (.seq (.block 1 (.seq (.reg g_q88_r5 [0,3,4,17,18]) (.reg g_q88_r6 [0,3,17,18]))) (.reg g_q88_r7 [0,3,17,18]))))
abbrev g_q88_r9:GR:=(O1 0 32 3 (O1 1 2 32 .done))
abbrev g_q88:GC:=(.seq (.reg g_q88_r0 [0]) (.seq (.reg g_q88_r1 [0]) (.seq (.reg g_q88_r2 [0,3]) (.seq (.seq (.reg g_q88_r3 [0,3,17,18]) (.block 0 (.loop g_q88_l8))) (.seq (.reg g_q88_r9 [2]) .ret)))))
abbrev rs_q88:List RV:=[(.tmp 2)]
theorem gc_q88:compileF Tryz.prog Tryz.f93 T_q88=some (g_q88,rs_q88):=by kernel_rfl
theorem con_q88 (hv:vc Tryz.prog y g_q88 (retQ rs_q88 R) [(0,a0)] h):ConX y Tryz.prog 93 #[a0] h R:=con_of Tryz.func93 gc_q88 rfl (fun h=>absurd h (by decide)) hv
def T_q89:List (Nat×List Nat):=[(0,[0,1]),(1,[1,5]),(2,[5,10,11,12]),(3,[5,10,11,12,13]),(4,[5,7,10,11,12]),(5,[5,10,11,12]),(6,[5,10,11,12]),(7,[4])]
abbrev g_q89_r0:GR:=(OP 0 4 (.mv (.const (.pointer none))) .done)
abbrev g_q89_r1:GR:=(O1 0 8 0 (OP 1 9 (.call 93 [(.tmp 8)]) (O1 2 5 9 .done)))
abbrev g_q89_r2:GR:=(O1 0 10 1 (OP 1 11 (.len (.tmp 10)) (OP 2 12 (.mv (K 0)) .done)))
abbrev g_q89_r3:GR:=(O5 0 13 .lss 12 11 .done)
abbrev g_q89_r4:GR:=(O4 0 14 2 10 12 (OP 1 15 (.load (some 2) (.tmp 14)) (OP 2 7 (.alloc 67 [(.int .i64 0),(.int .i64 0)]) (OS 3 (.store 2 (.tmp 7) (.tmp 15)) .done))))
abbrev g_q89_r5:GR:=(O1 0 16 5 (O3 1 17 0 7 (O2 2 18 17 (O3 3 19 1 7 (O2 4 20 19 (OP 5 21 (.call 16 [(.tmp 16),(.tmp 18),(.tmp 20),(.const (.bool true))]) .done))))))
abbrev g_q89_r6:GR:=(OP 0 22 (.bin .add (.tmp 12) (K 1)) (O1 1 12 22 .done))
abbrev g_q89_l7:GC:=(.seq (.reg g_q89_r3 [5,10,11,12,13]) (.seq (.cond (.tmp 13) .skip (.exit 0)) (.seq (.block 1 (.seq (.reg g_q89_r4 [5,7,10,11,12]) (.reg g_q89_r5 [5,10,11,12]))) (.reg g_q89_r6 [5,10,11,12]))))
abbrev g_q89_r8:GR:=(O1 0 23 5 (O1 1 4 23 .done))
abbrev g_q89:GC:=(.seq (.reg g_q89_r0 [0,1]) (.seq (.reg g_q89_r1 [1,5]) (.seq (.seq (.reg g_q89_r2 [5,10,11,12]) (.block 0 (.loop g_q89_l7))) (.seq (.reg g_q89_r8 [4]) .ret))))
abbrev rs_q89:List RV:=[(.tmp 4)]
theorem gc_q89:compileF Tryz.prog Tryz.f94 T_q89=some (g_q89,rs_q89):=by kernel_rfl
theorem con_q89 (hv:vc Tryz.prog y g_q89 (retQ rs_q89 R) [(0,a0),(1,a1)] h):ConX y Tryz.prog 94 #[a0,a1] h R:=con_of Tryz.func94 gc_q89 rfl (fun h=>absurd h (by decide)) hv
def T_q86:List (Nat×List Nat):=[(0,[0,2]),(1,[0,2,3]),(2,[2,3,15,16,17]),(3,[2,3,15,16,17,18]),(4,[2,3,4,5,15,16,17]),(5,[2,3,4,15,16,17,23]),(6,[3,4,6]),(7,[]),(8,[2,3,15,16,17]),(9,[2])]
abbrev g_q86_r0:GR:=(OP 0 2 (.mv (.const (.pointer none))) .done)
abbrev g_q86_r1:GR:=(O1 0 7 0 (OP 1 8 (.nilCheck (.tmp 7)) (O3 2 9 0 8 (O2 3 10 9 (OP 4 11 (.call 93 [(.tmp 10)]) (OP 5 3 (.alloc 38 [(.pointer none)]) (OS 6 (.store 1 (.tmp 3) (.tmp 11)) .done)))))))
abbrev g_q86_r2:GR:=(O1 0 12 0 (OP 1 13 (.nilCheck (.tmp 12)) (O3 2 14 1 13 (O2 3 15 14 (OP 4 16 (.len (.tmp 15)) (OP 5 17 (.mv (K 0)) .done))))))
abbrev g_q86_r3:GR:=(O5 0 18 .lss 17 16 .done)
abbrev g_q86_r4:GR:=(O1 0 19 17 (O4 1 20 1 15 17 (O2 2 21 20 (OP 3 4 (.alloc 3 [(.int .i64 0)]) (OS 4 (.store 1 (.tmp 4) (.tmp 19)) (O1 5 5 21 .done))))))
abbrev g_q86_r5:GR:=(O1 0 22 5 (OP 1 23 (.call 76 [(.tmp 22)]) .done))
abbrev g_q86_r6:GR:=(O1 0 6 24 .done)
abbrev g_q86_r7:GR:=(O6 0 25 3 (OP 1 26 (.nilCheck (.tmp 25)) (O3 2 27 1 26 (O6 3 28 27 (O1 4 29 6 (O4 5 30 1 28 29 (O6 6 31 30 (O6 7 32 4 (.op (GI.mk 8 (some 33) none (.call 100 [(.tmp 31),(.tmp 32)]) [0,3] false) .done)))))))))
abbrev g_q86_b8:GC:=(.block 3 (.reg g_q86_r7 []))
abbrev g_q86_r9:GR:=(OP 0 34 (.bin .add (.tmp 17) (K 1)) (O1 1 17 34 .done))
abbrev g_q86_l10:GC:=(.seq (.reg g_q86_r3 [2,3,15,16,17,18]) (.seq (.cond (.tmp 18) .skip (.exit 0)) (.seq (.block 1 (.seq (.reg g_q86_r4 [2,3,4,5,15,16,17]) (.seq (.reg g_q86_r5 [2,3,4,15,16,17,23]) (.block 2 (.rng (.tmp 23) [24] (.reg g_q86_r6 [3,4,6]) g_q86_b8))))) (.reg g_q86_r9 [2,3,15,16,17]))))
abbrev g_q86_r11:GR:=(O2 0 35 3 (O1 1 2 35 .done))
abbrev g_q86:GC:=(.seq (.reg g_q86_r0 [0,2]) (.seq (.reg g_q86_r1 [0,2,3]) (.seq (.seq (.reg g_q86_r2 [2,3,15,16,17]) (.block 0 (.loop g_q86_l10))) (.seq (.reg g_q86_r11 [2]) .ret))))
abbrev rs_q86:List RV:=[(.tmp 2)]
theorem gc_q86:compileF Tryz.prog Tryz.f95 T_q86=some (g_q86,rs_q86):=by kernel_rfl
theorem con_q86 (hR:∀ v h1 h2,Ext h.size h1 h2→R v h1→R v h2) (hv:vc Tryz.prog y g_q86 (retQ rs_q86 R) [(0,a0)] h):ConX y Tryz.prog 95 #[a0] h R:=con_of Tryz.func95 gc_q86 rfl (fun _=>hR) hv
def T_q3:List (Nat×List Nat):=[(0,[1,2]),(1,[1,2,5]),(2,[1,5,13,14,15]),(3,[1,5,13,14,15,16]),(4,[1,5,6,7,13,14,15]),(5,[1,5,13,14,15]),(6,[1,5,13,14,15]),(7,[4])]
abbrev g_q3_r0:GR:=(OP 0 2 (.box 26 (.tmp 0)) (OP 1 4 (.mv (.const (.slice none 0 0))) .done))
abbrev g_q3_r1:GR:=(O3 0 8 1 2 (O2 1 9 8 (OP 2 10 (.len (.tmp 9)) (OP 3 11 (.makeSlice 4 1 1 [(.bool false)] (.tmp 10) (.tmp 10)) (O1 4 5 11 .done)))))
abbrev g_q3_r2:GR:=(O3 0 12 1 2 (O2 1 13 12 (OP 2 14 (.len (.tmp 13)) (OP 3 15 (.mv (K 0)) .done))))
abbrev g_q3_r3:GR:=(O5 0 16 .lss 15 14 .done)
abbrev g_q3_r4:GR:=(O1 0 17 15 (O4 1 18 5 13 15 (OP 2 19 (.load (some 5) (.tmp 18)) (OP 3 7 (.alloc 72 [(.int .i64 0),(.int .i64 0),(.int .i64 0),(.int .u64 0),(.int .i64 0)]) (O1 4 6 17 (OS 5 (.store 5 (.tmp 7) (.tmp 19)) .done))))))
abbrev g_q3_r5:GR:=(O1 0 20 5 (O1 1 21 6 (O1 2 22 1 (O3 3 23 4 7 (O2 4 24 23 (OP 5 25 (.call 108 [(.tmp 22),(.tmp 24)]) (O4 6 26 1 20 21 (OS 7 (.store 1 (.tmp 26) (.tmp 25)) .done))))))))
abbrev g_q3_r6:GR:=(OP 0 27 (.bin .add (.tmp 15) (K 1)) (O1 1 15 27 .done))
abbrev g_q3_l7:GC:=(.seq (.reg g_q3_r3 [1,5,13,14,15,16]) (.seq (.cond (.tmp 16) .skip (.exit 0)) (.seq (.block 1 (.seq (.reg g_q3_r4 [1,5,6,7,13,14,15]) (.reg g_q3_r5 [1,5,13,14,15]))) (.reg g_q3_r6 [1,5,13,14,15]))))
abbrev g_q3_r8:GR:=(O1 0 28 5 (O1 1 4 28 .done))
abbrev g_q3:GC:=(.seq (.reg g_q3_r0 [1,2]) (.seq (.reg g_q3_r1 [1,2,5]) (.seq (.seq (.reg g_q3_r2 [1,5,13,14,15]) (.block 0 (.loop g_q3_l7))) (.seq (.reg g_q3_r8 [4]) .ret))))
abbrev rs_q3:List RV:=[(.tmp 4)]
theorem gc_q3:compileF Tryz.prog Tryz.f96 T_q3=some (g_q3,rs_q3):=by kernel_rfl
theorem con_q3 (hv:vc Tryz.prog y g_q3 (retQ rs_q3 R) [(0,a0),(1,a1)] h):ConX y Tryz.prog 96 #[a0,a1] h R:=con_of Tryz.func96 gc_q3 rfl (fun h=>absurd h (by decide)) hv
def T_q84:List (Nat×List Nat):=[(0,[0,1]),(1,[1,5]),(2,[5,10,11,12]),(3,[5,10,11,12,13]),(4,[5,6,7,10,11,12]),(5,[5,6,10,11,12,17]),(6,[5,10,11,12]),(7,[5,10,11,12]),(8,[4])]
abbrev g_q84_r0:GR:=(OP 0 4 (.mv (.const (.pointer none))) .done)
abbrev g_q84_r1:GR:=(O1 0 8 0 (OP 1 9 (.call 93 [(.tmp 8)]) (O1 2 5 9 .done)))
abbrev g_q84_r2:GR:=(O1 0 10 1 (OP 1 11 (.len (.tmp 10)) (OP 2 12 (.mv (K 0)) .done)))
abbrev g_q84_r3:GR:=(O5 0 13 .lss 12 11 .done)
abbrev g_q84_r4:GR:=(O1 0 14 12 (O4 1 15 1 10 12 (O2 2 16 15 (O1 3 6 14 (O1 4 7 16 .done)))))
abbrev g_q84_r5:GR:=(O1 0 17 7 .done)
abbrev g_q84_r6:GR:=(O1 0 18 5 (O1 1 19 6 (O1 2 20 6 (OP 3 21 (.call 16 [(.tmp 18),(.tmp 19),(.tmp 20),(.const (.bool true))]) .done))))
abbrev g_q84_r7:GR:=(OP 0 22 (.bin .add (.tmp 12) (K 1)) (O1 1 12 22 .done))
abbrev g_q84_l8:GC:=(.seq (.reg g_q84_r3 [5,10,11,12,13]) (.seq (.cond (.tmp 13) .skip (.exit 0)) (.seq (.block 1 (.seq (.reg g_q84_r4 [5,6,7,10,11,12]) (.seq (.reg g_q84_r5 [5,6,10,11,12,17]) (.cond (.tmp 17) (.reg g_q84_r6 [5,10,11,12]) .skip)))) (.reg g_q84_r7 [5,10,11,12]))))
abbrev g_q84_r9:GR:=(O1 0 23 5 (O1 1 4 23 .done))
abbrev g_q84:GC:=(.seq (.reg g_q84_r0 [0,1]) (.seq (.reg g_q84_r1 [1,5]) (.seq (.seq (.reg g_q84_r2 [5,10,11,12]) (.block 0 (.loop g_q84_l8))) (.seq (.reg g_q84_r9 [4]) .ret))))
abbrev rs_q84:List RV:=[(.tmp 4)]
theorem gc_q84:compileF Tryz.prog Tryz.f97 T_q84=some (g_q84,rs_q84):=by kernel_rfl
theorem con_q84 (hv:vc Tryz.prog y g_q84 (retQ rs_q84 R) [(0,a0),(1,a1)] h):ConX y Tryz.prog 97 #[a0,a1] h R:=con_of Tryz.func97 gc_q84 rfl (fun h=>absurd h (by decide)) hv
def T_q104:List (Nat×List Nat):=[(0,[0,7,8,9]),(1,[0,7,8,9,10]),(2,[0,5,7,8,9]),(3,[0,5,7,8,9,17,18]),(4,[0,5,7,8,9,17,18,19]),(5,[0,5,6,7,8,9,17,18]),(6,[0,5,7,8,9,17,18]),(7,[0,5,7,8,9,17,18]),(8,[0,7,8,9])]
abbrev g_q104_r0:GR:=(O1 0 7 1 (OP 1 8 (.len (.tmp 7)) (OP 2 9 (.mv (K 0)) .done)))
abbrev g_q104_r1:GR:=(O5 0 10 .lss 9 8 .done)
abbrev g_q104_r2:GR:=(O4 0 11 1 7 9 (O2 1 12 11 (O1 2 5 12 .done)))
abbrev g_q104_r3:GR:=(O1 0 13 0 (OP 1 14 (.len (.tmp 13)) (O1 2 15 5 (OP 3 16 (.len (.tmp 15)) (OP 4 17 (.mini (.tmp 14) (.tmp 16)) (OP 5 18 (.mv (K 0)) .done))))))
abbrev g_q104_r4:GR:=(O5 0 19 .lss 18 17 .done)
abbrev g_q104_r5:GR:=(O1 0 20 18 (O1 1 6 20 .done))
abbrev g_q104_r6:GR:=(O1 0 21 0 (O1 1 22 6 (O4 2 23 1 21 22 (O6 3 24 23 (O1 4 25 5 (O1 5 26 6 (O4 6 27 1 25 26 (O6 7 28 27 (O5 8 29 .or 24 28 (O4 9 30 1 21 22 (OS 10 (.store 1 (.tmp 30) (.tmp 29)) .done)))))))))))
abbrev g_q104_r7:GR:=(OP 0 31 (.bin .add (.tmp 18) (K 1)) (O1 1 18 31 .done))
abbrev g_q104_l8:GC:=(.seq (.reg g_q104_r4 [0,5,7,8,9,17,18,19]) (.seq (.cond (.tmp 19) .skip (.exit 2)) (.seq (.block 3 (.seq (.reg g_q104_r5 [0,5,6,7,8,9,17,18]) (.reg g_q104_r6 [0,5,7,8,9,17,18]))) (.reg g_q104_r7 [0,5,7,8,9,17,18]))))
abbrev g_q104_r9:GR:=(OP 0 32 (.bin .add (.tmp 9) (K 1)) (O1 1 9 32 .done))
abbrev g_q104_l10:GC:=(.seq (.reg g_q104_r1 [0,7,8,9,10]) (.seq (.cond (.tmp 10) .skip (.exit 0)) (.seq (.block 1 (.seq (.reg g_q104_r2 [0,5,7,8,9]) (.seq (.reg g_q104_r3 [0,5,7,8,9,17,18]) (.block 2 (.loop g_q104_l8))))) (.reg g_q104_r9 [0,7,8,9]))))
abbrev g_q104:GC:=(.seq (.reg g_q104_r0 [0,7,8,9]) (.block 0 (.loop g_q104_l10)))
abbrev rs_q104:List RV:=[]
theorem gc_q104:compileF Tryz.prog Tryz.f98 T_q104=some (g_q104,rs_q104):=by kernel_rfl
theorem con_q104 (hv:vc Tryz.prog y g_q104 (retQ rs_q104 R) [(0,a0),(1,a1)] h):ConX y Tryz.prog 98 #[a0,a1] h R:=con_of Tryz.func98 gc_q104 rfl (fun h=>absurd h (by decide)) hv
def T_q92:List (Nat×List Nat):=[(0,[0]),(1,[2])]
abbrev g_q92_r0:GR:=(OP 0 2 (.mv (.const (.pointer none))) .done)
abbrev g_q92_r1:GR:=(O1 0 3 0 (OP 1 4 (.call 112 [(.tmp 3),(K 0)]) (O1 2 2 4 .done)))
abbrev g_q92:GC:=(.seq (.reg g_q92_r0 [0]) (.seq (.reg g_q92_r1 [2]) .ret))
abbrev rs_q92:List RV:=[(.tmp 2)]
theorem gc_q92:compileF Tryz.prog Tryz.f99 T_q92=some (g_q92,rs_q92):=by kernel_rfl
theorem con_q92 (hv:vc Tryz.prog y g_q92 (retQ rs_q92 R) [(0,a0)] h):ConX y Tryz.prog 99 #[a0] h R:=con_of Tryz.func99 gc_q92 rfl (fun h=>absurd h (by decide)) hv
def T_q107:List (Nat×List Nat):=[(0,[])]
abbrev g_q107_r0:GR:=(O1 0 4 0 (O1 1 5 1 (OP 2 6 (.bin .quo (.tmp 5) (K 64)) (O4 3 7 1 4 6 (O6 4 8 7 (O1 5 9 1 (OP 6 10 (.bin .rem (.tmp 9) (K 64)) (OP 7 11 (.shift .shl (.const (.int .u64 1)) (.tmp 10)) (O5 8 12 .or 8 11 (O4 9 13 1 4 6 (OS 10 (.store 1 (.tmp 13) (.tmp 12)) .done)))))))))))
abbrev g_q107:GC:=(.reg g_q107_r0 [])
abbrev rs_q107:List RV:=[]
theorem gc_q107:compileF Tryz.prog Tryz.f100 T_q107=some (g_q107,rs_q107):=by kernel_rfl
theorem con_q107 (hv:vc Tryz.prog y g_q107 (retQ rs_q107 R) [(0,a0),(1,a1)] h):ConX y Tryz.prog 100 #[a0,a1] h R:=con_of Tryz.func100 gc_q107 rfl (fun h=>absurd h (by decide)) hv
def T_q102:List (Nat×List Nat):=[(0,[0,4,5,6]),(1,[4,5,6,7]),(2,[4,5,6,7,20,21,22]),(3,[4,5,6,7,20,21,22,23]),(4,[4,5,6,7,8,9,20,21,22]),(5,[4,5,6,7,8,20,21,22,30]),(6,[4,5,7,8,10]),(7,[7,8,10,37]),(8,[]),(9,[4,5,6,7,20,21,22]),(10,[6])]
abbrev g_q102_r0:GR:=(OP 0 4 (.box 38 (.tmp 1)) (OP 1 5 (.box 4 (.tmp 2)) (OP 2 6 (.mv (.const (.pointer none))) .done)))
abbrev g_q102_r1:GR:=(O1 0 11 0 (O2 1 12 4 (OP 2 13 (.nilCheck (.tmp 12)) (O3 3 14 0 13 (O2 4 15 14 (OP 5 16 (.call 112 [(.tmp 11),(.tmp 15)]) (OP 6 7 (.alloc 38 [(.pointer none)]) (OS 7 (.store 1 (.tmp 7) (.tmp 16)) .done))))))))
abbrev g_q102_r2:GR:=(O2 0 17 7 (OP 1 18 (.nilCheck (.tmp 17)) (O3 2 19 1 18 (O2 3 20 19 (OP 4 21 (.len (.tmp 20)) (OP 5 22 (.mv (K 0)) .done))))))
abbrev g_q102_r3:GR:=(O5 0 23 .lss 22 21 .done)
abbrev g_q102_r4:GR:=(O1 0 24 22 (O4 1 25 1 20 22 (O2 2 26 25 (OP 3 8 (.alloc 3 [(.int .i64 0)]) (OS 4 (.store 1 (.tmp 8) (.tmp 24)) (O1 5 9 26 .done))))))
abbrev g_q102_r5:GR:=(O1 0 27 9 (OP 1 28 (.call 76 [(.tmp 27)]) (OP 2 29 (.call 114 [(.tmp 28)]) (OP 3 30 (.call 113 [(.tmp 29)]) .done))))
abbrev g_q102_r6:GR:=(O1 0 10 31 .done)
abbrev g_q102_r7:GR:=(O6 0 32 4 (O6 1 33 8 (O1 2 34 10 (O6 4 36 5 (.op (GI.mk 3 (some 35) none (.call 17 [(.tmp 32),(.tmp 33),(.tmp 34)]) [4] false) (OP 5 37 (.eqBool true (.tmp 35) (.tmp 36)) .done))))))
abbrev g_q102_r8:GR:=(O2 0 38 7 (O2 1 39 8 (O1 2 40 10 (OP 3 41 (.call 16 [(.tmp 38),(.tmp 39),(.tmp 40),(.const (.bool false))]) .done))))
abbrev g_q102_b9:GC:=(.block 3 (.seq (.reg g_q102_r7 [7,8,10,37]) (.cond (.tmp 37) (.reg g_q102_r8 []) .skip)))
abbrev g_q102_r10:GR:=(OP 0 42 (.bin .add (.tmp 22) (K 1)) (O1 1 22 42 .done))
abbrev g_q102_l11:GC:=(.seq (.reg g_q102_r3 [4,5,6,7,20,21,22,23]) (.seq (.cond (.tmp 23) .skip (.exit 0)) (.seq (.block 1 (.seq (.reg g_q102_r4 [4,5,6,7,8,9,20,21,22]) (.seq (.reg g_q102_r5 [4,5,6,7,8,20,21,22,30]) (.block 2 (.rng (.tmp 30) [31] (.reg g_q102_r6 [4,5,7,8,10]) g_q102_b9))))) (.reg g_q102_r10 [4,5,6,7,20,21,22]))))
abbrev g_q102_r12:GR:=(O2 0 43 7 (O1 1 6 43 .done))
abbrev g_q102:GC:=(.seq (.reg g_q102_r0 [0,4,5,6]) (.seq (.reg g_q102_r1 [4,5,6,7]) (.seq (.seq (.reg g_q102_r2 [4,5,6,7,20,21,22]) (.block 0 (.loop g_q102_l11))) (.seq (.reg g_q102_r12 [6]) .ret))))
abbrev rs_q102:List RV:=[(.tmp 6)]
theorem gc_q102:compileF Tryz.prog Tryz.f101 T_q102=some (g_q102,rs_q102):=by kernel_rfl
theorem con_q102 (hR:∀ v h1 h2,Ext h.size h1 h2→R v h1→R v h2) (hv:vc Tryz.prog y g_q102 (retQ rs_q102 R) [(0,a0),(1,a1),(2,a2)] h):ConX y Tryz.prog 101 #[a0,a1,a2] h R:=con_of Tryz.func101 gc_q102 rfl (fun _=>hR) hv
def T_q98:List (Nat×List Nat):=[(0,[0,1,4]),(1,[0,1,4,5]),(2,[0,1,4,5,6]),(3,[0,1,4,5,6,7]),(4,[0,1,4,5,6,7,8]),(5,[0,1,4,5,6,7,8,27]),(6,[0,1,4,5,6,7,8]),(7,[0,1,4,5,6,7,8,9]),(8,[0,1,4,5,6,7,8,9,30,31,32]),(9,[0,1,4,5,6,7,8,9,30,31,32,33]),(10,[0,1,4,5,6,7,8,9,11,30,31,32]),(11,[0,1,4,5,6,7,8,9,30,31,32,43]),(12,[6,8,9,12]),(13,[6,8,9,12,49]),(14,[9,12]),(15,[]),(16,[0,1,4,5,6,7,8,9,30,31,32]),(17,[0,1,4,5,6,7,8]),(18,[0,1,4,5,6,7,60]),(19,[0,1,4,5,6,7,8]),(20,[0,1,4,6,13]),(21,[0,4,6,13,14]),(22,[0,4,6,13,14,69]),(23,[0,4,6,13,14]),(24,[0,4,6,13,14,84]),(25,[6,13,14,15]),(26,[13,15,91]),(27,[]),(28,[0,4,6,13,96]),(29,[0,4,6,13,14]),(30,[4])]
abbrev g_q98_r0:GR:=(OP 0 4 (.mv (.const (.slice none 0 0))) .done)
abbrev g_q98_r1:GR:=(O1 0 16 0 (OP 1 17 (.call 95 [(.tmp 16)]) (O1 2 5 17 .done)))
abbrev g_q98_r2:GR:=(O1 0 18 0 (OP 1 19 (.nilCheck (.tmp 18)) (O3 2 20 0 19 (O2 3 21 20 (OP 4 22 (.makeSlice 3 1 8 [(.int .i64 0)] (.tmp 21) (.tmp 21)) (OP 5 6 (.alloc 28 [(.slice none 0 0)]) (OS 6 (.store 1 (.tmp 6) (.tmp 22)) .done)))))))
abbrev g_q98_r3:GR:=(O1 0 23 1 (OP 1 24 (.buildSlice 3 1 [(.int .i64 0)] [(0,(1,(.tmp 23)))]) (O1 2 7 24 .done)))
abbrev g_q98_r4:GR:=(OP 0 8 (.alloc 3 [(.int .i64 0)]) (OS 1 (.store 1 (.tmp 8) (K 1)) .done))
abbrev g_q98_r5:GR:=(O1 0 25 7 (OP 1 26 (.len (.tmp 25)) (OP 2 27 (.bin .gtr (.tmp 26) (K 0)) .done)))
abbrev g_q98_r6:GR:=(OP 0 9 (.alloc 28 [(.slice none 0 0)]) .done)
abbrev g_q98_r7:GR:=(O1 0 30 7 (OP 1 31 (.len (.tmp 30)) (OP 2 32 (.mv (K 0)) .done)))
abbrev g_q98_r8:GR:=(O5 0 33 .lss 32 31 .done)
abbrev g_q98_r9:GR:=(O4 0 34 1 30 32 (O2 1 35 34 (O1 2 11 35 .done)))
abbrev g_q98_r10:GR:=(O1 0 36 5 (OP 1 37 (.nilCheck (.tmp 36)) (O3 2 38 1 37 (O2 3 39 38 (O1 4 40 11 (O4 5 41 1 39 40 (O2 6 42 41 (OP 7 43 (.call 76 [(.tmp 42)]) .done))))))))
abbrev g_q98_r11:GR:=(O1 0 12 44 .done)
abbrev g_q98_r12:GR:=(O2 0 45 6 (O1 1 46 12 (O4 2 47 1 45 46 (O2 3 48 47 (OP 4 49 (.bin .eql (.tmp 48) (K 0)) .done)))))
abbrev g_q98_r13:GR:=(O2 0 50 6 (O1 1 51 12 (O2 2 52 8 (O4 3 53 1 50 51 (OS 4 (.store 1 (.tmp 53) (.tmp 52)) .done)))))
abbrev g_q98_r14:GR:=(O2 0 54 9 (O1 1 55 12 (OP 2 56 (.buildSlice 3 1 [(.int .i64 0)] [(0,(1,(.tmp 55)))]) (OP 3 57 (.append 3 1 8 [(.int .i64 0)] (.tmp 54) (.tmp 56)) (OS 4 (.store 1 (.tmp 9) (.tmp 57)) .done)))))
abbrev g_q98_b15:GC:=(.block 5 (.seq (.reg g_q98_r12 [6,8,9,12,49]) (.cond (.tmp 49) (.seq (.reg g_q98_r13 [9,12]) (.reg g_q98_r14 [])) .skip)))
abbrev g_q98_r16:GR:=(OP 0 58 (.bin .add (.tmp 32) (K 1)) (O1 1 32 58 .done))
abbrev g_q98_l17:GC:=(.seq (.reg g_q98_r8 [0,1,4,5,6,7,8,9,30,31,32,33]) (.seq (.cond (.tmp 33) .skip (.exit 2)) (.seq (.block 3 (.seq (.reg g_q98_r9 [0,1,4,5,6,7,8,9,11,30,31,32]) (.seq (.reg g_q98_r10 [0,1,4,5,6,7,8,9,30,31,32,43]) (.block 4 (.rng (.tmp 43) [44] (.reg g_q98_r11 [6,8,9,12]) g_q98_b15))))) (.reg g_q98_r16 [0,1,4,5,6,7,8,9,30,31,32]))))
abbrev g_q98_r18:GR:=(O2 0 59 9 (O1 1 7 59 .done))
abbrev g_q98_r19:GR:=(O2 0 60 8 .done)
abbrev g_q98_r20:GR:=(OP 0 8 (.alloc 3 [(.int .i64 0)]) (OS 1 (.store 1 (.tmp 8) (.tmp 60)) .done))
abbrev g_q98_r21:GR:=(O2 0 28 8 (OP 1 29 (.bin .add (.tmp 28) (K 1)) (OS 2 (.store 1 (.tmp 8) (.tmp 29)) .done)))
abbrev g_q98_l22:GC:=(.seq (.seq (.reg g_q98_r5 [0,1,4,5,6,7,8,27]) (.cond (.tmp 27) .skip (.exit 0))) (.seq (.block 1 (.seq (.reg g_q98_r6 [0,1,4,5,6,7,8,9]) (.seq (.seq (.reg g_q98_r7 [0,1,4,5,6,7,8,9,30,31,32]) (.block 2 (.loop g_q98_l17))) (.reg g_q98_r18 [0,1,4,5,6,7,8])))) (.seq (.seq (.reg g_q98_r19 [0,1,4,5,6,7,60]) (.reg g_q98_r20 [0,1,4,5,6,7,8])) (.reg g_q98_r21 [0,1,4,5,6,7,8]))))
abbrev g_q98_r23:GR:=(O1 0 61 1 (OP 1 62 (.buildSlice 3 1 [(.int .i64 0)] [(0,(1,(.tmp 61)))]) (OP 2 13 (.alloc 28 [(.slice none 0 0)]) (OS 3 (.store 1 (.tmp 13) (.tmp 62)) .done))))
abbrev g_q98_r24:GR:=(O2 0 63 6 (O1 1 64 1 (O4 2 65 1 63 64 (O2 3 66 65 (OP 4 67 (.bin .sub (.tmp 66) (K 1)) (OP 5 14 (.alloc 3 [(.int .i64 0)]) (OS 6 (.store 1 (.tmp 14) (.tmp 67)) .done)))))))
abbrev g_q98_r25:GR:=(O2 0 68 14 (OP 1 69 (.bin .gtr (.tmp 68) (K 0)) .done))
abbrev g_q98_r26:GR:=(O1 0 72 0 (OP 1 73 (.nilCheck (.tmp 72)) (O3 2 74 1 73 (O6 3 75 74 (O6 4 76 13 (O6 5 77 13 (OP 6 78 (.len (.tmp 77)) (OP 7 79 (.bin .sub (.tmp 78) (K 1)) (O4 8 80 1 76 79 (O6 9 81 80 (O4 10 82 1 75 81 (O6 11 83 82 (.op (GI.mk 12 (some 84) none (.call 76 [(.tmp 83)]) [3,4,5,9] false) .done)))))))))))))
abbrev g_q98_r27:GR:=(O1 0 15 85 .done)
abbrev g_q98_r28:GR:=(O6 0 86 6 (O1 1 87 15 (O4 2 88 1 86 87 (O6 3 89 88 (O6 4 90 14 (O5 5 91 .eql 89 90 .done))))))
abbrev g_q98_r29:GR:=(O2 0 92 13 (O1 1 93 15 (OP 2 94 (.buildSlice 3 1 [(.int .i64 0)] [(0,(1,(.tmp 93)))]) (OP 3 95 (.append 3 1 8 [(.int .i64 0)] (.tmp 92) (.tmp 94)) (OS 4 (.store 1 (.tmp 13) (.tmp 95)) .done)))))
abbrev g_q98_b30:GC:=(.block 9 (.seq (.reg g_q98_r28 [13,15,91]) (.cond (.tmp 91) (.seq (.reg g_q98_r29 []) (.exit 8)) .skip)))
abbrev g_q98_r31:GR:=(O2 0 96 14 .done)
abbrev g_q98_r32:GR:=(OP 0 14 (.alloc 3 [(.int .i64 0)]) (OS 1 (.store 1 (.tmp 14) (.tmp 96)) .done))
abbrev g_q98_r33:GR:=(O2 0 70 14 (OP 1 71 (.bin .sub (.tmp 70) (K 1)) (OS 2 (.store 1 (.tmp 14) (.tmp 71)) .done)))
abbrev g_q98_l34:GC:=(.seq (.seq (.reg g_q98_r25 [0,4,6,13,14,69]) (.cond (.tmp 69) .skip (.exit 6))) (.seq (.block 7 (.seq (.reg g_q98_r26 [0,4,6,13,14,84]) (.block 8 (.rng (.tmp 84) [85] (.reg g_q98_r27 [6,13,14,15]) g_q98_b30)))) (.seq (.seq (.reg g_q98_r31 [0,4,6,13,96]) (.reg g_q98_r32 [0,4,6,13,14])) (.reg g_q98_r33 [0,4,6,13,14]))))
abbrev g_q98_r35:GR:=(O2 0 97 13 (O1 1 4 97 .done))
abbrev g_q98:GC:=(.seq (.reg g_q98_r0 [0,1,4]) (.seq (.reg g_q98_r1 [0,1,4,5]) (.seq (.reg g_q98_r2 [0,1,4,5,6]) (.seq (.reg g_q98_r3 [0,1,4,5,6,7]) (.seq (.seq (.reg g_q98_r4 [0,1,4,5,6,7,8]) (.block 0 (.loop g_q98_l22))) (.seq (.reg g_q98_r23 [0,1,4,6,13]) (.seq (.seq (.reg g_q98_r24 [0,4,6,13,14]) (.block 6 (.loop g_q98_l34))) (.seq (.reg g_q98_r35 [4]) .ret))))))))
abbrev rs_q98:List RV:=[(.tmp 4)]
theorem gc_q98:compileF Tryz.prog Tryz.f102 T_q98=some (g_q98,rs_q98):=by kernel_rfl
theorem con_q98 (hR:∀ v h1 h2,Ext h.size h1 h2→R v h1→R v h2) (hv:vc Tryz.prog y g_q98 (retQ rs_q98 R) [(0,a0),(1,a1)] h):ConX y Tryz.prog 102 #[a0,a1] h R:=con_of Tryz.func102 gc_q98 rfl (fun _=>hR) hv
def T_q106:List (Nat×List Nat):=[(0,[0,5,6,7]),(1,[0,5,6,7,8]),(2,[0,3,4,5,6,7]),(3,[0,3,4,5,6,7,13]),(4,[0,3,4,5,6,7]),(5,[0,3,4,5,6,7,25]),(6,[0,5,6,7])]
abbrev g_q106_r0:GR:=(O2 0 5 1 (OP 1 6 (.len (.tmp 5)) (OP 2 7 (.mv (K 0)) .done)))
abbrev g_q106_r1:GR:=(O5 0 8 .lss 7 6 .done)
abbrev g_q106_r2:GR:=(O1 0 9 7 (O4 1 10 1 5 7 (O2 2 11 10 (O1 3 3 9 (O1 4 4 11 .done)))))
abbrev g_q106_r3:GR:=(O1 0 12 4 (OP 1 13 (.bin .neq (.tmp 12) (.const (.int .u64 0))) .done))
abbrev g_q106_r4:GR:=(O1 0 18 0 (O1 1 19 3 (OP 2 20 (.bin .mul (K 64) (.tmp 19)) (O1 3 21 4 (OP 4 22 (.call 104 [(.tmp 21)]) (O5 5 23 .add 20 22 (OP 6 24 (.callv (.tmp 18) [(.tmp 23)]) (OP 7 25 (.not (.tmp 24)) .done))))))))
abbrev g_q106_r5:GR:=(O1 0 14 4 (O1 1 15 4 (OP 2 16 (.bin .sub (.tmp 15) (.const (.int .u64 1))) (O5 3 17 .and 14 16 (O1 4 4 17 .done)))))
abbrev g_q106_l6:GC:=(.seq (.seq (.reg g_q106_r3 [0,3,4,5,6,7,13]) (.cond (.tmp 13) .skip (.exit 2))) (.seq (.block 3 (.seq (.reg g_q106_r4 [0,3,4,5,6,7,25]) (.cond (.tmp 25) .ret .skip))) (.reg g_q106_r5 [0,3,4,5,6,7])))
abbrev g_q106_r7:GR:=(OP 0 26 (.bin .add (.tmp 7) (K 1)) (O1 1 7 26 .done))
abbrev g_q106_l8:GC:=(.seq (.reg g_q106_r1 [0,5,6,7,8]) (.seq (.cond (.tmp 8) .skip (.exit 0)) (.seq (.block 1 (.seq (.reg g_q106_r2 [0,3,4,5,6,7]) (.block 2 (.loop g_q106_l6)))) (.reg g_q106_r7 [0,5,6,7]))))
abbrev g_q106:GC:=(.seq (.reg g_q106_r0 [0,5,6,7]) (.block 0 (.loop g_q106_l8)))
abbrev rs_q106:List RV:=[]
theorem gc_q106:compileF Tryz.prog Tryz.f103 T_q106=some (g_q106,rs_q106):=by kernel_rfl
theorem con_q106 (hv:vc Tryz.prog y g_q106 (retQ rs_q106 R) [(0,a0),(1,a1)] h):ConX y Tryz.prog 103 #[a0,a1] h R:=con_of Tryz.func103 gc_q106 rfl (fun h=>absurd h (by decide)) hv
def T_q25:List (Nat×List Nat):=[(0,[0]),(1,[0,4]),(2,[2]),(3,[2])]
abbrev g_q25_r0:GR:=(OP 0 2 (.mv (K 0)) .done)
abbrev g_q25_r1:GR:=(O1 0 3 0 (OP 1 4 (.bin .eql (.tmp 3) (.const (.int .u64 0))) .done))
abbrev g_q25_r2:GR:=(OP 0 2 (.mv (K 64)) .done)
abbrev g_q25_r3:GR:=(O1 0 5 0 (O1 1 6 0 (OP 2 7 (.neg (.tmp 6)) (O5 3 8 .and 5 7 (OP 4 9 (.bin .mul (.tmp 8) (.const (.int .u64 285870213051353865))) (OP 5 10 (.shift .shr (.tmp 9) (.const (.int .u64 58))) (OP 6 11 (.indexArr 1 64 (.global 0) (.tmp 10)) (O2 7 12 11 (OP 8 13 (.conv .i64 (.tmp 12)) (O1 9 2 13 .done))))))))))
abbrev g_q25:GC:=(.seq (.reg g_q25_r0 [0]) (.seq (.seq (.reg g_q25_r1 [0,4]) (.cond (.tmp 4) (.seq (.reg g_q25_r2 [2]) .ret) .skip)) (.seq (.reg g_q25_r3 [2]) .ret)))
abbrev rs_q25:List RV:=[(.tmp 2)]
theorem gc_q25:compileF Tryz.prog Tryz.f104 T_q25=some (g_q25,rs_q25):=by kernel_rfl
theorem con_q25 (hv:vc Tryz.prog y g_q25 (retQ rs_q25 R) [(0,a0)] h):ConX y Tryz.prog 104 #[a0] h R:=con_of Tryz.func104 gc_q25 rfl (fun h=>absurd h (by decide)) hv
def T_q49:List (Nat×List Nat):=[(0,[0,1,4]),(1,[1,4,5]),(2,[1,4,5,6]),(3,[1,4,5,6,12]),(4,[1,4,5,6]),(5,[1,4,5,6,30]),(6,[1,4,5,6]),(7,[4])]
abbrev g_q49_r0:GR:=(OP 0 4 (.alloc 47 [(.int .i64 0),(.slice none 0 0)]) .done)
abbrev g_q49_r1:GR:=(O1 0 7 0 (OP 1 8 (.call 72 [(.tmp 7)]) (OP 2 5 (.alloc 47 [(.int .i64 0),(.slice none 0 0)]) (OS 3 (.store 2 (.tmp 5) (.tmp 8)) .done))))
abbrev g_q49_r2:GR:=(OP 0 6 (.mv (K 0)) .done)
abbrev g_q49_r3:GR:=(O1 0 9 6 (O1 1 10 1 (OP 2 11 (.len (.tmp 10)) (O5 3 12 .lss 9 11 .done))))
abbrev g_q49_r4:GR:=(OW 0 15 (.load (some 2) (.tmp 5)) (O1 1 16 1 (O1 2 17 6 (O4 3 18 2 16 17 (O3 4 19 0 18 (O6 5 20 19 (OP 6 21 (.call 106 [(.tmp 15),(.tmp 20)]) (O1 7 22 21 (.op (GI.mk 8 (some 23) (some (22,true)) (.load (some 2) (.tmp 5)) [] true) (OG 9 24 22 true (.mv (.tmp 1)) (OG 10 25 22 true (.mv (.tmp 6)) (OG 11 26 22 true (.indexAddr 2 (.tmp 24) (.tmp 25)) (OG 12 27 22 true (.fieldAddr 1 (.tmp 26)) (.op (GI.mk 13 (some 28) (some (22,true)) (.load none (.tmp 27)) [] true) (.op (GI.mk 14 (some 29) (some (22,true)) (.call 106 [(.tmp 23),(.tmp 28)]) [0,5] false) (OP 15 30 (.pick (.tmp 22) (.tmp 29) (.const (.bool false))) .done))))))))))))))))
abbrev g_q49_r5:GR:=(O3 0 31 1 5 (O6 1 32 31 (O1 2 33 1 (O1 3 34 6 (O4 4 35 2 33 34 (O3 5 36 0 35 (O6 6 37 36 (O4 7 38 1 32 37 (O6 8 39 38 (O1 9 40 1 (O1 10 41 6 (O4 11 42 2 40 41 (O3 12 43 1 42 (O6 13 44 43 (O4 14 45 1 39 44 (OS 15 (.store 1 (.tmp 45) (.const (.bool true))) .done))))))))))))))))
abbrev g_q49_r6:GR:=(O1 0 13 6 (OP 1 14 (.bin .add (.tmp 13) (K 1)) (O1 2 6 14 .done)))
abbrev g_q49_l7:GC:=(.seq (.seq (.reg g_q49_r3 [1,4,5,6,12]) (.cond (.tmp 12) .skip (.exit 0))) (.seq (.block 1 (.seq (.reg g_q49_r4 [1,4,5,6,30]) (.cond (.tmp 30) (.reg g_q49_r5 [1,4,5,6]) .skip))) (.reg g_q49_r6 [1,4,5,6])))
abbrev g_q49_r8:GR:=(OP 0 46 (.load (some 2) (.tmp 5)) (OS 1 (.store 2 (.tmp 4) (.tmp 46)) .done))
abbrev g_q49:GC:=(.seq (.reg g_q49_r0 [0,1,4]) (.seq (.reg g_q49_r1 [1,4,5]) (.seq (.seq (.reg g_q49_r2 [1,4,5,6]) (.block 0 (.loop g_q49_l7))) (.seq (.reg g_q49_r8 [4]) .ret))))
abbrev rs_q49:List RV:=[(.cell 4 (some 2))]
theorem gc_q49:compileF Tryz.prog Tryz.f105 T_q49=some (g_q49,rs_q49):=by kernel_rfl
theorem con_q49 (hv:vc Tryz.prog y g_q49 (retQ rs_q49 R) [(0,a0),(1,a1)] h):ConX y Tryz.prog 105 #[a0,a1] h R:=con_of Tryz.func105 gc_q49 rfl (fun h=>absurd h (by decide)) hv
def T_q57:List (Nat×List Nat):=[(0,[1,2]),(1,[4])]
abbrev g_q57_r0:GR:=(OP 0 2 (.box 47 (.tmp 0)) (OP 1 4 (.mv (.const (.bool false))) .done))
abbrev g_q57_r1:GR:=(O1 0 5 1 (OP 1 6 (.bin .geq (.tmp 5) (K 0)) (O1 2 7 6 (OG 3 8 7 true (.mv (.tmp 1)) (OG 4 9 7 true (.fieldAddr 0 (.tmp 2)) (OG 5 10 7 true (.load none (.tmp 9)) (OG 6 11 7 true (.bin .lss (.tmp 8) (.tmp 10)) (OP 7 12 (.pick (.tmp 7) (.tmp 11) (.const (.bool false))) (O1 8 4 12 .done)))))))))
abbrev g_q57:GC:=(.seq (.reg g_q57_r0 [1,2]) (.seq (.reg g_q57_r1 [4]) .ret))
abbrev rs_q57:List RV:=[(.tmp 4)]
theorem gc_q57:compileF Tryz.prog Tryz.f106 T_q57=some (g_q57,rs_q57):=by kernel_rfl
theorem con_q57 (hv:vc Tryz.prog y g_q57 (retQ rs_q57 R) [(0,a0),(1,a1)] h):ConX y Tryz.prog 106 #[a0,a1] h R:=con_of Tryz.func106 gc_q57 rfl (fun h=>absurd h (by decide)) hv
def T_q110:List (Nat×List Nat):=[(0,[0,1,3]),(1,[0,1,3,8]),(2,[0,1,3]),(3,[0,1,3,18])]
abbrev g_q110_r0:GR:=(O2 0 4 1 (OP 1 5 (.len (.tmp 4)) (OP 2 6 (.bin .sub (.tmp 5) (K 1)) (O1 3 3 6 .done))))
abbrev g_q110_r1:GR:=(O1 0 7 3 (OP 1 8 (.bin .geq (.tmp 7) (K 0)) .done))
abbrev g_q110_r2:GR:=(O1 0 11 0 (O1 1 12 3 (O2 2 13 1 (O1 3 14 3 (O4 4 15 5 13 14 (OP 5 16 (.load (some 5) (.tmp 15)) (OP 6 17 (.callv (.tmp 11) [(.tmp 12),(.tmp 16)]) (OP 7 18 (.not (.tmp 17)) .done))))))))
abbrev g_q110_r3:GR:=(O1 0 9 3 (OP 1 10 (.bin .sub (.tmp 9) (K 1)) (O1 2 3 10 .done)))
abbrev g_q110_l4:GC:=(.seq (.seq (.reg g_q110_r1 [0,1,3,8]) (.cond (.tmp 8) .skip (.exit 0))) (.seq (.block 1 (.seq (.reg g_q110_r2 [0,1,3,18]) (.cond (.tmp 18) .ret .skip))) (.reg g_q110_r3 [0,1,3])))
abbrev g_q110:GC:=(.seq (.reg g_q110_r0 [0,1,3]) (.block 0 (.loop g_q110_l4)))
abbrev rs_q110:List RV:=[]
theorem gc_q110:compileF Tryz.prog Tryz.f107 T_q110=some (g_q110,rs_q110):=by kernel_rfl
theorem con_q110 (hv:vc Tryz.prog y g_q110 (retQ rs_q110 R) [(0,a0),(1,a1)] h):ConX y Tryz.prog 107 #[a0,a1] h R:=con_of Tryz.func107 gc_q110 rfl (fun h=>absurd h (by decide)) hv
def T_q112:List (Nat×List Nat):=[(0,[0,1]),(1,[4])]
abbrev g_q112_r0:GR:=(OP 0 4 (.mv (.const (.bool false))) .done)
abbrev g_q112_r1:GR:=(O1 0 5 0 (O1 1 6 1 (OP 2 7 (.call 115 [(.tmp 5),(.tmp 6)]) (OP 3 8 (.bin .geq (.tmp 7) (K 0)) (O1 4 4 8 .done)))))
abbrev g_q112:GC:=(.seq (.reg g_q112_r0 [0,1]) (.seq (.reg g_q112_r1 [4]) .ret))
abbrev rs_q112:List RV:=[(.tmp 4)]
theorem gc_q112:compileF Tryz.prog Tryz.f108 T_q112=some (g_q112,rs_q112):=by kernel_rfl
theorem con_q112 (hv:vc Tryz.prog y g_q112 (retQ rs_q112 R) [(0,a0),(1,a1)] h):ConX y Tryz.prog 108 #[a0,a1] h R:=con_of Tryz.func108 gc_q112 rfl (fun h=>absurd h (by decide)) hv
def T_q12:List (Nat×List Nat):=[(0,[0,1]),(1,[0,1,5]),(2,[4]),(3,[0,1,12]),(4,[4]),(5,[0,1,16]),(6,[4]),(7,[0,1,23]),(8,[4]),(9,[0,27]),(10,[4]),(11,[34]),(12,[4]),(13,[4])]
abbrev g_q12_r0:GR:=(OP 0 4 (.mv (.const (.slice none 0 0))) .done)
abbrev g_q12_r1:GR:=(O1 0 6 0 (OP 1 7 (.bin .eql (.tmp 6) (K 1)) (O1 2 8 7 (OG 3 9 8 true (.mv (.tmp 1)) (OP 4 10 (.pick (.tmp 8) (.tmp 9) (.const (.bool false))) (O1 5 5 10 .done))))))
abbrev g_q12_r2:GR:=(OP 0 11 (.buildSlice 3 3 [(.int .i64 0),(.int .i64 0),(.int .i64 0)] [(0,(1,(K 11))),(1,(1,(K 12))),(2,(1,(K 16)))]) (O1 1 4 11 .done))
abbrev g_q12_r3:GR:=(O1 0 13 0 (OP 1 14 (.bin .eql (.tmp 13) (K 1)) (O1 2 12 14 .done)))
abbrev g_q12_r4:GR:=(OP 0 15 (.buildSlice 3 3 [(.int .i64 0),(.int .i64 0),(.int .i64 0)] [(0,(1,(K 1))),(1,(1,(K 2))),(2,(1,(K 5)))]) (O1 1 4 15 .done))
abbrev g_q12_r5:GR:=(O1 0 17 0 (OP 1 18 (.bin .eql (.tmp 17) (K 2)) (O1 2 19 18 (OG 3 20 19 true (.mv (.tmp 1)) (OP 4 21 (.pick (.tmp 19) (.tmp 20) (.const (.bool false))) (O1 5 16 21 .done))))))
abbrev g_q12_r6:GR:=(OP 0 22 (.buildSlice 3 2 [(.int .i64 0),(.int .i64 0)] [(0,(1,(K 11))),(1,(1,(K 13)))]) (O1 1 4 22 .done))
abbrev g_q12_r7:GR:=(O1 0 24 0 (OP 1 25 (.bin .eql (.tmp 24) (K 2)) (O1 2 23 25 .done)))
abbrev g_q12_r8:GR:=(OP 0 26 (.buildSlice 3 3 [(.int .i64 0),(.int .i64 0),(.int .i64 0)] [(0,(1,(K 1))),(1,(1,(K 3))),(2,(1,(K 5)))]) (O1 1 4 26 .done))
abbrev g_q12_r9:GR:=(O1 0 28 0 (OP 1 29 (.bin .eql (.tmp 28) (K 3)) (O1 2 30 29 (OG 3 31 30 true (.mv (.tmp 1)) (OP 4 32 (.pick (.tmp 30) (.tmp 31) (.const (.bool false))) (O1 5 27 32 .done))))))
abbrev g_q12_r10:GR:=(OP 0 33 (.buildSlice 3 2 [(.int .i64 0),(.int .i64 0)] [(0,(1,(K 14))),(1,(1,(K 15)))]) (O1 1 4 33 .done))
abbrev g_q12_r11:GR:=(O1 0 35 0 (OP 1 36 (.bin .eql (.tmp 35) (K 3)) (O1 2 34 36 .done)))
abbrev g_q12_r12:GR:=(OP 0 37 (.buildSlice 3 4 [(.int .i64 0),(.int .i64 0),(.int .i64 0),(.int .i64 0)] [(0,(1,(K 2))),(1,(1,(K 3))),(2,(1,(K 4))),(3,(1,(K 5)))]) (O1 1 4 37 .done))
abbrev g_q12_r13:GR:=(OP 0 4 (.mv (.const (.slice none 0 0))) .done)
abbrev g_q12:GC:=(.seq (.reg g_q12_r0 [0,1]) (.seq (.block 0 (.seq (.reg g_q12_r1 [0,1,5]) (.cond (.tmp 5) (.seq (.reg g_q12_r2 [4]) .ret) (.seq (.reg g_q12_r3 [0,1,12]) (.cond (.tmp 12) (.seq (.reg g_q12_r4 [4]) .ret) (.seq (.reg g_q12_r5 [0,1,16]) (.cond (.tmp 16) (.seq (.reg g_q12_r6 [4]) .ret) (.seq (.reg g_q12_r7 [0,1,23]) (.cond (.tmp 23) (.seq (.reg g_q12_r8 [4]) .ret) (.seq (.reg g_q12_r9 [0,27]) (.cond (.tmp 27) (.seq (.reg g_q12_r10 [4]) .ret) (.seq (.reg g_q12_r11 [34]) (.cond (.tmp 34) (.seq (.reg g_q12_r12 [4]) .ret) .skip))))))))))))) (.seq (.reg g_q12_r13 [4]) .ret)))
abbrev rs_q12:List RV:=[(.tmp 4)]
theorem gc_q12:compileF Tryz.prog Tryz.f109 T_q12=some (g_q12,rs_q12):=by kernel_rfl
theorem con_q12 (hv:vc Tryz.prog y g_q12 (retQ rs_q12 R) [(0,a0),(1,a1)] h):ConX y Tryz.prog 109 #[a0,a1] h R:=con_of Tryz.func109 gc_q12 rfl (fun h=>absurd h (by decide)) hv
def T_q8:List (Nat×List Nat):=[(0,[0,1,2]),(1,[6])]
abbrev g_q8_r0:GR:=(OP 0 6 (.mv (.const (.bool false))) .done)
abbrev g_q8_r1:GR:=(O1 0 7 1 (OP 1 8 (.bin .geq (.tmp 7) (K 0)) (O1 2 9 8 (OG 3 10 9 true (.mv (.tmp 1)) (OG 4 11 9 true (.mv (.tmp 0)) (OG 5 12 9 true (.nilCheck (.tmp 11)) (OG 6 13 9 true (.fieldAddr 0 (.tmp 12)) (OG 7 14 9 true (.fieldAddr 1 (.tmp 13)) (OG 8 15 9 true (.load none (.tmp 14)) (OG 9 16 9 true (.len (.tmp 15)) (OG 10 17 9 true (.bin .lss (.tmp 10) (.tmp 16)) (OP 11 18 (.pick (.tmp 9) (.tmp 17) (.const (.bool false))) (O1 12 19 18 (OG 13 20 19 true (.mv (.tmp 0)) (OG 14 21 19 true (.nilCheck (.tmp 20)) (OG 15 22 19 true (.fieldAddr 0 (.tmp 21)) (OG 16 23 19 true (.fieldAddr 1 (.tmp 22)) (OG 17 24 19 true (.load none (.tmp 23)) (OG 18 25 19 true (.mv (.tmp 1)) (OG 19 26 19 true (.indexAddr 5 (.tmp 24) (.tmp 25)) (OG 20 27 19 true (.fieldAddr 1 (.tmp 26)) (OG 21 28 19 true (.load none (.tmp 27)) (OG 22 29 19 true (.mv (.tmp 2)) (OG 23 30 19 true (.bin .eql (.tmp 28) (.tmp 29)) (OP 24 31 (.pick (.tmp 19) (.tmp 30) (.const (.bool false))) (O1 25 6 31 .done))))))))))))))))))))))))))
abbrev g_q8:GC:=(.seq (.reg g_q8_r0 [0,1,2]) (.seq (.reg g_q8_r1 [6]) .ret))
abbrev rs_q8:List RV:=[(.tmp 6)]
theorem gc_q8:compileF Tryz.prog Tryz.f110 T_q8=some (g_q8,rs_q8):=by kernel_rfl
theorem con_q8 (hv:vc Tryz.prog y g_q8 (retQ rs_q8 R) [(0,a0),(1,a1),(2,a2)] h):ConX y Tryz.prog 110 #[a0,a1,a2] h R:=con_of Tryz.func110 gc_q8 rfl (fun h=>absurd h (by decide)) hv
def T_q9:List (Nat×List Nat):=[(0,[0,1,2]),(1,[1,2,7]),(2,[6])]
abbrev g_q9_r0:GR:=(OP 0 6 (.mv (.const (.bool false))) .done)
abbrev g_q9_r1:GR:=(O1 0 8 0 (OP 1 9 (.nilCheck (.tmp 8)) (O3 2 10 0 9 (O3 3 11 1 10 (O2 4 12 11 (O1 5 7 12 .done))))))
abbrev g_q9_r2:GR:=(O1 0 13 1 (OP 1 14 (.bin .geq (.tmp 13) (K 0)) (O1 2 15 14 (OG 3 16 15 true (.mv (.tmp 1)) (OG 4 17 15 true (.mv (.tmp 2)) (OG 5 18 15 true (.bin .lss (.tmp 16) (.tmp 17)) (OP 6 19 (.pick (.tmp 15) (.tmp 18) (.const (.bool false))) (O1 7 20 19 (OG 8 21 20 true (.mv (.tmp 2)) (OG 9 22 20 true (.mv (.tmp 7)) (OG 10 23 20 true (.len (.tmp 22)) (OG 11 24 20 true (.bin .lss (.tmp 21) (.tmp 23)) (OP 12 25 (.pick (.tmp 20) (.tmp 24) (.const (.bool false))) (O1 13 26 25 (OG 14 27 26 true (.mv (.tmp 7)) (OG 15 28 26 true (.mv (.tmp 1)) (OG 16 29 26 true (.indexAddr 5 (.tmp 27) (.tmp 28)) (OG 17 30 26 true (.fieldAddr 0 (.tmp 29)) (.op (GI.mk 18 (some 31) (some (26,true)) (.load none (.tmp 30)) [] true) (OG 19 32 26 true (.bin .geq (.tmp 31) (K 0)) (OP 20 33 (.pick (.tmp 26) (.tmp 32) (.const (.bool false))) (O1 21 34 33 (OG 22 35 34 true (.mv (.tmp 7)) (OG 23 36 34 true (.mv (.tmp 1)) (OG 24 37 34 true (.indexAddr 5 (.tmp 35) (.tmp 36)) (OG 25 38 34 true (.fieldAddr 0 (.tmp 37)) (.op (GI.mk 26 (some 39) (some (34,true)) (.load none (.tmp 38)) [] true) (OG 27 40 34 true (.mv (.tmp 7)) (OG 28 41 34 true (.mv (.tmp 2)) (OG 29 42 34 true (.indexAddr 5 (.tmp 40) (.tmp 41)) (OG 30 43 34 true (.fieldAddr 0 (.tmp 42)) (.op (GI.mk 31 (some 44) (some (34,true)) (.load none (.tmp 43)) [] true) (OG 32 45 34 true (.bin .eql (.tmp 39) (.tmp 44)) (OP 33 46 (.pick (.tmp 34) (.tmp 45) (.const (.bool false))) (O1 34 6 46 .done)))))))))))))))))))))))))))))))))))
abbrev g_q9:GC:=(.seq (.reg g_q9_r0 [0,1,2]) (.seq (.reg g_q9_r1 [1,2,7]) (.seq (.reg g_q9_r2 [6]) .ret)))
abbrev rs_q9:List RV:=[(.tmp 6)]
theorem gc_q9:compileF Tryz.prog Tryz.f111 T_q9=some (g_q9,rs_q9):=by kernel_rfl
theorem con_q9 (hv:vc Tryz.prog y g_q9 (retQ rs_q9 R) [(0,a0),(1,a1),(2,a2)] h):ConX y Tryz.prog 111 #[a0,a1,a2] h R:=con_of Tryz.func111 gc_q9 rfl (fun h=>absurd h (by decide)) hv
def T_q99:List (Nat×List Nat):=[(0,[0,1]),(1,[0,5]),(2,[5,18,19,20]),(3,[5,18,19,20,21]),(4,[5,6,7,18,19,20]),(5,[5,18,19,20]),(6,[5,18,19,20]),(7,[4])]
abbrev g_q99_r0:GR:=(OP 0 4 (.mv (.const (.pointer none))) .done)
abbrev g_q99_r1:GR:=(O1 0 8 1 (O1 1 9 0 (OP 2 10 (.nilCheck (.tmp 9)) (O3 3 11 0 10 (O2 4 12 11 (OP 5 13 (.maxi (.tmp 8) (.tmp 12)) (OP 6 14 (.call 93 [(.tmp 13)]) (O1 7 5 14 .done))))))))
abbrev g_q99_r2:GR:=(O1 0 15 0 (OP 1 16 (.nilCheck (.tmp 15)) (O3 2 17 1 16 (O2 3 18 17 (OP 4 19 (.len (.tmp 18)) (OP 5 20 (.mv (K 0)) .done))))))
abbrev g_q99_r3:GR:=(O5 0 21 .lss 20 19 .done)
abbrev g_q99_r4:GR:=(O1 0 22 20 (O4 1 23 1 18 20 (O2 2 24 23 (O1 3 6 22 (O1 4 7 24 .done)))))
abbrev g_q99_r5:GR:=(O1 0 25 5 (OP 1 26 (.nilCheck (.tmp 25)) (O3 2 27 1 26 (O2 3 28 27 (O1 4 29 6 (O4 5 30 1 28 29 (O2 6 31 30 (O1 7 32 7 (OP 8 33 (.buildSlice 96 1 [(.slice none 0 0)] [(0,(1,(.tmp 32)))]) (OP 9 34 (.call 98 [(.tmp 31),(.tmp 33)]) .done))))))))))
abbrev g_q99_r6:GR:=(OP 0 35 (.bin .add (.tmp 20) (K 1)) (O1 1 20 35 .done))
abbrev g_q99_l7:GC:=(.seq (.reg g_q99_r3 [5,18,19,20,21]) (.seq (.cond (.tmp 21) .skip (.exit 0)) (.seq (.block 1 (.seq (.reg g_q99_r4 [5,6,7,18,19,20]) (.reg g_q99_r5 [5,18,19,20]))) (.reg g_q99_r6 [5,18,19,20]))))
abbrev g_q99_r8:GR:=(O1 0 36 5 (O1 1 4 36 .done))
abbrev g_q99:GC:=(.seq (.reg g_q99_r0 [0,1]) (.seq (.reg g_q99_r1 [0,5]) (.seq (.seq (.reg g_q99_r2 [5,18,19,20]) (.block 0 (.loop g_q99_l7))) (.seq (.reg g_q99_r8 [4]) .ret))))
abbrev rs_q99:List RV:=[(.tmp 4)]
theorem gc_q99:compileF Tryz.prog Tryz.f112 T_q99=some (g_q99,rs_q99):=by kernel_rfl
theorem con_q99 (hv:vc Tryz.prog y g_q99 (retQ rs_q99 R) [(0,a0),(1,a1)] h):ConX y Tryz.prog 112 #[a0,a1] h R:=con_of Tryz.func112 gc_q99 rfl (fun h=>absurd h (by decide)) hv
def T_q114:List (Nat×List Nat):=[(0,[1]),(1,[2])]
abbrev g_q114_r0:GR:=(OP 0 1 (.box 28 (.tmp 0)) (OP 1 2 (.mv (.const Value.nilFunc)) .done))
abbrev g_q114_r1:GR:=(OP 0 3 (.makeFunc (Fn.func 116) [] [(.tmp 1)]) (O1 1 2 3 .done))
abbrev g_q114:GC:=(.seq (.reg g_q114_r0 [1]) (.seq (.reg g_q114_r1 [2]) .ret))
abbrev rs_q114:List RV:=[(.tmp 2)]
theorem gc_q114:compileF Tryz.prog Tryz.f113 T_q114=some (g_q114,rs_q114):=by kernel_rfl
theorem con_q114 (hv:vc Tryz.prog y g_q114 (retQ rs_q114 R) [(0,a0)] h):ConX y Tryz.prog 113 #[a0] h R:=con_of Tryz.func113 gc_q114 rfl (fun h=>absurd h (by decide)) hv
def T_q111:List (Nat×List Nat):=[(0,[0]),(1,[2])]
abbrev g_q111_r0:GR:=(OP 0 2 (.mv (.const (.slice none 0 0))) .done)
abbrev g_q111_r1:GR:=(O1 0 3 0 (OP 1 4 (.call 117 [(.const (.slice none 0 0)),(.tmp 3)]) (O1 2 2 4 .done)))
abbrev g_q111:GC:=(.seq (.reg g_q111_r0 [0]) (.seq (.reg g_q111_r1 [2]) .ret))
abbrev rs_q111:List RV:=[(.tmp 2)]
theorem gc_q111:compileF Tryz.prog Tryz.f114 T_q111=some (g_q111,rs_q111):=by kernel_rfl
theorem con_q111 (hv:vc Tryz.prog y g_q111 (retQ rs_q111 R) [(0,a0)] h):ConX y Tryz.prog 114 #[a0] h R:=con_of Tryz.func114 gc_q111 rfl (fun h=>absurd h (by decide)) hv
def T_q113:List (Nat×List Nat):=[(0,[0,1]),(1,[0,1,7,8]),(2,[0,1,7,8,9]),(3,[0,1,5,7,8]),(4,[0,1,5,7,8,16]),(5,[4]),(6,[0,1,7,8]),(7,[4])]
abbrev g_q113_r0:GR:=(OP 0 4 (.mv (K 0)) .done)
abbrev g_q113_r1:GR:=(O1 0 6 0 (OP 1 7 (.len (.tmp 6)) (OP 2 8 (.mv (K 0)) .done)))
abbrev g_q113_r2:GR:=(O5 0 9 .lss 8 7 .done)
abbrev g_q113_r3:GR:=(O1 0 10 8 (O1 1 5 10 .done))
abbrev g_q113_r4:GR:=(O1 0 11 1 (O1 1 12 0 (O1 2 13 5 (O4 3 14 1 12 13 (O2 4 15 14 (O5 5 16 .eql 11 15 .done))))))
abbrev g_q113_r5:GR:=(O1 0 17 5 (O1 1 4 17 .done))
abbrev g_q113_r6:GR:=(OP 0 18 (.bin .add (.tmp 8) (K 1)) (O1 1 8 18 .done))
abbrev g_q113_l7:GC:=(.seq (.reg g_q113_r2 [0,1,7,8,9]) (.seq (.cond (.tmp 9) .skip (.exit 0)) (.seq (.block 1 (.seq (.reg g_q113_r3 [0,1,5,7,8]) (.seq (.reg g_q113_r4 [0,1,5,7,8,16]) (.cond (.tmp 16) (.seq (.reg g_q113_r5 [4]) .ret) .skip)))) (.reg g_q113_r6 [0,1,7,8]))))
abbrev g_q113_r8:GR:=(OP 0 4 (.mv (K (-1))) .done)
abbrev g_q113:GC:=(.seq (.reg g_q113_r0 [0,1]) (.seq (.seq (.reg g_q113_r1 [0,1,7,8]) (.block 0 (.loop g_q113_l7))) (.seq (.reg g_q113_r8 [4]) .ret)))
abbrev rs_q113:List RV:=[(.tmp 4)]
theorem gc_q113:compileF Tryz.prog Tryz.f115 T_q113=some (g_q113,rs_q113):=by kernel_rfl
theorem con_q113 (hv:vc Tryz.prog y g_q113 (retQ rs_q113 R) [(0,a0),(1,a1)] h):ConX y Tryz.prog 115 #[a0,a1] h R:=con_of Tryz.func115 gc_q113 rfl (fun h=>absurd h (by decide)) hv
def T_q115:List (Nat×List Nat):=[(0,[0,5,6,7]),(1,[0,5,6,7,8]),(2,[0,4,5,6,7]),(3,[0,5,6,7,14]),(4,[0,5,6,7])]
abbrev g_q115_r0:GR:=(O2 0 5 1 (OP 1 6 (.len (.tmp 5)) (OP 2 7 (.mv (K 0)) .done)))
abbrev g_q115_r1:GR:=(O5 0 8 .lss 7 6 .done)
abbrev g_q115_r2:GR:=(O4 0 9 1 5 7 (O2 1 10 9 (O1 2 4 10 .done)))
abbrev g_q115_r3:GR:=(O1 0 11 0 (O1 1 12 4 (OP 2 13 (.callv (.tmp 11) [(.tmp 12)]) (OP 3 14 (.not (.tmp 13)) .done))))
abbrev g_q115_r4:GR:=(OP 0 15 (.bin .add (.tmp 7) (K 1)) (O1 1 7 15 .done))
abbrev g_q115_l5:GC:=(.seq (.reg g_q115_r1 [0,5,6,7,8]) (.seq (.cond (.tmp 8) .skip (.exit 0)) (.seq (.block 1 (.seq (.reg g_q115_r2 [0,4,5,6,7]) (.seq (.reg g_q115_r3 [0,5,6,7,14]) (.cond (.tmp 14) .ret .skip)))) (.reg g_q115_r4 [0,5,6,7]))))
abbrev g_q115:GC:=(.seq (.reg g_q115_r0 [0,5,6,7]) (.block 0 (.loop g_q115_l5)))
abbrev rs_q115:List RV:=[]
theorem gc_q115:compileF Tryz.prog Tryz.f116 T_q115=some (g_q115,rs_q115):=by kernel_rfl
theorem con_q115 (hv:vc Tryz.prog y g_q115 (retQ rs_q115 R) [(0,a0),(1,a1)] h):ConX y Tryz.prog 116 #[a0,a1] h R:=con_of Tryz.func116 gc_q115 rfl (fun h=>absurd h (by decide)) hv
def T_q108:List (Nat×List Nat):=[(0,[1,2,4]),(1,[2,4,6]),(2,[2,5]),(3,[]),(4,[4])]
abbrev g_q108_r0:GR:=(OP 0 2 (.box 28 (.tmp 0)) (OP 1 4 (.mv (.const (.slice none 0 0))) .done))
abbrev g_q108_r1:GR:=(O1 0 6 1 .done)
abbrev g_q108_r2:GR:=(O1 0 5 7 .done)
abbrev g_q108_r3:GR:=(O2 0 8 2 (O1 1 9 5 (OP 2 10 (.buildSlice 3 1 [(.int .i64 0)] [(0,(1,(.tmp 9)))]) (OP 3 11 (.append 3 1 8 [(.int .i64 0)] (.tmp 8) (.tmp 10)) (OS 4 (.store 1 (.tmp 2) (.tmp 11)) .done)))))
abbrev g_q108_b4:GC:=(.block 1 (.reg g_q108_r3 []))
abbrev g_q108_r5:GR:=(O2 0 12 2 (O1 1 4 12 .done))
abbrev g_q108:GC:=(.seq (.reg g_q108_r0 [1,2,4]) (.seq (.seq (.reg g_q108_r1 [2,4,6]) (.block 0 (.rng (.tmp 6) [7] (.reg g_q108_r2 [2,5]) g_q108_b4))) (.seq (.reg g_q108_r5 [4]) .ret)))
abbrev rs_q108:List RV:=[(.tmp 4)]
theorem gc_q108:compileF Tryz.prog Tryz.f117 T_q108=some (g_q108,rs_q108):=by kernel_rfl
theorem con_q108 (hR:∀ v h1 h2,Ext h.size h1 h2→R v h1→R v h2) (hv:vc Tryz.prog y g_q108 (retQ rs_q108 R) [(0,a0),(1,a1)] h):ConX y Tryz.prog 117 #[a0,a1] h R:=con_of Tryz.func117 gc_q108 rfl (fun _=>hR) hv
end Go.Proofs.Tst
