/-
  The compiled forms of functions that the law reaches, each checked against the program by the kernel. No condition.
-/
import Derived.Test.YtmcghihgeibgpaaDoorV3
import Derived.Test.YtmcghihgeibgpaaDoorProg
set_option linter.all false
set_option maxRecDepth 2000
namespace Go.Proofs.Tst
open Go Go.Vc
variable {y : Option Nat} {a0 a1 a2 a3 a4 a5 a6 a7 : Value} {h : Heap} {R : Value → Heap → Prop}
def T_q26:List (Nat×List Nat):=[(0,[1,2]),(1,[2,5,6]),(2,[2,5,6,7,9]),(3,[2,5,6,7,9,32]),(4,[4]),(5,[2,5,7,9,10,12]),(6,[5,7,9,10,12,13,15]),(7,[7,9,10,12,13,15,16,18]),(8,[7,10,13,78]),(9,[4]),(10,[4])]
abbrev g_q26_r0:GR:=(OP 0 2 (.box 26 (.tmp 0)) (OP 1 4 (.mv (.const (.bool false))) .done))
abbrev g_q26_r1:GR:=(OP 0 20 (.load (some 8) (.tmp 2)) (O1 1 21 1 (OP 2 22 (.call 13 [(.tmp 20),(.tmp 21)]) (O1 3 19 22 (OP 4 23 (.extract 0 (.tmp 19)) (OP 5 24 (.extract 1 (.tmp 19)) (OP 6 5 (.alloc 26 [(.int .i64 0),(.slice none 0 0),(.slice none 0 0),(.slice none 0 0),(.slice none 0 0),(.slice none 0 0),(.slice none 0 0),(.slice none 0 0)]) (OS 7 (.store 8 (.tmp 5) (.tmp 23)) (O1 8 6 24 .done)))))))))
abbrev g_q26_r2:GR:=(OP 0 26 (.load (some 8) (.tmp 2)) (OP 1 27 (.call 41 [(.tmp 26)]) (O1 2 25 27 (OP 3 28 (.extract 0 (.tmp 25)) (OP 4 29 (.extract 1 (.tmp 25)) (OP 5 30 (.extract 2 (.tmp 25)) (O1 6 7 28 (O1 7 8 29 (O1 8 9 30 .done)))))))))
abbrev g_q26_r3:GR:=(O1 0 31 6 (OP 1 32 (.bin .neq (.tmp 31) (K 0)) .done))
abbrev g_q26_r4:GR:=(O1 0 33 6 (OP 1 34 (.bin .eql (.tmp 33) (K 4)) (O1 2 35 34 (OG 3 36 35 true (.mv (.tmp 9)) (OG 4 37 35 true (.bin .eql (.tmp 36) (K 4)) (OP 5 38 (.pick (.tmp 35) (.tmp 37) (.const (.bool false))) (O1 6 39 38 (OG 7 40 39 true (.call 16 []) (OP 8 41 (.pick (.tmp 39) (.tmp 40) (.const (.bool false))) (O1 9 4 41 .done))))))))))
abbrev g_q26_r5:GR:=(OP 0 43 (.load (some 8) (.tmp 5)) (OP 1 44 (.call 39 [(.tmp 43)]) (O1 2 42 44 (OP 3 45 (.extract 0 (.tmp 42)) (OP 4 46 (.extract 1 (.tmp 42)) (OP 5 47 (.extract 2 (.tmp 42)) (O1 6 10 45 (O1 7 11 46 (O1 8 12 47 .done)))))))))
abbrev g_q26_r6:GR:=(OP 0 49 (.load (some 8) (.tmp 2)) (OP 1 50 (.call 31 [(.tmp 49)]) (O1 2 48 50 (OP 3 51 (.extract 0 (.tmp 48)) (OP 4 52 (.extract 1 (.tmp 48)) (OP 5 53 (.extract 2 (.tmp 48)) (O1 6 13 51 (O1 7 14 52 (O1 8 15 53 .done)))))))))
abbrev g_q26_r7:GR:=(OP 0 55 (.load (some 8) (.tmp 5)) (OP 1 56 (.call 31 [(.tmp 55)]) (O1 2 54 56 (OP 3 57 (.extract 0 (.tmp 54)) (OP 4 58 (.extract 1 (.tmp 54)) (OP 5 59 (.extract 2 (.tmp 54)) (O1 6 16 57 (O1 7 17 58 (O1 8 18 59 .done)))))))))
abbrev g_q26_r8:GR:=(O1 0 60 9 (OP 1 61 (.bin .neq (.tmp 60) (K 0)) (O1 2 62 61 (OG 3 63 62 false (.mv (.tmp 12)) (OG 4 64 62 false (.bin .neq (.tmp 63) (K 0)) (OP 5 65 (.pick (.tmp 62) (.const (.bool true)) (.tmp 64)) (O1 6 66 65 (OG 7 67 66 false (.mv (.tmp 15)) (OG 8 68 66 false (.bin .neq (.tmp 67) (K 0)) (OP 9 69 (.pick (.tmp 66) (.const (.bool true)) (.tmp 68)) (O1 10 70 69 (OG 11 71 70 false (.mv (.tmp 18)) (OG 12 72 70 false (.bin .neq (.tmp 71) (K 0)) (OP 13 73 (.pick (.tmp 70) (.const (.bool true)) (.tmp 72)) (O1 14 74 73 (OG 15 75 74 false (.mv (.tmp 13)) (OG 16 76 74 false (.mv (.tmp 16)) (OG 17 77 74 false (.bin .neq (.tmp 75) (.tmp 76)) (OP 18 78 (.pick (.tmp 74) (.const (.bool true)) (.tmp 77)) .done)))))))))))))))))))
abbrev g_q26_r9:GR:=(OP 0 4 (.mv (.const (.bool false))) .done)
abbrev g_q26_r10:GR:=(O1 0 79 10 (OP 1 80 (.bin .neq (.tmp 79) (K 0)) (O1 2 81 80 (OG 3 82 81 false (.mv (.tmp 7)) (OG 4 83 81 false (.bin .eql (.tmp 82) (K 0)) (OP 5 84 (.pick (.tmp 81) (.const (.bool true)) (.tmp 83)) (O1 6 85 84 (OG 7 86 85 true (.mv (.tmp 13)) (OG 8 87 85 true (.bin .neq (.tmp 86) (K 0)) (OG 9 88 85 true (.mv (.tmp 87)) (OG 10 89 88 false (.mv (.tmp 10)) (OG 11 90 88 false (.bin .eql (.tmp 89) (K 0)) (OG 12 91 85 true (.pick (.tmp 88) (.const (.bool true)) (.tmp 90)) (OP 13 92 (.pick (.tmp 85) (.tmp 91) (.const (.bool false))) (O1 14 93 92 (OG 15 94 93 true (.call 16 []) (OP 16 95 (.pick (.tmp 93) (.tmp 94) (.const (.bool false))) (O1 17 4 95 .done))))))))))))))))))
abbrev g_q26:GC:=(.seq (.reg g_q26_r0 [1,2]) (.seq (.reg g_q26_r1 [2,5,6]) (.seq (.reg g_q26_r2 [2,5,6,7,9]) (.seq (.seq (.reg g_q26_r3 [2,5,6,7,9,32]) (.cond (.tmp 32) (.seq (.reg g_q26_r4 [4]) .ret) .skip)) (.seq (.reg g_q26_r5 [2,5,7,9,10,12]) (.seq (.reg g_q26_r6 [5,7,9,10,12,13,15]) (.seq (.reg g_q26_r7 [7,9,10,12,13,15,16,18]) (.seq (.seq (.reg g_q26_r8 [7,10,13,78]) (.cond (.tmp 78) (.seq (.reg g_q26_r9 [4]) .ret) .skip)) (.seq (.reg g_q26_r10 [4]) .ret)))))))))
abbrev rs_q26:List RV:=[(.tmp 4)]
theorem gc_q26:compileF Tryd.prog Tryd.f11 T_q26=some (g_q26,rs_q26):=by kernel_rfl
theorem con_q26 (hv:vc Tryd.prog y g_q26 (retQ rs_q26 R) [(0,a0),(1,a1)] h):ConX y Tryd.prog 11 #[a0,a1] h R:=con_of Tryd.func11 gc_q26 rfl (fun h=>absurd h (by decide)) hv
def T_q135:List (Nat×List Nat):=[(0,[1,2,4]),(1,[1,2,4,6]),(2,[1,2,4,24]),(3,[4,5]),(4,[1,2,4,8]),(5,[1,2,4,8,39,40,41]),(6,[1,2,4,8,39,40,41,42]),(7,[1,2,4,8,10,39,40,41]),(8,[1,2,4,8,39,40,41]),(9,[1,2,4,8,39,40,41]),(10,[1,2,4,8,11]),(11,[1,2,4,8,11,55,56,57]),(12,[1,2,4,8,11,55,56,57,58]),(13,[1,2,4,8,11,13,55,56,57]),(14,[1,2,4,8,11,55,56,57]),(15,[1,2,4,8,11,55,56,57]),(16,[1,2,4,8,11,66,67,68]),(17,[1,2,4,8,11,66,67,68,69]),(18,[1,2,4,8,11,14,15,66,67,68]),(19,[1,2,4,8,11,14,15,66,67,68]),(20,[1,2,4,8,11,14,15,66,67,68,96]),(21,[1,2,4,8,11,14,15,66,67,68]),(22,[1,2,4,8,11,14,15,66,67,68,109]),(23,[1,2,4,8,11,14,66,67,68,113,114,115]),(24,[1,2,4,8,11,14,66,67,68,113,114,115,116]),(25,[1,2,4,8,11,14,17,66,67,68,113,114,115]),(26,[1,2,4,8,11,14,17,66,67,68,113,114,115,121]),(27,[1,2,4,8,11,14,66,67,68,113,114,115]),(28,[1,2,4,8,11,14,66,67,68,113,114,115]),(29,[1,2,4,8,11,66,67,68]),(30,[4,5])]
abbrev g_q135_r0:GR:=(OP 0 2 (.box 26 (.tmp 0)) (OP 1 4 (.alloc 26 [(.int .i64 0),(.slice none 0 0),(.slice none 0 0),(.slice none 0 0),(.slice none 0 0),(.slice none 0 0),(.slice none 0 0),(.slice none 0 0)]) (OP 2 5 (.mv (K 0)) .done)))
abbrev g_q135_r1:GR:=(OP 0 19 (.load (some 8) (.tmp 2)) (OP 1 20 (.call 43 [(.tmp 19),(.const (.bool false))]) (O1 2 18 20 (OP 3 21 (.extract 0 (.tmp 18)) (OP 4 22 (.extract 1 (.tmp 18)) (O1 5 6 21 (O1 6 7 22 .done)))))))
abbrev g_q135_r2:GR:=(O1 0 23 6 (OP 1 24 (.bin .neq (.tmp 23) (K 0)) .done))
abbrev g_q135_r3:GR:=(OP 0 25 (.build [(.int .i64 0),(.slice none 0 0),(.slice none 0 0),(.slice none 0 0),(.slice none 0 0),(.slice none 0 0),(.slice none 0 0),(.slice none 0 0)] []) (OS 1 (.store 8 (.tmp 4) (.tmp 25)) (OP 2 5 (.mv (K 4)) .done)))
abbrev g_q135_r4:GR:=(O3 0 26 0 2 (O6 1 27 26 (O3 2 28 1 2 (O6 3 29 28 (O3 5 31 2 2 (O6 6 32 31 (O3 8 34 4 2 (O6 9 35 34 (.two (.op (GI.mk 4 (some 30) none (.call 44 [(.tmp 29)]) [1,6,9] false) (.two (.op (GI.mk 7 (some 33) none (.call 45 [(.tmp 32)]) [1,3,9] false) (.two (.op (GI.mk 10 (some 36) none (.call 45 [(.tmp 35)]) [1,3,6] false) (OP 11 37 (.build [(.int .i64 0),(.slice none 0 0),(.slice none 0 0),(.slice none 0 0),(.slice none 0 0),(.slice none 0 0),(.slice none 0 0),(.slice none 0 0)] [(0,(1,(.tmp 27))),(1,(1,(.tmp 30))),(2,(1,(.tmp 33))),(4,(1,(.tmp 36)))]) (OP 12 8 (.alloc 26 [(.int .i64 0),(.slice none 0 0),(.slice none 0 0),(.slice none 0 0),(.slice none 0 0),(.slice none 0 0),(.slice none 0 0),(.slice none 0 0)]) (OS 13 (.store 8 (.tmp 8) (.tmp 37)) .done)))) (OP 12 8 (.alloc 26 [(.int .i64 0),(.slice none 0 0),(.slice none 0 0),(.slice none 0 0),(.slice none 0 0),(.slice none 0 0),(.slice none 0 0),(.slice none 0 0)]) (.op (GI.mk 10 (some 36) none (.call 45 [(.tmp 35)]) [1,3,6] false) (OP 11 37 (.build [(.int .i64 0),(.slice none 0 0),(.slice none 0 0),(.slice none 0 0),(.slice none 0 0),(.slice none 0 0),(.slice none 0 0),(.slice none 0 0)] [(0,(1,(.tmp 27))),(1,(1,(.tmp 30))),(2,(1,(.tmp 33))),(4,(1,(.tmp 36)))]) (OS 13 (.store 8 (.tmp 8) (.tmp 37)) .done)))))) (OP 12 8 (.alloc 26 [(.int .i64 0),(.slice none 0 0),(.slice none 0 0),(.slice none 0 0),(.slice none 0 0),(.slice none 0 0),(.slice none 0 0),(.slice none 0 0)]) (.op (GI.mk 7 (some 33) none (.call 45 [(.tmp 32)]) [1,3,9] false) (.op (GI.mk 10 (some 36) none (.call 45 [(.tmp 35)]) [1,3,6] false) (OP 11 37 (.build [(.int .i64 0),(.slice none 0 0),(.slice none 0 0),(.slice none 0 0),(.slice none 0 0),(.slice none 0 0),(.slice none 0 0),(.slice none 0 0)] [(0,(1,(.tmp 27))),(1,(1,(.tmp 30))),(2,(1,(.tmp 33))),(4,(1,(.tmp 36)))]) (OS 13 (.store 8 (.tmp 8) (.tmp 37)) .done))))))) (OP 12 8 (.alloc 26 [(.int .i64 0),(.slice none 0 0),(.slice none 0 0),(.slice none 0 0),(.slice none 0 0),(.slice none 0 0),(.slice none 0 0),(.slice none 0 0)]) (.op (GI.mk 4 (some 30) none (.call 44 [(.tmp 29)]) [1,6,9] false) (.op (GI.mk 7 (some 33) none (.call 45 [(.tmp 32)]) [1,3,9] false) (.op (GI.mk 10 (some 36) none (.call 45 [(.tmp 35)]) [1,3,6] false) (OP 11 37 (.build [(.int .i64 0),(.slice none 0 0),(.slice none 0 0),(.slice none 0 0),(.slice none 0 0),(.slice none 0 0),(.slice none 0 0),(.slice none 0 0)] [(0,(1,(.tmp 27))),(1,(1,(.tmp 30))),(2,(1,(.tmp 33))),(4,(1,(.tmp 36)))]) (OS 13 (.store 8 (.tmp 8) (.tmp 37)) .done)))))))))))))))
abbrev g_q135_r5:GR:=(O3 0 38 3 2 (O2 1 39 38 (OP 2 40 (.len (.tmp 39)) (OP 3 41 (.mv (K 0)) .done))))
abbrev g_q135_r6:GR:=(O5 0 42 .lss 41 40 .done)
abbrev g_q135_r7:GR:=(O4 0 43 1 39 41 (O2 1 44 43 (O1 2 10 44 .done)))
abbrev g_q135_r8:GR:=(O3 0 45 3 8 (O6 1 46 45 (O1 2 47 10 (.op (GI.mk 3 (some 48) none (.call 46 [(.tmp 47)]) [1] false) (OP 4 49 (.buildSlice 39 1 [(.slice none 0 0)] [(0,(1,(.tmp 48)))]) (OP 5 50 (.append 39 1 24 [(.slice none 0 0)] (.tmp 46) (.tmp 49)) (O3 6 51 3 8 (OS 7 (.store 1 (.tmp 51) (.tmp 50)) .done))))))))
abbrev g_q135_r9:GR:=(OP 0 52 (.bin .add (.tmp 41) (K 1)) (O1 1 41 52 .done))
abbrev g_q135_l10:GC:=(.seq (.reg g_q135_r6 [1,2,4,8,39,40,41,42]) (.seq (.cond (.tmp 42) .skip (.exit 0)) (.seq (.block 1 (.seq (.reg g_q135_r7 [1,2,4,8,10,39,40,41]) (.reg g_q135_r8 [1,2,4,8,39,40,41]))) (.reg g_q135_r9 [1,2,4,8,39,40,41]))))
abbrev g_q135_r11:GR:=(OP 0 53 .makeMap (O1 1 11 53 .done))
abbrev g_q135_r12:GR:=(O3 0 54 4 2 (O2 1 55 54 (OP 2 56 (.len (.tmp 55)) (OP 3 57 (.mv (K 0)) .done))))
abbrev g_q135_r13:GR:=(O5 0 58 .lss 57 56 .done)
abbrev g_q135_r14:GR:=(O4 0 59 2 55 57 (OP 1 60 (.load (some 2) (.tmp 59)) (OP 2 13 (.alloc 38 [(.int .i64 0),(.int .i64 0)]) (OS 3 (.store 2 (.tmp 13) (.tmp 60)) .done))))
abbrev g_q135_r15:GR:=(O1 0 61 11 (O3 1 62 0 13 (O2 2 63 62 (OS 3 (.mapSet (.tmp 61) (.tmp 63) (.const (.bool true))) .done))))
abbrev g_q135_r16:GR:=(OP 0 64 (.bin .add (.tmp 57) (K 1)) (O1 1 57 64 .done))
abbrev g_q135_l17:GC:=(.seq (.reg g_q135_r13 [1,2,4,8,11,55,56,57,58]) (.seq (.cond (.tmp 58) .skip (.exit 2)) (.seq (.block 3 (.seq (.reg g_q135_r14 [1,2,4,8,11,13,55,56,57]) (.reg g_q135_r15 [1,2,4,8,11,55,56,57]))) (.reg g_q135_r16 [1,2,4,8,11,55,56,57]))))
abbrev g_q135_r18:GR:=(O3 0 65 1 2 (O2 1 66 65 (OP 2 67 (.len (.tmp 66)) (OP 3 68 (.mv (K 0)) .done))))
abbrev g_q135_r19:GR:=(O5 0 69 .lss 68 67 .done)
abbrev g_q135_r20:GR:=(O1 0 70 68 (O4 1 71 5 66 68 (OP 2 72 (.load (some 5) (.tmp 71)) (OP 3 15 (.alloc 36 [(.int .i64 0),(.int .i64 0),(.int .i64 0),(.int .u64 0),(.int .i64 0)]) (O1 4 14 70 (OS 5 (.store 5 (.tmp 15) (.tmp 72)) .done))))))
abbrev g_q135_r21:GR:=(O3 0 73 1 8 (O6 1 74 73 (O1 2 75 14 (OW 3 76 (.load (some 5) (.tmp 15)) (.op (GI.mk 4 (some 77) none (.call 47 [(.tmp 76)]) [1] false) (O4 5 78 5 74 75 (O3 6 79 4 78 (OS 7 (.store 1 (.tmp 79) (.tmp 77)) .done))))))))
abbrev g_q135_r22:GR:=(O1 0 80 1 (O1 1 81 80 (OG 2 82 81 true (.fieldAddr 1 (.tmp 15)) (OG 3 83 81 true (.load none (.tmp 82)) (OG 4 84 81 true (.bin .eql (.tmp 83) (K 1)) (OP 5 85 (.pick (.tmp 81) (.tmp 84) (.const (.bool false))) (O1 6 86 85 (OG 7 87 86 true (.fieldAddr 4 (.tmp 15)) (OG 8 88 86 true (.load none (.tmp 87)) (OG 9 89 86 true (.bin .eql (.tmp 88) (K 2)) (OP 10 90 (.pick (.tmp 86) (.tmp 89) (.const (.bool false))) (O1 11 91 90 (OG 12 92 91 true (.mv (.tmp 11)) (OG 13 93 91 true (.mv (.tmp 14)) (OG 14 94 91 true (.lookup false (.bool false) (.tmp 92) (.tmp 93)) (OG 15 95 91 true (.not (.tmp 94)) (OP 16 96 (.pick (.tmp 91) (.tmp 95) (.const (.bool false))) .done)))))))))))))))))
abbrev g_q135_r23:GR:=(O3 0 97 1 8 (O2 1 98 97 (O1 2 99 14 (O4 3 100 5 98 99 (O3 4 101 4 100 (OS 5 (.store 1 (.tmp 101) (K 16)) .done))))))
abbrev g_q135_r24:GR:=(O3 0 102 1 15 (O2 1 103 102 (OP 2 104 (.bin .neq (.tmp 103) (K 1)) (O1 3 105 104 (OG 4 106 105 false (.fieldAddr 4 (.tmp 15)) (OG 5 107 105 false (.load none (.tmp 106)) (OG 6 108 105 false (.bin .neq (.tmp 107) (K 1)) (OP 7 109 (.pick (.tmp 105) (.const (.bool true)) (.tmp 108)) .done))))))))
abbrev g_q135_r25:GR:=(OP 0 110 (.load (some 8) (.tmp 2)) (O3 1 111 0 15 (O2 2 112 111 (OP 3 113 (.call 48 [(.tmp 110),(.tmp 112)]) (OP 4 114 (.len (.tmp 113)) (OP 5 115 (.mv (K 0)) .done))))))
abbrev g_q135_r26:GR:=(O5 0 116 .lss 115 114 .done)
abbrev g_q135_r27:GR:=(O4 0 117 1 113 115 (O2 1 118 117 (O1 2 17 118 .done)))
abbrev g_q135_r28:GR:=(O1 0 119 17 (O1 1 120 14 (O5 2 121 .gtr 119 120 .done)))
abbrev g_q135_r29:GR:=(O3 0 122 7 8 (O2 1 123 122 (O1 2 124 14 (O1 3 125 17 (OP 4 126 (.build [(.int .i64 0),(.int .i64 0)] [(0,(1,(.tmp 124))),(1,(1,(.tmp 125)))]) (OP 5 127 (.buildSlice 38 1 [(.int .i64 0),(.int .i64 0)] [(0,(2,(.tmp 126)))]) (OP 6 128 (.append 38 2 16 [(.int .i64 0),(.int .i64 0)] (.tmp 123) (.tmp 127)) (O3 7 129 7 8 (OS 8 (.store 1 (.tmp 129) (.tmp 128)) .done)))))))))
abbrev g_q135_r30:GR:=(OP 0 130 (.bin .add (.tmp 115) (K 1)) (O1 1 115 130 .done))
abbrev g_q135_l31:GC:=(.seq (.reg g_q135_r26 [1,2,4,8,11,14,66,67,68,113,114,115,116]) (.seq (.cond (.tmp 116) .skip (.exit 6)) (.seq (.block 7 (.seq (.reg g_q135_r27 [1,2,4,8,11,14,17,66,67,68,113,114,115]) (.seq (.reg g_q135_r28 [1,2,4,8,11,14,17,66,67,68,113,114,115,121]) (.cond (.tmp 121) (.reg g_q135_r29 [1,2,4,8,11,14,66,67,68,113,114,115]) .skip)))) (.reg g_q135_r30 [1,2,4,8,11,14,66,67,68,113,114,115]))))
abbrev g_q135_r32:GR:=(OP 0 131 (.bin .add (.tmp 68) (K 1)) (O1 1 68 131 .done))
abbrev g_q135_l33:GC:=(.seq (.reg g_q135_r19 [1,2,4,8,11,66,67,68,69]) (.seq (.cond (.tmp 69) .skip (.exit 4)) (.seq (.block 5 (.seq (.reg g_q135_r20 [1,2,4,8,11,14,15,66,67,68]) (.seq (.reg g_q135_r21 [1,2,4,8,11,14,15,66,67,68]) (.seq (.seq (.reg g_q135_r22 [1,2,4,8,11,14,15,66,67,68,96]) (.cond (.tmp 96) (.reg g_q135_r23 [1,2,4,8,11,14,15,66,67,68]) .skip)) (.seq (.seq (.reg g_q135_r24 [1,2,4,8,11,14,15,66,67,68,109]) (.cond (.tmp 109) (.exit 5) .skip)) (.seq (.reg g_q135_r25 [1,2,4,8,11,14,66,67,68,113,114,115]) (.block 6 (.loop g_q135_l31)))))))) (.reg g_q135_r32 [1,2,4,8,11,66,67,68]))))
abbrev g_q135_r34:GR:=(OP 0 132 (.load (some 8) (.tmp 8)) (OS 1 (.store 8 (.tmp 4) (.tmp 132)) (OP 2 5 (.mv (K 0)) .done)))
abbrev g_q135:GC:=(.seq (.reg g_q135_r0 [1,2,4]) (.seq (.seq (.reg g_q135_r1 [1,2,4,6]) (.seq (.reg g_q135_r2 [1,2,4,24]) (.cond (.tmp 24) (.seq (.reg g_q135_r3 [4,5]) .ret) .skip))) (.seq (.reg g_q135_r4 [1,2,4,8]) (.seq (.seq (.reg g_q135_r5 [1,2,4,8,39,40,41]) (.block 0 (.loop g_q135_l10))) (.seq (.reg g_q135_r11 [1,2,4,8,11]) (.seq (.seq (.reg g_q135_r12 [1,2,4,8,11,55,56,57]) (.block 2 (.loop g_q135_l17))) (.seq (.seq (.reg g_q135_r18 [1,2,4,8,11,66,67,68]) (.block 4 (.loop g_q135_l33))) (.seq (.reg g_q135_r34 [4,5]) .ret))))))))
abbrev rs_q135:List RV:=[(.cell 4 (some 8)),(.tmp 5)]
theorem gc_q135:compileF Tryd.prog Tryd.f13 T_q135=some (g_q135,rs_q135):=by kernel_rfl
theorem con_q135 (hv:vc Tryd.prog y g_q135 (retQ rs_q135 R) [(0,a0),(1,a1)] h):ConX y Tryd.prog 13 #[a0,a1] h R:=con_of Tryd.func13 gc_q135 rfl (fun h=>absurd h (by decide)) hv
def T_q33:List (Nat×List Nat):=[(0,[]),(1,[1,2]),(2,[0])]
abbrev g_q33_r0:GR:=(OP 0 0 (.mv (.const (.bool false))) .done)
abbrev g_q33_r1:GR:=(OP 0 4 (.call 38 []) (OP 1 5 (.call 13 [(.tmp 4),(.const (.bool false))]) (O1 2 3 5 (OP 3 6 (.extract 0 (.tmp 3)) (OP 4 7 (.extract 1 (.tmp 3)) (OP 5 1 (.alloc 26 [(.int .i64 0),(.slice none 0 0),(.slice none 0 0),(.slice none 0 0),(.slice none 0 0),(.slice none 0 0),(.slice none 0 0),(.slice none 0 0)]) (OS 6 (.store 8 (.tmp 1) (.tmp 6)) (O1 7 2 7 .done))))))))
abbrev g_q33_r2:GR:=(OP 0 8 (.call 53 []) (OP 1 9 (.buildSlice 3 4 [(.int .i64 0),(.int .i64 0),(.int .i64 0),(.int .i64 0)] [(0,(1,(K 2))),(1,(1,(K 3))),(2,(1,(K 4))),(3,(1,(K 5)))]) (OP 2 10 (.call 35 [(.tmp 8),(K 1),(.tmp 9)]) (O1 3 11 10 (OG 4 12 11 true (.call 53 []) (OG 5 13 11 true (.call 37 [(.tmp 12),(K 0),(.const (.slice none 0 0))]) (OP 6 14 (.pick (.tmp 11) (.tmp 13) (.const (.bool false))) (O1 7 15 14 (OG 8 16 15 true (.call 38 []) (OG 9 17 15 true (.buildSlice 3 4 [(.int .i64 0),(.int .i64 0),(.int .i64 0),(.int .i64 0)] [(0,(1,(K 2))),(1,(1,(K 3))),(2,(1,(K 4))),(3,(1,(K 5)))]) (OG 10 18 15 true (.call 37 [(.tmp 16),(K 3),(.tmp 17)]) (OP 11 19 (.pick (.tmp 15) (.tmp 18) (.const (.bool false))) (O1 12 20 19 (OG 13 21 20 true (.mv (.tmp 2)) (OG 14 22 20 true (.bin .eql (.tmp 21) (K 0)) (OP 15 23 (.pick (.tmp 20) (.tmp 22) (.const (.bool false))) (O1 16 24 23 (OG 17 25 24 true (.fieldAddr 7 (.tmp 1)) (OG 18 26 24 true (.load none (.tmp 25)) (OG 19 27 24 true (.len (.tmp 26)) (OG 20 28 24 true (.bin .eql (.tmp 27) (K 2)) (OP 21 29 (.pick (.tmp 24) (.tmp 28) (.const (.bool false))) (O1 22 30 29 (OG 23 31 30 true (.fieldAddr 1 (.tmp 1)) (OG 24 32 30 true (.load none (.tmp 31)) (OG 25 33 30 true (.len (.tmp 32)) (OG 26 34 30 true (.bin .eql (.tmp 33) (K 6)) (OP 27 35 (.pick (.tmp 30) (.tmp 34) (.const (.bool false))) (O1 28 36 35 (OG 29 37 36 true (.fieldAddr 1 (.tmp 1)) (OG 30 38 36 true (.load none (.tmp 37)) (OG 31 39 36 true (.indexAddr 5 (.tmp 38) (K 2)) (OG 32 40 36 true (.fieldAddr 4 (.tmp 39)) (OG 33 41 36 true (.load none (.tmp 40)) (OG 34 42 36 true (.bin .eql (.tmp 41) (K 11)) (OP 35 43 (.pick (.tmp 36) (.tmp 42) (.const (.bool false))) (O1 36 0 43 .done)))))))))))))))))))))))))))))))))))))
abbrev g_q33:GC:=(.seq (.reg g_q33_r0 []) (.seq (.reg g_q33_r1 [1,2]) (.seq (.reg g_q33_r2 [0]) .ret)))
abbrev rs_q33:List RV:=[(.tmp 0)]
theorem gc_q33:compileF Tryd.prog Tryd.f16 T_q33=some (g_q33,rs_q33):=by kernel_rfl
theorem con_q33 (hv:vc Tryd.prog y g_q33 (retQ rs_q33 R) [] h):ConX y Tryd.prog 16 #[] h R:=con_of Tryd.func16 gc_q33 rfl (fun h=>absurd h (by decide)) hv
def T_q136:List (Nat×List Nat):=[(0,[1]),(1,[1,5,6]),(2,[1,5,6,13]),(3,[2,3,4]),(4,[2,3,4])]
abbrev g_q136_r0:GR:=(OP 0 1 (.box 26 (.tmp 0)) (OP 1 2 (.mv (K 0)) (OP 2 3 (.mv (.const (.slice none 0 0))) (OP 3 4 (.mv (K 0)) .done))))
abbrev g_q136_r1:GR:=(OP 0 8 (.load (some 8) (.tmp 1)) (OP 1 9 (.call 54 [(.tmp 8)]) (O1 2 7 9 (OP 3 10 (.extract 0 (.tmp 7)) (OP 4 11 (.extract 1 (.tmp 7)) (OP 5 5 (.alloc 82 [(.pointer none),(.pointer none),(.pointer none),(.pointer none),(.pointer none),(.pointer none),(.pointer none),(.pointer none),(.pointer none),(.pointer none),(.slice none 0 0),(.slice none 0 0),(.slice none 0 0)]) (OS 6 (.store 13 (.tmp 5) (.tmp 10)) (O1 7 6 11 .done))))))))
abbrev g_q136_r2:GR:=(O1 0 12 6 (OP 1 13 (.bin .neq (.tmp 12) (K 0)) .done))
abbrev g_q136_r3:GR:=(O1 0 14 6 (OP 1 2 (.mv (K 0)) (OP 2 3 (.mv (.const (.slice none 0 0))) (O1 3 4 14 .done))))
abbrev g_q136_r4:GR:=(OP 0 15 (.load (some 8) (.tmp 1)) (OP 1 16 (.load (some 13) (.tmp 5)) (OP 2 17 (.build [(.int .i64 0),(.slice none 0 0),(.slice none 0 0),(.slice none 0 0),(.slice none 0 0),(.slice none 0 0),(.slice none 0 0),(.slice none 0 0),(.pointer none),(.pointer none),(.pointer none),(.pointer none),(.pointer none),(.pointer none),(.pointer none),(.pointer none),(.pointer none),(.pointer none),(.slice none 0 0),(.slice none 0 0),(.slice none 0 0)] [(0,(8,(.tmp 15))),(8,(13,(.tmp 16)))]) (OP 3 18 (.build [(.int .i64 0),Value.nilFunc] [(0,(1,(K 1))),(1,(1,(.func 66)))]) (OP 4 19 (.build [(.int .i64 0),Value.nilFunc] [(0,(1,(K 2))),(1,(1,(.func 68)))]) (OP 5 20 (.buildSlice 104 2 [(.int .i64 0),Value.nilFunc,(.int .i64 0),Value.nilFunc] [(0,(2,(.tmp 18))),(2,(2,(.tmp 19)))]) (OP 6 21 (.call 65 [(.tmp 17),(.tmp 20)]) (OP 7 22 (.extract 0 (.tmp 21)) (OP 8 23 (.extract 1 (.tmp 21)) (OP 9 24 (.extract 2 (.tmp 21)) (O1 10 2 22 (O1 11 3 23 (O1 12 4 24 .done)))))))))))))
abbrev g_q136:GC:=(.seq (.reg g_q136_r0 [1]) (.seq (.reg g_q136_r1 [1,5,6]) (.seq (.seq (.reg g_q136_r2 [1,5,6,13]) (.cond (.tmp 13) (.seq (.reg g_q136_r3 [2,3,4]) .ret) .skip)) (.seq (.reg g_q136_r4 [2,3,4]) .ret))))
abbrev rs_q136:List RV:=[(.tmp 2),(.tmp 3),(.tmp 4)]
theorem gc_q136:compileF Tryd.prog Tryd.f31 T_q136=some (g_q136,rs_q136):=by kernel_rfl
theorem con_q136 (hv:vc Tryd.prog y g_q136 (retQ rs_q136 R) [(0,a0)] h):ConX y Tryd.prog 31 #[a0] h R:=con_of Tryd.func31 gc_q136 rfl (fun h=>absurd h (by decide)) hv
def T_q38:List (Nat×List Nat):=[(0,[0,1,2,3,8]),(1,[0,2,3,8,9]),(2,[2,3,8,9]),(3,[2,3,8,9,10]),(4,[3,8,9,10]),(5,[3,8,9,10,11]),(6,[8,9,10,11]),(7,[8,9]),(8,[8])]
abbrev g_q38_r0:GR:=(OP 0 8 (.alloc 26 [(.int .i64 0),(.slice none 0 0),(.slice none 0 0),(.slice none 0 0),(.slice none 0 0),(.slice none 0 0),(.slice none 0 0),(.slice none 0 0)]) .done)
abbrev g_q38_r1:GR:=(OP 0 12 (.call 34 [(K (-1)),(K 2),(K 0),(.const (.int .u64 0)),(K 1)]) (OP 1 13 (.call 34 [(K (-1)),(K 2),(K 1),(.const (.int .u64 0)),(K 1)]) (OP 2 14 (.buildSlice 36 2 [(.int .i64 0),(.int .i64 0),(.int .i64 0),(.int .u64 0),(.int .i64 0),(.int .i64 0),(.int .i64 0),(.int .i64 0),(.int .u64 0),(.int .i64 0)] [(0,(5,(.tmp 12))),(5,(5,(.tmp 13)))]) (O1 3 15 1 (OP 4 16 (.build [(.int .i64 0),(.slice none 0 0),(.slice none 0 0),(.slice none 0 0),(.slice none 0 0),(.slice none 0 0),(.slice none 0 0),(.slice none 0 0)] [(0,(1,(K 2))),(1,(1,(.tmp 14))),(2,(1,(.tmp 15)))]) (OP 5 9 (.alloc 26 [(.int .i64 0),(.slice none 0 0),(.slice none 0 0),(.slice none 0 0),(.slice none 0 0),(.slice none 0 0),(.slice none 0 0),(.slice none 0 0)]) (OS 6 (.store 8 (.tmp 9) (.tmp 16)) .done)))))))
abbrev g_q38_r2:GR:=(O3 0 17 1 9 (O2 1 18 17 (O1 2 19 0 (OP 3 20 (.append 36 5 40 [(.int .i64 0),(.int .i64 0),(.int .i64 0),(.int .u64 0),(.int .i64 0)] (.tmp 18) (.tmp 19)) (O3 4 21 1 9 (OS 5 (.store 1 (.tmp 21) (.tmp 20)) .done))))))
abbrev g_q38_r3:GR:=(OP 0 22 (.buildSlice 3 1 [(.int .i64 0)] [(0,(1,(K 0)))]) (O1 1 10 22 .done))
abbrev g_q38_r4:GR:=(O1 0 23 10 (O1 1 24 2 (OP 2 25 (.append 3 1 8 [(.int .i64 0)] (.tmp 23) (.tmp 24)) (O1 3 10 25 .done))))
abbrev g_q38_r5:GR:=(OP 0 26 (.buildSlice 3 1 [(.int .i64 0)] [(0,(1,(K 1)))]) (O1 1 11 26 .done))
abbrev g_q38_r6:GR:=(O1 0 27 11 (O1 1 28 3 (OP 2 29 (.append 3 1 8 [(.int .i64 0)] (.tmp 27) (.tmp 28)) (O1 3 11 29 .done))))
abbrev g_q38_r7:GR:=(O1 0 30 10 (O1 1 31 11 (OP 2 32 (.buildSlice 39 2 [(.slice none 0 0),(.slice none 0 0)] [(0,(1,(.tmp 30))),(1,(1,(.tmp 31)))]) (O3 3 33 3 9 (OS 4 (.store 1 (.tmp 33) (.tmp 32)) .done)))))
abbrev g_q38_r8:GR:=(OP 0 34 (.load (some 8) (.tmp 9)) (OS 1 (.store 8 (.tmp 8) (.tmp 34)) .done))
abbrev g_q38:GC:=(.seq (.reg g_q38_r0 [0,1,2,3,8]) (.seq (.reg g_q38_r1 [0,2,3,8,9]) (.seq (.reg g_q38_r2 [2,3,8,9]) (.seq (.reg g_q38_r3 [2,3,8,9,10]) (.seq (.reg g_q38_r4 [3,8,9,10]) (.seq (.reg g_q38_r5 [3,8,9,10,11]) (.seq (.reg g_q38_r6 [8,9,10,11]) (.seq (.reg g_q38_r7 [8,9]) (.seq (.reg g_q38_r8 [8]) .ret)))))))))
abbrev rs_q38:List RV:=[(.cell 8 (some 8))]
theorem gc_q38:compileF Tryd.prog Tryd.f33 T_q38=some (g_q38,rs_q38):=by kernel_rfl
theorem con_q38 (hv:vc Tryd.prog y g_q38 (retQ rs_q38 R) [(0,a0),(1,a1),(2,a2),(3,a3)] h):ConX y Tryd.prog 33 #[a0,a1,a2,a3] h R:=con_of Tryd.func33 gc_q38 rfl (fun h=>absurd h (by decide)) hv
def T_q30:List (Nat×List Nat):=[(0,[0,1,2,3,4,10]),(1,[10])]
abbrev g_q30_r0:GR:=(OP 0 10 (.alloc 36 [(.int .i64 0),(.int .i64 0),(.int .i64 0),(.int .u64 0),(.int .i64 0)]) .done)
abbrev g_q30_r1:GR:=(O1 0 11 0 (O1 1 12 1 (O1 2 13 2 (O1 3 14 3 (O1 4 15 4 (OP 5 16 (.build [(.int .i64 0),(.int .i64 0),(.int .i64 0),(.int .u64 0),(.int .i64 0)] [(0,(1,(.tmp 11))),(1,(1,(.tmp 12))),(2,(1,(.tmp 13))),(3,(1,(.tmp 14))),(4,(1,(.tmp 15)))]) (OS 6 (.store 5 (.tmp 10) (.tmp 16)) .done)))))))
abbrev g_q30:GC:=(.seq (.reg g_q30_r0 [0,1,2,3,4,10]) (.seq (.reg g_q30_r1 [10]) .ret))
abbrev rs_q30:List RV:=[(.cell 10 (some 5))]
theorem gc_q30:compileF Tryd.prog Tryd.f34 T_q30=some (g_q30,rs_q30):=by kernel_rfl
theorem con_q30 (hv:vc Tryd.prog y g_q30 (retQ rs_q30 R) [(0,a0),(1,a1),(2,a2),(3,a3),(4,a4)] h):ConX y Tryd.prog 34 #[a0,a1,a2,a3,a4] h R:=con_of Tryd.func34 gc_q30 rfl (fun h=>absurd h (by decide)) hv
def T_q36:List (Nat×List Nat):=[(0,[1,2,3]),(1,[1,2,7,8,9]),(2,[6])]
abbrev g_q36_r0:GR:=(OP 0 3 (.box 26 (.tmp 0)) (OP 1 6 (.mv (.const (.bool false))) .done))
abbrev g_q36_r1:GR:=(OP 0 11 (.load (some 8) (.tmp 3)) (OP 1 12 (.call 31 [(.tmp 11)]) (O1 2 10 12 (OP 3 13 (.extract 0 (.tmp 10)) (OP 4 14 (.extract 1 (.tmp 10)) (OP 5 15 (.extract 2 (.tmp 10)) (O1 6 7 13 (O1 7 8 14 (O1 8 9 15 .done)))))))))
abbrev g_q36_r2:GR:=(O1 0 16 9 (OP 1 17 (.bin .eql (.tmp 16) (K 0)) (O1 2 18 17 (OG 3 19 18 true (.mv (.tmp 7)) (OG 4 20 18 true (.mv (.tmp 1)) (OG 5 21 18 true (.bin .eql (.tmp 19) (.tmp 20)) (OP 6 22 (.pick (.tmp 18) (.tmp 21) (.const (.bool false))) (O1 7 23 22 (OG 8 24 23 true (.mv (.tmp 8)) (OG 9 25 23 true (.mv (.tmp 2)) (OG 10 26 23 true (.call 70 [(.tmp 24),(.tmp 25)]) (OP 11 27 (.pick (.tmp 23) (.tmp 26) (.const (.bool false))) (O1 12 6 27 .done)))))))))))))
abbrev g_q36:GC:=(.seq (.reg g_q36_r0 [1,2,3]) (.seq (.reg g_q36_r1 [1,2,7,8,9]) (.seq (.reg g_q36_r2 [6]) .ret)))
abbrev rs_q36:List RV:=[(.tmp 6)]
theorem gc_q36:compileF Tryd.prog Tryd.f35 T_q36=some (g_q36,rs_q36):=by kernel_rfl
theorem con_q36 (hv:vc Tryd.prog y g_q36 (retQ rs_q36 R) [(0,a0),(1,a1),(2,a2)] h):ConX y Tryd.prog 35 #[a0,a1,a2] h R:=con_of Tryd.func35 gc_q36 rfl (fun h=>absurd h (by decide)) hv
def T_q37:List (Nat×List Nat):=[(0,[1,2,3]),(1,[1,2,7,8,9]),(2,[6])]
abbrev g_q37_r0:GR:=(OP 0 3 (.box 26 (.tmp 0)) (OP 1 6 (.mv (.const (.bool false))) .done))
abbrev g_q37_r1:GR:=(OP 0 11 (.load (some 8) (.tmp 3)) (OP 1 12 (.call 40 [(.tmp 11)]) (O1 2 10 12 (OP 3 13 (.extract 0 (.tmp 10)) (OP 4 14 (.extract 1 (.tmp 10)) (OP 5 15 (.extract 2 (.tmp 10)) (O1 6 7 13 (O1 7 8 14 (O1 8 9 15 .done)))))))))
abbrev g_q37_r2:GR:=(O1 0 16 9 (OP 1 17 (.bin .eql (.tmp 16) (K 0)) (O1 2 18 17 (OG 3 19 18 true (.mv (.tmp 7)) (OG 4 20 18 true (.mv (.tmp 1)) (OG 5 21 18 true (.bin .eql (.tmp 19) (.tmp 20)) (OP 6 22 (.pick (.tmp 18) (.tmp 21) (.const (.bool false))) (O1 7 23 22 (OG 8 24 23 true (.mv (.tmp 8)) (OG 9 25 23 true (.mv (.tmp 2)) (OG 10 26 23 true (.call 70 [(.tmp 24),(.tmp 25)]) (OP 11 27 (.pick (.tmp 23) (.tmp 26) (.const (.bool false))) (O1 12 6 27 .done)))))))))))))
abbrev g_q37:GC:=(.seq (.reg g_q37_r0 [1,2,3]) (.seq (.reg g_q37_r1 [1,2,7,8,9]) (.seq (.reg g_q37_r2 [6]) .ret)))
abbrev rs_q37:List RV:=[(.tmp 6)]
theorem gc_q37:compileF Tryd.prog Tryd.f37 T_q37=some (g_q37,rs_q37):=by kernel_rfl
theorem con_q37 (hv:vc Tryd.prog y g_q37 (retQ rs_q37 R) [(0,a0),(1,a1),(2,a2)] h):ConX y Tryd.prog 37 #[a0,a1,a2] h R:=con_of Tryd.func37 gc_q37 rfl (fun h=>absurd h (by decide)) hv
def T_q34:List (Nat×List Nat):=[(0,[0]),(1,[0])]
abbrev g_q34_r0:GR:=(OP 0 0 (.alloc 26 [(.int .i64 0),(.slice none 0 0),(.slice none 0 0),(.slice none 0 0),(.slice none 0 0),(.slice none 0 0),(.slice none 0 0),(.slice none 0 0)]) .done)
abbrev g_q34_r1:GR:=(OP 0 1 (.call 34 [(K 0),(K 1),(K 0),(.const (.int .u64 1)),(K 1)]) (OP 1 2 (.call 34 [(K 0),(K 2),(K 1),(.const (.int .u64 1)),(K 1)]) (OP 2 3 (.call 34 [(K 1),(K 1),(K 1),(.const (.int .u64 1)),(K 1)]) (OP 3 4 (.call 34 [(K 1),(K 2),(K 0),(.const (.int .u64 1)),(K 1)]) (OP 4 5 (.buildSlice 36 4 [(.int .i64 0),(.int .i64 0),(.int .i64 0),(.int .u64 0),(.int .i64 0),(.int .i64 0),(.int .i64 0),(.int .i64 0),(.int .u64 0),(.int .i64 0),(.int .i64 0),(.int .i64 0),(.int .i64 0),(.int .u64 0),(.int .i64 0),(.int .i64 0),(.int .i64 0),(.int .i64 0),(.int .u64 0),(.int .i64 0)] [(0,(5,(.tmp 1))),(5,(5,(.tmp 2))),(10,(5,(.tmp 3))),(15,(5,(.tmp 4)))]) (OP 5 6 (.build [(.int .i64 0),(.int .i64 0)] [(0,(1,(K 5))),(1,(1,(K 2)))]) (OP 6 7 (.build [(.int .i64 0),(.int .i64 0)] [(0,(1,(K 3))),(1,(1,(K 4)))]) (OP 7 8 (.buildSlice 38 2 [(.int .i64 0),(.int .i64 0),(.int .i64 0),(.int .i64 0)] [(0,(2,(.tmp 6))),(2,(2,(.tmp 7)))]) (OP 8 9 (.buildSlice 3 1 [(.int .i64 0)] [(0,(1,(K 5)))]) (OP 9 10 (.buildSlice 3 1 [(.int .i64 0)] [(0,(1,(K 3)))]) (OP 10 11 (.call 33 [(.tmp 5),(.tmp 8),(.tmp 9),(.tmp 10)]) (OS 11 (.store 8 (.tmp 0) (.tmp 11)) .done))))))))))))
abbrev g_q34:GC:=(.seq (.reg g_q34_r0 [0]) (.seq (.reg g_q34_r1 [0]) .ret))
abbrev rs_q34:List RV:=[(.cell 0 (some 8))]
theorem gc_q34:compileF Tryd.prog Tryd.f38 T_q34=some (g_q34,rs_q34):=by kernel_rfl
theorem con_q34 (hv:vc Tryd.prog y g_q34 (retQ rs_q34 R) [] h):ConX y Tryd.prog 38 #[] h R:=con_of Tryd.func38 gc_q34 rfl (fun h=>absurd h (by decide)) hv
def T_q0:List (Nat×List Nat):=[(0,[1]),(1,[1,4,5]),(2,[1,4,5,17]),(3,[2,3,4]),(4,[1,5,6]),(5,[1,5,6,50]),(6,[2,3,4]),(7,[1,5,7]),(8,[1,5,7,58]),(9,[2,3,4]),(10,[1,8]),(11,[8,70,71,72]),(12,[8,70,71,72,73]),(13,[8,10,70,71,72]),(14,[8,10,70,71,72,81]),(15,[2,3,4]),(16,[8,70,71,72]),(17,[2,3,4])]
abbrev g_q0_r0:GR:=(OP 0 1 (.box 26 (.tmp 0)) (OP 1 2 (.mv (K 0)) (OP 2 3 (.mv (.const (.slice none 0 0))) (OP 3 4 (.mv (K 0)) .done))))
abbrev g_q0_r1:GR:=(OP 0 12 (.load (some 8) (.tmp 1)) (OP 1 13 (.call 71 [(.tmp 12)]) (O1 2 11 13 (OP 3 14 (.extract 0 (.tmp 11)) (OP 4 15 (.extract 1 (.tmp 11)) (O1 5 5 14 (O1 6 4 15 .done)))))))
abbrev g_q0_r2:GR:=(O1 0 16 4 (OP 1 17 (.bin .neq (.tmp 16) (K 0)) .done))
abbrev g_q0_r3:GR:=(O1 0 18 4 (OP 1 2 (.mv (K 0)) (OP 2 3 (.mv (.const (.slice none 0 0))) (O1 3 4 18 .done))))
abbrev g_q0_r4:GR:=(O1 0 19 5 (OP 1 20 (.nilCheck (.tmp 19)) (O3 2 21 8 20 (O3 3 22 0 21 (O6 4 23 22 (O1 5 24 5 (OP 6 25 (.nilCheck (.tmp 24)) (O3 7 26 8 25 (O3 8 27 5 26 (O6 9 28 27 (O1 11 30 5 (OP 12 31 (.nilCheck (.tmp 30)) (O3 13 32 8 31 (O3 14 33 1 32 (O6 15 34 33 (O1 16 35 5 (OP 17 36 (.nilCheck (.tmp 35)) (O3 18 37 8 36 (O3 19 38 2 37 (O6 20 39 38 (O1 21 40 5 (OP 22 41 (.nilCheck (.tmp 40)) (O3 23 42 8 41 (O3 24 43 3 42 (O6 25 44 43 (.op (GI.mk 10 (some 29) none (.call 73 [(.tmp 23),(.tmp 28)]) [15,20,25] false) (OP 26 45 (.buildSlice 80 4 [(.pointer none),(.pointer none),(.pointer none),(.pointer none)] [(0,(1,(.tmp 29))),(1,(1,(.tmp 34))),(2,(1,(.tmp 39))),(3,(1,(.tmp 44)))]) (.op (GI.mk 27 (some 46) none (.call 58 [(.tmp 45)]) [4,9,15,20,25] false) (.op (GI.mk 28 (some 47) none (.call 72 [(.tmp 46)]) [4,9,15,20,25] false) (O1 29 6 47 .done))))))))))))))))))))))))))))))
abbrev g_q0_r5:GR:=(O1 0 48 6 (OP 1 49 (.len (.tmp 48)) (OP 2 50 (.bin .gtr (.tmp 49) (K 0)) .done)))
abbrev g_q0_r6:GR:=(O1 0 51 6 (OP 1 2 (.mv (K 1)) (O1 2 3 51 (OP 3 4 (.mv (K 0)) .done))))
abbrev g_q0_r7:GR:=(O1 0 52 5 (OP 1 53 (.call 74 [(.tmp 52)]) (OP 2 54 (.field none 4 (.tmp 53)) (OP 3 55 (.call 72 [(.tmp 54)]) (O1 4 7 55 .done)))))
abbrev g_q0_r8:GR:=(O1 0 56 7 (OP 1 57 (.len (.tmp 56)) (OP 2 58 (.bin .gtr (.tmp 57) (K 0)) .done)))
abbrev g_q0_r9:GR:=(O1 0 59 7 (OP 1 2 (.mv (K 2)) (O1 2 3 59 (OP 3 4 (.mv (K 0)) .done))))
abbrev g_q0_r10:GR:=(O1 0 60 5 (OP 1 61 (.nilCheck (.tmp 60)) (O3 2 62 25 61 (O6 3 63 62 (O1 4 64 5 (OP 5 65 (.nilCheck (.tmp 64)) (O3 6 66 23 65 (O6 7 67 66 (OP 8 68 (.call 75 [(.tmp 63),(.tmp 67)]) (O1 9 8 68 .done))))))))))
abbrev g_q0_r11:GR:=(O3 0 69 4 1 (O2 1 70 69 (OP 2 71 (.len (.tmp 70)) (OP 3 72 (.mv (K 0)) .done))))
abbrev g_q0_r12:GR:=(O5 0 73 .lss 72 71 .done)
abbrev g_q0_r13:GR:=(O4 0 74 2 70 72 (OP 1 75 (.load (some 2) (.tmp 74)) (OP 2 10 (.alloc 38 [(.int .i64 0),(.int .i64 0)]) (OS 3 (.store 2 (.tmp 10) (.tmp 75)) .done))))
abbrev g_q0_r14:GR:=(O1 0 76 8 (O3 1 77 0 10 (O2 2 78 77 (O3 3 79 1 10 (O2 4 80 79 (OP 5 81 (.call 76 [(.tmp 76),(.tmp 78),(.tmp 80)]) .done))))))
abbrev g_q0_r15:GR:=(O3 0 82 0 10 (O6 1 83 82 (O3 2 84 1 10 (O6 3 85 84 (OP 5 2 (.mv (K 3)) (OP 4 86 (.buildSlice 3 2 [(.int .i64 0),(.int .i64 0)] [(0,(1,(.tmp 83))),(1,(1,(.tmp 85)))]) (O1 6 3 86 (OP 7 4 (.mv (K 0)) .done))))))))
abbrev g_q0_r16:GR:=(OP 0 87 (.bin .add (.tmp 72) (K 1)) (O1 1 72 87 .done))
abbrev g_q0_l17:GC:=(.seq (.reg g_q0_r12 [8,70,71,72,73]) (.seq (.cond (.tmp 73) .skip (.exit 0)) (.seq (.block 1 (.seq (.reg g_q0_r13 [8,10,70,71,72]) (.seq (.reg g_q0_r14 [8,10,70,71,72,81]) (.cond (.tmp 81) (.seq (.reg g_q0_r15 [2,3,4]) .ret) .skip)))) (.reg g_q0_r16 [8,70,71,72]))))
abbrev g_q0_r18:GR:=(OP 0 2 (.mv (K 0)) (OP 1 3 (.mv (.const (.slice none 0 0))) (OP 2 4 (.mv (K 0)) .done)))
abbrev g_q0:GC:=(.seq (.reg g_q0_r0 [1]) (.seq (.reg g_q0_r1 [1,4,5]) (.seq (.seq (.reg g_q0_r2 [1,4,5,17]) (.cond (.tmp 17) (.seq (.reg g_q0_r3 [2,3,4]) .ret) .skip)) (.seq (.seq (.reg g_q0_r4 [1,5,6]) (.seq (.reg g_q0_r5 [1,5,6,50]) (.cond (.tmp 50) (.seq (.reg g_q0_r6 [2,3,4]) .ret) .skip))) (.seq (.seq (.reg g_q0_r7 [1,5,7]) (.seq (.reg g_q0_r8 [1,5,7,58]) (.cond (.tmp 58) (.seq (.reg g_q0_r9 [2,3,4]) .ret) .skip))) (.seq (.reg g_q0_r10 [1,8]) (.seq (.seq (.reg g_q0_r11 [8,70,71,72]) (.block 0 (.loop g_q0_l17))) (.seq (.reg g_q0_r18 [2,3,4]) .ret))))))))
abbrev rs_q0:List RV:=[(.tmp 2),(.tmp 3),(.tmp 4)]
theorem gc_q0:compileF Tryd.prog Tryd.f39 T_q0=some (g_q0,rs_q0):=by kernel_rfl
theorem con_q0 (hv:vc Tryd.prog y g_q0 (retQ rs_q0 R) [(0,a0)] h):ConX y Tryd.prog 39 #[a0] h R:=con_of Tryd.func39 gc_q0 rfl (fun h=>absurd h (by decide)) hv
def T_q138:List (Nat×List Nat):=[(0,[1]),(1,[1,5,6]),(2,[1,5,6,14]),(3,[2,3,4]),(4,[1,5,7]),(5,[2,3,4])]
abbrev g_q138_r0:GR:=(OP 0 1 (.box 26 (.tmp 0)) (OP 1 2 (.mv (K 0)) (OP 2 3 (.mv (.const (.slice none 0 0))) (OP 3 4 (.mv (K 0)) .done))))
abbrev g_q138_r1:GR:=(OP 0 9 (.load (some 8) (.tmp 1)) (OP 1 10 (.call 54 [(.tmp 9)]) (O1 2 8 10 (OP 3 11 (.extract 0 (.tmp 8)) (OP 4 12 (.extract 1 (.tmp 8)) (OP 5 5 (.alloc 82 [(.pointer none),(.pointer none),(.pointer none),(.pointer none),(.pointer none),(.pointer none),(.pointer none),(.pointer none),(.pointer none),(.pointer none),(.slice none 0 0),(.slice none 0 0),(.slice none 0 0)]) (OS 6 (.store 13 (.tmp 5) (.tmp 11)) (O1 7 6 12 .done))))))))
abbrev g_q138_r2:GR:=(O1 0 13 6 (OP 1 14 (.bin .neq (.tmp 13) (K 0)) .done))
abbrev g_q138_r3:GR:=(O1 0 15 6 (OP 1 2 (.mv (K 0)) (OP 2 3 (.mv (.const (.slice none 0 0))) (O1 3 4 15 .done))))
abbrev g_q138_r4:GR:=(OP 0 7 (.mv (.func 77)) .done)
abbrev g_q138_r5:GR:=(OP 0 16 (.load (some 8) (.tmp 1)) (OP 1 17 (.load (some 13) (.tmp 5)) (OP 2 18 (.build [(.int .i64 0),(.slice none 0 0),(.slice none 0 0),(.slice none 0 0),(.slice none 0 0),(.slice none 0 0),(.slice none 0 0),(.slice none 0 0),(.pointer none),(.pointer none),(.pointer none),(.pointer none),(.pointer none),(.pointer none),(.pointer none),(.pointer none),(.pointer none),(.pointer none),(.slice none 0 0),(.slice none 0 0),(.slice none 0 0)] [(0,(8,(.tmp 16))),(8,(13,(.tmp 17)))]) (O1 3 19 7 (OP 4 20 (.build [(.int .i64 0),Value.nilFunc] [(0,(1,(K 1))),(1,(1,(.tmp 19)))]) (OP 5 21 (.build [(.int .i64 0),Value.nilFunc] [(0,(1,(K 2))),(1,(1,(.func 68)))]) (OP 6 22 (.build [(.int .i64 0),Value.nilFunc] [(0,(1,(K 3))),(1,(1,(.func 78)))]) (OP 7 23 (.buildSlice 104 3 [(.int .i64 0),Value.nilFunc,(.int .i64 0),Value.nilFunc,(.int .i64 0),Value.nilFunc] [(0,(2,(.tmp 20))),(2,(2,(.tmp 21))),(4,(2,(.tmp 22)))]) (OP 8 24 (.call 65 [(.tmp 18),(.tmp 23)]) (OP 9 25 (.extract 0 (.tmp 24)) (OP 10 26 (.extract 1 (.tmp 24)) (OP 11 27 (.extract 2 (.tmp 24)) (O1 12 2 25 (O1 13 3 26 (O1 14 4 27 .done)))))))))))))))
abbrev g_q138:GC:=(.seq (.reg g_q138_r0 [1]) (.seq (.reg g_q138_r1 [1,5,6]) (.seq (.seq (.reg g_q138_r2 [1,5,6,14]) (.cond (.tmp 14) (.seq (.reg g_q138_r3 [2,3,4]) .ret) .skip)) (.seq (.reg g_q138_r4 [1,5,7]) (.seq (.reg g_q138_r5 [2,3,4]) .ret)))))
abbrev rs_q138:List RV:=[(.tmp 2),(.tmp 3),(.tmp 4)]
theorem gc_q138:compileF Tryd.prog Tryd.f40 T_q138=some (g_q138,rs_q138):=by kernel_rfl
theorem con_q138 (hv:vc Tryd.prog y g_q138 (retQ rs_q138 R) [(0,a0)] h):ConX y Tryd.prog 40 #[a0] h R:=con_of Tryd.func40 gc_q138 rfl (fun h=>absurd h (by decide)) hv
def T_q56:List (Nat×List Nat):=[(0,[1]),(1,[4,5]),(2,[4,5,15]),(3,[2,3,4]),(4,[5,17,18,19]),(5,[5,17,18,19,20]),(6,[5,7,17,18,19]),(7,[5,7,8,17,18,19]),(8,[5,7,8,17,18,19,29]),(9,[2,3,4]),(10,[5,17,18,19]),(11,[2,3,4])]
abbrev g_q56_r0:GR:=(OP 0 1 (.box 26 (.tmp 0)) (OP 1 2 (.mv (K 0)) (OP 2 3 (.mv (.const (.slice none 0 0))) (OP 3 4 (.mv (K 0)) .done))))
abbrev g_q56_r1:GR:=(OP 0 10 (.load (some 8) (.tmp 1)) (OP 1 11 (.call 79 [(.tmp 10)]) (O1 2 9 11 (OP 3 12 (.extract 0 (.tmp 9)) (OP 4 13 (.extract 1 (.tmp 9)) (O1 5 5 12 (O1 6 4 13 .done)))))))
abbrev g_q56_r2:GR:=(O1 0 14 4 (OP 1 15 (.bin .neq (.tmp 14) (K 0)) .done))
abbrev g_q56_r3:GR:=(O1 0 16 4 (OP 1 2 (.mv (K 0)) (OP 2 3 (.mv (.const (.slice none 0 0))) (O1 3 4 16 .done))))
abbrev g_q56_r4:GR:=(OP 0 17 (.call 80 []) (OP 1 18 (.len (.tmp 17)) (OP 2 19 (.mv (K 0)) .done)))
abbrev g_q56_r5:GR:=(O5 0 20 .lss 19 18 .done)
abbrev g_q56_r6:GR:=(O4 0 21 2 17 19 (OP 1 22 (.load (some 2) (.tmp 21)) (OP 2 7 (.alloc 123 [(.int .i64 0),Value.nilFunc]) (OS 3 (.store 2 (.tmp 7) (.tmp 22)) .done))))
abbrev g_q56_r7:GR:=(O3 0 23 1 7 (O2 1 24 23 (O1 2 25 5 (OP 3 26 (.callv (.tmp 24) [(.tmp 25)]) (O1 4 8 26 .done)))))
abbrev g_q56_r8:GR:=(O1 0 27 8 (OP 1 28 (.len (.tmp 27)) (OP 2 29 (.bin .gtr (.tmp 28) (K 0)) .done)))
abbrev g_q56_r9:GR:=(O3 0 30 0 7 (O2 1 31 30 (O1 2 32 8 (O1 3 2 31 (O1 4 3 32 (OP 5 4 (.mv (K 0)) .done))))))
abbrev g_q56_r10:GR:=(OP 0 33 (.bin .add (.tmp 19) (K 1)) (O1 1 19 33 .done))
abbrev g_q56_l11:GC:=(.seq (.reg g_q56_r5 [5,17,18,19,20]) (.seq (.cond (.tmp 20) .skip (.exit 0)) (.seq (.block 1 (.seq (.reg g_q56_r6 [5,7,17,18,19]) (.seq (.reg g_q56_r7 [5,7,8,17,18,19]) (.seq (.reg g_q56_r8 [5,7,8,17,18,19,29]) (.cond (.tmp 29) (.seq (.reg g_q56_r9 [2,3,4]) .ret) .skip))))) (.reg g_q56_r10 [5,17,18,19]))))
abbrev g_q56_r12:GR:=(OP 0 2 (.mv (K 0)) (OP 1 3 (.mv (.const (.slice none 0 0))) (OP 2 4 (.mv (K 0)) .done)))
abbrev g_q56:GC:=(.seq (.reg g_q56_r0 [1]) (.seq (.reg g_q56_r1 [4,5]) (.seq (.seq (.reg g_q56_r2 [4,5,15]) (.cond (.tmp 15) (.seq (.reg g_q56_r3 [2,3,4]) .ret) .skip)) (.seq (.seq (.reg g_q56_r4 [5,17,18,19]) (.block 0 (.loop g_q56_l11))) (.seq (.reg g_q56_r12 [2,3,4]) .ret)))))
abbrev rs_q56:List RV:=[(.tmp 2),(.tmp 3),(.tmp 4)]
theorem gc_q56:compileF Tryd.prog Tryd.f41 T_q56=some (g_q56,rs_q56):=by kernel_rfl
theorem con_q56 (hv:vc Tryd.prog y g_q56 (retQ rs_q56 R) [(0,a0)] h):ConX y Tryd.prog 41 #[a0] h R:=con_of Tryd.func41 gc_q56 rfl (fun h=>absurd h (by decide)) hv
def T_q11:List (Nat×List Nat):=[(0,[1,2,4,5]),(1,[1,2,4,5,42]),(2,[4,5]),(3,[1,2,4,5,6]),(4,[1,2,4,5,6,44]),(5,[1,2,4,5,6]),(6,[1,2,4,5,6,47,48]),(7,[1,2,4,5,6,47,48,49]),(8,[1,2,4,5,6,7,47,48]),(9,[1,2,4,5,6,7,47,48]),(10,[1,2,4,5,6,7,47,48,59]),(11,[4,5]),(12,[1,2,4,5,6,47,48]),(13,[2,4,5,8]),(14,[2,4,5,8,9]),(15,[2,4,5,8,9,73]),(16,[8,9,10,75]),(17,[8,9,10,11]),(18,[8,9,10,11]),(19,[8,9,10,11,12,13]),(20,[8,9,10,11,12,94]),(21,[9,10,11]),(22,[]),(23,[2,8,14]),(24,[2,8,14,109]),(25,[4,5]),(26,[2,8,15]),(27,[2,8,15,114]),(28,[4,5]),(29,[2,8,16]),(30,[2,8,16,119]),(31,[4,5]),(32,[2,8,17]),(33,[2,8,17,124]),(34,[4,5]),(35,[2,8,18]),(36,[2,8,18,132]),(37,[4,5]),(38,[2,8,19]),(39,[2,8,19,140]),(40,[4,5]),(41,[20]),(42,[20,148]),(43,[4,5]),(44,[4,5])]
abbrev g_q11_r0:GR:=(OP 0 2 (.box 26 (.tmp 0)) (OP 1 4 (.mv (K 0)) (OP 2 5 (.mv (K 0)) .done)))
abbrev g_q11_r1:GR:=(O3 0 21 0 2 (O2 1 22 21 (OP 2 23 (.bin .lss (.tmp 22) (K 0)) (O1 3 24 23 (OG 4 25 24 false (.fieldAddr 0 (.tmp 2)) (OG 5 26 24 false (.load none (.tmp 25)) (OG 6 27 24 false (.bin .gtr (.tmp 26) (K 4096)) (OP 7 28 (.pick (.tmp 24) (.const (.bool true)) (.tmp 27)) (O1 8 29 28 (OG 9 30 29 false (.fieldAddr 1 (.tmp 2)) (OG 10 31 29 false (.load none (.tmp 30)) (OG 11 32 29 false (.len (.tmp 31)) (OG 12 33 29 false (.fieldAddr 0 (.tmp 2)) (OG 13 34 29 false (.load none (.tmp 33)) (OG 14 35 29 false (.bin .lss (.tmp 32) (.tmp 34)) (OP 15 36 (.pick (.tmp 29) (.const (.bool true)) (.tmp 35)) (O1 16 37 36 (OG 17 38 37 false (.fieldAddr 1 (.tmp 2)) (OG 18 39 37 false (.load none (.tmp 38)) (OG 19 40 37 false (.len (.tmp 39)) (OG 20 41 37 false (.bin .gtr (.tmp 40) (K 256)) (OP 21 42 (.pick (.tmp 37) (.const (.bool true)) (.tmp 41)) .done))))))))))))))))))))))
abbrev g_q11_r2:GR:=(OP 0 4 (.mv (K 1)) (OP 1 5 (.mv (K 0)) .done))
abbrev g_q11_r3:GR:=(OP 0 43 (.build [(.int .i64 0),(.int .i64 0),(.int .i64 0),(.int .u64 0),(.int .i64 0)] [(0,(1,(K (-1)))),(1,(1,(K 2))),(4,(1,(K 1)))]) (OP 1 6 (.alloc 36 [(.int .i64 0),(.int .i64 0),(.int .i64 0),(.int .u64 0),(.int .i64 0)]) (OS 2 (.store 5 (.tmp 6) (.tmp 43)) .done)))
abbrev g_q11_r4:GR:=(O1 0 44 1 .done)
abbrev g_q11_r5:GR:=(O3 0 45 4 6 (OS 1 (.store 1 (.tmp 45) (K 11)) .done))
abbrev g_q11_r6:GR:=(O3 0 46 0 2 (O2 1 47 46 (OP 2 48 (.mv (K 0)) .done)))
abbrev g_q11_r7:GR:=(O5 0 49 .lss 48 47 .done)
abbrev g_q11_r8:GR:=(O1 0 50 48 (O1 1 7 50 .done))
abbrev g_q11_r9:GR:=(O1 0 51 7 (O3 1 52 2 6 (OS 2 (.store 1 (.tmp 52) (.tmp 51)) .done)))
abbrev g_q11_r10:GR:=(O3 0 53 1 2 (O6 1 54 53 (O1 2 55 7 (O4 3 56 5 54 55 (OW 4 57 (.load (some 5) (.tmp 56)) (OW 5 58 (.load (some 5) (.tmp 6)) (OP 6 59 (.eqStruct true [0,1,2,3,4] (.tmp 57) (.tmp 58)) .done)))))))
abbrev g_q11_r11:GR:=(O1 0 60 7 (OP 1 4 (.mv (K 2)) (O1 2 5 60 .done)))
abbrev g_q11_r12:GR:=(OP 0 61 (.bin .add (.tmp 48) (K 1)) (O1 1 48 61 .done))
abbrev g_q11_l13:GC:=(.seq (.reg g_q11_r7 [1,2,4,5,6,47,48,49]) (.seq (.cond (.tmp 49) .skip (.exit 0)) (.seq (.block 1 (.seq (.reg g_q11_r8 [1,2,4,5,6,7,47,48]) (.seq (.reg g_q11_r9 [1,2,4,5,6,7,47,48]) (.seq (.reg g_q11_r10 [1,2,4,5,6,7,47,48,59]) (.cond (.tmp 59) (.seq (.reg g_q11_r11 [4,5]) .ret) .skip))))) (.reg g_q11_r12 [1,2,4,5,6,47,48]))))
abbrev g_q11_r14:GR:=(OW 0 62 (.load (some 8) (.tmp 2)) (O1 1 63 1 (O3 2 64 1 2 (O6 3 65 64 (OP 4 66 (.len (.tmp 65)) (.two (OP 5 67 (.makeSlice 3 1 8 [(.int .i64 0)] (.tmp 66) (.tmp 66)) (OP 6 68 (.build [(.int .i64 0),(.slice none 0 0),(.slice none 0 0),(.slice none 0 0),(.slice none 0 0),(.slice none 0 0),(.slice none 0 0),(.slice none 0 0),(.bool false),(.slice none 0 0)] [(0,(8,(.tmp 62))),(8,(1,(.tmp 63))),(9,(1,(.tmp 67)))]) (.two (OP 7 69 (.box 126 (.tmp 68)) (OP 8 8 (.alloc 124 [(.pointer none)]) (OS 9 (.store 1 (.tmp 8) (.tmp 69)) .done))) (OP 8 8 (.alloc 124 [(.pointer none)]) (OP 7 69 (.box 126 (.tmp 68)) (OS 9 (.store 1 (.tmp 8) (.tmp 69)) .done)))))) (OP 8 8 (.alloc 124 [(.pointer none)]) (OP 5 67 (.makeSlice 3 1 8 [(.int .i64 0)] (.tmp 66) (.tmp 66)) (OP 6 68 (.build [(.int .i64 0),(.slice none 0 0),(.slice none 0 0),(.slice none 0 0),(.slice none 0 0),(.slice none 0 0),(.slice none 0 0),(.slice none 0 0),(.bool false),(.slice none 0 0)] [(0,(8,(.tmp 62))),(8,(1,(.tmp 63))),(9,(1,(.tmp 67)))]) (OP 7 69 (.box 126 (.tmp 68)) (OS 9 (.store 1 (.tmp 8) (.tmp 69)) .done)))))))))))
abbrev g_q11_r15:GR:=(OP 0 70 .makeMap (OP 1 9 (.alloc 92 [(Value.map none)]) (OS 2 (.store 1 (.tmp 9) (.tmp 70)) .done)))
abbrev g_q11_r16:GR:=(O3 0 71 1 2 (O2 1 72 71 (OP 2 73 (.call 81 [(.tmp 72)]) .done)))
abbrev g_q11_r17:GR:=(O1 0 10 74 .done)
abbrev g_q11_r18:GR:=(OP 0 11 (.alloc 36 [(.int .i64 0),(.int .i64 0),(.int .i64 0),(.int .u64 0),(.int .i64 0)]) (OS 1 (.store 5 (.tmp 11) (.tmp 75)) .done))
abbrev g_q11_r19:GR:=(O2 0 76 8 (OP 1 77 (.nilCheck (.tmp 76)) (O3 2 78 9 77 (O2 3 79 78 (O1 4 80 10 (O4 5 81 1 79 80 (OS 6 (.store 1 (.tmp 81) (K (-1))) .done)))))))
abbrev g_q11_r20:GR:=(O2 0 83 9 (O3 1 84 0 11 (O2 2 85 84 (OP 3 86 (.lookup true (.int .i64 0) (.tmp 83) (.tmp 85)) (O1 4 82 86 (OP 5 87 (.extract 0 (.tmp 82)) (OP 6 88 (.extract 1 (.tmp 82)) (O1 7 12 87 (O1 8 13 88 .done)))))))))
abbrev g_q11_r21:GR:=(O1 0 89 13 (O1 1 90 89 (OG 2 91 90 true (.fieldAddr 0 (.tmp 11)) (OG 3 92 90 true (.load none (.tmp 91)) (OG 4 93 90 true (.bin .geq (.tmp 92) (K 0)) (OP 5 94 (.pick (.tmp 90) (.tmp 93) (.const (.bool false))) .done))))))
abbrev g_q11_r22:GR:=(O2 0 95 8 (OP 1 96 (.nilCheck (.tmp 95)) (O3 2 97 9 96 (O2 3 98 97 (O1 4 99 10 (O1 5 100 12 (O4 6 101 1 98 99 (OS 7 (.store 1 (.tmp 101) (.tmp 100)) .done))))))))
abbrev g_q11_r23:GR:=(O2 0 102 9 (O3 1 103 0 11 (O2 2 104 103 (O1 3 105 10 (OS 4 (.mapSet (.tmp 102) (.tmp 104) (.tmp 105)) .done)))))
abbrev g_q11_b24:GC:=(.block 3 (.seq (.reg g_q11_r19 [8,9,10,11]) (.seq (.seq (.reg g_q11_r20 [8,9,10,11,12,13]) (.seq (.reg g_q11_r21 [8,9,10,11,12,94]) (.cond (.tmp 94) (.reg g_q11_r22 [9,10,11]) .skip))) (.reg g_q11_r23 []))))
abbrev g_q11_r25:GR:=(O2 0 106 8 (OP 1 107 (.call 82 [(.tmp 106)]) (O1 2 14 107 .done)))
abbrev g_q11_r26:GR:=(O1 0 108 14 (OP 1 109 (.bin .geq (.tmp 108) (K 0)) .done))
abbrev g_q11_r27:GR:=(O1 0 110 14 (OP 1 4 (.mv (K 3)) (O1 2 5 110 .done)))
abbrev g_q11_r28:GR:=(O2 0 111 8 (OP 1 112 (.call 83 [(.tmp 111)]) (O1 2 15 112 .done)))
abbrev g_q11_r29:GR:=(O1 0 113 15 (OP 1 114 (.bin .geq (.tmp 113) (K 0)) .done))
abbrev g_q11_r30:GR:=(O1 0 115 15 (OP 1 4 (.mv (K 4)) (O1 2 5 115 .done)))
abbrev g_q11_r31:GR:=(O2 0 116 8 (OP 1 117 (.call 84 [(.tmp 116)]) (O1 2 16 117 .done)))
abbrev g_q11_r32:GR:=(O1 0 118 16 (OP 1 119 (.bin .geq (.tmp 118) (K 0)) .done))
abbrev g_q11_r33:GR:=(O1 0 120 16 (OP 1 4 (.mv (K 5)) (O1 2 5 120 .done)))
abbrev g_q11_r34:GR:=(O2 0 121 8 (OP 1 122 (.call 85 [(.tmp 121)]) (O1 2 17 122 .done)))
abbrev g_q11_r35:GR:=(O1 0 123 17 (OP 1 124 (.bin .geq (.tmp 123) (K 0)) .done))
abbrev g_q11_r36:GR:=(O1 0 125 17 (OP 1 4 (.mv (K 6)) (O1 2 5 125 .done)))
abbrev g_q11_r37:GR:=(O2 0 126 8 (O3 1 127 5 2 (O2 2 128 127 (OP 3 129 (.buildSlice 3 2 [(.int .i64 0),(.int .i64 0)] [(0,(1,(K 1))),(1,(1,(K 2)))]) (OP 4 130 (.call 86 [(.tmp 126),(.tmp 128),(.tmp 129)]) (O1 5 18 130 .done))))))
abbrev g_q11_r38:GR:=(O1 0 131 18 (OP 1 132 (.bin .geq (.tmp 131) (K 0)) .done))
abbrev g_q11_r39:GR:=(O1 0 133 18 (OP 1 4 (.mv (K 7)) (O1 2 5 133 .done)))
abbrev g_q11_r40:GR:=(O2 0 134 8 (O3 1 135 6 2 (O2 2 136 135 (OP 3 137 (.buildSlice 3 1 [(.int .i64 0)] [(0,(1,(K 2)))]) (OP 4 138 (.call 86 [(.tmp 134),(.tmp 136),(.tmp 137)]) (O1 5 19 138 .done))))))
abbrev g_q11_r41:GR:=(O1 0 139 19 (OP 1 140 (.bin .geq (.tmp 139) (K 0)) .done))
abbrev g_q11_r42:GR:=(O1 0 141 19 (OP 1 4 (.mv (K 8)) (O1 2 5 141 .done)))
abbrev g_q11_r43:GR:=(O2 0 142 8 (O3 1 143 7 2 (O2 2 144 143 (OP 3 145 (.buildSlice 3 3 [(.int .i64 0),(.int .i64 0),(.int .i64 0)] [(0,(1,(K 1))),(1,(1,(K 2))),(2,(1,(K 3)))]) (OP 4 146 (.call 86 [(.tmp 142),(.tmp 144),(.tmp 145)]) (O1 5 20 146 .done))))))
abbrev g_q11_r44:GR:=(O1 0 147 20 (OP 1 148 (.bin .geq (.tmp 147) (K 0)) .done))
abbrev g_q11_r45:GR:=(O1 0 149 20 (OP 1 4 (.mv (K 9)) (O1 2 5 149 .done)))
abbrev g_q11_r46:GR:=(OP 0 4 (.mv (K 0)) (OP 1 5 (.mv (K 0)) .done))
abbrev g_q11:GC:=(.seq (.reg g_q11_r0 [1,2,4,5]) (.seq (.seq (.reg g_q11_r1 [1,2,4,5,42]) (.cond (.tmp 42) (.seq (.reg g_q11_r2 [4,5]) .ret) .skip)) (.seq (.reg g_q11_r3 [1,2,4,5,6]) (.seq (.seq (.reg g_q11_r4 [1,2,4,5,6,44]) (.cond (.tmp 44) (.reg g_q11_r5 [1,2,4,5,6]) .skip)) (.seq (.seq (.reg g_q11_r6 [1,2,4,5,6,47,48]) (.block 0 (.loop g_q11_l13))) (.seq (.reg g_q11_r14 [2,4,5,8]) (.seq (.reg g_q11_r15 [2,4,5,8,9]) (.seq (.seq (.reg g_q11_r16 [2,4,5,8,9,73]) (.block 2 (.rng (.tmp 73) [74,75] (.seq (.reg g_q11_r17 [8,9,10,75]) (.reg g_q11_r18 [8,9,10,11])) g_q11_b24))) (.seq (.seq (.reg g_q11_r25 [2,8,14]) (.seq (.reg g_q11_r26 [2,8,14,109]) (.cond (.tmp 109) (.seq (.reg g_q11_r27 [4,5]) .ret) .skip))) (.seq (.seq (.reg g_q11_r28 [2,8,15]) (.seq (.reg g_q11_r29 [2,8,15,114]) (.cond (.tmp 114) (.seq (.reg g_q11_r30 [4,5]) .ret) .skip))) (.seq (.seq (.reg g_q11_r31 [2,8,16]) (.seq (.reg g_q11_r32 [2,8,16,119]) (.cond (.tmp 119) (.seq (.reg g_q11_r33 [4,5]) .ret) .skip))) (.seq (.seq (.reg g_q11_r34 [2,8,17]) (.seq (.reg g_q11_r35 [2,8,17,124]) (.cond (.tmp 124) (.seq (.reg g_q11_r36 [4,5]) .ret) .skip))) (.seq (.seq (.reg g_q11_r37 [2,8,18]) (.seq (.reg g_q11_r38 [2,8,18,132]) (.cond (.tmp 132) (.seq (.reg g_q11_r39 [4,5]) .ret) .skip))) (.seq (.seq (.reg g_q11_r40 [2,8,19]) (.seq (.reg g_q11_r41 [2,8,19,140]) (.cond (.tmp 140) (.seq (.reg g_q11_r42 [4,5]) .ret) .skip))) (.seq (.seq (.reg g_q11_r43 [20]) (.seq (.reg g_q11_r44 [20,148]) (.cond (.tmp 148) (.seq (.reg g_q11_r45 [4,5]) .ret) .skip))) (.seq (.reg g_q11_r46 [4,5]) .ret))))))))))))))))
abbrev rs_q11:List RV:=[(.tmp 4),(.tmp 5)]
theorem gc_q11:compileF Tryd.prog Tryd.f43 T_q11=some (g_q11,rs_q11):=by kernel_rfl
theorem con_q11 (hR:∀ v h1 h2,Ext h.size h1 h2→R v h1→R v h2) (hv:vc Tryd.prog y g_q11 (retQ rs_q11 R) [(0,a0),(1,a1)] h):ConX y Tryd.prog 43 #[a0,a1] h R:=con_of Tryd.func43 gc_q11 rfl (fun _=>hR) hv
def T_q149:List (Nat×List Nat):=[(0,[0]),(1,[0,4]),(2,[2]),(3,[2])]
abbrev g_q149_r0:GR:=(OP 0 2 (.mv (.const (.slice none 0 0))) .done)
abbrev g_q149_r1:GR:=(O1 0 3 0 (OP 1 4 (.eqNil true false (.tmp 3) (.const (.slice none 0 0))) .done))
abbrev g_q149_r2:GR:=(OP 0 2 (.mv (.const (.slice none 0 0))) .done)
abbrev g_q149_r3:GR:=(OP 0 5 (.buildSlice 36 0 [] []) (O1 1 6 0 (OP 2 7 (.append 36 5 40 [(.int .i64 0),(.int .i64 0),(.int .i64 0),(.int .u64 0),(.int .i64 0)] (.tmp 5) (.tmp 6)) (O1 3 2 7 .done))))
abbrev g_q149:GC:=(.seq (.reg g_q149_r0 [0]) (.seq (.seq (.reg g_q149_r1 [0,4]) (.cond (.tmp 4) (.seq (.reg g_q149_r2 [2]) .ret) .skip)) (.seq (.reg g_q149_r3 [2]) .ret)))
abbrev rs_q149:List RV:=[(.tmp 2)]
theorem gc_q149:compileF Tryd.prog Tryd.f44 T_q149=some (g_q149,rs_q149):=by kernel_rfl
theorem con_q149 (hv:vc Tryd.prog y g_q149 (retQ rs_q149 R) [(0,a0)] h):ConX y Tryd.prog 44 #[a0] h R:=con_of Tryd.func44 gc_q149 rfl (fun h=>absurd h (by decide)) hv
def T_q150:List (Nat×List Nat):=[(0,[0]),(1,[0,4]),(2,[2]),(3,[2])]
abbrev g_q150_r0:GR:=(OP 0 2 (.mv (.const (.slice none 0 0))) .done)
abbrev g_q150_r1:GR:=(O1 0 3 0 (OP 1 4 (.eqNil true false (.tmp 3) (.const (.slice none 0 0))) .done))
abbrev g_q150_r2:GR:=(OP 0 2 (.mv (.const (.slice none 0 0))) .done)
abbrev g_q150_r3:GR:=(OP 0 5 (.buildSlice 38 0 [] []) (O1 1 6 0 (OP 2 7 (.append 38 2 16 [(.int .i64 0),(.int .i64 0)] (.tmp 5) (.tmp 6)) (O1 3 2 7 .done))))
abbrev g_q150:GC:=(.seq (.reg g_q150_r0 [0]) (.seq (.seq (.reg g_q150_r1 [0,4]) (.cond (.tmp 4) (.seq (.reg g_q150_r2 [2]) .ret) .skip)) (.seq (.reg g_q150_r3 [2]) .ret)))
abbrev rs_q150:List RV:=[(.tmp 2)]
theorem gc_q150:compileF Tryd.prog Tryd.f45 T_q150=some (g_q150,rs_q150):=by kernel_rfl
theorem con_q150 (hv:vc Tryd.prog y g_q150 (retQ rs_q150 R) [(0,a0)] h):ConX y Tryd.prog 45 #[a0] h R:=con_of Tryd.func45 gc_q150 rfl (fun h=>absurd h (by decide)) hv
def T_q148:List (Nat×List Nat):=[(0,[0]),(1,[0,4]),(2,[2]),(3,[2])]
abbrev g_q148_r0:GR:=(OP 0 2 (.mv (.const (.slice none 0 0))) .done)
abbrev g_q148_r1:GR:=(O1 0 3 0 (OP 1 4 (.eqNil true false (.tmp 3) (.const (.slice none 0 0))) .done))
abbrev g_q148_r2:GR:=(OP 0 2 (.mv (.const (.slice none 0 0))) .done)
abbrev g_q148_r3:GR:=(OP 0 5 (.buildSlice 3 0 [] []) (O1 1 6 0 (OP 2 7 (.append 3 1 8 [(.int .i64 0)] (.tmp 5) (.tmp 6)) (O1 3 2 7 .done))))
abbrev g_q148:GC:=(.seq (.reg g_q148_r0 [0]) (.seq (.seq (.reg g_q148_r1 [0,4]) (.cond (.tmp 4) (.seq (.reg g_q148_r2 [2]) .ret) .skip)) (.seq (.reg g_q148_r3 [2]) .ret)))
abbrev rs_q148:List RV:=[(.tmp 2)]
theorem gc_q148:compileF Tryd.prog Tryd.f46 T_q148=some (g_q148,rs_q148):=by kernel_rfl
theorem con_q148 (hv:vc Tryd.prog y g_q148 (retQ rs_q148 R) [(0,a0)] h):ConX y Tryd.prog 46 #[a0] h R:=con_of Tryd.func46 gc_q148 rfl (fun h=>absurd h (by decide)) hv
def T_q142:List (Nat×List Nat):=[(0,[1]),(1,[1,3]),(2,[2]),(3,[1,12]),(4,[2]),(5,[1,16]),(6,[2]),(7,[20]),(8,[2]),(9,[2])]
abbrev g_q142_r0:GR:=(OP 0 1 (.box 36 (.tmp 0)) (OP 1 2 (.mv (K 0)) .done))
abbrev g_q142_r1:GR:=(O3 0 4 1 1 (O2 1 5 4 (OP 2 6 (.bin .eql (.tmp 5) (K 3)) (O1 3 7 6 (OG 4 8 7 true (.fieldAddr 4 (.tmp 1)) (OG 5 9 7 true (.load none (.tmp 8)) (OG 6 10 7 true (.bin .eql (.tmp 9) (K 2)) (OP 7 11 (.pick (.tmp 7) (.tmp 10) (.const (.bool false))) (O1 8 3 11 .done)))))))))
abbrev g_q142_r2:GR:=(OP 0 2 (.mv (K 14)) .done)
abbrev g_q142_r3:GR:=(O3 0 13 1 1 (O2 1 14 13 (OP 2 15 (.bin .eql (.tmp 14) (K 3)) (O1 3 12 15 .done))))
abbrev g_q142_r4:GR:=(OP 0 2 (.mv (K 15)) .done)
abbrev g_q142_r5:GR:=(O3 0 17 4 1 (O2 1 18 17 (OP 2 19 (.bin .eql (.tmp 18) (K 1)) (O1 3 16 19 .done))))
abbrev g_q142_r6:GR:=(OP 0 2 (.mv (K 11)) .done)
abbrev g_q142_r7:GR:=(O3 0 21 1 1 (O2 1 22 21 (OP 2 23 (.bin .eql (.tmp 22) (K 1)) (O1 3 20 23 .done))))
abbrev g_q142_r8:GR:=(OP 0 2 (.mv (K 12)) .done)
abbrev g_q142_r9:GR:=(OP 0 2 (.mv (K 13)) .done)
abbrev g_q142:GC:=(.seq (.reg g_q142_r0 [1]) (.seq (.block 0 (.seq (.reg g_q142_r1 [1,3]) (.cond (.tmp 3) (.seq (.reg g_q142_r2 [2]) .ret) (.seq (.reg g_q142_r3 [1,12]) (.cond (.tmp 12) (.seq (.reg g_q142_r4 [2]) .ret) (.seq (.reg g_q142_r5 [1,16]) (.cond (.tmp 16) (.seq (.reg g_q142_r6 [2]) .ret) (.seq (.reg g_q142_r7 [20]) (.cond (.tmp 20) (.seq (.reg g_q142_r8 [2]) .ret) .skip))))))))) (.seq (.reg g_q142_r9 [2]) .ret)))
abbrev rs_q142:List RV:=[(.tmp 2)]
theorem gc_q142:compileF Tryd.prog Tryd.f47 T_q142=some (g_q142,rs_q142):=by kernel_rfl
theorem con_q142 (hv:vc Tryd.prog y g_q142 (retQ rs_q142 R) [(0,a0)] h):ConX y Tryd.prog 47 #[a0] h R:=con_of Tryd.func47 gc_q142 rfl (fun h=>absurd h (by decide)) hv
def T_q14:List (Nat×List Nat):=[(0,[1,2]),(1,[1,2,5]),(2,[1,5,9,10,11]),(3,[1,5,9,10,11,12]),(4,[1,5,6,7,9,10,11]),(5,[1,5,6,9,10,11,19]),(6,[1,5,9,10,11]),(7,[1,5,9,10,11]),(8,[4])]
abbrev g_q14_r0:GR:=(OP 0 2 (.box 26 (.tmp 0)) (OP 1 4 (.mv (.const (.slice none 0 0))) .done))
abbrev g_q14_r1:GR:=(OP 0 5 (.mv (.const (.slice none 0 0))) .done)
abbrev g_q14_r2:GR:=(O3 0 8 1 2 (O2 1 9 8 (OP 2 10 (.len (.tmp 9)) (OP 3 11 (.mv (K 0)) .done))))
abbrev g_q14_r3:GR:=(O5 0 12 .lss 11 10 .done)
abbrev g_q14_r4:GR:=(O1 0 13 11 (O4 1 14 5 9 11 (OP 2 15 (.load (some 5) (.tmp 14)) (OP 3 7 (.alloc 36 [(.int .i64 0),(.int .i64 0),(.int .i64 0),(.int .u64 0),(.int .i64 0)]) (O1 4 6 13 (OS 5 (.store 5 (.tmp 7) (.tmp 15)) .done))))))
abbrev g_q14_r5:GR:=(O3 0 16 0 7 (O2 1 17 16 (O1 2 18 1 (O5 3 19 .eql 17 18 .done))))
abbrev g_q14_r6:GR:=(O1 0 20 5 (O1 1 21 6 (OP 2 22 (.buildSlice 3 1 [(.int .i64 0)] [(0,(1,(.tmp 21)))]) (OP 3 23 (.append 3 1 8 [(.int .i64 0)] (.tmp 20) (.tmp 22)) (O1 4 5 23 .done)))))
abbrev g_q14_r7:GR:=(OP 0 24 (.bin .add (.tmp 11) (K 1)) (O1 1 11 24 .done))
abbrev g_q14_l8:GC:=(.seq (.reg g_q14_r3 [1,5,9,10,11,12]) (.seq (.cond (.tmp 12) .skip (.exit 0)) (.seq (.block 1 (.seq (.reg g_q14_r4 [1,5,6,7,9,10,11]) (.seq (.reg g_q14_r5 [1,5,6,9,10,11,19]) (.cond (.tmp 19) (.reg g_q14_r6 [1,5,9,10,11]) .skip)))) (.reg g_q14_r7 [1,5,9,10,11]))))
abbrev g_q14_r9:GR:=(O1 0 25 5 (O1 1 4 25 .done))
abbrev g_q14:GC:=(.seq (.reg g_q14_r0 [1,2]) (.seq (.reg g_q14_r1 [1,2,5]) (.seq (.seq (.reg g_q14_r2 [1,5,9,10,11]) (.block 0 (.loop g_q14_l8))) (.seq (.reg g_q14_r9 [4]) .ret))))
abbrev rs_q14:List RV:=[(.tmp 4)]
theorem gc_q14:compileF Tryd.prog Tryd.f48 T_q14=some (g_q14,rs_q14):=by kernel_rfl
theorem con_q14 (hv:vc Tryd.prog y g_q14 (retQ rs_q14 R) [(0,a0),(1,a1)] h):ConX y Tryd.prog 48 #[a0,a1] h R:=con_of Tryd.func48 gc_q14 rfl (fun h=>absurd h (by decide)) hv
def T_q29:List (Nat×List Nat):=[(0,[0]),(1,[0])]
abbrev g_q29_r0:GR:=(OP 0 0 (.alloc 26 [(.int .i64 0),(.slice none 0 0),(.slice none 0 0),(.slice none 0 0),(.slice none 0 0),(.slice none 0 0),(.slice none 0 0),(.slice none 0 0)]) .done)
abbrev g_q29_r1:GR:=(OP 0 1 (.call 34 [(K 0),(K 2),(K 0),(.const (.int .u64 1)),(K 1)]) (OP 1 2 (.call 34 [(K 0),(K 1),(K 1),(.const (.int .u64 0)),(K 1)]) (OP 2 3 (.call 34 [(K 1),(K 2),(K 1),(.const (.int .u64 1)),(K 1)]) (OP 3 4 (.call 34 [(K 1),(K 1),(K 0),(.const (.int .u64 0)),(K 1)]) (OP 4 5 (.buildSlice 36 4 [(.int .i64 0),(.int .i64 0),(.int .i64 0),(.int .u64 0),(.int .i64 0),(.int .i64 0),(.int .i64 0),(.int .i64 0),(.int .u64 0),(.int .i64 0),(.int .i64 0),(.int .i64 0),(.int .i64 0),(.int .u64 0),(.int .i64 0),(.int .i64 0),(.int .i64 0),(.int .i64 0),(.int .u64 0),(.int .i64 0)] [(0,(5,(.tmp 1))),(5,(5,(.tmp 2))),(10,(5,(.tmp 3))),(15,(5,(.tmp 4)))]) (OP 5 6 (.build [(.int .i64 0),(.int .i64 0)] [(0,(1,(K 1))),(1,(1,(K 3)))]) (OP 6 7 (.build [(.int .i64 0),(.int .i64 0)] [(0,(1,(K 0))),(1,(1,(K 5)))]) (OP 7 8 (.buildSlice 38 2 [(.int .i64 0),(.int .i64 0),(.int .i64 0),(.int .i64 0)] [(0,(2,(.tmp 6))),(2,(2,(.tmp 7)))]) (OP 8 9 (.buildSlice 3 1 [(.int .i64 0)] [(0,(1,(K 2)))]) (OP 9 10 (.buildSlice 3 1 [(.int .i64 0)] [(0,(1,(K 4)))]) (OP 10 11 (.call 33 [(.tmp 5),(.tmp 8),(.tmp 9),(.tmp 10)]) (OS 11 (.store 8 (.tmp 0) (.tmp 11)) .done))))))))))))
abbrev g_q29:GC:=(.seq (.reg g_q29_r0 [0]) (.seq (.reg g_q29_r1 [0]) .ret))
abbrev rs_q29:List RV:=[(.cell 0 (some 8))]
theorem gc_q29:compileF Tryd.prog Tryd.f53 T_q29=some (g_q29,rs_q29):=by kernel_rfl
theorem con_q29 (hv:vc Tryd.prog y g_q29 (retQ rs_q29 R) [] h):ConX y Tryd.prog 53 #[] h R:=con_of Tryd.func53 gc_q29 rfl (fun h=>absurd h (by decide)) hv
def T_q12:List (Nat×List Nat):=[(0,[1,2]),(1,[1,2,18]),(2,[2,3]),(3,[1,2,4]),(4,[1,2,5,1000000]),(5,[1,2,5,53,54,55]),(6,[1,2,5,53,54,55,56]),(7,[1,2,5,6,7,53,54,55]),(8,[1,2,5,6,7,53,54,55]),(9,[1,2,5,6,7,53,54,55]),(10,[1,2,5,6,7,53,54,55]),(11,[1,2,5,6,7,53,54,55,85,86,87]),(12,[1,2,5,6,7,53,54,55,85,86,87,88]),(13,[1,2,5,6,7,8,9,53,54,55,85,86,87]),(14,[1,2,5,6,7,8,9,53,54,55,85,86,87]),(15,[1,2,5,6,7,8,9,53,54,55,85,86,87]),(16,[1,2,5,6,7,53,54,55,85,86,87]),(17,[1,2,5,6,7,53,54,55,85,86,87]),(18,[1,2,5,53,54,55]),(19,[2,5,140,141,142]),(20,[2,5,140,141,142,143]),(21,[2,5,11,140,141,142]),(22,[2,5,11,140,141,142,146,147,148]),(23,[2,5,11,140,141,142,146,147,148,149]),(24,[2,5,11,12,13,140,141,142,146,147,148]),(25,[2,5,11,13,140,141,142,146,147,148,156,157,158]),(26,[2,5,11,13,140,141,142,146,147,148,156,157,158,159]),(27,[2,5,11,13,15,140,141,142,146,147,148,156,157,158]),(28,[2,5,11,13,140,141,142,146,147,148,156,157,158]),(29,[2,5,11,13,140,141,142,146,147,148,156,157,158]),(30,[2,5,11,140,141,142,146,147,148]),(31,[2,5,140,141,142]),(32,[2,5]),(33,[2,3])]
abbrev g_q12_r0:GR:=(OP 0 1 (.box 26 (.tmp 0)) (OP 1 2 (.alloc 82 [(.pointer none),(.pointer none),(.pointer none),(.pointer none),(.pointer none),(.pointer none),(.pointer none),(.pointer none),(.pointer none),(.pointer none),(.slice none 0 0),(.slice none 0 0),(.slice none 0 0)]) (OP 2 3 (.mv (K 0)) .done)))
abbrev g_q12_r1:GR:=(OP 0 16 (.load (some 8) (.tmp 1)) (OP 1 17 (.call 69 [(.tmp 16)]) (OP 2 18 (.not (.tmp 17)) .done)))
abbrev g_q12_r2:GR:=(OP 0 19 (.build [(.pointer none),(.pointer none),(.pointer none),(.pointer none),(.pointer none),(.pointer none),(.pointer none),(.pointer none),(.pointer none),(.pointer none),(.slice none 0 0),(.slice none 0 0),(.slice none 0 0)] []) (OS 1 (.store 13 (.tmp 2) (.tmp 19)) (OP 2 3 (.mv (K 4)) .done)))
abbrev g_q12_r3:GR:=(O3 0 20 1 1 (O2 1 21 20 (OP 2 22 (.len (.tmp 21)) (O1 3 4 22 .done))))
abbrev g_q12_r4:GR:=(O1 0 23 4 (O1 2 25 4 (O3 3 26 2 1 (O6 4 27 26 (O1 6 29 4 (O1 8 31 4 (O3 9 32 4 1 (O6 10 33 32 (O1 12 35 4 (O1 14 37 4 (O1 16 39 4 (O3 17 40 5 1 (O6 18 41 40 (O1 20 43 4 (O3 21 44 6 1 (O6 22 45 44 (O1 24 47 4 (O3 25 48 7 1 (O6 26 49 48 (.free [24,28,30,34,36,38,42,46,50,51,5] [(FI.mk (GI.mk 1 (some 24) none (.call 56 [(.tmp 23)]) [] false) []),(FI.mk (GI.mk 5 (some 28) none (.call 94 [(.tmp 25),(.tmp 27)]) [] false) [(1,24)]),(FI.mk (GI.mk 7 (some 30) none (.call 56 [(.tmp 29)]) [] false) [(5,28)]),(FI.mk (GI.mk 11 (some 34) none (.call 94 [(.tmp 31),(.tmp 33)]) [] false) [(7,30)]),(FI.mk (GI.mk 13 (some 36) none (.call 56 [(.tmp 35)]) [] false) [(11,34)]),(FI.mk (GI.mk 15 (some 38) none (.call 56 [(.tmp 37)]) [] false) [(13,36)]),(FI.mk (GI.mk 19 (some 42) none (.call 94 [(.tmp 39),(.tmp 41)]) [] false) [(15,38)]),(FI.mk (GI.mk 23 (some 46) none (.call 94 [(.tmp 43),(.tmp 45)]) [] false) [(19,42)]),(FI.mk (GI.mk 27 (some 50) none (.call 94 [(.tmp 47),(.tmp 49)]) [] false) [(23,46)]),(FI.mk (GI.mk 28 (some 51) none (.build [(.pointer none),(.pointer none),(.pointer none),(.pointer none),(.pointer none),(.pointer none),(.pointer none),(.pointer none),(.pointer none),(.pointer none),(.slice none 0 0),(.slice none 0 0),(.slice none 0 0)] [(0,(1,(.tmp 24))),(1,(1,(.tmp 28))),(2,(1,(.tmp 30))),(4,(1,(.tmp 34))),(5,(1,(.tmp 36))),(6,(1,(.tmp 38))),(7,(1,(.tmp 42))),(8,(1,(.tmp 46))),(9,(1,(.tmp 50)))]) [] false) [(1,24),(5,28),(7,30),(11,34),(13,36),(15,38),(19,42),(23,46),(27,50)]),(FI.mk (GI.mk 29 (some 5) none (.alloc 82 [(.pointer none),(.pointer none),(.pointer none),(.pointer none),(.pointer none),(.pointer none),(.pointer none),(.pointer none),(.pointer none),(.pointer none),(.slice none 0 0),(.slice none 0 0),(.slice none 0 0)]) [] false) [])] (OS 30 (.store 13 (.tmp 5) (.tmp 51)) .done)))))))))))))))))))))
abbrev g_q12_r5:GR:=(O3 0 52 1 1 (O2 1 53 52 (OP 2 54 (.len (.tmp 53)) (OP 3 55 (.mv (K 0)) .done))))
abbrev g_q12_r6:GR:=(O5 0 56 .lss 55 54 .done)
abbrev g_q12_r7:GR:=(O1 0 57 55 (O4 1 58 5 53 55 (OP 2 59 (.load (some 5) (.tmp 58)) (OP 3 7 (.alloc 36 [(.int .i64 0),(.int .i64 0),(.int .i64 0),(.int .u64 0),(.int .i64 0)]) (O1 4 6 57 (OS 5 (.store 5 (.tmp 7) (.tmp 59)) .done))))))
abbrev g_q12_r8:GR:=(O3 0 60 10 5 (O2 1 61 60 (O3 2 62 1 7 (O2 3 63 62 (OP 4 64 (.bin .eql (.tmp 63) (K 1)) (OP 5 65 (.buildSlice 4 1 [(.bool false)] [(0,(1,(.tmp 64)))]) (OP 6 66 (.append 4 1 1 [(.bool false)] (.tmp 61) (.tmp 65)) (O3 7 67 10 5 (OS 8 (.store 1 (.tmp 67) (.tmp 66)) .done)))))))))
abbrev g_q12_r9:GR:=(O3 0 68 11 5 (O2 1 69 68 (O3 2 70 1 7 (O2 3 71 70 (OP 4 72 (.bin .eql (.tmp 71) (K 2)) (OP 5 73 (.buildSlice 4 1 [(.bool false)] [(0,(1,(.tmp 72)))]) (OP 6 74 (.append 4 1 1 [(.bool false)] (.tmp 69) (.tmp 73)) (O3 7 75 11 5 (OS 8 (.store 1 (.tmp 75) (.tmp 74)) .done)))))))))
abbrev g_q12_r10:GR:=(O3 0 76 12 5 (O2 1 77 76 (O3 2 78 1 7 (O2 3 79 78 (OP 4 80 (.bin .eql (.tmp 79) (K 3)) (OP 5 81 (.buildSlice 4 1 [(.bool false)] [(0,(1,(.tmp 80)))]) (OP 6 82 (.append 4 1 1 [(.bool false)] (.tmp 77) (.tmp 81)) (O3 7 83 12 5 (OS 8 (.store 1 (.tmp 83) (.tmp 82)) .done)))))))))
abbrev g_q12_r11:GR:=(O3 0 84 1 1 (O2 1 85 84 (OP 2 86 (.len (.tmp 85)) (OP 3 87 (.mv (K 0)) .done))))
abbrev g_q12_r12:GR:=(O5 0 88 .lss 87 86 .done)
abbrev g_q12_r13:GR:=(O1 0 89 87 (O4 1 90 5 85 87 (OP 2 91 (.load (some 5) (.tmp 90)) (OP 3 9 (.alloc 36 [(.int .i64 0),(.int .i64 0),(.int .i64 0),(.int .u64 0),(.int .i64 0)]) (O1 4 8 89 (OS 5 (.store 5 (.tmp 9) (.tmp 91)) .done))))))
abbrev g_q12_r14:GR:=(O3 0 92 0 5 (O2 1 93 92 (O1 2 94 6 (O1 3 95 8 (O1 4 96 6 (O1 5 97 8 (O5 6 98 .lss 96 97 (O1 7 99 98 (OG 8 100 99 true (.fieldAddr 0 (.tmp 7)) (OG 9 101 99 true (.load none (.tmp 100)) (OG 10 102 99 true (.bin .geq (.tmp 101) (K 0)) (OP 11 103 (.pick (.tmp 99) (.tmp 102) (.const (.bool false))) (O1 12 104 103 (OG 13 105 104 true (.fieldAddr 0 (.tmp 7)) (OG 14 106 104 true (.load none (.tmp 105)) (OG 15 107 104 true (.fieldAddr 0 (.tmp 9)) (OG 16 108 104 true (.load none (.tmp 107)) (OG 17 109 104 true (.bin .eql (.tmp 106) (.tmp 108)) (OP 18 110 (.pick (.tmp 104) (.tmp 109) (.const (.bool false))) (OP 19 111 (.call 95 [(.tmp 93),(.tmp 94),(.tmp 95),(.tmp 110)]) .done))))))))))))))))))))
abbrev g_q12_r15:GR:=(O3 0 112 5 5 (O2 1 113 112 (O1 2 114 6 (O1 3 115 8 (O3 4 116 2 7 (O2 5 117 116 (OP 6 118 (.bin .geq (.tmp 117) (K 0)) (O1 7 119 118 (OG 8 120 119 true (.fieldAddr 2 (.tmp 7)) (OG 9 121 119 true (.load none (.tmp 120)) (OG 10 122 119 true (.fieldAddr 2 (.tmp 9)) (OG 11 123 119 true (.load none (.tmp 122)) (OG 12 124 119 true (.bin .eql (.tmp 121) (.tmp 123)) (OP 13 125 (.pick (.tmp 119) (.tmp 124) (.const (.bool false))) (OP 14 126 (.call 95 [(.tmp 113),(.tmp 114),(.tmp 115),(.tmp 125)]) .done)))))))))))))))
abbrev g_q12_r16:GR:=(O3 0 127 6 5 (O2 1 128 127 (O1 2 129 6 (O1 3 130 8 (O3 4 131 0 7 (O2 5 132 131 (O3 6 133 0 9 (O2 7 134 133 (O5 8 135 .neq 132 134 (OP 9 136 (.call 95 [(.tmp 128),(.tmp 129),(.tmp 130),(.tmp 135)]) .done))))))))))
abbrev g_q12_r17:GR:=(OP 0 137 (.bin .add (.tmp 87) (K 1)) (O1 1 87 137 .done))
abbrev g_q12_l18:GC:=(.seq (.reg g_q12_r12 [1,2,5,6,7,53,54,55,85,86,87,88]) (.seq (.cond (.tmp 88) .skip (.exit 2)) (.seq (.block 3 (.seq (.reg g_q12_r13 [1,2,5,6,7,8,9,53,54,55,85,86,87]) (.seq (.reg g_q12_r14 [1,2,5,6,7,8,9,53,54,55,85,86,87]) (.seq (.reg g_q12_r15 [1,2,5,6,7,8,9,53,54,55,85,86,87]) (.reg g_q12_r16 [1,2,5,6,7,53,54,55,85,86,87]))))) (.reg g_q12_r17 [1,2,5,6,7,53,54,55,85,86,87]))))
abbrev g_q12_r19:GR:=(OP 0 138 (.bin .add (.tmp 55) (K 1)) (O1 1 55 138 .done))
abbrev g_q12_l20:GC:=(.seq (.reg g_q12_r6 [1,2,5,53,54,55,56]) (.seq (.cond (.tmp 56) .skip (.exit 0)) (.seq (.block 1 (.seq (.reg g_q12_r7 [1,2,5,6,7,53,54,55]) (.seq (.reg g_q12_r8 [1,2,5,6,7,53,54,55]) (.seq (.reg g_q12_r9 [1,2,5,6,7,53,54,55]) (.seq (.reg g_q12_r10 [1,2,5,6,7,53,54,55]) (.seq (.reg g_q12_r11 [1,2,5,6,7,53,54,55,85,86,87]) (.block 2 (.loop g_q12_l18)))))))) (.reg g_q12_r19 [1,2,5,53,54,55]))))
abbrev g_q12_r21:GR:=(O3 0 139 3 1 (O2 1 140 139 (OP 2 141 (.len (.tmp 140)) (OP 3 142 (.mv (K 0)) .done))))
abbrev g_q12_r22:GR:=(O5 0 143 .lss 142 141 .done)
abbrev g_q12_r23:GR:=(O4 0 144 1 140 142 (O2 1 145 144 (O1 2 11 145 .done)))
abbrev g_q12_r24:GR:=(O1 0 146 11 (OP 1 147 (.len (.tmp 146)) (OP 2 148 (.mv (K 0)) .done)))
abbrev g_q12_r25:GR:=(O5 0 149 .lss 148 147 .done)
abbrev g_q12_r26:GR:=(O1 0 150 148 (O4 1 151 1 146 148 (O2 2 152 151 (O1 3 12 150 (O1 4 13 152 .done)))))
abbrev g_q12_r27:GR:=(O1 0 153 11 (O1 1 154 12 (OP 2 155 (.bin .add (.tmp 154) (K 1)) (OP 3 156 (.slice 1 (.tmp 153) (some (.tmp 155)) none) (OP 4 157 (.len (.tmp 156)) (OP 5 158 (.mv (K 0)) .done))))))
abbrev g_q12_r28:GR:=(O5 0 159 .lss 158 157 .done)
abbrev g_q12_r29:GR:=(O4 0 160 1 156 158 (O2 1 161 160 (O1 2 15 161 .done)))
abbrev g_q12_r30:GR:=(O3 0 162 2 5 (O2 1 163 162 (O1 2 164 13 (O1 3 165 15 (OP 4 166 (.call 95 [(.tmp 163),(.tmp 164),(.tmp 165),(.const (.bool true))]) .done)))))
abbrev g_q12_r31:GR:=(OP 0 167 (.bin .add (.tmp 158) (K 1)) (O1 1 158 167 .done))
abbrev g_q12_l32:GC:=(.seq (.reg g_q12_r28 [2,5,11,13,140,141,142,146,147,148,156,157,158,159]) (.seq (.cond (.tmp 159) .skip (.exit 8)) (.seq (.block 9 (.seq (.reg g_q12_r29 [2,5,11,13,15,140,141,142,146,147,148,156,157,158]) (.reg g_q12_r30 [2,5,11,13,140,141,142,146,147,148,156,157,158]))) (.reg g_q12_r31 [2,5,11,13,140,141,142,146,147,148,156,157,158]))))
abbrev g_q12_r33:GR:=(OP 0 168 (.bin .add (.tmp 148) (K 1)) (O1 1 148 168 .done))
abbrev g_q12_l34:GC:=(.seq (.reg g_q12_r25 [2,5,11,140,141,142,146,147,148,149]) (.seq (.cond (.tmp 149) .skip (.exit 6)) (.seq (.block 7 (.seq (.reg g_q12_r26 [2,5,11,12,13,140,141,142,146,147,148]) (.seq (.reg g_q12_r27 [2,5,11,13,140,141,142,146,147,148,156,157,158]) (.block 8 (.loop g_q12_l32))))) (.reg g_q12_r33 [2,5,11,140,141,142,146,147,148]))))
abbrev g_q12_r35:GR:=(OP 0 169 (.bin .add (.tmp 142) (K 1)) (O1 1 142 169 .done))
abbrev g_q12_l36:GC:=(.seq (.reg g_q12_r22 [2,5,140,141,142,143]) (.seq (.cond (.tmp 143) .skip (.exit 4)) (.seq (.block 5 (.seq (.reg g_q12_r23 [2,5,11,140,141,142]) (.seq (.reg g_q12_r24 [2,5,11,140,141,142,146,147,148]) (.block 6 (.loop g_q12_l34))))) (.reg g_q12_r35 [2,5,140,141,142]))))
abbrev g_q12_r37:GR:=(O3 0 170 1 5 (O6 1 171 170 (O3 3 173 2 5 (O6 4 174 173 (.op (GI.mk 2 (some 172) none (.call 96 [(.tmp 171)]) [4] false) (.op (GI.mk 5 (some 175) none (.call 75 [(.tmp 172),(.tmp 174)]) [1] false) (O3 6 176 3 5 (OS 7 (.store 1 (.tmp 176) (.tmp 175)) .done))))))))
abbrev g_q12_r38:GR:=(OP 0 177 (.load (some 13) (.tmp 5)) (OS 1 (.store 13 (.tmp 2) (.tmp 177)) (OP 2 3 (.mv (K 0)) .done)))
abbrev g_q12:GC:=(.seq (.reg g_q12_r0 [1,2]) (.seq (.seq (.reg g_q12_r1 [1,2,18]) (.cond (.tmp 18) (.seq (.reg g_q12_r2 [2,3]) .ret) .skip)) (.seq (.reg g_q12_r3 [1,2,4]) (.seq (.reg g_q12_r4 [1,2,5,1000000]) (.seq (.seq (.reg g_q12_r5 [1,2,5,53,54,55]) (.block 0 (.loop g_q12_l20))) (.seq (.seq (.reg g_q12_r21 [2,5,140,141,142]) (.block 4 (.loop g_q12_l36))) (.seq (.reg g_q12_r37 [2,5]) (.seq (.reg g_q12_r38 [2,3]) .ret))))))))
abbrev rs_q12:List RV:=[(.cell 2 (some 13)),(.tmp 3)]
theorem gc_q12:compileF Tryd.prog Tryd.f54 T_q12=some (g_q12,rs_q12):=by kernel_rfl
theorem con_q12 (hv:vc Tryd.prog y g_q12 (retQ rs_q12 R) [(0,a0)] h):ConX y Tryd.prog 54 #[a0] h R:=con_of Tryd.func54 gc_q12 rfl (fun h=>absurd h (by decide)) hv
def T_q115:List (Nat×List Nat):=[(0,[0]),(1,[0]),(2,[0,3]),(3,[0,3,17,18]),(4,[0,3,17,18,19]),(5,[0,3,4,17,18]),(6,[0,3,17,18]),(7,[0,3,17,18]),(8,[2])]
abbrev g_q115_r0:GR:=(OP 0 2 (.mv (.const (.pointer none))) .done)
abbrev g_q115_r1:GR:=(O1 0 5 0 (OP 1 6 (.mini (.tmp 5) (K 256)) (OP 2 7 (.maxi (K 0) (.tmp 6)) (O1 3 0 7 .done))))
abbrev g_q115_r2:GR:=(O1 0 8 0 (O1 1 9 0 (OP 2 10 (.makeSlice 145 1 24 [(.slice none 0 0)] (.tmp 9) (.tmp 9)) (OP 3 11 (.build [(.int .i64 0),(.slice none 0 0)] [(0,(1,(.tmp 8))),(1,(1,(.tmp 10)))]) (OP 4 12 (.box 144 (.tmp 11)) (O1 5 3 12 .done))))))
abbrev g_q115_r3:GR:=(O1 0 13 3 (OP 1 14 (.nilCheck (.tmp 13)) (O3 2 15 1 14 (O2 3 16 15 (OP 4 17 (.len (.tmp 16)) (OP 5 18 (.mv (K 0)) .done))))))
abbrev g_q115_r4:GR:=(O5 0 19 .lss 18 17 .done)
abbrev g_q115_r5:GR:=(O1 0 20 18 (O1 1 4 20 .done))
abbrev g_q115_r6:GR:=(O1 0 21 3 (OP 1 22 (.nilCheck (.tmp 21)) (O3 2 23 1 22 (O6 3 24 23 (O1 4 25 4 (O1 5 26 0 (OP 6 27 (.bin .add (.tmp 26) (K 63)) (OP 7 28 (.bin .quo (.tmp 27) (K 64)) (OP 8 29 (.makeSlice 34 1 8 [(.int .u64 0)] (.tmp 28) (.tmp 28)) (O4 9 30 1 24 25 (OS 10 (.store 1 (.tmp 30) (.tmp 29)) .done)))))))))))
abbrev g_q115_r7:GR:=(OP 0 31 (.bin .add (.tmp 18) (K 1)) (O1 1 18 31 .done))
abbrev g_q115_l8:GC:=(.seq (.reg g_q115_r4 [0,3,17,18,19]) (.seq (.cond (.tmp 19) .skip (.exit 0)) (.seq (.block 1 (.seq (.reg g_q115_r5 [0,3,4,17,18]) (.reg g_q115_r6 [0,3,17,18]))) (.reg g_q115_r7 [0,3,17,18]))))
abbrev g_q115_r9:GR:=(O1 0 32 3 (O1 1 2 32 .done))
abbrev g_q115:GC:=(.seq (.reg g_q115_r0 [0]) (.seq (.reg g_q115_r1 [0]) (.seq (.reg g_q115_r2 [0,3]) (.seq (.seq (.reg g_q115_r3 [0,3,17,18]) (.block 0 (.loop g_q115_l8))) (.seq (.reg g_q115_r9 [2]) .ret)))))
abbrev rs_q115:List RV:=[(.tmp 2)]
theorem gc_q115:compileF Tryd.prog Tryd.f56 T_q115=some (g_q115,rs_q115):=by kernel_rfl
theorem con_q115 (hv:vc Tryd.prog y g_q115 (retQ rs_q115 R) [(0,a0)] h):ConX y Tryd.prog 56 #[a0] h R:=con_of Tryd.func56 gc_q115 rfl (fun h=>absurd h (by decide)) hv
def T_q128:List (Nat×List Nat):=[(0,[0]),(1,[0,3]),(2,[0,3,11,12,13]),(3,[0,3,11,12,13,14]),(4,[0,3,5,11,12,13]),(5,[0,3,11,12,13]),(6,[0,3,11,12,13]),(7,[0,6]),(8,[6,26,27,28]),(9,[6,26,27,28,29]),(10,[6,8,26,27,28]),(11,[6,26,27,28,35,36,37]),(12,[6,26,27,28,35,36,37,38]),(13,[6,9,10,26,27,28,35,36,37]),(14,[6,26,27,28,35,36,37]),(15,[6,26,27,28,35,36,37]),(16,[6,26,27,28]),(17,[2])]
abbrev g_q128_r0:GR:=(OP 0 2 (.mv (.const (.pointer none))) .done)
abbrev g_q128_r1:GR:=(OP 0 3 (.mv (K 0)) .done)
abbrev g_q128_r2:GR:=(O1 0 11 0 (OP 1 12 (.len (.tmp 11)) (OP 2 13 (.mv (K 0)) .done)))
abbrev g_q128_r3:GR:=(O5 0 14 .lss 13 12 .done)
abbrev g_q128_r4:GR:=(O4 0 15 1 11 13 (O2 1 16 15 (O1 2 5 16 .done)))
abbrev g_q128_r5:GR:=(O1 0 17 3 (O1 1 18 5 (OP 2 19 (.nilCheck (.tmp 18)) (O3 3 20 0 19 (O2 4 21 20 (OP 5 22 (.maxi (.tmp 17) (.tmp 21)) (O1 6 3 22 .done)))))))
abbrev g_q128_r6:GR:=(OP 0 23 (.bin .add (.tmp 13) (K 1)) (O1 1 13 23 .done))
abbrev g_q128_l7:GC:=(.seq (.reg g_q128_r3 [0,3,11,12,13,14]) (.seq (.cond (.tmp 14) .skip (.exit 0)) (.seq (.block 1 (.seq (.reg g_q128_r4 [0,3,5,11,12,13]) (.reg g_q128_r5 [0,3,11,12,13]))) (.reg g_q128_r6 [0,3,11,12,13]))))
abbrev g_q128_r8:GR:=(O1 0 24 3 (OP 1 25 (.call 56 [(.tmp 24)]) (O1 2 6 25 .done)))
abbrev g_q128_r9:GR:=(O1 0 26 0 (OP 1 27 (.len (.tmp 26)) (OP 2 28 (.mv (K 0)) .done)))
abbrev g_q128_r10:GR:=(O5 0 29 .lss 28 27 .done)
abbrev g_q128_r11:GR:=(O4 0 30 1 26 28 (O2 1 31 30 (O1 2 8 31 .done)))
abbrev g_q128_r12:GR:=(O1 0 32 8 (OP 1 33 (.nilCheck (.tmp 32)) (O3 2 34 1 33 (O2 3 35 34 (OP 4 36 (.len (.tmp 35)) (OP 5 37 (.mv (K 0)) .done))))))
abbrev g_q128_r13:GR:=(O5 0 38 .lss 37 36 .done)
abbrev g_q128_r14:GR:=(O1 0 39 37 (O4 1 40 1 35 37 (O2 2 41 40 (O1 3 9 39 (O1 4 10 41 .done)))))
abbrev g_q128_r15:GR:=(O1 0 42 6 (OP 1 43 (.nilCheck (.tmp 42)) (O3 2 44 1 43 (O2 3 45 44 (O1 4 46 9 (O4 5 47 1 45 46 (O2 6 48 47 (O1 7 49 10 (OP 8 50 (.buildSlice 145 1 [(.slice none 0 0)] [(0,(1,(.tmp 49)))]) (OP 9 51 (.call 100 [(.tmp 48),(.tmp 50)]) .done))))))))))
abbrev g_q128_r16:GR:=(OP 0 52 (.bin .add (.tmp 37) (K 1)) (O1 1 37 52 .done))
abbrev g_q128_l17:GC:=(.seq (.reg g_q128_r13 [6,26,27,28,35,36,37,38]) (.seq (.cond (.tmp 38) .skip (.exit 4)) (.seq (.block 5 (.seq (.reg g_q128_r14 [6,9,10,26,27,28,35,36,37]) (.reg g_q128_r15 [6,26,27,28,35,36,37]))) (.reg g_q128_r16 [6,26,27,28,35,36,37]))))
abbrev g_q128_r18:GR:=(OP 0 53 (.bin .add (.tmp 28) (K 1)) (O1 1 28 53 .done))
abbrev g_q128_l19:GC:=(.seq (.reg g_q128_r10 [6,26,27,28,29]) (.seq (.cond (.tmp 29) .skip (.exit 2)) (.seq (.block 3 (.seq (.reg g_q128_r11 [6,8,26,27,28]) (.seq (.reg g_q128_r12 [6,26,27,28,35,36,37]) (.block 4 (.loop g_q128_l17))))) (.reg g_q128_r18 [6,26,27,28]))))
abbrev g_q128_r20:GR:=(O1 0 54 6 (O1 1 2 54 .done))
abbrev g_q128:GC:=(.seq (.reg g_q128_r0 [0]) (.seq (.reg g_q128_r1 [0,3]) (.seq (.seq (.reg g_q128_r2 [0,3,11,12,13]) (.block 0 (.loop g_q128_l7))) (.seq (.reg g_q128_r8 [0,6]) (.seq (.seq (.reg g_q128_r9 [6,26,27,28]) (.block 2 (.loop g_q128_l19))) (.seq (.reg g_q128_r20 [2]) .ret))))))
abbrev rs_q128:List RV:=[(.tmp 2)]
theorem gc_q128:compileF Tryd.prog Tryd.f58 T_q128=some (g_q128,rs_q128):=by kernel_rfl
theorem con_q128 (hv:vc Tryd.prog y g_q128 (retQ rs_q128 R) [(0,a0)] h):ConX y Tryd.prog 58 #[a0] h R:=con_of Tryd.func58 gc_q128 rfl (fun h=>absurd h (by decide)) hv
def T_q140:List (Nat×List Nat):=[(0,[1,2]),(1,[2,10,11,12]),(2,[2,10,11,12,13]),(3,[2,8,10,11,12]),(4,[2,8,9,10,11,12]),(5,[2,8,9,10,11,12,22]),(6,[4,5,6]),(7,[2,10,11,12]),(8,[4,5,6])]
abbrev g_q140_r0:GR:=(OP 0 2 (.box 100 (.tmp 0)) (OP 1 4 (.mv (K 0)) (OP 2 5 (.mv (.const (.slice none 0 0))) (OP 3 6 (.mv (K 0)) .done))))
abbrev g_q140_r1:GR:=(O1 0 10 1 (OP 1 11 (.len (.tmp 10)) (OP 2 12 (.mv (K 0)) .done)))
abbrev g_q140_r2:GR:=(O5 0 13 .lss 12 11 .done)
abbrev g_q140_r3:GR:=(O4 0 14 2 10 12 (OP 1 15 (.load (some 2) (.tmp 14)) (OP 2 8 (.alloc 104 [(.int .i64 0),Value.nilFunc]) (OS 3 (.store 2 (.tmp 8) (.tmp 15)) .done))))
abbrev g_q140_r4:GR:=(O3 0 16 1 8 (O2 1 17 16 (OP 2 18 (.load (some 21) (.tmp 2)) (OP 3 19 (.callv (.tmp 17) [(.tmp 18)]) (O1 4 9 19 .done)))))
abbrev g_q140_r5:GR:=(O1 0 20 9 (OP 1 21 (.len (.tmp 20)) (OP 2 22 (.bin .gtr (.tmp 21) (K 0)) .done)))
abbrev g_q140_r6:GR:=(O3 0 23 0 8 (O2 1 24 23 (O1 2 25 9 (O1 3 4 24 (O1 4 5 25 (OP 5 6 (.mv (K 0)) .done))))))
abbrev g_q140_r7:GR:=(OP 0 26 (.bin .add (.tmp 12) (K 1)) (O1 1 12 26 .done))
abbrev g_q140_l8:GC:=(.seq (.reg g_q140_r2 [2,10,11,12,13]) (.seq (.cond (.tmp 13) .skip (.exit 0)) (.seq (.block 1 (.seq (.reg g_q140_r3 [2,8,10,11,12]) (.seq (.reg g_q140_r4 [2,8,9,10,11,12]) (.seq (.reg g_q140_r5 [2,8,9,10,11,12,22]) (.cond (.tmp 22) (.seq (.reg g_q140_r6 [4,5,6]) .ret) .skip))))) (.reg g_q140_r7 [2,10,11,12]))))
abbrev g_q140_r9:GR:=(OP 0 4 (.mv (K 0)) (OP 1 5 (.mv (.const (.slice none 0 0))) (OP 2 6 (.mv (K 0)) .done)))
abbrev g_q140:GC:=(.seq (.reg g_q140_r0 [1,2]) (.seq (.seq (.reg g_q140_r1 [2,10,11,12]) (.block 0 (.loop g_q140_l8))) (.seq (.reg g_q140_r9 [4,5,6]) .ret)))
abbrev rs_q140:List RV:=[(.tmp 4),(.tmp 5),(.tmp 6)]
theorem gc_q140:compileF Tryd.prog Tryd.f65 T_q140=some (g_q140,rs_q140):=by kernel_rfl
theorem con_q140 (hv:vc Tryd.prog y g_q140 (retQ rs_q140 R) [(0,a0),(1,a1)] h):ConX y Tryd.prog 65 #[a0,a1] h R:=con_of Tryd.func65 gc_q140 rfl (fun h=>absurd h (by decide)) hv
def T_q137:List (Nat×List Nat):=[(0,[1]),(1,[2])]
abbrev g_q137_r0:GR:=(OP 0 1 (.box 100 (.tmp 0)) (OP 1 2 (.mv (.const (.slice none 0 0))) .done))
abbrev g_q137_r1:GR:=(OP 0 3 (.load (some 21) (.tmp 1)) (O3 1 4 8 1 (O3 2 5 0 4 (O2 3 6 5 (OP 4 7 (.call 67 [(.tmp 3),(.tmp 6)]) (O1 5 2 7 .done))))))
abbrev g_q137:GC:=(.seq (.reg g_q137_r0 [1]) (.seq (.reg g_q137_r1 [2]) .ret))
abbrev rs_q137:List RV:=[(.tmp 2)]
theorem gc_q137:compileF Tryd.prog Tryd.f66 T_q137=some (g_q137,rs_q137):=by kernel_rfl
theorem con_q137 (hv:vc Tryd.prog y g_q137 (retQ rs_q137 R) [(0,a0)] h):ConX y Tryd.prog 66 #[a0] h R:=con_of Tryd.func66 gc_q137 rfl (fun h=>absurd h (by decide)) hv
def T_q143:List (Nat×List Nat):=[(0,[1,2]),(1,[4])]
abbrev g_q143_r0:GR:=(OP 0 2 (.box 100 (.tmp 0)) (OP 1 4 (.mv (.const (.slice none 0 0))) .done))
abbrev g_q143_r1:GR:=(O1 0 5 1 (O3 1 6 8 2 (O3 2 7 1 6 (O2 3 8 7 (O3 4 9 8 2 (O3 5 10 2 9 (O2 6 11 10 (O3 7 12 8 2 (O3 8 13 3 12 (O2 9 14 13 (OP 10 15 (.buildSlice 80 4 [(.pointer none),(.pointer none),(.pointer none),(.pointer none)] [(0,(1,(.tmp 5))),(1,(1,(.tmp 8))),(2,(1,(.tmp 11))),(3,(1,(.tmp 14)))]) (OP 11 16 (.call 58 [(.tmp 15)]) (OP 12 17 (.call 72 [(.tmp 16)]) (O1 13 4 17 .done))))))))))))))
abbrev g_q143:GC:=(.seq (.reg g_q143_r0 [1,2]) (.seq (.reg g_q143_r1 [4]) .ret))
abbrev rs_q143:List RV:=[(.tmp 4)]
theorem gc_q143:compileF Tryd.prog Tryd.f67 T_q143=some (g_q143,rs_q143):=by kernel_rfl
theorem con_q143 (hv:vc Tryd.prog y g_q143 (retQ rs_q143 R) [(0,a0),(1,a1)] h):ConX y Tryd.prog 67 #[a0,a1] h R:=con_of Tryd.func67 gc_q143 rfl (fun h=>absurd h (by decide)) hv
def T_q144:List (Nat×List Nat):=[(0,[1]),(1,[1,3]),(2,[3,15,16,17]),(3,[3,15,16,17,18]),(4,[3,5,15,16,17]),(5,[3,5,15,16,17,26]),(6,[2]),(7,[3,15,16,17]),(8,[2])]
abbrev g_q144_r0:GR:=(OP 0 1 (.box 100 (.tmp 0)) (OP 1 2 (.mv (.const (.slice none 0 0))) .done))
abbrev g_q144_r1:GR:=(O3 0 6 8 1 (O3 1 7 3 6 (O2 2 8 7 (O3 3 9 8 1 (O3 4 10 2 9 (O2 5 11 10 (OP 6 12 (.call 75 [(.tmp 8),(.tmp 11)]) (O1 7 3 12 .done))))))))
abbrev g_q144_r2:GR:=(O3 0 13 0 1 (O3 1 14 4 13 (O2 2 15 14 (OP 3 16 (.len (.tmp 15)) (OP 4 17 (.mv (K 0)) .done)))))
abbrev g_q144_r3:GR:=(O5 0 18 .lss 17 16 .done)
abbrev g_q144_r4:GR:=(O4 0 19 2 15 17 (OP 1 20 (.load (some 2) (.tmp 19)) (OP 2 5 (.alloc 38 [(.int .i64 0),(.int .i64 0)]) (OS 3 (.store 2 (.tmp 5) (.tmp 20)) .done))))
abbrev g_q144_r5:GR:=(O1 0 21 3 (O3 1 22 0 5 (O2 2 23 22 (O3 3 24 1 5 (O2 4 25 24 (OP 5 26 (.call 76 [(.tmp 21),(.tmp 23),(.tmp 25)]) .done))))))
abbrev g_q144_r6:GR:=(O3 0 27 0 5 (O2 1 28 27 (O3 2 29 1 5 (O2 3 30 29 (OP 4 31 (.buildSlice 3 2 [(.int .i64 0),(.int .i64 0)] [(0,(1,(.tmp 28))),(1,(1,(.tmp 30)))]) (O1 5 2 31 .done))))))
abbrev g_q144_r7:GR:=(OP 0 32 (.bin .add (.tmp 17) (K 1)) (O1 1 17 32 .done))
abbrev g_q144_l8:GC:=(.seq (.reg g_q144_r3 [3,15,16,17,18]) (.seq (.cond (.tmp 18) .skip (.exit 0)) (.seq (.block 1 (.seq (.reg g_q144_r4 [3,5,15,16,17]) (.seq (.reg g_q144_r5 [3,5,15,16,17,26]) (.cond (.tmp 26) (.seq (.reg g_q144_r6 [2]) .ret) .skip)))) (.reg g_q144_r7 [3,15,16,17]))))
abbrev g_q144_r9:GR:=(OP 0 2 (.mv (.const (.slice none 0 0))) .done)
abbrev g_q144:GC:=(.seq (.reg g_q144_r0 [1]) (.seq (.reg g_q144_r1 [1,3]) (.seq (.seq (.reg g_q144_r2 [3,15,16,17]) (.block 0 (.loop g_q144_l8))) (.seq (.reg g_q144_r9 [2]) .ret))))
abbrev rs_q144:List RV:=[(.tmp 2)]
theorem gc_q144:compileF Tryd.prog Tryd.f68 T_q144=some (g_q144,rs_q144):=by kernel_rfl
theorem con_q144 (hv:vc Tryd.prog y g_q144 (retQ rs_q144 R) [(0,a0)] h):ConX y Tryd.prog 68 #[a0] h R:=con_of Tryd.func68 gc_q144 rfl (fun h=>absurd h (by decide)) hv
def T_q16:List (Nat×List Nat):=[(0,[1]),(1,[1,3]),(2,[1,13]),(3,[2]),(4,[5]),(5,[2])]
abbrev g_q16_r0:GR:=(OP 0 1 (.box 26 (.tmp 0)) (OP 1 2 (.mv (.const (.bool false))) .done))
abbrev g_q16_r1:GR:=(OP 0 8 (.load (some 8) (.tmp 1)) (OP 1 9 (.call 43 [(.tmp 8),(.const (.bool false))]) (O1 2 7 9 (OP 3 10 (.extract 0 (.tmp 7)) (OP 4 11 (.extract 1 (.tmp 7)) (O1 5 3 10 (O1 6 4 11 .done)))))))
abbrev g_q16_r2:GR:=(O1 0 12 3 (OP 1 13 (.bin .eql (.tmp 12) (K 0)) .done))
abbrev g_q16_r3:GR:=(OP 0 2 (.mv (.const (.bool true))) .done)
abbrev g_q16_r4:GR:=(OP 0 15 (.load (some 8) (.tmp 1)) (OP 1 16 (.call 43 [(.tmp 15),(.const (.bool true))]) (O1 2 14 16 (OP 3 17 (.extract 0 (.tmp 14)) (OP 4 18 (.extract 1 (.tmp 14)) (O1 5 5 17 (O1 6 6 18 .done)))))))
abbrev g_q16_r5:GR:=(O1 0 19 5 (OP 1 20 (.bin .eql (.tmp 19) (K 0)) (O1 2 2 20 .done)))
abbrev g_q16:GC:=(.seq (.reg g_q16_r0 [1]) (.seq (.seq (.reg g_q16_r1 [1,3]) (.seq (.reg g_q16_r2 [1,13]) (.cond (.tmp 13) (.seq (.reg g_q16_r3 [2]) .ret) .skip))) (.seq (.reg g_q16_r4 [5]) (.seq (.reg g_q16_r5 [2]) .ret))))
abbrev rs_q16:List RV:=[(.tmp 2)]
theorem gc_q16:compileF Tryd.prog Tryd.f69 T_q16=some (g_q16,rs_q16):=by kernel_rfl
theorem con_q16 (hv:vc Tryd.prog y g_q16 (retQ rs_q16 R) [(0,a0)] h):ConX y Tryd.prog 69 #[a0] h R:=con_of Tryd.func69 gc_q16 rfl (fun h=>absurd h (by decide)) hv
def T_q32:List (Nat×List Nat):=[(0,[0,1]),(1,[0,1,10]),(2,[4]),(3,[0,1,5]),(4,[0,1,5,14]),(5,[0,1,5]),(6,[0,1,5,25]),(7,[4]),(8,[4])]
abbrev g_q32_r0:GR:=(OP 0 4 (.mv (.const (.bool false))) .done)
abbrev g_q32_r1:GR:=(O1 0 6 0 (OP 1 7 (.len (.tmp 6)) (O1 2 8 1 (OP 3 9 (.len (.tmp 8)) (O5 4 10 .neq 7 9 .done)))))
abbrev g_q32_r2:GR:=(OP 0 4 (.mv (.const (.bool false))) .done)
abbrev g_q32_r3:GR:=(OP 0 5 (.mv (K 0)) .done)
abbrev g_q32_r4:GR:=(O1 0 11 5 (O1 1 12 0 (OP 2 13 (.len (.tmp 12)) (O5 3 14 .lss 11 13 .done))))
abbrev g_q32_r5:GR:=(O1 0 17 0 (O1 1 18 5 (O4 2 19 1 17 18 (O6 3 20 19 (O1 4 21 1 (O1 5 22 5 (O4 6 23 1 21 22 (O6 7 24 23 (O5 8 25 .neq 20 24 .done)))))))))
abbrev g_q32_r6:GR:=(OP 0 4 (.mv (.const (.bool false))) .done)
abbrev g_q32_r7:GR:=(O1 0 15 5 (OP 1 16 (.bin .add (.tmp 15) (K 1)) (O1 2 5 16 .done)))
abbrev g_q32_l8:GC:=(.seq (.seq (.reg g_q32_r4 [0,1,5,14]) (.cond (.tmp 14) .skip (.exit 0))) (.seq (.block 1 (.seq (.reg g_q32_r5 [0,1,5,25]) (.cond (.tmp 25) (.seq (.reg g_q32_r6 [4]) .ret) .skip))) (.reg g_q32_r7 [0,1,5])))
abbrev g_q32_r9:GR:=(OP 0 4 (.mv (.const (.bool true))) .done)
abbrev g_q32:GC:=(.seq (.reg g_q32_r0 [0,1]) (.seq (.seq (.reg g_q32_r1 [0,1,10]) (.cond (.tmp 10) (.seq (.reg g_q32_r2 [4]) .ret) .skip)) (.seq (.seq (.reg g_q32_r3 [0,1,5]) (.block 0 (.loop g_q32_l8))) (.seq (.reg g_q32_r9 [4]) .ret))))
abbrev rs_q32:List RV:=[(.tmp 4)]
theorem gc_q32:compileF Tryd.prog Tryd.f70 T_q32=some (g_q32,rs_q32):=by kernel_rfl
theorem con_q32 (hv:vc Tryd.prog y g_q32 (retQ rs_q32 R) [(0,a0),(1,a1)] h):ConX y Tryd.prog 70 #[a0,a1] h R:=con_of Tryd.func70 gc_q32 rfl (fun h=>absurd h (by decide)) hv
def T_q2:List (Nat×List Nat):=[(0,[1]),(1,[1,4]),(2,[1,15]),(3,[2,3]),(4,[1,6,7]),(5,[1,6,7,22]),(6,[2,3]),(7,[6,8]),(8,[6,8]),(9,[6,8]),(10,[8]),(11,[8]),(12,[2,3])]
abbrev g_q2_r0:GR:=(OP 0 1 (.box 26 (.tmp 0)) (OP 1 2 (.mv (.const (.pointer none))) (OP 2 3 (.mv (K 0)) .done)))
abbrev g_q2_r1:GR:=(OP 0 10 (.load (some 8) (.tmp 1)) (OP 1 11 (.call 43 [(.tmp 10),(.const (.bool true))]) (O1 2 9 11 (OP 3 12 (.extract 0 (.tmp 9)) (OP 4 13 (.extract 1 (.tmp 9)) (O1 5 4 12 (O1 6 5 13 .done)))))))
abbrev g_q2_r2:GR:=(O1 0 14 4 (OP 1 15 (.bin .neq (.tmp 14) (K 0)) .done))
abbrev g_q2_r3:GR:=(OP 0 2 (.mv (.const (.pointer none))) (OP 1 3 (.mv (K 4)) .done))
abbrev g_q2_r4:GR:=(OP 0 17 (.load (some 8) (.tmp 1)) (OP 1 18 (.call 54 [(.tmp 17)]) (O1 2 16 18 (OP 3 19 (.extract 0 (.tmp 16)) (OP 4 20 (.extract 1 (.tmp 16)) (OP 5 6 (.alloc 82 [(.pointer none),(.pointer none),(.pointer none),(.pointer none),(.pointer none),(.pointer none),(.pointer none),(.pointer none),(.pointer none),(.pointer none),(.slice none 0 0),(.slice none 0 0),(.slice none 0 0)]) (OS 6 (.store 13 (.tmp 6) (.tmp 19)) (O1 7 7 20 .done))))))))
abbrev g_q2_r5:GR:=(O1 0 21 7 (OP 1 22 (.bin .neq (.tmp 21) (K 0)) .done))
abbrev g_q2_r6:GR:=(O1 0 23 7 (OP 1 2 (.mv (.const (.pointer none))) (O1 2 3 23 .done)))
abbrev g_q2_r7:GR:=(OP 0 24 (.load (some 8) (.tmp 1)) (OP 1 25 (.load (some 13) (.tmp 6)) (OP 2 26 (.build [(.int .i64 0),(.slice none 0 0),(.slice none 0 0),(.slice none 0 0),(.slice none 0 0),(.slice none 0 0),(.slice none 0 0),(.slice none 0 0),(.pointer none),(.pointer none),(.pointer none),(.pointer none),(.pointer none),(.pointer none),(.pointer none),(.pointer none),(.pointer none),(.pointer none),(.slice none 0 0),(.slice none 0 0),(.slice none 0 0),(.pointer none),(.pointer none),(.pointer none),(.pointer none),(.pointer none),(.pointer none)] [(0,(8,(.tmp 24))),(8,(13,(.tmp 25)))]) (OP 3 27 (.box 111 (.tmp 26)) (O1 4 8 27 .done)))))
abbrev g_q2_r8:GR:=(O1 0 28 8 (O1 1 29 8 (O3 2 30 1 6 (O6 3 31 30 (O3 4 32 6 6 (O6 5 33 32 (O3 7 35 1 6 (O6 8 36 35 (O3 9 37 6 6 (O6 10 38 37 (.op (GI.mk 6 (some 34) none (.call 73 [(.tmp 31),(.tmp 33)]) [8,10] false) (.op (GI.mk 11 (some 39) none (.call 108 [(.tmp 36),(.tmp 38)]) [3,5] false) (OP 12 40 (.nilCheck (.tmp 28)) (O3 13 41 21 40 (.op (GI.mk 14 none none (.store 1 (.tmp 41) (.tmp 34)) [8,10] false) (OP 15 42 (.nilCheck (.tmp 29)) (O3 16 43 22 42 (OS 17 (.store 1 (.tmp 43) (.tmp 39)) .done))))))))))))))))))
abbrev g_q2_r9:GR:=(O1 0 44 8 (O1 1 45 8 (O3 2 46 2 6 (O6 3 47 46 (O3 4 48 6 6 (O6 5 49 48 (O3 7 51 2 6 (O6 8 52 51 (O3 9 53 6 6 (O6 10 54 53 (.op (GI.mk 6 (some 50) none (.call 73 [(.tmp 47),(.tmp 49)]) [8,10] false) (.op (GI.mk 11 (some 55) none (.call 108 [(.tmp 52),(.tmp 54)]) [3,5] false) (OP 12 56 (.nilCheck (.tmp 44)) (O3 13 57 23 56 (.op (GI.mk 14 none none (.store 1 (.tmp 57) (.tmp 50)) [8,10] false) (OP 15 58 (.nilCheck (.tmp 45)) (O3 16 59 24 58 (OS 17 (.store 1 (.tmp 59) (.tmp 55)) .done))))))))))))))))))
abbrev g_q2_r10:GR:=(O1 0 60 8 (O3 1 61 3 6 (O2 2 62 61 (O3 3 63 6 6 (O2 4 64 63 (OP 5 65 (.call 73 [(.tmp 62),(.tmp 64)]) (OP 6 66 (.nilCheck (.tmp 60)) (O3 7 67 25 66 (OS 8 (.store 1 (.tmp 67) (.tmp 65)) .done)))))))))
abbrev g_q2_r11:GR:=(O1 0 68 8 (O1 1 69 8 (OP 2 70 (.call 109 [(.tmp 69),(K 12)]) (O1 3 71 8 (OP 4 72 (.call 109 [(.tmp 71),(K 16)]) (OP 5 73 (.buildSlice 80 2 [(.pointer none),(.pointer none)] [(0,(1,(.tmp 70))),(1,(1,(.tmp 72)))]) (OP 6 74 (.call 58 [(.tmp 73)]) (OP 7 75 (.nilCheck (.tmp 68)) (O3 8 76 26 75 (OS 9 (.store 1 (.tmp 76) (.tmp 74)) .done))))))))))
abbrev g_q2_r12:GR:=(O1 0 77 8 (O1 1 2 77 (OP 2 3 (.mv (K 0)) .done)))
abbrev g_q2:GC:=(.seq (.reg g_q2_r0 [1]) (.seq (.seq (.reg g_q2_r1 [1,4]) (.seq (.reg g_q2_r2 [1,15]) (.cond (.tmp 15) (.seq (.reg g_q2_r3 [2,3]) .ret) .skip))) (.seq (.reg g_q2_r4 [1,6,7]) (.seq (.seq (.reg g_q2_r5 [1,6,7,22]) (.cond (.tmp 22) (.seq (.reg g_q2_r6 [2,3]) .ret) .skip)) (.seq (.reg g_q2_r7 [6,8]) (.seq (.reg g_q2_r8 [6,8]) (.seq (.reg g_q2_r9 [6,8]) (.seq (.reg g_q2_r10 [8]) (.seq (.reg g_q2_r11 [8]) (.seq (.reg g_q2_r12 [2,3]) .ret))))))))))
abbrev rs_q2:List RV:=[(.tmp 2),(.tmp 3)]
theorem gc_q2:compileF Tryd.prog Tryd.f71 T_q2=some (g_q2,rs_q2):=by kernel_rfl
theorem con_q2 (hv:vc Tryd.prog y g_q2 (retQ rs_q2 R) [(0,a0)] h):ConX y Tryd.prog 71 #[a0] h R:=con_of Tryd.func71 gc_q2 rfl (fun h=>absurd h (by decide)) hv
def T_q110:List (Nat×List Nat):=[(0,[0]),(1,[0,3]),(2,[0,3,10,11]),(3,[0,3,10,11,12]),(4,[0,3,4,10,11]),(5,[0,3,4,10,11,22]),(6,[2]),(7,[0,3,10,11]),(8,[2])]
abbrev g_q110_r0:GR:=(OP 0 2 (.mv (.const (.slice none 0 0))) .done)
abbrev g_q110_r1:GR:=(O1 0 5 0 (OP 1 6 (.call 110 [(.tmp 5)]) (O1 2 3 6 .done)))
abbrev g_q110_r2:GR:=(O1 0 7 0 (OP 1 8 (.nilCheck (.tmp 7)) (O3 2 9 0 8 (O2 3 10 9 (OP 4 11 (.mv (K 0)) .done)))))
abbrev g_q110_r3:GR:=(O5 0 12 .lss 11 10 .done)
abbrev g_q110_r4:GR:=(O1 0 13 11 (O1 1 4 13 .done))
abbrev g_q110_r5:GR:=(O1 0 14 3 (OP 1 15 (.nilCheck (.tmp 14)) (O3 2 16 1 15 (O2 3 17 16 (O1 4 18 4 (O4 5 19 1 17 18 (O2 6 20 19 (O1 7 21 4 (OP 8 22 (.call 111 [(.tmp 20),(.tmp 21)]) .done)))))))))
abbrev g_q110_r6:GR:=(O1 0 23 0 (O1 1 24 4 (OP 2 25 (.call 112 [(.tmp 23),(.tmp 24)]) (O1 3 2 25 .done))))
abbrev g_q110_r7:GR:=(OP 0 26 (.bin .add (.tmp 11) (K 1)) (O1 1 11 26 .done))
abbrev g_q110_l8:GC:=(.seq (.reg g_q110_r3 [0,3,10,11,12]) (.seq (.cond (.tmp 12) .skip (.exit 0)) (.seq (.block 1 (.seq (.reg g_q110_r4 [0,3,4,10,11]) (.seq (.reg g_q110_r5 [0,3,4,10,11,22]) (.cond (.tmp 22) (.seq (.reg g_q110_r6 [2]) .ret) .skip)))) (.reg g_q110_r7 [0,3,10,11]))))
abbrev g_q110_r9:GR:=(OP 0 2 (.mv (.const (.slice none 0 0))) .done)
abbrev g_q110:GC:=(.seq (.reg g_q110_r0 [0]) (.seq (.reg g_q110_r1 [0,3]) (.seq (.seq (.reg g_q110_r2 [0,3,10,11]) (.block 0 (.loop g_q110_l8))) (.seq (.reg g_q110_r9 [2]) .ret))))
abbrev rs_q110:List RV:=[(.tmp 2)]
theorem gc_q110:compileF Tryd.prog Tryd.f72 T_q110=some (g_q110,rs_q110):=by kernel_rfl
theorem con_q110 (hv:vc Tryd.prog y g_q110 (retQ rs_q110 R) [(0,a0)] h):ConX y Tryd.prog 72 #[a0] h R:=con_of Tryd.func72 gc_q110 rfl (fun h=>absurd h (by decide)) hv
def T_q112:List (Nat×List Nat):=[(0,[0,1]),(1,[4])]
abbrev g_q112_r0:GR:=(OP 0 4 (.mv (.const (.pointer none))) .done)
abbrev g_q112_r1:GR:=(O1 0 5 0 (O1 1 6 1 (OP 2 7 (.call 113 [(.tmp 5),(.tmp 6),(.const (.bool true))]) (O1 3 4 7 .done))))
abbrev g_q112:GC:=(.seq (.reg g_q112_r0 [0,1]) (.seq (.reg g_q112_r1 [4]) .ret))
abbrev rs_q112:List RV:=[(.tmp 4)]
theorem gc_q112:compileF Tryd.prog Tryd.f73 T_q112=some (g_q112,rs_q112):=by kernel_rfl
theorem con_q112 (hv:vc Tryd.prog y g_q112 (retQ rs_q112 R) [(0,a0),(1,a1)] h):ConX y Tryd.prog 73 #[a0,a1] h R:=con_of Tryd.func73 gc_q112 rfl (fun h=>absurd h (by decide)) hv
def T_q6:List (Nat×List Nat):=[(0,[0,2]),(1,[0,2,3]),(2,[0,2,3,4]),(3,[2,3,4]),(4,[2,3,32,33,34]),(5,[2,3,32,33,34,35]),(6,[2,3,6,32,33,34]),(7,[2,3,6,32,33,34]),(8,[2,3,32,33,34]),(9,[2,3,32,33,34]),(10,[2])]
abbrev g_q6_r0:GR:=(OP 0 2 (.alloc 113 [(.pointer none),(.pointer none),(.pointer none),(.pointer none),(.pointer none)]) .done)
abbrev g_q6_r1:GR:=(OP 0 3 (.alloc 113 [(.pointer none),(.pointer none),(.pointer none),(.pointer none),(.pointer none)]) .done)
abbrev g_q6_r2:GR:=(O3 0 7 0 3 (O1 1 8 0 (OP 2 9 (.makeFunc (Fn.func 114) [(.tmp 8)] []) (OP 3 10 (.build [(.pointer none),Value.nilFunc] [(0,(1,(.tmp 7))),(1,(1,(.tmp 9)))]) (O3 4 11 1 3 (O1 5 12 0 (OP 6 13 (.makeFunc (Fn.func 115) [(.tmp 12)] []) (OP 7 14 (.build [(.pointer none),Value.nilFunc] [(0,(1,(.tmp 11))),(1,(1,(.tmp 13)))]) (O3 8 15 2 3 (O1 9 16 0 (OP 10 17 (.makeFunc (Fn.func 116) [(.tmp 16)] []) (OP 11 18 (.build [(.pointer none),Value.nilFunc] [(0,(1,(.tmp 15))),(1,(1,(.tmp 17)))]) (O3 12 19 3 3 (O1 13 20 0 (OP 14 21 (.makeFunc (Fn.func 117) [(.tmp 20)] []) (OP 15 22 (.build [(.pointer none),Value.nilFunc] [(0,(1,(.tmp 19))),(1,(1,(.tmp 21)))]) (OP 16 23 (.buildSlice 162 4 [(.pointer none),Value.nilFunc,(.pointer none),Value.nilFunc,(.pointer none),Value.nilFunc,(.pointer none),Value.nilFunc] [(0,(2,(.tmp 10))),(2,(2,(.tmp 14))),(4,(2,(.tmp 18))),(6,(2,(.tmp 22)))]) (O1 17 4 23 .done))))))))))))))))))
abbrev g_q6_r3:GR:=(O1 0 24 0 (OP 1 25 (.nilCheck (.tmp 24)) (O3 2 26 0 25 (O3 3 27 1 26 (O2 4 28 27 (OP 5 29 (.len (.tmp 28)) (OP 6 30 (.call 56 [(.tmp 29)]) (O3 7 31 4 3 (OS 8 (.store 1 (.tmp 31) (.tmp 30)) .done)))))))))
abbrev g_q6_r4:GR:=(O1 0 32 4 (OP 1 33 (.len (.tmp 32)) (OP 2 34 (.mv (K 0)) .done)))
abbrev g_q6_r5:GR:=(O5 0 35 .lss 34 33 .done)
abbrev g_q6_r6:GR:=(O4 0 36 2 32 34 (OP 1 37 (.load (some 2) (.tmp 36)) (OP 2 6 (.alloc 162 [(.pointer none),Value.nilFunc]) (OS 3 (.store 2 (.tmp 6) (.tmp 37)) .done))))
abbrev g_q6_r7:GR:=(O3 0 38 0 6 (O6 1 39 38 (O3 2 40 1 6 (O6 3 41 40 (.op (GI.mk 4 (some 42) none (.callv (.tmp 41) []) [1] false) (OP 5 43 (.nilCheck (.tmp 39)) (OS 6 (.store 1 (.tmp 43) (.tmp 42)) .done)))))))
abbrev g_q6_r8:GR:=(O3 0 44 4 3 (O6 1 45 44 (O3 2 46 0 6 (O6 3 47 46 (OP 4 48 (.nilCheck (.tmp 47)) (O6 5 49 48 (OP 6 50 (.buildSlice 80 2 [(.pointer none),(.pointer none)] [(0,(1,(.tmp 45))),(1,(1,(.tmp 49)))]) (.op (GI.mk 7 (some 51) none (.call 58 [(.tmp 50)]) [1,3,5] false) (O3 8 52 4 3 (OS 9 (.store 1 (.tmp 52) (.tmp 51)) .done))))))))))
abbrev g_q6_r9:GR:=(OP 0 53 (.bin .add (.tmp 34) (K 1)) (O1 1 34 53 .done))
abbrev g_q6_l10:GC:=(.seq (.reg g_q6_r5 [2,3,32,33,34,35]) (.seq (.cond (.tmp 35) .skip (.exit 0)) (.seq (.block 1 (.seq (.reg g_q6_r6 [2,3,6,32,33,34]) (.seq (.reg g_q6_r7 [2,3,6,32,33,34]) (.reg g_q6_r8 [2,3,32,33,34])))) (.reg g_q6_r9 [2,3,32,33,34]))))
abbrev g_q6_r11:GR:=(OP 0 54 (.load (some 5) (.tmp 3)) (OS 1 (.store 5 (.tmp 2) (.tmp 54)) .done))
abbrev g_q6:GC:=(.seq (.reg g_q6_r0 [0,2]) (.seq (.reg g_q6_r1 [0,2,3]) (.seq (.reg g_q6_r2 [0,2,3,4]) (.seq (.reg g_q6_r3 [2,3,4]) (.seq (.seq (.reg g_q6_r4 [2,3,32,33,34]) (.block 0 (.loop g_q6_l10))) (.seq (.reg g_q6_r11 [2]) .ret))))))
abbrev rs_q6:List RV:=[(.cell 2 (some 5))]
theorem gc_q6:compileF Tryd.prog Tryd.f74 T_q6=some (g_q6,rs_q6):=by kernel_rfl
theorem con_q6 (hv:vc Tryd.prog y g_q6 (retQ rs_q6 R) [(0,a0)] h):ConX y Tryd.prog 74 #[a0] h R:=con_of Tryd.func74 gc_q6 rfl (fun h=>absurd h (by decide)) hv
def T_q108:List (Nat×List Nat):=[(0,[0,3,4]),(1,[0,3,4,5]),(2,[3,4,5,22,23,24]),(3,[3,4,5,22,23,24,25]),(4,[3,4,5,6,7,22,23,24]),(5,[3,4,5,6,22,23,24,30]),(6,[3,5,6,8]),(7,[3,5,6,8,37]),(8,[]),(9,[3,4,5,22,23,24]),(10,[4])]
abbrev g_q108_r0:GR:=(OP 0 3 (.box 80 (.tmp 1)) (OP 1 4 (.mv (.const (.pointer none))) .done))
abbrev g_q108_r1:GR:=(O1 0 9 0 (OP 1 10 (.nilCheck (.tmp 9)) (O3 2 11 0 10 (O6 3 12 11 (O6 4 13 3 (OP 5 14 (.nilCheck (.tmp 13)) (O3 6 15 0 14 (O6 7 16 15 (OP 8 17 (.maxi (.tmp 12) (.tmp 16)) (.two (.op (GI.mk 9 (some 18) none (.call 56 [(.tmp 17)]) [3,4,7] false) (OP 10 5 (.alloc 80 [(.pointer none)]) (OS 11 (.store 1 (.tmp 5) (.tmp 18)) .done))) (OP 10 5 (.alloc 80 [(.pointer none)]) (.op (GI.mk 9 (some 18) none (.call 56 [(.tmp 17)]) [3,4,7] false) (OS 11 (.store 1 (.tmp 5) (.tmp 18)) .done)))))))))))))
abbrev g_q108_r2:GR:=(O1 0 19 0 (OP 1 20 (.nilCheck (.tmp 19)) (O3 2 21 1 20 (O2 3 22 21 (OP 4 23 (.len (.tmp 22)) (OP 5 24 (.mv (K 0)) .done))))))
abbrev g_q108_r3:GR:=(O5 0 25 .lss 24 23 .done)
abbrev g_q108_r4:GR:=(O1 0 26 24 (O4 1 27 1 22 24 (O2 2 28 27 (OP 3 6 (.alloc 3 [(.int .i64 0)]) (OS 4 (.store 1 (.tmp 6) (.tmp 26)) (O1 5 7 28 .done))))))
abbrev g_q108_r5:GR:=(O1 0 29 7 (OP 1 30 (.call 118 [(.tmp 29)]) .done))
abbrev g_q108_r6:GR:=(O1 0 8 31 .done)
abbrev g_q108_r7:GR:=(O1 0 32 8 (O2 1 33 3 (OP 2 34 (.nilCheck (.tmp 33)) (O3 3 35 0 34 (O2 4 36 35 (O5 5 37 .lss 32 36 .done))))))
abbrev g_q108_r8:GR:=(O6 0 38 5 (OP 1 39 (.nilCheck (.tmp 38)) (O3 2 40 1 39 (O6 3 41 40 (O6 4 42 6 (O4 5 43 1 41 42 (O6 6 44 43 (O6 7 45 3 (OP 8 46 (.nilCheck (.tmp 45)) (O3 9 47 1 46 (O6 10 48 47 (O1 11 49 8 (O4 12 50 1 48 49 (O6 13 51 50 (OP 14 52 (.buildSlice 145 1 [(.slice none 0 0)] [(0,(1,(.tmp 51)))]) (.op (GI.mk 15 (some 53) none (.call 100 [(.tmp 44),(.tmp 52)]) [0,3,4,7,10,13] false) .done))))))))))))))))
abbrev g_q108_b9:GC:=(.block 3 (.seq (.reg g_q108_r7 [3,5,6,8,37]) (.cond (.tmp 37) (.reg g_q108_r8 []) .skip)))
abbrev g_q108_r10:GR:=(OP 0 54 (.bin .add (.tmp 24) (K 1)) (O1 1 24 54 .done))
abbrev g_q108_l11:GC:=(.seq (.reg g_q108_r3 [3,4,5,22,23,24,25]) (.seq (.cond (.tmp 25) .skip (.exit 0)) (.seq (.block 1 (.seq (.reg g_q108_r4 [3,4,5,6,7,22,23,24]) (.seq (.reg g_q108_r5 [3,4,5,6,22,23,24,30]) (.block 2 (.rng (.tmp 30) [31] (.reg g_q108_r6 [3,5,6,8]) g_q108_b9))))) (.reg g_q108_r10 [3,4,5,22,23,24]))))
abbrev g_q108_r12:GR:=(O2 0 55 5 (O1 1 4 55 .done))
abbrev g_q108:GC:=(.seq (.reg g_q108_r0 [0,3,4]) (.seq (.reg g_q108_r1 [0,3,4,5]) (.seq (.seq (.reg g_q108_r2 [3,4,5,22,23,24]) (.block 0 (.loop g_q108_l11))) (.seq (.reg g_q108_r12 [4]) .ret))))
abbrev rs_q108:List RV:=[(.tmp 4)]
theorem gc_q108:compileF Tryd.prog Tryd.f75 T_q108=some (g_q108,rs_q108):=by kernel_rfl
theorem con_q108 (hR:∀ v h1 h2,Ext h.size h1 h2→R v h1→R v h2) (hv:vc Tryd.prog y g_q108 (retQ rs_q108 R) [(0,a0),(1,a1)] h):ConX y Tryd.prog 75 #[a0,a1] h R:=con_of Tryd.func75 gc_q108 rfl (fun _=>hR) hv
def T_q120:List (Nat×List Nat):=[(0,[0,1,2]),(1,[6])]
abbrev g_q120_r0:GR:=(OP 0 6 (.mv (.const (.bool false))) .done)
abbrev g_q120_r1:GR:=(O1 0 7 0 (O1 1 8 1 (O1 2 9 2 (OP 3 10 (.call 119 [(.tmp 7),(.tmp 8),(.tmp 9)]) (O1 4 11 10 (OG 5 12 11 true (.mv (.tmp 0)) (OG 6 13 11 true (.nilCheck (.tmp 12)) (OG 7 14 11 true (.fieldAddr 1 (.tmp 13)) (OG 8 15 11 true (.load none (.tmp 14)) (OG 9 16 11 true (.mv (.tmp 1)) (OG 10 17 11 true (.indexAddr 1 (.tmp 15) (.tmp 16)) (OG 11 18 11 true (.load none (.tmp 17)) (OG 12 19 11 true (.mv (.tmp 2)) (OG 13 20 11 true (.call 111 [(.tmp 18),(.tmp 19)]) (OP 14 21 (.pick (.tmp 11) (.tmp 20) (.const (.bool false))) (O1 15 6 21 .done))))))))))))))))
abbrev g_q120:GC:=(.seq (.reg g_q120_r0 [0,1,2]) (.seq (.reg g_q120_r1 [6]) .ret))
abbrev rs_q120:List RV:=[(.tmp 6)]
theorem gc_q120:compileF Tryd.prog Tryd.f76 T_q120=some (g_q120,rs_q120):=by kernel_rfl
theorem con_q120 (hv:vc Tryd.prog y g_q120 (retQ rs_q120 R) [(0,a0),(1,a1),(2,a2)] h):ConX y Tryd.prog 76 #[a0,a1,a2] h R:=con_of Tryd.func76 gc_q120 rfl (fun h=>absurd h (by decide)) hv
def T_q139:List (Nat×List Nat):=[(0,[1]),(1,[2])]
abbrev g_q139_r0:GR:=(OP 0 1 (.box 100 (.tmp 0)) (OP 1 2 (.mv (.const (.slice none 0 0))) .done))
abbrev g_q139_r1:GR:=(OW 0 3 (.load (some 21) (.tmp 1)) (O3 1 4 8 1 (O3 2 5 0 4 (O6 3 6 5 (O3 4 7 8 1 (O3 5 8 5 7 (O6 6 9 8 (.op (GI.mk 7 (some 10) none (.call 73 [(.tmp 6),(.tmp 9)]) [0] false) (.op (GI.mk 8 (some 11) none (.call 67 [(.tmp 3),(.tmp 10)]) [3,6] false) (O1 9 2 11 .done))))))))))
abbrev g_q139:GC:=(.seq (.reg g_q139_r0 [1]) (.seq (.reg g_q139_r1 [2]) .ret))
abbrev rs_q139:List RV:=[(.tmp 2)]
theorem gc_q139:compileF Tryd.prog Tryd.f77 T_q139=some (g_q139,rs_q139):=by kernel_rfl
theorem con_q139 (hv:vc Tryd.prog y g_q139 (retQ rs_q139 R) [(0,a0)] h):ConX y Tryd.prog 77 #[a0] h R:=con_of Tryd.func77 gc_q139 rfl (fun h=>absurd h (by decide)) hv
def T_q141:List (Nat×List Nat):=[(0,[1]),(1,[1,3]),(2,[1,3,4]),(3,[1,3,4,5]),(4,[1,3,4,5,23,24]),(5,[1,3,4,5,23,24,25]),(6,[1,3,4,5,6,23,24]),(7,[1,3,4,5,6,23,24]),(8,[1,3,4,5,23,24]),(9,[1,3,4,5,23,24]),(10,[1,3,4,5,7]),(11,[1,3,4,5,7,57,58,59]),(12,[1,3,4,5,7,57,58,59,60]),(13,[1,3,4,5,7,9,57,58,59]),(14,[1,3,4,5,7,57,58,59]),(15,[1,3,4,5,7,57,58,59]),(16,[1,5,10,11]),(17,[1,12]),(18,[2])]
abbrev g_q141_r0:GR:=(OP 0 1 (.box 100 (.tmp 0)) (OP 1 2 (.mv (.const (.slice none 0 0))) .done))
abbrev g_q141_r1:GR:=(O3 0 13 0 1 (O3 1 14 1 13 (O2 2 15 14 (OP 3 16 (.len (.tmp 15)) (O1 4 3 16 .done)))))
abbrev g_q141_r2:GR:=(O3 0 17 0 1 (OP 1 18 (.load (some 8) (.tmp 17)) (OP 2 19 (.buildSlice 3 2 [(.int .i64 0),(.int .i64 0)] [(0,(1,(K 5))),(1,(1,(K 15)))]) (OP 3 20 (.call 120 [(.tmp 18),(.tmp 19)]) (O1 4 4 20 .done)))))
abbrev g_q141_r3:GR:=(O1 0 21 3 (OP 1 22 (.makeSlice 4 1 1 [(.bool false)] (.tmp 21) (.tmp 21)) (O1 2 5 22 .done)))
abbrev g_q141_r4:GR:=(O1 0 23 3 (OP 1 24 (.mv (K 0)) .done))
abbrev g_q141_r5:GR:=(O5 0 25 .lss 24 23 .done)
abbrev g_q141_r6:GR:=(O1 0 26 24 (O1 1 6 26 .done))
abbrev g_q141_r7:GR:=(O1 0 27 4 (O1 1 28 6 (O1 2 29 4 (O1 3 30 6 (O4 4 31 1 29 30 (O2 5 32 31 (O1 6 33 32 (OG 7 34 33 true (.fieldAddr 8 (.tmp 1)) (OG 8 35 33 true (.fieldAddr 12 (.tmp 34)) (OG 9 36 33 true (.load none (.tmp 35)) (OG 10 37 33 true (.mv (.tmp 6)) (OG 11 38 33 true (.indexAddr 1 (.tmp 36) (.tmp 37)) (OG 12 39 33 true (.load none (.tmp 38)) (OP 13 40 (.pick (.tmp 33) (.tmp 39) (.const (.bool false))) (O4 14 41 1 27 28 (OS 15 (.store 1 (.tmp 41) (.tmp 40)) .done))))))))))))))))
abbrev g_q141_r8:GR:=(O1 0 42 5 (O1 1 43 6 (O3 2 44 8 1 (O3 3 45 12 44 (O2 4 46 45 (O1 5 47 6 (O4 6 48 1 46 47 (O2 7 49 48 (OP 8 50 (.not (.tmp 49)) (O4 9 51 1 42 43 (OS 10 (.store 1 (.tmp 51) (.tmp 50)) .done)))))))))))
abbrev g_q141_r9:GR:=(OP 0 52 (.bin .add (.tmp 24) (K 1)) (O1 1 24 52 .done))
abbrev g_q141_l10:GC:=(.seq (.reg g_q141_r5 [1,3,4,5,23,24,25]) (.seq (.cond (.tmp 25) .skip (.exit 0)) (.seq (.block 1 (.seq (.reg g_q141_r6 [1,3,4,5,6,23,24]) (.seq (.reg g_q141_r7 [1,3,4,5,6,23,24]) (.reg g_q141_r8 [1,3,4,5,23,24])))) (.reg g_q141_r9 [1,3,4,5,23,24]))))
abbrev g_q141_r11:GR:=(O1 0 53 3 (OP 1 54 (.makeSlice 4 1 1 [(.bool false)] (.tmp 53) (.tmp 53)) (O1 2 7 54 .done)))
abbrev g_q141_r12:GR:=(O3 0 55 0 1 (O3 1 56 4 55 (O2 2 57 56 (OP 3 58 (.len (.tmp 57)) (OP 4 59 (.mv (K 0)) .done)))))
abbrev g_q141_r13:GR:=(O5 0 60 .lss 59 58 .done)
abbrev g_q141_r14:GR:=(O4 0 61 2 57 59 (OP 1 62 (.load (some 2) (.tmp 61)) (OP 2 9 (.alloc 38 [(.int .i64 0),(.int .i64 0)]) (OS 3 (.store 2 (.tmp 9) (.tmp 62)) .done))))
abbrev g_q141_r15:GR:=(O1 0 63 7 (O3 1 64 0 9 (O6 2 65 64 (O1 3 66 7 (O3 4 67 1 9 (O6 5 68 67 (O4 6 69 1 63 65 (.op (GI.mk 7 none none (.store 1 (.tmp 69) (.const (.bool true))) [5] false) (O4 8 70 1 66 68 (OS 9 (.store 1 (.tmp 70) (.const (.bool true))) .done))))))))))
abbrev g_q141_r16:GR:=(OP 0 71 (.bin .add (.tmp 59) (K 1)) (O1 1 59 71 .done))
abbrev g_q141_l17:GC:=(.seq (.reg g_q141_r13 [1,3,4,5,7,57,58,59,60]) (.seq (.cond (.tmp 60) .skip (.exit 2)) (.seq (.block 3 (.seq (.reg g_q141_r14 [1,3,4,5,7,9,57,58,59]) (.reg g_q141_r15 [1,3,4,5,7,57,58,59]))) (.reg g_q141_r16 [1,3,4,5,7,57,58,59]))))
abbrev g_q141_r18:GR:=(O1 0 72 3 (O1 1 73 4 (OP 2 74 (.call 121 [(.tmp 72),(.tmp 73)]) (O1 3 75 3 (O1 4 76 7 (OP 5 77 (.call 121 [(.tmp 75),(.tmp 76)]) (O1 6 10 74 (O1 7 11 77 .done))))))))
abbrev g_q141_r19:GR:=(O3 0 78 8 1 (O3 1 79 0 78 (O6 2 80 79 (O3 3 81 8 1 (O3 4 82 10 81 (O6 5 83 82 (O1 6 84 5 (O3 8 86 8 1 (O3 9 87 0 86 (O6 10 88 87 (O1 11 89 5 (O3 12 90 8 1 (O3 13 91 11 90 (O6 14 92 91 (O3 16 94 8 1 (O3 17 95 0 94 (O6 18 96 95 (O1 19 97 10 (O3 21 99 8 1 (O3 22 100 0 99 (O6 23 101 100 (O3 25 103 8 1 (O3 26 104 0 103 (O6 27 105 104 (O1 28 106 11 (O1 30 108 11 (O3 31 109 8 1 (O3 32 110 0 109 (O6 33 111 110 (.op (GI.mk 7 (some 85) none (.call 122 [(.tmp 80),(.tmp 83),(.tmp 84)]) [10,14,18,23,27,33] false) (.op (GI.mk 15 (some 93) none (.call 122 [(.tmp 88),(.tmp 89),(.tmp 92)]) [2,5,18,23,27,33] false) (.op (GI.mk 20 (some 98) none (.call 75 [(.tmp 96),(.tmp 97)]) [2,5,10,14,23,27,33] false) (.op (GI.mk 24 (some 102) none (.call 75 [(.tmp 98),(.tmp 101)]) [2,5,10,14,18,27,33] false) (.op (GI.mk 29 (some 107) none (.call 75 [(.tmp 105),(.tmp 106)]) [2,5,10,14,18,23,33] false) (.op (GI.mk 34 (some 112) none (.call 75 [(.tmp 108),(.tmp 111)]) [2,5,10,14,18,23,27] false) (OP 35 113 (.buildSlice 80 5 [(.pointer none),(.pointer none),(.pointer none),(.pointer none),(.pointer none)] [(0,(1,(.tmp 85))),(1,(1,(.tmp 93))),(2,(1,(.tmp 102))),(3,(1,(.tmp 107))),(4,(1,(.tmp 112)))]) (O1 36 12 113 .done)))))))))))))))))))))))))))))))))))))
abbrev g_q141_r20:GR:=(O1 0 114 12 (O3 1 115 8 1 (O3 2 116 1 115 (O6 3 117 116 (O3 4 118 8 1 (O3 5 119 6 118 (O6 6 120 119 (O3 8 122 8 1 (O3 9 123 2 122 (O6 10 124 123 (O3 11 125 8 1 (O3 12 126 3 125 (O6 13 127 126 (.op (GI.mk 7 (some 121) none (.call 73 [(.tmp 117),(.tmp 120)]) [10,13] false) (OP 14 128 (.buildSlice 80 3 [(.pointer none),(.pointer none),(.pointer none)] [(0,(1,(.tmp 121))),(1,(1,(.tmp 124))),(2,(1,(.tmp 127)))]) (OP 15 129 (.buildSlice 150 2 [(.slice none 0 0),(.slice none 0 0)] [(0,(1,(.tmp 114))),(1,(1,(.tmp 128)))]) (.op (GI.mk 16 (some 130) none (.call 123 [(.tmp 129)]) [3,6,10,13] false) (.op (GI.mk 17 (some 131) none (.call 58 [(.tmp 130)]) [3,6,10,13] false) (.op (GI.mk 18 (some 132) none (.call 72 [(.tmp 131)]) [3,6,10,13] false) (O1 19 2 132 .done))))))))))))))))))))
abbrev g_q141:GC:=(.seq (.reg g_q141_r0 [1]) (.seq (.reg g_q141_r1 [1,3]) (.seq (.reg g_q141_r2 [1,3,4]) (.seq (.reg g_q141_r3 [1,3,4,5]) (.seq (.seq (.reg g_q141_r4 [1,3,4,5,23,24]) (.block 0 (.loop g_q141_l10))) (.seq (.reg g_q141_r11 [1,3,4,5,7]) (.seq (.seq (.reg g_q141_r12 [1,3,4,5,7,57,58,59]) (.block 2 (.loop g_q141_l17))) (.seq (.reg g_q141_r18 [1,5,10,11]) (.seq (.reg g_q141_r19 [1,12]) (.seq (.reg g_q141_r20 [2]) .ret))))))))))
abbrev rs_q141:List RV:=[(.tmp 2)]
theorem gc_q141:compileF Tryd.prog Tryd.f78 T_q141=some (g_q141,rs_q141):=by kernel_rfl
theorem con_q141 (hv:vc Tryd.prog y g_q141 (retQ rs_q141 R) [(0,a0)] h):ConX y Tryd.prog 78 #[a0] h R:=con_of Tryd.func78 gc_q141 rfl (fun h=>absurd h (by decide)) hv
def T_q61:List (Nat×List Nat):=[(0,[1]),(1,[1,4]),(2,[1,24]),(3,[2,3]),(4,[1,6,7]),(5,[1,6,7,31]),(6,[2,3]),(7,[6,8]),(8,[6,8,9,10,11]),(9,[6,8,9,10,11,12,1000000]),(10,[6,8,9,10,11,12,13,1000000]),(11,[6,8,9,10,11,12,13,14,15]),(12,[6,8,9,10,11,12,13,14,15,16]),(13,[6,8,10,11,12,13,14,15,16]),(14,[6,8,14,15,16,1000000]),(15,[6,8,14,15,16]),(16,[6,8,14,15,16]),(17,[6,8,14,15,16,17]),(18,[8,14,15,16]),(19,[8,15,16,1000000]),(20,[8]),(21,[2,3])]
abbrev g_q61_r0:GR:=(OP 0 1 (.box 26 (.tmp 0)) (OP 1 2 (.mv (.const (.pointer none))) (OP 2 3 (.mv (K 0)) .done)))
abbrev g_q61_r1:GR:=(OP 0 19 (.load (some 8) (.tmp 1)) (OP 1 20 (.call 43 [(.tmp 19),(.const (.bool false))]) (O1 2 18 20 (OP 3 21 (.extract 0 (.tmp 18)) (OP 4 22 (.extract 1 (.tmp 18)) (O1 5 4 21 (O1 6 5 22 .done)))))))
abbrev g_q61_r2:GR:=(O1 0 23 4 (OP 1 24 (.bin .neq (.tmp 23) (K 0)) .done))
abbrev g_q61_r3:GR:=(OP 0 2 (.mv (.const (.pointer none))) (OP 1 3 (.mv (K 4)) .done))
abbrev g_q61_r4:GR:=(OP 0 26 (.load (some 8) (.tmp 1)) (OP 1 27 (.call 54 [(.tmp 26)]) (O1 2 25 27 (OP 3 28 (.extract 0 (.tmp 25)) (OP 4 29 (.extract 1 (.tmp 25)) (OP 5 6 (.alloc 82 [(.pointer none),(.pointer none),(.pointer none),(.pointer none),(.pointer none),(.pointer none),(.pointer none),(.pointer none),(.pointer none),(.pointer none),(.slice none 0 0),(.slice none 0 0),(.slice none 0 0)]) (OS 6 (.store 13 (.tmp 6) (.tmp 28)) (O1 7 7 29 .done))))))))
abbrev g_q61_r5:GR:=(O1 0 30 7 (OP 1 31 (.bin .neq (.tmp 30) (K 0)) .done))
abbrev g_q61_r6:GR:=(O1 0 32 7 (OP 1 2 (.mv (.const (.pointer none))) (O1 2 3 32 .done)))
abbrev g_q61_r7:GR:=(OP 0 33 (.load (some 8) (.tmp 1)) (OP 1 34 (.load (some 13) (.tmp 6)) (OP 2 35 (.build [(.int .i64 0),(.slice none 0 0),(.slice none 0 0),(.slice none 0 0),(.slice none 0 0),(.slice none 0 0),(.slice none 0 0),(.slice none 0 0),(.pointer none),(.pointer none),(.pointer none),(.pointer none),(.pointer none),(.pointer none),(.pointer none),(.pointer none),(.pointer none),(.pointer none),(.slice none 0 0),(.slice none 0 0),(.slice none 0 0),(.pointer none),(.pointer none),(.pointer none),(.pointer none),(.pointer none),(.pointer none),(.pointer none)] [(0,(8,(.tmp 33))),(8,(13,(.tmp 34)))]) (OP 3 36 (.box 174 (.tmp 35)) (O1 4 8 36 .done)))))
abbrev g_q61_r8:GR:=(O1 0 37 8 (O3 1 38 11 6 (O6 2 39 38 (O1 4 41 8 (O3 5 42 10 6 (O6 6 43 42 (O1 8 45 8 (O3 9 46 12 6 (O6 10 47 46 (.op (GI.mk 3 (some 40) none (.call 124 [(.tmp 37),(.tmp 39),(.const (.slice none 0 0))]) [6,10] false) (.op (GI.mk 7 (some 44) none (.call 124 [(.tmp 41),(.tmp 43),(.const (.slice none 0 0))]) [2,10] false) (.op (GI.mk 11 (some 48) none (.call 124 [(.tmp 45),(.tmp 47),(.const (.slice none 0 0))]) [2,6] false) (O1 12 9 40 (O1 13 10 44 (O1 14 11 48 .done)))))))))))))))
abbrev g_q61_r9:GR:=(O1 0 49 8 (O3 1 50 11 6 (O6 2 51 50 (O1 5 54 8 (O3 6 55 12 6 (O6 7 56 55 (.free [52,53,57,58,59,60,12] [(FI.mk (GI.mk 3 (some 52) none (.buildSlice 3 3 [(.int .i64 0),(.int .i64 0),(.int .i64 0)] [(0,(1,(K 3))),(1,(1,(K 4))),(2,(1,(K 5)))]) [] false) []),(FI.mk (GI.mk 4 (some 53) none (.call 124 [(.tmp 49),(.tmp 51),(.tmp 52)]) [] false) [(3,52)]),(FI.mk (GI.mk 8 (some 57) none (.buildSlice 3 3 [(.int .i64 0),(.int .i64 0),(.int .i64 0)] [(0,(1,(K 3))),(1,(1,(K 4))),(2,(1,(K 5)))]) [] false) []),(FI.mk (GI.mk 9 (some 58) none (.call 124 [(.tmp 54),(.tmp 56),(.tmp 57)]) [] false) [(8,57),(4,53)]),(FI.mk (GI.mk 10 (some 59) none (.buildSlice 80 2 [(.pointer none),(.pointer none)] [(0,(1,(.tmp 53))),(1,(1,(.tmp 58)))]) [] false) [(4,53),(9,58)]),(FI.mk (GI.mk 11 (some 60) none (.call 58 [(.tmp 59)]) [] false) [(10,59),(9,58)]),(FI.mk (GI.mk 12 (some 12) none (.mv (.tmp 60)) [] false) [(3,52),(4,53),(8,57),(9,58),(10,59),(11,60)])] .done)))))))
abbrev g_q61_r10:GR:=(O1 0 61 8 (O3 1 62 10 6 (O6 2 63 62 (O1 5 66 8 (O3 6 67 12 6 (O6 7 68 67 (.free [64,65,69,70,71,72,13] [(FI.mk (GI.mk 3 (some 64) none (.buildSlice 3 3 [(.int .i64 0),(.int .i64 0),(.int .i64 0)] [(0,(1,(K 2))),(1,(1,(K 4))),(2,(1,(K 5)))]) [] false) []),(FI.mk (GI.mk 4 (some 65) none (.call 124 [(.tmp 61),(.tmp 63),(.tmp 64)]) [] false) [(3,64)]),(FI.mk (GI.mk 8 (some 69) none (.buildSlice 3 3 [(.int .i64 0),(.int .i64 0),(.int .i64 0)] [(0,(1,(K 2))),(1,(1,(K 4))),(2,(1,(K 5)))]) [] false) []),(FI.mk (GI.mk 9 (some 70) none (.call 124 [(.tmp 66),(.tmp 68),(.tmp 69)]) [] false) [(8,69),(4,65)]),(FI.mk (GI.mk 10 (some 71) none (.buildSlice 80 2 [(.pointer none),(.pointer none)] [(0,(1,(.tmp 65))),(1,(1,(.tmp 70)))]) [] false) [(4,65),(9,70)]),(FI.mk (GI.mk 11 (some 72) none (.call 58 [(.tmp 71)]) [] false) [(10,71),(9,70)]),(FI.mk (GI.mk 12 (some 13) none (.mv (.tmp 72)) [] false) [(3,64),(4,65),(8,69),(9,70),(10,71),(11,72)])] .done)))))))
abbrev g_q61_r11:GR:=(O1 0 73 8 (O3 1 74 11 6 (O6 2 75 74 (O1 5 78 8 (O3 6 79 10 6 (O6 7 80 79 (O1 12 85 8 (O3 13 86 12 6 (O6 14 87 86 (.free [76,77,81,82,83,84,88,89,14,15] [(FI.mk (GI.mk 3 (some 76) none (.buildSlice 3 1 [(.int .i64 0)] [(0,(1,(K 5)))]) [] false) []),(FI.mk (GI.mk 4 (some 77) none (.call 124 [(.tmp 73),(.tmp 75),(.tmp 76)]) [] false) [(3,76)]),(FI.mk (GI.mk 8 (some 81) none (.buildSlice 3 1 [(.int .i64 0)] [(0,(1,(K 5)))]) [] false) []),(FI.mk (GI.mk 9 (some 82) none (.call 124 [(.tmp 78),(.tmp 80),(.tmp 81)]) [] false) [(8,81),(4,77)]),(FI.mk (GI.mk 10 (some 83) none (.buildSlice 80 2 [(.pointer none),(.pointer none)] [(0,(1,(.tmp 77))),(1,(1,(.tmp 82)))]) [] false) [(4,77),(9,82)]),(FI.mk (GI.mk 11 (some 84) none (.call 58 [(.tmp 83)]) [] false) [(10,83),(9,82)]),(FI.mk (GI.mk 15 (some 88) none (.buildSlice 3 1 [(.int .i64 0)] [(0,(1,(K 5)))]) [] false) []),(FI.mk (GI.mk 16 (some 89) none (.call 124 [(.tmp 85),(.tmp 87),(.tmp 88)]) [] false) [(15,88),(11,84)]),(FI.mk (GI.mk 17 (some 14) none (.mv (.tmp 84)) [] false) [(16,89),(3,76),(4,77),(8,81),(9,82),(10,83),(11,84)]),(FI.mk (GI.mk 18 (some 15) none (.mv (.tmp 89)) [] false) [(3,76),(4,77),(8,81),(9,82),(10,83),(11,84),(15,88),(16,89),(17,14)])] .done))))))))))
abbrev g_q61_r12:GR:=(O1 0 90 8 (OP 1 91 (.nilCheck (.tmp 90)) (O3 2 92 21 91 (O1 3 16 92 .done))))
abbrev g_q61_r13:GR:=(O1 0 93 16 (O1 1 94 9 (O3 2 95 0 6 (O6 3 96 95 (O3 4 97 5 6 (O6 5 98 97 (O1 8 101 9 (O3 9 102 1 6 (O6 10 103 102 (O3 11 104 4 6 (O6 12 105 104 (.op (GI.mk 6 (some 99) none (.call 73 [(.tmp 96),(.tmp 98)]) [10,12] false) (.op (GI.mk 7 (some 100) none (.call 126 [(.tmp 99)]) [3,5,10,12] false) (.op (GI.mk 13 (some 106) none (.call 75 [(.tmp 103),(.tmp 105)]) [3,5] false) (.op (GI.mk 14 (some 107) none (.call 127 [(.tmp 106)]) [3,5,10,12] false) (OP 15 108 (.buildSlice 80 3 [(.pointer none),(.pointer none),(.pointer none)] [(0,(1,(.tmp 100))),(1,(1,(.tmp 101))),(2,(1,(.tmp 107)))]) (.op (GI.mk 16 (some 109) none (.call 125 [(.tmp 94),(.tmp 108)]) [3,5,10,12] false) (OP 17 110 (.nilCheck (.tmp 93)) (O3 18 111 0 110 (OS 19 (.store 1 (.tmp 111) (.tmp 109)) .done))))))))))))))))))))
abbrev g_q61_r14:GR:=(O1 0 112 16 (O1 1 113 12 (O1 2 114 11 (O3 3 115 0 6 (O6 4 116 115 (O1 8 120 16 (OP 9 121 (.nilCheck (.tmp 120)) (O3 10 122 0 121 (O6 11 123 122 (O3 12 124 1 6 (O6 13 125 124 (O1 14 126 10 (O3 15 127 0 6 (O6 16 128 127 (O1 17 129 11 (O1 21 133 13 (.free [117,118,119,130,131,132,134,135,136,137] [(FI.mk (GI.mk 5 (some 117) none (.buildSlice 80 1 [(.pointer none)] [(0,(1,(.tmp 116)))]) [] false) []),(FI.mk (GI.mk 6 (some 118) none (.call 125 [(.tmp 114),(.tmp 117)]) [] false) [(5,117)]),(FI.mk (GI.mk 7 (some 119) none (.call 126 [(.tmp 118)]) [] false) [(6,118)]),(FI.mk (GI.mk 18 (some 130) none (.buildSlice 80 1 [(.pointer none)] [(0,(1,(.tmp 129)))]) [] false) []),(FI.mk (GI.mk 19 (some 131) none (.call 125 [(.tmp 128),(.tmp 130)]) [] false) [(18,130),(7,119)]),(FI.mk (GI.mk 20 (some 132) none (.call 126 [(.tmp 131)]) [] false) [(19,131)]),(FI.mk (GI.mk 22 (some 134) none (.buildSlice 80 6 [(.pointer none),(.pointer none),(.pointer none),(.pointer none),(.pointer none),(.pointer none)] [(0,(1,(.tmp 119))),(1,(1,(.tmp 123))),(2,(1,(.tmp 125))),(3,(1,(.tmp 126))),(4,(1,(.tmp 132))),(5,(1,(.tmp 133)))]) [] false) [(7,119),(20,132)]),(FI.mk (GI.mk 23 (some 135) none (.call 125 [(.tmp 113),(.tmp 134)]) [] false) [(22,134),(20,132)]),(FI.mk (GI.mk 24 (some 136) none (.nilCheck (.tmp 112)) [] false) [(5,117),(6,118),(7,119),(18,130),(19,131),(20,132),(22,134),(23,135)]),(FI.mk (GI.mk 25 (some 137) none (.fieldAddr 1 (.tmp 136)) [] false) [(24,136),(5,117),(6,118),(7,119),(18,130),(19,131),(20,132),(22,134),(23,135)])] (OS 26 (.store 1 (.tmp 137) (.tmp 135)) .done))))))))))))))))))
abbrev g_q61_r15:GR:=(O1 0 138 16 (O3 1 139 0 6 (O6 2 140 139 (O1 3 141 16 (OP 4 142 (.nilCheck (.tmp 141)) (O3 5 143 1 142 (O6 6 144 143 (OP 7 145 (.buildSlice 80 2 [(.pointer none),(.pointer none)] [(0,(1,(.tmp 140))),(1,(1,(.tmp 144)))]) (.op (GI.mk 8 (some 146) none (.call 58 [(.tmp 145)]) [2,6] false) (.op (GI.mk 9 (some 147) none (.call 110 [(.tmp 146)]) [2,6] false) (OP 10 148 (.nilCheck (.tmp 138)) (O3 11 149 2 148 (OS 12 (.store 1 (.tmp 149) (.tmp 147)) .done)))))))))))))
abbrev g_q61_r16:GR:=(O1 0 150 16 (O3 1 151 1 6 (O2 2 152 151 (O3 3 153 2 6 (O2 4 154 153 (O3 5 155 3 6 (O2 6 156 155 (OP 7 157 (.buildSlice 80 3 [(.pointer none),(.pointer none),(.pointer none)] [(0,(1,(.tmp 152))),(1,(1,(.tmp 154))),(2,(1,(.tmp 156)))]) (OP 8 158 (.call 58 [(.tmp 157)]) (OP 9 159 (.call 110 [(.tmp 158)]) (OP 10 160 (.nilCheck (.tmp 150)) (O3 11 161 3 160 (OS 12 (.store 1 (.tmp 161) (.tmp 159)) .done)))))))))))))
abbrev g_q61_r17:GR:=(O3 0 162 0 6 (O2 1 163 162 (O3 2 164 5 6 (O2 3 165 164 (OP 4 166 (.call 108 [(.tmp 163),(.tmp 165)]) (O1 5 17 166 .done))))))
abbrev g_q61_r18:GR:=(O1 0 167 16 (O3 1 168 0 6 (O6 2 169 168 (O1 3 170 17 (O1 4 171 16 (OP 5 172 (.nilCheck (.tmp 171)) (O3 6 173 2 172 (O6 7 174 173 (O1 8 175 17 (O1 11 178 16 (OP 12 179 (.nilCheck (.tmp 178)) (O3 13 180 2 179 (O6 14 181 180 (O3 15 182 5 6 (O6 16 183 182 (O3 18 185 2 6 (O6 19 186 185 (O3 20 187 3 6 (O6 21 188 187 (OP 9 176 (.buildSlice 80 2 [(.pointer none),(.pointer none)] [(0,(1,(.tmp 174))),(1,(1,(.tmp 175)))]) (.op (GI.mk 10 (some 177) none (.call 125 [(.tmp 170),(.tmp 176)]) [2,7,14,16,19,21] false) (.op (GI.mk 17 (some 184) none (.call 73 [(.tmp 181),(.tmp 183)]) [2,7,19,21] false) (OP 22 189 (.buildSlice 80 5 [(.pointer none),(.pointer none),(.pointer none),(.pointer none),(.pointer none)] [(0,(1,(.tmp 169))),(1,(1,(.tmp 177))),(2,(1,(.tmp 184))),(3,(1,(.tmp 186))),(4,(1,(.tmp 188)))]) (.op (GI.mk 23 (some 190) none (.call 58 [(.tmp 189)]) [2,7,14,16,19,21] false) (OP 24 191 (.nilCheck (.tmp 167)) (O3 25 192 4 191 (OS 26 (.store 1 (.tmp 192) (.tmp 190)) .done)))))))))))))))))))))))))))
abbrev g_q61_r19:GR:=(O1 0 193 16 (O1 1 194 14 (O1 2 195 15 (O1 3 196 16 (OP 4 197 (.nilCheck (.tmp 196)) (O3 5 198 2 197 (O6 6 199 198 (O1 12 205 16 (OP 13 206 (.nilCheck (.tmp 205)) (O3 14 207 4 206 (O6 15 208 207 (O1 16 209 14 (O1 17 210 16 (OP 18 211 (.nilCheck (.tmp 210)) (O3 19 212 2 211 (O6 20 213 212 (O1 22 215 15 (.free [200,201,202,203,204,214,216,217,218,219,220,221,222,223] [(FI.mk (GI.mk 7 (some 200) none (.call 126 [(.tmp 199)]) [] false) []),(FI.mk (GI.mk 8 (some 201) none (.buildSlice 80 1 [(.pointer none)] [(0,(1,(.tmp 200)))]) [] false) [(7,200)]),(FI.mk (GI.mk 9 (some 202) none (.call 125 [(.tmp 195),(.tmp 201)]) [] false) [(8,201),(7,200)]),(FI.mk (GI.mk 10 (some 203) none (.buildSlice 80 2 [(.pointer none),(.pointer none)] [(0,(1,(.tmp 194))),(1,(1,(.tmp 202)))]) [] false) [(9,202)]),(FI.mk (GI.mk 11 (some 204) none (.call 58 [(.tmp 203)]) [] false) [(10,203),(9,202)]),(FI.mk (GI.mk 21 (some 214) none (.call 126 [(.tmp 213)]) [] false) [(11,204)]),(FI.mk (GI.mk 23 (some 216) none (.buildSlice 80 1 [(.pointer none)] [(0,(1,(.tmp 215)))]) [] false) []),(FI.mk (GI.mk 24 (some 217) none (.call 125 [(.tmp 214),(.tmp 216)]) [] false) [(23,216),(21,214)]),(FI.mk (GI.mk 25 (some 218) none (.buildSlice 80 2 [(.pointer none),(.pointer none)] [(0,(1,(.tmp 209))),(1,(1,(.tmp 217)))]) [] false) [(24,217)]),(FI.mk (GI.mk 26 (some 219) none (.call 58 [(.tmp 218)]) [] false) [(25,218),(24,217)]),(FI.mk (GI.mk 27 (some 220) none (.buildSlice 80 2 [(.pointer none),(.pointer none)] [(0,(1,(.tmp 208))),(1,(1,(.tmp 219)))]) [] false) [(26,219)]),(FI.mk (GI.mk 28 (some 221) none (.call 125 [(.tmp 204),(.tmp 220)]) [] false) [(11,204),(27,220),(26,219)]),(FI.mk (GI.mk 29 (some 222) none (.nilCheck (.tmp 193)) [] false) [(7,200),(8,201),(9,202),(10,203),(11,204),(21,214),(23,216),(24,217),(25,218),(26,219),(27,220),(28,221)]),(FI.mk (GI.mk 30 (some 223) none (.fieldAddr 5 (.tmp 222)) [] false) [(29,222),(7,200),(8,201),(9,202),(10,203),(11,204),(21,214),(23,216),(24,217),(25,218),(26,219),(27,220),(28,221)])] (OS 31 (.store 1 (.tmp 223) (.tmp 221)) .done)))))))))))))))))))
abbrev g_q61_r20:GR:=(O1 0 224 16 (O1 1 225 15 (O1 2 226 16 (OP 3 227 (.nilCheck (.tmp 226)) (O3 4 228 2 227 (O6 5 229 228 (O1 6 230 16 (OP 7 231 (.nilCheck (.tmp 230)) (O3 8 232 2 231 (O6 9 233 232 (O1 10 234 16 (OP 11 235 (.nilCheck (.tmp 234)) (O3 12 236 3 235 (O6 13 237 236 (O1 14 238 16 (OP 15 239 (.nilCheck (.tmp 238)) (O3 16 240 2 239 (O6 17 241 240 (O1 22 246 15 (OP 18 242 (.buildSlice 80 2 [(.pointer none),(.pointer none)] [(0,(1,(.tmp 237))),(1,(1,(.tmp 241)))]) (.op (GI.mk 19 (some 243) none (.call 125 [(.tmp 233),(.tmp 242)]) [5,13,17] false) (OP 20 244 (.buildSlice 80 2 [(.pointer none),(.pointer none)] [(0,(1,(.tmp 229))),(1,(1,(.tmp 243)))]) (.op (GI.mk 21 (some 245) none (.call 58 [(.tmp 244)]) [5,9,13,17] false) (OP 23 247 (.buildSlice 80 2 [(.pointer none),(.pointer none)] [(0,(1,(.tmp 245))),(1,(1,(.tmp 246)))]) (.op (GI.mk 24 (some 248) none (.call 125 [(.tmp 225),(.tmp 247)]) [5,9,13,17] false) (OP 25 249 (.nilCheck (.tmp 224)) (O3 26 250 6 249 (OS 27 (.store 1 (.tmp 250) (.tmp 248)) .done))))))))))))))))))))))))))))
abbrev g_q61_r21:GR:=(O1 0 251 8 (O1 1 2 251 (OP 2 3 (.mv (K 0)) .done)))
abbrev g_q61:GC:=(.seq (.reg g_q61_r0 [1]) (.seq (.seq (.reg g_q61_r1 [1,4]) (.seq (.reg g_q61_r2 [1,24]) (.cond (.tmp 24) (.seq (.reg g_q61_r3 [2,3]) .ret) .skip))) (.seq (.reg g_q61_r4 [1,6,7]) (.seq (.seq (.reg g_q61_r5 [1,6,7,31]) (.cond (.tmp 31) (.seq (.reg g_q61_r6 [2,3]) .ret) .skip)) (.seq (.reg g_q61_r7 [6,8]) (.seq (.reg g_q61_r8 [6,8,9,10,11]) (.seq (.reg g_q61_r9 [6,8,9,10,11,12,1000000]) (.seq (.reg g_q61_r10 [6,8,9,10,11,12,13,1000000]) (.seq (.reg g_q61_r11 [6,8,9,10,11,12,13,14,15]) (.seq (.reg g_q61_r12 [6,8,9,10,11,12,13,14,15,16]) (.seq (.reg g_q61_r13 [6,8,10,11,12,13,14,15,16]) (.seq (.reg g_q61_r14 [6,8,14,15,16,1000000]) (.seq (.reg g_q61_r15 [6,8,14,15,16]) (.seq (.reg g_q61_r16 [6,8,14,15,16]) (.seq (.reg g_q61_r17 [6,8,14,15,16,17]) (.seq (.reg g_q61_r18 [8,14,15,16]) (.seq (.reg g_q61_r19 [8,15,16,1000000]) (.seq (.reg g_q61_r20 [8]) (.seq (.reg g_q61_r21 [2,3]) .ret)))))))))))))))))))
abbrev rs_q61:List RV:=[(.tmp 2),(.tmp 3)]
theorem gc_q61:compileF Tryd.prog Tryd.f79 T_q61=some (g_q61,rs_q61):=by kernel_rfl
theorem con_q61 (hv:vc Tryd.prog y g_q61 (retQ rs_q61 R) [(0,a0)] h):ConX y Tryd.prog 79 #[a0] h R:=con_of Tryd.func79 gc_q61 rfl (fun h=>absurd h (by decide)) hv
def T_q57:List (Nat×List Nat):=[(0,[]),(1,[0])]
abbrev g_q57_r0:GR:=(OP 0 0 (.mv (.const (.slice none 0 0))) .done)
abbrev g_q57_r1:GR:=(OP 0 1 (.build [(.int .i64 0),Value.nilFunc] [(0,(1,(K 1))),(1,(1,(.func 128)))]) (OP 1 2 (.build [(.int .i64 0),Value.nilFunc] [(0,(1,(K 2))),(1,(1,(.func 129)))]) (OP 2 3 (.build [(.int .i64 0),Value.nilFunc] [(0,(1,(K 3))),(1,(1,(.func 130)))]) (OP 3 4 (.build [(.int .i64 0),Value.nilFunc] [(0,(1,(K 4))),(1,(1,(.func 131)))]) (OP 4 5 (.buildSlice 123 4 [(.int .i64 0),Value.nilFunc,(.int .i64 0),Value.nilFunc,(.int .i64 0),Value.nilFunc,(.int .i64 0),Value.nilFunc] [(0,(2,(.tmp 1))),(2,(2,(.tmp 2))),(4,(2,(.tmp 3))),(6,(2,(.tmp 4)))]) (O1 5 0 5 .done))))))
abbrev g_q57:GC:=(.seq (.reg g_q57_r0 []) (.seq (.reg g_q57_r1 [0]) .ret))
abbrev rs_q57:List RV:=[(.tmp 0)]
theorem gc_q57:compileF Tryd.prog Tryd.f80 T_q57=some (g_q57,rs_q57):=by kernel_rfl
theorem con_q57 (hv:vc Tryd.prog y g_q57 (retQ rs_q57 R) [] h):ConX y Tryd.prog 80 #[] h R:=con_of Tryd.func80 gc_q57 rfl (fun h=>absurd h (by decide)) hv
def T_q146:List (Nat×List Nat):=[(0,[1]),(1,[2])]
abbrev g_q146_r0:GR:=(OP 0 1 (.box 22 (.tmp 0)) (OP 1 2 (.mv (.const Value.nilFunc)) .done))
abbrev g_q146_r1:GR:=(OP 0 3 (.makeFunc (Fn.func 132) [] [(.tmp 1)]) (O1 1 2 3 .done))
abbrev g_q146:GC:=(.seq (.reg g_q146_r0 [1]) (.seq (.reg g_q146_r1 [2]) .ret))
abbrev rs_q146:List RV:=[(.tmp 2)]
theorem gc_q146:compileF Tryd.prog Tryd.f81 T_q146=some (g_q146,rs_q146):=by kernel_rfl
theorem con_q146 (hv:vc Tryd.prog y g_q146 (retQ rs_q146 R) [(0,a0)] h):ConX y Tryd.prog 81 #[a0] h R:=con_of Tryd.func81 gc_q146 rfl (fun h=>absurd h (by decide)) hv
def T_q19:List (Nat×List Nat):=[(0,[0]),(1,[0,3]),(2,[0,3,18]),(3,[0,3]),(4,[0,3,4]),(5,[0,3,4,5]),(6,[0,3,4,5,51]),(7,[0,3,5]),(8,[0,3,5]),(9,[0,3,80]),(10,[2]),(11,[2])]
abbrev g_q19_r0:GR:=(OP 0 2 (.mv (K 0)) .done)
abbrev g_q19_r1:GR:=(O1 0 6 0 (OP 1 7 (.nilCheck (.tmp 6)) (O3 2 8 0 7 (O3 3 9 0 8 (O2 4 10 9 (O1 5 3 10 .done))))))
abbrev g_q19_r2:GR:=(O1 0 11 3 (O1 1 12 0 (OP 2 13 (.nilCheck (.tmp 12)) (O3 3 14 0 13 (O3 4 15 1 14 (O2 5 16 15 (OP 6 17 (.len (.tmp 16)) (O5 7 18 .lss 11 17 .done))))))))
abbrev g_q19_r3:GR:=(O1 0 21 0 (OP 1 22 (.nilCheck (.tmp 21)) (O3 2 23 0 22 (O3 3 24 1 23 (O2 4 25 24 (O1 5 26 3 (O4 6 27 5 25 26 (OP 7 28 (.load (some 5) (.tmp 27)) (OP 8 4 (.alloc 36 [(.int .i64 0),(.int .i64 0),(.int .i64 0),(.int .u64 0),(.int .i64 0)]) (OS 9 (.store 5 (.tmp 4) (.tmp 28)) .done))))))))))
abbrev g_q19_r4:GR:=(O3 0 29 0 4 (O6 1 30 29 (OP 2 31 (.bin .geq (.tmp 30) (K 0)) (O1 3 32 31 (OG 4 33 32 true (.fieldAddr 0 (.tmp 4)) (.op (GI.mk 5 (some 34) (some (32,true)) (.load none (.tmp 33)) [] true) (OG 6 35 32 true (.bin .lss (.tmp 34) (K 64)) (OP 7 36 (.pick (.tmp 32) (.tmp 35) (.const (.bool false))) (O1 8 37 36 (OG 9 38 37 true (.fieldAddr 1 (.tmp 4)) (.op (GI.mk 10 (some 39) (some (37,true)) (.load none (.tmp 38)) [] true) (OG 11 40 37 true (.mv (.tmp 0)) (OG 12 41 37 true (.nilCheck (.tmp 40)) (OG 13 42 37 true (.fieldAddr 8 (.tmp 41)) (.op (GI.mk 14 (some 43) (some (37,true)) (.load none (.tmp 42)) [] true) (OG 16 45 37 true (.fieldAddr 4 (.tmp 4)) (.op (GI.mk 17 (some 46) (some (37,true)) (.load none (.tmp 45)) [] true) (.op (GI.mk 15 (some 44) (some (37,true)) (.call 134 [(.tmp 39),(.tmp 43)]) [1,5,17] false) (.op (GI.mk 18 (some 47) (some (37,true)) (.call 133 [(.tmp 44),(.tmp 46)]) [1,5,10,14] false) (OP 19 48 (.pick (.tmp 37) (.tmp 47) (.const (.bool false))) (O1 20 5 48 .done)))))))))))))))))))))
abbrev g_q19_r5:GR:=(O3 0 49 1 4 (O2 1 50 49 (OP 2 51 (.bin .eql (.tmp 50) (K 3)) .done)))
abbrev g_q19_r6:GR:=(O1 0 52 5 (O1 1 53 52 (OG 2 54 53 true (.fieldAddr 2 (.tmp 4)) (OG 3 55 53 true (.load none (.tmp 54)) (OG 4 56 53 true (.bin .eql (.tmp 55) (K (-1))) (OP 5 57 (.pick (.tmp 53) (.tmp 56) (.const (.bool false))) (O1 6 58 57 (OG 7 59 58 true (.fieldAddr 3 (.tmp 4)) (OG 8 60 58 true (.load none (.tmp 59)) (OG 9 61 58 true (.bin .eql (.tmp 60) (.const (.int .u64 0))) (OP 10 62 (.pick (.tmp 58) (.tmp 61) (.const (.bool false))) (O1 11 5 62 .done))))))))))))
abbrev g_q19_r7:GR:=(O1 0 63 5 (O1 1 64 63 (OG 2 65 64 true (.fieldAddr 2 (.tmp 4)) (.op (GI.mk 3 (some 66) (some (64,true)) (.load none (.tmp 65)) [] true) (OG 4 67 64 true (.bin .geq (.tmp 66) (K 0)) (OP 5 68 (.pick (.tmp 64) (.tmp 67) (.const (.bool false))) (O1 6 69 68 (OG 7 70 69 true (.fieldAddr 2 (.tmp 4)) (.op (GI.mk 8 (some 71) (some (69,true)) (.load none (.tmp 70)) [] true) (OG 9 72 69 true (.mv (.tmp 0)) (OG 10 73 69 true (.nilCheck (.tmp 72)) (OG 11 74 69 true (.fieldAddr 0 (.tmp 73)) (OG 12 75 69 true (.fieldAddr 0 (.tmp 74)) (.op (GI.mk 13 (some 76) (some (69,true)) (.load none (.tmp 75)) [] true) (OG 14 77 69 true (.bin .lss (.tmp 71) (.tmp 76)) (OP 15 78 (.pick (.tmp 69) (.tmp 77) (.const (.bool false))) (O1 16 5 78 .done)))))))))))))))))
abbrev g_q19_r8:GR:=(O1 0 79 5 (OP 1 80 (.not (.tmp 79)) .done))
abbrev g_q19_r9:GR:=(O1 0 81 3 (O1 1 2 81 .done))
abbrev g_q19_r10:GR:=(O1 0 19 3 (OP 1 20 (.bin .add (.tmp 19) (K 1)) (O1 2 3 20 .done)))
abbrev g_q19_l11:GC:=(.seq (.seq (.reg g_q19_r2 [0,3,18]) (.cond (.tmp 18) .skip (.exit 0))) (.seq (.block 1 (.seq (.reg g_q19_r3 [0,3,4]) (.seq (.reg g_q19_r4 [0,3,4,5]) (.seq (.seq (.reg g_q19_r5 [0,3,4,5,51]) (.cond (.tmp 51) (.reg g_q19_r6 [0,3,5]) (.reg g_q19_r7 [0,3,5]))) (.seq (.reg g_q19_r8 [0,3,80]) (.cond (.tmp 80) (.seq (.reg g_q19_r9 [2]) .ret) .skip)))))) (.reg g_q19_r10 [0,3])))
abbrev g_q19_r12:GR:=(OP 0 2 (.mv (K (-1))) .done)
abbrev g_q19:GC:=(.seq (.reg g_q19_r0 [0]) (.seq (.seq (.reg g_q19_r1 [0,3]) (.block 0 (.loop g_q19_l11))) (.seq (.reg g_q19_r12 [2]) .ret)))
abbrev rs_q19:List RV:=[(.tmp 2)]
theorem gc_q19:compileF Tryd.prog Tryd.f82 T_q19=some (g_q19,rs_q19):=by kernel_rfl
theorem con_q19 (hv:vc Tryd.prog y g_q19 (retQ rs_q19 R) [(0,a0)] h):ConX y Tryd.prog 82 #[a0] h R:=con_of Tryd.func82 gc_q19 rfl (fun h=>absurd h (by decide)) hv
def T_q22:List (Nat×List Nat):=[(0,[0]),(1,[0,3]),(2,[0,3,11,12,13]),(3,[0,3,11,12,13,14]),(4,[0,3,4,5,11,12,13]),(5,[0,3,4,5,11,12,13,20]),(6,[0,3,5,11,12,13,55]),(7,[2]),(8,[0,3,5,6,11,12,13]),(9,[0,3,11,12,13,84]),(10,[2]),(11,[0,3,11,12,13]),(12,[0,3,11,12,13]),(13,[3,96]),(14,[2]),(15,[2])]
abbrev g_q22_r0:GR:=(OP 0 2 (.mv (K 0)) .done)
abbrev g_q22_r1:GR:=(OP 0 3 (.mv (K 0)) .done)
abbrev g_q22_r2:GR:=(O1 0 7 0 (OP 1 8 (.nilCheck (.tmp 7)) (O3 2 9 0 8 (O3 3 10 1 9 (O2 4 11 10 (OP 5 12 (.len (.tmp 11)) (OP 6 13 (.mv (K 0)) .done)))))))
abbrev g_q22_r3:GR:=(O5 0 14 .lss 13 12 .done)
abbrev g_q22_r4:GR:=(O1 0 15 13 (O4 1 16 5 11 13 (OP 2 17 (.load (some 5) (.tmp 16)) (OP 3 5 (.alloc 36 [(.int .i64 0),(.int .i64 0),(.int .i64 0),(.int .u64 0),(.int .i64 0)]) (O1 4 4 15 (OS 5 (.store 5 (.tmp 5) (.tmp 17)) .done))))))
abbrev g_q22_r5:GR:=(O3 0 18 1 5 (O2 1 19 18 (OP 2 20 (.bin .neq (.tmp 19) (K 1)) .done)))
abbrev g_q22_r6:GR:=(O1 0 21 3 (O1 1 22 0 (OP 2 23 (.nilCheck (.tmp 22)) (O3 3 24 0 23 (O3 4 25 2 24 (O2 5 26 25 (OP 6 27 (.len (.tmp 26)) (O5 7 28 .eql 21 27 (O1 8 29 28 (OG 9 30 29 false (.mv (.tmp 0)) (OG 10 31 29 false (.nilCheck (.tmp 30)) (OG 11 32 29 false (.fieldAddr 0 (.tmp 31)) (OG 12 33 29 false (.fieldAddr 2 (.tmp 32)) (OG 13 34 29 false (.load none (.tmp 33)) (OG 14 35 29 false (.mv (.tmp 3)) (OG 15 36 29 false (.indexAddr 2 (.tmp 34) (.tmp 35)) (OG 16 37 29 false (.fieldAddr 1 (.tmp 36)) (OG 17 38 29 false (.load none (.tmp 37)) (OG 18 39 29 false (.mv (.tmp 4)) (OG 19 40 29 false (.bin .neq (.tmp 38) (.tmp 39)) (OP 20 41 (.pick (.tmp 29) (.const (.bool true)) (.tmp 40)) (O1 21 42 41 (OG 22 43 42 false (.mv (.tmp 0)) (OG 23 44 42 false (.mv (.tmp 0)) (OG 24 45 42 false (.nilCheck (.tmp 44)) (OG 25 46 42 false (.fieldAddr 0 (.tmp 45)) (OG 26 47 42 false (.fieldAddr 2 (.tmp 46)) (OG 27 48 42 false (.load none (.tmp 47)) (OG 28 49 42 false (.mv (.tmp 3)) (OG 29 50 42 false (.indexAddr 2 (.tmp 48) (.tmp 49)) (OG 30 51 42 false (.fieldAddr 0 (.tmp 50)) (OG 31 52 42 false (.load none (.tmp 51)) (OG 32 53 42 false (.call 135 [(.tmp 43),(.tmp 52),(K 2)]) (OG 33 54 42 false (.not (.tmp 53)) (OP 34 55 (.pick (.tmp 42) (.const (.bool true)) (.tmp 54)) .done)))))))))))))))))))))))))))))))))))
abbrev g_q22_r7:GR:=(O1 0 56 3 (O1 1 2 56 .done))
abbrev g_q22_r8:GR:=(O1 0 57 0 (OP 1 58 (.nilCheck (.tmp 57)) (O3 2 59 0 58 (O3 3 60 1 59 (O6 4 61 60 (O1 5 62 0 (OP 6 63 (.nilCheck (.tmp 62)) (O3 7 64 0 63 (O3 8 65 2 64 (O6 9 66 65 (O1 10 67 3 (O4 11 68 2 66 67 (O3 12 69 0 68 (O6 13 70 69 (O4 14 71 5 61 70 (OW 15 72 (.load (some 5) (.tmp 71)) (OP 16 6 (.alloc 36 [(.int .i64 0),(.int .i64 0),(.int .i64 0),(.int .u64 0),(.int .i64 0)]) (OS 17 (.store 5 (.tmp 6) (.tmp 72)) .done))))))))))))))))))
abbrev g_q22_r9:GR:=(O3 0 73 2 6 (O2 1 74 73 (O3 2 75 2 5 (O2 3 76 75 (O5 4 77 .neq 74 76 (O1 5 78 77 (OG 6 79 78 false (.fieldAddr 3 (.tmp 6)) (OG 7 80 78 false (.load none (.tmp 79)) (OG 8 81 78 false (.fieldAddr 3 (.tmp 5)) (OG 9 82 78 false (.load none (.tmp 81)) (OG 10 83 78 false (.bin .neq (.tmp 80) (.tmp 82)) (OP 11 84 (.pick (.tmp 78) (.const (.bool true)) (.tmp 83)) .done))))))))))))
abbrev g_q22_r10:GR:=(O1 0 85 3 (O1 1 2 85 .done))
abbrev g_q22_r11:GR:=(O1 0 86 3 (OP 1 87 (.bin .add (.tmp 86) (K 1)) (O1 2 3 87 .done)))
abbrev g_q22_r12:GR:=(OP 0 88 (.bin .add (.tmp 13) (K 1)) (O1 1 13 88 .done))
abbrev g_q22_l13:GC:=(.seq (.reg g_q22_r3 [0,3,11,12,13,14]) (.seq (.cond (.tmp 14) .skip (.exit 0)) (.seq (.block 1 (.seq (.reg g_q22_r4 [0,3,4,5,11,12,13]) (.seq (.seq (.reg g_q22_r5 [0,3,4,5,11,12,13,20]) (.cond (.tmp 20) (.exit 1) .skip)) (.seq (.seq (.reg g_q22_r6 [0,3,5,11,12,13,55]) (.cond (.tmp 55) (.seq (.reg g_q22_r7 [2]) .ret) .skip)) (.seq (.seq (.reg g_q22_r8 [0,3,5,6,11,12,13]) (.seq (.reg g_q22_r9 [0,3,11,12,13,84]) (.cond (.tmp 84) (.seq (.reg g_q22_r10 [2]) .ret) .skip))) (.reg g_q22_r11 [0,3,11,12,13])))))) (.reg g_q22_r12 [0,3,11,12,13]))))
abbrev g_q22_r14:GR:=(O1 0 89 3 (O1 1 90 0 (OP 2 91 (.nilCheck (.tmp 90)) (O3 3 92 0 91 (O3 4 93 2 92 (O2 5 94 93 (OP 6 95 (.len (.tmp 94)) (O5 7 96 .lss 89 95 .done))))))))
abbrev g_q22_r15:GR:=(O1 0 97 3 (O1 1 2 97 .done))
abbrev g_q22_r16:GR:=(OP 0 2 (.mv (K (-1))) .done)
abbrev g_q22:GC:=(.seq (.reg g_q22_r0 [0]) (.seq (.reg g_q22_r1 [0,3]) (.seq (.seq (.reg g_q22_r2 [0,3,11,12,13]) (.block 0 (.loop g_q22_l13))) (.seq (.seq (.reg g_q22_r14 [3,96]) (.cond (.tmp 96) (.seq (.reg g_q22_r15 [2]) .ret) .skip)) (.seq (.reg g_q22_r16 [2]) .ret)))))
abbrev rs_q22:List RV:=[(.tmp 2)]
theorem gc_q22:compileF Tryd.prog Tryd.f83 T_q22=some (g_q22,rs_q22):=by kernel_rfl
theorem con_q22 (hv:vc Tryd.prog y g_q22 (retQ rs_q22 R) [(0,a0)] h):ConX y Tryd.prog 83 #[a0] h R:=con_of Tryd.func83 gc_q22 rfl (fun h=>absurd h (by decide)) hv
def T_q17:List (Nat×List Nat):=[(0,[0]),(1,[0,3]),(2,[0,3,21,22,23]),(3,[0,3,21,22,23,24]),(4,[0,3,5,21,22,23]),(5,[0,3,5,21,22,23,29]),(6,[0,3,21,22,23]),(7,[0,3,21,22,23]),(8,[0,3,6]),(9,[0,3,6,7]),(10,[0,3,6,7,8]),(11,[0,3,6,7,8,62,63,64]),(12,[0,3,6,7,8,62,63,64,65]),(13,[0,3,6,7,8,9,10,62,63,64]),(14,[0,3,6,7,8,9,10,11,62,63,64]),(15,[0,3,6,7,8,9,11,62,63,64,79,80,81]),(16,[0,3,6,7,8,9,11,62,63,64,79,80,81,82]),(17,[0,3,6,7,8,9,11,13,62,63,64,79,80,81]),(18,[0,3,6,7,8,9,11,13,62,63,64,79,80,81]),(19,[0,3,6,7,8,9,11,13,62,63,64,79,80,81,111]),(20,[0,3,6,7,8,9,11,62,63,64,79,80,81]),(21,[0,3,6,7,8,9,11,62,63,64,79,80,81]),(22,[0,3,6,7,8,9,11,62,63,64,79,80,81]),(23,[0,3,6,7,8,9,62,63,64,121]),(24,[0,3,6,7,8,62,63,64]),(25,[0,3,6,7,8,62,63,64]),(26,[0,7,8,127]),(27,[0,7,8,127,129]),(28,[0,7,8,14,15,127]),(29,[0,7,8,14,127,134]),(30,[0,7,8,127]),(31,[8,154]),(32,[2]),(33,[2])]
abbrev g_q17_r0:GR:=(OP 0 2 (.mv (K 0)) .done)
abbrev g_q17_r1:GR:=(OP 0 16 .makeMap (O1 1 3 16 .done))
abbrev g_q17_r2:GR:=(O1 0 17 0 (OP 1 18 (.nilCheck (.tmp 17)) (O3 2 19 0 18 (O3 3 20 1 19 (O2 4 21 20 (OP 5 22 (.len (.tmp 21)) (OP 6 23 (.mv (K 0)) .done)))))))
abbrev g_q17_r3:GR:=(O5 0 24 .lss 23 22 .done)
abbrev g_q17_r4:GR:=(O4 0 25 5 21 23 (OP 1 26 (.load (some 5) (.tmp 25)) (OP 2 5 (.alloc 36 [(.int .i64 0),(.int .i64 0),(.int .i64 0),(.int .u64 0),(.int .i64 0)]) (OS 3 (.store 5 (.tmp 5) (.tmp 26)) .done))))
abbrev g_q17_r5:GR:=(O3 0 27 1 5 (O2 1 28 27 (OP 2 29 (.bin .eql (.tmp 28) (K 2)) .done)))
abbrev g_q17_r6:GR:=(O1 0 30 3 (O3 1 31 2 5 (O2 2 32 31 (OP 3 33 (.lookup false (.int .i64 0) (.tmp 30) (.tmp 32)) (OP 4 34 (.bin .add (.tmp 33) (K 1)) (OS 5 (.mapSet (.tmp 30) (.tmp 32) (.tmp 34)) .done))))))
abbrev g_q17_r7:GR:=(OP 0 35 (.bin .add (.tmp 23) (K 1)) (O1 1 23 35 .done))
abbrev g_q17_l8:GC:=(.seq (.reg g_q17_r3 [0,3,21,22,23,24]) (.seq (.cond (.tmp 24) .skip (.exit 0)) (.seq (.block 1 (.seq (.reg g_q17_r4 [0,3,5,21,22,23]) (.seq (.reg g_q17_r5 [0,3,5,21,22,23,29]) (.cond (.tmp 29) (.reg g_q17_r6 [0,3,21,22,23]) .skip)))) (.reg g_q17_r7 [0,3,21,22,23]))))
abbrev g_q17_r9:GR:=(O1 0 36 0 (OP 1 37 (.nilCheck (.tmp 36)) (O3 2 38 0 37 (O3 3 39 1 38 (O2 4 40 39 (OP 5 41 (.len (.tmp 40)) (OP 6 42 (.makeSlice 4 1 1 [(.bool false)] (.tmp 41) (.tmp 41)) (O1 7 6 42 .done))))))))
abbrev g_q17_r10:GR:=(O1 0 43 0 (OP 1 44 (.nilCheck (.tmp 43)) (O3 2 45 0 44 (O3 3 46 3 45 (O6 4 47 46 (OP 5 48 (.len (.tmp 47)) (O1 6 49 0 (OP 7 50 (.nilCheck (.tmp 49)) (O3 8 51 0 50 (O3 9 52 0 51 (O6 10 53 52 (OP 11 54 (.mini (.tmp 48) (.tmp 53)) (O1 12 7 54 .done)))))))))))))
abbrev g_q17_r11:GR:=(O1 0 55 7 (O1 1 8 55 .done))
abbrev g_q17_r12:GR:=(O1 0 56 0 (OP 1 57 (.nilCheck (.tmp 56)) (O3 2 58 0 57 (O3 3 59 3 58 (O2 4 60 59 (O1 5 61 7 (OP 6 62 (.slice 1 (.tmp 60) none (some (.tmp 61))) (OP 7 63 (.len (.tmp 62)) (OP 8 64 (.mv (K 0)) .done)))))))))
abbrev g_q17_r13:GR:=(O5 0 65 .lss 64 63 .done)
abbrev g_q17_r14:GR:=(O1 0 66 64 (O4 1 67 1 62 64 (O2 2 68 67 (O1 3 9 66 (O1 4 10 68 .done)))))
abbrev g_q17_r15:GR:=(O1 0 69 10 (OP 1 70 (.len (.tmp 69)) (OP 2 71 (.bin .gtr (.tmp 70) (K 0)) (O1 3 72 71 (OG 4 73 72 true (.mv (.tmp 10)) (OG 5 74 72 true (.indexAddr 1 (.tmp 73) (K 0)) (OG 6 75 72 true (.load none (.tmp 74)) (OG 7 76 72 true (.mv (.tmp 9)) (OG 8 77 72 true (.bin .eql (.tmp 75) (.tmp 76)) (OP 9 78 (.pick (.tmp 72) (.tmp 77) (.const (.bool false))) (O1 10 11 78 .done)))))))))))
abbrev g_q17_r16:GR:=(O1 0 79 10 (OP 1 80 (.len (.tmp 79)) (OP 2 81 (.mv (K 0)) .done)))
abbrev g_q17_r17:GR:=(O5 0 82 .lss 81 80 .done)
abbrev g_q17_r18:GR:=(O4 0 83 1 79 81 (O2 1 84 83 (O1 2 13 84 .done)))
abbrev g_q17_r19:GR:=(O1 0 85 11 (O1 1 86 85 (OG 2 87 86 true (.mv (.tmp 0)) (OG 3 88 86 true (.mv (.tmp 13)) (OG 4 89 86 true (.call 135 [(.tmp 87),(.tmp 88),(K 2)]) (OP 5 90 (.pick (.tmp 86) (.tmp 89) (.const (.bool false))) (O1 6 91 90 (OG 7 92 91 true (.mv (.tmp 0)) (OG 8 93 91 true (.nilCheck (.tmp 92)) (OG 9 94 91 true (.fieldAddr 0 (.tmp 93)) (OG 10 95 91 true (.fieldAddr 1 (.tmp 94)) (OG 11 96 91 true (.load none (.tmp 95)) (OG 12 97 91 true (.mv (.tmp 13)) (OG 13 98 91 true (.indexAddr 5 (.tmp 96) (.tmp 97)) (OG 14 99 91 true (.fieldAddr 2 (.tmp 98)) (OG 15 100 91 true (.load none (.tmp 99)) (OG 16 101 91 true (.mv (.tmp 9)) (OG 17 102 91 true (.bin .eql (.tmp 100) (.tmp 101)) (OP 18 103 (.pick (.tmp 91) (.tmp 102) (.const (.bool false))) (O1 19 104 103 (OG 20 105 104 true (.mv (.tmp 6)) (OG 21 106 104 true (.mv (.tmp 13)) (OG 22 107 104 true (.indexAddr 1 (.tmp 105) (.tmp 106)) (OG 23 108 104 true (.load none (.tmp 107)) (OG 24 109 104 true (.not (.tmp 108)) (OP 25 110 (.pick (.tmp 104) (.tmp 109) (.const (.bool false))) (O1 26 11 110 .done)))))))))))))))))))))))))))
abbrev g_q17_r20:GR:=(O1 0 111 11 .done)
abbrev g_q17_r21:GR:=(O1 0 112 6 (O1 1 113 13 (O4 2 114 1 112 113 (OS 3 (.store 1 (.tmp 114) (.const (.bool true))) .done))))
abbrev g_q17_r22:GR:=(O1 0 115 3 (O1 1 116 9 (OP 2 117 (.lookup false (.int .i64 0) (.tmp 115) (.tmp 116)) (OP 3 118 (.bin .sub (.tmp 117) (K 1)) (OS 4 (.mapSet (.tmp 115) (.tmp 116) (.tmp 118)) .done)))))
abbrev g_q17_r23:GR:=(OP 0 119 (.bin .add (.tmp 81) (K 1)) (O1 1 81 119 .done))
abbrev g_q17_l24:GC:=(.seq (.reg g_q17_r17 [0,3,6,7,8,9,11,62,63,64,79,80,81,82]) (.seq (.cond (.tmp 82) .skip (.exit 4)) (.seq (.block 5 (.seq (.reg g_q17_r18 [0,3,6,7,8,9,11,13,62,63,64,79,80,81]) (.seq (.reg g_q17_r19 [0,3,6,7,8,9,11,13,62,63,64,79,80,81]) (.seq (.reg g_q17_r20 [0,3,6,7,8,9,11,13,62,63,64,79,80,81,111]) (.cond (.tmp 111) (.seq (.reg g_q17_r21 [0,3,6,7,8,9,11,62,63,64,79,80,81]) (.reg g_q17_r22 [0,3,6,7,8,9,11,62,63,64,79,80,81])) .skip))))) (.reg g_q17_r23 [0,3,6,7,8,9,11,62,63,64,79,80,81]))))
abbrev g_q17_r25:GR:=(O1 0 120 11 (OP 1 121 (.not (.tmp 120)) .done))
abbrev g_q17_r26:GR:=(O1 0 122 8 (O1 1 123 9 (OP 2 124 (.mini (.tmp 122) (.tmp 123)) (O1 3 8 124 .done))))
abbrev g_q17_r27:GR:=(OP 0 125 (.bin .add (.tmp 64) (K 1)) (O1 1 64 125 .done))
abbrev g_q17_l28:GC:=(.seq (.reg g_q17_r13 [0,3,6,7,8,62,63,64,65]) (.seq (.cond (.tmp 65) .skip (.exit 2)) (.seq (.block 3 (.seq (.reg g_q17_r14 [0,3,6,7,8,9,10,62,63,64]) (.seq (.reg g_q17_r15 [0,3,6,7,8,9,10,11,62,63,64]) (.seq (.seq (.reg g_q17_r16 [0,3,6,7,8,9,11,62,63,64,79,80,81]) (.block 4 (.loop g_q17_l24))) (.seq (.reg g_q17_r25 [0,3,6,7,8,9,62,63,64,121]) (.cond (.tmp 121) (.reg g_q17_r26 [0,3,6,7,8,62,63,64]) .skip)))))) (.reg g_q17_r27 [0,3,6,7,8,62,63,64]))))
abbrev g_q17_r29:GR:=(O1 0 126 3 (OP 1 127 (.mrange (.tmp 126)) .done))
abbrev g_q17_r30:GR:=(OP 0 128 (.mnext (.tmp 127)) (OP 1 129 (.extract 0 (.tmp 128)) .done))
abbrev g_q17_r31:GR:=(OP 0 130 (.mentry (.tmp 127)) (OP 1 131 (.extract 0 (.tmp 130)) (OP 2 132 (.extract 1 (.tmp 130)) (O1 3 14 131 (O1 4 15 132 .done)))))
abbrev g_q17_r32:GR:=(O1 0 133 15 (OP 1 134 (.bin .gtr (.tmp 133) (K 0)) .done))
abbrev g_q17_r33:GR:=(O1 0 135 8 (O1 1 136 14 (OP 2 137 (.mini (.tmp 135) (.tmp 136)) (O1 3 8 137 .done))))
abbrev g_q17_l34:GC:=(.seq (.reg g_q17_r30 [0,7,8,127,129]) (.seq (.cond (.tmp 129) .skip (.exit 6)) (.block 7 (.seq (.reg g_q17_r31 [0,7,8,14,15,127]) (.seq (.reg g_q17_r32 [0,7,8,14,127,134]) (.cond (.tmp 134) (.reg g_q17_r33 [0,7,8,127]) .skip))))))
abbrev g_q17_r35:GR:=(O1 0 138 8 (O1 1 139 7 (O5 2 140 .lss 138 139 (O1 3 141 140 (OG 4 142 141 false (.mv (.tmp 0)) (OG 5 143 141 false (.nilCheck (.tmp 142)) (OG 6 144 141 false (.fieldAddr 0 (.tmp 143)) (OG 7 145 141 false (.fieldAddr 3 (.tmp 144)) (.op (GI.mk 8 (some 146) (some (141,false)) (.load none (.tmp 145)) [] true) (OG 9 147 141 false (.len (.tmp 146)) (OG 10 148 141 false (.mv (.tmp 0)) (OG 11 149 141 false (.nilCheck (.tmp 148)) (OG 12 150 141 false (.fieldAddr 0 (.tmp 149)) (OG 13 151 141 false (.fieldAddr 0 (.tmp 150)) (.op (GI.mk 14 (some 152) (some (141,false)) (.load none (.tmp 151)) [] true) (OG 15 153 141 false (.bin .neq (.tmp 147) (.tmp 152)) (OP 16 154 (.pick (.tmp 141) (.const (.bool true)) (.tmp 153)) .done)))))))))))))))))
abbrev g_q17_r36:GR:=(O1 0 155 8 (O1 1 2 155 .done))
abbrev g_q17_r37:GR:=(OP 0 2 (.mv (K (-1))) .done)
abbrev g_q17:GC:=(.seq (.reg g_q17_r0 [0]) (.seq (.reg g_q17_r1 [0,3]) (.seq (.seq (.reg g_q17_r2 [0,3,21,22,23]) (.block 0 (.loop g_q17_l8))) (.seq (.reg g_q17_r9 [0,3,6]) (.seq (.reg g_q17_r10 [0,3,6,7]) (.seq (.reg g_q17_r11 [0,3,6,7,8]) (.seq (.seq (.reg g_q17_r12 [0,3,6,7,8,62,63,64]) (.block 2 (.loop g_q17_l28))) (.seq (.seq (.reg g_q17_r29 [0,7,8,127]) (.block 6 (.loop g_q17_l34))) (.seq (.seq (.reg g_q17_r35 [8,154]) (.cond (.tmp 154) (.seq (.reg g_q17_r36 [2]) .ret) .skip)) (.seq (.reg g_q17_r37 [2]) .ret))))))))))
abbrev rs_q17:List RV:=[(.tmp 2)]
theorem gc_q17:compileF Tryd.prog Tryd.f84 T_q17=some (g_q17,rs_q17):=by kernel_rfl
theorem con_q17 (hv:vc Tryd.prog y g_q17 (retQ rs_q17 R) [(0,a0)] h):ConX y Tryd.prog 84 #[a0] h R:=con_of Tryd.func84 gc_q17 rfl (fun h=>absurd h (by decide)) hv
def T_q23:List (Nat×List Nat):=[(0,[0]),(1,[0,9,10,11]),(2,[0,9,10,11,12]),(3,[0,3,4,9,10,11]),(4,[0,3,9,10,11,82]),(5,[2]),(6,[0,9,10,11]),(7,[2])]
abbrev g_q23_r0:GR:=(OP 0 2 (.mv (K 0)) .done)
abbrev g_q23_r1:GR:=(O1 0 5 0 (OP 1 6 (.nilCheck (.tmp 5)) (O3 2 7 0 6 (O3 3 8 4 7 (O2 4 9 8 (OP 5 10 (.len (.tmp 9)) (OP 6 11 (.mv (K 0)) .done)))))))
abbrev g_q23_r2:GR:=(O5 0 12 .lss 11 10 .done)
abbrev g_q23_r3:GR:=(O1 0 13 11 (O4 1 14 2 9 11 (OP 2 15 (.load (some 2) (.tmp 14)) (OP 3 4 (.alloc 38 [(.int .i64 0),(.int .i64 0)]) (O1 4 3 13 (OS 5 (.store 2 (.tmp 4) (.tmp 15)) .done))))))
abbrev g_q23_r4:GR:=(O1 0 16 3 (OP 1 17 (.bin .gtr (.tmp 16) (K 0)) (O1 2 18 17 (OG 3 19 18 true (.fieldAddr 0 (.tmp 4)) (.op (GI.mk 4 (some 20) (some (18,true)) (.load none (.tmp 19)) [] true) (OG 5 21 18 true (.mv (.tmp 0)) (OG 6 22 18 true (.nilCheck (.tmp 21)) (OG 7 23 18 true (.fieldAddr 0 (.tmp 22)) (OG 8 24 18 true (.fieldAddr 4 (.tmp 23)) (.op (GI.mk 9 (some 25) (some (18,true)) (.load none (.tmp 24)) [] true) (OG 10 26 18 true (.mv (.tmp 3)) (OG 11 27 18 true (.bin .sub (.tmp 26) (K 1)) (OG 12 28 18 true (.indexAddr 2 (.tmp 25) (.tmp 27)) (OG 13 29 18 true (.fieldAddr 0 (.tmp 28)) (.op (GI.mk 14 (some 30) (some (18,true)) (.load none (.tmp 29)) [] true) (OG 15 31 18 true (.bin .leq (.tmp 20) (.tmp 30)) (OP 16 32 (.pick (.tmp 18) (.tmp 31) (.const (.bool false))) (O1 17 33 32 (OG 18 34 33 false (.mv (.tmp 0)) (OG 19 35 33 false (.fieldAddr 0 (.tmp 4)) (.op (GI.mk 20 (some 36) (some (33,false)) (.load none (.tmp 35)) [] true) (.op (GI.mk 21 (some 37) (some (33,false)) (.call 135 [(.tmp 34),(.tmp 36),(K 1)]) [4,9,14] false) (OG 22 38 33 false (.not (.tmp 37)) (OP 23 39 (.pick (.tmp 33) (.const (.bool true)) (.tmp 38)) (O1 24 40 39 (OG 25 41 40 false (.mv (.tmp 0)) (OG 26 42 40 false (.fieldAddr 1 (.tmp 4)) (.op (GI.mk 27 (some 43) (some (40,false)) (.load none (.tmp 42)) [] true) (.op (GI.mk 28 (some 44) (some (40,false)) (.call 135 [(.tmp 41),(.tmp 43),(K 2)]) [4,9,14,20] false) (OG 29 45 40 false (.not (.tmp 44)) (OP 30 46 (.pick (.tmp 40) (.const (.bool true)) (.tmp 45)) (O1 31 47 46 (OG 32 48 47 false (.mv (.tmp 0)) (OG 33 49 47 false (.nilCheck (.tmp 48)) (OG 34 50 47 false (.fieldAddr 9 (.tmp 49)) (.op (GI.mk 35 (some 51) (some (47,false)) (.load none (.tmp 50)) [] true) (OG 36 52 47 false (.fieldAddr 0 (.tmp 4)) (.op (GI.mk 37 (some 53) (some (47,false)) (.load none (.tmp 52)) [] true) (OG 38 54 47 false (.indexAddr 1 (.tmp 51) (.tmp 53)) (.op (GI.mk 39 (some 55) (some (47,false)) (.load none (.tmp 54)) [] true) (OG 40 56 47 false (.fieldAddr 1 (.tmp 4)) (.op (GI.mk 41 (some 57) (some (47,false)) (.load none (.tmp 56)) [] true) (OG 42 58 47 false (.bin .neq (.tmp 55) (.tmp 57)) (OP 43 59 (.pick (.tmp 47) (.const (.bool true)) (.tmp 58)) (O1 44 60 59 (OG 45 61 60 false (.mv (.tmp 0)) (OG 46 62 60 false (.nilCheck (.tmp 61)) (OG 47 63 60 false (.fieldAddr 0 (.tmp 62)) (OG 48 64 60 false (.fieldAddr 1 (.tmp 63)) (.op (GI.mk 49 (some 65) (some (60,false)) (.load none (.tmp 64)) [] true) (OG 50 66 60 false (.fieldAddr 0 (.tmp 4)) (.op (GI.mk 51 (some 67) (some (60,false)) (.load none (.tmp 66)) [] true) (OG 52 68 60 false (.indexAddr 5 (.tmp 65) (.tmp 67)) (OG 53 69 60 false (.fieldAddr 2 (.tmp 68)) (.op (GI.mk 54 (some 70) (some (60,false)) (.load none (.tmp 69)) [] true) (OG 55 71 60 false (.mv (.tmp 0)) (OG 56 72 60 false (.nilCheck (.tmp 71)) (OG 57 73 60 false (.fieldAddr 0 (.tmp 72)) (OG 58 74 60 false (.fieldAddr 1 (.tmp 73)) (.op (GI.mk 59 (some 75) (some (60,false)) (.load none (.tmp 74)) [] true) (OG 60 76 60 false (.fieldAddr 1 (.tmp 4)) (.op (GI.mk 61 (some 77) (some (60,false)) (.load none (.tmp 76)) [] true) (OG 62 78 60 false (.indexAddr 5 (.tmp 75) (.tmp 77)) (OG 63 79 60 false (.fieldAddr 2 (.tmp 78)) (.op (GI.mk 64 (some 80) (some (60,false)) (.load none (.tmp 79)) [] true) (OG 65 81 60 false (.bin .neq (.tmp 70) (.tmp 80)) (OP 66 82 (.pick (.tmp 60) (.const (.bool true)) (.tmp 81)) .done)))))))))))))))))))))))))))))))))))))))))))))))))))))))))))))))))))
abbrev g_q23_r5:GR:=(O1 0 83 3 (O1 1 2 83 .done))
abbrev g_q23_r6:GR:=(OP 0 84 (.bin .add (.tmp 11) (K 1)) (O1 1 11 84 .done))
abbrev g_q23_l7:GC:=(.seq (.reg g_q23_r2 [0,9,10,11,12]) (.seq (.cond (.tmp 12) .skip (.exit 0)) (.seq (.block 1 (.seq (.reg g_q23_r3 [0,3,4,9,10,11]) (.seq (.reg g_q23_r4 [0,3,9,10,11,82]) (.cond (.tmp 82) (.seq (.reg g_q23_r5 [2]) .ret) .skip)))) (.reg g_q23_r6 [0,9,10,11]))))
abbrev g_q23_r8:GR:=(OP 0 2 (.mv (K (-1))) .done)
abbrev g_q23:GC:=(.seq (.reg g_q23_r0 [0]) (.seq (.seq (.reg g_q23_r1 [0,9,10,11]) (.block 0 (.loop g_q23_l7))) (.seq (.reg g_q23_r8 [2]) .ret)))
abbrev rs_q23:List RV:=[(.tmp 2)]
theorem gc_q23:compileF Tryd.prog Tryd.f85 T_q23=some (g_q23,rs_q23):=by kernel_rfl
theorem con_q23 (hv:vc Tryd.prog y g_q23 (retQ rs_q23 R) [(0,a0)] h):ConX y Tryd.prog 85 #[a0] h R:=con_of Tryd.func85 gc_q23 rfl (fun h=>absurd h (by decide)) hv
def T_q18:List (Nat×List Nat):=[(0,[0,1,2]),(1,[0,1,2,9,10,11]),(2,[0,1,2,9,10,11,12]),(3,[0,1,2,7,8,9,10,11]),(4,[0,1,2,7,9,10,11,88]),(5,[6]),(6,[0,1,2,9,10,11]),(7,[6])]
abbrev g_q18_r0:GR:=(OP 0 6 (.mv (K 0)) .done)
abbrev g_q18_r1:GR:=(O1 0 9 1 (OP 1 10 (.len (.tmp 9)) (OP 2 11 (.mv (K 0)) .done)))
abbrev g_q18_r2:GR:=(O5 0 12 .lss 11 10 .done)
abbrev g_q18_r3:GR:=(O1 0 13 11 (O4 1 14 2 9 11 (OP 2 15 (.load (some 2) (.tmp 14)) (OP 3 8 (.alloc 38 [(.int .i64 0),(.int .i64 0)]) (O1 4 7 13 (OS 5 (.store 2 (.tmp 8) (.tmp 15)) .done))))))
abbrev g_q18_r4:GR:=(O1 0 16 7 (OP 1 17 (.bin .gtr (.tmp 16) (K 0)) (O1 2 18 17 (OG 3 19 18 true (.fieldAddr 0 (.tmp 8)) (.op (GI.mk 4 (some 20) (some (18,true)) (.load none (.tmp 19)) [] true) (OG 5 21 18 true (.mv (.tmp 1)) (OG 6 22 18 true (.mv (.tmp 7)) (OG 7 23 18 true (.bin .sub (.tmp 22) (K 1)) (OG 8 24 18 true (.indexAddr 2 (.tmp 21) (.tmp 23)) (OG 9 25 18 true (.fieldAddr 0 (.tmp 24)) (.op (GI.mk 10 (some 26) (some (18,true)) (.load none (.tmp 25)) [] true) (OG 11 27 18 true (.bin .lss (.tmp 20) (.tmp 26)) (OG 12 28 18 true (.mv (.tmp 27)) (OG 13 29 28 false (.fieldAddr 0 (.tmp 8)) (.op (GI.mk 14 (some 30) (some (28,false)) (.load none (.tmp 29)) [] true) (OG 15 31 28 false (.mv (.tmp 1)) (OG 16 32 28 false (.mv (.tmp 7)) (OG 17 33 28 false (.bin .sub (.tmp 32) (K 1)) (OG 18 34 28 false (.indexAddr 2 (.tmp 31) (.tmp 33)) (OG 19 35 28 false (.fieldAddr 0 (.tmp 34)) (.op (GI.mk 20 (some 36) (some (28,false)) (.load none (.tmp 35)) [] true) (OG 21 37 28 false (.bin .eql (.tmp 30) (.tmp 36)) (OG 22 38 28 false (.mv (.tmp 37)) (OG 23 39 38 true (.fieldAddr 1 (.tmp 8)) (.op (GI.mk 24 (some 40) (some (38,true)) (.load none (.tmp 39)) [] true) (OG 25 41 38 true (.mv (.tmp 1)) (OG 26 42 38 true (.mv (.tmp 7)) (OG 27 43 38 true (.bin .sub (.tmp 42) (K 1)) (OG 28 44 38 true (.indexAddr 2 (.tmp 41) (.tmp 43)) (OG 29 45 38 true (.fieldAddr 1 (.tmp 44)) (.op (GI.mk 30 (some 46) (some (38,true)) (.load none (.tmp 45)) [] true) (OG 31 47 38 true (.bin .leq (.tmp 40) (.tmp 46)) (OG 32 48 28 false (.pick (.tmp 38) (.tmp 47) (.const (.bool false))) (OG 33 49 18 true (.pick (.tmp 28) (.const (.bool true)) (.tmp 48)) (OP 34 50 (.pick (.tmp 18) (.tmp 49) (.const (.bool false))) (O1 35 51 50 (OG 36 52 51 false (.mv (.tmp 0)) (OG 37 53 51 false (.nilCheck (.tmp 52)) (OG 38 54 51 false (.fieldAddr 8 (.tmp 53)) (.op (GI.mk 39 (some 55) (some (51,false)) (.load none (.tmp 54)) [] true) (OG 40 56 51 false (.not (.tmp 55)) (OP 41 57 (.pick (.tmp 51) (.const (.bool true)) (.tmp 56)) (O1 42 58 57 (OG 43 59 58 false (.mv (.tmp 0)) (OG 44 60 58 false (.fieldAddr 0 (.tmp 8)) (.op (GI.mk 45 (some 61) (some (58,false)) (.load none (.tmp 60)) [] true) (.op (GI.mk 46 (some 62) (some (58,false)) (.call 135 [(.tmp 59),(.tmp 61),(K 1)]) [4,10,14,20,24,30,39] false) (OG 47 63 58 false (.not (.tmp 62)) (OP 48 64 (.pick (.tmp 58) (.const (.bool true)) (.tmp 63)) (O1 49 65 64 (OG 50 66 65 false (.mv (.tmp 0)) (OG 51 67 65 false (.fieldAddr 0 (.tmp 8)) (.op (GI.mk 52 (some 68) (some (65,false)) (.load none (.tmp 67)) [] true) (OG 53 69 65 false (.fieldAddr 1 (.tmp 8)) (.op (GI.mk 54 (some 70) (some (65,false)) (.load none (.tmp 69)) [] true) (.op (GI.mk 55 (some 71) (some (65,false)) (.call 136 [(.tmp 66),(.tmp 68),(.tmp 70)]) [4,10,14,20,24,30,39,45] false) (OG 56 72 65 false (.not (.tmp 71)) (OP 57 73 (.pick (.tmp 65) (.const (.bool true)) (.tmp 72)) (O1 58 74 73 (OG 59 75 74 false (.mv (.tmp 2)) (OG 60 76 74 false (.mv (.tmp 0)) (OG 61 77 74 false (.nilCheck (.tmp 76)) (OG 62 78 74 false (.fieldAddr 0 (.tmp 77)) (OG 63 79 74 false (.fieldAddr 1 (.tmp 78)) (.op (GI.mk 64 (some 80) (some (74,false)) (.load none (.tmp 79)) [] true) (OG 65 81 74 false (.fieldAddr 1 (.tmp 8)) (.op (GI.mk 66 (some 82) (some (74,false)) (.load none (.tmp 81)) [] true) (OG 67 83 74 false (.indexAddr 5 (.tmp 80) (.tmp 82)) (OG 68 84 74 false (.fieldAddr 1 (.tmp 83)) (.op (GI.mk 69 (some 85) (some (74,false)) (.load none (.tmp 84)) [] true) (.op (GI.mk 70 (some 86) (some (74,false)) (.call 133 [(.tmp 75),(.tmp 85)]) [4,10,14,20,24,30,39,45,52,54,64,66] false) (OG 71 87 74 false (.not (.tmp 86)) (OP 72 88 (.pick (.tmp 74) (.const (.bool true)) (.tmp 87)) .done)))))))))))))))))))))))))))))))))))))))))))))))))))))))))))))))))))))))))
abbrev g_q18_r5:GR:=(O1 0 89 7 (O1 1 6 89 .done))
abbrev g_q18_r6:GR:=(OP 0 90 (.bin .add (.tmp 11) (K 1)) (O1 1 11 90 .done))
abbrev g_q18_l7:GC:=(.seq (.reg g_q18_r2 [0,1,2,9,10,11,12]) (.seq (.cond (.tmp 12) .skip (.exit 0)) (.seq (.block 1 (.seq (.reg g_q18_r3 [0,1,2,7,8,9,10,11]) (.seq (.reg g_q18_r4 [0,1,2,7,9,10,11,88]) (.cond (.tmp 88) (.seq (.reg g_q18_r5 [6]) .ret) .skip)))) (.reg g_q18_r6 [0,1,2,9,10,11]))))
abbrev g_q18_r8:GR:=(OP 0 6 (.mv (K (-1))) .done)
abbrev g_q18:GC:=(.seq (.reg g_q18_r0 [0,1,2]) (.seq (.seq (.reg g_q18_r1 [0,1,2,9,10,11]) (.block 0 (.loop g_q18_l7))) (.seq (.reg g_q18_r8 [6]) .ret)))
abbrev rs_q18:List RV:=[(.tmp 6)]
theorem gc_q18:compileF Tryd.prog Tryd.f86 T_q18=some (g_q18,rs_q18):=by kernel_rfl
theorem con_q18 (hv:vc Tryd.prog y g_q18 (retQ rs_q18 R) [(0,a0),(1,a1),(2,a2)] h):ConX y Tryd.prog 86 #[a0,a1,a2] h R:=con_of Tryd.func86 gc_q18 rfl (fun h=>absurd h (by decide)) hv
def T_q116:List (Nat×List Nat):=[(0,[0,1]),(1,[1,5]),(2,[5,10,11,12]),(3,[5,10,11,12,13]),(4,[5,7,10,11,12]),(5,[5,10,11,12]),(6,[5,10,11,12]),(7,[4])]
abbrev g_q116_r0:GR:=(OP 0 4 (.mv (.const (.pointer none))) .done)
abbrev g_q116_r1:GR:=(O1 0 8 0 (OP 1 9 (.call 56 [(.tmp 8)]) (O1 2 5 9 .done)))
abbrev g_q116_r2:GR:=(O1 0 10 1 (OP 1 11 (.len (.tmp 10)) (OP 2 12 (.mv (K 0)) .done)))
abbrev g_q116_r3:GR:=(O5 0 13 .lss 12 11 .done)
abbrev g_q116_r4:GR:=(O4 0 14 2 10 12 (OP 1 15 (.load (some 2) (.tmp 14)) (OP 2 7 (.alloc 38 [(.int .i64 0),(.int .i64 0)]) (OS 3 (.store 2 (.tmp 7) (.tmp 15)) .done))))
abbrev g_q116_r5:GR:=(O1 0 16 5 (O3 1 17 0 7 (O2 2 18 17 (O3 3 19 1 7 (O2 4 20 19 (OP 5 21 (.call 95 [(.tmp 16),(.tmp 18),(.tmp 20),(.const (.bool true))]) .done))))))
abbrev g_q116_r6:GR:=(OP 0 22 (.bin .add (.tmp 12) (K 1)) (O1 1 12 22 .done))
abbrev g_q116_l7:GC:=(.seq (.reg g_q116_r3 [5,10,11,12,13]) (.seq (.cond (.tmp 13) .skip (.exit 0)) (.seq (.block 1 (.seq (.reg g_q116_r4 [5,7,10,11,12]) (.reg g_q116_r5 [5,10,11,12]))) (.reg g_q116_r6 [5,10,11,12]))))
abbrev g_q116_r8:GR:=(O1 0 23 5 (O1 1 4 23 .done))
abbrev g_q116:GC:=(.seq (.reg g_q116_r0 [0,1]) (.seq (.reg g_q116_r1 [1,5]) (.seq (.seq (.reg g_q116_r2 [5,10,11,12]) (.block 0 (.loop g_q116_l7))) (.seq (.reg g_q116_r8 [4]) .ret))))
abbrev rs_q116:List RV:=[(.tmp 4)]
theorem gc_q116:compileF Tryd.prog Tryd.f94 T_q116=some (g_q116,rs_q116):=by kernel_rfl
theorem con_q116 (hv:vc Tryd.prog y g_q116 (retQ rs_q116 R) [(0,a0),(1,a1)] h):ConX y Tryd.prog 94 #[a0,a1] h R:=con_of Tryd.func94 gc_q116 rfl (fun h=>absurd h (by decide)) hv
def T_q123:List (Nat×List Nat):=[(0,[0,1,2,3]),(1,[0,1,2,26]),(2,[8]),(3,[]),(4,[8])]
abbrev g_q123_r0:GR:=(OP 0 8 (.mv (.const (.bool false))) .done)
abbrev g_q123_r1:GR:=(O1 0 9 0 (O1 1 10 1 (O1 2 11 2 (OP 3 12 (.call 119 [(.tmp 9),(.tmp 10),(.tmp 11)]) (OP 4 13 (.not (.tmp 12)) (O1 5 14 13 (OG 6 15 14 false (.mv (.tmp 0)) (OG 7 16 14 false (.nilCheck (.tmp 15)) (OG 8 17 14 false (.fieldAddr 1 (.tmp 16)) (OG 9 18 14 false (.load none (.tmp 17)) (OG 10 19 14 false (.mv (.tmp 1)) (OG 11 20 14 false (.indexAddr 1 (.tmp 18) (.tmp 19)) (OG 12 21 14 false (.load none (.tmp 20)) (OG 13 22 14 false (.mv (.tmp 2)) (OG 14 23 14 false (.call 111 [(.tmp 21),(.tmp 22)]) (OG 15 24 14 false (.mv (.tmp 3)) (OG 16 25 14 false (.eqBool false (.tmp 23) (.tmp 24)) (OP 17 26 (.pick (.tmp 14) (.const (.bool true)) (.tmp 25)) .done))))))))))))))))))
abbrev g_q123_r2:GR:=(OP 0 8 (.mv (.const (.bool false))) .done)
abbrev g_q123_r3:GR:=(O1 0 27 0 (OP 1 28 (.nilCheck (.tmp 27)) (O3 2 29 1 28 (O6 3 30 29 (O1 4 31 1 (O4 5 32 1 30 31 (O6 6 33 32 (O1 7 34 2 (OP 8 35 (.bin .quo (.tmp 34) (K 64)) (O4 9 36 1 33 35 (O6 10 37 36 (O1 11 38 2 (OP 12 39 (.bin .rem (.tmp 38) (K 64)) (OP 13 40 (.shift .shl (.const (.int .u64 1)) (.tmp 39)) (O5 14 41 .xor 37 40 (O4 15 42 1 33 35 (OS 16 (.store 1 (.tmp 42) (.tmp 41)) .done)))))))))))))))))
abbrev g_q123_r4:GR:=(OP 0 8 (.mv (.const (.bool true))) .done)
abbrev g_q123:GC:=(.seq (.reg g_q123_r0 [0,1,2,3]) (.seq (.seq (.reg g_q123_r1 [0,1,2,26]) (.cond (.tmp 26) (.seq (.reg g_q123_r2 [8]) .ret) .skip)) (.seq (.reg g_q123_r3 []) (.seq (.reg g_q123_r4 [8]) .ret))))
abbrev rs_q123:List RV:=[(.tmp 8)]
theorem gc_q123:compileF Tryd.prog Tryd.f95 T_q123=some (g_q123,rs_q123):=by kernel_rfl
theorem con_q123 (hv:vc Tryd.prog y g_q123 (retQ rs_q123 R) [(0,a0),(1,a1),(2,a2),(3,a3)] h):ConX y Tryd.prog 95 #[a0,a1,a2,a3] h R:=con_of Tryd.func95 gc_q123 rfl (fun h=>absurd h (by decide)) hv
def T_q113:List (Nat×List Nat):=[(0,[0,2]),(1,[0,2,3]),(2,[2,3,15,16,17]),(3,[2,3,15,16,17,18]),(4,[2,3,4,5,15,16,17]),(5,[2,3,4,15,16,17,23]),(6,[3,4,6]),(7,[]),(8,[2,3,15,16,17]),(9,[2])]
abbrev g_q113_r0:GR:=(OP 0 2 (.mv (.const (.pointer none))) .done)
abbrev g_q113_r1:GR:=(O1 0 7 0 (OP 1 8 (.nilCheck (.tmp 7)) (O3 2 9 0 8 (O2 3 10 9 (OP 4 11 (.call 56 [(.tmp 10)]) (OP 5 3 (.alloc 80 [(.pointer none)]) (OS 6 (.store 1 (.tmp 3) (.tmp 11)) .done)))))))
abbrev g_q113_r2:GR:=(O1 0 12 0 (OP 1 13 (.nilCheck (.tmp 12)) (O3 2 14 1 13 (O2 3 15 14 (OP 4 16 (.len (.tmp 15)) (OP 5 17 (.mv (K 0)) .done))))))
abbrev g_q113_r3:GR:=(O5 0 18 .lss 17 16 .done)
abbrev g_q113_r4:GR:=(O1 0 19 17 (O4 1 20 1 15 17 (O2 2 21 20 (OP 3 4 (.alloc 3 [(.int .i64 0)]) (OS 4 (.store 1 (.tmp 4) (.tmp 19)) (O1 5 5 21 .done))))))
abbrev g_q113_r5:GR:=(O1 0 22 5 (OP 1 23 (.call 118 [(.tmp 22)]) .done))
abbrev g_q113_r6:GR:=(O1 0 6 24 .done)
abbrev g_q113_r7:GR:=(O6 0 25 3 (OP 1 26 (.nilCheck (.tmp 25)) (O3 2 27 1 26 (O6 3 28 27 (O1 4 29 6 (O4 5 30 1 28 29 (O6 6 31 30 (O6 7 32 4 (.op (GI.mk 8 (some 33) none (.call 140 [(.tmp 31),(.tmp 32)]) [0,3] false) .done)))))))))
abbrev g_q113_b8:GC:=(.block 3 (.reg g_q113_r7 []))
abbrev g_q113_r9:GR:=(OP 0 34 (.bin .add (.tmp 17) (K 1)) (O1 1 17 34 .done))
abbrev g_q113_l10:GC:=(.seq (.reg g_q113_r3 [2,3,15,16,17,18]) (.seq (.cond (.tmp 18) .skip (.exit 0)) (.seq (.block 1 (.seq (.reg g_q113_r4 [2,3,4,5,15,16,17]) (.seq (.reg g_q113_r5 [2,3,4,15,16,17,23]) (.block 2 (.rng (.tmp 23) [24] (.reg g_q113_r6 [3,4,6]) g_q113_b8))))) (.reg g_q113_r9 [2,3,15,16,17]))))
abbrev g_q113_r11:GR:=(O2 0 35 3 (O1 1 2 35 .done))
abbrev g_q113:GC:=(.seq (.reg g_q113_r0 [0,2]) (.seq (.reg g_q113_r1 [0,2,3]) (.seq (.seq (.reg g_q113_r2 [2,3,15,16,17]) (.block 0 (.loop g_q113_l10))) (.seq (.reg g_q113_r11 [2]) .ret))))
abbrev rs_q113:List RV:=[(.tmp 2)]
theorem gc_q113:compileF Tryd.prog Tryd.f96 T_q113=some (g_q113,rs_q113):=by kernel_rfl
theorem con_q113 (hR:∀ v h1 h2,Ext h.size h1 h2→R v h1→R v h2) (hv:vc Tryd.prog y g_q113 (retQ rs_q113 R) [(0,a0)] h):ConX y Tryd.prog 96 #[a0] h R:=con_of Tryd.func96 gc_q113 rfl (fun _=>hR) hv
def T_q131:List (Nat×List Nat):=[(0,[0,7,8,9]),(1,[0,7,8,9,10]),(2,[0,5,7,8,9]),(3,[0,5,7,8,9,17,18]),(4,[0,5,7,8,9,17,18,19]),(5,[0,5,6,7,8,9,17,18]),(6,[0,5,7,8,9,17,18]),(7,[0,5,7,8,9,17,18]),(8,[0,7,8,9])]
abbrev g_q131_r0:GR:=(O1 0 7 1 (OP 1 8 (.len (.tmp 7)) (OP 2 9 (.mv (K 0)) .done)))
abbrev g_q131_r1:GR:=(O5 0 10 .lss 9 8 .done)
abbrev g_q131_r2:GR:=(O4 0 11 1 7 9 (O2 1 12 11 (O1 2 5 12 .done)))
abbrev g_q131_r3:GR:=(O1 0 13 0 (OP 1 14 (.len (.tmp 13)) (O1 2 15 5 (OP 3 16 (.len (.tmp 15)) (OP 4 17 (.mini (.tmp 14) (.tmp 16)) (OP 5 18 (.mv (K 0)) .done))))))
abbrev g_q131_r4:GR:=(O5 0 19 .lss 18 17 .done)
abbrev g_q131_r5:GR:=(O1 0 20 18 (O1 1 6 20 .done))
abbrev g_q131_r6:GR:=(O1 0 21 0 (O1 1 22 6 (O4 2 23 1 21 22 (O6 3 24 23 (O1 4 25 5 (O1 5 26 6 (O4 6 27 1 25 26 (O6 7 28 27 (O5 8 29 .or 24 28 (O4 9 30 1 21 22 (OS 10 (.store 1 (.tmp 30) (.tmp 29)) .done)))))))))))
abbrev g_q131_r7:GR:=(OP 0 31 (.bin .add (.tmp 18) (K 1)) (O1 1 18 31 .done))
abbrev g_q131_l8:GC:=(.seq (.reg g_q131_r4 [0,5,7,8,9,17,18,19]) (.seq (.cond (.tmp 19) .skip (.exit 2)) (.seq (.block 3 (.seq (.reg g_q131_r5 [0,5,6,7,8,9,17,18]) (.reg g_q131_r6 [0,5,7,8,9,17,18]))) (.reg g_q131_r7 [0,5,7,8,9,17,18]))))
abbrev g_q131_r9:GR:=(OP 0 32 (.bin .add (.tmp 9) (K 1)) (O1 1 9 32 .done))
abbrev g_q131_l10:GC:=(.seq (.reg g_q131_r1 [0,7,8,9,10]) (.seq (.cond (.tmp 10) .skip (.exit 0)) (.seq (.block 1 (.seq (.reg g_q131_r2 [0,5,7,8,9]) (.seq (.reg g_q131_r3 [0,5,7,8,9,17,18]) (.block 2 (.loop g_q131_l8))))) (.reg g_q131_r9 [0,7,8,9]))))
abbrev g_q131:GC:=(.seq (.reg g_q131_r0 [0,7,8,9]) (.block 0 (.loop g_q131_l10)))
abbrev rs_q131:List RV:=[]
theorem gc_q131:compileF Tryd.prog Tryd.f100 T_q131=some (g_q131,rs_q131):=by kernel_rfl
theorem con_q131 (hv:vc Tryd.prog y g_q131 (retQ rs_q131 R) [(0,a0),(1,a1)] h):ConX y Tryd.prog 100 #[a0,a1] h R:=con_of Tryd.func100 gc_q131 rfl (fun h=>absurd h (by decide)) hv
def T_q114:List (Nat×List Nat):=[(0,[0,1]),(1,[4])]
abbrev g_q114_r0:GR:=(OP 0 4 (.mv (.const (.pointer none))) .done)
abbrev g_q114_r1:GR:=(O1 0 5 0 (O1 1 6 1 (OP 2 7 (.call 113 [(.tmp 5),(.tmp 6),(.const (.bool false))]) (O1 3 4 7 .done))))
abbrev g_q114:GC:=(.seq (.reg g_q114_r0 [0,1]) (.seq (.reg g_q114_r1 [4]) .ret))
abbrev rs_q114:List RV:=[(.tmp 4)]
theorem gc_q114:compileF Tryd.prog Tryd.f108 T_q114=some (g_q114,rs_q114):=by kernel_rfl
theorem con_q114 (hv:vc Tryd.prog y g_q114 (retQ rs_q114 R) [(0,a0),(1,a1)] h):ConX y Tryd.prog 108 #[a0,a1] h R:=con_of Tryd.func108 gc_q114 rfl (fun h=>absurd h (by decide)) hv
def T_q7:List (Nat×List Nat):=[(0,[0,1]),(1,[4])]
abbrev g_q7_r0:GR:=(OP 0 4 (.mv (.const (.pointer none))) .done)
abbrev g_q7_r1:GR:=(O1 0 5 0 (O1 1 6 0 (OP 2 7 (.nilCheck (.tmp 6)) (O3 3 8 0 7 (OP 4 9 (.load (some 8) (.tmp 8)) (O1 5 10 1 (OP 6 11 (.buildSlice 3 1 [(.int .i64 0)] [(0,(1,(.tmp 10)))]) (OP 7 12 (.call 120 [(.tmp 9),(.tmp 11)]) (OP 8 13 (.call 149 [(.tmp 5),(.tmp 12)]) (O1 9 4 13 .done))))))))))
abbrev g_q7:GC:=(.seq (.reg g_q7_r0 [0,1]) (.seq (.reg g_q7_r1 [4]) .ret))
abbrev rs_q7:List RV:=[(.tmp 4)]
theorem gc_q7:compileF Tryd.prog Tryd.f109 T_q7=some (g_q7,rs_q7):=by kernel_rfl
theorem con_q7 (hv:vc Tryd.prog y g_q7 (retQ rs_q7 R) [(0,a0),(1,a1)] h):ConX y Tryd.prog 109 #[a0,a1] h R:=con_of Tryd.func109 gc_q7 rfl (fun h=>absurd h (by decide)) hv
def T_q118:List (Nat×List Nat):=[(0,[0]),(1,[3]),(2,[3,11,12]),(3,[3,11,12,13]),(4,[3,4,11,12]),(5,[3,4,11,12,18,19]),(6,[3,4,11,12,18,19,20]),(7,[3,4,5,11,12,18,19]),(8,[3,4,5,11,12,18,19,30]),(9,[3,4,11,12,18,19]),(10,[3,4,11,12,18,19]),(11,[3,11,12]),(12,[2])]
abbrev g_q118_r0:GR:=(OP 0 2 (.mv (.const (.pointer none))) .done)
abbrev g_q118_r1:GR:=(O1 0 6 0 (OP 1 7 (.call 150 [(.tmp 6)]) (O1 2 3 7 .done)))
abbrev g_q118_r2:GR:=(O1 0 8 3 (OP 1 9 (.nilCheck (.tmp 8)) (O3 2 10 0 9 (O2 3 11 10 (OP 4 12 (.mv (K 0)) .done)))))
abbrev g_q118_r3:GR:=(O5 0 13 .lss 12 11 .done)
abbrev g_q118_r4:GR:=(O1 0 14 12 (O1 1 4 14 .done))
abbrev g_q118_r5:GR:=(O1 0 15 3 (OP 1 16 (.nilCheck (.tmp 15)) (O3 2 17 0 16 (O2 3 18 17 (OP 4 19 (.mv (K 0)) .done)))))
abbrev g_q118_r6:GR:=(O5 0 20 .lss 19 18 .done)
abbrev g_q118_r7:GR:=(O1 0 21 19 (O1 1 5 21 .done))
abbrev g_q118_r8:GR:=(O1 0 22 3 (OP 1 23 (.nilCheck (.tmp 22)) (O3 2 24 1 23 (O2 3 25 24 (O1 4 26 5 (O4 5 27 1 25 26 (O2 6 28 27 (O1 7 29 4 (OP 8 30 (.call 111 [(.tmp 28),(.tmp 29)]) .done)))))))))
abbrev g_q118_r9:GR:=(O1 0 31 3 (OP 1 32 (.nilCheck (.tmp 31)) (O3 2 33 1 32 (O6 3 34 33 (O1 4 35 5 (O4 5 36 1 34 35 (O6 6 37 36 (O1 7 38 3 (OP 8 39 (.nilCheck (.tmp 38)) (O3 9 40 1 39 (O6 10 41 40 (O1 11 42 4 (O4 12 43 1 41 42 (O6 13 44 43 (OP 14 45 (.buildSlice 145 1 [(.slice none 0 0)] [(0,(1,(.tmp 44)))]) (.op (GI.mk 15 (some 46) none (.call 100 [(.tmp 37),(.tmp 45)]) [3,10,13] false) .done))))))))))))))))
abbrev g_q118_r10:GR:=(OP 0 47 (.bin .add (.tmp 19) (K 1)) (O1 1 19 47 .done))
abbrev g_q118_l11:GC:=(.seq (.reg g_q118_r6 [3,4,11,12,18,19,20]) (.seq (.cond (.tmp 20) .skip (.exit 2)) (.seq (.block 3 (.seq (.reg g_q118_r7 [3,4,5,11,12,18,19]) (.seq (.reg g_q118_r8 [3,4,5,11,12,18,19,30]) (.cond (.tmp 30) (.reg g_q118_r9 [3,4,11,12,18,19]) .skip)))) (.reg g_q118_r10 [3,4,11,12,18,19]))))
abbrev g_q118_r12:GR:=(OP 0 48 (.bin .add (.tmp 12) (K 1)) (O1 1 12 48 .done))
abbrev g_q118_l13:GC:=(.seq (.reg g_q118_r3 [3,11,12,13]) (.seq (.cond (.tmp 13) .skip (.exit 0)) (.seq (.block 1 (.seq (.reg g_q118_r4 [3,4,11,12]) (.seq (.reg g_q118_r5 [3,4,11,12,18,19]) (.block 2 (.loop g_q118_l11))))) (.reg g_q118_r12 [3,11,12]))))
abbrev g_q118_r14:GR:=(O1 0 49 3 (O1 1 2 49 .done))
abbrev g_q118:GC:=(.seq (.reg g_q118_r0 [0]) (.seq (.reg g_q118_r1 [3]) (.seq (.seq (.reg g_q118_r2 [3,11,12]) (.block 0 (.loop g_q118_l13))) (.seq (.reg g_q118_r14 [2]) .ret))))
abbrev rs_q118:List RV:=[(.tmp 2)]
theorem gc_q118:compileF Tryd.prog Tryd.f110 T_q118=some (g_q118,rs_q118):=by kernel_rfl
theorem con_q118 (hv:vc Tryd.prog y g_q118 (retQ rs_q118 R) [(0,a0)] h):ConX y Tryd.prog 110 #[a0] h R:=con_of Tryd.func110 gc_q118 rfl (fun h=>absurd h (by decide)) hv
def T_q130:List (Nat×List Nat):=[(0,[0,1]),(1,[4])]
abbrev g_q130_r0:GR:=(OP 0 4 (.mv (.const (.bool false))) .done)
abbrev g_q130_r1:GR:=(O1 0 5 0 (O1 1 6 1 (OP 2 7 (.bin .quo (.tmp 6) (K 64)) (O4 3 8 1 5 7 (O2 4 9 8 (O1 5 10 1 (OP 6 11 (.bin .rem (.tmp 10) (K 64)) (OP 7 12 (.shift .shr (.tmp 9) (.tmp 11)) (OP 8 13 (.bin .and (.tmp 12) (.const (.int .u64 1))) (OP 9 14 (.bin .eql (.tmp 13) (.const (.int .u64 1))) (O1 10 4 14 .done)))))))))))
abbrev g_q130:GC:=(.seq (.reg g_q130_r0 [0,1]) (.seq (.reg g_q130_r1 [4]) .ret))
abbrev rs_q130:List RV:=[(.tmp 4)]
theorem gc_q130:compileF Tryd.prog Tryd.f111 T_q130=some (g_q130,rs_q130):=by kernel_rfl
theorem con_q130 (hv:vc Tryd.prog y g_q130 (retQ rs_q130 R) [(0,a0),(1,a1)] h):ConX y Tryd.prog 111 #[a0,a1] h R:=con_of Tryd.func111 gc_q130 rfl (fun h=>absurd h (by decide)) hv
def T_q125:List (Nat×List Nat):=[(0,[0,1,4]),(1,[0,1,4,5]),(2,[0,1,4,5,6]),(3,[0,1,4,5,6,7]),(4,[0,1,4,5,6,7,8]),(5,[0,1,4,5,6,7,8,27]),(6,[0,1,4,5,6,7,8]),(7,[0,1,4,5,6,7,8,9]),(8,[0,1,4,5,6,7,8,9,30,31,32]),(9,[0,1,4,5,6,7,8,9,30,31,32,33]),(10,[0,1,4,5,6,7,8,9,11,30,31,32]),(11,[0,1,4,5,6,7,8,9,30,31,32,43]),(12,[6,8,9,12]),(13,[6,8,9,12,49]),(14,[9,12]),(15,[]),(16,[0,1,4,5,6,7,8,9,30,31,32]),(17,[0,1,4,5,6,7,8]),(18,[0,1,4,5,6,7,60]),(19,[0,1,4,5,6,7,8]),(20,[0,1,4,6,13]),(21,[0,4,6,13,14]),(22,[0,4,6,13,14,69]),(23,[0,4,6,13,14]),(24,[0,4,6,13,14,84]),(25,[6,13,14,15]),(26,[13,15,91]),(27,[]),(28,[0,4,6,13,96]),(29,[0,4,6,13,14]),(30,[4])]
abbrev g_q125_r0:GR:=(OP 0 4 (.mv (.const (.slice none 0 0))) .done)
abbrev g_q125_r1:GR:=(O1 0 16 0 (OP 1 17 (.call 96 [(.tmp 16)]) (O1 2 5 17 .done)))
abbrev g_q125_r2:GR:=(O1 0 18 0 (OP 1 19 (.nilCheck (.tmp 18)) (O3 2 20 0 19 (O2 3 21 20 (OP 4 22 (.makeSlice 3 1 8 [(.int .i64 0)] (.tmp 21) (.tmp 21)) (OP 5 6 (.alloc 39 [(.slice none 0 0)]) (OS 6 (.store 1 (.tmp 6) (.tmp 22)) .done)))))))
abbrev g_q125_r3:GR:=(O1 0 23 1 (OP 1 24 (.buildSlice 3 1 [(.int .i64 0)] [(0,(1,(.tmp 23)))]) (O1 2 7 24 .done)))
abbrev g_q125_r4:GR:=(OP 0 8 (.alloc 3 [(.int .i64 0)]) (OS 1 (.store 1 (.tmp 8) (K 1)) .done))
abbrev g_q125_r5:GR:=(O1 0 25 7 (OP 1 26 (.len (.tmp 25)) (OP 2 27 (.bin .gtr (.tmp 26) (K 0)) .done)))
abbrev g_q125_r6:GR:=(OP 0 9 (.alloc 39 [(.slice none 0 0)]) .done)
abbrev g_q125_r7:GR:=(O1 0 30 7 (OP 1 31 (.len (.tmp 30)) (OP 2 32 (.mv (K 0)) .done)))
abbrev g_q125_r8:GR:=(O5 0 33 .lss 32 31 .done)
abbrev g_q125_r9:GR:=(O4 0 34 1 30 32 (O2 1 35 34 (O1 2 11 35 .done)))
abbrev g_q125_r10:GR:=(O1 0 36 5 (OP 1 37 (.nilCheck (.tmp 36)) (O3 2 38 1 37 (O2 3 39 38 (O1 4 40 11 (O4 5 41 1 39 40 (O2 6 42 41 (OP 7 43 (.call 118 [(.tmp 42)]) .done))))))))
abbrev g_q125_r11:GR:=(O1 0 12 44 .done)
abbrev g_q125_r12:GR:=(O2 0 45 6 (O1 1 46 12 (O4 2 47 1 45 46 (O2 3 48 47 (OP 4 49 (.bin .eql (.tmp 48) (K 0)) .done)))))
abbrev g_q125_r13:GR:=(O2 0 50 6 (O1 1 51 12 (O2 2 52 8 (O4 3 53 1 50 51 (OS 4 (.store 1 (.tmp 53) (.tmp 52)) .done)))))
abbrev g_q125_r14:GR:=(O2 0 54 9 (O1 1 55 12 (OP 2 56 (.buildSlice 3 1 [(.int .i64 0)] [(0,(1,(.tmp 55)))]) (OP 3 57 (.append 3 1 8 [(.int .i64 0)] (.tmp 54) (.tmp 56)) (OS 4 (.store 1 (.tmp 9) (.tmp 57)) .done)))))
abbrev g_q125_b15:GC:=(.block 5 (.seq (.reg g_q125_r12 [6,8,9,12,49]) (.cond (.tmp 49) (.seq (.reg g_q125_r13 [9,12]) (.reg g_q125_r14 [])) .skip)))
abbrev g_q125_r16:GR:=(OP 0 58 (.bin .add (.tmp 32) (K 1)) (O1 1 32 58 .done))
abbrev g_q125_l17:GC:=(.seq (.reg g_q125_r8 [0,1,4,5,6,7,8,9,30,31,32,33]) (.seq (.cond (.tmp 33) .skip (.exit 2)) (.seq (.block 3 (.seq (.reg g_q125_r9 [0,1,4,5,6,7,8,9,11,30,31,32]) (.seq (.reg g_q125_r10 [0,1,4,5,6,7,8,9,30,31,32,43]) (.block 4 (.rng (.tmp 43) [44] (.reg g_q125_r11 [6,8,9,12]) g_q125_b15))))) (.reg g_q125_r16 [0,1,4,5,6,7,8,9,30,31,32]))))
abbrev g_q125_r18:GR:=(O2 0 59 9 (O1 1 7 59 .done))
abbrev g_q125_r19:GR:=(O2 0 60 8 .done)
abbrev g_q125_r20:GR:=(OP 0 8 (.alloc 3 [(.int .i64 0)]) (OS 1 (.store 1 (.tmp 8) (.tmp 60)) .done))
abbrev g_q125_r21:GR:=(O2 0 28 8 (OP 1 29 (.bin .add (.tmp 28) (K 1)) (OS 2 (.store 1 (.tmp 8) (.tmp 29)) .done)))
abbrev g_q125_l22:GC:=(.seq (.seq (.reg g_q125_r5 [0,1,4,5,6,7,8,27]) (.cond (.tmp 27) .skip (.exit 0))) (.seq (.block 1 (.seq (.reg g_q125_r6 [0,1,4,5,6,7,8,9]) (.seq (.seq (.reg g_q125_r7 [0,1,4,5,6,7,8,9,30,31,32]) (.block 2 (.loop g_q125_l17))) (.reg g_q125_r18 [0,1,4,5,6,7,8])))) (.seq (.seq (.reg g_q125_r19 [0,1,4,5,6,7,60]) (.reg g_q125_r20 [0,1,4,5,6,7,8])) (.reg g_q125_r21 [0,1,4,5,6,7,8]))))
abbrev g_q125_r23:GR:=(O1 0 61 1 (OP 1 62 (.buildSlice 3 1 [(.int .i64 0)] [(0,(1,(.tmp 61)))]) (OP 2 13 (.alloc 39 [(.slice none 0 0)]) (OS 3 (.store 1 (.tmp 13) (.tmp 62)) .done))))
abbrev g_q125_r24:GR:=(O2 0 63 6 (O1 1 64 1 (O4 2 65 1 63 64 (O2 3 66 65 (OP 4 67 (.bin .sub (.tmp 66) (K 1)) (OP 5 14 (.alloc 3 [(.int .i64 0)]) (OS 6 (.store 1 (.tmp 14) (.tmp 67)) .done)))))))
abbrev g_q125_r25:GR:=(O2 0 68 14 (OP 1 69 (.bin .gtr (.tmp 68) (K 0)) .done))
abbrev g_q125_r26:GR:=(O1 0 72 0 (OP 1 73 (.nilCheck (.tmp 72)) (O3 2 74 1 73 (O6 3 75 74 (O6 4 76 13 (O6 5 77 13 (OP 6 78 (.len (.tmp 77)) (OP 7 79 (.bin .sub (.tmp 78) (K 1)) (O4 8 80 1 76 79 (O6 9 81 80 (O4 10 82 1 75 81 (O6 11 83 82 (.op (GI.mk 12 (some 84) none (.call 118 [(.tmp 83)]) [3,4,5,9] false) .done)))))))))))))
abbrev g_q125_r27:GR:=(O1 0 15 85 .done)
abbrev g_q125_r28:GR:=(O6 0 86 6 (O1 1 87 15 (O4 2 88 1 86 87 (O6 3 89 88 (O6 4 90 14 (O5 5 91 .eql 89 90 .done))))))
abbrev g_q125_r29:GR:=(O2 0 92 13 (O1 1 93 15 (OP 2 94 (.buildSlice 3 1 [(.int .i64 0)] [(0,(1,(.tmp 93)))]) (OP 3 95 (.append 3 1 8 [(.int .i64 0)] (.tmp 92) (.tmp 94)) (OS 4 (.store 1 (.tmp 13) (.tmp 95)) .done)))))
abbrev g_q125_b30:GC:=(.block 9 (.seq (.reg g_q125_r28 [13,15,91]) (.cond (.tmp 91) (.seq (.reg g_q125_r29 []) (.exit 8)) .skip)))
abbrev g_q125_r31:GR:=(O2 0 96 14 .done)
abbrev g_q125_r32:GR:=(OP 0 14 (.alloc 3 [(.int .i64 0)]) (OS 1 (.store 1 (.tmp 14) (.tmp 96)) .done))
abbrev g_q125_r33:GR:=(O2 0 70 14 (OP 1 71 (.bin .sub (.tmp 70) (K 1)) (OS 2 (.store 1 (.tmp 14) (.tmp 71)) .done)))
abbrev g_q125_l34:GC:=(.seq (.seq (.reg g_q125_r25 [0,4,6,13,14,69]) (.cond (.tmp 69) .skip (.exit 6))) (.seq (.block 7 (.seq (.reg g_q125_r26 [0,4,6,13,14,84]) (.block 8 (.rng (.tmp 84) [85] (.reg g_q125_r27 [6,13,14,15]) g_q125_b30)))) (.seq (.seq (.reg g_q125_r31 [0,4,6,13,96]) (.reg g_q125_r32 [0,4,6,13,14])) (.reg g_q125_r33 [0,4,6,13,14]))))
abbrev g_q125_r35:GR:=(O2 0 97 13 (O1 1 4 97 .done))
abbrev g_q125:GC:=(.seq (.reg g_q125_r0 [0,1,4]) (.seq (.reg g_q125_r1 [0,1,4,5]) (.seq (.reg g_q125_r2 [0,1,4,5,6]) (.seq (.reg g_q125_r3 [0,1,4,5,6,7]) (.seq (.seq (.reg g_q125_r4 [0,1,4,5,6,7,8]) (.block 0 (.loop g_q125_l22))) (.seq (.reg g_q125_r23 [0,1,4,6,13]) (.seq (.seq (.reg g_q125_r24 [0,4,6,13,14]) (.block 6 (.loop g_q125_l34))) (.seq (.reg g_q125_r35 [4]) .ret))))))))
abbrev rs_q125:List RV:=[(.tmp 4)]
theorem gc_q125:compileF Tryd.prog Tryd.f112 T_q125=some (g_q125,rs_q125):=by kernel_rfl
theorem con_q125 (hR:∀ v h1 h2,Ext h.size h1 h2→R v h1→R v h2) (hv:vc Tryd.prog y g_q125 (retQ rs_q125 R) [(0,a0),(1,a1)] h):ConX y Tryd.prog 112 #[a0,a1] h R:=con_of Tryd.func112 gc_q125 rfl (fun _=>hR) hv
def T_q129:List (Nat×List Nat):=[(0,[0,4,5,6]),(1,[4,5,6,7]),(2,[4,5,6,7,20,21,22]),(3,[4,5,6,7,20,21,22,23]),(4,[4,5,6,7,8,9,20,21,22]),(5,[4,5,6,7,8,20,21,22,30]),(6,[4,5,7,8,10]),(7,[7,8,10,37]),(8,[]),(9,[4,5,6,7,20,21,22]),(10,[6])]
abbrev g_q129_r0:GR:=(OP 0 4 (.box 80 (.tmp 1)) (OP 1 5 (.box 4 (.tmp 2)) (OP 2 6 (.mv (.const (.pointer none))) .done)))
abbrev g_q129_r1:GR:=(O1 0 11 0 (O2 1 12 4 (OP 2 13 (.nilCheck (.tmp 12)) (O3 3 14 0 13 (O2 4 15 14 (OP 5 16 (.call 151 [(.tmp 11),(.tmp 15)]) (OP 6 7 (.alloc 80 [(.pointer none)]) (OS 7 (.store 1 (.tmp 7) (.tmp 16)) .done))))))))
abbrev g_q129_r2:GR:=(O2 0 17 7 (OP 1 18 (.nilCheck (.tmp 17)) (O3 2 19 1 18 (O2 3 20 19 (OP 4 21 (.len (.tmp 20)) (OP 5 22 (.mv (K 0)) .done))))))
abbrev g_q129_r3:GR:=(O5 0 23 .lss 22 21 .done)
abbrev g_q129_r4:GR:=(O1 0 24 22 (O4 1 25 1 20 22 (O2 2 26 25 (OP 3 8 (.alloc 3 [(.int .i64 0)]) (OS 4 (.store 1 (.tmp 8) (.tmp 24)) (O1 5 9 26 .done))))))
abbrev g_q129_r5:GR:=(O1 0 27 9 (OP 1 28 (.call 118 [(.tmp 27)]) (OP 2 29 (.call 153 [(.tmp 28)]) (OP 3 30 (.call 152 [(.tmp 29)]) .done))))
abbrev g_q129_r6:GR:=(O1 0 10 31 .done)
abbrev g_q129_r7:GR:=(O6 0 32 4 (O6 1 33 8 (O1 2 34 10 (O6 4 36 5 (.op (GI.mk 3 (some 35) none (.call 76 [(.tmp 32),(.tmp 33),(.tmp 34)]) [4] false) (OP 5 37 (.eqBool true (.tmp 35) (.tmp 36)) .done))))))
abbrev g_q129_r8:GR:=(O2 0 38 7 (O2 1 39 8 (O1 2 40 10 (OP 3 41 (.call 95 [(.tmp 38),(.tmp 39),(.tmp 40),(.const (.bool false))]) .done))))
abbrev g_q129_b9:GC:=(.block 3 (.seq (.reg g_q129_r7 [7,8,10,37]) (.cond (.tmp 37) (.reg g_q129_r8 []) .skip)))
abbrev g_q129_r10:GR:=(OP 0 42 (.bin .add (.tmp 22) (K 1)) (O1 1 22 42 .done))
abbrev g_q129_l11:GC:=(.seq (.reg g_q129_r3 [4,5,6,7,20,21,22,23]) (.seq (.cond (.tmp 23) .skip (.exit 0)) (.seq (.block 1 (.seq (.reg g_q129_r4 [4,5,6,7,8,9,20,21,22]) (.seq (.reg g_q129_r5 [4,5,6,7,8,20,21,22,30]) (.block 2 (.rng (.tmp 30) [31] (.reg g_q129_r6 [4,5,7,8,10]) g_q129_b9))))) (.reg g_q129_r10 [4,5,6,7,20,21,22]))))
abbrev g_q129_r12:GR:=(O2 0 43 7 (O1 1 6 43 .done))
abbrev g_q129:GC:=(.seq (.reg g_q129_r0 [0,4,5,6]) (.seq (.reg g_q129_r1 [4,5,6,7]) (.seq (.seq (.reg g_q129_r2 [4,5,6,7,20,21,22]) (.block 0 (.loop g_q129_l11))) (.seq (.reg g_q129_r12 [6]) .ret))))
abbrev rs_q129:List RV:=[(.tmp 6)]
theorem gc_q129:compileF Tryd.prog Tryd.f113 T_q129=some (g_q129,rs_q129):=by kernel_rfl
theorem con_q129 (hR:∀ v h1 h2,Ext h.size h1 h2→R v h1→R v h2) (hv:vc Tryd.prog y g_q129 (retQ rs_q129 R) [(0,a0),(1,a1),(2,a2)] h):ConX y Tryd.prog 113 #[a0,a1,a2] h R:=con_of Tryd.func113 gc_q129 rfl (fun _=>hR) hv
def T_q8:List (Nat×List Nat):=[(0,[0]),(1,[2])]
abbrev g_q8_r0:GR:=(OP 0 2 (.mv (.const (.pointer none))) .done)
abbrev g_q8_r1:GR:=(O1 0 3 0 (OP 1 4 (.nilCheck (.tmp 3)) (O3 2 5 21 4 (O6 3 6 5 (O1 4 7 0 (OP 5 8 (.nilCheck (.tmp 7)) (O3 6 9 23 8 (O6 7 10 9 (O1 8 11 0 (OP 9 12 (.nilCheck (.tmp 11)) (O3 10 13 25 12 (O6 11 14 13 (OP 12 15 (.buildSlice 80 3 [(.pointer none),(.pointer none),(.pointer none)] [(0,(1,(.tmp 6))),(1,(1,(.tmp 10))),(2,(1,(.tmp 14)))]) (.op (GI.mk 13 (some 16) none (.call 58 [(.tmp 15)]) [3,7,11] false) (O1 14 2 16 .done)))))))))))))))
abbrev g_q8:GC:=(.seq (.reg g_q8_r0 [0]) (.seq (.reg g_q8_r1 [2]) .ret))
abbrev rs_q8:List RV:=[(.tmp 2)]
theorem gc_q8:compileF Tryd.prog Tryd.f114 T_q8=some (g_q8,rs_q8):=by kernel_rfl
theorem con_q8 (hv:vc Tryd.prog y g_q8 (retQ rs_q8 R) [(0,a0)] h):ConX y Tryd.prog 114 #[a0] h R:=con_of Tryd.func114 gc_q8 rfl (fun h=>absurd h (by decide)) hv
def T_q5:List (Nat×List Nat):=[(0,[0]),(1,[0,3]),(2,[2])]
abbrev g_q5_r0:GR:=(OP 0 2 (.mv (.const (.pointer none))) .done)
abbrev g_q5_r1:GR:=(O1 0 4 0 (O1 1 5 0 (OP 2 6 (.nilCheck (.tmp 5)) (O3 3 7 8 6 (O3 4 8 11 7 (O2 5 9 8 (OP 6 10 (.call 149 [(.tmp 4),(.tmp 9)]) (O1 7 3 10 .done))))))))
abbrev g_q5_r2:GR:=(O1 0 11 0 (OP 1 12 (.nilCheck (.tmp 11)) (O3 2 13 8 12 (O3 3 14 7 13 (O6 4 15 14 (O1 5 16 0 (OP 6 17 (.nilCheck (.tmp 16)) (O3 7 18 8 17 (O3 8 19 8 18 (O6 9 20 19 (O1 10 21 0 (OP 11 22 (.nilCheck (.tmp 21)) (O3 12 23 8 22 (O3 13 24 9 23 (O6 14 25 24 (O1 15 26 3 (O1 18 29 0 (OP 19 30 (.nilCheck (.tmp 29)) (O3 20 31 8 30 (O3 21 32 7 31 (O6 22 33 32 (O1 23 34 0 (OP 24 35 (.nilCheck (.tmp 34)) (O3 25 36 8 35 (O3 26 37 0 36 (O6 27 38 37 (O1 28 39 3 (O1 31 42 0 (OP 32 43 (.nilCheck (.tmp 42)) (O3 33 44 8 43 (O3 34 45 9 44 (O6 35 46 45 (O1 36 47 0 (OP 37 48 (.nilCheck (.tmp 47)) (O3 38 49 8 48 (O3 39 50 8 49 (O6 40 51 50 (O1 43 54 0 (OP 44 55 (.nilCheck (.tmp 54)) (O3 45 56 24 55 (O6 46 57 56 (O1 49 60 0 (OP 50 61 (.nilCheck (.tmp 60)) (O3 51 62 8 61 (O3 52 63 7 62 (O6 53 64 63 (O1 54 65 0 (OP 55 66 (.nilCheck (.tmp 65)) (O3 56 67 8 66 (O3 57 68 8 67 (O6 58 69 68 (O1 61 72 0 (OP 62 73 (.nilCheck (.tmp 72)) (O3 63 74 22 73 (O6 64 75 74 (.free [27,28,40,41,52,53,58,59,70,71,76,77,78,79,2] [(FI.mk (GI.mk 16 (some 27) none (.buildSlice 80 1 [(.pointer none)] [(0,(1,(.tmp 26)))]) [] false) []),(FI.mk (GI.mk 17 (some 28) none (.call 154 [(.tmp 25),(.tmp 27)]) [] false) [(16,27)]),(FI.mk (GI.mk 29 (some 40) none (.buildSlice 80 2 [(.pointer none),(.pointer none)] [(0,(1,(.tmp 38))),(1,(1,(.tmp 39)))]) [] false) []),(FI.mk (GI.mk 30 (some 41) none (.call 154 [(.tmp 33),(.tmp 40)]) [] false) [(29,40),(17,28)]),(FI.mk (GI.mk 41 (some 52) none (.buildSlice 80 2 [(.pointer none),(.pointer none)] [(0,(1,(.tmp 46))),(1,(1,(.tmp 51)))]) [] false) []),(FI.mk (GI.mk 42 (some 53) none (.call 58 [(.tmp 52)]) [] false) [(41,52),(30,41)]),(FI.mk (GI.mk 47 (some 58) none (.buildSlice 80 1 [(.pointer none)] [(0,(1,(.tmp 57)))]) [] false) []),(FI.mk (GI.mk 48 (some 59) none (.call 154 [(.tmp 53),(.tmp 58)]) [] false) [(47,58),(42,53)]),(FI.mk (GI.mk 59 (some 70) none (.buildSlice 80 2 [(.pointer none),(.pointer none)] [(0,(1,(.tmp 64))),(1,(1,(.tmp 69)))]) [] false) []),(FI.mk (GI.mk 60 (some 71) none (.call 58 [(.tmp 70)]) [] false) [(59,70),(48,59)]),(FI.mk (GI.mk 65 (some 76) none (.buildSlice 80 1 [(.pointer none)] [(0,(1,(.tmp 75)))]) [] false) []),(FI.mk (GI.mk 66 (some 77) none (.call 154 [(.tmp 71),(.tmp 76)]) [] false) [(65,76),(60,71)]),(FI.mk (GI.mk 67 (some 78) none (.buildSlice 80 6 [(.pointer none),(.pointer none),(.pointer none),(.pointer none),(.pointer none),(.pointer none)] [(0,(1,(.tmp 15))),(1,(1,(.tmp 20))),(2,(1,(.tmp 28))),(3,(1,(.tmp 41))),(4,(1,(.tmp 59))),(5,(1,(.tmp 77)))]) [] false) [(17,28),(30,41),(48,59),(66,77)]),(FI.mk (GI.mk 68 (some 79) none (.call 58 [(.tmp 78)]) [] false) [(67,78),(66,77)]),(FI.mk (GI.mk 69 (some 2) none (.mv (.tmp 79)) [] false) [(16,27),(17,28),(29,40),(30,41),(41,52),(42,53),(47,58),(48,59),(59,70),(60,71),(65,76),(66,77),(67,78),(68,79)])] .done))))))))))))))))))))))))))))))))))))))))))))))))))))))))
abbrev g_q5:GC:=(.seq (.reg g_q5_r0 [0]) (.seq (.reg g_q5_r1 [0,3]) (.seq (.reg g_q5_r2 [2]) .ret)))
abbrev rs_q5:List RV:=[(.tmp 2)]
theorem gc_q5:compileF Tryd.prog Tryd.f115 T_q5=some (g_q5,rs_q5):=by kernel_rfl
theorem con_q5 (hv:vc Tryd.prog y g_q5 (retQ rs_q5 R) [(0,a0)] h):ConX y Tryd.prog 115 #[a0] h R:=con_of Tryd.func115 gc_q5 rfl (fun h=>absurd h (by decide)) hv
def T_q3:List (Nat×List Nat):=[(0,[0]),(1,[0,3]),(2,[0,3,17,18,19]),(3,[0,3,17,18,19,20]),(4,[0,3,5,17,18,19]),(5,[0,3,17,18,19]),(6,[0,3,17,18,19]),(7,[2])]
abbrev g_q3_r0:GR:=(OP 0 2 (.mv (.const (.pointer none))) .done)
abbrev g_q3_r1:GR:=(O1 0 6 0 (OP 1 7 (.nilCheck (.tmp 6)) (O3 2 8 0 7 (O3 3 9 1 8 (O2 4 10 9 (OP 5 11 (.len (.tmp 10)) (OP 6 12 (.makeSlice 4 1 1 [(.bool false)] (.tmp 11) (.tmp 11)) (O1 7 3 12 .done))))))))
abbrev g_q3_r2:GR:=(O1 0 13 0 (OP 1 14 (.nilCheck (.tmp 13)) (O3 2 15 0 14 (O3 3 16 4 15 (O2 4 17 16 (OP 5 18 (.len (.tmp 17)) (OP 6 19 (.mv (K 0)) .done)))))))
abbrev g_q3_r3:GR:=(O5 0 20 .lss 19 18 .done)
abbrev g_q3_r4:GR:=(O4 0 21 2 17 19 (OP 1 22 (.load (some 2) (.tmp 21)) (OP 2 5 (.alloc 38 [(.int .i64 0),(.int .i64 0)]) (OS 3 (.store 2 (.tmp 5) (.tmp 22)) .done))))
abbrev g_q3_r5:GR:=(O1 0 23 3 (O3 1 24 1 5 (O2 2 25 24 (O4 3 26 1 23 25 (OS 4 (.store 1 (.tmp 26) (.const (.bool true))) .done)))))
abbrev g_q3_r6:GR:=(OP 0 27 (.bin .add (.tmp 19) (K 1)) (O1 1 19 27 .done))
abbrev g_q3_l7:GC:=(.seq (.reg g_q3_r3 [0,3,17,18,19,20]) (.seq (.cond (.tmp 20) .skip (.exit 0)) (.seq (.block 1 (.seq (.reg g_q3_r4 [0,3,5,17,18,19]) (.reg g_q3_r5 [0,3,17,18,19]))) (.reg g_q3_r6 [0,3,17,18,19]))))
abbrev g_q3_r8:GR:=(O1 0 28 0 (OP 1 29 (.nilCheck (.tmp 28)) (O3 2 30 8 29 (O3 3 31 4 30 (O6 4 32 31 (O1 5 33 0 (O1 6 34 3 (O1 8 36 0 (OP 9 37 (.nilCheck (.tmp 36)) (O3 10 38 22 37 (O6 11 39 38 (O1 12 40 0 (OP 13 41 (.nilCheck (.tmp 40)) (O3 14 42 26 41 (O6 15 43 42 (.two (.op (GI.mk 7 (some 35) none (.call 149 [(.tmp 33),(.tmp 34)]) [4,11,15] false) (OP 16 44 (.buildSlice 80 2 [(.pointer none),(.pointer none)] [(0,(1,(.tmp 39))),(1,(1,(.tmp 43)))]) (.op (GI.mk 17 (some 45) none (.call 154 [(.tmp 35),(.tmp 44)]) [4,11,15] false) (OP 18 46 (.buildSlice 80 2 [(.pointer none),(.pointer none)] [(0,(1,(.tmp 32))),(1,(1,(.tmp 45)))]) (.op (GI.mk 19 (some 47) none (.call 58 [(.tmp 46)]) [4,11,15] false) (O1 20 2 47 .done)))))) (OP 16 44 (.buildSlice 80 2 [(.pointer none),(.pointer none)] [(0,(1,(.tmp 39))),(1,(1,(.tmp 43)))]) (.op (GI.mk 7 (some 35) none (.call 149 [(.tmp 33),(.tmp 34)]) [4,11,15] false) (.op (GI.mk 17 (some 45) none (.call 154 [(.tmp 35),(.tmp 44)]) [4,11,15] false) (OP 18 46 (.buildSlice 80 2 [(.pointer none),(.pointer none)] [(0,(1,(.tmp 32))),(1,(1,(.tmp 45)))]) (.op (GI.mk 19 (some 47) none (.call 58 [(.tmp 46)]) [4,11,15] false) (O1 20 2 47 .done))))))))))))))))))))))
abbrev g_q3:GC:=(.seq (.reg g_q3_r0 [0]) (.seq (.reg g_q3_r1 [0,3]) (.seq (.seq (.reg g_q3_r2 [0,3,17,18,19]) (.block 0 (.loop g_q3_l7))) (.seq (.reg g_q3_r8 [2]) .ret))))
abbrev rs_q3:List RV:=[(.tmp 2)]
theorem gc_q3:compileF Tryd.prog Tryd.f116 T_q3=some (g_q3,rs_q3):=by kernel_rfl
theorem con_q3 (hv:vc Tryd.prog y g_q3 (retQ rs_q3 R) [(0,a0)] h):ConX y Tryd.prog 116 #[a0] h R:=con_of Tryd.func116 gc_q3 rfl (fun h=>absurd h (by decide)) hv
def T_q4:List (Nat×List Nat):=[(0,[0]),(1,[0,3,4]),(2,[2])]
abbrev g_q4_r0:GR:=(OP 0 2 (.mv (.const (.pointer none))) .done)
abbrev g_q4_r1:GR:=(O1 0 5 0 (OP 1 6 (.call 109 [(.tmp 5),(K 12)]) (O1 2 7 0 (OP 3 8 (.call 109 [(.tmp 7),(K 13)]) (O1 4 3 6 (O1 5 4 8 .done))))))
abbrev g_q4_r2:GR:=(O1 0 9 0 (OP 1 10 (.nilCheck (.tmp 9)) (O3 2 11 8 10 (O3 3 12 0 11 (O6 4 13 12 (O1 5 14 0 (O1 7 16 0 (OP 8 17 (.nilCheck (.tmp 16)) (O3 9 18 8 17 (O3 10 19 0 18 (O6 11 20 19 (O1 14 23 0 (O1 15 24 0 (OP 16 25 (.nilCheck (.tmp 24)) (O3 17 26 8 25 (O3 18 27 10 26 (O6 19 28 27 (O1 21 30 0 (OP 22 31 (.nilCheck (.tmp 30)) (O3 23 32 8 31 (O3 24 33 0 32 (O6 25 34 33 (O1 26 35 0 (O1 28 37 0 (OP 29 38 (.nilCheck (.tmp 37)) (O3 30 39 8 38 (O3 31 40 0 39 (O6 32 41 40 (O1 35 44 4 (O1 36 45 0 (OP 37 46 (.nilCheck (.tmp 45)) (O3 38 47 8 46 (O3 39 48 0 47 (O6 40 49 48 (O1 41 50 3 (O1 44 53 0 (OP 45 54 (.nilCheck (.tmp 53)) (O3 46 55 26 54 (O6 47 56 55 (O1 48 57 0 (OP 49 58 (.nilCheck (.tmp 57)) (O3 50 59 8 58 (O3 51 60 0 59 (O6 52 61 60 (O1 55 64 0 (OP 56 65 (.nilCheck (.tmp 64)) (O3 57 66 8 65 (O3 58 67 0 66 (O6 59 68 67 (O1 60 69 4 (O1 63 72 0 (OP 64 73 (.nilCheck (.tmp 72)) (O3 65 74 8 73 (O3 66 75 0 74 (O6 67 76 75 (O1 68 77 4 (O1 69 78 0 (OP 70 79 (.nilCheck (.tmp 78)) (O3 71 80 24 79 (O6 72 81 80 (.free [15,21,22,29,36,42,43,51,52,62,63,70,71,82,83,84,85,2] [(FI.mk (GI.mk 6 (some 15) none (.call 109 [(.tmp 14),(K 15)]) [] false) []),(FI.mk (GI.mk 12 (some 21) none (.buildSlice 80 2 [(.pointer none),(.pointer none)] [(0,(1,(.tmp 15))),(1,(1,(.tmp 20)))]) [] false) [(6,15)]),(FI.mk (GI.mk 13 (some 22) none (.call 154 [(.tmp 13),(.tmp 21)]) [] false) [(12,21),(6,15)]),(FI.mk (GI.mk 20 (some 29) none (.call 149 [(.tmp 23),(.tmp 28)]) [] false) [(13,22)]),(FI.mk (GI.mk 27 (some 36) none (.call 109 [(.tmp 35),(K 14)]) [] false) [(20,29)]),(FI.mk (GI.mk 33 (some 42) none (.buildSlice 80 3 [(.pointer none),(.pointer none),(.pointer none)] [(0,(1,(.tmp 34))),(1,(1,(.tmp 36))),(2,(1,(.tmp 41)))]) [] false) [(27,36)]),(FI.mk (GI.mk 34 (some 43) none (.call 154 [(.tmp 29),(.tmp 42)]) [] false) [(20,29),(33,42),(27,36)]),(FI.mk (GI.mk 42 (some 51) none (.buildSlice 80 2 [(.pointer none),(.pointer none)] [(0,(1,(.tmp 49))),(1,(1,(.tmp 50)))]) [] false) []),(FI.mk (GI.mk 43 (some 52) none (.call 154 [(.tmp 44),(.tmp 51)]) [] false) [(42,51),(34,43)]),(FI.mk (GI.mk 53 (some 62) none (.buildSlice 80 1 [(.pointer none)] [(0,(1,(.tmp 61)))]) [] false) []),(FI.mk (GI.mk 54 (some 63) none (.call 154 [(.tmp 56),(.tmp 62)]) [] false) [(53,62),(43,52)]),(FI.mk (GI.mk 61 (some 70) none (.buildSlice 80 1 [(.pointer none)] [(0,(1,(.tmp 69)))]) [] false) []),(FI.mk (GI.mk 62 (some 71) none (.call 154 [(.tmp 68),(.tmp 70)]) [] false) [(61,70),(54,63)]),(FI.mk (GI.mk 73 (some 82) none (.buildSlice 80 2 [(.pointer none),(.pointer none)] [(0,(1,(.tmp 77))),(1,(1,(.tmp 81)))]) [] false) []),(FI.mk (GI.mk 74 (some 83) none (.call 154 [(.tmp 76),(.tmp 82)]) [] false) [(73,82),(62,71)]),(FI.mk (GI.mk 75 (some 84) none (.buildSlice 80 6 [(.pointer none),(.pointer none),(.pointer none),(.pointer none),(.pointer none),(.pointer none)] [(0,(1,(.tmp 22))),(1,(1,(.tmp 43))),(2,(1,(.tmp 52))),(3,(1,(.tmp 63))),(4,(1,(.tmp 71))),(5,(1,(.tmp 83)))]) [] false) [(13,22),(34,43),(43,52),(54,63),(62,71),(74,83)]),(FI.mk (GI.mk 76 (some 85) none (.call 58 [(.tmp 84)]) [] false) [(75,84),(74,83)]),(FI.mk (GI.mk 77 (some 2) none (.mv (.tmp 85)) [] false) [(6,15),(12,21),(13,22),(20,29),(27,36),(33,42),(34,43),(42,51),(43,52),(53,62),(54,63),(61,70),(62,71),(73,82),(74,83),(75,84),(76,85)])] .done)))))))))))))))))))))))))))))))))))))))))))))))))))))))))))))
abbrev g_q4:GC:=(.seq (.reg g_q4_r0 [0]) (.seq (.reg g_q4_r1 [0,3,4]) (.seq (.reg g_q4_r2 [2]) .ret)))
abbrev rs_q4:List RV:=[(.tmp 2)]
theorem gc_q4:compileF Tryd.prog Tryd.f117 T_q4=some (g_q4,rs_q4):=by kernel_rfl
theorem con_q4 (hv:vc Tryd.prog y g_q4 (retQ rs_q4 R) [(0,a0)] h):ConX y Tryd.prog 117 #[a0] h R:=con_of Tryd.func117 gc_q4 rfl (fun h=>absurd h (by decide)) hv
def T_q132:List (Nat×List Nat):=[(0,[1]),(1,[2])]
abbrev g_q132_r0:GR:=(OP 0 1 (.box 145 (.tmp 0)) (OP 1 2 (.mv (.const Value.nilFunc)) .done))
abbrev g_q132_r1:GR:=(OP 0 3 (.makeFunc (Fn.func 155) [] [(.tmp 1)]) (O1 1 2 3 .done))
abbrev g_q132:GC:=(.seq (.reg g_q132_r0 [1]) (.seq (.reg g_q132_r1 [2]) .ret))
abbrev rs_q132:List RV:=[(.tmp 2)]
theorem gc_q132:compileF Tryd.prog Tryd.f118 T_q132=some (g_q132,rs_q132):=by kernel_rfl
theorem con_q132 (hv:vc Tryd.prog y g_q132 (retQ rs_q132 R) [(0,a0)] h):ConX y Tryd.prog 118 #[a0] h R:=con_of Tryd.func118 gc_q132 rfl (fun h=>absurd h (by decide)) hv
def T_q124:List (Nat×List Nat):=[(0,[0,1,2]),(1,[6])]
abbrev g_q124_r0:GR:=(OP 0 6 (.mv (.const (.bool false))) .done)
abbrev g_q124_r1:GR:=(O1 0 7 1 (OP 1 8 (.bin .geq (.tmp 7) (K 0)) (O1 2 9 8 (OG 3 10 9 true (.mv (.tmp 1)) (OG 4 11 9 true (.mv (.tmp 0)) (OG 5 12 9 true (.nilCheck (.tmp 11)) (OG 6 13 9 true (.fieldAddr 0 (.tmp 12)) (OG 7 14 9 true (.load none (.tmp 13)) (OG 8 15 9 true (.bin .lss (.tmp 10) (.tmp 14)) (OP 9 16 (.pick (.tmp 9) (.tmp 15) (.const (.bool false))) (O1 10 17 16 (OG 11 18 17 true (.mv (.tmp 2)) (OG 12 19 17 true (.bin .geq (.tmp 18) (K 0)) (OP 13 20 (.pick (.tmp 17) (.tmp 19) (.const (.bool false))) (O1 14 21 20 (OG 15 22 21 true (.mv (.tmp 2)) (OG 16 23 21 true (.mv (.tmp 0)) (OG 17 24 21 true (.nilCheck (.tmp 23)) (OG 18 25 21 true (.fieldAddr 0 (.tmp 24)) (OG 19 26 21 true (.load none (.tmp 25)) (OG 20 27 21 true (.bin .lss (.tmp 22) (.tmp 26)) (OP 21 28 (.pick (.tmp 21) (.tmp 27) (.const (.bool false))) (O1 22 6 28 .done)))))))))))))))))))))))
abbrev g_q124:GC:=(.seq (.reg g_q124_r0 [0,1,2]) (.seq (.reg g_q124_r1 [6]) .ret))
abbrev rs_q124:List RV:=[(.tmp 6)]
theorem gc_q124:compileF Tryd.prog Tryd.f119 T_q124=some (g_q124,rs_q124):=by kernel_rfl
theorem con_q124 (hv:vc Tryd.prog y g_q124 (retQ rs_q124 R) [(0,a0),(1,a1),(2,a2)] h):ConX y Tryd.prog 119 #[a0,a1,a2] h R:=con_of Tryd.func119 gc_q124 rfl (fun h=>absurd h (by decide)) hv
def T_q15:List (Nat×List Nat):=[(0,[1,2]),(1,[1,2,5]),(2,[1,5,13,14,15]),(3,[1,5,13,14,15,16]),(4,[1,5,6,7,13,14,15]),(5,[1,5,13,14,15]),(6,[1,5,13,14,15]),(7,[4])]
abbrev g_q15_r0:GR:=(OP 0 2 (.box 26 (.tmp 0)) (OP 1 4 (.mv (.const (.slice none 0 0))) .done))
abbrev g_q15_r1:GR:=(O3 0 8 1 2 (O2 1 9 8 (OP 2 10 (.len (.tmp 9)) (OP 3 11 (.makeSlice 4 1 1 [(.bool false)] (.tmp 10) (.tmp 10)) (O1 4 5 11 .done)))))
abbrev g_q15_r2:GR:=(O3 0 12 1 2 (O2 1 13 12 (OP 2 14 (.len (.tmp 13)) (OP 3 15 (.mv (K 0)) .done))))
abbrev g_q15_r3:GR:=(O5 0 16 .lss 15 14 .done)
abbrev g_q15_r4:GR:=(O1 0 17 15 (O4 1 18 5 13 15 (OP 2 19 (.load (some 5) (.tmp 18)) (OP 3 7 (.alloc 36 [(.int .i64 0),(.int .i64 0),(.int .i64 0),(.int .u64 0),(.int .i64 0)]) (O1 4 6 17 (OS 5 (.store 5 (.tmp 7) (.tmp 19)) .done))))))
abbrev g_q15_r5:GR:=(O1 0 20 5 (O1 1 21 6 (O1 2 22 1 (O3 3 23 4 7 (O2 4 24 23 (OP 5 25 (.call 133 [(.tmp 22),(.tmp 24)]) (O4 6 26 1 20 21 (OS 7 (.store 1 (.tmp 26) (.tmp 25)) .done))))))))
abbrev g_q15_r6:GR:=(OP 0 27 (.bin .add (.tmp 15) (K 1)) (O1 1 15 27 .done))
abbrev g_q15_l7:GC:=(.seq (.reg g_q15_r3 [1,5,13,14,15,16]) (.seq (.cond (.tmp 16) .skip (.exit 0)) (.seq (.block 1 (.seq (.reg g_q15_r4 [1,5,6,7,13,14,15]) (.reg g_q15_r5 [1,5,13,14,15]))) (.reg g_q15_r6 [1,5,13,14,15]))))
abbrev g_q15_r8:GR:=(O1 0 28 5 (O1 1 4 28 .done))
abbrev g_q15:GC:=(.seq (.reg g_q15_r0 [1,2]) (.seq (.reg g_q15_r1 [1,2,5]) (.seq (.seq (.reg g_q15_r2 [1,5,13,14,15]) (.block 0 (.loop g_q15_l7))) (.seq (.reg g_q15_r8 [4]) .ret))))
abbrev rs_q15:List RV:=[(.tmp 4)]
theorem gc_q15:compileF Tryd.prog Tryd.f120 T_q15=some (g_q15,rs_q15):=by kernel_rfl
theorem con_q15 (hv:vc Tryd.prog y g_q15 (retQ rs_q15 R) [(0,a0),(1,a1)] h):ConX y Tryd.prog 120 #[a0,a1] h R:=con_of Tryd.func120 gc_q15 rfl (fun h=>absurd h (by decide)) hv
def T_q111:List (Nat×List Nat):=[(0,[0,1]),(1,[1,5]),(2,[5,10,11,12]),(3,[5,10,11,12,13]),(4,[5,6,7,10,11,12]),(5,[5,6,10,11,12,17]),(6,[5,10,11,12]),(7,[5,10,11,12]),(8,[4])]
abbrev g_q111_r0:GR:=(OP 0 4 (.mv (.const (.pointer none))) .done)
abbrev g_q111_r1:GR:=(O1 0 8 0 (OP 1 9 (.call 56 [(.tmp 8)]) (O1 2 5 9 .done)))
abbrev g_q111_r2:GR:=(O1 0 10 1 (OP 1 11 (.len (.tmp 10)) (OP 2 12 (.mv (K 0)) .done)))
abbrev g_q111_r3:GR:=(O5 0 13 .lss 12 11 .done)
abbrev g_q111_r4:GR:=(O1 0 14 12 (O4 1 15 1 10 12 (O2 2 16 15 (O1 3 6 14 (O1 4 7 16 .done)))))
abbrev g_q111_r5:GR:=(O1 0 17 7 .done)
abbrev g_q111_r6:GR:=(O1 0 18 5 (O1 1 19 6 (O1 2 20 6 (OP 3 21 (.call 95 [(.tmp 18),(.tmp 19),(.tmp 20),(.const (.bool true))]) .done))))
abbrev g_q111_r7:GR:=(OP 0 22 (.bin .add (.tmp 12) (K 1)) (O1 1 12 22 .done))
abbrev g_q111_l8:GC:=(.seq (.reg g_q111_r3 [5,10,11,12,13]) (.seq (.cond (.tmp 13) .skip (.exit 0)) (.seq (.block 1 (.seq (.reg g_q111_r4 [5,6,7,10,11,12]) (.seq (.reg g_q111_r5 [5,6,10,11,12,17]) (.cond (.tmp 17) (.reg g_q111_r6 [5,10,11,12]) .skip)))) (.reg g_q111_r7 [5,10,11,12]))))
abbrev g_q111_r9:GR:=(O1 0 23 5 (O1 1 4 23 .done))
abbrev g_q111:GC:=(.seq (.reg g_q111_r0 [0,1]) (.seq (.reg g_q111_r1 [1,5]) (.seq (.seq (.reg g_q111_r2 [5,10,11,12]) (.block 0 (.loop g_q111_l8))) (.seq (.reg g_q111_r9 [4]) .ret))))
abbrev rs_q111:List RV:=[(.tmp 4)]
theorem gc_q111:compileF Tryd.prog Tryd.f121 T_q111=some (g_q111,rs_q111):=by kernel_rfl
theorem con_q111 (hv:vc Tryd.prog y g_q111 (retQ rs_q111 R) [(0,a0),(1,a1)] h):ConX y Tryd.prog 121 #[a0,a1] h R:=con_of Tryd.func121 gc_q111 rfl (fun h=>absurd h (by decide)) hv
def T_q109:List (Nat×List Nat):=[(0,[0,1,5,6]),(1,[0,1,5,6,7]),(2,[1,5,6,7,19,20,21]),(3,[1,5,6,7,19,20,21,22]),(4,[1,5,6,7,8,9,19,20,21]),(5,[1,5,6,7,8,9,19,20,21,36]),(6,[1,5,6,7,8,19,20,21,38]),(7,[5,7,8,10]),(8,[7,8,10,49]),(9,[]),(10,[1,5,6,7,19,20,21]),(11,[6])]
abbrev g_q109_r0:GR:=(OP 0 5 (.box 78 (.tmp 2)) (OP 1 6 (.mv (.const (.pointer none))) .done))
abbrev g_q109_r1:GR:=(O1 0 11 0 (OP 1 12 (.nilCheck (.tmp 11)) (O3 2 13 0 12 (O2 3 14 13 (OP 4 15 (.call 56 [(.tmp 14)]) (OP 5 7 (.alloc 80 [(.pointer none)]) (OS 6 (.store 1 (.tmp 7) (.tmp 15)) .done)))))))
abbrev g_q109_r2:GR:=(O1 0 16 0 (OP 1 17 (.nilCheck (.tmp 16)) (O3 2 18 1 17 (O2 3 19 18 (OP 4 20 (.len (.tmp 19)) (OP 5 21 (.mv (K 0)) .done))))))
abbrev g_q109_r3:GR:=(O5 0 22 .lss 21 20 .done)
abbrev g_q109_r4:GR:=(O1 0 23 21 (O4 1 24 1 19 21 (O2 2 25 24 (OP 3 8 (.alloc 3 [(.int .i64 0)]) (OS 4 (.store 1 (.tmp 8) (.tmp 23)) (O1 5 9 25 .done))))))
abbrev g_q109_r5:GR:=(O2 0 26 8 (O1 1 27 1 (OP 2 28 (.len (.tmp 27)) (O5 3 29 .geq 26 28 (O1 4 30 29 (OG 5 31 30 false (.mv (.tmp 1)) (OG 6 32 30 false (.load none (.tmp 8)) (OG 7 33 30 false (.indexAddr 1 (.tmp 31) (.tmp 32)) (OG 8 34 30 false (.load none (.tmp 33)) (OG 9 35 30 false (.not (.tmp 34)) (OP 10 36 (.pick (.tmp 30) (.const (.bool true)) (.tmp 35)) .done)))))))))))
abbrev g_q109_r6:GR:=(O1 0 37 9 (OP 1 38 (.call 118 [(.tmp 37)]) .done))
abbrev g_q109_r7:GR:=(O1 0 10 39 .done)
abbrev g_q109_r8:GR:=(O1 0 40 10 (O2 1 41 5 (OP 2 42 (.len (.tmp 41)) (O5 3 43 .lss 40 42 (O1 4 44 43 (OG 5 45 44 true (.load none (.tmp 5)) (OG 6 46 44 true (.mv (.tmp 10)) (OG 7 47 44 true (.indexAddr 1 (.tmp 45) (.tmp 46)) (OG 8 48 44 true (.load none (.tmp 47)) (OP 9 49 (.pick (.tmp 44) (.tmp 48) (.const (.bool false))) .done))))))))))
abbrev g_q109_r9:GR:=(O6 0 50 7 (OP 1 51 (.nilCheck (.tmp 50)) (O3 2 52 1 51 (O6 3 53 52 (O6 4 54 8 (O4 5 55 1 53 54 (O6 6 56 55 (O1 7 57 10 (.op (GI.mk 8 (some 58) none (.call 140 [(.tmp 56),(.tmp 57)]) [0,3,4] false) .done)))))))))
abbrev g_q109_b10:GC:=(.block 3 (.seq (.reg g_q109_r8 [7,8,10,49]) (.cond (.tmp 49) (.reg g_q109_r9 []) .skip)))
abbrev g_q109_r11:GR:=(OP 0 59 (.bin .add (.tmp 21) (K 1)) (O1 1 21 59 .done))
abbrev g_q109_l12:GC:=(.seq (.reg g_q109_r3 [1,5,6,7,19,20,21,22]) (.seq (.cond (.tmp 22) .skip (.exit 0)) (.seq (.block 1 (.seq (.reg g_q109_r4 [1,5,6,7,8,9,19,20,21]) (.seq (.seq (.reg g_q109_r5 [1,5,6,7,8,9,19,20,21,36]) (.cond (.tmp 36) (.exit 1) .skip)) (.seq (.reg g_q109_r6 [1,5,6,7,8,19,20,21,38]) (.block 2 (.rng (.tmp 38) [39] (.reg g_q109_r7 [5,7,8,10]) g_q109_b10)))))) (.reg g_q109_r11 [1,5,6,7,19,20,21]))))
abbrev g_q109_r13:GR:=(O2 0 60 7 (O1 1 6 60 .done))
abbrev g_q109:GC:=(.seq (.reg g_q109_r0 [0,1,5,6]) (.seq (.reg g_q109_r1 [0,1,5,6,7]) (.seq (.seq (.reg g_q109_r2 [1,5,6,7,19,20,21]) (.block 0 (.loop g_q109_l12))) (.seq (.reg g_q109_r13 [6]) .ret))))
abbrev rs_q109:List RV:=[(.tmp 6)]
theorem gc_q109:compileF Tryd.prog Tryd.f122 T_q109=some (g_q109,rs_q109):=by kernel_rfl
theorem con_q109 (hR:∀ v h1 h2,Ext h.size h1 h2→R v h1→R v h2) (hv:vc Tryd.prog y g_q109 (retQ rs_q109 R) [(0,a0),(1,a1),(2,a2)] h):ConX y Tryd.prog 122 #[a0,a1,a2] h R:=con_of Tryd.func122 gc_q109 rfl (fun _=>hR) hv
def T_q152:List (Nat×List Nat):=[(0,[0]),(1,[0,3]),(2,[0,3,9,10,11]),(3,[0,3,9,10,11,12]),(4,[0,3,5,9,10,11]),(5,[0,3,9,10,11]),(6,[0,3,9,10,11,20]),(7,[0,3,9,10,11]),(8,[0,3,9,10,11]),(9,[0,6]),(10,[6,25,26,27]),(11,[6,25,26,27,28]),(12,[6,8,25,26,27]),(13,[6,25,26,27]),(14,[6,25,26,27]),(15,[2])]
abbrev g_q152_r0:GR:=(OP 0 2 (.mv (.const (.slice none 0 0))) .done)
abbrev g_q152_r1:GR:=(OP 0 3 (.mv (K 0)) .done)
abbrev g_q152_r2:GR:=(O1 0 9 0 (OP 1 10 (.len (.tmp 9)) (OP 2 11 (.mv (K 0)) .done)))
abbrev g_q152_r3:GR:=(O5 0 12 .lss 11 10 .done)
abbrev g_q152_r4:GR:=(O4 0 13 1 9 11 (O2 1 14 13 (O1 2 5 14 .done)))
abbrev g_q152_r5:GR:=(O1 0 15 3 (O1 1 16 5 (OP 2 17 (.len (.tmp 16)) (O5 3 18 .add 15 17 (O1 4 3 18 .done)))))
abbrev g_q152_r6:GR:=(O1 0 19 3 (OP 1 20 (.bin .lss (.tmp 19) (K 0)) .done))
abbrev g_q152_r7:GR:=(OP 0 21 .never (OS 1 .never .done))
abbrev g_q152_r8:GR:=(OP 0 22 (.bin .add (.tmp 11) (K 1)) (O1 1 11 22 .done))
abbrev g_q152_l9:GC:=(.seq (.reg g_q152_r3 [0,3,9,10,11,12]) (.seq (.cond (.tmp 12) .skip (.exit 0)) (.seq (.block 1 (.seq (.reg g_q152_r4 [0,3,5,9,10,11]) (.seq (.reg g_q152_r5 [0,3,9,10,11]) (.seq (.reg g_q152_r6 [0,3,9,10,11,20]) (.cond (.tmp 20) (.reg g_q152_r7 [0,3,9,10,11]) .skip))))) (.reg g_q152_r8 [0,3,9,10,11]))))
abbrev g_q152_r10:GR:=(O1 0 23 3 (OP 1 24 (.call 157 [(.const (.slice none 0 0)),(.tmp 23)]) (O1 2 6 24 .done)))
abbrev g_q152_r11:GR:=(O1 0 25 0 (OP 1 26 (.len (.tmp 25)) (OP 2 27 (.mv (K 0)) .done)))
abbrev g_q152_r12:GR:=(O5 0 28 .lss 27 26 .done)
abbrev g_q152_r13:GR:=(O4 0 29 1 25 27 (O2 1 30 29 (O1 2 8 30 .done)))
abbrev g_q152_r14:GR:=(O1 0 31 6 (O1 1 32 8 (OP 2 33 (.append 80 1 8 [(.pointer none)] (.tmp 31) (.tmp 32)) (O1 3 6 33 .done))))
abbrev g_q152_r15:GR:=(OP 0 34 (.bin .add (.tmp 27) (K 1)) (O1 1 27 34 .done))
abbrev g_q152_l16:GC:=(.seq (.reg g_q152_r12 [6,25,26,27,28]) (.seq (.cond (.tmp 28) .skip (.exit 2)) (.seq (.block 3 (.seq (.reg g_q152_r13 [6,8,25,26,27]) (.reg g_q152_r14 [6,25,26,27]))) (.reg g_q152_r15 [6,25,26,27]))))
abbrev g_q152_r17:GR:=(O1 0 35 6 (O1 1 2 35 .done))
abbrev g_q152:GC:=(.seq (.reg g_q152_r0 [0]) (.seq (.reg g_q152_r1 [0,3]) (.seq (.seq (.reg g_q152_r2 [0,3,9,10,11]) (.block 0 (.loop g_q152_l9))) (.seq (.reg g_q152_r10 [0,6]) (.seq (.seq (.reg g_q152_r11 [6,25,26,27]) (.block 2 (.loop g_q152_l16))) (.seq (.reg g_q152_r17 [2]) .ret))))))
abbrev rs_q152:List RV:=[(.tmp 2)]
theorem gc_q152:compileF Tryd.prog Tryd.f123 T_q152=some (g_q152,rs_q152):=by kernel_rfl
theorem con_q152 (hv:vc Tryd.prog y g_q152 (retQ rs_q152 R) [(0,a0)] h):ConX y Tryd.prog 123 #[a0] h R:=con_of Tryd.func123 gc_q152 rfl (fun h=>absurd h (by decide)) hv
def T_q64:List (Nat×List Nat):=[(0,[0,1,2]),(1,[1,2,7]),(2,[1,2,7,8]),(3,[2,7,8,20,21,22]),(4,[2,7,8,20,21,22,23]),(5,[2,7,8,9,10,20,21,22]),(6,[2,7,8,20,21,22]),(7,[2,7,8,20,21,22]),(8,[6])]
abbrev g_q64_r0:GR:=(OP 0 6 (.mv (.const (.pointer none))) .done)
abbrev g_q64_r1:GR:=(O1 0 11 0 (OP 1 12 (.nilCheck (.tmp 11)) (O3 2 13 0 12 (OP 3 14 (.load (some 8) (.tmp 13)) (O1 4 15 2 (OP 5 16 (.call 120 [(.tmp 14),(.tmp 15)]) (O1 6 7 16 .done)))))))
abbrev g_q64_r2:GR:=(O1 0 17 1 (OP 1 18 (.len (.tmp 17)) (OP 2 19 (.makeSlice 4 1 1 [(.bool false)] (.tmp 18) (.tmp 18)) (O1 3 8 19 .done))))
abbrev g_q64_r3:GR:=(O1 0 20 1 (OP 1 21 (.len (.tmp 20)) (OP 2 22 (.mv (K 0)) .done)))
abbrev g_q64_r4:GR:=(O5 0 23 .lss 22 21 .done)
abbrev g_q64_r5:GR:=(O1 0 24 22 (O4 1 25 1 20 22 (O2 2 26 25 (O1 3 9 24 (O1 4 10 26 .done)))))
abbrev g_q64_r6:GR:=(O1 0 27 8 (O1 1 28 9 (O1 2 29 10 (O1 3 30 29 (OG 4 31 30 true (.mv (.tmp 2)) (OG 5 32 30 true (.len (.tmp 31)) (OG 6 33 30 true (.bin .eql (.tmp 32) (K 0)) (OG 7 34 30 true (.mv (.tmp 33)) (OG 8 35 34 false (.mv (.tmp 7)) (OG 9 36 34 false (.mv (.tmp 9)) (OG 10 37 34 false (.indexAddr 1 (.tmp 35) (.tmp 36)) (OG 11 38 34 false (.load none (.tmp 37)) (OG 12 39 30 true (.pick (.tmp 34) (.const (.bool true)) (.tmp 38)) (OP 13 40 (.pick (.tmp 30) (.tmp 39) (.const (.bool false))) (O4 14 41 1 27 28 (OS 15 (.store 1 (.tmp 41) (.tmp 40)) .done))))))))))))))))
abbrev g_q64_r7:GR:=(OP 0 42 (.bin .add (.tmp 22) (K 1)) (O1 1 22 42 .done))
abbrev g_q64_l8:GC:=(.seq (.reg g_q64_r4 [2,7,8,20,21,22,23]) (.seq (.cond (.tmp 23) .skip (.exit 0)) (.seq (.block 1 (.seq (.reg g_q64_r5 [2,7,8,9,10,20,21,22]) (.reg g_q64_r6 [2,7,8,20,21,22]))) (.reg g_q64_r7 [2,7,8,20,21,22]))))
abbrev g_q64_r9:GR:=(O1 0 43 8 (OP 1 44 (.len (.tmp 43)) (O1 2 45 8 (OP 3 46 (.call 121 [(.tmp 44),(.tmp 45)]) (O1 4 6 46 .done)))))
abbrev g_q64:GC:=(.seq (.reg g_q64_r0 [0,1,2]) (.seq (.reg g_q64_r1 [1,2,7]) (.seq (.reg g_q64_r2 [1,2,7,8]) (.seq (.seq (.reg g_q64_r3 [2,7,8,20,21,22]) (.block 0 (.loop g_q64_l8))) (.seq (.reg g_q64_r9 [6]) .ret)))))
abbrev rs_q64:List RV:=[(.tmp 6)]
theorem gc_q64:compileF Tryd.prog Tryd.f124 T_q64=some (g_q64,rs_q64):=by kernel_rfl
theorem con_q64 (hv:vc Tryd.prog y g_q64 (retQ rs_q64 R) [(0,a0),(1,a1),(2,a2)] h):ConX y Tryd.prog 124 #[a0,a1,a2] h R:=con_of Tryd.func124 gc_q64 rfl (fun h=>absurd h (by decide)) hv
def T_q60:List (Nat×List Nat):=[(0,[0,1]),(1,[0,7,8,9]),(2,[0,7,8,9,10]),(3,[0,6,7,8,9]),(4,[0,7,8,9]),(5,[0,7,8,9]),(6,[4])]
abbrev g_q60_r0:GR:=(OP 0 4 (.mv (.const (.pointer none))) .done)
abbrev g_q60_r1:GR:=(O1 0 7 1 (OP 1 8 (.len (.tmp 7)) (OP 2 9 (.mv (K 0)) .done)))
abbrev g_q60_r2:GR:=(O5 0 10 .lss 9 8 .done)
abbrev g_q60_r3:GR:=(O4 0 11 1 7 9 (O2 1 12 11 (O1 2 6 12 .done)))
abbrev g_q60_r4:GR:=(O1 0 13 0 (O1 1 14 6 (OP 2 15 (.call 75 [(.tmp 13),(.tmp 14)]) (O1 3 0 15 .done))))
abbrev g_q60_r5:GR:=(OP 0 16 (.bin .add (.tmp 9) (K 1)) (O1 1 9 16 .done))
abbrev g_q60_l6:GC:=(.seq (.reg g_q60_r2 [0,7,8,9,10]) (.seq (.cond (.tmp 10) .skip (.exit 0)) (.seq (.block 1 (.seq (.reg g_q60_r3 [0,6,7,8,9]) (.reg g_q60_r4 [0,7,8,9]))) (.reg g_q60_r5 [0,7,8,9]))))
abbrev g_q60_r7:GR:=(O1 0 17 0 (O1 1 4 17 .done))
abbrev g_q60:GC:=(.seq (.reg g_q60_r0 [0,1]) (.seq (.seq (.reg g_q60_r1 [0,7,8,9]) (.block 0 (.loop g_q60_l6))) (.seq (.reg g_q60_r7 [4]) .ret)))
abbrev rs_q60:List RV:=[(.tmp 4)]
theorem gc_q60:compileF Tryd.prog Tryd.f125 T_q60=some (g_q60,rs_q60):=by kernel_rfl
theorem con_q60 (hv:vc Tryd.prog y g_q60 (retQ rs_q60 R) [(0,a0),(1,a1)] h):ConX y Tryd.prog 125 #[a0,a1] h R:=con_of Tryd.func125 gc_q60 rfl (fun h=>absurd h (by decide)) hv
def T_q117:List (Nat×List Nat):=[(0,[0]),(1,[3]),(2,[3,10,11]),(3,[3,10,11,12]),(4,[3,4,10,11]),(5,[3,10,11]),(6,[3,10,11]),(7,[2])]
abbrev g_q117_r0:GR:=(OP 0 2 (.mv (.const (.pointer none))) .done)
abbrev g_q117_r1:GR:=(O1 0 5 0 (OP 1 6 (.call 150 [(.tmp 5)]) (O1 2 3 6 .done)))
abbrev g_q117_r2:GR:=(O1 0 7 3 (OP 1 8 (.nilCheck (.tmp 7)) (O3 2 9 0 8 (O2 3 10 9 (OP 4 11 (.mv (K 0)) .done)))))
abbrev g_q117_r3:GR:=(O5 0 12 .lss 11 10 .done)
abbrev g_q117_r4:GR:=(O1 0 13 11 (O1 1 4 13 .done))
abbrev g_q117_r5:GR:=(O1 0 14 3 (OP 1 15 (.nilCheck (.tmp 14)) (O3 2 16 1 15 (O2 3 17 16 (O1 4 18 4 (O4 5 19 1 17 18 (O2 6 20 19 (O1 7 21 4 (OP 8 22 (.call 140 [(.tmp 20),(.tmp 21)]) .done)))))))))
abbrev g_q117_r6:GR:=(OP 0 23 (.bin .add (.tmp 11) (K 1)) (O1 1 11 23 .done))
abbrev g_q117_l7:GC:=(.seq (.reg g_q117_r3 [3,10,11,12]) (.seq (.cond (.tmp 12) .skip (.exit 0)) (.seq (.block 1 (.seq (.reg g_q117_r4 [3,4,10,11]) (.reg g_q117_r5 [3,10,11]))) (.reg g_q117_r6 [3,10,11]))))
abbrev g_q117_r8:GR:=(O1 0 24 3 (O1 1 2 24 .done))
abbrev g_q117:GC:=(.seq (.reg g_q117_r0 [0]) (.seq (.reg g_q117_r1 [3]) (.seq (.seq (.reg g_q117_r2 [3,10,11]) (.block 0 (.loop g_q117_l7))) (.seq (.reg g_q117_r8 [2]) .ret))))
abbrev rs_q117:List RV:=[(.tmp 2)]
theorem gc_q117:compileF Tryd.prog Tryd.f126 T_q117=some (g_q117,rs_q117):=by kernel_rfl
theorem con_q117 (hv:vc Tryd.prog y g_q117 (retQ rs_q117 R) [(0,a0)] h):ConX y Tryd.prog 126 #[a0] h R:=con_of Tryd.func126 gc_q117 rfl (fun h=>absurd h (by decide)) hv
def T_q127:List (Nat×List Nat):=[(0,[0]),(1,[2])]
abbrev g_q127_r0:GR:=(OP 0 2 (.mv (.const (.pointer none))) .done)
abbrev g_q127_r1:GR:=(O1 0 3 0 (OP 1 4 (.call 110 [(.tmp 3)]) (OP 2 5 (.call 126 [(.tmp 4)]) (O1 3 2 5 .done))))
abbrev g_q127:GC:=(.seq (.reg g_q127_r0 [0]) (.seq (.reg g_q127_r1 [2]) .ret))
abbrev rs_q127:List RV:=[(.tmp 2)]
theorem gc_q127:compileF Tryd.prog Tryd.f127 T_q127=some (g_q127,rs_q127):=by kernel_rfl
theorem con_q127 (hv:vc Tryd.prog y g_q127 (retQ rs_q127 R) [(0,a0)] h):ConX y Tryd.prog 127 #[a0] h R:=con_of Tryd.func127 gc_q127 rfl (fun h=>absurd h (by decide)) hv
def T_q63:List (Nat×List Nat):=[(0,[0]),(1,[0,10,11]),(2,[0,10,11,12]),(3,[0,3,10,11]),(4,[0,3,10,11,21]),(5,[2]),(6,[0,3,10,11,29,30]),(7,[0,3,10,11,29,30,31]),(8,[0,3,4,10,11,29,30]),(9,[0,3,4,10,11,29,30,50]),(10,[2]),(11,[0,3,10,11,29,30]),(12,[0,10,11]),(13,[2])]
abbrev g_q63_r0:GR:=(OP 0 2 (.mv (.const (.slice none 0 0))) .done)
abbrev g_q63_r1:GR:=(O1 0 5 0 (OP 1 6 (.nilCheck (.tmp 5)) (O3 2 7 0 6 (O3 3 8 1 7 (O2 4 9 8 (OP 5 10 (.len (.tmp 9)) (OP 6 11 (.mv (K 0)) .done)))))))
abbrev g_q63_r2:GR:=(O5 0 12 .lss 11 10 .done)
abbrev g_q63_r3:GR:=(O1 0 13 11 (O1 1 3 13 .done))
abbrev g_q63_r4:GR:=(O1 0 14 0 (OP 1 15 (.nilCheck (.tmp 14)) (O3 2 16 21 15 (O3 3 17 2 16 (O2 4 18 17 (O1 5 19 3 (O1 6 20 3 (OP 7 21 (.call 76 [(.tmp 18),(.tmp 19),(.tmp 20)]) .done))))))))
abbrev g_q63_r5:GR:=(O1 0 22 3 (OP 1 23 (.buildSlice 3 1 [(.int .i64 0)] [(0,(1,(.tmp 22)))]) (O1 2 2 23 .done)))
abbrev g_q63_r6:GR:=(O1 0 24 0 (OP 1 25 (.nilCheck (.tmp 24)) (O3 2 26 0 25 (O3 3 27 1 26 (O2 4 28 27 (OP 5 29 (.len (.tmp 28)) (OP 6 30 (.mv (K 0)) .done)))))))
abbrev g_q63_r7:GR:=(O5 0 31 .lss 30 29 .done)
abbrev g_q63_r8:GR:=(O1 0 32 30 (O1 1 4 32 .done))
abbrev g_q63_r9:GR:=(O1 0 33 0 (OP 1 34 (.nilCheck (.tmp 33)) (O3 2 35 21 34 (O3 3 36 2 35 (O2 4 37 36 (O1 5 38 3 (O1 6 39 4 (OP 7 40 (.call 76 [(.tmp 37),(.tmp 38),(.tmp 39)]) (O1 8 41 40 (OG 9 42 41 true (.mv (.tmp 0)) (OG 10 43 41 true (.nilCheck (.tmp 42)) (OG 11 44 41 true (.fieldAddr 21 (.tmp 43)) (OG 12 45 41 true (.fieldAddr 3 (.tmp 44)) (OG 13 46 41 true (.load none (.tmp 45)) (OG 14 47 41 true (.mv (.tmp 4)) (OG 15 48 41 true (.mv (.tmp 3)) (OG 16 49 41 true (.call 76 [(.tmp 46),(.tmp 47),(.tmp 48)]) (OP 17 50 (.pick (.tmp 41) (.tmp 49) (.const (.bool false))) .done))))))))))))))))))
abbrev g_q63_r10:GR:=(O1 0 51 3 (O1 1 52 4 (OP 2 53 (.buildSlice 3 2 [(.int .i64 0),(.int .i64 0)] [(0,(1,(.tmp 51))),(1,(1,(.tmp 52)))]) (O1 3 2 53 .done))))
abbrev g_q63_r11:GR:=(OP 0 54 (.bin .add (.tmp 30) (K 1)) (O1 1 30 54 .done))
abbrev g_q63_l12:GC:=(.seq (.reg g_q63_r7 [0,3,10,11,29,30,31]) (.seq (.cond (.tmp 31) .skip (.exit 2)) (.seq (.block 3 (.seq (.reg g_q63_r8 [0,3,4,10,11,29,30]) (.seq (.reg g_q63_r9 [0,3,4,10,11,29,30,50]) (.cond (.tmp 50) (.seq (.reg g_q63_r10 [2]) .ret) .skip)))) (.reg g_q63_r11 [0,3,10,11,29,30]))))
abbrev g_q63_r13:GR:=(OP 0 55 (.bin .add (.tmp 11) (K 1)) (O1 1 11 55 .done))
abbrev g_q63_l14:GC:=(.seq (.reg g_q63_r2 [0,10,11,12]) (.seq (.cond (.tmp 12) .skip (.exit 0)) (.seq (.block 1 (.seq (.reg g_q63_r3 [0,3,10,11]) (.seq (.seq (.reg g_q63_r4 [0,3,10,11,21]) (.cond (.tmp 21) (.seq (.reg g_q63_r5 [2]) .ret) .skip)) (.seq (.reg g_q63_r6 [0,3,10,11,29,30]) (.block 2 (.loop g_q63_l12)))))) (.reg g_q63_r13 [0,10,11]))))
abbrev g_q63_r15:GR:=(OP 0 2 (.mv (.const (.slice none 0 0))) .done)
abbrev g_q63:GC:=(.seq (.reg g_q63_r0 [0]) (.seq (.seq (.reg g_q63_r1 [0,10,11]) (.block 0 (.loop g_q63_l14))) (.seq (.reg g_q63_r15 [2]) .ret)))
abbrev rs_q63:List RV:=[(.tmp 2)]
theorem gc_q63:compileF Tryd.prog Tryd.f128 T_q63=some (g_q63,rs_q63):=by kernel_rfl
theorem con_q63 (hv:vc Tryd.prog y g_q63 (retQ rs_q63 R) [(0,a0)] h):ConX y Tryd.prog 128 #[a0] h R:=con_of Tryd.func128 gc_q63 rfl (fun h=>absurd h (by decide)) hv
def T_q62:List (Nat×List Nat):=[(0,[0]),(1,[0,3]),(2,[3,21,22,23]),(3,[3,21,22,23,24]),(4,[3,5,21,22,23]),(5,[3,5,21,22,23,32]),(6,[2]),(7,[3,21,22,23]),(8,[2])]
abbrev g_q62_r0:GR:=(OP 0 2 (.mv (.const (.slice none 0 0))) .done)
abbrev g_q62_r1:GR:=(O1 0 6 0 (OP 1 7 (.nilCheck (.tmp 6)) (O3 2 8 8 7 (O3 3 9 3 8 (O6 4 10 9 (O1 5 11 0 (OP 6 12 (.nilCheck (.tmp 11)) (O3 7 13 8 12 (O3 8 14 2 13 (O6 9 15 14 (OP 10 16 (.call 75 [(.tmp 10),(.tmp 15)]) (O1 11 3 16 .done))))))))))))
abbrev g_q62_r2:GR:=(O1 0 17 0 (OP 1 18 (.nilCheck (.tmp 17)) (O3 2 19 0 18 (O3 3 20 4 19 (O2 4 21 20 (OP 5 22 (.len (.tmp 21)) (OP 6 23 (.mv (K 0)) .done)))))))
abbrev g_q62_r3:GR:=(O5 0 24 .lss 23 22 .done)
abbrev g_q62_r4:GR:=(O4 0 25 2 21 23 (OP 1 26 (.load (some 2) (.tmp 25)) (OP 2 5 (.alloc 38 [(.int .i64 0),(.int .i64 0)]) (OS 3 (.store 2 (.tmp 5) (.tmp 26)) .done))))
abbrev g_q62_r5:GR:=(O1 0 27 3 (O3 1 28 0 5 (O2 2 29 28 (O3 3 30 1 5 (O2 4 31 30 (OP 5 32 (.call 76 [(.tmp 27),(.tmp 29),(.tmp 31)]) .done))))))
abbrev g_q62_r6:GR:=(O3 0 33 0 5 (O2 1 34 33 (O3 2 35 1 5 (O2 3 36 35 (OP 4 37 (.buildSlice 3 2 [(.int .i64 0),(.int .i64 0)] [(0,(1,(.tmp 34))),(1,(1,(.tmp 36)))]) (O1 5 2 37 .done))))))
abbrev g_q62_r7:GR:=(OP 0 38 (.bin .add (.tmp 23) (K 1)) (O1 1 23 38 .done))
abbrev g_q62_l8:GC:=(.seq (.reg g_q62_r3 [3,21,22,23,24]) (.seq (.cond (.tmp 24) .skip (.exit 0)) (.seq (.block 1 (.seq (.reg g_q62_r4 [3,5,21,22,23]) (.seq (.reg g_q62_r5 [3,5,21,22,23,32]) (.cond (.tmp 32) (.seq (.reg g_q62_r6 [2]) .ret) .skip)))) (.reg g_q62_r7 [3,21,22,23]))))
abbrev g_q62_r9:GR:=(OP 0 2 (.mv (.const (.slice none 0 0))) .done)
abbrev g_q62:GC:=(.seq (.reg g_q62_r0 [0]) (.seq (.reg g_q62_r1 [0,3]) (.seq (.seq (.reg g_q62_r2 [3,21,22,23]) (.block 0 (.loop g_q62_l8))) (.seq (.reg g_q62_r9 [2]) .ret))))
abbrev rs_q62:List RV:=[(.tmp 2)]
theorem gc_q62:compileF Tryd.prog Tryd.f129 T_q62=some (g_q62,rs_q62):=by kernel_rfl
theorem con_q62 (hv:vc Tryd.prog y g_q62 (retQ rs_q62 R) [(0,a0)] h):ConX y Tryd.prog 129 #[a0] h R:=con_of Tryd.func129 gc_q62 rfl (fun h=>absurd h (by decide)) hv
def T_q58:List (Nat×List Nat):=[(0,[0]),(1,[2])]
abbrev g_q58_r0:GR:=(OP 0 2 (.mv (.const (.slice none 0 0))) .done)
abbrev g_q58_r1:GR:=(O1 0 3 0 (OP 1 4 (.nilCheck (.tmp 3)) (O3 2 5 21 4 (O3 3 6 5 5 (O6 4 7 6 (O1 5 8 0 (OP 6 9 (.nilCheck (.tmp 8)) (O3 7 10 21 9 (O3 8 11 6 10 (O6 9 12 11 (OP 10 13 (.buildSlice 80 2 [(.pointer none),(.pointer none)] [(0,(1,(.tmp 7))),(1,(1,(.tmp 12)))]) (.op (GI.mk 11 (some 14) none (.call 58 [(.tmp 13)]) [4,9] false) (.op (GI.mk 12 (some 15) none (.call 72 [(.tmp 14)]) [4,9] false) (O1 13 2 15 .done))))))))))))))
abbrev g_q58:GC:=(.seq (.reg g_q58_r0 [0]) (.seq (.reg g_q58_r1 [2]) .ret))
abbrev rs_q58:List RV:=[(.tmp 2)]
theorem gc_q58:compileF Tryd.prog Tryd.f130 T_q58=some (g_q58,rs_q58):=by kernel_rfl
theorem con_q58 (hv:vc Tryd.prog y g_q58 (retQ rs_q58 R) [(0,a0)] h):ConX y Tryd.prog 130 #[a0] h R:=con_of Tryd.func130 gc_q58 rfl (fun h=>absurd h (by decide)) hv
def T_q59:List (Nat×List Nat):=[(0,[0]),(1,[2])]
abbrev g_q59_r0:GR:=(OP 0 2 (.mv (.const (.slice none 0 0))) .done)
abbrev g_q59_r1:GR:=(O1 0 3 0 (OP 1 4 (.nilCheck (.tmp 3)) (O3 2 5 8 4 (O3 3 6 0 5 (O6 4 7 6 (O1 5 8 0 (OP 6 9 (.nilCheck (.tmp 8)) (O3 7 10 8 9 (O3 8 11 1 10 (O6 9 12 11 (OP 10 13 (.buildSlice 80 2 [(.pointer none),(.pointer none)] [(0,(1,(.tmp 7))),(1,(1,(.tmp 12)))]) (.op (GI.mk 11 (some 14) none (.call 58 [(.tmp 13)]) [4,9] false) (.op (GI.mk 12 (some 15) none (.call 72 [(.tmp 14)]) [4,9] false) (O1 13 2 15 .done))))))))))))))
abbrev g_q59:GC:=(.seq (.reg g_q59_r0 [0]) (.seq (.reg g_q59_r1 [2]) .ret))
abbrev rs_q59:List RV:=[(.tmp 2)]
theorem gc_q59:compileF Tryd.prog Tryd.f131 T_q59=some (g_q59,rs_q59):=by kernel_rfl
theorem con_q59 (hv:vc Tryd.prog y g_q59 (retQ rs_q59 R) [(0,a0)] h):ConX y Tryd.prog 131 #[a0] h R:=con_of Tryd.func131 gc_q59 rfl (fun h=>absurd h (by decide)) hv
def T_q147:List (Nat×List Nat):=[(0,[0,1,3]),(1,[0,1,3,8]),(2,[0,1,3]),(3,[0,1,3,18])]
abbrev g_q147_r0:GR:=(O2 0 4 1 (OP 1 5 (.len (.tmp 4)) (OP 2 6 (.bin .sub (.tmp 5) (K 1)) (O1 3 3 6 .done))))
abbrev g_q147_r1:GR:=(O1 0 7 3 (OP 1 8 (.bin .geq (.tmp 7) (K 0)) .done))
abbrev g_q147_r2:GR:=(O1 0 11 0 (O1 1 12 3 (O2 2 13 1 (O1 3 14 3 (O4 4 15 5 13 14 (OP 5 16 (.load (some 5) (.tmp 15)) (OP 6 17 (.callv (.tmp 11) [(.tmp 12),(.tmp 16)]) (OP 7 18 (.not (.tmp 17)) .done))))))))
abbrev g_q147_r3:GR:=(O1 0 9 3 (OP 1 10 (.bin .sub (.tmp 9) (K 1)) (O1 2 3 10 .done)))
abbrev g_q147_l4:GC:=(.seq (.seq (.reg g_q147_r1 [0,1,3,8]) (.cond (.tmp 8) .skip (.exit 0))) (.seq (.block 1 (.seq (.reg g_q147_r2 [0,1,3,18]) (.cond (.tmp 18) .ret .skip))) (.reg g_q147_r3 [0,1,3])))
abbrev g_q147:GC:=(.seq (.reg g_q147_r0 [0,1,3]) (.block 0 (.loop g_q147_l4)))
abbrev rs_q147:List RV:=[]
theorem gc_q147:compileF Tryd.prog Tryd.f132 T_q147=some (g_q147,rs_q147):=by kernel_rfl
theorem con_q147 (hv:vc Tryd.prog y g_q147 (retQ rs_q147 R) [(0,a0),(1,a1)] h):ConX y Tryd.prog 132 #[a0,a1] h R:=con_of Tryd.func132 gc_q147 rfl (fun h=>absurd h (by decide)) hv
def T_q153:List (Nat×List Nat):=[(0,[0,1]),(1,[4])]
abbrev g_q153_r0:GR:=(OP 0 4 (.mv (.const (.bool false))) .done)
abbrev g_q153_r1:GR:=(O1 0 5 0 (O1 1 6 1 (OP 2 7 (.call 158 [(.tmp 5),(.tmp 6)]) (OP 3 8 (.bin .geq (.tmp 7) (K 0)) (O1 4 4 8 .done)))))
abbrev g_q153:GC:=(.seq (.reg g_q153_r0 [0,1]) (.seq (.reg g_q153_r1 [4]) .ret))
abbrev rs_q153:List RV:=[(.tmp 4)]
theorem gc_q153:compileF Tryd.prog Tryd.f133 T_q153=some (g_q153,rs_q153):=by kernel_rfl
theorem con_q153 (hv:vc Tryd.prog y g_q153 (retQ rs_q153 R) [(0,a0),(1,a1)] h):ConX y Tryd.prog 133 #[a0,a1] h R:=con_of Tryd.func133 gc_q153 rfl (fun h=>absurd h (by decide)) hv
def T_q24:List (Nat×List Nat):=[(0,[0,1]),(1,[0,1,5]),(2,[4]),(3,[0,1,12]),(4,[4]),(5,[0,1,16]),(6,[4]),(7,[0,1,23]),(8,[4]),(9,[0,27]),(10,[4]),(11,[34]),(12,[4]),(13,[4])]
abbrev g_q24_r0:GR:=(OP 0 4 (.mv (.const (.slice none 0 0))) .done)
abbrev g_q24_r1:GR:=(O1 0 6 0 (OP 1 7 (.bin .eql (.tmp 6) (K 1)) (O1 2 8 7 (OG 3 9 8 true (.mv (.tmp 1)) (OP 4 10 (.pick (.tmp 8) (.tmp 9) (.const (.bool false))) (O1 5 5 10 .done))))))
abbrev g_q24_r2:GR:=(OP 0 11 (.buildSlice 3 3 [(.int .i64 0),(.int .i64 0),(.int .i64 0)] [(0,(1,(K 11))),(1,(1,(K 12))),(2,(1,(K 16)))]) (O1 1 4 11 .done))
abbrev g_q24_r3:GR:=(O1 0 13 0 (OP 1 14 (.bin .eql (.tmp 13) (K 1)) (O1 2 12 14 .done)))
abbrev g_q24_r4:GR:=(OP 0 15 (.buildSlice 3 3 [(.int .i64 0),(.int .i64 0),(.int .i64 0)] [(0,(1,(K 1))),(1,(1,(K 2))),(2,(1,(K 5)))]) (O1 1 4 15 .done))
abbrev g_q24_r5:GR:=(O1 0 17 0 (OP 1 18 (.bin .eql (.tmp 17) (K 2)) (O1 2 19 18 (OG 3 20 19 true (.mv (.tmp 1)) (OP 4 21 (.pick (.tmp 19) (.tmp 20) (.const (.bool false))) (O1 5 16 21 .done))))))
abbrev g_q24_r6:GR:=(OP 0 22 (.buildSlice 3 2 [(.int .i64 0),(.int .i64 0)] [(0,(1,(K 11))),(1,(1,(K 13)))]) (O1 1 4 22 .done))
abbrev g_q24_r7:GR:=(O1 0 24 0 (OP 1 25 (.bin .eql (.tmp 24) (K 2)) (O1 2 23 25 .done)))
abbrev g_q24_r8:GR:=(OP 0 26 (.buildSlice 3 3 [(.int .i64 0),(.int .i64 0),(.int .i64 0)] [(0,(1,(K 1))),(1,(1,(K 3))),(2,(1,(K 5)))]) (O1 1 4 26 .done))
abbrev g_q24_r9:GR:=(O1 0 28 0 (OP 1 29 (.bin .eql (.tmp 28) (K 3)) (O1 2 30 29 (OG 3 31 30 true (.mv (.tmp 1)) (OP 4 32 (.pick (.tmp 30) (.tmp 31) (.const (.bool false))) (O1 5 27 32 .done))))))
abbrev g_q24_r10:GR:=(OP 0 33 (.buildSlice 3 2 [(.int .i64 0),(.int .i64 0)] [(0,(1,(K 14))),(1,(1,(K 15)))]) (O1 1 4 33 .done))
abbrev g_q24_r11:GR:=(O1 0 35 0 (OP 1 36 (.bin .eql (.tmp 35) (K 3)) (O1 2 34 36 .done)))
abbrev g_q24_r12:GR:=(OP 0 37 (.buildSlice 3 4 [(.int .i64 0),(.int .i64 0),(.int .i64 0),(.int .i64 0)] [(0,(1,(K 2))),(1,(1,(K 3))),(2,(1,(K 4))),(3,(1,(K 5)))]) (O1 1 4 37 .done))
abbrev g_q24_r13:GR:=(OP 0 4 (.mv (.const (.slice none 0 0))) .done)
abbrev g_q24:GC:=(.seq (.reg g_q24_r0 [0,1]) (.seq (.block 0 (.seq (.reg g_q24_r1 [0,1,5]) (.cond (.tmp 5) (.seq (.reg g_q24_r2 [4]) .ret) (.seq (.reg g_q24_r3 [0,1,12]) (.cond (.tmp 12) (.seq (.reg g_q24_r4 [4]) .ret) (.seq (.reg g_q24_r5 [0,1,16]) (.cond (.tmp 16) (.seq (.reg g_q24_r6 [4]) .ret) (.seq (.reg g_q24_r7 [0,1,23]) (.cond (.tmp 23) (.seq (.reg g_q24_r8 [4]) .ret) (.seq (.reg g_q24_r9 [0,27]) (.cond (.tmp 27) (.seq (.reg g_q24_r10 [4]) .ret) (.seq (.reg g_q24_r11 [34]) (.cond (.tmp 34) (.seq (.reg g_q24_r12 [4]) .ret) .skip))))))))))))) (.seq (.reg g_q24_r13 [4]) .ret)))
abbrev rs_q24:List RV:=[(.tmp 4)]
theorem gc_q24:compileF Tryd.prog Tryd.f134 T_q24=some (g_q24,rs_q24):=by kernel_rfl
theorem con_q24 (hv:vc Tryd.prog y g_q24 (retQ rs_q24 R) [(0,a0),(1,a1)] h):ConX y Tryd.prog 134 #[a0,a1] h R:=con_of Tryd.func134 gc_q24 rfl (fun h=>absurd h (by decide)) hv
def T_q20:List (Nat×List Nat):=[(0,[0,1,2]),(1,[6])]
abbrev g_q20_r0:GR:=(OP 0 6 (.mv (.const (.bool false))) .done)
abbrev g_q20_r1:GR:=(O1 0 7 1 (OP 1 8 (.bin .geq (.tmp 7) (K 0)) (O1 2 9 8 (OG 3 10 9 true (.mv (.tmp 1)) (OG 4 11 9 true (.mv (.tmp 0)) (OG 5 12 9 true (.nilCheck (.tmp 11)) (OG 6 13 9 true (.fieldAddr 0 (.tmp 12)) (OG 7 14 9 true (.fieldAddr 1 (.tmp 13)) (OG 8 15 9 true (.load none (.tmp 14)) (OG 9 16 9 true (.len (.tmp 15)) (OG 10 17 9 true (.bin .lss (.tmp 10) (.tmp 16)) (OP 11 18 (.pick (.tmp 9) (.tmp 17) (.const (.bool false))) (O1 12 19 18 (OG 13 20 19 true (.mv (.tmp 0)) (OG 14 21 19 true (.nilCheck (.tmp 20)) (OG 15 22 19 true (.fieldAddr 0 (.tmp 21)) (OG 16 23 19 true (.fieldAddr 1 (.tmp 22)) (OG 17 24 19 true (.load none (.tmp 23)) (OG 18 25 19 true (.mv (.tmp 1)) (OG 19 26 19 true (.indexAddr 5 (.tmp 24) (.tmp 25)) (OG 20 27 19 true (.fieldAddr 1 (.tmp 26)) (OG 21 28 19 true (.load none (.tmp 27)) (OG 22 29 19 true (.mv (.tmp 2)) (OG 23 30 19 true (.bin .eql (.tmp 28) (.tmp 29)) (OP 24 31 (.pick (.tmp 19) (.tmp 30) (.const (.bool false))) (O1 25 6 31 .done))))))))))))))))))))))))))
abbrev g_q20:GC:=(.seq (.reg g_q20_r0 [0,1,2]) (.seq (.reg g_q20_r1 [6]) .ret))
abbrev rs_q20:List RV:=[(.tmp 6)]
theorem gc_q20:compileF Tryd.prog Tryd.f135 T_q20=some (g_q20,rs_q20):=by kernel_rfl
theorem con_q20 (hv:vc Tryd.prog y g_q20 (retQ rs_q20 R) [(0,a0),(1,a1),(2,a2)] h):ConX y Tryd.prog 135 #[a0,a1,a2] h R:=con_of Tryd.func135 gc_q20 rfl (fun h=>absurd h (by decide)) hv
def T_q21:List (Nat×List Nat):=[(0,[0,1,2]),(1,[1,2,7]),(2,[6])]
abbrev g_q21_r0:GR:=(OP 0 6 (.mv (.const (.bool false))) .done)
abbrev g_q21_r1:GR:=(O1 0 8 0 (OP 1 9 (.nilCheck (.tmp 8)) (O3 2 10 0 9 (O3 3 11 1 10 (O2 4 12 11 (O1 5 7 12 .done))))))
abbrev g_q21_r2:GR:=(O1 0 13 1 (OP 1 14 (.bin .geq (.tmp 13) (K 0)) (O1 2 15 14 (OG 3 16 15 true (.mv (.tmp 1)) (OG 4 17 15 true (.mv (.tmp 2)) (OG 5 18 15 true (.bin .lss (.tmp 16) (.tmp 17)) (OP 6 19 (.pick (.tmp 15) (.tmp 18) (.const (.bool false))) (O1 7 20 19 (OG 8 21 20 true (.mv (.tmp 2)) (OG 9 22 20 true (.mv (.tmp 7)) (OG 10 23 20 true (.len (.tmp 22)) (OG 11 24 20 true (.bin .lss (.tmp 21) (.tmp 23)) (OP 12 25 (.pick (.tmp 20) (.tmp 24) (.const (.bool false))) (O1 13 26 25 (OG 14 27 26 true (.mv (.tmp 7)) (OG 15 28 26 true (.mv (.tmp 1)) (OG 16 29 26 true (.indexAddr 5 (.tmp 27) (.tmp 28)) (OG 17 30 26 true (.fieldAddr 0 (.tmp 29)) (.op (GI.mk 18 (some 31) (some (26,true)) (.load none (.tmp 30)) [] true) (OG 19 32 26 true (.bin .geq (.tmp 31) (K 0)) (OP 20 33 (.pick (.tmp 26) (.tmp 32) (.const (.bool false))) (O1 21 34 33 (OG 22 35 34 true (.mv (.tmp 7)) (OG 23 36 34 true (.mv (.tmp 1)) (OG 24 37 34 true (.indexAddr 5 (.tmp 35) (.tmp 36)) (OG 25 38 34 true (.fieldAddr 0 (.tmp 37)) (.op (GI.mk 26 (some 39) (some (34,true)) (.load none (.tmp 38)) [] true) (OG 27 40 34 true (.mv (.tmp 7)) (OG 28 41 34 true (.mv (.tmp 2)) (OG 29 42 34 true (.indexAddr 5 (.tmp 40) (.tmp 41)) (OG 30 43 34 true (.fieldAddr 0 (.tmp 42)) (.op (GI.mk 31 (some 44) (some (34,true)) (.load none (.tmp 43)) [] true) (OG 32 45 34 true (.bin .eql (.tmp 39) (.tmp 44)) (OP 33 46 (.pick (.tmp 34) (.tmp 45) (.const (.bool false))) (O1 34 6 46 .done)))))))))))))))))))))))))))))))))))
abbrev g_q21:GC:=(.seq (.reg g_q21_r0 [0,1,2]) (.seq (.reg g_q21_r1 [1,2,7]) (.seq (.reg g_q21_r2 [6]) .ret)))
abbrev rs_q21:List RV:=[(.tmp 6)]
theorem gc_q21:compileF Tryd.prog Tryd.f136 T_q21=some (g_q21,rs_q21):=by kernel_rfl
theorem con_q21 (hv:vc Tryd.prog y g_q21 (retQ rs_q21 R) [(0,a0),(1,a1),(2,a2)] h):ConX y Tryd.prog 136 #[a0,a1,a2] h R:=con_of Tryd.func136 gc_q21 rfl (fun h=>absurd h (by decide)) hv
def T_q134:List (Nat×List Nat):=[(0,[])]
abbrev g_q134_r0:GR:=(O1 0 4 0 (O1 1 5 1 (OP 2 6 (.bin .quo (.tmp 5) (K 64)) (O4 3 7 1 4 6 (O6 4 8 7 (O1 5 9 1 (OP 6 10 (.bin .rem (.tmp 9) (K 64)) (OP 7 11 (.shift .shl (.const (.int .u64 1)) (.tmp 10)) (O5 8 12 .or 8 11 (O4 9 13 1 4 6 (OS 10 (.store 1 (.tmp 13) (.tmp 12)) .done)))))))))))
abbrev g_q134:GC:=(.reg g_q134_r0 [])
abbrev rs_q134:List RV:=[]
theorem gc_q134:compileF Tryd.prog Tryd.f140 T_q134=some (g_q134,rs_q134):=by kernel_rfl
theorem con_q134 (hv:vc Tryd.prog y g_q134 (retQ rs_q134 R) [(0,a0),(1,a1)] h):ConX y Tryd.prog 140 #[a0,a1] h R:=con_of Tryd.func140 gc_q134 rfl (fun h=>absurd h (by decide)) hv
def T_q9:List (Nat×List Nat):=[(0,[0,1]),(1,[4])]
abbrev g_q9_r0:GR:=(OP 0 4 (.mv (.const (.pointer none))) .done)
abbrev g_q9_r1:GR:=(O1 0 5 0 (OP 1 6 (.nilCheck (.tmp 5)) (O3 2 7 0 6 (O3 3 8 1 7 (O2 4 9 8 (OP 5 10 (.len (.tmp 9)) (O1 6 11 1 (OP 7 12 (.call 121 [(.tmp 10),(.tmp 11)]) (O1 8 4 12 .done)))))))))
abbrev g_q9:GC:=(.seq (.reg g_q9_r0 [0,1]) (.seq (.reg g_q9_r1 [4]) .ret))
abbrev rs_q9:List RV:=[(.tmp 4)]
theorem gc_q9:compileF Tryd.prog Tryd.f149 T_q9=some (g_q9,rs_q9):=by kernel_rfl
theorem con_q9 (hv:vc Tryd.prog y g_q9 (retQ rs_q9 R) [(0,a0),(1,a1)] h):ConX y Tryd.prog 149 #[a0,a1] h R:=con_of Tryd.func149 gc_q9 rfl (fun h=>absurd h (by decide)) hv
def T_q119:List (Nat×List Nat):=[(0,[0]),(1,[2])]
abbrev g_q119_r0:GR:=(OP 0 2 (.mv (.const (.pointer none))) .done)
abbrev g_q119_r1:GR:=(O1 0 3 0 (OP 1 4 (.call 151 [(.tmp 3),(K 0)]) (O1 2 2 4 .done)))
abbrev g_q119:GC:=(.seq (.reg g_q119_r0 [0]) (.seq (.reg g_q119_r1 [2]) .ret))
abbrev rs_q119:List RV:=[(.tmp 2)]
theorem gc_q119:compileF Tryd.prog Tryd.f150 T_q119=some (g_q119,rs_q119):=by kernel_rfl
theorem con_q119 (hv:vc Tryd.prog y g_q119 (retQ rs_q119 R) [(0,a0)] h):ConX y Tryd.prog 150 #[a0] h R:=con_of Tryd.func150 gc_q119 rfl (fun h=>absurd h (by decide)) hv
def T_q126:List (Nat×List Nat):=[(0,[0,1]),(1,[0,5]),(2,[5,18,19,20]),(3,[5,18,19,20,21]),(4,[5,6,7,18,19,20]),(5,[5,18,19,20]),(6,[5,18,19,20]),(7,[4])]
abbrev g_q126_r0:GR:=(OP 0 4 (.mv (.const (.pointer none))) .done)
abbrev g_q126_r1:GR:=(O1 0 8 1 (O1 1 9 0 (OP 2 10 (.nilCheck (.tmp 9)) (O3 3 11 0 10 (O2 4 12 11 (OP 5 13 (.maxi (.tmp 8) (.tmp 12)) (OP 6 14 (.call 56 [(.tmp 13)]) (O1 7 5 14 .done))))))))
abbrev g_q126_r2:GR:=(O1 0 15 0 (OP 1 16 (.nilCheck (.tmp 15)) (O3 2 17 1 16 (O2 3 18 17 (OP 4 19 (.len (.tmp 18)) (OP 5 20 (.mv (K 0)) .done))))))
abbrev g_q126_r3:GR:=(O5 0 21 .lss 20 19 .done)
abbrev g_q126_r4:GR:=(O1 0 22 20 (O4 1 23 1 18 20 (O2 2 24 23 (O1 3 6 22 (O1 4 7 24 .done)))))
abbrev g_q126_r5:GR:=(O1 0 25 5 (OP 1 26 (.nilCheck (.tmp 25)) (O3 2 27 1 26 (O2 3 28 27 (O1 4 29 6 (O4 5 30 1 28 29 (O2 6 31 30 (O1 7 32 7 (OP 8 33 (.buildSlice 145 1 [(.slice none 0 0)] [(0,(1,(.tmp 32)))]) (OP 9 34 (.call 100 [(.tmp 31),(.tmp 33)]) .done))))))))))
abbrev g_q126_r6:GR:=(OP 0 35 (.bin .add (.tmp 20) (K 1)) (O1 1 20 35 .done))
abbrev g_q126_l7:GC:=(.seq (.reg g_q126_r3 [5,18,19,20,21]) (.seq (.cond (.tmp 21) .skip (.exit 0)) (.seq (.block 1 (.seq (.reg g_q126_r4 [5,6,7,18,19,20]) (.reg g_q126_r5 [5,18,19,20]))) (.reg g_q126_r6 [5,18,19,20]))))
abbrev g_q126_r8:GR:=(O1 0 36 5 (O1 1 4 36 .done))
abbrev g_q126:GC:=(.seq (.reg g_q126_r0 [0,1]) (.seq (.reg g_q126_r1 [0,5]) (.seq (.seq (.reg g_q126_r2 [5,18,19,20]) (.block 0 (.loop g_q126_l7))) (.seq (.reg g_q126_r8 [4]) .ret))))
abbrev rs_q126:List RV:=[(.tmp 4)]
theorem gc_q126:compileF Tryd.prog Tryd.f151 T_q126=some (g_q126,rs_q126):=by kernel_rfl
theorem con_q126 (hv:vc Tryd.prog y g_q126 (retQ rs_q126 R) [(0,a0),(1,a1)] h):ConX y Tryd.prog 151 #[a0,a1] h R:=con_of Tryd.func151 gc_q126 rfl (fun h=>absurd h (by decide)) hv
def T_q156:List (Nat×List Nat):=[(0,[1]),(1,[2])]
abbrev g_q156_r0:GR:=(OP 0 1 (.box 39 (.tmp 0)) (OP 1 2 (.mv (.const Value.nilFunc)) .done))
abbrev g_q156_r1:GR:=(OP 0 3 (.makeFunc (Fn.func 161) [] [(.tmp 1)]) (O1 1 2 3 .done))
abbrev g_q156:GC:=(.seq (.reg g_q156_r0 [1]) (.seq (.reg g_q156_r1 [2]) .ret))
abbrev rs_q156:List RV:=[(.tmp 2)]
theorem gc_q156:compileF Tryd.prog Tryd.f152 T_q156=some (g_q156,rs_q156):=by kernel_rfl
theorem con_q156 (hv:vc Tryd.prog y g_q156 (retQ rs_q156 R) [(0,a0)] h):ConX y Tryd.prog 152 #[a0] h R:=con_of Tryd.func152 gc_q156 rfl (fun h=>absurd h (by decide)) hv
def T_q151:List (Nat×List Nat):=[(0,[0]),(1,[2])]
abbrev g_q151_r0:GR:=(OP 0 2 (.mv (.const (.slice none 0 0))) .done)
abbrev g_q151_r1:GR:=(O1 0 3 0 (OP 1 4 (.call 162 [(.const (.slice none 0 0)),(.tmp 3)]) (O1 2 2 4 .done)))
abbrev g_q151:GC:=(.seq (.reg g_q151_r0 [0]) (.seq (.reg g_q151_r1 [2]) .ret))
abbrev rs_q151:List RV:=[(.tmp 2)]
theorem gc_q151:compileF Tryd.prog Tryd.f153 T_q151=some (g_q151,rs_q151):=by kernel_rfl
theorem con_q151 (hv:vc Tryd.prog y g_q151 (retQ rs_q151 R) [(0,a0)] h):ConX y Tryd.prog 153 #[a0] h R:=con_of Tryd.func153 gc_q151 rfl (fun h=>absurd h (by decide)) hv
def T_q1:List (Nat×List Nat):=[(0,[0,1]),(1,[0,7,8,9]),(2,[0,7,8,9,10]),(3,[0,6,7,8,9]),(4,[0,7,8,9]),(5,[0,7,8,9]),(6,[4])]
abbrev g_q1_r0:GR:=(OP 0 4 (.mv (.const (.pointer none))) .done)
abbrev g_q1_r1:GR:=(O1 0 7 1 (OP 1 8 (.len (.tmp 7)) (OP 2 9 (.mv (K 0)) .done)))
abbrev g_q1_r2:GR:=(O5 0 10 .lss 9 8 .done)
abbrev g_q1_r3:GR:=(O4 0 11 1 7 9 (O2 1 12 11 (O1 2 6 12 .done)))
abbrev g_q1_r4:GR:=(O1 0 13 0 (O1 1 14 6 (OP 2 15 (.call 75 [(.tmp 13),(.tmp 14)]) (O1 3 0 15 .done))))
abbrev g_q1_r5:GR:=(OP 0 16 (.bin .add (.tmp 9) (K 1)) (O1 1 9 16 .done))
abbrev g_q1_l6:GC:=(.seq (.reg g_q1_r2 [0,7,8,9,10]) (.seq (.cond (.tmp 10) .skip (.exit 0)) (.seq (.block 1 (.seq (.reg g_q1_r3 [0,6,7,8,9]) (.reg g_q1_r4 [0,7,8,9]))) (.reg g_q1_r5 [0,7,8,9]))))
abbrev g_q1_r7:GR:=(O1 0 17 0 (O1 1 4 17 .done))
abbrev g_q1:GC:=(.seq (.reg g_q1_r0 [0,1]) (.seq (.seq (.reg g_q1_r1 [0,7,8,9]) (.block 0 (.loop g_q1_l6))) (.seq (.reg g_q1_r7 [4]) .ret)))
abbrev rs_q1:List RV:=[(.tmp 4)]
theorem gc_q1:compileF Tryd.prog Tryd.f154 T_q1=some (g_q1,rs_q1):=by kernel_rfl
theorem con_q1 (hv:vc Tryd.prog y g_q1 (retQ rs_q1 R) [(0,a0),(1,a1)] h):ConX y Tryd.prog 154 #[a0,a1] h R:=con_of Tryd.func154 gc_q1 rfl (fun h=>absurd h (by decide)) hv
def T_q133:List (Nat×List Nat):=[(0,[0,5,6,7]),(1,[0,5,6,7,8]),(2,[0,3,4,5,6,7]),(3,[0,3,4,5,6,7,13]),(4,[0,3,4,5,6,7]),(5,[0,3,4,5,6,7,25]),(6,[0,5,6,7])]
abbrev g_q133_r0:GR:=(O2 0 5 1 (OP 1 6 (.len (.tmp 5)) (OP 2 7 (.mv (K 0)) .done)))
abbrev g_q133_r1:GR:=(O5 0 8 .lss 7 6 .done)
abbrev g_q133_r2:GR:=(O1 0 9 7 (O4 1 10 1 5 7 (O2 2 11 10 (O1 3 3 9 (O1 4 4 11 .done)))))
abbrev g_q133_r3:GR:=(O1 0 12 4 (OP 1 13 (.bin .neq (.tmp 12) (.const (.int .u64 0))) .done))
abbrev g_q133_r4:GR:=(O1 0 18 0 (O1 1 19 3 (OP 2 20 (.bin .mul (K 64) (.tmp 19)) (O1 3 21 4 (OP 4 22 (.call 156 [(.tmp 21)]) (O5 5 23 .add 20 22 (OP 6 24 (.callv (.tmp 18) [(.tmp 23)]) (OP 7 25 (.not (.tmp 24)) .done))))))))
abbrev g_q133_r5:GR:=(O1 0 14 4 (O1 1 15 4 (OP 2 16 (.bin .sub (.tmp 15) (.const (.int .u64 1))) (O5 3 17 .and 14 16 (O1 4 4 17 .done)))))
abbrev g_q133_l6:GC:=(.seq (.seq (.reg g_q133_r3 [0,3,4,5,6,7,13]) (.cond (.tmp 13) .skip (.exit 2))) (.seq (.block 3 (.seq (.reg g_q133_r4 [0,3,4,5,6,7,25]) (.cond (.tmp 25) .ret .skip))) (.reg g_q133_r5 [0,3,4,5,6,7])))
abbrev g_q133_r7:GR:=(OP 0 26 (.bin .add (.tmp 7) (K 1)) (O1 1 7 26 .done))
abbrev g_q133_l8:GC:=(.seq (.reg g_q133_r1 [0,5,6,7,8]) (.seq (.cond (.tmp 8) .skip (.exit 0)) (.seq (.block 1 (.seq (.reg g_q133_r2 [0,3,4,5,6,7]) (.block 2 (.loop g_q133_l6)))) (.reg g_q133_r7 [0,5,6,7]))))
abbrev g_q133:GC:=(.seq (.reg g_q133_r0 [0,5,6,7]) (.block 0 (.loop g_q133_l8)))
abbrev rs_q133:List RV:=[]
theorem gc_q133:compileF Tryd.prog Tryd.f155 T_q133=some (g_q133,rs_q133):=by kernel_rfl
theorem con_q133 (hv:vc Tryd.prog y g_q133 (retQ rs_q133 R) [(0,a0),(1,a1)] h):ConX y Tryd.prog 155 #[a0,a1] h R:=con_of Tryd.func155 gc_q133 rfl (fun h=>absurd h (by decide)) hv
def T_q50:List (Nat×List Nat):=[(0,[0]),(1,[0,4]),(2,[2]),(3,[2])]
abbrev g_q50_r0:GR:=(OP 0 2 (.mv (K 0)) .done)
abbrev g_q50_r1:GR:=(O1 0 3 0 (OP 1 4 (.bin .eql (.tmp 3) (.const (.int .u64 0))) .done))
abbrev g_q50_r2:GR:=(OP 0 2 (.mv (K 64)) .done)
abbrev g_q50_r3:GR:=(O1 0 5 0 (O1 1 6 0 (OP 2 7 (.neg (.tmp 6)) (O5 3 8 .and 5 7 (OP 4 9 (.bin .mul (.tmp 8) (.const (.int .u64 285870213051353865))) (OP 5 10 (.shift .shr (.tmp 9) (.const (.int .u64 58))) (OP 6 11 (.indexArr 1 64 (.global 0) (.tmp 10)) (O2 7 12 11 (OP 8 13 (.conv .i64 (.tmp 12)) (O1 9 2 13 .done))))))))))
abbrev g_q50:GC:=(.seq (.reg g_q50_r0 [0]) (.seq (.seq (.reg g_q50_r1 [0,4]) (.cond (.tmp 4) (.seq (.reg g_q50_r2 [2]) .ret) .skip)) (.seq (.reg g_q50_r3 [2]) .ret)))
abbrev rs_q50:List RV:=[(.tmp 2)]
theorem gc_q50:compileF Tryd.prog Tryd.f156 T_q50=some (g_q50,rs_q50):=by kernel_rfl
theorem con_q50 (hv:vc Tryd.prog y g_q50 (retQ rs_q50 R) [(0,a0)] h):ConX y Tryd.prog 156 #[a0] h R:=con_of Tryd.func156 gc_q50 rfl (fun h=>absurd h (by decide)) hv
def T_q154:List (Nat×List Nat):=[(0,[0,1]),(1,[0,1,6]),(2,[0,1]),(3,[0,1]),(4,[0,1,16]),(5,[0]),(6,[4])]
abbrev g_q154_r0:GR:=(OP 0 4 (.mv (.const (.slice none 0 0))) .done)
abbrev g_q154_r1:GR:=(O1 0 5 1 (OP 1 6 (.bin .lss (.tmp 5) (K 0)) .done))
abbrev g_q154_r2:GR:=(OP 0 7 .never (OS 1 .never .done))
abbrev g_q154_r3:GR:=(O1 0 8 1 (O1 1 9 0 (OP 2 10 (.cap (.tmp 9)) (O1 3 11 0 (OP 4 12 (.len (.tmp 11)) (O5 5 13 .sub 10 12 (O5 6 14 .sub 8 13 (O1 7 1 14 .done))))))))
abbrev g_q154_r4:GR:=(O1 0 15 1 (OP 1 16 (.bin .gtr (.tmp 15) (K 0)) .done))
abbrev g_q154_r5:GR:=(O1 0 17 0 (O1 1 18 0 (OP 2 19 (.cap (.tmp 18)) (OP 3 20 (.slice 1 (.tmp 17) none (some (.tmp 19))) (O1 4 21 1 (OP 5 22 (.appendN 80 1 8 [(.pointer none)] (.tmp 20) (.tmp 21)) (O1 6 23 0 (OP 7 24 (.len (.tmp 23)) (OP 8 25 (.slice 1 (.tmp 22) none (some (.tmp 24))) (O1 9 0 25 .done))))))))))
abbrev g_q154_r6:GR:=(O1 0 26 0 (O1 1 4 26 .done))
abbrev g_q154:GC:=(.seq (.reg g_q154_r0 [0,1]) (.seq (.seq (.reg g_q154_r1 [0,1,6]) (.cond (.tmp 6) (.reg g_q154_r2 [0,1]) .skip)) (.seq (.seq (.reg g_q154_r3 [0,1]) (.seq (.reg g_q154_r4 [0,1,16]) (.cond (.tmp 16) (.reg g_q154_r5 [0]) .skip))) (.seq (.reg g_q154_r6 [4]) .ret))))
abbrev rs_q154:List RV:=[(.tmp 4)]
theorem gc_q154:compileF Tryd.prog Tryd.f157 T_q154=some (g_q154,rs_q154):=by kernel_rfl
theorem con_q154 (hv:vc Tryd.prog y g_q154 (retQ rs_q154 R) [(0,a0),(1,a1)] h):ConX y Tryd.prog 157 #[a0,a1] h R:=con_of Tryd.func157 gc_q154 rfl (fun h=>absurd h (by decide)) hv
def T_q155:List (Nat×List Nat):=[(0,[0,1]),(1,[0,1,7,8]),(2,[0,1,7,8,9]),(3,[0,1,5,7,8]),(4,[0,1,5,7,8,16]),(5,[4]),(6,[0,1,7,8]),(7,[4])]
abbrev g_q155_r0:GR:=(OP 0 4 (.mv (K 0)) .done)
abbrev g_q155_r1:GR:=(O1 0 6 0 (OP 1 7 (.len (.tmp 6)) (OP 2 8 (.mv (K 0)) .done)))
abbrev g_q155_r2:GR:=(O5 0 9 .lss 8 7 .done)
abbrev g_q155_r3:GR:=(O1 0 10 8 (O1 1 5 10 .done))
abbrev g_q155_r4:GR:=(O1 0 11 1 (O1 1 12 0 (O1 2 13 5 (O4 3 14 1 12 13 (O2 4 15 14 (O5 5 16 .eql 11 15 .done))))))
abbrev g_q155_r5:GR:=(O1 0 17 5 (O1 1 4 17 .done))
abbrev g_q155_r6:GR:=(OP 0 18 (.bin .add (.tmp 8) (K 1)) (O1 1 8 18 .done))
abbrev g_q155_l7:GC:=(.seq (.reg g_q155_r2 [0,1,7,8,9]) (.seq (.cond (.tmp 9) .skip (.exit 0)) (.seq (.block 1 (.seq (.reg g_q155_r3 [0,1,5,7,8]) (.seq (.reg g_q155_r4 [0,1,5,7,8,16]) (.cond (.tmp 16) (.seq (.reg g_q155_r5 [4]) .ret) .skip)))) (.reg g_q155_r6 [0,1,7,8]))))
abbrev g_q155_r8:GR:=(OP 0 4 (.mv (K (-1))) .done)
abbrev g_q155:GC:=(.seq (.reg g_q155_r0 [0,1]) (.seq (.seq (.reg g_q155_r1 [0,1,7,8]) (.block 0 (.loop g_q155_l7))) (.seq (.reg g_q155_r8 [4]) .ret)))
abbrev rs_q155:List RV:=[(.tmp 4)]
theorem gc_q155:compileF Tryd.prog Tryd.f158 T_q155=some (g_q155,rs_q155):=by kernel_rfl
theorem con_q155 (hv:vc Tryd.prog y g_q155 (retQ rs_q155 R) [(0,a0),(1,a1)] h):ConX y Tryd.prog 158 #[a0,a1] h R:=con_of Tryd.func158 gc_q155 rfl (fun h=>absurd h (by decide)) hv
def T_q157:List (Nat×List Nat):=[(0,[0,5,6,7]),(1,[0,5,6,7,8]),(2,[0,4,5,6,7]),(3,[0,5,6,7,14]),(4,[0,5,6,7])]
abbrev g_q157_r0:GR:=(O2 0 5 1 (OP 1 6 (.len (.tmp 5)) (OP 2 7 (.mv (K 0)) .done)))
abbrev g_q157_r1:GR:=(O5 0 8 .lss 7 6 .done)
abbrev g_q157_r2:GR:=(O4 0 9 1 5 7 (O2 1 10 9 (O1 2 4 10 .done)))
abbrev g_q157_r3:GR:=(O1 0 11 0 (O1 1 12 4 (OP 2 13 (.callv (.tmp 11) [(.tmp 12)]) (OP 3 14 (.not (.tmp 13)) .done))))
abbrev g_q157_r4:GR:=(OP 0 15 (.bin .add (.tmp 7) (K 1)) (O1 1 7 15 .done))
abbrev g_q157_l5:GC:=(.seq (.reg g_q157_r1 [0,5,6,7,8]) (.seq (.cond (.tmp 8) .skip (.exit 0)) (.seq (.block 1 (.seq (.reg g_q157_r2 [0,4,5,6,7]) (.seq (.reg g_q157_r3 [0,5,6,7,14]) (.cond (.tmp 14) .ret .skip)))) (.reg g_q157_r4 [0,5,6,7]))))
abbrev g_q157:GC:=(.seq (.reg g_q157_r0 [0,5,6,7]) (.block 0 (.loop g_q157_l5)))
abbrev rs_q157:List RV:=[]
theorem gc_q157:compileF Tryd.prog Tryd.f161 T_q157=some (g_q157,rs_q157):=by kernel_rfl
theorem con_q157 (hv:vc Tryd.prog y g_q157 (retQ rs_q157 R) [(0,a0),(1,a1)] h):ConX y Tryd.prog 161 #[a0,a1] h R:=con_of Tryd.func161 gc_q157 rfl (fun h=>absurd h (by decide)) hv
def T_q145:List (Nat×List Nat):=[(0,[1,2,4]),(1,[2,4,6]),(2,[2,5]),(3,[]),(4,[4])]
abbrev g_q145_r0:GR:=(OP 0 2 (.box 39 (.tmp 0)) (OP 1 4 (.mv (.const (.slice none 0 0))) .done))
abbrev g_q145_r1:GR:=(O1 0 6 1 .done)
abbrev g_q145_r2:GR:=(O1 0 5 7 .done)
abbrev g_q145_r3:GR:=(O2 0 8 2 (O1 1 9 5 (OP 2 10 (.buildSlice 3 1 [(.int .i64 0)] [(0,(1,(.tmp 9)))]) (OP 3 11 (.append 3 1 8 [(.int .i64 0)] (.tmp 8) (.tmp 10)) (OS 4 (.store 1 (.tmp 2) (.tmp 11)) .done)))))
abbrev g_q145_b4:GC:=(.block 1 (.reg g_q145_r3 []))
abbrev g_q145_r5:GR:=(O2 0 12 2 (O1 1 4 12 .done))
abbrev g_q145:GC:=(.seq (.reg g_q145_r0 [1,2,4]) (.seq (.seq (.reg g_q145_r1 [2,4,6]) (.block 0 (.rng (.tmp 6) [7] (.reg g_q145_r2 [2,5]) g_q145_b4))) (.seq (.reg g_q145_r5 [4]) .ret)))
abbrev rs_q145:List RV:=[(.tmp 4)]
theorem gc_q145:compileF Tryd.prog Tryd.f162 T_q145=some (g_q145,rs_q145):=by kernel_rfl
theorem con_q145 (hR:∀ v h1 h2,Ext h.size h1 h2→R v h1→R v h2) (hv:vc Tryd.prog y g_q145 (retQ rs_q145 R) [(0,a0),(1,a1)] h):ConX y Tryd.prog 162 #[a0,a1] h R:=con_of Tryd.func162 gc_q145 rfl (fun _=>hR) hv
end Go.Proofs.Tst
