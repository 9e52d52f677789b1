/-
  The compiled forms of functions that the law reaches, each checked against the program by the kernel. No condition.
-/
import Derived.Test.YtpocfojbfodlmaaDoorV3
import Derived.Test.YtpocfojbfodlmaaDoorProg
set_option linter.all false
set_option maxRecDepth 2000
namespace Go.Proofs.Tst
open Go Go.Vc
variable {y : Option Nat} {a0 a1 a2 a3 a4 a5 a6 a7 : Value} {h : Heap} {R : Value → Heap → Prop}
def T_law10_RcLaws:List (Nat×List Nat):=[(0,[1]),(1,[1,3,4]),(2,[1,3,4,5,7]),(3,[1,3,4,5,7,33]),(4,[2]),(5,[1,3,5,52]),(6,[2]),(7,[1,3,5,8]),(8,[1,3,5,8,9]),(9,[1,3,5,8,9,59]),(10,[1,3,5,8,9]),(11,[1,3,5,8,9,10]),(12,[1,3,5,8,9,10,11]),(13,[1,3,5,8,9,122]),(14,[2]),(15,[1,3,124]),(16,[2]),(17,[1,3,12]),(18,[1,3,12,13]),(19,[1,3,12,13,134]),(20,[1,3,12,13]),(21,[1,3,12,13,14]),(22,[1,3,12,13,14,143]),(23,[1,3,12,13,14]),(24,[1,3,12,13,14,167]),(25,[1,3,12,13,14]),(26,[1,3,12,15]),(27,[1,3,12,15,16]),(28,[1,3,12,15,16,178]),(29,[1,3,12,15,16]),(30,[1,3,12,15,16,193]),(31,[2]),(32,[2])]
abbrev g_law10_RcLaws_r0:GR:=(OP 0 1 (.box 27 (.tmp 0)) (OP 1 2 (.mv (.const (.bool false))) .done))
abbrev g_law10_RcLaws_r1:GR:=(OP 0 18 (.load (some 8) (.tmp 1)) (OP 1 19 (.call 18 [(.tmp 18)]) (O1 2 17 19 (OP 3 20 (.extract 0 (.tmp 17)) (OP 4 21 (.extract 1 (.tmp 17)) (OP 5 3 (.alloc 50 [(.pointer none),(.pointer none),(.pointer none),(.pointer none),(.pointer none),(.pointer none),(.pointer none)]) (OS 6 (.store 7 (.tmp 3) (.tmp 20)) (O1 7 4 21 .done))))))))
abbrev g_law10_RcLaws_r2:GR:=(OP 0 23 (.load (some 8) (.tmp 1)) (OP 1 24 (.call 10 [(.tmp 23)]) (O1 2 22 24 (OP 3 25 (.extract 0 (.tmp 22)) (OP 4 26 (.extract 1 (.tmp 22)) (OP 5 27 (.extract 2 (.tmp 22)) (O1 6 5 25 (O1 7 6 26 (O1 8 7 27 .done)))))))))
abbrev g_law10_RcLaws_r3:GR:=(O1 0 28 4 (OP 1 29 (.bin .neq (.tmp 28) (.const (.int .i64 0))) (O1 2 30 29 (OG 3 31 30 false (.mv (.tmp 7)) (OG 4 32 30 false (.bin .neq (.tmp 31) (.const (.int .i64 0))) (OP 5 33 (.pick (.tmp 30) (.const (.bool true)) (.tmp 32)) .done))))))
abbrev g_law10_RcLaws_r4:GR:=(O1 0 34 4 (O1 1 35 7 (O5 2 36 .eql 34 35 (O1 3 37 36 (OG 4 38 37 true (.call 7 []) (OP 5 39 (.pick (.tmp 37) (.tmp 38) (.const (.bool false))) (O1 6 2 39 .done)))))))
abbrev g_law10_RcLaws_r5:GR:=(O3 0 40 1 3 (O2 1 41 40 (OP 2 42 (.eqNil false false (.tmp 41) (.const (.pointer none))) (O1 3 43 42 (OG 4 44 43 false (.fieldAddr 2 (.tmp 3)) (OG 5 45 43 false (.load none (.tmp 44)) (OG 6 46 43 false (.eqNil false false (.tmp 45) (.const (.pointer none))) (OP 7 47 (.pick (.tmp 43) (.const (.bool true)) (.tmp 46)) (O1 8 48 47 (OG 9 49 48 false (.fieldAddr 3 (.tmp 3)) (OG 10 50 48 false (.load none (.tmp 49)) (OG 11 51 48 false (.eqNil false false (.tmp 50) (.const (.pointer none))) (OP 12 52 (.pick (.tmp 48) (.const (.bool true)) (.tmp 51)) .done)))))))))))))
abbrev g_law10_RcLaws_r6:GR:=(OP 0 2 (.mv (.const (.bool false))) .done)
abbrev g_law10_RcLaws_r7:GR:=(O3 0 53 1 3 (O2 1 54 53 (OP 2 55 (.call 19 [(.tmp 54)]) (O1 3 8 55 .done))))
abbrev g_law10_RcLaws_r8:GR:=(OP 0 9 (.mv (.const (.int .i64 0))) .done)
abbrev g_law10_RcLaws_r9:GR:=(O1 0 56 9 (O1 1 57 8 (OP 2 58 (.len (.tmp 57)) (O5 3 59 .lss 56 58 .done))))
abbrev g_law10_RcLaws_r10:GR:=(O3 0 62 1 1 (O6 1 63 62 (O1 2 64 8 (O1 3 65 9 (O4 4 66 2 64 65 (O3 5 67 0 66 (O6 6 68 67 (O4 7 69 5 63 68 (OW 8 70 (.load (some 5) (.tmp 69)) (OP 9 10 (.alloc 31 [(.int .i64 0),(.int .i64 0),(.int .i64 0),(.int .u64 0),(.int .i64 0)]) (OS 10 (.store 5 (.tmp 10) (.tmp 70)) .done)))))))))))
abbrev g_law10_RcLaws_r11:GR:=(O3 0 71 1 1 (O6 1 72 71 (O1 2 73 8 (O1 3 74 9 (O4 4 75 2 73 74 (O3 5 76 1 75 (O6 6 77 76 (O4 7 78 5 72 77 (OW 8 79 (.load (some 5) (.tmp 78)) (OP 9 11 (.alloc 31 [(.int .i64 0),(.int .i64 0),(.int .i64 0),(.int .u64 0),(.int .i64 0)]) (OS 10 (.store 5 (.tmp 11) (.tmp 79)) .done)))))))))))
abbrev g_law10_RcLaws_r12:GR:=(O3 0 80 1 10 (O2 1 81 80 (OP 2 82 (.bin .eql (.tmp 81) (.const (.int .i64 1))) (O1 3 83 82 (OG 4 84 83 false (.fieldAddr 4 (.tmp 10)) (OG 5 85 83 false (.load none (.tmp 84)) (OG 6 86 83 false (.bin .neq (.tmp 85) (.const (.int .i64 3))) (OG 7 87 83 false (.mv (.tmp 86)) (OG 8 88 87 true (.fieldAddr 4 (.tmp 10)) (OG 9 89 87 true (.load none (.tmp 88)) (OG 10 90 87 true (.bin .neq (.tmp 89) (.const (.int .i64 4))) (OG 11 91 83 false (.pick (.tmp 87) (.tmp 90) (.const (.bool false))) (OG 12 92 83 false (.mv (.tmp 91)) (OG 13 93 92 true (.fieldAddr 4 (.tmp 10)) (OG 14 94 92 true (.load none (.tmp 93)) (OG 15 95 92 true (.bin .neq (.tmp 94) (.const (.int .i64 5))) (OG 16 96 83 false (.pick (.tmp 92) (.tmp 95) (.const (.bool false))) (OP 17 97 (.pick (.tmp 83) (.const (.bool true)) (.tmp 96)) (O1 18 98 97 (OG 19 99 98 false (.fieldAddr 1 (.tmp 11)) (OG 20 100 98 false (.load none (.tmp 99)) (OG 21 101 98 false (.bin .eql (.tmp 100) (.const (.int .i64 2))) (OP 22 102 (.pick (.tmp 98) (.const (.bool true)) (.tmp 101)) (O1 23 103 102 (OG 24 104 103 false (.fieldAddr 4 (.tmp 11)) (OG 25 105 103 false (.load none (.tmp 104)) (OG 26 106 103 false (.bin .neq (.tmp 105) (.const (.int .i64 2))) (OG 27 107 103 false (.mv (.tmp 106)) (OG 28 108 107 true (.fieldAddr 4 (.tmp 11)) (OG 29 109 107 true (.load none (.tmp 108)) (OG 30 110 107 true (.bin .neq (.tmp 109) (.const (.int .i64 4))) (OG 31 111 103 false (.pick (.tmp 107) (.tmp 110) (.const (.bool false))) (OG 32 112 103 false (.mv (.tmp 111)) (OG 33 113 112 true (.fieldAddr 4 (.tmp 11)) (OG 34 114 112 true (.load none (.tmp 113)) (OG 35 115 112 true (.bin .neq (.tmp 114) (.const (.int .i64 5))) (OG 36 116 103 false (.pick (.tmp 112) (.tmp 115) (.const (.bool false))) (OP 37 117 (.pick (.tmp 103) (.const (.bool true)) (.tmp 116)) (O1 38 118 117 (OG 39 119 118 false (.fieldAddr 0 (.tmp 10)) (OG 40 120 118 false (.load none (.tmp 119)) (OG 41 121 118 false (.bin .lss (.tmp 120) (.const (.int .i64 0))) (OP 42 122 (.pick (.tmp 118) (.const (.bool true)) (.tmp 121)) .done)))))))))))))))))))))))))))))))))))))))))))
abbrev g_law10_RcLaws_r13:GR:=(OP 0 2 (.mv (.const (.bool false))) .done)
abbrev g_law10_RcLaws_r14:GR:=(O1 0 60 9 (OP 1 61 (.bin .add (.tmp 60) (.const (.int .i64 1))) (O1 2 9 61 .done)))
abbrev g_law10_RcLaws_l15:GC:=(.seq (.seq (.reg g_law10_RcLaws_r9 [1,3,5,8,9,59]) (.cond (.tmp 59) .skip (.exit 0))) (.seq (.block 1 (.seq (.reg g_law10_RcLaws_r10 [1,3,5,8,9,10]) (.seq (.reg g_law10_RcLaws_r11 [1,3,5,8,9,10,11]) (.seq (.reg g_law10_RcLaws_r12 [1,3,5,8,9,122]) (.cond (.tmp 122) (.seq (.reg g_law10_RcLaws_r13 [2]) .ret) .skip))))) (.reg g_law10_RcLaws_r14 [1,3,5,8,9])))
abbrev g_law10_RcLaws_r16:GR:=(O1 0 123 5 (OP 1 124 (.bin .neq (.tmp 123) (.const (.int .i64 0))) .done))
abbrev g_law10_RcLaws_r17:GR:=(OP 0 125 (.call 7 []) (O1 1 2 125 .done))
abbrev g_law10_RcLaws_r18:GR:=(O3 0 126 1 1 (O2 1 127 126 (OP 2 128 (.len (.tmp 127)) (OP 3 129 (.call 20 [(.tmp 128)]) (O1 4 12 129 .done)))))
abbrev g_law10_RcLaws_r19:GR:=(OP 0 13 (.mv (.const (.int .i64 0))) .done)
abbrev g_law10_RcLaws_r20:GR:=(O1 0 130 13 (O3 1 131 1 1 (O2 2 132 131 (OP 3 133 (.len (.tmp 132)) (O5 4 134 .lss 130 133 .done)))))
abbrev g_law10_RcLaws_r21:GR:=(O1 0 137 13 (OP 1 138 (.bin .add (.tmp 137) (.const (.int .i64 1))) (O1 2 14 138 .done)))
abbrev g_law10_RcLaws_r22:GR:=(O1 0 139 14 (O3 1 140 1 1 (O2 2 141 140 (OP 3 142 (.len (.tmp 141)) (O5 4 143 .lss 139 142 .done)))))
abbrev g_law10_RcLaws_r23:GR:=(O3 0 146 1 1 (O6 1 147 146 (O1 2 148 13 (O4 3 149 5 147 148 (O3 4 150 0 149 (O6 5 151 150 (OP 6 152 (.bin .geq (.tmp 151) (.const (.int .i64 0))) (O1 7 153 152 (OG 8 154 153 true (.fieldAddr 1 (.tmp 1)) (.op (GI.mk 9 (some 155) (some (153,true)) (.load none (.tmp 154)) [] true) (OG 10 156 153 true (.mv (.tmp 13)) (OG 11 157 153 true (.indexAddr 5 (.tmp 155) (.tmp 156)) (OG 12 158 153 true (.fieldAddr 0 (.tmp 157)) (.op (GI.mk 13 (some 159) (some (153,true)) (.load none (.tmp 158)) [] true) (OG 14 160 153 true (.fieldAddr 1 (.tmp 1)) (.op (GI.mk 15 (some 161) (some (153,true)) (.load none (.tmp 160)) [] true) (OG 16 162 153 true (.mv (.tmp 14)) (OG 17 163 153 true (.indexAddr 5 (.tmp 161) (.tmp 162)) (OG 18 164 153 true (.fieldAddr 0 (.tmp 163)) (.op (GI.mk 19 (some 165) (some (153,true)) (.load none (.tmp 164)) [] true) (OG 20 166 153 true (.bin .eql (.tmp 159) (.tmp 165)) (OP 21 167 (.pick (.tmp 153) (.tmp 166) (.const (.bool false))) .done))))))))))))))))))))))
abbrev g_law10_RcLaws_r24:GR:=(O1 0 168 12 (O1 1 169 13 (O1 2 170 14 (OP 3 171 (.call 21 [(.tmp 168),(.tmp 169),(.tmp 170),(.const (.bool true))]) .done))))
abbrev g_law10_RcLaws_r25:GR:=(O1 0 144 14 (OP 1 145 (.bin .add (.tmp 144) (.const (.int .i64 1))) (O1 2 14 145 .done)))
abbrev g_law10_RcLaws_l26:GC:=(.seq (.seq (.reg g_law10_RcLaws_r22 [1,3,12,13,14,143]) (.cond (.tmp 143) .skip (.exit 4))) (.seq (.block 5 (.seq (.reg g_law10_RcLaws_r23 [1,3,12,13,14,167]) (.cond (.tmp 167) (.reg g_law10_RcLaws_r24 [1,3,12,13,14]) .skip))) (.reg g_law10_RcLaws_r25 [1,3,12,13,14])))
abbrev g_law10_RcLaws_r27:GR:=(O1 0 135 13 (OP 1 136 (.bin .add (.tmp 135) (.const (.int .i64 1))) (O1 2 13 136 .done)))
abbrev g_law10_RcLaws_l28:GC:=(.seq (.seq (.reg g_law10_RcLaws_r20 [1,3,12,13,134]) (.cond (.tmp 134) .skip (.exit 2))) (.seq (.block 3 (.seq (.reg g_law10_RcLaws_r21 [1,3,12,13,14]) (.block 4 (.loop g_law10_RcLaws_l26)))) (.reg g_law10_RcLaws_r27 [1,3,12,13])))
abbrev g_law10_RcLaws_r29:GR:=(O3 0 172 3 3 (O2 1 173 172 (OP 2 174 (.call 19 [(.tmp 173)]) (O1 3 15 174 .done))))
abbrev g_law10_RcLaws_r30:GR:=(OP 0 16 (.mv (.const (.int .i64 0))) .done)
abbrev g_law10_RcLaws_r31:GR:=(O1 0 175 16 (O1 1 176 15 (OP 2 177 (.len (.tmp 176)) (O5 3 178 .lss 175 177 .done))))
abbrev g_law10_RcLaws_r32:GR:=(O3 0 181 2 3 (O6 1 182 181 (O1 2 183 15 (O1 3 184 16 (O4 4 185 2 183 184 (O3 5 186 1 185 (O6 6 187 186 (O1 7 188 15 (O1 8 189 16 (O4 9 190 2 188 189 (O3 10 191 0 190 (O6 11 192 191 (OP 12 193 (.call 22 [(.tmp 182),(.tmp 187),(.tmp 192)]) .done)))))))))))))
abbrev g_law10_RcLaws_r33:GR:=(OP 0 2 (.mv (.const (.bool false))) .done)
abbrev g_law10_RcLaws_r34:GR:=(O1 0 179 16 (OP 1 180 (.bin .add (.tmp 179) (.const (.int .i64 1))) (O1 2 16 180 .done)))
abbrev g_law10_RcLaws_l35:GC:=(.seq (.seq (.reg g_law10_RcLaws_r31 [1,3,12,15,16,178]) (.cond (.tmp 178) .skip (.exit 6))) (.seq (.block 7 (.seq (.reg g_law10_RcLaws_r32 [1,3,12,15,16,193]) (.cond (.tmp 193) (.seq (.reg g_law10_RcLaws_r33 [2]) .ret) .skip))) (.reg g_law10_RcLaws_r34 [1,3,12,15,16])))
abbrev g_law10_RcLaws_r36:GR:=(O1 0 194 12 (O3 1 195 1 3 (O6 2 196 195 (O3 3 197 1 1 (O6 4 198 197 (OP 5 199 (.len (.tmp 198)) (O3 6 200 2 1 (O6 7 201 200 (.op (GI.mk 8 (some 202) none (.call 25 [(.tmp 199),(.tmp 201)]) [2,4] false) (OP 9 203 (.buildSlice 48 3 [(.pointer none),(.pointer none),(.pointer none)] [(0,(1,(.tmp 194))),(1,(1,(.tmp 196))),(2,(1,(.tmp 202)))]) (.op (GI.mk 10 (some 204) none (.call 24 [(.tmp 203)]) [2,4,7] false) (.op (GI.mk 11 (some 205) none (.call 23 [(.tmp 204)]) [2,4,7] false) (O1 12 206 205 (OG 13 207 206 true (.fieldAddr 2 (.tmp 3)) (.op (GI.mk 14 (some 208) (some (206,true)) (.load none (.tmp 207)) [] true) (.op (GI.mk 15 (some 209) (some (206,true)) (.call 26 [(.tmp 208)]) [2,4,7] false) (OP 16 210 (.pick (.tmp 206) (.tmp 209) (.const (.bool false))) (O1 17 211 210 (.op (GI.mk 18 (some 212) (some (211,true)) (.call 7 []) [2,4,7,14] false) (OP 19 213 (.pick (.tmp 211) (.tmp 212) (.const (.bool false))) (O1 20 2 213 .done)))))))))))))))))))))
abbrev g_law10_RcLaws:GC:=(.seq (.reg g_law10_RcLaws_r0 [1]) (.seq (.reg g_law10_RcLaws_r1 [1,3,4]) (.seq (.reg g_law10_RcLaws_r2 [1,3,4,5,7]) (.seq (.seq (.reg g_law10_RcLaws_r3 [1,3,4,5,7,33]) (.cond (.tmp 33) (.seq (.reg g_law10_RcLaws_r4 [2]) .ret) .skip)) (.seq (.seq (.reg g_law10_RcLaws_r5 [1,3,5,52]) (.cond (.tmp 52) (.seq (.reg g_law10_RcLaws_r6 [2]) .ret) .skip)) (.seq (.reg g_law10_RcLaws_r7 [1,3,5,8]) (.seq (.seq (.reg g_law10_RcLaws_r8 [1,3,5,8,9]) (.block 0 (.loop g_law10_RcLaws_l15))) (.seq (.seq (.reg g_law10_RcLaws_r16 [1,3,124]) (.cond (.tmp 124) (.seq (.reg g_law10_RcLaws_r17 [2]) .ret) .skip)) (.seq (.reg g_law10_RcLaws_r18 [1,3,12]) (.seq (.seq (.reg g_law10_RcLaws_r19 [1,3,12,13]) (.block 2 (.loop g_law10_RcLaws_l28))) (.seq (.reg g_law10_RcLaws_r29 [1,3,12,15]) (.seq (.seq (.reg g_law10_RcLaws_r30 [1,3,12,15,16]) (.block 6 (.loop g_law10_RcLaws_l35))) (.seq (.reg g_law10_RcLaws_r36 [2]) .ret)))))))))))))
abbrev rs_law10_RcLaws:List RV:=[(.tmp 2)]
theorem gc_law10_RcLaws:compileF Tryd.prog Tryd.f6 T_law10_RcLaws=some (g_law10_RcLaws,rs_law10_RcLaws):=by kernel_rfl
theorem con_law10_RcLaws (hv:vc Tryd.prog y g_law10_RcLaws (retQ rs_law10_RcLaws R) [(0,a0)] h):ConX y Tryd.prog 6 #[a0] h R:=con_of Tryd.func6 gc_law10_RcLaws rfl (fun h=>absurd h (by decide)) hv
def T_law10_lives:List (Nat×List Nat):=[(0,[]),(1,[1,2]),(2,[1,44]),(3,[0]),(4,[0])]
abbrev g_law10_lives_r0:GR:=(OP 0 0 (.mv (.const (.bool false))) .done)
abbrev g_law10_lives_r1:GR:=(OP 0 4 (.call 27 [(.const (.int .i64 3)),(.const (.int .i64 2))]) (OP 1 5 (.call 18 [(.tmp 4)]) (O1 2 3 5 (OP 3 6 (.extract 0 (.tmp 3)) (OP 4 7 (.extract 1 (.tmp 3)) (OP 5 1 (.alloc 50 [(.pointer none),(.pointer none),(.pointer none),(.pointer none),(.pointer none),(.pointer none),(.pointer none)]) (OS 6 (.store 7 (.tmp 1) (.tmp 6)) (O1 7 2 7 .done))))))))
abbrev g_law10_lives_r2:GR:=(O1 0 8 2 (OP 1 9 (.bin .neq (.tmp 8) (.const (.int .i64 0))) (O1 2 10 9 (OG 3 11 10 false (.fieldAddr 1 (.tmp 1)) (OG 4 12 10 false (.load none (.tmp 11)) (OG 5 13 10 false (.eqNil false false (.tmp 12) (.const (.pointer none))) (OP 6 14 (.pick (.tmp 10) (.const (.bool true)) (.tmp 13)) (O1 7 15 14 (OG 8 16 15 false (.fieldAddr 2 (.tmp 1)) (OG 9 17 15 false (.load none (.tmp 16)) (OG 10 18 15 false (.eqNil false false (.tmp 17) (.const (.pointer none))) (OP 11 19 (.pick (.tmp 15) (.const (.bool true)) (.tmp 18)) (O1 12 20 19 (OG 13 21 20 false (.fieldAddr 0 (.tmp 1)) (OG 14 22 20 false (.load none (.tmp 21)) (OG 15 23 20 false (.eqNil false false (.tmp 22) (.const (.pointer none))) (OP 16 24 (.pick (.tmp 20) (.const (.bool true)) (.tmp 23)) (O1 17 25 24 (OG 18 26 25 false (.fieldAddr 3 (.tmp 1)) (OG 19 27 25 false (.load none (.tmp 26)) (OG 20 28 25 false (.eqNil false false (.tmp 27) (.const (.pointer none))) (OP 21 29 (.pick (.tmp 25) (.const (.bool true)) (.tmp 28)) (O1 22 30 29 (OG 23 31 30 false (.fieldAddr 4 (.tmp 1)) (OG 24 32 30 false (.load none (.tmp 31)) (OG 25 33 30 false (.eqNil false false (.tmp 32) (.const (.pointer none))) (OP 26 34 (.pick (.tmp 30) (.const (.bool true)) (.tmp 33)) (O1 27 35 34 (OG 28 36 35 false (.fieldAddr 5 (.tmp 1)) (OG 29 37 35 false (.load none (.tmp 36)) (OG 30 38 35 false (.eqNil false false (.tmp 37) (.const (.pointer none))) (OP 31 39 (.pick (.tmp 35) (.const (.bool true)) (.tmp 38)) (O1 32 40 39 (OG 33 41 40 false (.fieldAddr 6 (.tmp 1)) (OG 34 42 40 false (.load none (.tmp 41)) (OG 35 43 40 false (.eqNil false false (.tmp 42) (.const (.pointer none))) (OP 36 44 (.pick (.tmp 40) (.const (.bool true)) (.tmp 43)) .done)))))))))))))))))))))))))))))))))))))
abbrev g_law10_lives_r3:GR:=(OP 0 0 (.mv (.const (.bool false))) .done)
abbrev g_law10_lives_r4:GR:=(OP 0 45 (.call 11 [(.const (.int .i64 1)),(.const (.int .i64 1))]) (OP 1 46 (.call 12 [(.tmp 45),(.const (.int .i64 0)),(.const (.slice none 0 0))]) (O1 2 47 46 (OG 3 48 47 true (.call 11 [(.const (.int .i64 5)),(.const (.int .i64 5))]) (OG 4 49 47 true (.buildSlice 3 4 [(.int .i64 0),(.int .i64 0),(.int .i64 0),(.int .i64 0)] [(0,(1,(.const (.int .i64 2)))),(1,(1,(.const (.int .i64 3)))),(2,(1,(.const (.int .i64 4)))),(3,(1,(.const (.int .i64 5))))]) (OG 5 50 47 true (.call 12 [(.tmp 48),(.const (.int .i64 3)),(.tmp 49)]) (OP 6 51 (.pick (.tmp 47) (.tmp 50) (.const (.bool false))) (O1 7 52 51 (OG 8 53 52 true (.call 27 [(.const (.int .i64 3)),(.const (.int .i64 2))]) (OG 9 54 52 true (.buildSlice 3 2 [(.int .i64 0),(.int .i64 0)] [(0,(1,(.const (.int .i64 2)))),(1,(1,(.const (.int .i64 5))))]) (OG 10 55 52 true (.call 12 [(.tmp 53),(.const (.int .i64 1)),(.tmp 54)]) (OP 11 56 (.pick (.tmp 52) (.tmp 55) (.const (.bool false))) (O1 12 57 56 (OG 13 58 57 true (.call 27 [(.const (.int .i64 3)),(.const (.int .i64 1))]) (OG 14 59 57 true (.call 12 [(.tmp 58),(.const (.int .i64 0)),(.const (.slice none 0 0))]) (OP 15 60 (.pick (.tmp 57) (.tmp 59) (.const (.bool false))) (O1 16 61 60 (OG 17 62 61 true (.fieldAddr 1 (.tmp 1)) (OG 18 63 61 true (.load none (.tmp 62)) (OG 19 64 61 true (.call 19 [(.tmp 63)]) (OG 20 65 61 true (.build [(.int .i64 0),(.int .i64 0)] [(0,(1,(.const (.int .i64 3)))),(1,(1,(.const (.int .i64 4))))]) (OG 21 66 61 true (.buildSlice 34 1 [(.int .i64 0),(.int .i64 0)] [(0,(2,(.tmp 65)))]) (OG 22 67 61 true (.call 28 [(.tmp 64),(.tmp 66)]) (OP 23 68 (.pick (.tmp 61) (.tmp 67) (.const (.bool false))) (O1 24 0 68 .done)))))))))))))))))))))))))
abbrev g_law10_lives:GC:=(.seq (.reg g_law10_lives_r0 []) (.seq (.reg g_law10_lives_r1 [1,2]) (.seq (.seq (.reg g_law10_lives_r2 [1,44]) (.cond (.tmp 44) (.seq (.reg g_law10_lives_r3 [0]) .ret) .skip)) (.seq (.reg g_law10_lives_r4 [0]) .ret))))
abbrev rs_law10_lives:List RV:=[(.tmp 0)]
theorem gc_law10_lives:compileF Tryd.prog Tryd.f7 T_law10_lives=some (g_law10_lives,rs_law10_lives):=by kernel_rfl
theorem con_law10_lives (hv:vc Tryd.prog y g_law10_lives (retQ rs_law10_lives R) [] h):ConX y Tryd.prog 7 #[] h R:=con_of Tryd.func7 gc_law10_lives rfl (fun h=>absurd h (by decide)) hv
def T_law10_two:List (Nat×List Nat):=[(0,[0,1,2,3,8]),(1,[0,2,3,8,9]),(2,[2,3,8,9]),(3,[2,3,8,9,10]),(4,[3,8,9,10]),(5,[3,8,9,10,11]),(6,[8,9,10,11]),(7,[8,9]),(8,[8])]
abbrev g_law10_two_r0:GR:=(OP 0 8 (.alloc 27 [(.int .i64 0),(.slice none 0 0),(.slice none 0 0),(.slice none 0 0),(.slice none 0 0),(.slice none 0 0),(.slice none 0 0),(.slice none 0 0)]) .done)
abbrev g_law10_two_r1:GR:=(OP 0 12 (.call 9 [(.const (.int .i64 (-1))),(.const (.int .i64 2)),(.const (.int .i64 0)),(.const (.int .u64 0)),(.const (.int .i64 1))]) (OP 1 13 (.call 9 [(.const (.int .i64 (-1))),(.const (.int .i64 2)),(.const (.int .i64 1)),(.const (.int .u64 0)),(.const (.int .i64 1))]) (OP 2 14 (.buildSlice 31 2 [(.int .i64 0),(.int .i64 0),(.int .i64 0),(.int .u64 0),(.int .i64 0),(.int .i64 0),(.int .i64 0),(.int .i64 0),(.int .u64 0),(.int .i64 0)] [(0,(5,(.tmp 12))),(5,(5,(.tmp 13)))]) (O1 3 15 1 (OP 4 16 (.build [(.int .i64 0),(.slice none 0 0),(.slice none 0 0),(.slice none 0 0),(.slice none 0 0),(.slice none 0 0),(.slice none 0 0),(.slice none 0 0)] [(0,(1,(.const (.int .i64 2)))),(1,(1,(.tmp 14))),(2,(1,(.tmp 15)))]) (OP 5 9 (.alloc 27 [(.int .i64 0),(.slice none 0 0),(.slice none 0 0),(.slice none 0 0),(.slice none 0 0),(.slice none 0 0),(.slice none 0 0),(.slice none 0 0)]) (OS 6 (.store 8 (.tmp 9) (.tmp 16)) .done)))))))
abbrev g_law10_two_r2:GR:=(O3 0 17 1 9 (O2 1 18 17 (O1 2 19 0 (OP 3 20 (.append 31 5 40 [(.int .i64 0),(.int .i64 0),(.int .i64 0),(.int .u64 0),(.int .i64 0)] (.tmp 18) (.tmp 19)) (O3 4 21 1 9 (OS 5 (.store 1 (.tmp 21) (.tmp 20)) .done))))))
abbrev g_law10_two_r3:GR:=(OP 0 22 (.buildSlice 3 1 [(.int .i64 0)] [(0,(1,(.const (.int .i64 0))))]) (O1 1 10 22 .done))
abbrev g_law10_two_r4:GR:=(O1 0 23 10 (O1 1 24 2 (OP 2 25 (.append 3 1 8 [(.int .i64 0)] (.tmp 23) (.tmp 24)) (O1 3 10 25 .done))))
abbrev g_law10_two_r5:GR:=(OP 0 26 (.buildSlice 3 1 [(.int .i64 0)] [(0,(1,(.const (.int .i64 1))))]) (O1 1 11 26 .done))
abbrev g_law10_two_r6:GR:=(O1 0 27 11 (O1 1 28 3 (OP 2 29 (.append 3 1 8 [(.int .i64 0)] (.tmp 27) (.tmp 28)) (O1 3 11 29 .done))))
abbrev g_law10_two_r7:GR:=(O1 0 30 10 (O1 1 31 11 (OP 2 32 (.buildSlice 35 2 [(.slice none 0 0),(.slice none 0 0)] [(0,(1,(.tmp 30))),(1,(1,(.tmp 31)))]) (O3 3 33 3 9 (OS 4 (.store 1 (.tmp 33) (.tmp 32)) .done)))))
abbrev g_law10_two_r8:GR:=(OP 0 34 (.load (some 8) (.tmp 9)) (OS 1 (.store 8 (.tmp 8) (.tmp 34)) .done))
abbrev g_law10_two:GC:=(.seq (.reg g_law10_two_r0 [0,1,2,3,8]) (.seq (.reg g_law10_two_r1 [0,2,3,8,9]) (.seq (.reg g_law10_two_r2 [2,3,8,9]) (.seq (.reg g_law10_two_r3 [2,3,8,9,10]) (.seq (.reg g_law10_two_r4 [3,8,9,10]) (.seq (.reg g_law10_two_r5 [3,8,9,10,11]) (.seq (.reg g_law10_two_r6 [8,9,10,11]) (.seq (.reg g_law10_two_r7 [8,9]) (.seq (.reg g_law10_two_r8 [8]) .ret)))))))))
abbrev rs_law10_two:List RV:=[(.cell 8 (some 8))]
theorem gc_law10_two:compileF Tryd.prog Tryd.f8 T_law10_two=some (g_law10_two,rs_law10_two):=by kernel_rfl
theorem con_law10_two (hv:vc Tryd.prog y g_law10_two (retQ rs_law10_two R) [(0,a0),(1,a1),(2,a2),(3,a3)] h):ConX y Tryd.prog 8 #[a0,a1,a2,a3] h R:=con_of Tryd.func8 gc_law10_two rfl (fun h=>absurd h (by decide)) hv
def T_law10_ev:List (Nat×List Nat):=[(0,[0,1,2,3,4,10]),(1,[10])]
abbrev g_law10_ev_r0:GR:=(OP 0 10 (.alloc 31 [(.int .i64 0),(.int .i64 0),(.int .i64 0),(.int .u64 0),(.int .i64 0)]) .done)
abbrev g_law10_ev_r1:GR:=(O1 0 11 0 (O1 1 12 1 (O1 2 13 2 (O1 3 14 3 (O1 4 15 4 (OP 5 16 (.build [(.int .i64 0),(.int .i64 0),(.int .i64 0),(.int .u64 0),(.int .i64 0)] [(0,(1,(.tmp 11))),(1,(1,(.tmp 12))),(2,(1,(.tmp 13))),(3,(1,(.tmp 14))),(4,(1,(.tmp 15)))]) (OS 6 (.store 5 (.tmp 10) (.tmp 16)) .done)))))))
abbrev g_law10_ev:GC:=(.seq (.reg g_law10_ev_r0 [0,1,2,3,4,10]) (.seq (.reg g_law10_ev_r1 [10]) .ret))
abbrev rs_law10_ev:List RV:=[(.cell 10 (some 5))]
theorem gc_law10_ev:compileF Tryd.prog Tryd.f9 T_law10_ev=some (g_law10_ev,rs_law10_ev):=by kernel_rfl
theorem con_law10_ev (hv:vc Tryd.prog y g_law10_ev (retQ rs_law10_ev R) [(0,a0),(1,a1),(2,a2),(3,a3),(4,a4)] h):ConX y Tryd.prog 9 #[a0,a1,a2,a3,a4] h R:=con_of Tryd.func9 gc_law10_ev rfl (fun h=>absurd h (by decide)) hv
def T_rc11_Check:List (Nat×List Nat):=[(0,[1]),(1,[4,5]),(2,[4,5,15]),(3,[2,3,4]),(4,[5,17,18,19]),(5,[5,17,18,19,20]),(6,[5,7,17,18,19]),(7,[5,7,8,17,18,19]),(8,[5,7,8,17,18,19,29]),(9,[2,3,4]),(10,[5,17,18,19]),(11,[2,3,4])]
abbrev g_rc11_Check_r0:GR:=(OP 0 1 (.box 27 (.tmp 0)) (OP 1 2 (.mv (.const (.int .i64 0))) (OP 2 3 (.mv (.const (.slice none 0 0))) (OP 3 4 (.mv (.const (.int .i64 0))) .done))))
abbrev g_rc11_Check_r1:GR:=(OP 0 10 (.load (some 8) (.tmp 1)) (OP 1 11 (.call 29 [(.tmp 10)]) (O1 2 9 11 (OP 3 12 (.extract 0 (.tmp 9)) (OP 4 13 (.extract 1 (.tmp 9)) (O1 5 5 12 (O1 6 4 13 .done)))))))
abbrev g_rc11_Check_r2:GR:=(O1 0 14 4 (OP 1 15 (.bin .neq (.tmp 14) (.const (.int .i64 0))) .done))
abbrev g_rc11_Check_r3:GR:=(O1 0 16 4 (OP 1 2 (.mv (.const (.int .i64 0))) (OP 2 3 (.mv (.const (.slice none 0 0))) (O1 3 4 16 .done))))
abbrev g_rc11_Check_r4:GR:=(OP 0 17 (.call 30 []) (OP 1 18 (.len (.tmp 17)) (OP 2 19 (.mv (.const (.int .i64 0))) .done)))
abbrev g_rc11_Check_r5:GR:=(O5 0 20 .lss 19 18 .done)
abbrev g_rc11_Check_r6:GR:=(O4 0 21 2 17 19 (OP 1 22 (.load (some 2) (.tmp 21)) (OP 2 7 (.alloc 69 [(.int .i64 0),Value.nilFunc]) (OS 3 (.store 2 (.tmp 7) (.tmp 22)) .done))))
abbrev g_rc11_Check_r7:GR:=(O3 0 23 1 7 (O2 1 24 23 (O1 2 25 5 (OP 3 26 (.callv (.tmp 24) [(.tmp 25)]) (O1 4 8 26 .done)))))
abbrev g_rc11_Check_r8:GR:=(O1 0 27 8 (OP 1 28 (.len (.tmp 27)) (OP 2 29 (.bin .gtr (.tmp 28) (.const (.int .i64 0))) .done)))
abbrev g_rc11_Check_r9:GR:=(O3 0 30 0 7 (O2 1 31 30 (O1 2 32 8 (O1 3 2 31 (O1 4 3 32 (OP 5 4 (.mv (.const (.int .i64 0))) .done))))))
abbrev g_rc11_Check_r10:GR:=(OP 0 33 (.bin .add (.tmp 19) (.const (.int .i64 1))) (O1 1 19 33 .done))
abbrev g_rc11_Check_l11:GC:=(.seq (.reg g_rc11_Check_r5 [5,17,18,19,20]) (.seq (.cond (.tmp 20) .skip (.exit 0)) (.seq (.block 1 (.seq (.reg g_rc11_Check_r6 [5,7,17,18,19]) (.seq (.reg g_rc11_Check_r7 [5,7,8,17,18,19]) (.seq (.reg g_rc11_Check_r8 [5,7,8,17,18,19,29]) (.cond (.tmp 29) (.seq (.reg g_rc11_Check_r9 [2,3,4]) .ret) .skip))))) (.reg g_rc11_Check_r10 [5,17,18,19]))))
abbrev g_rc11_Check_r12:GR:=(OP 0 2 (.mv (.const (.int .i64 0))) (OP 1 3 (.mv (.const (.slice none 0 0))) (OP 2 4 (.mv (.const (.int .i64 0))) .done)))
abbrev g_rc11_Check:GC:=(.seq (.reg g_rc11_Check_r0 [1]) (.seq (.reg g_rc11_Check_r1 [4,5]) (.seq (.seq (.reg g_rc11_Check_r2 [4,5,15]) (.cond (.tmp 15) (.seq (.reg g_rc11_Check_r3 [2,3,4]) .ret) .skip)) (.seq (.seq (.reg g_rc11_Check_r4 [5,17,18,19]) (.block 0 (.loop g_rc11_Check_l11))) (.seq (.reg g_rc11_Check_r12 [2,3,4]) .ret)))))
abbrev rs_rc11_Check:List RV:=[(.tmp 2),(.tmp 3),(.tmp 4)]
theorem gc_rc11_Check:compileF Tryd.prog Tryd.f10 T_rc11_Check=some (g_rc11_Check,rs_rc11_Check):=by kernel_rfl
theorem con_rc11_Check (hv:vc Tryd.prog y g_rc11_Check (retQ rs_rc11_Check R) [(0,a0)] h):ConX y Tryd.prog 10 #[a0] h R:=con_of Tryd.func10 gc_rc11_Check rfl (fun h=>absurd h (by decide)) hv
def T_law10_buffering:List (Nat×List Nat):=[(0,[0,1,4]),(1,[4])]
abbrev g_law10_buffering_r0:GR:=(OP 0 4 (.alloc 27 [(.int .i64 0),(.slice none 0 0),(.slice none 0 0),(.slice none 0 0),(.slice none 0 0),(.slice none 0 0),(.slice none 0 0),(.slice none 0 0)]) .done)
abbrev g_law10_buffering_r1:GR:=(O1 0 5 0 (OP 1 6 (.call 9 [(.const (.int .i64 0)),(.const (.int .i64 2)),(.const (.int .i64 0)),(.const (.int .u64 1)),(.tmp 5)]) (O1 2 7 1 (OP 3 8 (.call 9 [(.const (.int .i64 0)),(.const (.int .i64 1)),(.const (.int .i64 1)),(.const (.int .u64 0)),(.tmp 7)]) (O1 4 9 0 (OP 5 10 (.call 9 [(.const (.int .i64 1)),(.const (.int .i64 2)),(.const (.int .i64 1)),(.const (.int .u64 1)),(.tmp 9)]) (O1 6 11 1 (OP 7 12 (.call 9 [(.const (.int .i64 1)),(.const (.int .i64 1)),(.const (.int .i64 0)),(.const (.int .u64 0)),(.tmp 11)]) (OP 8 13 (.buildSlice 31 4 [(.int .i64 0),(.int .i64 0),(.int .i64 0),(.int .u64 0),(.int .i64 0),(.int .i64 0),(.int .i64 0),(.int .i64 0),(.int .u64 0),(.int .i64 0),(.int .i64 0),(.int .i64 0),(.int .i64 0),(.int .u64 0),(.int .i64 0),(.int .i64 0),(.int .i64 0),(.int .i64 0),(.int .u64 0),(.int .i64 0)] [(0,(5,(.tmp 6))),(5,(5,(.tmp 8))),(10,(5,(.tmp 10))),(15,(5,(.tmp 12)))]) (OP 9 14 (.build [(.int .i64 0),(.int .i64 0)] [(0,(1,(.const (.int .i64 1)))),(1,(1,(.const (.int .i64 3))))]) (OP 10 15 (.build [(.int .i64 0),(.int .i64 0)] [(0,(1,(.const (.int .i64 0)))),(1,(1,(.const (.int .i64 5))))]) (OP 11 16 (.buildSlice 34 2 [(.int .i64 0),(.int .i64 0),(.int .i64 0),(.int .i64 0)] [(0,(2,(.tmp 14))),(2,(2,(.tmp 15)))]) (OP 12 17 (.buildSlice 3 1 [(.int .i64 0)] [(0,(1,(.const (.int .i64 2))))]) (OP 13 18 (.buildSlice 3 1 [(.int .i64 0)] [(0,(1,(.const (.int .i64 4))))]) (OP 14 19 (.call 8 [(.tmp 13),(.tmp 16),(.tmp 17),(.tmp 18)]) (OS 15 (.store 8 (.tmp 4) (.tmp 19)) .done))))))))))))))))
abbrev g_law10_buffering:GC:=(.seq (.reg g_law10_buffering_r0 [0,1,4]) (.seq (.reg g_law10_buffering_r1 [4]) .ret))
abbrev rs_law10_buffering:List RV:=[(.cell 4 (some 8))]
theorem gc_law10_buffering:compileF Tryd.prog Tryd.f11 T_law10_buffering=some (g_law10_buffering,rs_law10_buffering):=by kernel_rfl
theorem con_law10_buffering (hv:vc Tryd.prog y g_law10_buffering (retQ rs_law10_buffering R) [(0,a0),(1,a1)] h):ConX y Tryd.prog 11 #[a0,a1] h R:=con_of Tryd.func11 gc_law10_buffering rfl (fun h=>absurd h (by decide)) hv
def T_law10_says:List (Nat×List Nat):=[(0,[1,2,3]),(1,[1,2,7,8,9]),(2,[6])]
abbrev g_law10_says_r0:GR:=(OP 0 3 (.box 27 (.tmp 0)) (OP 1 6 (.mv (.const (.bool false))) .done))
abbrev g_law10_says_r1:GR:=(OP 0 11 (.load (some 8) (.tmp 3)) (OP 1 12 (.call 10 [(.tmp 11)]) (O1 2 10 12 (OP 3 13 (.extract 0 (.tmp 10)) (OP 4 14 (.extract 1 (.tmp 10)) (OP 5 15 (.extract 2 (.tmp 10)) (O1 6 7 13 (O1 7 8 14 (O1 8 9 15 .done)))))))))
abbrev g_law10_says_r2:GR:=(O1 0 16 9 (OP 1 17 (.bin .eql (.tmp 16) (.const (.int .i64 0))) (O1 2 18 17 (OG 3 19 18 true (.mv (.tmp 7)) (OG 4 20 18 true (.mv (.tmp 1)) (OG 5 21 18 true (.bin .eql (.tmp 19) (.tmp 20)) (OP 6 22 (.pick (.tmp 18) (.tmp 21) (.const (.bool false))) (O1 7 23 22 (OG 8 24 23 true (.mv (.tmp 8)) (OG 9 25 23 true (.mv (.tmp 2)) (OG 10 26 23 true (.call 31 [(.tmp 24),(.tmp 25)]) (OP 11 27 (.pick (.tmp 23) (.tmp 26) (.const (.bool false))) (O1 12 6 27 .done)))))))))))))
abbrev g_law10_says:GC:=(.seq (.reg g_law10_says_r0 [1,2,3]) (.seq (.reg g_law10_says_r1 [1,2,7,8,9]) (.seq (.reg g_law10_says_r2 [6]) .ret)))
abbrev rs_law10_says:List RV:=[(.tmp 6)]
theorem gc_law10_says:compileF Tryd.prog Tryd.f12 T_law10_says=some (g_law10_says,rs_law10_says):=by kernel_rfl
theorem con_law10_says (hv:vc Tryd.prog y g_law10_says (retQ rs_law10_says R) [(0,a0),(1,a1),(2,a2)] h):ConX y Tryd.prog 12 #[a0,a1,a2] h R:=con_of Tryd.func12 gc_law10_says rfl (fun h=>absurd h (by decide)) hv
def T_rc11_Derive:List (Nat×List Nat):=[(0,[1,2]),(1,[2,4,5]),(2,[2,4,5,12]),(3,[2,3]),(4,[2,3])]
abbrev g_rc11_Derive_r0:GR:=(OP 0 1 (.box 27 (.tmp 0)) (OP 1 2 (.alloc 50 [(.pointer none),(.pointer none),(.pointer none),(.pointer none),(.pointer none),(.pointer none),(.pointer none)]) (OP 2 3 (.mv (.const (.int .i64 0))) .done)))
abbrev g_rc11_Derive_r1:GR:=(OP 0 7 (.load (some 8) (.tmp 1)) (OP 1 8 (.call 29 [(.tmp 7)]) (O1 2 6 8 (OP 3 9 (.extract 0 (.tmp 6)) (OP 4 10 (.extract 1 (.tmp 6)) (O1 5 4 9 (O1 6 5 10 .done)))))))
abbrev g_rc11_Derive_r2:GR:=(O1 0 11 5 (OP 1 12 (.bin .neq (.tmp 11) (.const (.int .i64 0))) .done))
abbrev g_rc11_Derive_r3:GR:=(OP 0 13 (.build [(.pointer none),(.pointer none),(.pointer none),(.pointer none),(.pointer none),(.pointer none),(.pointer none)] []) (O1 1 14 5 (OS 2 (.store 7 (.tmp 2) (.tmp 13)) (O1 3 3 14 .done))))
abbrev g_rc11_Derive_r4:GR:=(O1 0 15 4 (OP 1 16 (.nilCheck (.tmp 15)) (O3 2 17 21 16 (OP 3 18 (.load (some 7) (.tmp 17)) (OS 4 (.store 7 (.tmp 2) (.tmp 18)) (OP 5 3 (.mv (.const (.int .i64 0))) .done))))))
abbrev g_rc11_Derive:GC:=(.seq (.reg g_rc11_Derive_r0 [1,2]) (.seq (.reg g_rc11_Derive_r1 [2,4,5]) (.seq (.seq (.reg g_rc11_Derive_r2 [2,4,5,12]) (.cond (.tmp 12) (.seq (.reg g_rc11_Derive_r3 [2,3]) .ret) .skip)) (.seq (.reg g_rc11_Derive_r4 [2,3]) .ret))))
abbrev rs_rc11_Derive:List RV:=[(.cell 2 (some 7)),(.tmp 3)]
theorem gc_rc11_Derive:compileF Tryd.prog Tryd.f18 T_rc11_Derive=some (g_rc11_Derive,rs_rc11_Derive):=by kernel_rfl
theorem con_rc11_Derive (hv:vc Tryd.prog y g_rc11_Derive (retQ rs_rc11_Derive R) [(0,a0)] h):ConX y Tryd.prog 18 #[a0] h R:=con_of Tryd.func18 gc_rc11_Derive rfl (fun h=>absurd h (by decide)) hv
def T_rel_Rel_Pairs:List (Nat×List Nat):=[(0,[0,2]),(1,[0,2,3]),(2,[2,3,10,11,12]),(3,[2,3,10,11,12,13]),(4,[2,3,4,5,10,11,12]),(5,[2,3,4,10,11,12,18]),(6,[3,4,6]),(7,[]),(8,[2,3,10,11,12]),(9,[2])]
abbrev g_rel_Rel_Pairs_r0:GR:=(OP 0 2 (.mv (.const (.slice none 0 0))) .done)
abbrev g_rel_Rel_Pairs_r1:GR:=(OP 0 3 (.alloc 24 [(.slice none 0 0)]) .done)
abbrev g_rel_Rel_Pairs_r2:GR:=(O1 0 7 0 (OP 1 8 (.nilCheck (.tmp 7)) (O3 2 9 1 8 (O2 3 10 9 (OP 4 11 (.len (.tmp 10)) (OP 5 12 (.mv (.const (.int .i64 0))) .done))))))
abbrev g_rel_Rel_Pairs_r3:GR:=(O5 0 13 .lss 12 11 .done)
abbrev g_rel_Rel_Pairs_r4:GR:=(O1 0 14 12 (O4 1 15 1 10 12 (O2 2 16 15 (OP 3 4 (.alloc 3 [(.int .i64 0)]) (OS 4 (.store 1 (.tmp 4) (.tmp 14)) (O1 5 5 16 .done))))))
abbrev g_rel_Rel_Pairs_r5:GR:=(O1 0 17 5 (OP 1 18 (.call 38 [(.tmp 17)]) .done))
abbrev g_rel_Rel_Pairs_r6:GR:=(O1 0 6 19 .done)
abbrev g_rel_Rel_Pairs_r7:GR:=(O2 0 20 3 (O2 1 21 4 (O1 2 22 6 (OP 3 23 (.build [(.int .i64 0),(.int .i64 0)] [(0,(1,(.tmp 21))),(1,(1,(.tmp 22)))]) (OP 4 24 (.buildSlice 34 1 [(.int .i64 0),(.int .i64 0)] [(0,(2,(.tmp 23)))]) (OP 5 25 (.append 34 2 16 [(.int .i64 0),(.int .i64 0)] (.tmp 20) (.tmp 24)) (OS 6 (.store 1 (.tmp 3) (.tmp 25)) .done)))))))
abbrev g_rel_Rel_Pairs_b8:GC:=(.block 3 (.reg g_rel_Rel_Pairs_r7 []))
abbrev g_rel_Rel_Pairs_r9:GR:=(OP 0 26 (.bin .add (.tmp 12) (.const (.int .i64 1))) (O1 1 12 26 .done))
abbrev g_rel_Rel_Pairs_l10:GC:=(.seq (.reg g_rel_Rel_Pairs_r3 [2,3,10,11,12,13]) (.seq (.cond (.tmp 13) .skip (.exit 0)) (.seq (.block 1 (.seq (.reg g_rel_Rel_Pairs_r4 [2,3,4,5,10,11,12]) (.seq (.reg g_rel_Rel_Pairs_r5 [2,3,4,10,11,12,18]) (.block 2 (.rng (.tmp 18) [19] (.reg g_rel_Rel_Pairs_r6 [3,4,6]) g_rel_Rel_Pairs_b8))))) (.reg g_rel_Rel_Pairs_r9 [2,3,10,11,12]))))
abbrev g_rel_Rel_Pairs_r11:GR:=(O2 0 27 3 (O1 1 2 27 .done))
abbrev g_rel_Rel_Pairs:GC:=(.seq (.reg g_rel_Rel_Pairs_r0 [0,2]) (.seq (.reg g_rel_Rel_Pairs_r1 [0,2,3]) (.seq (.seq (.reg g_rel_Rel_Pairs_r2 [2,3,10,11,12]) (.block 0 (.loop g_rel_Rel_Pairs_l10))) (.seq (.reg g_rel_Rel_Pairs_r11 [2]) .ret))))
abbrev rs_rel_Rel_Pairs:List RV:=[(.tmp 2)]
theorem gc_rel_Rel_Pairs:compileF Tryd.prog Tryd.f19 T_rel_Rel_Pairs=some (g_rel_Rel_Pairs,rs_rel_Rel_Pairs):=by kernel_rfl
theorem con_rel_Rel_Pairs (hR:∀ v h1 h2,Ext h.size h1 h2→R v h1→R v h2) (hv:vc Tryd.prog y g_rel_Rel_Pairs (retQ rs_rel_Rel_Pairs R) [(0,a0)] h):ConX y Tryd.prog 19 #[a0] h R:=con_of Tryd.func19 gc_rel_Rel_Pairs rfl (fun _=>hR) hv
def T_rel_New:List (Nat×List Nat):=[(0,[0]),(1,[0]),(2,[0,3]),(3,[0,3,17,18]),(4,[0,3,17,18,19]),(5,[0,3,4,17,18]),(6,[0,3,17,18]),(7,[0,3,17,18]),(8,[2])]
abbrev g_rel_New_r0:GR:=(OP 0 2 (.mv (.const (.pointer none))) .done)
abbrev g_rel_New_r1:GR:=(O1 0 5 0 (OP 1 6 (.mini (.tmp 5) (.const (.int .i64 256))) (OP 2 7 (.maxi (.const (.int .i64 0)) (.tmp 6)) (O1 3 0 7 .done))))
abbrev g_rel_New_r2:GR:=(O1 0 8 0 (O1 1 9 0 (OP 2 10 (.makeSlice 85 1 24 [(.slice none 0 0)] (.tmp 9) (.tmp 9)) (OP 3 11 (.build [(.int .i64 0),(.slice none 0 0)] [(0,(1,(.tmp 8))),(1,(1,(.tmp 10)))]) (OP 4 12 (.box 83 (.tmp 11)) (O1 5 3 12 .done))))))
abbrev g_rel_New_r3:GR:=(O1 0 13 3 (OP 1 14 (.nilCheck (.tmp 13)) (O3 2 15 1 14 (O2 3 16 15 (OP 4 17 (.len (.tmp 16)) (OP 5 18 (.mv (.const (.int .i64 0))) .done))))))
abbrev g_rel_New_r4:GR:=(O5 0 19 .lss 18 17 .done)
abbrev g_rel_New_r5:GR:=(O1 0 20 18 (O1 1 4 20 .done))
abbrev g_rel_New_r6:GR:=(O1 0 21 3 (OP 1 22 (.nilCheck (.tmp 21)) (O3 2 23 1 22 (O6 3 24 23 (O1 4 25 4 (O1 5 26 0 (OP 6 27 (.bin .add (.tmp 26) (.const (.int .i64 63))) (OP 7 28 (.bin .quo (.tmp 27) (.const (.int .i64 64))) (OP 8 29 (.makeSlice 29 1 8 [(.int .u64 0)] (.tmp 28) (.tmp 28)) (O4 9 30 1 24 25 (OS 10 (.store 1 (.tmp 30) (.tmp 29)) .done)))))))))))
abbrev g_rel_New_r7:GR:=(OP 0 31 (.bin .add (.tmp 18) (.const (.int .i64 1))) (O1 1 18 31 .done))
abbrev g_rel_New_l8:GC:=(.seq (.reg g_rel_New_r4 [0,3,17,18,19]) (.seq (.cond (.tmp 19) .skip (.exit 0)) (.seq (.block 1 (.seq (.reg g_rel_New_r5 [0,3,4,17,18]) (.reg g_rel_New_r6 [0,3,17,18]))) (.reg g_rel_New_r7 [0,3,17,18]))))
abbrev g_rel_New_r9:GR:=(O1 0 32 3 (O1 1 2 32 .done))
abbrev g_rel_New:GC:=(.seq (.reg g_rel_New_r0 [0]) (.seq (.reg g_rel_New_r1 [0]) (.seq (.reg g_rel_New_r2 [0,3]) (.seq (.seq (.reg g_rel_New_r3 [0,3,17,18]) (.block 0 (.loop g_rel_New_l8))) (.seq (.reg g_rel_New_r9 [2]) .ret)))))
abbrev rs_rel_New:List RV:=[(.tmp 2)]
theorem gc_rel_New:compileF Tryd.prog Tryd.f20 T_rel_New=some (g_rel_New,rs_rel_New):=by kernel_rfl
theorem con_rel_New (hv:vc Tryd.prog y g_rel_New (retQ rs_rel_New R) [(0,a0)] h):ConX y Tryd.prog 20 #[a0] h R:=con_of Tryd.func20 gc_rel_New rfl (fun h=>absurd h (by decide)) hv
def T_rel_Rel_Put:List (Nat×List Nat):=[(0,[0,1,2,3]),(1,[0,1,2,26]),(2,[8]),(3,[]),(4,[8])]
abbrev g_rel_Rel_Put_r0:GR:=(OP 0 8 (.mv (.const (.bool false))) .done)
abbrev g_rel_Rel_Put_r1:GR:=(O1 0 9 0 (O1 1 10 1 (O1 2 11 2 (OP 3 12 (.call 39 [(.tmp 9),(.tmp 10),(.tmp 11)]) (OP 4 13 (.not (.tmp 12)) (O1 5 14 13 (OG 6 15 14 false (.mv (.tmp 0)) (OG 7 16 14 false (.nilCheck (.tmp 15)) (OG 8 17 14 false (.fieldAddr 1 (.tmp 16)) (OG 9 18 14 false (.load none (.tmp 17)) (OG 10 19 14 false (.mv (.tmp 1)) (OG 11 20 14 false (.indexAddr 1 (.tmp 18) (.tmp 19)) (OG 12 21 14 false (.load none (.tmp 20)) (OG 13 22 14 false (.mv (.tmp 2)) (OG 14 23 14 false (.call 40 [(.tmp 21),(.tmp 22)]) (OG 15 24 14 false (.mv (.tmp 3)) (OG 16 25 14 false (.eqBool false (.tmp 23) (.tmp 24)) (OP 17 26 (.pick (.tmp 14) (.const (.bool true)) (.tmp 25)) .done))))))))))))))))))
abbrev g_rel_Rel_Put_r2:GR:=(OP 0 8 (.mv (.const (.bool false))) .done)
abbrev g_rel_Rel_Put_r3:GR:=(O1 0 27 0 (OP 1 28 (.nilCheck (.tmp 27)) (O3 2 29 1 28 (O6 3 30 29 (O1 4 31 1 (O4 5 32 1 30 31 (O6 6 33 32 (O1 7 34 2 (OP 8 35 (.bin .quo (.tmp 34) (.const (.int .i64 64))) (O4 9 36 1 33 35 (O6 10 37 36 (O1 11 38 2 (OP 12 39 (.bin .rem (.tmp 38) (.const (.int .i64 64))) (OP 13 40 (.shift .shl (.const (.int .u64 1)) (.tmp 39)) (O5 14 41 .xor 37 40 (O4 15 42 1 33 35 (OS 16 (.store 1 (.tmp 42) (.tmp 41)) .done)))))))))))))))))
abbrev g_rel_Rel_Put_r4:GR:=(OP 0 8 (.mv (.const (.bool true))) .done)
abbrev g_rel_Rel_Put:GC:=(.seq (.reg g_rel_Rel_Put_r0 [0,1,2,3]) (.seq (.seq (.reg g_rel_Rel_Put_r1 [0,1,2,26]) (.cond (.tmp 26) (.seq (.reg g_rel_Rel_Put_r2 [8]) .ret) .skip)) (.seq (.reg g_rel_Rel_Put_r3 []) (.seq (.reg g_rel_Rel_Put_r4 [8]) .ret))))
abbrev rs_rel_Rel_Put:List RV:=[(.tmp 8)]
theorem gc_rel_Rel_Put:compileF Tryd.prog Tryd.f21 T_rel_Rel_Put=some (g_rel_Rel_Put,rs_rel_Rel_Put):=by kernel_rfl
theorem con_rel_Rel_Put (hv:vc Tryd.prog y g_rel_Rel_Put (retQ rs_rel_Rel_Put R) [(0,a0),(1,a1),(2,a2),(3,a3)] h):ConX y Tryd.prog 21 #[a0,a1,a2,a3] h R:=con_of Tryd.func21 gc_rel_Rel_Put rfl (fun h=>absurd h (by decide)) hv
def T_rel_Rel_Has:List (Nat×List Nat):=[(0,[0,1,2]),(1,[6])]
abbrev g_rel_Rel_Has_r0:GR:=(OP 0 6 (.mv (.const (.bool false))) .done)
abbrev g_rel_Rel_Has_r1:GR:=(O1 0 7 0 (O1 1 8 1 (O1 2 9 2 (OP 3 10 (.call 39 [(.tmp 7),(.tmp 8),(.tmp 9)]) (O1 4 11 10 (OG 5 12 11 true (.mv (.tmp 0)) (OG 6 13 11 true (.nilCheck (.tmp 12)) (OG 7 14 11 true (.fieldAddr 1 (.tmp 13)) (OG 8 15 11 true (.load none (.tmp 14)) (OG 9 16 11 true (.mv (.tmp 1)) (OG 10 17 11 true (.indexAddr 1 (.tmp 15) (.tmp 16)) (OG 11 18 11 true (.load none (.tmp 17)) (OG 12 19 11 true (.mv (.tmp 2)) (OG 13 20 11 true (.call 40 [(.tmp 18),(.tmp 19)]) (OP 14 21 (.pick (.tmp 11) (.tmp 20) (.const (.bool false))) (O1 15 6 21 .done))))))))))))))))
abbrev g_rel_Rel_Has:GC:=(.seq (.reg g_rel_Rel_Has_r0 [0,1,2]) (.seq (.reg g_rel_Rel_Has_r1 [6]) .ret))
abbrev rs_rel_Rel_Has:List RV:=[(.tmp 6)]
theorem gc_rel_Rel_Has:compileF Tryd.prog Tryd.f22 T_rel_Rel_Has=some (g_rel_Rel_Has,rs_rel_Rel_Has):=by kernel_rfl
theorem con_rel_Rel_Has (hv:vc Tryd.prog y g_rel_Rel_Has (retQ rs_rel_Rel_Has R) [(0,a0),(1,a1),(2,a2)] h):ConX y Tryd.prog 22 #[a0,a1,a2] h R:=con_of Tryd.func22 gc_rel_Rel_Has rfl (fun h=>absurd h (by decide)) hv
def T_rel_Acyclic:List (Nat×List Nat):=[(0,[0]),(1,[2])]
abbrev g_rel_Acyclic_r0:GR:=(OP 0 2 (.mv (.const (.bool false))) .done)
abbrev g_rel_Acyclic_r1:GR:=(O1 0 3 0 (OP 1 4 (.call 41 [(.tmp 3)]) (OP 2 5 (.call 26 [(.tmp 4)]) (O1 3 2 5 .done))))
abbrev g_rel_Acyclic:GC:=(.seq (.reg g_rel_Acyclic_r0 [0]) (.seq (.reg g_rel_Acyclic_r1 [2]) .ret))
abbrev rs_rel_Acyclic:List RV:=[(.tmp 2)]
theorem gc_rel_Acyclic:compileF Tryd.prog Tryd.f23 T_rel_Acyclic=some (g_rel_Acyclic,rs_rel_Acyclic):=by kernel_rfl
theorem con_rel_Acyclic (hv:vc Tryd.prog y g_rel_Acyclic (retQ rs_rel_Acyclic R) [(0,a0)] h):ConX y Tryd.prog 23 #[a0] h R:=con_of Tryd.func23 gc_rel_Acyclic rfl (fun h=>absurd h (by decide)) hv
def T_rel_Union:List (Nat×List Nat):=[(0,[0]),(1,[0,3]),(2,[0,3,11,12,13]),(3,[0,3,11,12,13,14]),(4,[0,3,5,11,12,13]),(5,[0,3,11,12,13]),(6,[0,3,11,12,13]),(7,[0,6]),(8,[6,26,27,28]),(9,[6,26,27,28,29]),(10,[6,8,26,27,28]),(11,[6,26,27,28,35,36,37]),(12,[6,26,27,28,35,36,37,38]),(13,[6,9,10,26,27,28,35,36,37]),(14,[6,26,27,28,35,36,37]),(15,[6,26,27,28,35,36,37]),(16,[6,26,27,28]),(17,[2])]
abbrev g_rel_Union_r0:GR:=(OP 0 2 (.mv (.const (.pointer none))) .done)
abbrev g_rel_Union_r1:GR:=(OP 0 3 (.mv (.const (.int .i64 0))) .done)
abbrev g_rel_Union_r2:GR:=(O1 0 11 0 (OP 1 12 (.len (.tmp 11)) (OP 2 13 (.mv (.const (.int .i64 0))) .done)))
abbrev g_rel_Union_r3:GR:=(O5 0 14 .lss 13 12 .done)
abbrev g_rel_Union_r4:GR:=(O4 0 15 1 11 13 (O2 1 16 15 (O1 2 5 16 .done)))
abbrev g_rel_Union_r5:GR:=(O1 0 17 3 (O1 1 18 5 (OP 2 19 (.nilCheck (.tmp 18)) (O3 3 20 0 19 (O2 4 21 20 (OP 5 22 (.maxi (.tmp 17) (.tmp 21)) (O1 6 3 22 .done)))))))
abbrev g_rel_Union_r6:GR:=(OP 0 23 (.bin .add (.tmp 13) (.const (.int .i64 1))) (O1 1 13 23 .done))
abbrev g_rel_Union_l7:GC:=(.seq (.reg g_rel_Union_r3 [0,3,11,12,13,14]) (.seq (.cond (.tmp 14) .skip (.exit 0)) (.seq (.block 1 (.seq (.reg g_rel_Union_r4 [0,3,5,11,12,13]) (.reg g_rel_Union_r5 [0,3,11,12,13]))) (.reg g_rel_Union_r6 [0,3,11,12,13]))))
abbrev g_rel_Union_r8:GR:=(O1 0 24 3 (OP 1 25 (.call 20 [(.tmp 24)]) (O1 2 6 25 .done)))
abbrev g_rel_Union_r9:GR:=(O1 0 26 0 (OP 1 27 (.len (.tmp 26)) (OP 2 28 (.mv (.const (.int .i64 0))) .done)))
abbrev g_rel_Union_r10:GR:=(O5 0 29 .lss 28 27 .done)
abbrev g_rel_Union_r11:GR:=(O4 0 30 1 26 28 (O2 1 31 30 (O1 2 8 31 .done)))
abbrev g_rel_Union_r12:GR:=(O1 0 32 8 (OP 1 33 (.nilCheck (.tmp 32)) (O3 2 34 1 33 (O2 3 35 34 (OP 4 36 (.len (.tmp 35)) (OP 5 37 (.mv (.const (.int .i64 0))) .done))))))
abbrev g_rel_Union_r13:GR:=(O5 0 38 .lss 37 36 .done)
abbrev g_rel_Union_r14:GR:=(O1 0 39 37 (O4 1 40 1 35 37 (O2 2 41 40 (O1 3 9 39 (O1 4 10 41 .done)))))
abbrev g_rel_Union_r15:GR:=(O1 0 42 6 (OP 1 43 (.nilCheck (.tmp 42)) (O3 2 44 1 43 (O2 3 45 44 (O1 4 46 9 (O4 5 47 1 45 46 (O2 6 48 47 (O1 7 49 10 (OP 8 50 (.buildSlice 85 1 [(.slice none 0 0)] [(0,(1,(.tmp 49)))]) (OP 9 51 (.call 42 [(.tmp 48),(.tmp 50)]) .done))))))))))
abbrev g_rel_Union_r16:GR:=(OP 0 52 (.bin .add (.tmp 37) (.const (.int .i64 1))) (O1 1 37 52 .done))
abbrev g_rel_Union_l17:GC:=(.seq (.reg g_rel_Union_r13 [6,26,27,28,35,36,37,38]) (.seq (.cond (.tmp 38) .skip (.exit 4)) (.seq (.block 5 (.seq (.reg g_rel_Union_r14 [6,9,10,26,27,28,35,36,37]) (.reg g_rel_Union_r15 [6,26,27,28,35,36,37]))) (.reg g_rel_Union_r16 [6,26,27,28,35,36,37]))))
abbrev g_rel_Union_r18:GR:=(OP 0 53 (.bin .add (.tmp 28) (.const (.int .i64 1))) (O1 1 28 53 .done))
abbrev g_rel_Union_l19:GC:=(.seq (.reg g_rel_Union_r10 [6,26,27,28,29]) (.seq (.cond (.tmp 29) .skip (.exit 2)) (.seq (.block 3 (.seq (.reg g_rel_Union_r11 [6,8,26,27,28]) (.seq (.reg g_rel_Union_r12 [6,26,27,28,35,36,37]) (.block 4 (.loop g_rel_Union_l17))))) (.reg g_rel_Union_r18 [6,26,27,28]))))
abbrev g_rel_Union_r20:GR:=(O1 0 54 6 (O1 1 2 54 .done))
abbrev g_rel_Union:GC:=(.seq (.reg g_rel_Union_r0 [0]) (.seq (.reg g_rel_Union_r1 [0,3]) (.seq (.seq (.reg g_rel_Union_r2 [0,3,11,12,13]) (.block 0 (.loop g_rel_Union_l7))) (.seq (.reg g_rel_Union_r8 [0,6]) (.seq (.seq (.reg g_rel_Union_r9 [6,26,27,28]) (.block 2 (.loop g_rel_Union_l19))) (.seq (.reg g_rel_Union_r20 [2]) .ret))))))
abbrev rs_rel_Union:List RV:=[(.tmp 2)]
theorem gc_rel_Union:compileF Tryd.prog Tryd.f24 T_rel_Union=some (g_rel_Union,rs_rel_Union):=by kernel_rfl
theorem con_rel_Union (hv:vc Tryd.prog y g_rel_Union (retQ rs_rel_Union R) [(0,a0)] h):ConX y Tryd.prog 24 #[a0] h R:=con_of Tryd.func24 gc_rel_Union rfl (fun h=>absurd h (by decide)) hv
def T_rel_Of:List (Nat×List Nat):=[(0,[0,1]),(1,[1,5]),(2,[5,10,11,12]),(3,[5,10,11,12,13]),(4,[5,7,10,11,12]),(5,[5,10,11,12]),(6,[5,10,11,12]),(7,[4])]
abbrev g_rel_Of_r0:GR:=(OP 0 4 (.mv (.const (.pointer none))) .done)
abbrev g_rel_Of_r1:GR:=(O1 0 8 0 (OP 1 9 (.call 20 [(.tmp 8)]) (O1 2 5 9 .done)))
abbrev g_rel_Of_r2:GR:=(O1 0 10 1 (OP 1 11 (.len (.tmp 10)) (OP 2 12 (.mv (.const (.int .i64 0))) .done)))
abbrev g_rel_Of_r3:GR:=(O5 0 13 .lss 12 11 .done)
abbrev g_rel_Of_r4:GR:=(O4 0 14 2 10 12 (OP 1 15 (.load (some 2) (.tmp 14)) (OP 2 7 (.alloc 34 [(.int .i64 0),(.int .i64 0)]) (OS 3 (.store 2 (.tmp 7) (.tmp 15)) .done))))
abbrev g_rel_Of_r5:GR:=(O1 0 16 5 (O3 1 17 0 7 (O2 2 18 17 (O3 3 19 1 7 (O2 4 20 19 (OP 5 21 (.call 21 [(.tmp 16),(.tmp 18),(.tmp 20),(.const (.bool true))]) .done))))))
abbrev g_rel_Of_r6:GR:=(OP 0 22 (.bin .add (.tmp 12) (.const (.int .i64 1))) (O1 1 12 22 .done))
abbrev g_rel_Of_l7:GC:=(.seq (.reg g_rel_Of_r3 [5,10,11,12,13]) (.seq (.cond (.tmp 13) .skip (.exit 0)) (.seq (.block 1 (.seq (.reg g_rel_Of_r4 [5,7,10,11,12]) (.reg g_rel_Of_r5 [5,10,11,12]))) (.reg g_rel_Of_r6 [5,10,11,12]))))
abbrev g_rel_Of_r8:GR:=(O1 0 23 5 (O1 1 4 23 .done))
abbrev g_rel_Of:GC:=(.seq (.reg g_rel_Of_r0 [0,1]) (.seq (.reg g_rel_Of_r1 [1,5]) (.seq (.seq (.reg g_rel_Of_r2 [5,10,11,12]) (.block 0 (.loop g_rel_Of_l7))) (.seq (.reg g_rel_Of_r8 [4]) .ret))))
abbrev rs_rel_Of:List RV:=[(.tmp 4)]
theorem gc_rel_Of:compileF Tryd.prog Tryd.f25 T_rel_Of=some (g_rel_Of,rs_rel_Of):=by kernel_rfl
theorem con_rel_Of (hv:vc Tryd.prog y g_rel_Of (retQ rs_rel_Of R) [(0,a0),(1,a1)] h):ConX y Tryd.prog 25 #[a0,a1] h R:=con_of Tryd.func25 gc_rel_Of rfl (fun h=>absurd h (by decide)) hv
def T_rel_Irreflexive:List (Nat×List Nat):=[(0,[0]),(1,[8,9,10]),(2,[8,9,10,11]),(3,[3,4,8,9,10]),(4,[8,9,10,17]),(5,[2]),(6,[8,9,10]),(7,[2])]
abbrev g_rel_Irreflexive_r0:GR:=(OP 0 2 (.mv (.const (.bool false))) .done)
abbrev g_rel_Irreflexive_r1:GR:=(O1 0 5 0 (OP 1 6 (.nilCheck (.tmp 5)) (O3 2 7 1 6 (O2 3 8 7 (OP 4 9 (.len (.tmp 8)) (OP 5 10 (.mv (.const (.int .i64 0))) .done))))))
abbrev g_rel_Irreflexive_r2:GR:=(O5 0 11 .lss 10 9 .done)
abbrev g_rel_Irreflexive_r3:GR:=(O1 0 12 10 (O4 1 13 1 8 10 (O2 2 14 13 (O1 3 3 12 (O1 4 4 14 .done)))))
abbrev g_rel_Irreflexive_r4:GR:=(O1 0 15 4 (O1 1 16 3 (OP 2 17 (.call 40 [(.tmp 15),(.tmp 16)]) .done)))
abbrev g_rel_Irreflexive_r5:GR:=(OP 0 2 (.mv (.const (.bool false))) .done)
abbrev g_rel_Irreflexive_r6:GR:=(OP 0 18 (.bin .add (.tmp 10) (.const (.int .i64 1))) (O1 1 10 18 .done))
abbrev g_rel_Irreflexive_l7:GC:=(.seq (.reg g_rel_Irreflexive_r2 [8,9,10,11]) (.seq (.cond (.tmp 11) .skip (.exit 0)) (.seq (.block 1 (.seq (.reg g_rel_Irreflexive_r3 [3,4,8,9,10]) (.seq (.reg g_rel_Irreflexive_r4 [8,9,10,17]) (.cond (.tmp 17) (.seq (.reg g_rel_Irreflexive_r5 [2]) .ret) .skip)))) (.reg g_rel_Irreflexive_r6 [8,9,10]))))
abbrev g_rel_Irreflexive_r8:GR:=(OP 0 2 (.mv (.const (.bool true))) .done)
abbrev g_rel_Irreflexive:GC:=(.seq (.reg g_rel_Irreflexive_r0 [0]) (.seq (.seq (.reg g_rel_Irreflexive_r1 [8,9,10]) (.block 0 (.loop g_rel_Irreflexive_l7))) (.seq (.reg g_rel_Irreflexive_r8 [2]) .ret)))
abbrev rs_rel_Irreflexive:List RV:=[(.tmp 2)]
theorem gc_rel_Irreflexive:compileF Tryd.prog Tryd.f26 T_rel_Irreflexive=some (g_rel_Irreflexive,rs_rel_Irreflexive):=by kernel_rfl
theorem con_rel_Irreflexive (hv:vc Tryd.prog y g_rel_Irreflexive (retQ rs_rel_Irreflexive R) [(0,a0)] h):ConX y Tryd.prog 26 #[a0] h R:=con_of Tryd.func26 gc_rel_Irreflexive rfl (fun h=>absurd h (by decide)) hv
def T_law10_passing:List (Nat×List Nat):=[(0,[0,1,4]),(1,[4])]
abbrev g_law10_passing_r0:GR:=(OP 0 4 (.alloc 27 [(.int .i64 0),(.slice none 0 0),(.slice none 0 0),(.slice none 0 0),(.slice none 0 0),(.slice none 0 0),(.slice none 0 0),(.slice none 0 0)]) .done)
abbrev g_law10_passing_r1:GR:=(OP 0 5 (.call 9 [(.const (.int .i64 0)),(.const (.int .i64 2)),(.const (.int .i64 0)),(.const (.int .u64 1)),(.const (.int .i64 1))]) (O1 1 6 0 (OP 2 7 (.call 9 [(.const (.int .i64 0)),(.const (.int .i64 2)),(.const (.int .i64 1)),(.const (.int .u64 1)),(.tmp 6)]) (O1 3 8 1 (OP 4 9 (.call 9 [(.const (.int .i64 1)),(.const (.int .i64 1)),(.const (.int .i64 1)),(.const (.int .u64 1)),(.tmp 8)]) (OP 5 10 (.call 9 [(.const (.int .i64 1)),(.const (.int .i64 1)),(.const (.int .i64 0)),(.const (.int .u64 0)),(.const (.int .i64 1))]) (OP 6 11 (.buildSlice 31 4 [(.int .i64 0),(.int .i64 0),(.int .i64 0),(.int .u64 0),(.int .i64 0),(.int .i64 0),(.int .i64 0),(.int .i64 0),(.int .u64 0),(.int .i64 0),(.int .i64 0),(.int .i64 0),(.int .i64 0),(.int .u64 0),(.int .i64 0),(.int .i64 0),(.int .i64 0),(.int .i64 0),(.int .u64 0),(.int .i64 0)] [(0,(5,(.tmp 5))),(5,(5,(.tmp 7))),(10,(5,(.tmp 9))),(15,(5,(.tmp 10)))]) (OP 7 12 (.build [(.int .i64 0),(.int .i64 0)] [(0,(1,(.const (.int .i64 3)))),(1,(1,(.const (.int .i64 4))))]) (OP 8 13 (.build [(.int .i64 0),(.int .i64 0)] [(0,(1,(.const (.int .i64 0)))),(1,(1,(.const (.int .i64 5))))]) (OP 9 14 (.buildSlice 34 2 [(.int .i64 0),(.int .i64 0),(.int .i64 0),(.int .i64 0)] [(0,(2,(.tmp 12))),(2,(2,(.tmp 13)))]) (OP 10 15 (.buildSlice 3 1 [(.int .i64 0)] [(0,(1,(.const (.int .i64 2))))]) (OP 11 16 (.buildSlice 3 1 [(.int .i64 0)] [(0,(1,(.const (.int .i64 3))))]) (OP 12 17 (.call 8 [(.tmp 11),(.tmp 14),(.tmp 15),(.tmp 16)]) (OS 13 (.store 8 (.tmp 4) (.tmp 17)) .done))))))))))))))
abbrev g_law10_passing:GC:=(.seq (.reg g_law10_passing_r0 [0,1,4]) (.seq (.reg g_law10_passing_r1 [4]) .ret))
abbrev rs_law10_passing:List RV:=[(.cell 4 (some 8))]
theorem gc_law10_passing:compileF Tryd.prog Tryd.f27 T_law10_passing=some (g_law10_passing,rs_law10_passing):=by kernel_rfl
theorem con_law10_passing (hv:vc Tryd.prog y g_law10_passing (retQ rs_law10_passing R) [(0,a0),(1,a1)] h):ConX y Tryd.prog 27 #[a0,a1] h R:=con_of Tryd.func27 gc_law10_passing rfl (fun h=>absurd h (by decide)) hv
def T_law10_pairs:List (Nat×List Nat):=[(0,[0,1]),(1,[0,1,10]),(2,[4]),(3,[0,1,5]),(4,[0,1,5,14]),(5,[0,1,5]),(6,[0,1,5,25]),(7,[4]),(8,[4])]
abbrev g_law10_pairs_r0:GR:=(OP 0 4 (.mv (.const (.bool false))) .done)
abbrev g_law10_pairs_r1:GR:=(O1 0 6 0 (OP 1 7 (.len (.tmp 6)) (O1 2 8 1 (OP 3 9 (.len (.tmp 8)) (O5 4 10 .neq 7 9 .done)))))
abbrev g_law10_pairs_r2:GR:=(OP 0 4 (.mv (.const (.bool false))) .done)
abbrev g_law10_pairs_r3:GR:=(OP 0 5 (.mv (.const (.int .i64 0))) .done)
abbrev g_law10_pairs_r4:GR:=(O1 0 11 5 (O1 1 12 0 (OP 2 13 (.len (.tmp 12)) (O5 3 14 .lss 11 13 .done))))
abbrev g_law10_pairs_r5:GR:=(O1 0 17 0 (O1 1 18 5 (O4 2 19 2 17 18 (OW 3 20 (.load (some 2) (.tmp 19)) (O1 4 21 1 (O1 5 22 5 (O4 6 23 2 21 22 (OW 7 24 (.load (some 2) (.tmp 23)) (OP 8 25 (.eqStruct true [0,1] (.tmp 20) (.tmp 24)) .done)))))))))
abbrev g_law10_pairs_r6:GR:=(OP 0 4 (.mv (.const (.bool false))) .done)
abbrev g_law10_pairs_r7:GR:=(O1 0 15 5 (OP 1 16 (.bin .add (.tmp 15) (.const (.int .i64 1))) (O1 2 5 16 .done)))
abbrev g_law10_pairs_l8:GC:=(.seq (.seq (.reg g_law10_pairs_r4 [0,1,5,14]) (.cond (.tmp 14) .skip (.exit 0))) (.seq (.block 1 (.seq (.reg g_law10_pairs_r5 [0,1,5,25]) (.cond (.tmp 25) (.seq (.reg g_law10_pairs_r6 [4]) .ret) .skip))) (.reg g_law10_pairs_r7 [0,1,5])))
abbrev g_law10_pairs_r9:GR:=(OP 0 4 (.mv (.const (.bool true))) .done)
abbrev g_law10_pairs:GC:=(.seq (.reg g_law10_pairs_r0 [0,1]) (.seq (.seq (.reg g_law10_pairs_r1 [0,1,10]) (.cond (.tmp 10) (.seq (.reg g_law10_pairs_r2 [4]) .ret) .skip)) (.seq (.seq (.reg g_law10_pairs_r3 [0,1,5]) (.block 0 (.loop g_law10_pairs_l8))) (.seq (.reg g_law10_pairs_r9 [4]) .ret))))
abbrev rs_law10_pairs:List RV:=[(.tmp 4)]
theorem gc_law10_pairs:compileF Tryd.prog Tryd.f28 T_law10_pairs=some (g_law10_pairs,rs_law10_pairs):=by kernel_rfl
theorem con_law10_pairs (hv:vc Tryd.prog y g_law10_pairs (retQ rs_law10_pairs R) [(0,a0),(1,a1)] h):ConX y Tryd.prog 28 #[a0,a1] h R:=con_of Tryd.func28 gc_law10_pairs rfl (fun h=>absurd h (by decide)) hv
def T_rc11_derive:List (Nat×List Nat):=[(0,[1]),(1,[1,4]),(2,[1,24]),(3,[2,3]),(4,[1,6,7]),(5,[1,6,7,31]),(6,[2,3]),(7,[6,8]),(8,[6,8,9,10,11]),(9,[6,8,9,10,11,12,1000000]),(10,[6,8,9,10,11,12,13,1000000]),(11,[6,8,9,10,11,12,13,14,15]),(12,[6,8,9,10,11,12,13,14,15,16]),(13,[6,8,10,11,12,13,14,15,16]),(14,[6,8,14,15,16,1000000]),(15,[6,8,14,15,16]),(16,[6,8,14,15,16]),(17,[6,8,14,15,16,17]),(18,[8,14,15,16]),(19,[8,15,16,1000000]),(20,[8]),(21,[2,3])]
abbrev g_rc11_derive_r0:GR:=(OP 0 1 (.box 27 (.tmp 0)) (OP 1 2 (.mv (.const (.pointer none))) (OP 2 3 (.mv (.const (.int .i64 0))) .done)))
abbrev g_rc11_derive_r1:GR:=(OP 0 19 (.load (some 8) (.tmp 1)) (OP 1 20 (.call 43 [(.tmp 19),(.const (.bool false))]) (O1 2 18 20 (OP 3 21 (.extract 0 (.tmp 18)) (OP 4 22 (.extract 1 (.tmp 18)) (O1 5 4 21 (O1 6 5 22 .done)))))))
abbrev g_rc11_derive_r2:GR:=(O1 0 23 4 (OP 1 24 (.bin .neq (.tmp 23) (.const (.int .i64 0))) .done))
abbrev g_rc11_derive_r3:GR:=(OP 0 2 (.mv (.const (.pointer none))) (OP 1 3 (.mv (.const (.int .i64 4))) .done))
abbrev g_rc11_derive_r4:GR:=(OP 0 26 (.load (some 8) (.tmp 1)) (OP 1 27 (.call 44 [(.tmp 26)]) (O1 2 25 27 (OP 3 28 (.extract 0 (.tmp 25)) (OP 4 29 (.extract 1 (.tmp 25)) (OP 5 6 (.alloc 78 [(.pointer none),(.pointer none),(.pointer none),(.pointer none),(.pointer none),(.pointer none),(.pointer none),(.pointer none),(.pointer none),(.pointer none),(.slice none 0 0),(.slice none 0 0),(.slice none 0 0)]) (OS 6 (.store 13 (.tmp 6) (.tmp 28)) (O1 7 7 29 .done))))))))
abbrev g_rc11_derive_r5:GR:=(O1 0 30 7 (OP 1 31 (.bin .neq (.tmp 30) (.const (.int .i64 0))) .done))
abbrev g_rc11_derive_r6:GR:=(O1 0 32 7 (OP 1 2 (.mv (.const (.pointer none))) (O1 2 3 32 .done)))
abbrev g_rc11_derive_r7:GR:=(OP 0 33 (.load (some 8) (.tmp 1)) (OP 1 34 (.load (some 13) (.tmp 6)) (OP 2 35 (.build [(.int .i64 0),(.slice none 0 0),(.slice none 0 0),(.slice none 0 0),(.slice none 0 0),(.slice none 0 0),(.slice none 0 0),(.slice none 0 0),(.pointer none),(.pointer none),(.pointer none),(.pointer none),(.pointer none),(.pointer none),(.pointer none),(.pointer none),(.pointer none),(.pointer none),(.slice none 0 0),(.slice none 0 0),(.slice none 0 0),(.pointer none),(.pointer none),(.pointer none),(.pointer none),(.pointer none),(.pointer none),(.pointer none)] [(0,(8,(.tmp 33))),(8,(13,(.tmp 34)))]) (OP 3 36 (.box 80 (.tmp 35)) (O1 4 8 36 .done)))))
abbrev g_rc11_derive_r8:GR:=(O1 0 37 8 (O3 1 38 11 6 (O6 2 39 38 (O1 4 41 8 (O3 5 42 10 6 (O6 6 43 42 (O1 8 45 8 (O3 9 46 12 6 (O6 10 47 46 (.op (GI.mk 3 (some 40) none (.call 45 [(.tmp 37),(.tmp 39),(.const (.slice none 0 0))]) [6,10] false) (.op (GI.mk 7 (some 44) none (.call 45 [(.tmp 41),(.tmp 43),(.const (.slice none 0 0))]) [2,10] false) (.op (GI.mk 11 (some 48) none (.call 45 [(.tmp 45),(.tmp 47),(.const (.slice none 0 0))]) [2,6] false) (O1 12 9 40 (O1 13 10 44 (O1 14 11 48 .done)))))))))))))))
abbrev g_rc11_derive_r9:GR:=(O1 0 49 8 (O3 1 50 11 6 (O6 2 51 50 (O1 5 54 8 (O3 6 55 12 6 (O6 7 56 55 (.free [52,53,57,58,59,60,12] [(FI.mk (GI.mk 3 (some 52) none (.buildSlice 3 3 [(.int .i64 0),(.int .i64 0),(.int .i64 0)] [(0,(1,(.const (.int .i64 3)))),(1,(1,(.const (.int .i64 4)))),(2,(1,(.const (.int .i64 5))))]) [] false) []),(FI.mk (GI.mk 4 (some 53) none (.call 45 [(.tmp 49),(.tmp 51),(.tmp 52)]) [] false) [(3,52)]),(FI.mk (GI.mk 8 (some 57) none (.buildSlice 3 3 [(.int .i64 0),(.int .i64 0),(.int .i64 0)] [(0,(1,(.const (.int .i64 3)))),(1,(1,(.const (.int .i64 4)))),(2,(1,(.const (.int .i64 5))))]) [] false) []),(FI.mk (GI.mk 9 (some 58) none (.call 45 [(.tmp 54),(.tmp 56),(.tmp 57)]) [] false) [(8,57),(4,53)]),(FI.mk (GI.mk 10 (some 59) none (.buildSlice 48 2 [(.pointer none),(.pointer none)] [(0,(1,(.tmp 53))),(1,(1,(.tmp 58)))]) [] false) [(4,53),(9,58)]),(FI.mk (GI.mk 11 (some 60) none (.call 24 [(.tmp 59)]) [] false) [(10,59),(9,58)]),(FI.mk (GI.mk 12 (some 12) none (.mv (.tmp 60)) [] false) [(3,52),(4,53),(8,57),(9,58),(10,59),(11,60)])] .done)))))))
abbrev g_rc11_derive_r10:GR:=(O1 0 61 8 (O3 1 62 10 6 (O6 2 63 62 (O1 5 66 8 (O3 6 67 12 6 (O6 7 68 67 (.free [64,65,69,70,71,72,13] [(FI.mk (GI.mk 3 (some 64) none (.buildSlice 3 3 [(.int .i64 0),(.int .i64 0),(.int .i64 0)] [(0,(1,(.const (.int .i64 2)))),(1,(1,(.const (.int .i64 4)))),(2,(1,(.const (.int .i64 5))))]) [] false) []),(FI.mk (GI.mk 4 (some 65) none (.call 45 [(.tmp 61),(.tmp 63),(.tmp 64)]) [] false) [(3,64)]),(FI.mk (GI.mk 8 (some 69) none (.buildSlice 3 3 [(.int .i64 0),(.int .i64 0),(.int .i64 0)] [(0,(1,(.const (.int .i64 2)))),(1,(1,(.const (.int .i64 4)))),(2,(1,(.const (.int .i64 5))))]) [] false) []),(FI.mk (GI.mk 9 (some 70) none (.call 45 [(.tmp 66),(.tmp 68),(.tmp 69)]) [] false) [(8,69),(4,65)]),(FI.mk (GI.mk 10 (some 71) none (.buildSlice 48 2 [(.pointer none),(.pointer none)] [(0,(1,(.tmp 65))),(1,(1,(.tmp 70)))]) [] false) [(4,65),(9,70)]),(FI.mk (GI.mk 11 (some 72) none (.call 24 [(.tmp 71)]) [] false) [(10,71),(9,70)]),(FI.mk (GI.mk 12 (some 13) none (.mv (.tmp 72)) [] false) [(3,64),(4,65),(8,69),(9,70),(10,71),(11,72)])] .done)))))))
abbrev g_rc11_derive_r11:GR:=(O1 0 73 8 (O3 1 74 11 6 (O6 2 75 74 (O1 5 78 8 (O3 6 79 10 6 (O6 7 80 79 (O1 12 85 8 (O3 13 86 12 6 (O6 14 87 86 (.free [76,77,81,82,83,84,88,89,14,15] [(FI.mk (GI.mk 3 (some 76) none (.buildSlice 3 1 [(.int .i64 0)] [(0,(1,(.const (.int .i64 5))))]) [] false) []),(FI.mk (GI.mk 4 (some 77) none (.call 45 [(.tmp 73),(.tmp 75),(.tmp 76)]) [] false) [(3,76)]),(FI.mk (GI.mk 8 (some 81) none (.buildSlice 3 1 [(.int .i64 0)] [(0,(1,(.const (.int .i64 5))))]) [] false) []),(FI.mk (GI.mk 9 (some 82) none (.call 45 [(.tmp 78),(.tmp 80),(.tmp 81)]) [] false) [(8,81),(4,77)]),(FI.mk (GI.mk 10 (some 83) none (.buildSlice 48 2 [(.pointer none),(.pointer none)] [(0,(1,(.tmp 77))),(1,(1,(.tmp 82)))]) [] false) [(4,77),(9,82)]),(FI.mk (GI.mk 11 (some 84) none (.call 24 [(.tmp 83)]) [] false) [(10,83),(9,82)]),(FI.mk (GI.mk 15 (some 88) none (.buildSlice 3 1 [(.int .i64 0)] [(0,(1,(.const (.int .i64 5))))]) [] false) []),(FI.mk (GI.mk 16 (some 89) none (.call 45 [(.tmp 85),(.tmp 87),(.tmp 88)]) [] false) [(15,88),(11,84)]),(FI.mk (GI.mk 17 (some 14) none (.mv (.tmp 84)) [] false) [(16,89),(3,76),(4,77),(8,81),(9,82),(10,83),(11,84)]),(FI.mk (GI.mk 18 (some 15) none (.mv (.tmp 89)) [] false) [(3,76),(4,77),(8,81),(9,82),(10,83),(11,84),(15,88),(16,89),(17,14)])] .done))))))))))
abbrev g_rc11_derive_r12:GR:=(O1 0 90 8 (OP 1 91 (.nilCheck (.tmp 90)) (O3 2 92 21 91 (O1 3 16 92 .done))))
abbrev g_rc11_derive_r13:GR:=(O1 0 93 16 (O1 1 94 9 (O3 2 95 0 6 (O6 3 96 95 (O3 4 97 5 6 (O6 5 98 97 (O1 8 101 9 (O3 9 102 1 6 (O6 10 103 102 (O3 11 104 4 6 (O6 12 105 104 (.op (GI.mk 6 (some 99) none (.call 48 [(.tmp 96),(.tmp 98)]) [10,12] false) (.op (GI.mk 7 (some 100) none (.call 47 [(.tmp 99)]) [3,5,10,12] false) (.op (GI.mk 13 (some 106) none (.call 50 [(.tmp 103),(.tmp 105)]) [3,5] false) (.op (GI.mk 14 (some 107) none (.call 49 [(.tmp 106)]) [3,5,10,12] false) (OP 15 108 (.buildSlice 48 3 [(.pointer none),(.pointer none),(.pointer none)] [(0,(1,(.tmp 100))),(1,(1,(.tmp 101))),(2,(1,(.tmp 107)))]) (.op (GI.mk 16 (some 109) none (.call 46 [(.tmp 94),(.tmp 108)]) [3,5,10,12] false) (OP 17 110 (.nilCheck (.tmp 93)) (O3 18 111 0 110 (OS 19 (.store 1 (.tmp 111) (.tmp 109)) .done))))))))))))))))))))
abbrev g_rc11_derive_r14:GR:=(O1 0 112 16 (O1 1 113 12 (O1 2 114 11 (O3 3 115 0 6 (O6 4 116 115 (O1 8 120 16 (OP 9 121 (.nilCheck (.tmp 120)) (O3 10 122 0 121 (O6 11 123 122 (O3 12 124 1 6 (O6 13 125 124 (O1 14 126 10 (O3 15 127 0 6 (O6 16 128 127 (O1 17 129 11 (O1 21 133 13 (.free [117,118,119,130,131,132,134,135,136,137] [(FI.mk (GI.mk 5 (some 117) none (.buildSlice 48 1 [(.pointer none)] [(0,(1,(.tmp 116)))]) [] false) []),(FI.mk (GI.mk 6 (some 118) none (.call 46 [(.tmp 114),(.tmp 117)]) [] false) [(5,117)]),(FI.mk (GI.mk 7 (some 119) none (.call 47 [(.tmp 118)]) [] false) [(6,118)]),(FI.mk (GI.mk 18 (some 130) none (.buildSlice 48 1 [(.pointer none)] [(0,(1,(.tmp 129)))]) [] false) []),(FI.mk (GI.mk 19 (some 131) none (.call 46 [(.tmp 128),(.tmp 130)]) [] false) [(18,130),(7,119)]),(FI.mk (GI.mk 20 (some 132) none (.call 47 [(.tmp 131)]) [] false) [(19,131)]),(FI.mk (GI.mk 22 (some 134) none (.buildSlice 48 6 [(.pointer none),(.pointer none),(.pointer none),(.pointer none),(.pointer none),(.pointer none)] [(0,(1,(.tmp 119))),(1,(1,(.tmp 123))),(2,(1,(.tmp 125))),(3,(1,(.tmp 126))),(4,(1,(.tmp 132))),(5,(1,(.tmp 133)))]) [] false) [(7,119),(20,132)]),(FI.mk (GI.mk 23 (some 135) none (.call 46 [(.tmp 113),(.tmp 134)]) [] false) [(22,134),(20,132)]),(FI.mk (GI.mk 24 (some 136) none (.nilCheck (.tmp 112)) [] false) [(5,117),(6,118),(7,119),(18,130),(19,131),(20,132),(22,134),(23,135)]),(FI.mk (GI.mk 25 (some 137) none (.fieldAddr 1 (.tmp 136)) [] false) [(24,136),(5,117),(6,118),(7,119),(18,130),(19,131),(20,132),(22,134),(23,135)])] (OS 26 (.store 1 (.tmp 137) (.tmp 135)) .done))))))))))))))))))
abbrev g_rc11_derive_r15:GR:=(O1 0 138 16 (O3 1 139 0 6 (O6 2 140 139 (O1 3 141 16 (OP 4 142 (.nilCheck (.tmp 141)) (O3 5 143 1 142 (O6 6 144 143 (OP 7 145 (.buildSlice 48 2 [(.pointer none),(.pointer none)] [(0,(1,(.tmp 140))),(1,(1,(.tmp 144)))]) (.op (GI.mk 8 (some 146) none (.call 24 [(.tmp 145)]) [2,6] false) (.op (GI.mk 9 (some 147) none (.call 41 [(.tmp 146)]) [2,6] false) (OP 10 148 (.nilCheck (.tmp 138)) (O3 11 149 2 148 (OS 12 (.store 1 (.tmp 149) (.tmp 147)) .done)))))))))))))
abbrev g_rc11_derive_r16:GR:=(O1 0 150 16 (O3 1 151 1 6 (O2 2 152 151 (O3 3 153 2 6 (O2 4 154 153 (O3 5 155 3 6 (O2 6 156 155 (OP 7 157 (.buildSlice 48 3 [(.pointer none),(.pointer none),(.pointer none)] [(0,(1,(.tmp 152))),(1,(1,(.tmp 154))),(2,(1,(.tmp 156)))]) (OP 8 158 (.call 24 [(.tmp 157)]) (OP 9 159 (.call 41 [(.tmp 158)]) (OP 10 160 (.nilCheck (.tmp 150)) (O3 11 161 3 160 (OS 12 (.store 1 (.tmp 161) (.tmp 159)) .done)))))))))))))
abbrev g_rc11_derive_r17:GR:=(O3 0 162 0 6 (O2 1 163 162 (O3 2 164 5 6 (O2 3 165 164 (OP 4 166 (.call 51 [(.tmp 163),(.tmp 165)]) (O1 5 17 166 .done))))))
abbrev g_rc11_derive_r18:GR:=(O1 0 167 16 (O3 1 168 0 6 (O6 2 169 168 (O1 3 170 17 (O1 4 171 16 (OP 5 172 (.nilCheck (.tmp 171)) (O3 6 173 2 172 (O6 7 174 173 (O1 8 175 17 (O1 11 178 16 (OP 12 179 (.nilCheck (.tmp 178)) (O3 13 180 2 179 (O6 14 181 180 (O3 15 182 5 6 (O6 16 183 182 (O3 18 185 2 6 (O6 19 186 185 (O3 20 187 3 6 (O6 21 188 187 (OP 9 176 (.buildSlice 48 2 [(.pointer none),(.pointer none)] [(0,(1,(.tmp 174))),(1,(1,(.tmp 175)))]) (.op (GI.mk 10 (some 177) none (.call 46 [(.tmp 170),(.tmp 176)]) [2,7,14,16,19,21] false) (.op (GI.mk 17 (some 184) none (.call 48 [(.tmp 181),(.tmp 183)]) [2,7,19,21] false) (OP 22 189 (.buildSlice 48 5 [(.pointer none),(.pointer none),(.pointer none),(.pointer none),(.pointer none)] [(0,(1,(.tmp 169))),(1,(1,(.tmp 177))),(2,(1,(.tmp 184))),(3,(1,(.tmp 186))),(4,(1,(.tmp 188)))]) (.op (GI.mk 23 (some 190) none (.call 24 [(.tmp 189)]) [2,7,14,16,19,21] false) (OP 24 191 (.nilCheck (.tmp 167)) (O3 25 192 4 191 (OS 26 (.store 1 (.tmp 192) (.tmp 190)) .done)))))))))))))))))))))))))))
abbrev g_rc11_derive_r19:GR:=(O1 0 193 16 (O1 1 194 14 (O1 2 195 15 (O1 3 196 16 (OP 4 197 (.nilCheck (.tmp 196)) (O3 5 198 2 197 (O6 6 199 198 (O1 12 205 16 (OP 13 206 (.nilCheck (.tmp 205)) (O3 14 207 4 206 (O6 15 208 207 (O1 16 209 14 (O1 17 210 16 (OP 18 211 (.nilCheck (.tmp 210)) (O3 19 212 2 211 (O6 20 213 212 (O1 22 215 15 (.free [200,201,202,203,204,214,216,217,218,219,220,221,222,223] [(FI.mk (GI.mk 7 (some 200) none (.call 47 [(.tmp 199)]) [] false) []),(FI.mk (GI.mk 8 (some 201) none (.buildSlice 48 1 [(.pointer none)] [(0,(1,(.tmp 200)))]) [] false) [(7,200)]),(FI.mk (GI.mk 9 (some 202) none (.call 46 [(.tmp 195),(.tmp 201)]) [] false) [(8,201),(7,200)]),(FI.mk (GI.mk 10 (some 203) none (.buildSlice 48 2 [(.pointer none),(.pointer none)] [(0,(1,(.tmp 194))),(1,(1,(.tmp 202)))]) [] false) [(9,202)]),(FI.mk (GI.mk 11 (some 204) none (.call 24 [(.tmp 203)]) [] false) [(10,203),(9,202)]),(FI.mk (GI.mk 21 (some 214) none (.call 47 [(.tmp 213)]) [] false) [(11,204)]),(FI.mk (GI.mk 23 (some 216) none (.buildSlice 48 1 [(.pointer none)] [(0,(1,(.tmp 215)))]) [] false) []),(FI.mk (GI.mk 24 (some 217) none (.call 46 [(.tmp 214),(.tmp 216)]) [] false) [(23,216),(21,214)]),(FI.mk (GI.mk 25 (some 218) none (.buildSlice 48 2 [(.pointer none),(.pointer none)] [(0,(1,(.tmp 209))),(1,(1,(.tmp 217)))]) [] false) [(24,217)]),(FI.mk (GI.mk 26 (some 219) none (.call 24 [(.tmp 218)]) [] false) [(25,218),(24,217)]),(FI.mk (GI.mk 27 (some 220) none (.buildSlice 48 2 [(.pointer none),(.pointer none)] [(0,(1,(.tmp 208))),(1,(1,(.tmp 219)))]) [] false) [(26,219)]),(FI.mk (GI.mk 28 (some 221) none (.call 46 [(.tmp 204),(.tmp 220)]) [] false) [(11,204),(27,220),(26,219)]),(FI.mk (GI.mk 29 (some 222) none (.nilCheck (.tmp 193)) [] false) [(7,200),(8,201),(9,202),(10,203),(11,204),(21,214),(23,216),(24,217),(25,218),(26,219),(27,220),(28,221)]),(FI.mk (GI.mk 30 (some 223) none (.fieldAddr 5 (.tmp 222)) [] false) [(29,222),(7,200),(8,201),(9,202),(10,203),(11,204),(21,214),(23,216),(24,217),(25,218),(26,219),(27,220),(28,221)])] (OS 31 (.store 1 (.tmp 223) (.tmp 221)) .done)))))))))))))))))))
abbrev g_rc11_derive_r20:GR:=(O1 0 224 16 (O1 1 225 15 (O1 2 226 16 (OP 3 227 (.nilCheck (.tmp 226)) (O3 4 228 2 227 (O6 5 229 228 (O1 6 230 16 (OP 7 231 (.nilCheck (.tmp 230)) (O3 8 232 2 231 (O6 9 233 232 (O1 10 234 16 (OP 11 235 (.nilCheck (.tmp 234)) (O3 12 236 3 235 (O6 13 237 236 (O1 14 238 16 (OP 15 239 (.nilCheck (.tmp 238)) (O3 16 240 2 239 (O6 17 241 240 (O1 22 246 15 (OP 18 242 (.buildSlice 48 2 [(.pointer none),(.pointer none)] [(0,(1,(.tmp 237))),(1,(1,(.tmp 241)))]) (.op (GI.mk 19 (some 243) none (.call 46 [(.tmp 233),(.tmp 242)]) [5,13,17] false) (OP 20 244 (.buildSlice 48 2 [(.pointer none),(.pointer none)] [(0,(1,(.tmp 229))),(1,(1,(.tmp 243)))]) (.op (GI.mk 21 (some 245) none (.call 24 [(.tmp 244)]) [5,9,13,17] false) (OP 23 247 (.buildSlice 48 2 [(.pointer none),(.pointer none)] [(0,(1,(.tmp 245))),(1,(1,(.tmp 246)))]) (.op (GI.mk 24 (some 248) none (.call 46 [(.tmp 225),(.tmp 247)]) [5,9,13,17] false) (OP 25 249 (.nilCheck (.tmp 224)) (O3 26 250 6 249 (OS 27 (.store 1 (.tmp 250) (.tmp 248)) .done))))))))))))))))))))))))))))
abbrev g_rc11_derive_r21:GR:=(O1 0 251 8 (O1 1 2 251 (OP 2 3 (.mv (.const (.int .i64 0))) .done)))
abbrev g_rc11_derive:GC:=(.seq (.reg g_rc11_derive_r0 [1]) (.seq (.seq (.reg g_rc11_derive_r1 [1,4]) (.seq (.reg g_rc11_derive_r2 [1,24]) (.cond (.tmp 24) (.seq (.reg g_rc11_derive_r3 [2,3]) .ret) .skip))) (.seq (.reg g_rc11_derive_r4 [1,6,7]) (.seq (.seq (.reg g_rc11_derive_r5 [1,6,7,31]) (.cond (.tmp 31) (.seq (.reg g_rc11_derive_r6 [2,3]) .ret) .skip)) (.seq (.reg g_rc11_derive_r7 [6,8]) (.seq (.reg g_rc11_derive_r8 [6,8,9,10,11]) (.seq (.reg g_rc11_derive_r9 [6,8,9,10,11,12,1000000]) (.seq (.reg g_rc11_derive_r10 [6,8,9,10,11,12,13,1000000]) (.seq (.reg g_rc11_derive_r11 [6,8,9,10,11,12,13,14,15]) (.seq (.reg g_rc11_derive_r12 [6,8,9,10,11,12,13,14,15,16]) (.seq (.reg g_rc11_derive_r13 [6,8,10,11,12,13,14,15,16]) (.seq (.reg g_rc11_derive_r14 [6,8,14,15,16,1000000]) (.seq (.reg g_rc11_derive_r15 [6,8,14,15,16]) (.seq (.reg g_rc11_derive_r16 [6,8,14,15,16]) (.seq (.reg g_rc11_derive_r17 [6,8,14,15,16,17]) (.seq (.reg g_rc11_derive_r18 [8,14,15,16]) (.seq (.reg g_rc11_derive_r19 [8,15,16,1000000]) (.seq (.reg g_rc11_derive_r20 [8]) (.seq (.reg g_rc11_derive_r21 [2,3]) .ret)))))))))))))))))))
abbrev rs_rc11_derive:List RV:=[(.tmp 2),(.tmp 3)]
theorem gc_rc11_derive:compileF Tryd.prog Tryd.f29 T_rc11_derive=some (g_rc11_derive,rs_rc11_derive):=by kernel_rfl
theorem con_rc11_derive (hv:vc Tryd.prog y g_rc11_derive (retQ rs_rc11_derive R) [(0,a0)] h):ConX y Tryd.prog 29 #[a0] h R:=con_of Tryd.func29 gc_rc11_derive rfl (fun h=>absurd h (by decide)) hv
def T_rc11_axioms:List (Nat×List Nat):=[(0,[]),(1,[0])]
abbrev g_rc11_axioms_r0:GR:=(OP 0 0 (.mv (.const (.slice none 0 0))) .done)
abbrev g_rc11_axioms_r1:GR:=(OP 0 1 (.build [(.int .i64 0),Value.nilFunc] [(0,(1,(.const (.int .i64 1)))),(1,(1,(.func 52)))]) (OP 1 2 (.build [(.int .i64 0),Value.nilFunc] [(0,(1,(.const (.int .i64 2)))),(1,(1,(.func 53)))]) (OP 2 3 (.build [(.int .i64 0),Value.nilFunc] [(0,(1,(.const (.int .i64 3)))),(1,(1,(.func 54)))]) (OP 3 4 (.build [(.int .i64 0),Value.nilFunc] [(0,(1,(.const (.int .i64 4)))),(1,(1,(.func 56)))]) (OP 4 5 (.buildSlice 69 4 [(.int .i64 0),Value.nilFunc,(.int .i64 0),Value.nilFunc,(.int .i64 0),Value.nilFunc,(.int .i64 0),Value.nilFunc] [(0,(2,(.tmp 1))),(2,(2,(.tmp 2))),(4,(2,(.tmp 3))),(6,(2,(.tmp 4)))]) (O1 5 0 5 .done))))))
abbrev g_rc11_axioms:GC:=(.seq (.reg g_rc11_axioms_r0 []) (.seq (.reg g_rc11_axioms_r1 [0]) .ret))
abbrev rs_rc11_axioms:List RV:=[(.tmp 0)]
theorem gc_rc11_axioms:compileF Tryd.prog Tryd.f30 T_rc11_axioms=some (g_rc11_axioms,rs_rc11_axioms):=by kernel_rfl
theorem con_rc11_axioms (hv:vc Tryd.prog y g_rc11_axioms (retQ rs_rc11_axioms R) [] h):ConX y Tryd.prog 30 #[] h R:=con_of Tryd.func30 gc_rc11_axioms rfl (fun h=>absurd h (by decide)) hv
def T_law10_ints:List (Nat×List Nat):=[(0,[0,1]),(1,[0,1,10]),(2,[4]),(3,[0,1,5]),(4,[0,1,5,14]),(5,[0,1,5]),(6,[0,1,5,25]),(7,[4]),(8,[4])]
abbrev g_law10_ints_r0:GR:=(OP 0 4 (.mv (.const (.bool false))) .done)
abbrev g_law10_ints_r1:GR:=(O1 0 6 0 (OP 1 7 (.len (.tmp 6)) (O1 2 8 1 (OP 3 9 (.len (.tmp 8)) (O5 4 10 .neq 7 9 .done)))))
abbrev g_law10_ints_r2:GR:=(OP 0 4 (.mv (.const (.bool false))) .done)
abbrev g_law10_ints_r3:GR:=(OP 0 5 (.mv (.const (.int .i64 0))) .done)
abbrev g_law10_ints_r4:GR:=(O1 0 11 5 (O1 1 12 0 (OP 2 13 (.len (.tmp 12)) (O5 3 14 .lss 11 13 .done))))
abbrev g_law10_ints_r5:GR:=(O1 0 17 0 (O1 1 18 5 (O4 2 19 1 17 18 (O6 3 20 19 (O1 4 21 1 (O1 5 22 5 (O4 6 23 1 21 22 (O6 7 24 23 (O5 8 25 .neq 20 24 .done)))))))))
abbrev g_law10_ints_r6:GR:=(OP 0 4 (.mv (.const (.bool false))) .done)
abbrev g_law10_ints_r7:GR:=(O1 0 15 5 (OP 1 16 (.bin .add (.tmp 15) (.const (.int .i64 1))) (O1 2 5 16 .done)))
abbrev g_law10_ints_l8:GC:=(.seq (.seq (.reg g_law10_ints_r4 [0,1,5,14]) (.cond (.tmp 14) .skip (.exit 0))) (.seq (.block 1 (.seq (.reg g_law10_ints_r5 [0,1,5,25]) (.cond (.tmp 25) (.seq (.reg g_law10_ints_r6 [4]) .ret) .skip))) (.reg g_law10_ints_r7 [0,1,5])))
abbrev g_law10_ints_r9:GR:=(OP 0 4 (.mv (.const (.bool true))) .done)
abbrev g_law10_ints:GC:=(.seq (.reg g_law10_ints_r0 [0,1]) (.seq (.seq (.reg g_law10_ints_r1 [0,1,10]) (.cond (.tmp 10) (.seq (.reg g_law10_ints_r2 [4]) .ret) .skip)) (.seq (.seq (.reg g_law10_ints_r3 [0,1,5]) (.block 0 (.loop g_law10_ints_l8))) (.seq (.reg g_law10_ints_r9 [4]) .ret))))
abbrev rs_law10_ints:List RV:=[(.tmp 4)]
theorem gc_law10_ints:compileF Tryd.prog Tryd.f31 T_law10_ints=some (g_law10_ints,rs_law10_ints):=by kernel_rfl
theorem con_law10_ints (hv:vc Tryd.prog y g_law10_ints (retQ rs_law10_ints R) [(0,a0),(1,a1)] h):ConX y Tryd.prog 31 #[a0,a1] h R:=con_of Tryd.func31 gc_law10_ints rfl (fun h=>absurd h (by decide)) hv
def T_rel_row_points:List (Nat×List Nat):=[(0,[1]),(1,[2])]
abbrev g_rel_row_points_r0:GR:=(OP 0 1 (.box 85 (.tmp 0)) (OP 1 2 (.mv (.const Value.nilFunc)) .done))
abbrev g_rel_row_points_r1:GR:=(OP 0 3 (.makeFunc (Fn.func 61) [] [(.tmp 1)]) (O1 1 2 3 .done))
abbrev g_rel_row_points:GC:=(.seq (.reg g_rel_row_points_r0 [1]) (.seq (.reg g_rel_row_points_r1 [2]) .ret))
abbrev rs_rel_row_points:List RV:=[(.tmp 2)]
theorem gc_rel_row_points:compileF Tryd.prog Tryd.f38 T_rel_row_points=some (g_rel_row_points,rs_rel_row_points):=by kernel_rfl
theorem con_rel_row_points (hv:vc Tryd.prog y g_rel_row_points (retQ rs_rel_row_points R) [(0,a0)] h):ConX y Tryd.prog 38 #[a0] h R:=con_of Tryd.func38 gc_rel_row_points rfl (fun h=>absurd h (by decide)) hv
def T_rel_Rel_inside:List (Nat×List Nat):=[(0,[0,1,2]),(1,[6])]
abbrev g_rel_Rel_inside_r0:GR:=(OP 0 6 (.mv (.const (.bool false))) .done)
abbrev g_rel_Rel_inside_r1:GR:=(O1 0 7 1 (OP 1 8 (.bin .geq (.tmp 7) (.const (.int .i64 0))) (O1 2 9 8 (OG 3 10 9 true (.mv (.tmp 1)) (OG 4 11 9 true (.mv (.tmp 0)) (OG 5 12 9 true (.nilCheck (.tmp 11)) (OG 6 13 9 true (.fieldAddr 0 (.tmp 12)) (OG 7 14 9 true (.load none (.tmp 13)) (OG 8 15 9 true (.bin .lss (.tmp 10) (.tmp 14)) (OP 9 16 (.pick (.tmp 9) (.tmp 15) (.const (.bool false))) (O1 10 17 16 (OG 11 18 17 true (.mv (.tmp 2)) (OG 12 19 17 true (.bin .geq (.tmp 18) (.const (.int .i64 0))) (OP 13 20 (.pick (.tmp 17) (.tmp 19) (.const (.bool false))) (O1 14 21 20 (OG 15 22 21 true (.mv (.tmp 2)) (OG 16 23 21 true (.mv (.tmp 0)) (OG 17 24 21 true (.nilCheck (.tmp 23)) (OG 18 25 21 true (.fieldAddr 0 (.tmp 24)) (OG 19 26 21 true (.load none (.tmp 25)) (OG 20 27 21 true (.bin .lss (.tmp 22) (.tmp 26)) (OP 21 28 (.pick (.tmp 21) (.tmp 27) (.const (.bool false))) (O1 22 6 28 .done)))))))))))))))))))))))
abbrev g_rel_Rel_inside:GC:=(.seq (.reg g_rel_Rel_inside_r0 [0,1,2]) (.seq (.reg g_rel_Rel_inside_r1 [6]) .ret))
abbrev rs_rel_Rel_inside:List RV:=[(.tmp 6)]
theorem gc_rel_Rel_inside:compileF Tryd.prog Tryd.f39 T_rel_Rel_inside=some (g_rel_Rel_inside,rs_rel_Rel_inside):=by kernel_rfl
theorem con_rel_Rel_inside (hv:vc Tryd.prog y g_rel_Rel_inside (retQ rs_rel_Rel_inside R) [(0,a0),(1,a1),(2,a2)] h):ConX y Tryd.prog 39 #[a0,a1,a2] h R:=con_of Tryd.func39 gc_rel_Rel_inside rfl (fun h=>absurd h (by decide)) hv
def T_rel_row_has:List (Nat×List Nat):=[(0,[0,1]),(1,[4])]
abbrev g_rel_row_has_r0:GR:=(OP 0 4 (.mv (.const (.bool false))) .done)
abbrev g_rel_row_has_r1:GR:=(O1 0 5 0 (O1 1 6 1 (OP 2 7 (.bin .quo (.tmp 6) (.const (.int .i64 64))) (O4 3 8 1 5 7 (O2 4 9 8 (O1 5 10 1 (OP 6 11 (.bin .rem (.tmp 10) (.const (.int .i64 64))) (OP 7 12 (.shift .shr (.tmp 9) (.tmp 11)) (OP 8 13 (.bin .and (.tmp 12) (.const (.int .u64 1))) (OP 9 14 (.bin .eql (.tmp 13) (.const (.int .u64 1))) (O1 10 4 14 .done)))))))))))
abbrev g_rel_row_has:GC:=(.seq (.reg g_rel_row_has_r0 [0,1]) (.seq (.reg g_rel_row_has_r1 [4]) .ret))
abbrev rs_rel_row_has:List RV:=[(.tmp 4)]
theorem gc_rel_row_has:compileF Tryd.prog Tryd.f40 T_rel_row_has=some (g_rel_row_has,rs_rel_row_has):=by kernel_rfl
theorem con_rel_row_has (hv:vc Tryd.prog y g_rel_row_has (retQ rs_rel_row_has R) [(0,a0),(1,a1)] h):ConX y Tryd.prog 40 #[a0,a1] h R:=con_of Tryd.func40 gc_rel_row_has rfl (fun h=>absurd h (by decide)) hv
def T_rel_Plus:List (Nat×List Nat):=[(0,[0]),(1,[3]),(2,[3,11,12]),(3,[3,11,12,13]),(4,[3,4,11,12]),(5,[3,4,11,12,18,19]),(6,[3,4,11,12,18,19,20]),(7,[3,4,5,11,12,18,19]),(8,[3,4,5,11,12,18,19,30]),(9,[3,4,11,12,18,19]),(10,[3,4,11,12,18,19]),(11,[3,11,12]),(12,[2])]
abbrev g_rel_Plus_r0:GR:=(OP 0 2 (.mv (.const (.pointer none))) .done)
abbrev g_rel_Plus_r1:GR:=(O1 0 6 0 (OP 1 7 (.call 63 [(.tmp 6)]) (O1 2 3 7 .done)))
abbrev g_rel_Plus_r2:GR:=(O1 0 8 3 (OP 1 9 (.nilCheck (.tmp 8)) (O3 2 10 0 9 (O2 3 11 10 (OP 4 12 (.mv (.const (.int .i64 0))) .done)))))
abbrev g_rel_Plus_r3:GR:=(O5 0 13 .lss 12 11 .done)
abbrev g_rel_Plus_r4:GR:=(O1 0 14 12 (O1 1 4 14 .done))
abbrev g_rel_Plus_r5:GR:=(O1 0 15 3 (OP 1 16 (.nilCheck (.tmp 15)) (O3 2 17 0 16 (O2 3 18 17 (OP 4 19 (.mv (.const (.int .i64 0))) .done)))))
abbrev g_rel_Plus_r6:GR:=(O5 0 20 .lss 19 18 .done)
abbrev g_rel_Plus_r7:GR:=(O1 0 21 19 (O1 1 5 21 .done))
abbrev g_rel_Plus_r8:GR:=(O1 0 22 3 (OP 1 23 (.nilCheck (.tmp 22)) (O3 2 24 1 23 (O2 3 25 24 (O1 4 26 5 (O4 5 27 1 25 26 (O2 6 28 27 (O1 7 29 4 (OP 8 30 (.call 40 [(.tmp 28),(.tmp 29)]) .done)))))))))
abbrev g_rel_Plus_r9:GR:=(O1 0 31 3 (OP 1 32 (.nilCheck (.tmp 31)) (O3 2 33 1 32 (O6 3 34 33 (O1 4 35 5 (O4 5 36 1 34 35 (O6 6 37 36 (O1 7 38 3 (OP 8 39 (.nilCheck (.tmp 38)) (O3 9 40 1 39 (O6 10 41 40 (O1 11 42 4 (O4 12 43 1 41 42 (O6 13 44 43 (OP 14 45 (.buildSlice 85 1 [(.slice none 0 0)] [(0,(1,(.tmp 44)))]) (.op (GI.mk 15 (some 46) none (.call 42 [(.tmp 37),(.tmp 45)]) [3,10,13] false) .done))))))))))))))))
abbrev g_rel_Plus_r10:GR:=(OP 0 47 (.bin .add (.tmp 19) (.const (.int .i64 1))) (O1 1 19 47 .done))
abbrev g_rel_Plus_l11:GC:=(.seq (.reg g_rel_Plus_r6 [3,4,11,12,18,19,20]) (.seq (.cond (.tmp 20) .skip (.exit 2)) (.seq (.block 3 (.seq (.reg g_rel_Plus_r7 [3,4,5,11,12,18,19]) (.seq (.reg g_rel_Plus_r8 [3,4,5,11,12,18,19,30]) (.cond (.tmp 30) (.reg g_rel_Plus_r9 [3,4,11,12,18,19]) .skip)))) (.reg g_rel_Plus_r10 [3,4,11,12,18,19]))))
abbrev g_rel_Plus_r12:GR:=(OP 0 48 (.bin .add (.tmp 12) (.const (.int .i64 1))) (O1 1 12 48 .done))
abbrev g_rel_Plus_l13:GC:=(.seq (.reg g_rel_Plus_r3 [3,11,12,13]) (.seq (.cond (.tmp 13) .skip (.exit 0)) (.seq (.block 1 (.seq (.reg g_rel_Plus_r4 [3,4,11,12]) (.seq (.reg g_rel_Plus_r5 [3,4,11,12,18,19]) (.block 2 (.loop g_rel_Plus_l11))))) (.reg g_rel_Plus_r12 [3,11,12]))))
abbrev g_rel_Plus_r14:GR:=(O1 0 49 3 (O1 1 2 49 .done))
abbrev g_rel_Plus:GC:=(.seq (.reg g_rel_Plus_r0 [0]) (.seq (.reg g_rel_Plus_r1 [3]) (.seq (.seq (.reg g_rel_Plus_r2 [3,11,12]) (.block 0 (.loop g_rel_Plus_l13))) (.seq (.reg g_rel_Plus_r14 [2]) .ret))))
abbrev rs_rel_Plus:List RV:=[(.tmp 2)]
theorem gc_rel_Plus:compileF Tryd.prog Tryd.f41 T_rel_Plus=some (g_rel_Plus,rs_rel_Plus):=by kernel_rfl
theorem con_rel_Plus (hv:vc Tryd.prog y g_rel_Plus (retQ rs_rel_Plus R) [(0,a0)] h):ConX y Tryd.prog 41 #[a0] h R:=con_of Tryd.func41 gc_rel_Plus rfl (fun h=>absurd h (by decide)) hv
def T_rel_row_join:List (Nat×List Nat):=[(0,[0,7,8,9]),(1,[0,7,8,9,10]),(2,[0,5,7,8,9]),(3,[0,5,7,8,9,17,18]),(4,[0,5,7,8,9,17,18,19]),(5,[0,5,6,7,8,9,17,18]),(6,[0,5,7,8,9,17,18]),(7,[0,5,7,8,9,17,18]),(8,[0,7,8,9])]
abbrev g_rel_row_join_r0:GR:=(O1 0 7 1 (OP 1 8 (.len (.tmp 7)) (OP 2 9 (.mv (.const (.int .i64 0))) .done)))
abbrev g_rel_row_join_r1:GR:=(O5 0 10 .lss 9 8 .done)
abbrev g_rel_row_join_r2:GR:=(O4 0 11 1 7 9 (O2 1 12 11 (O1 2 5 12 .done)))
abbrev g_rel_row_join_r3:GR:=(O1 0 13 0 (OP 1 14 (.len (.tmp 13)) (O1 2 15 5 (OP 3 16 (.len (.tmp 15)) (OP 4 17 (.mini (.tmp 14) (.tmp 16)) (OP 5 18 (.mv (.const (.int .i64 0))) .done))))))
abbrev g_rel_row_join_r4:GR:=(O5 0 19 .lss 18 17 .done)
abbrev g_rel_row_join_r5:GR:=(O1 0 20 18 (O1 1 6 20 .done))
abbrev g_rel_row_join_r6:GR:=(O1 0 21 0 (O1 1 22 6 (O4 2 23 1 21 22 (O6 3 24 23 (O1 4 25 5 (O1 5 26 6 (O4 6 27 1 25 26 (O6 7 28 27 (O5 8 29 .or 24 28 (O4 9 30 1 21 22 (OS 10 (.store 1 (.tmp 30) (.tmp 29)) .done)))))))))))
abbrev g_rel_row_join_r7:GR:=(OP 0 31 (.bin .add (.tmp 18) (.const (.int .i64 1))) (O1 1 18 31 .done))
abbrev g_rel_row_join_l8:GC:=(.seq (.reg g_rel_row_join_r4 [0,5,7,8,9,17,18,19]) (.seq (.cond (.tmp 19) .skip (.exit 2)) (.seq (.block 3 (.seq (.reg g_rel_row_join_r5 [0,5,6,7,8,9,17,18]) (.reg g_rel_row_join_r6 [0,5,7,8,9,17,18]))) (.reg g_rel_row_join_r7 [0,5,7,8,9,17,18]))))
abbrev g_rel_row_join_r9:GR:=(OP 0 32 (.bin .add (.tmp 9) (.const (.int .i64 1))) (O1 1 9 32 .done))
abbrev g_rel_row_join_l10:GC:=(.seq (.reg g_rel_row_join_r1 [0,7,8,9,10]) (.seq (.cond (.tmp 10) .skip (.exit 0)) (.seq (.block 1 (.seq (.reg g_rel_row_join_r2 [0,5,7,8,9]) (.seq (.reg g_rel_row_join_r3 [0,5,7,8,9,17,18]) (.block 2 (.loop g_rel_row_join_l8))))) (.reg g_rel_row_join_r9 [0,7,8,9]))))
abbrev g_rel_row_join:GC:=(.seq (.reg g_rel_row_join_r0 [0,7,8,9]) (.block 0 (.loop g_rel_row_join_l10)))
abbrev rs_rel_row_join:List RV:=[]
theorem gc_rel_row_join:compileF Tryd.prog Tryd.f42 T_rel_row_join=some (g_rel_row_join,rs_rel_row_join):=by kernel_rfl
theorem con_rel_row_join (hv:vc Tryd.prog y g_rel_row_join (retQ rs_rel_row_join R) [(0,a0),(1,a1)] h):ConX y Tryd.prog 42 #[a0,a1] h R:=con_of Tryd.func42 gc_rel_row_join rfl (fun h=>absurd h (by decide)) hv
def T_graph_Check:List (Nat×List Nat):=[(0,[1,2,4,5]),(1,[1,2,4,5,42]),(2,[4,5]),(3,[1,2,4,5,6]),(4,[1,2,4,5,6,44]),(5,[1,2,4,5,6]),(6,[1,2,4,5,6,47,48]),(7,[1,2,4,5,6,47,48,49]),(8,[1,2,4,5,6,7,47,48]),(9,[1,2,4,5,6,7,47,48]),(10,[1,2,4,5,6,7,47,48,59]),(11,[4,5]),(12,[1,2,4,5,6,47,48]),(13,[2,4,5,8]),(14,[2,4,5,8,9]),(15,[2,4,5,8,9,73]),(16,[8,9,10,75]),(17,[8,9,10,11]),(18,[8,9,10,11]),(19,[8,9,10,11,12,13]),(20,[8,9,10,11,12,94]),(21,[9,10,11]),(22,[]),(23,[2,8,14]),(24,[2,8,14,109]),(25,[4,5]),(26,[2,8,15]),(27,[2,8,15,114]),(28,[4,5]),(29,[2,8,16]),(30,[2,8,16,119]),(31,[4,5]),(32,[2,8,17]),(33,[2,8,17,124]),(34,[4,5]),(35,[2,8,18]),(36,[2,8,18,132]),(37,[4,5]),(38,[2,8,19]),(39,[2,8,19,140]),(40,[4,5]),(41,[20]),(42,[20,148]),(43,[4,5]),(44,[4,5])]
abbrev g_graph_Check_r0:GR:=(OP 0 2 (.box 27 (.tmp 0)) (OP 1 4 (.mv (.const (.int .i64 0))) (OP 2 5 (.mv (.const (.int .i64 0))) .done)))
abbrev g_graph_Check_r1:GR:=(O3 0 21 0 2 (O2 1 22 21 (OP 2 23 (.bin .lss (.tmp 22) (.const (.int .i64 0))) (O1 3 24 23 (OG 4 25 24 false (.fieldAddr 0 (.tmp 2)) (OG 5 26 24 false (.load none (.tmp 25)) (OG 6 27 24 false (.bin .gtr (.tmp 26) (.const (.int .i64 4096))) (OP 7 28 (.pick (.tmp 24) (.const (.bool true)) (.tmp 27)) (O1 8 29 28 (OG 9 30 29 false (.fieldAddr 1 (.tmp 2)) (OG 10 31 29 false (.load none (.tmp 30)) (OG 11 32 29 false (.len (.tmp 31)) (OG 12 33 29 false (.fieldAddr 0 (.tmp 2)) (OG 13 34 29 false (.load none (.tmp 33)) (OG 14 35 29 false (.bin .lss (.tmp 32) (.tmp 34)) (OP 15 36 (.pick (.tmp 29) (.const (.bool true)) (.tmp 35)) (O1 16 37 36 (OG 17 38 37 false (.fieldAddr 1 (.tmp 2)) (OG 18 39 37 false (.load none (.tmp 38)) (OG 19 40 37 false (.len (.tmp 39)) (OG 20 41 37 false (.bin .gtr (.tmp 40) (.const (.int .i64 256))) (OP 21 42 (.pick (.tmp 37) (.const (.bool true)) (.tmp 41)) .done))))))))))))))))))))))
abbrev g_graph_Check_r2:GR:=(OP 0 4 (.mv (.const (.int .i64 1))) (OP 1 5 (.mv (.const (.int .i64 0))) .done))
abbrev g_graph_Check_r3:GR:=(OP 0 43 (.build [(.int .i64 0),(.int .i64 0),(.int .i64 0),(.int .u64 0),(.int .i64 0)] [(0,(1,(.const (.int .i64 (-1))))),(1,(1,(.const (.int .i64 2)))),(4,(1,(.const (.int .i64 1))))]) (OP 1 6 (.alloc 31 [(.int .i64 0),(.int .i64 0),(.int .i64 0),(.int .u64 0),(.int .i64 0)]) (OS 2 (.store 5 (.tmp 6) (.tmp 43)) .done)))
abbrev g_graph_Check_r4:GR:=(O1 0 44 1 .done)
abbrev g_graph_Check_r5:GR:=(O3 0 45 4 6 (OS 1 (.store 1 (.tmp 45) (.const (.int .i64 11))) .done))
abbrev g_graph_Check_r6:GR:=(O3 0 46 0 2 (O2 1 47 46 (OP 2 48 (.mv (.const (.int .i64 0))) .done)))
abbrev g_graph_Check_r7:GR:=(O5 0 49 .lss 48 47 .done)
abbrev g_graph_Check_r8:GR:=(O1 0 50 48 (O1 1 7 50 .done))
abbrev g_graph_Check_r9:GR:=(O1 0 51 7 (O3 1 52 2 6 (OS 2 (.store 1 (.tmp 52) (.tmp 51)) .done)))
abbrev g_graph_Check_r10:GR:=(O3 0 53 1 2 (O6 1 54 53 (O1 2 55 7 (O4 3 56 5 54 55 (OW 4 57 (.load (some 5) (.tmp 56)) (OW 5 58 (.load (some 5) (.tmp 6)) (OP 6 59 (.eqStruct true [0,1,2,3,4] (.tmp 57) (.tmp 58)) .done)))))))
abbrev g_graph_Check_r11:GR:=(O1 0 60 7 (OP 1 4 (.mv (.const (.int .i64 2))) (O1 2 5 60 .done)))
abbrev g_graph_Check_r12:GR:=(OP 0 61 (.bin .add (.tmp 48) (.const (.int .i64 1))) (O1 1 48 61 .done))
abbrev g_graph_Check_l13:GC:=(.seq (.reg g_graph_Check_r7 [1,2,4,5,6,47,48,49]) (.seq (.cond (.tmp 49) .skip (.exit 0)) (.seq (.block 1 (.seq (.reg g_graph_Check_r8 [1,2,4,5,6,7,47,48]) (.seq (.reg g_graph_Check_r9 [1,2,4,5,6,7,47,48]) (.seq (.reg g_graph_Check_r10 [1,2,4,5,6,7,47,48,59]) (.cond (.tmp 59) (.seq (.reg g_graph_Check_r11 [4,5]) .ret) .skip))))) (.reg g_graph_Check_r12 [1,2,4,5,6,47,48]))))
abbrev g_graph_Check_r14:GR:=(OW 0 62 (.load (some 8) (.tmp 2)) (O1 1 63 1 (O3 2 64 1 2 (O6 3 65 64 (OP 4 66 (.len (.tmp 65)) (.two (OP 5 67 (.makeSlice 3 1 8 [(.int .i64 0)] (.tmp 66) (.tmp 66)) (OP 6 68 (.build [(.int .i64 0),(.slice none 0 0),(.slice none 0 0),(.slice none 0 0),(.slice none 0 0),(.slice none 0 0),(.slice none 0 0),(.slice none 0 0),(.bool false),(.slice none 0 0)] [(0,(8,(.tmp 62))),(8,(1,(.tmp 63))),(9,(1,(.tmp 67)))]) (.two (OP 7 69 (.box 106 (.tmp 68)) (OP 8 8 (.alloc 104 [(.pointer none)]) (OS 9 (.store 1 (.tmp 8) (.tmp 69)) .done))) (OP 8 8 (.alloc 104 [(.pointer none)]) (OP 7 69 (.box 106 (.tmp 68)) (OS 9 (.store 1 (.tmp 8) (.tmp 69)) .done)))))) (OP 8 8 (.alloc 104 [(.pointer none)]) (OP 5 67 (.makeSlice 3 1 8 [(.int .i64 0)] (.tmp 66) (.tmp 66)) (OP 6 68 (.build [(.int .i64 0),(.slice none 0 0),(.slice none 0 0),(.slice none 0 0),(.slice none 0 0),(.slice none 0 0),(.slice none 0 0),(.slice none 0 0),(.bool false),(.slice none 0 0)] [(0,(8,(.tmp 62))),(8,(1,(.tmp 63))),(9,(1,(.tmp 67)))]) (OP 7 69 (.box 106 (.tmp 68)) (OS 9 (.store 1 (.tmp 8) (.tmp 69)) .done)))))))))))
abbrev g_graph_Check_r15:GR:=(OP 0 70 .makeMap (OP 1 9 (.alloc 107 [(Value.map none)]) (OS 2 (.store 1 (.tmp 9) (.tmp 70)) .done)))
abbrev g_graph_Check_r16:GR:=(O3 0 71 1 2 (O2 1 72 71 (OP 2 73 (.call 64 [(.tmp 72)]) .done)))
abbrev g_graph_Check_r17:GR:=(O1 0 10 74 .done)
abbrev g_graph_Check_r18:GR:=(OP 0 11 (.alloc 31 [(.int .i64 0),(.int .i64 0),(.int .i64 0),(.int .u64 0),(.int .i64 0)]) (OS 1 (.store 5 (.tmp 11) (.tmp 75)) .done))
abbrev g_graph_Check_r19:GR:=(O2 0 76 8 (OP 1 77 (.nilCheck (.tmp 76)) (O3 2 78 9 77 (O2 3 79 78 (O1 4 80 10 (O4 5 81 1 79 80 (OS 6 (.store 1 (.tmp 81) (.const (.int .i64 (-1)))) .done)))))))
abbrev g_graph_Check_r20:GR:=(O2 0 83 9 (O3 1 84 0 11 (O2 2 85 84 (OP 3 86 (.lookup true (.int .i64 0) (.tmp 83) (.tmp 85)) (O1 4 82 86 (OP 5 87 (.extract 0 (.tmp 82)) (OP 6 88 (.extract 1 (.tmp 82)) (O1 7 12 87 (O1 8 13 88 .done)))))))))
abbrev g_graph_Check_r21:GR:=(O1 0 89 13 (O1 1 90 89 (OG 2 91 90 true (.fieldAddr 0 (.tmp 11)) (OG 3 92 90 true (.load none (.tmp 91)) (OG 4 93 90 true (.bin .geq (.tmp 92) (.const (.int .i64 0))) (OP 5 94 (.pick (.tmp 90) (.tmp 93) (.const (.bool false))) .done))))))
abbrev g_graph_Check_r22:GR:=(O2 0 95 8 (OP 1 96 (.nilCheck (.tmp 95)) (O3 2 97 9 96 (O2 3 98 97 (O1 4 99 10 (O1 5 100 12 (O4 6 101 1 98 99 (OS 7 (.store 1 (.tmp 101) (.tmp 100)) .done))))))))
abbrev g_graph_Check_r23:GR:=(O2 0 102 9 (O3 1 103 0 11 (O2 2 104 103 (O1 3 105 10 (OS 4 (.mapSet (.tmp 102) (.tmp 104) (.tmp 105)) .done)))))
abbrev g_graph_Check_b24:GC:=(.block 3 (.seq (.reg g_graph_Check_r19 [8,9,10,11]) (.seq (.seq (.reg g_graph_Check_r20 [8,9,10,11,12,13]) (.seq (.reg g_graph_Check_r21 [8,9,10,11,12,94]) (.cond (.tmp 94) (.reg g_graph_Check_r22 [9,10,11]) .skip))) (.reg g_graph_Check_r23 []))))
abbrev g_graph_Check_r25:GR:=(O2 0 106 8 (OP 1 107 (.call 65 [(.tmp 106)]) (O1 2 14 107 .done)))
abbrev g_graph_Check_r26:GR:=(O1 0 108 14 (OP 1 109 (.bin .geq (.tmp 108) (.const (.int .i64 0))) .done))
abbrev g_graph_Check_r27:GR:=(O1 0 110 14 (OP 1 4 (.mv (.const (.int .i64 3))) (O1 2 5 110 .done)))
abbrev g_graph_Check_r28:GR:=(O2 0 111 8 (OP 1 112 (.call 66 [(.tmp 111)]) (O1 2 15 112 .done)))
abbrev g_graph_Check_r29:GR:=(O1 0 113 15 (OP 1 114 (.bin .geq (.tmp 113) (.const (.int .i64 0))) .done))
abbrev g_graph_Check_r30:GR:=(O1 0 115 15 (OP 1 4 (.mv (.const (.int .i64 4))) (O1 2 5 115 .done)))
abbrev g_graph_Check_r31:GR:=(O2 0 116 8 (OP 1 117 (.call 67 [(.tmp 116)]) (O1 2 16 117 .done)))
abbrev g_graph_Check_r32:GR:=(O1 0 118 16 (OP 1 119 (.bin .geq (.tmp 118) (.const (.int .i64 0))) .done))
abbrev g_graph_Check_r33:GR:=(O1 0 120 16 (OP 1 4 (.mv (.const (.int .i64 5))) (O1 2 5 120 .done)))
abbrev g_graph_Check_r34:GR:=(O2 0 121 8 (OP 1 122 (.call 68 [(.tmp 121)]) (O1 2 17 122 .done)))
abbrev g_graph_Check_r35:GR:=(O1 0 123 17 (OP 1 124 (.bin .geq (.tmp 123) (.const (.int .i64 0))) .done))
abbrev g_graph_Check_r36:GR:=(O1 0 125 17 (OP 1 4 (.mv (.const (.int .i64 6))) (O1 2 5 125 .done)))
abbrev g_graph_Check_r37:GR:=(O2 0 126 8 (O3 1 127 5 2 (O2 2 128 127 (OP 3 129 (.buildSlice 3 2 [(.int .i64 0),(.int .i64 0)] [(0,(1,(.const (.int .i64 1)))),(1,(1,(.const (.int .i64 2))))]) (OP 4 130 (.call 69 [(.tmp 126),(.tmp 128),(.tmp 129)]) (O1 5 18 130 .done))))))
abbrev g_graph_Check_r38:GR:=(O1 0 131 18 (OP 1 132 (.bin .geq (.tmp 131) (.const (.int .i64 0))) .done))
abbrev g_graph_Check_r39:GR:=(O1 0 133 18 (OP 1 4 (.mv (.const (.int .i64 7))) (O1 2 5 133 .done)))
abbrev g_graph_Check_r40:GR:=(O2 0 134 8 (O3 1 135 6 2 (O2 2 136 135 (OP 3 137 (.buildSlice 3 1 [(.int .i64 0)] [(0,(1,(.const (.int .i64 2))))]) (OP 4 138 (.call 69 [(.tmp 134),(.tmp 136),(.tmp 137)]) (O1 5 19 138 .done))))))
abbrev g_graph_Check_r41:GR:=(O1 0 139 19 (OP 1 140 (.bin .geq (.tmp 139) (.const (.int .i64 0))) .done))
abbrev g_graph_Check_r42:GR:=(O1 0 141 19 (OP 1 4 (.mv (.const (.int .i64 8))) (O1 2 5 141 .done)))
abbrev g_graph_Check_r43:GR:=(O2 0 142 8 (O3 1 143 7 2 (O2 2 144 143 (OP 3 145 (.buildSlice 3 3 [(.int .i64 0),(.int .i64 0),(.int .i64 0)] [(0,(1,(.const (.int .i64 1)))),(1,(1,(.const (.int .i64 2)))),(2,(1,(.const (.int .i64 3))))]) (OP 4 146 (.call 69 [(.tmp 142),(.tmp 144),(.tmp 145)]) (O1 5 20 146 .done))))))
abbrev g_graph_Check_r44:GR:=(O1 0 147 20 (OP 1 148 (.bin .geq (.tmp 147) (.const (.int .i64 0))) .done))
abbrev g_graph_Check_r45:GR:=(O1 0 149 20 (OP 1 4 (.mv (.const (.int .i64 9))) (O1 2 5 149 .done)))
abbrev g_graph_Check_r46:GR:=(OP 0 4 (.mv (.const (.int .i64 0))) (OP 1 5 (.mv (.const (.int .i64 0))) .done))
abbrev g_graph_Check:GC:=(.seq (.reg g_graph_Check_r0 [1,2,4,5]) (.seq (.seq (.reg g_graph_Check_r1 [1,2,4,5,42]) (.cond (.tmp 42) (.seq (.reg g_graph_Check_r2 [4,5]) .ret) .skip)) (.seq (.reg g_graph_Check_r3 [1,2,4,5,6]) (.seq (.seq (.reg g_graph_Check_r4 [1,2,4,5,6,44]) (.cond (.tmp 44) (.reg g_graph_Check_r5 [1,2,4,5,6]) .skip)) (.seq (.seq (.reg g_graph_Check_r6 [1,2,4,5,6,47,48]) (.block 0 (.loop g_graph_Check_l13))) (.seq (.reg g_graph_Check_r14 [2,4,5,8]) (.seq (.reg g_graph_Check_r15 [2,4,5,8,9]) (.seq (.seq (.reg g_graph_Check_r16 [2,4,5,8,9,73]) (.block 2 (.rng (.tmp 73) [74,75] (.seq (.reg g_graph_Check_r17 [8,9,10,75]) (.reg g_graph_Check_r18 [8,9,10,11])) g_graph_Check_b24))) (.seq (.seq (.reg g_graph_Check_r25 [2,8,14]) (.seq (.reg g_graph_Check_r26 [2,8,14,109]) (.cond (.tmp 109) (.seq (.reg g_graph_Check_r27 [4,5]) .ret) .skip))) (.seq (.seq (.reg g_graph_Check_r28 [2,8,15]) (.seq (.reg g_graph_Check_r29 [2,8,15,114]) (.cond (.tmp 114) (.seq (.reg g_graph_Check_r30 [4,5]) .ret) .skip))) (.seq (.seq (.reg g_graph_Check_r31 [2,8,16]) (.seq (.reg g_graph_Check_r32 [2,8,16,119]) (.cond (.tmp 119) (.seq (.reg g_graph_Check_r33 [4,5]) .ret) .skip))) (.seq (.seq (.reg g_graph_Check_r34 [2,8,17]) (.seq (.reg g_graph_Check_r35 [2,8,17,124]) (.cond (.tmp 124) (.seq (.reg g_graph_Check_r36 [4,5]) .ret) .skip))) (.seq (.seq (.reg g_graph_Check_r37 [2,8,18]) (.seq (.reg g_graph_Check_r38 [2,8,18,132]) (.cond (.tmp 132) (.seq (.reg g_graph_Check_r39 [4,5]) .ret) .skip))) (.seq (.seq (.reg g_graph_Check_r40 [2,8,19]) (.seq (.reg g_graph_Check_r41 [2,8,19,140]) (.cond (.tmp 140) (.seq (.reg g_graph_Check_r42 [4,5]) .ret) .skip))) (.seq (.seq (.reg g_graph_Check_r43 [20]) (.seq (.reg g_graph_Check_r44 [20,148]) (.cond (.tmp 148) (.seq (.reg g_graph_Check_r45 [4,5]) .ret) .skip))) (.seq (.reg g_graph_Check_r46 [4,5]) .ret))))))))))))))))
abbrev rs_graph_Check:List RV:=[(.tmp 4),(.tmp 5)]
theorem gc_graph_Check:compileF Tryd.prog Tryd.f43 T_graph_Check=some (g_graph_Check,rs_graph_Check):=by kernel_rfl
theorem con_graph_Check (hR:∀ v h1 h2,Ext h.size h1 h2→R v h1→R v h2) (hv:vc Tryd.prog y g_graph_Check (retQ rs_graph_Check R) [(0,a0),(1,a1)] h):ConX y Tryd.prog 43 #[a0,a1] h R:=con_of Tryd.func43 gc_graph_Check rfl (fun _=>hR) hv
def T_graph_Derive:List (Nat×List Nat):=[(0,[1,2]),(1,[1,2,18]),(2,[2,3]),(3,[1,2,4]),(4,[1,2,5,1000000]),(5,[1,2,5,53,54,55]),(6,[1,2,5,53,54,55,56]),(7,[1,2,5,6,7,53,54,55]),(8,[1,2,5,6,7,53,54,55]),(9,[1,2,5,6,7,53,54,55]),(10,[1,2,5,6,7,53,54,55]),(11,[1,2,5,6,7,53,54,55,85,86,87]),(12,[1,2,5,6,7,53,54,55,85,86,87,88]),(13,[1,2,5,6,7,8,9,53,54,55,85,86,87]),(14,[1,2,5,6,7,8,9,53,54,55,85,86,87]),(15,[1,2,5,6,7,8,9,53,54,55,85,86,87]),(16,[1,2,5,6,7,53,54,55,85,86,87]),(17,[1,2,5,6,7,53,54,55,85,86,87]),(18,[1,2,5,53,54,55]),(19,[2,5,140,141,142]),(20,[2,5,140,141,142,143]),(21,[2,5,11,140,141,142]),(22,[2,5,11,140,141,142,146,147,148]),(23,[2,5,11,140,141,142,146,147,148,149]),(24,[2,5,11,12,13,140,141,142,146,147,148]),(25,[2,5,11,13,140,141,142,146,147,148,156,157,158]),(26,[2,5,11,13,140,141,142,146,147,148,156,157,158,159]),(27,[2,5,11,13,15,140,141,142,146,147,148,156,157,158]),(28,[2,5,11,13,140,141,142,146,147,148,156,157,158]),(29,[2,5,11,13,140,141,142,146,147,148,156,157,158]),(30,[2,5,11,140,141,142,146,147,148]),(31,[2,5,140,141,142]),(32,[2,5]),(33,[2,3])]
abbrev g_graph_Derive_r0:GR:=(OP 0 1 (.box 27 (.tmp 0)) (OP 1 2 (.alloc 78 [(.pointer none),(.pointer none),(.pointer none),(.pointer none),(.pointer none),(.pointer none),(.pointer none),(.pointer none),(.pointer none),(.pointer none),(.slice none 0 0),(.slice none 0 0),(.slice none 0 0)]) (OP 2 3 (.mv (.const (.int .i64 0))) .done)))
abbrev g_graph_Derive_r1:GR:=(OP 0 16 (.load (some 8) (.tmp 1)) (OP 1 17 (.call 70 [(.tmp 16)]) (OP 2 18 (.not (.tmp 17)) .done)))
abbrev g_graph_Derive_r2:GR:=(OP 0 19 (.build [(.pointer none),(.pointer none),(.pointer none),(.pointer none),(.pointer none),(.pointer none),(.pointer none),(.pointer none),(.pointer none),(.pointer none),(.slice none 0 0),(.slice none 0 0),(.slice none 0 0)] []) (OS 1 (.store 13 (.tmp 2) (.tmp 19)) (OP 2 3 (.mv (.const (.int .i64 4))) .done)))
abbrev g_graph_Derive_r3:GR:=(O3 0 20 1 1 (O2 1 21 20 (OP 2 22 (.len (.tmp 21)) (O1 3 4 22 .done))))
abbrev g_graph_Derive_r4:GR:=(O1 0 23 4 (O1 2 25 4 (O3 3 26 2 1 (O6 4 27 26 (O1 6 29 4 (O1 8 31 4 (O3 9 32 4 1 (O6 10 33 32 (O1 12 35 4 (O1 14 37 4 (O1 16 39 4 (O3 17 40 5 1 (O6 18 41 40 (O1 20 43 4 (O3 21 44 6 1 (O6 22 45 44 (O1 24 47 4 (O3 25 48 7 1 (O6 26 49 48 (.free [24,28,30,34,36,38,42,46,50,51,5] [(FI.mk (GI.mk 1 (some 24) none (.call 20 [(.tmp 23)]) [] false) []),(FI.mk (GI.mk 5 (some 28) none (.call 25 [(.tmp 25),(.tmp 27)]) [] false) [(1,24)]),(FI.mk (GI.mk 7 (some 30) none (.call 20 [(.tmp 29)]) [] false) [(5,28)]),(FI.mk (GI.mk 11 (some 34) none (.call 25 [(.tmp 31),(.tmp 33)]) [] false) [(7,30)]),(FI.mk (GI.mk 13 (some 36) none (.call 20 [(.tmp 35)]) [] false) [(11,34)]),(FI.mk (GI.mk 15 (some 38) none (.call 20 [(.tmp 37)]) [] false) [(13,36)]),(FI.mk (GI.mk 19 (some 42) none (.call 25 [(.tmp 39),(.tmp 41)]) [] false) [(15,38)]),(FI.mk (GI.mk 23 (some 46) none (.call 25 [(.tmp 43),(.tmp 45)]) [] false) [(19,42)]),(FI.mk (GI.mk 27 (some 50) none (.call 25 [(.tmp 47),(.tmp 49)]) [] false) [(23,46)]),(FI.mk (GI.mk 28 (some 51) none (.build [(.pointer none),(.pointer none),(.pointer none),(.pointer none),(.pointer none),(.pointer none),(.pointer none),(.pointer none),(.pointer none),(.pointer none),(.slice none 0 0),(.slice none 0 0),(.slice none 0 0)] [(0,(1,(.tmp 24))),(1,(1,(.tmp 28))),(2,(1,(.tmp 30))),(4,(1,(.tmp 34))),(5,(1,(.tmp 36))),(6,(1,(.tmp 38))),(7,(1,(.tmp 42))),(8,(1,(.tmp 46))),(9,(1,(.tmp 50)))]) [] false) [(1,24),(5,28),(7,30),(11,34),(13,36),(15,38),(19,42),(23,46),(27,50)]),(FI.mk (GI.mk 29 (some 5) none (.alloc 78 [(.pointer none),(.pointer none),(.pointer none),(.pointer none),(.pointer none),(.pointer none),(.pointer none),(.pointer none),(.pointer none),(.pointer none),(.slice none 0 0),(.slice none 0 0),(.slice none 0 0)]) [] false) [])] (OS 30 (.store 13 (.tmp 5) (.tmp 51)) .done)))))))))))))))))))))
abbrev g_graph_Derive_r5:GR:=(O3 0 52 1 1 (O2 1 53 52 (OP 2 54 (.len (.tmp 53)) (OP 3 55 (.mv (.const (.int .i64 0))) .done))))
abbrev g_graph_Derive_r6:GR:=(O5 0 56 .lss 55 54 .done)
abbrev g_graph_Derive_r7:GR:=(O1 0 57 55 (O4 1 58 5 53 55 (OP 2 59 (.load (some 5) (.tmp 58)) (OP 3 7 (.alloc 31 [(.int .i64 0),(.int .i64 0),(.int .i64 0),(.int .u64 0),(.int .i64 0)]) (O1 4 6 57 (OS 5 (.store 5 (.tmp 7) (.tmp 59)) .done))))))
abbrev g_graph_Derive_r8:GR:=(O3 0 60 10 5 (O2 1 61 60 (O3 2 62 1 7 (O2 3 63 62 (OP 4 64 (.bin .eql (.tmp 63) (.const (.int .i64 1))) (OP 5 65 (.buildSlice 4 1 [(.bool false)] [(0,(1,(.tmp 64)))]) (OP 6 66 (.append 4 1 1 [(.bool false)] (.tmp 61) (.tmp 65)) (O3 7 67 10 5 (OS 8 (.store 1 (.tmp 67) (.tmp 66)) .done)))))))))
abbrev g_graph_Derive_r9:GR:=(O3 0 68 11 5 (O2 1 69 68 (O3 2 70 1 7 (O2 3 71 70 (OP 4 72 (.bin .eql (.tmp 71) (.const (.int .i64 2))) (OP 5 73 (.buildSlice 4 1 [(.bool false)] [(0,(1,(.tmp 72)))]) (OP 6 74 (.append 4 1 1 [(.bool false)] (.tmp 69) (.tmp 73)) (O3 7 75 11 5 (OS 8 (.store 1 (.tmp 75) (.tmp 74)) .done)))))))))
abbrev g_graph_Derive_r10:GR:=(O3 0 76 12 5 (O2 1 77 76 (O3 2 78 1 7 (O2 3 79 78 (OP 4 80 (.bin .eql (.tmp 79) (.const (.int .i64 3))) (OP 5 81 (.buildSlice 4 1 [(.bool false)] [(0,(1,(.tmp 80)))]) (OP 6 82 (.append 4 1 1 [(.bool false)] (.tmp 77) (.tmp 81)) (O3 7 83 12 5 (OS 8 (.store 1 (.tmp 83) (.tmp 82)) .done)))))))))
abbrev g_graph_Derive_r11:GR:=(O3 0 84 1 1 (O2 1 85 84 (OP 2 86 (.len (.tmp 85)) (OP 3 87 (.mv (.const (.int .i64 0))) .done))))
abbrev g_graph_Derive_r12:GR:=(O5 0 88 .lss 87 86 .done)
abbrev g_graph_Derive_r13:GR:=(O1 0 89 87 (O4 1 90 5 85 87 (OP 2 91 (.load (some 5) (.tmp 90)) (OP 3 9 (.alloc 31 [(.int .i64 0),(.int .i64 0),(.int .i64 0),(.int .u64 0),(.int .i64 0)]) (O1 4 8 89 (OS 5 (.store 5 (.tmp 9) (.tmp 91)) .done))))))
abbrev g_graph_Derive_r14:GR:=(O3 0 92 0 5 (O2 1 93 92 (O1 2 94 6 (O1 3 95 8 (O1 4 96 6 (O1 5 97 8 (O5 6 98 .lss 96 97 (O1 7 99 98 (OG 8 100 99 true (.fieldAddr 0 (.tmp 7)) (OG 9 101 99 true (.load none (.tmp 100)) (OG 10 102 99 true (.bin .geq (.tmp 101) (.const (.int .i64 0))) (OP 11 103 (.pick (.tmp 99) (.tmp 102) (.const (.bool false))) (O1 12 104 103 (OG 13 105 104 true (.fieldAddr 0 (.tmp 7)) (OG 14 106 104 true (.load none (.tmp 105)) (OG 15 107 104 true (.fieldAddr 0 (.tmp 9)) (OG 16 108 104 true (.load none (.tmp 107)) (OG 17 109 104 true (.bin .eql (.tmp 106) (.tmp 108)) (OP 18 110 (.pick (.tmp 104) (.tmp 109) (.const (.bool false))) (OP 19 111 (.call 21 [(.tmp 93),(.tmp 94),(.tmp 95),(.tmp 110)]) .done))))))))))))))))))))
abbrev g_graph_Derive_r15:GR:=(O3 0 112 5 5 (O2 1 113 112 (O1 2 114 6 (O1 3 115 8 (O3 4 116 2 7 (O2 5 117 116 (OP 6 118 (.bin .geq (.tmp 117) (.const (.int .i64 0))) (O1 7 119 118 (OG 8 120 119 true (.fieldAddr 2 (.tmp 7)) (OG 9 121 119 true (.load none (.tmp 120)) (OG 10 122 119 true (.fieldAddr 2 (.tmp 9)) (OG 11 123 119 true (.load none (.tmp 122)) (OG 12 124 119 true (.bin .eql (.tmp 121) (.tmp 123)) (OP 13 125 (.pick (.tmp 119) (.tmp 124) (.const (.bool false))) (OP 14 126 (.call 21 [(.tmp 113),(.tmp 114),(.tmp 115),(.tmp 125)]) .done)))))))))))))))
abbrev g_graph_Derive_r16:GR:=(O3 0 127 6 5 (O2 1 128 127 (O1 2 129 6 (O1 3 130 8 (O3 4 131 0 7 (O2 5 132 131 (O3 6 133 0 9 (O2 7 134 133 (O5 8 135 .neq 132 134 (OP 9 136 (.call 21 [(.tmp 128),(.tmp 129),(.tmp 130),(.tmp 135)]) .done))))))))))
abbrev g_graph_Derive_r17:GR:=(OP 0 137 (.bin .add (.tmp 87) (.const (.int .i64 1))) (O1 1 87 137 .done))
abbrev g_graph_Derive_l18:GC:=(.seq (.reg g_graph_Derive_r12 [1,2,5,6,7,53,54,55,85,86,87,88]) (.seq (.cond (.tmp 88) .skip (.exit 2)) (.seq (.block 3 (.seq (.reg g_graph_Derive_r13 [1,2,5,6,7,8,9,53,54,55,85,86,87]) (.seq (.reg g_graph_Derive_r14 [1,2,5,6,7,8,9,53,54,55,85,86,87]) (.seq (.reg g_graph_Derive_r15 [1,2,5,6,7,8,9,53,54,55,85,86,87]) (.reg g_graph_Derive_r16 [1,2,5,6,7,53,54,55,85,86,87]))))) (.reg g_graph_Derive_r17 [1,2,5,6,7,53,54,55,85,86,87]))))
abbrev g_graph_Derive_r19:GR:=(OP 0 138 (.bin .add (.tmp 55) (.const (.int .i64 1))) (O1 1 55 138 .done))
abbrev g_graph_Derive_l20:GC:=(.seq (.reg g_graph_Derive_r6 [1,2,5,53,54,55,56]) (.seq (.cond (.tmp 56) .skip (.exit 0)) (.seq (.block 1 (.seq (.reg g_graph_Derive_r7 [1,2,5,6,7,53,54,55]) (.seq (.reg g_graph_Derive_r8 [1,2,5,6,7,53,54,55]) (.seq (.reg g_graph_Derive_r9 [1,2,5,6,7,53,54,55]) (.seq (.reg g_graph_Derive_r10 [1,2,5,6,7,53,54,55]) (.seq (.reg g_graph_Derive_r11 [1,2,5,6,7,53,54,55,85,86,87]) (.block 2 (.loop g_graph_Derive_l18)))))))) (.reg g_graph_Derive_r19 [1,2,5,53,54,55]))))
abbrev g_graph_Derive_r21:GR:=(O3 0 139 3 1 (O2 1 140 139 (OP 2 141 (.len (.tmp 140)) (OP 3 142 (.mv (.const (.int .i64 0))) .done))))
abbrev g_graph_Derive_r22:GR:=(O5 0 143 .lss 142 141 .done)
abbrev g_graph_Derive_r23:GR:=(O4 0 144 1 140 142 (O2 1 145 144 (O1 2 11 145 .done)))
abbrev g_graph_Derive_r24:GR:=(O1 0 146 11 (OP 1 147 (.len (.tmp 146)) (OP 2 148 (.mv (.const (.int .i64 0))) .done)))
abbrev g_graph_Derive_r25:GR:=(O5 0 149 .lss 148 147 .done)
abbrev g_graph_Derive_r26:GR:=(O1 0 150 148 (O4 1 151 1 146 148 (O2 2 152 151 (O1 3 12 150 (O1 4 13 152 .done)))))
abbrev g_graph_Derive_r27:GR:=(O1 0 153 11 (O1 1 154 12 (OP 2 155 (.bin .add (.tmp 154) (.const (.int .i64 1))) (OP 3 156 (.slice 1 (.tmp 153) (some (.tmp 155)) none) (OP 4 157 (.len (.tmp 156)) (OP 5 158 (.mv (.const (.int .i64 0))) .done))))))
abbrev g_graph_Derive_r28:GR:=(O5 0 159 .lss 158 157 .done)
abbrev g_graph_Derive_r29:GR:=(O4 0 160 1 156 158 (O2 1 161 160 (O1 2 15 161 .done)))
abbrev g_graph_Derive_r30:GR:=(O3 0 162 2 5 (O2 1 163 162 (O1 2 164 13 (O1 3 165 15 (OP 4 166 (.call 21 [(.tmp 163),(.tmp 164),(.tmp 165),(.const (.bool true))]) .done)))))
abbrev g_graph_Derive_r31:GR:=(OP 0 167 (.bin .add (.tmp 158) (.const (.int .i64 1))) (O1 1 158 167 .done))
abbrev g_graph_Derive_l32:GC:=(.seq (.reg g_graph_Derive_r28 [2,5,11,13,140,141,142,146,147,148,156,157,158,159]) (.seq (.cond (.tmp 159) .skip (.exit 8)) (.seq (.block 9 (.seq (.reg g_graph_Derive_r29 [2,5,11,13,15,140,141,142,146,147,148,156,157,158]) (.reg g_graph_Derive_r30 [2,5,11,13,140,141,142,146,147,148,156,157,158]))) (.reg g_graph_Derive_r31 [2,5,11,13,140,141,142,146,147,148,156,157,158]))))
abbrev g_graph_Derive_r33:GR:=(OP 0 168 (.bin .add (.tmp 148) (.const (.int .i64 1))) (O1 1 148 168 .done))
abbrev g_graph_Derive_l34:GC:=(.seq (.reg g_graph_Derive_r25 [2,5,11,140,141,142,146,147,148,149]) (.seq (.cond (.tmp 149) .skip (.exit 6)) (.seq (.block 7 (.seq (.reg g_graph_Derive_r26 [2,5,11,12,13,140,141,142,146,147,148]) (.seq (.reg g_graph_Derive_r27 [2,5,11,13,140,141,142,146,147,148,156,157,158]) (.block 8 (.loop g_graph_Derive_l32))))) (.reg g_graph_Derive_r33 [2,5,11,140,141,142,146,147,148]))))
abbrev g_graph_Derive_r35:GR:=(OP 0 169 (.bin .add (.tmp 142) (.const (.int .i64 1))) (O1 1 142 169 .done))
abbrev g_graph_Derive_l36:GC:=(.seq (.reg g_graph_Derive_r22 [2,5,140,141,142,143]) (.seq (.cond (.tmp 143) .skip (.exit 4)) (.seq (.block 5 (.seq (.reg g_graph_Derive_r23 [2,5,11,140,141,142]) (.seq (.reg g_graph_Derive_r24 [2,5,11,140,141,142,146,147,148]) (.block 6 (.loop g_graph_Derive_l34))))) (.reg g_graph_Derive_r35 [2,5,140,141,142]))))
abbrev g_graph_Derive_r37:GR:=(O3 0 170 1 5 (O6 1 171 170 (O3 3 173 2 5 (O6 4 174 173 (.op (GI.mk 2 (some 172) none (.call 71 [(.tmp 171)]) [4] false) (.op (GI.mk 5 (some 175) none (.call 50 [(.tmp 172),(.tmp 174)]) [1] false) (O3 6 176 3 5 (OS 7 (.store 1 (.tmp 176) (.tmp 175)) .done))))))))
abbrev g_graph_Derive_r38:GR:=(OP 0 177 (.load (some 13) (.tmp 5)) (OS 1 (.store 13 (.tmp 2) (.tmp 177)) (OP 2 3 (.mv (.const (.int .i64 0))) .done)))
abbrev g_graph_Derive:GC:=(.seq (.reg g_graph_Derive_r0 [1,2]) (.seq (.seq (.reg g_graph_Derive_r1 [1,2,18]) (.cond (.tmp 18) (.seq (.reg g_graph_Derive_r2 [2,3]) .ret) .skip)) (.seq (.reg g_graph_Derive_r3 [1,2,4]) (.seq (.reg g_graph_Derive_r4 [1,2,5,1000000]) (.seq (.seq (.reg g_graph_Derive_r5 [1,2,5,53,54,55]) (.block 0 (.loop g_graph_Derive_l20))) (.seq (.seq (.reg g_graph_Derive_r21 [2,5,140,141,142]) (.block 4 (.loop g_graph_Derive_l36))) (.seq (.reg g_graph_Derive_r37 [2,5]) (.seq (.reg g_graph_Derive_r38 [2,3]) .ret))))))))
abbrev rs_graph_Derive:List RV:=[(.cell 2 (some 13)),(.tmp 3)]
theorem gc_graph_Derive:compileF Tryd.prog Tryd.f44 T_graph_Derive=some (g_graph_Derive,rs_graph_Derive):=by kernel_rfl
theorem con_graph_Derive (hv:vc Tryd.prog y g_graph_Derive (retQ rs_graph_Derive R) [(0,a0)] h):ConX y Tryd.prog 44 #[a0] h R:=con_of Tryd.func44 gc_graph_Derive rfl (fun h=>absurd h (by decide)) hv
def T_rc11_model_some:List (Nat×List Nat):=[(0,[0,1,2]),(1,[1,2,7]),(2,[1,2,7,8]),(3,[2,7,8,20,21,22]),(4,[2,7,8,20,21,22,23]),(5,[2,7,8,9,10,20,21,22]),(6,[2,7,8,20,21,22]),(7,[2,7,8,20,21,22]),(8,[6])]
abbrev g_rc11_model_some_r0:GR:=(OP 0 6 (.mv (.const (.pointer none))) .done)
abbrev g_rc11_model_some_r1:GR:=(O1 0 11 0 (OP 1 12 (.nilCheck (.tmp 11)) (O3 2 13 0 12 (OP 3 14 (.load (some 8) (.tmp 13)) (O1 4 15 2 (OP 5 16 (.call 72 [(.tmp 14),(.tmp 15)]) (O1 6 7 16 .done)))))))
abbrev g_rc11_model_some_r2:GR:=(O1 0 17 1 (OP 1 18 (.len (.tmp 17)) (OP 2 19 (.makeSlice 4 1 1 [(.bool false)] (.tmp 18) (.tmp 18)) (O1 3 8 19 .done))))
abbrev g_rc11_model_some_r3:GR:=(O1 0 20 1 (OP 1 21 (.len (.tmp 20)) (OP 2 22 (.mv (.const (.int .i64 0))) .done)))
abbrev g_rc11_model_some_r4:GR:=(O5 0 23 .lss 22 21 .done)
abbrev g_rc11_model_some_r5:GR:=(O1 0 24 22 (O4 1 25 1 20 22 (O2 2 26 25 (O1 3 9 24 (O1 4 10 26 .done)))))
abbrev g_rc11_model_some_r6:GR:=(O1 0 27 8 (O1 1 28 9 (O1 2 29 10 (O1 3 30 29 (OG 4 31 30 true (.mv (.tmp 2)) (OG 5 32 30 true (.len (.tmp 31)) (OG 6 33 30 true (.bin .eql (.tmp 32) (.const (.int .i64 0))) (OG 7 34 30 true (.mv (.tmp 33)) (OG 8 35 34 false (.mv (.tmp 7)) (OG 9 36 34 false (.mv (.tmp 9)) (OG 10 37 34 false (.indexAddr 1 (.tmp 35) (.tmp 36)) (OG 11 38 34 false (.load none (.tmp 37)) (OG 12 39 30 true (.pick (.tmp 34) (.const (.bool true)) (.tmp 38)) (OP 13 40 (.pick (.tmp 30) (.tmp 39) (.const (.bool false))) (O4 14 41 1 27 28 (OS 15 (.store 1 (.tmp 41) (.tmp 40)) .done))))))))))))))))
abbrev g_rc11_model_some_r7:GR:=(OP 0 42 (.bin .add (.tmp 22) (.const (.int .i64 1))) (O1 1 22 42 .done))
abbrev g_rc11_model_some_l8:GC:=(.seq (.reg g_rc11_model_some_r4 [2,7,8,20,21,22,23]) (.seq (.cond (.tmp 23) .skip (.exit 0)) (.seq (.block 1 (.seq (.reg g_rc11_model_some_r5 [2,7,8,9,10,20,21,22]) (.reg g_rc11_model_some_r6 [2,7,8,20,21,22]))) (.reg g_rc11_model_some_r7 [2,7,8,20,21,22]))))
abbrev g_rc11_model_some_r9:GR:=(O1 0 43 8 (OP 1 44 (.len (.tmp 43)) (O1 2 45 8 (OP 3 46 (.call 73 [(.tmp 44),(.tmp 45)]) (O1 4 6 46 .done)))))
abbrev g_rc11_model_some:GC:=(.seq (.reg g_rc11_model_some_r0 [0,1,2]) (.seq (.reg g_rc11_model_some_r1 [1,2,7]) (.seq (.reg g_rc11_model_some_r2 [1,2,7,8]) (.seq (.seq (.reg g_rc11_model_some_r3 [2,7,8,20,21,22]) (.block 0 (.loop g_rc11_model_some_l8))) (.seq (.reg g_rc11_model_some_r9 [6]) .ret)))))
abbrev rs_rc11_model_some:List RV:=[(.tmp 6)]
theorem gc_rc11_model_some:compileF Tryd.prog Tryd.f45 T_rc11_model_some=some (g_rc11_model_some,rs_rc11_model_some):=by kernel_rfl
theorem con_rc11_model_some (hv:vc Tryd.prog y g_rc11_model_some (retQ rs_rc11_model_some R) [(0,a0),(1,a1),(2,a2)] h):ConX y Tryd.prog 45 #[a0,a1,a2] h R:=con_of Tryd.func45 gc_rc11_model_some rfl (fun h=>absurd h (by decide)) hv
def T_rc11_chain:List (Nat×List Nat):=[(0,[0,1]),(1,[0,7,8,9]),(2,[0,7,8,9,10]),(3,[0,6,7,8,9]),(4,[0,7,8,9]),(5,[0,7,8,9]),(6,[4])]
abbrev g_rc11_chain_r0:GR:=(OP 0 4 (.mv (.const (.pointer none))) .done)
abbrev g_rc11_chain_r1:GR:=(O1 0 7 1 (OP 1 8 (.len (.tmp 7)) (OP 2 9 (.mv (.const (.int .i64 0))) .done)))
abbrev g_rc11_chain_r2:GR:=(O5 0 10 .lss 9 8 .done)
abbrev g_rc11_chain_r3:GR:=(O4 0 11 1 7 9 (O2 1 12 11 (O1 2 6 12 .done)))
abbrev g_rc11_chain_r4:GR:=(O1 0 13 0 (O1 1 14 6 (OP 2 15 (.call 50 [(.tmp 13),(.tmp 14)]) (O1 3 0 15 .done))))
abbrev g_rc11_chain_r5:GR:=(OP 0 16 (.bin .add (.tmp 9) (.const (.int .i64 1))) (O1 1 9 16 .done))
abbrev g_rc11_chain_l6:GC:=(.seq (.reg g_rc11_chain_r2 [0,7,8,9,10]) (.seq (.cond (.tmp 10) .skip (.exit 0)) (.seq (.block 1 (.seq (.reg g_rc11_chain_r3 [0,6,7,8,9]) (.reg g_rc11_chain_r4 [0,7,8,9]))) (.reg g_rc11_chain_r5 [0,7,8,9]))))
abbrev g_rc11_chain_r7:GR:=(O1 0 17 0 (O1 1 4 17 .done))
abbrev g_rc11_chain:GC:=(.seq (.reg g_rc11_chain_r0 [0,1]) (.seq (.seq (.reg g_rc11_chain_r1 [0,7,8,9]) (.block 0 (.loop g_rc11_chain_l6))) (.seq (.reg g_rc11_chain_r7 [4]) .ret)))
abbrev rs_rc11_chain:List RV:=[(.tmp 4)]
theorem gc_rc11_chain:compileF Tryd.prog Tryd.f46 T_rc11_chain=some (g_rc11_chain,rs_rc11_chain):=by kernel_rfl
theorem con_rc11_chain (hv:vc Tryd.prog y g_rc11_chain (retQ rs_rc11_chain R) [(0,a0),(1,a1)] h):ConX y Tryd.prog 46 #[a0,a1] h R:=con_of Tryd.func46 gc_rc11_chain rfl (fun h=>absurd h (by decide)) hv
def T_rel_Opt:List (Nat×List Nat):=[(0,[0]),(1,[3]),(2,[3,10,11]),(3,[3,10,11,12]),(4,[3,4,10,11]),(5,[3,10,11]),(6,[3,10,11]),(7,[2])]
abbrev g_rel_Opt_r0:GR:=(OP 0 2 (.mv (.const (.pointer none))) .done)
abbrev g_rel_Opt_r1:GR:=(O1 0 5 0 (OP 1 6 (.call 63 [(.tmp 5)]) (O1 2 3 6 .done)))
abbrev g_rel_Opt_r2:GR:=(O1 0 7 3 (OP 1 8 (.nilCheck (.tmp 7)) (O3 2 9 0 8 (O2 3 10 9 (OP 4 11 (.mv (.const (.int .i64 0))) .done)))))
abbrev g_rel_Opt_r3:GR:=(O5 0 12 .lss 11 10 .done)
abbrev g_rel_Opt_r4:GR:=(O1 0 13 11 (O1 1 4 13 .done))
abbrev g_rel_Opt_r5:GR:=(O1 0 14 3 (OP 1 15 (.nilCheck (.tmp 14)) (O3 2 16 1 15 (O2 3 17 16 (O1 4 18 4 (O4 5 19 1 17 18 (O2 6 20 19 (O1 7 21 4 (OP 8 22 (.call 74 [(.tmp 20),(.tmp 21)]) .done)))))))))
abbrev g_rel_Opt_r6:GR:=(OP 0 23 (.bin .add (.tmp 11) (.const (.int .i64 1))) (O1 1 11 23 .done))
abbrev g_rel_Opt_l7:GC:=(.seq (.reg g_rel_Opt_r3 [3,10,11,12]) (.seq (.cond (.tmp 12) .skip (.exit 0)) (.seq (.block 1 (.seq (.reg g_rel_Opt_r4 [3,4,10,11]) (.reg g_rel_Opt_r5 [3,10,11]))) (.reg g_rel_Opt_r6 [3,10,11]))))
abbrev g_rel_Opt_r8:GR:=(O1 0 24 3 (O1 1 2 24 .done))
abbrev g_rel_Opt:GC:=(.seq (.reg g_rel_Opt_r0 [0]) (.seq (.reg g_rel_Opt_r1 [3]) (.seq (.seq (.reg g_rel_Opt_r2 [3,10,11]) (.block 0 (.loop g_rel_Opt_l7))) (.seq (.reg g_rel_Opt_r8 [2]) .ret))))
abbrev rs_rel_Opt:List RV:=[(.tmp 2)]
theorem gc_rel_Opt:compileF Tryd.prog Tryd.f47 T_rel_Opt=some (g_rel_Opt,rs_rel_Opt):=by kernel_rfl
theorem con_rel_Opt (hv:vc Tryd.prog y g_rel_Opt (retQ rs_rel_Opt R) [(0,a0)] h):ConX y Tryd.prog 47 #[a0] h R:=con_of Tryd.func47 gc_rel_Opt rfl (fun h=>absurd h (by decide)) hv
def T_rel_Inter:List (Nat×List Nat):=[(0,[0,1]),(1,[4])]
abbrev g_rel_Inter_r0:GR:=(OP 0 4 (.mv (.const (.pointer none))) .done)
abbrev g_rel_Inter_r1:GR:=(O1 0 5 0 (O1 1 6 1 (OP 2 7 (.call 75 [(.tmp 5),(.tmp 6),(.const (.bool true))]) (O1 3 4 7 .done))))
abbrev g_rel_Inter:GC:=(.seq (.reg g_rel_Inter_r0 [0,1]) (.seq (.reg g_rel_Inter_r1 [4]) .ret))
abbrev rs_rel_Inter:List RV:=[(.tmp 4)]
theorem gc_rel_Inter:compileF Tryd.prog Tryd.f48 T_rel_Inter=some (g_rel_Inter,rs_rel_Inter):=by kernel_rfl
theorem con_rel_Inter (hv:vc Tryd.prog y g_rel_Inter (retQ rs_rel_Inter R) [(0,a0),(1,a1)] h):ConX y Tryd.prog 48 #[a0,a1] h R:=con_of Tryd.func48 gc_rel_Inter rfl (fun h=>absurd h (by decide)) hv
def T_rel_Star:List (Nat×List Nat):=[(0,[0]),(1,[2])]
abbrev g_rel_Star_r0:GR:=(OP 0 2 (.mv (.const (.pointer none))) .done)
abbrev g_rel_Star_r1:GR:=(O1 0 3 0 (OP 1 4 (.call 41 [(.tmp 3)]) (OP 2 5 (.call 47 [(.tmp 4)]) (O1 3 2 5 .done))))
abbrev g_rel_Star:GC:=(.seq (.reg g_rel_Star_r0 [0]) (.seq (.reg g_rel_Star_r1 [2]) .ret))
abbrev rs_rel_Star:List RV:=[(.tmp 2)]
theorem gc_rel_Star:compileF Tryd.prog Tryd.f49 T_rel_Star=some (g_rel_Star,rs_rel_Star):=by kernel_rfl
theorem con_rel_Star (hv:vc Tryd.prog y g_rel_Star (retQ rs_rel_Star R) [(0,a0)] h):ConX y Tryd.prog 49 #[a0] h R:=con_of Tryd.func49 gc_rel_Star rfl (fun h=>absurd h (by decide)) hv
def T_rel_Comp:List (Nat×List Nat):=[(0,[0,3,4]),(1,[0,3,4,5]),(2,[3,4,5,22,23,24]),(3,[3,4,5,22,23,24,25]),(4,[3,4,5,6,7,22,23,24]),(5,[3,4,5,6,22,23,24,30]),(6,[3,5,6,8]),(7,[3,5,6,8,37]),(8,[]),(9,[3,4,5,22,23,24]),(10,[4])]
abbrev g_rel_Comp_r0:GR:=(OP 0 3 (.box 48 (.tmp 1)) (OP 1 4 (.mv (.const (.pointer none))) .done))
abbrev g_rel_Comp_r1:GR:=(O1 0 9 0 (OP 1 10 (.nilCheck (.tmp 9)) (O3 2 11 0 10 (O6 3 12 11 (O6 4 13 3 (OP 5 14 (.nilCheck (.tmp 13)) (O3 6 15 0 14 (O6 7 16 15 (OP 8 17 (.maxi (.tmp 12) (.tmp 16)) (.two (.op (GI.mk 9 (some 18) none (.call 20 [(.tmp 17)]) [3,4,7] false) (OP 10 5 (.alloc 48 [(.pointer none)]) (OS 11 (.store 1 (.tmp 5) (.tmp 18)) .done))) (OP 10 5 (.alloc 48 [(.pointer none)]) (.op (GI.mk 9 (some 18) none (.call 20 [(.tmp 17)]) [3,4,7] false) (OS 11 (.store 1 (.tmp 5) (.tmp 18)) .done)))))))))))))
abbrev g_rel_Comp_r2:GR:=(O1 0 19 0 (OP 1 20 (.nilCheck (.tmp 19)) (O3 2 21 1 20 (O2 3 22 21 (OP 4 23 (.len (.tmp 22)) (OP 5 24 (.mv (.const (.int .i64 0))) .done))))))
abbrev g_rel_Comp_r3:GR:=(O5 0 25 .lss 24 23 .done)
abbrev g_rel_Comp_r4:GR:=(O1 0 26 24 (O4 1 27 1 22 24 (O2 2 28 27 (OP 3 6 (.alloc 3 [(.int .i64 0)]) (OS 4 (.store 1 (.tmp 6) (.tmp 26)) (O1 5 7 28 .done))))))
abbrev g_rel_Comp_r5:GR:=(O1 0 29 7 (OP 1 30 (.call 38 [(.tmp 29)]) .done))
abbrev g_rel_Comp_r6:GR:=(O1 0 8 31 .done)
abbrev g_rel_Comp_r7:GR:=(O1 0 32 8 (O2 1 33 3 (OP 2 34 (.nilCheck (.tmp 33)) (O3 3 35 0 34 (O2 4 36 35 (O5 5 37 .lss 32 36 .done))))))
abbrev g_rel_Comp_r8:GR:=(O6 0 38 5 (OP 1 39 (.nilCheck (.tmp 38)) (O3 2 40 1 39 (O6 3 41 40 (O6 4 42 6 (O4 5 43 1 41 42 (O6 6 44 43 (O6 7 45 3 (OP 8 46 (.nilCheck (.tmp 45)) (O3 9 47 1 46 (O6 10 48 47 (O1 11 49 8 (O4 12 50 1 48 49 (O6 13 51 50 (OP 14 52 (.buildSlice 85 1 [(.slice none 0 0)] [(0,(1,(.tmp 51)))]) (.op (GI.mk 15 (some 53) none (.call 42 [(.tmp 44),(.tmp 52)]) [0,3,4,7,10,13] false) .done))))))))))))))))
abbrev g_rel_Comp_b9:GC:=(.block 3 (.seq (.reg g_rel_Comp_r7 [3,5,6,8,37]) (.cond (.tmp 37) (.reg g_rel_Comp_r8 []) .skip)))
abbrev g_rel_Comp_r10:GR:=(OP 0 54 (.bin .add (.tmp 24) (.const (.int .i64 1))) (O1 1 24 54 .done))
abbrev g_rel_Comp_l11:GC:=(.seq (.reg g_rel_Comp_r3 [3,4,5,22,23,24,25]) (.seq (.cond (.tmp 25) .skip (.exit 0)) (.seq (.block 1 (.seq (.reg g_rel_Comp_r4 [3,4,5,6,7,22,23,24]) (.seq (.reg g_rel_Comp_r5 [3,4,5,6,22,23,24,30]) (.block 2 (.rng (.tmp 30) [31] (.reg g_rel_Comp_r6 [3,5,6,8]) g_rel_Comp_b9))))) (.reg g_rel_Comp_r10 [3,4,5,22,23,24]))))
abbrev g_rel_Comp_r12:GR:=(O2 0 55 5 (O1 1 4 55 .done))
abbrev g_rel_Comp:GC:=(.seq (.reg g_rel_Comp_r0 [0,3,4]) (.seq (.reg g_rel_Comp_r1 [0,3,4,5]) (.seq (.seq (.reg g_rel_Comp_r2 [3,4,5,22,23,24]) (.block 0 (.loop g_rel_Comp_l11))) (.seq (.reg g_rel_Comp_r12 [4]) .ret))))
abbrev rs_rel_Comp:List RV:=[(.tmp 4)]
theorem gc_rel_Comp:compileF Tryd.prog Tryd.f50 T_rel_Comp=some (g_rel_Comp,rs_rel_Comp):=by kernel_rfl
theorem con_rel_Comp (hR:∀ v h1 h2,Ext h.size h1 h2→R v h1→R v h2) (hv:vc Tryd.prog y g_rel_Comp (retQ rs_rel_Comp R) [(0,a0),(1,a1)] h):ConX y Tryd.prog 50 #[a0,a1] h R:=con_of Tryd.func50 gc_rel_Comp rfl (fun _=>hR) hv
def T_rel_Minus:List (Nat×List Nat):=[(0,[0,1]),(1,[4])]
abbrev g_rel_Minus_r0:GR:=(OP 0 4 (.mv (.const (.pointer none))) .done)
abbrev g_rel_Minus_r1:GR:=(O1 0 5 0 (O1 1 6 1 (OP 2 7 (.call 75 [(.tmp 5),(.tmp 6),(.const (.bool false))]) (O1 3 4 7 .done))))
abbrev g_rel_Minus:GC:=(.seq (.reg g_rel_Minus_r0 [0,1]) (.seq (.reg g_rel_Minus_r1 [4]) .ret))
abbrev rs_rel_Minus:List RV:=[(.tmp 4)]
theorem gc_rel_Minus:compileF Tryd.prog Tryd.f51 T_rel_Minus=some (g_rel_Minus,rs_rel_Minus):=by kernel_rfl
theorem con_rel_Minus (hv:vc Tryd.prog y g_rel_Minus (retQ rs_rel_Minus R) [(0,a0),(1,a1)] h):ConX y Tryd.prog 51 #[a0,a1] h R:=con_of Tryd.func51 gc_rel_Minus rfl (fun h=>absurd h (by decide)) hv
def T_rc11_model_coherence:List (Nat×List Nat):=[(0,[0]),(1,[0,10,11]),(2,[0,10,11,12]),(3,[0,3,10,11]),(4,[0,3,10,11,21]),(5,[2]),(6,[0,3,10,11,29,30]),(7,[0,3,10,11,29,30,31]),(8,[0,3,4,10,11,29,30]),(9,[0,3,4,10,11,29,30,50]),(10,[2]),(11,[0,3,10,11,29,30]),(12,[0,10,11]),(13,[2])]
abbrev g_rc11_model_coherence_r0:GR:=(OP 0 2 (.mv (.const (.slice none 0 0))) .done)
abbrev g_rc11_model_coherence_r1:GR:=(O1 0 5 0 (OP 1 6 (.nilCheck (.tmp 5)) (O3 2 7 0 6 (O3 3 8 1 7 (O2 4 9 8 (OP 5 10 (.len (.tmp 9)) (OP 6 11 (.mv (.const (.int .i64 0))) .done)))))))
abbrev g_rc11_model_coherence_r2:GR:=(O5 0 12 .lss 11 10 .done)
abbrev g_rc11_model_coherence_r3:GR:=(O1 0 13 11 (O1 1 3 13 .done))
abbrev g_rc11_model_coherence_r4:GR:=(O1 0 14 0 (OP 1 15 (.nilCheck (.tmp 14)) (O3 2 16 21 15 (O3 3 17 2 16 (O2 4 18 17 (O1 5 19 3 (O1 6 20 3 (OP 7 21 (.call 22 [(.tmp 18),(.tmp 19),(.tmp 20)]) .done))))))))
abbrev g_rc11_model_coherence_r5:GR:=(O1 0 22 3 (OP 1 23 (.buildSlice 3 1 [(.int .i64 0)] [(0,(1,(.tmp 22)))]) (O1 2 2 23 .done)))
abbrev g_rc11_model_coherence_r6:GR:=(O1 0 24 0 (OP 1 25 (.nilCheck (.tmp 24)) (O3 2 26 0 25 (O3 3 27 1 26 (O2 4 28 27 (OP 5 29 (.len (.tmp 28)) (OP 6 30 (.mv (.const (.int .i64 0))) .done)))))))
abbrev g_rc11_model_coherence_r7:GR:=(O5 0 31 .lss 30 29 .done)
abbrev g_rc11_model_coherence_r8:GR:=(O1 0 32 30 (O1 1 4 32 .done))
abbrev g_rc11_model_coherence_r9:GR:=(O1 0 33 0 (OP 1 34 (.nilCheck (.tmp 33)) (O3 2 35 21 34 (O3 3 36 2 35 (O2 4 37 36 (O1 5 38 3 (O1 6 39 4 (OP 7 40 (.call 22 [(.tmp 37),(.tmp 38),(.tmp 39)]) (O1 8 41 40 (OG 9 42 41 true (.mv (.tmp 0)) (OG 10 43 41 true (.nilCheck (.tmp 42)) (OG 11 44 41 true (.fieldAddr 21 (.tmp 43)) (OG 12 45 41 true (.fieldAddr 3 (.tmp 44)) (OG 13 46 41 true (.load none (.tmp 45)) (OG 14 47 41 true (.mv (.tmp 4)) (OG 15 48 41 true (.mv (.tmp 3)) (OG 16 49 41 true (.call 22 [(.tmp 46),(.tmp 47),(.tmp 48)]) (OP 17 50 (.pick (.tmp 41) (.tmp 49) (.const (.bool false))) .done))))))))))))))))))
abbrev g_rc11_model_coherence_r10:GR:=(O1 0 51 3 (O1 1 52 4 (OP 2 53 (.buildSlice 3 2 [(.int .i64 0),(.int .i64 0)] [(0,(1,(.tmp 51))),(1,(1,(.tmp 52)))]) (O1 3 2 53 .done))))
abbrev g_rc11_model_coherence_r11:GR:=(OP 0 54 (.bin .add (.tmp 30) (.const (.int .i64 1))) (O1 1 30 54 .done))
abbrev g_rc11_model_coherence_l12:GC:=(.seq (.reg g_rc11_model_coherence_r7 [0,3,10,11,29,30,31]) (.seq (.cond (.tmp 31) .skip (.exit 2)) (.seq (.block 3 (.seq (.reg g_rc11_model_coherence_r8 [0,3,4,10,11,29,30]) (.seq (.reg g_rc11_model_coherence_r9 [0,3,4,10,11,29,30,50]) (.cond (.tmp 50) (.seq (.reg g_rc11_model_coherence_r10 [2]) .ret) .skip)))) (.reg g_rc11_model_coherence_r11 [0,3,10,11,29,30]))))
abbrev g_rc11_model_coherence_r13:GR:=(OP 0 55 (.bin .add (.tmp 11) (.const (.int .i64 1))) (O1 1 11 55 .done))
abbrev g_rc11_model_coherence_l14:GC:=(.seq (.reg g_rc11_model_coherence_r2 [0,10,11,12]) (.seq (.cond (.tmp 12) .skip (.exit 0)) (.seq (.block 1 (.seq (.reg g_rc11_model_coherence_r3 [0,3,10,11]) (.seq (.seq (.reg g_rc11_model_coherence_r4 [0,3,10,11,21]) (.cond (.tmp 21) (.seq (.reg g_rc11_model_coherence_r5 [2]) .ret) .skip)) (.seq (.reg g_rc11_model_coherence_r6 [0,3,10,11,29,30]) (.block 2 (.loop g_rc11_model_coherence_l12)))))) (.reg g_rc11_model_coherence_r13 [0,10,11]))))
abbrev g_rc11_model_coherence_r15:GR:=(OP 0 2 (.mv (.const (.slice none 0 0))) .done)
abbrev g_rc11_model_coherence:GC:=(.seq (.reg g_rc11_model_coherence_r0 [0]) (.seq (.seq (.reg g_rc11_model_coherence_r1 [0,10,11]) (.block 0 (.loop g_rc11_model_coherence_l14))) (.seq (.reg g_rc11_model_coherence_r15 [2]) .ret)))
abbrev rs_rc11_model_coherence:List RV:=[(.tmp 2)]
theorem gc_rc11_model_coherence:compileF Tryd.prog Tryd.f52 T_rc11_model_coherence=some (g_rc11_model_coherence,rs_rc11_model_coherence):=by kernel_rfl
theorem con_rc11_model_coherence (hv:vc Tryd.prog y g_rc11_model_coherence (retQ rs_rc11_model_coherence R) [(0,a0)] h):ConX y Tryd.prog 52 #[a0] h R:=con_of Tryd.func52 gc_rc11_model_coherence rfl (fun h=>absurd h (by decide)) hv
def T_rc11_model_atomicity:List (Nat×List Nat):=[(0,[0]),(1,[0,3]),(2,[3,21,22,23]),(3,[3,21,22,23,24]),(4,[3,5,21,22,23]),(5,[3,5,21,22,23,32]),(6,[2]),(7,[3,21,22,23]),(8,[2])]
abbrev g_rc11_model_atomicity_r0:GR:=(OP 0 2 (.mv (.const (.slice none 0 0))) .done)
abbrev g_rc11_model_atomicity_r1:GR:=(O1 0 6 0 (OP 1 7 (.nilCheck (.tmp 6)) (O3 2 8 8 7 (O3 3 9 3 8 (O6 4 10 9 (O1 5 11 0 (OP 6 12 (.nilCheck (.tmp 11)) (O3 7 13 8 12 (O3 8 14 2 13 (O6 9 15 14 (OP 10 16 (.call 50 [(.tmp 10),(.tmp 15)]) (O1 11 3 16 .done))))))))))))
abbrev g_rc11_model_atomicity_r2:GR:=(O1 0 17 0 (OP 1 18 (.nilCheck (.tmp 17)) (O3 2 19 0 18 (O3 3 20 4 19 (O2 4 21 20 (OP 5 22 (.len (.tmp 21)) (OP 6 23 (.mv (.const (.int .i64 0))) .done)))))))
abbrev g_rc11_model_atomicity_r3:GR:=(O5 0 24 .lss 23 22 .done)
abbrev g_rc11_model_atomicity_r4:GR:=(O4 0 25 2 21 23 (OP 1 26 (.load (some 2) (.tmp 25)) (OP 2 5 (.alloc 34 [(.int .i64 0),(.int .i64 0)]) (OS 3 (.store 2 (.tmp 5) (.tmp 26)) .done))))
abbrev g_rc11_model_atomicity_r5:GR:=(O1 0 27 3 (O3 1 28 0 5 (O2 2 29 28 (O3 3 30 1 5 (O2 4 31 30 (OP 5 32 (.call 22 [(.tmp 27),(.tmp 29),(.tmp 31)]) .done))))))
abbrev g_rc11_model_atomicity_r6:GR:=(O3 0 33 0 5 (O2 1 34 33 (O3 2 35 1 5 (O2 3 36 35 (OP 4 37 (.buildSlice 3 2 [(.int .i64 0),(.int .i64 0)] [(0,(1,(.tmp 34))),(1,(1,(.tmp 36)))]) (O1 5 2 37 .done))))))
abbrev g_rc11_model_atomicity_r7:GR:=(OP 0 38 (.bin .add (.tmp 23) (.const (.int .i64 1))) (O1 1 23 38 .done))
abbrev g_rc11_model_atomicity_l8:GC:=(.seq (.reg g_rc11_model_atomicity_r3 [3,21,22,23,24]) (.seq (.cond (.tmp 24) .skip (.exit 0)) (.seq (.block 1 (.seq (.reg g_rc11_model_atomicity_r4 [3,5,21,22,23]) (.seq (.reg g_rc11_model_atomicity_r5 [3,5,21,22,23,32]) (.cond (.tmp 32) (.seq (.reg g_rc11_model_atomicity_r6 [2]) .ret) .skip)))) (.reg g_rc11_model_atomicity_r7 [3,21,22,23]))))
abbrev g_rc11_model_atomicity_r9:GR:=(OP 0 2 (.mv (.const (.slice none 0 0))) .done)
abbrev g_rc11_model_atomicity:GC:=(.seq (.reg g_rc11_model_atomicity_r0 [0]) (.seq (.reg g_rc11_model_atomicity_r1 [0,3]) (.seq (.seq (.reg g_rc11_model_atomicity_r2 [3,21,22,23]) (.block 0 (.loop g_rc11_model_atomicity_l8))) (.seq (.reg g_rc11_model_atomicity_r9 [2]) .ret))))
abbrev rs_rc11_model_atomicity:List RV:=[(.tmp 2)]
theorem gc_rc11_model_atomicity:compileF Tryd.prog Tryd.f53 T_rc11_model_atomicity=some (g_rc11_model_atomicity,rs_rc11_model_atomicity):=by kernel_rfl
theorem con_rc11_model_atomicity (hv:vc Tryd.prog y g_rc11_model_atomicity (retQ rs_rc11_model_atomicity R) [(0,a0)] h):ConX y Tryd.prog 53 #[a0] h R:=con_of Tryd.func53 gc_rc11_model_atomicity rfl (fun h=>absurd h (by decide)) hv
def T_rc11_axioms_1:List (Nat×List Nat):=[(0,[0]),(1,[2])]
abbrev g_rc11_axioms_1_r0:GR:=(OP 0 2 (.mv (.const (.slice none 0 0))) .done)
abbrev g_rc11_axioms_1_r1:GR:=(O1 0 3 0 (OP 1 4 (.nilCheck (.tmp 3)) (O3 2 5 21 4 (O3 3 6 5 5 (O6 4 7 6 (O1 5 8 0 (OP 6 9 (.nilCheck (.tmp 8)) (O3 7 10 21 9 (O3 8 11 6 10 (O6 9 12 11 (OP 10 13 (.buildSlice 48 2 [(.pointer none),(.pointer none)] [(0,(1,(.tmp 7))),(1,(1,(.tmp 12)))]) (.op (GI.mk 11 (some 14) none (.call 24 [(.tmp 13)]) [4,9] false) (.op (GI.mk 12 (some 15) none (.call 55 [(.tmp 14)]) [4,9] false) (O1 13 2 15 .done))))))))))))))
abbrev g_rc11_axioms_1:GC:=(.seq (.reg g_rc11_axioms_1_r0 [0]) (.seq (.reg g_rc11_axioms_1_r1 [2]) .ret))
abbrev rs_rc11_axioms_1:List RV:=[(.tmp 2)]
theorem gc_rc11_axioms_1:compileF Tryd.prog Tryd.f54 T_rc11_axioms_1=some (g_rc11_axioms_1,rs_rc11_axioms_1):=by kernel_rfl
theorem con_rc11_axioms_1 (hv:vc Tryd.prog y g_rc11_axioms_1 (retQ rs_rc11_axioms_1 R) [(0,a0)] h):ConX y Tryd.prog 54 #[a0] h R:=con_of Tryd.func54 gc_rc11_axioms_1 rfl (fun h=>absurd h (by decide)) hv
def T_rel_Cycle:List (Nat×List Nat):=[(0,[0]),(1,[0,3]),(2,[0,3,10,11]),(3,[0,3,10,11,12]),(4,[0,3,4,10,11]),(5,[0,3,4,10,11,22]),(6,[2]),(7,[0,3,10,11]),(8,[2])]
abbrev g_rel_Cycle_r0:GR:=(OP 0 2 (.mv (.const (.slice none 0 0))) .done)
abbrev g_rel_Cycle_r1:GR:=(O1 0 5 0 (OP 1 6 (.call 41 [(.tmp 5)]) (O1 2 3 6 .done)))
abbrev g_rel_Cycle_r2:GR:=(O1 0 7 0 (OP 1 8 (.nilCheck (.tmp 7)) (O3 2 9 0 8 (O2 3 10 9 (OP 4 11 (.mv (.const (.int .i64 0))) .done)))))
abbrev g_rel_Cycle_r3:GR:=(O5 0 12 .lss 11 10 .done)
abbrev g_rel_Cycle_r4:GR:=(O1 0 13 11 (O1 1 4 13 .done))
abbrev g_rel_Cycle_r5:GR:=(O1 0 14 3 (OP 1 15 (.nilCheck (.tmp 14)) (O3 2 16 1 15 (O2 3 17 16 (O1 4 18 4 (O4 5 19 1 17 18 (O2 6 20 19 (O1 7 21 4 (OP 8 22 (.call 40 [(.tmp 20),(.tmp 21)]) .done)))))))))
abbrev g_rel_Cycle_r6:GR:=(O1 0 23 0 (O1 1 24 4 (OP 2 25 (.call 76 [(.tmp 23),(.tmp 24)]) (O1 3 2 25 .done))))
abbrev g_rel_Cycle_r7:GR:=(OP 0 26 (.bin .add (.tmp 11) (.const (.int .i64 1))) (O1 1 11 26 .done))
abbrev g_rel_Cycle_l8:GC:=(.seq (.reg g_rel_Cycle_r3 [0,3,10,11,12]) (.seq (.cond (.tmp 12) .skip (.exit 0)) (.seq (.block 1 (.seq (.reg g_rel_Cycle_r4 [0,3,4,10,11]) (.seq (.reg g_rel_Cycle_r5 [0,3,4,10,11,22]) (.cond (.tmp 22) (.seq (.reg g_rel_Cycle_r6 [2]) .ret) .skip)))) (.reg g_rel_Cycle_r7 [0,3,10,11]))))
abbrev g_rel_Cycle_r9:GR:=(OP 0 2 (.mv (.const (.slice none 0 0))) .done)
abbrev g_rel_Cycle:GC:=(.seq (.reg g_rel_Cycle_r0 [0]) (.seq (.reg g_rel_Cycle_r1 [0,3]) (.seq (.seq (.reg g_rel_Cycle_r2 [0,3,10,11]) (.block 0 (.loop g_rel_Cycle_l8))) (.seq (.reg g_rel_Cycle_r9 [2]) .ret))))
abbrev rs_rel_Cycle:List RV:=[(.tmp 2)]
theorem gc_rel_Cycle:compileF Tryd.prog Tryd.f55 T_rel_Cycle=some (g_rel_Cycle,rs_rel_Cycle):=by kernel_rfl
theorem con_rel_Cycle (hv:vc Tryd.prog y g_rel_Cycle (retQ rs_rel_Cycle R) [(0,a0)] h):ConX y Tryd.prog 55 #[a0] h R:=con_of Tryd.func55 gc_rel_Cycle rfl (fun h=>absurd h (by decide)) hv
def T_rc11_axioms_2:List (Nat×List Nat):=[(0,[0]),(1,[2])]
abbrev g_rc11_axioms_2_r0:GR:=(OP 0 2 (.mv (.const (.slice none 0 0))) .done)
abbrev g_rc11_axioms_2_r1:GR:=(O1 0 3 0 (OP 1 4 (.nilCheck (.tmp 3)) (O3 2 5 8 4 (O3 3 6 0 5 (O6 4 7 6 (O1 5 8 0 (OP 6 9 (.nilCheck (.tmp 8)) (O3 7 10 8 9 (O3 8 11 1 10 (O6 9 12 11 (OP 10 13 (.buildSlice 48 2 [(.pointer none),(.pointer none)] [(0,(1,(.tmp 7))),(1,(1,(.tmp 12)))]) (.op (GI.mk 11 (some 14) none (.call 24 [(.tmp 13)]) [4,9] false) (.op (GI.mk 12 (some 15) none (.call 55 [(.tmp 14)]) [4,9] false) (O1 13 2 15 .done))))))))))))))
abbrev g_rc11_axioms_2:GC:=(.seq (.reg g_rc11_axioms_2_r0 [0]) (.seq (.reg g_rc11_axioms_2_r1 [2]) .ret))
abbrev rs_rc11_axioms_2:List RV:=[(.tmp 2)]
theorem gc_rc11_axioms_2:compileF Tryd.prog Tryd.f56 T_rc11_axioms_2=some (g_rc11_axioms_2,rs_rc11_axioms_2):=by kernel_rfl
theorem con_rc11_axioms_2 (hv:vc Tryd.prog y g_rc11_axioms_2 (retQ rs_rc11_axioms_2 R) [(0,a0)] h):ConX y Tryd.prog 56 #[a0] h R:=con_of Tryd.func56 gc_rc11_axioms_2 rfl (fun h=>absurd h (by decide)) hv
def T_rel_row_points_1:List (Nat×List Nat):=[(0,[0,5,6,7]),(1,[0,5,6,7,8]),(2,[0,3,4,5,6,7]),(3,[0,3,4,5,6,7,13]),(4,[0,3,4,5,6,7]),(5,[0,3,4,5,6,7,25]),(6,[0,5,6,7])]
abbrev g_rel_row_points_1_r0:GR:=(O2 0 5 1 (OP 1 6 (.len (.tmp 5)) (OP 2 7 (.mv (.const (.int .i64 0))) .done)))
abbrev g_rel_row_points_1_r1:GR:=(O5 0 8 .lss 7 6 .done)
abbrev g_rel_row_points_1_r2:GR:=(O1 0 9 7 (O4 1 10 1 5 7 (O2 2 11 10 (O1 3 3 9 (O1 4 4 11 .done)))))
abbrev g_rel_row_points_1_r3:GR:=(O1 0 12 4 (OP 1 13 (.bin .neq (.tmp 12) (.const (.int .u64 0))) .done))
abbrev g_rel_row_points_1_r4:GR:=(O1 0 18 0 (O1 1 19 3 (OP 2 20 (.bin .mul (.const (.int .i64 64)) (.tmp 19)) (O1 3 21 4 (OP 4 22 (.call 62 [(.tmp 21)]) (O5 5 23 .add 20 22 (OP 6 24 (.callv (.tmp 18) [(.tmp 23)]) (OP 7 25 (.not (.tmp 24)) .done))))))))
abbrev g_rel_row_points_1_r5:GR:=(O1 0 14 4 (O1 1 15 4 (OP 2 16 (.bin .sub (.tmp 15) (.const (.int .u64 1))) (O5 3 17 .and 14 16 (O1 4 4 17 .done)))))
abbrev g_rel_row_points_1_l6:GC:=(.seq (.seq (.reg g_rel_row_points_1_r3 [0,3,4,5,6,7,13]) (.cond (.tmp 13) .skip (.exit 2))) (.seq (.block 3 (.seq (.reg g_rel_row_points_1_r4 [0,3,4,5,6,7,25]) (.cond (.tmp 25) .ret .skip))) (.reg g_rel_row_points_1_r5 [0,3,4,5,6,7])))
abbrev g_rel_row_points_1_r7:GR:=(OP 0 26 (.bin .add (.tmp 7) (.const (.int .i64 1))) (O1 1 7 26 .done))
abbrev g_rel_row_points_1_l8:GC:=(.seq (.reg g_rel_row_points_1_r1 [0,5,6,7,8]) (.seq (.cond (.tmp 8) .skip (.exit 0)) (.seq (.block 1 (.seq (.reg g_rel_row_points_1_r2 [0,3,4,5,6,7]) (.block 2 (.loop g_rel_row_points_1_l6)))) (.reg g_rel_row_points_1_r7 [0,5,6,7]))))
abbrev g_rel_row_points_1:GC:=(.seq (.reg g_rel_row_points_1_r0 [0,5,6,7]) (.block 0 (.loop g_rel_row_points_1_l8)))
abbrev rs_rel_row_points_1:List RV:=[]
theorem gc_rel_row_points_1:compileF Tryd.prog Tryd.f61 T_rel_row_points_1=some (g_rel_row_points_1,rs_rel_row_points_1):=by kernel_rfl
theorem con_rel_row_points_1 (hv:vc Tryd.prog y g_rel_row_points_1 (retQ rs_rel_row_points_1 R) [(0,a0),(1,a1)] h):ConX y Tryd.prog 61 #[a0,a1] h R:=con_of Tryd.func61 gc_rel_row_points_1 rfl (fun h=>absurd h (by decide)) hv
def T_math_bits_TrailingZeros64:List (Nat×List Nat):=[(0,[0]),(1,[0,4]),(2,[2]),(3,[2])]
abbrev g_math_bits_TrailingZeros64_r0:GR:=(OP 0 2 (.mv (.const (.int .i64 0))) .done)
abbrev g_math_bits_TrailingZeros64_r1:GR:=(O1 0 3 0 (OP 1 4 (.bin .eql (.tmp 3) (.const (.int .u64 0))) .done))
abbrev g_math_bits_TrailingZeros64_r2:GR:=(OP 0 2 (.mv (.const (.int .i64 64))) .done)
abbrev g_math_bits_TrailingZeros64_r3:GR:=(O1 0 5 0 (O1 1 6 0 (OP 2 7 (.neg (.tmp 6)) (O5 3 8 .and 5 7 (OP 4 9 (.bin .mul (.tmp 8) (.const (.int .u64 285870213051353865))) (OP 5 10 (.shift .shr (.tmp 9) (.const (.int .u64 58))) (OP 6 11 (.indexArr 1 64 (.global 0) (.tmp 10)) (O2 7 12 11 (OP 8 13 (.conv .i64 (.tmp 12)) (O1 9 2 13 .done))))))))))
abbrev g_math_bits_TrailingZeros64:GC:=(.seq (.reg g_math_bits_TrailingZeros64_r0 [0]) (.seq (.seq (.reg g_math_bits_TrailingZeros64_r1 [0,4]) (.cond (.tmp 4) (.seq (.reg g_math_bits_TrailingZeros64_r2 [2]) .ret) .skip)) (.seq (.reg g_math_bits_TrailingZeros64_r3 [2]) .ret)))
abbrev rs_math_bits_TrailingZeros64:List RV:=[(.tmp 2)]
theorem gc_math_bits_TrailingZeros64:compileF Tryd.prog Tryd.f62 T_math_bits_TrailingZeros64=some (g_math_bits_TrailingZeros64,rs_math_bits_TrailingZeros64):=by kernel_rfl
theorem con_math_bits_TrailingZeros64 (hv:vc Tryd.prog y g_math_bits_TrailingZeros64 (retQ rs_math_bits_TrailingZeros64 R) [(0,a0)] h):ConX y Tryd.prog 62 #[a0] h R:=con_of Tryd.func62 gc_math_bits_TrailingZeros64 rfl (fun h=>absurd h (by decide)) hv
def T_rel_Rel_Copy:List (Nat×List Nat):=[(0,[0]),(1,[2])]
abbrev g_rel_Rel_Copy_r0:GR:=(OP 0 2 (.mv (.const (.pointer none))) .done)
abbrev g_rel_Rel_Copy_r1:GR:=(O1 0 3 0 (OP 1 4 (.call 77 [(.tmp 3),(.const (.int .i64 0))]) (O1 2 2 4 .done)))
abbrev g_rel_Rel_Copy:GC:=(.seq (.reg g_rel_Rel_Copy_r0 [0]) (.seq (.reg g_rel_Rel_Copy_r1 [2]) .ret))
abbrev rs_rel_Rel_Copy:List RV:=[(.tmp 2)]
theorem gc_rel_Rel_Copy:compileF Tryd.prog Tryd.f63 T_rel_Rel_Copy=some (g_rel_Rel_Copy,rs_rel_Rel_Copy):=by kernel_rfl
theorem con_rel_Rel_Copy (hv:vc Tryd.prog y g_rel_Rel_Copy (retQ rs_rel_Rel_Copy R) [(0,a0)] h):ConX y Tryd.prog 63 #[a0] h R:=con_of Tryd.func63 gc_rel_Rel_Copy rfl (fun h=>absurd h (by decide)) hv
def T_slices_Backward:List (Nat×List Nat):=[(0,[1]),(1,[2])]
abbrev g_slices_Backward_r0:GR:=(OP 0 1 (.box 23 (.tmp 0)) (OP 1 2 (.mv (.const Value.nilFunc)) .done))
abbrev g_slices_Backward_r1:GR:=(OP 0 3 (.makeFunc (Fn.func 78) [] [(.tmp 1)]) (O1 1 2 3 .done))
abbrev g_slices_Backward:GC:=(.seq (.reg g_slices_Backward_r0 [1]) (.seq (.reg g_slices_Backward_r1 [2]) .ret))
abbrev rs_slices_Backward:List RV:=[(.tmp 2)]
theorem gc_slices_Backward:compileF Tryd.prog Tryd.f64 T_slices_Backward=some (g_slices_Backward,rs_slices_Backward):=by kernel_rfl
theorem con_slices_Backward (hv:vc Tryd.prog y g_slices_Backward (retQ rs_slices_Backward R) [(0,a0)] h):ConX y Tryd.prog 64 #[a0] h R:=con_of Tryd.func64 gc_slices_Backward rfl (fun h=>absurd h (by decide)) hv
def T_graph_look_events:List (Nat×List Nat):=[(0,[0]),(1,[0,3]),(2,[0,3,18]),(3,[0,3]),(4,[0,3,4]),(5,[0,3,4,5]),(6,[0,3,4,5,51]),(7,[0,3,5]),(8,[0,3,5]),(9,[0,3,80]),(10,[2]),(11,[2])]
abbrev g_graph_look_events_r0:GR:=(OP 0 2 (.mv (.const (.int .i64 0))) .done)
abbrev g_graph_look_events_r1:GR:=(O1 0 6 0 (OP 1 7 (.nilCheck (.tmp 6)) (O3 2 8 0 7 (O3 3 9 0 8 (O2 4 10 9 (O1 5 3 10 .done))))))
abbrev g_graph_look_events_r2:GR:=(O1 0 11 3 (O1 1 12 0 (OP 2 13 (.nilCheck (.tmp 12)) (O3 3 14 0 13 (O3 4 15 1 14 (O2 5 16 15 (OP 6 17 (.len (.tmp 16)) (O5 7 18 .lss 11 17 .done))))))))
abbrev g_graph_look_events_r3:GR:=(O1 0 21 0 (OP 1 22 (.nilCheck (.tmp 21)) (O3 2 23 0 22 (O3 3 24 1 23 (O2 4 25 24 (O1 5 26 3 (O4 6 27 5 25 26 (OP 7 28 (.load (some 5) (.tmp 27)) (OP 8 4 (.alloc 31 [(.int .i64 0),(.int .i64 0),(.int .i64 0),(.int .u64 0),(.int .i64 0)]) (OS 9 (.store 5 (.tmp 4) (.tmp 28)) .done))))))))))
abbrev g_graph_look_events_r4:GR:=(O3 0 29 0 4 (O6 1 30 29 (OP 2 31 (.bin .geq (.tmp 30) (.const (.int .i64 0))) (O1 3 32 31 (OG 4 33 32 true (.fieldAddr 0 (.tmp 4)) (.op (GI.mk 5 (some 34) (some (32,true)) (.load none (.tmp 33)) [] true) (OG 6 35 32 true (.bin .lss (.tmp 34) (.const (.int .i64 64))) (OP 7 36 (.pick (.tmp 32) (.tmp 35) (.const (.bool false))) (O1 8 37 36 (OG 9 38 37 true (.fieldAddr 1 (.tmp 4)) (.op (GI.mk 10 (some 39) (some (37,true)) (.load none (.tmp 38)) [] true) (OG 11 40 37 true (.mv (.tmp 0)) (OG 12 41 37 true (.nilCheck (.tmp 40)) (OG 13 42 37 true (.fieldAddr 8 (.tmp 41)) (.op (GI.mk 14 (some 43) (some (37,true)) (.load none (.tmp 42)) [] true) (OG 16 45 37 true (.fieldAddr 4 (.tmp 4)) (.op (GI.mk 17 (some 46) (some (37,true)) (.load none (.tmp 45)) [] true) (.op (GI.mk 15 (some 44) (some (37,true)) (.call 80 [(.tmp 39),(.tmp 43)]) [1,5,17] false) (.op (GI.mk 18 (some 47) (some (37,true)) (.call 79 [(.tmp 44),(.tmp 46)]) [1,5,10,14] false) (OP 19 48 (.pick (.tmp 37) (.tmp 47) (.const (.bool false))) (O1 20 5 48 .done)))))))))))))))))))))
abbrev g_graph_look_events_r5:GR:=(O3 0 49 1 4 (O2 1 50 49 (OP 2 51 (.bin .eql (.tmp 50) (.const (.int .i64 3))) .done)))
abbrev g_graph_look_events_r6:GR:=(O1 0 52 5 (O1 1 53 52 (OG 2 54 53 true (.fieldAddr 2 (.tmp 4)) (OG 3 55 53 true (.load none (.tmp 54)) (OG 4 56 53 true (.bin .eql (.tmp 55) (.const (.int .i64 (-1)))) (OP 5 57 (.pick (.tmp 53) (.tmp 56) (.const (.bool false))) (O1 6 58 57 (OG 7 59 58 true (.fieldAddr 3 (.tmp 4)) (OG 8 60 58 true (.load none (.tmp 59)) (OG 9 61 58 true (.bin .eql (.tmp 60) (.const (.int .u64 0))) (OP 10 62 (.pick (.tmp 58) (.tmp 61) (.const (.bool false))) (O1 11 5 62 .done))))))))))))
abbrev g_graph_look_events_r7:GR:=(O1 0 63 5 (O1 1 64 63 (OG 2 65 64 true (.fieldAddr 2 (.tmp 4)) (.op (GI.mk 3 (some 66) (some (64,true)) (.load none (.tmp 65)) [] true) (OG 4 67 64 true (.bin .geq (.tmp 66) (.const (.int .i64 0))) (OP 5 68 (.pick (.tmp 64) (.tmp 67) (.const (.bool false))) (O1 6 69 68 (OG 7 70 69 true (.fieldAddr 2 (.tmp 4)) (.op (GI.mk 8 (some 71) (some (69,true)) (.load none (.tmp 70)) [] true) (OG 9 72 69 true (.mv (.tmp 0)) (OG 10 73 69 true (.nilCheck (.tmp 72)) (OG 11 74 69 true (.fieldAddr 0 (.tmp 73)) (OG 12 75 69 true (.fieldAddr 0 (.tmp 74)) (.op (GI.mk 13 (some 76) (some (69,true)) (.load none (.tmp 75)) [] true) (OG 14 77 69 true (.bin .lss (.tmp 71) (.tmp 76)) (OP 15 78 (.pick (.tmp 69) (.tmp 77) (.const (.bool false))) (O1 16 5 78 .done)))))))))))))))))
abbrev g_graph_look_events_r8:GR:=(O1 0 79 5 (OP 1 80 (.not (.tmp 79)) .done))
abbrev g_graph_look_events_r9:GR:=(O1 0 81 3 (O1 1 2 81 .done))
abbrev g_graph_look_events_r10:GR:=(O1 0 19 3 (OP 1 20 (.bin .add (.tmp 19) (.const (.int .i64 1))) (O1 2 3 20 .done)))
abbrev g_graph_look_events_l11:GC:=(.seq (.seq (.reg g_graph_look_events_r2 [0,3,18]) (.cond (.tmp 18) .skip (.exit 0))) (.seq (.block 1 (.seq (.reg g_graph_look_events_r3 [0,3,4]) (.seq (.reg g_graph_look_events_r4 [0,3,4,5]) (.seq (.seq (.reg g_graph_look_events_r5 [0,3,4,5,51]) (.cond (.tmp 51) (.reg g_graph_look_events_r6 [0,3,5]) (.reg g_graph_look_events_r7 [0,3,5]))) (.seq (.reg g_graph_look_events_r8 [0,3,80]) (.cond (.tmp 80) (.seq (.reg g_graph_look_events_r9 [2]) .ret) .skip)))))) (.reg g_graph_look_events_r10 [0,3])))
abbrev g_graph_look_events_r12:GR:=(OP 0 2 (.mv (.const (.int .i64 (-1)))) .done)
abbrev g_graph_look_events:GC:=(.seq (.reg g_graph_look_events_r0 [0]) (.seq (.seq (.reg g_graph_look_events_r1 [0,3]) (.block 0 (.loop g_graph_look_events_l11))) (.seq (.reg g_graph_look_events_r12 [2]) .ret)))
abbrev rs_graph_look_events:List RV:=[(.tmp 2)]
theorem gc_graph_look_events:compileF Tryd.prog Tryd.f65 T_graph_look_events=some (g_graph_look_events,rs_graph_look_events):=by kernel_rfl
theorem con_graph_look_events (hv:vc Tryd.prog y g_graph_look_events (retQ rs_graph_look_events R) [(0,a0)] h):ConX y Tryd.prog 65 #[a0] h R:=con_of Tryd.func65 gc_graph_look_events rfl (fun h=>absurd h (by decide)) hv
def T_graph_look_rf:List (Nat×List Nat):=[(0,[0]),(1,[0,3]),(2,[0,3,11,12,13]),(3,[0,3,11,12,13,14]),(4,[0,3,4,5,11,12,13]),(5,[0,3,4,5,11,12,13,20]),(6,[0,3,5,11,12,13,55]),(7,[2]),(8,[0,3,5,6,11,12,13]),(9,[0,3,11,12,13,84]),(10,[2]),(11,[0,3,11,12,13]),(12,[0,3,11,12,13]),(13,[3,96]),(14,[2]),(15,[2])]
abbrev g_graph_look_rf_r0:GR:=(OP 0 2 (.mv (.const (.int .i64 0))) .done)
abbrev g_graph_look_rf_r1:GR:=(OP 0 3 (.mv (.const (.int .i64 0))) .done)
abbrev g_graph_look_rf_r2:GR:=(O1 0 7 0 (OP 1 8 (.nilCheck (.tmp 7)) (O3 2 9 0 8 (O3 3 10 1 9 (O2 4 11 10 (OP 5 12 (.len (.tmp 11)) (OP 6 13 (.mv (.const (.int .i64 0))) .done)))))))
abbrev g_graph_look_rf_r3:GR:=(O5 0 14 .lss 13 12 .done)
abbrev g_graph_look_rf_r4:GR:=(O1 0 15 13 (O4 1 16 5 11 13 (OP 2 17 (.load (some 5) (.tmp 16)) (OP 3 5 (.alloc 31 [(.int .i64 0),(.int .i64 0),(.int .i64 0),(.int .u64 0),(.int .i64 0)]) (O1 4 4 15 (OS 5 (.store 5 (.tmp 5) (.tmp 17)) .done))))))
abbrev g_graph_look_rf_r5:GR:=(O3 0 18 1 5 (O2 1 19 18 (OP 2 20 (.bin .neq (.tmp 19) (.const (.int .i64 1))) .done)))
abbrev g_graph_look_rf_r6:GR:=(O1 0 21 3 (O1 1 22 0 (OP 2 23 (.nilCheck (.tmp 22)) (O3 3 24 0 23 (O3 4 25 2 24 (O2 5 26 25 (OP 6 27 (.len (.tmp 26)) (O5 7 28 .eql 21 27 (O1 8 29 28 (OG 9 30 29 false (.mv (.tmp 0)) (OG 10 31 29 false (.nilCheck (.tmp 30)) (OG 11 32 29 false (.fieldAddr 0 (.tmp 31)) (OG 12 33 29 false (.fieldAddr 2 (.tmp 32)) (OG 13 34 29 false (.load none (.tmp 33)) (OG 14 35 29 false (.mv (.tmp 3)) (OG 15 36 29 false (.indexAddr 2 (.tmp 34) (.tmp 35)) (OG 16 37 29 false (.fieldAddr 1 (.tmp 36)) (OG 17 38 29 false (.load none (.tmp 37)) (OG 18 39 29 false (.mv (.tmp 4)) (OG 19 40 29 false (.bin .neq (.tmp 38) (.tmp 39)) (OP 20 41 (.pick (.tmp 29) (.const (.bool true)) (.tmp 40)) (O1 21 42 41 (OG 22 43 42 false (.mv (.tmp 0)) (OG 23 44 42 false (.mv (.tmp 0)) (OG 24 45 42 false (.nilCheck (.tmp 44)) (OG 25 46 42 false (.fieldAddr 0 (.tmp 45)) (OG 26 47 42 false (.fieldAddr 2 (.tmp 46)) (OG 27 48 42 false (.load none (.tmp 47)) (OG 28 49 42 false (.mv (.tmp 3)) (OG 29 50 42 false (.indexAddr 2 (.tmp 48) (.tmp 49)) (OG 30 51 42 false (.fieldAddr 0 (.tmp 50)) (OG 31 52 42 false (.load none (.tmp 51)) (OG 32 53 42 false (.call 81 [(.tmp 43),(.tmp 52),(.const (.int .i64 2))]) (OG 33 54 42 false (.not (.tmp 53)) (OP 34 55 (.pick (.tmp 42) (.const (.bool true)) (.tmp 54)) .done)))))))))))))))))))))))))))))))))))
abbrev g_graph_look_rf_r7:GR:=(O1 0 56 3 (O1 1 2 56 .done))
abbrev g_graph_look_rf_r8:GR:=(O1 0 57 0 (OP 1 58 (.nilCheck (.tmp 57)) (O3 2 59 0 58 (O3 3 60 1 59 (O6 4 61 60 (O1 5 62 0 (OP 6 63 (.nilCheck (.tmp 62)) (O3 7 64 0 63 (O3 8 65 2 64 (O6 9 66 65 (O1 10 67 3 (O4 11 68 2 66 67 (O3 12 69 0 68 (O6 13 70 69 (O4 14 71 5 61 70 (OW 15 72 (.load (some 5) (.tmp 71)) (OP 16 6 (.alloc 31 [(.int .i64 0),(.int .i64 0),(.int .i64 0),(.int .u64 0),(.int .i64 0)]) (OS 17 (.store 5 (.tmp 6) (.tmp 72)) .done))))))))))))))))))
abbrev g_graph_look_rf_r9:GR:=(O3 0 73 2 6 (O2 1 74 73 (O3 2 75 2 5 (O2 3 76 75 (O5 4 77 .neq 74 76 (O1 5 78 77 (OG 6 79 78 false (.fieldAddr 3 (.tmp 6)) (OG 7 80 78 false (.load none (.tmp 79)) (OG 8 81 78 false (.fieldAddr 3 (.tmp 5)) (OG 9 82 78 false (.load none (.tmp 81)) (OG 10 83 78 false (.bin .neq (.tmp 80) (.tmp 82)) (OP 11 84 (.pick (.tmp 78) (.const (.bool true)) (.tmp 83)) .done))))))))))))
abbrev g_graph_look_rf_r10:GR:=(O1 0 85 3 (O1 1 2 85 .done))
abbrev g_graph_look_rf_r11:GR:=(O1 0 86 3 (OP 1 87 (.bin .add (.tmp 86) (.const (.int .i64 1))) (O1 2 3 87 .done)))
abbrev g_graph_look_rf_r12:GR:=(OP 0 88 (.bin .add (.tmp 13) (.const (.int .i64 1))) (O1 1 13 88 .done))
abbrev g_graph_look_rf_l13:GC:=(.seq (.reg g_graph_look_rf_r3 [0,3,11,12,13,14]) (.seq (.cond (.tmp 14) .skip (.exit 0)) (.seq (.block 1 (.seq (.reg g_graph_look_rf_r4 [0,3,4,5,11,12,13]) (.seq (.seq (.reg g_graph_look_rf_r5 [0,3,4,5,11,12,13,20]) (.cond (.tmp 20) (.exit 1) .skip)) (.seq (.seq (.reg g_graph_look_rf_r6 [0,3,5,11,12,13,55]) (.cond (.tmp 55) (.seq (.reg g_graph_look_rf_r7 [2]) .ret) .skip)) (.seq (.seq (.reg g_graph_look_rf_r8 [0,3,5,6,11,12,13]) (.seq (.reg g_graph_look_rf_r9 [0,3,11,12,13,84]) (.cond (.tmp 84) (.seq (.reg g_graph_look_rf_r10 [2]) .ret) .skip))) (.reg g_graph_look_rf_r11 [0,3,11,12,13])))))) (.reg g_graph_look_rf_r12 [0,3,11,12,13]))))
abbrev g_graph_look_rf_r14:GR:=(O1 0 89 3 (O1 1 90 0 (OP 2 91 (.nilCheck (.tmp 90)) (O3 3 92 0 91 (O3 4 93 2 92 (O2 5 94 93 (OP 6 95 (.len (.tmp 94)) (O5 7 96 .lss 89 95 .done))))))))
abbrev g_graph_look_rf_r15:GR:=(O1 0 97 3 (O1 1 2 97 .done))
abbrev g_graph_look_rf_r16:GR:=(OP 0 2 (.mv (.const (.int .i64 (-1)))) .done)
abbrev g_graph_look_rf:GC:=(.seq (.reg g_graph_look_rf_r0 [0]) (.seq (.reg g_graph_look_rf_r1 [0,3]) (.seq (.seq (.reg g_graph_look_rf_r2 [0,3,11,12,13]) (.block 0 (.loop g_graph_look_rf_l13))) (.seq (.seq (.reg g_graph_look_rf_r14 [3,96]) (.cond (.tmp 96) (.seq (.reg g_graph_look_rf_r15 [2]) .ret) .skip)) (.seq (.reg g_graph_look_rf_r16 [2]) .ret)))))
abbrev rs_graph_look_rf:List RV:=[(.tmp 2)]
theorem gc_graph_look_rf:compileF Tryd.prog Tryd.f66 T_graph_look_rf=some (g_graph_look_rf,rs_graph_look_rf):=by kernel_rfl
theorem con_graph_look_rf (hv:vc Tryd.prog y g_graph_look_rf (retQ rs_graph_look_rf R) [(0,a0)] h):ConX y Tryd.prog 66 #[a0] h R:=con_of Tryd.func66 gc_graph_look_rf rfl (fun h=>absurd h (by decide)) hv
def T_graph_look_co:List (Nat×List Nat):=[(0,[0]),(1,[0,3]),(2,[0,3,21,22,23]),(3,[0,3,21,22,23,24]),(4,[0,3,5,21,22,23]),(5,[0,3,5,21,22,23,29]),(6,[0,3,21,22,23]),(7,[0,3,21,22,23]),(8,[0,3,6]),(9,[0,3,6,7]),(10,[0,3,6,7,8]),(11,[0,3,6,7,8,62,63,64]),(12,[0,3,6,7,8,62,63,64,65]),(13,[0,3,6,7,8,9,10,62,63,64]),(14,[0,3,6,7,8,9,10,11,62,63,64]),(15,[0,3,6,7,8,9,11,62,63,64,79,80,81]),(16,[0,3,6,7,8,9,11,62,63,64,79,80,81,82]),(17,[0,3,6,7,8,9,11,13,62,63,64,79,80,81]),(18,[0,3,6,7,8,9,11,13,62,63,64,79,80,81]),(19,[0,3,6,7,8,9,11,13,62,63,64,79,80,81,111]),(20,[0,3,6,7,8,9,11,62,63,64,79,80,81]),(21,[0,3,6,7,8,9,11,62,63,64,79,80,81]),(22,[0,3,6,7,8,9,11,62,63,64,79,80,81]),(23,[0,3,6,7,8,9,62,63,64,121]),(24,[0,3,6,7,8,62,63,64]),(25,[0,3,6,7,8,62,63,64]),(26,[0,7,8,127]),(27,[0,7,8,127,129]),(28,[0,7,8,14,15,127]),(29,[0,7,8,14,127,134]),(30,[0,7,8,127]),(31,[8,154]),(32,[2]),(33,[2])]
abbrev g_graph_look_co_r0:GR:=(OP 0 2 (.mv (.const (.int .i64 0))) .done)
abbrev g_graph_look_co_r1:GR:=(OP 0 16 .makeMap (O1 1 3 16 .done))
abbrev g_graph_look_co_r2:GR:=(O1 0 17 0 (OP 1 18 (.nilCheck (.tmp 17)) (O3 2 19 0 18 (O3 3 20 1 19 (O2 4 21 20 (OP 5 22 (.len (.tmp 21)) (OP 6 23 (.mv (.const (.int .i64 0))) .done)))))))
abbrev g_graph_look_co_r3:GR:=(O5 0 24 .lss 23 22 .done)
abbrev g_graph_look_co_r4:GR:=(O4 0 25 5 21 23 (OP 1 26 (.load (some 5) (.tmp 25)) (OP 2 5 (.alloc 31 [(.int .i64 0),(.int .i64 0),(.int .i64 0),(.int .u64 0),(.int .i64 0)]) (OS 3 (.store 5 (.tmp 5) (.tmp 26)) .done))))
abbrev g_graph_look_co_r5:GR:=(O3 0 27 1 5 (O2 1 28 27 (OP 2 29 (.bin .eql (.tmp 28) (.const (.int .i64 2))) .done)))
abbrev g_graph_look_co_r6:GR:=(O1 0 30 3 (O3 1 31 2 5 (O2 2 32 31 (OP 3 33 (.lookup false (.int .i64 0) (.tmp 30) (.tmp 32)) (OP 4 34 (.bin .add (.tmp 33) (.const (.int .i64 1))) (OS 5 (.mapSet (.tmp 30) (.tmp 32) (.tmp 34)) .done))))))
abbrev g_graph_look_co_r7:GR:=(OP 0 35 (.bin .add (.tmp 23) (.const (.int .i64 1))) (O1 1 23 35 .done))
abbrev g_graph_look_co_l8:GC:=(.seq (.reg g_graph_look_co_r3 [0,3,21,22,23,24]) (.seq (.cond (.tmp 24) .skip (.exit 0)) (.seq (.block 1 (.seq (.reg g_graph_look_co_r4 [0,3,5,21,22,23]) (.seq (.reg g_graph_look_co_r5 [0,3,5,21,22,23,29]) (.cond (.tmp 29) (.reg g_graph_look_co_r6 [0,3,21,22,23]) .skip)))) (.reg g_graph_look_co_r7 [0,3,21,22,23]))))
abbrev g_graph_look_co_r9:GR:=(O1 0 36 0 (OP 1 37 (.nilCheck (.tmp 36)) (O3 2 38 0 37 (O3 3 39 1 38 (O2 4 40 39 (OP 5 41 (.len (.tmp 40)) (OP 6 42 (.makeSlice 4 1 1 [(.bool false)] (.tmp 41) (.tmp 41)) (O1 7 6 42 .done))))))))
abbrev g_graph_look_co_r10:GR:=(O1 0 43 0 (OP 1 44 (.nilCheck (.tmp 43)) (O3 2 45 0 44 (O3 3 46 3 45 (O6 4 47 46 (OP 5 48 (.len (.tmp 47)) (O1 6 49 0 (OP 7 50 (.nilCheck (.tmp 49)) (O3 8 51 0 50 (O3 9 52 0 51 (O6 10 53 52 (OP 11 54 (.mini (.tmp 48) (.tmp 53)) (O1 12 7 54 .done)))))))))))))
abbrev g_graph_look_co_r11:GR:=(O1 0 55 7 (O1 1 8 55 .done))
abbrev g_graph_look_co_r12:GR:=(O1 0 56 0 (OP 1 57 (.nilCheck (.tmp 56)) (O3 2 58 0 57 (O3 3 59 3 58 (O2 4 60 59 (O1 5 61 7 (OP 6 62 (.slice 1 (.tmp 60) none (some (.tmp 61))) (OP 7 63 (.len (.tmp 62)) (OP 8 64 (.mv (.const (.int .i64 0))) .done)))))))))
abbrev g_graph_look_co_r13:GR:=(O5 0 65 .lss 64 63 .done)
abbrev g_graph_look_co_r14:GR:=(O1 0 66 64 (O4 1 67 1 62 64 (O2 2 68 67 (O1 3 9 66 (O1 4 10 68 .done)))))
abbrev g_graph_look_co_r15:GR:=(O1 0 69 10 (OP 1 70 (.len (.tmp 69)) (OP 2 71 (.bin .gtr (.tmp 70) (.const (.int .i64 0))) (O1 3 72 71 (OG 4 73 72 true (.mv (.tmp 10)) (OG 5 74 72 true (.indexAddr 1 (.tmp 73) (.const (.int .i64 0))) (OG 6 75 72 true (.load none (.tmp 74)) (OG 7 76 72 true (.mv (.tmp 9)) (OG 8 77 72 true (.bin .eql (.tmp 75) (.tmp 76)) (OP 9 78 (.pick (.tmp 72) (.tmp 77) (.const (.bool false))) (O1 10 11 78 .done)))))))))))
abbrev g_graph_look_co_r16:GR:=(O1 0 79 10 (OP 1 80 (.len (.tmp 79)) (OP 2 81 (.mv (.const (.int .i64 0))) .done)))
abbrev g_graph_look_co_r17:GR:=(O5 0 82 .lss 81 80 .done)
abbrev g_graph_look_co_r18:GR:=(O4 0 83 1 79 81 (O2 1 84 83 (O1 2 13 84 .done)))
abbrev g_graph_look_co_r19:GR:=(O1 0 85 11 (O1 1 86 85 (OG 2 87 86 true (.mv (.tmp 0)) (OG 3 88 86 true (.mv (.tmp 13)) (OG 4 89 86 true (.call 81 [(.tmp 87),(.tmp 88),(.const (.int .i64 2))]) (OP 5 90 (.pick (.tmp 86) (.tmp 89) (.const (.bool false))) (O1 6 91 90 (OG 7 92 91 true (.mv (.tmp 0)) (OG 8 93 91 true (.nilCheck (.tmp 92)) (OG 9 94 91 true (.fieldAddr 0 (.tmp 93)) (OG 10 95 91 true (.fieldAddr 1 (.tmp 94)) (OG 11 96 91 true (.load none (.tmp 95)) (OG 12 97 91 true (.mv (.tmp 13)) (OG 13 98 91 true (.indexAddr 5 (.tmp 96) (.tmp 97)) (OG 14 99 91 true (.fieldAddr 2 (.tmp 98)) (OG 15 100 91 true (.load none (.tmp 99)) (OG 16 101 91 true (.mv (.tmp 9)) (OG 17 102 91 true (.bin .eql (.tmp 100) (.tmp 101)) (OP 18 103 (.pick (.tmp 91) (.tmp 102) (.const (.bool false))) (O1 19 104 103 (OG 20 105 104 true (.mv (.tmp 6)) (OG 21 106 104 true (.mv (.tmp 13)) (OG 22 107 104 true (.indexAddr 1 (.tmp 105) (.tmp 106)) (OG 23 108 104 true (.load none (.tmp 107)) (OG 24 109 104 true (.not (.tmp 108)) (OP 25 110 (.pick (.tmp 104) (.tmp 109) (.const (.bool false))) (O1 26 11 110 .done)))))))))))))))))))))))))))
abbrev g_graph_look_co_r20:GR:=(O1 0 111 11 .done)
abbrev g_graph_look_co_r21:GR:=(O1 0 112 6 (O1 1 113 13 (O4 2 114 1 112 113 (OS 3 (.store 1 (.tmp 114) (.const (.bool true))) .done))))
abbrev g_graph_look_co_r22:GR:=(O1 0 115 3 (O1 1 116 9 (OP 2 117 (.lookup false (.int .i64 0) (.tmp 115) (.tmp 116)) (OP 3 118 (.bin .sub (.tmp 117) (.const (.int .i64 1))) (OS 4 (.mapSet (.tmp 115) (.tmp 116) (.tmp 118)) .done)))))
abbrev g_graph_look_co_r23:GR:=(OP 0 119 (.bin .add (.tmp 81) (.const (.int .i64 1))) (O1 1 81 119 .done))
abbrev g_graph_look_co_l24:GC:=(.seq (.reg g_graph_look_co_r17 [0,3,6,7,8,9,11,62,63,64,79,80,81,82]) (.seq (.cond (.tmp 82) .skip (.exit 4)) (.seq (.block 5 (.seq (.reg g_graph_look_co_r18 [0,3,6,7,8,9,11,13,62,63,64,79,80,81]) (.seq (.reg g_graph_look_co_r19 [0,3,6,7,8,9,11,13,62,63,64,79,80,81]) (.seq (.reg g_graph_look_co_r20 [0,3,6,7,8,9,11,13,62,63,64,79,80,81,111]) (.cond (.tmp 111) (.seq (.reg g_graph_look_co_r21 [0,3,6,7,8,9,11,62,63,64,79,80,81]) (.reg g_graph_look_co_r22 [0,3,6,7,8,9,11,62,63,64,79,80,81])) .skip))))) (.reg g_graph_look_co_r23 [0,3,6,7,8,9,11,62,63,64,79,80,81]))))
abbrev g_graph_look_co_r25:GR:=(O1 0 120 11 (OP 1 121 (.not (.tmp 120)) .done))
abbrev g_graph_look_co_r26:GR:=(O1 0 122 8 (O1 1 123 9 (OP 2 124 (.mini (.tmp 122) (.tmp 123)) (O1 3 8 124 .done))))
abbrev g_graph_look_co_r27:GR:=(OP 0 125 (.bin .add (.tmp 64) (.const (.int .i64 1))) (O1 1 64 125 .done))
abbrev g_graph_look_co_l28:GC:=(.seq (.reg g_graph_look_co_r13 [0,3,6,7,8,62,63,64,65]) (.seq (.cond (.tmp 65) .skip (.exit 2)) (.seq (.block 3 (.seq (.reg g_graph_look_co_r14 [0,3,6,7,8,9,10,62,63,64]) (.seq (.reg g_graph_look_co_r15 [0,3,6,7,8,9,10,11,62,63,64]) (.seq (.seq (.reg g_graph_look_co_r16 [0,3,6,7,8,9,11,62,63,64,79,80,81]) (.block 4 (.loop g_graph_look_co_l24))) (.seq (.reg g_graph_look_co_r25 [0,3,6,7,8,9,62,63,64,121]) (.cond (.tmp 121) (.reg g_graph_look_co_r26 [0,3,6,7,8,62,63,64]) .skip)))))) (.reg g_graph_look_co_r27 [0,3,6,7,8,62,63,64]))))
abbrev g_graph_look_co_r29:GR:=(O1 0 126 3 (OP 1 127 (.mrange (.tmp 126)) .done))
abbrev g_graph_look_co_r30:GR:=(OP 0 128 (.mnext (.tmp 127)) (OP 1 129 (.extract 0 (.tmp 128)) .done))
abbrev g_graph_look_co_r31:GR:=(OP 0 130 (.mentry (.tmp 127)) (OP 1 131 (.extract 0 (.tmp 130)) (OP 2 132 (.extract 1 (.tmp 130)) (O1 3 14 131 (O1 4 15 132 .done)))))
abbrev g_graph_look_co_r32:GR:=(O1 0 133 15 (OP 1 134 (.bin .gtr (.tmp 133) (.const (.int .i64 0))) .done))
abbrev g_graph_look_co_r33:GR:=(O1 0 135 8 (O1 1 136 14 (OP 2 137 (.mini (.tmp 135) (.tmp 136)) (O1 3 8 137 .done))))
abbrev g_graph_look_co_l34:GC:=(.seq (.reg g_graph_look_co_r30 [0,7,8,127,129]) (.seq (.cond (.tmp 129) .skip (.exit 6)) (.block 7 (.seq (.reg g_graph_look_co_r31 [0,7,8,14,15,127]) (.seq (.reg g_graph_look_co_r32 [0,7,8,14,127,134]) (.cond (.tmp 134) (.reg g_graph_look_co_r33 [0,7,8,127]) .skip))))))
abbrev g_graph_look_co_r35:GR:=(O1 0 138 8 (O1 1 139 7 (O5 2 140 .lss 138 139 (O1 3 141 140 (OG 4 142 141 false (.mv (.tmp 0)) (OG 5 143 141 false (.nilCheck (.tmp 142)) (OG 6 144 141 false (.fieldAddr 0 (.tmp 143)) (OG 7 145 141 false (.fieldAddr 3 (.tmp 144)) (.op (GI.mk 8 (some 146) (some (141,false)) (.load none (.tmp 145)) [] true) (OG 9 147 141 false (.len (.tmp 146)) (OG 10 148 141 false (.mv (.tmp 0)) (OG 11 149 141 false (.nilCheck (.tmp 148)) (OG 12 150 141 false (.fieldAddr 0 (.tmp 149)) (OG 13 151 141 false (.fieldAddr 0 (.tmp 150)) (.op (GI.mk 14 (some 152) (some (141,false)) (.load none (.tmp 151)) [] true) (OG 15 153 141 false (.bin .neq (.tmp 147) (.tmp 152)) (OP 16 154 (.pick (.tmp 141) (.const (.bool true)) (.tmp 153)) .done)))))))))))))))))
abbrev g_graph_look_co_r36:GR:=(O1 0 155 8 (O1 1 2 155 .done))
abbrev g_graph_look_co_r37:GR:=(OP 0 2 (.mv (.const (.int .i64 (-1)))) .done)
abbrev g_graph_look_co:GC:=(.seq (.reg g_graph_look_co_r0 [0]) (.seq (.reg g_graph_look_co_r1 [0,3]) (.seq (.seq (.reg g_graph_look_co_r2 [0,3,21,22,23]) (.block 0 (.loop g_graph_look_co_l8))) (.seq (.reg g_graph_look_co_r9 [0,3,6]) (.seq (.reg g_graph_look_co_r10 [0,3,6,7]) (.seq (.reg g_graph_look_co_r11 [0,3,6,7,8]) (.seq (.seq (.reg g_graph_look_co_r12 [0,3,6,7,8,62,63,64]) (.block 2 (.loop g_graph_look_co_l28))) (.seq (.seq (.reg g_graph_look_co_r29 [0,7,8,127]) (.block 6 (.loop g_graph_look_co_l34))) (.seq (.seq (.reg g_graph_look_co_r35 [8,154]) (.cond (.tmp 154) (.seq (.reg g_graph_look_co_r36 [2]) .ret) .skip)) (.seq (.reg g_graph_look_co_r37 [2]) .ret))))))))))
abbrev rs_graph_look_co:List RV:=[(.tmp 2)]
theorem gc_graph_look_co:compileF Tryd.prog Tryd.f67 T_graph_look_co=some (g_graph_look_co,rs_graph_look_co):=by kernel_rfl
theorem con_graph_look_co (hv:vc Tryd.prog y g_graph_look_co (retQ rs_graph_look_co R) [(0,a0)] h):ConX y Tryd.prog 67 #[a0] h R:=con_of Tryd.func67 gc_graph_look_co rfl (fun h=>absurd h (by decide)) hv
def T_graph_look_rmw:List (Nat×List Nat):=[(0,[0]),(1,[0,9,10,11]),(2,[0,9,10,11,12]),(3,[0,3,4,9,10,11]),(4,[0,3,9,10,11,82]),(5,[2]),(6,[0,9,10,11]),(7,[2])]
abbrev g_graph_look_rmw_r0:GR:=(OP 0 2 (.mv (.const (.int .i64 0))) .done)
abbrev g_graph_look_rmw_r1:GR:=(O1 0 5 0 (OP 1 6 (.nilCheck (.tmp 5)) (O3 2 7 0 6 (O3 3 8 4 7 (O2 4 9 8 (OP 5 10 (.len (.tmp 9)) (OP 6 11 (.mv (.const (.int .i64 0))) .done)))))))
abbrev g_graph_look_rmw_r2:GR:=(O5 0 12 .lss 11 10 .done)
abbrev g_graph_look_rmw_r3:GR:=(O1 0 13 11 (O4 1 14 2 9 11 (OP 2 15 (.load (some 2) (.tmp 14)) (OP 3 4 (.alloc 34 [(.int .i64 0),(.int .i64 0)]) (O1 4 3 13 (OS 5 (.store 2 (.tmp 4) (.tmp 15)) .done))))))
abbrev g_graph_look_rmw_r4:GR:=(O1 0 16 3 (OP 1 17 (.bin .gtr (.tmp 16) (.const (.int .i64 0))) (O1 2 18 17 (OG 3 19 18 true (.fieldAddr 0 (.tmp 4)) (.op (GI.mk 4 (some 20) (some (18,true)) (.load none (.tmp 19)) [] true) (OG 5 21 18 true (.mv (.tmp 0)) (OG 6 22 18 true (.nilCheck (.tmp 21)) (OG 7 23 18 true (.fieldAddr 0 (.tmp 22)) (OG 8 24 18 true (.fieldAddr 4 (.tmp 23)) (.op (GI.mk 9 (some 25) (some (18,true)) (.load none (.tmp 24)) [] true) (OG 10 26 18 true (.mv (.tmp 3)) (OG 11 27 18 true (.bin .sub (.tmp 26) (.const (.int .i64 1))) (OG 12 28 18 true (.indexAddr 2 (.tmp 25) (.tmp 27)) (OG 13 29 18 true (.fieldAddr 0 (.tmp 28)) (.op (GI.mk 14 (some 30) (some (18,true)) (.load none (.tmp 29)) [] true) (OG 15 31 18 true (.bin .leq (.tmp 20) (.tmp 30)) (OP 16 32 (.pick (.tmp 18) (.tmp 31) (.const (.bool false))) (O1 17 33 32 (OG 18 34 33 false (.mv (.tmp 0)) (OG 19 35 33 false (.fieldAddr 0 (.tmp 4)) (.op (GI.mk 20 (some 36) (some (33,false)) (.load none (.tmp 35)) [] true) (.op (GI.mk 21 (some 37) (some (33,false)) (.call 81 [(.tmp 34),(.tmp 36),(.const (.int .i64 1))]) [4,9,14] false) (OG 22 38 33 false (.not (.tmp 37)) (OP 23 39 (.pick (.tmp 33) (.const (.bool true)) (.tmp 38)) (O1 24 40 39 (OG 25 41 40 false (.mv (.tmp 0)) (OG 26 42 40 false (.fieldAddr 1 (.tmp 4)) (.op (GI.mk 27 (some 43) (some (40,false)) (.load none (.tmp 42)) [] true) (.op (GI.mk 28 (some 44) (some (40,false)) (.call 81 [(.tmp 41),(.tmp 43),(.const (.int .i64 2))]) [4,9,14,20] false) (OG 29 45 40 false (.not (.tmp 44)) (OP 30 46 (.pick (.tmp 40) (.const (.bool true)) (.tmp 45)) (O1 31 47 46 (OG 32 48 47 false (.mv (.tmp 0)) (OG 33 49 47 false (.nilCheck (.tmp 48)) (OG 34 50 47 false (.fieldAddr 9 (.tmp 49)) (.op (GI.mk 35 (some 51) (some (47,false)) (.load none (.tmp 50)) [] true) (OG 36 52 47 false (.fieldAddr 0 (.tmp 4)) (.op (GI.mk 37 (some 53) (some (47,false)) (.load none (.tmp 52)) [] true) (OG 38 54 47 false (.indexAddr 1 (.tmp 51) (.tmp 53)) (.op (GI.mk 39 (some 55) (some (47,false)) (.load none (.tmp 54)) [] true) (OG 40 56 47 false (.fieldAddr 1 (.tmp 4)) (.op (GI.mk 41 (some 57) (some (47,false)) (.load none (.tmp 56)) [] true) (OG 42 58 47 false (.bin .neq (.tmp 55) (.tmp 57)) (OP 43 59 (.pick (.tmp 47) (.const (.bool true)) (.tmp 58)) (O1 44 60 59 (OG 45 61 60 false (.mv (.tmp 0)) (OG 46 62 60 false (.nilCheck (.tmp 61)) (OG 47 63 60 false (.fieldAddr 0 (.tmp 62)) (OG 48 64 60 false (.fieldAddr 1 (.tmp 63)) (.op (GI.mk 49 (some 65) (some (60,false)) (.load none (.tmp 64)) [] true) (OG 50 66 60 false (.fieldAddr 0 (.tmp 4)) (.op (GI.mk 51 (some 67) (some (60,false)) (.load none (.tmp 66)) [] true) (OG 52 68 60 false (.indexAddr 5 (.tmp 65) (.tmp 67)) (OG 53 69 60 false (.fieldAddr 2 (.tmp 68)) (.op (GI.mk 54 (some 70) (some (60,false)) (.load none (.tmp 69)) [] true) (OG 55 71 60 false (.mv (.tmp 0)) (OG 56 72 60 false (.nilCheck (.tmp 71)) (OG 57 73 60 false (.fieldAddr 0 (.tmp 72)) (OG 58 74 60 false (.fieldAddr 1 (.tmp 73)) (.op (GI.mk 59 (some 75) (some (60,false)) (.load none (.tmp 74)) [] true) (OG 60 76 60 false (.fieldAddr 1 (.tmp 4)) (.op (GI.mk 61 (some 77) (some (60,false)) (.load none (.tmp 76)) [] true) (OG 62 78 60 false (.indexAddr 5 (.tmp 75) (.tmp 77)) (OG 63 79 60 false (.fieldAddr 2 (.tmp 78)) (.op (GI.mk 64 (some 80) (some (60,false)) (.load none (.tmp 79)) [] true) (OG 65 81 60 false (.bin .neq (.tmp 70) (.tmp 80)) (OP 66 82 (.pick (.tmp 60) (.const (.bool true)) (.tmp 81)) .done)))))))))))))))))))))))))))))))))))))))))))))))))))))))))))))))))))
abbrev g_graph_look_rmw_r5:GR:=(O1 0 83 3 (O1 1 2 83 .done))
abbrev g_graph_look_rmw_r6:GR:=(OP 0 84 (.bin .add (.tmp 11) (.const (.int .i64 1))) (O1 1 11 84 .done))
abbrev g_graph_look_rmw_l7:GC:=(.seq (.reg g_graph_look_rmw_r2 [0,9,10,11,12]) (.seq (.cond (.tmp 12) .skip (.exit 0)) (.seq (.block 1 (.seq (.reg g_graph_look_rmw_r3 [0,3,4,9,10,11]) (.seq (.reg g_graph_look_rmw_r4 [0,3,9,10,11,82]) (.cond (.tmp 82) (.seq (.reg g_graph_look_rmw_r5 [2]) .ret) .skip)))) (.reg g_graph_look_rmw_r6 [0,9,10,11]))))
abbrev g_graph_look_rmw_r8:GR:=(OP 0 2 (.mv (.const (.int .i64 (-1)))) .done)
abbrev g_graph_look_rmw:GC:=(.seq (.reg g_graph_look_rmw_r0 [0]) (.seq (.seq (.reg g_graph_look_rmw_r1 [0,9,10,11]) (.block 0 (.loop g_graph_look_rmw_l7))) (.seq (.reg g_graph_look_rmw_r8 [2]) .ret)))
abbrev rs_graph_look_rmw:List RV:=[(.tmp 2)]
theorem gc_graph_look_rmw:compileF Tryd.prog Tryd.f68 T_graph_look_rmw=some (g_graph_look_rmw,rs_graph_look_rmw):=by kernel_rfl
theorem con_graph_look_rmw (hv:vc Tryd.prog y g_graph_look_rmw (retQ rs_graph_look_rmw R) [(0,a0)] h):ConX y Tryd.prog 68 #[a0] h R:=con_of Tryd.func68 gc_graph_look_rmw rfl (fun h=>absurd h (by decide)) hv
def T_graph_look_deps:List (Nat×List Nat):=[(0,[0,1,2]),(1,[0,1,2,9,10,11]),(2,[0,1,2,9,10,11,12]),(3,[0,1,2,7,8,9,10,11]),(4,[0,1,2,7,9,10,11,88]),(5,[6]),(6,[0,1,2,9,10,11]),(7,[6])]
abbrev g_graph_look_deps_r0:GR:=(OP 0 6 (.mv (.const (.int .i64 0))) .done)
abbrev g_graph_look_deps_r1:GR:=(O1 0 9 1 (OP 1 10 (.len (.tmp 9)) (OP 2 11 (.mv (.const (.int .i64 0))) .done)))
abbrev g_graph_look_deps_r2:GR:=(O5 0 12 .lss 11 10 .done)
abbrev g_graph_look_deps_r3:GR:=(O1 0 13 11 (O4 1 14 2 9 11 (OP 2 15 (.load (some 2) (.tmp 14)) (OP 3 8 (.alloc 34 [(.int .i64 0),(.int .i64 0)]) (O1 4 7 13 (OS 5 (.store 2 (.tmp 8) (.tmp 15)) .done))))))
abbrev g_graph_look_deps_r4:GR:=(O1 0 16 7 (OP 1 17 (.bin .gtr (.tmp 16) (.const (.int .i64 0))) (O1 2 18 17 (OG 3 19 18 true (.fieldAddr 0 (.tmp 8)) (.op (GI.mk 4 (some 20) (some (18,true)) (.load none (.tmp 19)) [] true) (OG 5 21 18 true (.mv (.tmp 1)) (OG 6 22 18 true (.mv (.tmp 7)) (OG 7 23 18 true (.bin .sub (.tmp 22) (.const (.int .i64 1))) (OG 8 24 18 true (.indexAddr 2 (.tmp 21) (.tmp 23)) (OG 9 25 18 true (.fieldAddr 0 (.tmp 24)) (.op (GI.mk 10 (some 26) (some (18,true)) (.load none (.tmp 25)) [] true) (OG 11 27 18 true (.bin .lss (.tmp 20) (.tmp 26)) (OG 12 28 18 true (.mv (.tmp 27)) (OG 13 29 28 false (.fieldAddr 0 (.tmp 8)) (.op (GI.mk 14 (some 30) (some (28,false)) (.load none (.tmp 29)) [] true) (OG 15 31 28 false (.mv (.tmp 1)) (OG 16 32 28 false (.mv (.tmp 7)) (OG 17 33 28 false (.bin .sub (.tmp 32) (.const (.int .i64 1))) (OG 18 34 28 false (.indexAddr 2 (.tmp 31) (.tmp 33)) (OG 19 35 28 false (.fieldAddr 0 (.tmp 34)) (.op (GI.mk 20 (some 36) (some (28,false)) (.load none (.tmp 35)) [] true) (OG 21 37 28 false (.bin .eql (.tmp 30) (.tmp 36)) (OG 22 38 28 false (.mv (.tmp 37)) (OG 23 39 38 true (.fieldAddr 1 (.tmp 8)) (.op (GI.mk 24 (some 40) (some (38,true)) (.load none (.tmp 39)) [] true) (OG 25 41 38 true (.mv (.tmp 1)) (OG 26 42 38 true (.mv (.tmp 7)) (OG 27 43 38 true (.bin .sub (.tmp 42) (.const (.int .i64 1))) (OG 28 44 38 true (.indexAddr 2 (.tmp 41) (.tmp 43)) (OG 29 45 38 true (.fieldAddr 1 (.tmp 44)) (.op (GI.mk 30 (some 46) (some (38,true)) (.load none (.tmp 45)) [] true) (OG 31 47 38 true (.bin .leq (.tmp 40) (.tmp 46)) (OG 32 48 28 false (.pick (.tmp 38) (.tmp 47) (.const (.bool false))) (OG 33 49 18 true (.pick (.tmp 28) (.const (.bool true)) (.tmp 48)) (OP 34 50 (.pick (.tmp 18) (.tmp 49) (.const (.bool false))) (O1 35 51 50 (OG 36 52 51 false (.mv (.tmp 0)) (OG 37 53 51 false (.nilCheck (.tmp 52)) (OG 38 54 51 false (.fieldAddr 8 (.tmp 53)) (.op (GI.mk 39 (some 55) (some (51,false)) (.load none (.tmp 54)) [] true) (OG 40 56 51 false (.not (.tmp 55)) (OP 41 57 (.pick (.tmp 51) (.const (.bool true)) (.tmp 56)) (O1 42 58 57 (OG 43 59 58 false (.mv (.tmp 0)) (OG 44 60 58 false (.fieldAddr 0 (.tmp 8)) (.op (GI.mk 45 (some 61) (some (58,false)) (.load none (.tmp 60)) [] true) (.op (GI.mk 46 (some 62) (some (58,false)) (.call 81 [(.tmp 59),(.tmp 61),(.const (.int .i64 1))]) [4,10,14,20,24,30,39] false) (OG 47 63 58 false (.not (.tmp 62)) (OP 48 64 (.pick (.tmp 58) (.const (.bool true)) (.tmp 63)) (O1 49 65 64 (OG 50 66 65 false (.mv (.tmp 0)) (OG 51 67 65 false (.fieldAddr 0 (.tmp 8)) (.op (GI.mk 52 (some 68) (some (65,false)) (.load none (.tmp 67)) [] true) (OG 53 69 65 false (.fieldAddr 1 (.tmp 8)) (.op (GI.mk 54 (some 70) (some (65,false)) (.load none (.tmp 69)) [] true) (.op (GI.mk 55 (some 71) (some (65,false)) (.call 82 [(.tmp 66),(.tmp 68),(.tmp 70)]) [4,10,14,20,24,30,39,45] false) (OG 56 72 65 false (.not (.tmp 71)) (OP 57 73 (.pick (.tmp 65) (.const (.bool true)) (.tmp 72)) (O1 58 74 73 (OG 59 75 74 false (.mv (.tmp 2)) (OG 60 76 74 false (.mv (.tmp 0)) (OG 61 77 74 false (.nilCheck (.tmp 76)) (OG 62 78 74 false (.fieldAddr 0 (.tmp 77)) (OG 63 79 74 false (.fieldAddr 1 (.tmp 78)) (.op (GI.mk 64 (some 80) (some (74,false)) (.load none (.tmp 79)) [] true) (OG 65 81 74 false (.fieldAddr 1 (.tmp 8)) (.op (GI.mk 66 (some 82) (some (74,false)) (.load none (.tmp 81)) [] true) (OG 67 83 74 false (.indexAddr 5 (.tmp 80) (.tmp 82)) (OG 68 84 74 false (.fieldAddr 1 (.tmp 83)) (.op (GI.mk 69 (some 85) (some (74,false)) (.load none (.tmp 84)) [] true) (.op (GI.mk 70 (some 86) (some (74,false)) (.call 79 [(.tmp 75),(.tmp 85)]) [4,10,14,20,24,30,39,45,52,54,64,66] false) (OG 71 87 74 false (.not (.tmp 86)) (OP 72 88 (.pick (.tmp 74) (.const (.bool true)) (.tmp 87)) .done)))))))))))))))))))))))))))))))))))))))))))))))))))))))))))))))))))))))))
abbrev g_graph_look_deps_r5:GR:=(O1 0 89 7 (O1 1 6 89 .done))
abbrev g_graph_look_deps_r6:GR:=(OP 0 90 (.bin .add (.tmp 11) (.const (.int .i64 1))) (O1 1 11 90 .done))
abbrev g_graph_look_deps_l7:GC:=(.seq (.reg g_graph_look_deps_r2 [0,1,2,9,10,11,12]) (.seq (.cond (.tmp 12) .skip (.exit 0)) (.seq (.block 1 (.seq (.reg g_graph_look_deps_r3 [0,1,2,7,8,9,10,11]) (.seq (.reg g_graph_look_deps_r4 [0,1,2,7,9,10,11,88]) (.cond (.tmp 88) (.seq (.reg g_graph_look_deps_r5 [6]) .ret) .skip)))) (.reg g_graph_look_deps_r6 [0,1,2,9,10,11]))))
abbrev g_graph_look_deps_r8:GR:=(OP 0 6 (.mv (.const (.int .i64 (-1)))) .done)
abbrev g_graph_look_deps:GC:=(.seq (.reg g_graph_look_deps_r0 [0,1,2]) (.seq (.seq (.reg g_graph_look_deps_r1 [0,1,2,9,10,11]) (.block 0 (.loop g_graph_look_deps_l7))) (.seq (.reg g_graph_look_deps_r8 [6]) .ret)))
abbrev rs_graph_look_deps:List RV:=[(.tmp 6)]
theorem gc_graph_look_deps:compileF Tryd.prog Tryd.f69 T_graph_look_deps=some (g_graph_look_deps,rs_graph_look_deps):=by kernel_rfl
theorem con_graph_look_deps (hv:vc Tryd.prog y g_graph_look_deps (retQ rs_graph_look_deps R) [(0,a0),(1,a1),(2,a2)] h):ConX y Tryd.prog 69 #[a0,a1,a2] h R:=con_of Tryd.func69 gc_graph_look_deps rfl (fun h=>absurd h (by decide)) hv
def T_graph_good:List (Nat×List Nat):=[(0,[1]),(1,[1,3]),(2,[1,13]),(3,[2]),(4,[5]),(5,[2])]
abbrev g_graph_good_r0:GR:=(OP 0 1 (.box 27 (.tmp 0)) (OP 1 2 (.mv (.const (.bool false))) .done))
abbrev g_graph_good_r1:GR:=(OP 0 8 (.load (some 8) (.tmp 1)) (OP 1 9 (.call 43 [(.tmp 8),(.const (.bool false))]) (O1 2 7 9 (OP 3 10 (.extract 0 (.tmp 7)) (OP 4 11 (.extract 1 (.tmp 7)) (O1 5 3 10 (O1 6 4 11 .done)))))))
abbrev g_graph_good_r2:GR:=(O1 0 12 3 (OP 1 13 (.bin .eql (.tmp 12) (.const (.int .i64 0))) .done))
abbrev g_graph_good_r3:GR:=(OP 0 2 (.mv (.const (.bool true))) .done)
abbrev g_graph_good_r4:GR:=(OP 0 15 (.load (some 8) (.tmp 1)) (OP 1 16 (.call 43 [(.tmp 15),(.const (.bool true))]) (O1 2 14 16 (OP 3 17 (.extract 0 (.tmp 14)) (OP 4 18 (.extract 1 (.tmp 14)) (O1 5 5 17 (O1 6 6 18 .done)))))))
abbrev g_graph_good_r5:GR:=(O1 0 19 5 (OP 1 20 (.bin .eql (.tmp 19) (.const (.int .i64 0))) (O1 2 2 20 .done)))
abbrev g_graph_good:GC:=(.seq (.reg g_graph_good_r0 [1]) (.seq (.seq (.reg g_graph_good_r1 [1,3]) (.seq (.reg g_graph_good_r2 [1,13]) (.cond (.tmp 13) (.seq (.reg g_graph_good_r3 [2]) .ret) .skip))) (.seq (.reg g_graph_good_r4 [5]) (.seq (.reg g_graph_good_r5 [2]) .ret))))
abbrev rs_graph_good:List RV:=[(.tmp 2)]
theorem gc_graph_good:compileF Tryd.prog Tryd.f70 T_graph_good=some (g_graph_good,rs_graph_good):=by kernel_rfl
theorem con_graph_good (hv:vc Tryd.prog y g_graph_good (retQ rs_graph_good R) [(0,a0)] h):ConX y Tryd.prog 70 #[a0] h R:=con_of Tryd.func70 gc_graph_good rfl (fun h=>absurd h (by decide)) hv
def T_rel_Inverse:List (Nat×List Nat):=[(0,[0,2]),(1,[0,2,3]),(2,[2,3,15,16,17]),(3,[2,3,15,16,17,18]),(4,[2,3,4,5,15,16,17]),(5,[2,3,4,15,16,17,23]),(6,[3,4,6]),(7,[]),(8,[2,3,15,16,17]),(9,[2])]
abbrev g_rel_Inverse_r0:GR:=(OP 0 2 (.mv (.const (.pointer none))) .done)
abbrev g_rel_Inverse_r1:GR:=(O1 0 7 0 (OP 1 8 (.nilCheck (.tmp 7)) (O3 2 9 0 8 (O2 3 10 9 (OP 4 11 (.call 20 [(.tmp 10)]) (OP 5 3 (.alloc 48 [(.pointer none)]) (OS 6 (.store 1 (.tmp 3) (.tmp 11)) .done)))))))
abbrev g_rel_Inverse_r2:GR:=(O1 0 12 0 (OP 1 13 (.nilCheck (.tmp 12)) (O3 2 14 1 13 (O2 3 15 14 (OP 4 16 (.len (.tmp 15)) (OP 5 17 (.mv (.const (.int .i64 0))) .done))))))
abbrev g_rel_Inverse_r3:GR:=(O5 0 18 .lss 17 16 .done)
abbrev g_rel_Inverse_r4:GR:=(O1 0 19 17 (O4 1 20 1 15 17 (O2 2 21 20 (OP 3 4 (.alloc 3 [(.int .i64 0)]) (OS 4 (.store 1 (.tmp 4) (.tmp 19)) (O1 5 5 21 .done))))))
abbrev g_rel_Inverse_r5:GR:=(O1 0 22 5 (OP 1 23 (.call 38 [(.tmp 22)]) .done))
abbrev g_rel_Inverse_r6:GR:=(O1 0 6 24 .done)
abbrev g_rel_Inverse_r7:GR:=(O6 0 25 3 (OP 1 26 (.nilCheck (.tmp 25)) (O3 2 27 1 26 (O6 3 28 27 (O1 4 29 6 (O4 5 30 1 28 29 (O6 6 31 30 (O6 7 32 4 (.op (GI.mk 8 (some 33) none (.call 74 [(.tmp 31),(.tmp 32)]) [0,3] false) .done)))))))))
abbrev g_rel_Inverse_b8:GC:=(.block 3 (.reg g_rel_Inverse_r7 []))
abbrev g_rel_Inverse_r9:GR:=(OP 0 34 (.bin .add (.tmp 17) (.const (.int .i64 1))) (O1 1 17 34 .done))
abbrev g_rel_Inverse_l10:GC:=(.seq (.reg g_rel_Inverse_r3 [2,3,15,16,17,18]) (.seq (.cond (.tmp 18) .skip (.exit 0)) (.seq (.block 1 (.seq (.reg g_rel_Inverse_r4 [2,3,4,5,15,16,17]) (.seq (.reg g_rel_Inverse_r5 [2,3,4,15,16,17,23]) (.block 2 (.rng (.tmp 23) [24] (.reg g_rel_Inverse_r6 [3,4,6]) g_rel_Inverse_b8))))) (.reg g_rel_Inverse_r9 [2,3,15,16,17]))))
abbrev g_rel_Inverse_r11:GR:=(O2 0 35 3 (O1 1 2 35 .done))
abbrev g_rel_Inverse:GC:=(.seq (.reg g_rel_Inverse_r0 [0,2]) (.seq (.reg g_rel_Inverse_r1 [0,2,3]) (.seq (.seq (.reg g_rel_Inverse_r2 [2,3,15,16,17]) (.block 0 (.loop g_rel_Inverse_l10))) (.seq (.reg g_rel_Inverse_r11 [2]) .ret))))
abbrev rs_rel_Inverse:List RV:=[(.tmp 2)]
theorem gc_rel_Inverse:compileF Tryd.prog Tryd.f71 T_rel_Inverse=some (g_rel_Inverse,rs_rel_Inverse):=by kernel_rfl
theorem con_rel_Inverse (hR:∀ v h1 h2,Ext h.size h1 h2→R v h1→R v h2) (hv:vc Tryd.prog y g_rel_Inverse (retQ rs_rel_Inverse R) [(0,a0)] h):ConX y Tryd.prog 71 #[a0] h R:=con_of Tryd.func71 gc_rel_Inverse rfl (fun _=>hR) hv
def T_graph_With:List (Nat×List Nat):=[(0,[1,2]),(1,[1,2,5]),(2,[1,5,13,14,15]),(3,[1,5,13,14,15,16]),(4,[1,5,6,7,13,14,15]),(5,[1,5,13,14,15]),(6,[1,5,13,14,15]),(7,[4])]
abbrev g_graph_With_r0:GR:=(OP 0 2 (.box 27 (.tmp 0)) (OP 1 4 (.mv (.const (.slice none 0 0))) .done))
abbrev g_graph_With_r1:GR:=(O3 0 8 1 2 (O2 1 9 8 (OP 2 10 (.len (.tmp 9)) (OP 3 11 (.makeSlice 4 1 1 [(.bool false)] (.tmp 10) (.tmp 10)) (O1 4 5 11 .done)))))
abbrev g_graph_With_r2:GR:=(O3 0 12 1 2 (O2 1 13 12 (OP 2 14 (.len (.tmp 13)) (OP 3 15 (.mv (.const (.int .i64 0))) .done))))
abbrev g_graph_With_r3:GR:=(O5 0 16 .lss 15 14 .done)
abbrev g_graph_With_r4:GR:=(O1 0 17 15 (O4 1 18 5 13 15 (OP 2 19 (.load (some 5) (.tmp 18)) (OP 3 7 (.alloc 31 [(.int .i64 0),(.int .i64 0),(.int .i64 0),(.int .u64 0),(.int .i64 0)]) (O1 4 6 17 (OS 5 (.store 5 (.tmp 7) (.tmp 19)) .done))))))
abbrev g_graph_With_r5:GR:=(O1 0 20 5 (O1 1 21 6 (O1 2 22 1 (O3 3 23 4 7 (O2 4 24 23 (OP 5 25 (.call 79 [(.tmp 22),(.tmp 24)]) (O4 6 26 1 20 21 (OS 7 (.store 1 (.tmp 26) (.tmp 25)) .done))))))))
abbrev g_graph_With_r6:GR:=(OP 0 27 (.bin .add (.tmp 15) (.const (.int .i64 1))) (O1 1 15 27 .done))
abbrev g_graph_With_l7:GC:=(.seq (.reg g_graph_With_r3 [1,5,13,14,15,16]) (.seq (.cond (.tmp 16) .skip (.exit 0)) (.seq (.block 1 (.seq (.reg g_graph_With_r4 [1,5,6,7,13,14,15]) (.reg g_graph_With_r5 [1,5,13,14,15]))) (.reg g_graph_With_r6 [1,5,13,14,15]))))
abbrev g_graph_With_r8:GR:=(O1 0 28 5 (O1 1 4 28 .done))
abbrev g_graph_With:GC:=(.seq (.reg g_graph_With_r0 [1,2]) (.seq (.reg g_graph_With_r1 [1,2,5]) (.seq (.seq (.reg g_graph_With_r2 [1,5,13,14,15]) (.block 0 (.loop g_graph_With_l7))) (.seq (.reg g_graph_With_r8 [4]) .ret))))
abbrev rs_graph_With:List RV:=[(.tmp 4)]
theorem gc_graph_With:compileF Tryd.prog Tryd.f72 T_graph_With=some (g_graph_With,rs_graph_With):=by kernel_rfl
theorem con_graph_With (hv:vc Tryd.prog y g_graph_With (retQ rs_graph_With R) [(0,a0),(1,a1)] h):ConX y Tryd.prog 72 #[a0,a1] h R:=con_of Tryd.func72 gc_graph_With rfl (fun h=>absurd h (by decide)) hv
def T_rel_Ident:List (Nat×List Nat):=[(0,[0,1]),(1,[1,5]),(2,[5,10,11,12]),(3,[5,10,11,12,13]),(4,[5,6,7,10,11,12]),(5,[5,6,10,11,12,17]),(6,[5,10,11,12]),(7,[5,10,11,12]),(8,[4])]
abbrev g_rel_Ident_r0:GR:=(OP 0 4 (.mv (.const (.pointer none))) .done)
abbrev g_rel_Ident_r1:GR:=(O1 0 8 0 (OP 1 9 (.call 20 [(.tmp 8)]) (O1 2 5 9 .done)))
abbrev g_rel_Ident_r2:GR:=(O1 0 10 1 (OP 1 11 (.len (.tmp 10)) (OP 2 12 (.mv (.const (.int .i64 0))) .done)))
abbrev g_rel_Ident_r3:GR:=(O5 0 13 .lss 12 11 .done)
abbrev g_rel_Ident_r4:GR:=(O1 0 14 12 (O4 1 15 1 10 12 (O2 2 16 15 (O1 3 6 14 (O1 4 7 16 .done)))))
abbrev g_rel_Ident_r5:GR:=(O1 0 17 7 .done)
abbrev g_rel_Ident_r6:GR:=(O1 0 18 5 (O1 1 19 6 (O1 2 20 6 (OP 3 21 (.call 21 [(.tmp 18),(.tmp 19),(.tmp 20),(.const (.bool true))]) .done))))
abbrev g_rel_Ident_r7:GR:=(OP 0 22 (.bin .add (.tmp 12) (.const (.int .i64 1))) (O1 1 12 22 .done))
abbrev g_rel_Ident_l8:GC:=(.seq (.reg g_rel_Ident_r3 [5,10,11,12,13]) (.seq (.cond (.tmp 13) .skip (.exit 0)) (.seq (.block 1 (.seq (.reg g_rel_Ident_r4 [5,6,7,10,11,12]) (.seq (.reg g_rel_Ident_r5 [5,6,10,11,12,17]) (.cond (.tmp 17) (.reg g_rel_Ident_r6 [5,10,11,12]) .skip)))) (.reg g_rel_Ident_r7 [5,10,11,12]))))
abbrev g_rel_Ident_r9:GR:=(O1 0 23 5 (O1 1 4 23 .done))
abbrev g_rel_Ident:GC:=(.seq (.reg g_rel_Ident_r0 [0,1]) (.seq (.reg g_rel_Ident_r1 [1,5]) (.seq (.seq (.reg g_rel_Ident_r2 [5,10,11,12]) (.block 0 (.loop g_rel_Ident_l8))) (.seq (.reg g_rel_Ident_r9 [4]) .ret))))
abbrev rs_rel_Ident:List RV:=[(.tmp 4)]
theorem gc_rel_Ident:compileF Tryd.prog Tryd.f73 T_rel_Ident=some (g_rel_Ident,rs_rel_Ident):=by kernel_rfl
theorem con_rel_Ident (hv:vc Tryd.prog y g_rel_Ident (retQ rs_rel_Ident R) [(0,a0),(1,a1)] h):ConX y Tryd.prog 73 #[a0,a1] h R:=con_of Tryd.func73 gc_rel_Ident rfl (fun h=>absurd h (by decide)) hv
def T_rel_row_set:List (Nat×List Nat):=[(0,[])]
abbrev g_rel_row_set_r0:GR:=(O1 0 4 0 (O1 1 5 1 (OP 2 6 (.bin .quo (.tmp 5) (.const (.int .i64 64))) (O4 3 7 1 4 6 (O6 4 8 7 (O1 5 9 1 (OP 6 10 (.bin .rem (.tmp 9) (.const (.int .i64 64))) (OP 7 11 (.shift .shl (.const (.int .u64 1)) (.tmp 10)) (O5 8 12 .or 8 11 (O4 9 13 1 4 6 (OS 10 (.store 1 (.tmp 13) (.tmp 12)) .done)))))))))))
abbrev g_rel_row_set:GC:=(.reg g_rel_row_set_r0 [])
abbrev rs_rel_row_set:List RV:=[]
theorem gc_rel_row_set:compileF Tryd.prog Tryd.f74 T_rel_row_set=some (g_rel_row_set,rs_rel_row_set):=by kernel_rfl
theorem con_rel_row_set (hv:vc Tryd.prog y g_rel_row_set (retQ rs_rel_row_set R) [(0,a0),(1,a1)] h):ConX y Tryd.prog 74 #[a0,a1] h R:=con_of Tryd.func74 gc_rel_row_set rfl (fun h=>absurd h (by decide)) hv
def T_rel_keep:List (Nat×List Nat):=[(0,[0,4,5,6]),(1,[4,5,6,7]),(2,[4,5,6,7,20,21,22]),(3,[4,5,6,7,20,21,22,23]),(4,[4,5,6,7,8,9,20,21,22]),(5,[4,5,6,7,8,20,21,22,30]),(6,[4,5,7,8,10]),(7,[7,8,10,37]),(8,[]),(9,[4,5,6,7,20,21,22]),(10,[6])]
abbrev g_rel_keep_r0:GR:=(OP 0 4 (.box 48 (.tmp 1)) (OP 1 5 (.box 4 (.tmp 2)) (OP 2 6 (.mv (.const (.pointer none))) .done)))
abbrev g_rel_keep_r1:GR:=(O1 0 11 0 (O2 1 12 4 (OP 2 13 (.nilCheck (.tmp 12)) (O3 3 14 0 13 (O2 4 15 14 (OP 5 16 (.call 77 [(.tmp 11),(.tmp 15)]) (OP 6 7 (.alloc 48 [(.pointer none)]) (OS 7 (.store 1 (.tmp 7) (.tmp 16)) .done))))))))
abbrev g_rel_keep_r2:GR:=(O2 0 17 7 (OP 1 18 (.nilCheck (.tmp 17)) (O3 2 19 1 18 (O2 3 20 19 (OP 4 21 (.len (.tmp 20)) (OP 5 22 (.mv (.const (.int .i64 0))) .done))))))
abbrev g_rel_keep_r3:GR:=(O5 0 23 .lss 22 21 .done)
abbrev g_rel_keep_r4:GR:=(O1 0 24 22 (O4 1 25 1 20 22 (O2 2 26 25 (OP 3 8 (.alloc 3 [(.int .i64 0)]) (OS 4 (.store 1 (.tmp 8) (.tmp 24)) (O1 5 9 26 .done))))))
abbrev g_rel_keep_r5:GR:=(O1 0 27 9 (OP 1 28 (.call 38 [(.tmp 27)]) (OP 2 29 (.call 84 [(.tmp 28)]) (OP 3 30 (.call 83 [(.tmp 29)]) .done))))
abbrev g_rel_keep_r6:GR:=(O1 0 10 31 .done)
abbrev g_rel_keep_r7:GR:=(O6 0 32 4 (O6 1 33 8 (O1 2 34 10 (O6 4 36 5 (.op (GI.mk 3 (some 35) none (.call 22 [(.tmp 32),(.tmp 33),(.tmp 34)]) [4] false) (OP 5 37 (.eqBool true (.tmp 35) (.tmp 36)) .done))))))
abbrev g_rel_keep_r8:GR:=(O2 0 38 7 (O2 1 39 8 (O1 2 40 10 (OP 3 41 (.call 21 [(.tmp 38),(.tmp 39),(.tmp 40),(.const (.bool false))]) .done))))
abbrev g_rel_keep_b9:GC:=(.block 3 (.seq (.reg g_rel_keep_r7 [7,8,10,37]) (.cond (.tmp 37) (.reg g_rel_keep_r8 []) .skip)))
abbrev g_rel_keep_r10:GR:=(OP 0 42 (.bin .add (.tmp 22) (.const (.int .i64 1))) (O1 1 22 42 .done))
abbrev g_rel_keep_l11:GC:=(.seq (.reg g_rel_keep_r3 [4,5,6,7,20,21,22,23]) (.seq (.cond (.tmp 23) .skip (.exit 0)) (.seq (.block 1 (.seq (.reg g_rel_keep_r4 [4,5,6,7,8,9,20,21,22]) (.seq (.reg g_rel_keep_r5 [4,5,6,7,8,20,21,22,30]) (.block 2 (.rng (.tmp 30) [31] (.reg g_rel_keep_r6 [4,5,7,8,10]) g_rel_keep_b9))))) (.reg g_rel_keep_r10 [4,5,6,7,20,21,22]))))
abbrev g_rel_keep_r12:GR:=(O2 0 43 7 (O1 1 6 43 .done))
abbrev g_rel_keep:GC:=(.seq (.reg g_rel_keep_r0 [0,4,5,6]) (.seq (.reg g_rel_keep_r1 [4,5,6,7]) (.seq (.seq (.reg g_rel_keep_r2 [4,5,6,7,20,21,22]) (.block 0 (.loop g_rel_keep_l11))) (.seq (.reg g_rel_keep_r12 [6]) .ret))))
abbrev rs_rel_keep:List RV:=[(.tmp 6)]
theorem gc_rel_keep:compileF Tryd.prog Tryd.f75 T_rel_keep=some (g_rel_keep,rs_rel_keep):=by kernel_rfl
theorem con_rel_keep (hR:∀ v h1 h2,Ext h.size h1 h2→R v h1→R v h2) (hv:vc Tryd.prog y g_rel_keep (retQ rs_rel_keep R) [(0,a0),(1,a1),(2,a2)] h):ConX y Tryd.prog 75 #[a0,a1,a2] h R:=con_of Tryd.func75 gc_rel_keep rfl (fun _=>hR) hv
def T_rel_Rel_shortest:List (Nat×List Nat):=[(0,[0,1,4]),(1,[0,1,4,5]),(2,[0,1,4,5,6]),(3,[0,1,4,5,6,7]),(4,[0,1,4,5,6,7,8]),(5,[0,1,4,5,6,7,8,27]),(6,[0,1,4,5,6,7,8]),(7,[0,1,4,5,6,7,8,9]),(8,[0,1,4,5,6,7,8,9,30,31,32]),(9,[0,1,4,5,6,7,8,9,30,31,32,33]),(10,[0,1,4,5,6,7,8,9,11,30,31,32]),(11,[0,1,4,5,6,7,8,9,30,31,32,43]),(12,[6,8,9,12]),(13,[6,8,9,12,49]),(14,[9,12]),(15,[]),(16,[0,1,4,5,6,7,8,9,30,31,32]),(17,[0,1,4,5,6,7,8]),(18,[0,1,4,5,6,7,60]),(19,[0,1,4,5,6,7,8]),(20,[0,1,4,6,13]),(21,[0,4,6,13,14]),(22,[0,4,6,13,14,69]),(23,[0,4,6,13,14]),(24,[0,4,6,13,14,84]),(25,[6,13,14,15]),(26,[13,15,91]),(27,[]),(28,[0,4,6,13,96]),(29,[0,4,6,13,14]),(30,[4])]
abbrev g_rel_Rel_shortest_r0:GR:=(OP 0 4 (.mv (.const (.slice none 0 0))) .done)
abbrev g_rel_Rel_shortest_r1:GR:=(O1 0 16 0 (OP 1 17 (.call 71 [(.tmp 16)]) (O1 2 5 17 .done)))
abbrev g_rel_Rel_shortest_r2:GR:=(O1 0 18 0 (OP 1 19 (.nilCheck (.tmp 18)) (O3 2 20 0 19 (O2 3 21 20 (OP 4 22 (.makeSlice 3 1 8 [(.int .i64 0)] (.tmp 21) (.tmp 21)) (OP 5 6 (.alloc 35 [(.slice none 0 0)]) (OS 6 (.store 1 (.tmp 6) (.tmp 22)) .done)))))))
abbrev g_rel_Rel_shortest_r3:GR:=(O1 0 23 1 (OP 1 24 (.buildSlice 3 1 [(.int .i64 0)] [(0,(1,(.tmp 23)))]) (O1 2 7 24 .done)))
abbrev g_rel_Rel_shortest_r4:GR:=(OP 0 8 (.alloc 3 [(.int .i64 0)]) (OS 1 (.store 1 (.tmp 8) (.const (.int .i64 1))) .done))
abbrev g_rel_Rel_shortest_r5:GR:=(O1 0 25 7 (OP 1 26 (.len (.tmp 25)) (OP 2 27 (.bin .gtr (.tmp 26) (.const (.int .i64 0))) .done)))
abbrev g_rel_Rel_shortest_r6:GR:=(OP 0 9 (.alloc 35 [(.slice none 0 0)]) .done)
abbrev g_rel_Rel_shortest_r7:GR:=(O1 0 30 7 (OP 1 31 (.len (.tmp 30)) (OP 2 32 (.mv (.const (.int .i64 0))) .done)))
abbrev g_rel_Rel_shortest_r8:GR:=(O5 0 33 .lss 32 31 .done)
abbrev g_rel_Rel_shortest_r9:GR:=(O4 0 34 1 30 32 (O2 1 35 34 (O1 2 11 35 .done)))
abbrev g_rel_Rel_shortest_r10:GR:=(O1 0 36 5 (OP 1 37 (.nilCheck (.tmp 36)) (O3 2 38 1 37 (O2 3 39 38 (O1 4 40 11 (O4 5 41 1 39 40 (O2 6 42 41 (OP 7 43 (.call 38 [(.tmp 42)]) .done))))))))
abbrev g_rel_Rel_shortest_r11:GR:=(O1 0 12 44 .done)
abbrev g_rel_Rel_shortest_r12:GR:=(O2 0 45 6 (O1 1 46 12 (O4 2 47 1 45 46 (O2 3 48 47 (OP 4 49 (.bin .eql (.tmp 48) (.const (.int .i64 0))) .done)))))
abbrev g_rel_Rel_shortest_r13:GR:=(O2 0 50 6 (O1 1 51 12 (O2 2 52 8 (O4 3 53 1 50 51 (OS 4 (.store 1 (.tmp 53) (.tmp 52)) .done)))))
abbrev g_rel_Rel_shortest_r14:GR:=(O2 0 54 9 (O1 1 55 12 (OP 2 56 (.buildSlice 3 1 [(.int .i64 0)] [(0,(1,(.tmp 55)))]) (OP 3 57 (.append 3 1 8 [(.int .i64 0)] (.tmp 54) (.tmp 56)) (OS 4 (.store 1 (.tmp 9) (.tmp 57)) .done)))))
abbrev g_rel_Rel_shortest_b15:GC:=(.block 5 (.seq (.reg g_rel_Rel_shortest_r12 [6,8,9,12,49]) (.cond (.tmp 49) (.seq (.reg g_rel_Rel_shortest_r13 [9,12]) (.reg g_rel_Rel_shortest_r14 [])) .skip)))
abbrev g_rel_Rel_shortest_r16:GR:=(OP 0 58 (.bin .add (.tmp 32) (.const (.int .i64 1))) (O1 1 32 58 .done))
abbrev g_rel_Rel_shortest_l17:GC:=(.seq (.reg g_rel_Rel_shortest_r8 [0,1,4,5,6,7,8,9,30,31,32,33]) (.seq (.cond (.tmp 33) .skip (.exit 2)) (.seq (.block 3 (.seq (.reg g_rel_Rel_shortest_r9 [0,1,4,5,6,7,8,9,11,30,31,32]) (.seq (.reg g_rel_Rel_shortest_r10 [0,1,4,5,6,7,8,9,30,31,32,43]) (.block 4 (.rng (.tmp 43) [44] (.reg g_rel_Rel_shortest_r11 [6,8,9,12]) g_rel_Rel_shortest_b15))))) (.reg g_rel_Rel_shortest_r16 [0,1,4,5,6,7,8,9,30,31,32]))))
abbrev g_rel_Rel_shortest_r18:GR:=(O2 0 59 9 (O1 1 7 59 .done))
abbrev g_rel_Rel_shortest_r19:GR:=(O2 0 60 8 .done)
abbrev g_rel_Rel_shortest_r20:GR:=(OP 0 8 (.alloc 3 [(.int .i64 0)]) (OS 1 (.store 1 (.tmp 8) (.tmp 60)) .done))
abbrev g_rel_Rel_shortest_r21:GR:=(O2 0 28 8 (OP 1 29 (.bin .add (.tmp 28) (.const (.int .i64 1))) (OS 2 (.store 1 (.tmp 8) (.tmp 29)) .done)))
abbrev g_rel_Rel_shortest_l22:GC:=(.seq (.seq (.reg g_rel_Rel_shortest_r5 [0,1,4,5,6,7,8,27]) (.cond (.tmp 27) .skip (.exit 0))) (.seq (.block 1 (.seq (.reg g_rel_Rel_shortest_r6 [0,1,4,5,6,7,8,9]) (.seq (.seq (.reg g_rel_Rel_shortest_r7 [0,1,4,5,6,7,8,9,30,31,32]) (.block 2 (.loop g_rel_Rel_shortest_l17))) (.reg g_rel_Rel_shortest_r18 [0,1,4,5,6,7,8])))) (.seq (.seq (.reg g_rel_Rel_shortest_r19 [0,1,4,5,6,7,60]) (.reg g_rel_Rel_shortest_r20 [0,1,4,5,6,7,8])) (.reg g_rel_Rel_shortest_r21 [0,1,4,5,6,7,8]))))
abbrev g_rel_Rel_shortest_r23:GR:=(O1 0 61 1 (OP 1 62 (.buildSlice 3 1 [(.int .i64 0)] [(0,(1,(.tmp 61)))]) (OP 2 13 (.alloc 35 [(.slice none 0 0)]) (OS 3 (.store 1 (.tmp 13) (.tmp 62)) .done))))
abbrev g_rel_Rel_shortest_r24:GR:=(O2 0 63 6 (O1 1 64 1 (O4 2 65 1 63 64 (O2 3 66 65 (OP 4 67 (.bin .sub (.tmp 66) (.const (.int .i64 1))) (OP 5 14 (.alloc 3 [(.int .i64 0)]) (OS 6 (.store 1 (.tmp 14) (.tmp 67)) .done)))))))
abbrev g_rel_Rel_shortest_r25:GR:=(O2 0 68 14 (OP 1 69 (.bin .gtr (.tmp 68) (.const (.int .i64 0))) .done))
abbrev g_rel_Rel_shortest_r26:GR:=(O1 0 72 0 (OP 1 73 (.nilCheck (.tmp 72)) (O3 2 74 1 73 (O6 3 75 74 (O6 4 76 13 (O6 5 77 13 (OP 6 78 (.len (.tmp 77)) (OP 7 79 (.bin .sub (.tmp 78) (.const (.int .i64 1))) (O4 8 80 1 76 79 (O6 9 81 80 (O4 10 82 1 75 81 (O6 11 83 82 (.op (GI.mk 12 (some 84) none (.call 38 [(.tmp 83)]) [3,4,5,9] false) .done)))))))))))))
abbrev g_rel_Rel_shortest_r27:GR:=(O1 0 15 85 .done)
abbrev g_rel_Rel_shortest_r28:GR:=(O6 0 86 6 (O1 1 87 15 (O4 2 88 1 86 87 (O6 3 89 88 (O6 4 90 14 (O5 5 91 .eql 89 90 .done))))))
abbrev g_rel_Rel_shortest_r29:GR:=(O2 0 92 13 (O1 1 93 15 (OP 2 94 (.buildSlice 3 1 [(.int .i64 0)] [(0,(1,(.tmp 93)))]) (OP 3 95 (.append 3 1 8 [(.int .i64 0)] (.tmp 92) (.tmp 94)) (OS 4 (.store 1 (.tmp 13) (.tmp 95)) .done)))))
abbrev g_rel_Rel_shortest_b30:GC:=(.block 9 (.seq (.reg g_rel_Rel_shortest_r28 [13,15,91]) (.cond (.tmp 91) (.seq (.reg g_rel_Rel_shortest_r29 []) (.exit 8)) .skip)))
abbrev g_rel_Rel_shortest_r31:GR:=(O2 0 96 14 .done)
abbrev g_rel_Rel_shortest_r32:GR:=(OP 0 14 (.alloc 3 [(.int .i64 0)]) (OS 1 (.store 1 (.tmp 14) (.tmp 96)) .done))
abbrev g_rel_Rel_shortest_r33:GR:=(O2 0 70 14 (OP 1 71 (.bin .sub (.tmp 70) (.const (.int .i64 1))) (OS 2 (.store 1 (.tmp 14) (.tmp 71)) .done)))
abbrev g_rel_Rel_shortest_l34:GC:=(.seq (.seq (.reg g_rel_Rel_shortest_r25 [0,4,6,13,14,69]) (.cond (.tmp 69) .skip (.exit 6))) (.seq (.block 7 (.seq (.reg g_rel_Rel_shortest_r26 [0,4,6,13,14,84]) (.block 8 (.rng (.tmp 84) [85] (.reg g_rel_Rel_shortest_r27 [6,13,14,15]) g_rel_Rel_shortest_b30)))) (.seq (.seq (.reg g_rel_Rel_shortest_r31 [0,4,6,13,96]) (.reg g_rel_Rel_shortest_r32 [0,4,6,13,14])) (.reg g_rel_Rel_shortest_r33 [0,4,6,13,14]))))
abbrev g_rel_Rel_shortest_r35:GR:=(O2 0 97 13 (O1 1 4 97 .done))
abbrev g_rel_Rel_shortest:GC:=(.seq (.reg g_rel_Rel_shortest_r0 [0,1,4]) (.seq (.reg g_rel_Rel_shortest_r1 [0,1,4,5]) (.seq (.reg g_rel_Rel_shortest_r2 [0,1,4,5,6]) (.seq (.reg g_rel_Rel_shortest_r3 [0,1,4,5,6,7]) (.seq (.seq (.reg g_rel_Rel_shortest_r4 [0,1,4,5,6,7,8]) (.block 0 (.loop g_rel_Rel_shortest_l22))) (.seq (.reg g_rel_Rel_shortest_r23 [0,1,4,6,13]) (.seq (.seq (.reg g_rel_Rel_shortest_r24 [0,4,6,13,14]) (.block 6 (.loop g_rel_Rel_shortest_l34))) (.seq (.reg g_rel_Rel_shortest_r35 [4]) .ret))))))))
abbrev rs_rel_Rel_shortest:List RV:=[(.tmp 4)]
theorem gc_rel_Rel_shortest:compileF Tryd.prog Tryd.f76 T_rel_Rel_shortest=some (g_rel_Rel_shortest,rs_rel_Rel_shortest):=by kernel_rfl
theorem con_rel_Rel_shortest (hR:∀ v h1 h2,Ext h.size h1 h2→R v h1→R v h2) (hv:vc Tryd.prog y g_rel_Rel_shortest (retQ rs_rel_Rel_shortest R) [(0,a0),(1,a1)] h):ConX y Tryd.prog 76 #[a0,a1] h R:=con_of Tryd.func76 gc_rel_Rel_shortest rfl (fun _=>hR) hv
def T_rel_Rel_wide:List (Nat×List Nat):=[(0,[0,1]),(1,[0,5]),(2,[5,18,19,20]),(3,[5,18,19,20,21]),(4,[5,6,7,18,19,20]),(5,[5,18,19,20]),(6,[5,18,19,20]),(7,[4])]
abbrev g_rel_Rel_wide_r0:GR:=(OP 0 4 (.mv (.const (.pointer none))) .done)
abbrev g_rel_Rel_wide_r1:GR:=(O1 0 8 1 (O1 1 9 0 (OP 2 10 (.nilCheck (.tmp 9)) (O3 3 11 0 10 (O2 4 12 11 (OP 5 13 (.maxi (.tmp 8) (.tmp 12)) (OP 6 14 (.call 20 [(.tmp 13)]) (O1 7 5 14 .done))))))))
abbrev g_rel_Rel_wide_r2:GR:=(O1 0 15 0 (OP 1 16 (.nilCheck (.tmp 15)) (O3 2 17 1 16 (O2 3 18 17 (OP 4 19 (.len (.tmp 18)) (OP 5 20 (.mv (.const (.int .i64 0))) .done))))))
abbrev g_rel_Rel_wide_r3:GR:=(O5 0 21 .lss 20 19 .done)
abbrev g_rel_Rel_wide_r4:GR:=(O1 0 22 20 (O4 1 23 1 18 20 (O2 2 24 23 (O1 3 6 22 (O1 4 7 24 .done)))))
abbrev g_rel_Rel_wide_r5:GR:=(O1 0 25 5 (OP 1 26 (.nilCheck (.tmp 25)) (O3 2 27 1 26 (O2 3 28 27 (O1 4 29 6 (O4 5 30 1 28 29 (O2 6 31 30 (O1 7 32 7 (OP 8 33 (.buildSlice 85 1 [(.slice none 0 0)] [(0,(1,(.tmp 32)))]) (OP 9 34 (.call 42 [(.tmp 31),(.tmp 33)]) .done))))))))))
abbrev g_rel_Rel_wide_r6:GR:=(OP 0 35 (.bin .add (.tmp 20) (.const (.int .i64 1))) (O1 1 20 35 .done))
abbrev g_rel_Rel_wide_l7:GC:=(.seq (.reg g_rel_Rel_wide_r3 [5,18,19,20,21]) (.seq (.cond (.tmp 21) .skip (.exit 0)) (.seq (.block 1 (.seq (.reg g_rel_Rel_wide_r4 [5,6,7,18,19,20]) (.reg g_rel_Rel_wide_r5 [5,18,19,20]))) (.reg g_rel_Rel_wide_r6 [5,18,19,20]))))
abbrev g_rel_Rel_wide_r8:GR:=(O1 0 36 5 (O1 1 4 36 .done))
abbrev g_rel_Rel_wide:GC:=(.seq (.reg g_rel_Rel_wide_r0 [0,1]) (.seq (.reg g_rel_Rel_wide_r1 [0,5]) (.seq (.seq (.reg g_rel_Rel_wide_r2 [5,18,19,20]) (.block 0 (.loop g_rel_Rel_wide_l7))) (.seq (.reg g_rel_Rel_wide_r8 [4]) .ret))))
abbrev rs_rel_Rel_wide:List RV:=[(.tmp 4)]
theorem gc_rel_Rel_wide:compileF Tryd.prog Tryd.f77 T_rel_Rel_wide=some (g_rel_Rel_wide,rs_rel_Rel_wide):=by kernel_rfl
theorem con_rel_Rel_wide (hv:vc Tryd.prog y g_rel_Rel_wide (retQ rs_rel_Rel_wide R) [(0,a0),(1,a1)] h):ConX y Tryd.prog 77 #[a0,a1] h R:=con_of Tryd.func77 gc_rel_Rel_wide rfl (fun h=>absurd h (by decide)) hv
def T_slices_Backward_1:List (Nat×List Nat):=[(0,[0,1,3]),(1,[0,1,3,8]),(2,[0,1,3]),(3,[0,1,3,18])]
abbrev g_slices_Backward_1_r0:GR:=(O2 0 4 1 (OP 1 5 (.len (.tmp 4)) (OP 2 6 (.bin .sub (.tmp 5) (.const (.int .i64 1))) (O1 3 3 6 .done))))
abbrev g_slices_Backward_1_r1:GR:=(O1 0 7 3 (OP 1 8 (.bin .geq (.tmp 7) (.const (.int .i64 0))) .done))
abbrev g_slices_Backward_1_r2:GR:=(O1 0 11 0 (O1 1 12 3 (O2 2 13 1 (O1 3 14 3 (O4 4 15 5 13 14 (OP 5 16 (.load (some 5) (.tmp 15)) (OP 6 17 (.callv (.tmp 11) [(.tmp 12),(.tmp 16)]) (OP 7 18 (.not (.tmp 17)) .done))))))))
abbrev g_slices_Backward_1_r3:GR:=(O1 0 9 3 (OP 1 10 (.bin .sub (.tmp 9) (.const (.int .i64 1))) (O1 2 3 10 .done)))
abbrev g_slices_Backward_1_l4:GC:=(.seq (.seq (.reg g_slices_Backward_1_r1 [0,1,3,8]) (.cond (.tmp 8) .skip (.exit 0))) (.seq (.block 1 (.seq (.reg g_slices_Backward_1_r2 [0,1,3,18]) (.cond (.tmp 18) .ret .skip))) (.reg g_slices_Backward_1_r3 [0,1,3])))
abbrev g_slices_Backward_1:GC:=(.seq (.reg g_slices_Backward_1_r0 [0,1,3]) (.block 0 (.loop g_slices_Backward_1_l4)))
abbrev rs_slices_Backward_1:List RV:=[]
theorem gc_slices_Backward_1:compileF Tryd.prog Tryd.f78 T_slices_Backward_1=some (g_slices_Backward_1,rs_slices_Backward_1):=by kernel_rfl
theorem con_slices_Backward_1 (hv:vc Tryd.prog y g_slices_Backward_1 (retQ rs_slices_Backward_1 R) [(0,a0),(1,a1)] h):ConX y Tryd.prog 78 #[a0,a1] h R:=con_of Tryd.func78 gc_slices_Backward_1 rfl (fun h=>absurd h (by decide)) hv
def T_slices_Contains:List (Nat×List Nat):=[(0,[0,1]),(1,[4])]
abbrev g_slices_Contains_r0:GR:=(OP 0 4 (.mv (.const (.bool false))) .done)
abbrev g_slices_Contains_r1:GR:=(O1 0 5 0 (O1 1 6 1 (OP 2 7 (.call 85 [(.tmp 5),(.tmp 6)]) (OP 3 8 (.bin .geq (.tmp 7) (.const (.int .i64 0))) (O1 4 4 8 .done)))))
abbrev g_slices_Contains:GC:=(.seq (.reg g_slices_Contains_r0 [0,1]) (.seq (.reg g_slices_Contains_r1 [4]) .ret))
abbrev rs_slices_Contains:List RV:=[(.tmp 4)]
theorem gc_slices_Contains:compileF Tryd.prog Tryd.f79 T_slices_Contains=some (g_slices_Contains,rs_slices_Contains):=by kernel_rfl
theorem con_slices_Contains (hv:vc Tryd.prog y g_slices_Contains (retQ rs_slices_Contains R) [(0,a0),(1,a1)] h):ConX y Tryd.prog 79 #[a0,a1] h R:=con_of Tryd.func79 gc_slices_Contains rfl (fun h=>absurd h (by decide)) hv
def T_graph_modes:List (Nat×List Nat):=[(0,[0,1]),(1,[0,1,5]),(2,[4]),(3,[0,1,12]),(4,[4]),(5,[0,1,16]),(6,[4]),(7,[0,1,23]),(8,[4]),(9,[0,27]),(10,[4]),(11,[34]),(12,[4]),(13,[4])]
abbrev g_graph_modes_r0:GR:=(OP 0 4 (.mv (.const (.slice none 0 0))) .done)
abbrev g_graph_modes_r1:GR:=(O1 0 6 0 (OP 1 7 (.bin .eql (.tmp 6) (.const (.int .i64 1))) (O1 2 8 7 (OG 3 9 8 true (.mv (.tmp 1)) (OP 4 10 (.pick (.tmp 8) (.tmp 9) (.const (.bool false))) (O1 5 5 10 .done))))))
abbrev g_graph_modes_r2:GR:=(OP 0 11 (.buildSlice 3 3 [(.int .i64 0),(.int .i64 0),(.int .i64 0)] [(0,(1,(.const (.int .i64 11)))),(1,(1,(.const (.int .i64 12)))),(2,(1,(.const (.int .i64 16))))]) (O1 1 4 11 .done))
abbrev g_graph_modes_r3:GR:=(O1 0 13 0 (OP 1 14 (.bin .eql (.tmp 13) (.const (.int .i64 1))) (O1 2 12 14 .done)))
abbrev g_graph_modes_r4:GR:=(OP 0 15 (.buildSlice 3 3 [(.int .i64 0),(.int .i64 0),(.int .i64 0)] [(0,(1,(.const (.int .i64 1)))),(1,(1,(.const (.int .i64 2)))),(2,(1,(.const (.int .i64 5))))]) (O1 1 4 15 .done))
abbrev g_graph_modes_r5:GR:=(O1 0 17 0 (OP 1 18 (.bin .eql (.tmp 17) (.const (.int .i64 2))) (O1 2 19 18 (OG 3 20 19 true (.mv (.tmp 1)) (OP 4 21 (.pick (.tmp 19) (.tmp 20) (.const (.bool false))) (O1 5 16 21 .done))))))
abbrev g_graph_modes_r6:GR:=(OP 0 22 (.buildSlice 3 2 [(.int .i64 0),(.int .i64 0)] [(0,(1,(.const (.int .i64 11)))),(1,(1,(.const (.int .i64 13))))]) (O1 1 4 22 .done))
abbrev g_graph_modes_r7:GR:=(O1 0 24 0 (OP 1 25 (.bin .eql (.tmp 24) (.const (.int .i64 2))) (O1 2 23 25 .done)))
abbrev g_graph_modes_r8:GR:=(OP 0 26 (.buildSlice 3 3 [(.int .i64 0),(.int .i64 0),(.int .i64 0)] [(0,(1,(.const (.int .i64 1)))),(1,(1,(.const (.int .i64 3)))),(2,(1,(.const (.int .i64 5))))]) (O1 1 4 26 .done))
abbrev g_graph_modes_r9:GR:=(O1 0 28 0 (OP 1 29 (.bin .eql (.tmp 28) (.const (.int .i64 3))) (O1 2 30 29 (OG 3 31 30 true (.mv (.tmp 1)) (OP 4 32 (.pick (.tmp 30) (.tmp 31) (.const (.bool false))) (O1 5 27 32 .done))))))
abbrev g_graph_modes_r10:GR:=(OP 0 33 (.buildSlice 3 2 [(.int .i64 0),(.int .i64 0)] [(0,(1,(.const (.int .i64 14)))),(1,(1,(.const (.int .i64 15))))]) (O1 1 4 33 .done))
abbrev g_graph_modes_r11:GR:=(O1 0 35 0 (OP 1 36 (.bin .eql (.tmp 35) (.const (.int .i64 3))) (O1 2 34 36 .done)))
abbrev g_graph_modes_r12:GR:=(OP 0 37 (.buildSlice 3 4 [(.int .i64 0),(.int .i64 0),(.int .i64 0),(.int .i64 0)] [(0,(1,(.const (.int .i64 2)))),(1,(1,(.const (.int .i64 3)))),(2,(1,(.const (.int .i64 4)))),(3,(1,(.const (.int .i64 5))))]) (O1 1 4 37 .done))
abbrev g_graph_modes_r13:GR:=(OP 0 4 (.mv (.const (.slice none 0 0))) .done)
abbrev g_graph_modes:GC:=(.seq (.reg g_graph_modes_r0 [0,1]) (.seq (.block 0 (.seq (.reg g_graph_modes_r1 [0,1,5]) (.cond (.tmp 5) (.seq (.reg g_graph_modes_r2 [4]) .ret) (.seq (.reg g_graph_modes_r3 [0,1,12]) (.cond (.tmp 12) (.seq (.reg g_graph_modes_r4 [4]) .ret) (.seq (.reg g_graph_modes_r5 [0,1,16]) (.cond (.tmp 16) (.seq (.reg g_graph_modes_r6 [4]) .ret) (.seq (.reg g_graph_modes_r7 [0,1,23]) (.cond (.tmp 23) (.seq (.reg g_graph_modes_r8 [4]) .ret) (.seq (.reg g_graph_modes_r9 [0,27]) (.cond (.tmp 27) (.seq (.reg g_graph_modes_r10 [4]) .ret) (.seq (.reg g_graph_modes_r11 [34]) (.cond (.tmp 34) (.seq (.reg g_graph_modes_r12 [4]) .ret) .skip))))))))))))) (.seq (.reg g_graph_modes_r13 [4]) .ret)))
abbrev rs_graph_modes:List RV:=[(.tmp 4)]
theorem gc_graph_modes:compileF Tryd.prog Tryd.f80 T_graph_modes=some (g_graph_modes,rs_graph_modes):=by kernel_rfl
theorem con_graph_modes (hv:vc Tryd.prog y g_graph_modes (retQ rs_graph_modes R) [(0,a0),(1,a1)] h):ConX y Tryd.prog 80 #[a0,a1] h R:=con_of Tryd.func80 gc_graph_modes rfl (fun h=>absurd h (by decide)) hv
def T_graph_look_is:List (Nat×List Nat):=[(0,[0,1,2]),(1,[6])]
abbrev g_graph_look_is_r0:GR:=(OP 0 6 (.mv (.const (.bool false))) .done)
abbrev g_graph_look_is_r1:GR:=(O1 0 7 1 (OP 1 8 (.bin .geq (.tmp 7) (.const (.int .i64 0))) (O1 2 9 8 (OG 3 10 9 true (.mv (.tmp 1)) (OG 4 11 9 true (.mv (.tmp 0)) (OG 5 12 9 true (.nilCheck (.tmp 11)) (OG 6 13 9 true (.fieldAddr 0 (.tmp 12)) (OG 7 14 9 true (.fieldAddr 1 (.tmp 13)) (OG 8 15 9 true (.load none (.tmp 14)) (OG 9 16 9 true (.len (.tmp 15)) (OG 10 17 9 true (.bin .lss (.tmp 10) (.tmp 16)) (OP 11 18 (.pick (.tmp 9) (.tmp 17) (.const (.bool false))) (O1 12 19 18 (OG 13 20 19 true (.mv (.tmp 0)) (OG 14 21 19 true (.nilCheck (.tmp 20)) (OG 15 22 19 true (.fieldAddr 0 (.tmp 21)) (OG 16 23 19 true (.fieldAddr 1 (.tmp 22)) (OG 17 24 19 true (.load none (.tmp 23)) (OG 18 25 19 true (.mv (.tmp 1)) (OG 19 26 19 true (.indexAddr 5 (.tmp 24) (.tmp 25)) (OG 20 27 19 true (.fieldAddr 1 (.tmp 26)) (OG 21 28 19 true (.load none (.tmp 27)) (OG 22 29 19 true (.mv (.tmp 2)) (OG 23 30 19 true (.bin .eql (.tmp 28) (.tmp 29)) (OP 24 31 (.pick (.tmp 19) (.tmp 30) (.const (.bool false))) (O1 25 6 31 .done))))))))))))))))))))))))))
abbrev g_graph_look_is:GC:=(.seq (.reg g_graph_look_is_r0 [0,1,2]) (.seq (.reg g_graph_look_is_r1 [6]) .ret))
abbrev rs_graph_look_is:List RV:=[(.tmp 6)]
theorem gc_graph_look_is:compileF Tryd.prog Tryd.f81 T_graph_look_is=some (g_graph_look_is,rs_graph_look_is):=by kernel_rfl
theorem con_graph_look_is (hv:vc Tryd.prog y g_graph_look_is (retQ rs_graph_look_is R) [(0,a0),(1,a1),(2,a2)] h):ConX y Tryd.prog 81 #[a0,a1,a2] h R:=con_of Tryd.func81 gc_graph_look_is rfl (fun h=>absurd h (by decide)) hv
def T_graph_look_po:List (Nat×List Nat):=[(0,[0,1,2]),(1,[1,2,7]),(2,[6])]
abbrev g_graph_look_po_r0:GR:=(OP 0 6 (.mv (.const (.bool false))) .done)
abbrev g_graph_look_po_r1:GR:=(O1 0 8 0 (OP 1 9 (.nilCheck (.tmp 8)) (O3 2 10 0 9 (O3 3 11 1 10 (O2 4 12 11 (O1 5 7 12 .done))))))
abbrev g_graph_look_po_r2:GR:=(O1 0 13 1 (OP 1 14 (.bin .geq (.tmp 13) (.const (.int .i64 0))) (O1 2 15 14 (OG 3 16 15 true (.mv (.tmp 1)) (OG 4 17 15 true (.mv (.tmp 2)) (OG 5 18 15 true (.bin .lss (.tmp 16) (.tmp 17)) (OP 6 19 (.pick (.tmp 15) (.tmp 18) (.const (.bool false))) (O1 7 20 19 (OG 8 21 20 true (.mv (.tmp 2)) (OG 9 22 20 true (.mv (.tmp 7)) (OG 10 23 20 true (.len (.tmp 22)) (OG 11 24 20 true (.bin .lss (.tmp 21) (.tmp 23)) (OP 12 25 (.pick (.tmp 20) (.tmp 24) (.const (.bool false))) (O1 13 26 25 (OG 14 27 26 true (.mv (.tmp 7)) (OG 15 28 26 true (.mv (.tmp 1)) (OG 16 29 26 true (.indexAddr 5 (.tmp 27) (.tmp 28)) (OG 17 30 26 true (.fieldAddr 0 (.tmp 29)) (.op (GI.mk 18 (some 31) (some (26,true)) (.load none (.tmp 30)) [] true) (OG 19 32 26 true (.bin .geq (.tmp 31) (.const (.int .i64 0))) (OP 20 33 (.pick (.tmp 26) (.tmp 32) (.const (.bool false))) (O1 21 34 33 (OG 22 35 34 true (.mv (.tmp 7)) (OG 23 36 34 true (.mv (.tmp 1)) (OG 24 37 34 true (.indexAddr 5 (.tmp 35) (.tmp 36)) (OG 25 38 34 true (.fieldAddr 0 (.tmp 37)) (.op (GI.mk 26 (some 39) (some (34,true)) (.load none (.tmp 38)) [] true) (OG 27 40 34 true (.mv (.tmp 7)) (OG 28 41 34 true (.mv (.tmp 2)) (OG 29 42 34 true (.indexAddr 5 (.tmp 40) (.tmp 41)) (OG 30 43 34 true (.fieldAddr 0 (.tmp 42)) (.op (GI.mk 31 (some 44) (some (34,true)) (.load none (.tmp 43)) [] true) (OG 32 45 34 true (.bin .eql (.tmp 39) (.tmp 44)) (OP 33 46 (.pick (.tmp 34) (.tmp 45) (.const (.bool false))) (O1 34 6 46 .done)))))))))))))))))))))))))))))))))))
abbrev g_graph_look_po:GC:=(.seq (.reg g_graph_look_po_r0 [0,1,2]) (.seq (.reg g_graph_look_po_r1 [1,2,7]) (.seq (.reg g_graph_look_po_r2 [6]) .ret)))
abbrev rs_graph_look_po:List RV:=[(.tmp 6)]
theorem gc_graph_look_po:compileF Tryd.prog Tryd.f82 T_graph_look_po=some (g_graph_look_po,rs_graph_look_po):=by kernel_rfl
theorem con_graph_look_po (hv:vc Tryd.prog y g_graph_look_po (retQ rs_graph_look_po R) [(0,a0),(1,a1),(2,a2)] h):ConX y Tryd.prog 82 #[a0,a1,a2] h R:=con_of Tryd.func82 gc_graph_look_po rfl (fun h=>absurd h (by decide)) hv
def T_slices_Values:List (Nat×List Nat):=[(0,[1]),(1,[2])]
abbrev g_slices_Values_r0:GR:=(OP 0 1 (.box 35 (.tmp 0)) (OP 1 2 (.mv (.const Value.nilFunc)) .done))
abbrev g_slices_Values_r1:GR:=(OP 0 3 (.makeFunc (Fn.func 86) [] [(.tmp 1)]) (O1 1 2 3 .done))
abbrev g_slices_Values:GC:=(.seq (.reg g_slices_Values_r0 [1]) (.seq (.reg g_slices_Values_r1 [2]) .ret))
abbrev rs_slices_Values:List RV:=[(.tmp 2)]
theorem gc_slices_Values:compileF Tryd.prog Tryd.f83 T_slices_Values=some (g_slices_Values,rs_slices_Values):=by kernel_rfl
theorem con_slices_Values (hv:vc Tryd.prog y g_slices_Values (retQ rs_slices_Values R) [(0,a0)] h):ConX y Tryd.prog 83 #[a0] h R:=con_of Tryd.func83 gc_slices_Values rfl (fun h=>absurd h (by decide)) hv
def T_slices_Collect:List (Nat×List Nat):=[(0,[0]),(1,[2])]
abbrev g_slices_Collect_r0:GR:=(OP 0 2 (.mv (.const (.slice none 0 0))) .done)
abbrev g_slices_Collect_r1:GR:=(O1 0 3 0 (OP 1 4 (.call 87 [(.const (.slice none 0 0)),(.tmp 3)]) (O1 2 2 4 .done)))
abbrev g_slices_Collect:GC:=(.seq (.reg g_slices_Collect_r0 [0]) (.seq (.reg g_slices_Collect_r1 [2]) .ret))
abbrev rs_slices_Collect:List RV:=[(.tmp 2)]
theorem gc_slices_Collect:compileF Tryd.prog Tryd.f84 T_slices_Collect=some (g_slices_Collect,rs_slices_Collect):=by kernel_rfl
theorem con_slices_Collect (hv:vc Tryd.prog y g_slices_Collect (retQ rs_slices_Collect R) [(0,a0)] h):ConX y Tryd.prog 84 #[a0] h R:=con_of Tryd.func84 gc_slices_Collect rfl (fun h=>absurd h (by decide)) hv
def T_slices_Index:List (Nat×List Nat):=[(0,[0,1]),(1,[0,1,7,8]),(2,[0,1,7,8,9]),(3,[0,1,5,7,8]),(4,[0,1,5,7,8,16]),(5,[4]),(6,[0,1,7,8]),(7,[4])]
abbrev g_slices_Index_r0:GR:=(OP 0 4 (.mv (.const (.int .i64 0))) .done)
abbrev g_slices_Index_r1:GR:=(O1 0 6 0 (OP 1 7 (.len (.tmp 6)) (OP 2 8 (.mv (.const (.int .i64 0))) .done)))
abbrev g_slices_Index_r2:GR:=(O5 0 9 .lss 8 7 .done)
abbrev g_slices_Index_r3:GR:=(O1 0 10 8 (O1 1 5 10 .done))
abbrev g_slices_Index_r4:GR:=(O1 0 11 1 (O1 1 12 0 (O1 2 13 5 (O4 3 14 1 12 13 (O2 4 15 14 (O5 5 16 .eql 11 15 .done))))))
abbrev g_slices_Index_r5:GR:=(O1 0 17 5 (O1 1 4 17 .done))
abbrev g_slices_Index_r6:GR:=(OP 0 18 (.bin .add (.tmp 8) (.const (.int .i64 1))) (O1 1 8 18 .done))
abbrev g_slices_Index_l7:GC:=(.seq (.reg g_slices_Index_r2 [0,1,7,8,9]) (.seq (.cond (.tmp 9) .skip (.exit 0)) (.seq (.block 1 (.seq (.reg g_slices_Index_r3 [0,1,5,7,8]) (.seq (.reg g_slices_Index_r4 [0,1,5,7,8,16]) (.cond (.tmp 16) (.seq (.reg g_slices_Index_r5 [4]) .ret) .skip)))) (.reg g_slices_Index_r6 [0,1,7,8]))))
abbrev g_slices_Index_r8:GR:=(OP 0 4 (.mv (.const (.int .i64 (-1)))) .done)
abbrev g_slices_Index:GC:=(.seq (.reg g_slices_Index_r0 [0,1]) (.seq (.seq (.reg g_slices_Index_r1 [0,1,7,8]) (.block 0 (.loop g_slices_Index_l7))) (.seq (.reg g_slices_Index_r8 [4]) .ret)))
abbrev rs_slices_Index:List RV:=[(.tmp 4)]
theorem gc_slices_Index:compileF Tryd.prog Tryd.f85 T_slices_Index=some (g_slices_Index,rs_slices_Index):=by kernel_rfl
theorem con_slices_Index (hv:vc Tryd.prog y g_slices_Index (retQ rs_slices_Index R) [(0,a0),(1,a1)] h):ConX y Tryd.prog 85 #[a0,a1] h R:=con_of Tryd.func85 gc_slices_Index rfl (fun h=>absurd h (by decide)) hv
def T_slices_Values_1:List (Nat×List Nat):=[(0,[0,5,6,7]),(1,[0,5,6,7,8]),(2,[0,4,5,6,7]),(3,[0,5,6,7,14]),(4,[0,5,6,7])]
abbrev g_slices_Values_1_r0:GR:=(O2 0 5 1 (OP 1 6 (.len (.tmp 5)) (OP 2 7 (.mv (.const (.int .i64 0))) .done)))
abbrev g_slices_Values_1_r1:GR:=(O5 0 8 .lss 7 6 .done)
abbrev g_slices_Values_1_r2:GR:=(O4 0 9 1 5 7 (O2 1 10 9 (O1 2 4 10 .done)))
abbrev g_slices_Values_1_r3:GR:=(O1 0 11 0 (O1 1 12 4 (OP 2 13 (.callv (.tmp 11) [(.tmp 12)]) (OP 3 14 (.not (.tmp 13)) .done))))
abbrev g_slices_Values_1_r4:GR:=(OP 0 15 (.bin .add (.tmp 7) (.const (.int .i64 1))) (O1 1 7 15 .done))
abbrev g_slices_Values_1_l5:GC:=(.seq (.reg g_slices_Values_1_r1 [0,5,6,7,8]) (.seq (.cond (.tmp 8) .skip (.exit 0)) (.seq (.block 1 (.seq (.reg g_slices_Values_1_r2 [0,4,5,6,7]) (.seq (.reg g_slices_Values_1_r3 [0,5,6,7,14]) (.cond (.tmp 14) .ret .skip)))) (.reg g_slices_Values_1_r4 [0,5,6,7]))))
abbrev g_slices_Values_1:GC:=(.seq (.reg g_slices_Values_1_r0 [0,5,6,7]) (.block 0 (.loop g_slices_Values_1_l5)))
abbrev rs_slices_Values_1:List RV:=[]
theorem gc_slices_Values_1:compileF Tryd.prog Tryd.f86 T_slices_Values_1=some (g_slices_Values_1,rs_slices_Values_1):=by kernel_rfl
theorem con_slices_Values_1 (hv:vc Tryd.prog y g_slices_Values_1 (retQ rs_slices_Values_1 R) [(0,a0),(1,a1)] h):ConX y Tryd.prog 86 #[a0,a1] h R:=con_of Tryd.func86 gc_slices_Values_1 rfl (fun h=>absurd h (by decide)) hv
def T_slices_AppendSeq:List (Nat×List Nat):=[(0,[1,2,4]),(1,[2,4,6]),(2,[2,5]),(3,[]),(4,[4])]
abbrev g_slices_AppendSeq_r0:GR:=(OP 0 2 (.box 35 (.tmp 0)) (OP 1 4 (.mv (.const (.slice none 0 0))) .done))
abbrev g_slices_AppendSeq_r1:GR:=(O1 0 6 1 .done)
abbrev g_slices_AppendSeq_r2:GR:=(O1 0 5 7 .done)
abbrev g_slices_AppendSeq_r3:GR:=(O2 0 8 2 (O1 1 9 5 (OP 2 10 (.buildSlice 3 1 [(.int .i64 0)] [(0,(1,(.tmp 9)))]) (OP 3 11 (.append 3 1 8 [(.int .i64 0)] (.tmp 8) (.tmp 10)) (OS 4 (.store 1 (.tmp 2) (.tmp 11)) .done)))))
abbrev g_slices_AppendSeq_b4:GC:=(.block 1 (.reg g_slices_AppendSeq_r3 []))
abbrev g_slices_AppendSeq_r5:GR:=(O2 0 12 2 (O1 1 4 12 .done))
abbrev g_slices_AppendSeq:GC:=(.seq (.reg g_slices_AppendSeq_r0 [1,2,4]) (.seq (.seq (.reg g_slices_AppendSeq_r1 [2,4,6]) (.block 0 (.rng (.tmp 6) [7] (.reg g_slices_AppendSeq_r2 [2,5]) g_slices_AppendSeq_b4))) (.seq (.reg g_slices_AppendSeq_r5 [4]) .ret)))
abbrev rs_slices_AppendSeq:List RV:=[(.tmp 4)]
theorem gc_slices_AppendSeq:compileF Tryd.prog Tryd.f87 T_slices_AppendSeq=some (g_slices_AppendSeq,rs_slices_AppendSeq):=by kernel_rfl
theorem con_slices_AppendSeq (hR:∀ v h1 h2,Ext h.size h1 h2→R v h1→R v h2) (hv:vc Tryd.prog y g_slices_AppendSeq (retQ rs_slices_AppendSeq R) [(0,a0),(1,a1)] h):ConX y Tryd.prog 87 #[a0,a1] h R:=con_of Tryd.func87 gc_slices_AppendSeq rfl (fun _=>hR) hv
end Go.Proofs.Tst
