/-
  The compiled forms of functions that the law reaches, each checked against the program by the kernel. No condition.
-/
import Derived.Test.YtmcghihgeibgpaaDoorV3
import Derived.Test.YtmcghihgeibgpaaDoorProg
set_option linter.all false
set_option maxRecDepth 2000
namespace Go.Proofs.Tst
open Go Go.Vc
variable {y : Option Nat} {a0 a1 a2 a3 a4 a5 a6 a7 : Value} {h : Heap} {R : Value → Heap → Prop}
def T_q43:List (Nat×List Nat):=[(0,[1]),(1,[1,3,4]),(2,[1,3,4,5,7]),(3,[1,3,4,5,7,37]),(4,[2]),(5,[1,3,4,5,57]),(6,[2]),(7,[1,3,8]),(8,[1,3,8,9]),(9,[1,3,8,9,79]),(10,[1,3,8,9]),(11,[1,3,8,9,105]),(12,[2]),(13,[1,3,8,9]),(14,[1,3,8,118]),(15,[2]),(16,[1,3,8,10]),(17,[1,3,8,10,122]),(18,[1,3,8,10]),(19,[1,3,8,10,11]),(20,[1,3,8,10,11,130]),(21,[1,3,8,10,11]),(22,[1,3,8,10,11,12]),(23,[1,3,8,10,11,12,13]),(24,[1,3,8,10,11,163]),(25,[2]),(26,[1,3,8,14]),(27,[1,3,8,14,168]),(28,[1,3,8,14]),(29,[1,3,8,14,15]),(30,[1,3,8,14,15,16]),(31,[1,3,8,14,15,16,17]),(32,[1,3,8,14,15,16,17,186]),(33,[1,3,8,14,15,16,17]),(34,[1,3,8,14,15,16,17,243]),(35,[2]),(36,[1,3,8,18]),(37,[1,3,8,18,248]),(38,[1,3,8,18]),(39,[1,3,8,18,270]),(40,[2]),(41,[1,3,8,19]),(42,[1,3,8,19,275]),(43,[1,3,8,19]),(44,[1,3,8,19,20]),(45,[1,3,8,19,20,285]),(46,[1,3,8,19,20]),(47,[1,3,8,19,20,311]),(48,[2]),(49,[1,3,21,22]),(50,[1,3,21,22,23,24]),(51,[2])]
abbrev g_q43_r0:GR:=(OP 0 1 (.box 26 (.tmp 0)) (OP 1 2 (.mv (.const (.bool false))) .done))
abbrev g_q43_r1:GR:=(OP 0 26 (.load (some 8) (.tmp 1)) (OP 1 27 (.call 23 [(.tmp 26)]) (O1 2 25 27 (OP 3 28 (.extract 0 (.tmp 25)) (OP 4 29 (.extract 1 (.tmp 25)) (O1 5 3 28 (O1 6 4 29 .done)))))))
abbrev g_q43_r2:GR:=(OP 0 31 (.load (some 8) (.tmp 1)) (OP 1 32 (.call 31 [(.tmp 31)]) (O1 2 30 32 (OP 3 33 (.extract 0 (.tmp 30)) (OP 4 34 (.extract 1 (.tmp 30)) (OP 5 35 (.extract 2 (.tmp 30)) (O1 6 5 33 (O1 7 6 34 (O1 8 7 35 .done)))))))))
abbrev g_q43_r3:GR:=(O1 0 36 7 (OP 1 37 (.bin .neq (.tmp 36) (K 0)) .done))
abbrev g_q43_r4:GR:=(O1 0 38 4 (O1 1 39 7 (O5 2 40 .eql 38 39 (O1 3 41 40 (OG 4 42 41 true (.mv (.tmp 3)) (OG 5 43 41 true (.len (.tmp 42)) (OG 6 44 41 true (.bin .eql (.tmp 43) (K 0)) (OP 7 45 (.pick (.tmp 41) (.tmp 44) (.const (.bool false))) (O1 8 46 45 (OG 9 47 46 true (.call 18 []) (OP 10 48 (.pick (.tmp 46) (.tmp 47) (.const (.bool false))) (O1 11 2 48 .done))))))))))))
abbrev g_q43_r5:GR:=(O1 0 49 4 (OP 1 50 (.bin .eql (.tmp 49) (K 0)) (O1 2 51 5 (OP 3 52 (.bin .eql (.tmp 51) (K 0)) (OP 4 53 (.eqBool true (.tmp 50) (.tmp 52)) (O1 5 54 53 (OG 6 55 54 false (.mv (.tmp 4)) (OG 7 56 54 false (.bin .neq (.tmp 55) (K 0)) (OP 8 57 (.pick (.tmp 54) (.const (.bool true)) (.tmp 56)) .done)))))))))
abbrev g_q43_r6:GR:=(O1 0 58 4 (OP 1 59 (.bin .eql (.tmp 58) (K 3)) (O1 2 60 59 (OG 3 61 60 true (.mv (.tmp 5)) (OG 4 62 60 true (.bin .neq (.tmp 61) (K 0)) (OP 5 63 (.pick (.tmp 60) (.tmp 62) (.const (.bool false))) (O1 6 64 63 (OG 7 65 64 true (.mv (.tmp 3)) (OG 8 66 64 true (.len (.tmp 65)) (OG 9 67 64 true (.bin .eql (.tmp 66) (K 0)) (OP 10 68 (.pick (.tmp 64) (.tmp 67) (.const (.bool false))) (O1 11 69 68 (OG 12 70 69 true (.call 18 []) (OP 13 71 (.pick (.tmp 69) (.tmp 70) (.const (.bool false))) (O1 14 2 71 .done)))))))))))))))
abbrev g_q43_r7:GR:=(O3 0 72 1 1 (O2 1 73 72 (OP 2 74 (.len (.tmp 73)) (OP 3 75 (.makeSlice 3 1 8 [(.int .i64 0)] (.tmp 74) (.tmp 74)) (O1 4 8 75 .done)))))
abbrev g_q43_r8:GR:=(OP 0 9 (.mv (K 0)) .done)
abbrev g_q43_r9:GR:=(O1 0 76 9 (O1 1 77 3 (OP 2 78 (.len (.tmp 77)) (O5 3 79 .lss 76 78 .done))))
abbrev g_q43_r10:GR:=(O1 0 82 3 (O1 1 83 9 (O4 2 84 1 82 83 (O2 3 85 84 (OP 4 86 (.bin .lss (.tmp 85) (K 0)) (O1 5 87 86 (OG 6 88 87 false (.mv (.tmp 3)) (OG 7 89 87 false (.mv (.tmp 9)) (OG 8 90 87 false (.indexAddr 1 (.tmp 88) (.tmp 89)) (OG 9 91 87 false (.load none (.tmp 90)) (OG 10 92 87 false (.mv (.tmp 8)) (OG 11 93 87 false (.len (.tmp 92)) (OG 12 94 87 false (.bin .geq (.tmp 91) (.tmp 93)) (OP 13 95 (.pick (.tmp 87) (.const (.bool true)) (.tmp 94)) (O1 14 96 95 (OG 15 97 96 false (.mv (.tmp 8)) (OG 16 98 96 false (.mv (.tmp 3)) (OG 17 99 96 false (.mv (.tmp 9)) (OG 18 100 96 false (.indexAddr 1 (.tmp 98) (.tmp 99)) (OG 19 101 96 false (.load none (.tmp 100)) (OG 20 102 96 false (.indexAddr 1 (.tmp 97) (.tmp 101)) (OG 21 103 96 false (.load none (.tmp 102)) (OG 22 104 96 false (.bin .neq (.tmp 103) (K 0)) (OP 23 105 (.pick (.tmp 96) (.const (.bool true)) (.tmp 104)) .done))))))))))))))))))))))))
abbrev g_q43_r11:GR:=(OP 0 2 (.mv (.const (.bool false))) .done)
abbrev g_q43_r12:GR:=(O1 0 106 8 (O1 1 107 3 (O1 2 108 9 (O4 3 109 1 107 108 (O2 4 110 109 (O1 5 111 9 (OP 6 112 (.bin .add (.tmp 111) (K 1)) (O4 7 113 1 106 110 (OS 8 (.store 1 (.tmp 113) (.tmp 112)) .done)))))))))
abbrev g_q43_r13:GR:=(O1 0 80 9 (OP 1 81 (.bin .add (.tmp 80) (K 1)) (O1 2 9 81 .done)))
abbrev g_q43_l14:GC:=(.seq (.seq (.reg g_q43_r9 [1,3,8,9,79]) (.cond (.tmp 79) .skip (.exit 0))) (.seq (.block 1 (.seq (.seq (.reg g_q43_r10 [1,3,8,9,105]) (.cond (.tmp 105) (.seq (.reg g_q43_r11 [2]) .ret) .skip)) (.reg g_q43_r12 [1,3,8,9]))) (.reg g_q43_r13 [1,3,8,9])))
abbrev g_q43_r15:GR:=(O1 0 114 3 (OP 1 115 (.len (.tmp 114)) (O1 2 116 8 (OP 3 117 (.len (.tmp 116)) (O5 4 118 .neq 115 117 .done)))))
abbrev g_q43_r16:GR:=(OP 0 2 (.mv (.const (.bool false))) .done)
abbrev g_q43_r17:GR:=(OP 0 10 (.mv (K 0)) .done)
abbrev g_q43_r18:GR:=(O1 0 119 10 (O1 1 120 8 (OP 2 121 (.len (.tmp 120)) (O5 3 122 .lss 119 121 .done))))
abbrev g_q43_r19:GR:=(O1 0 125 10 (OP 1 126 (.bin .add (.tmp 125) (K 1)) (O1 2 11 126 .done)))
abbrev g_q43_r20:GR:=(O1 0 127 11 (O1 1 128 8 (OP 2 129 (.len (.tmp 128)) (O5 3 130 .lss 127 129 .done))))
abbrev g_q43_r21:GR:=(O3 0 133 1 1 (O2 1 134 133 (O1 2 135 10 (O4 3 136 5 134 135 (OP 4 137 (.load (some 5) (.tmp 136)) (OP 5 12 (.alloc 36 [(.int .i64 0),(.int .i64 0),(.int .i64 0),(.int .u64 0),(.int .i64 0)]) (OS 6 (.store 5 (.tmp 12) (.tmp 137)) .done)))))))
abbrev g_q43_r22:GR:=(O3 0 138 1 1 (O2 1 139 138 (O1 2 140 11 (O4 3 141 5 139 140 (OP 4 142 (.load (some 5) (.tmp 141)) (OP 5 13 (.alloc 36 [(.int .i64 0),(.int .i64 0),(.int .i64 0),(.int .u64 0),(.int .i64 0)]) (OS 6 (.store 5 (.tmp 13) (.tmp 142)) .done)))))))
abbrev g_q43_r23:GR:=(O3 0 143 0 12 (O6 1 144 143 (OP 2 145 (.bin .lss (.tmp 144) (K 0)) (O1 3 146 145 (OG 4 147 146 false (.fieldAddr 0 (.tmp 12)) (.op (GI.mk 5 (some 148) (some (146,false)) (.load none (.tmp 147)) [] true) (OG 6 149 146 false (.fieldAddr 0 (.tmp 13)) (.op (GI.mk 7 (some 150) (some (146,false)) (.load none (.tmp 149)) [] true) (OG 8 151 146 false (.bin .eql (.tmp 148) (.tmp 150)) (OP 9 152 (.pick (.tmp 146) (.const (.bool true)) (.tmp 151)) (O1 10 153 152 (OG 11 154 153 true (.mv (.tmp 8)) (OG 12 155 153 true (.mv (.tmp 10)) (OG 13 156 153 true (.indexAddr 1 (.tmp 154) (.tmp 155)) (.op (GI.mk 14 (some 157) (some (153,true)) (.load none (.tmp 156)) [] true) (OG 15 158 153 true (.mv (.tmp 8)) (OG 16 159 153 true (.mv (.tmp 11)) (OG 17 160 153 true (.indexAddr 1 (.tmp 158) (.tmp 159)) (.op (GI.mk 18 (some 161) (some (153,true)) (.load none (.tmp 160)) [] true) (OG 19 162 153 true (.bin .gtr (.tmp 157) (.tmp 161)) (OP 20 163 (.pick (.tmp 153) (.tmp 162) (.const (.bool false))) .done)))))))))))))))))))))
abbrev g_q43_r24:GR:=(OP 0 2 (.mv (.const (.bool false))) .done)
abbrev g_q43_r25:GR:=(O1 0 131 11 (OP 1 132 (.bin .add (.tmp 131) (K 1)) (O1 2 11 132 .done)))
abbrev g_q43_l26:GC:=(.seq (.seq (.reg g_q43_r20 [1,3,8,10,11,130]) (.cond (.tmp 130) .skip (.exit 4))) (.seq (.block 5 (.seq (.reg g_q43_r21 [1,3,8,10,11,12]) (.seq (.reg g_q43_r22 [1,3,8,10,11,12,13]) (.seq (.reg g_q43_r23 [1,3,8,10,11,163]) (.cond (.tmp 163) (.seq (.reg g_q43_r24 [2]) .ret) .skip))))) (.reg g_q43_r25 [1,3,8,10,11])))
abbrev g_q43_r27:GR:=(O1 0 123 10 (OP 1 124 (.bin .add (.tmp 123) (K 1)) (O1 2 10 124 .done)))
abbrev g_q43_l28:GC:=(.seq (.seq (.reg g_q43_r18 [1,3,8,10,122]) (.cond (.tmp 122) .skip (.exit 2))) (.seq (.block 3 (.seq (.reg g_q43_r19 [1,3,8,10,11]) (.block 4 (.loop g_q43_l26)))) (.reg g_q43_r27 [1,3,8,10])))
abbrev g_q43_r29:GR:=(OP 0 14 (.mv (K 0)) .done)
abbrev g_q43_r30:GR:=(O1 0 164 14 (O3 1 165 2 1 (O2 2 166 165 (OP 3 167 (.len (.tmp 166)) (O5 4 168 .lss 164 167 .done)))))
abbrev g_q43_r31:GR:=(O3 0 171 2 1 (O2 1 172 171 (O1 2 173 14 (O4 3 174 2 172 173 (O3 4 175 0 174 (O2 5 176 175 (O1 6 15 176 .done)))))))
abbrev g_q43_r32:GR:=(O3 0 177 2 1 (O2 1 178 177 (O1 2 179 14 (O4 3 180 2 178 179 (O3 4 181 1 180 (O2 5 182 181 (O1 6 16 182 .done)))))))
abbrev g_q43_r33:GR:=(OP 0 17 (.mv (K 0)) .done)
abbrev g_q43_r34:GR:=(O1 0 183 17 (O1 1 184 8 (OP 2 185 (.len (.tmp 184)) (O5 3 186 .lss 183 185 .done))))
abbrev g_q43_r35:GR:=(O3 0 189 1 1 (O6 1 190 189 (O1 2 191 17 (O4 3 192 5 190 191 (O3 4 193 1 192 (O6 5 194 193 (OP 6 195 (.bin .eql (.tmp 194) (K 2)) (O1 7 196 195 (OG 8 197 196 true (.fieldAddr 1 (.tmp 1)) (.op (GI.mk 9 (some 198) (some (196,true)) (.load none (.tmp 197)) [] true) (OG 10 199 196 true (.mv (.tmp 17)) (OG 11 200 196 true (.indexAddr 5 (.tmp 198) (.tmp 199)) (OG 12 201 196 true (.fieldAddr 2 (.tmp 200)) (.op (GI.mk 13 (some 202) (some (196,true)) (.load none (.tmp 201)) [] true) (OG 14 203 196 true (.fieldAddr 1 (.tmp 1)) (.op (GI.mk 15 (some 204) (some (196,true)) (.load none (.tmp 203)) [] true) (OG 16 205 196 true (.mv (.tmp 16)) (OG 17 206 196 true (.indexAddr 5 (.tmp 204) (.tmp 205)) (OG 18 207 196 true (.fieldAddr 2 (.tmp 206)) (.op (GI.mk 19 (some 208) (some (196,true)) (.load none (.tmp 207)) [] true) (OG 20 209 196 true (.bin .eql (.tmp 202) (.tmp 208)) (OP 21 210 (.pick (.tmp 196) (.tmp 209) (.const (.bool false))) (O1 22 211 210 (OG 23 212 211 true (.mv (.tmp 8)) (OG 24 213 211 true (.mv (.tmp 17)) (OG 25 214 211 true (.indexAddr 1 (.tmp 212) (.tmp 213)) (.op (GI.mk 26 (some 215) (some (211,true)) (.load none (.tmp 214)) [] true) (OG 27 216 211 true (.mv (.tmp 8)) (OG 28 217 211 true (.mv (.tmp 16)) (OG 29 218 211 true (.indexAddr 1 (.tmp 216) (.tmp 217)) (.op (GI.mk 30 (some 219) (some (211,true)) (.load none (.tmp 218)) [] true) (OG 31 220 211 true (.bin .lss (.tmp 215) (.tmp 219)) (OP 32 221 (.pick (.tmp 211) (.tmp 220) (.const (.bool false))) (O1 33 222 221 (OG 34 223 222 true (.mv (.tmp 8)) (OG 35 224 222 true (.mv (.tmp 17)) (OG 36 225 222 true (.indexAddr 1 (.tmp 223) (.tmp 224)) (.op (GI.mk 37 (some 226) (some (222,true)) (.load none (.tmp 225)) [] true) (OG 38 227 222 true (.mv (.tmp 8)) (OG 39 228 222 true (.mv (.tmp 15)) (OG 40 229 222 true (.indexAddr 1 (.tmp 227) (.tmp 228)) (.op (GI.mk 41 (some 230) (some (222,true)) (.load none (.tmp 229)) [] true) (OG 42 231 222 true (.bin .gtr (.tmp 226) (.tmp 230)) (OP 43 232 (.pick (.tmp 222) (.tmp 231) (.const (.bool false))) (O1 44 233 232 (OG 45 234 233 false (.mv (.tmp 8)) (OG 46 235 233 false (.mv (.tmp 15)) (OG 47 236 233 false (.indexAddr 1 (.tmp 234) (.tmp 235)) (.op (GI.mk 48 (some 237) (some (233,false)) (.load none (.tmp 236)) [] true) (OG 49 238 233 false (.mv (.tmp 8)) (OG 50 239 233 false (.mv (.tmp 16)) (OG 51 240 233 false (.indexAddr 1 (.tmp 238) (.tmp 239)) (.op (GI.mk 52 (some 241) (some (233,false)) (.load none (.tmp 240)) [] true) (OG 53 242 233 false (.bin .gtr (.tmp 237) (.tmp 241)) (OP 54 243 (.pick (.tmp 233) (.const (.bool true)) (.tmp 242)) .done)))))))))))))))))))))))))))))))))))))))))))))))))))))))
abbrev g_q43_r36:GR:=(OP 0 2 (.mv (.const (.bool false))) .done)
abbrev g_q43_r37:GR:=(O1 0 187 17 (OP 1 188 (.bin .add (.tmp 187) (K 1)) (O1 2 17 188 .done)))
abbrev g_q43_l38:GC:=(.seq (.seq (.reg g_q43_r34 [1,3,8,14,15,16,17,186]) (.cond (.tmp 186) .skip (.exit 8))) (.seq (.block 9 (.seq (.reg g_q43_r35 [1,3,8,14,15,16,17,243]) (.cond (.tmp 243) (.seq (.reg g_q43_r36 [2]) .ret) .skip))) (.reg g_q43_r37 [1,3,8,14,15,16,17])))
abbrev g_q43_r39:GR:=(O1 0 169 14 (OP 1 170 (.bin .add (.tmp 169) (K 1)) (O1 2 14 170 .done)))
abbrev g_q43_l40:GC:=(.seq (.seq (.reg g_q43_r30 [1,3,8,14,168]) (.cond (.tmp 168) .skip (.exit 6))) (.seq (.block 7 (.seq (.reg g_q43_r31 [1,3,8,14,15]) (.seq (.reg g_q43_r32 [1,3,8,14,15,16]) (.seq (.reg g_q43_r33 [1,3,8,14,15,16,17]) (.block 8 (.loop g_q43_l38)))))) (.reg g_q43_r39 [1,3,8,14])))
abbrev g_q43_r41:GR:=(OP 0 18 (.mv (K 0)) .done)
abbrev g_q43_r42:GR:=(O1 0 244 18 (O3 1 245 4 1 (O2 2 246 245 (OP 3 247 (.len (.tmp 246)) (O5 4 248 .lss 244 247 .done)))))
abbrev g_q43_r43:GR:=(O1 0 251 8 (O3 1 252 4 1 (O6 2 253 252 (O1 3 254 18 (O4 4 255 2 253 254 (O3 5 256 1 255 (O6 6 257 256 (O4 7 258 1 251 257 (O6 8 259 258 (O1 9 260 8 (O3 10 261 4 1 (O6 11 262 261 (O1 12 263 18 (O4 13 264 2 262 263 (O3 14 265 0 264 (O6 15 266 265 (O4 16 267 1 260 266 (O6 17 268 267 (OP 18 269 (.bin .add (.tmp 268) (K 1)) (O5 19 270 .neq 259 269 .done))))))))))))))))))))
abbrev g_q43_r44:GR:=(OP 0 2 (.mv (.const (.bool false))) .done)
abbrev g_q43_r45:GR:=(O1 0 249 18 (OP 1 250 (.bin .add (.tmp 249) (K 1)) (O1 2 18 250 .done)))
abbrev g_q43_l46:GC:=(.seq (.seq (.reg g_q43_r42 [1,3,8,18,248]) (.cond (.tmp 248) .skip (.exit 10))) (.seq (.block 11 (.seq (.reg g_q43_r43 [1,3,8,18,270]) (.cond (.tmp 270) (.seq (.reg g_q43_r44 [2]) .ret) .skip))) (.reg g_q43_r45 [1,3,8,18])))
abbrev g_q43_r47:GR:=(OP 0 19 (.mv (K 0)) .done)
abbrev g_q43_r48:GR:=(O1 0 271 19 (O3 1 272 3 1 (O2 2 273 272 (OP 3 274 (.len (.tmp 273)) (O5 4 275 .lss 271 274 .done)))))
abbrev g_q43_r49:GR:=(OP 0 20 (.mv (K 1)) .done)
abbrev g_q43_r50:GR:=(O1 0 278 20 (O3 1 279 3 1 (O2 2 280 279 (O1 3 281 19 (O4 4 282 1 280 281 (O2 5 283 282 (OP 6 284 (.len (.tmp 283)) (O5 7 285 .lss 278 284 .done))))))))
abbrev g_q43_r51:GR:=(O1 0 288 8 (O3 1 289 3 1 (O6 2 290 289 (O1 3 291 19 (O4 4 292 1 290 291 (O6 5 293 292 (O1 6 294 20 (OP 7 295 (.bin .sub (.tmp 294) (K 1)) (O4 8 296 1 293 295 (O6 9 297 296 (O4 10 298 1 288 297 (O6 11 299 298 (O1 12 300 8 (O3 13 301 3 1 (O6 14 302 301 (O1 15 303 19 (O4 16 304 1 302 303 (O6 17 305 304 (O1 18 306 20 (O4 19 307 1 305 306 (O6 20 308 307 (O4 21 309 1 300 308 (O6 22 310 309 (O5 23 311 .gtr 299 310 .done))))))))))))))))))))))))
abbrev g_q43_r52:GR:=(OP 0 2 (.mv (.const (.bool false))) .done)
abbrev g_q43_r53:GR:=(O1 0 286 20 (OP 1 287 (.bin .add (.tmp 286) (K 1)) (O1 2 20 287 .done)))
abbrev g_q43_l54:GC:=(.seq (.seq (.reg g_q43_r50 [1,3,8,19,20,285]) (.cond (.tmp 285) .skip (.exit 14))) (.seq (.block 15 (.seq (.reg g_q43_r51 [1,3,8,19,20,311]) (.cond (.tmp 311) (.seq (.reg g_q43_r52 [2]) .ret) .skip))) (.reg g_q43_r53 [1,3,8,19,20])))
abbrev g_q43_r55:GR:=(O1 0 276 19 (OP 1 277 (.bin .add (.tmp 276) (K 1)) (O1 2 19 277 .done)))
abbrev g_q43_l56:GC:=(.seq (.seq (.reg g_q43_r48 [1,3,8,19,275]) (.cond (.tmp 275) .skip (.exit 12))) (.seq (.block 13 (.seq (.reg g_q43_r49 [1,3,8,19,20]) (.block 14 (.loop g_q43_l54)))) (.reg g_q43_r55 [1,3,8,19])))
abbrev g_q43_r57:GR:=(OP 0 313 (.load (some 8) (.tmp 1)) (O1 1 314 3 (OP 2 315 (.call 19 [(.tmp 313),(.tmp 314)]) (O1 3 312 315 (OP 4 316 (.extract 0 (.tmp 312)) (OP 5 317 (.extract 1 (.tmp 312)) (O1 6 21 316 (O1 7 22 317 .done))))))))
abbrev g_q43_r58:GR:=(OP 0 319 (.load (some 8) (.tmp 1)) (OP 1 320 (.call 32 [(.tmp 319)]) (O1 2 318 320 (OP 3 321 (.extract 0 (.tmp 318)) (OP 4 322 (.extract 1 (.tmp 318)) (O1 5 23 321 (O1 6 24 322 .done)))))))
abbrev g_q43_r59:GR:=(O1 0 323 22 (O1 1 324 323 (OG 2 325 324 true (.mv (.tmp 24)) (OG 3 326 324 true (.bin .eql (.tmp 325) (K 0)) (OP 4 327 (.pick (.tmp 324) (.tmp 326) (.const (.bool false))) (O1 5 328 327 (OG 6 329 328 true (.mv (.tmp 21)) (OG 7 330 328 true (.mv (.tmp 23)) (OG 8 331 328 true (.call 20 [(.tmp 329),(.tmp 330)]) (OP 9 332 (.pick (.tmp 328) (.tmp 331) (.const (.bool false))) (O1 10 333 332 (OG 11 334 333 true (.load (some 8) (.tmp 1)) (OG 12 335 333 true (.mv (.tmp 3)) (OG 13 336 333 true (.call 25 [(.tmp 334),(.tmp 335)]) (OP 14 337 (.pick (.tmp 333) (.tmp 336) (.const (.bool false))) (O1 15 338 337 (OG 16 339 338 true (.call 18 []) (OP 17 340 (.pick (.tmp 338) (.tmp 339) (.const (.bool false))) (O1 18 2 340 .done)))))))))))))))))))
abbrev g_q43:GC:=(.seq (.reg g_q43_r0 [1]) (.seq (.reg g_q43_r1 [1,3,4]) (.seq (.reg g_q43_r2 [1,3,4,5,7]) (.seq (.seq (.reg g_q43_r3 [1,3,4,5,7,37]) (.cond (.tmp 37) (.seq (.reg g_q43_r4 [2]) .ret) .skip)) (.seq (.seq (.reg g_q43_r5 [1,3,4,5,57]) (.cond (.tmp 57) (.seq (.reg g_q43_r6 [2]) .ret) .skip)) (.seq (.reg g_q43_r7 [1,3,8]) (.seq (.seq (.reg g_q43_r8 [1,3,8,9]) (.block 0 (.loop g_q43_l14))) (.seq (.seq (.reg g_q43_r15 [1,3,8,118]) (.cond (.tmp 118) (.seq (.reg g_q43_r16 [2]) .ret) .skip)) (.seq (.seq (.reg g_q43_r17 [1,3,8,10]) (.block 2 (.loop g_q43_l28))) (.seq (.seq (.reg g_q43_r29 [1,3,8,14]) (.block 6 (.loop g_q43_l40))) (.seq (.seq (.reg g_q43_r41 [1,3,8,18]) (.block 10 (.loop g_q43_l46))) (.seq (.seq (.reg g_q43_r47 [1,3,8,19]) (.block 12 (.loop g_q43_l56))) (.seq (.reg g_q43_r57 [1,3,21,22]) (.seq (.reg g_q43_r58 [1,3,21,22,23,24]) (.seq (.reg g_q43_r59 [2]) .ret)))))))))))))))
abbrev rs_q43:List RV:=[(.tmp 2)]
theorem gc_q43:compileF Tryd.prog Tryd.f8 T_q43=some (g_q43,rs_q43):=by kernel_rfl
theorem con_q43 (hv:vc Tryd.prog y g_q43 (retQ rs_q43 R) [(0,a0)] h):ConX y Tryd.prog 8 #[a0] h R:=con_of Tryd.func8 gc_q43 rfl (fun h=>absurd h (by decide)) hv
def T_q45:List (Nat×List Nat):=[(0,[0]),(1,[0])]
abbrev g_q45_r0:GR:=(OP 0 0 (.alloc 26 [(.int .i64 0),(.slice none 0 0),(.slice none 0 0),(.slice none 0 0),(.slice none 0 0),(.slice none 0 0),(.slice none 0 0),(.slice none 0 0)]) .done)
abbrev g_q45_r1:GR:=(OP 0 1 (.call 22 [(K 0),(K 2),(K 0),(.const (.int .u64 1))]) (OP 1 2 (.call 22 [(K 0),(K 1),(K 1),(.const (.int .u64 0))]) (OP 2 3 (.call 22 [(K 1),(K 2),(K 1),(.const (.int .u64 1))]) (OP 3 4 (.call 22 [(K 1),(K 1),(K 0),(.const (.int .u64 1))]) (OP 4 5 (.buildSlice 36 4 [(.int .i64 0),(.int .i64 0),(.int .i64 0),(.int .u64 0),(.int .i64 0),(.int .i64 0),(.int .i64 0),(.int .i64 0),(.int .u64 0),(.int .i64 0),(.int .i64 0),(.int .i64 0),(.int .i64 0),(.int .u64 0),(.int .i64 0),(.int .i64 0),(.int .i64 0),(.int .i64 0),(.int .u64 0),(.int .i64 0)] [(0,(5,(.tmp 1))),(5,(5,(.tmp 2))),(10,(5,(.tmp 3))),(15,(5,(.tmp 4)))]) (OP 5 6 (.build [(.int .i64 0),(.int .i64 0)] [(0,(1,(K 1))),(1,(1,(K 3)))]) (OP 6 7 (.build [(.int .i64 0),(.int .i64 0)] [(0,(1,(K 2))),(1,(1,(K 5)))]) (OP 7 8 (.buildSlice 38 2 [(.int .i64 0),(.int .i64 0),(.int .i64 0),(.int .i64 0)] [(0,(2,(.tmp 6))),(2,(2,(.tmp 7)))]) (OP 8 9 (.buildSlice 3 1 [(.int .i64 0)] [(0,(1,(K 2)))]) (OP 9 10 (.buildSlice 3 1 [(.int .i64 0)] [(0,(1,(K 4)))]) (OP 10 11 (.call 21 [(.tmp 5),(.tmp 8),(.tmp 9),(.tmp 10)]) (OS 11 (.store 8 (.tmp 0) (.tmp 11)) .done))))))))))))
abbrev g_q45:GC:=(.seq (.reg g_q45_r0 [0]) (.seq (.reg g_q45_r1 [0]) .ret))
abbrev rs_q45:List RV:=[(.cell 0 (some 8))]
theorem gc_q45:compileF Tryd.prog Tryd.f17 T_q45=some (g_q45,rs_q45):=by kernel_rfl
theorem con_q45 (hv:vc Tryd.prog y g_q45 (retQ rs_q45 R) [] h):ConX y Tryd.prog 17 #[] h R:=con_of Tryd.func17 gc_q45 rfl (fun h=>absurd h (by decide)) hv
def T_q47:List (Nat×List Nat):=[(0,[]),(1,[1,2]),(2,[1,2,3,4]),(3,[1,2,3,4,5,6]),(4,[0])]
abbrev g_q47_r0:GR:=(OP 0 0 (.mv (.const (.bool false))) .done)
abbrev g_q47_r1:GR:=(OP 0 8 (.call 17 []) (OP 1 9 (.call 23 [(.tmp 8)]) (O1 2 7 9 (OP 3 10 (.extract 0 (.tmp 7)) (OP 4 11 (.extract 1 (.tmp 7)) (O1 5 1 10 (O1 6 2 11 .done)))))))
abbrev g_q47_r2:GR:=(OP 0 13 (.call 17 []) (O1 1 14 1 (OP 2 15 (.call 19 [(.tmp 13),(.tmp 14)]) (O1 3 12 15 (OP 4 16 (.extract 0 (.tmp 12)) (OP 5 17 (.extract 1 (.tmp 12)) (O1 6 3 16 (O1 7 4 17 .done))))))))
abbrev g_q47_r3:GR:=(OP 0 19 (.call 17 []) (O1 1 20 1 (OP 2 21 (.call 28 [(.tmp 19),(.tmp 20)]) (O1 3 18 21 (OP 4 22 (.extract 0 (.tmp 18)) (OP 5 23 (.extract 1 (.tmp 18)) (O1 6 5 22 (O1 7 6 23 .done))))))))
abbrev g_q47_r4:GR:=(O1 0 24 2 (OP 1 25 (.bin .eql (.tmp 24) (K 0)) (O1 2 26 25 (OG 3 27 26 true (.mv (.tmp 1)) (OG 4 28 26 true (.buildSlice 3 6 [(.int .i64 0),(.int .i64 0),(.int .i64 0),(.int .i64 0),(.int .i64 0),(.int .i64 0)] [(0,(1,(K 0))),(1,(1,(K 1))),(2,(1,(K 2))),(3,(1,(K 3))),(4,(1,(K 4))),(5,(1,(K 5)))]) (OG 5 29 26 true (.call 24 [(.tmp 27),(.tmp 28)]) (OP 6 30 (.pick (.tmp 26) (.tmp 29) (.const (.bool false))) (O1 7 31 30 (OG 8 32 31 true (.mv (.tmp 4)) (OP 9 33 (.pick (.tmp 31) (.tmp 32) (.const (.bool false))) (O1 10 34 33 (OG 11 35 34 true (.mv (.tmp 3)) (OG 12 36 34 true (.buildSlice 34 2 [(.int .u64 0),(.int .u64 0)] [(0,(1,(.const (.int .u64 1)))),(1,(1,(.const (.int .u64 1))))]) (OG 13 37 34 true (.call 20 [(.tmp 35),(.tmp 36)]) (OP 14 38 (.pick (.tmp 34) (.tmp 37) (.const (.bool false))) (O1 15 39 38 (OG 16 40 39 true (.mv (.tmp 6)) (OG 17 41 39 true (.bin .eql (.tmp 40) (K 0)) (OP 18 42 (.pick (.tmp 39) (.tmp 41) (.const (.bool false))) (O1 19 43 42 (OG 20 44 43 true (.mv (.tmp 5)) (OG 21 45 43 true (.buildSlice 3 4 [(.int .i64 0),(.int .i64 0),(.int .i64 0),(.int .i64 0)] [(0,(1,(K 0))),(1,(1,(K 0))),(2,(1,(K 1))),(3,(1,(K 1)))]) (OG 22 46 43 true (.call 24 [(.tmp 44),(.tmp 45)]) (OP 23 47 (.pick (.tmp 43) (.tmp 46) (.const (.bool false))) (O1 24 48 47 (OG 25 49 48 true (.call 17 []) (OG 26 50 48 true (.mv (.tmp 1)) (OG 27 51 48 true (.call 25 [(.tmp 49),(.tmp 50)]) (OP 28 52 (.pick (.tmp 48) (.tmp 51) (.const (.bool false))) (O1 29 53 52 (OG 30 54 53 true (.call 17 []) (OG 31 55 53 true (.buildSlice 3 6 [(.int .i64 0),(.int .i64 0),(.int .i64 0),(.int .i64 0),(.int .i64 0),(.int .i64 0)] [(0,(1,(K 0))),(1,(1,(K 1))),(2,(1,(K 4))),(3,(1,(K 2))),(4,(1,(K 3))),(5,(1,(K 5)))]) (OG 32 56 53 true (.call 25 [(.tmp 54),(.tmp 55)]) (OG 33 57 53 true (.not (.tmp 56)) (OP 34 58 (.pick (.tmp 53) (.tmp 57) (.const (.bool false))) (O1 35 0 58 .done))))))))))))))))))))))))))))))))))))
abbrev g_q47:GC:=(.seq (.reg g_q47_r0 []) (.seq (.reg g_q47_r1 [1,2]) (.seq (.reg g_q47_r2 [1,2,3,4]) (.seq (.reg g_q47_r3 [1,2,3,4,5,6]) (.seq (.reg g_q47_r4 [0]) .ret)))))
abbrev rs_q47:List RV:=[(.tmp 0)]
theorem gc_q47:compileF Tryd.prog Tryd.f18 T_q47=some (g_q47,rs_q47):=by kernel_rfl
theorem con_q47 (hv:vc Tryd.prog y g_q47 (retQ rs_q47 R) [] h):ConX y Tryd.prog 18 #[] h R:=con_of Tryd.func18 gc_q47 rfl (fun h=>absurd h (by decide)) hv
def T_q160:List (Nat×List Nat):=[(0,[1,2]),(1,[1,2,7]),(2,[1,2,30]),(3,[4,5]),(4,[1,2,8]),(5,[1,2,8]),(6,[1,2,5,8]),(7,[2,5,8,33,34,35]),(8,[2,5,8,33,34,35,36]),(9,[2,5,8,10,33,34,35]),(10,[2,5,8,11,33,34,35]),(11,[2,5,8,11,12,13,33,34,35]),(12,[2,5,8,11,12,13,33,34,35,52]),(13,[2,5,8,11,12,13,33,34,35,52,53]),(14,[2,5,8,33,34,35]),(15,[2,5,8,11,12,13,33,34,35,60]),(16,[2,5,8,33,34,35]),(17,[2,5,8,33,34,35]),(18,[4,5,8]),(19,[4,5,8,77,78]),(20,[4,5,8,77,78,79]),(21,[4,5,8,14,77,78]),(22,[4,5,8,77,78]),(23,[4,5,8,77,78]),(24,[4,5])]
abbrev g_q160_r0:GR:=(OP 0 2 (.box 26 (.tmp 0)) (OP 1 4 (.mv (.const (.slice none 0 0))) (OP 2 5 (.mv (.const (.bool false))) .done)))
abbrev g_q160_r1:GR:=(OP 0 16 (.load (some 8) (.tmp 2)) (OP 1 17 (.call 54 [(.tmp 16)]) (O1 2 15 17 (OP 3 18 (.extract 0 (.tmp 15)) (OP 4 19 (.extract 1 (.tmp 15)) (OP 5 6 (.alloc 82 [(.pointer none),(.pointer none),(.pointer none),(.pointer none),(.pointer none),(.pointer none),(.pointer none),(.pointer none),(.pointer none),(.pointer none),(.slice none 0 0),(.slice none 0 0),(.slice none 0 0)]) (OS 6 (.store 13 (.tmp 6) (.tmp 18)) (O1 7 7 19 .done))))))))
abbrev g_q160_r2:GR:=(O1 0 20 7 (OP 1 21 (.bin .neq (.tmp 20) (K 0)) (O1 2 22 21 (OG 3 23 22 false (.fieldAddr 1 (.tmp 2)) (OG 4 24 22 false (.load none (.tmp 23)) (OG 5 25 22 false (.len (.tmp 24)) (OG 6 26 22 false (.call 56 [(.tmp 25)]) (OG 7 27 22 false (.mv (.tmp 1)) (OG 8 28 22 false (.call 55 [(.tmp 26),(.tmp 27)]) (OG 9 29 22 false (.not (.tmp 28)) (OP 10 30 (.pick (.tmp 22) (.const (.bool true)) (.tmp 29)) .done)))))))))))
abbrev g_q160_r3:GR:=(OP 0 4 (.mv (.const (.slice none 0 0))) (OP 1 5 (.mv (.const (.bool false))) .done))
abbrev g_q160_r4:GR:=(OP 0 31 .makeMap (O1 1 8 31 .done))
abbrev g_q160_r5:GR:=(O1 0 32 8 (OS 1 (.clearM (.tmp 32)) .done))
abbrev g_q160_r6:GR:=(OP 0 5 (.mv (.const (.bool true))) .done)
abbrev g_q160_r7:GR:=(O1 0 33 1 (OP 1 34 (.len (.tmp 33)) (OP 2 35 (.mv (K 0)) .done)))
abbrev g_q160_r8:GR:=(O5 0 36 .lss 35 34 .done)
abbrev g_q160_r9:GR:=(O4 0 37 1 33 35 (O2 1 38 37 (O1 2 10 38 .done)))
abbrev g_q160_r10:GR:=(O3 0 39 1 2 (O2 1 40 39 (O1 2 41 10 (O4 3 42 5 40 41 (OP 4 43 (.load (some 5) (.tmp 42)) (OP 5 11 (.alloc 36 [(.int .i64 0),(.int .i64 0),(.int .i64 0),(.int .u64 0),(.int .i64 0)]) (OS 6 (.store 5 (.tmp 11) (.tmp 43)) .done)))))))
abbrev g_q160_r11:GR:=(O1 0 45 8 (O3 1 46 2 11 (O2 2 47 46 (OP 3 48 (.lookup true (.int .u64 0) (.tmp 45) (.tmp 47)) (O1 4 44 48 (OP 5 49 (.extract 0 (.tmp 44)) (OP 6 50 (.extract 1 (.tmp 44)) (O1 7 12 49 (O1 8 13 50 .done)))))))))
abbrev g_q160_r12:GR:=(O3 0 51 1 11 (O2 1 52 51 .done))
abbrev g_q160_r13:GR:=(OP 0 54 (.bin .eql (.tmp 52) (K 2)) (O1 1 53 54 .done))
abbrev g_q160_r14:GR:=(O1 0 55 8 (O3 1 56 2 11 (O2 2 57 56 (O3 3 58 3 11 (O2 4 59 58 (OS 5 (.mapSet (.tmp 55) (.tmp 57) (.tmp 59)) .done))))))
abbrev g_q160_r15:GR:=(OP 0 61 (.bin .eql (.tmp 52) (K 1)) (O1 1 60 61 .done))
abbrev g_q160_r16:GR:=(O1 0 62 5 (O1 1 63 62 (OG 2 64 63 true (.mv (.tmp 13)) (OP 3 65 (.pick (.tmp 63) (.tmp 64) (.const (.bool false))) (O1 4 66 65 (OG 5 67 66 true (.mv (.tmp 12)) (OG 6 68 66 true (.fieldAddr 3 (.tmp 11)) (OG 7 69 66 true (.load none (.tmp 68)) (OG 8 70 66 true (.bin .eql (.tmp 67) (.tmp 69)) (OP 9 71 (.pick (.tmp 66) (.tmp 70) (.const (.bool false))) (O1 10 5 71 .done)))))))))))
abbrev g_q160_r17:GR:=(OP 0 72 (.bin .add (.tmp 35) (K 1)) (O1 1 35 72 .done))
abbrev g_q160_l18:GC:=(.seq (.reg g_q160_r8 [2,5,8,33,34,35,36]) (.seq (.cond (.tmp 36) .skip (.exit 0)) (.seq (.block 1 (.seq (.reg g_q160_r9 [2,5,8,10,33,34,35]) (.seq (.reg g_q160_r10 [2,5,8,11,33,34,35]) (.seq (.reg g_q160_r11 [2,5,8,11,12,13,33,34,35]) (.seq (.reg g_q160_r12 [2,5,8,11,12,13,33,34,35,52]) (.block 2 (.seq (.reg g_q160_r13 [2,5,8,11,12,13,33,34,35,52,53]) (.cond (.tmp 53) (.reg g_q160_r14 [2,5,8,33,34,35]) (.seq (.reg g_q160_r15 [2,5,8,11,12,13,33,34,35,60]) (.cond (.tmp 60) (.reg g_q160_r16 [2,5,8,33,34,35]) .skip)))))))))) (.reg g_q160_r17 [2,5,8,33,34,35]))))
abbrev g_q160_r19:GR:=(O3 0 73 0 2 (O2 1 74 73 (OP 2 75 (.makeSlice 34 1 8 [(.int .u64 0)] (.tmp 74) (.tmp 74)) (O1 3 4 75 .done))))
abbrev g_q160_r20:GR:=(O1 0 76 4 (OP 1 77 (.len (.tmp 76)) (OP 2 78 (.mv (K 0)) .done)))
abbrev g_q160_r21:GR:=(O5 0 79 .lss 78 77 .done)
abbrev g_q160_r22:GR:=(O1 0 80 78 (O1 1 14 80 .done))
abbrev g_q160_r23:GR:=(O1 0 81 4 (O1 1 82 14 (O1 2 83 8 (O1 3 84 14 (OP 4 85 (.lookup false (.int .u64 0) (.tmp 83) (.tmp 84)) (O4 5 86 1 81 82 (OS 6 (.store 1 (.tmp 86) (.tmp 85)) .done)))))))
abbrev g_q160_r24:GR:=(OP 0 87 (.bin .add (.tmp 78) (K 1)) (O1 1 78 87 .done))
abbrev g_q160_l25:GC:=(.seq (.reg g_q160_r21 [4,5,8,77,78,79]) (.seq (.cond (.tmp 79) .skip (.exit 3)) (.seq (.block 4 (.seq (.reg g_q160_r22 [4,5,8,14,77,78]) (.reg g_q160_r23 [4,5,8,77,78]))) (.reg g_q160_r24 [4,5,8,77,78]))))
abbrev g_q160_r26:GR:=(O1 0 88 4 (O1 1 89 5 (O1 2 4 88 (O1 3 5 89 .done))))
abbrev g_q160:GC:=(.seq (.reg g_q160_r0 [1,2]) (.seq (.seq (.reg g_q160_r1 [1,2,7]) (.seq (.reg g_q160_r2 [1,2,30]) (.cond (.tmp 30) (.seq (.reg g_q160_r3 [4,5]) .ret) .skip))) (.seq (.reg g_q160_r4 [1,2,8]) (.seq (.reg g_q160_r5 [1,2,8]) (.seq (.reg g_q160_r6 [1,2,5,8]) (.seq (.seq (.reg g_q160_r7 [2,5,8,33,34,35]) (.block 0 (.loop g_q160_l18))) (.seq (.reg g_q160_r19 [4,5,8]) (.seq (.seq (.reg g_q160_r20 [4,5,8,77,78]) (.block 3 (.loop g_q160_l25))) (.seq (.reg g_q160_r26 [4,5]) .ret)))))))))
abbrev rs_q160:List RV:=[(.tmp 4),(.tmp 5)]
theorem gc_q160:compileF Tryd.prog Tryd.f19 T_q160=some (g_q160,rs_q160):=by kernel_rfl
theorem con_q160 (hv:vc Tryd.prog y g_q160 (retQ rs_q160 R) [(0,a0),(1,a1)] h):ConX y Tryd.prog 19 #[a0,a1] h R:=con_of Tryd.func19 gc_q160 rfl (fun h=>absurd h (by decide)) hv
def T_q49:List (Nat×List Nat):=[(0,[0,1]),(1,[0,1,10]),(2,[4]),(3,[0,1,5]),(4,[0,1,5,14]),(5,[0,1,5]),(6,[0,1,5,25]),(7,[4]),(8,[4])]
abbrev g_q49_r0:GR:=(OP 0 4 (.mv (.const (.bool false))) .done)
abbrev g_q49_r1:GR:=(O1 0 6 0 (OP 1 7 (.len (.tmp 6)) (O1 2 8 1 (OP 3 9 (.len (.tmp 8)) (O5 4 10 .neq 7 9 .done)))))
abbrev g_q49_r2:GR:=(OP 0 4 (.mv (.const (.bool false))) .done)
abbrev g_q49_r3:GR:=(OP 0 5 (.mv (K 0)) .done)
abbrev g_q49_r4:GR:=(O1 0 11 5 (O1 1 12 0 (OP 2 13 (.len (.tmp 12)) (O5 3 14 .lss 11 13 .done))))
abbrev g_q49_r5:GR:=(O1 0 17 0 (O1 1 18 5 (O4 2 19 1 17 18 (O6 3 20 19 (O1 4 21 1 (O1 5 22 5 (O4 6 23 1 21 22 (O6 7 24 23 (O5 8 25 .neq 20 24 .done)))))))))
abbrev g_q49_r6:GR:=(OP 0 4 (.mv (.const (.bool false))) .done)
abbrev g_q49_r7:GR:=(O1 0 15 5 (OP 1 16 (.bin .add (.tmp 15) (K 1)) (O1 2 5 16 .done)))
abbrev g_q49_l8:GC:=(.seq (.seq (.reg g_q49_r4 [0,1,5,14]) (.cond (.tmp 14) .skip (.exit 0))) (.seq (.block 1 (.seq (.reg g_q49_r5 [0,1,5,25]) (.cond (.tmp 25) (.seq (.reg g_q49_r6 [4]) .ret) .skip))) (.reg g_q49_r7 [0,1,5])))
abbrev g_q49_r9:GR:=(OP 0 4 (.mv (.const (.bool true))) .done)
abbrev g_q49:GC:=(.seq (.reg g_q49_r0 [0,1]) (.seq (.seq (.reg g_q49_r1 [0,1,10]) (.cond (.tmp 10) (.seq (.reg g_q49_r2 [4]) .ret) .skip)) (.seq (.seq (.reg g_q49_r3 [0,1,5]) (.block 0 (.loop g_q49_l8))) (.seq (.reg g_q49_r9 [4]) .ret))))
abbrev rs_q49:List RV:=[(.tmp 4)]
theorem gc_q49:compileF Tryd.prog Tryd.f20 T_q49=some (g_q49,rs_q49):=by kernel_rfl
theorem con_q49 (hv:vc Tryd.prog y g_q49 (retQ rs_q49 R) [(0,a0),(1,a1)] h):ConX y Tryd.prog 20 #[a0,a1] h R:=con_of Tryd.func20 gc_q49 rfl (fun h=>absurd h (by decide)) hv
def T_q48:List (Nat×List Nat):=[(0,[0,1,2,3,8]),(1,[0,2,3,8,9]),(2,[2,3,8,9]),(3,[2,3,8,9,10]),(4,[3,8,9,10]),(5,[3,8,9,10,11]),(6,[8,9,10,11]),(7,[8,9]),(8,[8])]
abbrev g_q48_r0:GR:=(OP 0 8 (.alloc 26 [(.int .i64 0),(.slice none 0 0),(.slice none 0 0),(.slice none 0 0),(.slice none 0 0),(.slice none 0 0),(.slice none 0 0),(.slice none 0 0)]) .done)
abbrev g_q48_r1:GR:=(OP 0 12 (.call 22 [(K (-1)),(K 2),(K 0),(.const (.int .u64 0))]) (OP 1 13 (.call 22 [(K (-1)),(K 2),(K 1),(.const (.int .u64 0))]) (OP 2 14 (.buildSlice 36 2 [(.int .i64 0),(.int .i64 0),(.int .i64 0),(.int .u64 0),(.int .i64 0),(.int .i64 0),(.int .i64 0),(.int .i64 0),(.int .u64 0),(.int .i64 0)] [(0,(5,(.tmp 12))),(5,(5,(.tmp 13)))]) (O1 3 15 1 (OP 4 16 (.build [(.int .i64 0),(.slice none 0 0),(.slice none 0 0),(.slice none 0 0),(.slice none 0 0),(.slice none 0 0),(.slice none 0 0),(.slice none 0 0)] [(0,(1,(K 2))),(1,(1,(.tmp 14))),(2,(1,(.tmp 15)))]) (OP 5 9 (.alloc 26 [(.int .i64 0),(.slice none 0 0),(.slice none 0 0),(.slice none 0 0),(.slice none 0 0),(.slice none 0 0),(.slice none 0 0),(.slice none 0 0)]) (OS 6 (.store 8 (.tmp 9) (.tmp 16)) .done)))))))
abbrev g_q48_r2:GR:=(O3 0 17 1 9 (O2 1 18 17 (O1 2 19 0 (OP 3 20 (.append 36 5 40 [(.int .i64 0),(.int .i64 0),(.int .i64 0),(.int .u64 0),(.int .i64 0)] (.tmp 18) (.tmp 19)) (O3 4 21 1 9 (OS 5 (.store 1 (.tmp 21) (.tmp 20)) .done))))))
abbrev g_q48_r3:GR:=(OP 0 22 (.buildSlice 3 1 [(.int .i64 0)] [(0,(1,(K 0)))]) (O1 1 10 22 .done))
abbrev g_q48_r4:GR:=(O1 0 23 10 (O1 1 24 2 (OP 2 25 (.append 3 1 8 [(.int .i64 0)] (.tmp 23) (.tmp 24)) (O1 3 10 25 .done))))
abbrev g_q48_r5:GR:=(OP 0 26 (.buildSlice 3 1 [(.int .i64 0)] [(0,(1,(K 1)))]) (O1 1 11 26 .done))
abbrev g_q48_r6:GR:=(O1 0 27 11 (O1 1 28 3 (OP 2 29 (.append 3 1 8 [(.int .i64 0)] (.tmp 27) (.tmp 28)) (O1 3 11 29 .done))))
abbrev g_q48_r7:GR:=(O1 0 30 10 (O1 1 31 11 (OP 2 32 (.buildSlice 39 2 [(.slice none 0 0),(.slice none 0 0)] [(0,(1,(.tmp 30))),(1,(1,(.tmp 31)))]) (O3 3 33 3 9 (OS 4 (.store 1 (.tmp 33) (.tmp 32)) .done)))))
abbrev g_q48_r8:GR:=(OP 0 34 (.load (some 8) (.tmp 9)) (OS 1 (.store 8 (.tmp 8) (.tmp 34)) .done))
abbrev g_q48:GC:=(.seq (.reg g_q48_r0 [0,1,2,3,8]) (.seq (.reg g_q48_r1 [0,2,3,8,9]) (.seq (.reg g_q48_r2 [2,3,8,9]) (.seq (.reg g_q48_r3 [2,3,8,9,10]) (.seq (.reg g_q48_r4 [3,8,9,10]) (.seq (.reg g_q48_r5 [3,8,9,10,11]) (.seq (.reg g_q48_r6 [8,9,10,11]) (.seq (.reg g_q48_r7 [8,9]) (.seq (.reg g_q48_r8 [8]) .ret)))))))))
abbrev rs_q48:List RV:=[(.cell 8 (some 8))]
theorem gc_q48:compileF Tryd.prog Tryd.f21 T_q48=some (g_q48,rs_q48):=by kernel_rfl
theorem con_q48 (hv:vc Tryd.prog y g_q48 (retQ rs_q48 R) [(0,a0),(1,a1),(2,a2),(3,a3)] h):ConX y Tryd.prog 21 #[a0,a1,a2,a3] h R:=con_of Tryd.func21 gc_q48 rfl (fun h=>absurd h (by decide)) hv
def T_q44:List (Nat×List Nat):=[(0,[0,1,2,3,8]),(1,[8])]
abbrev g_q44_r0:GR:=(OP 0 8 (.alloc 36 [(.int .i64 0),(.int .i64 0),(.int .i64 0),(.int .u64 0),(.int .i64 0)]) .done)
abbrev g_q44_r1:GR:=(O1 0 9 0 (O1 1 10 1 (O1 2 11 2 (O1 3 12 3 (OP 4 13 (.build [(.int .i64 0),(.int .i64 0),(.int .i64 0),(.int .u64 0),(.int .i64 0)] [(0,(1,(.tmp 9))),(1,(1,(.tmp 10))),(2,(1,(.tmp 11))),(3,(1,(.tmp 12))),(4,(1,(K 1)))]) (OS 5 (.store 5 (.tmp 8) (.tmp 13)) .done))))))
abbrev g_q44:GC:=(.seq (.reg g_q44_r0 [0,1,2,3,8]) (.seq (.reg g_q44_r1 [8]) .ret))
abbrev rs_q44:List RV:=[(.cell 8 (some 5))]
theorem gc_q44:compileF Tryd.prog Tryd.f22 T_q44=some (g_q44,rs_q44):=by kernel_rfl
theorem con_q44 (hv:vc Tryd.prog y g_q44 (retQ rs_q44 R) [(0,a0),(1,a1),(2,a2),(3,a3)] h):ConX y Tryd.prog 22 #[a0,a1,a2,a3] h R:=con_of Tryd.func22 gc_q44 rfl (fun h=>absurd h (by decide)) hv
def T_q158:List (Nat×List Nat):=[(0,[1]),(1,[1,4,6]),(2,[1,4,6,15]),(3,[2,3]),(4,[1,18]),(5,[2,3]),(6,[1,6,7]),(7,[1,6,7,25]),(8,[2,3]),(9,[2,3])]
abbrev g_q158_r0:GR:=(OP 0 1 (.box 26 (.tmp 0)) (OP 1 2 (.mv (.const (.slice none 0 0))) (OP 2 3 (.mv (K 0)) .done)))
abbrev g_q158_r1:GR:=(OP 0 9 (.load (some 8) (.tmp 1)) (OP 1 10 (.call 31 [(.tmp 9)]) (O1 2 8 10 (OP 3 11 (.extract 0 (.tmp 8)) (OP 4 12 (.extract 1 (.tmp 8)) (OP 5 13 (.extract 2 (.tmp 8)) (O1 6 4 11 (O1 7 5 12 (O1 8 6 13 .done)))))))))
abbrev g_q158_r2:GR:=(O1 0 14 6 (OP 1 15 (.bin .neq (.tmp 14) (K 0)) .done))
abbrev g_q158_r3:GR:=(O1 0 16 6 (OP 1 2 (.mv (.const (.slice none 0 0))) (O1 2 3 16 .done)))
abbrev g_q158_r4:GR:=(O1 0 17 4 (OP 1 18 (.bin .neq (.tmp 17) (K 0)) .done))
abbrev g_q158_r5:GR:=(OP 0 2 (.mv (.const (.slice none 0 0))) (OP 1 3 (.mv (K 3)) .done))
abbrev g_q158_r6:GR:=(OP 0 20 (.load (some 8) (.tmp 1)) (OP 1 21 (.call 54 [(.tmp 20)]) (O1 2 19 21 (OP 3 22 (.extract 0 (.tmp 19)) (OP 4 23 (.extract 1 (.tmp 19)) (OP 5 7 (.alloc 82 [(.pointer none),(.pointer none),(.pointer none),(.pointer none),(.pointer none),(.pointer none),(.pointer none),(.pointer none),(.pointer none),(.pointer none),(.slice none 0 0),(.slice none 0 0),(.slice none 0 0)]) (OS 6 (.store 13 (.tmp 7) (.tmp 22)) (O1 7 6 23 .done))))))))
abbrev g_q158_r7:GR:=(O1 0 24 6 (OP 1 25 (.bin .neq (.tmp 24) (K 0)) .done))
abbrev g_q158_r8:GR:=(O1 0 26 6 (OP 1 2 (.mv (.const (.slice none 0 0))) (O1 2 3 26 .done)))
abbrev g_q158_r9:GR:=(O3 0 27 0 7 (O6 1 28 27 (O3 2 29 1 7 (O6 3 30 29 (O3 4 31 2 7 (O6 5 32 31 (O3 6 33 3 7 (O6 7 34 33 (O3 10 37 4 1 (O6 11 38 37 (OP 8 35 (.buildSlice 80 4 [(.pointer none),(.pointer none),(.pointer none),(.pointer none)] [(0,(1,(.tmp 28))),(1,(1,(.tmp 30))),(2,(1,(.tmp 32))),(3,(1,(.tmp 34)))]) (.op (GI.mk 9 (some 36) none (.call 58 [(.tmp 35)]) [1,3,5,7,11] false) (.op (GI.mk 12 (some 39) none (.call 57 [(.tmp 36),(.tmp 38)]) [1,3,5,7] false) (OP 13 40 (.extract 0 (.tmp 39)) (OP 14 41 (.extract 1 (.tmp 39)) (O1 15 2 40 (O1 16 3 41 .done)))))))))))))))))
abbrev g_q158:GC:=(.seq (.reg g_q158_r0 [1]) (.seq (.reg g_q158_r1 [1,4,6]) (.seq (.seq (.reg g_q158_r2 [1,4,6,15]) (.cond (.tmp 15) (.seq (.reg g_q158_r3 [2,3]) .ret) .skip)) (.seq (.seq (.reg g_q158_r4 [1,18]) (.cond (.tmp 18) (.seq (.reg g_q158_r5 [2,3]) .ret) .skip)) (.seq (.reg g_q158_r6 [1,6,7]) (.seq (.seq (.reg g_q158_r7 [1,6,7,25]) (.cond (.tmp 25) (.seq (.reg g_q158_r8 [2,3]) .ret) .skip)) (.seq (.reg g_q158_r9 [2,3]) .ret)))))))
abbrev rs_q158:List RV:=[(.tmp 2),(.tmp 3)]
theorem gc_q158:compileF Tryd.prog Tryd.f23 T_q158=some (g_q158,rs_q158):=by kernel_rfl
theorem con_q158 (hv:vc Tryd.prog y g_q158 (retQ rs_q158 R) [(0,a0)] h):ConX y Tryd.prog 23 #[a0] h R:=con_of Tryd.func23 gc_q158 rfl (fun h=>absurd h (by decide)) hv
def T_q46:List (Nat×List Nat):=[(0,[0,1]),(1,[0,1,10]),(2,[4]),(3,[0,1,5]),(4,[0,1,5,14]),(5,[0,1,5]),(6,[0,1,5,25]),(7,[4]),(8,[4])]
abbrev g_q46_r0:GR:=(OP 0 4 (.mv (.const (.bool false))) .done)
abbrev g_q46_r1:GR:=(O1 0 6 0 (OP 1 7 (.len (.tmp 6)) (O1 2 8 1 (OP 3 9 (.len (.tmp 8)) (O5 4 10 .neq 7 9 .done)))))
abbrev g_q46_r2:GR:=(OP 0 4 (.mv (.const (.bool false))) .done)
abbrev g_q46_r3:GR:=(OP 0 5 (.mv (K 0)) .done)
abbrev g_q46_r4:GR:=(O1 0 11 5 (O1 1 12 0 (OP 2 13 (.len (.tmp 12)) (O5 3 14 .lss 11 13 .done))))
abbrev g_q46_r5:GR:=(O1 0 17 0 (O1 1 18 5 (O4 2 19 1 17 18 (O6 3 20 19 (O1 4 21 1 (O1 5 22 5 (O4 6 23 1 21 22 (O6 7 24 23 (O5 8 25 .neq 20 24 .done)))))))))
abbrev g_q46_r6:GR:=(OP 0 4 (.mv (.const (.bool false))) .done)
abbrev g_q46_r7:GR:=(O1 0 15 5 (OP 1 16 (.bin .add (.tmp 15) (K 1)) (O1 2 5 16 .done)))
abbrev g_q46_l8:GC:=(.seq (.seq (.reg g_q46_r4 [0,1,5,14]) (.cond (.tmp 14) .skip (.exit 0))) (.seq (.block 1 (.seq (.reg g_q46_r5 [0,1,5,25]) (.cond (.tmp 25) (.seq (.reg g_q46_r6 [4]) .ret) .skip))) (.reg g_q46_r7 [0,1,5])))
abbrev g_q46_r9:GR:=(OP 0 4 (.mv (.const (.bool true))) .done)
abbrev g_q46:GC:=(.seq (.reg g_q46_r0 [0,1]) (.seq (.seq (.reg g_q46_r1 [0,1,10]) (.cond (.tmp 10) (.seq (.reg g_q46_r2 [4]) .ret) .skip)) (.seq (.seq (.reg g_q46_r3 [0,1,5]) (.block 0 (.loop g_q46_l8))) (.seq (.reg g_q46_r9 [4]) .ret))))
abbrev rs_q46:List RV:=[(.tmp 4)]
theorem gc_q46:compileF Tryd.prog Tryd.f24 T_q46=some (g_q46,rs_q46):=by kernel_rfl
theorem con_q46 (hv:vc Tryd.prog y g_q46 (retQ rs_q46 R) [(0,a0),(1,a1)] h):ConX y Tryd.prog 24 #[a0,a1] h R:=con_of Tryd.func24 gc_q46 rfl (fun h=>absurd h (by decide)) hv
def T_q161:List (Nat×List Nat):=[(0,[1,2]),(1,[1,2,5,6]),(2,[1,2,40]),(3,[4]),(4,[1,2,7]),(5,[1,2,7,43,44,45]),(6,[1,2,7,43,44,45,46]),(7,[1,2,7,9,43,44,45]),(8,[1,2,7,43,44,45]),(9,[1,2,7,43,44,45]),(10,[1,2,7,10]),(11,[1,2,7,10,57,58,59]),(12,[1,2,7,10,57,58,59,60]),(13,[1,2,7,10,12,57,58,59]),(14,[1,2,7,10,57,58,59]),(15,[1,2,7,10,57,58,59]),(16,[1,2,7,10,13]),(17,[1,2,7,10,13,70,71,72]),(18,[1,2,7,10,13,70,71,72,73]),(19,[1,2,7,10,13,14,15,70,71,72]),(20,[1,2,7,10,13,14,15,16,70,71,72]),(21,[1,2,7,10,13,14,15,16,70,71,72,90]),(22,[4]),(23,[1,2,7,10,13,14,15,16,17,18,70,71,72]),(24,[1,2,7,10,13,14,15,16,17,70,71,72,97]),(25,[1,2,7,10,13,14,15,16,17,19,20,70,71,72]),(26,[1,2,7,10,13,14,15,16,70,71,72,111]),(27,[4]),(28,[1,2,7,10,13,14,15,16,21,22,70,71,72]),(29,[1,2,7,10,13,15,16,70,71,72,134]),(30,[4]),(31,[1,2,7,10,13,15,16,70,71,72,137]),(32,[1,2,7,10,13,70,71,72]),(33,[1,2,7,10,13,70,71,72]),(34,[4])]
abbrev g_q161_r0:GR:=(OP 0 2 (.box 26 (.tmp 0)) (OP 1 4 (.mv (.const (.bool false))) .done))
abbrev g_q161_r1:GR:=(OP 0 24 (.load (some 8) (.tmp 2)) (OP 1 25 (.call 54 [(.tmp 24)]) (O1 2 23 25 (OP 3 26 (.extract 0 (.tmp 23)) (OP 4 27 (.extract 1 (.tmp 23)) (OP 5 5 (.alloc 82 [(.pointer none),(.pointer none),(.pointer none),(.pointer none),(.pointer none),(.pointer none),(.pointer none),(.pointer none),(.pointer none),(.pointer none),(.slice none 0 0),(.slice none 0 0),(.slice none 0 0)]) (OS 6 (.store 13 (.tmp 5) (.tmp 26)) (O1 7 6 27 .done))))))))
abbrev g_q161_r2:GR:=(O1 0 28 6 (OP 1 29 (.bin .neq (.tmp 28) (K 0)) (O1 2 30 29 (OG 3 31 30 false (.fieldAddr 0 (.tmp 5)) (OG 4 32 30 false (.load none (.tmp 31)) (OG 5 33 30 false (.fieldAddr 2 (.tmp 5)) (OG 6 34 30 false (.load none (.tmp 33)) (OG 7 35 30 false (.buildSlice 80 2 [(.pointer none),(.pointer none)] [(0,(1,(.tmp 32))),(1,(1,(.tmp 34)))]) (OG 8 36 30 false (.call 58 [(.tmp 35)]) (OG 9 37 30 false (.mv (.tmp 1)) (OG 10 38 30 false (.call 55 [(.tmp 36),(.tmp 37)]) (OG 11 39 30 false (.not (.tmp 38)) (OP 12 40 (.pick (.tmp 30) (.const (.bool true)) (.tmp 39)) .done)))))))))))))
abbrev g_q161_r3:GR:=(OP 0 4 (.mv (.const (.bool false))) .done)
abbrev g_q161_r4:GR:=(OP 0 41 .makeMap (O1 1 7 41 .done))
abbrev g_q161_r5:GR:=(O3 0 42 2 2 (O2 1 43 42 (OP 2 44 (.len (.tmp 43)) (OP 3 45 (.mv (K 0)) .done))))
abbrev g_q161_r6:GR:=(O5 0 46 .lss 45 44 .done)
abbrev g_q161_r7:GR:=(O4 0 47 2 43 45 (OP 1 48 (.load (some 2) (.tmp 47)) (OP 2 9 (.alloc 38 [(.int .i64 0),(.int .i64 0)]) (OS 3 (.store 2 (.tmp 9) (.tmp 48)) .done))))
abbrev g_q161_r8:GR:=(O1 0 49 7 (O3 1 50 1 9 (O2 2 51 50 (O3 3 52 0 9 (O2 4 53 52 (OS 5 (.mapSet (.tmp 49) (.tmp 51) (.tmp 53)) .done))))))
abbrev g_q161_r9:GR:=(OP 0 54 (.bin .add (.tmp 45) (K 1)) (O1 1 45 54 .done))
abbrev g_q161_l10:GC:=(.seq (.reg g_q161_r6 [1,2,7,43,44,45,46]) (.seq (.cond (.tmp 46) .skip (.exit 0)) (.seq (.block 1 (.seq (.reg g_q161_r7 [1,2,7,9,43,44,45]) (.reg g_q161_r8 [1,2,7,43,44,45]))) (.reg g_q161_r9 [1,2,7,43,44,45]))))
abbrev g_q161_r11:GR:=(OP 0 55 .makeMap (O1 1 10 55 .done))
abbrev g_q161_r12:GR:=(O3 0 56 4 2 (O2 1 57 56 (OP 2 58 (.len (.tmp 57)) (OP 3 59 (.mv (K 0)) .done))))
abbrev g_q161_r13:GR:=(O5 0 60 .lss 59 58 .done)
abbrev g_q161_r14:GR:=(O4 0 61 2 57 59 (OP 1 62 (.load (some 2) (.tmp 61)) (OP 2 12 (.alloc 38 [(.int .i64 0),(.int .i64 0)]) (OS 3 (.store 2 (.tmp 12) (.tmp 62)) .done))))
abbrev g_q161_r15:GR:=(O1 0 63 10 (O3 1 64 0 12 (O2 2 65 64 (O3 3 66 1 12 (O2 4 67 66 (OS 5 (.mapSet (.tmp 63) (.tmp 65) (.tmp 67)) .done))))))
abbrev g_q161_r16:GR:=(OP 0 68 (.bin .add (.tmp 59) (K 1)) (O1 1 59 68 .done))
abbrev g_q161_l17:GC:=(.seq (.reg g_q161_r13 [1,2,7,10,57,58,59,60]) (.seq (.cond (.tmp 60) .skip (.exit 2)) (.seq (.block 3 (.seq (.reg g_q161_r14 [1,2,7,10,12,57,58,59]) (.reg g_q161_r15 [1,2,7,10,57,58,59]))) (.reg g_q161_r16 [1,2,7,10,57,58,59]))))
abbrev g_q161_r18:GR:=(OP 0 69 .makeMap (O1 1 13 69 .done))
abbrev g_q161_r19:GR:=(O1 0 70 1 (OP 1 71 (.len (.tmp 70)) (OP 2 72 (.mv (K 0)) .done)))
abbrev g_q161_r20:GR:=(O5 0 73 .lss 72 71 .done)
abbrev g_q161_r21:GR:=(O1 0 74 72 (O4 1 75 1 70 72 (O2 2 76 75 (O1 3 14 74 (O1 4 15 76 .done)))))
abbrev g_q161_r22:GR:=(O3 0 77 1 2 (O2 1 78 77 (O1 2 79 15 (O4 3 80 5 78 79 (OP 4 81 (.load (some 5) (.tmp 80)) (OP 5 16 (.alloc 36 [(.int .i64 0),(.int .i64 0),(.int .i64 0),(.int .u64 0),(.int .i64 0)]) (OS 6 (.store 5 (.tmp 16) (.tmp 81)) .done)))))))
abbrev g_q161_r23:GR:=(O1 0 82 14 (O3 1 83 0 2 (O2 2 84 83 (O5 3 85 .lss 82 84 (O1 4 86 85 (OG 5 87 86 true (.fieldAddr 0 (.tmp 16)) (OG 6 88 86 true (.load none (.tmp 87)) (OG 7 89 86 true (.bin .geq (.tmp 88) (K 0)) (OP 8 90 (.pick (.tmp 86) (.tmp 89) (.const (.bool false))) .done)))))))))
abbrev g_q161_r24:GR:=(OP 0 4 (.mv (.const (.bool false))) .done)
abbrev g_q161_r25:GR:=(O1 0 92 7 (O1 1 93 15 (OP 2 94 (.lookup true (.int .i64 0) (.tmp 92) (.tmp 93)) (O1 3 91 94 (OP 4 95 (.extract 0 (.tmp 91)) (OP 5 96 (.extract 1 (.tmp 91)) (O1 6 17 95 (O1 7 18 96 .done))))))))
abbrev g_q161_r26:GR:=(O1 0 97 18 .done)
abbrev g_q161_r27:GR:=(O1 0 99 13 (O3 1 100 2 16 (O2 2 101 100 (OP 3 102 (.lookup true (.int .i64 0) (.tmp 99) (.tmp 101)) (O1 4 98 102 (OP 5 103 (.extract 0 (.tmp 98)) (OP 6 104 (.extract 1 (.tmp 98)) (O1 7 19 103 (O1 8 20 104 .done)))))))))
abbrev g_q161_r28:GR:=(O1 0 105 20 (OP 1 106 (.not (.tmp 105)) (O1 2 107 106 (OG 3 108 107 false (.mv (.tmp 19)) (OG 4 109 107 false (.mv (.tmp 17)) (OG 5 110 107 false (.bin .neq (.tmp 108) (.tmp 109)) (OP 6 111 (.pick (.tmp 107) (.const (.bool true)) (.tmp 110)) .done)))))))
abbrev g_q161_r29:GR:=(OP 0 4 (.mv (.const (.bool false))) .done)
abbrev g_q161_r30:GR:=(O1 0 113 10 (O1 1 114 15 (OP 2 115 (.lookup true (.int .i64 0) (.tmp 113) (.tmp 114)) (O1 3 112 115 (OP 4 116 (.extract 0 (.tmp 112)) (OP 5 117 (.extract 1 (.tmp 112)) (O1 6 21 116 (O1 7 22 117 .done))))))))
abbrev g_q161_r31:GR:=(O1 0 118 22 (O1 1 119 118 (OG 2 120 119 true (.mv (.tmp 14)) (OG 3 121 119 true (.bin .add (.tmp 120) (K 1)) (OG 4 122 119 true (.mv (.tmp 1)) (OG 5 123 119 true (.len (.tmp 122)) (OG 6 124 119 true (.bin .eql (.tmp 121) (.tmp 123)) (OG 7 125 119 true (.mv (.tmp 124)) (OG 8 126 125 false (.mv (.tmp 1)) (OG 9 127 125 false (.mv (.tmp 14)) (OG 10 128 125 false (.bin .add (.tmp 127) (K 1)) (OG 11 129 125 false (.indexAddr 1 (.tmp 126) (.tmp 128)) (OG 12 130 125 false (.load none (.tmp 129)) (OG 13 131 125 false (.mv (.tmp 21)) (OG 14 132 125 false (.bin .neq (.tmp 130) (.tmp 131)) (OG 15 133 119 true (.pick (.tmp 125) (.const (.bool true)) (.tmp 132)) (OP 16 134 (.pick (.tmp 119) (.tmp 133) (.const (.bool false))) .done)))))))))))))))))
abbrev g_q161_r32:GR:=(OP 0 4 (.mv (.const (.bool false))) .done)
abbrev g_q161_r33:GR:=(O3 0 135 1 16 (O2 1 136 135 (OP 2 137 (.bin .eql (.tmp 136) (K 2)) .done)))
abbrev g_q161_r34:GR:=(O1 0 138 13 (O3 1 139 2 16 (O2 2 140 139 (O1 3 141 15 (OS 4 (.mapSet (.tmp 138) (.tmp 140) (.tmp 141)) .done)))))
abbrev g_q161_r35:GR:=(OP 0 142 (.bin .add (.tmp 72) (K 1)) (O1 1 72 142 .done))
abbrev g_q161_l36:GC:=(.seq (.reg g_q161_r20 [1,2,7,10,13,70,71,72,73]) (.seq (.cond (.tmp 73) .skip (.exit 4)) (.seq (.block 5 (.seq (.reg g_q161_r21 [1,2,7,10,13,14,15,70,71,72]) (.seq (.reg g_q161_r22 [1,2,7,10,13,14,15,16,70,71,72]) (.seq (.seq (.reg g_q161_r23 [1,2,7,10,13,14,15,16,70,71,72,90]) (.cond (.tmp 90) (.seq (.reg g_q161_r24 [4]) .ret) .skip)) (.seq (.seq (.reg g_q161_r25 [1,2,7,10,13,14,15,16,17,18,70,71,72]) (.seq (.reg g_q161_r26 [1,2,7,10,13,14,15,16,17,70,71,72,97]) (.cond (.tmp 97) (.seq (.reg g_q161_r27 [1,2,7,10,13,14,15,16,17,19,20,70,71,72]) (.seq (.reg g_q161_r28 [1,2,7,10,13,14,15,16,70,71,72,111]) (.cond (.tmp 111) (.seq (.reg g_q161_r29 [4]) .ret) .skip))) .skip))) (.seq (.seq (.reg g_q161_r30 [1,2,7,10,13,14,15,16,21,22,70,71,72]) (.seq (.reg g_q161_r31 [1,2,7,10,13,15,16,70,71,72,134]) (.cond (.tmp 134) (.seq (.reg g_q161_r32 [4]) .ret) .skip))) (.seq (.reg g_q161_r33 [1,2,7,10,13,15,16,70,71,72,137]) (.cond (.tmp 137) (.reg g_q161_r34 [1,2,7,10,13,70,71,72]) .skip)))))))) (.reg g_q161_r35 [1,2,7,10,13,70,71,72]))))
abbrev g_q161_r37:GR:=(OP 0 4 (.mv (.const (.bool true))) .done)
abbrev g_q161:GC:=(.seq (.reg g_q161_r0 [1,2]) (.seq (.reg g_q161_r1 [1,2,5,6]) (.seq (.seq (.reg g_q161_r2 [1,2,40]) (.cond (.tmp 40) (.seq (.reg g_q161_r3 [4]) .ret) .skip)) (.seq (.reg g_q161_r4 [1,2,7]) (.seq (.seq (.reg g_q161_r5 [1,2,7,43,44,45]) (.block 0 (.loop g_q161_l10))) (.seq (.reg g_q161_r11 [1,2,7,10]) (.seq (.seq (.reg g_q161_r12 [1,2,7,10,57,58,59]) (.block 2 (.loop g_q161_l17))) (.seq (.reg g_q161_r18 [1,2,7,10,13]) (.seq (.seq (.reg g_q161_r19 [1,2,7,10,13,70,71,72]) (.block 4 (.loop g_q161_l36))) (.seq (.reg g_q161_r37 [4]) .ret))))))))))
abbrev rs_q161:List RV:=[(.tmp 4)]
theorem gc_q161:compileF Tryd.prog Tryd.f25 T_q161=some (g_q161,rs_q161):=by kernel_rfl
theorem con_q161 (hv:vc Tryd.prog y g_q161 (retQ rs_q161 R) [(0,a0),(1,a1)] h):ConX y Tryd.prog 25 #[a0,a1] h R:=con_of Tryd.func25 gc_q161 rfl (fun h=>absurd h (by decide)) hv
def T_q159:List (Nat×List Nat):=[(0,[1,2]),(1,[1,2,6,7]),(2,[1,2,6,7,18]),(3,[4,5]),(4,[1,2,24]),(5,[4,5]),(6,[1,2,8]),(7,[2,8,25,26,27]),(8,[2,8,25,26,27,28]),(9,[2,8,10,25,26,27]),(10,[2,8,11,25,26,27]),(11,[2,8,11,25,26,27,38]),(12,[2,8,25,26,27]),(13,[2,8,25,26,27]),(14,[4,5])]
abbrev g_q159_r0:GR:=(OP 0 2 (.box 26 (.tmp 0)) (OP 1 4 (.mv (.const (.slice none 0 0))) (OP 2 5 (.mv (K 0)) .done)))
abbrev g_q159_r1:GR:=(OP 0 13 (.load (some 8) (.tmp 2)) (OP 1 14 (.call 54 [(.tmp 13)]) (O1 2 12 14 (OP 3 15 (.extract 0 (.tmp 12)) (OP 4 16 (.extract 1 (.tmp 12)) (OP 5 6 (.alloc 82 [(.pointer none),(.pointer none),(.pointer none),(.pointer none),(.pointer none),(.pointer none),(.pointer none),(.pointer none),(.pointer none),(.pointer none),(.slice none 0 0),(.slice none 0 0),(.slice none 0 0)]) (OS 6 (.store 13 (.tmp 6) (.tmp 15)) (O1 7 7 16 .done))))))))
abbrev g_q159_r2:GR:=(O1 0 17 7 (OP 1 18 (.bin .neq (.tmp 17) (K 0)) .done))
abbrev g_q159_r3:GR:=(O1 0 19 7 (OP 1 4 (.mv (.const (.slice none 0 0))) (O1 2 5 19 .done)))
abbrev g_q159_r4:GR:=(O3 0 20 0 6 (O2 1 21 20 (O1 2 22 1 (OP 3 23 (.call 55 [(.tmp 21),(.tmp 22)]) (OP 4 24 (.not (.tmp 23)) .done)))))
abbrev g_q159_r5:GR:=(OP 0 4 (.mv (.const (.slice none 0 0))) (OP 1 5 (.mv (K 3)) .done))
abbrev g_q159_r6:GR:=(OP 0 8 (.mv (.const (.slice none 0 0))) .done)
abbrev g_q159_r7:GR:=(O1 0 25 1 (OP 1 26 (.len (.tmp 25)) (OP 2 27 (.mv (K 0)) .done)))
abbrev g_q159_r8:GR:=(O5 0 28 .lss 27 26 .done)
abbrev g_q159_r9:GR:=(O4 0 29 1 25 27 (O2 1 30 29 (O1 2 10 30 .done)))
abbrev g_q159_r10:GR:=(O3 0 31 1 2 (O2 1 32 31 (O1 2 33 10 (O4 3 34 5 32 33 (O3 4 35 0 34 (O2 5 36 35 (O1 6 11 36 .done)))))))
abbrev g_q159_r11:GR:=(O1 0 37 11 (OP 1 38 (.bin .geq (.tmp 37) (K 0)) .done))
abbrev g_q159_r12:GR:=(O1 0 39 8 (O1 1 40 11 (OP 2 41 (.buildSlice 3 1 [(.int .i64 0)] [(0,(1,(.tmp 40)))]) (OP 3 42 (.append 3 1 8 [(.int .i64 0)] (.tmp 39) (.tmp 41)) (O1 4 8 42 .done)))))
abbrev g_q159_r13:GR:=(OP 0 43 (.bin .add (.tmp 27) (K 1)) (O1 1 27 43 .done))
abbrev g_q159_l14:GC:=(.seq (.reg g_q159_r8 [2,8,25,26,27,28]) (.seq (.cond (.tmp 28) .skip (.exit 0)) (.seq (.block 1 (.seq (.reg g_q159_r9 [2,8,10,25,26,27]) (.seq (.reg g_q159_r10 [2,8,11,25,26,27]) (.seq (.reg g_q159_r11 [2,8,11,25,26,27,38]) (.cond (.tmp 38) (.reg g_q159_r12 [2,8,25,26,27]) .skip))))) (.reg g_q159_r13 [2,8,25,26,27]))))
abbrev g_q159_r15:GR:=(O1 0 44 8 (O1 1 4 44 (OP 2 5 (.mv (K 0)) .done)))
abbrev g_q159:GC:=(.seq (.reg g_q159_r0 [1,2]) (.seq (.reg g_q159_r1 [1,2,6,7]) (.seq (.seq (.reg g_q159_r2 [1,2,6,7,18]) (.cond (.tmp 18) (.seq (.reg g_q159_r3 [4,5]) .ret) .skip)) (.seq (.seq (.reg g_q159_r4 [1,2,24]) (.cond (.tmp 24) (.seq (.reg g_q159_r5 [4,5]) .ret) .skip)) (.seq (.reg g_q159_r6 [1,2,8]) (.seq (.seq (.reg g_q159_r7 [2,8,25,26,27]) (.block 0 (.loop g_q159_l14))) (.seq (.reg g_q159_r15 [4,5]) .ret)))))))
abbrev rs_q159:List RV:=[(.tmp 4),(.tmp 5)]
theorem gc_q159:compileF Tryd.prog Tryd.f28 T_q159=some (g_q159,rs_q159):=by kernel_rfl
theorem con_q159 (hv:vc Tryd.prog y g_q159 (retQ rs_q159 R) [(0,a0),(1,a1)] h):ConX y Tryd.prog 28 #[a0,a1] h R:=con_of Tryd.func28 gc_q159 rfl (fun h=>absurd h (by decide)) hv
def T_q136:List (Nat×List Nat):=[(0,[1]),(1,[1,5,6]),(2,[1,5,6,13]),(3,[2,3,4]),(4,[2,3,4])]
abbrev g_q136_r0:GR:=(OP 0 1 (.box 26 (.tmp 0)) (OP 1 2 (.mv (K 0)) (OP 2 3 (.mv (.const (.slice none 0 0))) (OP 3 4 (.mv (K 0)) .done))))
abbrev g_q136_r1:GR:=(OP 0 8 (.load (some 8) (.tmp 1)) (OP 1 9 (.call 54 [(.tmp 8)]) (O1 2 7 9 (OP 3 10 (.extract 0 (.tmp 7)) (OP 4 11 (.extract 1 (.tmp 7)) (OP 5 5 (.alloc 82 [(.pointer none),(.pointer none),(.pointer none),(.pointer none),(.pointer none),(.pointer none),(.pointer none),(.pointer none),(.pointer none),(.pointer none),(.slice none 0 0),(.slice none 0 0),(.slice none 0 0)]) (OS 6 (.store 13 (.tmp 5) (.tmp 10)) (O1 7 6 11 .done))))))))
abbrev g_q136_r2:GR:=(O1 0 12 6 (OP 1 13 (.bin .neq (.tmp 12) (K 0)) .done))
abbrev g_q136_r3:GR:=(O1 0 14 6 (OP 1 2 (.mv (K 0)) (OP 2 3 (.mv (.const (.slice none 0 0))) (O1 3 4 14 .done))))
abbrev g_q136_r4:GR:=(OP 0 15 (.load (some 8) (.tmp 1)) (OP 1 16 (.load (some 13) (.tmp 5)) (OP 2 17 (.build [(.int .i64 0),(.slice none 0 0),(.slice none 0 0),(.slice none 0 0),(.slice none 0 0),(.slice none 0 0),(.slice none 0 0),(.slice none 0 0),(.pointer none),(.pointer none),(.pointer none),(.pointer none),(.pointer none),(.pointer none),(.pointer none),(.pointer none),(.pointer none),(.pointer none),(.slice none 0 0),(.slice none 0 0),(.slice none 0 0)] [(0,(8,(.tmp 15))),(8,(13,(.tmp 16)))]) (OP 3 18 (.build [(.int .i64 0),Value.nilFunc] [(0,(1,(K 1))),(1,(1,(.func 66)))]) (OP 4 19 (.build [(.int .i64 0),Value.nilFunc] [(0,(1,(K 2))),(1,(1,(.func 68)))]) (OP 5 20 (.buildSlice 104 2 [(.int .i64 0),Value.nilFunc,(.int .i64 0),Value.nilFunc] [(0,(2,(.tmp 18))),(2,(2,(.tmp 19)))]) (OP 6 21 (.call 65 [(.tmp 17),(.tmp 20)]) (OP 7 22 (.extract 0 (.tmp 21)) (OP 8 23 (.extract 1 (.tmp 21)) (OP 9 24 (.extract 2 (.tmp 21)) (O1 10 2 22 (O1 11 3 23 (O1 12 4 24 .done)))))))))))))
abbrev g_q136:GC:=(.seq (.reg g_q136_r0 [1]) (.seq (.reg g_q136_r1 [1,5,6]) (.seq (.seq (.reg g_q136_r2 [1,5,6,13]) (.cond (.tmp 13) (.seq (.reg g_q136_r3 [2,3,4]) .ret) .skip)) (.seq (.reg g_q136_r4 [2,3,4]) .ret))))
abbrev rs_q136:List RV:=[(.tmp 2),(.tmp 3),(.tmp 4)]
theorem gc_q136:compileF Tryd.prog Tryd.f31 T_q136=some (g_q136,rs_q136):=by kernel_rfl
theorem con_q136 (hv:vc Tryd.prog y g_q136 (retQ rs_q136 R) [(0,a0)] h):ConX y Tryd.prog 31 #[a0] h R:=con_of Tryd.func31 gc_q136 rfl (fun h=>absurd h (by decide)) hv
def T_q13:List (Nat×List Nat):=[(0,[1]),(1,[1,9]),(2,[2,3]),(3,[1,4]),(4,[1,4,14,15,16]),(5,[1,4,14,15,16,17]),(6,[1,4,5,6,14,15,16]),(7,[1,4,14,15,16]),(8,[1,4,14,15,16]),(9,[2,3])]
abbrev g_q13_r0:GR:=(OP 0 1 (.box 26 (.tmp 0)) (OP 1 2 (.mv (.const (.slice none 0 0))) (OP 2 3 (.mv (K 0)) .done)))
abbrev g_q13_r1:GR:=(OP 0 7 (.load (some 8) (.tmp 1)) (OP 1 8 (.call 69 [(.tmp 7)]) (OP 2 9 (.not (.tmp 8)) .done)))
abbrev g_q13_r2:GR:=(OP 0 2 (.mv (.const (.slice none 0 0))) (OP 1 3 (.mv (K 4)) .done))
abbrev g_q13_r3:GR:=(O3 0 10 0 1 (O2 1 11 10 (OP 2 12 (.makeSlice 34 1 8 [(.int .u64 0)] (.tmp 11) (.tmp 11)) (O1 3 4 12 .done))))
abbrev g_q13_r4:GR:=(O3 0 13 3 1 (O2 1 14 13 (OP 2 15 (.len (.tmp 14)) (OP 3 16 (.mv (K 0)) .done))))
abbrev g_q13_r5:GR:=(O5 0 17 .lss 16 15 .done)
abbrev g_q13_r6:GR:=(O1 0 18 16 (O4 1 19 1 14 16 (O2 2 20 19 (O1 3 5 18 (O1 4 6 20 .done)))))
abbrev g_q13_r7:GR:=(O1 0 21 4 (O1 1 22 5 (O3 2 23 1 1 (O6 3 24 23 (O1 4 25 6 (O1 5 26 6 (OP 6 27 (.len (.tmp 26)) (OP 7 28 (.bin .sub (.tmp 27) (K 1)) (O4 8 29 1 25 28 (O6 9 30 29 (O4 10 31 5 24 30 (O3 11 32 3 31 (O6 12 33 32 (O4 13 34 1 21 22 (OS 14 (.store 1 (.tmp 34) (.tmp 33)) .done)))))))))))))))
abbrev g_q13_r8:GR:=(OP 0 35 (.bin .add (.tmp 16) (K 1)) (O1 1 16 35 .done))
abbrev g_q13_l9:GC:=(.seq (.reg g_q13_r5 [1,4,14,15,16,17]) (.seq (.cond (.tmp 17) .skip (.exit 0)) (.seq (.block 1 (.seq (.reg g_q13_r6 [1,4,5,6,14,15,16]) (.reg g_q13_r7 [1,4,14,15,16]))) (.reg g_q13_r8 [1,4,14,15,16]))))
abbrev g_q13_r10:GR:=(O1 0 36 4 (O1 1 2 36 (OP 2 3 (.mv (K 0)) .done)))
abbrev g_q13:GC:=(.seq (.reg g_q13_r0 [1]) (.seq (.seq (.reg g_q13_r1 [1,9]) (.cond (.tmp 9) (.seq (.reg g_q13_r2 [2,3]) .ret) .skip)) (.seq (.reg g_q13_r3 [1,4]) (.seq (.seq (.reg g_q13_r4 [1,4,14,15,16]) (.block 0 (.loop g_q13_l9))) (.seq (.reg g_q13_r10 [2,3]) .ret)))))
abbrev rs_q13:List RV:=[(.tmp 2),(.tmp 3)]
theorem gc_q13:compileF Tryd.prog Tryd.f32 T_q13=some (g_q13,rs_q13):=by kernel_rfl
theorem con_q13 (hv:vc Tryd.prog y g_q13 (retQ rs_q13 R) [(0,a0)] h):ConX y Tryd.prog 32 #[a0] h R:=con_of Tryd.func32 gc_q13 rfl (fun h=>absurd h (by decide)) hv
def T_q11:List (Nat×List Nat):=[(0,[1,2,4,5]),(1,[1,2,4,5,42]),(2,[4,5]),(3,[1,2,4,5,6]),(4,[1,2,4,5,6,44]),(5,[1,2,4,5,6]),(6,[1,2,4,5,6,47,48]),(7,[1,2,4,5,6,47,48,49]),(8,[1,2,4,5,6,7,47,48]),(9,[1,2,4,5,6,7,47,48]),(10,[1,2,4,5,6,7,47,48,59]),(11,[4,5]),(12,[1,2,4,5,6,47,48]),(13,[2,4,5,8]),(14,[2,4,5,8,9]),(15,[2,4,5,8,9,73]),(16,[8,9,10,75]),(17,[8,9,10,11]),(18,[8,9,10,11]),(19,[8,9,10,11,12,13]),(20,[8,9,10,11,12,94]),(21,[9,10,11]),(22,[]),(23,[2,8,14]),(24,[2,8,14,109]),(25,[4,5]),(26,[2,8,15]),(27,[2,8,15,114]),(28,[4,5]),(29,[2,8,16]),(30,[2,8,16,119]),(31,[4,5]),(32,[2,8,17]),(33,[2,8,17,124]),(34,[4,5]),(35,[2,8,18]),(36,[2,8,18,132]),(37,[4,5]),(38,[2,8,19]),(39,[2,8,19,140]),(40,[4,5]),(41,[20]),(42,[20,148]),(43,[4,5]),(44,[4,5])]
abbrev g_q11_r0:GR:=(OP 0 2 (.box 26 (.tmp 0)) (OP 1 4 (.mv (K 0)) (OP 2 5 (.mv (K 0)) .done)))
abbrev g_q11_r1:GR:=(O3 0 21 0 2 (O2 1 22 21 (OP 2 23 (.bin .lss (.tmp 22) (K 0)) (O1 3 24 23 (OG 4 25 24 false (.fieldAddr 0 (.tmp 2)) (OG 5 26 24 false (.load none (.tmp 25)) (OG 6 27 24 false (.bin .gtr (.tmp 26) (K 4096)) (OP 7 28 (.pick (.tmp 24) (.const (.bool true)) (.tmp 27)) (O1 8 29 28 (OG 9 30 29 false (.fieldAddr 1 (.tmp 2)) (OG 10 31 29 false (.load none (.tmp 30)) (OG 11 32 29 false (.len (.tmp 31)) (OG 12 33 29 false (.fieldAddr 0 (.tmp 2)) (OG 13 34 29 false (.load none (.tmp 33)) (OG 14 35 29 false (.bin .lss (.tmp 32) (.tmp 34)) (OP 15 36 (.pick (.tmp 29) (.const (.bool true)) (.tmp 35)) (O1 16 37 36 (OG 17 38 37 false (.fieldAddr 1 (.tmp 2)) (OG 18 39 37 false (.load none (.tmp 38)) (OG 19 40 37 false (.len (.tmp 39)) (OG 20 41 37 false (.bin .gtr (.tmp 40) (K 256)) (OP 21 42 (.pick (.tmp 37) (.const (.bool true)) (.tmp 41)) .done))))))))))))))))))))))
abbrev g_q11_r2:GR:=(OP 0 4 (.mv (K 1)) (OP 1 5 (.mv (K 0)) .done))
abbrev g_q11_r3:GR:=(OP 0 43 (.build [(.int .i64 0),(.int .i64 0),(.int .i64 0),(.int .u64 0),(.int .i64 0)] [(0,(1,(K (-1)))),(1,(1,(K 2))),(4,(1,(K 1)))]) (OP 1 6 (.alloc 36 [(.int .i64 0),(.int .i64 0),(.int .i64 0),(.int .u64 0),(.int .i64 0)]) (OS 2 (.store 5 (.tmp 6) (.tmp 43)) .done)))
abbrev g_q11_r4:GR:=(O1 0 44 1 .done)
abbrev g_q11_r5:GR:=(O3 0 45 4 6 (OS 1 (.store 1 (.tmp 45) (K 11)) .done))
abbrev g_q11_r6:GR:=(O3 0 46 0 2 (O2 1 47 46 (OP 2 48 (.mv (K 0)) .done)))
abbrev g_q11_r7:GR:=(O5 0 49 .lss 48 47 .done)
abbrev g_q11_r8:GR:=(O1 0 50 48 (O1 1 7 50 .done))
abbrev g_q11_r9:GR:=(O1 0 51 7 (O3 1 52 2 6 (OS 2 (.store 1 (.tmp 52) (.tmp 51)) .done)))
abbrev g_q11_r10:GR:=(O3 0 53 1 2 (O6 1 54 53 (O1 2 55 7 (O4 3 56 5 54 55 (OW 4 57 (.load (some 5) (.tmp 56)) (OW 5 58 (.load (some 5) (.tmp 6)) (OP 6 59 (.eqStruct true [0,1,2,3,4] (.tmp 57) (.tmp 58)) .done)))))))
abbrev g_q11_r11:GR:=(O1 0 60 7 (OP 1 4 (.mv (K 2)) (O1 2 5 60 .done)))
abbrev g_q11_r12:GR:=(OP 0 61 (.bin .add (.tmp 48) (K 1)) (O1 1 48 61 .done))
abbrev g_q11_l13:GC:=(.seq (.reg g_q11_r7 [1,2,4,5,6,47,48,49]) (.seq (.cond (.tmp 49) .skip (.exit 0)) (.seq (.block 1 (.seq (.reg g_q11_r8 [1,2,4,5,6,7,47,48]) (.seq (.reg g_q11_r9 [1,2,4,5,6,7,47,48]) (.seq (.reg g_q11_r10 [1,2,4,5,6,7,47,48,59]) (.cond (.tmp 59) (.seq (.reg g_q11_r11 [4,5]) .ret) .skip))))) (.reg g_q11_r12 [1,2,4,5,6,47,48]))))
abbrev g_q11_r14:GR:=(OW 0 62 (.load (some 8) (.tmp 2)) (O1 1 63 1 (O3 2 64 1 2 (O6 3 65 64 (OP 4 66 (.len (.tmp 65)) (.two (OP 5 67 (.makeSlice 3 1 8 [(.int .i64 0)] (.tmp 66) (.tmp 66)) (OP 6 68 (.build [(.int .i64 0),(.slice none 0 0),(.slice none 0 0),(.slice none 0 0),(.slice none 0 0),(.slice none 0 0),(.slice none 0 0),(.slice none 0 0),(.bool false),(.slice none 0 0)] [(0,(8,(.tmp 62))),(8,(1,(.tmp 63))),(9,(1,(.tmp 67)))]) (.two (OP 7 69 (.box 126 (.tmp 68)) (OP 8 8 (.alloc 124 [(.pointer none)]) (OS 9 (.store 1 (.tmp 8) (.tmp 69)) .done))) (OP 8 8 (.alloc 124 [(.pointer none)]) (OP 7 69 (.box 126 (.tmp 68)) (OS 9 (.store 1 (.tmp 8) (.tmp 69)) .done)))))) (OP 8 8 (.alloc 124 [(.pointer none)]) (OP 5 67 (.makeSlice 3 1 8 [(.int .i64 0)] (.tmp 66) (.tmp 66)) (OP 6 68 (.build [(.int .i64 0),(.slice none 0 0),(.slice none 0 0),(.slice none 0 0),(.slice none 0 0),(.slice none 0 0),(.slice none 0 0),(.slice none 0 0),(.bool false),(.slice none 0 0)] [(0,(8,(.tmp 62))),(8,(1,(.tmp 63))),(9,(1,(.tmp 67)))]) (OP 7 69 (.box 126 (.tmp 68)) (OS 9 (.store 1 (.tmp 8) (.tmp 69)) .done)))))))))))
abbrev g_q11_r15:GR:=(OP 0 70 .makeMap (OP 1 9 (.alloc 92 [(Value.map none)]) (OS 2 (.store 1 (.tmp 9) (.tmp 70)) .done)))
abbrev g_q11_r16:GR:=(O3 0 71 1 2 (O2 1 72 71 (OP 2 73 (.call 81 [(.tmp 72)]) .done)))
abbrev g_q11_r17:GR:=(O1 0 10 74 .done)
abbrev g_q11_r18:GR:=(OP 0 11 (.alloc 36 [(.int .i64 0),(.int .i64 0),(.int .i64 0),(.int .u64 0),(.int .i64 0)]) (OS 1 (.store 5 (.tmp 11) (.tmp 75)) .done))
abbrev g_q11_r19:GR:=(O2 0 76 8 (OP 1 77 (.nilCheck (.tmp 76)) (O3 2 78 9 77 (O2 3 79 78 (O1 4 80 10 (O4 5 81 1 79 80 (OS 6 (.store 1 (.tmp 81) (K (-1))) .done)))))))
abbrev g_q11_r20:GR:=(O2 0 83 9 (O3 1 84 0 11 (O2 2 85 84 (OP 3 86 (.lookup true (.int .i64 0) (.tmp 83) (.tmp 85)) (O1 4 82 86 (OP 5 87 (.extract 0 (.tmp 82)) (OP 6 88 (.extract 1 (.tmp 82)) (O1 7 12 87 (O1 8 13 88 .done)))))))))
abbrev g_q11_r21:GR:=(O1 0 89 13 (O1 1 90 89 (OG 2 91 90 true (.fieldAddr 0 (.tmp 11)) (OG 3 92 90 true (.load none (.tmp 91)) (OG 4 93 90 true (.bin .geq (.tmp 92) (K 0)) (OP 5 94 (.pick (.tmp 90) (.tmp 93) (.const (.bool false))) .done))))))
abbrev g_q11_r22:GR:=(O2 0 95 8 (OP 1 96 (.nilCheck (.tmp 95)) (O3 2 97 9 96 (O2 3 98 97 (O1 4 99 10 (O1 5 100 12 (O4 6 101 1 98 99 (OS 7 (.store 1 (.tmp 101) (.tmp 100)) .done))))))))
abbrev g_q11_r23:GR:=(O2 0 102 9 (O3 1 103 0 11 (O2 2 104 103 (O1 3 105 10 (OS 4 (.mapSet (.tmp 102) (.tmp 104) (.tmp 105)) .done)))))
abbrev g_q11_b24:GC:=(.block 3 (.seq (.reg g_q11_r19 [8,9,10,11]) (.seq (.seq (.reg g_q11_r20 [8,9,10,11,12,13]) (.seq (.reg g_q11_r21 [8,9,10,11,12,94]) (.cond (.tmp 94) (.reg g_q11_r22 [9,10,11]) .skip))) (.reg g_q11_r23 []))))
abbrev g_q11_r25:GR:=(O2 0 106 8 (OP 1 107 (.call 82 [(.tmp 106)]) (O1 2 14 107 .done)))
abbrev g_q11_r26:GR:=(O1 0 108 14 (OP 1 109 (.bin .geq (.tmp 108) (K 0)) .done))
abbrev g_q11_r27:GR:=(O1 0 110 14 (OP 1 4 (.mv (K 3)) (O1 2 5 110 .done)))
abbrev g_q11_r28:GR:=(O2 0 111 8 (OP 1 112 (.call 83 [(.tmp 111)]) (O1 2 15 112 .done)))
abbrev g_q11_r29:GR:=(O1 0 113 15 (OP 1 114 (.bin .geq (.tmp 113) (K 0)) .done))
abbrev g_q11_r30:GR:=(O1 0 115 15 (OP 1 4 (.mv (K 4)) (O1 2 5 115 .done)))
abbrev g_q11_r31:GR:=(O2 0 116 8 (OP 1 117 (.call 84 [(.tmp 116)]) (O1 2 16 117 .done)))
abbrev g_q11_r32:GR:=(O1 0 118 16 (OP 1 119 (.bin .geq (.tmp 118) (K 0)) .done))
abbrev g_q11_r33:GR:=(O1 0 120 16 (OP 1 4 (.mv (K 5)) (O1 2 5 120 .done)))
abbrev g_q11_r34:GR:=(O2 0 121 8 (OP 1 122 (.call 85 [(.tmp 121)]) (O1 2 17 122 .done)))
abbrev g_q11_r35:GR:=(O1 0 123 17 (OP 1 124 (.bin .geq (.tmp 123) (K 0)) .done))
abbrev g_q11_r36:GR:=(O1 0 125 17 (OP 1 4 (.mv (K 6)) (O1 2 5 125 .done)))
abbrev g_q11_r37:GR:=(O2 0 126 8 (O3 1 127 5 2 (O2 2 128 127 (OP 3 129 (.buildSlice 3 2 [(.int .i64 0),(.int .i64 0)] [(0,(1,(K 1))),(1,(1,(K 2)))]) (OP 4 130 (.call 86 [(.tmp 126),(.tmp 128),(.tmp 129)]) (O1 5 18 130 .done))))))
abbrev g_q11_r38:GR:=(O1 0 131 18 (OP 1 132 (.bin .geq (.tmp 131) (K 0)) .done))
abbrev g_q11_r39:GR:=(O1 0 133 18 (OP 1 4 (.mv (K 7)) (O1 2 5 133 .done)))
abbrev g_q11_r40:GR:=(O2 0 134 8 (O3 1 135 6 2 (O2 2 136 135 (OP 3 137 (.buildSlice 3 1 [(.int .i64 0)] [(0,(1,(K 2)))]) (OP 4 138 (.call 86 [(.tmp 134),(.tmp 136),(.tmp 137)]) (O1 5 19 138 .done))))))
abbrev g_q11_r41:GR:=(O1 0 139 19 (OP 1 140 (.bin .geq (.tmp 139) (K 0)) .done))
abbrev g_q11_r42:GR:=(O1 0 141 19 (OP 1 4 (.mv (K 8)) (O1 2 5 141 .done)))
abbrev g_q11_r43:GR:=(O2 0 142 8 (O3 1 143 7 2 (O2 2 144 143 (OP 3 145 (.buildSlice 3 3 [(.int .i64 0),(.int .i64 0),(.int .i64 0)] [(0,(1,(K 1))),(1,(1,(K 2))),(2,(1,(K 3)))]) (OP 4 146 (.call 86 [(.tmp 142),(.tmp 144),(.tmp 145)]) (O1 5 20 146 .done))))))
abbrev g_q11_r44:GR:=(O1 0 147 20 (OP 1 148 (.bin .geq (.tmp 147) (K 0)) .done))
abbrev g_q11_r45:GR:=(O1 0 149 20 (OP 1 4 (.mv (K 9)) (O1 2 5 149 .done)))
abbrev g_q11_r46:GR:=(OP 0 4 (.mv (K 0)) (OP 1 5 (.mv (K 0)) .done))
abbrev g_q11:GC:=(.seq (.reg g_q11_r0 [1,2,4,5]) (.seq (.seq (.reg g_q11_r1 [1,2,4,5,42]) (.cond (.tmp 42) (.seq (.reg g_q11_r2 [4,5]) .ret) .skip)) (.seq (.reg g_q11_r3 [1,2,4,5,6]) (.seq (.seq (.reg g_q11_r4 [1,2,4,5,6,44]) (.cond (.tmp 44) (.reg g_q11_r5 [1,2,4,5,6]) .skip)) (.seq (.seq (.reg g_q11_r6 [1,2,4,5,6,47,48]) (.block 0 (.loop g_q11_l13))) (.seq (.reg g_q11_r14 [2,4,5,8]) (.seq (.reg g_q11_r15 [2,4,5,8,9]) (.seq (.seq (.reg g_q11_r16 [2,4,5,8,9,73]) (.block 2 (.rng (.tmp 73) [74,75] (.seq (.reg g_q11_r17 [8,9,10,75]) (.reg g_q11_r18 [8,9,10,11])) g_q11_b24))) (.seq (.seq (.reg g_q11_r25 [2,8,14]) (.seq (.reg g_q11_r26 [2,8,14,109]) (.cond (.tmp 109) (.seq (.reg g_q11_r27 [4,5]) .ret) .skip))) (.seq (.seq (.reg g_q11_r28 [2,8,15]) (.seq (.reg g_q11_r29 [2,8,15,114]) (.cond (.tmp 114) (.seq (.reg g_q11_r30 [4,5]) .ret) .skip))) (.seq (.seq (.reg g_q11_r31 [2,8,16]) (.seq (.reg g_q11_r32 [2,8,16,119]) (.cond (.tmp 119) (.seq (.reg g_q11_r33 [4,5]) .ret) .skip))) (.seq (.seq (.reg g_q11_r34 [2,8,17]) (.seq (.reg g_q11_r35 [2,8,17,124]) (.cond (.tmp 124) (.seq (.reg g_q11_r36 [4,5]) .ret) .skip))) (.seq (.seq (.reg g_q11_r37 [2,8,18]) (.seq (.reg g_q11_r38 [2,8,18,132]) (.cond (.tmp 132) (.seq (.reg g_q11_r39 [4,5]) .ret) .skip))) (.seq (.seq (.reg g_q11_r40 [2,8,19]) (.seq (.reg g_q11_r41 [2,8,19,140]) (.cond (.tmp 140) (.seq (.reg g_q11_r42 [4,5]) .ret) .skip))) (.seq (.seq (.reg g_q11_r43 [20]) (.seq (.reg g_q11_r44 [20,148]) (.cond (.tmp 148) (.seq (.reg g_q11_r45 [4,5]) .ret) .skip))) (.seq (.reg g_q11_r46 [4,5]) .ret))))))))))))))))
abbrev rs_q11:List RV:=[(.tmp 4),(.tmp 5)]
theorem gc_q11:compileF Tryd.prog Tryd.f43 T_q11=some (g_q11,rs_q11):=by kernel_rfl
theorem con_q11 (hR:∀ v h1 h2,Ext h.size h1 h2→R v h1→R v h2) (hv:vc Tryd.prog y g_q11 (retQ rs_q11 R) [(0,a0),(1,a1)] h):ConX y Tryd.prog 43 #[a0,a1] h R:=con_of Tryd.func43 gc_q11 rfl (fun _=>hR) hv
def T_q12:List (Nat×List Nat):=[(0,[1,2]),(1,[1,2,18]),(2,[2,3]),(3,[1,2,4]),(4,[1,2,5,1000000]),(5,[1,2,5,53,54,55]),(6,[1,2,5,53,54,55,56]),(7,[1,2,5,6,7,53,54,55]),(8,[1,2,5,6,7,53,54,55]),(9,[1,2,5,6,7,53,54,55]),(10,[1,2,5,6,7,53,54,55]),(11,[1,2,5,6,7,53,54,55,85,86,87]),(12,[1,2,5,6,7,53,54,55,85,86,87,88]),(13,[1,2,5,6,7,8,9,53,54,55,85,86,87]),(14,[1,2,5,6,7,8,9,53,54,55,85,86,87]),(15,[1,2,5,6,7,8,9,53,54,55,85,86,87]),(16,[1,2,5,6,7,53,54,55,85,86,87]),(17,[1,2,5,6,7,53,54,55,85,86,87]),(18,[1,2,5,53,54,55]),(19,[2,5,140,141,142]),(20,[2,5,140,141,142,143]),(21,[2,5,11,140,141,142]),(22,[2,5,11,140,141,142,146,147,148]),(23,[2,5,11,140,141,142,146,147,148,149]),(24,[2,5,11,12,13,140,141,142,146,147,148]),(25,[2,5,11,13,140,141,142,146,147,148,156,157,158]),(26,[2,5,11,13,140,141,142,146,147,148,156,157,158,159]),(27,[2,5,11,13,15,140,141,142,146,147,148,156,157,158]),(28,[2,5,11,13,140,141,142,146,147,148,156,157,158]),(29,[2,5,11,13,140,141,142,146,147,148,156,157,158]),(30,[2,5,11,140,141,142,146,147,148]),(31,[2,5,140,141,142]),(32,[2,5]),(33,[2,3])]
abbrev g_q12_r0:GR:=(OP 0 1 (.box 26 (.tmp 0)) (OP 1 2 (.alloc 82 [(.pointer none),(.pointer none),(.pointer none),(.pointer none),(.pointer none),(.pointer none),(.pointer none),(.pointer none),(.pointer none),(.pointer none),(.slice none 0 0),(.slice none 0 0),(.slice none 0 0)]) (OP 2 3 (.mv (K 0)) .done)))
abbrev g_q12_r1:GR:=(OP 0 16 (.load (some 8) (.tmp 1)) (OP 1 17 (.call 69 [(.tmp 16)]) (OP 2 18 (.not (.tmp 17)) .done)))
abbrev g_q12_r2:GR:=(OP 0 19 (.build [(.pointer none),(.pointer none),(.pointer none),(.pointer none),(.pointer none),(.pointer none),(.pointer none),(.pointer none),(.pointer none),(.pointer none),(.slice none 0 0),(.slice none 0 0),(.slice none 0 0)] []) (OS 1 (.store 13 (.tmp 2) (.tmp 19)) (OP 2 3 (.mv (K 4)) .done)))
abbrev g_q12_r3:GR:=(O3 0 20 1 1 (O2 1 21 20 (OP 2 22 (.len (.tmp 21)) (O1 3 4 22 .done))))
abbrev g_q12_r4:GR:=(O1 0 23 4 (O1 2 25 4 (O3 3 26 2 1 (O6 4 27 26 (O1 6 29 4 (O1 8 31 4 (O3 9 32 4 1 (O6 10 33 32 (O1 12 35 4 (O1 14 37 4 (O1 16 39 4 (O3 17 40 5 1 (O6 18 41 40 (O1 20 43 4 (O3 21 44 6 1 (O6 22 45 44 (O1 24 47 4 (O3 25 48 7 1 (O6 26 49 48 (.free [24,28,30,34,36,38,42,46,50,51,5] [(FI.mk (GI.mk 1 (some 24) none (.call 56 [(.tmp 23)]) [] false) []),(FI.mk (GI.mk 5 (some 28) none (.call 94 [(.tmp 25),(.tmp 27)]) [] false) [(1,24)]),(FI.mk (GI.mk 7 (some 30) none (.call 56 [(.tmp 29)]) [] false) [(5,28)]),(FI.mk (GI.mk 11 (some 34) none (.call 94 [(.tmp 31),(.tmp 33)]) [] false) [(7,30)]),(FI.mk (GI.mk 13 (some 36) none (.call 56 [(.tmp 35)]) [] false) [(11,34)]),(FI.mk (GI.mk 15 (some 38) none (.call 56 [(.tmp 37)]) [] false) [(13,36)]),(FI.mk (GI.mk 19 (some 42) none (.call 94 [(.tmp 39),(.tmp 41)]) [] false) [(15,38)]),(FI.mk (GI.mk 23 (some 46) none (.call 94 [(.tmp 43),(.tmp 45)]) [] false) [(19,42)]),(FI.mk (GI.mk 27 (some 50) none (.call 94 [(.tmp 47),(.tmp 49)]) [] false) [(23,46)]),(FI.mk (GI.mk 28 (some 51) none (.build [(.pointer none),(.pointer none),(.pointer none),(.pointer none),(.pointer none),(.pointer none),(.pointer none),(.pointer none),(.pointer none),(.pointer none),(.slice none 0 0),(.slice none 0 0),(.slice none 0 0)] [(0,(1,(.tmp 24))),(1,(1,(.tmp 28))),(2,(1,(.tmp 30))),(4,(1,(.tmp 34))),(5,(1,(.tmp 36))),(6,(1,(.tmp 38))),(7,(1,(.tmp 42))),(8,(1,(.tmp 46))),(9,(1,(.tmp 50)))]) [] false) [(1,24),(5,28),(7,30),(11,34),(13,36),(15,38),(19,42),(23,46),(27,50)]),(FI.mk (GI.mk 29 (some 5) none (.alloc 82 [(.pointer none),(.pointer none),(.pointer none),(.pointer none),(.pointer none),(.pointer none),(.pointer none),(.pointer none),(.pointer none),(.pointer none),(.slice none 0 0),(.slice none 0 0),(.slice none 0 0)]) [] false) [])] (OS 30 (.store 13 (.tmp 5) (.tmp 51)) .done)))))))))))))))))))))
abbrev g_q12_r5:GR:=(O3 0 52 1 1 (O2 1 53 52 (OP 2 54 (.len (.tmp 53)) (OP 3 55 (.mv (K 0)) .done))))
abbrev g_q12_r6:GR:=(O5 0 56 .lss 55 54 .done)
abbrev g_q12_r7:GR:=(O1 0 57 55 (O4 1 58 5 53 55 (OP 2 59 (.load (some 5) (.tmp 58)) (OP 3 7 (.alloc 36 [(.int .i64 0),(.int .i64 0),(.int .i64 0),(.int .u64 0),(.int .i64 0)]) (O1 4 6 57 (OS 5 (.store 5 (.tmp 7) (.tmp 59)) .done))))))
abbrev g_q12_r8:GR:=(O3 0 60 10 5 (O2 1 61 60 (O3 2 62 1 7 (O2 3 63 62 (OP 4 64 (.bin .eql (.tmp 63) (K 1)) (OP 5 65 (.buildSlice 4 1 [(.bool false)] [(0,(1,(.tmp 64)))]) (OP 6 66 (.append 4 1 1 [(.bool false)] (.tmp 61) (.tmp 65)) (O3 7 67 10 5 (OS 8 (.store 1 (.tmp 67) (.tmp 66)) .done)))))))))
abbrev g_q12_r9:GR:=(O3 0 68 11 5 (O2 1 69 68 (O3 2 70 1 7 (O2 3 71 70 (OP 4 72 (.bin .eql (.tmp 71) (K 2)) (OP 5 73 (.buildSlice 4 1 [(.bool false)] [(0,(1,(.tmp 72)))]) (OP 6 74 (.append 4 1 1 [(.bool false)] (.tmp 69) (.tmp 73)) (O3 7 75 11 5 (OS 8 (.store 1 (.tmp 75) (.tmp 74)) .done)))))))))
abbrev g_q12_r10:GR:=(O3 0 76 12 5 (O2 1 77 76 (O3 2 78 1 7 (O2 3 79 78 (OP 4 80 (.bin .eql (.tmp 79) (K 3)) (OP 5 81 (.buildSlice 4 1 [(.bool false)] [(0,(1,(.tmp 80)))]) (OP 6 82 (.append 4 1 1 [(.bool false)] (.tmp 77) (.tmp 81)) (O3 7 83 12 5 (OS 8 (.store 1 (.tmp 83) (.tmp 82)) .done)))))))))
abbrev g_q12_r11:GR:=(O3 0 84 1 1 (O2 1 85 84 (OP 2 86 (.len (.tmp 85)) (OP 3 87 (.mv (K 0)) .done))))
abbrev g_q12_r12:GR:=(O5 0 88 .lss 87 86 .done)
abbrev g_q12_r13:GR:=(O1 0 89 87 (O4 1 90 5 85 87 (OP 2 91 (.load (some 5) (.tmp 90)) (OP 3 9 (.alloc 36 [(.int .i64 0),(.int .i64 0),(.int .i64 0),(.int .u64 0),(.int .i64 0)]) (O1 4 8 89 (OS 5 (.store 5 (.tmp 9) (.tmp 91)) .done))))))
abbrev g_q12_r14:GR:=(O3 0 92 0 5 (O2 1 93 92 (O1 2 94 6 (O1 3 95 8 (O1 4 96 6 (O1 5 97 8 (O5 6 98 .lss 96 97 (O1 7 99 98 (OG 8 100 99 true (.fieldAddr 0 (.tmp 7)) (OG 9 101 99 true (.load none (.tmp 100)) (OG 10 102 99 true (.bin .geq (.tmp 101) (K 0)) (OP 11 103 (.pick (.tmp 99) (.tmp 102) (.const (.bool false))) (O1 12 104 103 (OG 13 105 104 true (.fieldAddr 0 (.tmp 7)) (OG 14 106 104 true (.load none (.tmp 105)) (OG 15 107 104 true (.fieldAddr 0 (.tmp 9)) (OG 16 108 104 true (.load none (.tmp 107)) (OG 17 109 104 true (.bin .eql (.tmp 106) (.tmp 108)) (OP 18 110 (.pick (.tmp 104) (.tmp 109) (.const (.bool false))) (OP 19 111 (.call 95 [(.tmp 93),(.tmp 94),(.tmp 95),(.tmp 110)]) .done))))))))))))))))))))
abbrev g_q12_r15:GR:=(O3 0 112 5 5 (O2 1 113 112 (O1 2 114 6 (O1 3 115 8 (O3 4 116 2 7 (O2 5 117 116 (OP 6 118 (.bin .geq (.tmp 117) (K 0)) (O1 7 119 118 (OG 8 120 119 true (.fieldAddr 2 (.tmp 7)) (OG 9 121 119 true (.load none (.tmp 120)) (OG 10 122 119 true (.fieldAddr 2 (.tmp 9)) (OG 11 123 119 true (.load none (.tmp 122)) (OG 12 124 119 true (.bin .eql (.tmp 121) (.tmp 123)) (OP 13 125 (.pick (.tmp 119) (.tmp 124) (.const (.bool false))) (OP 14 126 (.call 95 [(.tmp 113),(.tmp 114),(.tmp 115),(.tmp 125)]) .done)))))))))))))))
abbrev g_q12_r16:GR:=(O3 0 127 6 5 (O2 1 128 127 (O1 2 129 6 (O1 3 130 8 (O3 4 131 0 7 (O2 5 132 131 (O3 6 133 0 9 (O2 7 134 133 (O5 8 135 .neq 132 134 (OP 9 136 (.call 95 [(.tmp 128),(.tmp 129),(.tmp 130),(.tmp 135)]) .done))))))))))
abbrev g_q12_r17:GR:=(OP 0 137 (.bin .add (.tmp 87) (K 1)) (O1 1 87 137 .done))
abbrev g_q12_l18:GC:=(.seq (.reg g_q12_r12 [1,2,5,6,7,53,54,55,85,86,87,88]) (.seq (.cond (.tmp 88) .skip (.exit 2)) (.seq (.block 3 (.seq (.reg g_q12_r13 [1,2,5,6,7,8,9,53,54,55,85,86,87]) (.seq (.reg g_q12_r14 [1,2,5,6,7,8,9,53,54,55,85,86,87]) (.seq (.reg g_q12_r15 [1,2,5,6,7,8,9,53,54,55,85,86,87]) (.reg g_q12_r16 [1,2,5,6,7,53,54,55,85,86,87]))))) (.reg g_q12_r17 [1,2,5,6,7,53,54,55,85,86,87]))))
abbrev g_q12_r19:GR:=(OP 0 138 (.bin .add (.tmp 55) (K 1)) (O1 1 55 138 .done))
abbrev g_q12_l20:GC:=(.seq (.reg g_q12_r6 [1,2,5,53,54,55,56]) (.seq (.cond (.tmp 56) .skip (.exit 0)) (.seq (.block 1 (.seq (.reg g_q12_r7 [1,2,5,6,7,53,54,55]) (.seq (.reg g_q12_r8 [1,2,5,6,7,53,54,55]) (.seq (.reg g_q12_r9 [1,2,5,6,7,53,54,55]) (.seq (.reg g_q12_r10 [1,2,5,6,7,53,54,55]) (.seq (.reg g_q12_r11 [1,2,5,6,7,53,54,55,85,86,87]) (.block 2 (.loop g_q12_l18)))))))) (.reg g_q12_r19 [1,2,5,53,54,55]))))
abbrev g_q12_r21:GR:=(O3 0 139 3 1 (O2 1 140 139 (OP 2 141 (.len (.tmp 140)) (OP 3 142 (.mv (K 0)) .done))))
abbrev g_q12_r22:GR:=(O5 0 143 .lss 142 141 .done)
abbrev g_q12_r23:GR:=(O4 0 144 1 140 142 (O2 1 145 144 (O1 2 11 145 .done)))
abbrev g_q12_r24:GR:=(O1 0 146 11 (OP 1 147 (.len (.tmp 146)) (OP 2 148 (.mv (K 0)) .done)))
abbrev g_q12_r25:GR:=(O5 0 149 .lss 148 147 .done)
abbrev g_q12_r26:GR:=(O1 0 150 148 (O4 1 151 1 146 148 (O2 2 152 151 (O1 3 12 150 (O1 4 13 152 .done)))))
abbrev g_q12_r27:GR:=(O1 0 153 11 (O1 1 154 12 (OP 2 155 (.bin .add (.tmp 154) (K 1)) (OP 3 156 (.slice 1 (.tmp 153) (some (.tmp 155)) none) (OP 4 157 (.len (.tmp 156)) (OP 5 158 (.mv (K 0)) .done))))))
abbrev g_q12_r28:GR:=(O5 0 159 .lss 158 157 .done)
abbrev g_q12_r29:GR:=(O4 0 160 1 156 158 (O2 1 161 160 (O1 2 15 161 .done)))
abbrev g_q12_r30:GR:=(O3 0 162 2 5 (O2 1 163 162 (O1 2 164 13 (O1 3 165 15 (OP 4 166 (.call 95 [(.tmp 163),(.tmp 164),(.tmp 165),(.const (.bool true))]) .done)))))
abbrev g_q12_r31:GR:=(OP 0 167 (.bin .add (.tmp 158) (K 1)) (O1 1 158 167 .done))
abbrev g_q12_l32:GC:=(.seq (.reg g_q12_r28 [2,5,11,13,140,141,142,146,147,148,156,157,158,159]) (.seq (.cond (.tmp 159) .skip (.exit 8)) (.seq (.block 9 (.seq (.reg g_q12_r29 [2,5,11,13,15,140,141,142,146,147,148,156,157,158]) (.reg g_q12_r30 [2,5,11,13,140,141,142,146,147,148,156,157,158]))) (.reg g_q12_r31 [2,5,11,13,140,141,142,146,147,148,156,157,158]))))
abbrev g_q12_r33:GR:=(OP 0 168 (.bin .add (.tmp 148) (K 1)) (O1 1 148 168 .done))
abbrev g_q12_l34:GC:=(.seq (.reg g_q12_r25 [2,5,11,140,141,142,146,147,148,149]) (.seq (.cond (.tmp 149) .skip (.exit 6)) (.seq (.block 7 (.seq (.reg g_q12_r26 [2,5,11,12,13,140,141,142,146,147,148]) (.seq (.reg g_q12_r27 [2,5,11,13,140,141,142,146,147,148,156,157,158]) (.block 8 (.loop g_q12_l32))))) (.reg g_q12_r33 [2,5,11,140,141,142,146,147,148]))))
abbrev g_q12_r35:GR:=(OP 0 169 (.bin .add (.tmp 142) (K 1)) (O1 1 142 169 .done))
abbrev g_q12_l36:GC:=(.seq (.reg g_q12_r22 [2,5,140,141,142,143]) (.seq (.cond (.tmp 143) .skip (.exit 4)) (.seq (.block 5 (.seq (.reg g_q12_r23 [2,5,11,140,141,142]) (.seq (.reg g_q12_r24 [2,5,11,140,141,142,146,147,148]) (.block 6 (.loop g_q12_l34))))) (.reg g_q12_r35 [2,5,140,141,142]))))
abbrev g_q12_r37:GR:=(O3 0 170 1 5 (O6 1 171 170 (O3 3 173 2 5 (O6 4 174 173 (.op (GI.mk 2 (some 172) none (.call 96 [(.tmp 171)]) [4] false) (.op (GI.mk 5 (some 175) none (.call 75 [(.tmp 172),(.tmp 174)]) [1] false) (O3 6 176 3 5 (OS 7 (.store 1 (.tmp 176) (.tmp 175)) .done))))))))
abbrev g_q12_r38:GR:=(OP 0 177 (.load (some 13) (.tmp 5)) (OS 1 (.store 13 (.tmp 2) (.tmp 177)) (OP 2 3 (.mv (K 0)) .done)))
abbrev g_q12:GC:=(.seq (.reg g_q12_r0 [1,2]) (.seq (.seq (.reg g_q12_r1 [1,2,18]) (.cond (.tmp 18) (.seq (.reg g_q12_r2 [2,3]) .ret) .skip)) (.seq (.reg g_q12_r3 [1,2,4]) (.seq (.reg g_q12_r4 [1,2,5,1000000]) (.seq (.seq (.reg g_q12_r5 [1,2,5,53,54,55]) (.block 0 (.loop g_q12_l20))) (.seq (.seq (.reg g_q12_r21 [2,5,140,141,142]) (.block 4 (.loop g_q12_l36))) (.seq (.reg g_q12_r37 [2,5]) (.seq (.reg g_q12_r38 [2,3]) .ret))))))))
abbrev rs_q12:List RV:=[(.cell 2 (some 13)),(.tmp 3)]
theorem gc_q12:compileF Tryd.prog Tryd.f54 T_q12=some (g_q12,rs_q12):=by kernel_rfl
theorem con_q12 (hv:vc Tryd.prog y g_q12 (retQ rs_q12 R) [(0,a0)] h):ConX y Tryd.prog 54 #[a0] h R:=con_of Tryd.func54 gc_q12 rfl (fun h=>absurd h (by decide)) hv
def T_q52:List (Nat×List Nat):=[(0,[0,1]),(1,[0,1,14]),(2,[4]),(3,[0,1,5]),(4,[0,1,5,18,19,20]),(5,[0,1,5,18,19,20,21]),(6,[0,1,5,6,7,18,19,20]),(7,[0,1,5,6,7,18,19,20,39]),(8,[4]),(9,[0,1,5,18,19,20]),(10,[0,1,5,18,19,20]),(11,[5,47,48,49]),(12,[5,47,48,49,50]),(13,[5,9,47,48,49]),(14,[5,47,48,49,63]),(15,[4]),(16,[5,47,48,49]),(17,[4])]
abbrev g_q52_r0:GR:=(OP 0 4 (.mv (.const (.bool false))) .done)
abbrev g_q52_r1:GR:=(O1 0 10 1 (OP 1 11 (.len (.tmp 10)) (O1 2 12 0 (OP 3 13 (.call 97 [(.tmp 12)]) (O5 4 14 .neq 11 13 .done)))))
abbrev g_q52_r2:GR:=(OP 0 4 (.mv (.const (.bool false))) .done)
abbrev g_q52_r3:GR:=(O1 0 15 1 (OP 1 16 (.len (.tmp 15)) (OP 2 17 (.makeSlice 3 1 8 [(.int .i64 0)] (.tmp 16) (.tmp 16)) (O1 3 5 17 .done))))
abbrev g_q52_r4:GR:=(O1 0 18 1 (OP 1 19 (.len (.tmp 18)) (OP 2 20 (.mv (K 0)) .done)))
abbrev g_q52_r5:GR:=(O5 0 21 .lss 20 19 .done)
abbrev g_q52_r6:GR:=(O1 0 22 20 (O4 1 23 1 18 20 (O2 2 24 23 (O1 3 6 22 (O1 4 7 24 .done)))))
abbrev g_q52_r7:GR:=(O1 0 25 7 (OP 1 26 (.bin .lss (.tmp 25) (K 0)) (O1 2 27 26 (OG 3 28 27 false (.mv (.tmp 7)) (OG 4 29 27 false (.mv (.tmp 1)) (OG 5 30 27 false (.len (.tmp 29)) (OG 6 31 27 false (.bin .geq (.tmp 28) (.tmp 30)) (OP 7 32 (.pick (.tmp 27) (.const (.bool true)) (.tmp 31)) (O1 8 33 32 (OG 9 34 33 false (.mv (.tmp 5)) (OG 10 35 33 false (.mv (.tmp 7)) (OG 11 36 33 false (.indexAddr 1 (.tmp 34) (.tmp 35)) (OG 12 37 33 false (.load none (.tmp 36)) (OG 13 38 33 false (.bin .neq (.tmp 37) (K 0)) (OP 14 39 (.pick (.tmp 33) (.const (.bool true)) (.tmp 38)) .done)))))))))))))))
abbrev g_q52_r8:GR:=(OP 0 4 (.mv (.const (.bool false))) .done)
abbrev g_q52_r9:GR:=(O1 0 40 5 (O1 1 41 7 (O1 2 42 6 (OP 3 43 (.bin .add (.tmp 42) (K 1)) (O4 4 44 1 40 41 (OS 5 (.store 1 (.tmp 44) (.tmp 43)) .done))))))
abbrev g_q52_r10:GR:=(OP 0 45 (.bin .add (.tmp 20) (K 1)) (O1 1 20 45 .done))
abbrev g_q52_l11:GC:=(.seq (.reg g_q52_r5 [0,1,5,18,19,20,21]) (.seq (.cond (.tmp 21) .skip (.exit 0)) (.seq (.block 1 (.seq (.reg g_q52_r6 [0,1,5,6,7,18,19,20]) (.seq (.seq (.reg g_q52_r7 [0,1,5,6,7,18,19,20,39]) (.cond (.tmp 39) (.seq (.reg g_q52_r8 [4]) .ret) .skip)) (.reg g_q52_r9 [0,1,5,18,19,20])))) (.reg g_q52_r10 [0,1,5,18,19,20]))))
abbrev g_q52_r12:GR:=(O1 0 46 0 (OP 1 47 (.call 98 [(.tmp 46)]) (OP 2 48 (.len (.tmp 47)) (OP 3 49 (.mv (K 0)) .done))))
abbrev g_q52_r13:GR:=(O5 0 50 .lss 49 48 .done)
abbrev g_q52_r14:GR:=(O4 0 51 2 47 49 (OP 1 52 (.load (some 2) (.tmp 51)) (OP 2 9 (.alloc 38 [(.int .i64 0),(.int .i64 0)]) (OS 3 (.store 2 (.tmp 9) (.tmp 52)) .done))))
abbrev g_q52_r15:GR:=(O1 0 53 5 (O3 1 54 0 9 (O6 2 55 54 (O4 3 56 1 53 55 (O6 4 57 56 (O1 5 58 5 (O3 6 59 1 9 (O6 7 60 59 (O4 8 61 1 58 60 (O6 9 62 61 (O5 10 63 .geq 57 62 .done)))))))))))
abbrev g_q52_r16:GR:=(OP 0 4 (.mv (.const (.bool false))) .done)
abbrev g_q52_r17:GR:=(OP 0 64 (.bin .add (.tmp 49) (K 1)) (O1 1 49 64 .done))
abbrev g_q52_l18:GC:=(.seq (.reg g_q52_r13 [5,47,48,49,50]) (.seq (.cond (.tmp 50) .skip (.exit 2)) (.seq (.block 3 (.seq (.reg g_q52_r14 [5,9,47,48,49]) (.seq (.reg g_q52_r15 [5,47,48,49,63]) (.cond (.tmp 63) (.seq (.reg g_q52_r16 [4]) .ret) .skip)))) (.reg g_q52_r17 [5,47,48,49]))))
abbrev g_q52_r19:GR:=(OP 0 4 (.mv (.const (.bool true))) .done)
abbrev g_q52:GC:=(.seq (.reg g_q52_r0 [0,1]) (.seq (.seq (.reg g_q52_r1 [0,1,14]) (.cond (.tmp 14) (.seq (.reg g_q52_r2 [4]) .ret) .skip)) (.seq (.reg g_q52_r3 [0,1,5]) (.seq (.seq (.reg g_q52_r4 [0,1,5,18,19,20]) (.block 0 (.loop g_q52_l11))) (.seq (.seq (.reg g_q52_r12 [5,47,48,49]) (.block 2 (.loop g_q52_l18))) (.seq (.reg g_q52_r19 [4]) .ret))))))
abbrev rs_q52:List RV:=[(.tmp 4)]
theorem gc_q52:compileF Tryd.prog Tryd.f55 T_q52=some (g_q52,rs_q52):=by kernel_rfl
theorem con_q52 (hv:vc Tryd.prog y g_q52 (retQ rs_q52 R) [(0,a0),(1,a1)] h):ConX y Tryd.prog 55 #[a0,a1] h R:=con_of Tryd.func55 gc_q52 rfl (fun h=>absurd h (by decide)) hv
def T_q115:List (Nat×List Nat):=[(0,[0]),(1,[0]),(2,[0,3]),(3,[0,3,17,18]),(4,[0,3,17,18,19]),(5,[0,3,4,17,18]),(6,[0,3,17,18]),(7,[0,3,17,18]),(8,[2])]
abbrev g_q115_r0:GR:=(OP 0 2 (.mv (.const (.pointer none))) .done)
abbrev g_q115_r1:GR:=(O1 0 5 0 (OP 1 6 (.mini (.tmp 5) (K 256)) (OP 2 7 (.maxi (K 0) (.tmp 6)) (O1 3 0 7 .done))))
abbrev g_q115_r2:GR:=(O1 0 8 0 (O1 1 9 0 (OP 2 10 (.makeSlice 145 1 24 [(.slice none 0 0)] (.tmp 9) (.tmp 9)) (OP 3 11 (.build [(.int .i64 0),(.slice none 0 0)] [(0,(1,(.tmp 8))),(1,(1,(.tmp 10)))]) (OP 4 12 (.box 144 (.tmp 11)) (O1 5 3 12 .done))))))
abbrev g_q115_r3:GR:=(O1 0 13 3 (OP 1 14 (.nilCheck (.tmp 13)) (O3 2 15 1 14 (O2 3 16 15 (OP 4 17 (.len (.tmp 16)) (OP 5 18 (.mv (K 0)) .done))))))
abbrev g_q115_r4:GR:=(O5 0 19 .lss 18 17 .done)
abbrev g_q115_r5:GR:=(O1 0 20 18 (O1 1 4 20 .done))
abbrev g_q115_r6:GR:=(O1 0 21 3 (OP 1 22 (.nilCheck (.tmp 21)) (O3 2 23 1 22 (O6 3 24 23 (O1 4 25 4 (O1 5 26 0 (OP 6 27 (.bin .add (.tmp 26) (K 63)) (OP 7 28 (.bin .quo (.tmp 27) (K 64)) (OP 8 29 (.makeSlice 34 1 8 [(.int .u64 0)] (.tmp 28) (.tmp 28)) (O4 9 30 1 24 25 (OS 10 (.store 1 (.tmp 30) (.tmp 29)) .done)))))))))))
abbrev g_q115_r7:GR:=(OP 0 31 (.bin .add (.tmp 18) (K 1)) (O1 1 18 31 .done))
abbrev g_q115_l8:GC:=(.seq (.reg g_q115_r4 [0,3,17,18,19]) (.seq (.cond (.tmp 19) .skip (.exit 0)) (.seq (.block 1 (.seq (.reg g_q115_r5 [0,3,4,17,18]) (.reg g_q115_r6 [0,3,17,18]))) (.reg g_q115_r7 [0,3,17,18]))))
abbrev g_q115_r9:GR:=(O1 0 32 3 (O1 1 2 32 .done))
abbrev g_q115:GC:=(.seq (.reg g_q115_r0 [0]) (.seq (.reg g_q115_r1 [0]) (.seq (.reg g_q115_r2 [0,3]) (.seq (.seq (.reg g_q115_r3 [0,3,17,18]) (.block 0 (.loop g_q115_l8))) (.seq (.reg g_q115_r9 [2]) .ret)))))
abbrev rs_q115:List RV:=[(.tmp 2)]
theorem gc_q115:compileF Tryd.prog Tryd.f56 T_q115=some (g_q115,rs_q115):=by kernel_rfl
theorem con_q115 (hv:vc Tryd.prog y g_q115 (retQ rs_q115 R) [(0,a0)] h):ConX y Tryd.prog 56 #[a0] h R:=con_of Tryd.func56 gc_q115 rfl (fun h=>absurd h (by decide)) hv
def T_q51:List (Nat×List Nat):=[(0,[0,1]),(1,[0,1,6]),(2,[0,1,6,7]),(3,[0,1,6,7,8]),(4,[0,1,6,7,8,27,28]),(5,[0,1,6,7,8,27,28,29]),(6,[0,1,6,7,8,9,27,28]),(7,[0,1,6,7,8,27,28]),(8,[0,1,6,7,8,27,28]),(9,[0,1,6,7,8,10]),(10,[0,6,7,8,10,41,42,43]),(11,[0,6,7,8,10,41,42,43,44]),(12,[0,6,7,8,10,12,41,42,43]),(13,[0,6,7,8,10,12,41,42,43,87]),(14,[4,5]),(15,[0,6,7,8,10,12,41,42,43]),(16,[0,6,7,8,10,41,42,43]),(17,[0,6,7,8,10,41,42,43]),(18,[0,6,7,8,13]),(19,[6,7,8,13,112,113,114]),(20,[6,7,8,13,112,113,114,115]),(21,[6,7,8,13,15,112,113,114]),(22,[6,7,8,13,15,112,113,114,125]),(23,[6,7,8,13,112,113,114]),(24,[6,7,8,13,112,113,114]),(25,[6,7,8,16,17]),(26,[6,7,8,16,17,18]),(27,[6,7,8,16,17,18,147]),(28,[6,7,8,16,17,18,19]),(29,[6,7,8,16,17,18,19,159]),(30,[6,7,8,16,17,18,19]),(31,[6,7,8,16,17,18,19,165]),(32,[4,5]),(33,[6,7,8,16,17,18,19]),(34,[6,7,8,16,17,18,19]),(35,[6,7,8,16,17,18,20]),(36,[6,7,8,16,17,18,20,178]),(37,[6,7,8,16,17,18,20]),(38,[6,7,8,16,17,18]),(39,[4,5])]
abbrev g_q51_r0:GR:=(OP 0 4 (.mv (.const (.slice none 0 0))) (OP 1 5 (.mv (K 0)) .done))
abbrev g_q51_r1:GR:=(O1 0 21 0 (OP 1 22 (.call 97 [(.tmp 21)]) (O1 2 6 22 .done)))
abbrev g_q51_r2:GR:=(O1 0 23 6 (OP 1 24 (.makeSlice 3 1 8 [(.int .i64 0)] (.tmp 23) (.tmp 23)) (O1 2 7 24 .done)))
abbrev g_q51_r3:GR:=(O1 0 25 6 (OP 1 26 (.makeSlice 3 1 8 [(.int .i64 0)] (.tmp 25) (.tmp 25)) (O1 2 8 26 .done)))
abbrev g_q51_r4:GR:=(O1 0 27 6 (OP 1 28 (.mv (K 0)) .done))
abbrev g_q51_r5:GR:=(O5 0 29 .lss 28 27 .done)
abbrev g_q51_r6:GR:=(O1 0 30 28 (O1 1 9 30 .done))
abbrev g_q51_r7:GR:=(O1 0 31 7 (O1 1 32 9 (O1 2 33 8 (O1 3 34 9 (O1 4 35 9 (O4 5 36 1 31 32 (OS 6 (.store 1 (.tmp 36) (.tmp 35)) (O4 7 37 1 33 34 (OS 8 (.store 1 (.tmp 37) (K (-1))) .done)))))))))
abbrev g_q51_r8:GR:=(OP 0 38 (.bin .add (.tmp 28) (K 1)) (O1 1 28 38 .done))
abbrev g_q51_l9:GC:=(.seq (.reg g_q51_r5 [0,1,6,7,8,27,28,29]) (.seq (.cond (.tmp 29) .skip (.exit 0)) (.seq (.block 1 (.seq (.reg g_q51_r6 [0,1,6,7,8,9,27,28]) (.reg g_q51_r7 [0,1,6,7,8,27,28]))) (.reg g_q51_r8 [0,1,6,7,8,27,28]))))
abbrev g_q51_r10:GR:=(O1 0 39 6 (OP 1 40 (.makeSlice 4 1 1 [(.bool false)] (.tmp 39) (.tmp 39)) (O1 2 10 40 .done)))
abbrev g_q51_r11:GR:=(O1 0 41 1 (OP 1 42 (.len (.tmp 41)) (OP 2 43 (.mv (K 0)) .done)))
abbrev g_q51_r12:GR:=(O5 0 44 .lss 43 42 .done)
abbrev g_q51_r13:GR:=(O4 0 45 2 41 43 (OP 1 46 (.load (some 2) (.tmp 45)) (OP 2 12 (.alloc 38 [(.int .i64 0),(.int .i64 0)]) (OS 3 (.store 2 (.tmp 12) (.tmp 46)) .done))))
abbrev g_q51_r14:GR:=(O3 0 47 0 12 (O2 1 48 47 (OP 2 49 (.bin .lss (.tmp 48) (K 0)) (O1 3 50 49 (OG 4 51 50 false (.fieldAddr 0 (.tmp 12)) (OG 5 52 50 false (.load none (.tmp 51)) (OG 6 53 50 false (.mv (.tmp 6)) (OG 7 54 50 false (.bin .geq (.tmp 52) (.tmp 53)) (OP 8 55 (.pick (.tmp 50) (.const (.bool true)) (.tmp 54)) (O1 9 56 55 (OG 10 57 56 false (.fieldAddr 1 (.tmp 12)) (OG 11 58 56 false (.load none (.tmp 57)) (OG 12 59 56 false (.bin .lss (.tmp 58) (K 0)) (OP 13 60 (.pick (.tmp 56) (.const (.bool true)) (.tmp 59)) (O1 14 61 60 (OG 15 62 61 false (.fieldAddr 1 (.tmp 12)) (OG 16 63 61 false (.load none (.tmp 62)) (OG 17 64 61 false (.mv (.tmp 6)) (OG 18 65 61 false (.bin .geq (.tmp 63) (.tmp 64)) (OP 19 66 (.pick (.tmp 61) (.const (.bool true)) (.tmp 65)) (O1 20 67 66 (OG 21 68 67 false (.fieldAddr 0 (.tmp 12)) (OG 22 69 67 false (.load none (.tmp 68)) (OG 23 70 67 false (.fieldAddr 1 (.tmp 12)) (OG 24 71 67 false (.load none (.tmp 70)) (OG 25 72 67 false (.bin .eql (.tmp 69) (.tmp 71)) (OP 26 73 (.pick (.tmp 67) (.const (.bool true)) (.tmp 72)) (O1 27 74 73 (OG 28 75 74 false (.mv (.tmp 10)) (OG 29 76 74 false (.fieldAddr 0 (.tmp 12)) (OG 30 77 74 false (.load none (.tmp 76)) (OG 31 78 74 false (.indexAddr 1 (.tmp 75) (.tmp 77)) (OG 32 79 74 false (.load none (.tmp 78)) (OP 33 80 (.pick (.tmp 74) (.const (.bool true)) (.tmp 79)) (O1 34 81 80 (OG 35 82 81 false (.mv (.tmp 10)) (OG 36 83 81 false (.fieldAddr 1 (.tmp 12)) (OG 37 84 81 false (.load none (.tmp 83)) (OG 38 85 81 false (.indexAddr 1 (.tmp 82) (.tmp 84)) (OG 39 86 81 false (.load none (.tmp 85)) (OP 40 87 (.pick (.tmp 81) (.const (.bool true)) (.tmp 86)) .done)))))))))))))))))))))))))))))))))))))))))
abbrev g_q51_r15:GR:=(OP 0 4 (.mv (.const (.slice none 0 0))) (OP 1 5 (.mv (K 1)) .done))
abbrev g_q51_r16:GR:=(O1 0 88 10 (O3 1 89 0 12 (O6 2 90 89 (O1 3 91 10 (O3 4 92 1 12 (O6 5 93 92 (O4 6 94 1 88 90 (.op (GI.mk 7 none none (.store 1 (.tmp 94) (.const (.bool true))) [5] false) (O4 8 95 1 91 93 (OS 9 (.store 1 (.tmp 95) (.const (.bool true))) .done))))))))))
abbrev g_q51_r17:GR:=(O1 0 96 7 (O3 1 97 1 12 (O6 2 98 97 (O1 3 99 8 (O3 4 100 0 12 (O6 5 101 100 (O3 6 102 0 12 (O6 7 103 102 (O3 8 104 1 12 (O6 9 105 104 (O4 10 106 1 96 98 (.op (GI.mk 11 none none (.store 1 (.tmp 106) (.tmp 103)) [5,9] false) (O4 12 107 1 99 101 (OS 13 (.store 1 (.tmp 107) (.tmp 105)) .done))))))))))))))
abbrev g_q51_r18:GR:=(OP 0 108 (.bin .add (.tmp 43) (K 1)) (O1 1 43 108 .done))
abbrev g_q51_l19:GC:=(.seq (.reg g_q51_r12 [0,6,7,8,10,41,42,43,44]) (.seq (.cond (.tmp 44) .skip (.exit 2)) (.seq (.block 3 (.seq (.reg g_q51_r13 [0,6,7,8,10,12,41,42,43]) (.seq (.seq (.reg g_q51_r14 [0,6,7,8,10,12,41,42,43,87]) (.cond (.tmp 87) (.seq (.reg g_q51_r15 [4,5]) .ret) .skip)) (.seq (.reg g_q51_r16 [0,6,7,8,10,12,41,42,43]) (.reg g_q51_r17 [0,6,7,8,10,41,42,43]))))) (.reg g_q51_r18 [0,6,7,8,10,41,42,43]))))
abbrev g_q51_r20:GR:=(O1 0 109 6 (OP 1 110 (.call 56 [(.tmp 109)]) (O1 2 13 110 .done)))
abbrev g_q51_r21:GR:=(O1 0 111 0 (OP 1 112 (.call 98 [(.tmp 111)]) (OP 2 113 (.len (.tmp 112)) (OP 3 114 (.mv (K 0)) .done))))
abbrev g_q51_r22:GR:=(O5 0 115 .lss 114 113 .done)
abbrev g_q51_r23:GR:=(O4 0 116 2 112 114 (OP 1 117 (.load (some 2) (.tmp 116)) (OP 2 15 (.alloc 38 [(.int .i64 0),(.int .i64 0)]) (OS 3 (.store 2 (.tmp 15) (.tmp 117)) .done))))
abbrev g_q51_r24:GR:=(O1 0 118 8 (O3 1 119 0 15 (O6 2 120 119 (O4 3 121 1 118 120 (O6 4 122 121 (O3 5 123 1 15 (O6 6 124 123 (O5 7 125 .neq 122 124 .done))))))))
abbrev g_q51_r25:GR:=(O1 0 126 13 (O1 1 127 7 (O3 2 128 0 15 (O6 3 129 128 (O4 4 130 1 127 129 (O6 5 131 130 (O1 6 132 7 (O3 7 133 1 15 (O6 8 134 133 (O4 9 135 1 132 134 (O6 10 136 135 (.op (GI.mk 11 (some 137) none (.call 95 [(.tmp 126),(.tmp 131),(.tmp 136),(.const (.bool true))]) [3,8] false) .done))))))))))))
abbrev g_q51_r26:GR:=(OP 0 138 (.bin .add (.tmp 114) (K 1)) (O1 1 114 138 .done))
abbrev g_q51_l27:GC:=(.seq (.reg g_q51_r22 [6,7,8,13,112,113,114,115]) (.seq (.cond (.tmp 115) .skip (.exit 4)) (.seq (.block 5 (.seq (.reg g_q51_r23 [6,7,8,13,15,112,113,114]) (.seq (.reg g_q51_r24 [6,7,8,13,15,112,113,114,125]) (.cond (.tmp 125) (.reg g_q51_r25 [6,7,8,13,112,113,114]) .skip)))) (.reg g_q51_r26 [6,7,8,13,112,113,114]))))
abbrev g_q51_r28:GR:=(O1 0 140 13 (OP 1 141 (.call 99 [(.tmp 140)]) (O1 2 139 141 (OP 3 142 (.extract 0 (.tmp 139)) (OP 4 143 (.extract 1 (.tmp 139)) (O1 5 16 142 (O1 6 17 143 .done)))))))
abbrev g_q51_r29:GR:=(OP 0 18 (.mv (.const (.slice none 0 0))) .done)
abbrev g_q51_r30:GR:=(O1 0 144 18 (OP 1 145 (.len (.tmp 144)) (O1 2 146 6 (O5 3 147 .lss 145 146 .done))))
abbrev g_q51_r31:GR:=(O1 0 148 16 (OP 1 149 (.callv (.tmp 148) [(K 0)]) (O1 2 19 149 .done)))
abbrev g_q51_r32:GR:=(O1 0 150 19 (OP 1 151 (.bin .geq (.tmp 150) (K 0)) (O1 2 152 151 (OG 3 153 152 true (.mv (.tmp 7)) (OG 4 154 152 true (.mv (.tmp 19)) (OG 5 155 152 true (.indexAddr 1 (.tmp 153) (.tmp 154)) (OG 6 156 152 true (.load none (.tmp 155)) (OG 7 157 152 true (.mv (.tmp 19)) (OG 8 158 152 true (.bin .neq (.tmp 156) (.tmp 157)) (OP 9 159 (.pick (.tmp 152) (.tmp 158) (.const (.bool false))) .done))))))))))
abbrev g_q51_r33:GR:=(O1 0 160 16 (O1 1 161 19 (OP 2 162 (.bin .add (.tmp 161) (K 1)) (OP 3 163 (.callv (.tmp 160) [(.tmp 162)]) (O1 4 19 163 .done)))))
abbrev g_q51_l34:GC:=(.seq (.seq (.reg g_q51_r32 [6,7,8,16,17,18,19,159]) (.cond (.tmp 159) .skip (.exit 8))) (.block 9 (.reg g_q51_r33 [6,7,8,16,17,18,19])))
abbrev g_q51_r35:GR:=(O1 0 164 19 (OP 1 165 (.bin .lss (.tmp 164) (K 0)) .done))
abbrev g_q51_r36:GR:=(OP 0 4 (.mv (.const (.slice none 0 0))) (OP 1 5 (.mv (K 3)) .done))
abbrev g_q51_r37:GR:=(O1 0 166 17 (O1 1 167 19 (OP 2 168 (.callv (.tmp 166) [(.tmp 167),(.const (.bool true))]) .done)))
abbrev g_q51_r38:GR:=(O1 0 169 18 (O1 1 170 19 (OP 2 171 (.buildSlice 3 1 [(.int .i64 0)] [(0,(1,(.tmp 170)))]) (OP 3 172 (.append 3 1 8 [(.int .i64 0)] (.tmp 169) (.tmp 171)) (O1 4 18 172 .done)))))
abbrev g_q51_r39:GR:=(O1 0 173 8 (O1 1 174 19 (O4 2 175 1 173 174 (O2 3 176 175 (O1 4 20 176 .done)))))
abbrev g_q51_r40:GR:=(O1 0 177 20 (OP 1 178 (.bin .geq (.tmp 177) (K 0)) .done))
abbrev g_q51_r41:GR:=(O1 0 179 17 (O1 1 180 20 (OP 2 181 (.callv (.tmp 179) [(.tmp 180),(.const (.bool true))]) .done)))
abbrev g_q51_r42:GR:=(O1 0 182 18 (O1 1 183 20 (OP 2 184 (.buildSlice 3 1 [(.int .i64 0)] [(0,(1,(.tmp 183)))]) (OP 3 185 (.append 3 1 8 [(.int .i64 0)] (.tmp 182) (.tmp 184)) (O1 4 18 185 .done)))))
abbrev g_q51_l43:GC:=(.seq (.seq (.reg g_q51_r30 [6,7,8,16,17,18,147]) (.cond (.tmp 147) .skip (.exit 6))) (.block 7 (.seq (.reg g_q51_r31 [6,7,8,16,17,18,19]) (.seq (.block 8 (.loop g_q51_l34)) (.seq (.seq (.reg g_q51_r35 [6,7,8,16,17,18,19,165]) (.cond (.tmp 165) (.seq (.reg g_q51_r36 [4,5]) .ret) .skip)) (.seq (.reg g_q51_r37 [6,7,8,16,17,18,19]) (.seq (.reg g_q51_r38 [6,7,8,16,17,18,19]) (.seq (.reg g_q51_r39 [6,7,8,16,17,18,20]) (.seq (.reg g_q51_r40 [6,7,8,16,17,18,20,178]) (.cond (.tmp 178) (.seq (.reg g_q51_r41 [6,7,8,16,17,18,20]) (.reg g_q51_r42 [6,7,8,16,17,18])) .skip))))))))))
abbrev g_q51_r44:GR:=(O1 0 186 18 (O1 1 4 186 (OP 2 5 (.mv (K 0)) .done)))
abbrev g_q51:GC:=(.seq (.reg g_q51_r0 [0,1]) (.seq (.reg g_q51_r1 [0,1,6]) (.seq (.reg g_q51_r2 [0,1,6,7]) (.seq (.reg g_q51_r3 [0,1,6,7,8]) (.seq (.seq (.reg g_q51_r4 [0,1,6,7,8,27,28]) (.block 0 (.loop g_q51_l9))) (.seq (.reg g_q51_r10 [0,1,6,7,8,10]) (.seq (.seq (.reg g_q51_r11 [0,6,7,8,10,41,42,43]) (.block 2 (.loop g_q51_l19))) (.seq (.reg g_q51_r20 [0,6,7,8,13]) (.seq (.seq (.reg g_q51_r21 [6,7,8,13,112,113,114]) (.block 4 (.loop g_q51_l27))) (.seq (.reg g_q51_r28 [6,7,8,16,17]) (.seq (.reg g_q51_r29 [6,7,8,16,17,18]) (.seq (.block 6 (.loop g_q51_l43)) (.seq (.reg g_q51_r44 [4,5]) .ret)))))))))))))
abbrev rs_q51:List RV:=[(.tmp 4),(.tmp 5)]
theorem gc_q51:compileF Tryd.prog Tryd.f57 T_q51=some (g_q51,rs_q51):=by kernel_rfl
theorem con_q51 (hv:vc Tryd.prog y g_q51 (retQ rs_q51 R) [(0,a0),(1,a1)] h):ConX y Tryd.prog 57 #[a0,a1] h R:=con_of Tryd.func57 gc_q51 rfl (fun h=>absurd h (by decide)) hv
def T_q128:List (Nat×List Nat):=[(0,[0]),(1,[0,3]),(2,[0,3,11,12,13]),(3,[0,3,11,12,13,14]),(4,[0,3,5,11,12,13]),(5,[0,3,11,12,13]),(6,[0,3,11,12,13]),(7,[0,6]),(8,[6,26,27,28]),(9,[6,26,27,28,29]),(10,[6,8,26,27,28]),(11,[6,26,27,28,35,36,37]),(12,[6,26,27,28,35,36,37,38]),(13,[6,9,10,26,27,28,35,36,37]),(14,[6,26,27,28,35,36,37]),(15,[6,26,27,28,35,36,37]),(16,[6,26,27,28]),(17,[2])]
abbrev g_q128_r0:GR:=(OP 0 2 (.mv (.const (.pointer none))) .done)
abbrev g_q128_r1:GR:=(OP 0 3 (.mv (K 0)) .done)
abbrev g_q128_r2:GR:=(O1 0 11 0 (OP 1 12 (.len (.tmp 11)) (OP 2 13 (.mv (K 0)) .done)))
abbrev g_q128_r3:GR:=(O5 0 14 .lss 13 12 .done)
abbrev g_q128_r4:GR:=(O4 0 15 1 11 13 (O2 1 16 15 (O1 2 5 16 .done)))
abbrev g_q128_r5:GR:=(O1 0 17 3 (O1 1 18 5 (OP 2 19 (.nilCheck (.tmp 18)) (O3 3 20 0 19 (O2 4 21 20 (OP 5 22 (.maxi (.tmp 17) (.tmp 21)) (O1 6 3 22 .done)))))))
abbrev g_q128_r6:GR:=(OP 0 23 (.bin .add (.tmp 13) (K 1)) (O1 1 13 23 .done))
abbrev g_q128_l7:GC:=(.seq (.reg g_q128_r3 [0,3,11,12,13,14]) (.seq (.cond (.tmp 14) .skip (.exit 0)) (.seq (.block 1 (.seq (.reg g_q128_r4 [0,3,5,11,12,13]) (.reg g_q128_r5 [0,3,11,12,13]))) (.reg g_q128_r6 [0,3,11,12,13]))))
abbrev g_q128_r8:GR:=(O1 0 24 3 (OP 1 25 (.call 56 [(.tmp 24)]) (O1 2 6 25 .done)))
abbrev g_q128_r9:GR:=(O1 0 26 0 (OP 1 27 (.len (.tmp 26)) (OP 2 28 (.mv (K 0)) .done)))
abbrev g_q128_r10:GR:=(O5 0 29 .lss 28 27 .done)
abbrev g_q128_r11:GR:=(O4 0 30 1 26 28 (O2 1 31 30 (O1 2 8 31 .done)))
abbrev g_q128_r12:GR:=(O1 0 32 8 (OP 1 33 (.nilCheck (.tmp 32)) (O3 2 34 1 33 (O2 3 35 34 (OP 4 36 (.len (.tmp 35)) (OP 5 37 (.mv (K 0)) .done))))))
abbrev g_q128_r13:GR:=(O5 0 38 .lss 37 36 .done)
abbrev g_q128_r14:GR:=(O1 0 39 37 (O4 1 40 1 35 37 (O2 2 41 40 (O1 3 9 39 (O1 4 10 41 .done)))))
abbrev g_q128_r15:GR:=(O1 0 42 6 (OP 1 43 (.nilCheck (.tmp 42)) (O3 2 44 1 43 (O2 3 45 44 (O1 4 46 9 (O4 5 47 1 45 46 (O2 6 48 47 (O1 7 49 10 (OP 8 50 (.buildSlice 145 1 [(.slice none 0 0)] [(0,(1,(.tmp 49)))]) (OP 9 51 (.call 100 [(.tmp 48),(.tmp 50)]) .done))))))))))
abbrev g_q128_r16:GR:=(OP 0 52 (.bin .add (.tmp 37) (K 1)) (O1 1 37 52 .done))
abbrev g_q128_l17:GC:=(.seq (.reg g_q128_r13 [6,26,27,28,35,36,37,38]) (.seq (.cond (.tmp 38) .skip (.exit 4)) (.seq (.block 5 (.seq (.reg g_q128_r14 [6,9,10,26,27,28,35,36,37]) (.reg g_q128_r15 [6,26,27,28,35,36,37]))) (.reg g_q128_r16 [6,26,27,28,35,36,37]))))
abbrev g_q128_r18:GR:=(OP 0 53 (.bin .add (.tmp 28) (K 1)) (O1 1 28 53 .done))
abbrev g_q128_l19:GC:=(.seq (.reg g_q128_r10 [6,26,27,28,29]) (.seq (.cond (.tmp 29) .skip (.exit 2)) (.seq (.block 3 (.seq (.reg g_q128_r11 [6,8,26,27,28]) (.seq (.reg g_q128_r12 [6,26,27,28,35,36,37]) (.block 4 (.loop g_q128_l17))))) (.reg g_q128_r18 [6,26,27,28]))))
abbrev g_q128_r20:GR:=(O1 0 54 6 (O1 1 2 54 .done))
abbrev g_q128:GC:=(.seq (.reg g_q128_r0 [0]) (.seq (.reg g_q128_r1 [0,3]) (.seq (.seq (.reg g_q128_r2 [0,3,11,12,13]) (.block 0 (.loop g_q128_l7))) (.seq (.reg g_q128_r8 [0,6]) (.seq (.seq (.reg g_q128_r9 [6,26,27,28]) (.block 2 (.loop g_q128_l19))) (.seq (.reg g_q128_r20 [2]) .ret))))))
abbrev rs_q128:List RV:=[(.tmp 2)]
theorem gc_q128:compileF Tryd.prog Tryd.f58 T_q128=some (g_q128,rs_q128):=by kernel_rfl
theorem con_q128 (hv:vc Tryd.prog y g_q128 (retQ rs_q128 R) [(0,a0)] h):ConX y Tryd.prog 58 #[a0] h R:=con_of Tryd.func58 gc_q128 rfl (fun h=>absurd h (by decide)) hv
def T_q140:List (Nat×List Nat):=[(0,[1,2]),(1,[2,10,11,12]),(2,[2,10,11,12,13]),(3,[2,8,10,11,12]),(4,[2,8,9,10,11,12]),(5,[2,8,9,10,11,12,22]),(6,[4,5,6]),(7,[2,10,11,12]),(8,[4,5,6])]
abbrev g_q140_r0:GR:=(OP 0 2 (.box 100 (.tmp 0)) (OP 1 4 (.mv (K 0)) (OP 2 5 (.mv (.const (.slice none 0 0))) (OP 3 6 (.mv (K 0)) .done))))
abbrev g_q140_r1:GR:=(O1 0 10 1 (OP 1 11 (.len (.tmp 10)) (OP 2 12 (.mv (K 0)) .done)))
abbrev g_q140_r2:GR:=(O5 0 13 .lss 12 11 .done)
abbrev g_q140_r3:GR:=(O4 0 14 2 10 12 (OP 1 15 (.load (some 2) (.tmp 14)) (OP 2 8 (.alloc 104 [(.int .i64 0),Value.nilFunc]) (OS 3 (.store 2 (.tmp 8) (.tmp 15)) .done))))
abbrev g_q140_r4:GR:=(O3 0 16 1 8 (O2 1 17 16 (OP 2 18 (.load (some 21) (.tmp 2)) (OP 3 19 (.callv (.tmp 17) [(.tmp 18)]) (O1 4 9 19 .done)))))
abbrev g_q140_r5:GR:=(O1 0 20 9 (OP 1 21 (.len (.tmp 20)) (OP 2 22 (.bin .gtr (.tmp 21) (K 0)) .done)))
abbrev g_q140_r6:GR:=(O3 0 23 0 8 (O2 1 24 23 (O1 2 25 9 (O1 3 4 24 (O1 4 5 25 (OP 5 6 (.mv (K 0)) .done))))))
abbrev g_q140_r7:GR:=(OP 0 26 (.bin .add (.tmp 12) (K 1)) (O1 1 12 26 .done))
abbrev g_q140_l8:GC:=(.seq (.reg g_q140_r2 [2,10,11,12,13]) (.seq (.cond (.tmp 13) .skip (.exit 0)) (.seq (.block 1 (.seq (.reg g_q140_r3 [2,8,10,11,12]) (.seq (.reg g_q140_r4 [2,8,9,10,11,12]) (.seq (.reg g_q140_r5 [2,8,9,10,11,12,22]) (.cond (.tmp 22) (.seq (.reg g_q140_r6 [4,5,6]) .ret) .skip))))) (.reg g_q140_r7 [2,10,11,12]))))
abbrev g_q140_r9:GR:=(OP 0 4 (.mv (K 0)) (OP 1 5 (.mv (.const (.slice none 0 0))) (OP 2 6 (.mv (K 0)) .done)))
abbrev g_q140:GC:=(.seq (.reg g_q140_r0 [1,2]) (.seq (.seq (.reg g_q140_r1 [2,10,11,12]) (.block 0 (.loop g_q140_l8))) (.seq (.reg g_q140_r9 [4,5,6]) .ret)))
abbrev rs_q140:List RV:=[(.tmp 4),(.tmp 5),(.tmp 6)]
theorem gc_q140:compileF Tryd.prog Tryd.f65 T_q140=some (g_q140,rs_q140):=by kernel_rfl
theorem con_q140 (hv:vc Tryd.prog y g_q140 (retQ rs_q140 R) [(0,a0),(1,a1)] h):ConX y Tryd.prog 65 #[a0,a1] h R:=con_of Tryd.func65 gc_q140 rfl (fun h=>absurd h (by decide)) hv
def T_q137:List (Nat×List Nat):=[(0,[1]),(1,[2])]
abbrev g_q137_r0:GR:=(OP 0 1 (.box 100 (.tmp 0)) (OP 1 2 (.mv (.const (.slice none 0 0))) .done))
abbrev g_q137_r1:GR:=(OP 0 3 (.load (some 21) (.tmp 1)) (O3 1 4 8 1 (O3 2 5 0 4 (O2 3 6 5 (OP 4 7 (.call 67 [(.tmp 3),(.tmp 6)]) (O1 5 2 7 .done))))))
abbrev g_q137:GC:=(.seq (.reg g_q137_r0 [1]) (.seq (.reg g_q137_r1 [2]) .ret))
abbrev rs_q137:List RV:=[(.tmp 2)]
theorem gc_q137:compileF Tryd.prog Tryd.f66 T_q137=some (g_q137,rs_q137):=by kernel_rfl
theorem con_q137 (hv:vc Tryd.prog y g_q137 (retQ rs_q137 R) [(0,a0)] h):ConX y Tryd.prog 66 #[a0] h R:=con_of Tryd.func66 gc_q137 rfl (fun h=>absurd h (by decide)) hv
def T_q143:List (Nat×List Nat):=[(0,[1,2]),(1,[4])]
abbrev g_q143_r0:GR:=(OP 0 2 (.box 100 (.tmp 0)) (OP 1 4 (.mv (.const (.slice none 0 0))) .done))
abbrev g_q143_r1:GR:=(O1 0 5 1 (O3 1 6 8 2 (O3 2 7 1 6 (O2 3 8 7 (O3 4 9 8 2 (O3 5 10 2 9 (O2 6 11 10 (O3 7 12 8 2 (O3 8 13 3 12 (O2 9 14 13 (OP 10 15 (.buildSlice 80 4 [(.pointer none),(.pointer none),(.pointer none),(.pointer none)] [(0,(1,(.tmp 5))),(1,(1,(.tmp 8))),(2,(1,(.tmp 11))),(3,(1,(.tmp 14)))]) (OP 11 16 (.call 58 [(.tmp 15)]) (OP 12 17 (.call 72 [(.tmp 16)]) (O1 13 4 17 .done))))))))))))))
abbrev g_q143:GC:=(.seq (.reg g_q143_r0 [1,2]) (.seq (.reg g_q143_r1 [4]) .ret))
abbrev rs_q143:List RV:=[(.tmp 4)]
theorem gc_q143:compileF Tryd.prog Tryd.f67 T_q143=some (g_q143,rs_q143):=by kernel_rfl
theorem con_q143 (hv:vc Tryd.prog y g_q143 (retQ rs_q143 R) [(0,a0),(1,a1)] h):ConX y Tryd.prog 67 #[a0,a1] h R:=con_of Tryd.func67 gc_q143 rfl (fun h=>absurd h (by decide)) hv
def T_q144:List (Nat×List Nat):=[(0,[1]),(1,[1,3]),(2,[3,15,16,17]),(3,[3,15,16,17,18]),(4,[3,5,15,16,17]),(5,[3,5,15,16,17,26]),(6,[2]),(7,[3,15,16,17]),(8,[2])]
abbrev g_q144_r0:GR:=(OP 0 1 (.box 100 (.tmp 0)) (OP 1 2 (.mv (.const (.slice none 0 0))) .done))
abbrev g_q144_r1:GR:=(O3 0 6 8 1 (O3 1 7 3 6 (O2 2 8 7 (O3 3 9 8 1 (O3 4 10 2 9 (O2 5 11 10 (OP 6 12 (.call 75 [(.tmp 8),(.tmp 11)]) (O1 7 3 12 .done))))))))
abbrev g_q144_r2:GR:=(O3 0 13 0 1 (O3 1 14 4 13 (O2 2 15 14 (OP 3 16 (.len (.tmp 15)) (OP 4 17 (.mv (K 0)) .done)))))
abbrev g_q144_r3:GR:=(O5 0 18 .lss 17 16 .done)
abbrev g_q144_r4:GR:=(O4 0 19 2 15 17 (OP 1 20 (.load (some 2) (.tmp 19)) (OP 2 5 (.alloc 38 [(.int .i64 0),(.int .i64 0)]) (OS 3 (.store 2 (.tmp 5) (.tmp 20)) .done))))
abbrev g_q144_r5:GR:=(O1 0 21 3 (O3 1 22 0 5 (O2 2 23 22 (O3 3 24 1 5 (O2 4 25 24 (OP 5 26 (.call 76 [(.tmp 21),(.tmp 23),(.tmp 25)]) .done))))))
abbrev g_q144_r6:GR:=(O3 0 27 0 5 (O2 1 28 27 (O3 2 29 1 5 (O2 3 30 29 (OP 4 31 (.buildSlice 3 2 [(.int .i64 0),(.int .i64 0)] [(0,(1,(.tmp 28))),(1,(1,(.tmp 30)))]) (O1 5 2 31 .done))))))
abbrev g_q144_r7:GR:=(OP 0 32 (.bin .add (.tmp 17) (K 1)) (O1 1 17 32 .done))
abbrev g_q144_l8:GC:=(.seq (.reg g_q144_r3 [3,15,16,17,18]) (.seq (.cond (.tmp 18) .skip (.exit 0)) (.seq (.block 1 (.seq (.reg g_q144_r4 [3,5,15,16,17]) (.seq (.reg g_q144_r5 [3,5,15,16,17,26]) (.cond (.tmp 26) (.seq (.reg g_q144_r6 [2]) .ret) .skip)))) (.reg g_q144_r7 [3,15,16,17]))))
abbrev g_q144_r9:GR:=(OP 0 2 (.mv (.const (.slice none 0 0))) .done)
abbrev g_q144:GC:=(.seq (.reg g_q144_r0 [1]) (.seq (.reg g_q144_r1 [1,3]) (.seq (.seq (.reg g_q144_r2 [3,15,16,17]) (.block 0 (.loop g_q144_l8))) (.seq (.reg g_q144_r9 [2]) .ret))))
abbrev rs_q144:List RV:=[(.tmp 2)]
theorem gc_q144:compileF Tryd.prog Tryd.f68 T_q144=some (g_q144,rs_q144):=by kernel_rfl
theorem con_q144 (hv:vc Tryd.prog y g_q144 (retQ rs_q144 R) [(0,a0)] h):ConX y Tryd.prog 68 #[a0] h R:=con_of Tryd.func68 gc_q144 rfl (fun h=>absurd h (by decide)) hv
def T_q16:List (Nat×List Nat):=[(0,[1]),(1,[1,3]),(2,[1,13]),(3,[2]),(4,[5]),(5,[2])]
abbrev g_q16_r0:GR:=(OP 0 1 (.box 26 (.tmp 0)) (OP 1 2 (.mv (.const (.bool false))) .done))
abbrev g_q16_r1:GR:=(OP 0 8 (.load (some 8) (.tmp 1)) (OP 1 9 (.call 43 [(.tmp 8),(.const (.bool false))]) (O1 2 7 9 (OP 3 10 (.extract 0 (.tmp 7)) (OP 4 11 (.extract 1 (.tmp 7)) (O1 5 3 10 (O1 6 4 11 .done)))))))
abbrev g_q16_r2:GR:=(O1 0 12 3 (OP 1 13 (.bin .eql (.tmp 12) (K 0)) .done))
abbrev g_q16_r3:GR:=(OP 0 2 (.mv (.const (.bool true))) .done)
abbrev g_q16_r4:GR:=(OP 0 15 (.load (some 8) (.tmp 1)) (OP 1 16 (.call 43 [(.tmp 15),(.const (.bool true))]) (O1 2 14 16 (OP 3 17 (.extract 0 (.tmp 14)) (OP 4 18 (.extract 1 (.tmp 14)) (O1 5 5 17 (O1 6 6 18 .done)))))))
abbrev g_q16_r5:GR:=(O1 0 19 5 (OP 1 20 (.bin .eql (.tmp 19) (K 0)) (O1 2 2 20 .done)))
abbrev g_q16:GC:=(.seq (.reg g_q16_r0 [1]) (.seq (.seq (.reg g_q16_r1 [1,3]) (.seq (.reg g_q16_r2 [1,13]) (.cond (.tmp 13) (.seq (.reg g_q16_r3 [2]) .ret) .skip))) (.seq (.reg g_q16_r4 [5]) (.seq (.reg g_q16_r5 [2]) .ret))))
abbrev rs_q16:List RV:=[(.tmp 2)]
theorem gc_q16:compileF Tryd.prog Tryd.f69 T_q16=some (g_q16,rs_q16):=by kernel_rfl
theorem con_q16 (hv:vc Tryd.prog y g_q16 (retQ rs_q16 R) [(0,a0)] h):ConX y Tryd.prog 69 #[a0] h R:=con_of Tryd.func69 gc_q16 rfl (fun h=>absurd h (by decide)) hv
def T_q110:List (Nat×List Nat):=[(0,[0]),(1,[0,3]),(2,[0,3,10,11]),(3,[0,3,10,11,12]),(4,[0,3,4,10,11]),(5,[0,3,4,10,11,22]),(6,[2]),(7,[0,3,10,11]),(8,[2])]
abbrev g_q110_r0:GR:=(OP 0 2 (.mv (.const (.slice none 0 0))) .done)
abbrev g_q110_r1:GR:=(O1 0 5 0 (OP 1 6 (.call 110 [(.tmp 5)]) (O1 2 3 6 .done)))
abbrev g_q110_r2:GR:=(O1 0 7 0 (OP 1 8 (.nilCheck (.tmp 7)) (O3 2 9 0 8 (O2 3 10 9 (OP 4 11 (.mv (K 0)) .done)))))
abbrev g_q110_r3:GR:=(O5 0 12 .lss 11 10 .done)
abbrev g_q110_r4:GR:=(O1 0 13 11 (O1 1 4 13 .done))
abbrev g_q110_r5:GR:=(O1 0 14 3 (OP 1 15 (.nilCheck (.tmp 14)) (O3 2 16 1 15 (O2 3 17 16 (O1 4 18 4 (O4 5 19 1 17 18 (O2 6 20 19 (O1 7 21 4 (OP 8 22 (.call 111 [(.tmp 20),(.tmp 21)]) .done)))))))))
abbrev g_q110_r6:GR:=(O1 0 23 0 (O1 1 24 4 (OP 2 25 (.call 112 [(.tmp 23),(.tmp 24)]) (O1 3 2 25 .done))))
abbrev g_q110_r7:GR:=(OP 0 26 (.bin .add (.tmp 11) (K 1)) (O1 1 11 26 .done))
abbrev g_q110_l8:GC:=(.seq (.reg g_q110_r3 [0,3,10,11,12]) (.seq (.cond (.tmp 12) .skip (.exit 0)) (.seq (.block 1 (.seq (.reg g_q110_r4 [0,3,4,10,11]) (.seq (.reg g_q110_r5 [0,3,4,10,11,22]) (.cond (.tmp 22) (.seq (.reg g_q110_r6 [2]) .ret) .skip)))) (.reg g_q110_r7 [0,3,10,11]))))
abbrev g_q110_r9:GR:=(OP 0 2 (.mv (.const (.slice none 0 0))) .done)
abbrev g_q110:GC:=(.seq (.reg g_q110_r0 [0]) (.seq (.reg g_q110_r1 [0,3]) (.seq (.seq (.reg g_q110_r2 [0,3,10,11]) (.block 0 (.loop g_q110_l8))) (.seq (.reg g_q110_r9 [2]) .ret))))
abbrev rs_q110:List RV:=[(.tmp 2)]
theorem gc_q110:compileF Tryd.prog Tryd.f72 T_q110=some (g_q110,rs_q110):=by kernel_rfl
theorem con_q110 (hv:vc Tryd.prog y g_q110 (retQ rs_q110 R) [(0,a0)] h):ConX y Tryd.prog 72 #[a0] h R:=con_of Tryd.func72 gc_q110 rfl (fun h=>absurd h (by decide)) hv
def T_q108:List (Nat×List Nat):=[(0,[0,3,4]),(1,[0,3,4,5]),(2,[3,4,5,22,23,24]),(3,[3,4,5,22,23,24,25]),(4,[3,4,5,6,7,22,23,24]),(5,[3,4,5,6,22,23,24,30]),(6,[3,5,6,8]),(7,[3,5,6,8,37]),(8,[]),(9,[3,4,5,22,23,24]),(10,[4])]
abbrev g_q108_r0:GR:=(OP 0 3 (.box 80 (.tmp 1)) (OP 1 4 (.mv (.const (.pointer none))) .done))
abbrev g_q108_r1:GR:=(O1 0 9 0 (OP 1 10 (.nilCheck (.tmp 9)) (O3 2 11 0 10 (O6 3 12 11 (O6 4 13 3 (OP 5 14 (.nilCheck (.tmp 13)) (O3 6 15 0 14 (O6 7 16 15 (OP 8 17 (.maxi (.tmp 12) (.tmp 16)) (.two (.op (GI.mk 9 (some 18) none (.call 56 [(.tmp 17)]) [3,4,7] false) (OP 10 5 (.alloc 80 [(.pointer none)]) (OS 11 (.store 1 (.tmp 5) (.tmp 18)) .done))) (OP 10 5 (.alloc 80 [(.pointer none)]) (.op (GI.mk 9 (some 18) none (.call 56 [(.tmp 17)]) [3,4,7] false) (OS 11 (.store 1 (.tmp 5) (.tmp 18)) .done)))))))))))))
abbrev g_q108_r2:GR:=(O1 0 19 0 (OP 1 20 (.nilCheck (.tmp 19)) (O3 2 21 1 20 (O2 3 22 21 (OP 4 23 (.len (.tmp 22)) (OP 5 24 (.mv (K 0)) .done))))))
abbrev g_q108_r3:GR:=(O5 0 25 .lss 24 23 .done)
abbrev g_q108_r4:GR:=(O1 0 26 24 (O4 1 27 1 22 24 (O2 2 28 27 (OP 3 6 (.alloc 3 [(.int .i64 0)]) (OS 4 (.store 1 (.tmp 6) (.tmp 26)) (O1 5 7 28 .done))))))
abbrev g_q108_r5:GR:=(O1 0 29 7 (OP 1 30 (.call 118 [(.tmp 29)]) .done))
abbrev g_q108_r6:GR:=(O1 0 8 31 .done)
abbrev g_q108_r7:GR:=(O1 0 32 8 (O2 1 33 3 (OP 2 34 (.nilCheck (.tmp 33)) (O3 3 35 0 34 (O2 4 36 35 (O5 5 37 .lss 32 36 .done))))))
abbrev g_q108_r8:GR:=(O6 0 38 5 (OP 1 39 (.nilCheck (.tmp 38)) (O3 2 40 1 39 (O6 3 41 40 (O6 4 42 6 (O4 5 43 1 41 42 (O6 6 44 43 (O6 7 45 3 (OP 8 46 (.nilCheck (.tmp 45)) (O3 9 47 1 46 (O6 10 48 47 (O1 11 49 8 (O4 12 50 1 48 49 (O6 13 51 50 (OP 14 52 (.buildSlice 145 1 [(.slice none 0 0)] [(0,(1,(.tmp 51)))]) (.op (GI.mk 15 (some 53) none (.call 100 [(.tmp 44),(.tmp 52)]) [0,3,4,7,10,13] false) .done))))))))))))))))
abbrev g_q108_b9:GC:=(.block 3 (.seq (.reg g_q108_r7 [3,5,6,8,37]) (.cond (.tmp 37) (.reg g_q108_r8 []) .skip)))
abbrev g_q108_r10:GR:=(OP 0 54 (.bin .add (.tmp 24) (K 1)) (O1 1 24 54 .done))
abbrev g_q108_l11:GC:=(.seq (.reg g_q108_r3 [3,4,5,22,23,24,25]) (.seq (.cond (.tmp 25) .skip (.exit 0)) (.seq (.block 1 (.seq (.reg g_q108_r4 [3,4,5,6,7,22,23,24]) (.seq (.reg g_q108_r5 [3,4,5,6,22,23,24,30]) (.block 2 (.rng (.tmp 30) [31] (.reg g_q108_r6 [3,5,6,8]) g_q108_b9))))) (.reg g_q108_r10 [3,4,5,22,23,24]))))
abbrev g_q108_r12:GR:=(O2 0 55 5 (O1 1 4 55 .done))
abbrev g_q108:GC:=(.seq (.reg g_q108_r0 [0,3,4]) (.seq (.reg g_q108_r1 [0,3,4,5]) (.seq (.seq (.reg g_q108_r2 [3,4,5,22,23,24]) (.block 0 (.loop g_q108_l11))) (.seq (.reg g_q108_r12 [4]) .ret))))
abbrev rs_q108:List RV:=[(.tmp 4)]
theorem gc_q108:compileF Tryd.prog Tryd.f75 T_q108=some (g_q108,rs_q108):=by kernel_rfl
theorem con_q108 (hR:∀ v h1 h2,Ext h.size h1 h2→R v h1→R v h2) (hv:vc Tryd.prog y g_q108 (retQ rs_q108 R) [(0,a0),(1,a1)] h):ConX y Tryd.prog 75 #[a0,a1] h R:=con_of Tryd.func75 gc_q108 rfl (fun _=>hR) hv
def T_q120:List (Nat×List Nat):=[(0,[0,1,2]),(1,[6])]
abbrev g_q120_r0:GR:=(OP 0 6 (.mv (.const (.bool false))) .done)
abbrev g_q120_r1:GR:=(O1 0 7 0 (O1 1 8 1 (O1 2 9 2 (OP 3 10 (.call 119 [(.tmp 7),(.tmp 8),(.tmp 9)]) (O1 4 11 10 (OG 5 12 11 true (.mv (.tmp 0)) (OG 6 13 11 true (.nilCheck (.tmp 12)) (OG 7 14 11 true (.fieldAddr 1 (.tmp 13)) (OG 8 15 11 true (.load none (.tmp 14)) (OG 9 16 11 true (.mv (.tmp 1)) (OG 10 17 11 true (.indexAddr 1 (.tmp 15) (.tmp 16)) (OG 11 18 11 true (.load none (.tmp 17)) (OG 12 19 11 true (.mv (.tmp 2)) (OG 13 20 11 true (.call 111 [(.tmp 18),(.tmp 19)]) (OP 14 21 (.pick (.tmp 11) (.tmp 20) (.const (.bool false))) (O1 15 6 21 .done))))))))))))))))
abbrev g_q120:GC:=(.seq (.reg g_q120_r0 [0,1,2]) (.seq (.reg g_q120_r1 [6]) .ret))
abbrev rs_q120:List RV:=[(.tmp 6)]
theorem gc_q120:compileF Tryd.prog Tryd.f76 T_q120=some (g_q120,rs_q120):=by kernel_rfl
theorem con_q120 (hv:vc Tryd.prog y g_q120 (retQ rs_q120 R) [(0,a0),(1,a1),(2,a2)] h):ConX y Tryd.prog 76 #[a0,a1,a2] h R:=con_of Tryd.func76 gc_q120 rfl (fun h=>absurd h (by decide)) hv
def T_q146:List (Nat×List Nat):=[(0,[1]),(1,[2])]
abbrev g_q146_r0:GR:=(OP 0 1 (.box 22 (.tmp 0)) (OP 1 2 (.mv (.const Value.nilFunc)) .done))
abbrev g_q146_r1:GR:=(OP 0 3 (.makeFunc (Fn.func 132) [] [(.tmp 1)]) (O1 1 2 3 .done))
abbrev g_q146:GC:=(.seq (.reg g_q146_r0 [1]) (.seq (.reg g_q146_r1 [2]) .ret))
abbrev rs_q146:List RV:=[(.tmp 2)]
theorem gc_q146:compileF Tryd.prog Tryd.f81 T_q146=some (g_q146,rs_q146):=by kernel_rfl
theorem con_q146 (hv:vc Tryd.prog y g_q146 (retQ rs_q146 R) [(0,a0)] h):ConX y Tryd.prog 81 #[a0] h R:=con_of Tryd.func81 gc_q146 rfl (fun h=>absurd h (by decide)) hv
def T_q19:List (Nat×List Nat):=[(0,[0]),(1,[0,3]),(2,[0,3,18]),(3,[0,3]),(4,[0,3,4]),(5,[0,3,4,5]),(6,[0,3,4,5,51]),(7,[0,3,5]),(8,[0,3,5]),(9,[0,3,80]),(10,[2]),(11,[2])]
abbrev g_q19_r0:GR:=(OP 0 2 (.mv (K 0)) .done)
abbrev g_q19_r1:GR:=(O1 0 6 0 (OP 1 7 (.nilCheck (.tmp 6)) (O3 2 8 0 7 (O3 3 9 0 8 (O2 4 10 9 (O1 5 3 10 .done))))))
abbrev g_q19_r2:GR:=(O1 0 11 3 (O1 1 12 0 (OP 2 13 (.nilCheck (.tmp 12)) (O3 3 14 0 13 (O3 4 15 1 14 (O2 5 16 15 (OP 6 17 (.len (.tmp 16)) (O5 7 18 .lss 11 17 .done))))))))
abbrev g_q19_r3:GR:=(O1 0 21 0 (OP 1 22 (.nilCheck (.tmp 21)) (O3 2 23 0 22 (O3 3 24 1 23 (O2 4 25 24 (O1 5 26 3 (O4 6 27 5 25 26 (OP 7 28 (.load (some 5) (.tmp 27)) (OP 8 4 (.alloc 36 [(.int .i64 0),(.int .i64 0),(.int .i64 0),(.int .u64 0),(.int .i64 0)]) (OS 9 (.store 5 (.tmp 4) (.tmp 28)) .done))))))))))
abbrev g_q19_r4:GR:=(O3 0 29 0 4 (O6 1 30 29 (OP 2 31 (.bin .geq (.tmp 30) (K 0)) (O1 3 32 31 (OG 4 33 32 true (.fieldAddr 0 (.tmp 4)) (.op (GI.mk 5 (some 34) (some (32,true)) (.load none (.tmp 33)) [] true) (OG 6 35 32 true (.bin .lss (.tmp 34) (K 64)) (OP 7 36 (.pick (.tmp 32) (.tmp 35) (.const (.bool false))) (O1 8 37 36 (OG 9 38 37 true (.fieldAddr 1 (.tmp 4)) (.op (GI.mk 10 (some 39) (some (37,true)) (.load none (.tmp 38)) [] true) (OG 11 40 37 true (.mv (.tmp 0)) (OG 12 41 37 true (.nilCheck (.tmp 40)) (OG 13 42 37 true (.fieldAddr 8 (.tmp 41)) (.op (GI.mk 14 (some 43) (some (37,true)) (.load none (.tmp 42)) [] true) (OG 16 45 37 true (.fieldAddr 4 (.tmp 4)) (.op (GI.mk 17 (some 46) (some (37,true)) (.load none (.tmp 45)) [] true) (.op (GI.mk 15 (some 44) (some (37,true)) (.call 134 [(.tmp 39),(.tmp 43)]) [1,5,17] false) (.op (GI.mk 18 (some 47) (some (37,true)) (.call 133 [(.tmp 44),(.tmp 46)]) [1,5,10,14] false) (OP 19 48 (.pick (.tmp 37) (.tmp 47) (.const (.bool false))) (O1 20 5 48 .done)))))))))))))))))))))
abbrev g_q19_r5:GR:=(O3 0 49 1 4 (O2 1 50 49 (OP 2 51 (.bin .eql (.tmp 50) (K 3)) .done)))
abbrev g_q19_r6:GR:=(O1 0 52 5 (O1 1 53 52 (OG 2 54 53 true (.fieldAddr 2 (.tmp 4)) (OG 3 55 53 true (.load none (.tmp 54)) (OG 4 56 53 true (.bin .eql (.tmp 55) (K (-1))) (OP 5 57 (.pick (.tmp 53) (.tmp 56) (.const (.bool false))) (O1 6 58 57 (OG 7 59 58 true (.fieldAddr 3 (.tmp 4)) (OG 8 60 58 true (.load none (.tmp 59)) (OG 9 61 58 true (.bin .eql (.tmp 60) (.const (.int .u64 0))) (OP 10 62 (.pick (.tmp 58) (.tmp 61) (.const (.bool false))) (O1 11 5 62 .done))))))))))))
abbrev g_q19_r7:GR:=(O1 0 63 5 (O1 1 64 63 (OG 2 65 64 true (.fieldAddr 2 (.tmp 4)) (.op (GI.mk 3 (some 66) (some (64,true)) (.load none (.tmp 65)) [] true) (OG 4 67 64 true (.bin .geq (.tmp 66) (K 0)) (OP 5 68 (.pick (.tmp 64) (.tmp 67) (.const (.bool false))) (O1 6 69 68 (OG 7 70 69 true (.fieldAddr 2 (.tmp 4)) (.op (GI.mk 8 (some 71) (some (69,true)) (.load none (.tmp 70)) [] true) (OG 9 72 69 true (.mv (.tmp 0)) (OG 10 73 69 true (.nilCheck (.tmp 72)) (OG 11 74 69 true (.fieldAddr 0 (.tmp 73)) (OG 12 75 69 true (.fieldAddr 0 (.tmp 74)) (.op (GI.mk 13 (some 76) (some (69,true)) (.load none (.tmp 75)) [] true) (OG 14 77 69 true (.bin .lss (.tmp 71) (.tmp 76)) (OP 15 78 (.pick (.tmp 69) (.tmp 77) (.const (.bool false))) (O1 16 5 78 .done)))))))))))))))))
abbrev g_q19_r8:GR:=(O1 0 79 5 (OP 1 80 (.not (.tmp 79)) .done))
abbrev g_q19_r9:GR:=(O1 0 81 3 (O1 1 2 81 .done))
abbrev g_q19_r10:GR:=(O1 0 19 3 (OP 1 20 (.bin .add (.tmp 19) (K 1)) (O1 2 3 20 .done)))
abbrev g_q19_l11:GC:=(.seq (.seq (.reg g_q19_r2 [0,3,18]) (.cond (.tmp 18) .skip (.exit 0))) (.seq (.block 1 (.seq (.reg g_q19_r3 [0,3,4]) (.seq (.reg g_q19_r4 [0,3,4,5]) (.seq (.seq (.reg g_q19_r5 [0,3,4,5,51]) (.cond (.tmp 51) (.reg g_q19_r6 [0,3,5]) (.reg g_q19_r7 [0,3,5]))) (.seq (.reg g_q19_r8 [0,3,80]) (.cond (.tmp 80) (.seq (.reg g_q19_r9 [2]) .ret) .skip)))))) (.reg g_q19_r10 [0,3])))
abbrev g_q19_r12:GR:=(OP 0 2 (.mv (K (-1))) .done)
abbrev g_q19:GC:=(.seq (.reg g_q19_r0 [0]) (.seq (.seq (.reg g_q19_r1 [0,3]) (.block 0 (.loop g_q19_l11))) (.seq (.reg g_q19_r12 [2]) .ret)))
abbrev rs_q19:List RV:=[(.tmp 2)]
theorem gc_q19:compileF Tryd.prog Tryd.f82 T_q19=some (g_q19,rs_q19):=by kernel_rfl
theorem con_q19 (hv:vc Tryd.prog y g_q19 (retQ rs_q19 R) [(0,a0)] h):ConX y Tryd.prog 82 #[a0] h R:=con_of Tryd.func82 gc_q19 rfl (fun h=>absurd h (by decide)) hv
def T_q22:List (Nat×List Nat):=[(0,[0]),(1,[0,3]),(2,[0,3,11,12,13]),(3,[0,3,11,12,13,14]),(4,[0,3,4,5,11,12,13]),(5,[0,3,4,5,11,12,13,20]),(6,[0,3,5,11,12,13,55]),(7,[2]),(8,[0,3,5,6,11,12,13]),(9,[0,3,11,12,13,84]),(10,[2]),(11,[0,3,11,12,13]),(12,[0,3,11,12,13]),(13,[3,96]),(14,[2]),(15,[2])]
abbrev g_q22_r0:GR:=(OP 0 2 (.mv (K 0)) .done)
abbrev g_q22_r1:GR:=(OP 0 3 (.mv (K 0)) .done)
abbrev g_q22_r2:GR:=(O1 0 7 0 (OP 1 8 (.nilCheck (.tmp 7)) (O3 2 9 0 8 (O3 3 10 1 9 (O2 4 11 10 (OP 5 12 (.len (.tmp 11)) (OP 6 13 (.mv (K 0)) .done)))))))
abbrev g_q22_r3:GR:=(O5 0 14 .lss 13 12 .done)
abbrev g_q22_r4:GR:=(O1 0 15 13 (O4 1 16 5 11 13 (OP 2 17 (.load (some 5) (.tmp 16)) (OP 3 5 (.alloc 36 [(.int .i64 0),(.int .i64 0),(.int .i64 0),(.int .u64 0),(.int .i64 0)]) (O1 4 4 15 (OS 5 (.store 5 (.tmp 5) (.tmp 17)) .done))))))
abbrev g_q22_r5:GR:=(O3 0 18 1 5 (O2 1 19 18 (OP 2 20 (.bin .neq (.tmp 19) (K 1)) .done)))
abbrev g_q22_r6:GR:=(O1 0 21 3 (O1 1 22 0 (OP 2 23 (.nilCheck (.tmp 22)) (O3 3 24 0 23 (O3 4 25 2 24 (O2 5 26 25 (OP 6 27 (.len (.tmp 26)) (O5 7 28 .eql 21 27 (O1 8 29 28 (OG 9 30 29 false (.mv (.tmp 0)) (OG 10 31 29 false (.nilCheck (.tmp 30)) (OG 11 32 29 false (.fieldAddr 0 (.tmp 31)) (OG 12 33 29 false (.fieldAddr 2 (.tmp 32)) (OG 13 34 29 false (.load none (.tmp 33)) (OG 14 35 29 false (.mv (.tmp 3)) (OG 15 36 29 false (.indexAddr 2 (.tmp 34) (.tmp 35)) (OG 16 37 29 false (.fieldAddr 1 (.tmp 36)) (OG 17 38 29 false (.load none (.tmp 37)) (OG 18 39 29 false (.mv (.tmp 4)) (OG 19 40 29 false (.bin .neq (.tmp 38) (.tmp 39)) (OP 20 41 (.pick (.tmp 29) (.const (.bool true)) (.tmp 40)) (O1 21 42 41 (OG 22 43 42 false (.mv (.tmp 0)) (OG 23 44 42 false (.mv (.tmp 0)) (OG 24 45 42 false (.nilCheck (.tmp 44)) (OG 25 46 42 false (.fieldAddr 0 (.tmp 45)) (OG 26 47 42 false (.fieldAddr 2 (.tmp 46)) (OG 27 48 42 false (.load none (.tmp 47)) (OG 28 49 42 false (.mv (.tmp 3)) (OG 29 50 42 false (.indexAddr 2 (.tmp 48) (.tmp 49)) (OG 30 51 42 false (.fieldAddr 0 (.tmp 50)) (OG 31 52 42 false (.load none (.tmp 51)) (OG 32 53 42 false (.call 135 [(.tmp 43),(.tmp 52),(K 2)]) (OG 33 54 42 false (.not (.tmp 53)) (OP 34 55 (.pick (.tmp 42) (.const (.bool true)) (.tmp 54)) .done)))))))))))))))))))))))))))))))))))
abbrev g_q22_r7:GR:=(O1 0 56 3 (O1 1 2 56 .done))
abbrev g_q22_r8:GR:=(O1 0 57 0 (OP 1 58 (.nilCheck (.tmp 57)) (O3 2 59 0 58 (O3 3 60 1 59 (O6 4 61 60 (O1 5 62 0 (OP 6 63 (.nilCheck (.tmp 62)) (O3 7 64 0 63 (O3 8 65 2 64 (O6 9 66 65 (O1 10 67 3 (O4 11 68 2 66 67 (O3 12 69 0 68 (O6 13 70 69 (O4 14 71 5 61 70 (OW 15 72 (.load (some 5) (.tmp 71)) (OP 16 6 (.alloc 36 [(.int .i64 0),(.int .i64 0),(.int .i64 0),(.int .u64 0),(.int .i64 0)]) (OS 17 (.store 5 (.tmp 6) (.tmp 72)) .done))))))))))))))))))
abbrev g_q22_r9:GR:=(O3 0 73 2 6 (O2 1 74 73 (O3 2 75 2 5 (O2 3 76 75 (O5 4 77 .neq 74 76 (O1 5 78 77 (OG 6 79 78 false (.fieldAddr 3 (.tmp 6)) (OG 7 80 78 false (.load none (.tmp 79)) (OG 8 81 78 false (.fieldAddr 3 (.tmp 5)) (OG 9 82 78 false (.load none (.tmp 81)) (OG 10 83 78 false (.bin .neq (.tmp 80) (.tmp 82)) (OP 11 84 (.pick (.tmp 78) (.const (.bool true)) (.tmp 83)) .done))))))))))))
abbrev g_q22_r10:GR:=(O1 0 85 3 (O1 1 2 85 .done))
abbrev g_q22_r11:GR:=(O1 0 86 3 (OP 1 87 (.bin .add (.tmp 86) (K 1)) (O1 2 3 87 .done)))
abbrev g_q22_r12:GR:=(OP 0 88 (.bin .add (.tmp 13) (K 1)) (O1 1 13 88 .done))
abbrev g_q22_l13:GC:=(.seq (.reg g_q22_r3 [0,3,11,12,13,14]) (.seq (.cond (.tmp 14) .skip (.exit 0)) (.seq (.block 1 (.seq (.reg g_q22_r4 [0,3,4,5,11,12,13]) (.seq (.seq (.reg g_q22_r5 [0,3,4,5,11,12,13,20]) (.cond (.tmp 20) (.exit 1) .skip)) (.seq (.seq (.reg g_q22_r6 [0,3,5,11,12,13,55]) (.cond (.tmp 55) (.seq (.reg g_q22_r7 [2]) .ret) .skip)) (.seq (.seq (.reg g_q22_r8 [0,3,5,6,11,12,13]) (.seq (.reg g_q22_r9 [0,3,11,12,13,84]) (.cond (.tmp 84) (.seq (.reg g_q22_r10 [2]) .ret) .skip))) (.reg g_q22_r11 [0,3,11,12,13])))))) (.reg g_q22_r12 [0,3,11,12,13]))))
abbrev g_q22_r14:GR:=(O1 0 89 3 (O1 1 90 0 (OP 2 91 (.nilCheck (.tmp 90)) (O3 3 92 0 91 (O3 4 93 2 92 (O2 5 94 93 (OP 6 95 (.len (.tmp 94)) (O5 7 96 .lss 89 95 .done))))))))
abbrev g_q22_r15:GR:=(O1 0 97 3 (O1 1 2 97 .done))
abbrev g_q22_r16:GR:=(OP 0 2 (.mv (K (-1))) .done)
abbrev g_q22:GC:=(.seq (.reg g_q22_r0 [0]) (.seq (.reg g_q22_r1 [0,3]) (.seq (.seq (.reg g_q22_r2 [0,3,11,12,13]) (.block 0 (.loop g_q22_l13))) (.seq (.seq (.reg g_q22_r14 [3,96]) (.cond (.tmp 96) (.seq (.reg g_q22_r15 [2]) .ret) .skip)) (.seq (.reg g_q22_r16 [2]) .ret)))))
abbrev rs_q22:List RV:=[(.tmp 2)]
theorem gc_q22:compileF Tryd.prog Tryd.f83 T_q22=some (g_q22,rs_q22):=by kernel_rfl
theorem con_q22 (hv:vc Tryd.prog y g_q22 (retQ rs_q22 R) [(0,a0)] h):ConX y Tryd.prog 83 #[a0] h R:=con_of Tryd.func83 gc_q22 rfl (fun h=>absurd h (by decide)) hv
def T_q17:List (Nat×List Nat):=[(0,[0]),(1,[0,3]),(2,[0,3,21,22,23]),(3,[0,3,21,22,23,24]),(4,[0,3,5,21,22,23]),(5,[0,3,5,21,22,23,29]),(6,[0,3,21,22,23]),(7,[0,3,21,22,23]),(8,[0,3,6]),(9,[0,3,6,7]),(10,[0,3,6,7,8]),(11,[0,3,6,7,8,62,63,64]),(12,[0,3,6,7,8,62,63,64,65]),(13,[0,3,6,7,8,9,10,62,63,64]),(14,[0,3,6,7,8,9,10,11,62,63,64]),(15,[0,3,6,7,8,9,11,62,63,64,79,80,81]),(16,[0,3,6,7,8,9,11,62,63,64,79,80,81,82]),(17,[0,3,6,7,8,9,11,13,62,63,64,79,80,81]),(18,[0,3,6,7,8,9,11,13,62,63,64,79,80,81]),(19,[0,3,6,7,8,9,11,13,62,63,64,79,80,81,111]),(20,[0,3,6,7,8,9,11,62,63,64,79,80,81]),(21,[0,3,6,7,8,9,11,62,63,64,79,80,81]),(22,[0,3,6,7,8,9,11,62,63,64,79,80,81]),(23,[0,3,6,7,8,9,62,63,64,121]),(24,[0,3,6,7,8,62,63,64]),(25,[0,3,6,7,8,62,63,64]),(26,[0,7,8,127]),(27,[0,7,8,127,129]),(28,[0,7,8,14,15,127]),(29,[0,7,8,14,127,134]),(30,[0,7,8,127]),(31,[8,154]),(32,[2]),(33,[2])]
abbrev g_q17_r0:GR:=(OP 0 2 (.mv (K 0)) .done)
abbrev g_q17_r1:GR:=(OP 0 16 .makeMap (O1 1 3 16 .done))
abbrev g_q17_r2:GR:=(O1 0 17 0 (OP 1 18 (.nilCheck (.tmp 17)) (O3 2 19 0 18 (O3 3 20 1 19 (O2 4 21 20 (OP 5 22 (.len (.tmp 21)) (OP 6 23 (.mv (K 0)) .done)))))))
abbrev g_q17_r3:GR:=(O5 0 24 .lss 23 22 .done)
abbrev g_q17_r4:GR:=(O4 0 25 5 21 23 (OP 1 26 (.load (some 5) (.tmp 25)) (OP 2 5 (.alloc 36 [(.int .i64 0),(.int .i64 0),(.int .i64 0),(.int .u64 0),(.int .i64 0)]) (OS 3 (.store 5 (.tmp 5) (.tmp 26)) .done))))
abbrev g_q17_r5:GR:=(O3 0 27 1 5 (O2 1 28 27 (OP 2 29 (.bin .eql (.tmp 28) (K 2)) .done)))
abbrev g_q17_r6:GR:=(O1 0 30 3 (O3 1 31 2 5 (O2 2 32 31 (OP 3 33 (.lookup false (.int .i64 0) (.tmp 30) (.tmp 32)) (OP 4 34 (.bin .add (.tmp 33) (K 1)) (OS 5 (.mapSet (.tmp 30) (.tmp 32) (.tmp 34)) .done))))))
abbrev g_q17_r7:GR:=(OP 0 35 (.bin .add (.tmp 23) (K 1)) (O1 1 23 35 .done))
abbrev g_q17_l8:GC:=(.seq (.reg g_q17_r3 [0,3,21,22,23,24]) (.seq (.cond (.tmp 24) .skip (.exit 0)) (.seq (.block 1 (.seq (.reg g_q17_r4 [0,3,5,21,22,23]) (.seq (.reg g_q17_r5 [0,3,5,21,22,23,29]) (.cond (.tmp 29) (.reg g_q17_r6 [0,3,21,22,23]) .skip)))) (.reg g_q17_r7 [0,3,21,22,23]))))
abbrev g_q17_r9:GR:=(O1 0 36 0 (OP 1 37 (.nilCheck (.tmp 36)) (O3 2 38 0 37 (O3 3 39 1 38 (O2 4 40 39 (OP 5 41 (.len (.tmp 40)) (OP 6 42 (.makeSlice 4 1 1 [(.bool false)] (.tmp 41) (.tmp 41)) (O1 7 6 42 .done))))))))
abbrev g_q17_r10:GR:=(O1 0 43 0 (OP 1 44 (.nilCheck (.tmp 43)) (O3 2 45 0 44 (O3 3 46 3 45 (O6 4 47 46 (OP 5 48 (.len (.tmp 47)) (O1 6 49 0 (OP 7 50 (.nilCheck (.tmp 49)) (O3 8 51 0 50 (O3 9 52 0 51 (O6 10 53 52 (OP 11 54 (.mini (.tmp 48) (.tmp 53)) (O1 12 7 54 .done)))))))))))))
abbrev g_q17_r11:GR:=(O1 0 55 7 (O1 1 8 55 .done))
abbrev g_q17_r12:GR:=(O1 0 56 0 (OP 1 57 (.nilCheck (.tmp 56)) (O3 2 58 0 57 (O3 3 59 3 58 (O2 4 60 59 (O1 5 61 7 (OP 6 62 (.slice 1 (.tmp 60) none (some (.tmp 61))) (OP 7 63 (.len (.tmp 62)) (OP 8 64 (.mv (K 0)) .done)))))))))
abbrev g_q17_r13:GR:=(O5 0 65 .lss 64 63 .done)
abbrev g_q17_r14:GR:=(O1 0 66 64 (O4 1 67 1 62 64 (O2 2 68 67 (O1 3 9 66 (O1 4 10 68 .done)))))
abbrev g_q17_r15:GR:=(O1 0 69 10 (OP 1 70 (.len (.tmp 69)) (OP 2 71 (.bin .gtr (.tmp 70) (K 0)) (O1 3 72 71 (OG 4 73 72 true (.mv (.tmp 10)) (OG 5 74 72 true (.indexAddr 1 (.tmp 73) (K 0)) (OG 6 75 72 true (.load none (.tmp 74)) (OG 7 76 72 true (.mv (.tmp 9)) (OG 8 77 72 true (.bin .eql (.tmp 75) (.tmp 76)) (OP 9 78 (.pick (.tmp 72) (.tmp 77) (.const (.bool false))) (O1 10 11 78 .done)))))))))))
abbrev g_q17_r16:GR:=(O1 0 79 10 (OP 1 80 (.len (.tmp 79)) (OP 2 81 (.mv (K 0)) .done)))
abbrev g_q17_r17:GR:=(O5 0 82 .lss 81 80 .done)
abbrev g_q17_r18:GR:=(O4 0 83 1 79 81 (O2 1 84 83 (O1 2 13 84 .done)))
abbrev g_q17_r19:GR:=(O1 0 85 11 (O1 1 86 85 (OG 2 87 86 true (.mv (.tmp 0)) (OG 3 88 86 true (.mv (.tmp 13)) (OG 4 89 86 true (.call 135 [(.tmp 87),(.tmp 88),(K 2)]) (OP 5 90 (.pick (.tmp 86) (.tmp 89) (.const (.bool false))) (O1 6 91 90 (OG 7 92 91 true (.mv (.tmp 0)) (OG 8 93 91 true (.nilCheck (.tmp 92)) (OG 9 94 91 true (.fieldAddr 0 (.tmp 93)) (OG 10 95 91 true (.fieldAddr 1 (.tmp 94)) (OG 11 96 91 true (.load none (.tmp 95)) (OG 12 97 91 true (.mv (.tmp 13)) (OG 13 98 91 true (.indexAddr 5 (.tmp 96) (.tmp 97)) (OG 14 99 91 true (.fieldAddr 2 (.tmp 98)) (OG 15 100 91 true (.load none (.tmp 99)) (OG 16 101 91 true (.mv (.tmp 9)) (OG 17 102 91 true (.bin .eql (.tmp 100) (.tmp 101)) (OP 18 103 (.pick (.tmp 91) (.tmp 102) (.const (.bool false))) (O1 19 104 103 (OG 20 105 104 true (.mv (.tmp 6)) (OG 21 106 104 true (.mv (.tmp 13)) (OG 22 107 104 true (.indexAddr 1 (.tmp 105) (.tmp 106)) (OG 23 108 104 true (.load none (.tmp 107)) (OG 24 109 104 true (.not (.tmp 108)) (OP 25 110 (.pick (.tmp 104) (.tmp 109) (.const (.bool false))) (O1 26 11 110 .done)))))))))))))))))))))))))))
abbrev g_q17_r20:GR:=(O1 0 111 11 .done)
abbrev g_q17_r21:GR:=(O1 0 112 6 (O1 1 113 13 (O4 2 114 1 112 113 (OS 3 (.store 1 (.tmp 114) (.const (.bool true))) .done))))
abbrev g_q17_r22:GR:=(O1 0 115 3 (O1 1 116 9 (OP 2 117 (.lookup false (.int .i64 0) (.tmp 115) (.tmp 116)) (OP 3 118 (.bin .sub (.tmp 117) (K 1)) (OS 4 (.mapSet (.tmp 115) (.tmp 116) (.tmp 118)) .done)))))
abbrev g_q17_r23:GR:=(OP 0 119 (.bin .add (.tmp 81) (K 1)) (O1 1 81 119 .done))
abbrev g_q17_l24:GC:=(.seq (.reg g_q17_r17 [0,3,6,7,8,9,11,62,63,64,79,80,81,82]) (.seq (.cond (.tmp 82) .skip (.exit 4)) (.seq (.block 5 (.seq (.reg g_q17_r18 [0,3,6,7,8,9,11,13,62,63,64,79,80,81]) (.seq (.reg g_q17_r19 [0,3,6,7,8,9,11,13,62,63,64,79,80,81]) (.seq (.reg g_q17_r20 [0,3,6,7,8,9,11,13,62,63,64,79,80,81,111]) (.cond (.tmp 111) (.seq (.reg g_q17_r21 [0,3,6,7,8,9,11,62,63,64,79,80,81]) (.reg g_q17_r22 [0,3,6,7,8,9,11,62,63,64,79,80,81])) .skip))))) (.reg g_q17_r23 [0,3,6,7,8,9,11,62,63,64,79,80,81]))))
abbrev g_q17_r25:GR:=(O1 0 120 11 (OP 1 121 (.not (.tmp 120)) .done))
abbrev g_q17_r26:GR:=(O1 0 122 8 (O1 1 123 9 (OP 2 124 (.mini (.tmp 122) (.tmp 123)) (O1 3 8 124 .done))))
abbrev g_q17_r27:GR:=(OP 0 125 (.bin .add (.tmp 64) (K 1)) (O1 1 64 125 .done))
abbrev g_q17_l28:GC:=(.seq (.reg g_q17_r13 [0,3,6,7,8,62,63,64,65]) (.seq (.cond (.tmp 65) .skip (.exit 2)) (.seq (.block 3 (.seq (.reg g_q17_r14 [0,3,6,7,8,9,10,62,63,64]) (.seq (.reg g_q17_r15 [0,3,6,7,8,9,10,11,62,63,64]) (.seq (.seq (.reg g_q17_r16 [0,3,6,7,8,9,11,62,63,64,79,80,81]) (.block 4 (.loop g_q17_l24))) (.seq (.reg g_q17_r25 [0,3,6,7,8,9,62,63,64,121]) (.cond (.tmp 121) (.reg g_q17_r26 [0,3,6,7,8,62,63,64]) .skip)))))) (.reg g_q17_r27 [0,3,6,7,8,62,63,64]))))
abbrev g_q17_r29:GR:=(O1 0 126 3 (OP 1 127 (.mrange (.tmp 126)) .done))
abbrev g_q17_r30:GR:=(OP 0 128 (.mnext (.tmp 127)) (OP 1 129 (.extract 0 (.tmp 128)) .done))
abbrev g_q17_r31:GR:=(OP 0 130 (.mentry (.tmp 127)) (OP 1 131 (.extract 0 (.tmp 130)) (OP 2 132 (.extract 1 (.tmp 130)) (O1 3 14 131 (O1 4 15 132 .done)))))
abbrev g_q17_r32:GR:=(O1 0 133 15 (OP 1 134 (.bin .gtr (.tmp 133) (K 0)) .done))
abbrev g_q17_r33:GR:=(O1 0 135 8 (O1 1 136 14 (OP 2 137 (.mini (.tmp 135) (.tmp 136)) (O1 3 8 137 .done))))
abbrev g_q17_l34:GC:=(.seq (.reg g_q17_r30 [0,7,8,127,129]) (.seq (.cond (.tmp 129) .skip (.exit 6)) (.block 7 (.seq (.reg g_q17_r31 [0,7,8,14,15,127]) (.seq (.reg g_q17_r32 [0,7,8,14,127,134]) (.cond (.tmp 134) (.reg g_q17_r33 [0,7,8,127]) .skip))))))
abbrev g_q17_r35:GR:=(O1 0 138 8 (O1 1 139 7 (O5 2 140 .lss 138 139 (O1 3 141 140 (OG 4 142 141 false (.mv (.tmp 0)) (OG 5 143 141 false (.nilCheck (.tmp 142)) (OG 6 144 141 false (.fieldAddr 0 (.tmp 143)) (OG 7 145 141 false (.fieldAddr 3 (.tmp 144)) (.op (GI.mk 8 (some 146) (some (141,false)) (.load none (.tmp 145)) [] true) (OG 9 147 141 false (.len (.tmp 146)) (OG 10 148 141 false (.mv (.tmp 0)) (OG 11 149 141 false (.nilCheck (.tmp 148)) (OG 12 150 141 false (.fieldAddr 0 (.tmp 149)) (OG 13 151 141 false (.fieldAddr 0 (.tmp 150)) (.op (GI.mk 14 (some 152) (some (141,false)) (.load none (.tmp 151)) [] true) (OG 15 153 141 false (.bin .neq (.tmp 147) (.tmp 152)) (OP 16 154 (.pick (.tmp 141) (.const (.bool true)) (.tmp 153)) .done)))))))))))))))))
abbrev g_q17_r36:GR:=(O1 0 155 8 (O1 1 2 155 .done))
abbrev g_q17_r37:GR:=(OP 0 2 (.mv (K (-1))) .done)
abbrev g_q17:GC:=(.seq (.reg g_q17_r0 [0]) (.seq (.reg g_q17_r1 [0,3]) (.seq (.seq (.reg g_q17_r2 [0,3,21,22,23]) (.block 0 (.loop g_q17_l8))) (.seq (.reg g_q17_r9 [0,3,6]) (.seq (.reg g_q17_r10 [0,3,6,7]) (.seq (.reg g_q17_r11 [0,3,6,7,8]) (.seq (.seq (.reg g_q17_r12 [0,3,6,7,8,62,63,64]) (.block 2 (.loop g_q17_l28))) (.seq (.seq (.reg g_q17_r29 [0,7,8,127]) (.block 6 (.loop g_q17_l34))) (.seq (.seq (.reg g_q17_r35 [8,154]) (.cond (.tmp 154) (.seq (.reg g_q17_r36 [2]) .ret) .skip)) (.seq (.reg g_q17_r37 [2]) .ret))))))))))
abbrev rs_q17:List RV:=[(.tmp 2)]
theorem gc_q17:compileF Tryd.prog Tryd.f84 T_q17=some (g_q17,rs_q17):=by kernel_rfl
theorem con_q17 (hv:vc Tryd.prog y g_q17 (retQ rs_q17 R) [(0,a0)] h):ConX y Tryd.prog 84 #[a0] h R:=con_of Tryd.func84 gc_q17 rfl (fun h=>absurd h (by decide)) hv
def T_q23:List (Nat×List Nat):=[(0,[0]),(1,[0,9,10,11]),(2,[0,9,10,11,12]),(3,[0,3,4,9,10,11]),(4,[0,3,9,10,11,82]),(5,[2]),(6,[0,9,10,11]),(7,[2])]
abbrev g_q23_r0:GR:=(OP 0 2 (.mv (K 0)) .done)
abbrev g_q23_r1:GR:=(O1 0 5 0 (OP 1 6 (.nilCheck (.tmp 5)) (O3 2 7 0 6 (O3 3 8 4 7 (O2 4 9 8 (OP 5 10 (.len (.tmp 9)) (OP 6 11 (.mv (K 0)) .done)))))))
abbrev g_q23_r2:GR:=(O5 0 12 .lss 11 10 .done)
abbrev g_q23_r3:GR:=(O1 0 13 11 (O4 1 14 2 9 11 (OP 2 15 (.load (some 2) (.tmp 14)) (OP 3 4 (.alloc 38 [(.int .i64 0),(.int .i64 0)]) (O1 4 3 13 (OS 5 (.store 2 (.tmp 4) (.tmp 15)) .done))))))
abbrev g_q23_r4:GR:=(O1 0 16 3 (OP 1 17 (.bin .gtr (.tmp 16) (K 0)) (O1 2 18 17 (OG 3 19 18 true (.fieldAddr 0 (.tmp 4)) (.op (GI.mk 4 (some 20) (some (18,true)) (.load none (.tmp 19)) [] true) (OG 5 21 18 true (.mv (.tmp 0)) (OG 6 22 18 true (.nilCheck (.tmp 21)) (OG 7 23 18 true (.fieldAddr 0 (.tmp 22)) (OG 8 24 18 true (.fieldAddr 4 (.tmp 23)) (.op (GI.mk 9 (some 25) (some (18,true)) (.load none (.tmp 24)) [] true) (OG 10 26 18 true (.mv (.tmp 3)) (OG 11 27 18 true (.bin .sub (.tmp 26) (K 1)) (OG 12 28 18 true (.indexAddr 2 (.tmp 25) (.tmp 27)) (OG 13 29 18 true (.fieldAddr 0 (.tmp 28)) (.op (GI.mk 14 (some 30) (some (18,true)) (.load none (.tmp 29)) [] true) (OG 15 31 18 true (.bin .leq (.tmp 20) (.tmp 30)) (OP 16 32 (.pick (.tmp 18) (.tmp 31) (.const (.bool false))) (O1 17 33 32 (OG 18 34 33 false (.mv (.tmp 0)) (OG 19 35 33 false (.fieldAddr 0 (.tmp 4)) (.op (GI.mk 20 (some 36) (some (33,false)) (.load none (.tmp 35)) [] true) (.op (GI.mk 21 (some 37) (some (33,false)) (.call 135 [(.tmp 34),(.tmp 36),(K 1)]) [4,9,14] false) (OG 22 38 33 false (.not (.tmp 37)) (OP 23 39 (.pick (.tmp 33) (.const (.bool true)) (.tmp 38)) (O1 24 40 39 (OG 25 41 40 false (.mv (.tmp 0)) (OG 26 42 40 false (.fieldAddr 1 (.tmp 4)) (.op (GI.mk 27 (some 43) (some (40,false)) (.load none (.tmp 42)) [] true) (.op (GI.mk 28 (some 44) (some (40,false)) (.call 135 [(.tmp 41),(.tmp 43),(K 2)]) [4,9,14,20] false) (OG 29 45 40 false (.not (.tmp 44)) (OP 30 46 (.pick (.tmp 40) (.const (.bool true)) (.tmp 45)) (O1 31 47 46 (OG 32 48 47 false (.mv (.tmp 0)) (OG 33 49 47 false (.nilCheck (.tmp 48)) (OG 34 50 47 false (.fieldAddr 9 (.tmp 49)) (.op (GI.mk 35 (some 51) (some (47,false)) (.load none (.tmp 50)) [] true) (OG 36 52 47 false (.fieldAddr 0 (.tmp 4)) (.op (GI.mk 37 (some 53) (some (47,false)) (.load none (.tmp 52)) [] true) (OG 38 54 47 false (.indexAddr 1 (.tmp 51) (.tmp 53)) (.op (GI.mk 39 (some 55) (some (47,false)) (.load none (.tmp 54)) [] true) (OG 40 56 47 false (.fieldAddr 1 (.tmp 4)) (.op (GI.mk 41 (some 57) (some (47,false)) (.load none (.tmp 56)) [] true) (OG 42 58 47 false (.bin .neq (.tmp 55) (.tmp 57)) (OP 43 59 (.pick (.tmp 47) (.const (.bool true)) (.tmp 58)) (O1 44 60 59 (OG 45 61 60 false (.mv (.tmp 0)) (OG 46 62 60 false (.nilCheck (.tmp 61)) (OG 47 63 60 false (.fieldAddr 0 (.tmp 62)) (OG 48 64 60 false (.fieldAddr 1 (.tmp 63)) (.op (GI.mk 49 (some 65) (some (60,false)) (.load none (.tmp 64)) [] true) (OG 50 66 60 false (.fieldAddr 0 (.tmp 4)) (.op (GI.mk 51 (some 67) (some (60,false)) (.load none (.tmp 66)) [] true) (OG 52 68 60 false (.indexAddr 5 (.tmp 65) (.tmp 67)) (OG 53 69 60 false (.fieldAddr 2 (.tmp 68)) (.op (GI.mk 54 (some 70) (some (60,false)) (.load none (.tmp 69)) [] true) (OG 55 71 60 false (.mv (.tmp 0)) (OG 56 72 60 false (.nilCheck (.tmp 71)) (OG 57 73 60 false (.fieldAddr 0 (.tmp 72)) (OG 58 74 60 false (.fieldAddr 1 (.tmp 73)) (.op (GI.mk 59 (some 75) (some (60,false)) (.load none (.tmp 74)) [] true) (OG 60 76 60 false (.fieldAddr 1 (.tmp 4)) (.op (GI.mk 61 (some 77) (some (60,false)) (.load none (.tmp 76)) [] true) (OG 62 78 60 false (.indexAddr 5 (.tmp 75) (.tmp 77)) (OG 63 79 60 false (.fieldAddr 2 (.tmp 78)) (.op (GI.mk 64 (some 80) (some (60,false)) (.load none (.tmp 79)) [] true) (OG 65 81 60 false (.bin .neq (.tmp 70) (.tmp 80)) (OP 66 82 (.pick (.tmp 60) (.const (.bool true)) (.tmp 81)) .done)))))))))))))))))))))))))))))))))))))))))))))))))))))))))))))))))))
abbrev g_q23_r5:GR:=(O1 0 83 3 (O1 1 2 83 .done))
abbrev g_q23_r6:GR:=(OP 0 84 (.bin .add (.tmp 11) (K 1)) (O1 1 11 84 .done))
abbrev g_q23_l7:GC:=(.seq (.reg g_q23_r2 [0,9,10,11,12]) (.seq (.cond (.tmp 12) .skip (.exit 0)) (.seq (.block 1 (.seq (.reg g_q23_r3 [0,3,4,9,10,11]) (.seq (.reg g_q23_r4 [0,3,9,10,11,82]) (.cond (.tmp 82) (.seq (.reg g_q23_r5 [2]) .ret) .skip)))) (.reg g_q23_r6 [0,9,10,11]))))
abbrev g_q23_r8:GR:=(OP 0 2 (.mv (K (-1))) .done)
abbrev g_q23:GC:=(.seq (.reg g_q23_r0 [0]) (.seq (.seq (.reg g_q23_r1 [0,9,10,11]) (.block 0 (.loop g_q23_l7))) (.seq (.reg g_q23_r8 [2]) .ret)))
abbrev rs_q23:List RV:=[(.tmp 2)]
theorem gc_q23:compileF Tryd.prog Tryd.f85 T_q23=some (g_q23,rs_q23):=by kernel_rfl
theorem con_q23 (hv:vc Tryd.prog y g_q23 (retQ rs_q23 R) [(0,a0)] h):ConX y Tryd.prog 85 #[a0] h R:=con_of Tryd.func85 gc_q23 rfl (fun h=>absurd h (by decide)) hv
def T_q18:List (Nat×List Nat):=[(0,[0,1,2]),(1,[0,1,2,9,10,11]),(2,[0,1,2,9,10,11,12]),(3,[0,1,2,7,8,9,10,11]),(4,[0,1,2,7,9,10,11,88]),(5,[6]),(6,[0,1,2,9,10,11]),(7,[6])]
abbrev g_q18_r0:GR:=(OP 0 6 (.mv (K 0)) .done)
abbrev g_q18_r1:GR:=(O1 0 9 1 (OP 1 10 (.len (.tmp 9)) (OP 2 11 (.mv (K 0)) .done)))
abbrev g_q18_r2:GR:=(O5 0 12 .lss 11 10 .done)
abbrev g_q18_r3:GR:=(O1 0 13 11 (O4 1 14 2 9 11 (OP 2 15 (.load (some 2) (.tmp 14)) (OP 3 8 (.alloc 38 [(.int .i64 0),(.int .i64 0)]) (O1 4 7 13 (OS 5 (.store 2 (.tmp 8) (.tmp 15)) .done))))))
abbrev g_q18_r4:GR:=(O1 0 16 7 (OP 1 17 (.bin .gtr (.tmp 16) (K 0)) (O1 2 18 17 (OG 3 19 18 true (.fieldAddr 0 (.tmp 8)) (.op (GI.mk 4 (some 20) (some (18,true)) (.load none (.tmp 19)) [] true) (OG 5 21 18 true (.mv (.tmp 1)) (OG 6 22 18 true (.mv (.tmp 7)) (OG 7 23 18 true (.bin .sub (.tmp 22) (K 1)) (OG 8 24 18 true (.indexAddr 2 (.tmp 21) (.tmp 23)) (OG 9 25 18 true (.fieldAddr 0 (.tmp 24)) (.op (GI.mk 10 (some 26) (some (18,true)) (.load none (.tmp 25)) [] true) (OG 11 27 18 true (.bin .lss (.tmp 20) (.tmp 26)) (OG 12 28 18 true (.mv (.tmp 27)) (OG 13 29 28 false (.fieldAddr 0 (.tmp 8)) (.op (GI.mk 14 (some 30) (some (28,false)) (.load none (.tmp 29)) [] true) (OG 15 31 28 false (.mv (.tmp 1)) (OG 16 32 28 false (.mv (.tmp 7)) (OG 17 33 28 false (.bin .sub (.tmp 32) (K 1)) (OG 18 34 28 false (.indexAddr 2 (.tmp 31) (.tmp 33)) (OG 19 35 28 false (.fieldAddr 0 (.tmp 34)) (.op (GI.mk 20 (some 36) (some (28,false)) (.load none (.tmp 35)) [] true) (OG 21 37 28 false (.bin .eql (.tmp 30) (.tmp 36)) (OG 22 38 28 false (.mv (.tmp 37)) (OG 23 39 38 true (.fieldAddr 1 (.tmp 8)) (.op (GI.mk 24 (some 40) (some (38,true)) (.load none (.tmp 39)) [] true) (OG 25 41 38 true (.mv (.tmp 1)) (OG 26 42 38 true (.mv (.tmp 7)) (OG 27 43 38 true (.bin .sub (.tmp 42) (K 1)) (OG 28 44 38 true (.indexAddr 2 (.tmp 41) (.tmp 43)) (OG 29 45 38 true (.fieldAddr 1 (.tmp 44)) (.op (GI.mk 30 (some 46) (some (38,true)) (.load none (.tmp 45)) [] true) (OG 31 47 38 true (.bin .leq (.tmp 40) (.tmp 46)) (OG 32 48 28 false (.pick (.tmp 38) (.tmp 47) (.const (.bool false))) (OG 33 49 18 true (.pick (.tmp 28) (.const (.bool true)) (.tmp 48)) (OP 34 50 (.pick (.tmp 18) (.tmp 49) (.const (.bool false))) (O1 35 51 50 (OG 36 52 51 false (.mv (.tmp 0)) (OG 37 53 51 false (.nilCheck (.tmp 52)) (OG 38 54 51 false (.fieldAddr 8 (.tmp 53)) (.op (GI.mk 39 (some 55) (some (51,false)) (.load none (.tmp 54)) [] true) (OG 40 56 51 false (.not (.tmp 55)) (OP 41 57 (.pick (.tmp 51) (.const (.bool true)) (.tmp 56)) (O1 42 58 57 (OG 43 59 58 false (.mv (.tmp 0)) (OG 44 60 58 false (.fieldAddr 0 (.tmp 8)) (.op (GI.mk 45 (some 61) (some (58,false)) (.load none (.tmp 60)) [] true) (.op (GI.mk 46 (some 62) (some (58,false)) (.call 135 [(.tmp 59),(.tmp 61),(K 1)]) [4,10,14,20,24,30,39] false) (OG 47 63 58 false (.not (.tmp 62)) (OP 48 64 (.pick (.tmp 58) (.const (.bool true)) (.tmp 63)) (O1 49 65 64 (OG 50 66 65 false (.mv (.tmp 0)) (OG 51 67 65 false (.fieldAddr 0 (.tmp 8)) (.op (GI.mk 52 (some 68) (some (65,false)) (.load none (.tmp 67)) [] true) (OG 53 69 65 false (.fieldAddr 1 (.tmp 8)) (.op (GI.mk 54 (some 70) (some (65,false)) (.load none (.tmp 69)) [] true) (.op (GI.mk 55 (some 71) (some (65,false)) (.call 136 [(.tmp 66),(.tmp 68),(.tmp 70)]) [4,10,14,20,24,30,39,45] false) (OG 56 72 65 false (.not (.tmp 71)) (OP 57 73 (.pick (.tmp 65) (.const (.bool true)) (.tmp 72)) (O1 58 74 73 (OG 59 75 74 false (.mv (.tmp 2)) (OG 60 76 74 false (.mv (.tmp 0)) (OG 61 77 74 false (.nilCheck (.tmp 76)) (OG 62 78 74 false (.fieldAddr 0 (.tmp 77)) (OG 63 79 74 false (.fieldAddr 1 (.tmp 78)) (.op (GI.mk 64 (some 80) (some (74,false)) (.load none (.tmp 79)) [] true) (OG 65 81 74 false (.fieldAddr 1 (.tmp 8)) (.op (GI.mk 66 (some 82) (some (74,false)) (.load none (.tmp 81)) [] true) (OG 67 83 74 false (.indexAddr 5 (.tmp 80) (.tmp 82)) (OG 68 84 74 false (.fieldAddr 1 (.tmp 83)) (.op (GI.mk 69 (some 85) (some (74,false)) (.load none (.tmp 84)) [] true) (.op (GI.mk 70 (some 86) (some (74,false)) (.call 133 [(.tmp 75),(.tmp 85)]) [4,10,14,20,24,30,39,45,52,54,64,66] false) (OG 71 87 74 false (.not (.tmp 86)) (OP 72 88 (.pick (.tmp 74) (.const (.bool true)) (.tmp 87)) .done)))))))))))))))))))))))))))))))))))))))))))))))))))))))))))))))))))))))))
abbrev g_q18_r5:GR:=(O1 0 89 7 (O1 1 6 89 .done))
abbrev g_q18_r6:GR:=(OP 0 90 (.bin .add (.tmp 11) (K 1)) (O1 1 11 90 .done))
abbrev g_q18_l7:GC:=(.seq (.reg g_q18_r2 [0,1,2,9,10,11,12]) (.seq (.cond (.tmp 12) .skip (.exit 0)) (.seq (.block 1 (.seq (.reg g_q18_r3 [0,1,2,7,8,9,10,11]) (.seq (.reg g_q18_r4 [0,1,2,7,9,10,11,88]) (.cond (.tmp 88) (.seq (.reg g_q18_r5 [6]) .ret) .skip)))) (.reg g_q18_r6 [0,1,2,9,10,11]))))
abbrev g_q18_r8:GR:=(OP 0 6 (.mv (K (-1))) .done)
abbrev g_q18:GC:=(.seq (.reg g_q18_r0 [0,1,2]) (.seq (.seq (.reg g_q18_r1 [0,1,2,9,10,11]) (.block 0 (.loop g_q18_l7))) (.seq (.reg g_q18_r8 [6]) .ret)))
abbrev rs_q18:List RV:=[(.tmp 6)]
theorem gc_q18:compileF Tryd.prog Tryd.f86 T_q18=some (g_q18,rs_q18):=by kernel_rfl
theorem con_q18 (hv:vc Tryd.prog y g_q18 (retQ rs_q18 R) [(0,a0),(1,a1),(2,a2)] h):ConX y Tryd.prog 86 #[a0,a1,a2] h R:=con_of Tryd.func86 gc_q18 rfl (fun h=>absurd h (by decide)) hv
def T_q116:List (Nat×List Nat):=[(0,[0,1]),(1,[1,5]),(2,[5,10,11,12]),(3,[5,10,11,12,13]),(4,[5,7,10,11,12]),(5,[5,10,11,12]),(6,[5,10,11,12]),(7,[4])]
abbrev g_q116_r0:GR:=(OP 0 4 (.mv (.const (.pointer none))) .done)
abbrev g_q116_r1:GR:=(O1 0 8 0 (OP 1 9 (.call 56 [(.tmp 8)]) (O1 2 5 9 .done)))
abbrev g_q116_r2:GR:=(O1 0 10 1 (OP 1 11 (.len (.tmp 10)) (OP 2 12 (.mv (K 0)) .done)))
abbrev g_q116_r3:GR:=(O5 0 13 .lss 12 11 .done)
abbrev g_q116_r4:GR:=(O4 0 14 2 10 12 (OP 1 15 (.load (some 2) (.tmp 14)) (OP 2 7 (.alloc 38 [(.int .i64 0),(.int .i64 0)]) (OS 3 (.store 2 (.tmp 7) (.tmp 15)) .done))))
abbrev g_q116_r5:GR:=(O1 0 16 5 (O3 1 17 0 7 (O2 2 18 17 (O3 3 19 1 7 (O2 4 20 19 (OP 5 21 (.call 95 [(.tmp 16),(.tmp 18),(.tmp 20),(.const (.bool true))]) .done))))))
abbrev g_q116_r6:GR:=(OP 0 22 (.bin .add (.tmp 12) (K 1)) (O1 1 12 22 .done))
abbrev g_q116_l7:GC:=(.seq (.reg g_q116_r3 [5,10,11,12,13]) (.seq (.cond (.tmp 13) .skip (.exit 0)) (.seq (.block 1 (.seq (.reg g_q116_r4 [5,7,10,11,12]) (.reg g_q116_r5 [5,10,11,12]))) (.reg g_q116_r6 [5,10,11,12]))))
abbrev g_q116_r8:GR:=(O1 0 23 5 (O1 1 4 23 .done))
abbrev g_q116:GC:=(.seq (.reg g_q116_r0 [0,1]) (.seq (.reg g_q116_r1 [1,5]) (.seq (.seq (.reg g_q116_r2 [5,10,11,12]) (.block 0 (.loop g_q116_l7))) (.seq (.reg g_q116_r8 [4]) .ret))))
abbrev rs_q116:List RV:=[(.tmp 4)]
theorem gc_q116:compileF Tryd.prog Tryd.f94 T_q116=some (g_q116,rs_q116):=by kernel_rfl
theorem con_q116 (hv:vc Tryd.prog y g_q116 (retQ rs_q116 R) [(0,a0),(1,a1)] h):ConX y Tryd.prog 94 #[a0,a1] h R:=con_of Tryd.func94 gc_q116 rfl (fun h=>absurd h (by decide)) hv
def T_q123:List (Nat×List Nat):=[(0,[0,1,2,3]),(1,[0,1,2,26]),(2,[8]),(3,[]),(4,[8])]
abbrev g_q123_r0:GR:=(OP 0 8 (.mv (.const (.bool false))) .done)
abbrev g_q123_r1:GR:=(O1 0 9 0 (O1 1 10 1 (O1 2 11 2 (OP 3 12 (.call 119 [(.tmp 9),(.tmp 10),(.tmp 11)]) (OP 4 13 (.not (.tmp 12)) (O1 5 14 13 (OG 6 15 14 false (.mv (.tmp 0)) (OG 7 16 14 false (.nilCheck (.tmp 15)) (OG 8 17 14 false (.fieldAddr 1 (.tmp 16)) (OG 9 18 14 false (.load none (.tmp 17)) (OG 10 19 14 false (.mv (.tmp 1)) (OG 11 20 14 false (.indexAddr 1 (.tmp 18) (.tmp 19)) (OG 12 21 14 false (.load none (.tmp 20)) (OG 13 22 14 false (.mv (.tmp 2)) (OG 14 23 14 false (.call 111 [(.tmp 21),(.tmp 22)]) (OG 15 24 14 false (.mv (.tmp 3)) (OG 16 25 14 false (.eqBool false (.tmp 23) (.tmp 24)) (OP 17 26 (.pick (.tmp 14) (.const (.bool true)) (.tmp 25)) .done))))))))))))))))))
abbrev g_q123_r2:GR:=(OP 0 8 (.mv (.const (.bool false))) .done)
abbrev g_q123_r3:GR:=(O1 0 27 0 (OP 1 28 (.nilCheck (.tmp 27)) (O3 2 29 1 28 (O6 3 30 29 (O1 4 31 1 (O4 5 32 1 30 31 (O6 6 33 32 (O1 7 34 2 (OP 8 35 (.bin .quo (.tmp 34) (K 64)) (O4 9 36 1 33 35 (O6 10 37 36 (O1 11 38 2 (OP 12 39 (.bin .rem (.tmp 38) (K 64)) (OP 13 40 (.shift .shl (.const (.int .u64 1)) (.tmp 39)) (O5 14 41 .xor 37 40 (O4 15 42 1 33 35 (OS 16 (.store 1 (.tmp 42) (.tmp 41)) .done)))))))))))))))))
abbrev g_q123_r4:GR:=(OP 0 8 (.mv (.const (.bool true))) .done)
abbrev g_q123:GC:=(.seq (.reg g_q123_r0 [0,1,2,3]) (.seq (.seq (.reg g_q123_r1 [0,1,2,26]) (.cond (.tmp 26) (.seq (.reg g_q123_r2 [8]) .ret) .skip)) (.seq (.reg g_q123_r3 []) (.seq (.reg g_q123_r4 [8]) .ret))))
abbrev rs_q123:List RV:=[(.tmp 8)]
theorem gc_q123:compileF Tryd.prog Tryd.f95 T_q123=some (g_q123,rs_q123):=by kernel_rfl
theorem con_q123 (hv:vc Tryd.prog y g_q123 (retQ rs_q123 R) [(0,a0),(1,a1),(2,a2),(3,a3)] h):ConX y Tryd.prog 95 #[a0,a1,a2,a3] h R:=con_of Tryd.func95 gc_q123 rfl (fun h=>absurd h (by decide)) hv
def T_q113:List (Nat×List Nat):=[(0,[0,2]),(1,[0,2,3]),(2,[2,3,15,16,17]),(3,[2,3,15,16,17,18]),(4,[2,3,4,5,15,16,17]),(5,[2,3,4,15,16,17,23]),(6,[3,4,6]),(7,[]),(8,[2,3,15,16,17]),(9,[2])]
abbrev g_q113_r0:GR:=(OP 0 2 (.mv (.const (.pointer none))) .done)
abbrev g_q113_r1:GR:=(O1 0 7 0 (OP 1 8 (.nilCheck (.tmp 7)) (O3 2 9 0 8 (O2 3 10 9 (OP 4 11 (.call 56 [(.tmp 10)]) (OP 5 3 (.alloc 80 [(.pointer none)]) (OS 6 (.store 1 (.tmp 3) (.tmp 11)) .done)))))))
abbrev g_q113_r2:GR:=(O1 0 12 0 (OP 1 13 (.nilCheck (.tmp 12)) (O3 2 14 1 13 (O2 3 15 14 (OP 4 16 (.len (.tmp 15)) (OP 5 17 (.mv (K 0)) .done))))))
abbrev g_q113_r3:GR:=(O5 0 18 .lss 17 16 .done)
abbrev g_q113_r4:GR:=(O1 0 19 17 (O4 1 20 1 15 17 (O2 2 21 20 (OP 3 4 (.alloc 3 [(.int .i64 0)]) (OS 4 (.store 1 (.tmp 4) (.tmp 19)) (O1 5 5 21 .done))))))
abbrev g_q113_r5:GR:=(O1 0 22 5 (OP 1 23 (.call 118 [(.tmp 22)]) .done))
abbrev g_q113_r6:GR:=(O1 0 6 24 .done)
abbrev g_q113_r7:GR:=(O6 0 25 3 (OP 1 26 (.nilCheck (.tmp 25)) (O3 2 27 1 26 (O6 3 28 27 (O1 4 29 6 (O4 5 30 1 28 29 (O6 6 31 30 (O6 7 32 4 (.op (GI.mk 8 (some 33) none (.call 140 [(.tmp 31),(.tmp 32)]) [0,3] false) .done)))))))))
abbrev g_q113_b8:GC:=(.block 3 (.reg g_q113_r7 []))
abbrev g_q113_r9:GR:=(OP 0 34 (.bin .add (.tmp 17) (K 1)) (O1 1 17 34 .done))
abbrev g_q113_l10:GC:=(.seq (.reg g_q113_r3 [2,3,15,16,17,18]) (.seq (.cond (.tmp 18) .skip (.exit 0)) (.seq (.block 1 (.seq (.reg g_q113_r4 [2,3,4,5,15,16,17]) (.seq (.reg g_q113_r5 [2,3,4,15,16,17,23]) (.block 2 (.rng (.tmp 23) [24] (.reg g_q113_r6 [3,4,6]) g_q113_b8))))) (.reg g_q113_r9 [2,3,15,16,17]))))
abbrev g_q113_r11:GR:=(O2 0 35 3 (O1 1 2 35 .done))
abbrev g_q113:GC:=(.seq (.reg g_q113_r0 [0,2]) (.seq (.reg g_q113_r1 [0,2,3]) (.seq (.seq (.reg g_q113_r2 [2,3,15,16,17]) (.block 0 (.loop g_q113_l10))) (.seq (.reg g_q113_r11 [2]) .ret))))
abbrev rs_q113:List RV:=[(.tmp 2)]
theorem gc_q113:compileF Tryd.prog Tryd.f96 T_q113=some (g_q113,rs_q113):=by kernel_rfl
theorem con_q113 (hR:∀ v h1 h2,Ext h.size h1 h2→R v h1→R v h2) (hv:vc Tryd.prog y g_q113 (retQ rs_q113 R) [(0,a0)] h):ConX y Tryd.prog 96 #[a0] h R:=con_of Tryd.func96 gc_q113 rfl (fun _=>hR) hv
def T_q121:List (Nat×List Nat):=[(0,[0]),(1,[2])]
abbrev g_q121_r0:GR:=(OP 0 2 (.mv (K 0)) .done)
abbrev g_q121_r1:GR:=(O1 0 3 0 (OP 1 4 (.nilCheck (.tmp 3)) (O3 2 5 0 4 (O2 3 6 5 (O1 4 2 6 .done)))))
abbrev g_q121:GC:=(.seq (.reg g_q121_r0 [0]) (.seq (.reg g_q121_r1 [2]) .ret))
abbrev rs_q121:List RV:=[(.tmp 2)]
theorem gc_q121:compileF Tryd.prog Tryd.f97 T_q121=some (g_q121,rs_q121):=by kernel_rfl
theorem con_q121 (hv:vc Tryd.prog y g_q121 (retQ rs_q121 R) [(0,a0)] h):ConX y Tryd.prog 97 #[a0] h R:=con_of Tryd.func97 gc_q121 rfl (fun h=>absurd h (by decide)) hv
def T_q122:List (Nat×List Nat):=[(0,[0,2]),(1,[0,2,3]),(2,[2,3,10,11,12]),(3,[2,3,10,11,12,13]),(4,[2,3,4,5,10,11,12]),(5,[2,3,4,10,11,12,18]),(6,[3,4,6]),(7,[]),(8,[2,3,10,11,12]),(9,[2])]
abbrev g_q122_r0:GR:=(OP 0 2 (.mv (.const (.slice none 0 0))) .done)
abbrev g_q122_r1:GR:=(OP 0 3 (.alloc 23 [(.slice none 0 0)]) .done)
abbrev g_q122_r2:GR:=(O1 0 7 0 (OP 1 8 (.nilCheck (.tmp 7)) (O3 2 9 1 8 (O2 3 10 9 (OP 4 11 (.len (.tmp 10)) (OP 5 12 (.mv (K 0)) .done))))))
abbrev g_q122_r3:GR:=(O5 0 13 .lss 12 11 .done)
abbrev g_q122_r4:GR:=(O1 0 14 12 (O4 1 15 1 10 12 (O2 2 16 15 (OP 3 4 (.alloc 3 [(.int .i64 0)]) (OS 4 (.store 1 (.tmp 4) (.tmp 14)) (O1 5 5 16 .done))))))
abbrev g_q122_r5:GR:=(O1 0 17 5 (OP 1 18 (.call 118 [(.tmp 17)]) .done))
abbrev g_q122_r6:GR:=(O1 0 6 19 .done)
abbrev g_q122_r7:GR:=(O2 0 20 3 (O2 1 21 4 (O1 2 22 6 (OP 3 23 (.build [(.int .i64 0),(.int .i64 0)] [(0,(1,(.tmp 21))),(1,(1,(.tmp 22)))]) (OP 4 24 (.buildSlice 38 1 [(.int .i64 0),(.int .i64 0)] [(0,(2,(.tmp 23)))]) (OP 5 25 (.append 38 2 16 [(.int .i64 0),(.int .i64 0)] (.tmp 20) (.tmp 24)) (OS 6 (.store 1 (.tmp 3) (.tmp 25)) .done)))))))
abbrev g_q122_b8:GC:=(.block 3 (.reg g_q122_r7 []))
abbrev g_q122_r9:GR:=(OP 0 26 (.bin .add (.tmp 12) (K 1)) (O1 1 12 26 .done))
abbrev g_q122_l10:GC:=(.seq (.reg g_q122_r3 [2,3,10,11,12,13]) (.seq (.cond (.tmp 13) .skip (.exit 0)) (.seq (.block 1 (.seq (.reg g_q122_r4 [2,3,4,5,10,11,12]) (.seq (.reg g_q122_r5 [2,3,4,10,11,12,18]) (.block 2 (.rng (.tmp 18) [19] (.reg g_q122_r6 [3,4,6]) g_q122_b8))))) (.reg g_q122_r9 [2,3,10,11,12]))))
abbrev g_q122_r11:GR:=(O2 0 27 3 (O1 1 2 27 .done))
abbrev g_q122:GC:=(.seq (.reg g_q122_r0 [0,2]) (.seq (.reg g_q122_r1 [0,2,3]) (.seq (.seq (.reg g_q122_r2 [2,3,10,11,12]) (.block 0 (.loop g_q122_l10))) (.seq (.reg g_q122_r11 [2]) .ret))))
abbrev rs_q122:List RV:=[(.tmp 2)]
theorem gc_q122:compileF Tryd.prog Tryd.f98 T_q122=some (g_q122,rs_q122):=by kernel_rfl
theorem con_q122 (hR:∀ v h1 h2,Ext h.size h1 h2→R v h1→R v h2) (hv:vc Tryd.prog y g_q122 (retQ rs_q122 R) [(0,a0)] h):ConX y Tryd.prog 98 #[a0] h R:=con_of Tryd.func98 gc_q122 rfl (fun _=>hR) hv
def T_q53:List (Nat×List Nat):=[(0,[0]),(1,[0,4]),(2,[0,4,5]),(3,[0,4,5,6]),(4,[4,5,6,17,18,19]),(5,[4,5,6,17,18,19,20]),(6,[4,5,6,8,17,18,19]),(7,[4,5,6,8,17,18,19]),(8,[4,5,6,17,18,19]),(9,[4,5,6,17,18,19]),(10,[4,5,6,9]),(11,[2,5,6,9]),(12,[2,3]),(13,[2,3])]
abbrev g_q53_r0:GR:=(OP 0 2 (.mv (.const Value.nilFunc)) (OP 1 3 (.mv (.const Value.nilFunc)) .done))
abbrev g_q53_r1:GR:=(O1 0 10 0 (OP 1 11 (.call 97 [(.tmp 10)]) (OP 2 4 (.alloc 3 [(.int .i64 0)]) (OS 3 (.store 1 (.tmp 4) (.tmp 11)) .done))))
abbrev g_q53_r2:GR:=(O2 0 12 4 (OP 1 13 (.makeSlice 3 1 8 [(.int .i64 0)] (.tmp 12) (.tmp 12)) (OP 2 5 (.alloc 39 [(.slice none 0 0)]) (OS 3 (.store 1 (.tmp 5) (.tmp 13)) .done))))
abbrev g_q53_r3:GR:=(O2 0 14 4 (OP 1 15 (.makeSlice 39 1 24 [(.slice none 0 0)] (.tmp 14) (.tmp 14)) (OP 2 6 (.alloc 24 [(.slice none 0 0)]) (OS 3 (.store 1 (.tmp 6) (.tmp 15)) .done))))
abbrev g_q53_r4:GR:=(O1 0 16 0 (OP 1 17 (.call 98 [(.tmp 16)]) (OP 2 18 (.len (.tmp 17)) (OP 3 19 (.mv (K 0)) .done))))
abbrev g_q53_r5:GR:=(O5 0 20 .lss 19 18 .done)
abbrev g_q53_r6:GR:=(O4 0 21 2 17 19 (OP 1 22 (.load (some 2) (.tmp 21)) (OP 2 8 (.alloc 38 [(.int .i64 0),(.int .i64 0)]) (OS 3 (.store 2 (.tmp 8) (.tmp 22)) .done))))
abbrev g_q53_r7:GR:=(O2 0 23 5 (O3 1 24 1 8 (O2 2 25 24 (O4 3 26 1 23 25 (O2 4 27 26 (OP 5 28 (.bin .add (.tmp 27) (K 1)) (O4 6 29 1 23 25 (OS 7 (.store 1 (.tmp 29) (.tmp 28)) .done))))))))
abbrev g_q53_r8:GR:=(O6 0 30 6 (O3 1 31 0 8 (O6 2 32 31 (O6 3 33 6 (O3 4 34 0 8 (O6 5 35 34 (O4 6 36 1 33 35 (O6 7 37 36 (O3 8 38 1 8 (O6 9 39 38 (OP 10 40 (.buildSlice 3 1 [(.int .i64 0)] [(0,(1,(.tmp 39)))]) (.op (GI.mk 11 (some 41) none (.append 3 1 8 [(.int .i64 0)] (.tmp 37) (.tmp 40)) [0,2,3,5,9] false) (O4 12 42 1 30 32 (OS 13 (.store 1 (.tmp 42) (.tmp 41)) .done))))))))))))))
abbrev g_q53_r9:GR:=(OP 0 43 (.bin .add (.tmp 19) (K 1)) (O1 1 19 43 .done))
abbrev g_q53_l10:GC:=(.seq (.reg g_q53_r5 [4,5,6,17,18,19,20]) (.seq (.cond (.tmp 20) .skip (.exit 0)) (.seq (.block 1 (.seq (.reg g_q53_r6 [4,5,6,8,17,18,19]) (.seq (.reg g_q53_r7 [4,5,6,8,17,18,19]) (.reg g_q53_r8 [4,5,6,17,18,19])))) (.reg g_q53_r9 [4,5,6,17,18,19]))))
abbrev g_q53_r11:GR:=(O2 0 44 4 (OP 1 45 (.makeSlice 4 1 1 [(.bool false)] (.tmp 44) (.tmp 44)) (OP 2 9 (.alloc 78 [(.slice none 0 0)]) (OS 3 (.store 1 (.tmp 9) (.tmp 45)) .done))))
abbrev g_q53_r12:GR:=(OP 0 46 (.makeFunc (Fn.func 141) [] [(.tmp 4),(.tmp 9),(.tmp 5)]) (O1 1 2 46 .done))
abbrev g_q53_r13:GR:=(OP 0 47 (.makeFunc (Fn.func 142) [] [(.tmp 9),(.tmp 6),(.tmp 5)]) (O1 1 3 47 .done))
abbrev g_q53_r14:GR:=(O1 0 48 2 (O1 1 49 3 (O1 2 2 48 (O1 3 3 49 .done))))
abbrev g_q53:GC:=(.seq (.reg g_q53_r0 [0]) (.seq (.reg g_q53_r1 [0,4]) (.seq (.reg g_q53_r2 [0,4,5]) (.seq (.reg g_q53_r3 [0,4,5,6]) (.seq (.seq (.reg g_q53_r4 [4,5,6,17,18,19]) (.block 0 (.loop g_q53_l10))) (.seq (.reg g_q53_r11 [4,5,6,9]) (.seq (.reg g_q53_r12 [2,5,6,9]) (.seq (.reg g_q53_r13 [2,3]) (.seq (.reg g_q53_r14 [2,3]) .ret)))))))))
abbrev rs_q53:List RV:=[(.tmp 2),(.tmp 3)]
theorem gc_q53:compileF Tryd.prog Tryd.f99 T_q53=some (g_q53,rs_q53):=by kernel_rfl
theorem con_q53 (hv:vc Tryd.prog y g_q53 (retQ rs_q53 R) [(0,a0)] h):ConX y Tryd.prog 99 #[a0] h R:=con_of Tryd.func99 gc_q53 rfl (fun h=>absurd h (by decide)) hv
def T_q131:List (Nat×List Nat):=[(0,[0,7,8,9]),(1,[0,7,8,9,10]),(2,[0,5,7,8,9]),(3,[0,5,7,8,9,17,18]),(4,[0,5,7,8,9,17,18,19]),(5,[0,5,6,7,8,9,17,18]),(6,[0,5,7,8,9,17,18]),(7,[0,5,7,8,9,17,18]),(8,[0,7,8,9])]
abbrev g_q131_r0:GR:=(O1 0 7 1 (OP 1 8 (.len (.tmp 7)) (OP 2 9 (.mv (K 0)) .done)))
abbrev g_q131_r1:GR:=(O5 0 10 .lss 9 8 .done)
abbrev g_q131_r2:GR:=(O4 0 11 1 7 9 (O2 1 12 11 (O1 2 5 12 .done)))
abbrev g_q131_r3:GR:=(O1 0 13 0 (OP 1 14 (.len (.tmp 13)) (O1 2 15 5 (OP 3 16 (.len (.tmp 15)) (OP 4 17 (.mini (.tmp 14) (.tmp 16)) (OP 5 18 (.mv (K 0)) .done))))))
abbrev g_q131_r4:GR:=(O5 0 19 .lss 18 17 .done)
abbrev g_q131_r5:GR:=(O1 0 20 18 (O1 1 6 20 .done))
abbrev g_q131_r6:GR:=(O1 0 21 0 (O1 1 22 6 (O4 2 23 1 21 22 (O6 3 24 23 (O1 4 25 5 (O1 5 26 6 (O4 6 27 1 25 26 (O6 7 28 27 (O5 8 29 .or 24 28 (O4 9 30 1 21 22 (OS 10 (.store 1 (.tmp 30) (.tmp 29)) .done)))))))))))
abbrev g_q131_r7:GR:=(OP 0 31 (.bin .add (.tmp 18) (K 1)) (O1 1 18 31 .done))
abbrev g_q131_l8:GC:=(.seq (.reg g_q131_r4 [0,5,7,8,9,17,18,19]) (.seq (.cond (.tmp 19) .skip (.exit 2)) (.seq (.block 3 (.seq (.reg g_q131_r5 [0,5,6,7,8,9,17,18]) (.reg g_q131_r6 [0,5,7,8,9,17,18]))) (.reg g_q131_r7 [0,5,7,8,9,17,18]))))
abbrev g_q131_r9:GR:=(OP 0 32 (.bin .add (.tmp 9) (K 1)) (O1 1 9 32 .done))
abbrev g_q131_l10:GC:=(.seq (.reg g_q131_r1 [0,7,8,9,10]) (.seq (.cond (.tmp 10) .skip (.exit 0)) (.seq (.block 1 (.seq (.reg g_q131_r2 [0,5,7,8,9]) (.seq (.reg g_q131_r3 [0,5,7,8,9,17,18]) (.block 2 (.loop g_q131_l8))))) (.reg g_q131_r9 [0,7,8,9]))))
abbrev g_q131:GC:=(.seq (.reg g_q131_r0 [0,7,8,9]) (.block 0 (.loop g_q131_l10)))
abbrev rs_q131:List RV:=[]
theorem gc_q131:compileF Tryd.prog Tryd.f100 T_q131=some (g_q131,rs_q131):=by kernel_rfl
theorem con_q131 (hv:vc Tryd.prog y g_q131 (retQ rs_q131 R) [(0,a0),(1,a1)] h):ConX y Tryd.prog 100 #[a0,a1] h R:=con_of Tryd.func100 gc_q131 rfl (fun h=>absurd h (by decide)) hv
def T_q118:List (Nat×List Nat):=[(0,[0]),(1,[3]),(2,[3,11,12]),(3,[3,11,12,13]),(4,[3,4,11,12]),(5,[3,4,11,12,18,19]),(6,[3,4,11,12,18,19,20]),(7,[3,4,5,11,12,18,19]),(8,[3,4,5,11,12,18,19,30]),(9,[3,4,11,12,18,19]),(10,[3,4,11,12,18,19]),(11,[3,11,12]),(12,[2])]
abbrev g_q118_r0:GR:=(OP 0 2 (.mv (.const (.pointer none))) .done)
abbrev g_q118_r1:GR:=(O1 0 6 0 (OP 1 7 (.call 150 [(.tmp 6)]) (O1 2 3 7 .done)))
abbrev g_q118_r2:GR:=(O1 0 8 3 (OP 1 9 (.nilCheck (.tmp 8)) (O3 2 10 0 9 (O2 3 11 10 (OP 4 12 (.mv (K 0)) .done)))))
abbrev g_q118_r3:GR:=(O5 0 13 .lss 12 11 .done)
abbrev g_q118_r4:GR:=(O1 0 14 12 (O1 1 4 14 .done))
abbrev g_q118_r5:GR:=(O1 0 15 3 (OP 1 16 (.nilCheck (.tmp 15)) (O3 2 17 0 16 (O2 3 18 17 (OP 4 19 (.mv (K 0)) .done)))))
abbrev g_q118_r6:GR:=(O5 0 20 .lss 19 18 .done)
abbrev g_q118_r7:GR:=(O1 0 21 19 (O1 1 5 21 .done))
abbrev g_q118_r8:GR:=(O1 0 22 3 (OP 1 23 (.nilCheck (.tmp 22)) (O3 2 24 1 23 (O2 3 25 24 (O1 4 26 5 (O4 5 27 1 25 26 (O2 6 28 27 (O1 7 29 4 (OP 8 30 (.call 111 [(.tmp 28),(.tmp 29)]) .done)))))))))
abbrev g_q118_r9:GR:=(O1 0 31 3 (OP 1 32 (.nilCheck (.tmp 31)) (O3 2 33 1 32 (O6 3 34 33 (O1 4 35 5 (O4 5 36 1 34 35 (O6 6 37 36 (O1 7 38 3 (OP 8 39 (.nilCheck (.tmp 38)) (O3 9 40 1 39 (O6 10 41 40 (O1 11 42 4 (O4 12 43 1 41 42 (O6 13 44 43 (OP 14 45 (.buildSlice 145 1 [(.slice none 0 0)] [(0,(1,(.tmp 44)))]) (.op (GI.mk 15 (some 46) none (.call 100 [(.tmp 37),(.tmp 45)]) [3,10,13] false) .done))))))))))))))))
abbrev g_q118_r10:GR:=(OP 0 47 (.bin .add (.tmp 19) (K 1)) (O1 1 19 47 .done))
abbrev g_q118_l11:GC:=(.seq (.reg g_q118_r6 [3,4,11,12,18,19,20]) (.seq (.cond (.tmp 20) .skip (.exit 2)) (.seq (.block 3 (.seq (.reg g_q118_r7 [3,4,5,11,12,18,19]) (.seq (.reg g_q118_r8 [3,4,5,11,12,18,19,30]) (.cond (.tmp 30) (.reg g_q118_r9 [3,4,11,12,18,19]) .skip)))) (.reg g_q118_r10 [3,4,11,12,18,19]))))
abbrev g_q118_r12:GR:=(OP 0 48 (.bin .add (.tmp 12) (K 1)) (O1 1 12 48 .done))
abbrev g_q118_l13:GC:=(.seq (.reg g_q118_r3 [3,11,12,13]) (.seq (.cond (.tmp 13) .skip (.exit 0)) (.seq (.block 1 (.seq (.reg g_q118_r4 [3,4,11,12]) (.seq (.reg g_q118_r5 [3,4,11,12,18,19]) (.block 2 (.loop g_q118_l11))))) (.reg g_q118_r12 [3,11,12]))))
abbrev g_q118_r14:GR:=(O1 0 49 3 (O1 1 2 49 .done))
abbrev g_q118:GC:=(.seq (.reg g_q118_r0 [0]) (.seq (.reg g_q118_r1 [3]) (.seq (.seq (.reg g_q118_r2 [3,11,12]) (.block 0 (.loop g_q118_l13))) (.seq (.reg g_q118_r14 [2]) .ret))))
abbrev rs_q118:List RV:=[(.tmp 2)]
theorem gc_q118:compileF Tryd.prog Tryd.f110 T_q118=some (g_q118,rs_q118):=by kernel_rfl
theorem con_q118 (hv:vc Tryd.prog y g_q118 (retQ rs_q118 R) [(0,a0)] h):ConX y Tryd.prog 110 #[a0] h R:=con_of Tryd.func110 gc_q118 rfl (fun h=>absurd h (by decide)) hv
def T_q130:List (Nat×List Nat):=[(0,[0,1]),(1,[4])]
abbrev g_q130_r0:GR:=(OP 0 4 (.mv (.const (.bool false))) .done)
abbrev g_q130_r1:GR:=(O1 0 5 0 (O1 1 6 1 (OP 2 7 (.bin .quo (.tmp 6) (K 64)) (O4 3 8 1 5 7 (O2 4 9 8 (O1 5 10 1 (OP 6 11 (.bin .rem (.tmp 10) (K 64)) (OP 7 12 (.shift .shr (.tmp 9) (.tmp 11)) (OP 8 13 (.bin .and (.tmp 12) (.const (.int .u64 1))) (OP 9 14 (.bin .eql (.tmp 13) (.const (.int .u64 1))) (O1 10 4 14 .done)))))))))))
abbrev g_q130:GC:=(.seq (.reg g_q130_r0 [0,1]) (.seq (.reg g_q130_r1 [4]) .ret))
abbrev rs_q130:List RV:=[(.tmp 4)]
theorem gc_q130:compileF Tryd.prog Tryd.f111 T_q130=some (g_q130,rs_q130):=by kernel_rfl
theorem con_q130 (hv:vc Tryd.prog y g_q130 (retQ rs_q130 R) [(0,a0),(1,a1)] h):ConX y Tryd.prog 111 #[a0,a1] h R:=con_of Tryd.func111 gc_q130 rfl (fun h=>absurd h (by decide)) hv
def T_q125:List (Nat×List Nat):=[(0,[0,1,4]),(1,[0,1,4,5]),(2,[0,1,4,5,6]),(3,[0,1,4,5,6,7]),(4,[0,1,4,5,6,7,8]),(5,[0,1,4,5,6,7,8,27]),(6,[0,1,4,5,6,7,8]),(7,[0,1,4,5,6,7,8,9]),(8,[0,1,4,5,6,7,8,9,30,31,32]),(9,[0,1,4,5,6,7,8,9,30,31,32,33]),(10,[0,1,4,5,6,7,8,9,11,30,31,32]),(11,[0,1,4,5,6,7,8,9,30,31,32,43]),(12,[6,8,9,12]),(13,[6,8,9,12,49]),(14,[9,12]),(15,[]),(16,[0,1,4,5,6,7,8,9,30,31,32]),(17,[0,1,4,5,6,7,8]),(18,[0,1,4,5,6,7,60]),(19,[0,1,4,5,6,7,8]),(20,[0,1,4,6,13]),(21,[0,4,6,13,14]),(22,[0,4,6,13,14,69]),(23,[0,4,6,13,14]),(24,[0,4,6,13,14,84]),(25,[6,13,14,15]),(26,[13,15,91]),(27,[]),(28,[0,4,6,13,96]),(29,[0,4,6,13,14]),(30,[4])]
abbrev g_q125_r0:GR:=(OP 0 4 (.mv (.const (.slice none 0 0))) .done)
abbrev g_q125_r1:GR:=(O1 0 16 0 (OP 1 17 (.call 96 [(.tmp 16)]) (O1 2 5 17 .done)))
abbrev g_q125_r2:GR:=(O1 0 18 0 (OP 1 19 (.nilCheck (.tmp 18)) (O3 2 20 0 19 (O2 3 21 20 (OP 4 22 (.makeSlice 3 1 8 [(.int .i64 0)] (.tmp 21) (.tmp 21)) (OP 5 6 (.alloc 39 [(.slice none 0 0)]) (OS 6 (.store 1 (.tmp 6) (.tmp 22)) .done)))))))
abbrev g_q125_r3:GR:=(O1 0 23 1 (OP 1 24 (.buildSlice 3 1 [(.int .i64 0)] [(0,(1,(.tmp 23)))]) (O1 2 7 24 .done)))
abbrev g_q125_r4:GR:=(OP 0 8 (.alloc 3 [(.int .i64 0)]) (OS 1 (.store 1 (.tmp 8) (K 1)) .done))
abbrev g_q125_r5:GR:=(O1 0 25 7 (OP 1 26 (.len (.tmp 25)) (OP 2 27 (.bin .gtr (.tmp 26) (K 0)) .done)))
abbrev g_q125_r6:GR:=(OP 0 9 (.alloc 39 [(.slice none 0 0)]) .done)
abbrev g_q125_r7:GR:=(O1 0 30 7 (OP 1 31 (.len (.tmp 30)) (OP 2 32 (.mv (K 0)) .done)))
abbrev g_q125_r8:GR:=(O5 0 33 .lss 32 31 .done)
abbrev g_q125_r9:GR:=(O4 0 34 1 30 32 (O2 1 35 34 (O1 2 11 35 .done)))
abbrev g_q125_r10:GR:=(O1 0 36 5 (OP 1 37 (.nilCheck (.tmp 36)) (O3 2 38 1 37 (O2 3 39 38 (O1 4 40 11 (O4 5 41 1 39 40 (O2 6 42 41 (OP 7 43 (.call 118 [(.tmp 42)]) .done))))))))
abbrev g_q125_r11:GR:=(O1 0 12 44 .done)
abbrev g_q125_r12:GR:=(O2 0 45 6 (O1 1 46 12 (O4 2 47 1 45 46 (O2 3 48 47 (OP 4 49 (.bin .eql (.tmp 48) (K 0)) .done)))))
abbrev g_q125_r13:GR:=(O2 0 50 6 (O1 1 51 12 (O2 2 52 8 (O4 3 53 1 50 51 (OS 4 (.store 1 (.tmp 53) (.tmp 52)) .done)))))
abbrev g_q125_r14:GR:=(O2 0 54 9 (O1 1 55 12 (OP 2 56 (.buildSlice 3 1 [(.int .i64 0)] [(0,(1,(.tmp 55)))]) (OP 3 57 (.append 3 1 8 [(.int .i64 0)] (.tmp 54) (.tmp 56)) (OS 4 (.store 1 (.tmp 9) (.tmp 57)) .done)))))
abbrev g_q125_b15:GC:=(.block 5 (.seq (.reg g_q125_r12 [6,8,9,12,49]) (.cond (.tmp 49) (.seq (.reg g_q125_r13 [9,12]) (.reg g_q125_r14 [])) .skip)))
abbrev g_q125_r16:GR:=(OP 0 58 (.bin .add (.tmp 32) (K 1)) (O1 1 32 58 .done))
abbrev g_q125_l17:GC:=(.seq (.reg g_q125_r8 [0,1,4,5,6,7,8,9,30,31,32,33]) (.seq (.cond (.tmp 33) .skip (.exit 2)) (.seq (.block 3 (.seq (.reg g_q125_r9 [0,1,4,5,6,7,8,9,11,30,31,32]) (.seq (.reg g_q125_r10 [0,1,4,5,6,7,8,9,30,31,32,43]) (.block 4 (.rng (.tmp 43) [44] (.reg g_q125_r11 [6,8,9,12]) g_q125_b15))))) (.reg g_q125_r16 [0,1,4,5,6,7,8,9,30,31,32]))))
abbrev g_q125_r18:GR:=(O2 0 59 9 (O1 1 7 59 .done))
abbrev g_q125_r19:GR:=(O2 0 60 8 .done)
abbrev g_q125_r20:GR:=(OP 0 8 (.alloc 3 [(.int .i64 0)]) (OS 1 (.store 1 (.tmp 8) (.tmp 60)) .done))
abbrev g_q125_r21:GR:=(O2 0 28 8 (OP 1 29 (.bin .add (.tmp 28) (K 1)) (OS 2 (.store 1 (.tmp 8) (.tmp 29)) .done)))
abbrev g_q125_l22:GC:=(.seq (.seq (.reg g_q125_r5 [0,1,4,5,6,7,8,27]) (.cond (.tmp 27) .skip (.exit 0))) (.seq (.block 1 (.seq (.reg g_q125_r6 [0,1,4,5,6,7,8,9]) (.seq (.seq (.reg g_q125_r7 [0,1,4,5,6,7,8,9,30,31,32]) (.block 2 (.loop g_q125_l17))) (.reg g_q125_r18 [0,1,4,5,6,7,8])))) (.seq (.seq (.reg g_q125_r19 [0,1,4,5,6,7,60]) (.reg g_q125_r20 [0,1,4,5,6,7,8])) (.reg g_q125_r21 [0,1,4,5,6,7,8]))))
abbrev g_q125_r23:GR:=(O1 0 61 1 (OP 1 62 (.buildSlice 3 1 [(.int .i64 0)] [(0,(1,(.tmp 61)))]) (OP 2 13 (.alloc 39 [(.slice none 0 0)]) (OS 3 (.store 1 (.tmp 13) (.tmp 62)) .done))))
abbrev g_q125_r24:GR:=(O2 0 63 6 (O1 1 64 1 (O4 2 65 1 63 64 (O2 3 66 65 (OP 4 67 (.bin .sub (.tmp 66) (K 1)) (OP 5 14 (.alloc 3 [(.int .i64 0)]) (OS 6 (.store 1 (.tmp 14) (.tmp 67)) .done)))))))
abbrev g_q125_r25:GR:=(O2 0 68 14 (OP 1 69 (.bin .gtr (.tmp 68) (K 0)) .done))
abbrev g_q125_r26:GR:=(O1 0 72 0 (OP 1 73 (.nilCheck (.tmp 72)) (O3 2 74 1 73 (O6 3 75 74 (O6 4 76 13 (O6 5 77 13 (OP 6 78 (.len (.tmp 77)) (OP 7 79 (.bin .sub (.tmp 78) (K 1)) (O4 8 80 1 76 79 (O6 9 81 80 (O4 10 82 1 75 81 (O6 11 83 82 (.op (GI.mk 12 (some 84) none (.call 118 [(.tmp 83)]) [3,4,5,9] false) .done)))))))))))))
abbrev g_q125_r27:GR:=(O1 0 15 85 .done)
abbrev g_q125_r28:GR:=(O6 0 86 6 (O1 1 87 15 (O4 2 88 1 86 87 (O6 3 89 88 (O6 4 90 14 (O5 5 91 .eql 89 90 .done))))))
abbrev g_q125_r29:GR:=(O2 0 92 13 (O1 1 93 15 (OP 2 94 (.buildSlice 3 1 [(.int .i64 0)] [(0,(1,(.tmp 93)))]) (OP 3 95 (.append 3 1 8 [(.int .i64 0)] (.tmp 92) (.tmp 94)) (OS 4 (.store 1 (.tmp 13) (.tmp 95)) .done)))))
abbrev g_q125_b30:GC:=(.block 9 (.seq (.reg g_q125_r28 [13,15,91]) (.cond (.tmp 91) (.seq (.reg g_q125_r29 []) (.exit 8)) .skip)))
abbrev g_q125_r31:GR:=(O2 0 96 14 .done)
abbrev g_q125_r32:GR:=(OP 0 14 (.alloc 3 [(.int .i64 0)]) (OS 1 (.store 1 (.tmp 14) (.tmp 96)) .done))
abbrev g_q125_r33:GR:=(O2 0 70 14 (OP 1 71 (.bin .sub (.tmp 70) (K 1)) (OS 2 (.store 1 (.tmp 14) (.tmp 71)) .done)))
abbrev g_q125_l34:GC:=(.seq (.seq (.reg g_q125_r25 [0,4,6,13,14,69]) (.cond (.tmp 69) .skip (.exit 6))) (.seq (.block 7 (.seq (.reg g_q125_r26 [0,4,6,13,14,84]) (.block 8 (.rng (.tmp 84) [85] (.reg g_q125_r27 [6,13,14,15]) g_q125_b30)))) (.seq (.seq (.reg g_q125_r31 [0,4,6,13,96]) (.reg g_q125_r32 [0,4,6,13,14])) (.reg g_q125_r33 [0,4,6,13,14]))))
abbrev g_q125_r35:GR:=(O2 0 97 13 (O1 1 4 97 .done))
abbrev g_q125:GC:=(.seq (.reg g_q125_r0 [0,1,4]) (.seq (.reg g_q125_r1 [0,1,4,5]) (.seq (.reg g_q125_r2 [0,1,4,5,6]) (.seq (.reg g_q125_r3 [0,1,4,5,6,7]) (.seq (.seq (.reg g_q125_r4 [0,1,4,5,6,7,8]) (.block 0 (.loop g_q125_l22))) (.seq (.reg g_q125_r23 [0,1,4,6,13]) (.seq (.seq (.reg g_q125_r24 [0,4,6,13,14]) (.block 6 (.loop g_q125_l34))) (.seq (.reg g_q125_r35 [4]) .ret))))))))
abbrev rs_q125:List RV:=[(.tmp 4)]
theorem gc_q125:compileF Tryd.prog Tryd.f112 T_q125=some (g_q125,rs_q125):=by kernel_rfl
theorem con_q125 (hR:∀ v h1 h2,Ext h.size h1 h2→R v h1→R v h2) (hv:vc Tryd.prog y g_q125 (retQ rs_q125 R) [(0,a0),(1,a1)] h):ConX y Tryd.prog 112 #[a0,a1] h R:=con_of Tryd.func112 gc_q125 rfl (fun _=>hR) hv
def T_q132:List (Nat×List Nat):=[(0,[1]),(1,[2])]
abbrev g_q132_r0:GR:=(OP 0 1 (.box 145 (.tmp 0)) (OP 1 2 (.mv (.const Value.nilFunc)) .done))
abbrev g_q132_r1:GR:=(OP 0 3 (.makeFunc (Fn.func 155) [] [(.tmp 1)]) (O1 1 2 3 .done))
abbrev g_q132:GC:=(.seq (.reg g_q132_r0 [1]) (.seq (.reg g_q132_r1 [2]) .ret))
abbrev rs_q132:List RV:=[(.tmp 2)]
theorem gc_q132:compileF Tryd.prog Tryd.f118 T_q132=some (g_q132,rs_q132):=by kernel_rfl
theorem con_q132 (hv:vc Tryd.prog y g_q132 (retQ rs_q132 R) [(0,a0)] h):ConX y Tryd.prog 118 #[a0] h R:=con_of Tryd.func118 gc_q132 rfl (fun h=>absurd h (by decide)) hv
def T_q124:List (Nat×List Nat):=[(0,[0,1,2]),(1,[6])]
abbrev g_q124_r0:GR:=(OP 0 6 (.mv (.const (.bool false))) .done)
abbrev g_q124_r1:GR:=(O1 0 7 1 (OP 1 8 (.bin .geq (.tmp 7) (K 0)) (O1 2 9 8 (OG 3 10 9 true (.mv (.tmp 1)) (OG 4 11 9 true (.mv (.tmp 0)) (OG 5 12 9 true (.nilCheck (.tmp 11)) (OG 6 13 9 true (.fieldAddr 0 (.tmp 12)) (OG 7 14 9 true (.load none (.tmp 13)) (OG 8 15 9 true (.bin .lss (.tmp 10) (.tmp 14)) (OP 9 16 (.pick (.tmp 9) (.tmp 15) (.const (.bool false))) (O1 10 17 16 (OG 11 18 17 true (.mv (.tmp 2)) (OG 12 19 17 true (.bin .geq (.tmp 18) (K 0)) (OP 13 20 (.pick (.tmp 17) (.tmp 19) (.const (.bool false))) (O1 14 21 20 (OG 15 22 21 true (.mv (.tmp 2)) (OG 16 23 21 true (.mv (.tmp 0)) (OG 17 24 21 true (.nilCheck (.tmp 23)) (OG 18 25 21 true (.fieldAddr 0 (.tmp 24)) (OG 19 26 21 true (.load none (.tmp 25)) (OG 20 27 21 true (.bin .lss (.tmp 22) (.tmp 26)) (OP 21 28 (.pick (.tmp 21) (.tmp 27) (.const (.bool false))) (O1 22 6 28 .done)))))))))))))))))))))))
abbrev g_q124:GC:=(.seq (.reg g_q124_r0 [0,1,2]) (.seq (.reg g_q124_r1 [6]) .ret))
abbrev rs_q124:List RV:=[(.tmp 6)]
theorem gc_q124:compileF Tryd.prog Tryd.f119 T_q124=some (g_q124,rs_q124):=by kernel_rfl
theorem con_q124 (hv:vc Tryd.prog y g_q124 (retQ rs_q124 R) [(0,a0),(1,a1),(2,a2)] h):ConX y Tryd.prog 119 #[a0,a1,a2] h R:=con_of Tryd.func119 gc_q124 rfl (fun h=>absurd h (by decide)) hv
def T_q147:List (Nat×List Nat):=[(0,[0,1,3]),(1,[0,1,3,8]),(2,[0,1,3]),(3,[0,1,3,18])]
abbrev g_q147_r0:GR:=(O2 0 4 1 (OP 1 5 (.len (.tmp 4)) (OP 2 6 (.bin .sub (.tmp 5) (K 1)) (O1 3 3 6 .done))))
abbrev g_q147_r1:GR:=(O1 0 7 3 (OP 1 8 (.bin .geq (.tmp 7) (K 0)) .done))
abbrev g_q147_r2:GR:=(O1 0 11 0 (O1 1 12 3 (O2 2 13 1 (O1 3 14 3 (O4 4 15 5 13 14 (OP 5 16 (.load (some 5) (.tmp 15)) (OP 6 17 (.callv (.tmp 11) [(.tmp 12),(.tmp 16)]) (OP 7 18 (.not (.tmp 17)) .done))))))))
abbrev g_q147_r3:GR:=(O1 0 9 3 (OP 1 10 (.bin .sub (.tmp 9) (K 1)) (O1 2 3 10 .done)))
abbrev g_q147_l4:GC:=(.seq (.seq (.reg g_q147_r1 [0,1,3,8]) (.cond (.tmp 8) .skip (.exit 0))) (.seq (.block 1 (.seq (.reg g_q147_r2 [0,1,3,18]) (.cond (.tmp 18) .ret .skip))) (.reg g_q147_r3 [0,1,3])))
abbrev g_q147:GC:=(.seq (.reg g_q147_r0 [0,1,3]) (.block 0 (.loop g_q147_l4)))
abbrev rs_q147:List RV:=[]
theorem gc_q147:compileF Tryd.prog Tryd.f132 T_q147=some (g_q147,rs_q147):=by kernel_rfl
theorem con_q147 (hv:vc Tryd.prog y g_q147 (retQ rs_q147 R) [(0,a0),(1,a1)] h):ConX y Tryd.prog 132 #[a0,a1] h R:=con_of Tryd.func132 gc_q147 rfl (fun h=>absurd h (by decide)) hv
def T_q153:List (Nat×List Nat):=[(0,[0,1]),(1,[4])]
abbrev g_q153_r0:GR:=(OP 0 4 (.mv (.const (.bool false))) .done)
abbrev g_q153_r1:GR:=(O1 0 5 0 (O1 1 6 1 (OP 2 7 (.call 158 [(.tmp 5),(.tmp 6)]) (OP 3 8 (.bin .geq (.tmp 7) (K 0)) (O1 4 4 8 .done)))))
abbrev g_q153:GC:=(.seq (.reg g_q153_r0 [0,1]) (.seq (.reg g_q153_r1 [4]) .ret))
abbrev rs_q153:List RV:=[(.tmp 4)]
theorem gc_q153:compileF Tryd.prog Tryd.f133 T_q153=some (g_q153,rs_q153):=by kernel_rfl
theorem con_q153 (hv:vc Tryd.prog y g_q153 (retQ rs_q153 R) [(0,a0),(1,a1)] h):ConX y Tryd.prog 133 #[a0,a1] h R:=con_of Tryd.func133 gc_q153 rfl (fun h=>absurd h (by decide)) hv
def T_q24:List (Nat×List Nat):=[(0,[0,1]),(1,[0,1,5]),(2,[4]),(3,[0,1,12]),(4,[4]),(5,[0,1,16]),(6,[4]),(7,[0,1,23]),(8,[4]),(9,[0,27]),(10,[4]),(11,[34]),(12,[4]),(13,[4])]
abbrev g_q24_r0:GR:=(OP 0 4 (.mv (.const (.slice none 0 0))) .done)
abbrev g_q24_r1:GR:=(O1 0 6 0 (OP 1 7 (.bin .eql (.tmp 6) (K 1)) (O1 2 8 7 (OG 3 9 8 true (.mv (.tmp 1)) (OP 4 10 (.pick (.tmp 8) (.tmp 9) (.const (.bool false))) (O1 5 5 10 .done))))))
abbrev g_q24_r2:GR:=(OP 0 11 (.buildSlice 3 3 [(.int .i64 0),(.int .i64 0),(.int .i64 0)] [(0,(1,(K 11))),(1,(1,(K 12))),(2,(1,(K 16)))]) (O1 1 4 11 .done))
abbrev g_q24_r3:GR:=(O1 0 13 0 (OP 1 14 (.bin .eql (.tmp 13) (K 1)) (O1 2 12 14 .done)))
abbrev g_q24_r4:GR:=(OP 0 15 (.buildSlice 3 3 [(.int .i64 0),(.int .i64 0),(.int .i64 0)] [(0,(1,(K 1))),(1,(1,(K 2))),(2,(1,(K 5)))]) (O1 1 4 15 .done))
abbrev g_q24_r5:GR:=(O1 0 17 0 (OP 1 18 (.bin .eql (.tmp 17) (K 2)) (O1 2 19 18 (OG 3 20 19 true (.mv (.tmp 1)) (OP 4 21 (.pick (.tmp 19) (.tmp 20) (.const (.bool false))) (O1 5 16 21 .done))))))
abbrev g_q24_r6:GR:=(OP 0 22 (.buildSlice 3 2 [(.int .i64 0),(.int .i64 0)] [(0,(1,(K 11))),(1,(1,(K 13)))]) (O1 1 4 22 .done))
abbrev g_q24_r7:GR:=(O1 0 24 0 (OP 1 25 (.bin .eql (.tmp 24) (K 2)) (O1 2 23 25 .done)))
abbrev g_q24_r8:GR:=(OP 0 26 (.buildSlice 3 3 [(.int .i64 0),(.int .i64 0),(.int .i64 0)] [(0,(1,(K 1))),(1,(1,(K 3))),(2,(1,(K 5)))]) (O1 1 4 26 .done))
abbrev g_q24_r9:GR:=(O1 0 28 0 (OP 1 29 (.bin .eql (.tmp 28) (K 3)) (O1 2 30 29 (OG 3 31 30 true (.mv (.tmp 1)) (OP 4 32 (.pick (.tmp 30) (.tmp 31) (.const (.bool false))) (O1 5 27 32 .done))))))
abbrev g_q24_r10:GR:=(OP 0 33 (.buildSlice 3 2 [(.int .i64 0),(.int .i64 0)] [(0,(1,(K 14))),(1,(1,(K 15)))]) (O1 1 4 33 .done))
abbrev g_q24_r11:GR:=(O1 0 35 0 (OP 1 36 (.bin .eql (.tmp 35) (K 3)) (O1 2 34 36 .done)))
abbrev g_q24_r12:GR:=(OP 0 37 (.buildSlice 3 4 [(.int .i64 0),(.int .i64 0),(.int .i64 0),(.int .i64 0)] [(0,(1,(K 2))),(1,(1,(K 3))),(2,(1,(K 4))),(3,(1,(K 5)))]) (O1 1 4 37 .done))
abbrev g_q24_r13:GR:=(OP 0 4 (.mv (.const (.slice none 0 0))) .done)
abbrev g_q24:GC:=(.seq (.reg g_q24_r0 [0,1]) (.seq (.block 0 (.seq (.reg g_q24_r1 [0,1,5]) (.cond (.tmp 5) (.seq (.reg g_q24_r2 [4]) .ret) (.seq (.reg g_q24_r3 [0,1,12]) (.cond (.tmp 12) (.seq (.reg g_q24_r4 [4]) .ret) (.seq (.reg g_q24_r5 [0,1,16]) (.cond (.tmp 16) (.seq (.reg g_q24_r6 [4]) .ret) (.seq (.reg g_q24_r7 [0,1,23]) (.cond (.tmp 23) (.seq (.reg g_q24_r8 [4]) .ret) (.seq (.reg g_q24_r9 [0,27]) (.cond (.tmp 27) (.seq (.reg g_q24_r10 [4]) .ret) (.seq (.reg g_q24_r11 [34]) (.cond (.tmp 34) (.seq (.reg g_q24_r12 [4]) .ret) .skip))))))))))))) (.seq (.reg g_q24_r13 [4]) .ret)))
abbrev rs_q24:List RV:=[(.tmp 4)]
theorem gc_q24:compileF Tryd.prog Tryd.f134 T_q24=some (g_q24,rs_q24):=by kernel_rfl
theorem con_q24 (hv:vc Tryd.prog y g_q24 (retQ rs_q24 R) [(0,a0),(1,a1)] h):ConX y Tryd.prog 134 #[a0,a1] h R:=con_of Tryd.func134 gc_q24 rfl (fun h=>absurd h (by decide)) hv
def T_q20:List (Nat×List Nat):=[(0,[0,1,2]),(1,[6])]
abbrev g_q20_r0:GR:=(OP 0 6 (.mv (.const (.bool false))) .done)
abbrev g_q20_r1:GR:=(O1 0 7 1 (OP 1 8 (.bin .geq (.tmp 7) (K 0)) (O1 2 9 8 (OG 3 10 9 true (.mv (.tmp 1)) (OG 4 11 9 true (.mv (.tmp 0)) (OG 5 12 9 true (.nilCheck (.tmp 11)) (OG 6 13 9 true (.fieldAddr 0 (.tmp 12)) (OG 7 14 9 true (.fieldAddr 1 (.tmp 13)) (OG 8 15 9 true (.load none (.tmp 14)) (OG 9 16 9 true (.len (.tmp 15)) (OG 10 17 9 true (.bin .lss (.tmp 10) (.tmp 16)) (OP 11 18 (.pick (.tmp 9) (.tmp 17) (.const (.bool false))) (O1 12 19 18 (OG 13 20 19 true (.mv (.tmp 0)) (OG 14 21 19 true (.nilCheck (.tmp 20)) (OG 15 22 19 true (.fieldAddr 0 (.tmp 21)) (OG 16 23 19 true (.fieldAddr 1 (.tmp 22)) (OG 17 24 19 true (.load none (.tmp 23)) (OG 18 25 19 true (.mv (.tmp 1)) (OG 19 26 19 true (.indexAddr 5 (.tmp 24) (.tmp 25)) (OG 20 27 19 true (.fieldAddr 1 (.tmp 26)) (OG 21 28 19 true (.load none (.tmp 27)) (OG 22 29 19 true (.mv (.tmp 2)) (OG 23 30 19 true (.bin .eql (.tmp 28) (.tmp 29)) (OP 24 31 (.pick (.tmp 19) (.tmp 30) (.const (.bool false))) (O1 25 6 31 .done))))))))))))))))))))))))))
abbrev g_q20:GC:=(.seq (.reg g_q20_r0 [0,1,2]) (.seq (.reg g_q20_r1 [6]) .ret))
abbrev rs_q20:List RV:=[(.tmp 6)]
theorem gc_q20:compileF Tryd.prog Tryd.f135 T_q20=some (g_q20,rs_q20):=by kernel_rfl
theorem con_q20 (hv:vc Tryd.prog y g_q20 (retQ rs_q20 R) [(0,a0),(1,a1),(2,a2)] h):ConX y Tryd.prog 135 #[a0,a1,a2] h R:=con_of Tryd.func135 gc_q20 rfl (fun h=>absurd h (by decide)) hv
def T_q21:List (Nat×List Nat):=[(0,[0,1,2]),(1,[1,2,7]),(2,[6])]
abbrev g_q21_r0:GR:=(OP 0 6 (.mv (.const (.bool false))) .done)
abbrev g_q21_r1:GR:=(O1 0 8 0 (OP 1 9 (.nilCheck (.tmp 8)) (O3 2 10 0 9 (O3 3 11 1 10 (O2 4 12 11 (O1 5 7 12 .done))))))
abbrev g_q21_r2:GR:=(O1 0 13 1 (OP 1 14 (.bin .geq (.tmp 13) (K 0)) (O1 2 15 14 (OG 3 16 15 true (.mv (.tmp 1)) (OG 4 17 15 true (.mv (.tmp 2)) (OG 5 18 15 true (.bin .lss (.tmp 16) (.tmp 17)) (OP 6 19 (.pick (.tmp 15) (.tmp 18) (.const (.bool false))) (O1 7 20 19 (OG 8 21 20 true (.mv (.tmp 2)) (OG 9 22 20 true (.mv (.tmp 7)) (OG 10 23 20 true (.len (.tmp 22)) (OG 11 24 20 true (.bin .lss (.tmp 21) (.tmp 23)) (OP 12 25 (.pick (.tmp 20) (.tmp 24) (.const (.bool false))) (O1 13 26 25 (OG 14 27 26 true (.mv (.tmp 7)) (OG 15 28 26 true (.mv (.tmp 1)) (OG 16 29 26 true (.indexAddr 5 (.tmp 27) (.tmp 28)) (OG 17 30 26 true (.fieldAddr 0 (.tmp 29)) (.op (GI.mk 18 (some 31) (some (26,true)) (.load none (.tmp 30)) [] true) (OG 19 32 26 true (.bin .geq (.tmp 31) (K 0)) (OP 20 33 (.pick (.tmp 26) (.tmp 32) (.const (.bool false))) (O1 21 34 33 (OG 22 35 34 true (.mv (.tmp 7)) (OG 23 36 34 true (.mv (.tmp 1)) (OG 24 37 34 true (.indexAddr 5 (.tmp 35) (.tmp 36)) (OG 25 38 34 true (.fieldAddr 0 (.tmp 37)) (.op (GI.mk 26 (some 39) (some (34,true)) (.load none (.tmp 38)) [] true) (OG 27 40 34 true (.mv (.tmp 7)) (OG 28 41 34 true (.mv (.tmp 2)) (OG 29 42 34 true (.indexAddr 5 (.tmp 40) (.tmp 41)) (OG 30 43 34 true (.fieldAddr 0 (.tmp 42)) (.op (GI.mk 31 (some 44) (some (34,true)) (.load none (.tmp 43)) [] true) (OG 32 45 34 true (.bin .eql (.tmp 39) (.tmp 44)) (OP 33 46 (.pick (.tmp 34) (.tmp 45) (.const (.bool false))) (O1 34 6 46 .done)))))))))))))))))))))))))))))))))))
abbrev g_q21:GC:=(.seq (.reg g_q21_r0 [0,1,2]) (.seq (.reg g_q21_r1 [1,2,7]) (.seq (.reg g_q21_r2 [6]) .ret)))
abbrev rs_q21:List RV:=[(.tmp 6)]
theorem gc_q21:compileF Tryd.prog Tryd.f136 T_q21=some (g_q21,rs_q21):=by kernel_rfl
theorem con_q21 (hv:vc Tryd.prog y g_q21 (retQ rs_q21 R) [(0,a0),(1,a1),(2,a2)] h):ConX y Tryd.prog 136 #[a0,a1,a2] h R:=con_of Tryd.func136 gc_q21 rfl (fun h=>absurd h (by decide)) hv
def T_q134:List (Nat×List Nat):=[(0,[])]
abbrev g_q134_r0:GR:=(O1 0 4 0 (O1 1 5 1 (OP 2 6 (.bin .quo (.tmp 5) (K 64)) (O4 3 7 1 4 6 (O6 4 8 7 (O1 5 9 1 (OP 6 10 (.bin .rem (.tmp 9) (K 64)) (OP 7 11 (.shift .shl (.const (.int .u64 1)) (.tmp 10)) (O5 8 12 .or 8 11 (O4 9 13 1 4 6 (OS 10 (.store 1 (.tmp 13) (.tmp 12)) .done)))))))))))
abbrev g_q134:GC:=(.reg g_q134_r0 [])
abbrev rs_q134:List RV:=[]
theorem gc_q134:compileF Tryd.prog Tryd.f140 T_q134=some (g_q134,rs_q134):=by kernel_rfl
theorem con_q134 (hv:vc Tryd.prog y g_q134 (retQ rs_q134 R) [(0,a0),(1,a1)] h):ConX y Tryd.prog 140 #[a0,a1] h R:=con_of Tryd.func140 gc_q134 rfl (fun h=>absurd h (by decide)) hv
def T_q54:List (Nat×List Nat):=[(0,[0,1,2,3]),(1,[1,2,3,6]),(2,[1,2,3,6,10]),(3,[1,2,3,6]),(4,[1,2,3,6,24]),(5,[5]),(6,[5])]
abbrev g_q54_r0:GR:=(OP 0 5 (.mv (K 0)) .done)
abbrev g_q54_r1:GR:=(O1 0 7 0 (O1 1 6 7 .done))
abbrev g_q54_r2:GR:=(O1 0 8 6 (O2 1 9 1 (O5 2 10 .lss 8 9 .done)))
abbrev g_q54_r3:GR:=(O2 0 13 2 (O1 1 14 6 (O4 2 15 1 13 14 (O2 3 16 15 (OP 4 17 (.not (.tmp 16)) (O1 5 18 17 (OG 6 19 18 true (.load none (.tmp 3)) (OG 7 20 18 true (.mv (.tmp 6)) (OG 8 21 18 true (.indexAddr 1 (.tmp 19) (.tmp 20)) (OG 9 22 18 true (.load none (.tmp 21)) (OG 10 23 18 true (.bin .eql (.tmp 22) (K 0)) (OP 11 24 (.pick (.tmp 18) (.tmp 23) (.const (.bool false))) .done))))))))))))
abbrev g_q54_r4:GR:=(O1 0 25 6 (O1 1 5 25 .done))
abbrev g_q54_r5:GR:=(O1 0 11 6 (OP 1 12 (.bin .add (.tmp 11) (K 1)) (O1 2 6 12 .done)))
abbrev g_q54_l6:GC:=(.seq (.seq (.reg g_q54_r2 [1,2,3,6,10]) (.cond (.tmp 10) .skip (.exit 0))) (.seq (.block 1 (.seq (.reg g_q54_r3 [1,2,3,6,24]) (.cond (.tmp 24) (.seq (.reg g_q54_r4 [5]) .ret) .skip))) (.reg g_q54_r5 [1,2,3,6])))
abbrev g_q54_r7:GR:=(OP 0 5 (.mv (K (-1))) .done)
abbrev g_q54:GC:=(.seq (.reg g_q54_r0 [0,1,2,3]) (.seq (.seq (.reg g_q54_r1 [1,2,3,6]) (.block 0 (.loop g_q54_l6))) (.seq (.reg g_q54_r7 [5]) .ret)))
abbrev rs_q54:List RV:=[(.tmp 5)]
theorem gc_q54:compileF Tryd.prog Tryd.f141 T_q54=some (g_q54,rs_q54):=by kernel_rfl
theorem con_q54 (hv:vc Tryd.prog y g_q54 (retQ rs_q54 R) [(0,a0),(1,a1),(2,a2),(3,a3)] h):ConX y Tryd.prog 141 #[a0,a1,a2,a3] h R:=con_of Tryd.func141 gc_q54 rfl (fun h=>absurd h (by decide)) hv
def T_q55:List (Nat×List Nat):=[(0,[0,1,3,4]),(1,[1,4,16,17,18]),(2,[1,4,16,17,18,19]),(3,[1,4,8,16,17,18]),(4,[1,4,8,16,17,18,22]),(5,[1,4,16,17,18]),(6,[1,4,16,17,18]),(7,[1,4,16,17,18])]
abbrev g_q55_r0:GR:=(O2 0 9 2 (O1 1 10 0 (O1 2 11 1 (O4 3 12 1 9 10 (OS 4 (.store 1 (.tmp 12) (.tmp 11)) .done)))))
abbrev g_q55_r1:GR:=(O2 0 13 3 (O1 1 14 0 (O4 2 15 1 13 14 (O2 3 16 15 (OP 4 17 (.len (.tmp 16)) (OP 5 18 (.mv (K 0)) .done))))))
abbrev g_q55_r2:GR:=(O5 0 19 .lss 18 17 .done)
abbrev g_q55_r3:GR:=(O4 0 20 1 16 18 (O2 1 21 20 (O1 2 8 21 .done)))
abbrev g_q55_r4:GR:=(O1 0 22 1 .done)
abbrev g_q55_r5:GR:=(O2 0 23 4 (O1 1 24 8 (O4 2 25 1 23 24 (O2 3 26 25 (OP 4 27 (.bin .sub (.tmp 26) (K 1)) (O4 5 28 1 23 24 (OS 6 (.store 1 (.tmp 28) (.tmp 27)) .done)))))))
abbrev g_q55_r6:GR:=(O2 0 29 4 (O1 1 30 8 (O4 2 31 1 29 30 (O2 3 32 31 (OP 4 33 (.bin .add (.tmp 32) (K 1)) (O4 5 34 1 29 30 (OS 6 (.store 1 (.tmp 34) (.tmp 33)) .done)))))))
abbrev g_q55_r7:GR:=(OP 0 35 (.bin .add (.tmp 18) (K 1)) (O1 1 18 35 .done))
abbrev g_q55_l8:GC:=(.seq (.reg g_q55_r2 [1,4,16,17,18,19]) (.seq (.cond (.tmp 19) .skip (.exit 0)) (.seq (.block 1 (.seq (.reg g_q55_r3 [1,4,8,16,17,18]) (.seq (.reg g_q55_r4 [1,4,8,16,17,18,22]) (.cond (.tmp 22) (.reg g_q55_r5 [1,4,16,17,18]) (.reg g_q55_r6 [1,4,16,17,18]))))) (.reg g_q55_r7 [1,4,16,17,18]))))
abbrev g_q55:GC:=(.seq (.reg g_q55_r0 [0,1,3,4]) (.seq (.reg g_q55_r1 [1,4,16,17,18]) (.block 0 (.loop g_q55_l8))))
abbrev rs_q55:List RV:=[]
theorem gc_q55:compileF Tryd.prog Tryd.f142 T_q55=some (g_q55,rs_q55):=by kernel_rfl
theorem con_q55 (hv:vc Tryd.prog y g_q55 (retQ rs_q55 R) [(0,a0),(1,a1),(2,a2),(3,a3),(4,a4)] h):ConX y Tryd.prog 142 #[a0,a1,a2,a3,a4] h R:=con_of Tryd.func142 gc_q55 rfl (fun h=>absurd h (by decide)) hv
def T_q119:List (Nat×List Nat):=[(0,[0]),(1,[2])]
abbrev g_q119_r0:GR:=(OP 0 2 (.mv (.const (.pointer none))) .done)
abbrev g_q119_r1:GR:=(O1 0 3 0 (OP 1 4 (.call 151 [(.tmp 3),(K 0)]) (O1 2 2 4 .done)))
abbrev g_q119:GC:=(.seq (.reg g_q119_r0 [0]) (.seq (.reg g_q119_r1 [2]) .ret))
abbrev rs_q119:List RV:=[(.tmp 2)]
theorem gc_q119:compileF Tryd.prog Tryd.f150 T_q119=some (g_q119,rs_q119):=by kernel_rfl
theorem con_q119 (hv:vc Tryd.prog y g_q119 (retQ rs_q119 R) [(0,a0)] h):ConX y Tryd.prog 150 #[a0] h R:=con_of Tryd.func150 gc_q119 rfl (fun h=>absurd h (by decide)) hv
def T_q126:List (Nat×List Nat):=[(0,[0,1]),(1,[0,5]),(2,[5,18,19,20]),(3,[5,18,19,20,21]),(4,[5,6,7,18,19,20]),(5,[5,18,19,20]),(6,[5,18,19,20]),(7,[4])]
abbrev g_q126_r0:GR:=(OP 0 4 (.mv (.const (.pointer none))) .done)
abbrev g_q126_r1:GR:=(O1 0 8 1 (O1 1 9 0 (OP 2 10 (.nilCheck (.tmp 9)) (O3 3 11 0 10 (O2 4 12 11 (OP 5 13 (.maxi (.tmp 8) (.tmp 12)) (OP 6 14 (.call 56 [(.tmp 13)]) (O1 7 5 14 .done))))))))
abbrev g_q126_r2:GR:=(O1 0 15 0 (OP 1 16 (.nilCheck (.tmp 15)) (O3 2 17 1 16 (O2 3 18 17 (OP 4 19 (.len (.tmp 18)) (OP 5 20 (.mv (K 0)) .done))))))
abbrev g_q126_r3:GR:=(O5 0 21 .lss 20 19 .done)
abbrev g_q126_r4:GR:=(O1 0 22 20 (O4 1 23 1 18 20 (O2 2 24 23 (O1 3 6 22 (O1 4 7 24 .done)))))
abbrev g_q126_r5:GR:=(O1 0 25 5 (OP 1 26 (.nilCheck (.tmp 25)) (O3 2 27 1 26 (O2 3 28 27 (O1 4 29 6 (O4 5 30 1 28 29 (O2 6 31 30 (O1 7 32 7 (OP 8 33 (.buildSlice 145 1 [(.slice none 0 0)] [(0,(1,(.tmp 32)))]) (OP 9 34 (.call 100 [(.tmp 31),(.tmp 33)]) .done))))))))))
abbrev g_q126_r6:GR:=(OP 0 35 (.bin .add (.tmp 20) (K 1)) (O1 1 20 35 .done))
abbrev g_q126_l7:GC:=(.seq (.reg g_q126_r3 [5,18,19,20,21]) (.seq (.cond (.tmp 21) .skip (.exit 0)) (.seq (.block 1 (.seq (.reg g_q126_r4 [5,6,7,18,19,20]) (.reg g_q126_r5 [5,18,19,20]))) (.reg g_q126_r6 [5,18,19,20]))))
abbrev g_q126_r8:GR:=(O1 0 36 5 (O1 1 4 36 .done))
abbrev g_q126:GC:=(.seq (.reg g_q126_r0 [0,1]) (.seq (.reg g_q126_r1 [0,5]) (.seq (.seq (.reg g_q126_r2 [5,18,19,20]) (.block 0 (.loop g_q126_l7))) (.seq (.reg g_q126_r8 [4]) .ret))))
abbrev rs_q126:List RV:=[(.tmp 4)]
theorem gc_q126:compileF Tryd.prog Tryd.f151 T_q126=some (g_q126,rs_q126):=by kernel_rfl
theorem con_q126 (hv:vc Tryd.prog y g_q126 (retQ rs_q126 R) [(0,a0),(1,a1)] h):ConX y Tryd.prog 151 #[a0,a1] h R:=con_of Tryd.func151 gc_q126 rfl (fun h=>absurd h (by decide)) hv
def T_q133:List (Nat×List Nat):=[(0,[0,5,6,7]),(1,[0,5,6,7,8]),(2,[0,3,4,5,6,7]),(3,[0,3,4,5,6,7,13]),(4,[0,3,4,5,6,7]),(5,[0,3,4,5,6,7,25]),(6,[0,5,6,7])]
abbrev g_q133_r0:GR:=(O2 0 5 1 (OP 1 6 (.len (.tmp 5)) (OP 2 7 (.mv (K 0)) .done)))
abbrev g_q133_r1:GR:=(O5 0 8 .lss 7 6 .done)
abbrev g_q133_r2:GR:=(O1 0 9 7 (O4 1 10 1 5 7 (O2 2 11 10 (O1 3 3 9 (O1 4 4 11 .done)))))
abbrev g_q133_r3:GR:=(O1 0 12 4 (OP 1 13 (.bin .neq (.tmp 12) (.const (.int .u64 0))) .done))
abbrev g_q133_r4:GR:=(O1 0 18 0 (O1 1 19 3 (OP 2 20 (.bin .mul (K 64) (.tmp 19)) (O1 3 21 4 (OP 4 22 (.call 156 [(.tmp 21)]) (O5 5 23 .add 20 22 (OP 6 24 (.callv (.tmp 18) [(.tmp 23)]) (OP 7 25 (.not (.tmp 24)) .done))))))))
abbrev g_q133_r5:GR:=(O1 0 14 4 (O1 1 15 4 (OP 2 16 (.bin .sub (.tmp 15) (.const (.int .u64 1))) (O5 3 17 .and 14 16 (O1 4 4 17 .done)))))
abbrev g_q133_l6:GC:=(.seq (.seq (.reg g_q133_r3 [0,3,4,5,6,7,13]) (.cond (.tmp 13) .skip (.exit 2))) (.seq (.block 3 (.seq (.reg g_q133_r4 [0,3,4,5,6,7,25]) (.cond (.tmp 25) .ret .skip))) (.reg g_q133_r5 [0,3,4,5,6,7])))
abbrev g_q133_r7:GR:=(OP 0 26 (.bin .add (.tmp 7) (K 1)) (O1 1 7 26 .done))
abbrev g_q133_l8:GC:=(.seq (.reg g_q133_r1 [0,5,6,7,8]) (.seq (.cond (.tmp 8) .skip (.exit 0)) (.seq (.block 1 (.seq (.reg g_q133_r2 [0,3,4,5,6,7]) (.block 2 (.loop g_q133_l6)))) (.reg g_q133_r7 [0,5,6,7]))))
abbrev g_q133:GC:=(.seq (.reg g_q133_r0 [0,5,6,7]) (.block 0 (.loop g_q133_l8)))
abbrev rs_q133:List RV:=[]
theorem gc_q133:compileF Tryd.prog Tryd.f155 T_q133=some (g_q133,rs_q133):=by kernel_rfl
theorem con_q133 (hv:vc Tryd.prog y g_q133 (retQ rs_q133 R) [(0,a0),(1,a1)] h):ConX y Tryd.prog 155 #[a0,a1] h R:=con_of Tryd.func155 gc_q133 rfl (fun h=>absurd h (by decide)) hv
def T_q50:List (Nat×List Nat):=[(0,[0]),(1,[0,4]),(2,[2]),(3,[2])]
abbrev g_q50_r0:GR:=(OP 0 2 (.mv (K 0)) .done)
abbrev g_q50_r1:GR:=(O1 0 3 0 (OP 1 4 (.bin .eql (.tmp 3) (.const (.int .u64 0))) .done))
abbrev g_q50_r2:GR:=(OP 0 2 (.mv (K 64)) .done)
abbrev g_q50_r3:GR:=(O1 0 5 0 (O1 1 6 0 (OP 2 7 (.neg (.tmp 6)) (O5 3 8 .and 5 7 (OP 4 9 (.bin .mul (.tmp 8) (.const (.int .u64 285870213051353865))) (OP 5 10 (.shift .shr (.tmp 9) (.const (.int .u64 58))) (OP 6 11 (.indexArr 1 64 (.global 0) (.tmp 10)) (O2 7 12 11 (OP 8 13 (.conv .i64 (.tmp 12)) (O1 9 2 13 .done))))))))))
abbrev g_q50:GC:=(.seq (.reg g_q50_r0 [0]) (.seq (.seq (.reg g_q50_r1 [0,4]) (.cond (.tmp 4) (.seq (.reg g_q50_r2 [2]) .ret) .skip)) (.seq (.reg g_q50_r3 [2]) .ret)))
abbrev rs_q50:List RV:=[(.tmp 2)]
theorem gc_q50:compileF Tryd.prog Tryd.f156 T_q50=some (g_q50,rs_q50):=by kernel_rfl
theorem con_q50 (hv:vc Tryd.prog y g_q50 (retQ rs_q50 R) [(0,a0)] h):ConX y Tryd.prog 156 #[a0] h R:=con_of Tryd.func156 gc_q50 rfl (fun h=>absurd h (by decide)) hv
def T_q155:List (Nat×List Nat):=[(0,[0,1]),(1,[0,1,7,8]),(2,[0,1,7,8,9]),(3,[0,1,5,7,8]),(4,[0,1,5,7,8,16]),(5,[4]),(6,[0,1,7,8]),(7,[4])]
abbrev g_q155_r0:GR:=(OP 0 4 (.mv (K 0)) .done)
abbrev g_q155_r1:GR:=(O1 0 6 0 (OP 1 7 (.len (.tmp 6)) (OP 2 8 (.mv (K 0)) .done)))
abbrev g_q155_r2:GR:=(O5 0 9 .lss 8 7 .done)
abbrev g_q155_r3:GR:=(O1 0 10 8 (O1 1 5 10 .done))
abbrev g_q155_r4:GR:=(O1 0 11 1 (O1 1 12 0 (O1 2 13 5 (O4 3 14 1 12 13 (O2 4 15 14 (O5 5 16 .eql 11 15 .done))))))
abbrev g_q155_r5:GR:=(O1 0 17 5 (O1 1 4 17 .done))
abbrev g_q155_r6:GR:=(OP 0 18 (.bin .add (.tmp 8) (K 1)) (O1 1 8 18 .done))
abbrev g_q155_l7:GC:=(.seq (.reg g_q155_r2 [0,1,7,8,9]) (.seq (.cond (.tmp 9) .skip (.exit 0)) (.seq (.block 1 (.seq (.reg g_q155_r3 [0,1,5,7,8]) (.seq (.reg g_q155_r4 [0,1,5,7,8,16]) (.cond (.tmp 16) (.seq (.reg g_q155_r5 [4]) .ret) .skip)))) (.reg g_q155_r6 [0,1,7,8]))))
abbrev g_q155_r8:GR:=(OP 0 4 (.mv (K (-1))) .done)
abbrev g_q155:GC:=(.seq (.reg g_q155_r0 [0,1]) (.seq (.seq (.reg g_q155_r1 [0,1,7,8]) (.block 0 (.loop g_q155_l7))) (.seq (.reg g_q155_r8 [4]) .ret)))
abbrev rs_q155:List RV:=[(.tmp 4)]
theorem gc_q155:compileF Tryd.prog Tryd.f158 T_q155=some (g_q155,rs_q155):=by kernel_rfl
theorem con_q155 (hv:vc Tryd.prog y g_q155 (retQ rs_q155 R) [(0,a0),(1,a1)] h):ConX y Tryd.prog 158 #[a0,a1] h R:=con_of Tryd.func158 gc_q155 rfl (fun h=>absurd h (by decide)) hv
end Go.Proofs.Tst
