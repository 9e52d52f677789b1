/-
  The compiled forms of functions that the law reaches, each checked against the program by the kernel. No condition.
-/
import Derived.Test.YtmcghihgeibgpaaDoorG1
set_option linter.all false
set_option maxRecDepth 2000
namespace Go.Proofs.Tst
open Go Go.Vc
variable {y : Option Nat} {a0 a1 a2 a3 a4 a5 a6 a7 : Value} {h : Heap} {R : Value → Heap → Prop}
def T_q54:List (Nat×List Nat):=[(0,[0,1,2,3]),(1,[1,2,3,6]),(2,[1,2,3,6,10]),(3,[1,2,3,6]),(4,[1,2,3,6,24]),(5,[5]),(6,[5])]
abbrev g_q54_r0:GR:=(OP 0 5 (.mv (K 0)) .done)
abbrev g_q54_r1:GR:=(O1 0 7 0 (O1 1 6 7 .done))
abbrev g_q54_r2:GR:=(O1 0 8 6 (O2 1 9 1 (O5 2 10 .lss 8 9 .done)))
abbrev g_q54_r3:GR:=(O2 0 13 2 (O1 1 14 6 (O4 2 15 1 13 14 (O2 3 16 15 (OP 4 17 (.not (.tmp 16)) (O1 5 18 17 (OG 6 19 18 true (.load none (.tmp 3)) (OG 7 20 18 true (.mv (.tmp 6)) (OG 8 21 18 true (.indexAddr 1 (.tmp 19) (.tmp 20)) (OG 9 22 18 true (.load none (.tmp 21)) (OG 10 23 18 true (.bin .eql (.tmp 22) (K 0)) (OP 11 24 (.pick (.tmp 18) (.tmp 23) (.const (.bool false))) .done))))))))))))
abbrev g_q54_r4:GR:=(O1 0 25 6 (O1 1 5 25 .done))
abbrev g_q54_r5:GR:=(O1 0 11 6 (OP 1 12 (.bin .add (.tmp 11) (K 1)) (O1 2 6 12 .done)))
abbrev g_q54_l6:GC:=(.seq (.seq (.reg g_q54_r2 [1,2,3,6,10]) (.cond (.tmp 10) .skip (.exit 0))) (.seq (.block 1 (.seq (.reg g_q54_r3 [1,2,3,6,24]) (.cond (.tmp 24) (.seq (.reg g_q54_r4 [5]) .ret) .skip))) (.reg g_q54_r5 [1,2,3,6])))
abbrev g_q54_r7:GR:=(OP 0 5 (.mv (K (-1))) .done)
abbrev g_q54:GC:=(.seq (.reg g_q54_r0 [0,1,2,3]) (.seq (.seq (.reg g_q54_r1 [1,2,3,6]) (.block 0 (.loop g_q54_l6))) (.seq (.reg g_q54_r7 [5]) .ret)))
abbrev rs_q54:List RV:=[(.tmp 5)]
theorem gc_q54:compileF Tryd.prog Tryd.f141 T_q54=some (g_q54,rs_q54):=by kernel_rfl
theorem con_q54 (hv:vc Tryd.prog y g_q54 (retQ rs_q54 R) [(0,a0),(1,a1),(2,a2),(3,a3)] h):ConX y Tryd.prog 141 #[a0,a1,a2,a3] h R:=con_of Tryd.func141 gc_q54 rfl (fun h=>absurd h (by decide)) hv
def T_q55:List (Nat×List Nat):=[(0,[0,1,3,4]),(1,[1,4,16,17,18]),(2,[1,4,16,17,18,19]),(3,[1,4,8,16,17,18]),(4,[1,4,8,16,17,18,22]),(5,[1,4,16,17,18]),(6,[1,4,16,17,18]),(7,[1,4,16,17,18])]
abbrev g_q55_r0:GR:=(O2 0 9 2 (O1 1 10 0 (O1 2 11 1 (O4 3 12 1 9 10 (OS 4 (.store 1 (.tmp 12) (.tmp 11)) .done)))))
abbrev g_q55_r1:GR:=(O2 0 13 3 (O1 1 14 0 (O4 2 15 1 13 14 (O2 3 16 15 (OP 4 17 (.len (.tmp 16)) (OP 5 18 (.mv (K 0)) .done))))))
abbrev g_q55_r2:GR:=(O5 0 19 .lss 18 17 .done)
abbrev g_q55_r3:GR:=(O4 0 20 1 16 18 (O2 1 21 20 (O1 2 8 21 .done)))
abbrev g_q55_r4:GR:=(O1 0 22 1 .done)
abbrev g_q55_r5:GR:=(O2 0 23 4 (O1 1 24 8 (O4 2 25 1 23 24 (O2 3 26 25 (OP 4 27 (.bin .sub (.tmp 26) (K 1)) (O4 5 28 1 23 24 (OS 6 (.store 1 (.tmp 28) (.tmp 27)) .done)))))))
abbrev g_q55_r6:GR:=(O2 0 29 4 (O1 1 30 8 (O4 2 31 1 29 30 (O2 3 32 31 (OP 4 33 (.bin .add (.tmp 32) (K 1)) (O4 5 34 1 29 30 (OS 6 (.store 1 (.tmp 34) (.tmp 33)) .done)))))))
abbrev g_q55_r7:GR:=(OP 0 35 (.bin .add (.tmp 18) (K 1)) (O1 1 18 35 .done))
abbrev g_q55_l8:GC:=(.seq (.reg g_q55_r2 [1,4,16,17,18,19]) (.seq (.cond (.tmp 19) .skip (.exit 0)) (.seq (.block 1 (.seq (.reg g_q55_r3 [1,4,8,16,17,18]) (.seq (.reg g_q55_r4 [1,4,8,16,17,18,22]) (.cond (.tmp 22) (.reg g_q55_r5 [1,4,16,17,18]) (.reg g_q55_r6 [1,4,16,17,18]))))) (.reg g_q55_r7 [1,4,16,17,18]))))
abbrev g_q55:GC:=(.seq (.reg g_q55_r0 [0,1,3,4]) (.seq (.reg g_q55_r1 [1,4,16,17,18]) (.block 0 (.loop g_q55_l8))))
abbrev rs_q55:List RV:=[]
theorem gc_q55:compileF Tryd.prog Tryd.f142 T_q55=some (g_q55,rs_q55):=by kernel_rfl
theorem con_q55 (hv:vc Tryd.prog y g_q55 (retQ rs_q55 R) [(0,a0),(1,a1),(2,a2),(3,a3),(4,a4)] h):ConX y Tryd.prog 142 #[a0,a1,a2,a3,a4] h R:=con_of Tryd.func142 gc_q55 rfl (fun h=>absurd h (by decide)) hv
def T_q119:List (Nat×List Nat):=[(0,[0]),(1,[2])]
abbrev g_q119_r0:GR:=(OP 0 2 (.mv (.const (.pointer none))) .done)
abbrev g_q119_r1:GR:=(O1 0 3 0 (OP 1 4 (.call 151 [(.tmp 3),(K 0)]) (O1 2 2 4 .done)))
abbrev g_q119:GC:=(.seq (.reg g_q119_r0 [0]) (.seq (.reg g_q119_r1 [2]) .ret))
abbrev rs_q119:List RV:=[(.tmp 2)]
theorem gc_q119:compileF Tryd.prog Tryd.f150 T_q119=some (g_q119,rs_q119):=by kernel_rfl
theorem con_q119 (hv:vc Tryd.prog y g_q119 (retQ rs_q119 R) [(0,a0)] h):ConX y Tryd.prog 150 #[a0] h R:=con_of Tryd.func150 gc_q119 rfl (fun h=>absurd h (by decide)) hv
def T_q126:List (Nat×List Nat):=[(0,[0,1]),(1,[0,5]),(2,[5,18,19,20]),(3,[5,18,19,20,21]),(4,[5,6,7,18,19,20]),(5,[5,18,19,20]),(6,[5,18,19,20]),(7,[4])]
abbrev g_q126_r0:GR:=(OP 0 4 (.mv (.const (.pointer none))) .done)
abbrev g_q126_r1:GR:=(O1 0 8 1 (O1 1 9 0 (OP 2 10 (.nilCheck (.tmp 9)) (O3 3 11 0 10 (O2 4 12 11 (OP 5 13 (.maxi (.tmp 8) (.tmp 12)) (OP 6 14 (.call 56 [(.tmp 13)]) (O1 7 5 14 .done))))))))
abbrev g_q126_r2:GR:=(O1 0 15 0 (OP 1 16 (.nilCheck (.tmp 15)) (O3 2 17 1 16 (O2 3 18 17 (OP 4 19 (.len (.tmp 18)) (OP 5 20 (.mv (K 0)) .done))))))
abbrev g_q126_r3:GR:=(O5 0 21 .lss 20 19 .done)
abbrev g_q126_r4:GR:=(O1 0 22 20 (O4 1 23 1 18 20 (O2 2 24 23 (O1 3 6 22 (O1 4 7 24 .done)))))
abbrev g_q126_r5:GR:=(O1 0 25 5 (OP 1 26 (.nilCheck (.tmp 25)) (O3 2 27 1 26 (O2 3 28 27 (O1 4 29 6 (O4 5 30 1 28 29 (O2 6 31 30 (O1 7 32 7 (OP 8 33 (.buildSlice 145 1 [(.slice none 0 0)] [(0,(1,(.tmp 32)))]) (OP 9 34 (.call 100 [(.tmp 31),(.tmp 33)]) .done))))))))))
abbrev g_q126_r6:GR:=(OP 0 35 (.bin .add (.tmp 20) (K 1)) (O1 1 20 35 .done))
abbrev g_q126_l7:GC:=(.seq (.reg g_q126_r3 [5,18,19,20,21]) (.seq (.cond (.tmp 21) .skip (.exit 0)) (.seq (.block 1 (.seq (.reg g_q126_r4 [5,6,7,18,19,20]) (.reg g_q126_r5 [5,18,19,20]))) (.reg g_q126_r6 [5,18,19,20]))))
abbrev g_q126_r8:GR:=(O1 0 36 5 (O1 1 4 36 .done))
abbrev g_q126:GC:=(.seq (.reg g_q126_r0 [0,1]) (.seq (.reg g_q126_r1 [0,5]) (.seq (.seq (.reg g_q126_r2 [5,18,19,20]) (.block 0 (.loop g_q126_l7))) (.seq (.reg g_q126_r8 [4]) .ret))))
abbrev rs_q126:List RV:=[(.tmp 4)]
theorem gc_q126:compileF Tryd.prog Tryd.f151 T_q126=some (g_q126,rs_q126):=by kernel_rfl
theorem con_q126 (hv:vc Tryd.prog y g_q126 (retQ rs_q126 R) [(0,a0),(1,a1)] h):ConX y Tryd.prog 151 #[a0,a1] h R:=con_of Tryd.func151 gc_q126 rfl (fun h=>absurd h (by decide)) hv
def T_q133:List (Nat×List Nat):=[(0,[0,5,6,7]),(1,[0,5,6,7,8]),(2,[0,3,4,5,6,7]),(3,[0,3,4,5,6,7,13]),(4,[0,3,4,5,6,7]),(5,[0,3,4,5,6,7,25]),(6,[0,5,6,7])]
abbrev g_q133_r0:GR:=(O2 0 5 1 (OP 1 6 (.len (.tmp 5)) (OP 2 7 (.mv (K 0)) .done)))
abbrev g_q133_r1:GR:=(O5 0 8 .lss 7 6 .done)
abbrev g_q133_r2:GR:=(O1 0 9 7 (O4 1 10 1 5 7 (O2 2 11 10 (O1 3 3 9 (O1 4 4 11 .done)))))
abbrev g_q133_r3:GR:=(O1 0 12 4 (OP 1 13 (.bin .neq (.tmp 12) (.const (.int .u64 0))) .done))
abbrev g_q133_r4:GR:=(O1 0 18 0 (O1 1 19 3 (OP 2 20 (.bin .mul (K 64) (.tmp 19)) (O1 3 21 4 (OP 4 22 (.call 156 [(.tmp 21)]) (O5 5 23 .add 20 22 (OP 6 24 (.callv (.tmp 18) [(.tmp 23)]) (OP 7 25 (.not (.tmp 24)) .done))))))))
abbrev g_q133_r5:GR:=(O1 0 14 4 (O1 1 15 4 (OP 2 16 (.bin .sub (.tmp 15) (.const (.int .u64 1))) (O5 3 17 .and 14 16 (O1 4 4 17 .done)))))
abbrev g_q133_l6:GC:=(.seq (.seq (.reg g_q133_r3 [0,3,4,5,6,7,13]) (.cond (.tmp 13) .skip (.exit 2))) (.seq (.block 3 (.seq (.reg g_q133_r4 [0,3,4,5,6,7,25]) (.cond (.tmp 25) .ret .skip))) (.reg g_q133_r5 [0,3,4,5,6,7])))
abbrev g_q133_r7:GR:=(OP 0 26 (.bin .add (.tmp 7) (K 1)) (O1 1 7 26 .done))
abbrev g_q133_l8:GC:=(.seq (.reg g_q133_r1 [0,5,6,7,8]) (.seq (.cond (.tmp 8) .skip (.exit 0)) (.seq (.block 1 (.seq (.reg g_q133_r2 [0,3,4,5,6,7]) (.block 2 (.loop g_q133_l6)))) (.reg g_q133_r7 [0,5,6,7]))))
abbrev g_q133:GC:=(.seq (.reg g_q133_r0 [0,5,6,7]) (.block 0 (.loop g_q133_l8)))
abbrev rs_q133:List RV:=[]
theorem gc_q133:compileF Tryd.prog Tryd.f155 T_q133=some (g_q133,rs_q133):=by kernel_rfl
theorem con_q133 (hv:vc Tryd.prog y g_q133 (retQ rs_q133 R) [(0,a0),(1,a1)] h):ConX y Tryd.prog 155 #[a0,a1] h R:=con_of Tryd.func155 gc_q133 rfl (fun h=>absurd h (by decide)) hv
def T_q50:List (Nat×List Nat):=[(0,[0]),(1,[0,4]),(2,[2]),(3,[2])]
abbrev g_q50_r0:GR:=(OP 0 2 (.mv (K 0)) .done)
abbrev g_q50_r1:GR:=(O1 0 3 0 (OP 1 4 (.bin .eql (.tmp 3) (.const (.int .u64 0))) .done))
abbrev g_q50_r2:GR:=(OP 0 2 (.mv (K 64)) .done)
abbrev g_q50_r3:GR:=(O1 0 5 0 (O1 1 6 0 (OP 2 7 (.neg (.tmp 6)) (O5 3 8 .and 5 7 (OP 4 9 (.bin .mul (.tmp 8) (.const (.int .u64 285870213051353865))) (OP 5 10 (.shift .shr (.tmp 9) (.const (.int .u64 58))) (OP 6 11 (.indexArr 1 64 (.global 0) (.tmp 10)) (O2 7 12 11 (OP 8 13 (.conv .i64 (.tmp 12)) (O1 9 2 13 .done))))))))))
abbrev g_q50:GC:=(.seq (.reg g_q50_r0 [0]) (.seq (.seq (.reg g_q50_r1 [0,4]) (.cond (.tmp 4) (.seq (.reg g_q50_r2 [2]) .ret) .skip)) (.seq (.reg g_q50_r3 [2]) .ret)))
abbrev rs_q50:List RV:=[(.tmp 2)]
theorem gc_q50:compileF Tryd.prog Tryd.f156 T_q50=some (g_q50,rs_q50):=by kernel_rfl
theorem con_q50 (hv:vc Tryd.prog y g_q50 (retQ rs_q50 R) [(0,a0)] h):ConX y Tryd.prog 156 #[a0] h R:=con_of Tryd.func156 gc_q50 rfl (fun h=>absurd h (by decide)) hv
def T_q155:List (Nat×List Nat):=[(0,[0,1]),(1,[0,1,7,8]),(2,[0,1,7,8,9]),(3,[0,1,5,7,8]),(4,[0,1,5,7,8,16]),(5,[4]),(6,[0,1,7,8]),(7,[4])]
abbrev g_q155_r0:GR:=(OP 0 4 (.mv (K 0)) .done)
abbrev g_q155_r1:GR:=(O1 0 6 0 (OP 1 7 (.len (.tmp 6)) (OP 2 8 (.mv (K 0)) .done)))
abbrev g_q155_r2:GR:=(O5 0 9 .lss 8 7 .done)
abbrev g_q155_r3:GR:=(O1 0 10 8 (O1 1 5 10 .done))
abbrev g_q155_r4:GR:=(O1 0 11 1 (O1 1 12 0 (O1 2 13 5 (O4 3 14 1 12 13 (O2 4 15 14 (O5 5 16 .eql 11 15 .done))))))
abbrev g_q155_r5:GR:=(O1 0 17 5 (O1 1 4 17 .done))
abbrev g_q155_r6:GR:=(OP 0 18 (.bin .add (.tmp 8) (K 1)) (O1 1 8 18 .done))
abbrev g_q155_l7:GC:=(.seq (.reg g_q155_r2 [0,1,7,8,9]) (.seq (.cond (.tmp 9) .skip (.exit 0)) (.seq (.block 1 (.seq (.reg g_q155_r3 [0,1,5,7,8]) (.seq (.reg g_q155_r4 [0,1,5,7,8,16]) (.cond (.tmp 16) (.seq (.reg g_q155_r5 [4]) .ret) .skip)))) (.reg g_q155_r6 [0,1,7,8]))))
abbrev g_q155_r8:GR:=(OP 0 4 (.mv (K (-1))) .done)
abbrev g_q155:GC:=(.seq (.reg g_q155_r0 [0,1]) (.seq (.seq (.reg g_q155_r1 [0,1,7,8]) (.block 0 (.loop g_q155_l7))) (.seq (.reg g_q155_r8 [4]) .ret)))
abbrev rs_q155:List RV:=[(.tmp 4)]
theorem gc_q155:compileF Tryd.prog Tryd.f158 T_q155=some (g_q155,rs_q155):=by kernel_rfl
theorem con_q155 (hv:vc Tryd.prog y g_q155 (retQ rs_q155 R) [(0,a0),(1,a1)] h):ConX y Tryd.prog 158 #[a0,a1] h R:=con_of Tryd.func158 gc_q155 rfl (fun h=>absurd h (by decide)) hv
end Go.Proofs.Tst
