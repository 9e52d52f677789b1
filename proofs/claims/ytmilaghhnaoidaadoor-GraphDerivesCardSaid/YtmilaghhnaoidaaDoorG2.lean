/-
  The compiled forms of functions that the law reaches, each checked against the program by the kernel. No condition.
-/
import Derived.Test.YtmilaghhnaoidaaDoorG1
set_option linter.all false
set_option maxRecDepth 2000
namespace Go.Proofs.Tst
open Go Go.Vc
abbrev n_ref8_mode : Nat := 95
def T_ref8_mode : List (Nat × List Nat) := [(0, [0, 1, 2]), (1, [0, 1, 7]), (2, [6]), (3, [6])]
abbrev g_ref8_mode_r0 : GR := (OP 0 6 (.mv (.const (.bool false))) .done)
abbrev g_ref8_mode_r1 : GR := (OP 0 7 (.mv (.tmp 2)) .done)
abbrev g_ref8_mode_r2 : GR := (OP 0 8 (.mv (.tmp 0)) (OP 1 9 (.bin .eql (.tmp 8) (.const (.int .i64 1))) (OP 2 10 (.mv (.tmp 9)) (OG 3 11 10 true (.mv (.tmp 1)) (OG 4 12 10 true (.bin .eql (.tmp 11) (.const (.int .i64 11))) (OG 5 13 10 true (.mv (.tmp 12)) (OG 6 14 13 false (.mv (.tmp 1)) (OG 7 15 13 false (.bin .eql (.tmp 14) (.const (.int .i64 12))) (OG 8 16 10 true (.pick (.tmp 13) (.const (.bool true)) (.tmp 15)) (OG 9 17 10 true (.mv (.tmp 16)) (OG 10 18 17 false (.mv (.tmp 1)) (OG 11 19 17 false (.bin .eql (.tmp 18) (.const (.int .i64 16))) (OG 12 20 10 true (.pick (.tmp 17) (.const (.bool true)) (.tmp 19)) (OP 13 21 (.pick (.tmp 10) (.tmp 20) (.const (.bool false))) (OP 14 22 (.mv (.tmp 21)) (OG 15 23 22 false (.mv (.tmp 0)) (OG 16 24 22 false (.bin .eql (.tmp 23) (.const (.int .i64 2))) (OG 17 25 22 false (.mv (.tmp 24)) (OG 18 26 25 true (.mv (.tmp 1)) (OG 19 27 25 true (.bin .eql (.tmp 26) (.const (.int .i64 11))) (OG 20 28 25 true (.mv (.tmp 27)) (OG 21 29 28 false (.mv (.tmp 1)) (OG 22 30 28 false (.bin .eql (.tmp 29) (.const (.int .i64 13))) (OG 23 31 25 true (.pick (.tmp 28) (.const (.bool true)) (.tmp 30)) (OG 24 32 22 false (.pick (.tmp 25) (.tmp 31) (.const (.bool false))) (OP 25 33 (.pick (.tmp 22) (.const (.bool true)) (.tmp 32)) (OP 26 34 (.mv (.tmp 33)) (OG 27 35 34 false (.mv (.tmp 0)) (OG 28 36 34 false (.bin .eql (.tmp 35) (.const (.int .i64 3))) (OG 29 37 34 false (.mv (.tmp 36)) (OG 30 38 37 true (.mv (.tmp 1)) (OG 31 39 37 true (.bin .eql (.tmp 38) (.const (.int .i64 14))) (OG 32 40 37 true (.mv (.tmp 39)) (OG 33 41 40 false (.mv (.tmp 1)) (OG 34 42 40 false (.bin .eql (.tmp 41) (.const (.int .i64 15))) (OG 35 43 37 true (.pick (.tmp 40) (.const (.bool true)) (.tmp 42)) (OG 36 44 34 false (.pick (.tmp 37) (.tmp 43) (.const (.bool false))) (OP 37 45 (.pick (.tmp 34) (.const (.bool true)) (.tmp 44)) (OP 38 6 (.mv (.tmp 45)) .done)))))))))))))))))))))))))))))))))))))))
abbrev g_ref8_mode_r3 : GR := (OP 0 46 (.mv (.tmp 0)) (OP 1 47 (.bin .eql (.tmp 46) (.const (.int .i64 1))) (OP 2 48 (.mv (.tmp 47)) (OG 3 49 48 true (.mv (.tmp 1)) (OG 4 50 48 true (.bin .eql (.tmp 49) (.const (.int .i64 1))) (OG 5 51 48 true (.mv (.tmp 50)) (OG 6 52 51 false (.mv (.tmp 1)) (OG 7 53 51 false (.bin .eql (.tmp 52) (.const (.int .i64 2))) (OG 8 54 48 true (.pick (.tmp 51) (.const (.bool true)) (.tmp 53)) (OG 9 55 48 true (.mv (.tmp 54)) (OG 10 56 55 false (.mv (.tmp 1)) (OG 11 57 55 false (.bin .eql (.tmp 56) (.const (.int .i64 5))) (OG 12 58 48 true (.pick (.tmp 55) (.const (.bool true)) (.tmp 57)) (OP 13 59 (.pick (.tmp 48) (.tmp 58) (.const (.bool false))) (OP 14 60 (.mv (.tmp 59)) (OG 15 61 60 false (.mv (.tmp 0)) (OG 16 62 60 false (.bin .eql (.tmp 61) (.const (.int .i64 2))) (OG 17 63 60 false (.mv (.tmp 62)) (OG 18 64 63 true (.mv (.tmp 1)) (OG 19 65 63 true (.bin .eql (.tmp 64) (.const (.int .i64 1))) (OG 20 66 63 true (.mv (.tmp 65)) (OG 21 67 66 false (.mv (.tmp 1)) (OG 22 68 66 false (.bin .eql (.tmp 67) (.const (.int .i64 3))) (OG 23 69 63 true (.pick (.tmp 66) (.const (.bool true)) (.tmp 68)) (OG 24 70 63 true (.mv (.tmp 69)) (OG 25 71 70 false (.mv (.tmp 1)) (OG 26 72 70 false (.bin .eql (.tmp 71) (.const (.int .i64 5))) (OG 27 73 63 true (.pick (.tmp 70) (.const (.bool true)) (.tmp 72)) (OG 28 74 60 false (.pick (.tmp 63) (.tmp 73) (.const (.bool false))) (OP 29 75 (.pick (.tmp 60) (.const (.bool true)) (.tmp 74)) (OP 30 76 (.mv (.tmp 75)) (OG 31 77 76 false (.mv (.tmp 0)) (OG 32 78 76 false (.bin .eql (.tmp 77) (.const (.int .i64 3))) (OG 33 79 76 false (.mv (.tmp 78)) (OG 34 80 79 true (.mv (.tmp 1)) (OG 35 81 79 true (.bin .eql (.tmp 80) (.const (.int .i64 2))) (OG 36 82 79 true (.mv (.tmp 81)) (OG 37 83 82 false (.mv (.tmp 1)) (OG 38 84 82 false (.bin .eql (.tmp 83) (.const (.int .i64 3))) (OG 39 85 79 true (.pick (.tmp 82) (.const (.bool true)) (.tmp 84)) (OG 40 86 79 true (.mv (.tmp 85)) (OG 41 87 86 false (.mv (.tmp 1)) (OG 42 88 86 false (.bin .eql (.tmp 87) (.const (.int .i64 4))) (OG 43 89 79 true (.pick (.tmp 86) (.const (.bool true)) (.tmp 88)) (OG 44 90 79 true (.mv (.tmp 89)) (OG 45 91 90 false (.mv (.tmp 1)) (OG 46 92 90 false (.bin .eql (.tmp 91) (.const (.int .i64 5))) (OG 47 93 79 true (.pick (.tmp 90) (.const (.bool true)) (.tmp 92)) (OG 48 94 76 false (.pick (.tmp 79) (.tmp 93) (.const (.bool false))) (OP 49 95 (.pick (.tmp 76) (.const (.bool true)) (.tmp 94)) (OP 50 6 (.mv (.tmp 95)) .done)))))))))))))))))))))))))))))))))))))))))))))))))))
abbrev g_ref8_mode : GC := (.seq (.reg g_ref8_mode_r0 [0,1,2]) (.seq (.seq (.reg g_ref8_mode_r1 [0,1,7]) (.cond (.tmp 7) (.seq (.reg g_ref8_mode_r2 [6]) .ret) .skip)) (.seq (.reg g_ref8_mode_r3 [6]) .ret)))
abbrev rs_ref8_mode : List RV := [(.tmp 6)]
theorem gc_ref8_mode : compileF Tryd.prog Tryd.f95 T_ref8_mode = some (g_ref8_mode, rs_ref8_mode) := by kernel_rfl
theorem con_ref8_mode {y : Option Nat} {a0 a1 a2 : Value} {h : Heap} {R : Value → Heap → Prop} (hv : vc Tryd.prog y g_ref8_mode (retQ rs_ref8_mode R) [(0, a0), (1, a1), (2, a2)] h) : ConX y Tryd.prog 95 #[a0, a1, a2] h R := con_of Tryd.func95 gc_ref8_mode rfl (fun h => absurd h (by decide)) hv
abbrev n_ref8_is : Nat := 96
def T_ref8_is : List (Nat × List Nat) := [(0, [1, 2, 3]), (1, [6])]
abbrev g_ref8_is_r0 : GR := (OP 0 3 (.box 26 (.tmp 0)) (OP 1 6 (.mv (.const (.bool false))) .done))
abbrev g_ref8_is_r1 : GR := (OP 0 7 (.mv (.tmp 1)) (OP 1 8 (.bin .geq (.tmp 7) (.const (.int .i64 0))) (OP 2 9 (.mv (.tmp 8)) (OG 3 10 9 true (.mv (.tmp 1)) (OG 4 11 9 true (.fieldAddr 1 (.tmp 3)) (OG 5 12 9 true (.load none (.tmp 11)) (OG 6 13 9 true (.len (.tmp 12)) (OG 7 14 9 true (.bin .lss (.tmp 10) (.tmp 13)) (OP 8 15 (.pick (.tmp 9) (.tmp 14) (.const (.bool false))) (OP 9 16 (.mv (.tmp 15)) (OG 10 17 16 true (.fieldAddr 1 (.tmp 3)) (OG 11 18 16 true (.load none (.tmp 17)) (OG 12 19 16 true (.mv (.tmp 1)) (OG 13 20 16 true (.indexAddr 5 (.tmp 18) (.tmp 19)) (OG 14 21 16 true (.fieldAddr 1 (.tmp 20)) (OG 15 22 16 true (.load none (.tmp 21)) (OG 16 23 16 true (.mv (.tmp 2)) (OG 17 24 16 true (.bin .eql (.tmp 22) (.tmp 23)) (OP 18 25 (.pick (.tmp 16) (.tmp 24) (.const (.bool false))) (OP 19 6 (.mv (.tmp 25)) .done))))))))))))))))))))
abbrev g_ref8_is : GC := (.seq (.reg g_ref8_is_r0 [1,2,3]) (.seq (.reg g_ref8_is_r1 [6]) .ret))
abbrev rs_ref8_is : List RV := [(.tmp 6)]
theorem gc_ref8_is : compileF Tryd.prog Tryd.f96 T_ref8_is = some (g_ref8_is, rs_ref8_is) := by kernel_rfl
theorem con_ref8_is {y : Option Nat} {a0 a1 a2 : Value} {h : Heap} {R : Value → Heap → Prop} (hv : vc Tryd.prog y g_ref8_is (retQ rs_ref8_is R) [(0, a0), (1, a1), (2, a2)] h) : ConX y Tryd.prog 96 #[a0, a1, a2] h R := con_of Tryd.func96 gc_ref8_is rfl (fun h => absurd h (by decide)) hv
abbrev n_ref8_next : Nat := 97
def T_ref8_next : List (Nat × List Nat) := [(0, [1, 2, 3]), (1, [1, 2, 3, 12]), (2, [6]), (3, [1, 2, 3, 7]), (4, [1, 2, 3, 7, 17]), (5, [1, 2, 3, 7]), (6, [1, 2, 3, 7, 32]), (7, [6]), (8, [6])]
abbrev g_ref8_next_r0 : GR := (OP 0 3 (.box 26 (.tmp 0)) (OP 1 6 (.mv (.const (.bool false))) .done))
abbrev g_ref8_next_r1 : GR := (OP 0 8 (.load (some 8) (.tmp 3)) (OP 1 9 (.mv (.tmp 1)) (OP 2 10 (.mv (.tmp 2)) (OP 3 11 (.call 98 [(.tmp 8),(.tmp 9),(.tmp 10)]) (OP 4 12 (.not (.tmp 11)) .done)))))
abbrev g_ref8_next_r2 : GR := (OP 0 6 (.mv (.const (.bool false))) .done)
abbrev g_ref8_next_r3 : GR := (OP 0 13 (.mv (.tmp 1)) (OP 1 14 (.bin .add (.tmp 13) (.const (.int .i64 1))) (OP 2 7 (.mv (.tmp 14)) .done)))
abbrev g_ref8_next_r4 : GR := (OP 0 15 (.mv (.tmp 7)) (OP 1 16 (.mv (.tmp 2)) (OP 2 17 (.bin .lss (.tmp 15) (.tmp 16)) .done)))
abbrev g_ref8_next_r5 : GR := (OP 0 20 (.fieldAddr 1 (.tmp 3)) (OW 1 21 (.load none (.tmp 20)) (OP 2 22 (.mv (.tmp 7)) (OP 3 23 (.indexAddr 5 (.tmp 21) (.tmp 22)) (OP 4 24 (.fieldAddr 0 (.tmp 23)) (OW 5 25 (.load none (.tmp 24)) (OP 6 26 (.fieldAddr 1 (.tmp 3)) (OW 7 27 (.load none (.tmp 26)) (OP 8 28 (.mv (.tmp 1)) (OP 9 29 (.indexAddr 5 (.tmp 27) (.tmp 28)) (OP 10 30 (.fieldAddr 0 (.tmp 29)) (OW 11 31 (.load none (.tmp 30)) (OP 12 32 (.bin .eql (.tmp 25) (.tmp 31)) .done)))))))))))))
abbrev g_ref8_next_r6 : GR := (OP 0 6 (.mv (.const (.bool false))) .done)
abbrev g_ref8_next_r7 : GR := (OP 0 18 (.mv (.tmp 7)) (OP 1 19 (.bin .add (.tmp 18) (.const (.int .i64 1))) (OP 2 7 (.mv (.tmp 19)) .done)))
abbrev g_ref8_next_l8 : GC := (.seq (.seq (.reg g_ref8_next_r4 [1,2,3,7,17]) (.cond (.tmp 17) .skip (.exit 0))) (.seq (.block 1 (.seq (.reg g_ref8_next_r5 [1,2,3,7,32]) (.cond (.tmp 32) (.seq (.reg g_ref8_next_r6 [6]) .ret) .skip))) (.reg g_ref8_next_r7 [1,2,3,7])))
abbrev g_ref8_next_r9 : GR := (OP 0 6 (.mv (.const (.bool true))) .done)
abbrev g_ref8_next : GC := (.seq (.reg g_ref8_next_r0 [1,2,3]) (.seq (.seq (.reg g_ref8_next_r1 [1,2,3,12]) (.cond (.tmp 12) (.seq (.reg g_ref8_next_r2 [6]) .ret) .skip)) (.seq (.seq (.reg g_ref8_next_r3 [1,2,3,7]) (.block 0 (.loop g_ref8_next_l8))) (.seq (.reg g_ref8_next_r9 [6]) .ret))))
abbrev rs_ref8_next : List RV := [(.tmp 6)]
theorem gc_ref8_next : compileF Tryd.prog Tryd.f97 T_ref8_next = some (g_ref8_next, rs_ref8_next) := by kernel_rfl
theorem con_ref8_next {y : Option Nat} {a0 a1 a2 : Value} {h : Heap} {R : Value → Heap → Prop} (hv : vc Tryd.prog y g_ref8_next (retQ rs_ref8_next R) [(0, a0), (1, a1), (2, a2)] h) : ConX y Tryd.prog 97 #[a0, a1, a2] h R := con_of Tryd.func97 gc_ref8_next rfl (fun h => absurd h (by decide)) hv
abbrev n_ref8_before : Nat := 98
def T_ref8_before : List (Nat × List Nat) := [(0, [1, 2, 3]), (1, [6])]
abbrev g_ref8_before_r0 : GR := (OP 0 3 (.box 26 (.tmp 0)) (OP 1 6 (.mv (.const (.bool false))) .done))
abbrev g_ref8_before_r1 : GR := (OP 0 7 (.mv (.tmp 1)) (OP 1 8 (.bin .geq (.tmp 7) (.const (.int .i64 0))) (OP 2 9 (.mv (.tmp 8)) (OG 3 10 9 true (.mv (.tmp 1)) (OG 4 11 9 true (.mv (.tmp 2)) (OG 5 12 9 true (.bin .lss (.tmp 10) (.tmp 11)) (OP 6 13 (.pick (.tmp 9) (.tmp 12) (.const (.bool false))) (OP 7 14 (.mv (.tmp 13)) (OG 8 15 14 true (.mv (.tmp 2)) (OG 9 16 14 true (.fieldAddr 1 (.tmp 3)) (.op (GI.mk 10 (some 17) (some (14,true)) (.load none (.tmp 16)) [] true) (OG 11 18 14 true (.len (.tmp 17)) (OG 12 19 14 true (.bin .lss (.tmp 15) (.tmp 18)) (OP 13 20 (.pick (.tmp 14) (.tmp 19) (.const (.bool false))) (OP 14 21 (.mv (.tmp 20)) (OG 15 22 21 true (.fieldAddr 1 (.tmp 3)) (.op (GI.mk 16 (some 23) (some (21,true)) (.load none (.tmp 22)) [] true) (OG 17 24 21 true (.mv (.tmp 1)) (OG 18 25 21 true (.indexAddr 5 (.tmp 23) (.tmp 24)) (OG 19 26 21 true (.fieldAddr 0 (.tmp 25)) (.op (GI.mk 20 (some 27) (some (21,true)) (.load none (.tmp 26)) [] true) (OG 21 28 21 true (.bin .geq (.tmp 27) (.const (.int .i64 0))) (OP 22 29 (.pick (.tmp 21) (.tmp 28) (.const (.bool false))) (OP 23 30 (.mv (.tmp 29)) (OG 24 31 30 true (.fieldAddr 1 (.tmp 3)) (.op (GI.mk 25 (some 32) (some (30,true)) (.load none (.tmp 31)) [] true) (OG 26 33 30 true (.mv (.tmp 1)) (OG 27 34 30 true (.indexAddr 5 (.tmp 32) (.tmp 33)) (OG 28 35 30 true (.fieldAddr 0 (.tmp 34)) (.op (GI.mk 29 (some 36) (some (30,true)) (.load none (.tmp 35)) [] true) (OG 30 37 30 true (.fieldAddr 1 (.tmp 3)) (.op (GI.mk 31 (some 38) (some (30,true)) (.load none (.tmp 37)) [] true) (OG 32 39 30 true (.mv (.tmp 2)) (OG 33 40 30 true (.indexAddr 5 (.tmp 38) (.tmp 39)) (OG 34 41 30 true (.fieldAddr 0 (.tmp 40)) (.op (GI.mk 35 (some 42) (some (30,true)) (.load none (.tmp 41)) [] true) (OG 36 43 30 true (.bin .eql (.tmp 36) (.tmp 42)) (OP 37 44 (.pick (.tmp 30) (.tmp 43) (.const (.bool false))) (OP 38 6 (.mv (.tmp 44)) .done)))))))))))))))))))))))))))))))))))))))
abbrev g_ref8_before : GC := (.seq (.reg g_ref8_before_r0 [1,2,3]) (.seq (.reg g_ref8_before_r1 [6]) .ret))
abbrev rs_ref8_before : List RV := [(.tmp 6)]
theorem gc_ref8_before : compileF Tryd.prog Tryd.f98 T_ref8_before = some (g_ref8_before, rs_ref8_before) := by kernel_rfl
theorem con_ref8_before {y : Option Nat} {a0 a1 a2 : Value} {h : Heap} {R : Value → Heap → Prop} (hv : vc Tryd.prog y g_ref8_before (retQ rs_ref8_before R) [(0, a0), (1, a1), (2, a2)] h) : ConX y Tryd.prog 98 #[a0, a1, a2] h R := con_of Tryd.func98 gc_ref8_before rfl (fun h => absurd h (by decide)) hv
abbrev n_ref1_Pairs : Nat := 99
def T_ref1_Pairs : List (Nat × List Nat) := [(0, [1]), (1, [1, 3]), (2, [1, 3, 4]), (3, [1, 3, 4, 9]), (4, [1, 3, 4]), (5, [1, 3, 4, 5]), (6, [1, 3, 4, 5, 15]), (7, [1, 3, 4, 5]), (8, [1, 3, 4, 5, 25]), (9, [1, 3, 4, 5]), (10, [2])]
abbrev g_ref1_Pairs_r0 : GR := (OP 0 1 (.box 101 (.tmp 0)) (OP 1 2 (.mv (.const (.slice none 0 0))) .done))
abbrev g_ref1_Pairs_r1 : GR := (OP 0 3 (.mv (.const (.slice none 0 0))) .done)
abbrev g_ref1_Pairs_r2 : GR := (OP 0 4 (.mv (.const (.int .i64 0))) .done)
abbrev g_ref1_Pairs_r3 : GR := (OP 0 6 (.mv (.tmp 4)) (OP 1 7 (.fieldAddr 0 (.tmp 1)) (OP 2 8 (.load none (.tmp 7)) (OP 3 9 (.bin .lss (.tmp 6) (.tmp 8)) .done))))
abbrev g_ref1_Pairs_r4 : GR := (OP 0 5 (.mv (.const (.int .i64 0))) .done)
abbrev g_ref1_Pairs_r5 : GR := (OP 0 12 (.mv (.tmp 5)) (OP 1 13 (.fieldAddr 0 (.tmp 1)) (OP 2 14 (.load none (.tmp 13)) (OP 3 15 (.bin .lss (.tmp 12) (.tmp 14)) .done))))
abbrev g_ref1_Pairs_r6 : GR := (OP 0 18 (.fieldAddr 1 (.tmp 1)) (OP 1 19 (.load none (.tmp 18)) (OP 2 20 (.mv (.tmp 4)) (OP 3 21 (.indexAddr 1 (.tmp 19) (.tmp 20)) (OP 4 22 (.load none (.tmp 21)) (OP 5 23 (.mv (.tmp 5)) (OP 6 24 (.indexAddr 1 (.tmp 22) (.tmp 23)) (OP 7 25 (.load none (.tmp 24)) .done))))))))
abbrev g_ref1_Pairs_r7 : GR := (OP 0 26 (.mv (.tmp 3)) (OP 1 27 (.mv (.tmp 4)) (OP 2 28 (.mv (.tmp 5)) (OP 3 29 (.build [(.int .i64 0),(.int .i64 0)] [(0,(1,(.tmp 27))),(1,(1,(.tmp 28)))]) (OP 4 30 (.buildSlice 68 1 [(.int .i64 0),(.int .i64 0)] [(0,(2,(.tmp 29)))]) (OP 5 31 (.append 68 2 16 [(.int .i64 0),(.int .i64 0)] (.tmp 26) (.tmp 30)) (OP 6 3 (.mv (.tmp 31)) .done)))))))
abbrev g_ref1_Pairs_r8 : GR := (OP 0 16 (.mv (.tmp 5)) (OP 1 17 (.bin .add (.tmp 16) (.const (.int .i64 1))) (OP 2 5 (.mv (.tmp 17)) .done)))
abbrev g_ref1_Pairs_l9 : GC := (.seq (.seq (.reg g_ref1_Pairs_r5 [1,3,4,5,15]) (.cond (.tmp 15) .skip (.exit 2))) (.seq (.block 3 (.seq (.reg g_ref1_Pairs_r6 [1,3,4,5,25]) (.cond (.tmp 25) (.reg g_ref1_Pairs_r7 [1,3,4,5]) .skip))) (.reg g_ref1_Pairs_r8 [1,3,4,5])))
abbrev g_ref1_Pairs_r10 : GR := (OP 0 10 (.mv (.tmp 4)) (OP 1 11 (.bin .add (.tmp 10) (.const (.int .i64 1))) (OP 2 4 (.mv (.tmp 11)) .done)))
abbrev g_ref1_Pairs_l11 : GC := (.seq (.seq (.reg g_ref1_Pairs_r3 [1,3,4,9]) (.cond (.tmp 9) .skip (.exit 0))) (.seq (.block 1 (.seq (.reg g_ref1_Pairs_r4 [1,3,4,5]) (.block 2 (.loop g_ref1_Pairs_l9)))) (.reg g_ref1_Pairs_r10 [1,3,4])))
abbrev g_ref1_Pairs_r12 : GR := (OP 0 32 (.mv (.tmp 3)) (OP 1 2 (.mv (.tmp 32)) .done))
abbrev g_ref1_Pairs : GC := (.seq (.reg g_ref1_Pairs_r0 [1]) (.seq (.reg g_ref1_Pairs_r1 [1,3]) (.seq (.seq (.reg g_ref1_Pairs_r2 [1,3,4]) (.block 0 (.loop g_ref1_Pairs_l11))) (.seq (.reg g_ref1_Pairs_r12 [2]) .ret))))
abbrev rs_ref1_Pairs : List RV := [(.tmp 2)]
theorem gc_ref1_Pairs : compileF Tryd.prog Tryd.f99 T_ref1_Pairs = some (g_ref1_Pairs, rs_ref1_Pairs) := by kernel_rfl
theorem con_ref1_Pairs {y : Option Nat} {a0 : Value} {h : Heap} {R : Value → Heap → Prop} (hv : vc Tryd.prog y g_ref1_Pairs (retQ rs_ref1_Pairs R) [(0, a0)] h) : ConX y Tryd.prog 99 #[a0] h R := con_of Tryd.func99 gc_ref1_Pairs rfl (fun h => absurd h (by decide)) hv
abbrev n_ref1_New : Nat := 100
def T_ref1_New : List (Nat × List Nat) := [(0, [0, 2]), (1, [0, 2, 6]), (2, [0, 2]), (3, [0, 2, 8]), (4, [0, 2]), (5, [0, 2, 3]), (6, [0, 2, 3, 4]), (7, [0, 2, 3, 4, 13]), (8, [0, 2, 3, 4]), (9, [0, 2, 3, 4]), (10, [2])]
abbrev g_ref1_New_r0 : GR := (OP 0 2 (.alloc 101 [(.int .i64 0),(.slice none 0 0)]) .done)
abbrev g_ref1_New_r1 : GR := (OP 0 5 (.mv (.tmp 0)) (OP 1 6 (.bin .lss (.tmp 5) (.const (.int .i64 0))) .done))
abbrev g_ref1_New_r2 : GR := (OP 0 0 (.mv (.const (.int .i64 0))) .done)
abbrev g_ref1_New_r3 : GR := (OP 0 7 (.mv (.tmp 0)) (OP 1 8 (.bin .gtr (.tmp 7) (.const (.int .i64 256))) .done))
abbrev g_ref1_New_r4 : GR := (OP 0 0 (.mv (.const (.int .i64 256))) .done)
abbrev g_ref1_New_r5 : GR := (OP 0 9 (.mv (.tmp 0)) (OP 1 10 (.build [(.int .i64 0),(.slice none 0 0)] [(0,(1,(.tmp 9))),(1,(1,(.const (.slice none 0 0))))]) (OP 2 3 (.alloc 101 [(.int .i64 0),(.slice none 0 0)]) (OS 3 (.store 2 (.tmp 3) (.tmp 10)) .done))))
abbrev g_ref1_New_r6 : GR := (OP 0 4 (.mv (.const (.int .i64 0))) .done)
abbrev g_ref1_New_r7 : GR := (OP 0 11 (.mv (.tmp 4)) (OP 1 12 (.mv (.tmp 0)) (OP 2 13 (.bin .lss (.tmp 11) (.tmp 12)) .done)))
abbrev g_ref1_New_r8 : GR := (OP 0 16 (.fieldAddr 1 (.tmp 3)) (OW 1 17 (.load none (.tmp 16)) (OP 2 18 (.mv (.tmp 0)) (OP 3 19 (.makeSlice 4 1 1 [(.bool false)] (.tmp 18) (.tmp 18)) (OP 4 20 (.buildSlice 34 1 [(.slice none 0 0)] [(0,(1,(.tmp 19)))]) (OP 5 21 (.append 34 1 24 [(.slice none 0 0)] (.tmp 17) (.tmp 20)) (OP 6 22 (.fieldAddr 1 (.tmp 3)) (OS 7 (.store 1 (.tmp 22) (.tmp 21)) .done))))))))
abbrev g_ref1_New_r9 : GR := (OP 0 14 (.mv (.tmp 4)) (OP 1 15 (.bin .add (.tmp 14) (.const (.int .i64 1))) (OP 2 4 (.mv (.tmp 15)) .done)))
abbrev g_ref1_New_l10 : GC := (.seq (.seq (.reg g_ref1_New_r7 [0,2,3,4,13]) (.cond (.tmp 13) .skip (.exit 0))) (.seq (.block 1 (.reg g_ref1_New_r8 [0,2,3,4])) (.reg g_ref1_New_r9 [0,2,3,4])))
abbrev g_ref1_New_r11 : GR := (OP 0 23 (.load (some 2) (.tmp 3)) (OS 1 (.store 2 (.tmp 2) (.tmp 23)) .done))
abbrev g_ref1_New : GC := (.seq (.reg g_ref1_New_r0 [0,2]) (.seq (.seq (.reg g_ref1_New_r1 [0,2,6]) (.cond (.tmp 6) (.reg g_ref1_New_r2 [0,2]) .skip)) (.seq (.seq (.reg g_ref1_New_r3 [0,2,8]) (.cond (.tmp 8) (.reg g_ref1_New_r4 [0,2]) .skip)) (.seq (.reg g_ref1_New_r5 [0,2,3]) (.seq (.seq (.reg g_ref1_New_r6 [0,2,3,4]) (.block 0 (.loop g_ref1_New_l10))) (.seq (.reg g_ref1_New_r11 [2]) .ret))))))
abbrev rs_ref1_New : List RV := [(.cell 2 (some 2))]
theorem gc_ref1_New : compileF Tryd.prog Tryd.f100 T_ref1_New = some (g_ref1_New, rs_ref1_New) := by kernel_rfl
theorem con_ref1_New {y : Option Nat} {a0 : Value} {h : Heap} {R : Value → Heap → Prop} (hv : vc Tryd.prog y g_ref1_New (retQ rs_ref1_New R) [(0, a0)] h) : ConX y Tryd.prog 100 #[a0] h R := con_of Tryd.func100 gc_ref1_New rfl (fun h => absurd h (by decide)) hv
abbrev n_ref1_Comp : Nat := 101
def T_ref1_Comp : List (Nat × List Nat) := [(0, [2, 3, 4]), (1, [2, 3, 4, 5]), (2, [4, 5, 6]), (3, [4, 5, 6, 7]), (4, [4, 5, 6, 7, 8]), (5, [4, 5, 6, 7, 8, 25]), (6, [4, 5, 6, 7, 8]), (7, [4, 5, 6, 7, 8, 9]), (8, [4, 5, 6, 7, 8, 9, 31]), (9, [4, 5, 6, 7, 8, 9]), (10, [4, 5, 6, 7, 8, 9, 10]), (11, [4, 5, 6, 7, 8, 9, 10, 47]), (12, [4, 5, 6, 7, 8, 9, 10]), (13, [4, 5, 6, 7, 8, 9, 10]), (14, [4])]
abbrev g_ref1_Comp_r0 : GR := (OP 0 2 (.box 101 (.tmp 0)) (OP 1 3 (.box 101 (.tmp 1)) (OP 2 4 (.alloc 101 [(.int .i64 0),(.slice none 0 0)]) .done)))
abbrev g_ref1_Comp_r1 : GR := (OP 0 11 (.load (some 2) (.tmp 2)) (OP 1 12 (.fieldAddr 0 (.tmp 3)) (OP 2 13 (.load none (.tmp 12)) (OP 3 14 (.call 116 [(.tmp 11),(.tmp 13)]) (OP 4 5 (.alloc 101 [(.int .i64 0),(.slice none 0 0)]) (OS 5 (.store 2 (.tmp 5) (.tmp 14)) .done))))))
abbrev g_ref1_Comp_r2 : GR := (OP 0 15 (.load (some 2) (.tmp 3)) (OP 1 16 (.fieldAddr 0 (.tmp 2)) (OP 2 17 (.load none (.tmp 16)) (OP 3 18 (.call 116 [(.tmp 15),(.tmp 17)]) (OP 4 6 (.alloc 101 [(.int .i64 0),(.slice none 0 0)]) (OS 5 (.store 2 (.tmp 6) (.tmp 18)) .done))))))
abbrev g_ref1_Comp_r3 : GR := (OP 0 19 (.fieldAddr 0 (.tmp 5)) (OP 1 20 (.load none (.tmp 19)) (OP 2 21 (.call 100 [(.tmp 20)]) (OP 3 7 (.alloc 101 [(.int .i64 0),(.slice none 0 0)]) (OS 4 (.store 2 (.tmp 7) (.tmp 21)) .done)))))
abbrev g_ref1_Comp_r4 : GR := (OP 0 8 (.mv (.const (.int .i64 0))) .done)
abbrev g_ref1_Comp_r5 : GR := (OP 0 22 (.mv (.tmp 8)) (OP 1 23 (.fieldAddr 0 (.tmp 7)) (OP 2 24 (.load none (.tmp 23)) (OP 3 25 (.bin .lss (.tmp 22) (.tmp 24)) .done))))
abbrev g_ref1_Comp_r6 : GR := (OP 0 9 (.mv (.const (.int .i64 0))) .done)
abbrev g_ref1_Comp_r7 : GR := (OP 0 28 (.mv (.tmp 9)) (OP 1 29 (.fieldAddr 0 (.tmp 7)) (OP 2 30 (.load none (.tmp 29)) (OP 3 31 (.bin .lss (.tmp 28) (.tmp 30)) .done))))
abbrev g_ref1_Comp_r8 : GR := (OP 0 10 (.mv (.const (.int .i64 0))) .done)
abbrev g_ref1_Comp_r9 : GR := (OP 0 34 (.fieldAddr 1 (.tmp 5)) (OP 1 35 (.load none (.tmp 34)) (OP 2 36 (.mv (.tmp 8)) (OP 3 37 (.indexAddr 1 (.tmp 35) (.tmp 36)) (OP 4 38 (.load none (.tmp 37)) (OP 5 39 (.mv (.tmp 9)) (OP 6 40 (.indexAddr 1 (.tmp 38) (.tmp 39)) (OP 7 41 (.load none (.tmp 40)) (OP 8 42 (.mv (.tmp 41)) (OG 9 43 42 true (.mv (.tmp 10)) (OG 10 44 42 true (.fieldAddr 0 (.tmp 7)) (OG 11 45 42 true (.load none (.tmp 44)) (OG 12 46 42 true (.bin .lss (.tmp 43) (.tmp 45)) (OP 13 47 (.pick (.tmp 42) (.tmp 46) (.const (.bool false))) .done))))))))))))))
abbrev g_ref1_Comp_r10 : GR := (OP 0 50 (.fieldAddr 1 (.tmp 7)) (OW 1 51 (.load none (.tmp 50)) (OP 2 52 (.mv (.tmp 8)) (OP 3 53 (.indexAddr 1 (.tmp 51) (.tmp 52)) (OW 4 54 (.load none (.tmp 53)) (OP 5 55 (.mv (.tmp 10)) (OP 6 56 (.fieldAddr 1 (.tmp 7)) (OW 7 57 (.load none (.tmp 56)) (OP 8 58 (.mv (.tmp 8)) (OP 9 59 (.indexAddr 1 (.tmp 57) (.tmp 58)) (OW 10 60 (.load none (.tmp 59)) (OP 11 61 (.mv (.tmp 10)) (OP 12 62 (.indexAddr 1 (.tmp 60) (.tmp 61)) (OW 13 63 (.load none (.tmp 62)) (OP 14 64 (.mv (.tmp 63)) (OG 15 65 64 false (.fieldAddr 1 (.tmp 6)) (.op (GI.mk 16 (some 66) (some (64,false)) (.load none (.tmp 65)) [] true) (OG 17 67 64 false (.mv (.tmp 9)) (OG 18 68 64 false (.indexAddr 1 (.tmp 66) (.tmp 67)) (.op (GI.mk 19 (some 69) (some (64,false)) (.load none (.tmp 68)) [] true) (OG 20 70 64 false (.mv (.tmp 10)) (OG 21 71 64 false (.indexAddr 1 (.tmp 69) (.tmp 70)) (.op (GI.mk 22 (some 72) (some (64,false)) (.load none (.tmp 71)) [] true) (OP 23 73 (.pick (.tmp 64) (.const (.bool true)) (.tmp 72)) (OP 24 74 (.indexAddr 1 (.tmp 54) (.tmp 55)) (OS 25 (.store 1 (.tmp 74) (.tmp 73)) .done))))))))))))))))))))))))))
abbrev g_ref1_Comp_r11 : GR := (OP 0 48 (.mv (.tmp 10)) (OP 1 49 (.bin .add (.tmp 48) (.const (.int .i64 1))) (OP 2 10 (.mv (.tmp 49)) .done)))
abbrev g_ref1_Comp_l12 : GC := (.seq (.seq (.reg g_ref1_Comp_r9 [4,5,6,7,8,9,10,47]) (.cond (.tmp 47) .skip (.exit 4))) (.seq (.block 5 (.reg g_ref1_Comp_r10 [4,5,6,7,8,9,10])) (.reg g_ref1_Comp_r11 [4,5,6,7,8,9,10])))
abbrev g_ref1_Comp_r13 : GR := (OP 0 32 (.mv (.tmp 9)) (OP 1 33 (.bin .add (.tmp 32) (.const (.int .i64 1))) (OP 2 9 (.mv (.tmp 33)) .done)))
abbrev g_ref1_Comp_l14 : GC := (.seq (.seq (.reg g_ref1_Comp_r7 [4,5,6,7,8,9,31]) (.cond (.tmp 31) .skip (.exit 2))) (.seq (.block 3 (.seq (.reg g_ref1_Comp_r8 [4,5,6,7,8,9,10]) (.block 4 (.loop g_ref1_Comp_l12)))) (.reg g_ref1_Comp_r13 [4,5,6,7,8,9])))
abbrev g_ref1_Comp_r15 : GR := (OP 0 26 (.mv (.tmp 8)) (OP 1 27 (.bin .add (.tmp 26) (.const (.int .i64 1))) (OP 2 8 (.mv (.tmp 27)) .done)))
abbrev g_ref1_Comp_l16 : GC := (.seq (.seq (.reg g_ref1_Comp_r5 [4,5,6,7,8,25]) (.cond (.tmp 25) .skip (.exit 0))) (.seq (.block 1 (.seq (.reg g_ref1_Comp_r6 [4,5,6,7,8,9]) (.block 2 (.loop g_ref1_Comp_l14)))) (.reg g_ref1_Comp_r15 [4,5,6,7,8])))
abbrev g_ref1_Comp_r17 : GR := (OP 0 75 (.load (some 2) (.tmp 7)) (OS 1 (.store 2 (.tmp 4) (.tmp 75)) .done))
abbrev g_ref1_Comp : GC := (.seq (.reg g_ref1_Comp_r0 [2,3,4]) (.seq (.reg g_ref1_Comp_r1 [2,3,4,5]) (.seq (.reg g_ref1_Comp_r2 [4,5,6]) (.seq (.reg g_ref1_Comp_r3 [4,5,6,7]) (.seq (.seq (.reg g_ref1_Comp_r4 [4,5,6,7,8]) (.block 0 (.loop g_ref1_Comp_l16))) (.seq (.reg g_ref1_Comp_r17 [4]) .ret))))))
abbrev rs_ref1_Comp : List RV := [(.cell 4 (some 2))]
theorem gc_ref1_Comp : compileF Tryd.prog Tryd.f101 T_ref1_Comp = some (g_ref1_Comp, rs_ref1_Comp) := by kernel_rfl
theorem con_ref1_Comp {y : Option Nat} {a0 a1 : Value} {h : Heap} {R : Value → Heap → Prop} (hv : vc Tryd.prog y g_ref1_Comp (retQ rs_ref1_Comp R) [(0, a0), (1, a1)] h) : ConX y Tryd.prog 101 #[a0, a1] h R := con_of Tryd.func101 gc_ref1_Comp rfl (fun h => absurd h (by decide)) hv
abbrev n_ref1_Inverse : Nat := 102
def T_ref1_Inverse : List (Nat × List Nat) := [(0, [1, 2]), (1, [1, 2, 3]), (2, [1, 2, 3, 4]), (3, [1, 2, 3, 4, 12]), (4, [1, 2, 3, 4]), (5, [1, 2, 3, 4, 5]), (6, [1, 2, 3, 4, 5, 18]), (7, [1, 2, 3, 4, 5]), (8, [1, 2, 3, 4, 5]), (9, [2])]
abbrev g_ref1_Inverse_r0 : GR := (OP 0 1 (.box 101 (.tmp 0)) (OP 1 2 (.alloc 101 [(.int .i64 0),(.slice none 0 0)]) .done))
abbrev g_ref1_Inverse_r1 : GR := (OP 0 6 (.fieldAddr 0 (.tmp 1)) (OP 1 7 (.load none (.tmp 6)) (OP 2 8 (.call 100 [(.tmp 7)]) (OP 3 3 (.alloc 101 [(.int .i64 0),(.slice none 0 0)]) (OS 4 (.store 2 (.tmp 3) (.tmp 8)) .done)))))
abbrev g_ref1_Inverse_r2 : GR := (OP 0 4 (.mv (.const (.int .i64 0))) .done)
abbrev g_ref1_Inverse_r3 : GR := (OP 0 9 (.mv (.tmp 4)) (OP 1 10 (.fieldAddr 0 (.tmp 3)) (OP 2 11 (.load none (.tmp 10)) (OP 3 12 (.bin .lss (.tmp 9) (.tmp 11)) .done))))
abbrev g_ref1_Inverse_r4 : GR := (OP 0 5 (.mv (.const (.int .i64 0))) .done)
abbrev g_ref1_Inverse_r5 : GR := (OP 0 15 (.mv (.tmp 5)) (OP 1 16 (.fieldAddr 0 (.tmp 3)) (OP 2 17 (.load none (.tmp 16)) (OP 3 18 (.bin .lss (.tmp 15) (.tmp 17)) .done))))
abbrev g_ref1_Inverse_r6 : GR := (OP 0 21 (.fieldAddr 1 (.tmp 3)) (OW 1 22 (.load none (.tmp 21)) (OP 2 23 (.mv (.tmp 5)) (OP 3 24 (.indexAddr 1 (.tmp 22) (.tmp 23)) (OW 4 25 (.load none (.tmp 24)) (OP 5 26 (.mv (.tmp 4)) (OP 6 27 (.fieldAddr 1 (.tmp 1)) (OW 7 28 (.load none (.tmp 27)) (OP 8 29 (.mv (.tmp 4)) (OP 9 30 (.indexAddr 1 (.tmp 28) (.tmp 29)) (OW 10 31 (.load none (.tmp 30)) (OP 11 32 (.mv (.tmp 5)) (OP 12 33 (.indexAddr 1 (.tmp 31) (.tmp 32)) (OW 13 34 (.load none (.tmp 33)) (OP 14 35 (.indexAddr 1 (.tmp 25) (.tmp 26)) (OS 15 (.store 1 (.tmp 35) (.tmp 34)) .done))))))))))))))))
abbrev g_ref1_Inverse_r7 : GR := (OP 0 19 (.mv (.tmp 5)) (OP 1 20 (.bin .add (.tmp 19) (.const (.int .i64 1))) (OP 2 5 (.mv (.tmp 20)) .done)))
abbrev g_ref1_Inverse_l8 : GC := (.seq (.seq (.reg g_ref1_Inverse_r5 [1,2,3,4,5,18]) (.cond (.tmp 18) .skip (.exit 2))) (.seq (.block 3 (.reg g_ref1_Inverse_r6 [1,2,3,4,5])) (.reg g_ref1_Inverse_r7 [1,2,3,4,5])))
abbrev g_ref1_Inverse_r9 : GR := (OP 0 13 (.mv (.tmp 4)) (OP 1 14 (.bin .add (.tmp 13) (.const (.int .i64 1))) (OP 2 4 (.mv (.tmp 14)) .done)))
abbrev g_ref1_Inverse_l10 : GC := (.seq (.seq (.reg g_ref1_Inverse_r3 [1,2,3,4,12]) (.cond (.tmp 12) .skip (.exit 0))) (.seq (.block 1 (.seq (.reg g_ref1_Inverse_r4 [1,2,3,4,5]) (.block 2 (.loop g_ref1_Inverse_l8)))) (.reg g_ref1_Inverse_r9 [1,2,3,4])))
abbrev g_ref1_Inverse_r11 : GR := (OP 0 36 (.load (some 2) (.tmp 3)) (OS 1 (.store 2 (.tmp 2) (.tmp 36)) .done))
abbrev g_ref1_Inverse : GC := (.seq (.reg g_ref1_Inverse_r0 [1,2]) (.seq (.reg g_ref1_Inverse_r1 [1,2,3]) (.seq (.seq (.reg g_ref1_Inverse_r2 [1,2,3,4]) (.block 0 (.loop g_ref1_Inverse_l10))) (.seq (.reg g_ref1_Inverse_r11 [2]) .ret))))
abbrev rs_ref1_Inverse : List RV := [(.cell 2 (some 2))]
theorem gc_ref1_Inverse : compileF Tryd.prog Tryd.f102 T_ref1_Inverse = some (g_ref1_Inverse, rs_ref1_Inverse) := by kernel_rfl
theorem con_ref1_Inverse {y : Option Nat} {a0 : Value} {h : Heap} {R : Value → Heap → Prop} (hv : vc Tryd.prog y g_ref1_Inverse (retQ rs_ref1_Inverse R) [(0, a0)] h) : ConX y Tryd.prog 102 #[a0] h R := con_of Tryd.func102 gc_ref1_Inverse rfl (fun h => absurd h (by decide)) hv
abbrev n_ref1_Of : Nat := 103
def T_ref1_Of : List (Nat × List Nat) := [(0, [0, 1, 4]), (1, [1, 4, 5]), (2, [1, 4, 5, 6]), (3, [1, 4, 5, 6, 12]), (4, [1, 4, 5, 6]), (5, [1, 4, 5, 6, 30]), (6, [1, 4, 5, 6]), (7, [4])]
abbrev g_ref1_Of_r0 : GR := (OP 0 4 (.alloc 101 [(.int .i64 0),(.slice none 0 0)]) .done)
abbrev g_ref1_Of_r1 : GR := (OP 0 7 (.mv (.tmp 0)) (OP 1 8 (.call 100 [(.tmp 7)]) (OP 2 5 (.alloc 101 [(.int .i64 0),(.slice none 0 0)]) (OS 3 (.store 2 (.tmp 5) (.tmp 8)) .done))))
abbrev g_ref1_Of_r2 : GR := (OP 0 6 (.mv (.const (.int .i64 0))) .done)
abbrev g_ref1_Of_r3 : GR := (OP 0 9 (.mv (.tmp 6)) (OP 1 10 (.mv (.tmp 1)) (OP 2 11 (.len (.tmp 10)) (OP 3 12 (.bin .lss (.tmp 9) (.tmp 11)) .done))))
abbrev g_ref1_Of_r4 : GR := (OW 0 15 (.load (some 2) (.tmp 5)) (OP 1 16 (.mv (.tmp 1)) (OP 2 17 (.mv (.tmp 6)) (OP 3 18 (.indexAddr 2 (.tmp 16) (.tmp 17)) (OP 4 19 (.fieldAddr 0 (.tmp 18)) (OW 5 20 (.load none (.tmp 19)) (OP 6 21 (.call 117 [(.tmp 15),(.tmp 20)]) (OP 7 22 (.mv (.tmp 21)) (.op (GI.mk 8 (some 23) (some (22,true)) (.load (some 2) (.tmp 5)) [] true) (OG 9 24 22 true (.mv (.tmp 1)) (OG 10 25 22 true (.mv (.tmp 6)) (OG 11 26 22 true (.indexAddr 2 (.tmp 24) (.tmp 25)) (OG 12 27 22 true (.fieldAddr 1 (.tmp 26)) (.op (GI.mk 13 (some 28) (some (22,true)) (.load none (.tmp 27)) [] true) (.op (GI.mk 14 (some 29) (some (22,true)) (.call 117 [(.tmp 23),(.tmp 28)]) [0,5] false) (OP 15 30 (.pick (.tmp 22) (.tmp 29) (.const (.bool false))) .done))))))))))))))))
abbrev g_ref1_Of_r5 : GR := (OP 0 31 (.fieldAddr 1 (.tmp 5)) (OW 1 32 (.load none (.tmp 31)) (OP 2 33 (.mv (.tmp 1)) (OP 3 34 (.mv (.tmp 6)) (OP 4 35 (.indexAddr 2 (.tmp 33) (.tmp 34)) (OP 5 36 (.fieldAddr 0 (.tmp 35)) (OW 6 37 (.load none (.tmp 36)) (OP 7 38 (.indexAddr 1 (.tmp 32) (.tmp 37)) (OW 8 39 (.load none (.tmp 38)) (OP 9 40 (.mv (.tmp 1)) (OP 10 41 (.mv (.tmp 6)) (OP 11 42 (.indexAddr 2 (.tmp 40) (.tmp 41)) (OP 12 43 (.fieldAddr 1 (.tmp 42)) (OW 13 44 (.load none (.tmp 43)) (OP 14 45 (.indexAddr 1 (.tmp 39) (.tmp 44)) (OS 15 (.store 1 (.tmp 45) (.const (.bool true))) .done))))))))))))))))
abbrev g_ref1_Of_r6 : GR := (OP 0 13 (.mv (.tmp 6)) (OP 1 14 (.bin .add (.tmp 13) (.const (.int .i64 1))) (OP 2 6 (.mv (.tmp 14)) .done)))
abbrev g_ref1_Of_l7 : GC := (.seq (.seq (.reg g_ref1_Of_r3 [1,4,5,6,12]) (.cond (.tmp 12) .skip (.exit 0))) (.seq (.block 1 (.seq (.reg g_ref1_Of_r4 [1,4,5,6,30]) (.cond (.tmp 30) (.reg g_ref1_Of_r5 [1,4,5,6]) .skip))) (.reg g_ref1_Of_r6 [1,4,5,6])))
abbrev g_ref1_Of_r8 : GR := (OP 0 46 (.load (some 2) (.tmp 5)) (OS 1 (.store 2 (.tmp 4) (.tmp 46)) .done))
abbrev g_ref1_Of : GC := (.seq (.reg g_ref1_Of_r0 [0,1,4]) (.seq (.reg g_ref1_Of_r1 [1,4,5]) (.seq (.seq (.reg g_ref1_Of_r2 [1,4,5,6]) (.block 0 (.loop g_ref1_Of_l7))) (.seq (.reg g_ref1_Of_r8 [4]) .ret))))
abbrev rs_ref1_Of : List RV := [(.cell 4 (some 2))]
theorem gc_ref1_Of : compileF Tryd.prog Tryd.f103 T_ref1_Of = some (g_ref1_Of, rs_ref1_Of) := by kernel_rfl
theorem con_ref1_Of {y : Option Nat} {a0 a1 : Value} {h : Heap} {R : Value → Heap → Prop} (hv : vc Tryd.prog y g_ref1_Of (retQ rs_ref1_Of R) [(0, a0), (1, a1)] h) : ConX y Tryd.prog 103 #[a0, a1] h R := con_of Tryd.func103 gc_ref1_Of rfl (fun h => absurd h (by decide)) hv
abbrev n_slices_Index : Nat := 104
def T_slices_Index : List (Nat × List Nat) := [(0, [0, 1]), (1, [0, 1, 7, 8]), (2, [0, 1, 7, 8, 9]), (3, [0, 1, 5, 7, 8]), (4, [0, 1, 5, 7, 8, 16]), (5, [4]), (6, [0, 1, 7, 8]), (7, [4])]
abbrev g_slices_Index_r0 : GR := (OP 0 4 (.mv (.const (.int .i64 0))) .done)
abbrev g_slices_Index_r1 : GR := (OP 0 6 (.mv (.tmp 0)) (OP 1 7 (.len (.tmp 6)) (OP 2 8 (.mv (.const (.int .i64 0))) .done)))
abbrev g_slices_Index_r2 : GR := (OP 0 9 (.bin .lss (.tmp 8) (.tmp 7)) .done)
abbrev g_slices_Index_r3 : GR := (OP 0 10 (.mv (.tmp 8)) (OP 1 5 (.mv (.tmp 10)) .done))
abbrev g_slices_Index_r4 : GR := (OP 0 11 (.mv (.tmp 1)) (OP 1 12 (.mv (.tmp 0)) (OP 2 13 (.mv (.tmp 5)) (OP 3 14 (.indexAddr 1 (.tmp 12) (.tmp 13)) (OP 4 15 (.load none (.tmp 14)) (OP 5 16 (.bin .eql (.tmp 11) (.tmp 15)) .done))))))
abbrev g_slices_Index_r5 : GR := (OP 0 17 (.mv (.tmp 5)) (OP 1 4 (.mv (.tmp 17)) .done))
abbrev g_slices_Index_r6 : GR := (OP 0 18 (.bin .add (.tmp 8) (.const (.int .i64 1))) (OP 1 8 (.mv (.tmp 18)) .done))
abbrev g_slices_Index_l7 : GC := (.seq (.reg g_slices_Index_r2 [0,1,7,8,9]) (.seq (.cond (.tmp 9) .skip (.exit 0)) (.seq (.block 1 (.seq (.reg g_slices_Index_r3 [0,1,5,7,8]) (.seq (.reg g_slices_Index_r4 [0,1,5,7,8,16]) (.cond (.tmp 16) (.seq (.reg g_slices_Index_r5 [4]) .ret) .skip)))) (.reg g_slices_Index_r6 [0,1,7,8]))))
abbrev g_slices_Index_r8 : GR := (OP 0 4 (.mv (.const (.int .i64 (-1)))) .done)
abbrev g_slices_Index : GC := (.seq (.reg g_slices_Index_r0 [0,1]) (.seq (.seq (.reg g_slices_Index_r1 [0,1,7,8]) (.block 0 (.loop g_slices_Index_l7))) (.seq (.reg g_slices_Index_r8 [4]) .ret)))
abbrev rs_slices_Index : List RV := [(.tmp 4)]
theorem gc_slices_Index : compileF Tryd.prog Tryd.f104 T_slices_Index = some (g_slices_Index, rs_slices_Index) := by kernel_rfl
theorem con_slices_Index {y : Option Nat} {a0 a1 : Value} {h : Heap} {R : Value → Heap → Prop} (hv : vc Tryd.prog y g_slices_Index (retQ rs_slices_Index R) [(0, a0), (1, a1)] h) : ConX y Tryd.prog 104 #[a0, a1] h R := con_of Tryd.func104 gc_slices_Index rfl (fun h => absurd h (by decide)) hv
abbrev n_rel_row_points_1 : Nat := 106
def T_rel_row_points_1 : List (Nat × List Nat) := [(0, [0, 5, 6, 7]), (1, [0, 5, 6, 7, 8]), (2, [0, 3, 4, 5, 6, 7]), (3, [0, 3, 4, 5, 6, 7, 13]), (4, [0, 3, 4, 5, 6, 7]), (5, [0, 3, 4, 5, 6, 7, 25]), (6, [0, 5, 6, 7])]
abbrev g_rel_row_points_1_r0 : GR := (OP 0 5 (.load none (.tmp 1)) (OP 1 6 (.len (.tmp 5)) (OP 2 7 (.mv (.const (.int .i64 0))) .done)))
abbrev g_rel_row_points_1_r1 : GR := (OP 0 8 (.bin .lss (.tmp 7) (.tmp 6)) .done)
abbrev g_rel_row_points_1_r2 : GR := (OP 0 9 (.mv (.tmp 7)) (OP 1 10 (.indexAddr 1 (.tmp 5) (.tmp 7)) (OP 2 11 (.load none (.tmp 10)) (OP 3 3 (.mv (.tmp 9)) (OP 4 4 (.mv (.tmp 11)) .done)))))
abbrev g_rel_row_points_1_r3 : GR := (OP 0 12 (.mv (.tmp 4)) (OP 1 13 (.bin .neq (.tmp 12) (.const (.int .u64 0))) .done))
abbrev g_rel_row_points_1_r4 : GR := (OP 0 18 (.mv (.tmp 0)) (OP 1 19 (.mv (.tmp 3)) (OP 2 20 (.bin .mul (.const (.int .i64 64)) (.tmp 19)) (OP 3 21 (.mv (.tmp 4)) (OP 4 22 (.call 107 [(.tmp 21)]) (OP 5 23 (.bin .add (.tmp 20) (.tmp 22)) (OP 6 24 (.callv (.tmp 18) [(.tmp 23)]) (OP 7 25 (.not (.tmp 24)) .done))))))))
abbrev g_rel_row_points_1_r5 : GR := (OP 0 14 (.mv (.tmp 4)) (OP 1 15 (.mv (.tmp 4)) (OP 2 16 (.bin .sub (.tmp 15) (.const (.int .u64 1))) (OP 3 17 (.bin .and (.tmp 14) (.tmp 16)) (OP 4 4 (.mv (.tmp 17)) .done)))))
abbrev g_rel_row_points_1_l6 : GC := (.seq (.seq (.reg g_rel_row_points_1_r3 [0,3,4,5,6,7,13]) (.cond (.tmp 13) .skip (.exit 2))) (.seq (.block 3 (.seq (.reg g_rel_row_points_1_r4 [0,3,4,5,6,7,25]) (.cond (.tmp 25) .ret .skip))) (.reg g_rel_row_points_1_r5 [0,3,4,5,6,7])))
abbrev g_rel_row_points_1_r7 : GR := (OP 0 26 (.bin .add (.tmp 7) (.const (.int .i64 1))) (OP 1 7 (.mv (.tmp 26)) .done))
abbrev g_rel_row_points_1_l8 : GC := (.seq (.reg g_rel_row_points_1_r1 [0,5,6,7,8]) (.seq (.cond (.tmp 8) .skip (.exit 0)) (.seq (.block 1 (.seq (.reg g_rel_row_points_1_r2 [0,3,4,5,6,7]) (.block 2 (.loop g_rel_row_points_1_l6)))) (.reg g_rel_row_points_1_r7 [0,5,6,7]))))
abbrev g_rel_row_points_1 : GC := (.seq (.reg g_rel_row_points_1_r0 [0,5,6,7]) (.block 0 (.loop g_rel_row_points_1_l8)))
abbrev rs_rel_row_points_1 : List RV := []
theorem gc_rel_row_points_1 : compileF Tryd.prog Tryd.f106 T_rel_row_points_1 = some (g_rel_row_points_1, rs_rel_row_points_1) := by kernel_rfl
theorem con_rel_row_points_1 {y : Option Nat} {a0 a1 : Value} {h : Heap} {R : Value → Heap → Prop} (hv : vc Tryd.prog y g_rel_row_points_1 (retQ rs_rel_row_points_1 R) [(0, a0), (1, a1)] h) : ConX y Tryd.prog 106 #[a0, a1] h R := con_of Tryd.func106 gc_rel_row_points_1 rfl (fun h => absurd h (by decide)) hv
abbrev n_math_bits_TrailingZeros64 : Nat := 107
def T_math_bits_TrailingZeros64 : List (Nat × List Nat) := [(0, [0]), (1, [0, 4]), (2, [2]), (3, [2])]
abbrev g_math_bits_TrailingZeros64_r0 : GR := (OP 0 2 (.mv (.const (.int .i64 0))) .done)
abbrev g_math_bits_TrailingZeros64_r1 : GR := (OP 0 3 (.mv (.tmp 0)) (OP 1 4 (.bin .eql (.tmp 3) (.const (.int .u64 0))) .done))
abbrev g_math_bits_TrailingZeros64_r2 : GR := (OP 0 2 (.mv (.const (.int .i64 64))) .done)
abbrev g_math_bits_TrailingZeros64_r3 : GR := (OP 0 5 (.mv (.tmp 0)) (OP 1 6 (.mv (.tmp 0)) (OP 2 7 (.neg (.tmp 6)) (OP 3 8 (.bin .and (.tmp 5) (.tmp 7)) (OP 4 9 (.bin .mul (.tmp 8) (.const (.int .u64 285870213051353865))) (OP 5 10 (.shift .shr (.tmp 9) (.const (.int .u64 58))) (OP 6 11 (.indexArr 1 64 (.global 0) (.tmp 10)) (OP 7 12 (.load none (.tmp 11)) (OP 8 13 (.conv .i64 (.tmp 12)) (OP 9 2 (.mv (.tmp 13)) .done))))))))))
abbrev g_math_bits_TrailingZeros64 : GC := (.seq (.reg g_math_bits_TrailingZeros64_r0 [0]) (.seq (.seq (.reg g_math_bits_TrailingZeros64_r1 [0,4]) (.cond (.tmp 4) (.seq (.reg g_math_bits_TrailingZeros64_r2 [2]) .ret) .skip)) (.seq (.reg g_math_bits_TrailingZeros64_r3 [2]) .ret)))
abbrev rs_math_bits_TrailingZeros64 : List RV := [(.tmp 2)]
theorem gc_math_bits_TrailingZeros64 : compileF Tryd.prog Tryd.f107 T_math_bits_TrailingZeros64 = some (g_math_bits_TrailingZeros64, rs_math_bits_TrailingZeros64) := by kernel_rfl
theorem con_math_bits_TrailingZeros64 {y : Option Nat} {a0 : Value} {h : Heap} {R : Value → Heap → Prop} (hv : vc Tryd.prog y g_math_bits_TrailingZeros64 (retQ rs_math_bits_TrailingZeros64 R) [(0, a0)] h) : ConX y Tryd.prog 107 #[a0] h R := con_of Tryd.func107 gc_math_bits_TrailingZeros64 rfl (fun h => absurd h (by decide)) hv
abbrev n_ref1_Wide : Nat := 116
def T_ref1_Wide : List (Nat × List Nat) := [(0, [1, 2, 4]), (1, [1, 2, 4, 11]), (2, [1, 2, 4]), (3, [2, 4, 5]), (4, [2, 4, 5, 6]), (5, [2, 4, 5, 6, 19]), (6, [2, 4, 5, 6]), (7, [2, 4, 5, 6, 7]), (8, [2, 4, 5, 6, 7, 25]), (9, [2, 4, 5, 6, 7]), (10, [2, 4, 5, 6, 7]), (11, [4])]
abbrev g_ref1_Wide_r0 : GR := (OP 0 2 (.box 101 (.tmp 0)) (OP 1 4 (.alloc 101 [(.int .i64 0),(.slice none 0 0)]) .done))
abbrev g_ref1_Wide_r1 : GR := (OP 0 8 (.fieldAddr 0 (.tmp 2)) (OP 1 9 (.load none (.tmp 8)) (OP 2 10 (.mv (.tmp 1)) (OP 3 11 (.bin .gtr (.tmp 9) (.tmp 10)) .done))))
abbrev g_ref1_Wide_r2 : GR := (OP 0 12 (.fieldAddr 0 (.tmp 2)) (OP 1 13 (.load none (.tmp 12)) (OP 2 1 (.mv (.tmp 13)) .done)))
abbrev g_ref1_Wide_r3 : GR := (OP 0 14 (.mv (.tmp 1)) (OP 1 15 (.call 100 [(.tmp 14)]) (OP 2 5 (.alloc 101 [(.int .i64 0),(.slice none 0 0)]) (OS 3 (.store 2 (.tmp 5) (.tmp 15)) .done))))
abbrev g_ref1_Wide_r4 : GR := (OP 0 6 (.mv (.const (.int .i64 0))) .done)
abbrev g_ref1_Wide_r5 : GR := (OP 0 16 (.mv (.tmp 6)) (OP 1 17 (.fieldAddr 0 (.tmp 2)) (OP 2 18 (.load none (.tmp 17)) (OP 3 19 (.bin .lss (.tmp 16) (.tmp 18)) .done))))
abbrev g_ref1_Wide_r6 : GR := (OP 0 7 (.mv (.const (.int .i64 0))) .done)
abbrev g_ref1_Wide_r7 : GR := (OP 0 22 (.mv (.tmp 7)) (OP 1 23 (.fieldAddr 0 (.tmp 2)) (OP 2 24 (.load none (.tmp 23)) (OP 3 25 (.bin .lss (.tmp 22) (.tmp 24)) .done))))
abbrev g_ref1_Wide_r8 : GR := (OP 0 28 (.fieldAddr 1 (.tmp 5)) (OW 1 29 (.load none (.tmp 28)) (OP 2 30 (.mv (.tmp 6)) (OP 3 31 (.indexAddr 1 (.tmp 29) (.tmp 30)) (OW 4 32 (.load none (.tmp 31)) (OP 5 33 (.mv (.tmp 7)) (OP 6 34 (.fieldAddr 1 (.tmp 2)) (OW 7 35 (.load none (.tmp 34)) (OP 8 36 (.mv (.tmp 6)) (OP 9 37 (.indexAddr 1 (.tmp 35) (.tmp 36)) (OW 10 38 (.load none (.tmp 37)) (OP 11 39 (.mv (.tmp 7)) (OP 12 40 (.indexAddr 1 (.tmp 38) (.tmp 39)) (OW 13 41 (.load none (.tmp 40)) (OP 14 42 (.indexAddr 1 (.tmp 32) (.tmp 33)) (OS 15 (.store 1 (.tmp 42) (.tmp 41)) .done))))))))))))))))
abbrev g_ref1_Wide_r9 : GR := (OP 0 26 (.mv (.tmp 7)) (OP 1 27 (.bin .add (.tmp 26) (.const (.int .i64 1))) (OP 2 7 (.mv (.tmp 27)) .done)))
abbrev g_ref1_Wide_l10 : GC := (.seq (.seq (.reg g_ref1_Wide_r7 [2,4,5,6,7,25]) (.cond (.tmp 25) .skip (.exit 2))) (.seq (.block 3 (.reg g_ref1_Wide_r8 [2,4,5,6,7])) (.reg g_ref1_Wide_r9 [2,4,5,6,7])))
abbrev g_ref1_Wide_r11 : GR := (OP 0 20 (.mv (.tmp 6)) (OP 1 21 (.bin .add (.tmp 20) (.const (.int .i64 1))) (OP 2 6 (.mv (.tmp 21)) .done)))
abbrev g_ref1_Wide_l12 : GC := (.seq (.seq (.reg g_ref1_Wide_r5 [2,4,5,6,19]) (.cond (.tmp 19) .skip (.exit 0))) (.seq (.block 1 (.seq (.reg g_ref1_Wide_r6 [2,4,5,6,7]) (.block 2 (.loop g_ref1_Wide_l10)))) (.reg g_ref1_Wide_r11 [2,4,5,6])))
abbrev g_ref1_Wide_r13 : GR := (OP 0 43 (.load (some 2) (.tmp 5)) (OS 1 (.store 2 (.tmp 4) (.tmp 43)) .done))
abbrev g_ref1_Wide : GC := (.seq (.reg g_ref1_Wide_r0 [1,2,4]) (.seq (.seq (.reg g_ref1_Wide_r1 [1,2,4,11]) (.cond (.tmp 11) (.reg g_ref1_Wide_r2 [1,2,4]) .skip)) (.seq (.reg g_ref1_Wide_r3 [2,4,5]) (.seq (.seq (.reg g_ref1_Wide_r4 [2,4,5,6]) (.block 0 (.loop g_ref1_Wide_l12))) (.seq (.reg g_ref1_Wide_r13 [4]) .ret)))))
abbrev rs_ref1_Wide : List RV := [(.cell 4 (some 2))]
theorem gc_ref1_Wide : compileF Tryd.prog Tryd.f116 T_ref1_Wide = some (g_ref1_Wide, rs_ref1_Wide) := by kernel_rfl
theorem con_ref1_Wide {y : Option Nat} {a0 a1 : Value} {h : Heap} {R : Value → Heap → Prop} (hv : vc Tryd.prog y g_ref1_Wide (retQ rs_ref1_Wide R) [(0, a0), (1, a1)] h) : ConX y Tryd.prog 116 #[a0, a1] h R := con_of Tryd.func116 gc_ref1_Wide rfl (fun h => absurd h (by decide)) hv
abbrev n_ref1_in : Nat := 117
def T_ref1_in : List (Nat × List Nat) := [(0, [1, 2]), (1, [4])]
abbrev g_ref1_in_r0 : GR := (OP 0 2 (.box 101 (.tmp 0)) (OP 1 4 (.mv (.const (.bool false))) .done))
abbrev g_ref1_in_r1 : GR := (OP 0 5 (.mv (.tmp 1)) (OP 1 6 (.bin .geq (.tmp 5) (.const (.int .i64 0))) (OP 2 7 (.mv (.tmp 6)) (OG 3 8 7 true (.mv (.tmp 1)) (OG 4 9 7 true (.fieldAddr 0 (.tmp 2)) (OG 5 10 7 true (.load none (.tmp 9)) (OG 6 11 7 true (.bin .lss (.tmp 8) (.tmp 10)) (OP 7 12 (.pick (.tmp 7) (.tmp 11) (.const (.bool false))) (OP 8 4 (.mv (.tmp 12)) .done)))))))))
abbrev g_ref1_in : GC := (.seq (.reg g_ref1_in_r0 [1,2]) (.seq (.reg g_ref1_in_r1 [4]) .ret))
abbrev rs_ref1_in : List RV := [(.tmp 4)]
theorem gc_ref1_in : compileF Tryd.prog Tryd.f117 T_ref1_in = some (g_ref1_in, rs_ref1_in) := by kernel_rfl
theorem con_ref1_in {y : Option Nat} {a0 a1 : Value} {h : Heap} {R : Value → Heap → Prop} (hv : vc Tryd.prog y g_ref1_in (retQ rs_ref1_in R) [(0, a0), (1, a1)] h) : ConX y Tryd.prog 117 #[a0, a1] h R := con_of Tryd.func117 gc_ref1_in rfl (fun h => absurd h (by decide)) hv
end Go.Proofs.Tst
