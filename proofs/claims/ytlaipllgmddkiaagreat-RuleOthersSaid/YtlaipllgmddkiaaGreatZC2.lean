/- Texts put behind one another: AxCOps, AxCLaw21. Conditions: none. -/
import Derived.Test.YtlaipllgmddkiaaGreatAxEnterZ
import Derived.Test.YtlaipllgmddkiaaGreatProg
import Derived.KernelRfl
set_option linter.all false
namespace Go.Proofs.YtlaipllgmddkiaaGreat.Ax
open Go Go.Ax
set_option maxRecDepth 100000
def k17_0 : ACode := .seq (.region [zL 25 5 3, W1 26 (.build [.int .i64 0, .int .u64 0, .int .i64 0] [(0, 1, (zI 1))]), zS 5 6 25, zS 3 7 26]) (.ret)
def k17_1 : ACode := .seq (.region [zL 42 5 3, zV 43 10, W1 44 (.build [.int .i64 0, .int .u64 0, .int .i64 0] [(0, 1, (.t 43))]), zS 5 6 42, zS 3 7 44]) (.ret)
def k17_2 : ACode := .seq (.region [zL 49 5 3, W1 50 (.build [.int .i64 0, .int .u64 0, .int .i64 0] [(0, 1, (zI 7))]), zS 5 6 49, zS 3 7 50]) (.ret)
def k17_3 : ACode := .seq (.region [zL 57 5 3, W1 58 (.build [.int .i64 0, .int .u64 0, .int .i64 0] [(0, 1, (zI 6))]), zS 5 6 57, zS 3 7 58]) (.ret)
def k17_4 : ACode := .seq (.region [zV 52 11, zF 53 2 9, zM 54 53, W1 55 (.call 80 [(.t 52), (.t 54)]), zN 56 55, zV 51 56]) (.cond (.t 51) k17_3 (.skip))
def k17_5 : ACode := .seq (.region [zF 46 0 9, zM 47 46, W1 48 (.bin .neq (.t 47) (zI 3)), zV 45 48]) (.cond (.t 45) k17_2 k17_4)
def k17_6 : ACode := .seq (.region [zL 62 5 3, zV 63 1, zL 64 6 5, zL 65 4 9, W1 66 (.call 81 [(.t 62), (.t 63), (.t 64), (.t 65)]), zE 67 66 0, zE 68 66 1, zS 5 6 67, zS 3 7 68]) (.ret)
def k17_7 : ACode := .seq (.region [zL 69 5 3, zV 70 1, zL 71 6 5, zL 72 4 9, W1 73 (.call 82 [(.t 69), (.t 70), (.t 71), (.t 72)]), zE 74 73 0, zE 75 73 1, zS 5 6 74, zS 3 7 75]) (.ret)
def k17_8 : ACode := .seq (.seq (.region [zF 59 0 5, zM 60 59, W1 61 (.bin .eql (.t 60) (zI 7))]) (.cond (.t 61) k17_6 (.skip))) k17_7
def k17_9 : ACode := .seq (.block 0 ( .seq (.region [zV 40 10, W1 41 (.bin .neq (.t 40) (zI 0)), zV 39 41]) (.cond (.t 39) k17_1 k17_5))) k17_8
def k17_10 : ACode := .seq (.seq (.region [zF 36 0 5, zM 37 36, W1 38 (.bin .eql (.t 37) (zI 8))]) (.cond (.t 38) (.region [W1 11 (.mv (zI 1))]) (.skip))) k17_9
def k17_11 : ACode := .seq (.region [zL 28 5 3, zV 29 1, zF 30 1 5, zL 31 1 30, W1 32 (.call 65 [(.t 28), (.t 29), (.t 31)]), zV 27 32, zE 33 27 0, zE 34 27 1, zE 35 27 2, W1 9 (.new [.int .i64 0, .int .i64 0, .int .i64 0, .int .i64 0]), zV 8 33, zS 4 9 34, zV 10 35]) (.seq (.region [W1 11 (.mv (zI 2))]) k17_10)
def k17_12 : ACode := .seq (.seq (.region [zL 12 6 5, W1 13 (.call 50 [(.t 12)]), zN 14 13, zV 15 14, W2 16 15 false (.fld 0 (.t 5)), W2 17 15 false (.ld none (.t 16)), W2 18 15 false (.bin .neq (.t 17) (zI 7)), zU 19 18 15 false, W2 20 19 true (.fld 0 (.t 5)), W2 21 19 true (.ld none (.t 20)), W2 22 19 true (.bin .neq (.t 21) (zI 8)),
 W2 23 15 false (.pick (.t 19) (.t 22) (.c (.bool false))), W1 24 (.pick (.t 15) (.c (.bool true)) (.t 23))]) (.cond (.t 24) k17_0 (.skip))) k17_11
def c17 : ACode := .seq (.region [W1 3 (.box (.t 0)), W1 5 (.box (.t 2)), W1 6 (.new [.int .i64 0, .int .i64 0, .int .i64 0, .lit (.slice none 0 0), .lit (.slice none 0 0)]), W1 7 (.new [.int .i64 0, .int .u64 0, .int .i64 0])]) k17_12
theorem ok17 : fnOk Tryz.prog 17 c17 76 [.c 6 (some 5), .c 7 (some 3)] = true := by kernel_rfl
def w17 := aW k17_0.eq_1 (aW k17_1.eq_1 (aW k17_2.eq_1 (aW k17_3.eq_1 (aW k17_4.eq_1 (aW k17_5.eq_1 (aW k17_6.eq_1 (aW k17_7.eq_1 (aW k17_8.eq_1 (aW k17_9.eq_1 (aW k17_10.eq_1 (aW k17_11.eq_1 (oW k17_12.eq_1))))))))))))
def k26_0 : ACode := .seq (.region [zL 21 5 3, zV 22 10, W1 23 (.build [.int .i64 0, .int .u64 0, .int .i64 0] [(0, 1, (.t 22))]), zS 5 6 21, zS 3 7 23]) (.ret)
def k26_1 : ACode := .seq (.region [zL 24 5 8, zV 25 9, W1 26 (.build [.int .i64 0, .int .u64 0, .int .i64 0] [(2, 1, (.t 25))]), zS 5 6 24, zS 3 7 26]) (.ret)
def k26_2 : ACode := .seq (.seq (.region [zV 19 10, W1 20 (.bin .neq (.t 19) (zI 0))]) (.cond (.t 20) k26_0 (.skip))) k26_1
def k26_3 : ACode := .seq (.region [zL 12 5 3, zV 13 1, zL 14 6 5, W1 15 (.call 100 [(.t 12), (.t 13), (.t 14)]), zV 11 15, zE 16 11 0, zE 17 11 1, zE 18 11 2, W1 8 (.new [.int .i64 0, .int .i64 0, .int .i64 0, .lit (.slice none 0 0), .lit (.slice none 0 0)]), zS 5 8 16, zV 9 17, zV 10 18]) k26_2
def c26 : ACode := .seq (.region [W1 3 (.box (.t 0)), W1 5 (.box (.t 2)), W1 6 (.new [.int .i64 0, .int .i64 0, .int .i64 0, .lit (.slice none 0 0), .lit (.slice none 0 0)]), W1 7 (.new [.int .i64 0, .int .u64 0, .int .i64 0])]) k26_3
theorem ok26 : fnOk Tryz.prog 26 c26 27 [.c 6 (some 5), .c 7 (some 3)] = true := by kernel_rfl
def w26 := aW k26_0.eq_1 (aW k26_1.eq_1 (aW k26_2.eq_1 (oW k26_3.eq_1)))
def k32_0 : ACode := .seq (.region [zL 19 5 3, zV 20 9, W1 21 (.build [.int .i64 0, .int .u64 0, .int .i64 0] [(0, 1, (.t 20))]), zS 5 6 19, zS 3 7 21]) (.ret)
def k32_1 : ACode := .seq (.region [zL 22 5 8, W1 23 (.build [.int .i64 0, .int .u64 0, .int .i64 0] []), zS 5 6 22, zS 3 7 23]) (.ret)
def k32_2 : ACode := .seq (.seq (.region [zV 17 9, W1 18 (.bin .neq (.t 17) (zI 0))]) (.cond (.t 18) k32_0 (.skip))) k32_1
def k32_3 : ACode := .seq (.region [zL 11 5 3, zV 12 1, zL 13 6 5, W1 14 (.call 104 [(.t 11), (.t 12), (.t 13)]), zV 10 14, zE 15 10 0, zE 16 10 1, W1 8 (.new [.int .i64 0, .int .i64 0, .int .i64 0, .lit (.slice none 0 0), .lit (.slice none 0 0)]), zS 5 8 15, zV 9 16]) k32_2
def c32 : ACode := .seq (.region [W1 3 (.box (.t 0)), W1 5 (.box (.t 2)), W1 6 (.new [.int .i64 0, .int .i64 0, .int .i64 0, .lit (.slice none 0 0), .lit (.slice none 0 0)]), W1 7 (.new [.int .i64 0, .int .u64 0, .int .i64 0])]) k32_3
theorem ok32 : fnOk Tryz.prog 32 c32 24 [.c 6 (some 5), .c 7 (some 3)] = true := by kernel_rfl
def w32 := aW k32_0.eq_1 (aW k32_1.eq_1 (aW k32_2.eq_1 (oW k32_3.eq_1)))
def k38_0 : ACode := .seq (.region [zL 26 5 3, W1 27 (.build [.int .i64 0, .int .u64 0, .int .i64 0] [(0, 1, (zI 1))]), zS 5 6 26, zS 3 7 27]) (.ret)
def k38_1 : ACode := .seq (.region [zL 43 5 3, zV 44 10, W1 45 (.build [.int .i64 0, .int .u64 0, .int .i64 0] [(0, 1, (.t 44))]), zS 5 6 43, zS 3 7 45]) (.ret)
def k38_2 : ACode := .seq (.region [zL 50 5 3, W1 51 (.build [.int .i64 0, .int .u64 0, .int .i64 0] [(0, 1, (zI 7))]), zS 5 6 50, zS 3 7 51]) (.ret)
def k38_3 : ACode := .seq (.region [zL 58 5 3, W1 59 (.build [.int .i64 0, .int .u64 0, .int .i64 0] [(0, 1, (zI 6))]), zS 5 6 58, zS 3 7 59]) (.ret)
def k38_4 : ACode := .seq (.region [zV 53 11, zF 54 2 9, zM 55 54, W1 56 (.call 80 [(.t 53), (.t 55)]), zN 57 56, zV 52 57]) (.cond (.t 52) k38_3 (.skip))
def k38_5 : ACode := .seq (.region [zF 47 0 9, zM 48 47, W1 49 (.bin .neq (.t 48) (zI 4)), zV 46 49]) (.cond (.t 46) k38_2 k38_4)
def k38_6 : ACode := .seq (.region [zL 74 5 3, W1 75 (.build [.int .i64 0, .int .u64 0, .int .i64 0] [(0, 1, (zI 14))]), zS 5 6 74, zS 3 7 75]) (.ret)
def k38_7 : ACode := .seq (.region [zL 87 5 3, zV 88 12, W1 89 (.build [.int .i64 0, .int .u64 0, .int .i64 0] [(1, 1, (.t 88))]), zS 5 6 87, zS 3 7 89]) (.ret)
def k38_8 : ACode := .seq (.region [zF 81 4 3, zM 82 81, zF 83 1 9, zM 84 83, W1 85 (.ixs 13 (.t 82) (.t 84)), zF 86 8 85, ⟨none, .st 1 (.t 86) (.c (.int .u64 0)), none⟩]) k38_7
def k38_9 : ACode := .seq (.region [zL 102 5 3, W1 103 (.build [.int .i64 0, .int .u64 0, .int .i64 0] []), zS 5 6 102, zS 3 7 103]) (.ret)
def k38_10 : ACode := .seq (.drawn [(0, zF 90 4 3), (1, zM 91 90), (2, zF 92 1 9), (3, zM 93 92), (5, zF 95 3 9), (6, zM 96 95), (4, zV 94 12), (7, W1 97 (.bin .rem (.t 96) (zI 64))), (8, W1 98 (.bin .shl (.c (.int .u64 1)) (.t 97))), (9, W1 99 (.bin .or (.t 94) (.t 98))), (10, W1 100 (.ixs 13 (.t 91) (.t 93))), (11, zF 101 8 100), (12, zS 1 101 99)]
 [[], [0], [], [2], [], [], [5], [6], [7], [4, 8], [1, 3, 0, 1, 2, 3, 4, 5, 6, 7, 8, 9], [10, 0, 1, 2, 3, 4, 5, 6, 7, 8, 9], [11, 9, 0, 1, 2, 3, 4, 5, 6, 7, 8, 9]] 0) k38_9
def k38_11 : ACode := .seq (.seq (.region [zF 78 0 5, zM 79 78, W1 80 (.bin .eql (.t 79) (zI 10))]) (.cond (.t 80) k38_8 (.skip))) k38_10
def k38_12 : ACode := .seq (.region [zL 76 5 3, W1 77 (.call 16 [(.t 76)]), zS 5 3 77]) k38_11
def k38_13 : ACode := .seq (.seq (.region [zF 67 0 5, zM 68 67, W1 69 (.bin .eql (.t 68) (zI 10)), zV 70 69, zU 71 12 70 true, W2 72 70 true (.bin .eql (.t 71) (.c (.int .u64 0))), W1 73 (.pick (.t 70) (.t 72) (.c (.bool false)))]) (.cond (.t 73) k38_6 (.skip))) k38_12
def k38_14 : ACode := .seq (.region [zF 60 4 3, zM 61 60, zF 62 1 9, zM 63 62, W1 64 (.ixs 13 (.t 61) (.t 63)), zF 65 8 64, zM 66 65, zV 12 66]) k38_13
def k38_15 : ACode := .seq (.block 0 ( .seq (.region [zV 41 10, W1 42 (.bin .neq (.t 41) (zI 0)), zV 40 42]) (.cond (.t 40) k38_1 k38_5))) k38_14
def k38_16 : ACode := .seq (.seq (.region [zF 37 0 5, zM 38 37, W1 39 (.bin .eql (.t 38) (zI 10))]) (.cond (.t 39) (.region [W1 11 (.mv (zI 1))]) (.skip))) k38_15
def k38_17 : ACode := .seq (.region [zL 29 5 3, zV 30 1, zF 31 1 5, zL 32 1 31, W1 33 (.call 65 [(.t 29), (.t 30), (.t 32)]), zV 28 33, zE 34 28 0, zE 35 28 1, zE 36 28 2, W1 9 (.new [.int .i64 0, .int .i64 0, .int .i64 0, .int .i64 0]), zV 8 34, zS 4 9 35, zV 10 36]) (.seq (.region [W1 11 (.mv (zI 2))]) k38_16)
def k38_18 : ACode := .seq (.seq (.region [zL 13 6 5, W1 14 (.call 50 [(.t 13)]), zN 15 14, zV 16 15, W2 17 16 false (.fld 0 (.t 5)), W2 18 16 false (.ld none (.t 17)), W2 19 16 false (.bin .neq (.t 18) (zI 9)), zU 20 19 16 false, W2 21 20 true (.fld 0 (.t 5)), W2 22 20 true (.ld none (.t 21)), W2 23 20 true (.bin .neq (.t 22) (zI 10)),
 W2 24 16 false (.pick (.t 20) (.t 23) (.c (.bool false))), W1 25 (.pick (.t 16) (.c (.bool true)) (.t 24))]) (.cond (.t 25) k38_0 (.skip))) k38_17
def c38 : ACode := .seq (.region [W1 3 (.box (.t 0)), W1 5 (.box (.t 2)), W1 6 (.new [.int .i64 0, .int .i64 0, .int .i64 0, .lit (.slice none 0 0), .lit (.slice none 0 0)]), W1 7 (.new [.int .i64 0, .int .u64 0, .int .i64 0])]) k38_18
theorem ok38 : fnOk Tryz.prog 38 c38 104 [.c 6 (some 5), .c 7 (some 3)] = true := by kernel_rfl
def w38 := aW k38_0.eq_1 (aW k38_1.eq_1 (aW k38_2.eq_1 (aW k38_3.eq_1 (aW k38_4.eq_1 (aW k38_5.eq_1 (aW k38_6.eq_1 (aW k38_7.eq_1 (aW k38_8.eq_1 (aW k38_9.eq_1 (aW k38_10.eq_1 (aW k38_11.eq_1 (aW k38_12.eq_1 (aW k38_13.eq_1 (aW k38_14.eq_1 (aW k38_15.eq_1 (aW k38_16.eq_1 (aW k38_17.eq_1 (oW k38_18.eq_1))))))))))))))))))
def k44_0 : ACode := .seq (.region [zL 32 5 3, W1 33 (.build [.int .i64 0, .int .u64 0, .int .i64 0] [(0, 1, (zI 1))]), zS 5 6 32, zS 3 7 33]) (.ret)
def k44_1 : ACode := .seq (.region [zL 45 5 3, zV 46 10, W1 47 (.build [.int .i64 0, .int .u64 0, .int .i64 0] [(0, 1, (.t 46))]), zS 5 6 45, zS 3 7 47]) (.ret)
def k44_2 : ACode := .seq (.drawn [(0, zL 56 5 3), (2, zL 58 5 3), (3, W1 59 (.call 76 [(.t 58)])), (4, zV 60 8), (5, W1 61 (.call 112 [(.t 59), (.t 60)])), (7, zS 5 6 56), (1, zV 57 11), (6, W1 62 (.build [.int .i64 0, .int .u64 0, .int .i64 0] [(1, 1, (.t 57)), (2, 1, (.t 61))])), (8, zS 3 7 62)] [[], [], [], [2], [], [3, 4, 3], [1, 5], [0, 5, 0], [6, 7, 0, 1, 2, 3, 4, 5, 6, 7]] 0) (.ret)
def k44_3 : ACode := .seq (.region [zL 52 4 9, W1 53 (.call 111 [(.t 52)]), zV 51 53, zE 54 51 0, zE 55 51 1, zV 11 54, zV 12 55]) k44_2
def k44_4 : ACode := .seq (.region [zL 70 5 3, W1 71 (.build [.int .i64 0, .int .u64 0, .int .i64 0] [(0, 1, (zI 7))]), zS 5 6 70, zS 3 7 71]) (.ret)
def k44_5 : ACode := .seq (.region [zL 78 5 3, W1 79 (.build [.int .i64 0, .int .u64 0, .int .i64 0] [(0, 1, (zI 6))]), zS 5 6 78, zS 3 7 79]) (.ret)
def k44_6 : ACode := .seq (.drawn [(0, zL 84 5 3), (1, zF 85 4 3), (2, zM 86 85), (3, zF 87 1 9), (4, zM 88 87), (5, zF 89 3 5), (6, zM 90 89), (7, W1 91 (.ixs 13 (.t 86) (.t 88))), (8, zF 92 9 91), (9, W1 93 (.ixa 4 1 (.t 92) (.t 90))), (10, zM 94 93), (12, zS 5 6 84), (11, W1 95 (.build [.int .i64 0, .int .u64 0, .int .i64 0] [(1, 1, (.t 94))])), (13, zS 3 7 95)]
 [[], [], [1], [], [3], [], [5], [2, 4], [7], [8, 6], [9], [10], [0, 0], [11, 12, 0, 1, 2, 3, 4, 5, 6, 7, 8, 9, 10, 11, 12]] 0) (.ret)
def k44_7 : ACode := .seq (.region [zF 81 0 5, zM 82 81, W1 83 (.bin .eql (.t 82) (zI 12)), zV 80 83]) (.cond (.t 80) k44_6 (.skip))
def k44_8 : ACode := .seq (.region [zV 73 13, zF 74 2 9, zM 75 74, W1 76 (.call 80 [(.t 73), (.t 75)]), zN 77 76, zV 72 77]) (.cond (.t 72) k44_5 k44_7)
def k44_9 : ACode := .seq (.region [zL 109 5 3, W1 110 (.build [.int .i64 0, .int .u64 0, .int .i64 0] []), zS 5 6 109, zS 3 7 110]) (.ret)
def k44_10 : ACode := .seq (.drawn [(0, zF 98 4 3), (1, zM 99 98), (2, zF 100 1 9), (3, zM 101 100), (4, zF 102 3 5), (5, zM 103 102), (6, zF 104 5 5), (7, zM 105 104), (8, W1 106 (.ixs 13 (.t 99) (.t 101))), (9, zF 107 9 106), (10, W1 108 (.ixa 4 1 (.t 107) (.t 103))), (11, zS 1 108 105)] [[], [0], [], [2], [], [4], [], [6], [1, 3], [8], [9, 5, 0, 1, 2, 3, 4, 5, 6, 7], [10, 7, 0, 1, 2, 3, 4, 5, 6, 7]] 0) k44_9
def k44_11 : ACode := .seq (.region [zL 96 5 3, W1 97 (.call 16 [(.t 96)]), zS 5 3 97]) k44_10
def k44_12 : ACode := .seq (.block 0 ( .seq (.region [zF 67 0 9, zM 68 67, W1 69 (.bin .neq (.t 68) (zI 5)), zV 66 69]) (.cond (.t 66) k44_4 k44_8))) k44_11
def k44_13 : ACode := .seq (.seq (.region [zF 63 0 5, zM 64 63, W1 65 (.bin .eql (.t 64) (zI 12))]) (.cond (.t 65) (.region [W1 13 (.mv (zI 1))]) (.skip))) k44_12
def k44_14 : ACode := .seq (.seq (.region [zF 48 0 5, zM 49 48, W1 50 (.bin .eql (.t 49) (zI 13))]) (.cond (.t 50) k44_3 (.skip))) (.seq (.region [W1 13 (.mv (zI 2))]) k44_13)
def k44_15 : ACode := .seq (.seq (.region [zV 43 10, W1 44 (.bin .neq (.t 43) (zI 0))]) (.cond (.t 44) k44_1 (.skip))) k44_14
def k44_16 : ACode := .seq (.region [zL 35 5 3, zV 36 1, zF 37 1 5, zL 38 1 37, W1 39 (.call 65 [(.t 35), (.t 36), (.t 38)]), zV 34 39, zE 40 34 0, zE 41 34 1, zE 42 34 2, W1 9 (.new [.int .i64 0, .int .i64 0, .int .i64 0, .int .i64 0]), zV 8 40, zS 4 9 41, zV 10 42]) k44_15
def k44_17 : ACode := .seq (.seq (.region [zL 14 6 5, W1 15 (.call 50 [(.t 14)]), zN 16 15, zV 17 16, W2 18 17 false (.fld 0 (.t 5)), W2 19 17 false (.ld none (.t 18)), W2 20 17 false (.bin .neq (.t 19) (zI 11)), zU 21 20 17 false, W2 22 21 true (.fld 0 (.t 5)), W2 23 21 true (.ld none (.t 22)), W2 24 21 true (.bin .neq (.t 23) (zI 12)),
 W2 25 17 false (.pick (.t 21) (.t 24) (.c (.bool false))), zU 26 25 17 false, W2 27 26 true (.fld 0 (.t 5)), W2 28 26 true (.ld none (.t 27)), W2 29 26 true (.bin .neq (.t 28) (zI 13)), W2 30 17 false (.pick (.t 26) (.t 29) (.c (.bool false))), W1 31 (.pick (.t 17) (.c (.bool true)) (.t 30))]) (.cond (.t 31) k44_0 (.skip))) k44_16
def c44 : ACode := .seq (.region [W1 3 (.box (.t 0)), W1 5 (.box (.t 2)), W1 6 (.new [.int .i64 0, .int .i64 0, .int .i64 0, .lit (.slice none 0 0), .lit (.slice none 0 0)]), W1 7 (.new [.int .i64 0, .int .u64 0, .int .i64 0])]) k44_17
theorem ok44 : fnOk Tryz.prog 44 c44 111 [.c 6 (some 5), .c 7 (some 3)] = true := by kernel_rfl
def w44 := aW k44_0.eq_1 (aW k44_1.eq_1 (aW k44_2.eq_1 (aW k44_3.eq_1 (aW k44_4.eq_1 (aW k44_5.eq_1 (aW k44_6.eq_1 (aW k44_7.eq_1 (aW k44_8.eq_1 (aW k44_9.eq_1 (aW k44_10.eq_1 (aW k44_11.eq_1 (aW k44_12.eq_1 (aW k44_13.eq_1 (aW k44_14.eq_1 (aW k44_15.eq_1 (aW k44_16.eq_1 (oW k44_17.eq_1)))))))))))))))))
def k51_0 : ACode := .seq (.region [zL 22 5 3, W1 23 (.build [.int .i64 0, .int .u64 0, .int .i64 0] [(0, 1, (zI 1))]), zS 5 6 22, zS 3 7 23]) (.ret)
def k51_1 : ACode := .seq (.region [zL 28 5 3, zV 29 1, zL 30 6 5, W1 31 (.call 26 [(.t 28), (.t 29), (.t 30)]), zE 32 31 0, zE 33 31 1, zS 5 6 32, zS 3 7 33]) (.ret)
def k51_2 : ACode := .cond (.t 34) (.skip) (.region [W1 37 (.bin .eql (.t 25) (zI 4)), zV 34 37])
def k51_3 : ACode := .cond (.t 34) (.skip) (.seq (.region [W1 36 (.bin .eql (.t 25) (zI 3)), zV 34 36]) k51_2)
def k51_4 : ACode := .seq (.region [zL 38 5 3, zV 39 1, zL 40 6 5, W1 41 (.call 32 [(.t 38), (.t 39), (.t 40)]), zE 42 41 0, zE 43 41 1, zS 5 6 42, zS 3 7 43]) (.ret)
def k51_5 : ACode := .cond (.t 44) (.skip) (.region [W1 46 (.bin .eql (.t 25) (zI 6)), zV 44 46])
def k51_6 : ACode := .seq (.region [zL 47 5 3, zV 48 1, zL 49 6 5, W1 50 (.call 120 [(.t 47), (.t 48), (.t 49)]), zE 51 50 0, zE 52 50 1, zS 5 6 51, zS 3 7 52]) (.ret)
def k51_7 : ACode := .cond (.t 53) (.skip) (.region [W1 55 (.bin .eql (.t 25) (zI 8)), zV 53 55])
def k51_8 : ACode := .seq (.region [zL 56 5 3, zV 57 1, zL 58 6 5, W1 59 (.call 17 [(.t 56), (.t 57), (.t 58)]), zE 60 59 0, zE 61 59 1, zS 5 6 60, zS 3 7 61]) (.ret)
def k51_9 : ACode := .cond (.t 62) (.skip) (.region [W1 64 (.bin .eql (.t 25) (zI 10)), zV 62 64])
def k51_10 : ACode := .seq (.region [zL 65 5 3, zV 66 1, zL 67 6 5, W1 68 (.call 38 [(.t 65), (.t 66), (.t 67)]), zE 69 68 0, zE 70 68 1, zS 5 6 69, zS 3 7 70]) (.ret)
def k51_11 : ACode := .seq (.seq (.region [W1 63 (.bin .eql (.t 25) (zI 9)), zV 62 63]) k51_9) (.cond (.t 62) k51_10 (.skip))
def k51_12 : ACode := .seq (.seq (.region [W1 54 (.bin .eql (.t 25) (zI 7)), zV 53 54]) k51_7) (.cond (.t 53) k51_8 k51_11)
def k51_13 : ACode := .seq (.seq (.region [W1 45 (.bin .eql (.t 25) (zI 5)), zV 44 45]) k51_5) (.cond (.t 44) k51_6 k51_12)
def k51_14 : ACode := .seq (.seq (.region [W1 35 (.bin .eql (.t 25) (zI 2)), zV 34 35]) k51_3) (.cond (.t 34) k51_4 k51_13)
def k51_15 : ACode := .block 0 ( .seq (.region [W1 27 (.bin .eql (.t 25) (zI 1)), zV 26 27]) (.cond (.t 26) k51_1 k51_14))
def k51_16 : ACode := .seq (.region [zL 71 5 3, zV 72 1, zL 73 6 5, W1 74 (.call 44 [(.t 71), (.t 72), (.t 73)]), zE 75 74 0, zE 76 74 1, zS 5 6 75, zS 3 7 76]) (.ret)
def k51_17 : ACode := .seq (.seq (.region [zF 24 0 5, zM 25 24]) k51_15) k51_16
def k51_18 : ACode := .seq (.seq (.region [zL 8 5 3, W1 9 (.call 15 [(.t 8)]), zN 10 9, zV 11 10, W2 12 11 false (.ld (some 6) (.t 5)), W2 13 11 false (.call 50 [(.t 12)]), W2 14 11 false (.un .not (.t 13)), W1 15 (.pick (.t 11) (.c (.bool true)) (.t 14)), zV 16 15, W2 17 16 false (.ld (some 5) (.t 3)), zU 18 1 16 false, W2 19 16 false (.call 119 [(.t 17), (.t 18)]), W2 20 16 false (.un .not (.t 19)),
 W1 21 (.pick (.t 16) (.c (.bool true)) (.t 20))]) (.cond (.t 21) k51_0 (.skip))) k51_17
def c51 : ACode := .seq (.region [W1 3 (.box (.t 0)), W1 5 (.box (.t 2)), W1 6 (.new [.int .i64 0, .int .i64 0, .int .i64 0, .lit (.slice none 0 0), .lit (.slice none 0 0)]), W1 7 (.new [.int .i64 0, .int .u64 0, .int .i64 0])]) k51_18
theorem ok51 : fnOk Tryz.prog 51 c51 77 [.c 6 (some 5), .c 7 (some 3)] = true := by kernel_rfl
def w51 := aW k51_0.eq_1 (aW k51_1.eq_1 (aW k51_2.eq_1 (aW k51_3.eq_1 (aW k51_4.eq_1 (aW k51_5.eq_1 (aW k51_6.eq_1 (aW k51_7.eq_1 (aW k51_8.eq_1 (aW k51_9.eq_1 (aW k51_10.eq_1 (aW k51_11.eq_1 (aW k51_12.eq_1 (aW k51_13.eq_1 (aW k51_14.eq_1 (aW k51_15.eq_1 (aW k51_16.eq_1 (aW k51_17.eq_1 (oW k51_18.eq_1))))))))))))))))))
def k52_0 : ACode := .seq (.region [zL 19 5 3, W1 20 (.build [.int .i64 0, .int .u64 0, .int .i64 0] [(0, 1, (zI 1))]), zS 5 6 19, zS 3 7 20]) (.ret)
def k52_1 : ACode := .seq (.region [zL 24 5 3, W1 25 (.build [.int .i64 0, .int .u64 0, .int .i64 0] [(0, 1, (zI 2))]), zS 5 6 24, zS 3 7 25]) (.ret)
def k52_2 : ACode := .seq (.region [zV 22 9, zN 23 22, zV 21 23]) (.cond (.t 21) k52_1 (.skip))
def k52_3 : ACode := .seq (.region [zL 26 5 3, zV 27 1, zL 28 6 8, W1 29 (.call 51 [(.t 26), (.t 27), (.t 28)]), zE 30 29 0, zE 31 29 1, zS 5 6 30, zS 3 7 31]) (.ret)
def k52_4 : ACode := .seq (.block 0 ( .seq (.region [zL 16 5 3, W1 17 (.call 15 [(.t 16)]), zN 18 17, zV 15 18]) (.cond (.t 15) k52_0 k52_2))) k52_3
def k52_5 : ACode := .seq (.region [zV 11 2, W1 12 (.call 55 [(.t 11)]), zV 10 12, zE 13 10 0, zE 14 10 1, W1 8 (.new [.int .i64 0, .lit (.slice none 0 0), .lit (.slice none 0 0), .int .i64 0, .int .i64 0, .int .u64 0]), zS 6 8 13, zV 9 14]) k52_4
def c52 : ACode := .seq (.region [W1 3 (.box (.t 0)), W1 6 (.new [.int .i64 0, .int .i64 0, .int .i64 0, .lit (.slice none 0 0), .lit (.slice none 0 0)]), W1 7 (.new [.int .i64 0, .int .u64 0, .int .i64 0])]) k52_5
theorem ok52 : fnOk Tryz.prog 52 c52 32 [.c 6 (some 5), .c 7 (some 3)] = true := by kernel_rfl
def w52 := aW k52_0.eq_1 (aW k52_1.eq_1 (aW k52_2.eq_1 (aW k52_3.eq_1 (aW k52_4.eq_1 (oW k52_5.eq_1)))))
def k58_0 : ACode := .seq (.region [zV 3 0, W1 4 (.bin .eql (.t 3) (zI 12)), zV 5 4, zU 6 0 5 false, W2 7 5 false (.bin .eql (.t 6) (zI 13)), W1 8 (.pick (.t 5) (.c (.bool true)) (.t 7)), zV 2 8]) (.ret)
def c58 : ACode := .seq (.region [W1 2 (.mv (.c (.bool false)))]) k58_0
theorem ok58 : fnOk Tryz.prog 58 c58 9 [.t 2] = true := by kernel_rfl
def k81_0 : ACode := .seq (.region [zL 23 5 4, W1 24 (.build [.int .i64 0, .int .u64 0, .int .i64 0] [(0, 1, (zI 6))]), zS 5 8 23, zS 3 9 24]) (.ret)
def k81_1 : ACode := .seq (.region [zL 37 5 4, zV 38 13, W1 39 (.build [.int .i64 0, .int .u64 0, .int .i64 0] [(0, 1, (.t 38))]), zS 5 8 37, zS 3 9 39]) (.ret)
def k81_2 : ACode := .seq (.region [zL 44 5 4, W1 45 (.build [.int .i64 0, .int .u64 0, .int .i64 0] [(0, 1, (zI 7))]), zS 5 8 44, zS 3 9 45]) (.ret)
def k81_3 : ACode := .seq (.region [zF 41 0 12, zM 42 41, W1 43 (.bin .eql (.t 42) (zI 1)), zV 40 43]) (.cond (.t 40) k81_2 (.skip))
def k81_4 : ACode := .seq (.block 0 ( .seq (.region [zV 35 13, W1 36 (.bin .neq (.t 35) (zI 0)), zV 34 36]) (.cond (.t 34) k81_1 k81_3))) (.region [zV 46 11, W1 47 (.bin .add (.t 46) (zI 1)), zV 10 47])
def k81_5 : ACode := .seq (.region [zL 26 5 4, zV 27 1, zF 28 2 6, zL 29 1 28, W1 30 (.call 65 [(.t 26), (.t 27), (.t 29)]), zV 25 30, zE 31 25 0, zE 32 25 1, zE 33 25 2, W1 12 (.new [.int .i64 0, .int .i64 0, .int .i64 0, .int .i64 0]), zV 11 31, zS 4 12 32, zV 13 33]) k81_4
def k81_6 : ACode := .seq (.seq (.region [zF 19 2 7, zM 20 19, W1 21 (.call 80 [(zI 4), (.t 20)]), zN 22 21]) (.cond (.t 22) k81_0 (.skip))) k81_5
def k81_7 : ACode := .seq (.region [zL 55 5 4, W1 56 (.build [.int .i64 0, .int .u64 0, .int .i64 0] [(0, 1, (zI 13))]), zS 5 8 55, zS 3 9 56]) (.ret)
def k81_8 : ACode := .seq (.region [zL 70 5 4, W1 71 (.build [.int .i64 0, .int .u64 0, .int .i64 0] []), zS 5 8 70, zS 3 9 71]) (.ret)
def k81_9 : ACode := .seq (.region [zF 59 4 4, zM 60 59, zF 61 1 7, zM 62 61, zF 63 5 6, zM 64 63, zF 65 3 7, zM 66 65, zV 67 10, W1 68 (.build [.int .i64 0, .int .i64 0, .int .i64 0, .int .i64 0, .int .i64 0, .int .i64 0, .int .i64 0, .bool false, .int .u64 0, .int .u64 0, .int .u64 0, .int .u64 0, .int .u64 0] [(0, 1, (zI 3)), (7, 1, (.c (.bool true))), (8, 1, (.t 64)), (6, 1, (.t 66)), (5, 1, (.t 67))]), W1 69 (.ixs 13 (.t 60) (.t 62)),
 zS 13 69 68]) k81_8
def k81_10 : ACode := .seq (.region [zL 57 5 4, W1 58 (.call 16 [(.t 57)]), zS 5 4 58]) k81_9
def k81_11 : ACode := .seq (.seq (.region [zF 48 4 4, zM 49 48, zF 50 1 7, zM 51 50, W1 52 (.ixs 13 (.t 49) (.t 51)), zF 53 7 52, zM 54 53]) (.cond (.t 54) k81_7 (.skip))) k81_10
def k81_12 : ACode := .seq (.seq (.region [zF 14 2 6, zF 15 0 14, zM 16 15, W1 17 (.len false (.t 16)), W1 18 (.bin .gtr (.t 17) (zI 0))]) (.cond (.t 18) k81_6 (.skip))) k81_11
def c81 : ACode := .seq (.region [W1 4 (.box (.t 0)), W1 6 (.box (.t 2)), W1 7 (.box (.t 3)), W1 8 (.new [.int .i64 0, .int .i64 0, .int .i64 0, .lit (.slice none 0 0), .lit (.slice none 0 0)]), W1 9 (.new [.int .i64 0, .int .u64 0, .int .i64 0])]) (.seq (.region [W1 10 (.mv (zI 0))]) k81_12)
theorem ok81 : fnOk Tryz.prog 81 c81 72 [.c 8 (some 5), .c 9 (some 3)] = true := by kernel_rfl
def w81 := aW k81_0.eq_1 (aW k81_1.eq_1 (aW k81_2.eq_1 (aW k81_3.eq_1 (aW k81_4.eq_1 (aW k81_5.eq_1 (aW k81_6.eq_1 (aW k81_7.eq_1 (aW k81_8.eq_1 (aW k81_9.eq_1 (aW k81_10.eq_1 (aW k81_11.eq_1 (oW k81_12.eq_1))))))))))))
def k82_0 : ACode := .seq (.region [zL 23 5 4, W1 24 (.build [.int .i64 0, .int .u64 0, .int .i64 0] [(0, 1, (zI 14))]), zS 5 8 23, zS 3 9 24]) (.ret)
def k82_1 : ACode := .seq (.region [zL 47 5 4, zV 48 13, W1 49 (.build [.int .i64 0, .int .u64 0, .int .i64 0] [(0, 1, (.t 48))]), zS 5 8 47, zS 3 9 49]) (.ret)
def k82_2 : ACode := .seq (.region [zL 69 5 4, zV 70 13, W1 71 (.build [.int .i64 0, .int .u64 0, .int .i64 0] [(0, 1, (.t 70))]), zS 5 8 69, zS 3 9 71]) (.ret)
def k82_3 : ACode := .seq (.region [zV 67 13, W1 68 (.bin .neq (.t 67) (zI 0))]) (.cond (.t 68) k82_2 (.skip))
def k82_4 : ACode := .seq (.drawn [(0, zL 51 5 4), (1, zF 52 5 10), (2, zM 53 52), (5, zF 56 3 4), (6, zM 57 56), (7, zF 58 5 10), (8, zM 59 58), (9, W1 60 (.bin .sub (.t 59) (zI 1))), (10, W1 61 (.ixs 5 (.t 57) (.t 60))), (11, zF 62 0 61), (12, zL 63 4 62), (3, W1 54 (.bin .sub (.t 53) (zI 1))), (4, zV 55 12), (13, W1 64 (.call 149 [(.t 51), (.t 54), (.t 55), (.t 63)])), (14, zV 50 64), (15, zE 65 50 0),
 (17, zS 5 11 65), (16, zE 66 50 1), (18, zV 13 66)] [[], [], [1], [2], [], [], [5], [], [7], [8], [6, 9], [10], [11], [0, 3, 4, 12], [13], [14], [14], [15, 13, 0, 1, 2, 3, 4, 5, 6, 7, 8, 9, 10, 11, 12, 13, 14, 15], [16, 17, 0, 1, 2, 3, 4, 5, 6, 7, 8, 9, 10, 11, 12, 13, 14, 15, 16, 17]] 0) k82_3
def k82_5 : ACode := .seq (.seq (.region [zV 45 13, W1 46 (.bin .neq (.t 45) (zI 0))]) (.cond (.t 46) k82_1 (.skip))) k82_4
def k82_6 : ACode := .seq (.region [zL 38 5 4, zV 39 1, zF 40 2 6, zL 41 1 40, W1 42 (.call 148 [(.t 38), (.t 39), (.t 41)]), zV 37 42, zE 43 37 0, zE 44 37 1, zV 12 43, zV 13 44]) k82_5
def k82_7 : ACode := .seq (.drawn [(0, zL 78 5 11), (1, zF 79 8 10), (2, zM 80 79), (3, zF 81 6 10), (4, zM 82 81), (6, zS 5 8 78), (5, W1 83 (.build [.int .i64 0, .int .u64 0, .int .i64 0] [(1, 1, (.t 80)), (2, 1, (.t 82))])), (7, zS 3 9 83)] [[], [], [1], [], [3], [2, 4], [0, 0], [5, 6, 0, 1, 2, 3, 4, 5, 6]] 0) (.ret)
def k82_8 : ACode := .seq (.region [zF 72 4 11, zM 73 72, zF 74 1 7, zM 75 74, W1 76 (.build [.int .i64 0, .int .i64 0, .int .i64 0, .int .i64 0, .int .i64 0, .int .i64 0, .int .i64 0, .bool false, .int .u64 0, .int .u64 0, .int .u64 0, .int .u64 0, .int .u64 0] [(0, 1, (zI 3))]), W1 77 (.ixs 13 (.t 73) (.t 75)), zS 13 77 76]) k82_7
def k82_9 : ACode := .seq (.seq (.region [zF 27 2 6, zF 28 0 27, zM 29 28, W1 30 (.len false (.t 29)), W1 31 (.bin .gtr (.t 30) (zI 0)), zV 32 31, W2 33 32 true (.fld 5 (.t 10)), W2 34 32 true (.ld none (.t 33)), W2 35 32 true (.bin .gtr (.t 34) (zI 0)), W1 36 (.pick (.t 32) (.t 35) (.c (.bool false)))]) (.cond (.t 36) k82_6 (.skip))) k82_8
def k82_10 : ACode := .seq (.region [zL 25 5 4, W1 26 (.call 16 [(.t 25)]), W1 11 (.new [.int .i64 0, .int .i64 0, .int .i64 0, .lit (.slice none 0 0), .lit (.slice none 0 0)]), zS 5 11 26]) k82_9
def k82_11 : ACode := .seq (.seq (.region [zF 20 7 10, zM 21 20, zN 22 21]) (.cond (.t 22) k82_0 (.skip))) k82_10
def k82_12 : ACode := .seq (.region [zF 14 4 4, zM 15 14, zF 16 1 7, zM 17 16, W1 18 (.ixs 13 (.t 15) (.t 17)), zL 19 13 18, W1 10 (.new [.int .i64 0, .int .i64 0, .int .i64 0, .int .i64 0, .int .i64 0, .int .i64 0, .int .i64 0, .bool false, .int .u64 0, .int .u64 0, .int .u64 0, .int .u64 0, .int .u64 0]), zS 13 10 19]) k82_11
def c82 : ACode := .seq (.region [W1 4 (.box (.t 0)), W1 6 (.box (.t 2)), W1 7 (.box (.t 3)), W1 8 (.new [.int .i64 0, .int .i64 0, .int .i64 0, .lit (.slice none 0 0), .lit (.slice none 0 0)]), W1 9 (.new [.int .i64 0, .int .u64 0, .int .i64 0])]) k82_12
theorem ok82 : fnOk Tryz.prog 82 c82 84 [.c 8 (some 5), .c 9 (some 3)] = true := by kernel_rfl
def w82 := aW k82_0.eq_1 (aW k82_1.eq_1 (aW k82_2.eq_1 (aW k82_3.eq_1 (aW k82_4.eq_1 (aW k82_5.eq_1 (aW k82_6.eq_1 (aW k82_7.eq_1 (aW k82_8.eq_1 (aW k82_9.eq_1 (aW k82_10.eq_1 (aW k82_11.eq_1 (oW k82_12.eq_1))))))))))))
def k100_0 : ACode := .seq (.region [zL 26 5 3, zS 5 6 26, W1 7 (.mv (zI 0)), W1 8 (.mv (zI 1))]) (.ret)
def k100_1 : ACode := .seq (.region [zL 39 5 3, zV 40 11, zS 5 6 39, W1 7 (.mv (zI 0)), zV 8 40]) (.ret)
def k100_2 : ACode := .seq (.region [zL 45 5 3, zS 5 6 45, W1 7 (.mv (zI 0)), W1 8 (.mv (zI 7))]) (.ret)
def k100_3 : ACode := .seq (.region [zL 51 5 3, zS 5 6 51, W1 7 (.mv (zI 0)), W1 8 (.mv (zI 6))]) (.ret)
def k100_4 : ACode := .seq (.region [zF 47 2 10, zM 48 47, W1 49 (.call 80 [(zI 2), (.t 48)]), zN 50 49, zV 46 50]) (.cond (.t 46) k100_3 (.skip))
def k100_5 : ACode := .seq (.region [zF 42 0 10, zM 43 42, W1 44 (.bin .neq (.t 43) (zI 1)), zV 41 44]) (.cond (.t 41) k100_2 k100_4)
def k100_6 : ACode := .seq (.region [zL 62 5 3, zV 63 11, zS 5 6 62, W1 7 (.mv (zI 0)), zV 8 63]) (.ret)
def k100_7 : ACode := .seq (.region [zL 74 5 3, zS 5 6 74, W1 7 (.mv (zI 0)), W1 8 (.mv (zI 1))]) (.ret)
def k100_8 : ACode := .region [zL 86 5 3, zF 87 4 5, zM 88 87, W1 89 (.call 180 [(.t 86), (.t 88)]), zV 85 89, zE 90 85 0, zE 91 85 1, zV 17 90, zV 14 91]
def k100_9 : ACode := .seq (.region [zL 109 5 3, zS 5 6 109, W1 7 (.mv (zI 0)), W1 8 (.mv (zI 8))]) (.ret)
def k100_10 : ACode := .seq (.region [zL 142 5 3, zV 143 16, zS 5 6 142, zV 7 143, W1 8 (.mv (zI 0))]) (.ret)
def k100_11 : ACode := .seq (.region [zF 132 3 3, zM 133 132, zV 134 12, zF 135 3 5, zM 136 135, zV 137 16, W1 138 (.build [.int .i64 0, .int .i64 0, .int .i64 0, .int .i64 0] [(0, 1, (.t 136)), (1, 1, (.t 137)), (2, 1, (zI 7))]), zV 139 9, W1 140 (.build [.int .i64 0, .int .i64 0, .int .i64 0, .int .i64 0, .int .i64 0] [(0, 4, (.t 138)), (4, 1, (.t 139))]), W1 141 (.ixs 5 (.t 133) (.t 134)), zS 5 141 140]) k100_10
def k100_12 : ACode := .seq (.region [zF 125 4 3, zM 126 125, zF 127 1 10, zM 128 127, zV 129 15, W1 130 (.ixs 13 (.t 126) (.t 128)), zF 131 4 130, zS 1 131 129]) k100_11
def k100_13 : ACode := .seq (.drawn [(0, zF 113 4 3), (1, zM 114 113), (3, zF 116 3 5), (4, zM 117 116), (5, zF 118 4 5), (6, zM 119 118), (7, zV 120 17), (8, W1 121 (.call 128 [(.t 117), (.t 119), (.t 120)])), (2, zV 115 16), (9, zV 112 121), (10, zE 122 112 0), (12, W1 124 (.ixs 13 (.t 114) (.t 115))), (13, zS 13 124 122), (11, zE 123 112 1)]
 [[], [0], [], [], [3], [], [5], [], [4, 6, 7], [8], [9], [9], [1, 2, 0, 1, 2, 3, 4, 5, 6, 7, 8, 9, 10], [12, 10, 8, 0, 1, 2, 3, 4, 5, 6, 7, 8, 9, 10]] 0) k100_12
def k100_14 : ACode := .seq (.region [zL 110 5 3, W1 111 (.call 16 [(.t 110)]), zS 5 3 111]) k100_13
def k100_15 : ACode := .seq (.seq (.region [zV 92 15, zF 93 4 3, zM 94 93, zF 95 1 10, zM 96 95, W1 97 (.ixs 13 (.t 94) (.t 96)), zF 98 3 97, zM 99 98, W1 100 (.bin .gtr (.t 92) (.t 99)), zV 101 100, zU 102 14 101 false, W2 103 101 false (.un .not (.t 102)), W1 104 (.pick (.t 101) (.c (.bool true)) (.t 103)), zV 105 104, zU 106 16 105 false,
 W2 107 105 false (.bin .lss (.t 106) (zI 0)), W1 108 (.pick (.t 105) (.c (.bool true)) (.t 107))]) (.cond (.t 108) k100_9 (.skip))) k100_14
def k100_16 : ACode := .seq (.seq (.region [zF 82 3 5, zM 83 82, W1 84 (.bin .eql (.t 83) (zI 2))]) (.cond (.t 84) k100_8 (.skip))) k100_15
def k100_17 : ACode := .seq (.region [zL 80 5 3, W1 81 (.call 179 [(.t 80)]), zV 16 81]) (.seq (.region [W1 17 (.mv (zI 0))]) k100_16)
def k100_18 : ACode := .seq (.region [zL 75 5 3, zV 76 9, W1 77 (.call 178 [(.t 75), (.t 76)]), zV 78 13, W1 79 (.bin .add (.t 77) (.t 78)), zV 15 79]) k100_17
def k100_19 : ACode := .seq (.seq (.region [zV 72 14, zN 73 72]) (.cond (.t 73) k100_7 (.skip))) k100_18
def k100_20 : ACode := .seq (.region [zF 65 3 5, zM 66 65, zF 67 4 5, zM 68 67, W1 69 (.call 177 [(.t 66), (.t 68)]), zV 64 69, zE 70 64 0, zE 71 64 1, zV 13 70, zV 14 71]) k100_19
def k100_21 : ACode := .seq (.seq (.region [zV 60 11, W1 61 (.bin .neq (.t 60) (zI 0))]) (.cond (.t 61) k100_6 (.skip))) k100_20
def k100_22 : ACode := .seq (.region [zL 53 5 3, zV 54 1, zF 55 2 5, zL 56 1 55, W1 57 (.call 148 [(.t 53), (.t 54), (.t 56)]), zV 52 57, zE 58 52 0, zE 59 52 1, zV 12 58, zV 11 59]) k100_21
def k100_23 : ACode := .seq (.block 0 ( .seq (.region [zV 37 11, W1 38 (.bin .neq (.t 37) (zI 0)), zV 36 38]) (.cond (.t 36) k100_1 k100_5))) k100_22
def k100_24 : ACode := .seq (.region [zL 28 5 3, zV 29 1, zF 30 1 5, zL 31 1 30, W1 32 (.call 65 [(.t 28), (.t 29), (.t 31)]), zV 27 32, zE 33 27 0, zE 34 27 1, zE 35 27 2, W1 10 (.new [.int .i64 0, .int .i64 0, .int .i64 0, .int .i64 0]), zV 9 33, zS 4 10 34, zV 11 35]) k100_23
def k100_25 : ACode := .seq (.seq (.region [zL 18 6 5, W1 19 (.call 50 [(.t 18)]), zN 20 19, zV 21 20, W2 22 21 false (.fld 0 (.t 5)), W2 23 21 false (.ld none (.t 22)), W2 24 21 false (.bin .neq (.t 23) (zI 1)), W1 25 (.pick (.t 21) (.c (.bool true)) (.t 24))]) (.cond (.t 25) k100_0 (.skip))) k100_24
def c100 : ACode := .seq (.region [W1 3 (.box (.t 0)), W1 5 (.box (.t 2)), W1 6 (.new [.int .i64 0, .int .i64 0, .int .i64 0, .lit (.slice none 0 0), .lit (.slice none 0 0)]), W1 7 (.mv (zI 0)), W1 8 (.mv (zI 0))]) k100_25
theorem ok100 : fnOk Tryz.prog 100 c100 144 [.c 6 (some 5), .t 7, .t 8] = true := by kernel_rfl
def w100 := aW k100_0.eq_1 (aW k100_1.eq_1 (aW k100_2.eq_1 (aW k100_3.eq_1 (aW k100_4.eq_1 (aW k100_5.eq_1 (aW k100_6.eq_1 (aW k100_7.eq_1 (aW k100_8.eq_1 (aW k100_9.eq_1 (aW k100_10.eq_1 (aW k100_11.eq_1 (aW k100_12.eq_1 (aW k100_13.eq_1 (aW k100_14.eq_1 (aW k100_15.eq_1 (aW k100_16.eq_1 (aW k100_17.eq_1 (aW k100_18.eq_1 (aW k100_19.eq_1 (aW k100_20.eq_1 (aW k100_21.eq_1 (aW k100_22.eq_1 (aW k100_23.eq_1 (aW k100_24.eq_1 (oW k100_25.eq_1)))))))))))))))))))))))))
def k104_0 : ACode := .seq (.region [zL 30 5 3, zS 5 6 30, W1 7 (.mv (zI 1))]) (.ret)
def k104_1 : ACode := .seq (.region [zL 42 5 3, zV 43 10, zS 5 6 42, zV 7 43]) (.ret)
def k104_2 : ACode := .region [zL 47 4 9, zF 48 3 5, zM 49 48, W1 50 (.call 181 [(.t 47), (.t 49)]), zS 4 9 50]
def k104_3 : ACode := .seq (.region [zL 63 5 3, zV 64 10, zS 5 6 63, zV 7 64]) (.ret)
def k104_4 : ACode := .seq (.region [zV 61 10, W1 62 (.bin .neq (.t 61) (zI 0))]) (.cond (.t 62) k104_3 (.skip))
def k104_5 : ACode := .seq (.region [zL 55 4 9, zF 56 4 5, zM 57 56, W1 58 (.call 182 [(.t 55), (.t 57)]), zV 54 58, zE 59 54 0, zE 60 54 1, zS 4 9 59, zV 10 60]) k104_4
def k104_6 : ACode := .seq (.region [zL 75 5 3, zV 76 10, zS 5 6 75, zV 7 76]) (.ret)
def k104_7 : ACode := .seq (.region [zL 80 5 3, zV 81 8, zV 82 11, zL 83 4 9, W1 84 (.call 149 [(.t 80), (.t 81), (.t 82), (.t 83)]), zE 85 84 0, zE 86 84 1, zS 5 6 85, zV 7 86]) (.ret)
def k104_8 : ACode := .seq (.region [zL 91 5 3, zS 5 6 91, W1 7 (.mv (zI 1))]) (.ret)
def k104_9 : ACode := .seq (.region [zL 92 5 3, zV 93 8, zV 94 11, W1 95 (.call 184 [(.t 92), (.t 93), (.t 94)]), zS 5 6 95, W1 7 (.mv (zI 0))]) (.ret)
def k104_10 : ACode := .seq (.seq (.region [zL 87 5 3, zL 88 4 9, zV 89 11, W1 90 (.call 183 [(.t 87), (.t 88), (.t 89)])]) (.cond (.t 90) k104_8 (.skip))) k104_9
def k104_11 : ACode := .seq (.seq (.region [zF 77 0 5, zM 78 77, W1 79 (.bin .neq (.t 78) (zI 4))]) (.cond (.t 79) k104_7 (.skip))) k104_10
def k104_12 : ACode := .seq (.seq (.region [zV 73 10, W1 74 (.bin .neq (.t 73) (zI 0))]) (.cond (.t 74) k104_6 (.skip))) k104_11
def k104_13 : ACode := .seq (.region [zL 66 5 3, zV 67 1, zF 68 2 5, zL 69 1 68, W1 70 (.call 148 [(.t 66), (.t 67), (.t 69)]), zV 65 70, zE 71 65 0, zE 72 65 1, zV 11 71, zV 10 72]) k104_12
def k104_14 : ACode := .seq (.seq (.region [zF 51 0 5, zM 52 51, W1 53 (.bin .eql (.t 52) (zI 3))]) (.cond (.t 53) k104_5 (.skip))) k104_13
def k104_15 : ACode := .seq (.seq (.region [zF 44 0 5, zM 45 44, W1 46 (.bin .neq (.t 45) (zI 4))]) (.cond (.t 46) k104_2 (.skip))) k104_14
def k104_16 : ACode := .seq (.seq (.region [zV 40 10, W1 41 (.bin .neq (.t 40) (zI 0))]) (.cond (.t 41) k104_1 (.skip))) k104_15
def k104_17 : ACode := .seq (.region [zL 32 5 3, zV 33 1, zF 34 1 5, zL 35 1 34, W1 36 (.call 65 [(.t 32), (.t 33), (.t 35)]), zV 31 36, zE 37 31 0, zE 38 31 1, zE 39 31 2, W1 9 (.new [.int .i64 0, .int .i64 0, .int .i64 0, .int .i64 0]), zV 8 37, zS 4 9 38, zV 10 39]) k104_16
def k104_18 : ACode := .seq (.seq (.region [zL 12 6 5, W1 13 (.call 50 [(.t 12)]), zN 14 13, zV 15 14, W2 16 15 false (.fld 0 (.t 5)), W2 17 15 false (.ld none (.t 16)), W2 18 15 false (.bin .neq (.t 17) (zI 2)), zU 19 18 15 false, W2 20 19 true (.fld 0 (.t 5)), W2 21 19 true (.ld none (.t 20)), W2 22 19 true (.bin .neq (.t 21) (zI 3)),
 W2 23 15 false (.pick (.t 19) (.t 22) (.c (.bool false))), zU 24 23 15 false, W2 25 24 true (.fld 0 (.t 5)), W2 26 24 true (.ld none (.t 25)), W2 27 24 true (.bin .neq (.t 26) (zI 4)), W2 28 15 false (.pick (.t 24) (.t 27) (.c (.bool false))), W1 29 (.pick (.t 15) (.c (.bool true)) (.t 28))]) (.cond (.t 29) k104_0 (.skip))) k104_17
def c104 : ACode := .seq (.region [W1 3 (.box (.t 0)), W1 5 (.box (.t 2)), W1 6 (.new [.int .i64 0, .int .i64 0, .int .i64 0, .lit (.slice none 0 0), .lit (.slice none 0 0)]), W1 7 (.mv (zI 0))]) k104_18
theorem ok104 : fnOk Tryz.prog 104 c104 96 [.c 6 (some 5), .t 7] = true := by kernel_rfl
def w104 := aW k104_0.eq_1 (aW k104_1.eq_1 (aW k104_2.eq_1 (aW k104_3.eq_1 (aW k104_4.eq_1 (aW k104_5.eq_1 (aW k104_6.eq_1 (aW k104_7.eq_1 (aW k104_8.eq_1 (aW k104_9.eq_1 (aW k104_10.eq_1 (aW k104_11.eq_1 (aW k104_12.eq_1 (aW k104_13.eq_1 (aW k104_14.eq_1 (aW k104_15.eq_1 (aW k104_16.eq_1 (aW k104_17.eq_1 (oW k104_18.eq_1))))))))))))))))))
def k119_0 : ACode := .seq (.region [zV 5 1, W1 6 (.bin .geq (.t 5) (zI 0)), zV 7 6, zU 8 1 7 true, W2 9 7 true (.fld 0 (.t 2)), W2 10 7 true (.fld 0 (.t 9)), W2 11 7 true (.ld none (.t 10)), W2 12 7 true (.bin .lss (.t 8) (.t 11)), W1 13 (.pick (.t 7) (.t 12) (.c (.bool false))), zV 4 13]) (.ret)
def c119 : ACode := .seq (.region [W1 2 (.box (.t 0)), W1 4 (.mv (.c (.bool false)))]) k119_0
theorem ok119 : fnOk Tryz.prog 119 c119 14 [.t 4] = true := by kernel_rfl
def k120_0 : ACode := .seq (.region [zL 26 5 3, W1 27 (.build [.int .i64 0, .int .u64 0, .int .i64 0] [(0, 1, (zI 1))]), zS 5 6 26, zS 3 7 27]) (.ret)
def k120_1 : ACode := .seq (.region [zL 39 5 3, zV 40 10, W1 41 (.build [.int .i64 0, .int .u64 0, .int .i64 0] [(0, 1, (.t 40))]), zS 5 6 39, zS 3 7 41]) (.ret)
def k120_2 : ACode := .region [zL 47 5 3, W1 48 (.call 76 [(.t 47)]), zV 49 8, W1 50 (.call 196 [(.t 48), (.t 49)]), zV 11 50]
def k120_3 : ACode := .seq (.region [zL 57 5 3, zV 58 12, W1 59 (.build [.int .i64 0, .int .u64 0, .int .i64 0] [(2, 1, (.t 58))]), zS 5 6 57, zS 3 7 59]) (.ret)
def k120_4 : ACode := .seq (.region [zL 52 5 3, zV 53 11, W1 54 (.call 197 [(.t 52), (.t 53)]), zV 51 54, zE 55 51 0, zE 56 51 1, zS 5 3 55, zV 12 56]) k120_3
def k120_5 : ACode := .seq (.seq (.region [zF 44 0 5, zM 45 44, W1 46 (.bin .eql (.t 45) (zI 6))]) (.cond (.t 46) k120_2 (.skip))) k120_4
def k120_6 : ACode := .seq (.region [zV 42 8, W1 43 (.bsl 1 1 [.int .i64 0] [(0, (.t 42))]), zV 11 43]) k120_5
def k120_7 : ACode := .seq (.seq (.region [zV 37 10, W1 38 (.bin .neq (.t 37) (zI 0))]) (.cond (.t 38) k120_1 (.skip))) k120_6
def k120_8 : ACode := .seq (.region [zL 29 5 3, zV 30 1, zF 31 1 5, zL 32 1 31, W1 33 (.call 65 [(.t 29), (.t 30), (.t 32)]), zV 28 33, zE 34 28 0, zE 35 28 1, zE 36 28 2, W1 9 (.new [.int .i64 0, .int .i64 0, .int .i64 0, .int .i64 0]), zV 8 34, zS 4 9 35, zV 10 36]) k120_7
def k120_9 : ACode := .seq (.seq (.region [zL 13 6 5, W1 14 (.call 50 [(.t 13)]), zN 15 14, zV 16 15, W2 17 16 false (.fld 0 (.t 5)), W2 18 16 false (.ld none (.t 17)), W2 19 16 false (.bin .neq (.t 18) (zI 5)), zU 20 19 16 false, W2 21 20 true (.fld 0 (.t 5)), W2 22 20 true (.ld none (.t 21)), W2 23 20 true (.bin .neq (.t 22) (zI 6)),
 W2 24 16 false (.pick (.t 20) (.t 23) (.c (.bool false))), W1 25 (.pick (.t 16) (.c (.bool true)) (.t 24))]) (.cond (.t 25) k120_0 (.skip))) k120_8
def c120 : ACode := .seq (.region [W1 3 (.box (.t 0)), W1 5 (.box (.t 2)), W1 6 (.new [.int .i64 0, .int .i64 0, .int .i64 0, .lit (.slice none 0 0), .lit (.slice none 0 0)]), W1 7 (.new [.int .i64 0, .int .u64 0, .int .i64 0])]) k120_9
theorem ok120 : fnOk Tryz.prog 120 c120 60 [.c 6 (some 5), .c 7 (some 3)] = true := by kernel_rfl
def w120 := aW k120_0.eq_1 (aW k120_1.eq_1 (aW k120_2.eq_1 (aW k120_3.eq_1 (aW k120_4.eq_1 (aW k120_5.eq_1 (aW k120_6.eq_1 (aW k120_7.eq_1 (aW k120_8.eq_1 (oW k120_9.eq_1)))))))))
def k149_0 : ACode := .region [zL 43 5 4, zV 44 2, W1 45 (.call 215 [(.t 43), (.t 44)]), W1 46 (.bin .lss (.t 45) (zI 0)), zV 14 46]
def k149_1 : ACode := .seq (.region [zV 18 1, W1 19 (.bin .lss (.t 18) (zI 0)), zV 20 19, zU 21 1 20 false, zU 22 10 20 false, W2 23 20 false (.bin .geq (.t 21) (.t 22)), W1 24 (.pick (.t 20) (.c (.bool true)) (.t 23)), zV 25 24, zU 26 2 25 false, W2 27 25 false (.bin .lss (.t 26) (zI 0)), W1 28 (.pick (.t 25) (.c (.bool true)) (.t 27)), zV 29 28, zU 30 2 29 false,
 zU 31 10 29 false, W2 32 29 false (.bin .geq (.t 30) (.t 31)), W1 33 (.pick (.t 29) (.c (.bool true)) (.t 32)), zV 34 33, W2 35 34 false (.ld (some 4) (.t 7)), W2 36 34 false (.call 141 [(.t 35)]), W2 37 34 false (.un .not (.t 36)), W1 38 (.pick (.t 34) (.c (.bool true)) (.t 37)), zV 39 38, W2 40 39 false (.ld (some 4) (.t 7)), W2 41 39 false (.call 59 [(.t 40)]), W1 42 (.pick (.t 39) (.c (.bool true)) (.t 41)), zV 14 42]) (.cond (.t 14)
 (.skip) k149_0)
def k149_2 : ACode := .seq (.region [zL 47 5 4, zS 5 8 47, W1 9 (.mv (zI 1))]) (.ret)
def k149_3 : ACode := .seq (.region [zL 56 5 4, zS 5 8 56, W1 9 (.mv (zI 4))]) (.ret)
def k149_4 : ACode := .seq (.region [zL 66 5 4, zS 5 8 66, W1 9 (.mv (zI 5))]) (.ret)
def k149_5 : ACode := .seq (.region [zL 76 5 4, zS 5 8 76, W1 9 (.mv (zI 7))]) (.ret)
def k149_6 : ACode := .region [zL 87 5 4, zL 88 4 7, zV 89 2, W1 90 (.call 183 [(.t 87), (.t 88), (.t 89)]), zV 77 90]
def k149_7 : ACode := .seq (.region [zL 91 5 4, zS 5 8 91, W1 9 (.mv (zI 1))]) (.ret)
def k149_8 : ACode := .seq (.seq (.drawn [(0, zL 78 4 7), (1, zF 79 3 4), (2, zM 80 79), (3, zV 81 1), (4, W1 82 (.ixs 5 (.t 80) (.t 81))), (5, zF 83 0 82), (6, zL 84 4 83), (7, W1 85 (.call 67 [(.t 78), (.t 84)])), (8, zN 86 85), (9, zV 77 86)] [[], [], [1], [], [2, 3], [4], [5], [0, 6], [7], [8, 7]] 0) (.cond (.t 77) (.skip) k149_6)) (.cond (.t 77) k149_7 (.skip))
def k149_9 : ACode := .seq (.region [zF 68 3 4, zM 69 68, zV 70 1, W1 71 (.ixs 5 (.t 69) (.t 70)), zF 72 0 71, zF 73 0 72, zM 74 73, W1 75 (.bin .eql (.t 74) (zI 1)), zV 67 75]) (.cond (.t 67) k149_5 k149_8)
def k149_10 : ACode := .seq (.region [zF 58 3 4, zM 59 58, zV 60 2, W1 61 (.ixs 5 (.t 59) (.t 60)), zF 62 0 61, zL 63 4 62, W1 64 (.call 59 [(.t 63)]), zN 65 64, zV 57 65]) (.cond (.t 57) k149_4 k149_9)
def k149_11 : ACode := .seq (.region [zF 49 3 4, zM 50 49, zV 51 1, W1 52 (.ixs 5 (.t 50) (.t 51)), zF 53 0 52, zL 54 4 53, W1 55 (.call 59 [(.t 54)]), zV 48 55]) (.cond (.t 48) k149_3 k149_10)
def k149_12 : ACode := .seq (.region [zL 101 5 4, zS 5 8 101, W1 9 (.mv (zI 0))]) (.ret)
def k149_13 : ACode := .seq (.region [zF 94 3 4, zM 95 94, zV 96 2, zL 97 4 7, zV 98 1, W1 99 (.build [.int .i64 0, .int .i64 0, .int .i64 0, .int .i64 0, .int .i64 0] [(0, 4, (.t 97)), (4, 1, (.t 98))]), W1 100 (.ixs 5 (.t 95) (.t 96)), zS 5 100 99]) k149_12
def k149_14 : ACode := .seq (.region [zL 92 5 4, W1 93 (.call 16 [(.t 92)]), zS 5 4 93]) k149_13
def k149_15 : ACode := .seq (.block 0 ( .seq (.seq (.region [zL 15 5 4, W1 16 (.call 15 [(.t 15)]), zN 17 16, zV 14 17]) (.cond (.t 14) (.skip) k149_1)) (.cond (.t 14) k149_2 k149_11))) k149_14
def k149_16 : ACode := .seq (.region [zF 11 3 4, zM 12 11, W1 13 (.len false (.t 12)), zV 10 13]) k149_15
def c149 : ACode := .seq (.region [W1 4 (.box (.t 0)), W1 7 (.box (.t 3)), W1 8 (.new [.int .i64 0, .int .i64 0, .int .i64 0, .lit (.slice none 0 0), .lit (.slice none 0 0)]), W1 9 (.mv (zI 0))]) k149_16
theorem ok149 : fnOk Tryz.prog 149 c149 102 [.c 8 (some 5), .t 9] = true := by kernel_rfl
def w149 := aW k149_0.eq_1 (aW k149_1.eq_1 (aW k149_2.eq_1 (aW k149_3.eq_1 (aW k149_4.eq_1 (aW k149_5.eq_1 (aW k149_6.eq_1 (aW k149_7.eq_1 (aW k149_8.eq_1 (aW k149_9.eq_1 (aW k149_10.eq_1 (aW k149_11.eq_1 (aW k149_12.eq_1 (aW k149_13.eq_1 (aW k149_14.eq_1 (aW k149_15.eq_1 (oW k149_16.eq_1))))))))))))))))
def k178_0 : ACode := .cond (.t 28) (.seq (.region [W1 4 (.mv (zI 0))]) (.ret)) (.skip)
def k178_1 : ACode := .cond (.t 34) (.seq (.region [W1 4 (.mv (zI 0))]) (.ret)) (.skip)
def k178_2 : ACode := .seq (.drawn [(0, zF 35 4 2), (1, zM 36 35), (2, zF 37 3 2), (3, zM 38 37), (4, zV 39 1), (5, W1 40 (.ixs 5 (.t 38) (.t 39))), (6, zF 41 0 40), (7, zF 42 1 41), (8, zM 43 42), (9, W1 44 (.ixs 13 (.t 36) (.t 43))), (10, zF 45 4 44), (11, zM 46 45), (12, zV 4 46)] [[], [0], [], [2], [], [3, 4], [5], [6], [7], [1, 8], [9], [10], [11, 0, 1, 2, 3, 4, 5, 6, 7, 8, 9, 10, 11]] 0) (.ret)
def k178_3 : ACode := .seq (.seq (.region [zL 29 5 2, W1 30 (.call 76 [(.t 29)]), zV 31 1, W1 32 (.call 221 [(.t 30), (.t 31)]), W1 33 (.len false (.t 32)), W1 34 (.bin .eql (.t 33) (zI 0))]) k178_1) k178_2
def k178_4 : ACode := .seq (.seq (.region [zL 5 5 2, W1 6 (.call 15 [(.t 5)]), zN 7 6, zV 8 7, zU 9 1 8 false, W2 10 8 false (.bin .lss (.t 9) (zI 0)), W1 11 (.pick (.t 8) (.c (.bool true)) (.t 10)), zV 12 11, zU 13 1 12 false, W2 14 12 false (.fld 3 (.t 2)), W2 15 12 false (.ld none (.t 14)), W2 16 12 false (.len false (.t 15)), W2 17 12 false (.bin .geq (.t 13) (.t 16)),
 W1 18 (.pick (.t 12) (.c (.bool true)) (.t 17)), zV 19 18, W2 20 19 false (.fld 3 (.t 2)), W2 21 19 false (.ld none (.t 20)), zU 22 1 19 false, W2 23 19 false (.ixs 5 (.t 21) (.t 22)), W2 24 19 false (.fld 0 (.t 23)), W2 25 19 false (.fld 0 (.t 24)), W2 26 19 false (.ld none (.t 25)), W2 27 19 false (.bin .neq (.t 26) (zI 1)), W1 28 (.pick (.t 19) (.c (.bool true)) (.t 27))]) k178_0) k178_3
def c178 : ACode := .seq (.region [W1 2 (.box (.t 0)), W1 4 (.mv (zI 0))]) k178_4
theorem ok178 : fnOk Tryz.prog 178 c178 47 [.t 4] = true := by kernel_rfl
def w178 := aW k178_0.eq_1 (aW k178_1.eq_1 (aW k178_2.eq_1 (aW k178_3.eq_1 (oW k178_4.eq_1))))
def k183_0 : ACode := .seq (.region [zF 7 0 4, zM 8 7, W1 9 (.bin .eql (.t 8) (zI 2)), zV 10 9, W2 11 10 true (.ld (some 5) (.t 3)), W2 12 10 true (.fld 1 (.t 4)), W2 13 10 true (.ld none (.t 12)), zU 14 2 10 true, W2 15 10 true (.call 225 [(.t 11), (.t 13), (.t 14)]), W1 16 (.pick (.t 10) (.t 15) (.c (.bool false))), zV 6 16]) (.ret)
def c183 : ACode := .seq (.region [W1 3 (.box (.t 0)), W1 4 (.box (.t 1)), W1 6 (.mv (.c (.bool false)))]) k183_0
theorem ok183 : fnOk Tryz.prog 183 c183 17 [.t 6] = true := by kernel_rfl
def k184_0 : ACode := .region [zF 47 3 3, zM 48 47, zV 49 9, zV 50 10, W1 51 (.mxn true [(.t 50), (zI (-1))]), W1 52 (.ixs 5 (.t 48) (.t 49)), zF 53 4 52, zS 1 53 51]
def k184_1 : ACode := .seq (.block 1 ( .seq (.region [zV 44 42, W1 45 (.ixs 1 (.t 40) (.t 42)), zM 46 45, zV 9 44, zV 10 46]) k184_0)) (.region [W1 54 (.bin .add (.t 42) (zI 1)), zV 42 54])
def b184_2 : ACode := .seq (.region [W1 43 (.bin .lss (.t 42) (.t 41))]) (.seq (.cond (.t 43) (.skip) (.exit 0)) k184_1)
def k184_3 : ACode := .region [zF 70 4 3, zM 71 70, zV 72 11, zV 73 2, W1 74 (.bin .add (.t 73) (zI 1)), W1 75 (.ixs 13 (.t 71) (.t 72)), zF 76 5 75, zS 1 76 74]
def k184_4 : ACode := .seq (.region [zF 61 4 3, zM 62 61, zV 63 11, W1 64 (.ixs 13 (.t 62) (.t 63)), zF 65 5 64, zM 66 65, zV 67 1, W1 68 (.bin .add (.t 67) (zI 1)), W1 69 (.bin .eql (.t 66) (.t 68))]) (.cond (.t 69) k184_3 (.skip))
def k184_5 : ACode := .seq (.block 3 ( .seq (.region [zV 60 58, zV 11 60]) k184_4)) (.region [W1 77 (.bin .add (.t 58) (zI 1)), zV 58 77])
def b184_6 : ACode := .seq (.region [W1 59 (.bin .lss (.t 58) (.t 57))]) (.seq (.cond (.t 59) (.skip) (.exit 2)) k184_5)
def k184_7 : ACode := .seq (.seq (.region [zF 55 4 3, zM 56 55, W1 57 (.len false (.t 56)), W1 58 (.mv (zI 0))]) (.block 2 ( .loop b184_6))) (.seq (.region [zL 78 5 3, zS 5 6 78]) (.ret))
def k184_8 : ACode := .seq (.seq (.region [zF 39 0 7, zM 40 39, W1 41 (.len false (.t 40)), W1 42 (.mv (zI 0))]) (.block 0 ( .loop b184_2))) k184_7
def k184_9 : ACode := .seq (.drawn [(0, zF 22 3 3), (1, zM 23 22), (3, zF 25 3 3), (4, zM 26 25), (6, zF 28 3 3), (7, zM 29 28), (8, zV 30 1), (9, W1 31 (.ixs 5 (.t 29) (.t 30))), (10, zF 32 0 31), (11, zL 33 4 32), (2, zV 24 2), (13, W1 35 (.ixs 5 (.t 23) (.t 24))), (14, zF 36 0 35), (15, zS 4 36 33), (5, zV 27 1), (12, W1 34 (.build [.int .i64 0, .int .i64 0, .int .i64 0, .int .i64 0] [])),
 (16, W1 37 (.ixs 5 (.t 26) (.t 27))), (17, zF 38 0 37), (18, zS 4 38 34)] [[], [0], [], [], [3], [], [], [6], [], [7, 8], [9], [10], [], [1, 2, 0, 1, 2, 6, 7, 8, 9, 10, 11], [13, 0, 1, 2, 6, 7, 8, 9, 10, 11], [14, 11, 0, 1, 2, 6, 7, 8, 9, 10, 11], [4, 5, 0, 1, 2, 3, 4, 5, 6, 7, 8, 9, 10, 11, 12, 13, 14, 15], [16, 0, 1, 2, 3, 4, 5, 6, 7, 8, 9, 10, 11, 12, 13, 14, 15], [17, 12, 15, 0, 1, 2, 3, 4, 5, 6, 7, 8, 9, 10, 11, 12, 13, 14, 15]] 0) k184_8
def k184_10 : ACode := .seq (.region [zL 20 5 3, W1 21 (.call 16 [(.t 20)]), zS 5 3 21]) k184_9
def k184_11 : ACode := .seq (.region [zL 13 5 3, W1 14 (.call 76 [(.t 13)]), zV 15 1, zV 16 2, W1 17 (.call 226 [(.t 14), (.t 15), (.t 16)]), zV 12 17, zE 18 12 0, zE 19 12 1, W1 7 (.new [.lit (.slice none 0 0)]), zS 1 7 18, zV 8 19]) k184_10
def c184 : ACode := .seq (.region [W1 3 (.box (.t 0)), W1 6 (.new [.int .i64 0, .int .i64 0, .int .i64 0, .lit (.slice none 0 0), .lit (.slice none 0 0)])]) k184_11
theorem ok184 : fnOk Tryz.prog 184 c184 79 [.c 6 (some 5)] = true := by kernel_rfl
def w184 := aW k184_0.eq_1 (aW k184_1.eq_1 (aW k184_3.eq_1 (aW k184_4.eq_1 (aW k184_5.eq_1 (aW k184_7.eq_1 (aW k184_8.eq_1 (aW k184_9.eq_1 (aW k184_10.eq_1 (oW k184_11.eq_1)))))))))
def k197_0 : ACode := .seq (.region [zL 18 5 2, zS 5 4 18, W1 5 (.mv (zI 0))]) (.ret)
def k197_1 : ACode := .cond (.t 27) (.region [zV 28 6, W1 29 (.bin .add (.t 28) (zI 1)), zV 6 29]) (.skip)
def k197_2 : ACode := .seq (.region [zL 25 5 2, zV 26 8, W1 27 (.call 236 [(.t 25), (.t 26)])]) k197_1
def k197_3 : ACode := .seq (.block 1 ( .seq (.region [W1 23 (.ixs 1 (.t 19) (.t 21)), zM 24 23, zV 8 24]) k197_2)) (.region [W1 30 (.bin .add (.t 21) (zI 1)), zV 21 30])
def b197_4 : ACode := .seq (.region [W1 22 (.bin .lss (.t 21) (.t 20))]) (.seq (.cond (.t 22) (.skip) (.exit 0)) k197_3)
def k197_5 : ACode := .region [zV 47 12, zV 48 47, zU 49 9 48 false, W1 50 (.pick (.t 48) (.c (.bool true)) (.t 49)), zV 9 50]
def k197_6 : ACode := .seq (.region [zV 44 6, zV 45 11, W1 46 (.bin .add (.t 44) (.t 45)), zV 6 46]) k197_5
def k197_7 : ACode := .seq (.region [zL 39 5 2, zV 40 10, W1 41 (.call 237 [(.t 39), (.t 40)]), zV 38 41, zE 42 38 0, zE 43 38 1, zV 11 42, zV 12 43]) k197_6
def k197_8 : ACode := .seq (.block 5 ( .seq (.region [zV 37 35, zV 10 37]) k197_7)) (.region [W1 51 (.bin .add (.t 35) (zI 1)), zV 35 51])
def b197_9 : ACode := .seq (.region [W1 36 (.bin .lss (.t 35) (.t 34))]) (.seq (.cond (.t 36) (.skip) (.exit 4)) k197_8)
def k197_10 : ACode := .seq (.region [zF 32 4 2, zM 33 32, W1 34 (.len false (.t 33)), W1 35 (.mv (zI 0))]) (.block 4 ( .loop b197_9))
def b197_11 : ACode := .seq (.seq (.region [zV 31 9]) (.cond (.t 31) (.skip) (.exit 2))) (.block 3 ( .seq (.region [W1 9 (.mv (.c (.bool false)))]) k197_10))
def k197_12 : ACode := .seq (.region [zL 52 5 2, zV 53 6, zS 5 4 52, zV 5 53]) (.ret)
def k197_13 : ACode := .seq (.seq (.region [W1 9 (.mv (.c (.bool true)))]) (.block 2 ( .loop b197_11))) k197_12
def k197_14 : ACode := .seq (.seq (.region [zV 19 1, W1 20 (.len false (.t 19)), W1 21 (.mv (zI 0))]) (.block 0 ( .loop b197_4))) k197_13
def k197_15 : ACode := .seq (.seq (.region [zL 15 5 2, W1 16 (.call 15 [(.t 15)]), zN 17 16]) (.cond (.t 17) k197_0 (.skip))) (.seq (.region [W1 6 (.mv (zI 0))]) k197_14)
def k197_16 : ACode := .seq (.region [zL 13 5 2, W1 14 (.call 16 [(.t 13)]), zS 5 2 14]) k197_15
def c197 : ACode := .seq (.region [W1 2 (.box (.t 0)), W1 4 (.new [.int .i64 0, .int .i64 0, .int .i64 0, .lit (.slice none 0 0), .lit (.slice none 0 0)]), W1 5 (.mv (zI 0))]) k197_16
theorem ok197 : fnOk Tryz.prog 197 c197 54 [.c 4 (some 5), .t 5] = true := by kernel_rfl
def w197 := aW k197_0.eq_1 (aW k197_1.eq_1 (aW k197_2.eq_1 (aW k197_3.eq_1 (aW k197_5.eq_1 (aW k197_6.eq_1 (aW k197_7.eq_1 (aW k197_8.eq_1 (aW k197_10.eq_1 (aW k197_12.eq_1 (aW k197_13.eq_1 (aW k197_14.eq_1 (aW k197_15.eq_1 (oW k197_16.eq_1)))))))))))))
def k236_0 : ACode := .cond (.t 24) (.seq (.region [W1 4 (.mv (.c (.bool false)))]) (.ret)) (.skip)
def k236_1 : ACode := .drawn [(0, zF 39 3 2), (1, zM 40 39), (3, zF 42 3 2), (4, zM 43 42), (5, zV 44 1), (6, W1 45 (.ixs 5 (.t 43) (.t 44))), (7, zF 46 4 45), (8, zM 47 46), (2, zV 41 5), (9, W1 48 (.ixs 5 (.t 40) (.t 41))), (10, zF 49 4 48), (11, zS 1 49 47)] [[], [0], [], [], [3], [], [4, 5], [6], [7], [1, 2, 0, 1, 2, 3, 4, 5, 6, 7, 8], [9, 0, 1, 2, 3, 4, 5, 6, 7, 8], [10, 8, 0, 1, 2, 3, 4, 5, 6, 7, 8]] 0
def k236_2 : ACode := .seq (.region [zF 31 3 2, zM 32 31, zV 33 5, W1 34 (.ixs 5 (.t 32) (.t 33)), zF 35 4 34, zM 36 35, zV 37 1, W1 38 (.bin .eql (.t 36) (.t 37))]) (.cond (.t 38) k236_1 (.skip))
def k236_3 : ACode := .seq (.block 1 ( .seq (.region [zV 30 28, zV 5 30]) k236_2)) (.region [W1 50 (.bin .add (.t 28) (zI 1)), zV 28 50])
def b236_4 : ACode := .seq (.region [W1 29 (.bin .lss (.t 28) (.t 27))]) (.seq (.cond (.t 29) (.skip) (.exit 0)) k236_3)
def k236_5 : ACode := .region [zF 71 4 2, zM 72 71, zV 73 6, W1 74 (.ixs 13 (.t 72) (.t 73)), zF 75 5 74, ⟨none, .st 1 (.t 75) (zI 0), none⟩]
def k236_6 : ACode := .seq (.region [zF 62 4 2, zM 63 62, zV 64 6, W1 65 (.ixs 13 (.t 63) (.t 64)), zF 66 5 65, zM 67 66, zV 68 1, W1 69 (.bin .add (.t 68) (zI 1)), W1 70 (.bin .eql (.t 67) (.t 69))]) (.cond (.t 70) k236_5 (.skip))
def k236_7 : ACode := .seq (.block 3 ( .seq (.region [zV 61 59, zV 6 61]) k236_6)) (.region [W1 76 (.bin .add (.t 59) (zI 1)), zV 59 76])
def b236_8 : ACode := .seq (.region [W1 60 (.bin .lss (.t 59) (.t 58))]) (.seq (.cond (.t 60) (.skip) (.exit 2)) k236_7)
def k236_9 : ACode := .seq (.seq (.region [zF 56 4 2, zM 57 56, W1 58 (.len false (.t 57)), W1 59 (.mv (zI 0))]) (.block 2 ( .loop b236_8))) (.seq (.region [W1 4 (.mv (.c (.bool true)))]) (.ret))
def k236_10 : ACode := .seq (.region [zF 51 3 2, zM 52 51, zV 53 1, W1 54 (.build [.int .i64 0, .int .i64 0, .int .i64 0, .int .i64 0, .int .i64 0] [(4, 1, (zI (-1)))]), W1 55 (.ixs 5 (.t 52) (.t 53)), zS 5 55 54]) k236_9
def k236_11 : ACode := .seq (.seq (.region [zF 25 3 2, zM 26 25, W1 27 (.len false (.t 26)), W1 28 (.mv (zI 0))]) (.block 0 ( .loop b236_4))) k236_10
def k236_12 : ACode := .seq (.seq (.region [zV 7 1, W1 8 (.bin .lss (.t 7) (zI 0)), zV 9 8, zU 10 1 9 false, W2 11 9 false (.fld 3 (.t 2)), W2 12 9 false (.ld none (.t 11)), W2 13 9 false (.len false (.t 12)), W2 14 9 false (.bin .geq (.t 10) (.t 13)), W1 15 (.pick (.t 9) (.c (.bool true)) (.t 14)), zV 16 15, W2 17 16 false (.fld 3 (.t 2)), W2 18 16 false (.ld none (.t 17)), zU 19 1 16 false,
 W2 20 16 false (.ixs 5 (.t 18) (.t 19)), W2 21 16 false (.fld 0 (.t 20)), W2 22 16 false (.ld (some 4) (.t 21)), W2 23 16 false (.call 59 [(.t 22)]), W1 24 (.pick (.t 16) (.c (.bool true)) (.t 23))]) k236_0) k236_11
def c236 : ACode := .seq (.region [W1 2 (.box (.t 0)), W1 4 (.mv (.c (.bool false)))]) k236_12
theorem ok236 : fnOk Tryz.prog 236 c236 77 [.t 4] = true := by kernel_rfl
def w236 := aW k236_0.eq_1 (aW k236_1.eq_1 (aW k236_2.eq_1 (aW k236_3.eq_1 (aW k236_5.eq_1 (aW k236_6.eq_1 (aW k236_7.eq_1 (aW k236_9.eq_1 (aW k236_10.eq_1 (aW k236_11.eq_1 (oW k236_12.eq_1))))))))))
def k237_0 : ACode := .cond (.t 35) (.seq (.region [W1 4 (.mv (zI 0)), W1 5 (.mv (.c (.bool false)))]) (.ret)) (.skip)
def k237_1 : ACode := .cond (.t 52) (.region [zV 53 8, W1 54 (.bin .add (.t 53) (zI 1)), zV 8 54]) (.skip)
def k237_2 : ACode := .seq (.region [zF 42 0 6, zM 43 42, W1 44 (.bin .eql (.t 43) (zI 2)), zV 45 44, W2 46 45 true (.ld (some 5) (.t 2)), W2 47 45 true (.fld 2 (.t 6)), W2 48 45 true (.ld none (.t 47)), zU 49 9 45 true, W2 50 45 true (.bin .add (.t 48) (.t 49)), W2 51 45 true (.call 236 [(.t 46), (.t 50)]), W1 52 (.pick (.t 45) (.t 51) (.c (.bool false)))]) k237_1
def k237_3 : ACode := .seq (.block 1 ( .seq (.region [zV 41 39, zV 9 41]) k237_2)) (.region [W1 55 (.bin .add (.t 39) (zI 1)), zV 39 55])
def b237_4 : ACode := .seq (.region [W1 40 (.bin .lss (.t 39) (.t 38))]) (.seq (.cond (.t 40) (.skip) (.exit 0)) k237_3)
def k237_5 : ACode := .seq (.region [zV 61 8, zV 4 61, W1 5 (.mv (.c (.bool true)))]) (.ret)
def k237_6 : ACode := .seq (.region [zF 56 4 2, zM 57 56, zV 58 1, W1 59 (.build [.int .i64 0, .int .i64 0, .int .i64 0, .int .i64 0, .int .i64 0, .int .i64 0, .int .i64 0, .bool false, .int .u64 0, .int .u64 0, .int .u64 0, .int .u64 0, .int .u64 0] []), W1 60 (.ixs 13 (.t 57) (.t 58)), zS 13 60 59]) k237_5
def k237_7 : ACode := .seq (.seq (.region [zF 36 1 6, zM 37 36, W1 38 (.bin .shl (zI 1) (.t 37)), W1 39 (.mv (zI 0))]) (.block 0 ( .loop b237_4))) k237_6
def k237_8 : ACode := .seq (.seq (.region [zF 25 0 6, zM 26 25, W1 27 (.bin .eql (.t 26) (zI 0)), zV 28 27, zU 29 7 28 false, W1 30 (.pick (.t 28) (.c (.bool true)) (.t 29)), zV 31 30, W2 32 31 false (.ld (some 5) (.t 2)), zU 33 1 31 false, W2 34 31 false (.call 262 [(.t 32), (.t 33)]), W1 35 (.pick (.t 31) (.c (.bool true)) (.t 34))]) k237_0) (.seq (.region [W1 8 (.mv (zI 0))]) k237_7)
def k237_9 : ACode := .seq (.region [zV 15 1, W1 16 (.bin .geq (.t 15) (zI 2)), zV 17 16, zU 18 1 17 true, W2 19 17 true (.fld 0 (.t 2)), W2 20 17 true (.fld 0 (.t 19)), W2 21 17 true (.ld none (.t 20)), W2 22 17 true (.bin .add (zI 2) (.t 21)), W2 23 17 true (.bin .lss (.t 18) (.t 22)), W1 24 (.pick (.t 17) (.t 23) (.c (.bool false))), zV 7 24]) k237_8
def k237_10 : ACode := .seq (.region [zF 10 4 2, zM 11 10, zV 12 1, W1 13 (.ixs 13 (.t 11) (.t 12)), zL 14 13 13, W1 6 (.new [.int .i64 0, .int .i64 0, .int .i64 0, .int .i64 0, .int .i64 0, .int .i64 0, .int .i64 0, .bool false, .int .u64 0, .int .u64 0, .int .u64 0, .int .u64 0, .int .u64 0]), zS 13 6 14]) k237_9
def c237 : ACode := .seq (.region [W1 2 (.box (.t 0)), W1 4 (.mv (zI 0)), W1 5 (.mv (.c (.bool false)))]) k237_10
theorem ok237 : fnOk Tryz.prog 237 c237 62 [.t 4, .t 5] = true := by kernel_rfl
def w237 := aW k237_0.eq_1 (aW k237_1.eq_1 (aW k237_2.eq_1 (aW k237_3.eq_1 (aW k237_5.eq_1 (aW k237_6.eq_1 (aW k237_7.eq_1 (aW k237_8.eq_1 (aW k237_9.eq_1 (oW k237_10.eq_1)))))))))
def k262_0 : ACode := .seq (.region [zF 5 3 2, zM 6 5, W1 7 (.mkf 272 [(.t 3)]), W1 8 (.call 271 [(.t 6), (.t 7)]), zV 4 8]) (.ret)
def c262 : ACode := .seq (.region [W1 2 (.box (.t 0)), W1 3 (.box (.t 1)), W1 4 (.mv (.c (.bool false)))]) k262_0
theorem ok262 : fnOk Tryz.prog 262 c262 9 [.t 4] = true := by kernel_rfl
def k272_0 : ACode := .seq (.region [zF 4 0 2, zL 5 4 4, W1 6 (.call 59 [(.t 5)]), zN 7 6, zV 8 7, W2 9 8 true (.fld 0 (.t 2)), W2 10 8 true (.fld 1 (.t 9)), W2 11 8 true (.ld none (.t 10)), W2 12 8 true (.ld none (.t 1)), W2 13 8 true (.bin .eql (.t 11) (.t 12)), W1 14 (.pick (.t 8) (.t 13) (.c (.bool false))), zV 3 14]) (.ret)
def c272 : ACode := .seq (.region [W1 2 (.box (.t 0)), W1 3 (.mv (.c (.bool false)))]) k272_0
theorem ok272 : fnOk Tryz.prog 272 c272 15 [.t 3] = true := by kernel_rfl
end Go.Proofs.YtlaipllgmddkiaaGreat.Ax
namespace Go.Proofs.YtlaipllgmddkiaaGreat.Ax
open Go Go.Ax
def k9_0 : ACode := .cond (.t 12) (.seq (.region [W1 2 (.mv (.c (.bool false)))]) (.ret)) (.skip)
def k9_1 : ACode := .cond (.t 15) (.seq (.region [W1 2 (.mv (.c (.bool true)))]) (.ret)) (.skip)
def k9_2 : ACode := .cond (.t 53) (.seq (.region [W1 2 (.mv (.c (.bool false)))]) (.ret)) (.skip)
def k9_3 : ACode := .seq (.seq (.region [zL 50 5 5, zL 51 5 3, W1 52 (.call 23 [(.t 50), (.t 51)]), zN 53 52]) k9_2) (.exit 1)
def k9_4 : ACode := .cond (.t 55) (.seq (.region [W1 2 (.mv (.c (.bool false)))]) (.ret)) (.skip)
def k9_5 : ACode := .cond (.t 100) (.seq (.region [W1 2 (.mv (.c (.bool false)))]) (.ret)) (.skip)
def k9_6 : ACode := .seq (.block 3 ( .seq (.drawn [(0, zF 88 3 5), (1, zM 89 88), (2, zV 90 10), (3, W1 91 (.ixs 5 (.t 89) (.t 90))), (4, zF 92 0 91), (5, zL 93 4 92), (6, zF 94 3 3), (7, zM 95 94), (8, zV 96 10), (9, W1 97 (.ixs 5 (.t 95) (.t 96))), (10, zF 98 0 97), (11, zL 99 4 98), (12, W1 100 (.eqs true [0, 0, 0, 0] (.t 93) (.t 99)))] [[], [0], [], [1, 2], [3], [4], [], [6], [], [7, 8], [9], [10], [5, 11]] 0) k9_5)) (.region [zV 86 10,
 W1 87 (.bin .add (.t 86) (zI 1)), zV 10 87])
def b9_7 : ACode := .seq (.seq (.region [zV 65 10, zV 66 9, W1 67 (.bin .add (.t 66) (zI 8)), W1 68 (.bin .lss (.t 65) (.t 67)), zV 69 68, zU 70 10 69 true, W2 71 69 true (.fld 3 (.t 5)), W2 72 69 true (.ld none (.t 71)), W2 73 69 true (.len false (.t 72)), W2 74 69 true (.bin .lss (.t 70) (.t 73)), W1 75 (.pick (.t 69) (.t 74) (.c (.bool false))), zV 76 75, W2 77 76 true (.fld 0 (.t 7)),
 W2 78 76 true (.ld none (.t 77)), W2 79 76 true (.bin .neq (.t 78) (zI 5)), W1 80 (.pick (.t 76) (.t 79) (.c (.bool false))), zV 81 80, W2 82 81 true (.fld 0 (.t 7)), W2 83 81 true (.ld none (.t 82)), W2 84 81 true (.bin .neq (.t 83) (zI 6)), W1 85 (.pick (.t 81) (.t 84) (.c (.bool false)))]) (.cond (.t 85) (.skip) (.exit 2))) k9_6
def k9_8 : ACode := .seq (.seq (.region [zV 64 9, zV 10 64]) (.block 2 ( .loop b9_7))) (.region [zL 101 5 5, zS 5 3 101])
def k9_9 : ACode := .seq (.region [zV 56 0, zV 57 4, W1 58 (.ixs 5 (.t 56) (.t 57)), zF 59 0 58, zM 60 59, W1 61 (.bin .and (.t 60) (zI 1)), W1 62 (.bin .sub (zI 1) (.t 61)), W1 63 (.bin .mul (zI 8) (.t 62)), zV 9 63]) k9_8
def k9_10 : ACode := .seq (.seq (.region [zV 54 8, zN 55 54]) k9_4) k9_9
def k9_11 : ACode := .seq (.seq (.region [zF 47 0 6, zM 48 47, W1 49 (.bin .neq (.t 48) (zI 0))]) (.cond (.t 49) k9_3 (.skip))) k9_10
def k9_12 : ACode := .seq (.region [zV 39 0, zV 40 4, W1 41 (.ixs 5 (.t 39) (.t 40)), zF 42 1 41, W1 43 (.sla 4 (.t 42) none none), W1 44 (.call 55 [(.t 43)]), zV 38 44, zE 45 38 0, zE 46 38 1, W1 7 (.new [.int .i64 0, .lit (.slice none 0 0), .lit (.slice none 0 0), .int .i64 0, .int .i64 0, .int .u64 0]), zS 6 7 45, zV 8 46]) k9_11
def k9_13 : ACode := .seq (.block 1 ( .seq (.drawn [(0, zL 24 5 3), (1, zV 25 0), (2, zV 26 4), (3, W1 27 (.ixs 5 (.t 25) (.t 26))), (4, zF 28 0 27), (5, zM 29 28), (6, zV 30 0), (7, zV 31 4), (8, W1 32 (.ixs 5 (.t 30) (.t 31))), (9, zF 33 1 32), (10, W1 34 (.sla 4 (.t 33) none none)), (11, W1 35 (.call 52 [(.t 24), (.t 29), (.t 34)])), (12, zV 23 35), (13, zE 36 23 0),
 (15, W1 5 (.born 0 (.new [.int .i64 0, .int .i64 0, .int .i64 0, .lit (.slice none 0 0), .lit (.slice none 0 0)]))), (16, W1 6 (.born 1 (.new [.int .i64 0, .int .u64 0, .int .i64 0]))), (17, zS 5 5 36), (14, zE 37 23 1), (18, zS 3 6 37)] [[], [], [], [1, 2], [3], [4], [], [], [6, 7], [8], [9], [0, 5, 10], [11], [12], [12], [], [], [15, 13, 11, 0, 1, 2, 3, 4, 5, 6, 7, 8, 9, 10, 11, 12, 13, 15, 16], [16, 14, 17, 0, 1, 2, 3, 4, 5, 6, 7, 8, 9, 10, 11, 12, 13, 14, 15, 16, 17]] 2) k9_12)) (.region [zV 21 4,
 W1 22 (.bin .add (.t 21) (zI 1)), zV 4 22])
def b9_14 : ACode := .seq (.seq (.region [zV 17 4, zV 18 0, W1 19 (.len false (.t 18)), W1 20 (.bin .lss (.t 17) (.t 19))]) (.cond (.t 20) (.skip) (.exit 0))) k9_13
def k9_15 : ACode := .seq (.seq (.region [W1 4 (.mv (zI 0))]) (.block 0 ( .loop b9_14))) (.seq (.region [W1 2 (.mv (.c (.bool true)))]) (.ret))
def k9_16 : ACode := .seq (.region [W1 16 (.call 54 []), W1 3 (.new [.int .i64 0, .int .i64 0, .int .i64 0, .lit (.slice none 0 0), .lit (.slice none 0 0)]), zS 5 3 16]) k9_15
def k9_17 : ACode := .seq (.seq (.region [zV 13 0, W1 14 (.len false (.t 13)), W1 15 (.bin .gtr (.t 14) (zI 30))]) k9_1) k9_16
def k9_18 : ACode := .seq (.seq (.region [W1 11 (.call 48 []), zN 12 11]) k9_0) k9_17
def c9 : ACode := .seq (.region [W1 2 (.mv (.c (.bool false)))]) k9_18
theorem ok9 : fnOk Tryz.prog 9 c9 102 [.t 2] = true := by kernel_rfl
def w9 := aW k9_0.eq_1 (aW k9_1.eq_1 (aW k9_2.eq_1 (aW k9_3.eq_1 (aW k9_4.eq_1 (aW k9_5.eq_1 (aW k9_6.eq_1 (aW k9_8.eq_1 (aW k9_9.eq_1 (aW k9_10.eq_1 (aW k9_11.eq_1 (aW k9_12.eq_1 (aW k9_13.eq_1 (aW k9_15.eq_1 (aW k9_16.eq_1 (aW k9_17.eq_1 (oW k9_18.eq_1))))))))))))))))
def k48_0 : ACode := .seq (.drawn [(0, zL 19 3 2), (1, W1 20 (.build [.int .i64 0, .int .u64 0, .int .i64 0] [(0, 1, (zI 2))])), (2, W1 21 (.eqs false [0, 0, 0] (.t 19) (.t 20))), (3, zV 22 21), (4, W2 23 22 true (.ld (some 5) (.t 1))), (5, W2 24 22 true (.call 54 [])), (6, W2 25 22 true (.call 23 [(.t 23), (.t 24)])), (7, W1 26 (.pick (.t 22) (.t 25) (.c (.bool false)))), (8, zV 27 26), (9, W2 28 27 true (.fld 0 (.t 4))), (10, W2 29 27 true (.ld none (.t 28))),
 (11, W2 30 27 true (.bin .eql (.t 29) (zI 0))), (12, W1 31 (.pick (.t 27) (.t 30) (.c (.bool false)))), (13, zV 32 31), (14, W2 33 32 true (.ld (some 5) (.t 3))), (15, W2 34 32 true (.call 54 [])), (16, W2 35 32 true (.call 23 [(.t 33), (.t 34)])), (17, W1 36 (.pick (.t 32) (.t 35) (.c (.bool false)))), (18, zV 37 36), (19, W2 38 37 true (.call 58 [(zI 13)])), (20, W1 39 (.pick (.t 37) (.t 38) (.c (.bool false)))), (21, zV 40 39),
 (22, W2 41 40 true (.call 58 [(zI 11)])), (23, W2 42 40 true (.un .not (.t 41))), (24, W1 43 (.pick (.t 40) (.t 42) (.c (.bool false)))), (25, zV 0 43)] [[], [], [0, 1], [2], [3], [3, 3], [4, 5, 5, 3], [3, 6], [7, 6], [8], [9, 8], [10, 8], [8, 11], [12, 8], [13], [13, 13], [14, 15, 15, 13], [13, 16], [17, 16], [18, 18], [18, 19], [20, 19], [21, 21], [22, 21], [21, 23], [24, 22, 0, 1, 2, 3, 4, 5, 6, 7, 8, 9, 10, 11, 12, 13, 14, 15, 16, 17, 18, 19, 20, 21, 22, 23, 24]] 0) (.ret)
def k48_1 : ACode := .seq (.region [W1 12 (.call 54 []), W1 13 (.bsl 1 1 [.int .i64 0] [(0, (zI 0))]), W1 14 (.call 56 [(.t 13)]), W1 15 (.build [.int .i64 0, .lit (.slice none 0 0), .lit (.slice none 0 0), .int .i64 0, .int .i64 0, .int .u64 0] [(0, 1, (zI 13)), (1, 1, (.t 14))]), W1 16 (.call 51 [(.t 12), (zI 0), (.t 15)]), zV 11 16, zE 17 11 0, zE 18 11 1, W1 3 (.new [.int .i64 0, .int .i64 0, .int .i64 0, .lit (.slice none 0 0), .lit (.slice none 0 0)]), W1 4 (.new [.int .i64 0, .int .u64 0, .int .i64 0]),
 zS 5 3 17, zS 3 4 18]) k48_0
def k48_2 : ACode := .seq (.region [W1 6 (.call 54 []), W1 7 (.bsl 1 2 [.int .u64 0] [(0, (.c (.int .u64 0))), (1, (.c (.int .u64 0)))]), W1 8 (.call 52 [(.t 6), (zI 0), (.t 7)]), zV 5 8, zE 9 5 0, zE 10 5 1, W1 1 (.new [.int .i64 0, .int .i64 0, .int .i64 0, .lit (.slice none 0 0), .lit (.slice none 0 0)]), W1 2 (.new [.int .i64 0, .int .u64 0, .int .i64 0]), zS 5 1 9, zS 3 2 10]) k48_1
def c48 : ACode := .seq (.region [W1 0 (.mv (.c (.bool false)))]) k48_2
theorem ok48 : fnOk Tryz.prog 48 c48 44 [.t 0] = true := by kernel_rfl
def w48 := aW k48_0.eq_1 (aW k48_1.eq_1 (oW k48_2.eq_1))
def k54_0 : ACode := .seq (.region [W1 4 (.call 124 []), W1 5 (.call 60 [(.t 4), (zI 64)]), zV 3 5, zE 6 3 0, zE 7 3 1, W1 1 (.new [.int .i64 0, .int .i64 0, .int .i64 0, .lit (.slice none 0 0), .lit (.slice none 0 0)]), zS 5 1 6, zV 2 7]) (.seq (.region [zL 8 5 1, zS 5 0 8]) (.ret))
def c54 : ACode := .seq (.region [W1 0 (.new [.int .i64 0, .int .i64 0, .int .i64 0, .lit (.slice none 0 0), .lit (.slice none 0 0)])]) k54_0
theorem ok54 : fnOk Tryz.prog 54 c54 9 [.c 0 (some 5)] = true := by kernel_rfl
def k56_0 : ACode := .seq (.region [zV 3 0, W1 4 (.build [.lit (.slice none 0 0)] [(0, 1, (.t 3))]), zS 1 2 4]) (.ret)
def c56 : ACode := .seq (.region [W1 2 (.new [.lit (.slice none 0 0)])]) k56_0
theorem ok56 : fnOk Tryz.prog 56 c56 5 [.c 2 (some 1)] = true := by kernel_rfl
end Go.Proofs.YtlaipllgmddkiaaGreat.Ax
